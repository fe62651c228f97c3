/-
  Packed out of the texts: CLaw, C10, Law, Open, OpenBytes, COpen, C11.
-/
import Derived.Test.YtpgffckfbgfgcaaV012
import Derived.DataShut
import Derived.Test.YtpgffckfbgfgcaaRows
import Derived.OpenShut
import Derived.SizedLaws
import Derived.Deep.Slices
/-
  Changes, in plain Lean: what is written reads back; the program's Parse answers as the document's.
-/
set_option maxRecDepth 100000
set_option linter.unusedSimpArgs false
set_option linter.unusedVariables false
namespace Go.Proofs.Ytpgffckfbgfgcaa.A
open Go.RowKit

/-! ### What is written reads back -/
structure Prf.Lits (p : Prf) : Prop where
  seq : InR .i64 p.seq
  view : InR .i64 p.view
  all : ∀ e ∈ p.batch, e.Lits
structure Chg.Lits (c : Chg) : Prop where
  view : InR .i64 c.view
  low : InR .i64 c.low
  pts : ∀ p ∈ c.points, InR .i64 p.seq
  prep : ∀ p ∈ c.prepared, p.Lits
  prop : ∀ p ∈ c.proposed, p.Lits
theorem at_count {s : Rd} {r : List UInt8} {k : Nat} {most : Int} (h : s.At (beBytes k 2 ++ r)) (hk : k < 65536) (hm : (k : Int) ≤ most) : (s.count most).At r ∧ s.countN most = k := by
  obtain ⟨h1, h2⟩ := at_num h (by omega) (n := 2) rfl
  have h3 : ¬ ((s.fixed 2).e = 0 ∧ most < s.num 2) := by rw [h2]; omega
  unfold Rd.count Rd.countN
  rw [if_neg h3, if_neg h3]
  exact ⟨h1, h2⟩
theorem u64_lt8 (a : Int) : u64 a < 256 ^ 8 := by
  have := u64_lt a
  omega
theorem Pnt.mk_self (p : Pnt) : Pnt.mk' p.seq p.dig = p := by
  obtain ⟨a, d, h⟩ := p
  simp only [Pnt.mk', Pnt.mk.injEq, true_and]
  exact pad_all h
theorem pnts_back {r : List UInt8} : ∀ (ps : List Pnt) (s : Rd) (acc : List Pnt), (∀ p ∈ ps, InR .i64 p.seq) → s.At (ps.flatMap Pnt.bytes ++ r) → ∃ t : Rd, t.At r ∧ Rd.pnts ps.length s acc = (acc ++ ps, t)
  | [], s, acc, _, h => ⟨s, h, by simp [Rd.pnts]⟩
  | p :: ps, s, acc, hall, h => by
    have e1 : (p :: ps).flatMap Pnt.bytes ++ r = beBytes (u64 p.seq) 8 ++ (p.dig ++ (ps.flatMap Pnt.bytes ++ r)) := by simp [Pnt.bytes, long8]
    rw [e1] at h
    obtain ⟨a1, b1⟩ := at_num h (u64_lt8 _) (n := 8) rfl
    obtain ⟨a2, b2⟩ := at_fixed a1 (n := 32) (by rw [p.len]; rfl)
    obtain ⟨t, ht, hr⟩ := pnts_back ps ((s.fixed 8).fixed 32) (acc ++ [p]) (fun x hx => hall x (List.mem_cons_of_mem _ hx)) a2
    refine ⟨t, ht, ?_⟩
    rw [List.length_cons]
    unfold Rd.pnts
    rw [b1, b2, sg_u64 (hall p List.mem_cons_self), Pnt.mk_self, hr]
    simp
theorem prfs_back {n room : Int} {r : List UInt8} : ∀ (ps : List Prf) (s : Rd) (acc : List Prf), (∀ p ∈ ps, p.Lits ∧ chkB p.batch n = 0 ∧ ((batchB p.batch).length : Int) ≤ room ∧ (batchB p.batch).length < 4294967296) → s.At (ps.flatMap Prf.bytes ++ r) →
    ∃ t : Rd, t.At r ∧ Rd.prfs n room ps.length s acc false = (acc ++ ps, false, t)
  | [], s, acc, _, h => ⟨s, h, by simp [Rd.prfs]⟩
  | p :: ps, s, acc, hall, h => by
    obtain ⟨g1, g2, g3, g4⟩ := hall p List.mem_cons_self
    have e1 : (p :: ps).flatMap Prf.bytes ++ r = beBytes (u64 p.seq) 8 ++ (beBytes (u64 p.view) 8 ++ (rowB (batchB p.batch) ++ (ps.flatMap Prf.bytes ++ r))) := by simp [Prf.bytes, long8]
    rw [e1] at h
    obtain ⟨a1, b1⟩ := at_num h (u64_lt8 _) (n := 8) rfl
    obtain ⟨a2, b2⟩ := at_num a1 (u64_lt8 _) (n := 8) rfl
    obtain ⟨a3, b3⟩ := at_row (most := room) a2 g3 g4
    obtain ⟨t, ht, hr⟩ := prfs_back ps ((Rd.pr2 s).row room) (acc ++ [p]) (fun x hx => hall x (List.mem_cons_of_mem _ hx)) a3
    refine ⟨t, ht, ?_⟩
    have b3' : Rd.prOut s room = batchB p.batch := b3
    have b2' : (Rd.pr1 s).num 8 = u64 p.view := b2
    rw [List.length_cons]
    unfold Rd.prfs
    rw [b1, b2', b3', parse_back g1.all g2, sg_u64 g1.seq, sg_u64 g1.view]
    have e2 : (⟨p.seq, p.view, p.batch⟩ : Prf) = p := rfl
    simp only [e2]
    rw [show (false || decide ((0 : Int) ≠ 0)) = false from rfl, hr]
    simp
theorem flat_le {α : Type} {f : α → List UInt8} {xs : List α} {x : α} (h : x ∈ xs) : (f x).length ≤ (xs.flatMap f).length := by
  obtain ⟨s1, s2, rfl⟩ := List.append_of_mem h
  simp only [List.flatMap_append, List.flatMap_cons, List.length_append]
  omega
theorem Prf.batch_le (p : Prf) : (batchB p.batch).length ≤ p.bytes.length := by
  unfold Prf.bytes rowB
  simp only [List.length_append]
  omega
theorem check_zero {c : Chg} {n : Int} (h : c.check n = 0) : ¬ (n < 1 ∨ 7 < n) ∧ c.Right n := by
  unfold Chg.check at h
  split at h
  · exact absurd h (by decide)
  · rename_i h1
    refine ⟨h1, ?_⟩
    cases h2 : yes (c.Right n) with
    | true => exact yes_iff.1 h2
    | false => rw [h2] at h; exact absurd h (by decide)
theorem check_right {c : Chg} {n : Int} (hn : ¬ (n < 1 ∨ 7 < n)) : c.check n = 0 ↔ c.Right n := by
  constructor
  · intro h; exact (check_zero h).2
  · intro h
    unfold Chg.check
    rw [if_neg hn, yes_iff.2 h]
    rfl
/-- What may be a change reads back. -/
theorem chg_back {c : Chg} {n : Int} (hs : c.Lits) (h : c.check n = 0) (hl : c.bytes.length < 4294967296) : parseC c.bytes n = (c, 0) := by
  obtain ⟨hn, hr⟩ := check_zero h
  obtain ⟨r1, r2, r3, ⟨r4, r5, r6, r7, r8⟩, ⟨r9, r10, r11⟩, ⟨r12, r13, r14⟩⟩ := hr
  have e0 : c.bytes = beBytes (u64 c.view) 8 ++ (beBytes (u64 c.low) 8 ++ (beBytes c.points.length 2 ++ (c.points.flatMap Pnt.bytes ++ (beBytes c.prepared.length 2 ++ (c.prepared.flatMap Prf.bytes ++ (beBytes c.proposed.length 2 ++ (c.proposed.flatMap Prf.bytes ++ []))))))) := by
    unfold Chg.bytes Chg.head prfsB
    rw [List.take_length]
    simp [long8]
  have hall : ∀ ps : List Prf, (∀ p ∈ ps, p.Lits) → (∀ p ∈ ps, p.fits c.low c.view n) → (ps.flatMap Prf.bytes).length ≤ c.bytes.length → ∀ p ∈ ps, p.Lits ∧ chkB p.batch n = 0 ∧ ((batchB p.batch).length : Int) ≤ (c.bytes.length : Nat) ∧ (batchB p.batch).length < 4294967296 := fun ps h1 h2 h3 p hp => by
    have h4 := p.batch_le
    have h5 := flat_le (f := Prf.bytes) hp
    exact ⟨h1 p hp, (h2 p hp).2.2.2.2, by omega, by omega⟩
  have hat : (Rd.of c.bytes).At (beBytes (u64 c.view) 8 ++ _) := ⟨rfl, e0⟩
  have hlen := congrArg List.length e0
  simp only [List.length_append] at hlen
  obtain ⟨a1, b1⟩ := at_num hat (u64_lt8 _) (n := 8) rfl
  obtain ⟨a2, b2⟩ := at_num a1 (u64_lt8 _) (n := 8) rfl
  have a2' : (Rd.chgHead c.bytes).At _ := a2
  obtain ⟨a3, b3⟩ := at_count (most := 4) a2' (by omega) (by omega)
  obtain ⟨t1, a4, b4⟩ := pnts_back c.points _ [] hs.pts a3
  have hp1 : Rd.chgPts c.bytes = (c.points, t1) := by unfold Rd.chgPts; rw [b3, b4]; rfl
  obtain ⟨a5, b5⟩ := at_count (most := 8) a4 (by omega) (by omega)
  obtain ⟨t2, a6, b6⟩ := prfs_back (n := n) (room := (c.bytes.length : Nat)) c.prepared _ [] (hall _ hs.prep r11 (by omega)) a5
  have hp2 : Rd.chgPre c.bytes n = (c.prepared, false, t2) := by unfold Rd.chgPre; rw [hp1]; dsimp only; rw [b5, b6]; rfl
  obtain ⟨a7, b7⟩ := at_count (most := 64) a6 (by omega) (by omega)
  obtain ⟨t3, a8, b8⟩ := prfs_back (n := n) (room := (c.bytes.length : Nat)) c.proposed _ [] (hall _ hs.prop r14 (by omega)) a7
  have hp3 : Rd.chgPro c.bytes n = (c.proposed, false, t3) := by unfold Rd.chgPro; rw [hp2]; dsimp only; rw [b7, b8]; rfl
  have hend : t3.end_ = 0 := by
    unfold Rd.end_
    rw [a8.1, a8.2]
    simp
  have hc : Rd.chg c.bytes n = c := by
    unfold Rd.chg
    rw [hp1, hp2, hp3, b1, b2, sg_u64 hs.view, sg_u64 hs.low]
  unfold parseC
  rw [if_neg hn, hc, hp2, hp3, if_neg (by
    intro h9
    rcases h9 with h9 | h9 | h9 | h9
    · exact h9 hend
    · cases h9
    · cases h9
    · exact h9 h)]

/-! ### Both Parses -/
theorem Rd.count_bad {s : Rd} (h : s.e ≠ 0) (m : Int) : (s.count m).e ≠ 0 := by
  unfold Rd.count
  rw [Rd.fixed_bad h, if_neg (fun h2 => h h2.1)]
  exact h
theorem pnts_bad : ∀ (k : Nat) {s : Rd} (acc : List Pnt), s.e ≠ 0 → (Rd.pnts k s acc).2.e ≠ 0
  | 0, _, _, h => h
  | k + 1, s, acc, h => by
    unfold Rd.pnts
    refine pnts_bad k _ ?_
    rw [Rd.fixed_bad h, Rd.fixed_bad h]
    exact h
theorem pnts_two : ∀ (k : Nat) (s : Rd) (acc : List Pnt), ((Rd.pnts k s acc).2.e ≠ 0 ∧ (Rd.rpnts k s acc).2.e ≠ 0) ∨ Rd.pnts k s acc = Rd.rpnts k s acc
  | 0, _, _ => .inr rfl
  | k + 1, s, acc => by
    by_cases h : s.e ≠ 0
    · refine .inl ⟨pnts_bad _ _ h, ?_⟩
      rw [rpnts_stop h]
      exact h
    · unfold Rd.pnts Rd.rpnts
      rw [if_neg h]
      exact pnts_two k _ _
theorem prfs_bad {n room : Int} : ∀ (k : Nat) {s : Rd} (acc : List Prf) (o : Bool), s.e ≠ 0 → (Rd.prfs n room k s acc o).2.2.e ≠ 0
  | 0, _, _, _, h => h
  | k + 1, s, acc, o, h => by
    unfold Rd.prfs
    refine prfs_bad k _ _ ?_
    unfold Rd.pr2
    rw [Rd.fixed_bad h, Rd.fixed_bad h, Rd.row_bad h]
    exact h
theorem prfs_odd {n room : Int} : ∀ (k : Nat) (s : Rd) (acc : List Prf), (Rd.prfs n room k s acc true).2.1 = true
  | 0, _, _ => rfl
  | k + 1, s, acc => by
    unfold Rd.prfs
    rw [Bool.true_or]
    exact prfs_odd k _ _
theorem rprfs_odd : ∀ (k : Nat) (s : Rd) (acc : List Prf), (Rd.rprfs k s acc false).2.1 = false
  | 0, _, _ => rfl
  | k + 1, s, acc => by
    unfold Rd.rprfs
    split
    · rfl
    · rw [Bool.false_and, Bool.false_and]
      exact rprfs_odd k _ _
theorem rprfs_mem {p : Prf} : ∀ (k : Nat) (s : Rd) (acc : List Prf) (o : Bool), p ∈ acc → p ∈ (Rd.rprfs k s acc o).1
  | 0, _, _, _, h => h
  | k + 1, s, acc, o, h => by
    unfold Rd.rprfs
    split
    · exact h
    · exact rprfs_mem k _ _ _ (List.mem_append_left _ h)
/-- Nothing comes of it, by the program and by the document. -/
def PB (x : List Prf × Bool × Rd) : Prop := x.2.2.e ≠ 0 ∨ x.2.1 = true
def DB (n : Int) (x : List Prf × Bool × Rd) : Prop := x.2.2.e ≠ 0 ∨ x.2.1 = false ∨ ∃ p ∈ x.1, chkB p.batch n ≠ 0
theorem prfs_two {n room : Int} (hr : room ≤ 1000000) : ∀ (k : Nat) (s : Rd) (acc : List Prf), (s.l.length : Int) ≤ room →
    (PB (Rd.prfs n room k s acc false) ∧ DB n (Rd.rprfs k s acc true)) ∨ ∃ xs t, Rd.prfs n room k s acc false = (xs, false, t) ∧ Rd.rprfs k s acc true = (xs, true, t)
  | 0, s, acc, _ => .inr ⟨acc, s, rfl, rfl⟩
  | k + 1, s, acc, hl => by
    by_cases h : s.e ≠ 0
    · refine .inl ⟨.inl (prfs_bad _ _ _ h), .inl ?_⟩
      rw [rprfs_stop h]
      exact h
    · unfold Rd.prfs Rd.rprfs
      rw [if_neg h]
      have h2 := s.fixed_length 8
      have h3 := (s.fixed 8).fixed_length 8
      have h4 := Rd.row_length (Rd.pr2 s) room
      have h5 : (Rd.prOut s room).length ≤ (Rd.pr2 s).l.length := Rd.rowOut_length _ _
      unfold Rd.pr2 at h4 h5
      rcases row_two (s := Rd.pr2 s) (L := room) (M := 1048576) (by unfold Rd.pr2; omega) (by omega) with ⟨a, b⟩ | ⟨a, b⟩
      · refine .inl ⟨.inl (prfs_bad _ _ _ a), .inl ?_⟩
        rw [rprfs_stop b]
        exact b
      · have b' : Rd.prOut s room = Rd.prOut s 1048576 := b
        rw [← a, ← b', parse_two (by omega)]
        have e1 : rparseS (Rd.prOut s room) n = rparse2 n (Rd.ens (Rd.of (Rd.prOut s room))) := rfl
        rw [e1]
        generalize Rd.ens (Rd.of (Rd.prOut s room)) = E
        unfold rparse2
        by_cases c1 : E.2.2.end_ ≠ 0 ∨ E.2.1 = false
        · rw [if_pos c1]
          have e2 : (true && E.2.1 && decide (E.2.2.end_ = 0)) = false := by
            rcases c1 with c1 | c1
            · rw [decide_eq_false c1, Bool.and_false]
            · rw [c1]; rfl
          rw [e2]
          exact .inl ⟨.inr (prfs_odd _ _ _), .inr (.inl (rprfs_odd _ _ _))⟩
        · rw [if_neg c1]
          by_cases c2 : chkB E.1 n ≠ 0
          · rw [if_pos c2]
            refine .inl ⟨.inr ?_, .inr (.inr ⟨_, rprfs_mem _ _ _ _ (List.mem_append_right _ (List.mem_singleton.2 rfl)), c2⟩)⟩
            dsimp only
            rw [Bool.false_or, decide_eq_true c2]
            exact prfs_odd _ _ _
          · rw [if_neg c2]
            have e2 : (true && E.2.1 && decide (E.2.2.end_ = 0)) = true := by
              have d1 : E.2.2.end_ = 0 := Decidable.not_not.1 fun h9 => c1 (.inl h9)
              have d2 : E.2.1 = true := by
                cases h9 : E.2.1 with
                | true => rfl
                | false => exact absurd (.inr h9) c1
              rw [d1, d2]; rfl
            rw [e2]
            exact prfs_two hr k _ _ (by unfold Rd.pr2; omega)
theorem right_bad {c : Chg} {n : Int} (h : (∃ p ∈ c.prepared, chkB p.batch n ≠ 0) ∨ ∃ p ∈ c.proposed, chkB p.batch n ≠ 0) : yes (c.Right n) = false := no_iff.2 fun hr => by
  obtain ⟨r1, r2, r3, r4, ⟨r9, r10, r11⟩, ⟨r12, r13, r14⟩⟩ := hr
  rcases h with ⟨p, hp, h⟩ | ⟨p, hp, h⟩
  · exact h (r11 p hp).2.2.2.2
  · exact h (r14 p hp).2.2.2.2
/-- The program's Parse and the document's answer alike. -/
theorem chg_two {l : List UInt8} {n : Int} (hl : l.length ≤ 1000000) : parseC l n = rparseC l n := by
  unfold parseC rparseC
  by_cases hn : n < 1 ∨ 7 < n
  · rw [if_pos hn, if_pos hn]
  · rw [if_neg hn, if_neg hn]
    have hof : (Rd.of l).l = l := rfl
    have q1 := (Rd.of l).fixed_length 8
    have q2 := ((Rd.of l).fixed 8).fixed_length 8
    have q3 := Rd.count_length (Rd.chgHead l) 4
    unfold Rd.chgHead at q3
    rw [hof] at q1
    have w1 := pnts_left ((Rd.chgHead l).countN 4) ((Rd.chgHead l).count 4) []
    have w2 : (Rd.chgPts l).2.l.length ≤ l.length := by unfold Rd.chgPts; unfold Rd.chgHead at w1 ⊢; omega
    have w4 := Rd.count_length (Rd.chgPts l).2 8
    have w3 := prfs_left n l.length ((Rd.chgPts l).2.countN 8) ((Rd.chgPts l).2.count 8) [] false
    have w5 : (Rd.chgPre l n).2.2.l.length ≤ l.length := by unfold Rd.chgPre; omega
    have w6 := Rd.count_length (Rd.chgPre l n).2.2 64
    have both : ((Rd.chgPro l n).2.2.end_ ≠ 0 ∨ (Rd.chgPre l n).2.1 = true ∨ (Rd.chgPro l n).2.1 = true ∨ (Rd.chg l n).check n ≠ 0) →
        ((Rd.rchgPro l).2.2.end_ ≠ 0 ∨ (Rd.rchgPre l).2.1 = false ∨ (Rd.rchgPro l).2.1 = false ∨ yes ((Rd.rchg l).Right n) = false) →
        (if (Rd.chgPro l n).2.2.end_ ≠ 0 ∨ (Rd.chgPre l n).2.1 = true ∨ (Rd.chgPro l n).2.1 = true ∨ (Rd.chg l n).check n ≠ 0 then (Chg.zero, (2 : Int)) else (Rd.chg l n, 0)) =
        (if (Rd.rchgPro l).2.2.end_ ≠ 0 ∨ (Rd.rchgPre l).2.1 = false ∨ (Rd.rchgPro l).2.1 = false ∨ yes ((Rd.rchg l).Right n) = false then (Chg.zero, 2) else (Rd.rchg l, 0)) := fun h1 h2 => by rw [if_pos h1, if_pos h2]
    have preE : (Rd.chgPts l).2.e ≠ 0 → (Rd.chgPre l n).2.2.e ≠ 0 := fun h => prfs_bad _ _ _ (Rd.count_bad h _)
    have proE : (Rd.chgPre l n).2.2.e ≠ 0 → (Rd.chgPro l n).2.2.end_ ≠ 0 := fun h => Rd.end_bad (prfs_bad _ _ _ (Rd.count_bad h _))
    have rpreE : (Rd.rchgPts l).2.e ≠ 0 → (Rd.rchgPre l).2.2.e ≠ 0 := fun h => by
      have h9 := Rd.count_bad h 8
      unfold Rd.rchgPre
      rw [rprfs_stop h9]
      exact h9
    have rproE : (Rd.rchgPre l).2.2.e ≠ 0 → (Rd.rchgPro l).2.2.end_ ≠ 0 := fun h => by
      have h9 := Rd.count_bad h 64
      unfold Rd.rchgPro
      rw [rprfs_stop h9]
      exact Rd.end_bad h9
    rcases pnts_two ((Rd.chgHead l).countN 4) ((Rd.chgHead l).count 4) [] with ⟨a, b⟩ | a
    · exact both (.inl (proE (preE a))) (.inl (rproE (rpreE b)))
    · have a' : Rd.chgPts l = Rd.rchgPts l := a
      rcases prfs_two (n := n) (room := (l.length : Nat)) (by omega) ((Rd.chgPts l).2.countN 8) ((Rd.chgPts l).2.count 8) [] (by omega) with ⟨b, c⟩ | ⟨xs, t, b, c⟩
      · have c' : DB n (Rd.rchgPre l) := by unfold Rd.rchgPre; rw [← a']; exact c
        have b' : PB (Rd.chgPre l n) := b
        refine both ?_ ?_
        · rcases b' with b' | b'
          · exact .inl (proE b')
          · exact .inr (.inl b')
        · rcases c' with c' | c' | c'
          · exact .inl (rproE c')
          · exact .inr (.inl c')
          · exact .inr (.inr (.inr (right_bad (.inl c'))))
      · have b' : Rd.chgPre l n = (xs, false, t) := b
        have c' : Rd.rchgPre l = (xs, true, t) := by unfold Rd.rchgPre; rw [← a']; exact c
        rw [b'] at w5 w6
        dsimp only at w5 w6
        rcases prfs_two (n := n) (room := (l.length : Nat)) (by omega) (t.countN 64) (t.count 64) [] (by omega) with ⟨d, e⟩ | ⟨ys, u, d, e⟩
        · have d' : PB (Rd.chgPro l n) := by unfold Rd.chgPro; rw [b']; exact d
          have e' : DB n (Rd.rchgPro l) := by unfold Rd.rchgPro; rw [c']; exact e
          refine both ?_ ?_
          · rcases d' with d' | d'
            · exact .inl (Rd.end_bad d')
            · exact .inr (.inr (.inl d'))
          · rcases e' with e' | e' | e'
            · exact .inl (Rd.end_bad e')
            · exact .inr (.inr (.inl e'))
            · exact .inr (.inr (.inr (right_bad (.inr e'))))
        · have d' : Rd.chgPro l n = (ys, false, u) := by unfold Rd.chgPro; rw [b']; exact d
          have e' : Rd.rchgPro l = (ys, true, u) := by unfold Rd.rchgPro; rw [c']; exact e
          have f : Rd.chg l n = Rd.rchg l := by
            unfold Rd.chg Rd.rchg
            rw [a', b', c', d', e']
          rw [f, b', c', d', e']
          have g : (Rd.rchg l).check n ≠ 0 ↔ yes ((Rd.rchg l).Right n) = false := by
            unfold Chg.check
            rw [if_neg hn]
            cases yes ((Rd.rchg l).Right n) <;> simp
          by_cases h1 : u.end_ ≠ 0
          · rw [if_pos (.inl h1), if_pos (.inl h1)]
          · by_cases h2 : (Rd.rchg l).check n ≠ 0
            · rw [if_pos (.inr (.inr (.inr h2))), if_pos (.inr (.inr (.inr (g.1 h2))))]
            · rw [if_neg (by
                intro h
                rcases h with h | h | h | h
                · exact h1 h
                · cases h
                · cases h
                · exact h2 h), if_neg (by
                intro h
                rcases h with h | h | h | h
                · exact h1 h
                · cases h
                · cases h
                · exact h2 (g.2 h))]
end Go.Proofs.Ytpgffckfbgfgcaa.A
/-
  Changes: whether two are the same, over the second engine.
-/
set_option maxRecDepth 100000
set_option linter.unusedSimpArgs false
set_option linter.unusedVariables false
namespace Go.Proofs.Ytpgffckfbgfgcaa.A
open Go.RowKit

def litB (c : UInt8) : Lit := .int .u8 (c.toNat : Int)
theorem litB_inj {L M : List UInt8} (h : L.map litB = M.map litB) : L = M := by
  have hi : ∀ a b : UInt8, litB a = litB b → a = b := by
    intro a b hab
    unfold litB at hab
    injection hab with _ hab
    exact UInt8.toNat.inj (by omega)
  induction L generalizing M with
  | nil => cases M with
    | nil => rfl
    | cons _ _ => simp at h
  | cons a L ih => cases M with
    | nil => simp at h
    | cons b M =>
      simp only [List.map_cons, List.cons.injEq] at h
      rw [hi _ _ h.1, ih h.2]
theorem lits_bytes {m : Nat} {T : TypeId} (hu : Try.prog.underlying T = some (.array 32 5)) (hc : Try.prog.cellsOf T = 32) (L : List UInt8) (hL : L.length = 32) :
    Try.prog.keyLits (m + 2) T (L.map bc) = some (L.map litB) := by
  have h5 : Try.prog.cellsOf 5 = 1 := by kernel_rfl
  have hone : ∀ c : UInt8, Try.prog.keyLits (m + 1) 5 [bc c] = some [litB c] := by
    intro c
    have hb : c.toNat < 256 := c.toNat_lt
    have e1 : (Lit.int .u8 (c.toNat : Int)).wf = true := by
      simp only [Lit.wf, Bool.and_eq_true, decide_eq_true_eq]
      exact ⟨by show (0 : Int) ≤ _; omega, by show _ ≤ (255 : Int); omega⟩
    simp [Program.keyLits, Try.underlying5, bc, litB, e1]
  have hm : (List.range 32).mapM (fun i => Try.prog.keyLits (m + 1) 5 (((L.map bc).drop (i * 1)).take 1)) = some (L.map fun c => [litB c]) := by
    refine mapM_some_of_get _ _ (by simp [hL]) ?_
    intro i x hx
    have hi : i < 32 := by
      have := (List.getElem?_eq_some_iff.1 hx).1
      simpa using this
    have hxi : x = i := by
      have := (List.getElem?_eq_some_iff.1 hx).2
      simpa using this.symm
    subst hxi
    have hl : x < L.length := by omega
    have hd : ((L.map bc).drop (x * 1)).take 1 = [bc L[x]] := by
      rw [Nat.mul_one, List.drop_eq_getElem_cons (by simpa using hl)]
      simp
    rw [hd, hone]
    simp [hl]
  have hfl : (L.map fun c => [litB c]).flatten = L.map litB := by
    clear hm hL
    induction L with
    | nil => rfl
    | cons c L ih => simp [ih]
  have hlen : (L.map bc).length = Try.prog.cellsOf T := by simp [hL, hc]
  have hcell : (L.map bc).length = 32 := by simp [hL]
  unfold Program.keyLits
  rw [hu]
  split
  · simp_all
  · simp_all
  · simp_all
  · rename_i h1
    injection h1 with h1
    injection h1 with h1 h2
    subst h1
    subst h2
    rw [if_pos hlen, h5, hm, Option.map_some, hfl]
  · simp_all
  · simp_all
theorem pnt_keys {m : Nat} (p : Pnt) (h : InR .i64 p.seq) : Try.prog.keyLits (m + 3) 171 (.int .i64 p.seq :: p.dig.map bc) = some (.int .i64 p.seq :: p.dig.map litB) := by
  have h1 := wfI h
  have c1 : Try.prog.cellsOf 171 = 33 := by kernel_rfl
  have c2 : Try.prog.cellsOf 30 = 32 := by kernel_rfl
  have c3 : Try.prog.cellsOf 2 = 1 := by kernel_rfl
  have h2 := lits_bytes (m := m) Try.underlying30 c2 p.dig p.len
  have h3 : Try.prog.keyLits (m + 2) 2 [.int .i64 p.seq] = some [.int .i64 p.seq] := by
    simp [Program.keyLits, Try.underlying2, h1]
  have hl : (p.dig.map bc).length = 32 := by simp [p.len]
  have h5 : (p.dig.map bc).take 32 = p.dig.map bc := List.take_of_length_le (by omega)
  unfold Program.keyLits
  rw [Try.underlying171]
  simp [c1, c2, c3, h2, h3, h5, p.len]
theorem pnt_formed (p : Pnt) : (Value.agg (.int .i64 p.seq :: p.dig.map bc).toArray).formed Try.prog 171 = true := by
  have c1 : Try.prog.cellsOf 171 = 33 := by kernel_rfl
  simp [Value.formed, Try.underlying171, c1, p.len]
noncomputable instance : DecidableEq Pnt := fun _ _ => Classical.propDecidable _
theorem Pnt.same {p q : Pnt} (h1 : p.seq = q.seq) (h2 : p.dig = q.dig) : p = q := by
  obtain ⟨a, b, c⟩ := p
  obtain ⟨d, e, f⟩ := q
  dsimp only at h1 h2
  subst h1 h2
  rfl
theorem neqP {p q : Pnt} (hp : InR .i64 p.seq) (hq : InR .i64 q.seq) (w : World) : (binOp .neq 171 (.agg (Value.int .i64 p.seq :: p.dig.map bc).toArray) (.agg (Value.int .i64 q.seq :: q.dig.map bc).toArray)).run Try.prog w = .ok (.bool (decide (p ≠ q))) w :=
  run_neq_lits (m := 10) (by decide) (by kernel_rfl) (pnt_formed p) (pnt_formed q) (pnt_keys (m := 0) p hp) (pnt_keys (m := 0) q hq) _ (by
    rw [decide_eq_true_eq]
    constructor
    · intro h h2
      simp only [List.cons.injEq, Lit.int.injEq, true_and] at h2
      exact h (Pnt.same h2.1 (litB_inj h2.2))
    · intro h h2
      exact h (by rw [h2])) w
theorem plains_dig (d : List UInt8) : plains (digA d) = some (d.map bc) := by
  induction d with
  | nil => rfl
  | cons b d ih =>
    show (match plains (digA d) with | some us => some (bc b :: us) | none => none) = _
    rw [ih]; rfl
theorem pnt_plains (p : Pnt) : plains p.abs = some (.int .i64 p.seq :: p.dig.map bc) := by
  show (match plains (digA p.dig) with | some us => some (Value.int .i64 p.seq :: us) | none => none) = _
  rw [plains_dig]
theorem Prf.same {p q : Prf} (h1 : p.seq = q.seq) (h2 : p.view = q.view) (h3 : p.batch = q.batch) : p = q := by
  obtain ⟨a, b, c⟩ := p
  obtain ⟨d, e, f⟩ := q
  dsimp only at h1 h2 h3
  rw [h1, h2, h3]
theorem Chg.same {p q : Chg} (h1 : p.view = q.view) (h2 : p.low = q.low) (h3 : p.points = q.points) (h4 : p.prepared = q.prepared) (h5 : p.proposed = q.proposed) : p = q := by
  obtain ⟨a, b, c, d, e⟩ := p
  obtain ⟨a2, b2, c2, d2, e2⟩ := q
  dsimp only at h1 h2 h3 h4 h5
  rw [h1, h2, h3, h4, h5]
section
variable {ps qs : List Prf} {c d : Chg}
set_option maxHeartbeats 2000000 in
theorem sameProofs_s (hl : Long ps) (h1 : ∀ p ∈ ps, p.Lits) (h2 : ∀ q ∈ qs, q.Lits) : Spec Try.prog 132 [prfsA ps, prfsA qs] [] (fun _ : Unit => []) (fun _ => boo (yes (ps = qs))) := by
  have hn := hl.1
  refine spec_of Try.func132 rfl Try.ntmps132 rfl fun G w => ?_
  refine SC.seq (SC.region ?_)
  refine SL.val (Val.assign rfl) rfl rfl ?_
  refine SL.nil (SE.seq ?_)
  refine SC.seq ?_
  refine SC.seq (SC.region ?_)
  refine SL.val (Val.move rfl) rfl rfl ?_
  first
    | refine SL.val (Val.lenSl rfl Try.underlying50 (List.length_map _)) rfl rfl ?_
    | refine SL.val (Val.lenOwn rfl (by repeat first|assumption|exact m0|apply m1) Try.underlying50 (List.length_map _)) rfl rfl ?_
    | refine SL.val (Val.lenNil rfl Try.underlying50) rfl rfl ?_
  refine SL.val (Val.move rfl) rfl rfl ?_
  first
    | refine SL.val (Val.lenSl rfl Try.underlying50 (List.length_map _)) rfl rfl ?_
    | refine SL.val (Val.lenOwn rfl (by repeat first|assumption|exact m0|apply m1) Try.underlying50 (List.length_map _)) rfl rfl ?_
    | refine SL.val (Val.lenNil rfl Try.underlying50) rfl rfl ?_
  refine SL.val (Val.neI rfl rfl) rfl rfl ?_
  refine SL.nil (SE.seq ?_)
  refine SC.condP rfl ?_ ?_
  · intro hc10
    refine SC.seq (SC.region ?_)
    refine SL.val (Val.assign rfl) rfl rfl ?_
    refine SL.nil (SE.seq ?_)
    refine SC.ret ?_
    refine SE.then_ (by intro h; cases h) ?_
    refine SE.fin (rs := [.tmp 4]) rfl (RV.tmp rfl RV.nil) (()) (by repeat first|exact s0 _|exact s1 _|apply s2|apply s3) (by simp [It.rids]) ?_
    refine boo_no fun h => ?_
    subst h
    exact hc10 rfl
  intro hc10
  have hle : ps.length = qs.length := by omega
  refine SC.skip ?_
  refine SE.seq ?_
  refine SC.seq ?_
  refine SC.seq (SC.region ?_)
  refine SL.val (Val.move rfl) rfl rfl ?_
  first
    | refine SL.val (Val.lenSl rfl Try.underlying50 (List.length_map _)) rfl rfl ?_
    | refine SL.val (Val.lenOwn rfl (by repeat first|assumption|exact m0|apply m1) Try.underlying50 (List.length_map _)) rfl rfl ?_
    | refine SL.val (Val.lenNil rfl Try.underlying50) rfl rfl ?_
  refine SL.val (Val.move rfl) rfl rfl ?_
  refine SL.nil (SE.seq ?_)
  refine SC.block ?_
  refine SC.loop (ι := Nat) (fun z => []) (fun z => [(0, prfsA ps), (1, prfsA qs), (12, int (ps.length : Nat)), (13, int (z : Nat))]) (fun z => z ≤ ps.length ∧ ps.take z = qs.take z) (fun z => ps.length - z) (0) (⟨Nat.zero_le _, by simp⟩) (by exact ⟨rfl, rfl, rfl, rfl, trivial⟩) (by repeat first|exact s0 _|exact s1 _|apply s2|apply s3) ?_
  intro z hz
  refine SC.seq (SC.region ?_)
  refine SL.val (Val.ltI rfl rfl) rfl rfl ?_
  refine SL.nil (SE.seq ?_)
  refine SC.seq ?_
  refine SC.condP rfl ?_ ?_
  rotate_left
  · intro hc14
    refine SC.exit ?_
    refine SE.then_ (by intro h; cases h) ?_
    refine SE.then_ (by intro h; cases h) ?_
    refine SE.exit ?_
    refine SE.seq ?_
    refine SC.seq (SC.region ?_)
    refine SL.val (Val.assign rfl) rfl rfl ?_
    refine SL.nil (SE.seq ?_)
    refine SC.ret ?_
    refine SE.fin (rs := [.tmp 4]) rfl (RV.tmp rfl RV.nil) (()) (by repeat first|exact s0 _|exact s1 _|apply s2|apply s3) (by simp [It.rids]) ?_
    refine boo_yes ⟨fun _ => ?_, fun _ => rfl⟩
    have h9 := hz.2
    rw [List.take_of_length_le (by omega), List.take_of_length_le (by omega)] at h9
    exact h9
  intro hc14
  have hlt : z < ps.length := by omega
  have hlt2 : z < qs.length := by omega
  refine SC.skip ?_
  refine SE.seq ?_
  refine SC.seq ?_
  refine SC.block ?_
  refine SC.seq (SC.region ?_)
  refine SL.val (Val.move rfl) rfl rfl ?_
  refine SL.val (Val.assign rfl) rfl rfl ?_
  refine SL.nil (SE.seq ?_)
  refine SC.seq ?_
  refine SC.draw [] (.q 0 (.q 1 (.q 2 (.q 3 (.q 4 (.q 5 (.q 6 (.q 7 (.q 8 (.q 9 (.q 10 (.q 11 (.q 12 (.q 13 (.q 14 (.q 15 (.q 16 (.q 17 (.q 18 (.q 19 (.q 20 (.q 21 (.q 22 (.q 23 (.q 24 (.q 25 (.q 26 (.q 27 (.q 28 (.q 29 (.q 30 (.q 31 (.q 32 (.q 33 (.q 34 (.e 35 (.q 36 (.q 37 .nil)))))))))))))))))))))))))))))))))))))) (by kernel_rfl) (by kernel_rfl) ?_
  refine SX.val rfl (Val.move rfl) (by simp) rfl rfl ?_
  refine SX.val rfl (Val.move rfl) (by simp) rfl rfl ?_
  refine SX.val rfl (Val.indexSl tabOk Try.underlying50 rfl rfl rfl rfl (at_map (by omega)) rfl rfl) (by simp) rfl rfl ?_
  refine SX.val rfl (Val.fieldAddrR tabOk rfl rfl rfl rfl rfl) (by simp) rfl rfl ?_
  refine SX.val rfl (Val.load1R tabOk rfl rfl rfl) (by simp) rfl rfl ?_
  refine SX.val rfl (Val.move rfl) (by simp) rfl rfl ?_
  refine SX.val rfl (Val.move rfl) (by simp) rfl rfl ?_
  refine SX.val rfl (Val.indexSl tabOk Try.underlying50 rfl rfl rfl rfl (at_map (by omega)) rfl rfl) (by simp) rfl rfl ?_
  refine SX.val rfl (Val.fieldAddrR tabOk rfl rfl rfl rfl rfl) (by simp) rfl rfl ?_
  refine SX.val rfl (Val.load1R tabOk rfl rfl rfl) (by simp) rfl rfl ?_
  refine SX.val rfl (Val.neI rfl rfl) (by simp) rfl rfl ?_
  refine SX.val rfl (Val.move rfl) (by simp) rfl rfl ?_
  refine SX.bothP (t := 27) rfl ?_ ?_
  · intro hc27
    iterate 11 refine SX.skip rfl rfl rfl ?_
    refine SX.val rfl (Val.pickT rfl rfl) (by simp) rfl rfl ?_
    refine SX.val rfl (Val.move rfl) (by simp) rfl rfl ?_
    iterate 10 refine SX.skip rfl rfl rfl ?_
    refine SX.skip' rfl rfl rfl ?_
    refine SX.skip rfl rfl rfl ?_
    refine SX.val rfl (Val.pickT rfl rfl) (by simp) rfl rfl ?_
    refine SX.nil (SE.seq ?_)
    refine SC.condT rfl ?_
    refine SC.seq (SC.region ?_)
    refine SL.val (Val.assign rfl) rfl rfl ?_
    refine SL.nil (SE.seq ?_)
    refine SC.ret ?_
    refine SE.ret ?_
    refine SE.then_ (by intro h; cases h) ?_
    refine SE.then_ (by intro h; cases h) ?_
    refine SE.ret ?_
    refine SE.then_ (by intro h; cases h) ?_
    refine SE.fin (rs := [.tmp 4]) rfl (RV.tmp rfl RV.nil) (()) (by repeat first|exact s0 _|exact s1 _|apply s2|apply s3) (by simp [It.rids]) ?_
    refine boo_no fun h => ?_
    subst h
    first | exact hc27 rfl | exact hc40 rfl | exact hc53 rfl
  intro hc27
  refine SX.val rfl (Val.move rfl) (by simp) rfl rfl ?_
  refine SX.val rfl (Val.move rfl) (by simp) rfl rfl ?_
  refine SX.val rfl (Val.indexSl tabOk Try.underlying50 rfl rfl rfl rfl (at_map (by omega)) rfl rfl) (by simp) rfl rfl ?_
  refine SX.val rfl (Val.fieldAddrR tabOk rfl rfl rfl rfl rfl) (by simp) rfl rfl ?_
  refine SX.val rfl (Val.load1R tabOk rfl rfl rfl) (by simp) rfl rfl ?_
  refine SX.val rfl (Val.move rfl) (by simp) rfl rfl ?_
  refine SX.val rfl (Val.move rfl) (by simp) rfl rfl ?_
  refine SX.val rfl (Val.indexSl tabOk Try.underlying50 rfl rfl rfl rfl (at_map (by omega)) rfl rfl) (by simp) rfl rfl ?_
  refine SX.val rfl (Val.fieldAddrR tabOk rfl rfl rfl rfl rfl) (by simp) rfl rfl ?_
  refine SX.val rfl (Val.load1R tabOk rfl rfl rfl) (by simp) rfl rfl ?_
  refine SX.val rfl (Val.neI rfl rfl) (by simp) rfl rfl ?_
  refine SX.val rfl (Val.pickF rfl rfl) (by simp) rfl rfl ?_
  refine SX.val rfl (Val.move rfl) (by simp) rfl rfl ?_
  refine SX.bothP (t := 40) rfl ?_ ?_
  · intro hc40
    iterate 10 refine SX.skip rfl rfl rfl ?_
    refine SX.skip' rfl rfl rfl ?_
    refine SX.skip rfl rfl rfl ?_
    refine SX.val rfl (Val.pickT rfl rfl) (by simp) rfl rfl ?_
    refine SX.nil (SE.seq ?_)
    refine SC.condT rfl ?_
    refine SC.seq (SC.region ?_)
    refine SL.val (Val.assign rfl) rfl rfl ?_
    refine SL.nil (SE.seq ?_)
    refine SC.ret ?_
    refine SE.ret ?_
    refine SE.then_ (by intro h; cases h) ?_
    refine SE.then_ (by intro h; cases h) ?_
    refine SE.ret ?_
    refine SE.then_ (by intro h; cases h) ?_
    refine SE.fin (rs := [.tmp 4]) rfl (RV.tmp rfl RV.nil) (()) (by repeat first|exact s0 _|exact s1 _|apply s2|apply s3) (by simp [It.rids]) ?_
    refine boo_no fun h => ?_
    subst h
    first | exact hc27 rfl | exact hc40 rfl | exact hc53 rfl
  intro hc40
  refine SX.val rfl (Val.move rfl) (by simp) rfl rfl ?_
  refine SX.val rfl (Val.move rfl) (by simp) rfl rfl ?_
  refine SX.val rfl (Val.indexSl tabOk Try.underlying50 rfl rfl rfl rfl (at_map (by omega)) rfl rfl) (by simp) rfl rfl ?_
  refine SX.val rfl (Val.fieldAddrR tabOk rfl rfl rfl rfl rfl) (by simp) rfl rfl ?_
  refine SX.val rfl (Val.load1R tabOk rfl rfl rfl) (by simp) rfl rfl ?_
  refine SX.val rfl (Val.move rfl) (by simp) rfl rfl ?_
  refine SX.val rfl (Val.move rfl) (by simp) rfl rfl ?_
  refine SX.val rfl (Val.indexSl tabOk Try.underlying50 rfl rfl rfl rfl (at_map (by omega)) rfl rfl) (by simp) rfl rfl ?_
  refine SX.val rfl (Val.fieldAddrR tabOk rfl rfl rfl rfl rfl) (by simp) rfl rfl ?_
  refine SX.val rfl (Val.load1R tabOk rfl rfl rfl) (by simp) rfl rfl ?_
  refine SX.call rfl (rbsame_s (es := (ps[z]'hlt).batch) (fs := (qs[z]'hlt2).batch) (hl.2 _ (List.getElem_mem hlt)) (h1 _ (List.getElem_mem hlt)).all (h2 _ (List.getElem_mem hlt2)).all) (by simp [mids, It.mids]) Casts.refl (by kernel_rfl) rfl rfl rfl ?_
  refine After.pure (by repeat first|exact .nil|refine .blk (by repeat first|assumption|exact m0|apply m1) ?_|refine .rd (by repeat first|assumption|exact m0|apply m1) ?_|refine .pc (by repeat first|assumption|exact m0|apply m1) ?_|refine .rdpc (by repeat first|assumption|exact m0|apply m1) ?_) (fun _ => rfl) ?_
  intro _
  refine SX.val rfl (Val.notP rfl) (by simp) rfl rfl ?_
  refine SX.val rfl (Val.pickF rfl rfl) (by simp) rfl rfl ?_
  refine SX.nil (SE.seq ?_)
  refine SC.condP rfl ?_ ?_
  rotate_left
  · intro hc53
    refine SC.skip ?_
    refine SE.inBlock ?_
    refine SE.seq ?_
    refine SC.region ?_
    first
      | refine SL.val (Val.addI rfl rfl (by simp only [InR, lo, hi]; omega)) rfl rfl ?_
      | refine SL.val (Val.addW rfl rfl) rfl rfl ?_
    refine SL.val (Val.move rfl) rfl rfl ?_
    refine SL.nil ?_
    refine SE.round (z + 1) (by first | omega | (dsimp only; omega)) (⟨hlt, take_succ_eq hz.2 hlt hlt2 (Prf.same (by simpa using hc27) (by simpa using hc40) (by simpa using hc53))⟩) (by exact ⟨rfl, rfl, rfl, rfl, trivial⟩) (by repeat first|exact s0 _|exact s1 _|apply s2|apply s3)
  intro hc53
  refine SC.seq (SC.region ?_)
  refine SL.val (Val.assign rfl) rfl rfl ?_
  refine SL.nil (SE.seq ?_)
  refine SC.ret ?_
  refine SE.ret ?_
  refine SE.then_ (by intro h; cases h) ?_
  refine SE.then_ (by intro h; cases h) ?_
  refine SE.ret ?_
  refine SE.then_ (by intro h; cases h) ?_
  refine SE.fin (rs := [.tmp 4]) rfl (RV.tmp rfl RV.nil) (()) (by repeat first|exact s0 _|exact s1 _|apply s2|apply s3) (by simp [It.rids]) ?_
  refine boo_no fun h => ?_
  subst h
  first | exact hc27 rfl | exact hc40 rfl | exact hc53 rfl
set_option maxHeartbeats 2000000 in
theorem rsame_s (hp : c.points.length < 9223372036854775807) (ha : Long c.prepared) (hb : Long c.proposed) (h1 : c.Lits) (h2 : d.Lits) : Spec Try.prog 39 [.agg c.abs, .agg d.abs] [] (fun _ : Unit => []) (fun _ => boo (yes (c = d))) := by
  refine spec_of Try.func39 rfl Try.ntmps39 rfl fun G w => ?_
  refine SC.seq (SC.region ?_)
  refine SL.eff (Eff.boxA rfl) rfl rfl ?_
  rintro _ _ ⟨b2, rfl, rfl⟩
  refine SL.eff (Eff.boxA rfl) rfl rfl ?_
  rintro _ _ ⟨b3, rfl, rfl⟩
  refine SL.val (Val.assign rfl) rfl rfl ?_
  refine SL.nil (SE.seq ?_)
  refine SC.seq ?_
  refine SC.seq (SC.region ?_)
  refine SL.val (Val.fieldAddr tabOk rfl rfl rfl rfl rfl) rfl rfl ?_
  refine SL.val (Val.load1 tabOk rfl rfl (by first|(apply Or.inl;(repeat first|assumption|exact m0|apply m1);done)|(apply Or.inr;(repeat first|assumption|exact m0|apply m1);done)) List.not_mem_nil (by rfl)) rfl rfl ?_
  refine SL.val (Val.fieldAddr tabOk rfl rfl rfl rfl rfl) rfl rfl ?_
  refine SL.val (Val.load1 tabOk rfl rfl (by first|(apply Or.inl;(repeat first|assumption|exact m0|apply m1);done)|(apply Or.inr;(repeat first|assumption|exact m0|apply m1);done)) List.not_mem_nil (by rfl)) rfl rfl ?_
  refine SL.val (Val.neI rfl rfl) rfl rfl ?_
  refine SL.val (Val.move rfl) rfl rfl ?_
  refine SL.bothP (t := 11) rfl ?_ ?_
  · intro hc11
    iterate 5 refine SL.skip rfl rfl ?_
    refine SL.val (Val.pickT rfl rfl) rfl rfl ?_
    refine SL.val (Val.move rfl) rfl rfl ?_
    iterate 7 refine SL.skip rfl rfl ?_
    refine SL.val (Val.pickT rfl rfl) rfl rfl ?_
    refine SL.nil (SE.seq ?_)
    refine SC.condT rfl ?_
    refine SC.seq (SC.region ?_)
    refine SL.val (Val.assign rfl) rfl rfl ?_
    refine SL.nil (SE.seq ?_)
    refine SC.ret ?_
    refine SE.then_ (by intro h; cases h) ?_
    refine SE.fin (rs := [.tmp 4]) rfl (RV.tmp rfl RV.nil) (()) (by repeat first|exact s0 _|exact s1 _|apply s2|apply s3) (by simp [It.rids]) ?_
    refine boo_no fun h => ?_
    subst h
    first | exact hc11 rfl | exact hc18 rfl | exact hc26 rfl
  intro hc11
  refine SL.val (Val.fieldAddr tabOk rfl rfl rfl rfl rfl) rfl rfl ?_
  refine SL.val (Val.load1 tabOk rfl rfl (by first|(apply Or.inl;(repeat first|assumption|exact m0|apply m1);done)|(apply Or.inr;(repeat first|assumption|exact m0|apply m1);done)) List.not_mem_nil (by rfl)) rfl rfl ?_
  refine SL.val (Val.fieldAddr tabOk rfl rfl rfl rfl rfl) rfl rfl ?_
  refine SL.val (Val.load1 tabOk rfl rfl (by first|(apply Or.inl;(repeat first|assumption|exact m0|apply m1);done)|(apply Or.inr;(repeat first|assumption|exact m0|apply m1);done)) List.not_mem_nil (by rfl)) rfl rfl ?_
  refine SL.val (Val.neI rfl rfl) rfl rfl ?_
  refine SL.val (Val.pickF rfl rfl) rfl rfl ?_
  refine SL.val (Val.move rfl) rfl rfl ?_
  refine SL.bothP (t := 18) rfl ?_ ?_
  · intro hc18
    iterate 7 refine SL.skip rfl rfl ?_
    refine SL.val (Val.pickT rfl rfl) rfl rfl ?_
    refine SL.nil (SE.seq ?_)
    refine SC.condT rfl ?_
    refine SC.seq (SC.region ?_)
    refine SL.val (Val.assign rfl) rfl rfl ?_
    refine SL.nil (SE.seq ?_)
    refine SC.ret ?_
    refine SE.then_ (by intro h; cases h) ?_
    refine SE.fin (rs := [.tmp 4]) rfl (RV.tmp rfl RV.nil) (()) (by repeat first|exact s0 _|exact s1 _|apply s2|apply s3) (by simp [It.rids]) ?_
    refine boo_no fun h => ?_
    subst h
    first | exact hc11 rfl | exact hc18 rfl | exact hc26 rfl
  intro hc18
  refine SL.val (Val.fieldAddr tabOk rfl rfl rfl rfl rfl) rfl rfl ?_
  refine SL.val (Val.load1 tabOk rfl rfl (by first|(apply Or.inl;(repeat first|assumption|exact m0|apply m1);done)|(apply Or.inr;(repeat first|assumption|exact m0|apply m1);done)) List.not_mem_nil (by rfl)) rfl rfl ?_
  first
    | refine SL.val (Val.lenSl rfl Try.underlying49 (List.length_map _)) rfl rfl ?_
    | refine SL.val (Val.lenOwn rfl (by repeat first|assumption|exact m0|apply m1) Try.underlying49 (List.length_map _)) rfl rfl ?_
    | refine SL.val (Val.lenNil rfl Try.underlying49) rfl rfl ?_
  refine SL.val (Val.fieldAddr tabOk rfl rfl rfl rfl rfl) rfl rfl ?_
  refine SL.val (Val.load1 tabOk rfl rfl (by first|(apply Or.inl;(repeat first|assumption|exact m0|apply m1);done)|(apply Or.inr;(repeat first|assumption|exact m0|apply m1);done)) List.not_mem_nil (by rfl)) rfl rfl ?_
  first
    | refine SL.val (Val.lenSl rfl Try.underlying49 (List.length_map _)) rfl rfl ?_
    | refine SL.val (Val.lenOwn rfl (by repeat first|assumption|exact m0|apply m1) Try.underlying49 (List.length_map _)) rfl rfl ?_
    | refine SL.val (Val.lenNil rfl Try.underlying49) rfl rfl ?_
  refine SL.val (Val.neI rfl rfl) rfl rfl ?_
  refine SL.val (Val.pickF rfl rfl) rfl rfl ?_
  refine SL.nil (SE.seq ?_)
  refine SC.condP rfl ?_ ?_
  · intro hc26
    refine SC.seq (SC.region ?_)
    refine SL.val (Val.assign rfl) rfl rfl ?_
    refine SL.nil (SE.seq ?_)
    refine SC.ret ?_
    refine SE.then_ (by intro h; cases h) ?_
    refine SE.fin (rs := [.tmp 4]) rfl (RV.tmp rfl RV.nil) (()) (by repeat first|exact s0 _|exact s1 _|apply s2|apply s3) (by simp [It.rids]) ?_
    refine boo_no fun h => ?_
    subst h
    first | exact hc11 rfl | exact hc18 rfl | exact hc26 rfl
  intro hc26
  have hle : c.points.length = d.points.length := by omega
  refine SC.skip ?_
  refine SE.seq ?_
  refine SC.seq ?_
  refine SC.seq (SC.region ?_)
  refine SL.val (Val.fieldAddr tabOk rfl rfl rfl rfl rfl) rfl rfl ?_
  refine SL.val (Val.load1 tabOk rfl rfl (by first|(apply Or.inl;(repeat first|assumption|exact m0|apply m1);done)|(apply Or.inr;(repeat first|assumption|exact m0|apply m1);done)) List.not_mem_nil (by rfl)) rfl rfl ?_
  first
    | refine SL.val (Val.lenSl rfl Try.underlying49 (List.length_map _)) rfl rfl ?_
    | refine SL.val (Val.lenOwn rfl (by repeat first|assumption|exact m0|apply m1) Try.underlying49 (List.length_map _)) rfl rfl ?_
    | refine SL.val (Val.lenNil rfl Try.underlying49) rfl rfl ?_
  refine SL.val (Val.move rfl) rfl rfl ?_
  refine SL.nil (SE.seq ?_)
  refine SC.block ?_
  refine SC.loop (ι := Nat) (fun z => [.blk b3 52 d.abs, .blk b2 52 c.abs]) (fun z => [(2, ptr b2), (3, ptr b3), (29, int (c.points.length : Nat)), (30, int (z : Nat))]) (fun z => z ≤ c.points.length ∧ c.points.take z = d.points.take z) (fun z => c.points.length - z) (0) (⟨Nat.zero_le _, by simp⟩) (by exact ⟨rfl, rfl, rfl, rfl, trivial⟩) (by repeat first|exact s0 _|exact s1 _|apply s2|apply s3) ?_
  intro z hz
  refine SC.seq (SC.region ?_)
  refine SL.val (Val.ltI rfl rfl) rfl rfl ?_
  refine SL.nil (SE.seq ?_)
  refine SC.seq ?_
  refine SC.condP rfl ?_ ?_
  rotate_left
  · intro hc31
    have hcp := hc31
    have hep : c.points = d.points := by
      have h9 := hz.2
      rw [List.take_of_length_le (by omega), List.take_of_length_le (by omega)] at h9
      exact h9
    refine SC.exit ?_
    refine SE.then_ (by intro h; cases h) ?_
    refine SE.then_ (by intro h; cases h) ?_
    refine SE.exit ?_
    refine SE.seq ?_
    refine SC.seq (SC.region ?_)
    refine SL.val (Val.fieldAddr tabOk rfl rfl rfl rfl rfl) rfl rfl ?_
    refine SL.val (Val.load1 tabOk rfl rfl (by first|(apply Or.inl;(repeat first|assumption|exact m0|apply m1);done)|(apply Or.inr;(repeat first|assumption|exact m0|apply m1);done)) List.not_mem_nil (by rfl)) rfl rfl ?_
    refine SL.val (Val.fieldAddr tabOk rfl rfl rfl rfl rfl) rfl rfl ?_
    refine SL.val (Val.load1 tabOk rfl rfl (by first|(apply Or.inl;(repeat first|assumption|exact m0|apply m1);done)|(apply Or.inr;(repeat first|assumption|exact m0|apply m1);done)) List.not_mem_nil (by rfl)) rfl rfl ?_
    refine SL.call (sameProofs_s (ps := c.prepared) (qs := d.prepared) ha h1.prep h2.prep) Casts.refl (by kernel_rfl) rfl rfl rfl ?_
    refine After.pure (by repeat first|exact .nil|refine .blk (by repeat first|assumption|exact m0|apply m1) ?_|refine .rd (by repeat first|assumption|exact m0|apply m1) ?_|refine .pc (by repeat first|assumption|exact m0|apply m1) ?_|refine .rdpc (by repeat first|assumption|exact m0|apply m1) ?_) (fun _ => rfl) ?_
    intro _
    refine SL.val (Val.move rfl) rfl rfl ?_
    refine SL.both (t := 50) rfl ?_ ?_
    rotate_left
    · intro hc50
      iterate 5 refine SL.skip rfl rfl ?_
      refine SL.val (Val.pickF rfl rfl) rfl rfl ?_
      refine SL.val (Val.assign rfl) rfl rfl ?_
      refine SL.nil (SE.seq ?_)
      refine SC.ret ?_
      refine SE.fin (rs := [.tmp 4]) rfl (RV.tmp rfl RV.nil) (()) (by repeat first|exact s0 _|exact s1 _|apply s2|apply s3) (by simp [It.rids]) ?_
      first
        | (refine boo_yes ⟨fun h => Chg.same (by simpa using hc11) (by simpa using hc18) hep (yes_iff.1 hc50) (yes_iff.1 h), fun h => ?_⟩; subst h; exact yes_iff.2 rfl)
        | (refine boo_no fun h => ?_; subst h; exact absurd rfl (no_iff.1 hc50))
    intro hc50
    refine SL.val (Val.fieldAddr tabOk rfl rfl rfl rfl rfl) rfl rfl ?_
    refine SL.val (Val.load1 tabOk rfl rfl (by first|(apply Or.inl;(repeat first|assumption|exact m0|apply m1);done)|(apply Or.inr;(repeat first|assumption|exact m0|apply m1);done)) List.not_mem_nil (by rfl)) rfl rfl ?_
    refine SL.val (Val.fieldAddr tabOk rfl rfl rfl rfl rfl) rfl rfl ?_
    refine SL.val (Val.load1 tabOk rfl rfl (by first|(apply Or.inl;(repeat first|assumption|exact m0|apply m1);done)|(apply Or.inr;(repeat first|assumption|exact m0|apply m1);done)) List.not_mem_nil (by rfl)) rfl rfl ?_
    refine SL.call (sameProofs_s (ps := c.proposed) (qs := d.proposed) hb h1.prop h2.prop) Casts.refl (by kernel_rfl) rfl rfl rfl ?_
    refine After.pure (by repeat first|exact .nil|refine .blk (by repeat first|assumption|exact m0|apply m1) ?_|refine .rd (by repeat first|assumption|exact m0|apply m1) ?_|refine .pc (by repeat first|assumption|exact m0|apply m1) ?_|refine .rdpc (by repeat first|assumption|exact m0|apply m1) ?_) (fun _ => rfl) ?_
    intro _
    refine SL.val (Val.pickT rfl rfl) rfl rfl ?_
    refine SL.val (Val.assign rfl) rfl rfl ?_
    refine SL.nil (SE.seq ?_)
    refine SC.ret ?_
    refine SE.fin (rs := [.tmp 4]) rfl (RV.tmp rfl RV.nil) (()) (by repeat first|exact s0 _|exact s1 _|apply s2|apply s3) (by simp [It.rids]) ?_
    first
      | (refine boo_yes ⟨fun h => Chg.same (by simpa using hc11) (by simpa using hc18) hep (yes_iff.1 hc50) (yes_iff.1 h), fun h => ?_⟩; subst h; exact yes_iff.2 rfl)
      | (refine boo_no fun h => ?_; subst h; exact absurd rfl (no_iff.1 hc50))
  intro hc31
  have hlt : z < c.points.length := by omega
  have hlt2 : z < d.points.length := by omega
  refine SC.skip ?_
  refine SE.seq ?_
  refine SC.seq ?_
  refine SC.block ?_
  refine SC.seq (SC.region ?_)
  refine SL.val (Val.move rfl) rfl rfl ?_
  refine SL.val (Val.assign rfl) rfl rfl ?_
  refine SL.nil (SE.seq ?_)
  refine SC.seq ?_
  refine SC.draw [] (.q 0 (.q 1 (.q 2 (.q 3 (.q 4 (.q 5 (.q 6 (.q 7 (.q 8 (.q 9 (.q 10 .nil))))))))))) (by kernel_rfl) (by kernel_rfl) ?_
  refine SX.val rfl (Val.fieldAddr tabOk rfl rfl rfl rfl rfl) (by simp) rfl rfl ?_
  refine SX.val rfl (Val.load1 tabOk rfl rfl (by first|(apply Or.inl;(repeat first|assumption|exact m0|apply m1);done)|(apply Or.inr;(repeat first|assumption|exact m0|apply m1);done)) List.not_mem_nil (by rfl)) (by simp) rfl rfl ?_
  refine SX.val rfl (Val.move rfl) (by simp) rfl rfl ?_
  refine SX.val rfl (Val.indexSl tabOk Try.underlying49 rfl rfl rfl rfl (at_map (by omega)) rfl rfl) (by simp) rfl rfl ?_
  refine SX.val rfl (Val.loadAR tabOk rfl rfl rfl (Pnt.size _)) (by first|(simp[mids,It.mids,ownPc];done)|(intro k hk;simp[mids,It.mids,ownPc] at hk ⊢;grind)) rfl rfl ?_
  refine SX.val rfl (Val.fieldAddr tabOk rfl rfl rfl rfl rfl) (by simp) rfl rfl ?_
  refine SX.val rfl (Val.load1 tabOk rfl rfl (by first|(apply Or.inl;(repeat first|assumption|exact m0|apply m1);done)|(apply Or.inr;(repeat first|assumption|exact m0|apply m1);done)) List.not_mem_nil (by rfl)) (by simp) rfl rfl ?_
  refine SX.val rfl (Val.move rfl) (by simp) rfl rfl ?_
  refine SX.val rfl (Val.indexSl tabOk Try.underlying49 rfl rfl rfl rfl (at_map (by omega)) rfl rfl) (by simp) rfl rfl ?_
  refine SX.val rfl (Val.loadAR tabOk rfl rfl rfl (Pnt.size _)) (by first|(simp[mids,It.mids,ownPc];done)|(intro k hk;simp[mids,It.mids,ownPc] at hk ⊢;grind)) rfl rfl ?_
  refine SX.val rfl (Val.neA rfl rfl (pnt_plains _) (pnt_plains _) (by kernel_rfl) (neqP (h1.pts _ (List.getElem_mem hlt)) (h2.pts _ (List.getElem_mem hlt2)))) (by first|(simp[mids,It.mids,ownPc];done)|(intro k hk;simp[mids,It.mids,ownPc] at hk ⊢;grind)) rfl rfl ?_
  refine SX.nil (SE.seq ?_)
  refine SC.condP rfl ?_ ?_
  rotate_left
  · intro hc43
    refine SC.skip ?_
    refine SE.inBlock ?_
    refine SE.seq ?_
    refine SC.region ?_
    first
      | refine SL.val (Val.addI rfl rfl (by simp only [InR, lo, hi]; omega)) rfl rfl ?_
      | refine SL.val (Val.addW rfl rfl) rfl rfl ?_
    refine SL.val (Val.move rfl) rfl rfl ?_
    refine SL.nil ?_
    refine SE.round (z + 1) (by first | omega | (dsimp only; omega)) (⟨hlt, take_succ_eq hz.2 hlt hlt2 (by simpa using hc43)⟩) (by exact ⟨rfl, rfl, rfl, rfl, trivial⟩) (by repeat first|exact s0 _|exact s1 _|apply s2|apply s3)
  intro hc43
  refine SC.seq (SC.region ?_)
  refine SL.val (Val.assign rfl) rfl rfl ?_
  refine SL.nil (SE.seq ?_)
  refine SC.ret ?_
  refine SE.ret ?_
  refine SE.then_ (by intro h; cases h) ?_
  refine SE.then_ (by intro h; cases h) ?_
  refine SE.ret ?_
  refine SE.then_ (by intro h; cases h) ?_
  refine SE.fin (rs := [.tmp 4]) rfl (RV.tmp rfl RV.nil) (()) (by repeat first|exact s0 _|exact s1 _|apply s2|apply s3) (by simp [It.rids]) ?_
  refine boo_no fun h => ?_
  subst h
  exact hc43 rfl
end
end Go.Proofs.Ytpgffckfbgfgcaa.A
/-
  From a walk that returns true and changes no old memory to the given statement, for any law without package variables.
-/
namespace Go.Proofs.Ytpgffckfbgfgcaa
open Go.ChangeShapes Go.WideShapes Go.ChangeAt Go.RowKit

theorem law_own : ownKnob Try.prog.godebug = none := by kernel_rfl
theorem law_laidOut : laidOutB Try.prog = true := by kernel_rfl

theorem trodAll_below {H : Type} {enc : TypeId × Value → H} {W W' : World} (hb : Below W.heap.size W W') :
    ∀ (ts : List TypeId) (vs : List Value) (ds : List (DataW H)) (p : List MemPlace), (∀ t ∈ ts, Try.prog.readableRec t = true ∧ t < Try.prog.types.size) →
      DataW.TrodAll enc Try.prog W 0 (fun _ => true) true ts vs ds p → ∃ q, DataW.TrodAll enc Try.prog W' 0 (fun b => decide (b < W.heap.size)) true ts vs ds q
  | [], [], [], p, _, h => ⟨p, h⟩
  | t :: ts, v :: vs, d :: ds, p, hr, h => by
    obtain ⟨p0, q0, h0, h1, rfl⟩ := h
    obtain ⟨q, hq⟩ := trodAll_below hb ts vs ds q0 (fun t ht => hr t (List.mem_cons_of_mem _ ht)) h1
    have lt0 : ∀ x ∈ p0, x.block < W.heap.size := by obtain ⟨m, hm⟩ := h0; exact DataW.trod_lt m _ _ _ hm
    exact ⟨p0 ++ q, p0, q, Below.trod law_laidOut (hr t List.mem_cons_self).1 (hr t List.mem_cons_self).2 h0 hb lt0, hq, rfl⟩
  | [], _ :: _, _, _, _, h => h.elim
  | [], [], _ :: _, _, _, h => h.elim
  | _ :: _, [], _, _, _, h => h.elim
  | _ :: _, _ :: _, [], _, _, h => h.elim

set_option maxRecDepth 100000 in
theorem law_lift {H : Type} {enc : TypeId × Value → H} {os : Os} (started : os.Started) {f : FuncId} {fn : Func} {s : ChangeSpec}
    (noInit : Try.prog.inits.idxOf? f = none) (hfn : Try.prog.funcs[f]? = some fn) (hvars : s.vars = []) (hres : fn.resultTypes = #[4])
    (hparB : (fn.params.toList.all fun t => Try.prog.readableRec t && decide (t < Try.prog.types.size)) = true)
    (hspec : ∀ ds : List (DataW H), ds.length = fn.params.size → s.fn H (ds ++ []) = { results := [.lit (.bool true)], args := ds })
    (wit : ∃ (w : World) (tape : Tape) (i : Input), w.os = os ∧ (w.forCall tape i).Shaped Try.prog ∧ i.vars = [] ∧ Input.okWide Try.prog (w.forCall tape i) .any w.heap.size f i ∧
      s.pre6 enc Try.prog fn [] false (w.forCall tape i).memory i.args ∧ Assume.holds {} Try.prog (lone (Frame.enter Try.prog f i.args .normal) [] (w.forCall tape i)))
    (walk : ∀ (W : World) (base : Nat) (args : Array Value) (ds : List (DataW H)) (p : List MemPlace),
      (∀ (j : Nat) t v, fn.params[j]? = some t → args[j]? = some v → Value.okWide Try.prog W .any base t v) →
      DataW.TrodAll enc Try.prog W 0 (fun _ => true) true fn.params.toList args.toList ds p →
      (DataW.weightsEach Try.prog fn.params.toList ds).all (· ≤ reachBytes) = true →
      Calls Try.prog f args W fun e W' => e = .returned (.bool true) ∧ Ext [] W W') :
    ReturnsInHanded {} Try.checked os f .any (s.pre6 enc Try.prog fn [] false) (s.post enc Try.prog fn false true false false) := by
  have hpar : ∀ t ∈ fn.params.toList, Try.prog.readableRec t = true ∧ t < Try.prog.types.size := by
    simpa only [List.all_eq_true, Bool.and_eq_true, decide_eq_true_eq] using hparB
  refine returnsInHanded_of_change_sized (C := Try.checked) law_own started noInit hfn wit ?_
  intro W base args ds gs before hval0 hW hcnd hsz _
  have hval : ∀ (j : Nat) t v, fn.params[j]? = some t → args[j]? = some v → Value.okWide Try.prog W .any base t v := hval0
  have hW' := hW
  obtain ⟨p, q, hA0, hV, rfl, hfz, hnd⟩ := hW
  have hA : DataW.TrodAll enc Try.prog W 0 (fun _ => true) true fn.params.toList args.toList ds p := hA0
  rw [hvars] at hV
  obtain ⟨rfl, rfl⟩ := trodVars_none hV
  have hsz' : (DataW.weightsEach Try.prog fn.params.toList ds).all (· ≤ reachBytes) = true := by
    have h2 := hsz
    simp only [ChangeSpec.plain, DataSpec.varTypes, hvars, List.filterMap_nil, List.append_nil] at h2
    exact h2
  refine (walk W base args ds p hval hA hsz').mono fun e W' ⟨he, bel⟩ => ?_
  subst he
  have hlen : ds.length = fn.params.size := by
    have : ∀ (ts : List TypeId) (vs : List Value) (ds : List (DataW H)) (p : List MemPlace), DataW.TrodAll enc Try.prog W 0 (fun _ => true) true ts vs ds p → ds.length = ts.length := by
      intro ts
      induction ts with
      | nil => intro vs ds p h; cases vs <;> cases ds <;> first | rfl | exact h.elim
      | cons t ts ih =>
        intro vs ds p h
        cases vs with
        | nil => exact h.elim
        | cons v vs =>
          cases ds with
          | nil => exact h.elim
          | cons d ds => obtain ⟨p0, q0, _, h1, _⟩ := h; simp [ih vs ds q0 h1]
    simpa using this _ _ _ _ hA
  obtain ⟨pa, hpa⟩ := trodAll_below (enc := enc) bel.below fn.params.toList args.toList ds p hpar hA
  refine ⟨_, rfl, ds, [], p ++ [], [], pa, [], hW', ?_, ?_, ?_, bel.below.frame _, fun h => by cases h⟩
  · rw [hspec ds hlen, hres]
    exact trodAll_mk1 (shut_bool Try.underlying4 _)
  · rw [hspec ds hlen]; exact hpa
  · rw [hspec ds hlen, hvars]; rfl

theorem spot_none {w : World} {b o : Nat} {s : Option Nat} {v : Value} (h : w.cell? ⟨b, o, s⟩ = some v) : s = none := by
  have := World.cell?_spot h
  simpa using this

set_option maxRecDepth 100000 in
/-- A slice of integers that came in. -/
theorem open_row_ints {H : Type} {enc : TypeId × Value → H} {W : World} {base : Nat} {t e : TypeId} {k : IntKind} {v : Value} {d : DataW H} {p : List MemPlace}
    (ht : Try.prog.underlying t = some (.slice e)) (he : Try.prog.underlying e = some (.int k)) (hE : Try.prog.cellsOf e = 1)
    (hv : Value.okWide Try.prog W .any base t v) (h : DataW.Trod enc Try.prog W 0 (fun _ => true) true t v d p) :
    ∃ (A : Option Addr) (n c : Nat) (zs : List Int), v = .slice A n c ∧ zs.length = n ∧ n ≤ c ∧ c ≤ maxLen ∧ Row W A (zs.map (Value.int k)) ∧ ∀ z ∈ zs, (Lit.int k z).wf = true := by
  obtain ⟨A, n, c, rfl⟩ := okWide_slice ht hv
  obtain ⟨fuel, hf⟩ := h
  rcases open_ints ht he hE hf with ⟨hcs, _⟩ | ⟨x, l, c', zs, hcs, _, hl, hm, hz, _, hcell, hwz⟩
  · simp [Value.cells] at hcs
    obtain ⟨rfl, rfl, rfl⟩ := hcs
    exact ⟨none, 0, 0, [], rfl, rfl, Nat.le_refl _, Nat.zero_le _, Row.nil_ _ _, by simp⟩
  · simp [Value.cells] at hcs
    obtain ⟨rfl, rfl, rfl⟩ := hcs
    have hz' : zs.length = c := by simpa using hz
    refine ⟨some x, n, c, zs.take n, rfl, by simp; omega, hl, hm, ?_, fun z hz0 => hwz z (List.mem_of_mem_take hz0)⟩
    intro hn
    have hn0 : 0 < zs.length := by
      rcases zs with _ | ⟨z, zs⟩
      · simp at hn
      · simp
    obtain ⟨b, off, spot⟩ := x
    have h0 := hcell 0 hn0
    have hs : spot = none := by
      have : (⟨b, off, spot⟩ : Addr).add 0 = ⟨b, off, spot⟩ := by simp [Addr.add]
      rw [this] at h0
      exact spot_none h0
    subst hs
    refine ⟨b, off, rfl, fun j u hu => ?_⟩
    rw [List.getElem?_map, List.getElem?_take] at hu
    split at hu
    · rename_i hj
      have hjl : j < zs.length := by
        rcases Nat.lt_or_ge j zs.length with h1 | h1
        · exact h1
        · rw [List.getElem?_eq_none h1] at hu; simp at hu
      have hcj := hcell j hjl
      have e1 : (⟨b, off, none⟩ : Addr).add j = ⟨b, off + j, none⟩ := by
        unfold Addr.add
        split
        · rename_i h0; subst h0; rfl
        · rfl
      rw [e1] at hcj
      rw [hcj, ← hu]
      simp [hjl]
    · simp at hu
end Go.Proofs.Ytpgffckfbgfgcaa
/-
  Arguments opened down to their cells: a struct, however deep, is its cells, each read by its own type.
-/
set_option maxRecDepth 100000
namespace Go.Proofs.Ytpgffckfbgfgcaa
open Go.RowKit Go.ChangeShapes Go.WideShapes Go.ChangeAt

/-- The types of a type's cells, in order. -/
def leaves (P : Program) : Nat → TypeId → Option (List TypeId)
  | 0, _ => none
  | d + 1, t =>
    match P.underlying t with
    | some (.struct fs) => fs.toList.foldlM (fun acc f => (leaves P d f.type).bind fun l => if f.offset = acc.length ∧ l.length = P.cellsOf f.type then some (acc ++ l) else none) []
    | some (.array n e) => (leaves P d e).bind fun l => if l.length = P.cellsOf e then some (List.replicate n l).flatten else none
    | some _ => some [t]
    | none => none

section
variable {H : Type} {enc : TypeId × Value → H} {P : Program} {w : World} {base : Nat} {spare : Nat → Bool} {held : Bool}

/-- Cell j reads by its own type. -/
def LeafAt (enc : TypeId × Value → H) (P : Program) (w : World) (base : Nat) (spare : Nat → Bool) (held : Bool) (u : TypeId) (v : Value) : Prop := ∃ n y, DataW.trod enc P w base spare held n u [v] = some y

theorem leaves_fields {d : Nat} {cs : List Value} {n : Nat}
    (ih : ∀ (t : TypeId) (ts : List TypeId) (fuel : Nat) (cs : List Value) (x : DataW H × List MemPlace), leaves P d t = some ts → ts.length = cs.length → DataW.trod enc P w base spare held fuel t cs = some x →
      ∀ (j : Nat) (v : Value) (u : TypeId), cs[j]? = some v → ts[j]? = some u → LeafAt enc P w base spare held u v) :
    ∀ (fs : List Field) (acc ts : List TypeId), (∀ f ∈ fs, ∃ y, DataW.trod enc P w base spare held n f.type ((cs.drop f.offset).take (P.cellsOf f.type)) = some y) →
      fs.foldlM (fun acc f => (leaves P d f.type).bind fun l => if f.offset = acc.length ∧ l.length = P.cellsOf f.type then some (acc ++ l) else none) acc = some ts →
      ts.length ≤ cs.length →
      (∀ (j : Nat) (v : Value) (u : TypeId), cs[j]? = some v → acc[j]? = some u → LeafAt enc P w base spare held u v) →
      (∀ (j : Nat) (v : Value) (u : TypeId), cs[j]? = some v → ts[j]? = some u → LeafAt enc P w base spare held u v) := by
  intro fs
  induction fs with
  | nil =>
    intro acc ts _ h _ ha
    simp at h
    subst h
    exact ha
  | cons f fs hfs =>
    intro acc ts hall h hlen ha
    simp only [List.foldlM_cons, Option.bind_eq_bind, Option.bind_eq_some_iff] at h
    obtain ⟨acc', ⟨l, hl, hif⟩, hrest⟩ := h
    split at hif
    · rename_i hc
      obtain ⟨ho, hlc⟩ := hc
      simp only [Option.some.injEq] at hif
      subst hif
      have hmono : ∀ (fs : List Field) (a b : List TypeId), fs.foldlM (fun acc f => (leaves P d f.type).bind fun l => if f.offset = acc.length ∧ l.length = P.cellsOf f.type then some (acc ++ l) else none) a = some b → a.length ≤ b.length := by
        intro fs
        induction fs with
        | nil => intro a b h; simp at h; subst h; exact Nat.le_refl _
        | cons f fs ih2 =>
          intro a b h
          simp only [List.foldlM_cons, Option.bind_eq_bind, Option.bind_eq_some_iff] at h
          obtain ⟨a', ⟨l, _, hif⟩, hr⟩ := h
          split at hif
          · simp only [Option.some.injEq] at hif
            subst hif
            have := ih2 _ _ hr
            simp at this
            omega
          · cases hif
      have hacc := hmono _ _ _ hrest
      refine hfs (acc ++ l) ts (fun g hg => hall g (List.mem_cons_of_mem _ hg)) hrest hlen ?_
      intro j v u hv hu
      rw [List.getElem?_append] at hu
      split at hu
      · exact ha j v u hv hu
      · rename_i hj
        obtain ⟨y, hy⟩ := hall f List.mem_cons_self
        rw [List.length_append] at hacc
        refine ih f.type l n _ y hl ?_ hy (j - acc.length) v u ?_ hu
        · rw [List.length_take, List.length_drop]; omega
        · have hjl : j - acc.length < l.length := (List.getElem?_eq_some_iff.1 hu).1
          rw [List.getElem?_take, if_pos (by omega), List.getElem?_drop, ho, show acc.length + (j - acc.length) = j by omega]
          exact hv
    · cases hif

theorem leaves_trod : ∀ (d : Nat) (t : TypeId) (ts : List TypeId) (fuel : Nat) (cs : List Value) (x : DataW H × List MemPlace), leaves P d t = some ts → ts.length = cs.length → DataW.trod enc P w base spare held fuel t cs = some x →
    ∀ (j : Nat) (v : Value) (u : TypeId), cs[j]? = some v → ts[j]? = some u → LeafAt enc P w base spare held u v := by
  intro d
  induction d with
  | zero => intro t ts fuel cs x h; simp [leaves] at h
  | succ d ih =>
    intro t ts fuel cs x h hlen ht
    unfold leaves at h
    split at h
    · rename_i fs hu
      obtain ⟨xs, n, _, _, hcl, hxl, hf⟩ := DataW.trod_struct hu ht
      refine leaves_fields (n := n) ih fs.toList [] ts ?_ h (by omega) (by simp)
      intro f hfm
      obtain ⟨i, hi, he⟩ := List.getElem_of_mem hfm
      have h1 := hf i f (by rw [← Array.getElem?_toList, List.getElem?_eq_getElem hi, he])
      have : i < xs.length := by rw [hxl]; simpa using hi
      exact ⟨xs[i], by rw [h1, List.getElem?_eq_getElem this]⟩
    · rename_i m e hu
      obtain ⟨xs, n, _, _, hcl, hxl, hf⟩ := DataW.trod_array hu ht
      simp only [Option.bind_eq_some_iff] at h
      obtain ⟨l, hl, hif⟩ := h
      split at hif
      · rename_i hc
        simp only [Option.some.injEq] at hif
        subst hif
        intro j v u hv hu'
        have hjl : j < (List.replicate m l).flatten.length := (List.getElem?_eq_some_iff.1 hu').1
        have hfl : ∀ k, (List.replicate k l).flatten.length = k * l.length := by
          intro k; simp
        rw [hfl] at hjl
        have hl0 : 0 < l.length := by
          rcases Nat.eq_zero_or_pos l.length with h0 | h0
          · rw [h0] at hjl; simp at hjl
          · exact h0
        have hi : j / l.length < m := by rw [Nat.div_lt_iff_lt_mul hl0]; exact hjl
        have hmod := Nat.mod_lt j hl0
        have hjd := Nat.div_add_mod j l.length
        have hget : ∀ (k j : Nat), j < k * l.length → (List.replicate k l).flatten[j]? = l[j % l.length]? := by
          intro k
          induction k with
          | zero => intro j hj; simp at hj
          | succ k ihk =>
            intro j hj
            rw [List.replicate_succ, List.flatten_cons, List.getElem?_append]
            split
            · rename_i h1; rw [Nat.mod_eq_of_lt h1]
            · rename_i h1
              rw [ihk (j - l.length) (by rw [Nat.succ_mul] at hj; omega)]
              rw [← Nat.mod_eq_sub_mod (show l.length ≤ j by omega)]
        rw [hget m j hjl] at hu'
        have h1 := hf (j / l.length) hi
        have hxi : j / l.length < xs.length := by omega
        rw [List.getElem?_eq_getElem hxi] at h1
        have hsz : (j / l.length) * P.cellsOf e + P.cellsOf e ≤ cs.length := by
          rw [← hlen, hfl, ← hc]
          calc (j / l.length) * l.length + l.length = (j / l.length + 1) * l.length := by rw [Nat.succ_mul]
            _ ≤ m * l.length := Nat.mul_le_mul_right _ hi
        refine ih e l n _ _ hl ?_ h1 (j % l.length) v u ?_ hu'
        · rw [List.length_take, List.length_drop]; omega
        · rw [List.getElem?_take, if_pos (by omega), List.getElem?_drop, ← hc, ← hv]
          congr 1
          rw [Nat.mul_comm]; exact hjd
      · cases hif
    · rename_i hu1 hu2 hs
      simp only [Option.some.injEq] at h
      subst h
      intro j v u hv hu'
      have hc1 : cs.length = 1 := by simpa using hlen.symm
      match cs, hc1 with
      | [c], _ =>
        match j with
        | 0 =>
          simp at hv hu'
          subst hv; subst hu'
          exact ⟨fuel, x, ht⟩
        | j + 1 => simp at hv
    · cases h
theorem LeafAt.int {u : TypeId} {v : Value} {k : IntKind} (h : LeafAt enc P w base spare held u v) (hu : P.underlying u = some (.int k)) : ∃ n, v = .int k n ∧ (Lit.int k n).wf = true := by
  obtain ⟨n, y, hy⟩ := h
  obtain ⟨m, h1, _, h2⟩ := DataW.trod_int hu hy
  simp at h1
  exact ⟨m, h1, h2⟩
theorem LeafAt.string {u : TypeId} {v : Value} (h : LeafAt enc P w base spare held u v) (hu : P.underlying u = some .string) : ∃ s, v = .string s ∧ s.size ≤ maxLen := by
  obtain ⟨n, y, hy⟩ := h
  obtain ⟨m, h1, _, h2⟩ := DataW.trod_string hu hy
  simp at h1
  exact ⟨m, h1, h2⟩
theorem LeafAt.bool {u : TypeId} {v : Value} (h : LeafAt enc P w base spare held u v) (hu : P.underlying u = some .bool) : ∃ b, v = .bool b := by
  obtain ⟨n, y, hy⟩ := h
  obtain ⟨m, h1, _⟩ := DataW.trod_bool hu hy
  simp at h1
  exact ⟨m, h1⟩

theorem flatten_get {α : Type} {sz : Nat} (h0 : 0 < sz) : ∀ (xs : List (List α)), (∀ x ∈ xs, x.length = sz) → ∀ j, xs.flatten[j]? = (xs[j / sz]?).bind fun x => x[j % sz]? := by
  intro xs
  induction xs with
  | nil => intro _ j; simp
  | cons x xs ih =>
    intro hx j
    have hxl := hx x List.mem_cons_self
    rw [List.flatten_cons, List.getElem?_append]
    split
    · rename_i h1
      rw [Nat.div_eq_of_lt (by omega), Nat.mod_eq_of_lt (by omega)]
      simp
    · rename_i h1
      rw [ih (fun y hy => hx y (List.mem_cons_of_mem _ hy)), hxl]
      have h2 : j / sz = (j - sz) / sz + 1 := by
        rw [Nat.div_eq_sub_div h0 (by omega)]
      rw [h2, List.getElem?_cons_succ, ← Nat.mod_eq_sub_mod (show sz ≤ j by omega)]
theorem flatten_length {α : Type} {sz : Nat} : ∀ (xs : List (List α)), (∀ x ∈ xs, x.length = sz) → xs.flatten.length = xs.length * sz := by
  intro xs
  induction xs with
  | nil => intro _; simp
  | cons x xs ih =>
    intro hx
    rw [List.flatten_cons, List.length_append, ih (fun y hy => hx y (List.mem_cons_of_mem _ hy)), hx x List.mem_cons_self, List.length_cons, Nat.succ_mul, Nat.add_comm]
theorem add_eq (b off : Nat) (j : Nat) : (⟨b, off, none⟩ : Addr).add j = ⟨b, off + j, none⟩ := by
  unfold Addr.add
  split
  · rename_i h0; subst h0; rfl
  · rfl

/-- A slice that came in: its row, element by element: each element's cells read by the element's type. -/
theorem open_row {t e : TypeId} {fuel : Nat} {A : Option Addr} {n c : Nat} {x : DataW H × List MemPlace} (ht : P.underlying t = some (.slice e)) (h : DataW.trod enc P w base spare held fuel t [.slice A n c] = some x) :
    n ≤ c ∧ c ≤ maxLen ∧ ∃ xs : List (List Value), xs.length = n ∧ (∀ cs ∈ xs, cs.length = P.cellsOf e ∧ ∃ m y, DataW.trod enc P w base spare held m e cs = some y) ∧ (xs.flatten ≠ [] → ∃ b off : Nat, A = some ⟨b, off, none⟩ ∧ ∀ j u, xs.flatten[j]? = some u → w.cell? ⟨b, off + j, none⟩ = some u) := by
  rcases Deep.open_slice ht h with ⟨hcs, _⟩ | ⟨a, len, cap, m, n', D, Pl, hcs, _, hl, hm, hmm, _, hi⟩
  · simp at hcs
    obtain ⟨rfl, rfl, rfl⟩ := hcs
    exact ⟨Nat.le_refl _, Nat.zero_le _, [], rfl, by simp, by simp⟩
  · simp at hcs
    obtain ⟨rfl, rfl, rfl⟩ := hcs
    have hnm : n ≤ m := by rw [hmm]; split <;> omega
    refine ⟨hl, hm, (List.range n).map fun i => ((w.cells? base (a.add (i * P.cellsOf e)) (P.cellsOf e)).getD []), by simp, ?_, ?_⟩
    · intro cs hcs
      simp only [List.mem_map, List.mem_range] at hcs
      obtain ⟨i, hin, rfl⟩ := hcs
      obtain ⟨cs', h1, h2⟩ := hi i (by omega)
      rw [h1]
      exact ⟨(World.cells?_some h1).2.1, n', _, h2⟩
    · intro hne
      have hall : ∀ y ∈ (List.range n).map (fun i => ((w.cells? base (a.add (i * P.cellsOf e)) (P.cellsOf e)).getD [])), y.length = P.cellsOf e := by
        intro y hy
        simp only [List.mem_map, List.mem_range] at hy
        obtain ⟨i, hin, rfl⟩ := hy
        obtain ⟨cs', h1, _⟩ := hi i (by omega)
        rw [h1]
        exact (World.cells?_some h1).2.1
      have hlen0 := flatten_length _ hall
      have hpos : 0 < n * P.cellsOf e := by
        rcases Nat.eq_zero_or_pos (n * P.cellsOf e) with h0 | h0
        · exfalso
          apply hne
          apply List.eq_nil_of_length_eq_zero
          rw [hlen0]
          simpa using h0
        · exact h0
      have hsz : 0 < P.cellsOf e := Nat.pos_of_mul_pos_left hpos
      have hn0 : 0 < n := Nat.pos_of_mul_pos_right hpos
      obtain ⟨b, off, spot⟩ := a
      have hs : spot = none := by
        obtain ⟨cs', h1, _⟩ := hi 0 (by omega)
        obtain ⟨_, hl1, hc1⟩ := World.cells?_some h1
        have h2 := hc1 0 hsz
        have h3 : ((⟨b, off, spot⟩ : Addr).add (0 * P.cellsOf e)).add 0 = ⟨b, off, spot⟩ := by simp [Addr.add]
        rw [h3, List.getElem?_eq_getElem (by omega)] at h2
        exact spot_none h2
      subst hs
      refine ⟨b, off, rfl, fun j u hu => ?_⟩
      rw [flatten_get hsz _ hall] at hu
      simp only [Option.bind_eq_some_iff, List.getElem?_map, Option.map_eq_some_iff] at hu
      obtain ⟨y, ⟨i, hir, rfl⟩, hy⟩ := hu
      have hrl := List.getElem?_eq_some_iff.1 hir
      obtain ⟨hir1, hir2⟩ := hrl
      simp at hir1 hir2
      subst hir2
      obtain ⟨cs', h1, _⟩ := hi (j / P.cellsOf e) (by omega)
      rw [h1] at hy
      simp only [Option.getD_some] at hy
      obtain ⟨_, hl1, hc1⟩ := World.cells?_some h1
      have h2 := hc1 (j % P.cellsOf e) (Nat.mod_lt _ hsz)
      rw [add_eq, add_eq, hy] at h2
      have hjd := Nat.div_add_mod j (P.cellsOf e)
      rw [show off + j = off + j / P.cellsOf e * P.cellsOf e + j % P.cellsOf e by rw [Nat.mul_comm (j / P.cellsOf e)]; omega]
      exact h2
/-- The same, the elements decoded. -/
theorem open_rowOf {α : Type} {cells : α → List Value} {Ok : α → Prop} {t e : TypeId} {fuel : Nat} {A : Option Addr} {n c : Nat} {x : DataW H × List MemPlace} (ht : P.underlying t = some (.slice e)) (h : DataW.trod enc P w base spare held fuel t [.slice A n c] = some x)
    (hdec : ∀ cs, cs.length = P.cellsOf e → (∃ m y, DataW.trod enc P w base spare held m e cs = some y) → ∃ a, cs = cells a ∧ Ok a) :
    n ≤ c ∧ c ≤ maxLen ∧ ∃ xs : List α, xs.length = n ∧ Row w A (xs.flatMap cells) ∧ ∀ a ∈ xs, Ok a := by
  obtain ⟨h1, h2, ys, hl, hall, hrow⟩ := open_row ht h
  have hd : ∀ (ys : List (List Value)), (∀ cs ∈ ys, cs.length = P.cellsOf e ∧ ∃ m y, DataW.trod enc P w base spare held m e cs = some y) → ∃ xs : List α, xs.length = ys.length ∧ ys = xs.map cells ∧ ∀ a ∈ xs, Ok a := by
    intro ys
    induction ys with
    | nil => intro _; exact ⟨[], rfl, rfl, by simp⟩
    | cons cs ys ih =>
      intro hy
      obtain ⟨a, ha, hok⟩ := hdec cs (hy cs List.mem_cons_self).1 (hy cs List.mem_cons_self).2
      obtain ⟨xs, hxl, hxe, hxo⟩ := ih (fun c hc => hy c (List.mem_cons_of_mem _ hc))
      exact ⟨a :: xs, by simp [hxl], by simp [ha, hxe], by simpa using ⟨hok, hxo⟩⟩
  obtain ⟨xs, hxl, hxe, hxo⟩ := hd ys hall
  refine ⟨h1, h2, xs, by omega, ?_, hxo⟩
  intro hne
  have hf : ys.flatten = xs.flatMap cells := by rw [hxe, List.flatMap]
  rw [← hf] at hne
  obtain ⟨b, off, hA, hc⟩ := hrow hne
  exact ⟨b, off, hA, fun j u hu => hc j u (by rw [hf]; exact hu)⟩
end
end Go.Proofs.Ytpgffckfbgfgcaa
/-
  Rows of bytes that come in as arguments.
-/
set_option maxRecDepth 100000
namespace Go.Proofs.Ytpgffckfbgfgcaa
open Go.RowKit Go.ChangeShapes Go.WideShapes Go.ChangeAt

section
variable {H : Type} {enc : TypeId × Value → H} {w : World} {base : Nat} {spare : Nat → Bool} {held : Bool}
theorem open_byte (cs : List Value) (hl : cs.length = Try.prog.cellsOf 5) (h : ∃ m y, DataW.trod enc Try.prog w base spare held m 5 cs = some y) : ∃ c : UInt8, cs = [bc c] ∧ True := by
  obtain ⟨fuel, x, h⟩ := h
  rw [show Try.prog.cellsOf 5 = 1 by kernel_rfl] at hl
  have hlv : leaves Try.prog 4 5 = some [5] := by kernel_rfl
  have hh := leaves_trod 4 _ _ _ _ _ hlv (by simpa using hl.symm) h
  match cs, hl with
  | [v0], _ =>
    obtain ⟨n, rfl, b⟩ := (hh 0 v0 _ rfl rfl).int Try.underlying5
    simp only [Lit.wf, Bool.and_eq_true, decide_eq_true_eq] at b
    have b0 : (0 : Int) ≤ n := b.1
    have b1 : n ≤ (255 : Int) := b.2
    refine ⟨UInt8.ofNat n.toNat, ?_, trivial⟩
    have : ((UInt8.ofNat n.toNat).toNat : Int) = n := by simp; omega
    simp [bc]
    omega
theorem open_bytes {fuel : Nat} {A : Option Addr} {n c : Nat} {x : DataW H × List MemPlace} (h : DataW.trod enc Try.prog w base spare held fuel 34 [.slice A n c] = some x) : ∃ l : List UInt8, l.length = n ∧ n ≤ c ∧ c ≤ maxLen ∧ Row w A (l.map bc) := by
  obtain ⟨h1, h2, xs, h3, h4, _⟩ := open_rowOf (cells := fun c : UInt8 => [bc c]) (Ok := fun _ => True) Try.underlying34 h (fun cs hl hh => open_byte cs hl hh)
  refine ⟨xs, h3, h1, h2, ?_⟩
  have : xs.flatMap (fun c : UInt8 => [bc c]) = xs.map bc := by
    clear h3 h4
    induction xs with
    | nil => rfl
    | cons a xs ih => simp [ih]
  rw [← this]
  exact h4
theorem open_none {t e : TypeId} {fuel : Nat} {A : Option Addr} {n c : Nat} {x : DataW H × List MemPlace} (ht : Try.prog.underlying t = some (.slice e)) (h : DataW.trod enc Try.prog w base spare held fuel t [.slice A n c] = some x) : A = none → c = 0 := by
  intro hA
  rcases Deep.open_slice ht h with ⟨hcs, _⟩ | ⟨a, len, cap, m, n', D, Pl, hcs, _⟩
  · simp at hcs
    exact hcs.2.2
  · simp at hcs
    rw [hA] at hcs
    simp at hcs
theorem open_bytesV {fuel : Nat} {A : Option Addr} {n c : Nat} {x : DataW H × List MemPlace} (h : DataW.trod enc Try.prog w base spare held fuel 34 [.slice A n c] = some x) : ∃ l : List UInt8, BytesV w (.slice A n c) l := by
  obtain ⟨l, rfl, h1, h2, h3⟩ := open_bytes h
  exact ⟨l, A, c, rfl, h1, h2, open_none Try.underlying34 h, h3⟩
theorem open_oneBytes (cs : List Value) (h : ∃ m y, DataW.trod enc Try.prog w base spare held m 34 cs = some y) : ∃ a : Value × List UInt8, cs = [a.1] ∧ BytesV w a.1 a.2 := by
  obtain ⟨fuel, x, h⟩ := h
  rcases Deep.open_slice Try.underlying34 h with ⟨hcs, _⟩ | ⟨a, len, cap, m, n', D, Pl, hcs, _⟩
  · subst hcs
    obtain ⟨l, hl⟩ := open_bytesV h
    exact ⟨(_, l), rfl, hl⟩
  · subst hcs
    obtain ⟨l, hl⟩ := open_bytesV h
    exact ⟨(_, l), rfl, hl⟩
end
end Go.Proofs.Ytpgffckfbgfgcaa
/-
  Arguments that are rows of structs, or structs with rows, as trees: opened down to their cells.
-/
set_option maxRecDepth 100000
set_option linter.unusedSimpArgs false
set_option linter.unusedVariables false
namespace Go.Proofs.Ytpgffckfbgfgcaa.A
open Go.RowKit Go.ChangeShapes Go.WideShapes Go.ChangeAt

section
variable {H : Type} {enc : TypeId × Value → H} {w : World} {base : Nat} {spare : Nat → Bool} {held : Bool}
theorem wfIn {a : Int} (h : (Lit.int .i64 a).wf = true) : InR .i64 a := by
  have := bounds_i64 h
  simp only [InR, lo, hi]
  omega
theorem open_rows {α : Type} {abs : α → List Abs} {Ok : α → Prop} {s : Nat} : ∀ {ys : List (List Value)}, (∀ cs ∈ ys, cs.length = s ∧ ∃ a, reps [] w (abs a) cs ∧ Ok a) → ∃ xs : List α, repss [] w s (xs.map abs) ys.flatten ∧ xs.length = ys.length ∧ ∀ a ∈ xs, Ok a
  | [], _ => ⟨[], rfl, rfl, by simp⟩
  | cs :: ys, h => by
    obtain ⟨h1, a, h2, h3⟩ := h cs List.mem_cons_self
    obtain ⟨xs, h4, h5, h6⟩ := open_rows (ys := ys) fun c hc => h c (List.mem_cons_of_mem _ hc)
    exact ⟨a :: xs, ⟨cs, _, rfl, h1, h2, h4⟩, by simp [h5], by simpa using ⟨h3, h6⟩⟩
/-- A slice that came in, as a tree. -/
theorem open_slA {α : Type} {abs : α → List Abs} {Ok : α → Prop} {t e : TypeId} {s : Nat} {v : Value} (ht : Try.prog.underlying t = some (.slice e)) (hs : Try.prog.cellsOf e = s) (h : LeafAt enc Try.prog w base spare held t v)
    (hdec : ∀ cs, cs.length = Try.prog.cellsOf e → (∃ m y, DataW.trod enc Try.prog w base spare held m e cs = some y) → ∃ a, reps [] w (abs a) cs ∧ Ok a) :
    ∃ xs : List α, rep [] w (.sl s (xs.map abs)) v ∧ ∀ a ∈ xs, Ok a := by
  obtain ⟨fuel, x, h⟩ := h
  obtain ⟨A, n, c, rfl⟩ : ∃ A n c, v = .slice A n c := by
    rcases Deep.open_slice ht h with ⟨hcs, _⟩ | ⟨a, len, cap, m, n', D, Pl, hcs, _⟩
    · simp at hcs; exact ⟨_, _, _, hcs⟩
    · simp at hcs; exact ⟨_, _, _, hcs⟩
  obtain ⟨h1, h2, ys, h3, h4, h5⟩ := open_row ht h
  obtain ⟨xs, h6, h7, h8⟩ := open_rows (abs := abs) (Ok := Ok) (s := s) (w := w) (ys := ys) fun cs hc => ⟨by rw [← hs]; exact (h4 cs hc).1, hdec cs (h4 cs hc).1 (h4 cs hc).2⟩
  refine ⟨xs, ⟨ys.flatten, ⟨⟨A, c, ?_, ?_, h2, open_none ht h⟩, fun hn => ?_⟩, h6⟩, h8⟩
  · rw [List.length_map, h7, h3]
  · rw [List.length_map, h7, h3]; exact h1
  · obtain ⟨b, off, rfl, hc⟩ := h5 hn
    exact ⟨b, off, _, _, rfl, by simp, hc⟩
theorem open_u8 : ∀ {cs : List Value}, (∀ v ∈ cs, LeafAt enc Try.prog w base spare held 5 v) → ∃ d : List UInt8, cs = d.map bc
  | [], _ => ⟨[], rfl⟩
  | v :: cs, h => by
    obtain ⟨d, rfl⟩ := open_u8 (cs := cs) fun x hx => h x (List.mem_cons_of_mem _ hx)
    obtain ⟨m, y, hy⟩ := h v List.mem_cons_self
    obtain ⟨c, hc, _⟩ := open_byte [v] (by rw [show Try.prog.cellsOf 5 = 1 by kernel_rfl]; rfl) ⟨m, y, hy⟩
    simp at hc
    exact ⟨c :: d, by rw [hc]; rfl⟩
theorem reps_dig {K : List Nat} (d : List UInt8) : reps K w (digA d) (d.map bc) := by
  have : digA d = (d.map bc).map .v := by simp [digA]
  rw [this]
  exact reps_plain.2 rfl
theorem ent_leavesA : leaves Try.prog 4 150 = some [3, 2, 3, 9, 2, 2, 9, 148] := by kernel_rfl
theorem open_entA (cs : List Value) (hl : cs.length = Try.prog.cellsOf 150) (h : ∃ m y, DataW.trod enc Try.prog w base spare held m 150 cs = some y) : ∃ e : Ent, reps [] w (e.cells.map .v) cs ∧ e.Lits := by
  obtain ⟨fuel, x, h⟩ := h
  rw [show Try.prog.cellsOf 150 = 8 by kernel_rfl] at hl
  have hh := leaves_trod 4 _ _ _ _ _ ent_leavesA (by simpa using hl.symm) h
  match cs, hl with
  | [v0, v1, v2, v3, v4, v5, v6, v7], _ =>
    obtain ⟨n0, rfl, b0⟩ := (hh 0 v0 _ rfl rfl).int Try.underlying3
    obtain ⟨n1, rfl, b1⟩ := (hh 1 v1 _ rfl rfl).int Try.underlying2
    obtain ⟨n2, rfl, b2⟩ := (hh 2 v2 _ rfl rfl).int Try.underlying3
    obtain ⟨s3, rfl, b3⟩ := (hh 3 v3 _ rfl rfl).string Try.underlying9
    obtain ⟨n4, rfl, b4⟩ := (hh 4 v4 _ rfl rfl).int Try.underlying2
    obtain ⟨n5, rfl, b5⟩ := (hh 5 v5 _ rfl rfl).int Try.underlying2
    obtain ⟨s6, rfl, b6⟩ := (hh 6 v6 _ rfl rfl).string Try.underlying9
    obtain ⟨n7, rfl, b7⟩ := (hh 7 v7 _ rfl rfl).int Try.underlying148
    simp only [Lit.wf, Bool.and_eq_true, decide_eq_true_eq] at b7
    have c0 : (0 : Int) ≤ n7 := b7.1
    have c1 : n7 ≤ (4294967295 : Int) := b7.2
    obtain ⟨m, rfl⟩ : ∃ m : Nat, n7 = m := ⟨n7.toNat, by omega⟩
    exact ⟨⟨⟨n0, n1, n2, s3, n4, n5, s6⟩, m⟩, reps_plain.2 rfl, ⟨wfIn b0, wfIn b1, wfIn b2, wfIn b4, wfIn b5, b3, b6, by show m < 4294967296; omega⟩⟩
theorem open_entsA {v : Value} (h : LeafAt enc Try.prog w base spare held 22 v) : ∃ es : List Ent, rep [] w (entsA es) v ∧ ∀ e ∈ es, e.Lits :=
  open_slA (abs := fun e : Ent => e.cells.map .v) (Ok := Ent.Lits) Try.underlying22 (by kernel_rfl) h open_entA
theorem pnt_leaves : leaves Try.prog 4 171 = some (2 :: List.replicate 32 5) := by kernel_rfl
theorem open_pnt (cs : List Value) (hl : cs.length = Try.prog.cellsOf 171) (h : ∃ m y, DataW.trod enc Try.prog w base spare held m 171 cs = some y) : ∃ p : Pnt, reps [] w p.abs cs ∧ InR .i64 p.seq := by
  obtain ⟨fuel, x, h⟩ := h
  rw [show Try.prog.cellsOf 171 = 33 by kernel_rfl] at hl
  have hh := leaves_trod 4 _ _ _ _ _ pnt_leaves (by simpa using hl.symm) h
  match cs, hl with
  | v0 :: cs, hl =>
    obtain ⟨n0, rfl, b0⟩ := (hh 0 v0 _ rfl rfl).int Try.underlying2
    have hl2 : cs.length = 32 := by simpa using hl
    obtain ⟨d, rfl⟩ := open_u8 (cs := cs) fun v hv => by
      obtain ⟨j, hj, rfl⟩ := List.getElem_of_mem hv
      exact hh (j + 1) cs[j] _ (by rw [List.getElem?_cons_succ, List.getElem?_eq_getElem hj]) (by rw [List.getElem?_cons_succ, List.getElem?_replicate, if_pos (by omega)])
    exact ⟨⟨n0, d, by simpa using hl2⟩, ⟨_, _, rfl, rfl, reps_dig d⟩, wfIn b0⟩
theorem prf_leaves : leaves Try.prog 4 176 = some [2, 2, 22] := by kernel_rfl
theorem open_prf (cs : List Value) (hl : cs.length = Try.prog.cellsOf 176) (h : ∃ m y, DataW.trod enc Try.prog w base spare held m 176 cs = some y) : ∃ p : Prf, reps [] w p.abs cs ∧ p.Lits := by
  obtain ⟨fuel, x, h⟩ := h
  rw [show Try.prog.cellsOf 176 = 3 by kernel_rfl] at hl
  have hh := leaves_trod 4 _ _ _ _ _ prf_leaves (by simpa using hl.symm) h
  match cs, hl with
  | [v0, v1, v2], _ =>
    obtain ⟨n0, rfl, b0⟩ := (hh 0 v0 _ rfl rfl).int Try.underlying2
    obtain ⟨n1, rfl, b1⟩ := (hh 1 v1 _ rfl rfl).int Try.underlying2
    obtain ⟨es, he, hs⟩ := open_entsA (hh 2 v2 _ rfl rfl)
    exact ⟨⟨n0, n1, es⟩, ⟨_, _, rfl, rfl, _, _, rfl, rfl, _, _, rfl, he, rfl⟩, ⟨wfIn b0, wfIn b1, hs⟩⟩
theorem chg_leaves : leaves Try.prog 4 52 = some [2, 2, 49, 50, 50] := by kernel_rfl
theorem open_chg {cs : List Value} {fuel : Nat} {x : DataW H × List MemPlace} (hl : cs.length = Try.prog.cellsOf 52) (h : DataW.trod enc Try.prog w base spare held fuel 52 cs = some x) : ∃ c : Chg, reps [] w c.abs cs ∧ c.Lits := by
  rw [show Try.prog.cellsOf 52 = 5 by kernel_rfl] at hl
  have hh := leaves_trod 4 _ _ _ _ _ chg_leaves (by simpa using hl.symm) h
  match cs, hl with
  | [v0, v1, v2, v3, v4], _ =>
    obtain ⟨n0, rfl, b0⟩ := (hh 0 v0 _ rfl rfl).int Try.underlying2
    obtain ⟨n1, rfl, b1⟩ := (hh 1 v1 _ rfl rfl).int Try.underlying2
    obtain ⟨ps, hp, hps⟩ := open_slA (abs := Pnt.abs) (Ok := fun p => InR .i64 p.seq) Try.underlying49 (by kernel_rfl) (hh 2 v2 _ rfl rfl) open_pnt
    obtain ⟨ps1, ha, has⟩ := open_slA (abs := Prf.abs) (Ok := Prf.Lits) Try.underlying50 (by kernel_rfl) (hh 3 v3 _ rfl rfl) open_prf
    obtain ⟨bs, hb, hbs⟩ := open_slA (abs := Prf.abs) (Ok := Prf.Lits) Try.underlying50 (by kernel_rfl) (hh 4 v4 _ rfl rfl) open_prf
    exact ⟨⟨n0, n1, ps, ps1, bs⟩, ⟨_, _, rfl, rfl, _, _, rfl, rfl, _, _, rfl, hp, _, _, rfl, ha, _, _, rfl, hb, rfl⟩, ⟨wfIn b0, wfIn b1, hps, has, hbs⟩⟩
end
theorem _root_.Go.Proofs.Ytpgffckfbgfgcaa.IsRow.bytesA {K : List Nat} {w : World} {v : Value} {m : List UInt8} (h : IsRow K w v m.length (m.map bc)) : BytesV w v m := by
  obtain ⟨A, c, rfl, h1, h2, h3⟩ := h.shape
  refine ⟨A, c, rfl, h1, h2, h3, fun hn => ?_⟩
  obtain ⟨b, off, n', c', hv, _, hc⟩ := h.cells hn
  simp at hv
  obtain ⟨rfl, _, _⟩ := hv
  exact ⟨b, off, rfl, hc⟩
/-- A row of bytes as a text. -/
theorem Val.strOf {n : Nat} {W : Wd} {σ : Blks} {l : Slots} {X : List Nat} {x : Operand} {d : Option Nat} {ty : TypeId} {pos : String} {aft : Array Edge} {gq : Option (Nat × Bool)} {m : List UInt8} (hx : look l x = some (byt m)) : Val Try.prog n W σ l X ⟨d, .convert 34 9 x, ty, pos, aft, gq⟩ (.v (.string ⟨m.toArray⟩)) := fun a w hs hX => ⟨_, rfl, fun w' hw' => by
  have h1 := rep_byt.1 (hs.eval hx)
  have h2 := (Carry.of_ext hw' (K := mids σ ++ W.G) (K' := mids σ ++ W.G) (fun k hk => .inl (List.mem_append_left _ (hX k hk))) (fun k hk => .inl hk)).row h1
  have := conv_txtE h2.bytesA
  simp [execOp, this, Result.andThen]⟩
/-- A law's walk, as a call in a world. -/
theorem law_of {f : FuncId} {args : List Abs} (h : Pure Try.prog f args (boo true)) {w : World} {vals : List Value} (hv : reps [] w args vals) : Calls Try.prog f vals.toArray w fun e w' => e = .returned (.bool true) ∧ Ext [] w w' := by
  have hm : Mem w (mids []) [] [] w := ⟨Ext.refl w, by simp [mids], by simp, by simp, by simp, by simp [mids], by simp⟩
  refine (h [] w vals hm hv).mono fun e w' ⟨z, r, he, _, h1, h2⟩ => ⟨?_, h1.ext⟩
  have h2 : r = .bool true := h2
  rw [he, h2]
end Go.Proofs.Ytpgffckfbgfgcaa.A
/-
  Changes: what the law asks ahead of all.
-/
set_option maxRecDepth 100000
set_option linter.unusedSimpArgs false
set_option linter.unusedVariables false
namespace Go.Proofs.Ytpgffckfbgfgcaa.A
open Go.RowKit

theorem take_all {α : Type} {Q : α → Prop} {xs : List α} {k : Nat} (h : ∀ a ∈ xs.take k, Q a) (hk : k < xs.length) (h1 : Q xs[k]) : ∀ a ∈ xs.take (k + 1), Q a := by
  intro a ha
  rw [List.take_succ_eq_append_getElem hk] at ha
  rcases List.mem_append.1 ha with ha | ha
  · exact h a ha
  · rw [List.mem_singleton.1 ha]; exact h1
theorem take_full {α : Type} {Q : α → Prop} {xs : List α} {k : Nat} (h : ∀ a ∈ xs.take k, Q a) (hk : xs.length ≤ k) : ∀ a ∈ xs, Q a := by
  rw [List.take_of_length_le hk] at h
  exact h
def EFew (e : Ent) : Prop := e.core.letter.size ≤ 100 ∧ e.core.text.size ≤ 300
def PFew (p : Prf) : Prop := p.batch.length ≤ 10 ∧ ∀ e ∈ p.batch, EFew e
def RFew (ps : List Prf) : Prop := ps.length ≤ 80 ∧ ∀ p ∈ ps, PFew p
def Chg.Asked (c : Chg) : Prop := RFew c.prepared ∧ RFew c.proposed ∧ c.points.length ≤ 20
def Chg.rows (c : Chg) : List (List Prf) := [c.prepared, c.proposed]
theorem rows_length (c : Chg) : c.rows.length = 2 := rfl
theorem EFew.bytes {e : Ent} (h : EFew e) : e.bytes.length ≤ 439 := by
  have := Ent.bytes_length e
  have h1 := h.1
  have h2 := h.2
  omega
theorem flat_length {α : Type} {f : α → List UInt8} {B : Nat} : ∀ {xs : List α}, (∀ x ∈ xs, (f x).length ≤ B) → (xs.flatMap f).length ≤ xs.length * B
  | [], _ => by simp
  | x :: xs, h => by
    have h1 := flat_length (xs := xs) fun y hy => h y (List.mem_cons_of_mem _ hy)
    have h2 := h x List.mem_cons_self
    rw [List.flatMap_cons, List.length_append, List.length_cons, Nat.succ_mul]
    omega
theorem PFew.bytes {p : Prf} (h : PFew p) : p.bytes.length ≤ 4412 := by
  have h1 := flat_length (f := Ent.bytes) (B := 439) (xs := p.batch) fun e he => (h.2 e he).bytes
  have h2 := h.1
  have h3 : p.batch.length * 439 ≤ 10 * 439 := Nat.mul_le_mul_right _ h2
  have h4 := long8_length [p.seq, p.view]
  simp only [List.length_cons, List.length_nil] at h4
  unfold Prf.bytes rowB batchB
  simp only [List.length_append, beBytes_length]
  omega
theorem RFew.bytes {ps : List Prf} (h : RFew ps) : (prfsB ps).length ≤ 352962 := by
  have h1 := flat_length (f := Prf.bytes) (B := 4412) (xs := ps) fun e he => (h.2 e he).bytes
  have h3 : ps.length * 4412 ≤ 80 * 4412 := Nat.mul_le_mul_right _ h.1
  unfold prfsB
  rw [List.length_append, beBytes_length]
  omega
theorem Chg.Asked.bytes {c : Chg} (h : c.Asked) : c.bytes.length ≤ 800000 := by
  have h1 := h.1.bytes
  have h2 := h.2.1.bytes
  have h3 := h.2.2
  have h4 : (c.points.take c.points.length).length ≤ 20 := by rw [List.length_take]; omega
  unfold Chg.bytes Chg.head
  simp only [List.length_append, long8_length, beBytes_length, pnts_length, List.length_cons, List.length_nil]
  omega
theorem RFew.few {ps : List Prf} (h : RFew ps) (hs : ∀ p ∈ ps, p.Lits) : ∀ p ∈ ps, p.Few := fun p hp =>
  ⟨(h.2 p hp).1, fun e he => by
    have h1 := (h.2 p hp).2 e he
    exact ⟨((hs p hp).all e he).mask, by have := h1.1; omega, by have := h1.2; omega⟩⟩
theorem Chg.Asked.few {c : Chg} (h : c.Asked) (hs : c.Lits) : c.Few :=
  ⟨by have := h.2.2; omega, by have := h.1.1; omega, by have := h.2.1.1; omega, h.1.few hs.prep, h.2.1.few hs.prop⟩
theorem RFew.long {ps : List Prf} (h : RFew ps) : Long ps := ⟨by have := h.1; omega, fun p hp => by have := (h.2 p hp).1; omega⟩
theorem RFew.lets {ps : List Prf} (h : RFew ps) : Lets ps := fun p hp e he => by
  have := ((h.2 p hp).2 e he).1
  unfold lots
  omega
/-- A change that is not too great to be asked whether it may be. -/
structure Chg.Sized (c : Chg) : Prop where
  pts : c.points.length < 9223372036854775807
  prep : Long c.prepared
  prop : Long c.proposed
structure Chg.Fit (c : Chg) : Prop extends c.Sized where
  lprep : Lets c.prepared
  lprop : Lets c.proposed
theorem Chg.Asked.sized {c : Chg} (h : c.Asked) : c.Sized := ⟨by have := h.2.2; omega, h.1.long, h.2.1.long⟩
theorem Chg.Asked.fit {c : Chg} (h : c.Asked) : c.Fit := ⟨h.sized, h.1.lets, h.2.1.lets⟩
section
variable {c : Chg}
set_option maxHeartbeats 2000000 in
theorem few_s  : Spec Try.prog 38 [.agg c.abs] [] (fun _ : {b : Bool // b = true → c.Asked} => []) (fun z => boo z.1) := by
  have hrl := rows_length c
  refine spec_of Try.func38 rfl Try.ntmps38 rfl fun G w => ?_
  refine SC.seq (SC.region ?_)
  refine SL.eff (Eff.boxA rfl) rfl rfl ?_
  rintro _ _ ⟨b1, rfl, rfl⟩
  refine SL.val (Val.assign rfl) rfl rfl ?_
  refine SL.nil (SE.seq ?_)
  refine SC.seq ?_
  refine SC.seq (SC.region ?_)
  refine SL.val (Val.fieldAddr tabOk rfl rfl rfl rfl rfl) rfl rfl ?_
  refine SL.val (Val.load1 tabOk rfl rfl (by first|(apply Or.inl;(repeat first|assumption|exact m0|apply m1);done)|(apply Or.inr;(repeat first|assumption|exact m0|apply m1);done)) List.not_mem_nil (by rfl)) rfl rfl ?_
  refine SL.val (Val.fieldAddr tabOk rfl rfl rfl rfl rfl) rfl rfl ?_
  refine SL.val (Val.load1 tabOk rfl rfl (by first|(apply Or.inl;(repeat first|assumption|exact m0|apply m1);done)|(apply Or.inr;(repeat first|assumption|exact m0|apply m1);done)) List.not_mem_nil (by rfl)) rfl rfl ?_
  refine SL.eff (Eff.buildSl tabOk Try.underlying174 rfl rfl rfl rfl rfl rfl rfl) rfl rfl ?_
  rintro _ _ ⟨rfl, rfl⟩
  refine SL.val (Val.lenSl (m := 2) rfl Try.underlying174 rfl) rfl rfl ?_
  refine SL.val (Val.move rfl) rfl rfl ?_
  refine SL.nil (SE.seq ?_)
  refine SC.block ?_
  refine SC.loop (ι := Nat) (fun z => [.blk b1 52 c.abs]) (fun z => [(1, ptr b1), (13, .sl 1 (c.rows.map fun ps => [prfsA ps])), (14, int (2 : Nat)), (15, int (z : Nat))]) (fun z => z ≤ 2 ∧ ∀ ps ∈ c.rows.take z, RFew ps) (fun z => 2 - z) (0) (⟨Nat.zero_le _, by simp⟩) (by exact ⟨rfl, rfl, rfl, rfl, trivial⟩) (by repeat first|exact s0 _|exact s1 _|apply s2|apply s3) ?_
  intro z hz
  refine SC.seq (SC.region ?_)
  refine SL.val (Val.ltI rfl rfl) rfl rfl ?_
  refine SL.nil (SE.seq ?_)
  refine SC.seq ?_
  refine SC.condP rfl ?_ ?_
  rotate_left
  · intro hc16
    refine SC.exit ?_
    refine SE.then_ (by intro h; cases h) ?_
    refine SE.then_ (by intro h; cases h) ?_
    refine SE.exit ?_
    refine SE.seq ?_
    refine SC.seq (SC.region ?_)
    refine SL.val (Val.fieldAddr tabOk rfl rfl rfl rfl rfl) rfl rfl ?_
    refine SL.val (Val.load1 tabOk rfl rfl (by first|(apply Or.inl;(repeat first|assumption|exact m0|apply m1);done)|(apply Or.inr;(repeat first|assumption|exact m0|apply m1);done)) List.not_mem_nil (by rfl)) rfl rfl ?_
    first
      | refine SL.val (Val.lenSl rfl Try.underlying49 (List.length_map _)) rfl rfl ?_
      | refine SL.val (Val.lenOwn rfl (by repeat first|assumption|exact m0|apply m1) Try.underlying49 (List.length_map _)) rfl rfl ?_
      | refine SL.val (Val.lenNil rfl Try.underlying49) rfl rfl ?_
    refine SL.val (Val.leI rfl rfl) rfl rfl ?_
    refine SL.val (Val.assign rfl) rfl rfl ?_
    refine SL.nil (SE.seq ?_)
    refine SC.ret ?_
    refine SE.fin (rs := [.tmp 2]) rfl (RV.tmp rfl RV.nil) (⟨decide ((c.points.length : Int) ≤ 20), fun h => ⟨hz.2 _ (by rw [show z = 2 by omega]; exact List.mem_cons_self), hz.2 _ (by rw [show z = 2 by omega]; exact List.mem_cons_of_mem _ List.mem_cons_self), by have h9 := of_decide_eq_true h; omega⟩⟩) (by repeat first|exact s0 _|exact s1 _|apply s2|apply s3) (by simp [It.rids]) ?_
    exact rfl
  intro hc16
  have hr : z < c.rows.length := by omega
  refine SC.skip ?_
  refine SE.seq ?_
  refine SC.seq ?_
  refine SC.block ?_
  refine SC.seq (SC.region ?_)
  refine SL.val (Val.indexSl tabOk Try.underlying174 rfl rfl rfl rfl (at_map (by omega)) rfl rfl) rfl rfl ?_
  refine SL.val (Val.load1R tabOk rfl rfl rfl) rfl rfl ?_
  refine SL.val (Val.assign rfl) rfl rfl ?_
  refine SL.nil (SE.seq ?_)
  refine SC.seq ?_
  refine SC.seq (SC.region ?_)
  refine SL.val (Val.move rfl) rfl rfl ?_
  first
    | refine SL.val (Val.lenSl rfl Try.underlying50 (List.length_map _)) rfl rfl ?_
    | refine SL.val (Val.lenOwn rfl (by repeat first|assumption|exact m0|apply m1) Try.underlying50 (List.length_map _)) rfl rfl ?_
    | refine SL.val (Val.lenNil rfl Try.underlying50) rfl rfl ?_
  refine SL.val (Val.gtI rfl rfl) rfl rfl ?_
  refine SL.nil (SE.seq ?_)
  refine SC.condP rfl ?_ ?_
  · intro hc21
    refine SC.seq (SC.region ?_)
    refine SL.val (Val.assign rfl) rfl rfl ?_
    refine SL.nil (SE.seq ?_)
    refine SC.ret ?_
    refine SE.then_ (by intro h; cases h) ?_
    refine SE.ret ?_
    refine SE.then_ (by intro h; cases h) ?_
    refine SE.then_ (by intro h; cases h) ?_
    refine SE.ret ?_
    refine SE.then_ (by intro h; cases h) ?_
    refine SE.fin (rs := [.tmp 2]) rfl (RV.tmp rfl RV.nil) (⟨false, fun h => by cases h⟩) (by repeat first|exact s0 _|exact s1 _|apply s2|apply s3) (by simp [It.rids]) ?_
    exact rfl
  intro hc21
  refine SC.skip ?_
  refine SE.seq ?_
  refine SC.seq (SC.region ?_)
  refine SL.val (Val.move rfl) rfl rfl ?_
  first
    | refine SL.val (Val.lenSl rfl Try.underlying50 (List.length_map _)) rfl rfl ?_
    | refine SL.val (Val.lenOwn rfl (by repeat first|assumption|exact m0|apply m1) Try.underlying50 (List.length_map _)) rfl rfl ?_
    | refine SL.val (Val.lenNil rfl Try.underlying50) rfl rfl ?_
  refine SL.val (Val.move rfl) rfl rfl ?_
  refine SL.nil (SE.seq ?_)
  refine SC.block ?_
  refine SC.loop (ι := Nat) (fun y => [.blk b1 52 c.abs]) (fun y => [(1, ptr b1), (13, .sl 1 (c.rows.map fun ps => [prfsA ps])), (14, int (2 : Nat)), (15, int (z : Nat)), (22, prfsA (c.rows[z]'hr)), (23, int ((c.rows[z]'hr).length : Nat)), (24, int (y : Nat))]) (fun y => y ≤ (c.rows[z]'hr).length ∧ ∀ p ∈ (c.rows[z]'hr).take y, PFew p) (fun y => (c.rows[z]'hr).length - y) (0) (⟨Nat.zero_le _, by simp⟩) (by exact ⟨rfl, rfl, rfl, rfl, rfl, rfl, rfl, trivial⟩) (by repeat first|exact s0 _|exact s1 _|apply s2|apply s3) ?_
  intro y hy
  refine SC.seq (SC.region ?_)
  refine SL.val (Val.ltI rfl rfl) rfl rfl ?_
  refine SL.nil (SE.seq ?_)
  refine SC.seq ?_
  refine SC.condP rfl ?_ ?_
  rotate_left
  · intro hc25
    refine SC.exit ?_
    refine SE.then_ (by intro h; cases h) ?_
    refine SE.then_ (by intro h; cases h) ?_
    refine SE.exit ?_
    refine SE.inBlock ?_
    refine SE.seq ?_
    refine SC.region ?_
    first
      | refine SL.val (Val.addI rfl rfl (by simp only [InR, lo, hi]; omega)) rfl rfl ?_
      | refine SL.val (Val.addW rfl rfl) rfl rfl ?_
    refine SL.val (Val.move rfl) rfl rfl ?_
    refine SL.nil ?_
    refine SE.round (z + 1) (by first | omega | (dsimp only; omega)) (⟨by omega, take_all hz.2 hr ⟨by omega, take_full hy.2 (by omega)⟩⟩) (by exact ⟨rfl, rfl, rfl, rfl, trivial⟩) (by repeat first|exact s0 _|exact s1 _|apply s2|apply s3)
  intro hc25
  have hr2 : y < (c.rows[z]'hr).length := by omega
  refine SC.skip ?_
  refine SE.seq ?_
  refine SC.seq ?_
  refine SC.block ?_
  refine SC.seq (SC.region ?_)
  refine SL.val (Val.indexSl tabOk Try.underlying50 rfl rfl rfl rfl (at_map (by omega)) rfl rfl) rfl rfl ?_
  first
    | refine SL.val (Val.loadAR tabOk rfl rfl rfl (by rfl)) rfl rfl ?_
    | refine SL.val (Val.loadPR tabOk rfl rfl rfl (Nat.le_of_ble_eq_true (by rfl))) rfl rfl ?_
  refine SL.eff (Eff.alloc tabOk rfl) rfl rfl ?_
  rintro _ _ ⟨b6, rfl, rfl⟩
  refine SL.eff (Eff.store tabOk rfl rfl rfl (by repeat first|assumption|exact Upd.here|apply Upd.there) (by rfl) (Nat.le_of_ble_eq_true (by rfl)) (by rfl) (by rfl)) rfl rfl ?_
  rintro _ _ ⟨rfl, rfl⟩
  refine SL.nil (SE.seq ?_)
  refine SC.seq ?_
  refine SC.seq (SC.region ?_)
  refine SL.val (Val.fieldAddr tabOk rfl rfl rfl rfl rfl) rfl rfl ?_
  refine SL.val (Val.load1 tabOk rfl rfl (by first|(apply Or.inl;(repeat first|assumption|exact m0|apply m1);done)|(apply Or.inr;(repeat first|assumption|exact m0|apply m1);done)) List.not_mem_nil (by rfl)) rfl rfl ?_
  first
    | refine SL.val (Val.lenSl rfl Try.underlying22 (List.length_map _)) rfl rfl ?_
    | refine SL.val (Val.lenOwn rfl (by repeat first|assumption|exact m0|apply m1) Try.underlying22 (List.length_map _)) rfl rfl ?_
    | refine SL.val (Val.lenNil rfl Try.underlying22) rfl rfl ?_
  refine SL.val (Val.gtI rfl rfl) rfl rfl ?_
  refine SL.nil (SE.seq ?_)
  refine SC.condP rfl ?_ ?_
  · intro hc31
    refine SC.seq (SC.region ?_)
    refine SL.val (Val.assign rfl) rfl rfl ?_
    refine SL.nil (SE.seq ?_)
    refine SC.ret ?_
    refine SE.then_ (by intro h; cases h) ?_
    refine SE.ret ?_
    refine SE.then_ (by intro h; cases h) ?_
    refine SE.then_ (by intro h; cases h) ?_
    refine SE.ret ?_
    refine SE.ret ?_
    refine SE.then_ (by intro h; cases h) ?_
    refine SE.then_ (by intro h; cases h) ?_
    refine SE.ret ?_
    refine SE.then_ (by intro h; cases h) ?_
    refine SE.fin (rs := [.tmp 2]) rfl (RV.tmp rfl RV.nil) (⟨false, fun h => by cases h⟩) (by repeat first|exact s0 _|exact s1 _|apply s2|apply s3) (by simp [It.rids]) ?_
    exact rfl
  intro hc31
  refine SC.skip ?_
  refine SE.seq ?_
  refine SC.seq (SC.region ?_)
  refine SL.val (Val.fieldAddr tabOk rfl rfl rfl rfl rfl) rfl rfl ?_
  refine SL.val (Val.load1 tabOk rfl rfl (by first|(apply Or.inl;(repeat first|assumption|exact m0|apply m1);done)|(apply Or.inr;(repeat first|assumption|exact m0|apply m1);done)) List.not_mem_nil (by rfl)) rfl rfl ?_
  first
    | refine SL.val (Val.lenSl rfl Try.underlying22 (List.length_map _)) rfl rfl ?_
    | refine SL.val (Val.lenOwn rfl (by repeat first|assumption|exact m0|apply m1) Try.underlying22 (List.length_map _)) rfl rfl ?_
    | refine SL.val (Val.lenNil rfl Try.underlying22) rfl rfl ?_
  refine SL.val (Val.move rfl) rfl rfl ?_
  refine SL.nil (SE.seq ?_)
  refine SC.block ?_
  refine SC.loop (ι := Nat) (fun x => [.blk b1 52 c.abs]) (fun x => [(1, ptr b1), (13, .sl 1 (c.rows.map fun ps => [prfsA ps])), (14, int (2 : Nat)), (15, int (z : Nat)), (22, prfsA (c.rows[z]'hr)), (23, int ((c.rows[z]'hr).length : Nat)), (24, int (y : Nat)), (33, entsA ((c.rows[z]'hr)[y]'hr2).batch), (34, int (((c.rows[z]'hr)[y]'hr2).batch.length : Nat)), (35, int (x : Nat))]) (fun x => x ≤ ((c.rows[z]'hr)[y]'hr2).batch.length ∧ ∀ e ∈ ((c.rows[z]'hr)[y]'hr2).batch.take x, EFew e) (fun x => ((c.rows[z]'hr)[y]'hr2).batch.length - x) (0) (⟨Nat.zero_le _, by simp⟩) (by exact ⟨rfl, rfl, rfl, rfl, rfl, rfl, rfl, rfl, rfl, rfl, trivial⟩) (by repeat first|exact s0 _|exact s1 _|apply s2|apply s3) ?_
  intro x hx
  refine SC.seq (SC.region ?_)
  refine SL.val (Val.ltI rfl rfl) rfl rfl ?_
  refine SL.nil (SE.seq ?_)
  refine SC.seq ?_
  refine SC.condP rfl ?_ ?_
  rotate_left
  · intro hc36
    refine SC.exit ?_
    refine SE.then_ (by intro h; cases h) ?_
    refine SE.then_ (by intro h; cases h) ?_
    refine SE.exit ?_
    refine SE.inBlock ?_
    refine SE.seq ?_
    refine SC.region ?_
    first
      | refine SL.val (Val.addI rfl rfl (by simp only [InR, lo, hi]; omega)) rfl rfl ?_
      | refine SL.val (Val.addW rfl rfl) rfl rfl ?_
    refine SL.val (Val.move rfl) rfl rfl ?_
    refine SL.nil ?_
    refine SE.round (y + 1) (by first | omega | (dsimp only; omega)) (⟨by omega, take_all hy.2 hr2 ⟨by omega, take_full hx.2 (by omega)⟩⟩) (by exact ⟨rfl, rfl, rfl, rfl, rfl, rfl, rfl, trivial⟩) (by repeat first|exact s0 _|exact s1 _|apply s2|apply s3)
  intro hc36
  have hr3 : x < ((c.rows[z]'hr)[y]'hr2).batch.length := by omega
  refine SC.skip ?_
  refine SE.seq ?_
  refine SC.seq ?_
  refine SC.block ?_
  refine SC.seq (SC.region ?_)
  refine SL.val (Val.indexSl tabOk Try.underlying22 rfl rfl rfl rfl (at_map (by omega)) rfl rfl) rfl rfl ?_
  first
    | refine SL.val (Val.loadAR tabOk rfl rfl rfl (by rfl)) rfl rfl ?_
    | refine SL.val (Val.loadPR tabOk rfl rfl rfl (Nat.le_of_ble_eq_true (by rfl))) rfl rfl ?_
  refine SL.eff (Eff.alloc tabOk rfl) rfl rfl ?_
  rintro _ _ ⟨b8, rfl, rfl⟩
  refine SL.eff (Eff.store tabOk rfl rfl rfl (by repeat first|assumption|exact Upd.here|apply Upd.there) (by rfl) (Nat.le_of_ble_eq_true (by rfl)) (by rfl) (by rfl)) rfl rfl ?_
  rintro _ _ ⟨rfl, rfl⟩
  refine SL.nil (SE.seq ?_)
  refine SC.seq (SC.region ?_)
  refine SL.val (Val.fieldAddr tabOk rfl rfl rfl rfl rfl) rfl rfl ?_
  refine SL.val (Val.fieldAddr tabOk rfl rfl rfl rfl rfl) rfl rfl ?_
  refine SL.val (Val.load1 tabOk rfl rfl (by first|(apply Or.inl;(repeat first|assumption|exact m0|apply m1);done)|(apply Or.inr;(repeat first|assumption|exact m0|apply m1);done)) List.not_mem_nil (by rfl)) rfl rfl ?_
  refine SL.val (Val.lenSt rfl Try.underlying9) rfl rfl ?_
  refine SL.val (Val.gtI rfl rfl) rfl rfl ?_
  refine SL.val (Val.move rfl) rfl rfl ?_
  refine SL.bothP (t := 44) rfl ?_ ?_
  · intro hc44
    iterate 5 refine SL.skip rfl rfl ?_
    refine SL.val (Val.pickT rfl rfl) rfl rfl ?_
    refine SL.nil (SE.seq ?_)
    refine SC.condT rfl ?_
    refine SC.seq (SC.region ?_)
    refine SL.val (Val.assign rfl) rfl rfl ?_
    refine SL.nil (SE.seq ?_)
    refine SC.ret ?_
    refine SE.ret ?_
    refine SE.then_ (by intro h; cases h) ?_
    refine SE.then_ (by intro h; cases h) ?_
    refine SE.ret ?_
    refine SE.ret ?_
    refine SE.then_ (by intro h; cases h) ?_
    refine SE.then_ (by intro h; cases h) ?_
    refine SE.ret ?_
    refine SE.ret ?_
    refine SE.then_ (by intro h; cases h) ?_
    refine SE.then_ (by intro h; cases h) ?_
    refine SE.ret ?_
    refine SE.then_ (by intro h; cases h) ?_
    refine SE.fin (rs := [.tmp 2]) rfl (RV.tmp rfl RV.nil) (⟨false, fun h => by cases h⟩) (by repeat first|exact s0 _|exact s1 _|apply s2|apply s3) (by simp [It.rids]) ?_
    exact rfl
  intro hc44
  refine SL.val (Val.fieldAddr tabOk rfl rfl rfl rfl rfl) rfl rfl ?_
  refine SL.val (Val.fieldAddr tabOk rfl rfl rfl rfl rfl) rfl rfl ?_
  refine SL.val (Val.load1 tabOk rfl rfl (by first|(apply Or.inl;(repeat first|assumption|exact m0|apply m1);done)|(apply Or.inr;(repeat first|assumption|exact m0|apply m1);done)) List.not_mem_nil (by rfl)) rfl rfl ?_
  refine SL.val (Val.lenSt rfl Try.underlying9) rfl rfl ?_
  refine SL.val (Val.gtI rfl rfl) rfl rfl ?_
  refine SL.val (Val.pickF rfl rfl) rfl rfl ?_
  refine SL.nil (SE.seq ?_)
  refine SC.condP rfl ?_ ?_
  rotate_left
  · intro hc50
    refine SC.skip ?_
    refine SE.inBlock ?_
    refine SE.seq ?_
    refine SC.region ?_
    first
      | refine SL.val (Val.addI rfl rfl (by simp only [InR, lo, hi]; omega)) rfl rfl ?_
      | refine SL.val (Val.addW rfl rfl) rfl rfl ?_
    refine SL.val (Val.move rfl) rfl rfl ?_
    refine SL.nil ?_
    refine SE.round (x + 1) (by first | omega | (dsimp only; omega)) (⟨by omega, take_all hx.2 hr3 ⟨by omega, by omega⟩⟩) (by exact ⟨rfl, rfl, rfl, rfl, rfl, rfl, rfl, rfl, rfl, rfl, trivial⟩) (by repeat first|exact s0 _|exact s1 _|apply s2|apply s3)
  intro hc50
  refine SC.seq (SC.region ?_)
  refine SL.val (Val.assign rfl) rfl rfl ?_
  refine SL.nil (SE.seq ?_)
  refine SC.ret ?_
  refine SE.ret ?_
  refine SE.then_ (by intro h; cases h) ?_
  refine SE.then_ (by intro h; cases h) ?_
  refine SE.ret ?_
  refine SE.ret ?_
  refine SE.then_ (by intro h; cases h) ?_
  refine SE.then_ (by intro h; cases h) ?_
  refine SE.ret ?_
  refine SE.ret ?_
  refine SE.then_ (by intro h; cases h) ?_
  refine SE.then_ (by intro h; cases h) ?_
  refine SE.ret ?_
  refine SE.then_ (by intro h; cases h) ?_
  refine SE.fin (rs := [.tmp 2]) rfl (RV.tmp rfl RV.nil) (⟨false, fun h => by cases h⟩) (by repeat first|exact s0 _|exact s1 _|apply s2|apply s3) (by simp [It.rids]) ?_
  exact rfl
def p0 : Pnt := ⟨0, List.replicate 32 0, by simp⟩
def c0 : Chg := ⟨1, 0, [p0], [], []⟩
def c1 : Chg := ⟨1, 0, [p0], [⟨9, 0, []⟩], []⟩
theorem c0_lits : c0.Lits := ⟨by simp only [InR, lo, hi, c0]; omega, by simp only [InR, lo, hi, c0]; omega, by
  intro p hp
  have : p = p0 := by simpa [c0] using hp
  subst this
  simp only [InR, lo, hi, p0]; omega, by simp [c0], by simp [c0]⟩
theorem c0_few : c0.Few := ⟨by simp [c0], by simp [c0], by simp [c0], by simp [c0], by simp [c0]⟩
theorem rises_nil {α : Type} {p : α → α → Bool} : Rises p [] := fun j h => by simp at h
theorem c0_right : c0.Right 4 := by
  refine ⟨by simp [c0], by simp [c0], ?_, ⟨by simp [c0], by simp [c0], ?_, ?_, fun j h => ?_⟩, ⟨by simp [c0], rises_nil, by simp [c0]⟩, ⟨by simp [c0], rises_nil, by simp [c0]⟩⟩
  · simp [isMark, isSeq, c0]
  · intro p hp
    have : p0 = p := by simpa [c0] using hp
    subst this
    rfl
  · intro p hp
    have : p = p0 := by simpa [c0] using hp
    subst this
    simp [isMark, isSeq, p0]
  · exfalso
    simp [c0] at h
theorem c0_check : c0.check 4 = 0 := by
  unfold Chg.check
  rw [if_neg (by omega), yes_iff.2 c0_right]
  rfl
theorem c1_check : c1.check 4 = 2 := by
  unfold Chg.check
  have h : ¬ c1.Right 4 := fun h => by
    have h1 := h.2.2.2.2.1.2.2 ⟨9, 0, []⟩ (by simp [c1])
    have h2 := h1.2.1
    simp [c1] at h2
  rw [if_neg (by omega), no_iff.2 h]
  rfl
theorem c0_length : c0.bytes.length = 62 := by
  unfold Chg.bytes Chg.head prfsB
  simp only [List.length_append, long8_length, beBytes_length, pnts_length, List.length_take, List.length_cons, List.length_nil, c0, List.flatMap_nil]
  omega
theorem c0_back : parseC c0.bytes 4 = (c0, 0) := chg_back c0_lits c0_check (by rw [c0_length]; omega)
theorem long_nil : Long [] := ⟨by simp, by simp⟩
set_option maxHeartbeats 2000000 in
theorem fixed18_s  : Spec Try.prog 37 [] [] (fun _ : Unit => []) (fun _ => boo true) := by
  have hck := c0_check
  have hvw : c0.view = 1 := rfl
  have hln := c0_length
  refine spec_of Try.func37 rfl Try.ntmps37 rfl fun G w => ?_
  refine SC.seq (SC.region ?_)
  refine SL.val (Val.assign rfl) rfl rfl ?_
  refine SL.nil (SE.seq ?_)
  refine SC.seq (SC.region ?_)
  refine SL.val (Val.buildS (L := p0.abs) tabOk rfl rfl rfl (by rfl)) rfl rfl ?_
  refine SL.eff (Eff.buildSl tabOk Try.underlying49 rfl rfl rfl (elems_one (Pnt.size p0)) rfl rfl rfl) rfl rfl ?_
  rintro _ _ ⟨rfl, rfl⟩
  refine SL.val (Val.buildS tabOk rfl rfl rfl rfl) rfl rfl ?_
  refine SL.eff (Eff.alloc tabOk rfl) rfl rfl ?_
  rintro _ _ ⟨b1, rfl, rfl⟩
  refine SL.eff (Eff.store tabOk rfl rfl rfl (by repeat first|assumption|exact Upd.here|apply Upd.there) (by rfl) (Nat.le_of_ble_eq_true (by rfl)) (by rfl) (by rfl)) rfl rfl ?_
  rintro _ _ ⟨rfl, rfl⟩
  refine SL.nil (SE.seq ?_)
  refine SC.seq (SC.region ?_)
  first
    | refine SL.val (Val.loadA tabOk rfl rfl rfl (by first|(apply Or.inl;(repeat first|assumption|exact m0|apply m1);done)|(apply Or.inr;(repeat first|assumption|exact m0|apply m1);done)) List.not_mem_nil (by rfl)) rfl rfl ?_
    | refine SL.val (Val.loadP tabOk rfl rfl rfl (by first|(apply Or.inl;(repeat first|assumption|exact m0|apply m1);done)|(apply Or.inr;(repeat first|assumption|exact m0|apply m1);done)) List.not_mem_nil (Nat.le_of_ble_eq_true (by rfl))) rfl rfl ?_
  refine SL.call (bytes_s (c := c0) c0_few) (Casts.cons (cast_agg (Casts.keep (Casts.keep (Casts.keep (Casts.nils (s := 3) (Casts.nils (s := 3) Casts.refl)))))) Casts.refl) (by kernel_rfl) rfl rfl rfl ?_
  refine After.pure (by repeat first|exact .nil|refine .blk (by repeat first|assumption|exact m0|apply m1) ?_|refine .rd (by repeat first|assumption|exact m0|apply m1) ?_|refine .pc (by repeat first|assumption|exact m0|apply m1) ?_|refine .rdpc (by repeat first|assumption|exact m0|apply m1) ?_) (fun _ => rfl) ?_
  intro _
  refine SL.call ((by have h := parse_s (l := c0.bytes) (n := 4) (by omega); rw [c0_back] at h; exact h : Pure Try.prog 124 [byt c0.bytes, int 4] (.tup [.agg c0.abs, int 0]))) Casts.refl (by kernel_rfl) rfl rfl rfl ?_
  refine After.pure (by repeat first|exact .nil|refine .blk (by repeat first|assumption|exact m0|apply m1) ?_|refine .rd (by repeat first|assumption|exact m0|apply m1) ?_|refine .pc (by repeat first|assumption|exact m0|apply m1) ?_|refine .rdpc (by repeat first|assumption|exact m0|apply m1) ?_) (fun _ => rfl) ?_
  intro _
  refine SL.val (Val.move rfl) rfl rfl ?_
  refine SL.val (Val.extract rfl rfl) rfl rfl ?_
  refine SL.val (Val.extract rfl rfl) rfl rfl ?_
  refine SL.eff (Eff.alloc tabOk rfl) rfl rfl ?_
  rintro _ _ ⟨b2, rfl, rfl⟩
  refine SL.eff (Eff.store tabOk rfl rfl rfl (by repeat first|assumption|exact Upd.here|apply Upd.there) (by rfl) (Nat.le_of_ble_eq_true (by rfl)) (by rfl) (by rfl)) rfl rfl ?_
  rintro _ _ ⟨rfl, rfl⟩
  refine SL.val (Val.assign rfl) rfl rfl ?_
  refine SL.nil (SE.seq ?_)
  refine SC.seq (SC.region ?_)
  refine SL.val (Val.buildS tabOk rfl rfl rfl rfl) rfl rfl ?_
  refine SL.cast (t := 13) (.agg (Prf.abs ⟨9, 0, []⟩)) rfl (cast_agg (Casts.keep (Casts.keep (Casts.nils (s := 8) Casts.refl)))) ?_
  refine SL.eff (Eff.buildSl tabOk Try.underlying50 rfl rfl rfl rfl rfl rfl rfl) rfl rfl ?_
  rintro _ _ ⟨rfl, rfl⟩
  refine SL.val (Val.fieldAddr tabOk rfl rfl rfl rfl rfl) rfl rfl ?_
  first
    | refine SL.eff (Eff.store tabOk rfl rfl rfl (by repeat first|assumption|exact Upd.here|apply Upd.there) (by rfl) (Nat.le_of_ble_eq_true (by rfl)) (by rfl) (by rfl)) rfl rfl ?_
    | refine SL.eff (Eff.storeOwn tabOk rfl rfl rfl rfl (by repeat first|assumption|exact m0|apply m1) (by repeat first|assumption|exact Upd.here|apply Upd.there) rfl (by rfl)) rfl rfl ?_
  rintro _ _ ⟨rfl, rfl⟩
  refine SL.nil (SE.seq ?_)
  refine SC.seq (SC.region ?_)
  first
    | refine SL.val (Val.loadA tabOk rfl rfl rfl (by first|(apply Or.inl;(repeat first|assumption|exact m0|apply m1);done)|(apply Or.inr;(repeat first|assumption|exact m0|apply m1);done)) List.not_mem_nil (by rfl)) rfl rfl ?_
    | refine SL.val (Val.loadP tabOk rfl rfl rfl (by first|(apply Or.inl;(repeat first|assumption|exact m0|apply m1);done)|(apply Or.inr;(repeat first|assumption|exact m0|apply m1);done)) List.not_mem_nil (Nat.le_of_ble_eq_true (by rfl))) rfl rfl ?_
  refine SL.call (bytes_s (c := c0) c0_few) Casts.refl (by kernel_rfl) rfl rfl rfl ?_
  refine After.pure (by repeat first|exact .nil|refine .blk (by repeat first|assumption|exact m0|apply m1) ?_|refine .rd (by repeat first|assumption|exact m0|apply m1) ?_|refine .pc (by repeat first|assumption|exact m0|apply m1) ?_|refine .rdpc (by repeat first|assumption|exact m0|apply m1) ?_) (fun _ => rfl) ?_
  intro _
  first
    | refine SL.val (Val.lenSl rfl Try.underlying34 (List.length_map _)) rfl rfl ?_
    | refine SL.val (Val.lenOwn rfl (by repeat first|assumption|exact m0|apply m1) Try.underlying34 (List.length_map _)) rfl rfl ?_
    | refine SL.val (Val.lenNil rfl Try.underlying34) rfl rfl ?_
  refine SL.val (Val.eqI rfl rfl) rfl rfl ?_
  refine SL.val (Val.move rfl) rfl rfl ?_
  refine SL.bothP (t := 20) rfl ?_ (by intro hc20; exfalso; omega)
  intro hc20
  refine SL.val (Val.move rfl) rfl rfl ?_
  refine SL.val (Val.eqI rfl rfl) rfl rfl ?_
  refine SL.val (Val.pickT rfl rfl) rfl rfl ?_
  refine SL.val (Val.move rfl) rfl rfl ?_
  refine SL.bothP (t := 24) rfl ?_ (by intro hc24; exfalso; omega)
  intro hc24
  refine SL.val (Val.fieldAddr tabOk rfl rfl rfl rfl rfl) rfl rfl ?_
  refine SL.val (Val.load1 tabOk rfl rfl (by first|(apply Or.inl;(repeat first|assumption|exact m0|apply m1);done)|(apply Or.inr;(repeat first|assumption|exact m0|apply m1);done)) List.not_mem_nil (by rfl)) rfl rfl ?_
  refine SL.val (Val.eqI rfl rfl) rfl rfl ?_
  refine SL.val (Val.pickT rfl rfl) rfl rfl ?_
  refine SL.val (Val.move rfl) rfl rfl ?_
  refine SL.bothP (t := 29) rfl ?_ (by intro hc29; exfalso; omega)
  intro hc29
  first
    | refine SL.val (Val.loadA tabOk rfl rfl rfl (by first|(apply Or.inl;(repeat first|assumption|exact m0|apply m1);done)|(apply Or.inr;(repeat first|assumption|exact m0|apply m1);done)) List.not_mem_nil (by rfl)) rfl rfl ?_
    | refine SL.val (Val.loadP tabOk rfl rfl rfl (by first|(apply Or.inl;(repeat first|assumption|exact m0|apply m1);done)|(apply Or.inr;(repeat first|assumption|exact m0|apply m1);done)) List.not_mem_nil (Nat.le_of_ble_eq_true (by rfl))) rfl rfl ?_
  refine SL.call (check_s (c := c0) (n := 4) long_nil long_nil (by simp [c0])) Casts.refl (by kernel_rfl) rfl rfl rfl ?_
  refine After.pure (by repeat first|exact .nil|refine .blk (by repeat first|assumption|exact m0|apply m1) ?_|refine .rd (by repeat first|assumption|exact m0|apply m1) ?_|refine .pc (by repeat first|assumption|exact m0|apply m1) ?_|refine .rdpc (by repeat first|assumption|exact m0|apply m1) ?_) (fun _ => rfl) ?_
  intro _
  refine SL.val (Val.eqI rfl rfl) rfl rfl ?_
  refine SL.val (Val.pickT rfl rfl) rfl rfl ?_
  refine SL.val (Val.move rfl) rfl rfl ?_
  refine SL.bothP (t := 34) rfl ?_ (by intro hc34; exfalso; omega)
  intro hc34
  first
    | refine SL.val (Val.loadA tabOk rfl rfl rfl (by first|(apply Or.inl;(repeat first|assumption|exact m0|apply m1);done)|(apply Or.inr;(repeat first|assumption|exact m0|apply m1);done)) List.not_mem_nil (by rfl)) rfl rfl ?_
    | refine SL.val (Val.loadP tabOk rfl rfl rfl (by first|(apply Or.inl;(repeat first|assumption|exact m0|apply m1);done)|(apply Or.inr;(repeat first|assumption|exact m0|apply m1);done)) List.not_mem_nil (Nat.le_of_ble_eq_true (by rfl))) rfl rfl ?_
  refine SL.call (check_s (c := c1) (n := 4) ⟨by simp [c1], by simp [c1]⟩ long_nil (by simp [c1])) (Casts.cons (cast_agg (Casts.keep (Casts.keep (Casts.keep (Casts.keep (Casts.nils (s := 3) Casts.refl)))))) Casts.refl) (by kernel_rfl) rfl rfl rfl ?_
  refine After.pure (by repeat first|exact .nil|refine .blk (by repeat first|assumption|exact m0|apply m1) ?_|refine .rd (by repeat first|assumption|exact m0|apply m1) ?_|refine .pc (by repeat first|assumption|exact m0|apply m1) ?_|refine .rdpc (by repeat first|assumption|exact m0|apply m1) ?_) (fun _ => rfl) ?_
  intro _
  refine SL.val (Val.eqI rfl rfl) rfl rfl ?_
  refine SL.val (Val.pickT rfl rfl) rfl rfl ?_
  refine SL.val (Val.assign rfl) rfl rfl ?_
  refine SL.nil (SE.seq ?_)
  refine SC.ret ?_
  refine SE.fin (rs := [.tmp 0]) rfl (RV.tmp rfl RV.nil) (()) (by repeat first|exact s0 _|exact s1 _|apply s2|apply s3) (by simp [It.rids]) ?_
  exact congrArg (fun b => Abs.v (Value.bool b)) (decide_eq_true c1_check)
end
end Go.Proofs.Ytpgffckfbgfgcaa.A
