/-
  Packed out of the texts: Batch3, RdCan, Batch4, Batch5, Batch6, BatchTwo, A7, C1, Rds, Pnt, C2, C3, C4, Chg1.
-/
import Derived.Test.YtggajaigfkekhaaGreatP06
set_option maxRecDepth 100000
set_option linter.unusedSimpArgs false
set_option linter.unusedVariables false
namespace Go.Proofs.YtggajaigfkekhaaGreat
open Go.RowKit
def sg (x : Nat) : Int := IntKind.i64.wrap (x : Int)
def txtB (l : List UInt8) : ByteArray := ⟨l.toArray⟩
def Rd.c3 (s : Rd) : Rd := ((s.fixed 1).fixed 8).fixed 1
def Rd.c4 (s : Rd) (most : Int) : Rd := s.c3.row most
def Rd.c6 (s : Rd) (most : Int) : Rd := ((s.c4 most).fixed 8).fixed 8
def Rd.coreEnd (s : Rd) (most : Int) : Rd := (s.c6 most).row most
def Rd.core (s : Rd) (most : Int) : Core where
  client := s.num 1
  stamp := sg ((s.fixed 1).num 8)
  op := ((s.fixed 1).fixed 8).num 1
  letter := txtB (s.c3.rowOut most)
  a := sg ((s.c4 most).num 8)
  b := sg (((s.c4 most).fixed 8).num 8)
  text := txtB ((s.c6 most).rowOut most)
theorem Rd.row_length (s : Rd) (most : Int) : (s.row most).l.length ≤ s.l.length := by
  have h1 := s.fixed_length 4
  have h2 := (s.fixed 4).fixed_length (s.num 4)
  unfold Rd.row
  split
  · exact h1
  · split
    · exact h1
    · omega
section
variable {S : List (World × List Nat)} {σ τ : Blks} {ρ : List Dt} {w : World}
theorem Core.one (c : Core) : ∀ u ∈ c.cells, u.oneCell' = true := by
  intro u hu
  simp only [Core.cells, List.mem_cons, List.not_mem_nil, or_false] at hu
  rcases hu with rfl | rfl | rfl | rfl | rfl | rfl | rfl <;> rfl
set_option maxHeartbeats 2000000 in
theorem formed_c {v : Value} {l : List UInt8} (hw : Mem S σ ρ w) (hb : bytesD v l ∈ ρ) (hl : l.length ≤ lots) : Calls Tryz.prog 133 #[v] w fun e w' => ∃ z, e = .returned (.tuple #[.agg (((⟨z, l, 0⟩ : Rd).core (l.length : Nat)).cells).toArray, .bool (decide (((⟨z, l, 0⟩ : Rd).coreEnd (l.length : Nat)).end_ = 0))]) ∧ Mem S σ ρ w' := by
  obtain ⟨A, c, rfl, hs1, hs2, hs3⟩ := (hw.data hb).shape
  refine R_ [.slice A l.length c] Tryz.func133 rfl Tryz.ntmps133 rfl (Mem S σ ρ) hw ?_
  refine d_ (a_ ?_)
  refine am_ (H_ tabOk rfl) rfl rfl ?_
  rintro _ _ ⟨b2, rfl, rfl⟩
  refine b_ (h_ rfl) rfl rfl ?_
  refine g_ (c_ ?_)
  refine d_ (a_ ?_)
  refine b_ (k_ rfl) rfl rfl ?_
  refine t_ (by kernel_rfl) rfl rfl rfl ?_
  intro w hw
  refine (iz_ (l := l) hw hb hl).mono ?_; rintro _ _ ⟨p, z, rfl, hm⟩; have h1 := (⟨z, l, 0⟩ : Rd).fixed_length 1; have h2 := ((⟨z, l, 0⟩ : Rd).fixed 1).fixed_length 8; have h3 : ((⟨z, l, 0⟩ : Rd).c3).l.length ≤ (((⟨z, l, 0⟩ : Rd).fixed 1).fixed 8).l.length := (((⟨z, l, 0⟩ : Rd).fixed 1).fixed 8).fixed_length 1; have h4 : ((⟨z, l, 0⟩ : Rd).c4 (l.length : Nat)).l.length ≤ ((⟨z, l, 0⟩ : Rd).c3).l.length := ((⟨z, l, 0⟩ : Rd).c3).row_length _; have h5 := ((⟨z, l, 0⟩ : Rd).c4 (l.length : Nat)).fixed_length 8; have h6 : ((⟨z, l, 0⟩ : Rd).c6 (l.length : Nat)).l.length ≤ (((⟨z, l, 0⟩ : Rd).c4 (l.length : Nat)).fixed 8).l.length := (((⟨z, l, 0⟩ : Rd).c4 (l.length : Nat)).fixed 8).fixed_length 8; have n1 := (⟨z, l, 0⟩ : Rd).num_lt (n := 1) (k := 1) (Nat.le_refl _); have n2 := (((⟨z, l, 0⟩ : Rd).fixed 1).fixed 8).num_lt (n := 1) (k := 1) (Nat.le_refl _); dsimp only at h1; refine ⟨_, _, rfl, hm, ?_⟩; clear hm hw w
  refine b_ (h_ rfl) rfl rfl ?_
  refine g_ (c_ ?_)
  refine d_ (a_ ?_)
  refine am_ (H_ tabOk rfl) rfl rfl ?_
  rintro _ _ ⟨b5, rfl, rfl⟩
  refine g_ (c_ ?_)
  refine d_ (a_ ?_)
  refine b_ (k_ rfl) rfl rfl ?_
  refine t_ (by kernel_rfl) rfl rfl rfl ?_
  intro w hw
  refine (a8_ (s := (⟨z, l, 0⟩ : Rd)) (n := 1) hw (by repeat (first | assumption | exact Upd.here | exact hrep _ _ | apply Upd.there)) (by repeat (first | assumption | exact List.mem_cons_self | exact hmem _ | apply List.mem_cons_of_mem)) (by omega) rfl).mono ?_; rintro _ _ ⟨rfl, hm⟩; refine ⟨_, _, rfl, hm, ?_⟩; clear hm hw w
  refine b_ (ab_ rfl Tryz.underlying3 (by kernel_rfl) (by simp only [InR, lo, hi]; omega)) rfl rfl ?_
  refine b_ (k_ rfl) rfl rfl ?_
  refine t_ (by kernel_rfl) rfl rfl rfl ?_
  intro w hw
  refine (a8_ (s := ((⟨z, l, 0⟩ : Rd).fixed 1)) (n := 8) hw (by repeat (first | assumption | exact Upd.here | exact hrep _ _ | apply Upd.there)) (by repeat (first | assumption | exact List.mem_cons_self | exact hmem _ | apply List.mem_cons_of_mem)) (by omega) rfl).mono ?_; rintro _ _ ⟨rfl, hm⟩; refine ⟨_, _, rfl, hm, ?_⟩; clear hm hw w
  refine b_ (aV_ rfl Tryz.underlying2 (by kernel_rfl)) rfl rfl ?_
  refine b_ (k_ rfl) rfl rfl ?_
  refine t_ (by kernel_rfl) rfl rfl rfl ?_
  intro w hw
  refine (a8_ (s := (((⟨z, l, 0⟩ : Rd).fixed 1).fixed 8)) (n := 1) hw (by repeat (first | assumption | exact Upd.here | exact hrep _ _ | apply Upd.there)) (by repeat (first | assumption | exact List.mem_cons_self | exact hmem _ | apply List.mem_cons_of_mem)) (by omega) rfl).mono ?_; rintro _ _ ⟨rfl, hm⟩; refine ⟨_, _, rfl, hm, ?_⟩; clear hm hw w
  refine b_ (ab_ rfl Tryz.underlying3 (by kernel_rfl) (by simp only [InR, lo, hi]; omega)) rfl rfl ?_
  refine b_ (p_ tabOk rfl rfl rfl rfl rfl) rfl rfl ?_
  refine am_ (a9_ tabOk rfl rfl rfl rfl rfl (by repeat (first | assumption | exact Upd.here | exact hrep _ _ | apply Upd.there)) (by rfl) (by rfl)) rfl rfl ?_
  rintro _ _ ⟨rfl, rfl⟩
  refine b_ (p_ tabOk rfl rfl rfl rfl rfl) rfl rfl ?_
  refine am_ (a9_ tabOk rfl rfl rfl rfl rfl (by repeat (first | assumption | exact Upd.here | exact hrep _ _ | apply Upd.there)) (by rfl) (by rfl)) rfl rfl ?_
  rintro _ _ ⟨rfl, rfl⟩
  refine b_ (p_ tabOk rfl rfl rfl rfl rfl) rfl rfl ?_
  refine am_ (a9_ tabOk rfl rfl rfl rfl rfl (by repeat (first | assumption | exact Upd.here | exact hrep _ _ | apply Upd.there)) (by rfl) (by rfl)) rfl rfl ?_
  rintro _ _ ⟨rfl, rfl⟩
  refine g_ (c_ ?_)
  refine d_ (a_ ?_)
  iterate 2 refine b_ (k_ rfl) rfl rfl ?_
  refine b_ (w_ rfl Tryz.underlying27) rfl rfl ?_
  refine t_ (by kernel_rfl) rfl rfl rfl ?_
  intro w hw
  refine (row_c (s := ((⟨z, l, 0⟩ : Rd).c3)) (most := (l.length : Nat)) hw (by repeat (first | assumption | exact Upd.here | exact hrep _ _ | apply Upd.there)) (by repeat (first | assumption | exact List.mem_cons_self | exact hmem _ | apply List.mem_cons_of_mem)) (by omega) (by unfold lots at hl; omega)).mono ?_; rintro _ _ ⟨r, rfl, hm⟩; refine ⟨_, _, rfl, hm, ?_⟩; clear hm hw w
  refine b_ (dg_ rfl (by repeat (first | assumption | exact List.mem_cons_self | exact hmem _ | apply List.mem_cons_of_mem))) rfl rfl ?_
  refine b_ (p_ tabOk rfl rfl rfl rfl rfl) rfl rfl ?_
  refine am_ (a9_ tabOk rfl rfl rfl rfl rfl (by repeat (first | assumption | exact Upd.here | exact hrep _ _ | apply Upd.there)) (by rfl) (by rfl)) rfl rfl ?_
  rintro _ _ ⟨rfl, rfl⟩
  refine g_ (c_ ?_)
  refine d_ (a_ ?_)
  refine b_ (k_ rfl) rfl rfl ?_
  refine t_ (by kernel_rfl) rfl rfl rfl ?_
  intro w hw
  refine (a8_ (s := ((⟨z, l, 0⟩ : Rd).c4 (l.length : Nat))) (n := 8) hw (by repeat (first | assumption | exact Upd.here | exact hrep _ _ | apply Upd.there)) (by repeat (first | assumption | exact List.mem_cons_self | exact hmem _ | apply List.mem_cons_of_mem)) (by omega) rfl).mono ?_; rintro _ _ ⟨rfl, hm⟩; refine ⟨_, _, rfl, hm, ?_⟩; clear hm hw w
  refine b_ (aV_ rfl Tryz.underlying2 (by kernel_rfl)) rfl rfl ?_
  refine b_ (k_ rfl) rfl rfl ?_
  refine t_ (by kernel_rfl) rfl rfl rfl ?_
  intro w hw
  refine (a8_ (s := (((⟨z, l, 0⟩ : Rd).c4 (l.length : Nat)).fixed 8)) (n := 8) hw (by repeat (first | assumption | exact Upd.here | exact hrep _ _ | apply Upd.there)) (by repeat (first | assumption | exact List.mem_cons_self | exact hmem _ | apply List.mem_cons_of_mem)) (by omega) rfl).mono ?_; rintro _ _ ⟨rfl, hm⟩; refine ⟨_, _, rfl, hm, ?_⟩; clear hm hw w
  refine b_ (aV_ rfl Tryz.underlying2 (by kernel_rfl)) rfl rfl ?_
  refine b_ (p_ tabOk rfl rfl rfl rfl rfl) rfl rfl ?_
  refine am_ (a9_ tabOk rfl rfl rfl rfl rfl (by repeat (first | assumption | exact Upd.here | exact hrep _ _ | apply Upd.there)) (by rfl) (by rfl)) rfl rfl ?_
  rintro _ _ ⟨rfl, rfl⟩
  refine b_ (p_ tabOk rfl rfl rfl rfl rfl) rfl rfl ?_
  refine am_ (a9_ tabOk rfl rfl rfl rfl rfl (by repeat (first | assumption | exact Upd.here | exact hrep _ _ | apply Upd.there)) (by rfl) (by rfl)) rfl rfl ?_
  rintro _ _ ⟨rfl, rfl⟩
  refine g_ (c_ ?_)
  refine d_ (a_ ?_)
  iterate 2 refine b_ (k_ rfl) rfl rfl ?_
  refine b_ (w_ rfl Tryz.underlying27) rfl rfl ?_
  refine t_ (by kernel_rfl) rfl rfl rfl ?_
  intro w hw
  refine (row_c (s := ((⟨z, l, 0⟩ : Rd).c6 (l.length : Nat))) (most := (l.length : Nat)) hw (by repeat (first | assumption | exact Upd.here | exact hrep _ _ | apply Upd.there)) (by repeat (first | assumption | exact List.mem_cons_self | exact hmem _ | apply List.mem_cons_of_mem)) (by omega) (by unfold lots at hl; omega)).mono ?_; rintro _ _ ⟨r, rfl, hm⟩; refine ⟨_, _, rfl, hm, ?_⟩; clear hm hw w
  refine b_ (dg_ rfl (by repeat (first | assumption | exact List.mem_cons_self | exact hmem _ | apply List.mem_cons_of_mem))) rfl rfl ?_
  refine b_ (p_ tabOk rfl rfl rfl rfl rfl) rfl rfl ?_
  refine am_ (a9_ tabOk rfl rfl rfl rfl rfl (by repeat (first | assumption | exact Upd.here | exact hrep _ _ | apply Upd.there)) (by rfl) (by rfl)) rfl rfl ?_
  rintro _ _ ⟨rfl, rfl⟩
  refine SL.to (C' := Mem S (.blk b5 (row 79 ((⟨z, l, 0⟩ : Rd).core (l.length : Nat)).cells) :: rdI 169 p ((⟨z, l, 0⟩ : Rd).coreEnd (l.length : Nat)) :: .blk b2 (row 79 [.int .i64 0, .int .i64 0, .int .i64 0, .string ⟨#[]⟩, .int .i64 0, .int .i64 0, .string ⟨#[]⟩]) :: σ) _) (fun _ h => h) ?_
  refine g_ (c_ ?_)
  refine d_ ?_
  refine U_ (Mem S [.blk b5 (row 79 ((⟨z, l, 0⟩ : Rd).core (l.length : Nat)).cells)] _) (.q 0 (.q 1 (.e 2 (.q 3 (.e 4 (.q 5 .nil)))))) (by kernel_rfl) (by kernel_rfl) (fun _ h => h.sub (fun _ h => h) (List.sublist_append_left [_] _)) (fun _ h => h.drew) ?_
  refine l_ rfl (x_ tabOk rfl rfl rfl (by repeat (first | assumption | exact List.mem_cons_self | exact hmem _ | apply List.mem_cons_of_mem)) (by rfl)) rfl rfl ?_
  refine l_ rfl (k_ rfl) rfl rfl ?_
  refine J_ rfl (by kernel_rfl) rfl rfl rfl ?_
  intro w hw
  refine (end_c (s := (⟨z, l, 0⟩ : Rd).coreEnd (l.length : Nat)) hw (by repeat (first | assumption | exact List.mem_cons_self | exact hmem _ | apply List.mem_cons_of_mem)) (by repeat (first | assumption | exact List.mem_cons_self | exact hmem _ | apply List.mem_cons_of_mem))).mono ?_; rintro _ _ ⟨rfl, hm⟩; refine ⟨_, _, rfl, hm, _, fun _ h => h, fun _ h => h.sub (fun _ h => h) (List.sublist_append_left [_] _), ?_⟩; clear hm hw w
  refine l_ rfl (aD_ rfl rfl) rfl rfl ?_
  refine dI_ rfl (bQ_ (L' := ((⟨z, l, 0⟩ : Rd).core (l.length : Nat)).cells) (vs := ((⟨z, l, 0⟩ : Rd).core (l.length : Nat)).cells) tabOk rfl rfl rfl (by repeat (first | assumption | exact Upd.here | exact hrep _ _ | apply Upd.there)) (by rfl) (Nat.le_of_ble_eq_true (by rfl)) (Core.one _) (by rfl)) rfl rfl ?_
  rintro _ _ ⟨rfl, rfl⟩
  refine ⟨_, fun _ h => h, fun _ h => h.sub (fun _ h => h) (List.sublist_append_left [_] _), ?_⟩
  refine l_ rfl (h_ rfl) rfl rfl ?_
  refine I_ (c_ ?_)
  refine n_ ?_
  refine g6_ (rs := [.cell 2 79, .tmp 3]) rfl (RV.cell rfl (fun w hw => RV.loadA tabOk rfl rfl hw (by repeat (first | assumption | exact List.mem_cons_self | exact hmem _ | apply List.mem_cons_of_mem)) (by rfl)) (RV.tmp rfl RV.nil)) ?_
  intro w' hw'
  refine ⟨z, rfl, (hw'.sub (fun _ h => h) (List.sublist_append_right [_, _, _] _)).less ?_⟩
  intro x hx
  simp [hx]
end
section
variable {s t : Rd}
theorem Rd.as.c3 (h : s.as t) : s.c3.as t.c3 := ((h.fixed 1).fixed 8).fixed 1
theorem Rd.as.c4 (h : s.as t) (m : Int) : (s.c4 m).as (t.c4 m) := h.c3.row m
theorem Rd.as.c6 (h : s.as t) (m : Int) : (s.c6 m).as (t.c6 m) := ((h.c4 m).fixed 8).fixed 8
theorem Rd.as.coreEnd (h : s.as t) (m : Int) : (s.coreEnd m).as (t.coreEnd m) := (h.c6 m).row m
theorem Rd.as.core (h : s.as t) (m : Int) : s.core m = t.core m := by
  unfold Rd.core
  rw [h.num, (h.fixed 1).num, ((h.fixed 1).fixed 8).num, h.c3.rowOut, (h.c4 m).num, ((h.c4 m).fixed 8).num, (h.c6 m).rowOut]
end
def coreOf (l : List UInt8) (most : Int) : Core := (Rd.of l).core most
def okOf (l : List UInt8) (most : Int) : Bool := decide (((Rd.of l).coreEnd most).end_ = 0)
def Rd.ents (most : Int) : Nat → Rd → List Ent → Option (List Ent × Rd)
  | 0, s, acc => some (acc, s)
  | m + 1, s, acc => if okOf (s.rowOut most) (s.rowOut most).length = false then none else Rd.ents most m ((s.row most).fixed 1) (acc ++ [⟨coreOf (s.rowOut most) (s.rowOut most).length, (s.row most).num 1⟩])
def parse2 (n : Int) : Option (List Ent × Rd) → List Ent × Int
  | none => ([], 2)
  | some (es, s) => if s.end_ ≠ 0 then ([], 2) else if chkB es n ≠ 0 then ([], chkB es n) else (es, 0)
def manyOf (l : List UInt8) : Nat := min ((Rd.of l).num 2) (l.length + 1)
def parseS (l : List UInt8) (n : Int) : List Ent × Int := parse2 n (Rd.ents l.length (manyOf l) ((Rd.of l).fixed 2) [])
theorem iY_ {n most : Int} : ∀ (m : Nat) (acc : List Ent) {s t : Rd}, s.as t → parse2 n (s.ents most m acc) = parse2 n (t.ents most m acc)
  | 0, acc, s, t, h => by simp only [Rd.ents, parse2, h.end_]
  | m + 1, acc, s, t, h => by
    simp only [Rd.ents, h.rowOut]
    split
    · rfl
    · rw [(h.row most).num]
      exact iY_ m _ ((h.row most).fixed 1)
section
variable {S : List (World × List Nat)} {σ τ : Blks} {ρ : List Dt} {w : World}
abbrev ownE (v : Value) (es : List Ent) : It := .pc (ownPc 82 8 v es.length (es.flatMap Ent.cells))
theorem et_ {v : Value} {es : List Ent} {n : Int} (hw : Mem S σ ρ w) (ho : ownE v es ∈ σ) (hl : es.length ≤ 1000000) : Calls Tryz.prog 102 #[v, .int .i64 n] w fun e w' => e = .returned (.int .i64 (chkB es n)) ∧ Mem S σ ρ w' :=
  (dF_ ((Mem.start w).add (z := entsD v es) (ownsRow.isRow (hw.hold _ ho) (by simp))) List.mem_cons_self hl).mono fun _ _ ⟨h1, h2⟩ => ⟨h1, hw.same (h2.ext _ List.mem_cons_self)⟩
theorem Mem.nilE (h : Mem S σ ρ w) : Mem S (ownE (.slice none 0 0) [] :: σ) ρ w := h.own0 82 8
set_option maxHeartbeats 4000000 in
theorem iH_ {v : Value} {l : List UInt8} {n : Int} (hw : Mem S σ ρ w) (hb : bytesD v l ∈ ρ) (hl : l.length ≤ 10000000) : Calls Tryz.prog 109 #[v, .int .i64 n] w fun e w' => ∃ r, e = .returned (.tuple #[r, .int .i64 (parseS l n).2]) ∧ Mem S (ownE r (parseS l n).1 :: σ) ρ w' := by
  have hL : lots = 100000000000 := rfl
  have hll : l.length ≤ lots := by omega
  obtain ⟨A, c, rfl, hs1, hs2, hs3⟩ := (hw.data hb).shape
  refine R_ [.slice A l.length c, .int .i64 n] Tryz.func109 rfl Tryz.ntmps109 rfl (Mem S σ ρ) hw ?_
  refine d_ (a_ ?_)
  iterate 2 refine b_ (h_ rfl) rfl rfl ?_
  refine g_ (c_ ?_)
  refine d_ (a_ ?_)
  refine b_ (k_ rfl) rfl rfl ?_
  refine t_ (by kernel_rfl) rfl rfl rfl ?_
  intro w hw
  refine (iz_ (l := l) hw hb (by unfold lots; omega)).mono ?_; rintro _ _ ⟨p, z, rfl, hm⟩; have n1 := (Rd.of l).num_lt (n := 2) (k := 2) (Nat.le_refl _); refine ⟨_, _, rfl, hm, ?_⟩; clear hm hw w
  refine b_ (h_ rfl) rfl rfl ?_
  refine g_ (c_ ?_)
  refine d_ (a_ ?_)
  refine b_ (h_ rfl) rfl rfl ?_
  refine SL.to (fun _ h => Mem.nilE h) ?_
  refine g_ (c_ ?_)
  refine d_ ?_
  refine d_ (a_ ?_)
  refine b_ (k_ rfl) rfl rfl ?_
  refine t_ (by kernel_rfl) rfl rfl rfl ?_
  intro w hw
  refine (a8_ (s := ⟨z, l, 0⟩) (n := 2) hw (by repeat (first | assumption | exact Upd.here | exact hrep _ _ | apply Upd.there)) (by repeat (first | assumption | exact List.mem_cons_self | exact hmem _ | apply List.mem_cons_of_mem)) hll rfl).mono ?_; rintro _ _ ⟨he, hm⟩; rw [(of_as z l).num 2] at he; subst he; refine ⟨_, _, rfl, hm, ?_⟩; clear hm hw w
  refine b_ (ab_ rfl Tryz.underlying3 (by kernel_rfl) (by simp only [InR, lo, hi]; omega)) rfl rfl ?_
  refine b_ (k_ rfl) rfl rfl ?_
  refine b_ (w_ rfl Tryz.underlying27) rfl rfl ?_
  refine b_ (v_ rfl rfl (by simp only [InR, lo, hi]; omega)) rfl rfl ?_
  refine b_ (Val.minN (j := l.length + 1) rfl rfl (by simp)) rfl rfl ?_
  refine b_ (k_ rfl) rfl rfl ?_
  refine g_ (c_ ?_)
  refine u_ ?_
  refine W_ (ι := Rd × List Ent × Nat × Value) (fun z => [(0, .slice A l.length c), (1, .int .i64 n), (6, .pointer (some ⟨p, 0, none⟩)), (7, z.2.2.2), (19, .int .i64 (manyOf l : Nat)), (20, .int .i64 (z.2.2.1 : Nat))]) (fun z w' => (z.2.2.1 ≤ manyOf l ∧ z.2.1.length = z.2.2.1 ∧ z.1.l.length ≤ l.length ∧ parse2 n (Rd.ents ((l.length : Nat) : Int) (manyOf l - z.2.2.1) z.1 z.2.1) = parseS l n) ∧ Mem S (ownE z.2.2.2 z.2.1 :: rdI 169 p z.1 :: σ) (bytesD z.1.v z.1.l :: ρ) w') (fun z => manyOf l - z.2.2.1) ((⟨z, l, 0⟩ : Rd).fixed 2, [], 0, .slice none 0 0) (by exact ⟨rfl, rfl, rfl, rfl, rfl, rfl, trivial⟩) (fun w' hw' => ⟨⟨Nat.zero_le _, rfl, (⟨z, l, 0⟩ : Rd).fixed_length 2, by rw [Nat.sub_zero]; exact iY_ _ _ ((of_as z l).fixed 2)⟩, hw'.less (by intro x hx; simp only [List.mem_cons] at hx ⊢; rcases hx with rfl | hx <;> simp [*])⟩) ?_
  intro z
  refine aU_ ?_
  rintro ⟨f1, f2, f3, f4⟩
  have n2 := (z.1.row ((l.length : Nat) : Int)).num_lt (n := 1) (k := 1) (Nat.le_refl _)
  have n3 : (z.1.rowOut ((l.length : Nat) : Int)).length ≤ z.1.l.length := z.1.rowOut_length _
  have n4 : manyOf l ≤ l.length + 1 := Nat.min_le_right _ _
  have n5 : manyOf l ≤ 65535 := by
    have h9 : manyOf l ≤ (Rd.of l).num 2 := Nat.min_le_left _ _
    have h8 := (Rd.of l).num_lt (n := 2) (k := 2) (Nat.le_refl _)
    omega
  refine d_ (a_ ?_)
  refine b_ (an_ rfl rfl) rfl rfl ?_
  refine g_ (c_ ?_)
  refine d_ ?_
  refine o_ rfl ?_ ?_
  rotate_left
  · intro hc21
    refine T_ ?_
    refine i_ (by intro h; cases h) ?_
    refine i_ (by intro h; cases h) ?_
    refine S_ ?_
    refine c_ ?_
    refine d_ ?_
    refine d_ (a_ ?_)
    refine b_ (k_ rfl) rfl rfl ?_
    refine t_ (by kernel_rfl) rfl rfl rfl ?_
    intro w hw
    refine (end_c (s := z.1) hw (by repeat (first | assumption | exact List.mem_cons_self | exact hmem _ | apply List.mem_cons_of_mem)) (by repeat (first | assumption | exact List.mem_cons_self | exact hmem _ | apply List.mem_cons_of_mem))).mono ?_; rintro _ _ ⟨rfl, hm⟩; refine ⟨_, _, rfl, hm, ?_⟩; clear hm hw w
    refine b_ (bx_ rfl rfl) rfl rfl ?_
    refine g_ (c_ ?_)
    refine o_ rfl ?_ ?_
    · intro hc43
      refine d_ (a_ ?_)
      iterate 2 refine b_ (h_ rfl) rfl rfl ?_
      refine g_ (c_ ?_)
      refine n_ ?_
      refine i_ (by intro h; cases h) ?_
      refine fJ_ rfl rfl rfl ?_
      intro w' hw'
      have hk : z.2.2.1 = manyOf l := by omega
      have e0 : parseS l n = ([], 2) := by
        rw [← f4, hk, Nat.sub_self]
        simp only [Rd.ents, parse2]
        rw [if_pos hc43]
      rw [e0]
      exact ⟨_, rfl, (((hw'.sub (fun _ h => h) (List.sublist_append_right [_, _] _)).less (fun x hx => by simp [hx])).nilE)⟩
    intro hc43
    refine s_ ?_
    refine c_ ?_
    refine d_ ?_
    refine d_ (a_ ?_)
    iterate 2 refine b_ (k_ rfl) rfl rfl ?_
    refine t_ (by kernel_rfl) rfl rfl rfl ?_
    intro w hw
    refine (et_ (es := z.2.1) hw (by repeat (first | assumption | exact List.mem_cons_self | exact hmem _ | apply List.mem_cons_of_mem)) (by omega)).mono ?_; rintro _ _ ⟨rfl, hm⟩; refine ⟨_, _, rfl, hm, ?_⟩; clear hm hw w
    refine b_ (h_ rfl) rfl rfl ?_
    refine g_ (c_ ?_)
    refine d_ (a_ ?_)
    refine b_ (k_ rfl) rfl rfl ?_
    refine b_ (bx_ rfl rfl) rfl rfl ?_
    refine g_ (c_ ?_)
    refine o_ rfl ?_ ?_
    · intro hc48
      refine d_ (a_ ?_)
      refine b_ (k_ rfl) rfl rfl ?_
      iterate 2 refine b_ (h_ rfl) rfl rfl ?_
      refine g_ (c_ ?_)
      refine n_ ?_
      refine i_ (by intro h; cases h) ?_
      refine fJ_ rfl rfl rfl ?_
      intro w' hw'
      have hk : z.2.2.1 = manyOf l := by omega
      have e0 : parseS l n = ([], chkB z.2.1 n) := by
        rw [← f4, hk, Nat.sub_self]
        simp only [Rd.ents, parse2]
        rw [if_neg hc43, if_pos hc48]
      rw [e0]
      exact ⟨_, rfl, (((hw'.sub (fun _ h => h) (List.sublist_append_right [_, _] _)).less (fun x hx => by simp [hx])).nilE)⟩
    intro hc48
    refine s_ ?_
    refine c_ ?_
    refine d_ (a_ ?_)
    refine b_ (k_ rfl) rfl rfl ?_
    iterate 2 refine b_ (h_ rfl) rfl rfl ?_
    refine g_ (c_ ?_)
    refine n_ ?_
    refine fJ_ rfl rfl rfl ?_
    intro w' hw'
    have hk : z.2.2.1 = manyOf l := by omega
    have e0 : parseS l n = (z.2.1, 0) := by
      rw [← f4, hk, Nat.sub_self]
      simp only [Rd.ents, parse2]
      rw [if_neg hc43, if_neg hc48]
    rw [e0]
    exact ⟨_, rfl, (hw'.sub (fun _ h => h) (List.Sublist.cons_cons _ (List.sublist_cons_self _ _))).less (fun x hx => by simp [hx])⟩
  intro hc21
  have hlt : z.2.2.1 < manyOf l := by omega
  refine s_ ?_
  refine c_ ?_
  refine d_ ?_
  refine u_ ?_
  refine d_ (a_ ?_)
  iterate 2 refine b_ (k_ rfl) rfl rfl ?_
  refine b_ (w_ rfl Tryz.underlying27) rfl rfl ?_
  refine t_ (by kernel_rfl) rfl rfl rfl ?_
  intro w hw
  refine (row_c (s := z.1) (most := ((l.length : Nat) : Int)) hw (by repeat (first | assumption | exact Upd.here | exact hrep _ _ | apply Upd.there)) (by repeat (first | assumption | exact List.mem_cons_self | exact hmem _ | apply List.mem_cons_of_mem)) (by omega) (by omega)).mono ?_; rintro _ _ ⟨r, rfl, hm⟩; refine ⟨_, _, rfl, hm, ?_⟩; clear hm hw w
  refine t_ (by kernel_rfl) rfl rfl rfl ?_
  intro w hw
  refine (formed_c (l := (z.1.rowOut ((l.length : Nat) : Int))) hw (by repeat (first | assumption | exact List.mem_cons_self | exact hmem _ | apply List.mem_cons_of_mem)) (by omega)).mono ?_; rintro _ _ ⟨z0, he, hm⟩; rw [(of_as z0 _).core, ((of_as z0 _).coreEnd _).end_] at he; subst he; refine ⟨_, _, rfl, hm, ?_⟩; clear hm hw w
  refine b_ (k_ rfl) rfl rfl ?_
  refine b_ (aM_ rfl rfl) rfl rfl ?_
  refine b_ (aM_ rfl rfl) rfl rfl ?_
  refine am_ (H_ tabOk rfl) rfl rfl ?_
  rintro _ _ ⟨b8, rfl, rfl⟩
  refine am_ (bQ_ (L' := (coreOf (z.1.rowOut ((l.length : Nat) : Int)) ((z.1.rowOut ((l.length : Nat) : Int)).length : Nat)).cells) (vs := (coreOf (z.1.rowOut ((l.length : Nat) : Int)) ((z.1.rowOut ((l.length : Nat) : Int)).length : Nat)).cells) tabOk rfl rfl rfl (by repeat (first | assumption | exact Upd.here | exact hrep _ _ | apply Upd.there)) (by rfl) (Nat.le_of_ble_eq_true (by rfl)) (Core.one _) (by rfl)) rfl rfl ?_
  rintro _ _ ⟨rfl, rfl⟩
  refine b_ (h_ rfl) rfl rfl ?_
  refine g_ (c_ ?_)
  refine d_ ?_
  refine d_ (a_ ?_)
  refine b_ (k_ rfl) rfl rfl ?_
  refine b_ (aw_ rfl) rfl rfl ?_
  refine g_ (c_ ?_)
  refine o_ rfl ?_ ?_
  · intro hc31
    have hok : okOf (z.1.rowOut ((l.length : Nat) : Int)) ((z.1.rowOut ((l.length : Nat) : Int)).length : Nat) = false := by simpa [okOf] using hc31
    refine d_ (a_ ?_)
    iterate 2 refine b_ (h_ rfl) rfl rfl ?_
    refine g_ (c_ ?_)
    refine n_ ?_
    refine i_ (by intro h; cases h) ?_
    refine B_ ?_
    refine i_ (by intro h; cases h) ?_
    refine i_ (by intro h; cases h) ?_
    refine B_ ?_
    refine i_ (by intro h; cases h) ?_
    refine fJ_ rfl rfl rfl ?_
    intro w' hw'
    have e0 : parseS l n = ([], 2) := by
      rw [← f4, show manyOf l - z.2.2.1 = (manyOf l - (z.2.2.1 + 1)) + 1 by omega]
      simp only [Rd.ents, hok]
      rfl
    rw [e0]
    exact ⟨_, rfl, (((hw'.sub (fun _ h => h) (List.sublist_append_right [_, _, _] _)).less (fun x hx => by simp [hx])).nilE)⟩
  intro hc31
  have hok : okOf (z.1.rowOut ((l.length : Nat) : Int)) ((z.1.rowOut ((l.length : Nat) : Int)).length : Nat) = true := by simpa [okOf] using hc31
  refine s_ ?_
  refine c_ ?_
  refine U_ (Mem S [.blk b8 (row 79 (coreOf (z.1.rowOut ((l.length : Nat) : Int)) ((z.1.rowOut ((l.length : Nat) : Int)).length : Nat)).cells)] []) (.q 0 (.q 1 (.q 2 (.e 3 (.q 4 (.q 5 (.e 6 (.e 7 (.q 8 .nil))))))))) (by kernel_rfl) (by kernel_rfl) (fun _ h => (h.sub (fun _ h => h) (by exact List.sublist_append_left [_] _)).less (by simp)) (fun _ h => h.drew) ?_
  refine l_ rfl (k_ rfl) rfl rfl ?_
  refine l_ rfl (x_ tabOk rfl rfl rfl (by repeat (first | assumption | exact List.mem_cons_self | exact hmem _ | apply List.mem_cons_of_mem)) (by rfl)) rfl rfl ?_
  refine l_ rfl (k_ rfl) rfl rfl ?_
  refine J_ rfl (by kernel_rfl) rfl rfl rfl ?_
  intro w hw
  refine (a8_ (s := (z.1.row ((l.length : Nat) : Int))) (n := 1) hw (by repeat (first | assumption | exact Upd.here | exact hrep _ _ | apply Upd.there)) (by repeat (first | assumption | exact List.mem_cons_self | exact hmem _ | apply List.mem_cons_of_mem)) (by have := z.1.row_length ((l.length : Nat) : Int); omega) rfl).mono ?_; rintro _ _ ⟨rfl, hm⟩; refine ⟨_, _, rfl, hm, _, fun _ h => h, fun _ h => (h.sub (fun _ h => h) (by exact List.sublist_append_left [_] _)).less (by simp), ?_⟩; clear hm hw w
  refine l_ rfl (ab_ rfl Tryz.underlying80 (by kernel_rfl) (by simp only [InR, lo, hi]; omega)) rfl rfl ?_
  refine l_ rfl (L_ (L := (⟨coreOf (z.1.rowOut ((l.length : Nat) : Int)) ((z.1.rowOut ((l.length : Nat) : Int)).length : Nat), (z.1.row ((l.length : Nat) : Int)).num 1⟩ : Ent).cells) tabOk rfl rfl rfl (by rfl)) rfl rfl ?_
  refine dI_ rfl (b5_ (L := (⟨coreOf (z.1.rowOut ((l.length : Nat) : Int)) ((z.1.rowOut ((l.length : Nat) : Int)).length : Nat), (z.1.row ((l.length : Nat) : Int)).num 1⟩ : Ent).cells) tabOk Tryz.underlying75 rfl rfl (fun L0 h => by match L0, h with | [_, _, _, _, _, _, _, _], _ => rfl) rfl) rfl rfl ?_
  rintro _ _ ⟨b38, rfl, rfl⟩
  refine ⟨_, fun _ h => h, fun _ h => (h.sub (fun _ h => h) (by exact List.Sublist.cons _ (List.sublist_append_left [_] _))).less (by simp), ?_⟩
  refine dI_ rfl (a3_ (pre := [_, _]) (k := z.2.1.length) (news := (⟨coreOf (z.1.rowOut ((l.length : Nat) : Int)) ((z.1.rowOut ((l.length : Nat) : Int)).length : Nat), (z.1.row ((l.length : Nat) : Int)).num 1⟩ : Ent).cells) tabOk Tryz.underlying75 rfl rfl rfl rfl rfl (fun _ hw => ⟨_, hw.blkRow List.mem_cons_self (Nat.le_refl _) (by decide)⟩) rfl (Ent.one _) (by unfold maxLen; omega) (by rw [show Tryz.prog.bytesOf 82 = 80 by kernel_rfl]; omega)) rfl rfl ?_
  rintro r _ rfl
  refine ⟨_, fun _ h => h, fun _ h => (h.sub (fun _ h => h) (by exact List.Sublist.cons _ (List.sublist_append_left [_] _))).less (by simp), ?_⟩
  refine l_ rfl (h_ rfl) rfl rfl ?_
  refine I_ ?_
  refine r_ ?_
  refine c_ ?_
  refine a_ ?_
  refine b_ (v_ rfl rfl (by simp only [InR, lo, hi]; omega)) rfl rfl ?_
  refine b_ (k_ rfl) rfl rfl ?_
  refine g_ ?_
  refine A_ ((z.1.row ((l.length : Nat) : Int)).fixed 1, z.2.1 ++ [(⟨coreOf (z.1.rowOut ((l.length : Nat) : Int)) ((z.1.rowOut ((l.length : Nat) : Int)).length : Nat), (z.1.row ((l.length : Nat) : Int)).num 1⟩ : Ent)], z.2.2.1 + 1, r) (by show manyOf l - (z.2.2.1 + 1) < manyOf l - z.2.2.1; omega) (by exact ⟨rfl, rfl, rfl, rfl, rfl, rfl, trivial⟩) (fun w' hw' => ⟨⟨by show z.2.2.1 + 1 ≤ manyOf l; omega, by show (z.2.1 ++ [(⟨coreOf (z.1.rowOut ((l.length : Nat) : Int)) ((z.1.rowOut ((l.length : Nat) : Int)).length : Nat), (z.1.row ((l.length : Nat) : Int)).num 1⟩ : Ent)]).length = z.2.2.1 + 1; simp [f2], by show ((z.1.row ((l.length : Nat) : Int)).fixed 1).l.length ≤ l.length; have := (z.1.row ((l.length : Nat) : Int)).fixed_length 1; have := z.1.row_length ((l.length : Nat) : Int); omega, ?_⟩, ?_⟩)
  · rw [← f4, show manyOf l - z.2.2.1 = (manyOf l - (z.2.2.1 + 1)) + 1 by omega]
    simp only [Rd.ents, hok]
    rfl
  · have e1 : (z.2.1 ++ [(⟨coreOf (z.1.rowOut ((l.length : Nat) : Int)) ((z.1.rowOut ((l.length : Nat) : Int)).length : Nat), (z.1.row ((l.length : Nat) : Int)).num 1⟩ : Ent)]).flatMap Ent.cells = z.2.1.flatMap Ent.cells ++ (⟨coreOf (z.1.rowOut ((l.length : Nat) : Int)) ((z.1.rowOut ((l.length : Nat) : Int)).length : Nat), (z.1.row ((l.length : Nat) : Int)).num 1⟩ : Ent).cells := by rw [List.flatMap_append]; simp
    show Mem S (.pc (ownPc _ _ _ (z.2.1 ++ [(⟨coreOf (z.1.rowOut ((l.length : Nat) : Int)) ((z.1.rowOut ((l.length : Nat) : Int)).length : Nat), (z.1.row ((l.length : Nat) : Int)).num 1⟩ : Ent)]).length ((z.2.1 ++ [(⟨coreOf (z.1.rowOut ((l.length : Nat) : Int)) ((z.1.rowOut ((l.length : Nat) : Int)).length : Nat), (z.1.row ((l.length : Nat) : Int)).num 1⟩ : Ent)]).flatMap Ent.cells)) :: _) _ w'
    rw [e1, List.length_append]
    exact (hw'.sub (fun _ h => h) (List.sublist_append_right [_, _] _)).less (fun x hx => by simp only [List.mem_cons] at hx ⊢; rcases hx with rfl | hx <;> simp [*])
end
theorem Upd.fn {x y : It} {σ τ : Blks} (h : Upd x y σ τ) : ∃ rep : It → Blks, rep x = σ ∧ rep y = τ ∧ ∀ a b, Upd a b (rep a) (rep b) := by
  induction h with
  | here => exact ⟨fun a => a :: _, rfl, rfl, fun a b => .here⟩
  | @there z σ0 τ0 _ ih =>
    obtain ⟨rep, h1, h2, h3⟩ := ih
    exact ⟨fun a => z :: rep a, by show z :: rep x = _; rw [h1], by show z :: rep y = _; rw [h2], fun a b => .there (h3 a b)⟩
/-! ### The same -/
structure Ent.Lits (e : Ent) : Prop where
  client : InR .i64 e.core.client
  stamp : InR .i64 e.core.stamp
  op : InR .i64 e.core.op
  a : InR .i64 e.core.a
  b : InR .i64 e.core.b
  letter : e.core.letter.size ≤ maxLen
  text : e.core.text.size ≤ maxLen
  mask : e.mask < 4294967296
noncomputable instance : DecidableEq Ent := fun _ _ => Classical.propDecidable _
theorem wfI {a : Int} (h : InR .i64 a) : (Lit.int .i64 a).wf = true := by
  obtain ⟨h0, h1⟩ := h
  simp only [lo, hi] at h0 h1
  simp [Lit.wf, IntKind.min, IntKind.max, IntKind.signed, IntKind.bits]; omega
theorem wfU {a : Nat} (h : a < 4294967296) : (Lit.int .u32 (a : Nat)).wf = true := by
  simp [Lit.wf, IntKind.min, IntKind.max, IntKind.signed, IntKind.bits]; omega
def Ent.lits (e : Ent) : List Lit := [.int .i64 e.core.client, .int .i64 e.core.stamp, .int .i64 e.core.op, .string e.core.letter.data.toList, .int .i64 e.core.a, .int .i64 e.core.b, .string e.core.text.data.toList, .int .u32 e.mask]
theorem hy_ (e : Ent) (h : e.Lits) : Tryz.prog.keyLits 4 82 e.cells = some e.lits := by
  have h1 := wfI h.client
  have h2 := wfI h.stamp
  have h3 := wfI h.op
  have h4 := wfI h.a
  have h5 := wfI h.b
  have h6 := h.letter
  have h7 := h.text
  have h8 := wfU h.mask
  have c1 : Tryz.prog.cellsOf 82 = 8 := by kernel_rfl
  have c2 : Tryz.prog.cellsOf 79 = 7 := by kernel_rfl
  have c3 : Tryz.prog.cellsOf 9 = 1 := by kernel_rfl
  have c4 : Tryz.prog.cellsOf 3 = 1 := by kernel_rfl
  have c5 : Tryz.prog.cellsOf 2 = 1 := by kernel_rfl
  have c6 : Tryz.prog.cellsOf 80 = 1 := by kernel_rfl
  simp [Program.keyLits, Tryz.underlying82, Tryz.underlying79, Tryz.underlying9, Tryz.underlying3, Tryz.underlying2, Tryz.underlying80, c1, c2, c3, c4, c5, c6, Ent.cells, Ent.lits, h1, h2, h3, h4, h5, h6, h7, h8]
  rw [if_pos (by decide)]
  rfl
theorem eX_ (e : Ent) : (Value.agg e.cells.toArray).formed Tryz.prog 82 = true := by kernel_rfl
theorem ByteArray.of_data {a b : ByteArray} (h : a.data.toList = b.data.toList) : a = b := by
  cases a; cases b; simp at h; simp [h]
theorem Ent.lits_inj {e f : Ent} (h : e.lits = f.lits) : e = f := by
  simp only [Ent.lits, List.cons.injEq, Lit.string.injEq, Lit.int.injEq, true_and, and_true] at h
  obtain ⟨h1, h2, h3, h4, h5, h6, h7, h8⟩ := h
  obtain ⟨⟨a1, a2, a3, a4, a5, a6, a7⟩, a8⟩ := e
  obtain ⟨⟨b1, b2, b3, b4, b5, b6, b7⟩, b8⟩ := f
  simp only [Ent.mk.injEq, Core.mk.injEq]
  exact ⟨⟨h1, h2, h3, ByteArray.of_data h4, h5, h6, ByteArray.of_data h7⟩, by dsimp only at h8; omega⟩
theorem neqE {e f : Ent} (he : e.Lits) (hf : f.Lits) (w : World) : (binOp .neq 82 (.agg e.cells.toArray) (.agg f.cells.toArray)).run Tryz.prog w = .ok (.bool (decide (e ≠ f))) w :=
  dC_ (m := 10) (by decide) (by kernel_rfl) (eX_ e) (eX_ f) (by simpa using hy_ e he) (by simpa using hy_ f hf) _ (by
    rw [decide_eq_true_eq]
    exact ⟨fun h h2 => h (Ent.lits_inj h2), fun h h2 => h (by rw [h2])⟩) w
theorem bi_ {α : Type} {es fs : List α} {k : Nat} (h : es.take k = fs.take k) (h1 : k < es.length) (h2 : k < fs.length) (h3 : es[k] = fs[k]) : es.take (k + 1) = fs.take (k + 1) := by
  rw [List.take_succ_eq_append_getElem h1, List.take_succ_eq_append_getElem h2, h, h3]
section
variable {S : List (World × List Nat)} {σ τ : Blks} {ρ : List Dt} {w : World} {p : Nat} {s : Rd}
set_option maxHeartbeats 1000000 in
theorem equal_c {v u : Value} {es fs : List Ent} (hw : Mem S σ ρ w) (he : entsD v es ∈ ρ) (hf : entsD u fs ∈ ρ) (hl : es.length ≤ 1000000) (h1 : ∀ e ∈ es, e.Lits) (h2 : ∀ e ∈ fs, e.Lits) : Calls Tryz.prog 117 #[v, u] w fun e w' => e = .returned (.bool (decide (es = fs))) ∧ Mem S σ ρ w' := by
  obtain ⟨A, c, rfl, hs1, hs2, hs3⟩ := (hw.data he).shape
  obtain ⟨B, d, rfl, ht1, ht2, ht3⟩ := (hw.data hf).shape
  have hA : es ≠ [] → ∃ b off, A = some ⟨b, off, none⟩ := fun h => cl_ (hw.data he) (by cases es with | nil => exact absurd rfl h | cons e es => simp [Ent.cells])
  have hB : fs ≠ [] → ∃ b off, B = some ⟨b, off, none⟩ := fun h => cl_ (hw.data hf) (by cases fs with | nil => exact absurd rfl h | cons e es => simp [Ent.cells])
  refine R_ [.slice A es.length c, .slice B fs.length d] Tryz.func117 rfl Tryz.ntmps117 rfl (Mem S σ ρ) hw ?_
  refine d_ (a_ ?_)
  refine b_ (h_ rfl) rfl rfl ?_
  refine g_ (c_ ?_)
  refine d_ ?_
  refine d_ (a_ ?_)
  refine b_ (k_ rfl) rfl rfl ?_
  refine b_ (w_ rfl Tryz.underlying75) rfl rfl ?_
  refine b_ (k_ rfl) rfl rfl ?_
  refine b_ (w_ rfl Tryz.underlying75) rfl rfl ?_
  refine b_ (bx_ rfl rfl) rfl rfl ?_
  refine g_ (c_ ?_)
  refine o_ rfl ?_ ?_
  · intro hc10
    refine d_ (a_ ?_)
    refine b_ (h_ rfl) rfl rfl ?_
    refine g_ (c_ ?_)
    refine n_ ?_
    refine i_ (by intro h; cases h) ?_
    refine C_ rfl rfl ?_
    intro w' hw'
    refine ⟨?_, hw'⟩; congr 2; exact (decide_eq_false (fun h => hc10 (by rw [h]))).symm
  intro hc10
  have hle : es.length = fs.length := by omega
  refine s_ ?_
  refine c_ ?_
  refine d_ ?_
  refine d_ (a_ ?_)
  refine b_ (k_ rfl) rfl rfl ?_
  refine b_ (w_ rfl Tryz.underlying75) rfl rfl ?_
  refine b_ (k_ rfl) rfl rfl ?_
  refine g_ (c_ ?_)
  refine u_ ?_
  refine W_ (ι := Nat) (fun k => [(0, .slice A es.length c), (1, .slice B fs.length d), (12, .int .i64 (es.length : Nat)), (13, .int .i64 (k : Nat))]) (fun k w' => (k ≤ es.length ∧ es.take k = fs.take k) ∧ Mem S σ ρ w') (fun k => es.length - k) 0 (by exact ⟨rfl, rfl, rfl, rfl, trivial⟩) (fun w' hw' => ⟨⟨Nat.zero_le _, by simp⟩, hw'⟩) ?_
  intro k
  refine aU_ ?_
  rintro ⟨hk, hk2⟩
  refine d_ (a_ ?_)
  refine b_ (an_ rfl rfl) rfl rfl ?_
  refine g_ (c_ ?_)
  refine d_ ?_
  refine o_ rfl ?_ ?_
  rotate_left
  · intro hc14
    refine T_ ?_
    refine i_ (by intro h; cases h) ?_
    refine i_ (by intro h; cases h) ?_
    refine S_ ?_
    refine c_ ?_
    refine d_ (a_ ?_)
    refine b_ (h_ rfl) rfl rfl ?_
    refine g_ (c_ ?_)
    refine n_ ?_
    refine C_ rfl rfl ?_
    intro w' hw'
    refine ⟨?_, hw'⟩; congr 2; refine (decide_eq_true ?_).symm; rw [List.take_of_length_le (by omega), List.take_of_length_le (by omega)] at hk2; exact hk2
  intro hc14
  have hlt : k < es.length := by omega
  have hlt2 : k < fs.length := by omega
  obtain ⟨bb, off, rfl⟩ := hA (by intro h0; rw [h0] at hlt; simp at hlt)
  obtain ⟨bb2, off2, rfl⟩ := hB (by intro h0; rw [h0] at hlt2; simp at hlt2)
  refine s_ ?_
  refine c_ ?_
  refine d_ ?_
  refine u_ ?_
  refine d_ (a_ ?_)
  refine b_ (k_ rfl) rfl rfl ?_
  refine b_ (h_ rfl) rfl rfl ?_
  refine g_ (c_ ?_)
  refine d_ ?_
  refine U_ _ (.q 0 (.q 1 (.q 2 (.q 3 (.q 4 (.q 5 (.q 6 (.q 7 (.q 8 .nil))))))))) (by kernel_rfl) (by kernel_rfl) (fun _ h => h) (fun _ h => h.drew) ?_
  refine l_ rfl (k_ rfl) rfl rfl ?_
  refine l_ rfl (k_ rfl) rfl rfl ?_
  refine l_ rfl (au_ tabOk Tryz.underlying75 rfl rfl rfl (by omega)) rfl rfl ?_
  refine l_ rfl (bl_ (f := Ent.cells) tabOk rfl rfl rfl (by repeat (first | assumption | exact List.mem_cons_self | exact hmem _ | apply List.mem_cons_of_mem)) (fun _ => rfl) hlt) rfl rfl ?_
  refine l_ rfl (k_ rfl) rfl rfl ?_
  refine l_ rfl (k_ rfl) rfl rfl ?_
  refine l_ rfl (au_ tabOk Tryz.underlying75 rfl rfl rfl (by omega)) rfl rfl ?_
  refine l_ rfl (bl_ (f := Ent.cells) tabOk rfl rfl rfl (by repeat (first | assumption | exact List.mem_cons_self | exact hmem _ | apply List.mem_cons_of_mem)) (fun _ => rfl) hlt2) rfl rfl ?_
  refine l_ rfl (ew_ rfl rfl (by kernel_rfl) (neqE (h1 _ (List.getElem_mem hlt)) (h2 _ (List.getElem_mem hlt2)))) rfl rfl ?_
  refine I_ (c_ ?_)
  refine o_ rfl ?_ ?_
  rotate_left
  · intro hc24
    refine s_ ?_
    refine r_ ?_
    refine c_ ?_
    refine a_ ?_
    refine b_ (v_ rfl rfl (by simp only [InR, lo, hi]; omega)) rfl rfl ?_
    refine b_ (k_ rfl) rfl rfl ?_
    refine g_ ?_
    exact A_ (k + 1) (by omega) (by exact ⟨rfl, rfl, rfl, rfl, trivial⟩) (fun w' hw' => ⟨⟨hlt, bi_ hk2 hlt hlt2 (Decidable.not_not.1 hc24)⟩, hw'⟩)
  intro hc24
  refine d_ (a_ ?_)
  refine b_ (h_ rfl) rfl rfl ?_
  refine g_ (c_ ?_)
  refine n_ ?_
  refine B_ ?_
  refine i_ (by intro h; cases h) ?_
  refine i_ (by intro h; cases h) ?_
  refine B_ ?_
  refine i_ (by intro h; cases h) ?_
  refine C_ rfl rfl ?_
  intro w' hw'
  refine ⟨?_, hw'⟩; congr 2; refine (decide_eq_false (fun h => hc24 ?_)).symm; subst h; rfl
set_option maxHeartbeats 1000000 in
theorem rsame_c {v u : Value} {es fs : List Ent} (hw : Mem S σ ρ w) (he : entsD v es ∈ ρ) (hf : entsD u fs ∈ ρ) (hl : es.length ≤ 1000000) (h1 : ∀ e ∈ es, e.Lits) (h2 : ∀ e ∈ fs, e.Lits) : Calls Tryz.prog 61 #[v, u] w fun e w' => e = .returned (.bool (decide (es = fs))) ∧ Mem S σ ρ w' := by
  obtain ⟨A, c, rfl, hs1, hs2, hs3⟩ := (hw.data he).shape
  obtain ⟨B, d, rfl, ht1, ht2, ht3⟩ := (hw.data hf).shape
  have hA : es ≠ [] → ∃ b off, A = some ⟨b, off, none⟩ := fun h => cl_ (hw.data he) (by cases es with | nil => exact absurd rfl h | cons e es => simp [Ent.cells])
  have hB : fs ≠ [] → ∃ b off, B = some ⟨b, off, none⟩ := fun h => cl_ (hw.data hf) (by cases fs with | nil => exact absurd rfl h | cons e es => simp [Ent.cells])
  refine R_ [.slice A es.length c, .slice B fs.length d] Tryz.func61 rfl Tryz.ntmps61 rfl (Mem S σ ρ) hw ?_
  refine d_ (a_ ?_)
  refine b_ (h_ rfl) rfl rfl ?_
  refine g_ (c_ ?_)
  refine d_ ?_
  refine d_ (a_ ?_)
  refine b_ (k_ rfl) rfl rfl ?_
  refine b_ (w_ rfl Tryz.underlying75) rfl rfl ?_
  refine b_ (k_ rfl) rfl rfl ?_
  refine b_ (w_ rfl Tryz.underlying75) rfl rfl ?_
  refine b_ (bx_ rfl rfl) rfl rfl ?_
  refine g_ (c_ ?_)
  refine o_ rfl ?_ ?_
  · intro hc10
    refine d_ (a_ ?_)
    refine b_ (h_ rfl) rfl rfl ?_
    refine g_ (c_ ?_)
    refine n_ ?_
    refine i_ (by intro h; cases h) ?_
    refine C_ rfl rfl ?_
    intro w' hw'
    refine ⟨?_, hw'⟩; congr 2; exact (decide_eq_false (fun h => hc10 (by rw [h]))).symm
  intro hc10
  have hle : es.length = fs.length := by omega
  refine s_ ?_
  refine c_ ?_
  refine d_ ?_
  refine d_ (a_ ?_)
  refine b_ (k_ rfl) rfl rfl ?_
  refine b_ (w_ rfl Tryz.underlying75) rfl rfl ?_
  refine b_ (k_ rfl) rfl rfl ?_
  refine g_ (c_ ?_)
  refine u_ ?_
  refine W_ (ι := Nat) (fun k => [(0, .slice A es.length c), (1, .slice B fs.length d), (12, .int .i64 (es.length : Nat)), (13, .int .i64 (k : Nat))]) (fun k w' => (k ≤ es.length ∧ es.take k = fs.take k) ∧ Mem S σ ρ w') (fun k => es.length - k) 0 (by exact ⟨rfl, rfl, rfl, rfl, trivial⟩) (fun w' hw' => ⟨⟨Nat.zero_le _, by simp⟩, hw'⟩) ?_
  intro k
  refine aU_ ?_
  rintro ⟨hk, hk2⟩
  refine d_ (a_ ?_)
  refine b_ (an_ rfl rfl) rfl rfl ?_
  refine g_ (c_ ?_)
  refine d_ ?_
  refine o_ rfl ?_ ?_
  rotate_left
  · intro hc14
    refine T_ ?_
    refine i_ (by intro h; cases h) ?_
    refine i_ (by intro h; cases h) ?_
    refine S_ ?_
    refine c_ ?_
    refine d_ (a_ ?_)
    refine b_ (h_ rfl) rfl rfl ?_
    refine g_ (c_ ?_)
    refine n_ ?_
    refine C_ rfl rfl ?_
    intro w' hw'
    refine ⟨?_, hw'⟩; congr 2; refine (decide_eq_true ?_).symm; rw [List.take_of_length_le (by omega), List.take_of_length_le (by omega)] at hk2; exact hk2
  intro hc14
  have hlt : k < es.length := by omega
  have hlt2 : k < fs.length := by omega
  obtain ⟨bb, off, rfl⟩ := hA (by intro h0; rw [h0] at hlt; simp at hlt)
  obtain ⟨bb2, off2, rfl⟩ := hB (by intro h0; rw [h0] at hlt2; simp at hlt2)
  refine s_ ?_
  refine c_ ?_
  refine d_ ?_
  refine u_ ?_
  refine d_ (a_ ?_)
  refine b_ (k_ rfl) rfl rfl ?_
  refine b_ (h_ rfl) rfl rfl ?_
  refine g_ (c_ ?_)
  refine d_ ?_
  refine U_ _ (.q 0 (.q 1 (.q 2 (.q 3 (.q 4 (.q 5 (.q 6 (.q 7 (.q 8 .nil))))))))) (by kernel_rfl) (by kernel_rfl) (fun _ h => h) (fun _ h => h.drew) ?_
  refine l_ rfl (k_ rfl) rfl rfl ?_
  refine l_ rfl (k_ rfl) rfl rfl ?_
  refine l_ rfl (au_ tabOk Tryz.underlying75 rfl rfl rfl (by omega)) rfl rfl ?_
  refine l_ rfl (bl_ (f := Ent.cells) tabOk rfl rfl rfl (by repeat (first | assumption | exact List.mem_cons_self | exact hmem _ | apply List.mem_cons_of_mem)) (fun _ => rfl) hlt) rfl rfl ?_
  refine l_ rfl (k_ rfl) rfl rfl ?_
  refine l_ rfl (k_ rfl) rfl rfl ?_
  refine l_ rfl (au_ tabOk Tryz.underlying75 rfl rfl rfl (by omega)) rfl rfl ?_
  refine l_ rfl (bl_ (f := Ent.cells) tabOk rfl rfl rfl (by repeat (first | assumption | exact List.mem_cons_self | exact hmem _ | apply List.mem_cons_of_mem)) (fun _ => rfl) hlt2) rfl rfl ?_
  refine l_ rfl (ew_ rfl rfl (by kernel_rfl) (neqE (h1 _ (List.getElem_mem hlt)) (h2 _ (List.getElem_mem hlt2)))) rfl rfl ?_
  refine I_ (c_ ?_)
  refine o_ rfl ?_ ?_
  rotate_left
  · intro hc24
    refine s_ ?_
    refine r_ ?_
    refine c_ ?_
    refine a_ ?_
    refine b_ (v_ rfl rfl (by simp only [InR, lo, hi]; omega)) rfl rfl ?_
    refine b_ (k_ rfl) rfl rfl ?_
    refine g_ ?_
    exact A_ (k + 1) (by omega) (by exact ⟨rfl, rfl, rfl, rfl, trivial⟩) (fun w' hw' => ⟨⟨hlt, bi_ hk2 hlt hlt2 (Decidable.not_not.1 hc24)⟩, hw'⟩)
  intro hc24
  refine d_ (a_ ?_)
  refine b_ (h_ rfl) rfl rfl ?_
  refine g_ (c_ ?_)
  refine n_ ?_
  refine B_ ?_
  refine i_ (by intro h; cases h) ?_
  refine i_ (by intro h; cases h) ?_
  refine B_ ?_
  refine i_ (by intro h; cases h) ?_
  refine C_ rfl rfl ?_
  intro w' hw'
  refine ⟨?_, hw'⟩; congr 2; refine (decide_eq_false (fun h => hc24 ?_)).symm; subst h; rfl
theorem same_c {v u : Value} {es fs : List Ent} (hw : Mem S σ ρ w) (he : entsD v es ∈ ρ) (hf : entsD u fs ∈ ρ) (hl : es.length ≤ 1000000) (h1 : ∀ e ∈ es, e.Lits) (h2 : ∀ e ∈ fs, e.Lits) : Calls Tryz.prog 84 #[v, u] w fun e w' => e = .returned (.bool (decide (es = fs))) ∧ Mem S σ ρ w' := by
  refine R_ [v, u] Tryz.func84 rfl Tryz.ntmps84 rfl (Mem S σ ρ) hw ?_
  refine d_ (a_ ?_)
  refine b_ (h_ rfl) rfl rfl ?_
  refine g_ (c_ ?_)
  refine d_ (a_ ?_)
  iterate 2 refine b_ (k_ rfl) rfl rfl ?_
  refine t_ (by kernel_rfl) rfl rfl rfl ?_
  intro w hw
  refine (equal_c hw he hf hl h1 h2).mono ?_; rintro _ _ ⟨rfl, hm⟩; refine ⟨_, _, rfl, hm, ?_⟩; clear hm hw w
  refine b_ (h_ rfl) rfl rfl ?_
  refine g_ (c_ ?_)
  refine n_ ?_
  refine C_ rfl rfl ?_
  intro w' hw'
  exact ⟨rfl, hw'⟩
/-! ### The document's Parse -/
end
section
variable {S : List (World × List Nat)} {σ τ : Blks} {ρ : List Dt} {w : World} {P : Program} {n : Nat} {l : Slots} {D : World → Prop} {o : Oper} {v u : Value}
theorem y_ (h : Val P n l D o v) (e : v = u) : Val P n l D o u := e ▸ h
theorem Mem.ownRow {e : TypeId} {size k : Nat} {cs : List Value} (hw : Mem S σ ρ w) (ho : It.pc (ownPc e size v k cs) ∈ σ) : IsRow [] w v k cs := ownsRow.isRow (hw.hold _ ho) (by simp)
end
end Go.Proofs.YtggajaigfkekhaaGreat
namespace Go.Proofs.YtggajaigfkekhaaGreat.A
open Go.RowKit
abbrev entsA (es : List Ent) : Abs := flat 8 Ent.cells es
theorem ent8 (e : Ent) : e.cells.length = 8 := rfl
section
variable {K : List Nat} {w : World} {v u : Value} {es fs : List Ent} {n : Int} {l : List UInt8} {p : Nat} {s : Rd}
theorem ent2 {ρ : List Dt} {σ2 : Proofs.YtggajaigfkekhaaGreat.Blks} {w' : World} (h : Proofs.YtggajaigfkekhaaGreat.Mem [(w, K)] (old2 w K :: σ2) ρ w') : ∀ k, k < w.heap.size → k ∈ K → k ∈ (old2 w K :: σ2).flatMap Proofs.YtggajaigfkekhaaGreat.It.ids := fun k hk hm => by
  simp only [List.flatMap_cons, List.mem_append]
  exact .inl (bd_.2 ⟨hk, hm⟩)
theorem bbytes_s (hl : es.length ≤ 1000000) (hf : ∀ e ∈ es, e.Few) : Pure Tryz.prog 113 [entsA es] (byt (batchB es)) := Pure.of2 fun K w vals hK hv => by
  obtain ⟨v, us', rfl, h1, h2⟩ := hv
  have h2 : us' = [] := h2
  subst h2
  refine (gh_ ((enter2 w K).add (z := entsD v es) (row2 ((bL_ ent8).1 h1))) (by simp) hl hf).mono fun e w' ⟨r, he, hm⟩ => ⟨r, he, leave2 hm (by simp), a7_.2 (row3 hK (ent2 hm) (hm.data (z := bytesD r _) (by simp)))⟩
theorem iB_ (hl : es.length ≤ 1000000) (hf : ∀ e ∈ es, e.Few) : Pure Tryz.prog 116 [entsA es] (byt (batchB es)) := Pure.of2 fun K w vals hK hv => by
  obtain ⟨v, us', rfl, h1, h2⟩ := hv
  have h2 : us' = [] := h2
  subst h2
  refine (fg_ ((enter2 w K).add (z := entsD v es) (row2 ((bL_ ent8).1 h1))) (by simp) hl hf).mono fun e w' ⟨r, he, hm⟩ => ⟨r, he, leave2 hm (by simp), a7_.2 (row3 hK (ent2 hm) (hm.data (z := bytesD r _) (by simp)))⟩
theorem bcheck_s (hl : es.length ≤ 1000000) : Pure Tryz.prog 102 [entsA es, int n] (int (chkB es n)) := Pure.of2 fun K w vals hK hv => by
  obtain ⟨v, us', rfl, h1, h2⟩ := hv
  have h2 := (aF_ (us := [.int .i64 n])).1 h2
  subst h2
  refine (dF_ ((enter2 w K).add (z := entsD v es) (row2 ((bL_ ent8).1 h1))) (by simp) hl).mono fun e w' ⟨he, hm⟩ => ⟨_, he, leave2 hm (by simp), rfl⟩
theorem iA_ (hl : es.length ≤ 1000000) (hs : ∀ e ∈ es, e.core.letter.size ≤ lots) : Pure Tryz.prog 96 [entsA es, int n] (int (chkB es n)) := Pure.of2 fun K w vals hK hv => by
  obtain ⟨v, us', rfl, h1, h2⟩ := hv
  have h2 := (aF_ (us := [.int .i64 n])).1 h2
  subst h2
  refine (ff_ ((enter2 w K).add (z := entsD v es) (row2 ((bL_ ent8).1 h1))) (by simp) hl hs).mono fun e w' ⟨he, hm⟩ => ⟨_, he, leave2 hm (by simp), rfl⟩
theorem bsame_s (hl : es.length ≤ 1000000) (h1 : ∀ e ∈ es, e.Lits) (h2 : ∀ e ∈ fs, e.Lits) : Pure Tryz.prog 84 [entsA es, entsA fs] (boo (decide (es = fs))) := Pure.of2 fun K w vals hK hv => by
  obtain ⟨v, us', rfl, g1, u, us2, rfl, g2, g3⟩ := hv
  have g3 : us2 = [] := g3
  subst g3
  refine (same_c (((enter2 w K).add (z := entsD v es) (row2 ((bL_ ent8).1 g1))).add (z := entsD u fs) (row2 ((bL_ ent8).1 g2))) (by simp) (by simp) hl h1 h2).mono fun e w' ⟨he, hm⟩ => ⟨_, he, leave2 hm (by simp), rfl⟩
theorem rbsame_s (hl : es.length ≤ 1000000) (h1 : ∀ e ∈ es, e.Lits) (h2 : ∀ e ∈ fs, e.Lits) : Pure Tryz.prog 61 [entsA es, entsA fs] (boo (decide (es = fs))) := Pure.of2 fun K w vals hK hv => by
  obtain ⟨v, us', rfl, g1, u, us2, rfl, g2, g3⟩ := hv
  have g3 : us2 = [] := g3
  subst g3
  refine (rsame_c (((enter2 w K).add (z := entsD v es) (row2 ((bL_ ent8).1 g1))).add (z := entsD u fs) (row2 ((bL_ ent8).1 g2))) (by simp) (by simp) hl h1 h2).mono fun e w' ⟨he, hm⟩ => ⟨_, he, leave2 hm (by simp), rfl⟩
theorem own2_row {xs : List Ent} {r : Value} {w w' : World} {ρ : List Dt} (hK : ∀ k ∈ K, k < w.heap.size) (hm : Proofs.YtggajaigfkekhaaGreat.Mem [(w, K)] (ownE r xs :: [old2 w K]) ρ w') : IsRow K w' r xs.length (xs.flatMap Ent.cells) := by
  have h1 := hm.freeze.data (z := rowD r xs.length (xs.flatMap Ent.cells)) (by simp)
  exact row3 hK (ent2 hm.freeze) h1
theorem bparse_s (hl : l.length ≤ 10000000) : Pure Tryz.prog 109 [byt l, int n] (.tup [entsA (parseS l n).1, int (parseS l n).2]) := Pure.of2 fun K w vals hK hv => by
  obtain ⟨v, us', rfl, h1, h2⟩ := hv
  have h2 := (aF_ (us := [.int .i64 n])).1 h2
  subst h2
  refine (iH_ ((enter2 w K).add (z := bytesD v l) (row2 (a7_.1 h1))) (by simp) hl).mono fun e w' ⟨r, he, hm⟩ => ⟨_, he, leave2 hm (by simp), ⟨_, rfl, _, _, rfl, (bL_ ent8).2 (own2_row hK hm), _, _, rfl, rfl, rfl⟩⟩
end
def isSeq (x : Int) : Prop := 0 ≤ x ∧ x ≤ 1048576
instance (x : Int) : Decidable (isSeq x) := inferInstanceAs (Decidable (_ ∧ _))
def isMark (x : Int) : Prop := isSeq x ∧ x % 4 = 0
instance (x : Int) : Decidable (isMark x) := inferInstanceAs (Decidable (_ ∧ _))
section
theorem mark_s {x : Int} : Spec Tryz.prog 65 [int x] [] (fun _ : Unit => []) (fun _ => boo (decide (isMark x))) := by
 refine K_ Tryz.func65 rfl Tryz.ntmps65 rfl fun G w =>d_<|a_<|q_ 1 rfl<|g_<|c_<|d_<|a_<|q_ 3 rfl<|z_ (t := 5) rfl ?_ ?_
 rotate_left
 ·intro hc5
  refine q_ 9 rfl<|g_<|c_<|n_<|f_ (rs := [.tmp 2]) rfl (RV.tmp rfl RV.nil) (()) sn_<|congrArg (fun b => Abs.v (Value.bool b)) ?_
  (refine (decide_eq_false ?_).symm; unfold isMark isSeq; omega)
 intro hc5
 refine q_ 4 rfl<|z_ (t := 9) rfl ?_ ?_
 rotate_left
 ·intro hc9
  refine q_ 5 rfl<|g_<|c_<|n_<|f_ (rs := [.tmp 2]) rfl (RV.tmp rfl RV.nil) (()) sn_<|congrArg (fun b => Abs.v (Value.bool b)) ?_
  (refine (decide_eq_false ?_).symm; unfold isMark isSeq; omega)
 intro hc9
 refine q_ 1 rfl<|b_ (cg_ rfl rfl (by omega)) rfl rfl ?_
 refine q_ 3 rfl<|g_<|c_<|n_<|f_ (rs := [.tmp 2]) rfl (RV.tmp rfl RV.nil) (()) sn_<|congrArg (fun b => Abs.v (Value.bool b)) ?_
 (rw [decide_eq_decide]; unfold isMark isSeq; omega)
theorem rseq_s {x : Int} : Spec Tryz.prog 95 [int x] [] (fun _ : Unit => []) (fun _ => boo (decide (isSeq x))) := by
 refine K_ Tryz.func95 rfl Tryz.ntmps95 rfl fun G w =>d_<|a_<|q_ 1 rfl<|g_<|c_<|d_<|a_<|q_ 3 rfl<|z_ (t := 5) rfl ?_ ?_
 ·intro hc5
  refine q_ 4 rfl<|g_<|c_<|n_<|f_ (rs := [.tmp 2]) rfl (RV.tmp rfl RV.nil) (()) sn_<|congrArg (fun b => Abs.v (Value.bool b)) ?_
  (rw [decide_eq_decide]; unfold isSeq; omega)
 intro hc5
 refine q_ 4 rfl<|g_<|c_<|n_<|f_ (rs := [.tmp 2]) rfl (RV.tmp rfl RV.nil) (()) sn_<|congrArg (fun b => Abs.v (Value.bool b)) ?_
 (refine (decide_eq_false ?_).symm; unfold isSeq; omega)
theorem rview_s {x : Int} : Spec Tryz.prog 62 [int x] [] (fun _ : Unit => []) (fun _ => boo (decide (isSeq x))) := by
 refine K_ Tryz.func62 rfl Tryz.ntmps62 rfl fun G w =>d_<|a_<|q_ 1 rfl<|g_<|c_<|d_<|a_<|q_ 3 rfl<|z_ (t := 5) rfl ?_ ?_
 ·intro hc5
  refine q_ 4 rfl<|g_<|c_<|n_<|f_ (rs := [.tmp 2]) rfl (RV.tmp rfl RV.nil) (()) sn_<|congrArg (fun b => Abs.v (Value.bool b)) ?_
  (rw [decide_eq_decide]; unfold isSeq; omega)
 intro hc5
 refine q_ 4 rfl<|g_<|c_<|n_<|f_ (rs := [.tmp 2]) rfl (RV.tmp rfl RV.nil) (()) sn_<|congrArg (fun b => Abs.v (Value.bool b)) ?_
 (refine (decide_eq_false ?_).symm; unfold isSeq; omega)
theorem iv_ {x : Int} : Spec Tryz.prog 63 [int x] [] (fun _ : Unit => []) (fun _ => boo (decide (isMark x))) := by
 refine K_ Tryz.func63 rfl Tryz.ntmps63 rfl fun G w =>d_<|a_<|q_ 1 rfl<|g_<|c_<|d_<|a_<|q_ 1 rfl<|t_ (rseq_s (x := x)) Casts.refl (by kernel_rfl) rfl rfl rfl ?_
 refine ap_<|fun _=>q_ 1 rfl<|z_ (t := 5) rfl ?_ ?_
 rotate_left
 ·intro hc5
  unfold isSeq at hc5
  refine q_ 5 rfl<|g_<|c_<|n_<|f_ (rs := [.tmp 2]) rfl (RV.tmp rfl RV.nil) (()) sn_<|congrArg (fun b => Abs.v (Value.bool b)) ?_
  (refine (decide_eq_false ?_).symm; unfold isMark isSeq; omega)
 intro hc5
 unfold isSeq at hc5
 refine q_ 1 rfl<|b_ (cg_ rfl rfl (by omega)) rfl rfl ?_
 refine q_ 3 rfl<|g_<|c_<|n_<|f_ (rs := [.tmp 2]) rfl (RV.tmp rfl RV.nil) (()) sn_<|congrArg (fun b => Abs.v (Value.bool b)) ?_
 (rw [decide_eq_decide]; unfold isMark isSeq; omega)
end
def Rds (σ : Blks) : Prop := ∀ x ∈ σ, (∃ b t cs, x = .rd b t cs) ∨ ∃ c, x = .rdpc c
theorem Rds.reads {σ τ : Blks} (h : Rds τ) (hs : ∀ x ∈ τ, x ∈ σ) : Reads σ τ := by
  induction τ with
  | nil => exact .nil
  | cons x τ ih =>
    have h1 := ih (fun y hy => h y (List.mem_cons_of_mem _ hy)) (fun y hy => hs y (List.mem_cons_of_mem _ hy))
    have hx := hs x List.mem_cons_self
    rcases h x List.mem_cons_self with ⟨b, t, cs, rfl⟩ | ⟨c, rfl⟩
    · exact .rd hx h1
    · exact .rdpc hx h1
structure Pnt where
  seq : Int
  dig : List UInt8
  len : dig.length = 32
def Pnt.abs (p : Pnt) : List Abs := int p.seq :: digA p.dig
theorem Pnt.size (p : Pnt) : p.abs.length = 33 := by simp [Pnt.abs, digA, p.len]
theorem Pnt.ones (p : Pnt) : ones p.abs = true := by
  rw [bU_]; intro a ha
  rcases List.mem_cons.1 ha with rfl | ha
  · rfl
  · obtain ⟨b, _, rfl⟩ := List.mem_map.1 ha; rfl
abbrev pntsA (ps : List Pnt) : Abs := .sl 33 (ps.map Pnt.abs)
def Pnt.cells (p : Pnt) : List Value := .int .i64 p.seq :: p.dig.map bc
theorem Pnt.same {p q : Pnt} (h1 : p.seq = q.seq) (h2 : p.dig = q.dig) : p = q := by
  obtain ⟨a, b, c⟩ := p
  obtain ⟨d, e, f⟩ := q
  dsimp only at h1 h2
  subst h1 h2
  rfl
instance : DecidableEq Pnt := fun p q => decidable_of_iff (p.seq = q.seq ∧ p.dig = q.dig) ⟨fun h => Pnt.same h.1 h.2, fun h => h ▸ ⟨rfl, rfl⟩⟩
def Rises {α : Type} (p : α → α → Bool) (xs : List α) : Prop := ∀ j (h : j + 1 < xs.length), p xs[j] xs[j + 1] = true
structure Prf where
  seq : Int
  view : Int
  batch : List Ent
def Prf.abs (p : Prf) : List Abs := [int p.seq, int p.view, entsA p.batch]
abbrev prfsA (ps : List Prf) : Abs := .sl 3 (ps.map Prf.abs)
structure Chg where
  view : Int
  low : Int
  points : List Pnt
  prepared : List Prf
  proposed : List Prf
def Chg.abs (c : Chg) : List Abs := [int c.view, int c.low, pntsA c.points, prfsA c.prepared, prfsA c.proposed]
theorem fp_ {xs : List Prf} {p : Prf → Bool} {k : Nat} {caps : List Abs} {σ : Blks} (hb : goesIn Tryz.prog k = true) (hr : Rds σ) (hn : xs.length < 9223372036854775807) (h : ∀ x ∈ xs, Spec Tryz.prog k (.agg (Prf.abs x) :: caps) σ (fun _ : Unit => []) (fun _ => boo (p x))) : Spec Tryz.prog 132 [.sl 3 (xs.map Prf.abs), .fn (.func k) [] caps] σ (fun _ : {r : Int // 0 ≤ r ↔ ∃ x ∈ xs, p x = true} => []) (fun z => int z.1) := by
 refine K_ Tryz.func132 rfl Tryz.ntmps132 rfl fun G w =>d_<|a_<|q_ 1 rfl<|g_<|c_<|d_<|d_<|a_<|q_ 1 rfl<|b_ (w_ rfl Tryz.underlying24 (List.length_map _)) rfl rfl<|q_ 1 rfl<|g_<|c_<|u_<|W_ (ι := Nat) (fun z => σ) (fun z => [(0, .sl 3 (xs.map Prf.abs)), (1, .fn (.func k) [] caps), (7, int (xs.length : Nat)), (8, int (z : Nat))]) (fun z => z ≤ xs.length ∧ ∀ j (hj : j < xs.length), j < z → p xs[j] = false) (fun z => xs.length - z) (0) (⟨Nat.zero_le _, by omega⟩) (by exact ⟨rfl, rfl, rfl, rfl, trivial⟩) sr_ ?_
 intro z hz
 refine d_<|a_<|q_ 1 rfl<|g_<|c_<|d_<|o_ rfl ?_ ?_
 rotate_left
 ·intro hc9
  refine T_<|i_ nofun<|i_ nofun<|S_<|c_<|d_<|a_<|q_ 1 rfl<|g_<|c_<|n_<|f_ (rs := [.tmp 4]) rfl (RV.tmp rfl RV.nil) (⟨-1, ⟨fun h => (by omega), fun ⟨x, hx, hp⟩ => by obtain ⟨j, hj, rfl⟩ := List.getElem_of_mem hx; have := hz.2 j hj (by omega); rw [this] at hp; cases hp⟩⟩) sn_ ?_
  exact rfl
 intro hc9
 have hlt : z < xs.length := by omega
 refine s_<|c_<|d_<|u_<|d_<|a_<|q_ 2 rfl<|g_<|c_<|d_<|a_<|q_ 3 rfl<|b_ (E_ tabOk Tryz.underlying24 rfl rfl rfl rfl (ah_ (by omega)) rfl rfl) rfl rfl ?_
 refine b_ (V_ tabOk rfl rfl rfl rfl) rfl rfl<|ci_ (h _ (List.getElem_mem hlt)) rfl Casts.refl hb rfl rfl rfl<|bo_ (Rds.reads hr (fun x hx => by repeat (first | exact hx | apply List.mem_cons_of_mem))) (fun _ => rfl) ?_
 intro _
 refine g_<|c_<|aE_ rfl ?_ ?_
 rotate_left
 ·intro hc16
  refine s_<|r_<|c_<|a_<|b_ (v_ rfl rfl (by simp only [InR, lo, hi]; omega)) rfl rfl ?_
  refine q_ 1 rfl<|g_<|A_ (z + 1) (by omega) (⟨by omega, fun j hj hjz => by rcases Nat.lt_or_ge j z with h1 | h1; exact hz.2 j hj h1; obtain rfl : j = z := (by omega); exact hc16⟩) (by exact ⟨rfl, rfl, rfl, rfl, trivial⟩) sr_
 intro hc16
 refine d_<|a_<|q_ 2 rfl<|g_<|c_<|n_<|B_<|i_ nofun<|i_ nofun<|B_<|i_ nofun<|f_ (rs := [.tmp 4]) rfl (RV.tmp rfl RV.nil) (⟨(z : Nat), ⟨fun _ => ⟨_, List.getElem_mem hlt, hc16⟩, fun _ => (by omega)⟩⟩) sn_ ?_
 exact rfl
theorem cn_ {xs : List Prf} {p : Prf → Bool} {k : Nat} {caps : List Abs} {σ : Blks} (hb : goesIn Tryz.prog k = true) (hr : Rds σ) (hn : xs.length < 9223372036854775807) (h : ∀ x ∈ xs, Spec Tryz.prog k (.agg (Prf.abs x) :: caps) σ (fun _ : Unit => []) (fun _ => boo (p x))) : Spec Tryz.prog 104 [.sl 3 (xs.map Prf.abs), .fn (.func k) [] caps] σ (fun _ : Unit => []) (fun _ => boo (xs.any p)) := by
 refine K_ Tryz.func104 rfl Tryz.ntmps104 rfl fun G w =>d_<|a_<|q_ 1 rfl<|g_<|c_<|d_<|a_<|q_ 2 rfl<|t_ (fp_ hb hr hn h) Casts.refl (by kernel_rfl) rfl rfl rfl ?_
 refine bo_ (Rds.reads hr (fun x hx => by repeat (first | exact hx | apply List.mem_cons_of_mem))) (fun _ => rfl) ?_
 intro r
 refine q_ 2 rfl<|g_<|c_<|n_<|f_ (rs := [.tmp 4]) rfl (RV.tmp rfl RV.nil) (()) sn_<|congrArg (fun b => Abs.v (Value.bool b)) ?_
 rw [Bool.eq_iff_iff, decide_eq_true_iff, r.2, List.any_eq_true]
theorem eO_ {xs : List Prf} {p : Prf → Prf → Bool} {k : Nat} (hb : goesIn Tryz.prog k = true) (hn : xs.length < 9223372036854775807) (h : ∀ x ∈ xs, ∀ y ∈ xs, Pure Tryz.prog k [.agg (Prf.abs x), .agg (Prf.abs y)] (boo (p x y))) : Spec Tryz.prog 103 [.sl 3 (xs.map Prf.abs), .fn (.func k) [] []] [] (fun _ : {b : Bool // b = true ↔ Rises p xs} => []) (fun z => boo z.1) := by
 refine K_ Tryz.func103 rfl Tryz.ntmps103 rfl fun G w =>d_<|a_<|q_ 1 rfl<|g_<|c_<|d_<|d_<|a_<|q_ 1 rfl<|g_<|c_<|u_<|W_ (ι := Nat) (fun z => []) (fun z => [(0, .sl 3 (xs.map Prf.abs)), (1, .fn (.func k) [] []), (5, int (z : Nat))]) (fun z => 1 ≤ z ∧ ∀ j (hj : j + 1 < xs.length), j + 1 < z → p xs[j] xs[j + 1] = true) (fun z => xs.length - z) (1) (⟨Nat.le_refl _, by omega⟩) (by exact ⟨rfl, rfl, rfl, trivial⟩) sn_ ?_
 intro z hz
 refine d_<|d_<|a_<|q_ 2 rfl<|b_ (w_ rfl Tryz.underlying24 (List.length_map _)) rfl rfl<|q_ 1 rfl<|g_<|c_<|o_ rfl ?_ ?_
 rotate_left
 ·intro hc9
  refine T_<|i_ nofun<|i_ nofun<|S_<|c_<|d_<|a_<|q_ 1 rfl<|g_<|c_<|n_<|f_ (rs := [.tmp 4]) rfl (RV.tmp rfl RV.nil) (⟨true, ⟨fun _ j hj => hz.2 j hj (by omega), fun _ => rfl⟩⟩) sn_ ?_
  exact rfl
 intro hc9
 have hlt : z < xs.length := by omega
 refine s_<|c_<|d_<|u_<|d_<|U_ [] (.q 0 (.q 1 (.q 2 (.q 3 (.q 4 (.q 5 (.q 6 (.q 7 (.q 8 (.q 9 (.e 10 (.q 11 .nil)))))))))))) (by kernel_rfl) (by kernel_rfl) ?_
 refine qs_ 3 rfl<|l_ rfl (be_ rfl rfl (by simp only [InR, lo, hi]; omega)) (by simp) rfl rfl ?_
 refine hx_ fun hx9 =>l_ rfl (E_ (q := z - 1) tabOk Tryz.underlying24 rfl rfl rfl (by omega) (ah_ (by omega)) rfl rfl) hx9 rfl rfl ?_
 refine l_ rfl (V_ tabOk rfl rfl rfl rfl) hx9 rfl rfl<|qs_ 2 rfl<|l_ rfl (E_ tabOk Tryz.underlying24 rfl rfl rfl rfl (ah_ (by omega)) rfl rfl) (by simp) rfl rfl ?_
 refine l_ rfl (V_ tabOk rfl rfl rfl rfl) hx9 rfl rfl<|fH_ rfl (h _ (List.getElem_mem (by omega : z - 1 < xs.length)) _ (List.getElem_mem hlt)) (by simp [mids, It.mids]) rfl Casts.refl hb rfl rfl rfl ?_
 refine ap_<|fun _=>l_ rfl (aB_ rfl) (by simp) rfl rfl ?_
 refine I_<|c_<|aE_ rfl ?_ ?_
 rotate_left
 ·intro hc23
  refine s_<|r_<|c_<|a_<|q_ 1 rfl<|b_ (v_ rfl rfl (by simp only [InR, lo, hi]; omega)) rfl rfl ?_
  refine q_ 1 rfl<|g_<|A_ (z + 1) (by omega) (⟨by omega, fun j hj hjz => by rcases Nat.lt_or_ge (j + 1) z with h1 | h1; exact hz.2 j hj h1; obtain rfl : j = z - 1 := (by omega); have hq := hc23; simp only [show z - 1 + 1 = z by omega]; simpa using hq⟩) (by exact ⟨rfl, rfl, rfl, trivial⟩) sn_
 intro hc23
 refine d_<|a_<|q_ 1 rfl<|g_<|c_<|n_<|B_<|i_ nofun<|i_ nofun<|B_<|i_ nofun<|f_ (rs := [.tmp 4]) rfl (RV.tmp rfl RV.nil) (⟨false, ⟨fun h => (by cases h), fun h => by have h2 := h (z - 1) (by omega); simp only [show z - 1 + 1 = z by omega] at h2; rw [h2] at hc23; cases hc23⟩⟩) sn_ ?_
 exact rfl
theorem fq_ {xs : List Pnt} {p : Pnt → Bool} {k : Nat} {caps : List Abs} {σ : Blks} (hb : goesIn Tryz.prog k = true) (hr : Rds σ) (hn : xs.length < 9223372036854775807) (h : ∀ x ∈ xs, Spec Tryz.prog k (.agg (Pnt.abs x) :: caps) σ (fun _ : Unit => []) (fun _ => boo (p x))) : Spec Tryz.prog 130 [.sl 33 (xs.map Pnt.abs), .fn (.func k) [] caps] σ (fun _ : {r : Int // 0 ≤ r ↔ ∃ x ∈ xs, p x = true} => []) (fun z => int z.1) := by
 refine K_ Tryz.func130 rfl Tryz.ntmps130 rfl fun G w =>d_<|a_<|q_ 1 rfl<|g_<|c_<|d_<|d_<|a_<|q_ 1 rfl<|b_ (w_ rfl Tryz.underlying23 (List.length_map _)) rfl rfl<|q_ 1 rfl<|g_<|c_<|u_<|W_ (ι := Nat) (fun z => σ) (fun z => [(0, .sl 33 (xs.map Pnt.abs)), (1, .fn (.func k) [] caps), (7, int (xs.length : Nat)), (8, int (z : Nat))]) (fun z => z ≤ xs.length ∧ ∀ j (hj : j < xs.length), j < z → p xs[j] = false) (fun z => xs.length - z) (0) (⟨Nat.zero_le _, by omega⟩) (by exact ⟨rfl, rfl, rfl, rfl, trivial⟩) sr_ ?_
 intro z hz
 refine d_<|a_<|q_ 1 rfl<|g_<|c_<|d_<|o_ rfl ?_ ?_
 rotate_left
 ·intro hc9
  refine T_<|i_ nofun<|i_ nofun<|S_<|c_<|d_<|a_<|q_ 1 rfl<|g_<|c_<|n_<|f_ (rs := [.tmp 4]) rfl (RV.tmp rfl RV.nil) (⟨-1, ⟨fun h => (by omega), fun ⟨x, hx, hp⟩ => by obtain ⟨j, hj, rfl⟩ := List.getElem_of_mem hx; have := hz.2 j hj (by omega); rw [this] at hp; cases hp⟩⟩) sn_ ?_
  exact rfl
 intro hc9
 have hlt : z < xs.length := by omega
 refine s_<|c_<|d_<|u_<|d_<|a_<|q_ 2 rfl<|g_<|c_<|d_<|a_<|q_ 3 rfl<|b_ (E_ tabOk Tryz.underlying23 rfl rfl rfl rfl (ah_ (by omega)) rfl rfl) rfl rfl ?_
 refine b_ (V_ tabOk rfl rfl rfl (Pnt.size _)) rfl rfl<|ci_ (h _ (List.getElem_mem hlt)) rfl Casts.refl hb rfl rfl rfl<|bo_ (Rds.reads hr (fun x hx => by repeat (first | exact hx | apply List.mem_cons_of_mem))) (fun _ => rfl) ?_
 intro _
 refine g_<|c_<|aE_ rfl ?_ ?_
 rotate_left
 ·intro hc16
  refine s_<|r_<|c_<|a_<|b_ (v_ rfl rfl (by simp only [InR, lo, hi]; omega)) rfl rfl ?_
  refine q_ 1 rfl<|g_<|A_ (z + 1) (by omega) (⟨by omega, fun j hj hjz => by rcases Nat.lt_or_ge j z with h1 | h1; exact hz.2 j hj h1; obtain rfl : j = z := (by omega); exact hc16⟩) (by exact ⟨rfl, rfl, rfl, rfl, trivial⟩) sr_
 intro hc16
 refine d_<|a_<|q_ 2 rfl<|g_<|c_<|n_<|B_<|i_ nofun<|i_ nofun<|B_<|i_ nofun<|f_ (rs := [.tmp 4]) rfl (RV.tmp rfl RV.nil) (⟨(z : Nat), ⟨fun _ => ⟨_, List.getElem_mem hlt, hc16⟩, fun _ => (by omega)⟩⟩) sn_ ?_
 exact rfl
theorem dL_ {xs : List Pnt} {p : Pnt → Bool} {k : Nat} {caps : List Abs} {σ : Blks} (hb : goesIn Tryz.prog k = true) (hr : Rds σ) (hn : xs.length < 9223372036854775807) (h : ∀ x ∈ xs, Spec Tryz.prog k (.agg (Pnt.abs x) :: caps) σ (fun _ : Unit => []) (fun _ => boo (p x))) : Spec Tryz.prog 98 [.sl 33 (xs.map Pnt.abs), .fn (.func k) [] caps] σ (fun _ : Unit => []) (fun _ => boo (xs.any p)) := by
 refine K_ Tryz.func98 rfl Tryz.ntmps98 rfl fun G w =>d_<|a_<|q_ 1 rfl<|g_<|c_<|d_<|a_<|q_ 2 rfl<|t_ (fq_ hb hr hn h) Casts.refl (by kernel_rfl) rfl rfl rfl ?_
 refine bo_ (Rds.reads hr (fun x hx => by repeat (first | exact hx | apply List.mem_cons_of_mem))) (fun _ => rfl) ?_
 intro r
 refine q_ 2 rfl<|g_<|c_<|n_<|f_ (rs := [.tmp 4]) rfl (RV.tmp rfl RV.nil) (()) sn_<|congrArg (fun b => Abs.v (Value.bool b)) ?_
 rw [Bool.eq_iff_iff, decide_eq_true_iff, r.2, List.any_eq_true]
theorem hN_ {xs : List Pnt} {p : Pnt → Pnt → Bool} {k : Nat} (hb : goesIn Tryz.prog k = true) (hn : xs.length < 9223372036854775807) (h : ∀ x ∈ xs, ∀ y ∈ xs, Pure Tryz.prog k [.agg (Pnt.abs x), .agg (Pnt.abs y)] (boo (p x y))) : Spec Tryz.prog 99 [.sl 33 (xs.map Pnt.abs), .fn (.func k) [] []] [] (fun _ : {b : Bool // b = true ↔ Rises p xs} => []) (fun z => boo z.1) := by
 refine K_ Tryz.func99 rfl Tryz.ntmps99 rfl fun G w =>d_<|a_<|q_ 1 rfl<|g_<|c_<|d_<|d_<|a_<|q_ 1 rfl<|g_<|c_<|u_<|W_ (ι := Nat) (fun z => []) (fun z => [(0, .sl 33 (xs.map Pnt.abs)), (1, .fn (.func k) [] []), (5, int (z : Nat))]) (fun z => 1 ≤ z ∧ ∀ j (hj : j + 1 < xs.length), j + 1 < z → p xs[j] xs[j + 1] = true) (fun z => xs.length - z) (1) (⟨Nat.le_refl _, by omega⟩) (by exact ⟨rfl, rfl, rfl, trivial⟩) sn_ ?_
 intro z hz
 refine d_<|d_<|a_<|q_ 2 rfl<|b_ (w_ rfl Tryz.underlying23 (List.length_map _)) rfl rfl<|q_ 1 rfl<|g_<|c_<|o_ rfl ?_ ?_
 rotate_left
 ·intro hc9
  refine T_<|i_ nofun<|i_ nofun<|S_<|c_<|d_<|a_<|q_ 1 rfl<|g_<|c_<|n_<|f_ (rs := [.tmp 4]) rfl (RV.tmp rfl RV.nil) (⟨true, ⟨fun _ j hj => hz.2 j hj (by omega), fun _ => rfl⟩⟩) sn_ ?_
  exact rfl
 intro hc9
 have hlt : z < xs.length := by omega
 refine s_<|c_<|d_<|u_<|d_<|U_ [] (.q 0 (.q 1 (.q 2 (.q 3 (.q 4 (.q 5 (.q 6 (.q 7 (.q 8 (.q 9 (.e 10 (.q 11 .nil)))))))))))) (by kernel_rfl) (by kernel_rfl) ?_
 refine qs_ 3 rfl<|l_ rfl (be_ rfl rfl (by simp only [InR, lo, hi]; omega)) (by simp) rfl rfl ?_
 refine hx_ fun hx9 =>l_ rfl (E_ (q := z - 1) tabOk Tryz.underlying23 rfl rfl rfl (by omega) (ah_ (by omega)) rfl rfl) hx9 rfl rfl ?_
 refine l_ rfl (V_ tabOk rfl rfl rfl (Pnt.size _)) hx9 rfl rfl<|qs_ 2 rfl<|l_ rfl (E_ tabOk Tryz.underlying23 rfl rfl rfl rfl (ah_ (by omega)) rfl rfl) (by simp) rfl rfl ?_
 refine l_ rfl (V_ tabOk rfl rfl rfl (Pnt.size _)) hx9 rfl rfl<|fH_ rfl (h _ (List.getElem_mem (by omega : z - 1 < xs.length)) _ (List.getElem_mem hlt)) (by simp [mids, It.mids]) rfl Casts.refl hb rfl rfl rfl ?_
 refine ap_<|fun _=>l_ rfl (aB_ rfl) (by simp) rfl rfl ?_
 refine I_<|c_<|aE_ rfl ?_ ?_
 rotate_left
 ·intro hc23
  refine s_<|r_<|c_<|a_<|q_ 1 rfl<|b_ (v_ rfl rfl (by simp only [InR, lo, hi]; omega)) rfl rfl ?_
  refine q_ 1 rfl<|g_<|A_ (z + 1) (by omega) (⟨by omega, fun j hj hjz => by rcases Nat.lt_or_ge (j + 1) z with h1 | h1; exact hz.2 j hj h1; obtain rfl : j = z - 1 := (by omega); have hq := hc23; simp only [show z - 1 + 1 = z by omega]; simpa using hq⟩) (by exact ⟨rfl, rfl, rfl, trivial⟩) sn_
 intro hc23
 refine d_<|a_<|q_ 1 rfl<|g_<|c_<|n_<|B_<|i_ nofun<|i_ nofun<|B_<|i_ nofun<|f_ (rs := [.tmp 4]) rfl (RV.tmp rfl RV.nil) (⟨false, ⟨fun h => (by cases h), fun h => by have h2 := h (z - 1) (by omega); simp only [show z - 1 + 1 = z by omega] at h2; rw [h2] at hc23; cases hc23⟩⟩) sn_ ?_
 exact rfl
noncomputable def yes (p : Prop) : Bool := @decide p (Classical.propDecidable p)
theorem P_ {p : Prop} : yes p = true ↔ p := by unfold yes; exact @decide_eq_true_iff p (Classical.propDecidable p)
theorem ba_ {b : Bool} {p : Prop} (h : b = true ↔ p) : retA [boo b] = boo (yes p) := congrArg (fun b => Abs.v (Value.bool b)) (by rw [Bool.eq_iff_iff, P_]; exact h)
theorem al_ {p : Prop} (h : ¬ p) : retA [boo false] = boo (yes p) := ba_ ⟨fun h => (by cases h), fun h2 => absurd h2 h⟩
theorem b8_ {b : Bool} {p : Prop} (h : b = true ↔ ¬ p) : retA [boo b] = boo (!yes p) := congrArg (fun b => Abs.v (Value.bool b)) (by rw [Bool.eq_iff_iff, Bool.not_eq_true', ← Bool.not_eq_true, P_]; exact h)
theorem cm_ {p : Prop} : yes p = false ↔ ¬ p := by unfold yes; exact @decide_eq_false_iff_not p (Classical.propDecidable p)
def Prf.fits (p : Prf) (low view n : Int) : Prop := low < p.seq ∧ p.seq ≤ low + 8 ∧ 0 ≤ p.view ∧ p.view < view ∧ chkB p.batch n = 0
def Prf.lt (p q : Prf) : Prop := p.seq < q.seq
instance (p q : Prf) : Decidable (p.lt q) := inferInstanceAs (Decidable (_ < _))
def Prf.lt2 (p q : Prf) : Prop := p.seq < q.seq ∨ p.seq = q.seq ∧ p.view < q.view
instance (p q : Prf) : Decidable (p.lt2 q) := inferInstanceAs (Decidable (_ ∨ _ ∧ _))
def prfsOk (r : Prf → Prf → Bool) (most low view n : Int) (ps : List Prf) : Prop := (ps.length : Int) ≤ most ∧ Rises r ps ∧ ∀ p ∈ ps, p.fits low view n
def pntsOk (low : Int) (ps : List Pnt) : Prop := 1 ≤ ps.length ∧ ps.length ≤ 4 ∧ (∀ p, ps[0]? = some p → p.seq = low) ∧ (∀ p ∈ ps, isMark p.seq) ∧ Rises (fun a b : Pnt => decide (a.seq < b.seq)) ps
def Chg.Right (c : Chg) (n : Int) : Prop := 1 ≤ c.view ∧ c.view ≤ 1048576 ∧ isMark c.low ∧ pntsOk c.low c.points ∧ prfsOk (fun p q => decide (p.lt q)) 8 c.low c.view n c.prepared ∧ prfsOk (fun p q => decide (p.lt2 q)) 64 c.low c.view n c.proposed
noncomputable def Chg.check (c : Chg) (n : Int) : Int := if n < 1 ∨ 7 < n then 1 else bif yes (c.Right n) then 0 else 2
def Long (ps : List Prf) : Prop := ps.length < 9223372036854775807 ∧ ∀ p ∈ ps, p.batch.length ≤ 1000000
section
variable {c : Chg} {p q : Prf} {ps : List Prf} {n low most : Int}
theorem bySeq_s  : Spec Tryz.prog 68 [.agg p.abs, .agg q.abs] [] (fun _ : Unit => []) (fun _ => boo (decide (p.lt q))) := by
 refine K_ Tryz.func68 rfl Tryz.ntmps68 rfl fun G w =>d_<|a_<|eb_ (O_ rfl) rfl rfl fun b2=>?_
 refine eb_ (O_ rfl) rfl rfl fun b3=>?_
 refine q_ 1 rfl<|g_<|c_<|d_<|a_<|q_ 1 rfl<|b_ (j_ tabOk rfl rfl l1_ List.not_mem_nil rfl) rfl rfl<|q_ 1 rfl<|b_ (j_ tabOk rfl rfl l0_ List.not_mem_nil rfl) rfl rfl<|q_ 2 rfl<|g_<|c_<|n_<|f_ (rs := [.tmp 4]) rfl (RV.tmp rfl RV.nil) (()) sn_<|congrArg (fun b => Abs.v (Value.bool b)) ?_
 (rw [decide_eq_decide]; unfold Prf.lt; exact Iff.rfl)
theorem byView_s  : Spec Tryz.prog 69 [.agg p.abs, .agg q.abs] [] (fun _ : Unit => []) (fun _ => boo (decide (p.lt2 q))) := by
 refine K_ Tryz.func69 rfl Tryz.ntmps69 rfl fun G w =>d_<|a_<|eb_ (O_ rfl) rfl rfl fun b2=>?_
 refine eb_ (O_ rfl) rfl rfl fun b3=>?_
 refine q_ 1 rfl<|g_<|c_<|d_<|a_<|q_ 1 rfl<|b_ (j_ tabOk rfl rfl l1_ List.not_mem_nil rfl) rfl rfl<|q_ 1 rfl<|b_ (j_ tabOk rfl rfl l0_ List.not_mem_nil rfl) rfl rfl<|q_ 2 rfl<|z_ (t := 10) rfl ?_ ?_
 ·intro hc10
  refine q_ 14 rfl<|g_<|c_<|n_<|f_ (rs := [.tmp 4]) rfl (RV.tmp rfl RV.nil) (()) sn_<|congrArg (fun b => Abs.v (Value.bool b)) ?_
  (refine (decide_eq_true ?_).symm; unfold Prf.lt2; omega)
 intro hc10
 refine q_ 1 rfl<|b_ (j_ tabOk rfl rfl l1_ List.not_mem_nil rfl) rfl rfl<|q_ 1 rfl<|b_ (j_ tabOk rfl rfl l0_ List.not_mem_nil rfl) rfl rfl<|q_ 2 rfl<|z_ (t := 16) rfl ?_ ?_
 ·intro hc16
  refine q_ 1 rfl<|b_ (j_ tabOk rfl rfl l1_ List.not_mem_nil rfl) rfl rfl<|q_ 1 rfl<|b_ (j_ tabOk rfl rfl l0_ List.not_mem_nil rfl) rfl rfl<|q_ 4 rfl<|g_<|c_<|n_<|f_ (rs := [.tmp 4]) rfl (RV.tmp rfl RV.nil) (()) sn_<|congrArg (fun b => Abs.v (Value.bool b)) ?_
  (rw [decide_eq_decide]; unfold Prf.lt2; omega)
 intro hc16
 refine q_ 8 rfl<|g_<|c_<|n_<|f_ (rs := [.tmp 4]) rfl (RV.tmp rfl RV.nil) (()) sn_<|congrArg (fun b => Abs.v (Value.bool b)) ?_
 (refine (decide_eq_false ?_).symm; unfold Prf.lt2; omega)
theorem pnt1_s {p : Pnt} : Spec Tryz.prog 97 [.agg p.abs] [] (fun _ : Unit => []) (fun _ => boo (!decide (isMark p.seq))) := by
 refine K_ Tryz.func97 rfl Tryz.ntmps97 rfl fun G w =>d_<|a_<|eb_ (O_ rfl) rfl rfl fun b1=>?_
 refine q_ 1 rfl<|g_<|c_<|d_<|a_<|q_ 1 rfl<|b_ (j_ tabOk rfl rfl l0_ List.not_mem_nil rfl) rfl rfl<|t_ (mark_s (x := p.seq)) Casts.refl (by kernel_rfl) rfl rfl rfl ?_
 exact ap_<|fun _=>b_ (aB_ rfl) rfl rfl<|q_ 1 rfl<|g_<|c_<|n_<|f_ (rs := [.tmp 2]) rfl (RV.tmp rfl RV.nil) (()) sn_<|rfl
theorem pnt2_s {p q : Pnt} : Spec Tryz.prog 100 [.agg p.abs, .agg q.abs] [] (fun _ : Unit => []) (fun _ => boo (decide (p.seq < q.seq))) := by
 refine K_ Tryz.func100 rfl Tryz.ntmps100 rfl fun G w =>d_<|a_<|eb_ (O_ rfl) rfl rfl fun b2=>?_
 refine eb_ (O_ rfl) rfl rfl fun b3=>?_
 exact q_ 1 rfl<|g_<|c_<|d_<|a_<|q_ 1 rfl<|b_ (j_ tabOk rfl rfl l1_ List.not_mem_nil rfl) rfl rfl<|q_ 1 rfl<|b_ (j_ tabOk rfl rfl l0_ List.not_mem_nil rfl) rfl rfl<|q_ 2 rfl<|g_<|c_<|n_<|f_ (rs := [.tmp 4]) rfl (RV.tmp rfl RV.nil) (()) sn_<|rfl
theorem points_s {ps : List Pnt} (hn : ps.length < 9223372036854775807) : Spec Tryz.prog 66 [pntsA ps, int low] [] (fun _ : Unit => []) (fun _ => boo (yes (pntsOk low ps))) := by
 refine K_ Tryz.func66 rfl Tryz.ntmps66 rfl fun G w =>d_<|a_<|q_ 1 rfl<|g_<|c_<|d_<|a_<|q_ 1 rfl<|g_<|c_<|d_<|a_<|q_ 1 rfl<|b_ (w_ rfl Tryz.underlying23 (List.length_map _)) rfl rfl<|q_ 2 rfl<|z_ (t := 9) rfl ?_ ?_
 rotate_left
 ·intro hc9
  exact q_ 23 rfl<|g_<|c_<|n_<|f_ (rs := [.tmp 4]) rfl (RV.tmp rfl RV.nil) (()) sn_<|al_ fun h => by have := h.1; omega
 intro hc9
 refine q_ 1 rfl<|b_ (w_ rfl Tryz.underlying23 (List.length_map _)) rfl rfl<|q_ 3 rfl<|z_ (t := 14) rfl ?_ ?_
 rotate_left
 ·intro hc14
  exact q_ 18 rfl<|g_<|c_<|n_<|f_ (rs := [.tmp 4]) rfl (RV.tmp rfl RV.nil) (()) sn_<|al_ fun h => by have := h.2.1; omega
 intro hc14
 have h0 : 0 < ps.length := by omega
 refine q_ 1 rfl<|b_ (E_ (q := 0) tabOk Tryz.underlying23 rfl rfl rfl rfl (ah_ h0) rfl rfl) rfl rfl<|b_ (aa_ tabOk rfl rfl rfl rfl rfl) rfl rfl<|b_ (as_ tabOk rfl rfl rfl) rfl rfl<|q_ 4 rfl<|z_ (t := 22) rfl ?_ ?_
 rotate_left
 ·intro hc22
  exact q_ 10 rfl<|g_<|c_<|n_<|f_ (rs := [.tmp 4]) rfl (RV.tmp rfl RV.nil) (()) sn_<|al_ fun h => hc22 (h.2.2.1 _ (List.getElem?_eq_getElem h0))
 intro hc22
 refine q_ 2 rfl<|t_ (dL_ (k := 97) (caps := []) (σ := []) (p := fun p : Pnt => !decide (isMark p.seq)) (by kernel_rfl) (fun x hx => by cases hx) hn (fun _ _ => pnt1_s)) Casts.refl (by kernel_rfl) rfl rfl rfl ?_
 refine ap_<|fun _=>b_ (aB_ rfl) rfl rfl<|q_ 2 rfl<|aY_ (t := 28) rfl ?_ ?_
 rotate_left
 ·intro hc28
  exact q_ 4 rfl<|g_<|c_<|n_<|f_ (rs := [.tmp 4]) rfl (RV.tmp rfl RV.nil) (()) sn_<|al_ fun h => by have h2 : ps.any (fun p => !decide (isMark p.seq)) = true := (by simpa using hc28); rw [List.any_eq_true] at h2; obtain ⟨p, h3, h4⟩ := h2; have h5 := h.2.2.2.1 p h3; simp [h5] at h4
 intro hc28
 refine q_ 1 rfl<|t_ (hN_ (k := 100) (p := fun a b : Pnt => decide (a.seq < b.seq)) (by kernel_rfl) hn (fun _ _ _ _ => pnt2_s)) Casts.refl (by kernel_rfl) rfl rfl rfl ?_
 exact ap_<|fun b=>q_ 2 rfl<|g_<|c_<|n_<|f_ (rs := [.tmp 4]) rfl (RV.tmp rfl RV.nil) (()) sn_<|ba_ ⟨fun h => ⟨by omega, by omega, fun p hp => by rw [List.getElem?_eq_getElem h0] at hp; cases hp; exact hc22, fun p hp => by have h2 : ps.any (fun p => !decide (isMark p.seq)) = false := (by simpa using hc28); rw [List.any_eq_false] at h2; have h3 := h2 p hp; simpa using h3, b.2.1 h⟩, fun h => b.2.2 h.2.2.2.2⟩
theorem prf1_s {bc bn TC TN : Nat} {c : Chg} {n : Int} {p : Prf} (hl : p.batch.length ≤ 1000000) (hm : isMark c.low) : Spec Tryz.prog 101 [.agg p.abs, ptr bc, ptr bn] [.rd bc TC c.abs, .rd bn TN [int n]] (fun _ : Unit => []) (fun _ => boo (!yes (p.fits c.low c.view n))) := by
 unfold isMark isSeq at hm
 refine K_ Tryz.func101 rfl Tryz.ntmps101 rfl fun G w =>d_<|a_<|eb_ (O_ rfl) rfl rfl fun b3=>?_
 refine q_ 1 rfl<|g_<|c_<|d_<|a_<|q_ 1 rfl<|b_ (j_ tabOk rfl rfl l0_ List.not_mem_nil rfl) rfl rfl<|q_ 1 rfl<|b_ (j_ tabOk rfl rfl r1_ List.not_mem_nil rfl) rfl rfl<|q_ 2 rfl<|z_ (t := 10) rfl ?_ ?_
 ·intro hc10
  exact q_ 27 rfl<|g_<|c_<|n_<|f_ (rs := [.tmp 4]) rfl (RV.tmp rfl RV.nil) (()) sn_<|b8_ (by unfold Prf.fits; exact ⟨fun _ => by omega, fun _ => rfl⟩)
 intro hc10
 refine q_ 1 rfl<|b_ (j_ tabOk rfl rfl l0_ List.not_mem_nil rfl) rfl rfl<|q_ 1 rfl<|b_ (j_ tabOk rfl rfl r1_ List.not_mem_nil rfl) rfl rfl<|b_ (v_ rfl rfl (by simp only [InR, lo, hi]; omega)) rfl rfl ?_
 refine q_ 3 rfl<|z_ (t := 18) rfl ?_ ?_
 ·intro hc18
  exact q_ 19 rfl<|g_<|c_<|n_<|f_ (rs := [.tmp 4]) rfl (RV.tmp rfl RV.nil) (()) sn_<|b8_ (by unfold Prf.fits; exact ⟨fun _ => by omega, fun _ => rfl⟩)
 intro hc18
 refine q_ 1 rfl<|b_ (j_ tabOk rfl rfl l0_ List.not_mem_nil rfl) rfl rfl<|q_ 3 rfl<|z_ (t := 23) rfl ?_ ?_
 ·intro hc23
  exact q_ 14 rfl<|g_<|c_<|n_<|f_ (rs := [.tmp 4]) rfl (RV.tmp rfl RV.nil) (()) sn_<|b8_ (by unfold Prf.fits; exact ⟨fun _ => by omega, fun _ => rfl⟩)
 intro hc23
 refine q_ 1 rfl<|b_ (j_ tabOk rfl rfl l0_ List.not_mem_nil rfl) rfl rfl<|q_ 1 rfl<|b_ (j_ tabOk rfl rfl r1_ List.not_mem_nil rfl) rfl rfl<|q_ 3 rfl<|z_ (t := 30) rfl ?_ ?_
 ·intro hc30
  exact q_ 7 rfl<|g_<|c_<|n_<|f_ (rs := [.tmp 4]) rfl (RV.tmp rfl RV.nil) (()) sn_<|b8_ (by unfold Prf.fits; exact ⟨fun _ => by omega, fun _ => rfl⟩)
 intro hc30
 refine q_ 1 rfl<|b_ (j_ tabOk rfl rfl l0_ List.not_mem_nil rfl) rfl rfl<|b_ (j_ tabOk rfl rfl r2_ List.not_mem_nil rfl) rfl rfl<|t_ (bcheck_s (es := p.batch) (n := n) hl) Casts.refl (by kernel_rfl) rfl rfl rfl ?_
 exact ap_<|fun _=>q_ 3 rfl<|g_<|c_<|n_<|f_ (rs := [.tmp 4]) rfl (RV.tmp rfl RV.nil) (()) sn_<|b8_ (by unfold Prf.fits; (rw [decide_eq_true_iff]; omega))
theorem iE_ {c : Chg} {n : Int} (hl : Long ps) (hm : isMark c.low) : Spec Tryz.prog 67 [prfsA ps, .agg c.abs, int n, int most, .fn (.func 68) [] []] [] (fun _ : Unit => []) (fun _ => boo (yes (prfsOk (fun p q => decide (p.lt q)) most c.low c.view n ps))) := by
 refine K_ Tryz.func67 rfl Tryz.ntmps67 rfl fun G w =>d_<|a_<|eb_ (O_ rfl) rfl rfl fun b6=>?_
 refine eb_ (d2_ rfl rfl) rfl rfl fun b7=>?_
 refine q_ 1 rfl<|g_<|c_<|d_<|a_<|b_ (bD_ rfl rfl) rfl rfl<|q_ 1 rfl<|g_<|c_<|d_<|a_<|q_ 1 rfl<|b_ (w_ rfl Tryz.underlying24 (List.length_map _)) rfl rfl<|q_ 3 rfl<|z_ (t := 17) rfl ?_ ?_
 rotate_left
 ·intro hc17
  exact q_ 11 rfl<|g_<|c_<|n_<|f_ (rs := [.tmp 10]) rfl (RV.tmp rfl RV.nil) (()) sn_<|al_ fun h => by have := h.1; omega
 intro hc17
 refine q_ 2 rfl<|t_ (eO_ (k := 68) (p := fun p q => decide (p.lt q)) (by kernel_rfl) hl.1 (fun _ _ _ _ => bySeq_s)) Casts.refl (by kernel_rfl) rfl rfl rfl ?_
 refine ap_<|fun b=>q_ 2 rfl<|aY_ (t := 22) rfl ?_ ?_
 rotate_left
 ·intro hc22
  exact q_ 6 rfl<|g_<|c_<|n_<|f_ (rs := [.tmp 10]) rfl (RV.tmp rfl RV.nil) (()) sn_<|al_ fun h => by have h2 := b.2.2 h.2.1; rw [hc22] at h2; cases h2
 intro hc22
 refine q_ 2 rfl<|t_ (cn_ (k := 101) (caps := [ptr b6, ptr b7]) (σ := [.rd b6 26 c.abs, .rd b7 3 [int n]]) (p := fun p : Prf => !yes (p.fits c.low c.view n)) (by kernel_rfl) (by intro x hx; simp only [List.mem_cons, List.not_mem_nil, or_false] at hx; rcases hx with rfl | rfl <;> exact .inl ⟨_, _, _, rfl⟩) hl.1 (fun p hp => prf1_s (hl.2 p hp) hm)) Casts.refl (by kernel_rfl) rfl rfl rfl ?_
 exact ap_<|fun _=>b_ (aB_ rfl) rfl rfl<|q_ 2 rfl<|g_<|c_<|n_<|f_ (rs := [.tmp 10]) rfl (RV.tmp rfl RV.nil) (()) sn_<|ba_ ⟨fun h => ⟨by omega, b.2.1 (by assumption), fun p hp => by have h2 : ps.any (fun p => !yes (p.fits c.low c.view n)) = false := (by simpa using h); rw [List.any_eq_false] at h2; have h3 := h2 p hp; simpa [P_] using h3⟩, fun h => by show (!ps.any (fun p => !yes (p.fits c.low c.view n))) = true; rw [Bool.not_eq_true', List.any_eq_false]; intro p hp; have h3 := h.2.2 p hp; simpa [P_] using h3⟩
theorem iD_ {c : Chg} {n : Int} (hl : Long ps) (hm : isMark c.low) : Spec Tryz.prog 67 [prfsA ps, .agg c.abs, int n, int most, .fn (.func 69) [] []] [] (fun _ : Unit => []) (fun _ => boo (yes (prfsOk (fun p q => decide (p.lt2 q)) most c.low c.view n ps))) := by
 refine K_ Tryz.func67 rfl Tryz.ntmps67 rfl fun G w =>d_<|a_<|eb_ (O_ rfl) rfl rfl fun b6=>?_
 refine eb_ (d2_ rfl rfl) rfl rfl fun b7=>?_
 refine q_ 1 rfl<|g_<|c_<|d_<|a_<|b_ (bD_ rfl rfl) rfl rfl<|q_ 1 rfl<|g_<|c_<|d_<|a_<|q_ 1 rfl<|b_ (w_ rfl Tryz.underlying24 (List.length_map _)) rfl rfl<|q_ 3 rfl<|z_ (t := 17) rfl ?_ ?_
 rotate_left
 ·intro hc17
  exact q_ 11 rfl<|g_<|c_<|n_<|f_ (rs := [.tmp 10]) rfl (RV.tmp rfl RV.nil) (()) sn_<|al_ fun h => by have := h.1; omega
 intro hc17
 refine q_ 2 rfl<|t_ (eO_ (k := 69) (p := fun p q => decide (p.lt2 q)) (by kernel_rfl) hl.1 (fun _ _ _ _ => byView_s)) Casts.refl (by kernel_rfl) rfl rfl rfl ?_
 refine ap_<|fun b=>q_ 2 rfl<|aY_ (t := 22) rfl ?_ ?_
 rotate_left
 ·intro hc22
  exact q_ 6 rfl<|g_<|c_<|n_<|f_ (rs := [.tmp 10]) rfl (RV.tmp rfl RV.nil) (()) sn_<|al_ fun h => by have h2 := b.2.2 h.2.1; rw [hc22] at h2; cases h2
 intro hc22
 refine q_ 2 rfl<|t_ (cn_ (k := 101) (caps := [ptr b6, ptr b7]) (σ := [.rd b6 26 c.abs, .rd b7 3 [int n]]) (p := fun p : Prf => !yes (p.fits c.low c.view n)) (by kernel_rfl) (by intro x hx; simp only [List.mem_cons, List.not_mem_nil, or_false] at hx; rcases hx with rfl | rfl <;> exact .inl ⟨_, _, _, rfl⟩) hl.1 (fun p hp => prf1_s (hl.2 p hp) hm)) Casts.refl (by kernel_rfl) rfl rfl rfl ?_
 exact ap_<|fun _=>b_ (aB_ rfl) rfl rfl<|q_ 2 rfl<|g_<|c_<|n_<|f_ (rs := [.tmp 10]) rfl (RV.tmp rfl RV.nil) (()) sn_<|ba_ ⟨fun h => ⟨by omega, b.2.1 (by assumption), fun p hp => by have h2 : ps.any (fun p => !yes (p.fits c.low c.view n)) = false := (by simpa using h); rw [List.any_eq_false] at h2; have h3 := h2 p hp; simpa [P_] using h3⟩, fun h => by show (!ps.any (fun p => !yes (p.fits c.low c.view n))) = true; rw [Bool.not_eq_true', List.any_eq_false]; intro p hp; have h3 := h.2.2 p hp; simpa [P_] using h3⟩
end
theorem fh_ {L ys : List Abs} (h : ys.length = L.length) : putL L 0 ys = ys := by
  simp [putL, h]
theorem cB_ {α : Type} {p : α → α → Bool} {xs : List α} (h : Rises p xs) {z : Nat} (h0 : 0 < z) (hlt : z < xs.length) : p (xs[z - 1]'(by omega)) xs[z] = true := by
  have := h (z - 1) (by omega)
  simpa [show z - 1 + 1 = z by omega] using this
def Lets (ps : List Prf) : Prop := ∀ p ∈ ps, ∀ e ∈ p.batch, e.core.letter.size ≤ lots
section
variable {c : Chg} {p q : Prf} {ps : List Prf} {n low most : Int}
theorem jh_ (h1 : Long c.prepared) (h2 : Long c.proposed) (h3 : c.points.length < 9223372036854775807) : Spec Tryz.prog 35 [.agg c.abs, int n] [] (fun _ : Unit => []) (fun _ => int (c.check n)) := by
 refine K_ Tryz.func35 rfl Tryz.ntmps35 rfl fun G w =>d_<|a_<|eb_ (O_ rfl) rfl rfl fun b2=>?_
 refine q_ 1 rfl<|g_<|c_<|d_<|u_<|d_<|a_<|q_ 3 rfl<|z_ (t := 8) rfl ?_ ?_
 ·intro hc8
  refine q_ 4 rfl<|g_<|c_<|M_ rfl<|d_<|a_<|q_ 1 rfl<|g_<|c_<|n_<|B_<|i_ nofun<|f_ (rs := [.tmp 4]) rfl (RV.tmp rfl RV.nil) (()) sn_<|congrArg int ?_
  unfold Chg.check
  (rw [if_pos (by omega)])
 intro hc8
 refine q_ 4 rfl<|g_<|c_<|o_ rfl ?_ ?_
 ·intro hc5
  refine d_<|a_<|q_ 1 rfl<|g_<|c_<|n_<|B_<|i_ nofun<|f_ (rs := [.tmp 4]) rfl (RV.tmp rfl RV.nil) (()) sn_<|congrArg int ?_
  unfold Chg.check
  (rw [if_pos (by omega)])
 intro hc5
 refine d_<|a_<|q_ 1 rfl<|b_ (j_ tabOk rfl rfl l0_ List.not_mem_nil rfl) rfl rfl<|q_ 2 rfl<|z_ (t := 16) rfl ?_ ?_
 ·intro hc16
  refine q_ 19 rfl<|g_<|c_<|M_ rfl<|d_<|a_<|q_ 1 rfl<|g_<|c_<|n_<|B_<|i_ nofun<|f_ (rs := [.tmp 4]) rfl (RV.tmp rfl RV.nil) (()) sn_<|congrArg int ?_
  unfold Chg.check
  first
   | (rw [if_pos (by omega)])
   | (rw [if_neg (by omega), show yes (c.Right n) = true from P_.2 (by unfold Chg.Right; simp_all [P_]; try omega)]; rfl)
   | (rw [if_neg (by omega), show yes (c.Right n) = false from cm_.2 (by
     rintro ⟨h1, h2, h3, h4, h5, h6⟩
     have e3 := decide_eq_true h3
     have e4 := P_.2 h4
     have e5 := P_.2 h5
     have e6 := P_.2 h6
     omega)]; rfl)
 intro hc16
 refine q_ 1 rfl<|b_ (j_ tabOk rfl rfl l0_ List.not_mem_nil rfl) rfl rfl<|q_ 3 rfl<|z_ (t := 21) rfl ?_ ?_
 ·intro hc21
  refine q_ 14 rfl<|g_<|c_<|M_ rfl<|d_<|a_<|q_ 1 rfl<|g_<|c_<|n_<|B_<|i_ nofun<|f_ (rs := [.tmp 4]) rfl (RV.tmp rfl RV.nil) (()) sn_<|congrArg int ?_
  unfold Chg.check
  first
   | (rw [if_pos (by omega)])
   | (rw [if_neg (by omega), show yes (c.Right n) = true from P_.2 (by unfold Chg.Right; simp_all [P_]; try omega)]; rfl)
   | (rw [if_neg (by omega), show yes (c.Right n) = false from cm_.2 (by
     rintro ⟨h1, h2, h3, h4, h5, h6⟩
     have e3 := decide_eq_true h3
     have e4 := P_.2 h4
     have e5 := P_.2 h5
     have e6 := P_.2 h6
     omega)]; rfl)
 intro hc21
 refine q_ 1 rfl<|b_ (j_ tabOk rfl rfl l0_ List.not_mem_nil rfl) rfl rfl<|t_ (mark_s (x := c.low)) Casts.refl (by kernel_rfl) rfl rfl rfl ?_
 refine ap_<|fun _=>b_ (aw_ rfl) rfl rfl<|q_ 2 rfl<|z_ (t := 27) rfl ?_ ?_
 ·intro hc27
  refine q_ 8 rfl<|g_<|c_<|M_ rfl<|d_<|a_<|q_ 1 rfl<|g_<|c_<|n_<|B_<|i_ nofun<|f_ (rs := [.tmp 4]) rfl (RV.tmp rfl RV.nil) (()) sn_<|congrArg int ?_
  unfold Chg.check
  first
   | (rw [if_pos (by omega)])
   | (rw [if_neg (by omega), show yes (c.Right n) = true from P_.2 (by unfold Chg.Right; simp_all [P_]; try omega)]; rfl)
   | (rw [if_neg (by omega), show yes (c.Right n) = false from cm_.2 (by
     rintro ⟨h1, h2, h3, h4, h5, h6⟩
     have e3 := decide_eq_true h3
     have e4 := P_.2 h4
     have e5 := P_.2 h5
     have e6 := P_.2 h6
     simp_all)]; rfl)
 intro hc27
 refine q_ 1 rfl<|b_ (j_ tabOk rfl rfl l0_ List.not_mem_nil rfl) rfl rfl<|q_ 1 rfl<|b_ (j_ tabOk rfl rfl l0_ List.not_mem_nil rfl) rfl rfl<|t_ (points_s (low := c.low) h3) Casts.refl (by kernel_rfl) rfl rfl rfl ?_
 refine ap_<|fun _=>b_ (aB_ rfl) rfl rfl<|q_ 2 rfl<|g_<|c_<|aE_ rfl ?_ ?_
 ·intro hc12
  refine d_<|a_<|q_ 1 rfl<|g_<|c_<|n_<|B_<|i_ nofun<|f_ (rs := [.tmp 4]) rfl (RV.tmp rfl RV.nil) (()) sn_<|congrArg int ?_
  unfold Chg.check
  first
   | (rw [if_pos (by omega)])
   | (rw [if_neg (by omega), show yes (c.Right n) = true from P_.2 (by unfold Chg.Right; simp_all [P_]; try omega)]; rfl)
   | (rw [if_neg (by omega), show yes (c.Right n) = false from cm_.2 (by
     rintro ⟨h1, h2, h3, h4, h5, h6⟩
     have e3 := decide_eq_true h3
     have e4 := P_.2 h4
     have e5 := P_.2 h5
     have e6 := P_.2 h6
     simp_all)]; rfl)
 intro hc12
 refine d_<|a_<|q_ 1 rfl<|b_ (j_ tabOk rfl rfl l0_ List.not_mem_nil rfl) rfl rfl<|b_ (x_ tabOk rfl rfl rfl l0_ List.not_mem_nil rfl) rfl rfl<|q_ 1 rfl<|t_ (iE_ (most := 8) (n := n) h1 (by simp_all)) Casts.refl (by kernel_rfl) rfl rfl rfl ?_
 refine ap_<|fun _=>b_ (aB_ rfl) rfl rfl<|q_ 1 rfl<|aY_ (t := 42) rfl ?_ ?_
 ·intro hc42
  refine q_ 8 rfl<|g_<|c_<|M_ rfl<|d_<|a_<|q_ 1 rfl<|g_<|c_<|n_<|B_<|i_ nofun<|f_ (rs := [.tmp 4]) rfl (RV.tmp rfl RV.nil) (()) sn_<|congrArg int ?_
  unfold Chg.check
  first
   | (rw [if_pos (by omega)])
   | (rw [if_neg (by omega), show yes (c.Right n) = true from P_.2 (by unfold Chg.Right; simp_all [P_]; try omega)]; rfl)
   | (rw [if_neg (by omega), show yes (c.Right n) = false from cm_.2 (by
     rintro ⟨h1, h2, h3, h4, h5, h6⟩
     have e3 := decide_eq_true h3
     have e4 := P_.2 h4
     have e5 := P_.2 h5
     have e6 := P_.2 h6
     simp_all)]; rfl)
 intro hc42
 refine q_ 1 rfl<|b_ (j_ tabOk rfl rfl l0_ List.not_mem_nil rfl) rfl rfl<|b_ (x_ tabOk rfl rfl rfl l0_ List.not_mem_nil rfl) rfl rfl<|q_ 1 rfl<|t_ (iD_ (most := 64) (n := n) h2 (by simp_all)) Casts.refl (by kernel_rfl) rfl rfl rfl ?_
 refine ap_<|fun _=>b_ (aB_ rfl) rfl rfl<|q_ 2 rfl<|g_<|c_<|aE_ rfl ?_ ?_
 ·intro hc35
  refine d_<|a_<|q_ 1 rfl<|g_<|c_<|n_<|B_<|i_ nofun<|f_ (rs := [.tmp 4]) rfl (RV.tmp rfl RV.nil) (()) sn_<|congrArg int ?_
  unfold Chg.check
  first
   | (rw [if_pos (by omega)])
   | (rw [if_neg (by omega), show yes (c.Right n) = true from P_.2 (by unfold Chg.Right; simp_all [P_]; try omega)]; rfl)
   | (rw [if_neg (by omega), show yes (c.Right n) = false from cm_.2 (by
     rintro ⟨h1, h2, h3, h4, h5, h6⟩
     have e3 := decide_eq_true h3
     have e4 := P_.2 h4
     have e5 := P_.2 h5
     have e6 := P_.2 h6
     simp_all)]; rfl)
 intro hc35
 refine s_<|r_<|c_<|d_<|a_<|q_ 1 rfl<|g_<|c_<|n_<|f_ (rs := [.tmp 4]) rfl (RV.tmp rfl RV.nil) (()) sn_<|congrArg int ?_
 unfold Chg.check
 (rw [if_neg (by omega), show yes (c.Right n) = true from P_.2 (by unfold Chg.Right; simp_all [P_]; try omega)]; rfl)
theorem hg_ (hl : p.batch.length ≤ 1000000) (hs : ∀ e ∈ p.batch, e.core.letter.size ≤ lots) (hm : isMark c.low) : Spec Tryz.prog 64 [.agg p.abs, .agg c.abs, int n] [] (fun _ : Unit => []) (fun _ => boo (yes (p.fits c.low c.view n))) := by
 unfold isMark isSeq at hm
 refine K_ Tryz.func64 rfl Tryz.ntmps64 rfl fun G w =>d_<|a_<|eb_ (O_ rfl) rfl rfl fun b3=>?_
 refine eb_ (O_ rfl) rfl rfl fun b4=>?_
 refine q_ 1 rfl<|g_<|c_<|d_<|a_<|q_ 1 rfl<|b_ (j_ tabOk rfl rfl l1_ List.not_mem_nil rfl) rfl rfl<|q_ 1 rfl<|b_ (j_ tabOk rfl rfl l0_ List.not_mem_nil rfl) rfl rfl<|q_ 2 rfl<|z_ (t := 12) rfl ?_ ?_
 rotate_left
 ·intro hc12
  exact q_ 27 rfl<|g_<|c_<|n_<|f_ (rs := [.tmp 6]) rfl (RV.tmp rfl RV.nil) (()) sn_<|ba_ (by unfold Prf.fits; exact ⟨fun h => (by cases h), fun h => by omega⟩)
 intro hc12
 refine q_ 1 rfl<|b_ (j_ tabOk rfl rfl l1_ List.not_mem_nil rfl) rfl rfl<|q_ 1 rfl<|b_ (j_ tabOk rfl rfl l0_ List.not_mem_nil rfl) rfl rfl<|b_ (v_ rfl rfl (by simp only [InR, lo, hi]; omega)) rfl rfl ?_
 refine q_ 3 rfl<|z_ (t := 20) rfl ?_ ?_
 rotate_left
 ·intro hc20
  exact q_ 19 rfl<|g_<|c_<|n_<|f_ (rs := [.tmp 6]) rfl (RV.tmp rfl RV.nil) (()) sn_<|ba_ (by unfold Prf.fits; exact ⟨fun h => (by cases h), fun h => by omega⟩)
 intro hc20
 refine q_ 1 rfl<|b_ (j_ tabOk rfl rfl l1_ List.not_mem_nil rfl) rfl rfl<|q_ 3 rfl<|z_ (t := 25) rfl ?_ ?_
 rotate_left
 ·intro hc25
  exact q_ 14 rfl<|g_<|c_<|n_<|f_ (rs := [.tmp 6]) rfl (RV.tmp rfl RV.nil) (()) sn_<|ba_ (by unfold Prf.fits; exact ⟨fun h => (by cases h), fun h => by omega⟩)
 intro hc25
 refine q_ 1 rfl<|b_ (j_ tabOk rfl rfl l1_ List.not_mem_nil rfl) rfl rfl<|q_ 1 rfl<|b_ (j_ tabOk rfl rfl l0_ List.not_mem_nil rfl) rfl rfl<|q_ 3 rfl<|z_ (t := 32) rfl ?_ ?_
 rotate_left
 ·intro hc32
  exact q_ 7 rfl<|g_<|c_<|n_<|f_ (rs := [.tmp 6]) rfl (RV.tmp rfl RV.nil) (()) sn_<|ba_ (by unfold Prf.fits; exact ⟨fun h => (by cases h), fun h => by omega⟩)
 intro hc32
 refine q_ 1 rfl<|b_ (j_ tabOk rfl rfl l1_ List.not_mem_nil rfl) rfl rfl<|q_ 1 rfl<|t_ (iA_ (es := p.batch) (n := n) hl hs) Casts.refl (by kernel_rfl) rfl rfl rfl ?_
 exact ap_<|fun _=>q_ 3 rfl<|g_<|c_<|n_<|f_ (rs := [.tmp 6]) rfl (RV.tmp rfl RV.nil) (()) sn_<|ba_ (by unfold Prf.fits; (rw [decide_eq_true_iff]; omega))
set_option maxHeartbeats 4000000 in
theorem right_s (h1 : Long c.prepared) (h2 : Long c.proposed) (h3 : c.points.length < 9223372036854775807) (g1 : Lets c.prepared) (g2 : Lets c.proposed) : Spec Tryz.prog 32 [.agg c.abs, int n] [] (fun _ : Unit => []) (fun _ => boo (yes (c.Right n))) := by
 refine K_ Tryz.func32 rfl Tryz.ntmps32 rfl fun G w =>d_<|a_<|eb_ (O_ rfl) rfl rfl fun b2=>?_
 refine q_ 1 rfl<|g_<|c_<|d_<|d_<|U_ [] (.q 0 (.q 1 (.q 2 (.q 3 (.q 4 (.q 5 (.e 6 (.q 7 (.q 8 (.q 9 (.q 10 (.q 11 (.e 12 (.q 13 (.q 14 (.q 15 (.q 16 (.q 17 (.q 18 (.q 19 (.q 20 (.q 21 (.q 22 (.q 23 (.q 24 (.q 25 (.q 26 (.q 27 (.q 28 (.q 29 (.q 30 (.q 31 (.q 32 (.q 33 (.q 34 (.q 35 (.q 36 (.q 37 (.q 38 (.q 39 (.q 40 (.q 41 (.q 42 (.q 43 (.q 44 (.q 45 (.q 46 (.q 47 (.q 48 .nil))))))))))))))))))))))))))))))))))))))))))))))))) (by kernel_rfl) (by kernel_rfl) ?_
 refine qs_ 1 rfl<|l_ rfl (j_ tabOk rfl rfl l0_ List.not_mem_nil rfl) (by simp) rfl rfl ?_
 refine qs_ 2 rfl<|aR_ (t := 15) rfl ?_ ?_
 ·intro hc15
  iterate 2 refine ch_ rfl rfl rfl ?_
  refine br_ rfl rfl rfl<|qs_ 5 rfl<|br_ rfl rfl rfl<|qs_ 36 rfl<|I_<|c_<|M_ rfl<|d_<|a_<|q_ 1 rfl<|g_<|c_<|n_<|i_ nofun<|f_ (rs := [.tmp 4]) rfl (RV.tmp rfl RV.nil) (()) sn_<|al_ fun h => ?_
  obtain ⟨h4, h5, h6, ⟨h7, h8, h9, h10, h11⟩, ⟨h12, h13, h14⟩, ⟨h15, h16, h17⟩⟩ := h
  have h00 : 0 < c.points.length := by omega
  have h18 := h9 _ (List.getElem?_eq_getElem h00)
  have h19 : isSeq c.view := ⟨by omega, by omega⟩
  omega
 intro hc15
 refine qs_ 1 rfl<|l_ rfl (j_ tabOk rfl rfl l0_ List.not_mem_nil rfl) (by simp) rfl rfl ?_
 refine J_ rfl (rview_s (x := c.view)) (by simp [mids, It.mids]) Casts.refl (by kernel_rfl) rfl rfl rfl ?_
 refine ap_<|fun _=>l_ rfl (aw_ rfl) (by simp) rfl rfl ?_
 refine qs_ 2 rfl<|aR_ (t := 21) rfl ?_ ?_
 ·intro hc21
  iterate 2 refine ch_ rfl rfl rfl ?_
  refine br_ rfl rfl rfl<|qs_ 36 rfl<|I_<|c_<|M_ rfl<|d_<|a_<|q_ 1 rfl<|g_<|c_<|n_<|i_ nofun<|f_ (rs := [.tmp 4]) rfl (RV.tmp rfl RV.nil) (()) sn_<|al_ fun h => ?_
  obtain ⟨h4, h5, h6, ⟨h7, h8, h9, h10, h11⟩, ⟨h12, h13, h14⟩, ⟨h15, h16, h17⟩⟩ := h
  have h00 : 0 < c.points.length := by omega
  have h18 := h9 _ (List.getElem?_eq_getElem h00)
  have h19 : isSeq c.view := ⟨by omega, by omega⟩
  simp_all
 intro hc21
 refine qs_ 1 rfl<|l_ rfl (j_ tabOk rfl rfl l0_ List.not_mem_nil rfl) (by simp) rfl rfl ?_
 refine J_ rfl (iv_ (x := c.low)) (by simp [mids, It.mids]) Casts.refl (by kernel_rfl) rfl rfl rfl ?_
 refine ap_<|fun _=>l_ rfl (aw_ rfl) (by simp) rfl rfl ?_
 refine qs_ 2 rfl<|aR_ (t := 27) rfl ?_ ?_
 ·intro hc27
  refine qs_ 33 rfl<|I_<|c_<|M_ rfl<|d_<|a_<|q_ 1 rfl<|g_<|c_<|n_<|i_ nofun<|f_ (rs := [.tmp 4]) rfl (RV.tmp rfl RV.nil) (()) sn_<|al_ fun h => ?_
  obtain ⟨h4, h5, h6, ⟨h7, h8, h9, h10, h11⟩, ⟨h12, h13, h14⟩, ⟨h15, h16, h17⟩⟩ := h
  have h00 : 0 < c.points.length := by omega
  have h18 := h9 _ (List.getElem?_eq_getElem h00)
  have h19 : isSeq c.view := ⟨by omega, by omega⟩
  simp_all
 intro hc27
 refine qs_ 1 rfl<|l_ rfl (j_ tabOk rfl rfl l0_ List.not_mem_nil rfl) (by simp) rfl rfl ?_
 refine l_ rfl (w_ rfl Tryz.underlying23 (List.length_map _)) (by simp) rfl rfl ?_
 refine qs_ 3 rfl<|aR_ (t := 33) rfl ?_ ?_
 ·intro hc33
  refine qs_ 27 rfl<|I_<|c_<|M_ rfl<|d_<|a_<|q_ 1 rfl<|g_<|c_<|n_<|i_ nofun<|f_ (rs := [.tmp 4]) rfl (RV.tmp rfl RV.nil) (()) sn_<|al_ fun h => ?_
  obtain ⟨h4, h5, h6, ⟨h7, h8, h9, h10, h11⟩, ⟨h12, h13, h14⟩, ⟨h15, h16, h17⟩⟩ := h
  have h00 : 0 < c.points.length := by omega
  have h18 := h9 _ (List.getElem?_eq_getElem h00)
  have h19 : isSeq c.view := ⟨by omega, by omega⟩
  omega
 intro hc33
 refine qs_ 1 rfl<|l_ rfl (j_ tabOk rfl rfl l0_ List.not_mem_nil rfl) (by simp) rfl rfl ?_
 refine l_ rfl (w_ rfl Tryz.underlying23 (List.length_map _)) (by simp) rfl rfl ?_
 refine qs_ 3 rfl<|aR_ (t := 39) rfl ?_ ?_
 ·intro hc39
  refine qs_ 21 rfl<|I_<|c_<|M_ rfl<|d_<|a_<|q_ 1 rfl<|g_<|c_<|n_<|i_ nofun<|f_ (rs := [.tmp 4]) rfl (RV.tmp rfl RV.nil) (()) sn_<|al_ fun h => ?_
  obtain ⟨h4, h5, h6, ⟨h7, h8, h9, h10, h11⟩, ⟨h12, h13, h14⟩, ⟨h15, h16, h17⟩⟩ := h
  have h00 : 0 < c.points.length := by omega
  have h18 := h9 _ (List.getElem?_eq_getElem h00)
  have h19 : isSeq c.view := ⟨by omega, by omega⟩
  omega
 intro hc39
 refine qs_ 1 rfl<|l_ rfl (j_ tabOk rfl rfl l0_ List.not_mem_nil rfl) (by simp) rfl rfl ?_
 refine hx_ fun hx9 =>l_ rfl (E_ (q := 0) tabOk Tryz.underlying23 rfl rfl rfl rfl (ah_ (by omega)) rfl rfl) hx9 rfl rfl ?_
 refine l_ rfl (aa_ tabOk rfl rfl rfl rfl rfl) (by simp) rfl rfl ?_
 refine l_ rfl (as_ tabOk rfl rfl rfl) (by simp) rfl rfl ?_
 refine qs_ 1 rfl<|l_ rfl (j_ tabOk rfl rfl l0_ List.not_mem_nil rfl) (by simp) rfl rfl ?_
 refine qs_ 3 rfl<|aR_ (t := 49) rfl ?_ ?_
 ·intro hc49
  refine qs_ 11 rfl<|I_<|c_<|M_ rfl<|d_<|a_<|q_ 1 rfl<|g_<|c_<|n_<|i_ nofun<|f_ (rs := [.tmp 4]) rfl (RV.tmp rfl RV.nil) (()) sn_<|al_ fun h => ?_
  obtain ⟨h4, h5, h6, ⟨h7, h8, h9, h10, h11⟩, ⟨h12, h13, h14⟩, ⟨h15, h16, h17⟩⟩ := h
  have h00 : 0 < c.points.length := by omega
  have h18 := h9 _ (List.getElem?_eq_getElem h00)
  have h19 : isSeq c.view := ⟨by omega, by omega⟩
  omega
 intro hc49
 refine qs_ 1 rfl<|l_ rfl (j_ tabOk rfl rfl l0_ List.not_mem_nil rfl) (by simp) rfl rfl ?_
 refine l_ rfl (w_ rfl Tryz.underlying24 (List.length_map _)) (by simp) rfl rfl ?_
 refine qs_ 3 rfl<|aR_ (t := 55) rfl ?_ ?_
 ·intro hc55
  refine qs_ 5 rfl<|I_<|c_<|M_ rfl<|d_<|a_<|q_ 1 rfl<|g_<|c_<|n_<|i_ nofun<|f_ (rs := [.tmp 4]) rfl (RV.tmp rfl RV.nil) (()) sn_<|al_ fun h => ?_
  obtain ⟨h4, h5, h6, ⟨h7, h8, h9, h10, h11⟩, ⟨h12, h13, h14⟩, ⟨h15, h16, h17⟩⟩ := h
  have h00 : 0 < c.points.length := by omega
  have h18 := h9 _ (List.getElem?_eq_getElem h00)
  have h19 : isSeq c.view := ⟨by omega, by omega⟩
  omega
 intro hc55
 refine qs_ 1 rfl<|l_ rfl (j_ tabOk rfl rfl l0_ List.not_mem_nil rfl) (by simp) rfl rfl ?_
 refine l_ rfl (w_ rfl Tryz.underlying24 (List.length_map _)) (by simp) rfl rfl ?_
 refine qs_ 2 rfl<|I_<|c_<|o_ rfl ?_ ?_
 ·intro hc60
  refine d_<|a_<|q_ 1 rfl<|g_<|c_<|n_<|i_ nofun<|f_ (rs := [.tmp 4]) rfl (RV.tmp rfl RV.nil) (()) sn_<|al_ fun h => ?_
  obtain ⟨h4, h5, h6, ⟨h7, h8, h9, h10, h11⟩, ⟨h12, h13, h14⟩, ⟨h15, h16, h17⟩⟩ := h
  have h00 : 0 < c.points.length := by omega
  have h18 := h9 _ (List.getElem?_eq_getElem h00)
  have h19 : isSeq c.view := ⟨by omega, by omega⟩
  omega
 intro hc60
 have hm : isMark c.low := by simp_all
 have hlen : 1 ≤ c.points.length ∧ c.points.length ≤ 4 ∧ c.prepared.length ≤ 8 ∧ c.proposed.length ≤ 64 := by omega
 have h00 : 0 < c.points.length := by omega
 have hview : 1 ≤ c.view ∧ c.view ≤ 1048576 := by unfold isSeq at *; omega
 have hp0 : c.points[0].seq = c.low := by omega
 refine s_<|c_<|d_<|d_<|a_<|q_ 1 rfl<|b_ (j_ tabOk rfl rfl l0_ List.not_mem_nil rfl) rfl rfl<|b_ (w_ rfl Tryz.underlying23 (List.length_map _)) rfl rfl<|q_ 1 rfl<|g_<|c_<|u_<|W_ (ι := Nat) (fun z => [.blk b2 26 c.abs]) (fun z => [(1, int n), (2, ptr b2), (62, .sl 33 (c.points.map Pnt.abs)), (63, int (c.points.length : Nat)), (64, int (z : Nat))]) (fun z => z ≤ c.points.length ∧ ∀ j (hj : j < c.points.length), j < z → isMark c.points[j].seq ∧ (∀ h0 : 0 < j, c.points[j - 1].seq < c.points[j].seq)) (fun z => c.points.length - z) (0) (⟨Nat.zero_le _, by omega⟩) (by exact ⟨rfl, rfl, rfl, rfl, rfl, trivial⟩) sr_ ?_
 intro z hz
 refine d_<|a_<|q_ 1 rfl<|g_<|c_<|d_<|o_ rfl ?_ ?_
 ·intro hc65
  have hlt : z < c.points.length := by omega
  refine s_<|c_<|d_<|u_<|d_<|a_<|q_ 1 rfl<|b_ (E_ tabOk Tryz.underlying23 rfl rfl rfl rfl (ah_ (by omega)) rfl rfl) rfl rfl ?_
  refine b_ (V_ tabOk rfl rfl rfl (Pnt.size _)) rfl rfl<|eb_ (H_ tabOk rfl) rfl rfl fun b6=>?_
  refine q_ 1 rfl<|e_ (D_ (L' := (c.points[z]'hlt).abs) tabOk rfl rfl rfl u0_ (Pnt.size _) (Nat.le_of_ble_eq_true rfl) (Pnt.ones _) (by exact fh_ (Pnt.size _))) rfl rfl ?_
  refine g_<|c_<|d_<|U_ [] (.q 0 (.q 1 (.e 2 (.q 3 (.q 4 (.q 5 (.q 6 (.q 7 (.q 8 (.q 9 (.q 10 (.q 11 (.q 12 (.q 13 (.q 14 (.q 15 (.q 16 (.q 17 (.q 18 (.q 19 .nil)))))))))))))))))))) (by kernel_rfl) (by kernel_rfl) ?_
  refine qs_ 1 rfl<|l_ rfl (j_ tabOk rfl rfl l0_ List.not_mem_nil rfl) (by simp) rfl rfl ?_
  refine J_ rfl (iv_ (x := (c.points[z]'hlt).seq)) (by simp [mids, It.mids]) Casts.refl (by kernel_rfl) rfl rfl rfl ?_
  refine ap_<|fun _=>l_ rfl (aw_ rfl) (by simp) rfl rfl ?_
  refine qs_ 1 rfl<|aR_ (t := 73) rfl ?_ ?_
  ·intro hc73
   refine qs_ 15 rfl<|I_<|c_<|M_ rfl<|d_<|a_<|q_ 1 rfl<|g_<|c_<|n_<|B_<|i_ nofun<|i_ nofun<|B_<|i_ nofun<|f_ (rs := [.tmp 4]) rfl (RV.tmp rfl RV.nil) (()) sn_<|al_ fun h => ?_
   have m1 := h.2.2.2.1.2.2.2.1 _ (List.getElem_mem hlt)
   have m2 : 0 < z → c.points[z - 1].seq < c.points[z].seq := fun h0 => of_decide_eq_true (cB_ h.2.2.2.1.2.2.2.2 h0 hlt)
   exact absurd m1 (by assumption)
  intro hc73
  refine qs_ 3 rfl<|aR_ (t := 76) rfl ?_ ?_
  rotate_left
  ·intro hc76
   refine qs_ 12 rfl<|I_<|c_<|Z_ rfl<|s_<|r_<|c_<|a_<|b_ (v_ rfl rfl (by simp only [InR, lo, hi]; omega)) rfl rfl ?_
   refine q_ 1 rfl<|g_<|A_ (z + 1) (by omega) (⟨by omega, fun j hj hjz => by
    rcases Nat.lt_or_ge j z with h1 | h1
    ·exact hz.2 j hj h1
    obtain rfl : j = z := (by omega)
    simp_all⟩) (by exact ⟨rfl, rfl, rfl, rfl, rfl, trivial⟩) (sk_ sr_)
  intro hc76
  refine qs_ 1 rfl<|l_ rfl (j_ tabOk rfl rfl l1_ List.not_mem_nil rfl) (by simp) rfl rfl ?_
  refine qs_ 1 rfl<|l_ rfl (be_ rfl rfl (by simp only [InR, lo, hi]; omega)) (by simp) rfl rfl ?_
  refine hx_ fun hx9 =>l_ rfl (E_ (q := z - 1) tabOk Tryz.underlying23 rfl rfl rfl (by omega) (ah_ (by omega)) rfl rfl) hx9 rfl rfl ?_
  refine l_ rfl (aa_ tabOk rfl rfl rfl rfl rfl) (by simp) rfl rfl ?_
  refine l_ rfl (as_ tabOk rfl rfl rfl) (by simp) rfl rfl ?_
  refine qs_ 1 rfl<|l_ rfl (j_ tabOk rfl rfl l0_ List.not_mem_nil rfl) (by simp) rfl rfl ?_
  refine qs_ 3 rfl<|I_<|c_<|o_ rfl ?_ ?_
  rotate_left
  ·intro hc88
   refine s_<|r_<|c_<|a_<|b_ (v_ rfl rfl (by simp only [InR, lo, hi]; omega)) rfl rfl ?_
   refine q_ 1 rfl<|g_<|A_ (z + 1) (by omega) (⟨by omega, fun j hj hjz => by
    rcases Nat.lt_or_ge j z with h1 | h1
    ·exact hz.2 j hj h1
    obtain rfl : j = z := (by omega)
    simp_all⟩) (by exact ⟨rfl, rfl, rfl, rfl, rfl, trivial⟩) (sk_ sr_)
  intro hc88
  refine d_<|a_<|q_ 1 rfl<|g_<|c_<|n_<|B_<|i_ nofun<|i_ nofun<|B_<|i_ nofun<|f_ (rs := [.tmp 4]) rfl (RV.tmp rfl RV.nil) (()) sn_<|al_ fun h => ?_
  have m1 := h.2.2.2.1.2.2.2.1 _ (List.getElem_mem hlt)
  have m2 : 0 < z → c.points[z - 1].seq < c.points[z].seq := fun h0 => of_decide_eq_true (cB_ h.2.2.2.1.2.2.2.2 h0 hlt)
  omega
 intro hc65
 have hallp := hz.2
 have hzp := hz.1
 have hcp := hc65
 refine T_<|i_ nofun<|i_ nofun<|S_<|c_<|d_<|d_<|a_<|q_ 1 rfl<|b_ (j_ tabOk rfl rfl l0_ List.not_mem_nil rfl) rfl rfl<|b_ (w_ rfl Tryz.underlying24 (List.length_map _)) rfl rfl<|q_ 1 rfl<|g_<|c_<|u_<|W_ (ι := Nat) (fun z => [.blk b2 26 c.abs]) (fun z => [(1, int n), (2, ptr b2), (91, .sl 3 (c.prepared.map Prf.abs)), (92, int (c.prepared.length : Nat)), (93, int (z : Nat))]) (fun z => z ≤ c.prepared.length ∧ ∀ j (hj : j < c.prepared.length), j < z → c.prepared[j].fits c.low c.view n ∧ (∀ h0 : 0 < j, c.prepared[j - 1].lt c.prepared[j])) (fun z => c.prepared.length - z) (0) (⟨Nat.zero_le _, by omega⟩) (by exact ⟨rfl, rfl, rfl, rfl, rfl, trivial⟩) sr_ ?_
 intro z hz
 refine d_<|a_<|q_ 1 rfl<|g_<|c_<|d_<|o_ rfl ?_ ?_
 ·intro hc94
  have hlt : z < c.prepared.length := by omega
  refine s_<|c_<|d_<|u_<|d_<|a_<|q_ 1 rfl<|b_ (E_ tabOk Tryz.underlying24 rfl rfl rfl rfl (ah_ (by omega)) rfl rfl) rfl rfl ?_
  refine b_ (V_ tabOk rfl rfl rfl rfl) rfl rfl<|eb_ (H_ tabOk rfl) rfl rfl fun b8=>?_
  refine q_ 1 rfl<|e_ (D_ tabOk rfl rfl rfl u0_ rfl (Nat.le_of_ble_eq_true rfl) rfl rfl) rfl rfl<|g_<|c_<|d_<|U_ [] (.q 0 (.q 1 (.q 2 (.e 3 (.q 4 (.q 5 (.q 6 (.q 7 (.q 8 (.q 9 (.q 10 (.q 11 (.q 12 (.q 13 (.q 14 (.q 15 (.q 16 (.q 17 (.q 18 (.q 19 (.q 20 .nil))))))))))))))))))))) (by kernel_rfl) (by kernel_rfl) ?_
  refine l_ rfl (x_ tabOk rfl rfl rfl l0_ List.not_mem_nil rfl) (by simp) rfl rfl ?_
  refine l_ rfl (x_ tabOk rfl rfl rfl l1_ List.not_mem_nil rfl) (by simp) rfl rfl ?_
  refine qs_ 1 rfl<|J_ rfl (hg_ (p := (c.prepared[z]'hlt)) (c := c) (n := n) (h1.2 _ (List.getElem_mem hlt)) (g1 _ (List.getElem_mem hlt)) hm) (by simp [mids, It.mids]) Casts.refl (by kernel_rfl) rfl rfl rfl ?_
  refine ap_<|fun _=>l_ rfl (aB_ rfl) (by simp) rfl rfl ?_
  refine qs_ 1 rfl<|ez_ (t := 103) rfl ?_ ?_
  ·intro hc103
   refine qs_ 15 rfl<|I_<|c_<|M_ rfl<|d_<|a_<|q_ 1 rfl<|g_<|c_<|n_<|B_<|i_ nofun<|i_ nofun<|B_<|i_ nofun<|f_ (rs := [.tmp 4]) rfl (RV.tmp rfl RV.nil) (()) sn_<|al_ fun h => ?_
   have m1 := h.2.2.2.2.1.2.2 _ (List.getElem_mem hlt)
   have m2 : 0 < z → c.prepared[z - 1].lt c.prepared[z] := fun h0 => of_decide_eq_true (cB_ h.2.2.2.2.1.2.1 h0 hlt)
   unfold Prf.lt at m2
   (have m3 := P_.2 m1; simp_all)
  intro hc103
  refine qs_ 3 rfl<|aR_ (t := 106) rfl ?_ ?_
  rotate_left
  ·intro hc106
   refine qs_ 12 rfl<|I_<|c_<|Z_ rfl<|s_<|r_<|c_<|a_<|b_ (v_ rfl rfl (by simp only [InR, lo, hi]; omega)) rfl rfl ?_
   refine q_ 1 rfl<|g_<|A_ (z + 1) (by omega) (⟨by omega, fun j hj hjz => by
    rcases Nat.lt_or_ge j z with h1 | h1
    ·exact hz.2 j hj h1
    obtain rfl : j = z := (by omega)
    exact ⟨P_.1 (by simpa using hc103), fun h0 => by unfold Prf.lt; omega⟩⟩) (by exact ⟨rfl, rfl, rfl, rfl, rfl, trivial⟩) (sk_ sr_)
  intro hc106
  refine qs_ 1 rfl<|l_ rfl (j_ tabOk rfl rfl l1_ List.not_mem_nil rfl) (by simp) rfl rfl ?_
  refine qs_ 1 rfl<|l_ rfl (be_ rfl rfl (by simp only [InR, lo, hi]; omega)) (by simp) rfl rfl ?_
  refine hx_ fun hx9 =>l_ rfl (E_ (q := z - 1) tabOk Tryz.underlying24 rfl rfl rfl (by omega) (ah_ (by omega)) rfl rfl) hx9 rfl rfl ?_
  refine l_ rfl (aa_ tabOk rfl rfl rfl rfl rfl) (by simp) rfl rfl ?_
  refine l_ rfl (as_ tabOk rfl rfl rfl) (by simp) rfl rfl ?_
  refine qs_ 1 rfl<|l_ rfl (j_ tabOk rfl rfl l0_ List.not_mem_nil rfl) (by simp) rfl rfl ?_
  refine qs_ 3 rfl<|I_<|c_<|o_ rfl ?_ ?_
  rotate_left
  ·intro hc118
   refine s_<|r_<|c_<|a_<|b_ (v_ rfl rfl (by simp only [InR, lo, hi]; omega)) rfl rfl ?_
   refine q_ 1 rfl<|g_<|A_ (z + 1) (by omega) (⟨by omega, fun j hj hjz => by
    rcases Nat.lt_or_ge j z with h1 | h1
    ·exact hz.2 j hj h1
    obtain rfl : j = z := (by omega)
    exact ⟨P_.1 (by simpa using hc103), fun h0 => by unfold Prf.lt; omega⟩⟩) (by exact ⟨rfl, rfl, rfl, rfl, rfl, trivial⟩) (sk_ sr_)
  intro hc118
  refine d_<|a_<|q_ 1 rfl<|g_<|c_<|n_<|B_<|i_ nofun<|i_ nofun<|B_<|i_ nofun<|f_ (rs := [.tmp 4]) rfl (RV.tmp rfl RV.nil) (()) sn_<|al_ fun h => ?_
  have m1 := h.2.2.2.2.1.2.2 _ (List.getElem_mem hlt)
  have m2 : 0 < z → c.prepared[z - 1].lt c.prepared[z] := fun h0 => of_decide_eq_true (cB_ h.2.2.2.2.1.2.1 h0 hlt)
  unfold Prf.lt at m2
  omega
 intro hc94
 have hall := hz.2
 have hza := hz.1
 have hca := hc94
 refine T_<|i_ nofun<|i_ nofun<|S_<|c_<|d_<|d_<|a_<|q_ 1 rfl<|b_ (j_ tabOk rfl rfl l0_ List.not_mem_nil rfl) rfl rfl<|b_ (w_ rfl Tryz.underlying24 (List.length_map _)) rfl rfl<|q_ 1 rfl<|g_<|c_<|u_<|W_ (ι := Nat) (fun z => [.blk b2 26 c.abs]) (fun z => [(1, int n), (2, ptr b2), (121, .sl 3 (c.proposed.map Prf.abs)), (122, int (c.proposed.length : Nat)), (123, int (z : Nat))]) (fun z => z ≤ c.proposed.length ∧ ∀ j (hj : j < c.proposed.length), j < z → c.proposed[j].fits c.low c.view n ∧ (∀ h0 : 0 < j, c.proposed[j - 1].lt2 c.proposed[j])) (fun z => c.proposed.length - z) (0) (⟨Nat.zero_le _, by omega⟩) (by exact ⟨rfl, rfl, rfl, rfl, rfl, trivial⟩) sr_ ?_
 intro z hz
 refine d_<|a_<|q_ 1 rfl<|g_<|c_<|d_<|o_ rfl ?_ ?_
 rotate_left
 ·intro hc124
  refine T_<|i_ nofun<|i_ nofun<|S_<|c_<|d_<|a_<|q_ 1 rfl<|g_<|c_<|n_<|f_ (rs := [.tmp 4]) rfl (RV.tmp rfl RV.nil) (()) sn_<|ba_ ⟨fun _ => ?_, fun _ => rfl⟩
  refine ⟨hview.1, hview.2, hm, ⟨hlen.1, hlen.2.1, fun p hp => by rw [List.getElem?_eq_getElem h00] at hp; cases hp; exact hp0, fun p hp => ?_, fun j hj => ?_⟩, ⟨by omega, fun j hj => ?_, fun p hp => ?_⟩, ⟨by omega, fun j hj => ?_, fun p hp => ?_⟩⟩
  ·obtain ⟨j, hj, rfl⟩ := List.getElem_of_mem hp
   exact (hallp j hj (by omega)).1
  ·exact decide_eq_true ((hallp (j + 1) hj (by omega)).2 (by omega))
  ·exact decide_eq_true ((hall (j + 1) hj (by omega)).2 (by omega))
  ·obtain ⟨j, hj, rfl⟩ := List.getElem_of_mem hp
   exact (hall j hj (by omega)).1
  ·exact decide_eq_true ((hz.2 (j + 1) hj (by omega)).2 (by omega))
  obtain ⟨j, hj, rfl⟩ := List.getElem_of_mem hp
  exact (hz.2 j hj (by omega)).1
 intro hc124
 have hlt : z < c.proposed.length := by omega
 refine s_<|c_<|d_<|u_<|d_<|a_<|q_ 1 rfl<|b_ (E_ tabOk Tryz.underlying24 rfl rfl rfl rfl (ah_ (by omega)) rfl rfl) rfl rfl ?_
 refine b_ (V_ tabOk rfl rfl rfl rfl) rfl rfl<|eb_ (H_ tabOk rfl) rfl rfl fun b10=>?_
 refine q_ 1 rfl<|e_ (D_ tabOk rfl rfl rfl u0_ rfl (Nat.le_of_ble_eq_true rfl) rfl rfl) rfl rfl<|g_<|c_<|d_<|d_<|a_<|b_ (x_ tabOk rfl rfl rfl l0_ List.not_mem_nil rfl) rfl rfl<|b_ (x_ tabOk rfl rfl rfl l1_ List.not_mem_nil rfl) rfl rfl<|q_ 1 rfl<|t_ (hg_ (p := (c.proposed[z]'hlt)) (c := c) (n := n) (h2.2 _ (List.getElem_mem hlt)) (g2 _ (List.getElem_mem hlt)) hm) Casts.refl (by kernel_rfl) rfl rfl rfl ?_
 refine ap_<|fun _=>b_ (aB_ rfl) rfl rfl<|g_<|c_<|aE_ rfl ?_ ?_
 ·intro hc132
  refine d_<|a_<|q_ 1 rfl<|g_<|c_<|n_<|i_ nofun<|B_<|i_ nofun<|i_ nofun<|B_<|i_ nofun<|f_ (rs := [.tmp 4]) rfl (RV.tmp rfl RV.nil) (()) sn_<|al_ fun h => ?_
  have m1 := h.2.2.2.2.2.2.2 _ (List.getElem_mem hlt)
  have m3 := P_.2 m1
  simp_all
 intro hc132
 refine s_<|c_<|d_<|a_<|q_ 2 rfl<|g_<|c_<|o_ rfl ?_ ?_
 rotate_left
 ·intro hc134
  refine s_<|r_<|c_<|a_<|b_ (v_ rfl rfl (by simp only [InR, lo, hi]; omega)) rfl rfl ?_
  refine q_ 1 rfl<|g_<|A_ (z + 1) (by omega) (⟨by omega, fun j hj hjz => by
   rcases Nat.lt_or_ge j z with h1 | h1
   ·exact hz.2 j hj h1
   obtain rfl : j = z := (by omega)
   exact ⟨P_.1 (by simpa using hc132), fun h0 => by unfold Prf.lt2; omega⟩⟩) (by exact ⟨rfl, rfl, rfl, rfl, rfl, trivial⟩) (sk_ sr_)
 intro hc134
 refine d_<|a_<|q_ 1 rfl<|b_ (j_ tabOk rfl rfl l1_ List.not_mem_nil rfl) rfl rfl<|q_ 1 rfl<|b_ (be_ rfl rfl (by simp only [InR, lo, hi]; omega)) rfl rfl ?_
 refine b_ (E_ (q := z - 1) tabOk Tryz.underlying24 rfl rfl rfl (by omega) (ah_ (by omega)) rfl rfl) rfl rfl ?_
 refine b_ (V_ tabOk rfl rfl rfl rfl) rfl rfl<|eb_ (H_ tabOk rfl) rfl rfl fun b11=>?_
 refine e_ (D_ tabOk rfl rfl rfl u0_ rfl (Nat.le_of_ble_eq_true rfl) rfl rfl) rfl rfl<|g_<|c_<|d_<|a_<|q_ 1 rfl<|b_ (j_ tabOk rfl rfl l0_ List.not_mem_nil rfl) rfl rfl<|q_ 1 rfl<|b_ (j_ tabOk rfl rfl l1_ List.not_mem_nil rfl) rfl rfl<|q_ 2 rfl<|z_ (t := 146) rfl ?_ ?_
 ·intro hc146
  refine q_ 13 rfl<|g_<|c_<|M_ rfl<|d_<|a_<|q_ 1 rfl<|g_<|c_<|n_<|B_<|i_ nofun<|i_ nofun<|B_<|i_ nofun<|f_ (rs := [.tmp 4]) rfl (RV.tmp rfl RV.nil) (()) sn_<|al_ fun h => ?_
  have m2 : 0 < z → c.proposed[z - 1].lt2 c.proposed[z] := fun h0 => of_decide_eq_true (cB_ h.2.2.2.2.2.2.1 h0 hlt)
  unfold Prf.lt2 at m2
  omega
 intro hc146
 refine q_ 1 rfl<|b_ (j_ tabOk rfl rfl l0_ List.not_mem_nil rfl) rfl rfl<|q_ 1 rfl<|b_ (j_ tabOk rfl rfl l1_ List.not_mem_nil rfl) rfl rfl<|q_ 2 rfl<|z_ (t := 152) rfl ?_ ?_
 rotate_left
 ·intro hc152
  refine q_ 7 rfl<|g_<|c_<|Z_ rfl<|s_<|r_<|c_<|a_<|b_ (v_ rfl rfl (by simp only [InR, lo, hi]; omega)) rfl rfl ?_
  refine q_ 1 rfl<|g_<|A_ (z + 1) (by omega) (⟨by omega, fun j hj hjz => by
   rcases Nat.lt_or_ge j z with h1 | h1
   ·exact hz.2 j hj h1
   obtain rfl : j = z := (by omega)
   exact ⟨P_.1 (by simpa using hc132), fun h0 => by unfold Prf.lt2; omega⟩⟩) (by exact ⟨rfl, rfl, rfl, rfl, rfl, trivial⟩) (sk_ (sk_ sr_))
 intro hc152
 refine q_ 1 rfl<|b_ (j_ tabOk rfl rfl l0_ List.not_mem_nil rfl) rfl rfl<|q_ 1 rfl<|b_ (j_ tabOk rfl rfl l1_ List.not_mem_nil rfl) rfl rfl<|q_ 3 rfl<|g_<|c_<|o_ rfl ?_ ?_
 rotate_left
 ·intro hc159
  refine s_<|r_<|c_<|a_<|b_ (v_ rfl rfl (by simp only [InR, lo, hi]; omega)) rfl rfl ?_
  refine q_ 1 rfl<|g_<|A_ (z + 1) (by omega) (⟨by omega, fun j hj hjz => by
   rcases Nat.lt_or_ge j z with h1 | h1
   ·exact hz.2 j hj h1
   obtain rfl : j = z := (by omega)
   exact ⟨P_.1 (by simpa using hc132), fun h0 => by unfold Prf.lt2; omega⟩⟩) (by exact ⟨rfl, rfl, rfl, rfl, rfl, trivial⟩) (sk_ (sk_ sr_))
 intro hc159
 refine d_<|a_<|q_ 1 rfl<|g_<|c_<|n_<|B_<|i_ nofun<|i_ nofun<|B_<|i_ nofun<|f_ (rs := [.tmp 4]) rfl (RV.tmp rfl RV.nil) (()) sn_<|al_ fun h => ?_
 have m2 : 0 < z → c.proposed[z - 1].lt2 c.proposed[z] := fun h0 => of_decide_eq_true (cB_ h.2.2.2.2.2.2.1 h0 hlt)
 unfold Prf.lt2 at m2
 omega
theorem hk_ (h1 : Long c.prepared) (h2 : Long c.proposed) (h3 : c.points.length < 9223372036854775807) (g1 : Lets c.prepared) (g2 : Lets c.proposed) : Spec Tryz.prog 7 [.agg c.abs, int n] [] (fun _ : Unit => []) (fun _ => int (c.check n)) := by
 refine K_ Tryz.func7 rfl Tryz.ntmps7 rfl fun G w =>d_<|a_<|eb_ (O_ rfl) rfl rfl fun b2=>?_
 refine q_ 1 rfl<|g_<|c_<|d_<|d_<|a_<|q_ 3 rfl<|z_ (t := 7) rfl ?_ ?_
 ·intro hc7
  refine q_ 3 rfl<|g_<|c_<|M_ rfl<|d_<|a_<|q_ 1 rfl<|g_<|c_<|n_<|i_ nofun<|f_ (rs := [.tmp 4]) rfl (RV.tmp rfl RV.nil) (()) sn_<|congrArg int ?_
  unfold Chg.check
  (rw [if_pos (by omega)])
 intro hc7
 refine q_ 3 rfl<|g_<|c_<|o_ rfl ?_ ?_
 ·intro hc10
  refine d_<|a_<|q_ 1 rfl<|g_<|c_<|n_<|i_ nofun<|f_ (rs := [.tmp 4]) rfl (RV.tmp rfl RV.nil) (()) sn_<|congrArg int ?_
  unfold Chg.check
  (rw [if_pos (by omega)])
 intro hc10
 refine s_<|c_<|d_<|d_<|a_<|b_ (x_ tabOk rfl rfl rfl l0_ List.not_mem_nil rfl) rfl rfl<|q_ 1 rfl<|t_ (right_s (n := n) h1 h2 h3 g1 g2) Casts.refl (by kernel_rfl) rfl rfl rfl ?_
 refine ap_<|fun _=>b_ (aB_ rfl) rfl rfl<|g_<|c_<|aE_ rfl ?_ ?_
 ·intro hc14
  refine d_<|a_<|q_ 1 rfl<|g_<|c_<|n_<|i_ nofun<|f_ (rs := [.tmp 4]) rfl (RV.tmp rfl RV.nil) (()) sn_<|congrArg int ?_
  unfold Chg.check
  (rw [if_neg (by omega)]; simp_all)
 intro hc14
 refine s_<|c_<|d_<|a_<|q_ 1 rfl<|g_<|c_<|n_<|f_ (rs := [.tmp 4]) rfl (RV.tmp rfl RV.nil) (()) sn_<|congrArg int ?_
 unfold Chg.check
 (rw [if_neg (by omega)]; simp_all)
end
end Go.Proofs.YtggajaigfkekhaaGreat.A
namespace Go.Proofs.YtggajaigfkekhaaGreat
open Go.RowKit
abbrev intsD (v : Value) (xs : List Int) : Dt := rowD v xs.length (xs.map fun x => Value.int .i64 x)
def long8 (xs : List Int) : List UInt8 := xs.flatMap fun x => beBytes (u64 x) 8
theorem ar_ (xs : List Int) : (long8 xs).length = xs.length * 8 := by
  unfold long8
  induction xs with
  | nil => rfl
  | cons x xs ih => rw [List.flatMap_cons, List.length_append, ih, m_, List.length_cons]; omega
theorem eS_ {xs : List Int} {k : Nat} (h : k < xs.length) : long8 (xs.take (k + 1)) = long8 (xs.take k) ++ beBytes (u64 xs[k]) 8 := by
  unfold long8
  rw [List.take_succ_eq_append_getElem h, List.flatMap_append]
  simp
section
variable {S : List (World × List Nat)} {σ τ : Blks} {ρ : List Dt} {w : World}
set_option maxHeartbeats 1000000 in
theorem long_c {v u : Value} {l : List UInt8} {xs : List Int} (hw : Mem S σ ρ w) (hb : bytesD v l ∈ ρ) (hx : intsD u xs ∈ ρ) (hl : l.length + xs.length * 8 ≤ lots) : Calls Tryz.prog 77 #[v, u] w fun e w' => ∃ r, e = .returned r ∧ Mem S σ (bytesD r (l ++ long8 xs) :: ρ) w' := by
  have hL : lots = 100000000000 := rfl
  obtain ⟨A, c, rfl, hs1, hs2, hs3⟩ := (hw.data hx).shape
  have hA : xs ≠ [] → ∃ b off, A = some ⟨b, off, none⟩ := fun h => cl_ (hw.data hx) (by cases xs with | nil => exact absurd rfl h | cons e es => simp)
  refine R_ [v, .slice A xs.length c] Tryz.func77 rfl Tryz.ntmps77 rfl (Mem S σ ρ) hw ?_
  refine d_ (a_ ?_)
  refine b_ (h_ rfl) rfl rfl ?_
  refine g_ (c_ ?_)
  refine d_ ?_
  refine d_ (a_ ?_)
  refine b_ (k_ rfl) rfl rfl ?_
  refine b_ (w_ rfl Tryz.underlying113) rfl rfl ?_
  refine b_ (k_ rfl) rfl rfl ?_
  refine g_ (c_ ?_)
  refine u_ ?_
  refine W_ (ι := Nat × Value) (fun z => [(0, z.2), (7, .slice A xs.length c), (8, .int .i64 (xs.length : Nat)), (9, .int .i64 (z.1 : Nat))]) (fun z w' => z.1 ≤ xs.length ∧ Mem S σ (bytesD z.2 (l ++ long8 (xs.take z.1)) :: ρ) w') (fun z => xs.length - z.1) (0, v) (by exact ⟨rfl, rfl, rfl, rfl, trivial⟩) (fun w' hw' => ⟨Nat.zero_le _, hw'.less (by intro x hx; simp only [List.take_zero, long8, List.flatMap_nil, List.append_nil] at hx; rcases List.mem_cons.1 hx with rfl | hx <;> simp [*])⟩) ?_
  intro z
  refine aU_ ?_
  intro hz
  refine d_ (a_ ?_)
  refine b_ (an_ rfl rfl) rfl rfl ?_
  refine g_ (c_ ?_)
  refine d_ ?_
  refine o_ rfl ?_ ?_
  rotate_left
  · intro hc10
    refine T_ ?_
    refine i_ (by intro h; cases h) ?_
    refine i_ (by intro h; cases h) ?_
    refine S_ ?_
    refine c_ ?_
    refine d_ (a_ ?_)
    refine b_ (k_ rfl) rfl rfl ?_
    refine b_ (h_ rfl) rfl rfl ?_
    refine g_ (c_ ?_)
    refine n_ ?_
    refine C_ rfl rfl ?_
    intro w' hw'
    rw [List.take_of_length_le (by omega)] at hw'
    exact ⟨_, rfl, hw'⟩
  intro hc10
  have hlt : z.1 < xs.length := by omega
  obtain ⟨bb, off, rfl⟩ := hA (by intro h0; rw [h0] at hlt; simp at hlt)
  refine s_ ?_
  refine c_ ?_
  refine d_ ?_
  refine u_ ?_
  refine d_ (a_ ?_)
  refine b_ (au_ tabOk Tryz.underlying113 rfl rfl rfl (by omega)) rfl rfl ?_
  refine b_ (dw_ (u := .int .i64 (xs[z.1]'hlt)) (j := z.1 * 1) tabOk rfl rfl (by repeat (first | assumption | exact List.mem_cons_self | exact hmem _ | apply List.mem_cons_of_mem)) (by simp [hlt])) rfl rfl ?_
  refine b_ (h_ rfl) rfl rfl ?_
  refine g_ (c_ ?_)
  refine a_ ?_
  iterate 2 refine b_ (k_ rfl) rfl rfl ?_
  refine b_ (az_ rfl Tryz.underlying134 (by kernel_rfl)) rfl rfl ?_
  refine t_ (by kernel_rfl) rfl rfl rfl ?_
  intro w hw
  refine (eE_ (l := l ++ long8 (xs.take z.1)) (x := u64 (xs[z.1]'hlt)) (n := 8) hw (hw.bytes (by repeat (first | assumption | exact List.mem_cons_self | exact hmem _ | apply List.mem_cons_of_mem))) (by rw [List.length_append, ar_, List.length_take]; omega) (ck_ _) rfl).mono ?_; rintro _ _ ⟨r, rfl, hm⟩; refine ⟨_, _, rfl, hm, ?_⟩; clear hm hw w
  refine b_ (h_ rfl) rfl rfl ?_
  refine g_ ?_
  refine r_ ?_
  refine c_ ?_
  refine a_ ?_
  refine b_ (v_ rfl rfl (by simp only [InR, lo, hi]; omega)) rfl rfl ?_
  refine b_ (k_ rfl) rfl rfl ?_
  refine g_ ?_
  refine A_ (z.1 + 1, r) (by show xs.length - (z.1 + 1) < xs.length - z.1; omega) (by exact ⟨rfl, rfl, rfl, rfl, trivial⟩) (fun w' hw' => ⟨hlt, ?_⟩)
  show Mem S σ (bytesD r (l ++ long8 (xs.take (z.1 + 1))) :: ρ) w'
  rw [eS_ hlt, ← List.append_assoc]
  exact hw'.less (fun x hx => by rcases List.mem_cons.1 hx with rfl | hx <;> simp [*])
end
end Go.Proofs.YtggajaigfkekhaaGreat
