/-
  Batches, read: the program's, over the engine.
-/
import Derived.Test.YtdbeinbgekdnmaaBatch2
set_option maxRecDepth 100000
namespace Go.Proofs.Ytdbeinbgekdnmaa
open Go.RowKit

def sg (x : Nat) : Int := IntKind.i64.wrap (x : Int)
def txtB (l : List UInt8) : ByteArray := ⟨l.toArray⟩
/-- A core out of a reader, no row longer than so many bytes; and the reader behind it. -/
def Rd.c3 (s : Rd) : Rd := ((s.fixed 1).fixed 8).fixed 1
def Rd.c4 (s : Rd) (most : Int) : Rd := s.c3.row most
def Rd.c6 (s : Rd) (most : Int) : Rd := ((s.c4 most).fixed 8).fixed 8
def Rd.coreEnd (s : Rd) (most : Int) : Rd := (s.c6 most).row most
def Rd.core (s : Rd) (most : Int) : Core where
  client := s.num 1
  stamp := sg ((s.fixed 1).num 8)
  op := ((s.fixed 1).fixed 8).num 1
  letter := txtB (s.c3.rowOut most)
  a := sg ((s.c4 most).num 8)
  b := sg (((s.c4 most).fixed 8).num 8)
  text := txtB ((s.c6 most).rowOut most)
theorem Rd.row_length (s : Rd) (most : Int) : (s.row most).l.length ≤ s.l.length := by
  have h1 := s.fixed_length 4
  have h2 := (s.fixed 4).fixed_length (s.num 4)
  unfold Rd.row
  split
  · exact h1
  · split
    · exact h1
    · omega
section
variable {S : List (World × List Nat)} {σ τ : Blks} {ρ : List Dt} {w : World}
theorem Core.one (c : Core) : ∀ u ∈ c.cells, u.oneCell' = true := by
  intro u hu
  simp only [Core.cells, List.mem_cons, List.not_mem_nil, or_false] at hu
  rcases hu with rfl | rfl | rfl | rfl | rfl | rfl | rfl <;> rfl
set_option maxHeartbeats 2000000 in
theorem formed_c {v : Value} {l : List UInt8} (hw : Mem S σ ρ w) (hb : bytesD v l ∈ ρ) (hl : l.length ≤ lots) : Calls Try.prog 120 #[v] w fun e w' => ∃ z, e = .returned (.tuple #[.agg (((⟨z, l, 0⟩ : Rd).core (l.length : Nat)).cells).toArray, .bool (decide (((⟨z, l, 0⟩ : Rd).coreEnd (l.length : Nat)).end_ = 0))]) ∧ Mem S σ ρ w' := by
  obtain ⟨A, c, rfl, hs1, hs2, hs3⟩ := (hw.data hb).shape
  refine calls_of [.slice A l.length c] Try.func120 rfl Try.ntmps120 rfl (Mem S σ ρ) hw ?_
  refine SC.seq ?_
  refine SC.region ?_
  refine SL.eff (Eff.alloc tabOk rfl) rfl rfl ?_
  rintro _ _ ⟨b2, rfl, rfl⟩
  refine SL.val (Val.assign rfl) rfl rfl ?_
  refine SL.nil ?_
  refine SE.seq ?_
  refine SC.seq ?_
  refine SC.region ?_
  refine SL.val (Val.move rfl) rfl rfl ?_
  refine SL.call (by kernel_rfl) rfl rfl rfl ?_
  intro w hw
  refine (read_c (l := l) hw hb hl).mono ?_; rintro _ _ ⟨p, z, rfl, hm⟩; have h1 := (⟨z, l, 0⟩ : Rd).fixed_length 1; have h2 := ((⟨z, l, 0⟩ : Rd).fixed 1).fixed_length 8; have h3 : ((⟨z, l, 0⟩ : Rd).c3).l.length ≤ (((⟨z, l, 0⟩ : Rd).fixed 1).fixed 8).l.length := (((⟨z, l, 0⟩ : Rd).fixed 1).fixed 8).fixed_length 1; have h4 : ((⟨z, l, 0⟩ : Rd).c4 (l.length : Nat)).l.length ≤ ((⟨z, l, 0⟩ : Rd).c3).l.length := ((⟨z, l, 0⟩ : Rd).c3).row_length _; have h5 := ((⟨z, l, 0⟩ : Rd).c4 (l.length : Nat)).fixed_length 8; have h6 : ((⟨z, l, 0⟩ : Rd).c6 (l.length : Nat)).l.length ≤ (((⟨z, l, 0⟩ : Rd).c4 (l.length : Nat)).fixed 8).l.length := (((⟨z, l, 0⟩ : Rd).c4 (l.length : Nat)).fixed 8).fixed_length 8; have n1 := (⟨z, l, 0⟩ : Rd).num_lt (n := 1) (k := 1) (Nat.le_refl _); have n2 := (((⟨z, l, 0⟩ : Rd).fixed 1).fixed 8).num_lt (n := 1) (k := 1) (Nat.le_refl _); dsimp only at h1; refine ⟨_, _, rfl, hm, ?_⟩; clear hm hw w
  refine SL.val (Val.assign rfl) rfl rfl ?_
  refine SL.nil ?_
  refine SE.seq ?_
  refine SC.seq ?_
  refine SC.region ?_
  refine SL.eff (Eff.alloc tabOk rfl) rfl rfl ?_
  rintro _ _ ⟨b5, rfl, rfl⟩
  refine SL.nil ?_
  refine SE.seq ?_
  refine SC.seq ?_
  refine SC.region ?_
  refine SL.val (Val.move rfl) rfl rfl ?_
  refine SL.call (by kernel_rfl) rfl rfl rfl ?_
  intro w hw
  refine (number_c (s := (⟨z, l, 0⟩ : Rd)) (n := 1) hw (by repeat (first | assumption | exact Upd.here | apply Upd.there)) (by repeat (first | assumption | exact List.mem_cons_self | apply List.mem_cons_of_mem)) (by omega) rfl).mono ?_; rintro _ _ ⟨rfl, hm⟩; refine ⟨_, _, rfl, hm, ?_⟩; clear hm hw w
  refine SL.val (Val.convI rfl Try.underlying3 (by kernel_rfl) (by simp only [InR, lo, hi]; omega)) rfl rfl ?_
  refine SL.val (Val.move rfl) rfl rfl ?_
  refine SL.call (by kernel_rfl) rfl rfl rfl ?_
  intro w hw
  refine (number_c (s := ((⟨z, l, 0⟩ : Rd).fixed 1)) (n := 8) hw (by repeat (first | assumption | exact Upd.here | apply Upd.there)) (by repeat (first | assumption | exact List.mem_cons_self | apply List.mem_cons_of_mem)) (by omega) rfl).mono ?_; rintro _ _ ⟨rfl, hm⟩; refine ⟨_, _, rfl, hm, ?_⟩; clear hm hw w
  refine SL.val (Val.convW rfl Try.underlying2 (by kernel_rfl)) rfl rfl ?_
  refine SL.val (Val.move rfl) rfl rfl ?_
  refine SL.call (by kernel_rfl) rfl rfl rfl ?_
  intro w hw
  refine (number_c (s := (((⟨z, l, 0⟩ : Rd).fixed 1).fixed 8)) (n := 1) hw (by repeat (first | assumption | exact Upd.here | apply Upd.there)) (by repeat (first | assumption | exact List.mem_cons_self | apply List.mem_cons_of_mem)) (by omega) rfl).mono ?_; rintro _ _ ⟨rfl, hm⟩; refine ⟨_, _, rfl, hm, ?_⟩; clear hm hw w
  refine SL.val (Val.convI rfl Try.underlying3 (by kernel_rfl) (by simp only [InR, lo, hi]; omega)) rfl rfl ?_
  refine SL.val (Val.fieldAddr tabOk rfl rfl rfl rfl rfl) rfl rfl ?_
  refine SL.eff (Eff.store1 tabOk rfl rfl rfl rfl rfl (by repeat (first | assumption | exact Upd.here | apply Upd.there)) (by rfl) (by rfl)) rfl rfl ?_
  rintro _ _ ⟨rfl, rfl⟩
  refine SL.val (Val.fieldAddr tabOk rfl rfl rfl rfl rfl) rfl rfl ?_
  refine SL.eff (Eff.store1 tabOk rfl rfl rfl rfl rfl (by repeat (first | assumption | exact Upd.here | apply Upd.there)) (by rfl) (by rfl)) rfl rfl ?_
  rintro _ _ ⟨rfl, rfl⟩
  refine SL.val (Val.fieldAddr tabOk rfl rfl rfl rfl rfl) rfl rfl ?_
  refine SL.eff (Eff.store1 tabOk rfl rfl rfl rfl rfl (by repeat (first | assumption | exact Upd.here | apply Upd.there)) (by rfl) (by rfl)) rfl rfl ?_
  rintro _ _ ⟨rfl, rfl⟩
  refine SL.nil ?_
  refine SE.seq ?_
  refine SC.seq ?_
  refine SC.region ?_
  refine SL.val (Val.move rfl) rfl rfl ?_
  refine SL.val (Val.move rfl) rfl rfl ?_
  refine SL.val (Val.lenSl rfl Try.underlying34) rfl rfl ?_
  refine SL.call (by kernel_rfl) rfl rfl rfl ?_
  intro w hw
  refine (row_c (s := ((⟨z, l, 0⟩ : Rd).c3)) (most := (l.length : Nat)) hw (by repeat (first | assumption | exact Upd.here | apply Upd.there)) (by repeat (first | assumption | exact List.mem_cons_self | apply List.mem_cons_of_mem)) (by omega) (by unfold lots at hl; omega)).mono ?_; rintro _ _ ⟨r, rfl, hm⟩; refine ⟨_, _, rfl, hm, ?_⟩; clear hm hw w
  refine SL.val (Val.strOf rfl (by repeat (first | assumption | exact List.mem_cons_self | apply List.mem_cons_of_mem))) rfl rfl ?_
  refine SL.val (Val.fieldAddr tabOk rfl rfl rfl rfl rfl) rfl rfl ?_
  refine SL.eff (Eff.store1 tabOk rfl rfl rfl rfl rfl (by repeat (first | assumption | exact Upd.here | apply Upd.there)) (by rfl) (by rfl)) rfl rfl ?_
  rintro _ _ ⟨rfl, rfl⟩
  refine SL.nil ?_
  refine SE.seq ?_
  refine SC.seq ?_
  refine SC.region ?_
  refine SL.val (Val.move rfl) rfl rfl ?_
  refine SL.call (by kernel_rfl) rfl rfl rfl ?_
  intro w hw
  refine (number_c (s := ((⟨z, l, 0⟩ : Rd).c4 (l.length : Nat))) (n := 8) hw (by repeat (first | assumption | exact Upd.here | apply Upd.there)) (by repeat (first | assumption | exact List.mem_cons_self | apply List.mem_cons_of_mem)) (by omega) rfl).mono ?_; rintro _ _ ⟨rfl, hm⟩; refine ⟨_, _, rfl, hm, ?_⟩; clear hm hw w
  refine SL.val (Val.convW rfl Try.underlying2 (by kernel_rfl)) rfl rfl ?_
  refine SL.val (Val.move rfl) rfl rfl ?_
  refine SL.call (by kernel_rfl) rfl rfl rfl ?_
  intro w hw
  refine (number_c (s := (((⟨z, l, 0⟩ : Rd).c4 (l.length : Nat)).fixed 8)) (n := 8) hw (by repeat (first | assumption | exact Upd.here | apply Upd.there)) (by repeat (first | assumption | exact List.mem_cons_self | apply List.mem_cons_of_mem)) (by omega) rfl).mono ?_; rintro _ _ ⟨rfl, hm⟩; refine ⟨_, _, rfl, hm, ?_⟩; clear hm hw w
  refine SL.val (Val.convW rfl Try.underlying2 (by kernel_rfl)) rfl rfl ?_
  refine SL.val (Val.fieldAddr tabOk rfl rfl rfl rfl rfl) rfl rfl ?_
  refine SL.eff (Eff.store1 tabOk rfl rfl rfl rfl rfl (by repeat (first | assumption | exact Upd.here | apply Upd.there)) (by rfl) (by rfl)) rfl rfl ?_
  rintro _ _ ⟨rfl, rfl⟩
  refine SL.val (Val.fieldAddr tabOk rfl rfl rfl rfl rfl) rfl rfl ?_
  refine SL.eff (Eff.store1 tabOk rfl rfl rfl rfl rfl (by repeat (first | assumption | exact Upd.here | apply Upd.there)) (by rfl) (by rfl)) rfl rfl ?_
  rintro _ _ ⟨rfl, rfl⟩
  refine SL.nil ?_
  refine SE.seq ?_
  refine SC.seq ?_
  refine SC.region ?_
  refine SL.val (Val.move rfl) rfl rfl ?_
  refine SL.val (Val.move rfl) rfl rfl ?_
  refine SL.val (Val.lenSl rfl Try.underlying34) rfl rfl ?_
  refine SL.call (by kernel_rfl) rfl rfl rfl ?_
  intro w hw
  refine (row_c (s := ((⟨z, l, 0⟩ : Rd).c6 (l.length : Nat))) (most := (l.length : Nat)) hw (by repeat (first | assumption | exact Upd.here | apply Upd.there)) (by repeat (first | assumption | exact List.mem_cons_self | apply List.mem_cons_of_mem)) (by omega) (by unfold lots at hl; omega)).mono ?_; rintro _ _ ⟨r, rfl, hm⟩; refine ⟨_, _, rfl, hm, ?_⟩; clear hm hw w
  refine SL.val (Val.strOf rfl (by repeat (first | assumption | exact List.mem_cons_self | apply List.mem_cons_of_mem))) rfl rfl ?_
  refine SL.val (Val.fieldAddr tabOk rfl rfl rfl rfl rfl) rfl rfl ?_
  refine SL.eff (Eff.store1 tabOk rfl rfl rfl rfl rfl (by repeat (first | assumption | exact Upd.here | apply Upd.there)) (by rfl) (by rfl)) rfl rfl ?_
  rintro _ _ ⟨rfl, rfl⟩
  refine SL.to (C' := Mem S (.blk b5 (row 136 ((⟨z, l, 0⟩ : Rd).core (l.length : Nat)).cells) :: rdI 194 p ((⟨z, l, 0⟩ : Rd).coreEnd (l.length : Nat)) :: .blk b2 (row 136 [.int .i64 0, .int .i64 0, .int .i64 0, .string ⟨#[]⟩, .int .i64 0, .int .i64 0, .string ⟨#[]⟩]) :: σ) _) (fun _ h => h) ?_
  refine SL.nil ?_
  refine SE.seq ?_
  refine SC.seq ?_
  refine SC.draw (Mem S [.blk b5 (row 136 ((⟨z, l, 0⟩ : Rd).core (l.length : Nat)).cells)] _) (.q 0 (.q 1 (.e 2 (.q 3 (.e 4 (.q 5 .nil)))))) (by kernel_rfl) (by kernel_rfl) (fun _ h => h.sub (fun _ h => h) (List.sublist_append_left [_] _)) (fun _ h => h.drew) ?_
  first
    | refine SX.val rfl (Val.loadA tabOk rfl rfl rfl (by repeat (first | assumption | exact List.mem_cons_self | apply List.mem_cons_of_mem)) (by rfl)) rfl rfl ?_
    | refine SX.val rfl (Val.loadAC tabOk rfl rfl rfl (by assumption) (by assumption)) rfl rfl ?_
    | refine SX.val rfl (Val.loadP tabOk rfl rfl rfl (by repeat (first | assumption | exact List.mem_cons_self | apply List.mem_cons_of_mem)) (Nat.le_of_ble_eq_true (by rfl))) rfl rfl ?_
  refine SX.val rfl (Val.move rfl) rfl rfl ?_
  refine SX.call rfl (by kernel_rfl) rfl rfl rfl ?_
  intro w hw
  refine (end_c (s := (⟨z, l, 0⟩ : Rd).coreEnd (l.length : Nat)) hw (by repeat (first | assumption | exact List.mem_cons_self | apply List.mem_cons_of_mem)) (by repeat (first | assumption | exact List.mem_cons_self | apply List.mem_cons_of_mem))).mono ?_; rintro _ _ ⟨rfl, hm⟩; refine ⟨_, _, rfl, hm, _, fun _ h => h, fun _ h => h.sub (fun _ h => h) (List.sublist_append_left [_] _), ?_⟩; clear hm hw w
  refine SX.val rfl (Val.eqI rfl rfl) rfl rfl ?_
  refine SX.eff rfl (Eff.storeA (L' := ((⟨z, l, 0⟩ : Rd).core (l.length : Nat)).cells) (vs := ((⟨z, l, 0⟩ : Rd).core (l.length : Nat)).cells) tabOk rfl rfl rfl (by repeat (first | assumption | exact Upd.here | apply Upd.there)) (by rfl) (Nat.le_of_ble_eq_true (by rfl)) (Core.one _) (by rfl)) rfl rfl ?_
  rintro _ _ ⟨rfl, rfl⟩
  refine ⟨_, fun _ h => h, fun _ h => h.sub (fun _ h => h) (List.sublist_append_left [_] _), ?_⟩
  refine SX.val rfl (Val.assign rfl) rfl rfl ?_
  refine SX.nil ?_
  refine SE.seq ?_
  refine SC.ret ?_
  refine SE.retn (rs := [.cell 2 136, .tmp 3]) rfl (RV.cell rfl (fun w hw => RV.loadA tabOk rfl rfl hw (by repeat (first | assumption | exact List.mem_cons_self | apply List.mem_cons_of_mem)) (by rfl)) (RV.tmp rfl RV.nil)) ?_
  intro w' hw'
  refine ⟨z, rfl, (hw'.sub (fun _ h => h) (List.sublist_append_right [_, _, _] _)).less ?_⟩
  intro x hx
  simp [hx]
end
end Go.Proofs.Ytdbeinbgekdnmaa
