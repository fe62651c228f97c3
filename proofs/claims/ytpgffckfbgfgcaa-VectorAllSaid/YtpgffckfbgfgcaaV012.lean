/-
  Packed out of the texts: C8, C9, BatchBack.
-/
import Derived.Test.YtpgffckfbgfgcaaV011
/-
  Changes out of bytes: Parse, over the second engine.
-/
set_option maxRecDepth 100000
set_option linter.unusedSimpArgs false
set_option linter.unusedVariables false
namespace Go.Proofs.Ytpgffckfbgfgcaa.A
open Go.RowKit

/-- A digest out of bytes that were read: 32 of them, or none. -/
def pad32 (m : List UInt8) (z : Nat) : List UInt8 := m.take z ++ List.replicate (32 - z) 0
theorem pad32_length {m : List UInt8} {z : Nat} (h : z ≤ m.length) (h2 : z ≤ 32) : (pad32 m z).length = 32 := by
  simp [pad32]; omega
def pad (m : List UInt8) : List UInt8 := pad32 m (min m.length 32)
theorem pad_length (m : List UInt8) : (pad m).length = 32 := pad32_length (by omega) (by omega)
theorem pad_all {m : List UInt8} (h : m.length = 32) : pad m = m := by
  have : m.take 32 = m := List.take_of_length_le (by omega)
  simp [pad, pad32, h, this]
theorem dig_put {m : List UInt8} {z : Nat} (h : z < m.length) (h2 : m.length ≤ 32) : putL (digA (pad32 m z)) (0 + z * 1) [.v (bc m[z])] = digA (pad32 m (z + 1)) := by
  rw [Nat.zero_add, Nat.mul_one, putL_eq _ _ _ (by simp [digA, pad32]; omega)]
  unfold pad32 digA
  rw [List.take_succ_eq_append_getElem h]
  obtain ⟨j, hj⟩ : ∃ j, 32 - z = j + 1 := ⟨32 - z - 1, by omega⟩
  rw [hj, show 32 - (z + 1) = j by omega, List.replicate_succ]
  have e1 : (m.take z).length = z := by simp; omega
  simp only [List.map_append, List.map_cons, List.map_nil, List.take_append, List.drop_append, List.length_map, e1, List.length_singleton]
  rw [List.take_of_length_le (by simp; omega), List.drop_of_length_le (by simp; omega)]
  simp
theorem Rd.out32 (s : Rd) : (s.out 32).length ≤ 32 := s.out_length 32
def Pnt.mk' (x : Int) (m : List UInt8) : Pnt := ⟨x, pad m, pad_length m⟩
/-- Checkpoints as the program reads them. -/
def Rd.pnts : Nat → Rd → List Pnt → List Pnt × Rd
  | 0, s, acc => (acc, s)
  | k + 1, s, acc => Rd.pnts k ((s.fixed 8).fixed 32) (acc ++ [Pnt.mk' (sg (s.num 8)) ((s.fixed 8).out 32)])
def Rd.rpnts : Nat → Rd → List Pnt → List Pnt × Rd
  | 0, s, acc => (acc, s)
  | k + 1, s, acc => if s.e ≠ 0 then (acc, s) else Rd.rpnts k ((s.fixed 8).fixed 32) (acc ++ [Pnt.mk' (sg (s.num 8)) ((s.fixed 8).out 32)])
theorem rpnts_stop {s : Rd} {acc : List Pnt} (h : s.e ≠ 0) : ∀ k, Rd.rpnts k s acc = (acc, s)
  | 0 => rfl
  | k + 1 => by show (if s.e ≠ 0 then _ else _) = _; rw [if_pos h]
section
variable {p : Nat} {s : Rd} {n : Int} {l : List UInt8}
theorem rreaddig_s (hl : s.l.length ≤ lots) : Spec Try.prog 191 [ptr p] [rdA RR p s] (fun _ : Unit => [rdA RR p (s.fixed 32)]) (fun _ => .agg (digA (pad (s.out 32)))) := by
  have h32 := Rd.out32 s
  refine spec_of Try.func191 rfl Try.ntmps191 rfl fun G w => ?_
  refine SC.seq (SC.region ?_)
  refine SL.eff (Eff.alloc tabOk rfl) rfl rfl ?_
  rintro _ _ ⟨b2, rfl, rfl⟩
  refine SL.nil (SE.seq ?_)
  refine SC.seq (SC.region ?_)
  refine SL.eff (Eff.alloc tabOk rfl) rfl rfl ?_
  rintro _ _ ⟨b3, rfl, rfl⟩
  refine SL.nil (SE.seq ?_)
  refine SC.seq ?_
  refine SC.seq (SC.region ?_)
  refine SL.val (Val.move rfl) rfl rfl ?_
  refine SL.call (rfixed_s (s := s) (n := 32) hl) Casts.refl (by kernel_rfl) rfl rfl rfl ?_
  refine After.one rfl (by repeat first|assumption|exact m0|apply m1) (fun _ => rfl) ?_
  intro _
  refine ⟨_, (by repeat first|assumption|exact Upd.here|apply Upd.there), ?_⟩
  first
    | refine SL.val (Val.lenSl rfl Try.underlying34 (List.length_map _)) rfl rfl ?_
    | refine SL.val (Val.lenOwn rfl (by repeat first|assumption|exact m0|apply m1) Try.underlying34 (List.length_map _)) rfl rfl ?_
    | refine SL.val (Val.lenNil rfl Try.underlying34) rfl rfl ?_
  refine SL.val (Val.move rfl) rfl rfl ?_
  refine SL.nil (SE.seq ?_)
  refine SC.block ?_
  refine SC.loop (ι := Nat) (fun z => [.blk b3 30 (digA (pad32 (s.out 32) z)), .blk b2 30 (zabs (List.replicate 32 (.int .u8 0))), rdA RR p (s.fixed 32)]) (fun z => [(2, ptr b2), (3, ptr b3), (7, byt (s.out 32)), (8, int ((s.out 32).length : Nat)), (9, int (z : Nat))]) (fun z => z ≤ (s.out 32).length) (fun z => (s.out 32).length - z) (0) (Nat.zero_le _) (by exact ⟨rfl, rfl, rfl, rfl, rfl, trivial⟩) (by repeat first|exact s0 _|exact s1 _|apply s2|apply s3) ?_
  intro z hz
  refine SC.seq (SC.region ?_)
  refine SL.val (Val.ltI rfl rfl) rfl rfl ?_
  refine SL.nil (SE.seq ?_)
  refine SC.seq ?_
  refine SC.condP rfl ?_ ?_
  rotate_left
  · intro hc10
    refine SC.exit ?_
    refine SE.then_ (by intro h; cases h) ?_
    refine SE.then_ (by intro h; cases h) ?_
    refine SE.exit ?_
    refine SE.seq ?_
    refine SC.seq (SC.region ?_)
    refine SL.val (Val.loadA tabOk rfl rfl rfl (by first|(apply Or.inl;(repeat first|assumption|exact m0|apply m1);done)|(apply Or.inr;(repeat first|assumption|exact m0|apply m1);done)) List.not_mem_nil (by simp only [digA, List.length_map]; rw [pad32_length (by omega) (by omega)])) rfl rfl ?_
    refine SL.eff (Eff.store (L' := digA (pad32 (s.out 32) z)) tabOk rfl rfl rfl (by repeat first|assumption|exact Upd.here|apply Upd.there) (by simp only [cellsA, digA, List.length_map]; rw [pad32_length (by omega) (by omega)]) (Nat.le_of_ble_eq_true (by rfl)) (by show ones (digA _) = true; rw [ones_iff]; intro a ha; obtain ⟨b, _, rfl⟩ := List.mem_map.1 ha; rfl) (by exact putL_all (by simp only [cellsA, digA, List.length_map]; rw [pad32_length (by omega) (by omega)]; rfl))) rfl rfl ?_
    rintro _ _ ⟨rfl, rfl⟩
    refine SL.nil (SE.seq ?_)
    refine SC.ret ?_
    refine SE.fin (rs := [.cell 2 30]) rfl (RV.cell rfl (RV.cellA tabOk rfl rfl (by first|(apply Or.inl;(repeat first|assumption|exact m0|apply m1);done)|(apply Or.inr;(repeat first|assumption|exact m0|apply m1);done)) (by simp only [digA, List.length_map]; rw [pad32_length (by omega) (by omega)])) RV.nil) () (by repeat first|exact s0 _|exact s1 _|apply s2|apply s3) (by simp [It.rids]) ?_
    show Abs.agg (digA (pad32 (s.out 32) z)) = .agg (digA (pad (s.out 32)))
    rw [pad, show min (s.out 32).length 32 = z by omega]
  intro hc10
  have hlt : z < (s.out 32).length := by omega
  refine SC.skip ?_
  refine SE.seq ?_
  refine SC.seq ?_
  refine SC.block ?_
  refine SC.seq (SC.region ?_)
  refine SL.val (Val.move rfl) rfl rfl ?_
  refine SL.val (Val.indexSl tabOk Try.underlying34 rfl rfl rfl rfl (at_map (by omega)) rfl rfl) rfl rfl ?_
  refine SL.val (Val.load1R tabOk rfl rfl rfl) rfl rfl ?_
  refine SL.val (Val.assign rfl) rfl rfl ?_
  refine SL.val (Val.assign rfl) rfl rfl ?_
  refine SL.nil (SE.seq ?_)
  refine SC.region ?_
  refine SL.val (Val.move rfl) rfl rfl ?_
  refine SL.val (Val.move rfl) rfl rfl ?_
  refine SL.val (Val.indexArP (q := z) tabOk Try.underlying30 rfl rfl rfl rfl (by omega) rfl) rfl rfl ?_
  refine SL.eff (Eff.store (L' := digA (pad32 (s.out 32) (z + 1))) tabOk rfl rfl rfl (by repeat first|assumption|exact Upd.here|apply Upd.there) rfl (by simp only [digA, List.length_map]; rw [pad32_length (by omega) (by omega)]; show 0 + z * 1 + 1 ≤ 32; omega) rfl (dig_put hlt h32)) rfl rfl ?_
  rintro _ _ ⟨rfl, rfl⟩
  refine SL.nil ?_
  refine SE.inBlock ?_
  refine SE.seq ?_
  refine SC.region ?_
  first
    | refine SL.val (Val.addI rfl rfl (by simp only [InR, lo, hi]; omega)) rfl rfl ?_
    | refine SL.val (Val.addW rfl rfl) rfl rfl ?_
  refine SL.val (Val.move rfl) rfl rfl ?_
  refine SL.nil ?_
  refine SE.round (z + 1) (by first | omega | (dsimp only; omega)) (by first | omega | (dsimp only; omega)) (by exact ⟨rfl, rfl, rfl, rfl, rfl, trivial⟩) (by repeat first|exact s0 _|exact s1 _|apply s2|apply s3)
def Chg.zero : Chg := ⟨0, 0, [], [], []⟩
/-- What the program reads, whether an odd one was there, and what is left. -/
def Rd.chgHead (l : List UInt8) : Rd := ((Rd.of l).fixed 8).fixed 8
def Rd.chgPts (l : List UInt8) : List Pnt × Rd := Rd.pnts ((Rd.chgHead l).countN 4) ((Rd.chgHead l).count 4) []
def Rd.chgPre (l : List UInt8) (n : Int) : List Prf × Bool × Rd := Rd.prfs n l.length ((Rd.chgPts l).2.countN 8) ((Rd.chgPts l).2.count 8) [] false
def Rd.chgPro (l : List UInt8) (n : Int) : List Prf × Bool × Rd := Rd.prfs n l.length ((Rd.chgPre l n).2.2.countN 64) ((Rd.chgPre l n).2.2.count 64) [] false
def Rd.chg (l : List UInt8) (n : Int) : Chg := ⟨sg ((Rd.of l).num 8), sg (((Rd.of l).fixed 8).num 8), (Rd.chgPts l).1, (Rd.chgPre l n).1, (Rd.chgPro l n).1⟩
noncomputable def parseC (l : List UInt8) (n : Int) : Chg × Int :=
  if n < 1 ∨ 7 < n then (Chg.zero, 1) else
  if (Rd.chgPro l n).2.2.end_ ≠ 0 ∨ (Rd.chgPre l n).2.1 = true ∨ (Rd.chgPro l n).2.1 = true ∨ (Rd.chg l n).check n ≠ 0 then (Chg.zero, 2) else (Rd.chg l n, 0)
theorem pnt_copy {x : Int} {m : List UInt8} (h : m.length ≤ 32) : putL (int x :: List.replicate 32 (.v (.int .u8 0))) 1 ((bys m).take 32).flatten = (Pnt.mk' x m).abs := by
  have e1 : ((bys m).take 32).flatten = digA m := by
    rw [List.take_of_length_le (by simpa using h)]
    induction m with
    | nil => rfl
    | cons b m ih =>
      have := ih (by simp at h; omega)
      simp only [bys, digA, List.map_cons, List.flatten_cons] at this ⊢
      rw [this]; rfl
  rw [e1]
  show int x :: putL (List.replicate 32 (.v (.int .u8 0))) 0 (digA m) = int x :: digA (pad m)
  congr 1
  rw [putL_eq _ _ _ (Nat.zero_le _)]
  have e2 : (digA m).length = m.length := by simp [digA]
  unfold pad pad32
  rw [show min m.length 32 = m.length by omega, List.take_of_length_le (Nat.le_refl _)]
  rw [Nat.zero_add, e2, List.take_zero, List.nil_append, List.drop_replicate]
  unfold digA
  rw [List.map_append, List.map_replicate]
  rfl
theorem pnts_left : ∀ (k : Nat) (s : Rd) (acc : List Pnt), (Rd.pnts k s acc).1.length = acc.length + k ∧ (Rd.pnts k s acc).2.l.length ≤ s.l.length
  | 0, s, acc => ⟨rfl, Nat.le_refl _⟩
  | k + 1, s, acc => by
    have h1 := pnts_left k ((s.fixed 8).fixed 32) (acc ++ [Pnt.mk' (sg (s.num 8)) ((s.fixed 8).out 32)])
    have h2 := s.fixed_length 8
    have h3 := (s.fixed 8).fixed_length 32
    rw [List.length_append, List.length_singleton] at h1
    unfold Rd.pnts
    omega
theorem prfs_left (n room : Int) : ∀ (k : Nat) (s : Rd) (acc : List Prf) (o : Bool), (Rd.prfs n room k s acc o).1.length = acc.length + k ∧ (Rd.prfs n room k s acc o).2.2.l.length ≤ s.l.length
  | 0, s, acc, o => ⟨rfl, Nat.le_refl _⟩
  | k + 1, s, acc, o => by
    have h1 := prfs_left n room k ((Rd.pr2 s).row room) (acc ++ [⟨sg (s.num 8), sg ((Rd.pr1 s).num 8), (parseS (Rd.prOut s room) n).1⟩]) (o || decide ((parseS (Rd.prOut s room) n).2 ≠ 0))
    have h2 := s.fixed_length 8
    have h3 := (s.fixed 8).fixed_length 8
    have h4 := Rd.row_length (Rd.pr2 s) room
    rw [List.length_append, List.length_singleton] at h1
    unfold Rd.pr2 at h1 h4
    unfold Rd.prfs Rd.pr2
    omega
theorem ents_len {most : Int} : ∀ (m : Nat) (s : Rd) (acc : List Ent) (es : List Ent) (t : Rd), s.ents most m acc = some (es, t) → es.length = acc.length + m
  | 0, s, acc, es, t, h => by
    simp only [Rd.ents, Option.some.injEq, Prod.mk.injEq] at h
    rw [← h.1]; rfl
  | m + 1, s, acc, es, t, h => by
    simp only [Rd.ents] at h
    split at h
    · cases h
    · have := ents_len m _ _ _ _ h
      rw [List.length_append, List.length_singleton] at this
      omega
theorem parseS_few {l : List UInt8} {n : Int} : (parseS l n).1.length ≤ 1000000 := by
  unfold parseS
  have h9 : manyOf l ≤ (Rd.of l).num 2 := Nat.min_le_left _ _
  have h8 := (Rd.of l).num_lt (n := 2) (k := 2) (Nat.le_refl _)
  cases h : Rd.ents l.length (manyOf l) ((Rd.of l).fixed 2) [] with
  | none => simp [parse2]
  | some x =>
    obtain ⟨es, t⟩ := x
    have h7 := ents_len _ _ _ _ _ h
    simp only [List.length_nil] at h7
    simp only [parse2]
    split
    · simp
    · split
      · simp
      · show es.length ≤ 1000000
        omega
theorem elems_one {s i : Nat} {cs : List Abs} (h : cs.length = s) : elems s [(i, .agg cs)] = some [cs] := by simp [elems, cellsA, h]
theorem prfs_all (Q : Prf → Prop) {n room : Int} {B : Nat} (hQ : ∀ (a b : Int) (l : List UInt8), l.length ≤ B → Q ⟨a, b, (parseS l n).1⟩) : ∀ (k : Nat) (s : Rd) (acc : List Prf) (o : Bool), s.l.length ≤ B → (∀ p ∈ acc, Q p) → ∀ p ∈ (Rd.prfs n room k s acc o).1, Q p
  | 0, _, _, _, _, h => h
  | k + 1, s, acc, o, hB, h => by
    have h2 := s.fixed_length 8
    have h3 := (s.fixed 8).fixed_length 8
    have h4 := Rd.row_length (Rd.pr2 s) room
    have h5 : (Rd.prOut s room).length ≤ (Rd.pr2 s).l.length := Rd.rowOut_length _ _
    unfold Rd.pr2 at h4 h5
    refine prfs_all Q hQ k _ _ _ (by unfold Rd.pr2; omega) fun p hp => ?_
    rcases List.mem_append.1 hp with hp | hp
    · exact h p hp
    · rw [List.mem_singleton] at hp; subst hp; exact hQ _ _ _ (by omega)
set_option maxHeartbeats 4000000 in
theorem parse_s (hl : l.length ≤ 10000000) : Spec Try.prog 124 [byt l, int n] [] (fun _ : Unit => []) (fun _ => .tup [.agg (parseC l n).1.abs, int (parseC l n).2]) := by
  have hL : lots = 100000000000 := rfl
  have hof : (Rd.of l).l = l := rfl
  have q1 := (Rd.of l).fixed_length 8
  have q2 := ((Rd.of l).fixed 8).fixed_length 8
  have q3 := Rd.count_length (Rd.chgHead l) 4
  have q4 := Rd.countN_lt (Rd.chgHead l) 4
  unfold Rd.chgHead at q3
  rw [hof] at q1
  refine spec_of Try.func124 rfl Try.ntmps124 rfl fun G w => ?_
  refine SC.seq (SC.region ?_)
  refine SL.eff (Eff.alloc tabOk rfl) rfl rfl ?_
  rintro _ _ ⟨b4, rfl, rfl⟩
  refine SL.val (Val.assign rfl) rfl rfl ?_
  refine SL.nil (SE.seq ?_)
  refine SC.seq ?_
  refine SC.seq (SC.region ?_)
  refine SL.val (Val.move rfl) rfl rfl ?_
  refine SL.val (Val.ltI rfl rfl) rfl rfl ?_
  refine SL.val (Val.move rfl) rfl rfl ?_
  refine SL.bothP (t := 13) rfl ?_ ?_
  · intro hc13
    iterate 2 refine SL.skip rfl rfl ?_
    refine SL.val (Val.pickT rfl rfl) rfl rfl ?_
    refine SL.nil (SE.seq ?_)
    refine SC.condT rfl ?_
    refine SC.seq (SC.region ?_)
    refine SL.val (Val.buildS tabOk rfl rfl rfl rfl) rfl rfl ?_
    refine SL.eff (Eff.store tabOk rfl rfl rfl (by repeat first|assumption|exact Upd.here|apply Upd.there) (by rfl) (Nat.le_of_ble_eq_true (by rfl)) (by rfl) (by rfl)) rfl rfl ?_
    rintro _ _ ⟨rfl, rfl⟩
    refine SL.val (Val.assign rfl) rfl rfl ?_
    refine SL.nil (SE.seq ?_)
    refine SC.ret ?_
    refine SE.then_ (by intro h; cases h) ?_
    refine SE.finC (rs := [.cell 4 52, .tmp 5]) rfl (RV.cell rfl (RV.cellA tabOk rfl rfl (by first|(apply Or.inl;(repeat first|assumption|exact m0|apply m1);done)|(apply Or.inr;(repeat first|assumption|exact m0|apply m1);done)) (by rfl)) (RV.tmp rfl RV.nil)) (Casts.cons (cast_agg (Casts.keep (Casts.keep (Casts.nils (s := 33) (Casts.nils (s := 3) (Casts.nils (s := 3) Casts.refl)))))) Casts.refl) (()) (by repeat first|exact s0 _|exact s1 _|apply s2|apply s3) (by simp [It.rids]) ?_
    have e : parseC l n = (Chg.zero, 1) := by
      unfold parseC
      rw [if_pos (by omega)]
    rw [e]
    rfl
  intro hc13
  refine SL.val (Val.move rfl) rfl rfl ?_
  refine SL.val (Val.gtI rfl rfl) rfl rfl ?_
  refine SL.val (Val.pickF rfl rfl) rfl rfl ?_
  refine SL.nil (SE.seq ?_)
  refine SC.condP rfl ?_ ?_
  · intro hc16
    refine SC.seq (SC.region ?_)
    refine SL.val (Val.buildS tabOk rfl rfl rfl rfl) rfl rfl ?_
    refine SL.eff (Eff.store tabOk rfl rfl rfl (by repeat first|assumption|exact Upd.here|apply Upd.there) (by rfl) (Nat.le_of_ble_eq_true (by rfl)) (by rfl) (by rfl)) rfl rfl ?_
    rintro _ _ ⟨rfl, rfl⟩
    refine SL.val (Val.assign rfl) rfl rfl ?_
    refine SL.nil (SE.seq ?_)
    refine SC.ret ?_
    refine SE.then_ (by intro h; cases h) ?_
    refine SE.finC (rs := [.cell 4 52, .tmp 5]) rfl (RV.cell rfl (RV.cellA tabOk rfl rfl (by first|(apply Or.inl;(repeat first|assumption|exact m0|apply m1);done)|(apply Or.inr;(repeat first|assumption|exact m0|apply m1);done)) (by rfl)) (RV.tmp rfl RV.nil)) (Casts.cons (cast_agg (Casts.keep (Casts.keep (Casts.nils (s := 33) (Casts.nils (s := 3) (Casts.nils (s := 3) Casts.refl)))))) Casts.refl) (()) (by repeat first|exact s0 _|exact s1 _|apply s2|apply s3) (by simp [It.rids]) ?_
    have e : parseC l n = (Chg.zero, 1) := by
      unfold parseC
      rw [if_pos (by omega)]
    rw [e]
    rfl
  intro hc16
  refine SC.skip ?_
  refine SE.seq ?_
  refine SC.seq (SC.region ?_)
  refine SL.val (Val.move rfl) rfl rfl ?_
  refine SL.call (read_s (l := l) (by omega)) Casts.refl (by kernel_rfl) rfl rfl rfl ?_
  refine After.make (by repeat first|exact .nil|refine .blk (by repeat first|assumption|exact m0|apply m1) ?_|refine .rd (by repeat first|assumption|exact m0|apply m1) ?_|refine .pc (by repeat first|assumption|exact m0|apply m1) ?_|refine .rdpc (by repeat first|assumption|exact m0|apply m1) ?_) (fun _ => rfl) ?_
  intro p6
  refine SL.val (Val.assign rfl) rfl rfl ?_
  refine SL.nil (SE.seq ?_)
  refine SC.seq (SC.region ?_)
  refine SL.val (Val.move rfl) rfl rfl ?_
  refine SL.call (number_s (s := Rd.of l) (n := 8) (by show l.length ≤ _; omega) rfl) Casts.refl (by kernel_rfl) rfl rfl rfl ?_
  refine After.one rfl (by repeat first|assumption|exact m0|apply m1) (fun _ => rfl) ?_
  intro _
  refine ⟨_, (by repeat first|assumption|exact Upd.here|apply Upd.there), ?_⟩
  first
    | refine SL.val (Val.convI rfl Try.underlying2 (by kernel_rfl) (by simp only [InR, lo, hi]; omega)) rfl rfl ?_
    | refine SL.val (Val.convW rfl Try.underlying2 (by kernel_rfl)) rfl rfl ?_
  refine SL.val (Val.move rfl) rfl rfl ?_
  refine SL.call (number_s (s := (Rd.of l).fixed 8) (n := 8) (by omega) rfl) Casts.refl (by kernel_rfl) rfl rfl rfl ?_
  refine After.one rfl (by repeat first|assumption|exact m0|apply m1) (fun _ => rfl) ?_
  intro _
  refine ⟨_, (by repeat first|assumption|exact Upd.here|apply Upd.there), ?_⟩
  first
    | refine SL.val (Val.convI rfl Try.underlying2 (by kernel_rfl) (by simp only [InR, lo, hi]; omega)) rfl rfl ?_
    | refine SL.val (Val.convW rfl Try.underlying2 (by kernel_rfl)) rfl rfl ?_
  refine SL.val (Val.buildS tabOk rfl rfl rfl rfl) rfl rfl ?_
  refine SL.eff (Eff.alloc tabOk rfl) rfl rfl ?_
  rintro _ _ ⟨b7, rfl, rfl⟩
  refine SL.eff (Eff.store tabOk rfl rfl rfl (by repeat first|assumption|exact Upd.here|apply Upd.there) (by rfl) (Nat.le_of_ble_eq_true (by rfl)) (by rfl) (by rfl)) rfl rfl ?_
  rintro _ _ ⟨rfl, rfl⟩
  refine SL.nil (SE.seq ?_)
  refine SC.seq ?_
  refine SC.seq (SC.region ?_)
  refine SL.val (Val.move rfl) rfl rfl ?_
  refine SL.call (count_s (s := Rd.chgHead l) (n := 4) (by unfold Rd.chgHead; omega)) Casts.refl (by kernel_rfl) rfl rfl rfl ?_
  refine After.one rfl (by repeat first|assumption|exact m0|apply m1) (fun _ => rfl) ?_
  intro _
  refine ⟨_, (by repeat first|assumption|exact Upd.here|apply Upd.there), ?_⟩
  refine SL.val (Val.move rfl) rfl rfl ?_
  refine SL.nil (SE.seq ?_)
  refine SC.block ?_
  refine SC.own0 171 33 ?_
  refine SC.loop (ι := Rd × List Pnt × Nat × Value) (fun z => [own 171 33 z.2.2.2 (z.2.1.map Pnt.abs), .blk b7 52 [int (IntKind.i64.wrap ((Rd.of l).num 8 : Nat)), int (IntKind.i64.wrap (((Rd.of l).fixed 8).num 8 : Nat)), .v z.2.2.2, .v (.slice none 0 0), .v (.slice none 0 0)], rdA TR p6 z.1, .blk b4 52 (zabs [.int .i64 0, .int .i64 0, .slice none 0 0, .slice none 0 0, .slice none 0 0])]) (fun z => [(0, byt l), (1, int n), (4, ptr b4), (6, ptr p6), (7, ptr b7), (28, int (((Rd.chgHead l).countN 4) : Nat)), (29, int (z.2.2.1 : Nat))]) (fun z => z.2.2.1 ≤ ((Rd.chgHead l).countN 4) ∧ z.1.l.length ≤ l.length ∧ z.2.1.length = z.2.2.1 ∧ Rd.pnts (((Rd.chgHead l).countN 4) - z.2.2.1) z.1 z.2.1 = Rd.pnts ((Rd.chgHead l).countN 4) ((Rd.chgHead l).count 4) []) (fun z => ((Rd.chgHead l).countN 4) - z.2.2.1) ((Rd.chgHead l).count 4, [], 0, .slice none 0 0) (⟨Nat.zero_le _, by dsimp only; unfold Rd.chgHead; omega, rfl, rfl⟩) (by exact ⟨rfl, rfl, rfl, rfl, rfl, rfl, rfl, trivial⟩) (by repeat first|exact s0 _|exact s1 _|apply s2|apply s3) ?_
  intro z hz
  refine SC.seq (SC.region ?_)
  refine SL.val (Val.ltI rfl rfl) rfl rfl ?_
  refine SL.nil (SE.seq ?_)
  refine SC.seq ?_
  refine SC.condP rfl ?_ ?_
  · intro hc30
    have n1 := z.1.fixed_length 8
    have n2 := (z.1.fixed 8).fixed_length 32
    have n3 := Rd.out32 (z.1.fixed 8)
    refine SC.skip ?_
    refine SE.seq ?_
    refine SC.seq ?_
    refine SC.block ?_
    refine SC.seq (SC.region ?_)
    refine SL.val (Val.move rfl) rfl rfl ?_
    refine SL.call (number_s (s := z.1) (n := 8) (by omega) rfl) Casts.refl (by kernel_rfl) rfl rfl rfl ?_
    refine After.one rfl (by repeat first|assumption|exact m0|apply m1) (fun _ => rfl) ?_
    intro _
    refine ⟨_, (by repeat first|assumption|exact Upd.here|apply Upd.there), ?_⟩
    first
      | refine SL.val (Val.convI rfl Try.underlying2 (by kernel_rfl) (by simp only [InR, lo, hi]; omega)) rfl rfl ?_
      | refine SL.val (Val.convW rfl Try.underlying2 (by kernel_rfl)) rfl rfl ?_
    refine SL.val (Val.buildS tabOk rfl rfl rfl rfl) rfl rfl ?_
    refine SL.eff (Eff.alloc tabOk rfl) rfl rfl ?_
    rintro _ _ ⟨b8, rfl, rfl⟩
    refine SL.eff (Eff.store tabOk rfl rfl rfl (by repeat first|assumption|exact Upd.here|apply Upd.there) (by rfl) (Nat.le_of_ble_eq_true (by rfl)) (by rfl) (by rfl)) rfl rfl ?_
    rintro _ _ ⟨rfl, rfl⟩
    refine SL.nil (SE.seq ?_)
    refine SC.seq ?_
    refine SC.draw [b8, p6] (.q 0 (.q 1 (.q 2 (.e 3 (.e 4 .nil))))) (by kernel_rfl) (by kernel_rfl) ?_
    refine SX.val rfl (Val.fieldAddr tabOk rfl rfl rfl rfl rfl) (by first|(simp[mids,It.mids,ownPc];done)|(intro k hk;simp[mids,It.mids,ownPc] at hk ⊢;grind)) rfl rfl ?_
    refine SX.val rfl (Val.sliceArr tabOk Try.underlying30 rfl rfl) (by first|(simp[mids,It.mids,ownPc];done)|(intro k hk;simp[mids,It.mids,ownPc] at hk ⊢;grind)) rfl rfl ?_
    refine SX.val rfl (Val.move rfl) (by first|(simp[mids,It.mids,ownPc];done)|(intro k hk;simp[mids,It.mids,ownPc] at hk ⊢;grind)) rfl rfl ?_
    refine SX.call rfl (fixed_s (s := (z.1.fixed 8)) (n := 32) (by omega)) (by simp [mids, It.mids]) Casts.refl (by kernel_rfl) rfl rfl rfl ?_
    refine After.one rfl (by repeat first|assumption|exact m0|apply m1) (fun _ => rfl) ?_
    intro _
    refine ⟨_, (by repeat first|assumption|exact Upd.here|apply Upd.there), ?_⟩
    refine SX.effX [] rfl (Eff.copy (L' := (Pnt.mk' (sg (z.1.num 8)) ((z.1.fixed 8).out 32)).abs) Try.underlying34 (by kernel_rfl) rfl rfl (by repeat first|assumption|exact Upd.here|apply Upd.there) (by have : min (List.map (fun b => [Abs.v (bc b)]) ((z.1.fixed 8).out 32)).length 32 ≤ 32 := Nat.min_le_right _ _; show 1 + min (List.map (fun b => [Abs.v (bc b)]) ((z.1.fixed 8).out 32)).length 32 ≤ 33; omega) (bys_ones _) (by exact pnt_copy n3)) (by simp) (by simp) rfl rfl ?_
    rintro _ _ ⟨rfl, rfl⟩
    refine SX.nil (SE.seq ?_)
    refine SC.region ?_
    refine SL.val (Val.fieldAddr tabOk rfl rfl rfl rfl rfl) rfl rfl ?_
    refine SL.val (Val.load1 tabOk rfl rfl (by first|(apply Or.inl;(repeat first|assumption|exact m0|apply m1);done)|(apply Or.inr;(repeat first|assumption|exact m0|apply m1);done)) List.not_mem_nil (by rfl)) rfl rfl ?_
    refine SL.val (Val.loadA tabOk rfl rfl rfl (by first|(apply Or.inl;(repeat first|assumption|exact m0|apply m1);done)|(apply Or.inr;(repeat first|assumption|exact m0|apply m1);done)) List.not_mem_nil (Pnt.size _)) rfl rfl ?_
    refine SL.eff (Eff.buildSl tabOk Try.underlying49 rfl rfl rfl (elems_one (Pnt.size _)) rfl rfl rfl) rfl rfl ?_
    rintro _ _ ⟨rfl, rfl⟩
    refine SL.eff (Eff.appendE (zs := (z.2.1 ++ [Pnt.mk' (sg (z.1.num 8)) ((z.1.fixed 8).out 32)]).map Pnt.abs) tabOk [_] (by rw [List.map_append]; rfl) Try.underlying49 rfl rfl rfl rfl rfl rfl (by intro c hc; rw [List.mem_singleton] at hc; subst hc; exact Pnt.ones _) (by unfold maxLen; simp only [List.length_map, List.length_cons, List.length_nil]; omega) (by rw [show Try.prog.bytesOf 171 = 40 by kernel_rfl]; simp only [List.length_map, List.length_cons, List.length_nil]; omega)) rfl rfl ?_
    rintro _ _ ⟨r44, rfl, rfl⟩
    refine SL.val (Val.fieldAddr tabOk rfl rfl rfl rfl rfl) rfl rfl ?_
    first
      | refine SL.eff (Eff.store tabOk rfl rfl rfl (by repeat first|assumption|exact Upd.here|apply Upd.there) (by rfl) (Nat.le_of_ble_eq_true (by rfl)) (by rfl) (by rfl)) rfl rfl ?_
      | refine SL.eff (Eff.storeOwn tabOk rfl rfl rfl rfl (by repeat first|assumption|exact m0|apply m1) (by repeat first|assumption|exact Upd.here|apply Upd.there) rfl (by rfl)) rfl rfl ?_
    rintro _ _ ⟨rfl, rfl⟩
    refine SL.nil ?_
    refine SE.inBlock ?_
    refine SE.seq ?_
    refine SC.region ?_
    first
      | refine SL.val (Val.addI rfl rfl (by simp only [InR, lo, hi]; omega)) rfl rfl ?_
      | refine SL.val (Val.addW rfl rfl) rfl rfl ?_
    refine SL.val (Val.move rfl) rfl rfl ?_
    refine SL.nil ?_
    refine SE.round (((z.1.fixed 8).fixed 32), z.2.1 ++ [Pnt.mk' (sg (z.1.num 8)) ((z.1.fixed 8).out 32)], z.2.2.1 + 1, r44) (by first | omega | (dsimp only; omega)) (⟨by dsimp only; omega, by dsimp only; omega, by dsimp only; rw [List.length_append, hz.2.2.1]; rfl, by
      rw [← hz.2.2.2]
      obtain ⟨j, hj⟩ : ∃ j, ((Rd.chgHead l).countN 4) - z.2.2.1 = j + 1 := ⟨((Rd.chgHead l).countN 4) - z.2.2.1 - 1, by omega⟩
      rw [hj]
      show Rd.pnts (((Rd.chgHead l).countN 4) - (z.2.2.1 + 1)) _ _ = Rd.pnts (j + 1) _ _
      rw [show ((Rd.chgHead l).countN 4) - (z.2.2.1 + 1) = j by omega]
      rfl⟩) (by exact ⟨rfl, rfl, rfl, rfl, rfl, rfl, rfl, trivial⟩) (by repeat first|exact s0 _|exact s1 _|apply s2|apply s3)
  intro hc30
  refine SC.exit ?_
  refine SE.then_ (by intro h; cases h) ?_
  refine SE.then_ (by intro h; cases h) ?_
  refine SE.exit ?_
  refine SE.seq ?_
  refine SC.seq ?_
  have hzz : (z.2.1, z.1) = Rd.chgPts l := by
    unfold Rd.chgPts
    rw [← hz.2.2.2, show ((Rd.chgHead l).countN 4) - z.2.2.1 = 0 by omega]
    rfl
  have hzA := congrArg Prod.fst hzz
  have hzS := congrArg Prod.snd hzz
  dsimp only at hzA hzS
  refine SC.freezeC [] 2 rfl (by repeat first|assumption|exact Upd.here|apply Upd.there) rfl ?_
  rw [hzA, hzS]
  have w1 := pnts_left ((Rd.chgHead l).countN 4) ((Rd.chgHead l).count 4) []
  have w2 : (Rd.chgPts l).2.l.length ≤ l.length := by unfold Rd.chgPts; unfold Rd.chgHead at w1 ⊢; omega
  have w3 := prfs_left n l.length ((Rd.chgPts l).2.countN 8) ((Rd.chgPts l).2.count 8) [] false
  have w4 := Rd.count_length (Rd.chgPts l).2 8
  have w5 : (Rd.chgPre l n).2.2.l.length ≤ l.length := by unfold Rd.chgPre; omega
  have w6 := prfs_left n l.length ((Rd.chgPre l n).2.2.countN 64) ((Rd.chgPre l n).2.2.count 64) [] false
  have w7 := Rd.countN_lt (Rd.chgPts l).2 8
  have w8 := Rd.countN_lt (Rd.chgPre l n).2.2 64
  have w9 := Rd.count_length (Rd.chgPre l n).2.2 64
  have hg3 : (Rd.chg l n).points.length < 9223372036854775807 := by show (Rd.chgPts l).1.length < _; unfold Rd.chgPts; rw [w1.1, List.length_nil]; omega
  have hg1 : Long (Rd.chg l n).prepared := by
    refine ⟨by show (Rd.chgPre l n).1.length < _; unfold Rd.chgPre; rw [w3.1, List.length_nil]; omega, ?_⟩
    exact prfs_all (fun p => p.batch.length ≤ 1000000) (B := 10000000) (fun a b l h => parseS_few) _ _ _ _ (by omega) (by simp)
  have hg2 : Long (Rd.chg l n).proposed := by
    refine ⟨by show (Rd.chgPro l n).1.length < _; unfold Rd.chgPro; rw [w6.1, List.length_nil]; omega, ?_⟩
    exact prfs_all (fun p => p.batch.length ≤ 1000000) (B := 10000000) (fun a b l h => parseS_few) _ _ _ _ (by omega) (by simp)
  refine SC.region ?_
  refine SL.val (Val.assign rfl) rfl rfl ?_
  refine SL.val (Val.assign rfl) rfl rfl ?_
  refine SL.nil (SE.seq ?_)
  refine SC.seq (SC.region ?_)
  refine SL.val (Val.move rfl) rfl rfl ?_
  refine SL.val (Val.move rfl) rfl rfl ?_
  refine SL.val (Val.move rfl) rfl rfl ?_
  first
    | refine SL.val (Val.lenSl rfl Try.underlying34 (List.length_map _)) rfl rfl ?_
    | refine SL.val (Val.lenOwn rfl (by repeat first|assumption|exact m0|apply m1) Try.underlying34 (List.length_map _)) rfl rfl ?_
    | refine SL.val (Val.lenNil rfl Try.underlying34) rfl rfl ?_
  refine SL.call (readp_s (s := (Rd.chgPts l).2) (n := n) (most := 8) (room := (l.length : Nat)) (by omega) (by omega)) Casts.refl (by kernel_rfl) rfl rfl rfl ?_
  refine After.one rfl (by repeat first|assumption|exact m0|apply m1) (fun _ => rfl) ?_
  intro _
  refine ⟨_, (by repeat first|assumption|exact Upd.here|apply Upd.there), ?_⟩
  refine SL.val (Val.move rfl) rfl rfl ?_
  refine SL.val (Val.extract rfl rfl) rfl rfl ?_
  refine SL.val (Val.extract rfl rfl) rfl rfl ?_
  refine SL.val (Val.fieldAddr tabOk rfl rfl rfl rfl rfl) rfl rfl ?_
  first
    | refine SL.eff (Eff.store tabOk rfl rfl rfl (by repeat first|assumption|exact Upd.here|apply Upd.there) (by rfl) (Nat.le_of_ble_eq_true (by rfl)) (by rfl) (by rfl)) rfl rfl ?_
    | refine SL.eff (Eff.storeOwn tabOk rfl rfl rfl rfl (by repeat first|assumption|exact m0|apply m1) (by repeat first|assumption|exact Upd.here|apply Upd.there) rfl (by rfl)) rfl rfl ?_
  rintro _ _ ⟨rfl, rfl⟩
  refine SL.val (Val.assign rfl) rfl rfl ?_
  refine SL.nil (SE.seq ?_)
  refine SC.seq (SC.region ?_)
  refine SL.val (Val.move rfl) rfl rfl ?_
  refine SL.val (Val.move rfl) rfl rfl ?_
  refine SL.val (Val.move rfl) rfl rfl ?_
  first
    | refine SL.val (Val.lenSl rfl Try.underlying34 (List.length_map _)) rfl rfl ?_
    | refine SL.val (Val.lenOwn rfl (by repeat first|assumption|exact m0|apply m1) Try.underlying34 (List.length_map _)) rfl rfl ?_
    | refine SL.val (Val.lenNil rfl Try.underlying34) rfl rfl ?_
  refine SL.call (readp_s (s := (Rd.chgPre l n).2.2) (n := n) (most := 64) (room := (l.length : Nat)) (by omega) (by omega)) Casts.refl (by kernel_rfl) rfl rfl rfl ?_
  refine After.one rfl (by repeat first|assumption|exact m0|apply m1) (fun _ => rfl) ?_
  intro _
  refine ⟨_, (by repeat first|assumption|exact Upd.here|apply Upd.there), ?_⟩
  refine SL.val (Val.move rfl) rfl rfl ?_
  refine SL.val (Val.extract rfl rfl) rfl rfl ?_
  refine SL.val (Val.extract rfl rfl) rfl rfl ?_
  refine SL.val (Val.fieldAddr tabOk rfl rfl rfl rfl rfl) rfl rfl ?_
  first
    | refine SL.eff (Eff.store tabOk rfl rfl rfl (by repeat first|assumption|exact Upd.here|apply Upd.there) (by rfl) (Nat.le_of_ble_eq_true (by rfl)) (by rfl) (by rfl)) rfl rfl ?_
    | refine SL.eff (Eff.storeOwn tabOk rfl rfl rfl rfl (by repeat first|assumption|exact m0|apply m1) (by repeat first|assumption|exact Upd.here|apply Upd.there) rfl (by rfl)) rfl rfl ?_
  rintro _ _ ⟨rfl, rfl⟩
  refine SL.val (Val.assign rfl) rfl rfl ?_
  refine SL.nil (SE.seq ?_)
  refine SC.seq ?_
  refine SC.seq (SC.region ?_)
  refine SL.val (Val.move rfl) rfl rfl ?_
  refine SL.call (end_s (s := (Rd.chgPro l n).2.2)) Casts.refl (by kernel_rfl) rfl rfl rfl ?_
  refine After.one rfl (by repeat first|assumption|exact m0|apply m1) (fun _ => rfl) ?_
  intro _
  refine ⟨_, (by repeat first|assumption|exact Upd.here|apply Upd.there), ?_⟩
  refine SL.val (Val.neI rfl rfl) rfl rfl ?_
  refine SL.val (Val.move rfl) rfl rfl ?_
  refine SL.bothP (t := 68) rfl ?_ ?_
  · intro hc68
    refine SL.skip rfl rfl ?_
    refine SL.val (Val.pickT rfl rfl) rfl rfl ?_
    refine SL.val (Val.move rfl) rfl rfl ?_
    refine SL.skip rfl rfl ?_
    refine SL.val (Val.pickT rfl rfl) rfl rfl ?_
    refine SL.val (Val.move rfl) rfl rfl ?_
    iterate 4 refine SL.skip rfl rfl ?_
    refine SL.val (Val.pickT rfl rfl) rfl rfl ?_
    refine SL.nil (SE.seq ?_)
    refine SC.condT rfl ?_
    refine SC.seq (SC.region ?_)
    refine SL.val (Val.buildS tabOk rfl rfl rfl rfl) rfl rfl ?_
    refine SL.eff (Eff.store tabOk rfl rfl rfl (by repeat first|assumption|exact Upd.here|apply Upd.there) (by rfl) (Nat.le_of_ble_eq_true (by rfl)) (by rfl) (by rfl)) rfl rfl ?_
    rintro _ _ ⟨rfl, rfl⟩
    refine SL.val (Val.assign rfl) rfl rfl ?_
    refine SL.nil (SE.seq ?_)
    refine SC.ret ?_
    refine SE.then_ (by intro h; cases h) ?_
    refine SE.finC (rs := [.cell 4 52, .tmp 5]) rfl (RV.cell rfl (RV.cellA tabOk rfl rfl (by first|(apply Or.inl;(repeat first|assumption|exact m0|apply m1);done)|(apply Or.inr;(repeat first|assumption|exact m0|apply m1);done)) (by rfl)) (RV.tmp rfl RV.nil)) (Casts.cons (cast_agg (Casts.keep (Casts.keep (Casts.nils (s := 33) (Casts.nils (s := 3) (Casts.nils (s := 3) Casts.refl)))))) Casts.refl) (()) (by repeat first|exact s0 _|exact s1 _|apply s2|apply s3) (by simp [It.rids]) ?_
    have e : parseC l n = (Chg.zero, 2) := by
      unfold parseC
      rw [if_neg (by omega), if_pos (by first | exact .inl (by assumption) | exact .inr (.inl (by assumption)) | exact .inr (.inr (.inl (by assumption))) | exact .inr (.inr (.inr (by assumption))))]
    rw [e]
    rfl
  intro hc68
  refine SL.val (Val.move rfl) rfl rfl ?_
  refine SL.val (Val.pickF rfl rfl) rfl rfl ?_
  refine SL.val (Val.move rfl) rfl rfl ?_
  refine SL.both (t := 71) rfl ?_ ?_
  · intro hc71
    refine SL.skip rfl rfl ?_
    refine SL.val (Val.pickT rfl rfl) rfl rfl ?_
    refine SL.val (Val.move rfl) rfl rfl ?_
    iterate 4 refine SL.skip rfl rfl ?_
    refine SL.val (Val.pickT rfl rfl) rfl rfl ?_
    refine SL.nil (SE.seq ?_)
    refine SC.condT rfl ?_
    refine SC.seq (SC.region ?_)
    refine SL.val (Val.buildS tabOk rfl rfl rfl rfl) rfl rfl ?_
    refine SL.eff (Eff.store tabOk rfl rfl rfl (by repeat first|assumption|exact Upd.here|apply Upd.there) (by rfl) (Nat.le_of_ble_eq_true (by rfl)) (by rfl) (by rfl)) rfl rfl ?_
    rintro _ _ ⟨rfl, rfl⟩
    refine SL.val (Val.assign rfl) rfl rfl ?_
    refine SL.nil (SE.seq ?_)
    refine SC.ret ?_
    refine SE.then_ (by intro h; cases h) ?_
    refine SE.finC (rs := [.cell 4 52, .tmp 5]) rfl (RV.cell rfl (RV.cellA tabOk rfl rfl (by first|(apply Or.inl;(repeat first|assumption|exact m0|apply m1);done)|(apply Or.inr;(repeat first|assumption|exact m0|apply m1);done)) (by rfl)) (RV.tmp rfl RV.nil)) (Casts.cons (cast_agg (Casts.keep (Casts.keep (Casts.nils (s := 33) (Casts.nils (s := 3) (Casts.nils (s := 3) Casts.refl)))))) Casts.refl) (()) (by repeat first|exact s0 _|exact s1 _|apply s2|apply s3) (by simp [It.rids]) ?_
    have e : parseC l n = (Chg.zero, 2) := by
      unfold parseC
      rw [if_neg (by omega), if_pos (by first | exact .inl (by assumption) | exact .inr (.inl (by assumption)) | exact .inr (.inr (.inl (by assumption))) | exact .inr (.inr (.inr (by assumption))))]
    rw [e]
    rfl
  intro hc71
  refine SL.val (Val.move rfl) rfl rfl ?_
  refine SL.val (Val.pickF rfl rfl) rfl rfl ?_
  refine SL.val (Val.move rfl) rfl rfl ?_
  refine SL.both (t := 74) rfl ?_ ?_
  · intro hc74
    iterate 4 refine SL.skip rfl rfl ?_
    refine SL.val (Val.pickT rfl rfl) rfl rfl ?_
    refine SL.nil (SE.seq ?_)
    refine SC.condT rfl ?_
    refine SC.seq (SC.region ?_)
    refine SL.val (Val.buildS tabOk rfl rfl rfl rfl) rfl rfl ?_
    refine SL.eff (Eff.store tabOk rfl rfl rfl (by repeat first|assumption|exact Upd.here|apply Upd.there) (by rfl) (Nat.le_of_ble_eq_true (by rfl)) (by rfl) (by rfl)) rfl rfl ?_
    rintro _ _ ⟨rfl, rfl⟩
    refine SL.val (Val.assign rfl) rfl rfl ?_
    refine SL.nil (SE.seq ?_)
    refine SC.ret ?_
    refine SE.then_ (by intro h; cases h) ?_
    refine SE.finC (rs := [.cell 4 52, .tmp 5]) rfl (RV.cell rfl (RV.cellA tabOk rfl rfl (by first|(apply Or.inl;(repeat first|assumption|exact m0|apply m1);done)|(apply Or.inr;(repeat first|assumption|exact m0|apply m1);done)) (by rfl)) (RV.tmp rfl RV.nil)) (Casts.cons (cast_agg (Casts.keep (Casts.keep (Casts.nils (s := 33) (Casts.nils (s := 3) (Casts.nils (s := 3) Casts.refl)))))) Casts.refl) (()) (by repeat first|exact s0 _|exact s1 _|apply s2|apply s3) (by simp [It.rids]) ?_
    have e : parseC l n = (Chg.zero, 2) := by
      unfold parseC
      rw [if_neg (by omega), if_pos (by first | exact .inl (by assumption) | exact .inr (.inl (by assumption)) | exact .inr (.inr (.inl (by assumption))) | exact .inr (.inr (.inr (by assumption))))]
    rw [e]
    rfl
  intro hc74
  first
    | refine SL.val (Val.loadA tabOk rfl rfl rfl (by first|(apply Or.inl;(repeat first|assumption|exact m0|apply m1);done)|(apply Or.inr;(repeat first|assumption|exact m0|apply m1);done)) List.not_mem_nil (by rfl)) rfl rfl ?_
    | refine SL.val (Val.loadP tabOk rfl rfl rfl (by first|(apply Or.inl;(repeat first|assumption|exact m0|apply m1);done)|(apply Or.inr;(repeat first|assumption|exact m0|apply m1);done)) List.not_mem_nil (Nat.le_of_ble_eq_true (by rfl))) rfl rfl ?_
  refine SL.val (Val.move rfl) rfl rfl ?_
  refine SL.call (check_s (c := Rd.chg l n) (n := n) hg1 hg2 hg3) Casts.refl (by kernel_rfl) rfl rfl rfl ?_
  refine After.pure (by repeat first|exact .nil|refine .blk (by repeat first|assumption|exact m0|apply m1) ?_|refine .rd (by repeat first|assumption|exact m0|apply m1) ?_|refine .pc (by repeat first|assumption|exact m0|apply m1) ?_|refine .rdpc (by repeat first|assumption|exact m0|apply m1) ?_) (fun _ => rfl) ?_
  intro _
  refine SL.val (Val.neI rfl rfl) rfl rfl ?_
  refine SL.val (Val.pickF rfl rfl) rfl rfl ?_
  refine SL.nil (SE.seq ?_)
  refine SC.condP rfl ?_ ?_
  · intro hc79
    refine SC.seq (SC.region ?_)
    refine SL.val (Val.buildS tabOk rfl rfl rfl rfl) rfl rfl ?_
    refine SL.eff (Eff.store tabOk rfl rfl rfl (by repeat first|assumption|exact Upd.here|apply Upd.there) (by rfl) (Nat.le_of_ble_eq_true (by rfl)) (by rfl) (by rfl)) rfl rfl ?_
    rintro _ _ ⟨rfl, rfl⟩
    refine SL.val (Val.assign rfl) rfl rfl ?_
    refine SL.nil (SE.seq ?_)
    refine SC.ret ?_
    refine SE.then_ (by intro h; cases h) ?_
    refine SE.finC (rs := [.cell 4 52, .tmp 5]) rfl (RV.cell rfl (RV.cellA tabOk rfl rfl (by first|(apply Or.inl;(repeat first|assumption|exact m0|apply m1);done)|(apply Or.inr;(repeat first|assumption|exact m0|apply m1);done)) (by rfl)) (RV.tmp rfl RV.nil)) (Casts.cons (cast_agg (Casts.keep (Casts.keep (Casts.nils (s := 33) (Casts.nils (s := 3) (Casts.nils (s := 3) Casts.refl)))))) Casts.refl) (()) (by repeat first|exact s0 _|exact s1 _|apply s2|apply s3) (by simp [It.rids]) ?_
    have e : parseC l n = (Chg.zero, 2) := by
      unfold parseC
      rw [if_neg (by omega), if_pos (by first | exact .inl (by assumption) | exact .inr (.inl (by assumption)) | exact .inr (.inr (.inl (by assumption))) | exact .inr (.inr (.inr (by assumption))))]
    rw [e]
    rfl
  intro hc79
  refine SC.skip ?_
  refine SE.seq ?_
  refine SC.seq (SC.region ?_)
  first
    | refine SL.val (Val.loadA tabOk rfl rfl rfl (by first|(apply Or.inl;(repeat first|assumption|exact m0|apply m1);done)|(apply Or.inr;(repeat first|assumption|exact m0|apply m1);done)) List.not_mem_nil (by rfl)) rfl rfl ?_
    | refine SL.val (Val.loadP tabOk rfl rfl rfl (by first|(apply Or.inl;(repeat first|assumption|exact m0|apply m1);done)|(apply Or.inr;(repeat first|assumption|exact m0|apply m1);done)) List.not_mem_nil (Nat.le_of_ble_eq_true (by rfl))) rfl rfl ?_
  refine SL.eff (Eff.store tabOk rfl rfl rfl (by repeat first|assumption|exact Upd.here|apply Upd.there) (by rfl) (Nat.le_of_ble_eq_true (by rfl)) (by rfl) (by rfl)) rfl rfl ?_
  rintro _ _ ⟨rfl, rfl⟩
  refine SL.val (Val.assign rfl) rfl rfl ?_
  refine SL.nil (SE.seq ?_)
  refine SC.ret ?_
  refine SE.fin (rs := [.cell 4 52, .tmp 5]) rfl (RV.cell rfl (RV.cellA tabOk rfl rfl (by first|(apply Or.inl;(repeat first|assumption|exact m0|apply m1);done)|(apply Or.inr;(repeat first|assumption|exact m0|apply m1);done)) (by rfl)) (RV.tmp rfl RV.nil)) (()) (by repeat first|exact s0 _|exact s1 _|apply s2|apply s3) (by simp [It.rids]) ?_
  have e : parseC l n = (Rd.chg l n, 0) := by
    unfold parseC
    rw [if_neg (by omega), if_neg (by
      intro h
      rcases h with h | h | h | h
      · exact hc68 h
      · exact Bool.noConfusion (h.symm.trans hc71)
      · exact Bool.noConfusion (h.symm.trans hc74)
      · exact hc79 h)]
  rw [e]
  rfl
end
end Go.Proofs.Ytpgffckfbgfgcaa.A
/-
  Changes out of bytes: the document's Parse, over the second engine.
-/
set_option maxRecDepth 100000
set_option linter.unusedSimpArgs false
set_option linter.unusedVariables false
namespace Go.Proofs.Ytpgffckfbgfgcaa.A
open Go.RowKit

theorem fill_pnt {x : Int} {m : List UInt8} : fillA (fun i => [(0, 1), (1, 32)][i]?) (.v (.int .i64 0) :: List.replicate 32 (.v (.int .u8 0))) [(0, int x), (1, .agg (digA (pad m)))] = some (Pnt.mk' x m).abs := by
  have e1 : (digA (pad m)).length = 32 := by simp [digA, pad_length]
  show (bif Nat.beq (digA (pad m)).length 32 && Nat.ble (1 + 32) 33 then fillA _ (putL (int x :: List.replicate 32 (.v (.int .u8 0))) 1 (digA (pad m))) [] else none) = _
  rw [e1]
  show some (int x :: putL (List.replicate 32 (.v (.int .u8 0))) 0 (digA (pad m))) = some (int x :: digA (pad m))
  rw [putL_all (by rw [e1]; rfl)]
def Rd.rchgPts (l : List UInt8) : List Pnt × Rd := Rd.rpnts ((Rd.chgHead l).countN 4) ((Rd.chgHead l).count 4) []
def Rd.rchgPre (l : List UInt8) : List Prf × Bool × Rd := Rd.rprfs ((Rd.rchgPts l).2.countN 8) ((Rd.rchgPts l).2.count 8) [] true
def Rd.rchgPro (l : List UInt8) : List Prf × Bool × Rd := Rd.rprfs ((Rd.rchgPre l).2.2.countN 64) ((Rd.rchgPre l).2.2.count 64) [] true
def Rd.rchg (l : List UInt8) : Chg := ⟨sg ((Rd.of l).num 8), sg (((Rd.of l).fixed 8).num 8), (Rd.rchgPts l).1, (Rd.rchgPre l).1, (Rd.rchgPro l).1⟩
noncomputable def rparseC (l : List UInt8) (n : Int) : Chg × Int :=
  if n < 1 ∨ 7 < n then (Chg.zero, 1) else
  if (Rd.rchgPro l).2.2.end_ ≠ 0 ∨ (Rd.rchgPre l).2.1 = false ∨ (Rd.rchgPro l).2.1 = false ∨ yes ((Rd.rchg l).Right n) = false then (Chg.zero, 2) else (Rd.rchg l, 0)
theorem rpnts_left : ∀ (k : Nat) (s : Rd) (acc : List Pnt), (Rd.rpnts k s acc).1.length ≤ acc.length + k ∧ (Rd.rpnts k s acc).2.l.length ≤ s.l.length
  | 0, s, acc => ⟨Nat.le_refl _, Nat.le_refl _⟩
  | k + 1, s, acc => by
    unfold Rd.rpnts
    split
    · exact ⟨by dsimp only; omega, Nat.le_refl _⟩
    · have h1 := rpnts_left k ((s.fixed 8).fixed 32) (acc ++ [Pnt.mk' (sg (s.num 8)) ((s.fixed 8).out 32)])
      have h2 := s.fixed_length 8
      have h3 := (s.fixed 8).fixed_length 32
      rw [List.length_append, List.length_singleton] at h1
      omega
theorem rprfs_left : ∀ (k : Nat) (s : Rd) (acc : List Prf) (o : Bool), (Rd.rprfs k s acc o).1.length ≤ acc.length + k ∧ (Rd.rprfs k s acc o).2.2.l.length ≤ s.l.length
  | 0, s, acc, o => ⟨Nat.le_refl _, Nat.le_refl _⟩
  | k + 1, s, acc, o => by
    unfold Rd.rprfs
    split
    · exact ⟨by dsimp only; omega, Nat.le_refl _⟩
    · have h1 := rprfs_left k ((Rd.pr2 s).row 1048576) (acc ++ [⟨sg (s.num 8), sg ((Rd.pr1 s).num 8), (Rd.ens (Rd.of (Rd.prOut s 1048576))).1⟩]) (o && (Rd.ens (Rd.of (Rd.prOut s 1048576))).2.1 && decide ((Rd.ens (Rd.of (Rd.prOut s 1048576))).2.2.end_ = 0))
      have h2 := s.fixed_length 8
      have h3 := (s.fixed 8).fixed_length 8
      have h4 := Rd.row_length (Rd.pr2 s) 1048576
      rw [List.length_append, List.length_singleton] at h1
      unfold Rd.pr2 at h1 h4 ⊢
      omega
theorem rprfs_all (Q : Prf → Prop) {B : Nat} (hQ : ∀ (a b : Nat) (l : List UInt8), l.length ≤ B → Q ⟨sg a, sg b, (Rd.ens (Rd.of l)).1⟩) : ∀ (k : Nat) (s : Rd) (acc : List Prf) (o : Bool), s.l.length ≤ B → (∀ p ∈ acc, Q p) → ∀ p ∈ (Rd.rprfs k s acc o).1, Q p
  | 0, _, _, _, _, h => h
  | k + 1, s, acc, o, hB, h => by
    have h2 := s.fixed_length 8
    have h3 := (s.fixed 8).fixed_length 8
    have h4 := Rd.row_length (Rd.pr2 s) 1048576
    have h5 : (Rd.prOut s 1048576).length ≤ (Rd.pr2 s).l.length := Rd.rowOut_length _ _
    unfold Rd.pr2 at h4 h5
    unfold Rd.rprfs
    split
    · exact h
    · refine rprfs_all Q hQ k _ _ _ (by unfold Rd.pr2; omega) fun p hp => ?_
      rcases List.mem_append.1 hp with hp | hp
      · exact h p hp
      · rw [List.mem_singleton] at hp; subst hp; exact hQ _ _ _ (by omega)
theorem ens_few (l : List UInt8) : (Rd.ens (Rd.of l)).1.length ≤ 1000000 := by
  have h1 := rents_length ((Rd.of l).num 2) ((Rd.of l).fixed 2) [] true
  have h2 := (Rd.of l).num_lt (n := 2) (k := 2) (Nat.le_refl _)
  simp only [List.length_nil] at h1
  unfold Rd.ens
  omega
theorem ens_lits {l : List UInt8} (hl : l.length ≤ 1000000) : ∀ e ∈ (Rd.ens (Rd.of l)).1, e.Lits := by
  have h1 := (Rd.of l).fixed_length 2
  have h2 : (Rd.of l).l = l := rfl
  rw [h2] at h1
  exact rents_all Ent.Lits (B := maxLen) (fun l m hl hm => coreOf_lits (by omega) hl) ((Rd.of l).num 2) ((Rd.of l).fixed 2) [] true (by unfold maxLen; omega) (by simp)
theorem ens_lets {l : List UInt8} (hl : l.length ≤ 1000000) : ∀ e ∈ (Rd.ens (Rd.of l)).1, e.core.letter.size ≤ lots := by
  have h1 := (Rd.of l).fixed_length 2
  have h2 : (Rd.of l).l = l := rfl
  rw [h2] at h1
  refine rents_all (fun e => e.core.letter.size ≤ lots) (B := 1000000) (fun l m hl hm => ?_) ((Rd.of l).num 2) ((Rd.of l).fixed 2) [] true (by omega) (by simp)
  show (txtB ((Rd.of l).c3.rowOut 1048576)).size ≤ lots
  have h5 := Rd.rowOut_length (Rd.of l).c3 1048576
  have h6 := (Rd.of l).fixed_length 1
  have h7 := ((Rd.of l).fixed 1).fixed_length 8
  have h8 := (((Rd.of l).fixed 1).fixed 8).fixed_length 1
  have h9 : (Rd.of l).l = l := rfl
  unfold Rd.c3 at h5
  rw [txtB_size]
  unfold Rd.c3 lots
  rw [h9] at h6
  omega
section
variable {n : Int} {l : List UInt8}
set_option maxHeartbeats 4000000 in
theorem rparse_s (hl : l.length ≤ 100000) : Spec Try.prog 129 [byt l, int n] [] (fun _ : Unit => []) (fun _ => .tup [.agg (rparseC l n).1.abs, int (rparseC l n).2]) := by
  have hL : lots = 100000000000 := rfl
  have hof : (Rd.of l).l = l := rfl
  have q1 := (Rd.of l).fixed_length 8
  have q2 := ((Rd.of l).fixed 8).fixed_length 8
  have q3 := Rd.count_length (Rd.chgHead l) 4
  have q4 := Rd.countN_lt (Rd.chgHead l) 4
  unfold Rd.chgHead at q3
  rw [hof] at q1
  refine spec_of Try.func129 rfl Try.ntmps129 rfl fun G w => ?_
  refine SC.seq (SC.region ?_)
  refine SL.eff (Eff.alloc tabOk rfl) rfl rfl ?_
  rintro _ _ ⟨b4, rfl, rfl⟩
  refine SL.val (Val.assign rfl) rfl rfl ?_
  refine SL.nil (SE.seq ?_)
  refine SC.seq ?_
  refine SC.seq (SC.region ?_)
  refine SL.val (Val.move rfl) rfl rfl ?_
  refine SL.val (Val.ltI rfl rfl) rfl rfl ?_
  refine SL.val (Val.move rfl) rfl rfl ?_
  refine SL.bothP (t := 15) rfl ?_ ?_
  · intro hc15
    iterate 2 refine SL.skip rfl rfl ?_
    refine SL.val (Val.pickT rfl rfl) rfl rfl ?_
    refine SL.nil (SE.seq ?_)
    refine SC.condT rfl ?_
    refine SC.seq (SC.region ?_)
    refine SL.val (Val.buildS tabOk rfl rfl rfl rfl) rfl rfl ?_
    refine SL.eff (Eff.store tabOk rfl rfl rfl (by repeat first|assumption|exact Upd.here|apply Upd.there) (by rfl) (Nat.le_of_ble_eq_true (by rfl)) (by rfl) (by rfl)) rfl rfl ?_
    rintro _ _ ⟨rfl, rfl⟩
    refine SL.val (Val.assign rfl) rfl rfl ?_
    refine SL.nil (SE.seq ?_)
    refine SC.ret ?_
    refine SE.then_ (by intro h; cases h) ?_
    refine SE.finC (rs := [.cell 4 52, .tmp 5]) rfl (RV.cell rfl (RV.cellA tabOk rfl rfl (by first|(apply Or.inl;(repeat first|assumption|exact m0|apply m1);done)|(apply Or.inr;(repeat first|assumption|exact m0|apply m1);done)) (by rfl)) (RV.tmp rfl RV.nil)) (Casts.cons (cast_agg (Casts.keep (Casts.keep (Casts.nils (s := 33) (Casts.nils (s := 3) (Casts.nils (s := 3) Casts.refl)))))) Casts.refl) (()) (by repeat first|exact s0 _|exact s1 _|apply s2|apply s3) (by simp [It.rids]) ?_
    have e : rparseC l n = (Chg.zero, 1) := by
      unfold rparseC
      rw [if_pos (by omega)]
    rw [e]
    rfl
  intro hc15
  refine SL.val (Val.move rfl) rfl rfl ?_
  refine SL.val (Val.gtI rfl rfl) rfl rfl ?_
  refine SL.val (Val.pickF rfl rfl) rfl rfl ?_
  refine SL.nil (SE.seq ?_)
  refine SC.condP rfl ?_ ?_
  · intro hc18
    refine SC.seq (SC.region ?_)
    refine SL.val (Val.buildS tabOk rfl rfl rfl rfl) rfl rfl ?_
    refine SL.eff (Eff.store tabOk rfl rfl rfl (by repeat first|assumption|exact Upd.here|apply Upd.there) (by rfl) (Nat.le_of_ble_eq_true (by rfl)) (by rfl) (by rfl)) rfl rfl ?_
    rintro _ _ ⟨rfl, rfl⟩
    refine SL.val (Val.assign rfl) rfl rfl ?_
    refine SL.nil (SE.seq ?_)
    refine SC.ret ?_
    refine SE.then_ (by intro h; cases h) ?_
    refine SE.finC (rs := [.cell 4 52, .tmp 5]) rfl (RV.cell rfl (RV.cellA tabOk rfl rfl (by first|(apply Or.inl;(repeat first|assumption|exact m0|apply m1);done)|(apply Or.inr;(repeat first|assumption|exact m0|apply m1);done)) (by rfl)) (RV.tmp rfl RV.nil)) (Casts.cons (cast_agg (Casts.keep (Casts.keep (Casts.nils (s := 33) (Casts.nils (s := 3) (Casts.nils (s := 3) Casts.refl)))))) Casts.refl) (()) (by repeat first|exact s0 _|exact s1 _|apply s2|apply s3) (by simp [It.rids]) ?_
    have e : rparseC l n = (Chg.zero, 1) := by
      unfold rparseC
      rw [if_pos (by omega)]
    rw [e]
    rfl
  intro hc18
  refine SC.skip ?_
  refine SE.seq ?_
  refine SC.seq (SC.region ?_)
  refine SL.val (Val.move rfl) rfl rfl ?_
  refine SL.val (Val.buildS tabOk rfl rfl rfl rfl) rfl rfl ?_
  refine SL.eff (Eff.boxA rfl) rfl rfl ?_
  rintro _ _ ⟨b22, rfl, rfl⟩
  refine SL.val (Val.assign rfl) rfl rfl ?_
  refine SL.nil (SE.seq ?_)
  refine SC.seq (SC.region ?_)
  refine SL.val (Val.move rfl) rfl rfl ?_
  refine SL.call (rnumber_s (s := Rd.of l) (n := 8) (by show l.length ≤ _; omega) rfl) Casts.refl (by kernel_rfl) rfl rfl rfl ?_
  refine After.one rfl (by repeat first|assumption|exact m0|apply m1) (fun _ => rfl) ?_
  intro _
  refine ⟨_, (by repeat first|assumption|exact Upd.here|apply Upd.there), ?_⟩
  first
    | refine SL.val (Val.convI rfl Try.underlying2 (by kernel_rfl) (by simp only [InR, lo, hi]; omega)) rfl rfl ?_
    | refine SL.val (Val.convW rfl Try.underlying2 (by kernel_rfl)) rfl rfl ?_
  refine SL.val (Val.move rfl) rfl rfl ?_
  refine SL.call (rnumber_s (s := (Rd.of l).fixed 8) (n := 8) (by omega) rfl) Casts.refl (by kernel_rfl) rfl rfl rfl ?_
  refine After.one rfl (by repeat first|assumption|exact m0|apply m1) (fun _ => rfl) ?_
  intro _
  refine ⟨_, (by repeat first|assumption|exact Upd.here|apply Upd.there), ?_⟩
  first
    | refine SL.val (Val.convI rfl Try.underlying2 (by kernel_rfl) (by simp only [InR, lo, hi]; omega)) rfl rfl ?_
    | refine SL.val (Val.convW rfl Try.underlying2 (by kernel_rfl)) rfl rfl ?_
  refine SL.val (Val.buildS tabOk rfl rfl rfl rfl) rfl rfl ?_
  refine SL.eff (Eff.alloc tabOk rfl) rfl rfl ?_
  rintro _ _ ⟨b7, rfl, rfl⟩
  refine SL.eff (Eff.store tabOk rfl rfl rfl (by repeat first|assumption|exact Upd.here|apply Upd.there) (by rfl) (Nat.le_of_ble_eq_true (by rfl)) (by rfl) (by rfl)) rfl rfl ?_
  rintro _ _ ⟨rfl, rfl⟩
  refine SL.nil (SE.seq ?_)
  refine SC.seq ?_
  refine SC.seq (SC.region ?_)
  refine SL.val (Val.move rfl) rfl rfl ?_
  refine SL.call (rcount_s (s := Rd.chgHead l) (n := 4) (by unfold Rd.chgHead; omega)) Casts.refl (by kernel_rfl) rfl rfl rfl ?_
  refine After.one rfl (by repeat first|assumption|exact m0|apply m1) (fun _ => rfl) ?_
  intro _
  refine ⟨_, (by repeat first|assumption|exact Upd.here|apply Upd.there), ?_⟩
  refine SL.val (Val.assign rfl) rfl rfl ?_
  refine SL.nil (SE.seq ?_)
  refine SC.block ?_
  refine SC.own0 171 33 ?_
  refine SC.loop (ι := Rd × List Pnt × Nat × Value) (fun z => [own 171 33 z.2.2.2 (z.2.1.map Pnt.abs), .blk b7 52 [int (IntKind.i64.wrap ((Rd.of l).num 8 : Nat)), int (IntKind.i64.wrap (((Rd.of l).fixed 8).num 8 : Nat)), .v z.2.2.2, .v (.slice none 0 0), .v (.slice none 0 0)], rdA RR b22 z.1, .blk b4 52 (zabs [.int .i64 0, .int .i64 0, .slice none 0 0, .slice none 0 0, .slice none 0 0])]) (fun z => [(1, int n), (4, ptr b4), (6, ptr b22), (7, ptr b7), (8, int (z.2.2.1 : Nat))]) (fun z => z.1.l.length ≤ l.length ∧ z.2.1.length + z.2.2.1 = ((Rd.chgHead l).countN 4) ∧ Rd.rpnts z.2.2.1 z.1 z.2.1 = Rd.rpnts ((Rd.chgHead l).countN 4) ((Rd.chgHead l).count 4) []) (fun z => z.2.2.1) ((Rd.chgHead l).count 4, [], ((Rd.chgHead l).countN 4), .slice none 0 0) (⟨by dsimp only; unfold Rd.chgHead; omega, Nat.zero_add _, rfl⟩) (by exact ⟨rfl, rfl, rfl, rfl, rfl, trivial⟩) (by repeat first|exact s0 _|exact s1 _|apply s2|apply s3) ?_
  intro z hz
  refine SC.seq ?_
  refine SC.seq (SC.region ?_)
  refine SL.val (Val.move rfl) rfl rfl ?_
  refine SL.val (Val.gtI rfl rfl) rfl rfl ?_
  refine SL.val (Val.move rfl) rfl rfl ?_
  refine SL.bothP (t := 34) rfl ?_ ?_
  rotate_left
  · intro hc34
    iterate 5 refine SL.skip rfl rfl ?_
    refine SL.val (Val.pickF rfl rfl) rfl rfl ?_
    refine SL.nil (SE.seq ?_)
    refine SC.condF rfl ?_
    refine SC.exit ?_
    refine SE.then_ (by intro h; cases h) ?_
    refine SE.then_ (by intro h; cases h) ?_
    refine SE.exit ?_
    refine SE.seq ?_
    refine SC.seq ?_
    have hzz : (z.2.1, z.1) = Rd.rchgPts l := by
      unfold Rd.rchgPts
      rw [← hz.2.2]
      first
        | (rw [show z.2.2.1 = 0 by omega]; rfl)
        | exact (rpnts_stop (by simpa using hc40) _).symm
    have hzA := congrArg Prod.fst hzz
    have hzS := congrArg Prod.snd hzz
    dsimp only at hzA hzS
    refine SC.freezeC [] 2 rfl (by repeat first|assumption|exact Upd.here|apply Upd.there) rfl ?_
    rw [hzA, hzS]
    have w1 := rpnts_left ((Rd.chgHead l).countN 4) ((Rd.chgHead l).count 4) []
    have w2 : (Rd.rchgPts l).2.l.length ≤ l.length := by unfold Rd.rchgPts; unfold Rd.chgHead at w1 ⊢; omega
    have w3 := rprfs_left ((Rd.rchgPts l).2.countN 8) ((Rd.rchgPts l).2.count 8) [] true
    have w4 := Rd.count_length (Rd.rchgPts l).2 8
    have w5 : (Rd.rchgPre l).2.2.l.length ≤ l.length := by unfold Rd.rchgPre; omega
    have w6 := rprfs_left ((Rd.rchgPre l).2.2.countN 64) ((Rd.rchgPre l).2.2.count 64) [] true
    have w7 := Rd.countN_lt (Rd.rchgPts l).2 8
    have w8 := Rd.countN_lt (Rd.rchgPre l).2.2 64
    have w9 := Rd.count_length (Rd.rchgPre l).2.2 64
    have hg3 : (Rd.rchg l).points.length < 9223372036854775807 := by
      show (Rd.rchgPts l).1.length < _
      have := w1.1
      rw [List.length_nil] at this
      unfold Rd.rchgPts; omega
    have hg1 : Long (Rd.rchg l).prepared := by
      refine ⟨by
        show (Rd.rchgPre l).1.length < _
        have := w3.1
        rw [List.length_nil] at this
        unfold Rd.rchgPre; omega, ?_⟩
      exact rprfs_all (fun p => p.batch.length ≤ 1000000) (B := 100000) (fun a b l h => ens_few l) _ _ _ _ (by omega) (by simp)
    have hg2 : Long (Rd.rchg l).proposed := by
      refine ⟨by
        show (Rd.rchgPro l).1.length < _
        have := w6.1
        rw [List.length_nil] at this
        unfold Rd.rchgPro; omega, ?_⟩
      exact rprfs_all (fun p => p.batch.length ≤ 1000000) (B := 100000) (fun a b l h => ens_few l) _ _ _ _ (by omega) (by simp)
    have hl1 : Lets (Rd.rchg l).prepared := rprfs_all (fun p => ∀ e ∈ p.batch, e.core.letter.size ≤ lots) (B := 100000) (fun a b l h => ens_lets (by omega)) _ _ _ _ (by omega) (by simp)
    have hl2 : Lets (Rd.rchg l).proposed := rprfs_all (fun p => ∀ e ∈ p.batch, e.core.letter.size ≤ lots) (B := 100000) (fun a b l h => ens_lets (by omega)) _ _ _ _ (by omega) (by simp)
    refine SC.region ?_
    refine SL.val (Val.move rfl) rfl rfl ?_
    refine SL.call (rreadp_s (s := (Rd.rchgPts l).2) (most := 8) (by omega)) Casts.refl (by kernel_rfl) rfl rfl rfl ?_
    refine After.one rfl (by repeat first|assumption|exact m0|apply m1) (fun _ => rfl) ?_
    intro _
    refine ⟨_, (by repeat first|assumption|exact Upd.here|apply Upd.there), ?_⟩
    refine SL.val (Val.move rfl) rfl rfl ?_
    refine SL.val (Val.extract rfl rfl) rfl rfl ?_
    refine SL.val (Val.extract rfl rfl) rfl rfl ?_
    refine SL.val (Val.assign rfl) rfl rfl ?_
    refine SL.val (Val.assign rfl) rfl rfl ?_
    refine SL.nil (SE.seq ?_)
    refine SC.seq (SC.region ?_)
    refine SL.val (Val.move rfl) rfl rfl ?_
    refine SL.call (rreadp_s (s := (Rd.rchgPre l).2.2) (most := 64) (by omega)) Casts.refl (by kernel_rfl) rfl rfl rfl ?_
    refine After.one rfl (by repeat first|assumption|exact m0|apply m1) (fun _ => rfl) ?_
    intro _
    refine ⟨_, (by repeat first|assumption|exact Upd.here|apply Upd.there), ?_⟩
    refine SL.val (Val.move rfl) rfl rfl ?_
    refine SL.val (Val.extract rfl rfl) rfl rfl ?_
    refine SL.val (Val.extract rfl rfl) rfl rfl ?_
    refine SL.val (Val.assign rfl) rfl rfl ?_
    refine SL.val (Val.assign rfl) rfl rfl ?_
    refine SL.nil (SE.seq ?_)
    refine SC.seq (SC.region ?_)
    refine SL.val (Val.move rfl) rfl rfl ?_
    refine SL.val (Val.move rfl) rfl rfl ?_
    refine SL.val (Val.fieldAddr tabOk rfl rfl rfl rfl rfl) rfl rfl ?_
    first
      | refine SL.eff (Eff.store tabOk rfl rfl rfl (by repeat first|assumption|exact Upd.here|apply Upd.there) (by rfl) (Nat.le_of_ble_eq_true (by rfl)) (by rfl) (by rfl)) rfl rfl ?_
      | refine SL.eff (Eff.storeOwn tabOk rfl rfl rfl rfl (by repeat first|assumption|exact m0|apply m1) (by repeat first|assumption|exact Upd.here|apply Upd.there) rfl (by rfl)) rfl rfl ?_
    rintro _ _ ⟨rfl, rfl⟩
    refine SL.val (Val.fieldAddr tabOk rfl rfl rfl rfl rfl) rfl rfl ?_
    first
      | refine SL.eff (Eff.store tabOk rfl rfl rfl (by repeat first|assumption|exact Upd.here|apply Upd.there) (by rfl) (Nat.le_of_ble_eq_true (by rfl)) (by rfl) (by rfl)) rfl rfl ?_
      | refine SL.eff (Eff.storeOwn tabOk rfl rfl rfl rfl (by repeat first|assumption|exact m0|apply m1) (by repeat first|assumption|exact Upd.here|apply Upd.there) rfl (by rfl)) rfl rfl ?_
    rintro _ _ ⟨rfl, rfl⟩
    refine SL.nil (SE.seq ?_)
    refine SC.seq ?_
    refine SC.seq (SC.region ?_)
    refine SL.val (Val.move rfl) rfl rfl ?_
    refine SL.call (rend_s (s := (Rd.rchgPro l).2.2)) Casts.refl (by kernel_rfl) rfl rfl rfl ?_
    refine After.one rfl (by repeat first|assumption|exact m0|apply m1) (fun _ => rfl) ?_
    intro _
    refine ⟨_, (by repeat first|assumption|exact Upd.here|apply Upd.there), ?_⟩
    refine SL.val (Val.neI rfl rfl) rfl rfl ?_
    refine SL.val (Val.move rfl) rfl rfl ?_
    refine SL.bothP (t := 71) rfl ?_ ?_
    · intro hc71
      iterate 2 refine SL.skip rfl rfl ?_
      refine SL.val (Val.pickT rfl rfl) rfl rfl ?_
      refine SL.val (Val.move rfl) rfl rfl ?_
      iterate 2 refine SL.skip rfl rfl ?_
      refine SL.val (Val.pickT rfl rfl) rfl rfl ?_
      refine SL.val (Val.move rfl) rfl rfl ?_
      iterate 4 refine SL.skip rfl rfl ?_
      refine SL.val (Val.pickT rfl rfl) rfl rfl ?_
      refine SL.nil (SE.seq ?_)
      refine SC.condT rfl ?_
      refine SC.seq (SC.region ?_)
      refine SL.val (Val.buildS tabOk rfl rfl rfl rfl) rfl rfl ?_
      refine SL.eff (Eff.store tabOk rfl rfl rfl (by repeat first|assumption|exact Upd.here|apply Upd.there) (by rfl) (Nat.le_of_ble_eq_true (by rfl)) (by rfl) (by rfl)) rfl rfl ?_
      rintro _ _ ⟨rfl, rfl⟩
      refine SL.val (Val.assign rfl) rfl rfl ?_
      refine SL.nil (SE.seq ?_)
      refine SC.ret ?_
      refine SE.then_ (by intro h; cases h) ?_
      refine SE.finC (rs := [.cell 4 52, .tmp 5]) rfl (RV.cell rfl (RV.cellA tabOk rfl rfl (by first|(apply Or.inl;(repeat first|assumption|exact m0|apply m1);done)|(apply Or.inr;(repeat first|assumption|exact m0|apply m1);done)) (by rfl)) (RV.tmp rfl RV.nil)) (Casts.cons (cast_agg (Casts.keep (Casts.keep (Casts.nils (s := 33) (Casts.nils (s := 3) (Casts.nils (s := 3) Casts.refl)))))) Casts.refl) (()) (by repeat first|exact s0 _|exact s1 _|apply s2|apply s3) (by simp [It.rids]) ?_
      have e : rparseC l n = (Chg.zero, 2) := by
        unfold rparseC
        rw [if_neg (by omega), if_pos (by
          first
            | exact .inl (by assumption)
            | exact .inr (.inl (by have h8 := hc75; simp at h8; exact h8))
            | exact .inr (.inr (.inl (by have h8 := hc79; simp at h8; exact h8)))
            | exact .inr (.inr (.inr (by have h8 := hc84; simp at h8; exact h8))))]
      rw [e]
      rfl
    intro hc71
    refine SL.val (Val.move rfl) rfl rfl ?_
    refine SL.val (Val.notB rfl) rfl rfl ?_
    refine SL.val (Val.pickF rfl rfl) rfl rfl ?_
    refine SL.val (Val.move rfl) rfl rfl ?_
    refine SL.both (t := 75) rfl ?_ ?_
    · intro hc75
      iterate 2 refine SL.skip rfl rfl ?_
      refine SL.val (Val.pickT rfl rfl) rfl rfl ?_
      refine SL.val (Val.move rfl) rfl rfl ?_
      iterate 4 refine SL.skip rfl rfl ?_
      refine SL.val (Val.pickT rfl rfl) rfl rfl ?_
      refine SL.nil (SE.seq ?_)
      refine SC.condT rfl ?_
      refine SC.seq (SC.region ?_)
      refine SL.val (Val.buildS tabOk rfl rfl rfl rfl) rfl rfl ?_
      refine SL.eff (Eff.store tabOk rfl rfl rfl (by repeat first|assumption|exact Upd.here|apply Upd.there) (by rfl) (Nat.le_of_ble_eq_true (by rfl)) (by rfl) (by rfl)) rfl rfl ?_
      rintro _ _ ⟨rfl, rfl⟩
      refine SL.val (Val.assign rfl) rfl rfl ?_
      refine SL.nil (SE.seq ?_)
      refine SC.ret ?_
      refine SE.then_ (by intro h; cases h) ?_
      refine SE.finC (rs := [.cell 4 52, .tmp 5]) rfl (RV.cell rfl (RV.cellA tabOk rfl rfl (by first|(apply Or.inl;(repeat first|assumption|exact m0|apply m1);done)|(apply Or.inr;(repeat first|assumption|exact m0|apply m1);done)) (by rfl)) (RV.tmp rfl RV.nil)) (Casts.cons (cast_agg (Casts.keep (Casts.keep (Casts.nils (s := 33) (Casts.nils (s := 3) (Casts.nils (s := 3) Casts.refl)))))) Casts.refl) (()) (by repeat first|exact s0 _|exact s1 _|apply s2|apply s3) (by simp [It.rids]) ?_
      have e : rparseC l n = (Chg.zero, 2) := by
        unfold rparseC
        rw [if_neg (by omega), if_pos (by
          first
            | exact .inl (by assumption)
            | exact .inr (.inl (by have h8 := hc75; simp at h8; exact h8))
            | exact .inr (.inr (.inl (by have h8 := hc79; simp at h8; exact h8)))
            | exact .inr (.inr (.inr (by have h8 := hc84; simp at h8; exact h8))))]
      rw [e]
      rfl
    intro hc75
    refine SL.val (Val.move rfl) rfl rfl ?_
    refine SL.val (Val.notB rfl) rfl rfl ?_
    refine SL.val (Val.pickF rfl rfl) rfl rfl ?_
    refine SL.val (Val.move rfl) rfl rfl ?_
    refine SL.both (t := 79) rfl ?_ ?_
    · intro hc79
      iterate 4 refine SL.skip rfl rfl ?_
      refine SL.val (Val.pickT rfl rfl) rfl rfl ?_
      refine SL.nil (SE.seq ?_)
      refine SC.condT rfl ?_
      refine SC.seq (SC.region ?_)
      refine SL.val (Val.buildS tabOk rfl rfl rfl rfl) rfl rfl ?_
      refine SL.eff (Eff.store tabOk rfl rfl rfl (by repeat first|assumption|exact Upd.here|apply Upd.there) (by rfl) (Nat.le_of_ble_eq_true (by rfl)) (by rfl) (by rfl)) rfl rfl ?_
      rintro _ _ ⟨rfl, rfl⟩
      refine SL.val (Val.assign rfl) rfl rfl ?_
      refine SL.nil (SE.seq ?_)
      refine SC.ret ?_
      refine SE.then_ (by intro h; cases h) ?_
      refine SE.finC (rs := [.cell 4 52, .tmp 5]) rfl (RV.cell rfl (RV.cellA tabOk rfl rfl (by first|(apply Or.inl;(repeat first|assumption|exact m0|apply m1);done)|(apply Or.inr;(repeat first|assumption|exact m0|apply m1);done)) (by rfl)) (RV.tmp rfl RV.nil)) (Casts.cons (cast_agg (Casts.keep (Casts.keep (Casts.nils (s := 33) (Casts.nils (s := 3) (Casts.nils (s := 3) Casts.refl)))))) Casts.refl) (()) (by repeat first|exact s0 _|exact s1 _|apply s2|apply s3) (by simp [It.rids]) ?_
      have e : rparseC l n = (Chg.zero, 2) := by
        unfold rparseC
        rw [if_neg (by omega), if_pos (by
          first
            | exact .inl (by assumption)
            | exact .inr (.inl (by have h8 := hc75; simp at h8; exact h8))
            | exact .inr (.inr (.inl (by have h8 := hc79; simp at h8; exact h8)))
            | exact .inr (.inr (.inr (by have h8 := hc84; simp at h8; exact h8))))]
      rw [e]
      rfl
    intro hc79
    first
      | refine SL.val (Val.loadA tabOk rfl rfl rfl (by first|(apply Or.inl;(repeat first|assumption|exact m0|apply m1);done)|(apply Or.inr;(repeat first|assumption|exact m0|apply m1);done)) List.not_mem_nil (by rfl)) rfl rfl ?_
      | refine SL.val (Val.loadP tabOk rfl rfl rfl (by first|(apply Or.inl;(repeat first|assumption|exact m0|apply m1);done)|(apply Or.inr;(repeat first|assumption|exact m0|apply m1);done)) List.not_mem_nil (Nat.le_of_ble_eq_true (by rfl))) rfl rfl ?_
    refine SL.val (Val.move rfl) rfl rfl ?_
    refine SL.call (right_s (c := Rd.rchg l) (n := n) hg1 hg2 hg3 hl1 hl2) Casts.refl (by kernel_rfl) rfl rfl rfl ?_
    refine After.pure (by repeat first|exact .nil|refine .blk (by repeat first|assumption|exact m0|apply m1) ?_|refine .rd (by repeat first|assumption|exact m0|apply m1) ?_|refine .pc (by repeat first|assumption|exact m0|apply m1) ?_|refine .rdpc (by repeat first|assumption|exact m0|apply m1) ?_) (fun _ => rfl) ?_
    intro _
    refine SL.val (Val.notB rfl) rfl rfl ?_
    refine SL.val (Val.pickF rfl rfl) rfl rfl ?_
    refine SL.nil (SE.seq ?_)
    refine SC.cond rfl ?_ ?_
    · intro hc84
      refine SC.seq (SC.region ?_)
      refine SL.val (Val.buildS tabOk rfl rfl rfl rfl) rfl rfl ?_
      refine SL.eff (Eff.store tabOk rfl rfl rfl (by repeat first|assumption|exact Upd.here|apply Upd.there) (by rfl) (Nat.le_of_ble_eq_true (by rfl)) (by rfl) (by rfl)) rfl rfl ?_
      rintro _ _ ⟨rfl, rfl⟩
      refine SL.val (Val.assign rfl) rfl rfl ?_
      refine SL.nil (SE.seq ?_)
      refine SC.ret ?_
      refine SE.then_ (by intro h; cases h) ?_
      refine SE.finC (rs := [.cell 4 52, .tmp 5]) rfl (RV.cell rfl (RV.cellA tabOk rfl rfl (by first|(apply Or.inl;(repeat first|assumption|exact m0|apply m1);done)|(apply Or.inr;(repeat first|assumption|exact m0|apply m1);done)) (by rfl)) (RV.tmp rfl RV.nil)) (Casts.cons (cast_agg (Casts.keep (Casts.keep (Casts.nils (s := 33) (Casts.nils (s := 3) (Casts.nils (s := 3) Casts.refl)))))) Casts.refl) (()) (by repeat first|exact s0 _|exact s1 _|apply s2|apply s3) (by simp [It.rids]) ?_
      have e : rparseC l n = (Chg.zero, 2) := by
        unfold rparseC
        rw [if_neg (by omega), if_pos (by
          first
            | exact .inl (by assumption)
            | exact .inr (.inl (by have h8 := hc75; simp at h8; exact h8))
            | exact .inr (.inr (.inl (by have h8 := hc79; simp at h8; exact h8)))
            | exact .inr (.inr (.inr (by have h8 := hc84; simp at h8; exact h8))))]
      rw [e]
      rfl
    intro hc84
    refine SC.skip ?_
    refine SE.seq ?_
    refine SC.seq (SC.region ?_)
    first
      | refine SL.val (Val.loadA tabOk rfl rfl rfl (by first|(apply Or.inl;(repeat first|assumption|exact m0|apply m1);done)|(apply Or.inr;(repeat first|assumption|exact m0|apply m1);done)) List.not_mem_nil (by rfl)) rfl rfl ?_
      | refine SL.val (Val.loadP tabOk rfl rfl rfl (by first|(apply Or.inl;(repeat first|assumption|exact m0|apply m1);done)|(apply Or.inr;(repeat first|assumption|exact m0|apply m1);done)) List.not_mem_nil (Nat.le_of_ble_eq_true (by rfl))) rfl rfl ?_
    refine SL.eff (Eff.store tabOk rfl rfl rfl (by repeat first|assumption|exact Upd.here|apply Upd.there) (by rfl) (Nat.le_of_ble_eq_true (by rfl)) (by rfl) (by rfl)) rfl rfl ?_
    rintro _ _ ⟨rfl, rfl⟩
    refine SL.val (Val.assign rfl) rfl rfl ?_
    refine SL.nil (SE.seq ?_)
    refine SC.ret ?_
    refine SE.fin (rs := [.cell 4 52, .tmp 5]) rfl (RV.cell rfl (RV.cellA tabOk rfl rfl (by first|(apply Or.inl;(repeat first|assumption|exact m0|apply m1);done)|(apply Or.inr;(repeat first|assumption|exact m0|apply m1);done)) (by rfl)) (RV.tmp rfl RV.nil)) (()) (by repeat first|exact s0 _|exact s1 _|apply s2|apply s3) (by simp [It.rids]) ?_
    have e : rparseC l n = (Rd.rchg l, 0) := by
      unfold rparseC
      rw [if_neg (by omega), if_neg (by
        intro h
        rcases h with h | h | h | h
        · exact hc71 h
        · have h8 : (Rd.rchgPre l).2.1 = true := by have h9 := hc75; simp at h9; exact h9
          exact Bool.noConfusion (h.symm.trans h8)
        · have h8 : (Rd.rchgPro l).2.1 = true := by have h9 := hc79; simp at h9; exact h9
          exact Bool.noConfusion (h.symm.trans h8)
        · have h8 : yes ((Rd.rchg l).Right n) = true := by have h9 := hc84; simp at h9; exact h9
          exact Bool.noConfusion (h.symm.trans h8))]
    rw [e]
    rfl
  intro hc34
  refine SL.val (Val.move rfl) rfl rfl ?_
  refine SL.val (Val.nilCheck rfl) rfl rfl ?_
  refine SL.val (Val.fieldAddr tabOk rfl rfl rfl rfl rfl) rfl rfl ?_
  refine SL.val (Val.load1 tabOk rfl rfl (by first|(apply Or.inl;(repeat first|assumption|exact m0|apply m1);done)|(apply Or.inr;(repeat first|assumption|exact m0|apply m1);done)) List.not_mem_nil (by rfl)) rfl rfl ?_
  refine SL.val (Val.eqI rfl rfl) rfl rfl ?_
  refine SL.val (Val.pickT rfl rfl) rfl rfl ?_
  refine SL.nil (SE.seq ?_)
  refine SC.condP rfl ?_ ?_
  · intro hc40
    have n1 := z.1.fixed_length 8
    have n2 := (z.1.fixed 8).fixed_length 32
    have n3 := Rd.out32 (z.1.fixed 8)
    refine SC.skip ?_
    refine SE.seq ?_
    refine SC.seq ?_
    refine SC.block ?_
    refine SC.draw (z.2.2.2.ownBlock.toList ++ [b22, b7]) (.q 0 (.q 2 (.q 5 (.two 1 3 (.e 3 (.q 4 (.e 6 (.q 7 (.e 8 (.e 9 (.q 10 (.e 11 .nil)))))))) (.q 4 (.two 1 6 (.e 6 (.q 7 (.e 8 (.e 9 (.q 10 (.e 11 .nil)))))) (.q 7 (.two 1 8 (.e 8 (.e 9 (.q 10 (.e 11 .nil)))) (.e 1 (.e 9 (.q 10 (.e 11 .nil)))))))))))) (by kernel_rfl) (by kernel_rfl) ?_
    refine SX.val rfl (Val.fieldAddr tabOk rfl rfl rfl rfl rfl) (by first|(simp[mids,It.mids,ownPc];done)|(intro k hk;simp[mids,It.mids,ownPc] at hk ⊢;grind)) rfl rfl ?_
    refine SX.val rfl (Val.move rfl) (by first|(simp[mids,It.mids,ownPc];done)|(intro k hk;simp[mids,It.mids,ownPc] at hk ⊢;grind)) rfl rfl ?_
    refine SX.val rfl (Val.move rfl) (by first|(simp[mids,It.mids,ownPc];done)|(intro k hk;simp[mids,It.mids,ownPc] at hk ⊢;grind)) rfl rfl ?_
    refine SX.two ?_ ?_
    · skip
      refine SX.valE rfl (Val.load1 tabOk rfl rfl (by first|(apply Or.inl;(repeat first|assumption|exact m0|apply m1);done)|(apply Or.inr;(repeat first|assumption|exact m0|apply m1);done)) List.not_mem_nil (by rfl)) rfl rfl ?_
      refine SX.call rfl (rnumber_s (s := z.1) (n := 8) (by omega) rfl) (by simp [mids, It.mids]) Casts.refl (by kernel_rfl) rfl rfl rfl ?_
      refine After.one rfl (by repeat first|assumption|exact m0|apply m1) (fun _ => rfl) ?_
      intro _
      refine ⟨_, (by repeat first|assumption|exact Upd.here|apply Upd.there), ?_⟩
      first
        | refine SX.val rfl (Val.convI rfl Try.underlying2 (by kernel_rfl) (by simp only [InR, lo, hi]; omega)) (by first|(simp[mids,It.mids,ownPc];done)|(intro k hk;simp[mids,It.mids,ownPc] at hk ⊢;grind)) rfl rfl ?_
        | refine SX.val rfl (Val.convW rfl Try.underlying2 (by kernel_rfl)) (by first|(simp[mids,It.mids,ownPc];done)|(intro k hk;simp[mids,It.mids,ownPc] at hk ⊢;grind)) rfl rfl ?_
      refine SX.call rfl (rreaddig_s (s := (z.1.fixed 8)) (by omega)) (by simp [mids, It.mids]) Casts.refl (by kernel_rfl) rfl rfl rfl ?_
      refine After.one rfl (by repeat first|assumption|exact m0|apply m1) (fun _ => rfl) ?_
      intro _
      refine ⟨_, (by repeat first|assumption|exact Upd.here|apply Upd.there), ?_⟩
      refine SX.val rfl (Val.buildS (L := (Pnt.mk' (sg (z.1.num 8)) ((z.1.fixed 8).out 32)).abs) tabOk rfl rfl rfl (by exact fill_pnt)) (by first|(simp[mids,It.mids,ownPc];done)|(intro k hk;simp[mids,It.mids,ownPc] at hk ⊢;grind)) rfl rfl ?_
      refine SX.eff rfl (Eff.buildSl tabOk Try.underlying49 rfl rfl rfl (elems_one (Pnt.size _)) rfl rfl rfl) (by simp) rfl rfl ?_
      rintro _ _ ⟨rfl, rfl⟩
      refine SX.effX [b7] rfl (Eff.appendE (zs := (z.2.1 ++ [Pnt.mk' (sg (z.1.num 8)) ((z.1.fixed 8).out 32)]).map Pnt.abs) tabOk [] (by rw [List.map_append]; rfl) Try.underlying49 rfl rfl rfl rfl rfl rfl (by intro c hc; rw [List.mem_singleton] at hc; subst hc; exact Pnt.ones _) (by unfold maxLen; simp only [List.length_map, List.length_cons, List.length_nil]; omega) (by rw [show Try.prog.bytesOf 171 = 40 by kernel_rfl]; simp only [List.length_map, List.length_cons, List.length_nil]; omega)) (fun k hk => List.mem_append_left _ hk) (by simp) rfl rfl ?_
      rintro _ _ ⟨r52, rfl, rfl⟩
      refine SX.val rfl (Val.fieldAddr tabOk rfl rfl rfl rfl rfl) (by first|(simp[mids,It.mids,ownPc];done)|(intro k hk;simp[mids,It.mids,ownPc] at hk ⊢;grind)) rfl rfl ?_
      first
        | refine SX.eff rfl (Eff.store tabOk rfl rfl rfl (by repeat first|assumption|exact Upd.here|apply Upd.there) (by rfl) (Nat.le_of_ble_eq_true (by rfl)) (by rfl) (by rfl)) (by simp) rfl rfl ?_
        | refine SX.eff rfl (Eff.storeOwn tabOk rfl rfl rfl rfl (by repeat first|assumption|exact m0|apply m1) (by repeat first|assumption|exact Upd.here|apply Upd.there) rfl (by rfl)) (by simp) rfl rfl ?_
      rintro _ _ ⟨rfl, rfl⟩
      refine SX.nil ?_
      refine SE.inBlock ?_
      refine SE.seq ?_
      refine SC.region ?_
      refine SL.val (Val.move rfl) rfl rfl ?_
      first
        | refine SL.val (Val.subI rfl rfl (by simp only [InR, lo, hi]; omega)) rfl rfl ?_
        | refine SL.val (Val.subW rfl rfl) rfl rfl ?_
      refine SL.val (Val.assign rfl) rfl rfl ?_
      refine SL.nil ?_
      refine SE.round (((z.1.fixed 8).fixed 32), z.2.1 ++ [Pnt.mk' (sg (z.1.num 8)) ((z.1.fixed 8).out 32)], z.2.2.1 - 1, r52) (by first | omega | (dsimp only; omega)) (⟨by dsimp only; omega, by dsimp only; rw [List.length_append, List.length_singleton]; omega, by
        rw [← hz.2.2]
        obtain ⟨j, hj⟩ : ∃ j, z.2.2.1 = j + 1 := ⟨z.2.2.1 - 1, by omega⟩
        show Rd.rpnts (z.2.2.1 - 1) _ _ = Rd.rpnts z.2.2.1 _ _
        rw [hj, Nat.add_sub_cancel]
        show _ = (if z.1.e ≠ 0 then _ else _)
        rw [if_neg (by simpa using hc40)]⟩) ⟨rfl, rfl, rfl, rfl, (by show some (Abs.v (Value.int _ ((z.2.2.1 : Int) - 1))) = some (Abs.v (Value.int _ ((z.2.2.1 - 1 : Nat) : Int))); congr 3; omega), trivial⟩ (by repeat first|exact s0 _|exact s1 _|apply s2|apply s3)
    · skip
      refine SX.call rfl (rnumber_s (s := z.1) (n := 8) (by omega) rfl) (by simp [mids, It.mids]) Casts.refl (by kernel_rfl) rfl rfl rfl ?_
      refine After.one rfl (by repeat first|assumption|exact m0|apply m1) (fun _ => rfl) ?_
      intro _
      refine ⟨_, (by repeat first|assumption|exact Upd.here|apply Upd.there), ?_⟩
      first
        | refine SX.val rfl (Val.convI rfl Try.underlying2 (by kernel_rfl) (by simp only [InR, lo, hi]; omega)) (by first|(simp[mids,It.mids,ownPc];done)|(intro k hk;simp[mids,It.mids,ownPc] at hk ⊢;grind)) rfl rfl ?_
        | refine SX.val rfl (Val.convW rfl Try.underlying2 (by kernel_rfl)) (by first|(simp[mids,It.mids,ownPc];done)|(intro k hk;simp[mids,It.mids,ownPc] at hk ⊢;grind)) rfl rfl ?_
      refine SX.two ?_ ?_
      · skip
        refine SX.valE rfl (Val.load1 tabOk rfl rfl (by first|(apply Or.inl;(repeat first|assumption|exact m0|apply m1);done)|(apply Or.inr;(repeat first|assumption|exact m0|apply m1);done)) List.not_mem_nil (by rfl)) rfl rfl ?_
        refine SX.call rfl (rreaddig_s (s := (z.1.fixed 8)) (by omega)) (by simp [mids, It.mids]) Casts.refl (by kernel_rfl) rfl rfl rfl ?_
        refine After.one rfl (by repeat first|assumption|exact m0|apply m1) (fun _ => rfl) ?_
        intro _
        refine ⟨_, (by repeat first|assumption|exact Upd.here|apply Upd.there), ?_⟩
        refine SX.val rfl (Val.buildS (L := (Pnt.mk' (sg (z.1.num 8)) ((z.1.fixed 8).out 32)).abs) tabOk rfl rfl rfl (by exact fill_pnt)) (by first|(simp[mids,It.mids,ownPc];done)|(intro k hk;simp[mids,It.mids,ownPc] at hk ⊢;grind)) rfl rfl ?_
        refine SX.eff rfl (Eff.buildSl tabOk Try.underlying49 rfl rfl rfl (elems_one (Pnt.size _)) rfl rfl rfl) (by simp) rfl rfl ?_
        rintro _ _ ⟨rfl, rfl⟩
        refine SX.effX [b7] rfl (Eff.appendE (zs := (z.2.1 ++ [Pnt.mk' (sg (z.1.num 8)) ((z.1.fixed 8).out 32)]).map Pnt.abs) tabOk [] (by rw [List.map_append]; rfl) Try.underlying49 rfl rfl rfl rfl rfl rfl (by intro c hc; rw [List.mem_singleton] at hc; subst hc; exact Pnt.ones _) (by unfold maxLen; simp only [List.length_map, List.length_cons, List.length_nil]; omega) (by rw [show Try.prog.bytesOf 171 = 40 by kernel_rfl]; simp only [List.length_map, List.length_cons, List.length_nil]; omega)) (fun k hk => List.mem_append_left _ hk) (by simp) rfl rfl ?_
        rintro _ _ ⟨r52, rfl, rfl⟩
        refine SX.val rfl (Val.fieldAddr tabOk rfl rfl rfl rfl rfl) (by first|(simp[mids,It.mids,ownPc];done)|(intro k hk;simp[mids,It.mids,ownPc] at hk ⊢;grind)) rfl rfl ?_
        first
          | refine SX.eff rfl (Eff.store tabOk rfl rfl rfl (by repeat first|assumption|exact Upd.here|apply Upd.there) (by rfl) (Nat.le_of_ble_eq_true (by rfl)) (by rfl) (by rfl)) (by simp) rfl rfl ?_
          | refine SX.eff rfl (Eff.storeOwn tabOk rfl rfl rfl rfl (by repeat first|assumption|exact m0|apply m1) (by repeat first|assumption|exact Upd.here|apply Upd.there) rfl (by rfl)) (by simp) rfl rfl ?_
        rintro _ _ ⟨rfl, rfl⟩
        refine SX.nil ?_
        refine SE.inBlock ?_
        refine SE.seq ?_
        refine SC.region ?_
        refine SL.val (Val.move rfl) rfl rfl ?_
        first
          | refine SL.val (Val.subI rfl rfl (by simp only [InR, lo, hi]; omega)) rfl rfl ?_
          | refine SL.val (Val.subW rfl rfl) rfl rfl ?_
        refine SL.val (Val.assign rfl) rfl rfl ?_
        refine SL.nil ?_
        refine SE.round (((z.1.fixed 8).fixed 32), z.2.1 ++ [Pnt.mk' (sg (z.1.num 8)) ((z.1.fixed 8).out 32)], z.2.2.1 - 1, r52) (by first | omega | (dsimp only; omega)) (⟨by dsimp only; omega, by dsimp only; rw [List.length_append, List.length_singleton]; omega, by
          rw [← hz.2.2]
          obtain ⟨j, hj⟩ : ∃ j, z.2.2.1 = j + 1 := ⟨z.2.2.1 - 1, by omega⟩
          show Rd.rpnts (z.2.2.1 - 1) _ _ = Rd.rpnts z.2.2.1 _ _
          rw [hj, Nat.add_sub_cancel]
          show _ = (if z.1.e ≠ 0 then _ else _)
          rw [if_neg (by simpa using hc40)]⟩) ⟨rfl, rfl, rfl, rfl, (by show some (Abs.v (Value.int _ ((z.2.2.1 : Int) - 1))) = some (Abs.v (Value.int _ ((z.2.2.1 - 1 : Nat) : Int))); congr 3; omega), trivial⟩ (by repeat first|exact s0 _|exact s1 _|apply s2|apply s3)
      · skip
        refine SX.call rfl (rreaddig_s (s := (z.1.fixed 8)) (by omega)) (by simp [mids, It.mids]) Casts.refl (by kernel_rfl) rfl rfl rfl ?_
        refine After.one rfl (by repeat first|assumption|exact m0|apply m1) (fun _ => rfl) ?_
        intro _
        refine ⟨_, (by repeat first|assumption|exact Upd.here|apply Upd.there), ?_⟩
        refine SX.val rfl (Val.buildS (L := (Pnt.mk' (sg (z.1.num 8)) ((z.1.fixed 8).out 32)).abs) tabOk rfl rfl rfl (by exact fill_pnt)) (by first|(simp[mids,It.mids,ownPc];done)|(intro k hk;simp[mids,It.mids,ownPc] at hk ⊢;grind)) rfl rfl ?_
        refine SX.two ?_ ?_
        · skip
          refine SX.valE rfl (Val.load1 tabOk rfl rfl (by first|(apply Or.inl;(repeat first|assumption|exact m0|apply m1);done)|(apply Or.inr;(repeat first|assumption|exact m0|apply m1);done)) List.not_mem_nil (by rfl)) rfl rfl ?_
          refine SX.eff rfl (Eff.buildSl tabOk Try.underlying49 rfl rfl rfl (elems_one (Pnt.size _)) rfl rfl rfl) (by simp) rfl rfl ?_
          rintro _ _ ⟨rfl, rfl⟩
          refine SX.effX [b7] rfl (Eff.appendE (zs := (z.2.1 ++ [Pnt.mk' (sg (z.1.num 8)) ((z.1.fixed 8).out 32)]).map Pnt.abs) tabOk [] (by rw [List.map_append]; rfl) Try.underlying49 rfl rfl rfl rfl rfl rfl (by intro c hc; rw [List.mem_singleton] at hc; subst hc; exact Pnt.ones _) (by unfold maxLen; simp only [List.length_map, List.length_cons, List.length_nil]; omega) (by rw [show Try.prog.bytesOf 171 = 40 by kernel_rfl]; simp only [List.length_map, List.length_cons, List.length_nil]; omega)) (fun k hk => List.mem_append_left _ hk) (by simp) rfl rfl ?_
          rintro _ _ ⟨r52, rfl, rfl⟩
          refine SX.val rfl (Val.fieldAddr tabOk rfl rfl rfl rfl rfl) (by first|(simp[mids,It.mids,ownPc];done)|(intro k hk;simp[mids,It.mids,ownPc] at hk ⊢;grind)) rfl rfl ?_
          first
            | refine SX.eff rfl (Eff.store tabOk rfl rfl rfl (by repeat first|assumption|exact Upd.here|apply Upd.there) (by rfl) (Nat.le_of_ble_eq_true (by rfl)) (by rfl) (by rfl)) (by simp) rfl rfl ?_
            | refine SX.eff rfl (Eff.storeOwn tabOk rfl rfl rfl rfl (by repeat first|assumption|exact m0|apply m1) (by repeat first|assumption|exact Upd.here|apply Upd.there) rfl (by rfl)) (by simp) rfl rfl ?_
          rintro _ _ ⟨rfl, rfl⟩
          refine SX.nil ?_
          refine SE.inBlock ?_
          refine SE.seq ?_
          refine SC.region ?_
          refine SL.val (Val.move rfl) rfl rfl ?_
          first
            | refine SL.val (Val.subI rfl rfl (by simp only [InR, lo, hi]; omega)) rfl rfl ?_
            | refine SL.val (Val.subW rfl rfl) rfl rfl ?_
          refine SL.val (Val.assign rfl) rfl rfl ?_
          refine SL.nil ?_
          refine SE.round (((z.1.fixed 8).fixed 32), z.2.1 ++ [Pnt.mk' (sg (z.1.num 8)) ((z.1.fixed 8).out 32)], z.2.2.1 - 1, r52) (by first | omega | (dsimp only; omega)) (⟨by dsimp only; omega, by dsimp only; rw [List.length_append, List.length_singleton]; omega, by
            rw [← hz.2.2]
            obtain ⟨j, hj⟩ : ∃ j, z.2.2.1 = j + 1 := ⟨z.2.2.1 - 1, by omega⟩
            show Rd.rpnts (z.2.2.1 - 1) _ _ = Rd.rpnts z.2.2.1 _ _
            rw [hj, Nat.add_sub_cancel]
            show _ = (if z.1.e ≠ 0 then _ else _)
            rw [if_neg (by simpa using hc40)]⟩) ⟨rfl, rfl, rfl, rfl, (by show some (Abs.v (Value.int _ ((z.2.2.1 : Int) - 1))) = some (Abs.v (Value.int _ ((z.2.2.1 - 1 : Nat) : Int))); congr 3; omega), trivial⟩ (by repeat first|exact s0 _|exact s1 _|apply s2|apply s3)
        · skip
          refine SX.eff rfl (Eff.buildSl tabOk Try.underlying49 rfl rfl rfl (elems_one (Pnt.size _)) rfl rfl rfl) (by simp) rfl rfl ?_
          rintro _ _ ⟨rfl, rfl⟩
          refine SX.valE rfl (Val.load1 tabOk rfl rfl (by first|(apply Or.inl;(repeat first|assumption|exact m0|apply m1);done)|(apply Or.inr;(repeat first|assumption|exact m0|apply m1);done)) List.not_mem_nil (by rfl)) rfl rfl ?_
          refine SX.effX [b7] rfl (Eff.appendE (zs := (z.2.1 ++ [Pnt.mk' (sg (z.1.num 8)) ((z.1.fixed 8).out 32)]).map Pnt.abs) tabOk [] (by rw [List.map_append]; rfl) Try.underlying49 rfl rfl rfl rfl rfl rfl (by intro c hc; rw [List.mem_singleton] at hc; subst hc; exact Pnt.ones _) (by unfold maxLen; simp only [List.length_map, List.length_cons, List.length_nil]; omega) (by rw [show Try.prog.bytesOf 171 = 40 by kernel_rfl]; simp only [List.length_map, List.length_cons, List.length_nil]; omega)) (fun k hk => List.mem_append_left _ hk) (by simp) rfl rfl ?_
          rintro _ _ ⟨r52, rfl, rfl⟩
          refine SX.val rfl (Val.fieldAddr tabOk rfl rfl rfl rfl rfl) (by first|(simp[mids,It.mids,ownPc];done)|(intro k hk;simp[mids,It.mids,ownPc] at hk ⊢;grind)) rfl rfl ?_
          first
            | refine SX.eff rfl (Eff.store tabOk rfl rfl rfl (by repeat first|assumption|exact Upd.here|apply Upd.there) (by rfl) (Nat.le_of_ble_eq_true (by rfl)) (by rfl) (by rfl)) (by simp) rfl rfl ?_
            | refine SX.eff rfl (Eff.storeOwn tabOk rfl rfl rfl rfl (by repeat first|assumption|exact m0|apply m1) (by repeat first|assumption|exact Upd.here|apply Upd.there) rfl (by rfl)) (by simp) rfl rfl ?_
          rintro _ _ ⟨rfl, rfl⟩
          refine SX.nil ?_
          refine SE.inBlock ?_
          refine SE.seq ?_
          refine SC.region ?_
          refine SL.val (Val.move rfl) rfl rfl ?_
          first
            | refine SL.val (Val.subI rfl rfl (by simp only [InR, lo, hi]; omega)) rfl rfl ?_
            | refine SL.val (Val.subW rfl rfl) rfl rfl ?_
          refine SL.val (Val.assign rfl) rfl rfl ?_
          refine SL.nil ?_
          refine SE.round (((z.1.fixed 8).fixed 32), z.2.1 ++ [Pnt.mk' (sg (z.1.num 8)) ((z.1.fixed 8).out 32)], z.2.2.1 - 1, r52) (by first | omega | (dsimp only; omega)) (⟨by dsimp only; omega, by dsimp only; rw [List.length_append, List.length_singleton]; omega, by
            rw [← hz.2.2]
            obtain ⟨j, hj⟩ : ∃ j, z.2.2.1 = j + 1 := ⟨z.2.2.1 - 1, by omega⟩
            show Rd.rpnts (z.2.2.1 - 1) _ _ = Rd.rpnts z.2.2.1 _ _
            rw [hj, Nat.add_sub_cancel]
            show _ = (if z.1.e ≠ 0 then _ else _)
            rw [if_neg (by simpa using hc40)]⟩) ⟨rfl, rfl, rfl, rfl, (by show some (Abs.v (Value.int _ ((z.2.2.1 : Int) - 1))) = some (Abs.v (Value.int _ ((z.2.2.1 - 1 : Nat) : Int))); congr 3; omega), trivial⟩ (by repeat first|exact s0 _|exact s1 _|apply s2|apply s3)
  intro hc40
  refine SC.exit ?_
  refine SE.then_ (by intro h; cases h) ?_
  refine SE.then_ (by intro h; cases h) ?_
  refine SE.exit ?_
  refine SE.seq ?_
  refine SC.seq ?_
  have hzz : (z.2.1, z.1) = Rd.rchgPts l := by
    unfold Rd.rchgPts
    rw [← hz.2.2]
    first
      | (rw [show z.2.2.1 = 0 by omega]; rfl)
      | exact (rpnts_stop (by simpa using hc40) _).symm
  have hzA := congrArg Prod.fst hzz
  have hzS := congrArg Prod.snd hzz
  dsimp only at hzA hzS
  refine SC.freezeC [] 2 rfl (by repeat first|assumption|exact Upd.here|apply Upd.there) rfl ?_
  rw [hzA, hzS]
  have w1 := rpnts_left ((Rd.chgHead l).countN 4) ((Rd.chgHead l).count 4) []
  have w2 : (Rd.rchgPts l).2.l.length ≤ l.length := by unfold Rd.rchgPts; unfold Rd.chgHead at w1 ⊢; omega
  have w3 := rprfs_left ((Rd.rchgPts l).2.countN 8) ((Rd.rchgPts l).2.count 8) [] true
  have w4 := Rd.count_length (Rd.rchgPts l).2 8
  have w5 : (Rd.rchgPre l).2.2.l.length ≤ l.length := by unfold Rd.rchgPre; omega
  have w6 := rprfs_left ((Rd.rchgPre l).2.2.countN 64) ((Rd.rchgPre l).2.2.count 64) [] true
  have w7 := Rd.countN_lt (Rd.rchgPts l).2 8
  have w8 := Rd.countN_lt (Rd.rchgPre l).2.2 64
  have w9 := Rd.count_length (Rd.rchgPre l).2.2 64
  have hg3 : (Rd.rchg l).points.length < 9223372036854775807 := by
    show (Rd.rchgPts l).1.length < _
    have := w1.1
    rw [List.length_nil] at this
    unfold Rd.rchgPts; omega
  have hg1 : Long (Rd.rchg l).prepared := by
    refine ⟨by
      show (Rd.rchgPre l).1.length < _
      have := w3.1
      rw [List.length_nil] at this
      unfold Rd.rchgPre; omega, ?_⟩
    exact rprfs_all (fun p => p.batch.length ≤ 1000000) (B := 100000) (fun a b l h => ens_few l) _ _ _ _ (by omega) (by simp)
  have hg2 : Long (Rd.rchg l).proposed := by
    refine ⟨by
      show (Rd.rchgPro l).1.length < _
      have := w6.1
      rw [List.length_nil] at this
      unfold Rd.rchgPro; omega, ?_⟩
    exact rprfs_all (fun p => p.batch.length ≤ 1000000) (B := 100000) (fun a b l h => ens_few l) _ _ _ _ (by omega) (by simp)
  have hl1 : Lets (Rd.rchg l).prepared := rprfs_all (fun p => ∀ e ∈ p.batch, e.core.letter.size ≤ lots) (B := 100000) (fun a b l h => ens_lets (by omega)) _ _ _ _ (by omega) (by simp)
  have hl2 : Lets (Rd.rchg l).proposed := rprfs_all (fun p => ∀ e ∈ p.batch, e.core.letter.size ≤ lots) (B := 100000) (fun a b l h => ens_lets (by omega)) _ _ _ _ (by omega) (by simp)
  refine SC.region ?_
  refine SL.val (Val.move rfl) rfl rfl ?_
  refine SL.call (rreadp_s (s := (Rd.rchgPts l).2) (most := 8) (by omega)) Casts.refl (by kernel_rfl) rfl rfl rfl ?_
  refine After.one rfl (by repeat first|assumption|exact m0|apply m1) (fun _ => rfl) ?_
  intro _
  refine ⟨_, (by repeat first|assumption|exact Upd.here|apply Upd.there), ?_⟩
  refine SL.val (Val.move rfl) rfl rfl ?_
  refine SL.val (Val.extract rfl rfl) rfl rfl ?_
  refine SL.val (Val.extract rfl rfl) rfl rfl ?_
  refine SL.val (Val.assign rfl) rfl rfl ?_
  refine SL.val (Val.assign rfl) rfl rfl ?_
  refine SL.nil (SE.seq ?_)
  refine SC.seq (SC.region ?_)
  refine SL.val (Val.move rfl) rfl rfl ?_
  refine SL.call (rreadp_s (s := (Rd.rchgPre l).2.2) (most := 64) (by omega)) Casts.refl (by kernel_rfl) rfl rfl rfl ?_
  refine After.one rfl (by repeat first|assumption|exact m0|apply m1) (fun _ => rfl) ?_
  intro _
  refine ⟨_, (by repeat first|assumption|exact Upd.here|apply Upd.there), ?_⟩
  refine SL.val (Val.move rfl) rfl rfl ?_
  refine SL.val (Val.extract rfl rfl) rfl rfl ?_
  refine SL.val (Val.extract rfl rfl) rfl rfl ?_
  refine SL.val (Val.assign rfl) rfl rfl ?_
  refine SL.val (Val.assign rfl) rfl rfl ?_
  refine SL.nil (SE.seq ?_)
  refine SC.seq (SC.region ?_)
  refine SL.val (Val.move rfl) rfl rfl ?_
  refine SL.val (Val.move rfl) rfl rfl ?_
  refine SL.val (Val.fieldAddr tabOk rfl rfl rfl rfl rfl) rfl rfl ?_
  first
    | refine SL.eff (Eff.store tabOk rfl rfl rfl (by repeat first|assumption|exact Upd.here|apply Upd.there) (by rfl) (Nat.le_of_ble_eq_true (by rfl)) (by rfl) (by rfl)) rfl rfl ?_
    | refine SL.eff (Eff.storeOwn tabOk rfl rfl rfl rfl (by repeat first|assumption|exact m0|apply m1) (by repeat first|assumption|exact Upd.here|apply Upd.there) rfl (by rfl)) rfl rfl ?_
  rintro _ _ ⟨rfl, rfl⟩
  refine SL.val (Val.fieldAddr tabOk rfl rfl rfl rfl rfl) rfl rfl ?_
  first
    | refine SL.eff (Eff.store tabOk rfl rfl rfl (by repeat first|assumption|exact Upd.here|apply Upd.there) (by rfl) (Nat.le_of_ble_eq_true (by rfl)) (by rfl) (by rfl)) rfl rfl ?_
    | refine SL.eff (Eff.storeOwn tabOk rfl rfl rfl rfl (by repeat first|assumption|exact m0|apply m1) (by repeat first|assumption|exact Upd.here|apply Upd.there) rfl (by rfl)) rfl rfl ?_
  rintro _ _ ⟨rfl, rfl⟩
  refine SL.nil (SE.seq ?_)
  refine SC.seq ?_
  refine SC.seq (SC.region ?_)
  refine SL.val (Val.move rfl) rfl rfl ?_
  refine SL.call (rend_s (s := (Rd.rchgPro l).2.2)) Casts.refl (by kernel_rfl) rfl rfl rfl ?_
  refine After.one rfl (by repeat first|assumption|exact m0|apply m1) (fun _ => rfl) ?_
  intro _
  refine ⟨_, (by repeat first|assumption|exact Upd.here|apply Upd.there), ?_⟩
  refine SL.val (Val.neI rfl rfl) rfl rfl ?_
  refine SL.val (Val.move rfl) rfl rfl ?_
  refine SL.bothP (t := 71) rfl ?_ ?_
  · intro hc71
    iterate 2 refine SL.skip rfl rfl ?_
    refine SL.val (Val.pickT rfl rfl) rfl rfl ?_
    refine SL.val (Val.move rfl) rfl rfl ?_
    iterate 2 refine SL.skip rfl rfl ?_
    refine SL.val (Val.pickT rfl rfl) rfl rfl ?_
    refine SL.val (Val.move rfl) rfl rfl ?_
    iterate 4 refine SL.skip rfl rfl ?_
    refine SL.val (Val.pickT rfl rfl) rfl rfl ?_
    refine SL.nil (SE.seq ?_)
    refine SC.condT rfl ?_
    refine SC.seq (SC.region ?_)
    refine SL.val (Val.buildS tabOk rfl rfl rfl rfl) rfl rfl ?_
    refine SL.eff (Eff.store tabOk rfl rfl rfl (by repeat first|assumption|exact Upd.here|apply Upd.there) (by rfl) (Nat.le_of_ble_eq_true (by rfl)) (by rfl) (by rfl)) rfl rfl ?_
    rintro _ _ ⟨rfl, rfl⟩
    refine SL.val (Val.assign rfl) rfl rfl ?_
    refine SL.nil (SE.seq ?_)
    refine SC.ret ?_
    refine SE.then_ (by intro h; cases h) ?_
    refine SE.finC (rs := [.cell 4 52, .tmp 5]) rfl (RV.cell rfl (RV.cellA tabOk rfl rfl (by first|(apply Or.inl;(repeat first|assumption|exact m0|apply m1);done)|(apply Or.inr;(repeat first|assumption|exact m0|apply m1);done)) (by rfl)) (RV.tmp rfl RV.nil)) (Casts.cons (cast_agg (Casts.keep (Casts.keep (Casts.nils (s := 33) (Casts.nils (s := 3) (Casts.nils (s := 3) Casts.refl)))))) Casts.refl) (()) (by repeat first|exact s0 _|exact s1 _|apply s2|apply s3) (by simp [It.rids]) ?_
    have e : rparseC l n = (Chg.zero, 2) := by
      unfold rparseC
      rw [if_neg (by omega), if_pos (by
        first
          | exact .inl (by assumption)
          | exact .inr (.inl (by have h8 := hc75; simp at h8; exact h8))
          | exact .inr (.inr (.inl (by have h8 := hc79; simp at h8; exact h8)))
          | exact .inr (.inr (.inr (by have h8 := hc84; simp at h8; exact h8))))]
    rw [e]
    rfl
  intro hc71
  refine SL.val (Val.move rfl) rfl rfl ?_
  refine SL.val (Val.notB rfl) rfl rfl ?_
  refine SL.val (Val.pickF rfl rfl) rfl rfl ?_
  refine SL.val (Val.move rfl) rfl rfl ?_
  refine SL.both (t := 75) rfl ?_ ?_
  · intro hc75
    iterate 2 refine SL.skip rfl rfl ?_
    refine SL.val (Val.pickT rfl rfl) rfl rfl ?_
    refine SL.val (Val.move rfl) rfl rfl ?_
    iterate 4 refine SL.skip rfl rfl ?_
    refine SL.val (Val.pickT rfl rfl) rfl rfl ?_
    refine SL.nil (SE.seq ?_)
    refine SC.condT rfl ?_
    refine SC.seq (SC.region ?_)
    refine SL.val (Val.buildS tabOk rfl rfl rfl rfl) rfl rfl ?_
    refine SL.eff (Eff.store tabOk rfl rfl rfl (by repeat first|assumption|exact Upd.here|apply Upd.there) (by rfl) (Nat.le_of_ble_eq_true (by rfl)) (by rfl) (by rfl)) rfl rfl ?_
    rintro _ _ ⟨rfl, rfl⟩
    refine SL.val (Val.assign rfl) rfl rfl ?_
    refine SL.nil (SE.seq ?_)
    refine SC.ret ?_
    refine SE.then_ (by intro h; cases h) ?_
    refine SE.finC (rs := [.cell 4 52, .tmp 5]) rfl (RV.cell rfl (RV.cellA tabOk rfl rfl (by first|(apply Or.inl;(repeat first|assumption|exact m0|apply m1);done)|(apply Or.inr;(repeat first|assumption|exact m0|apply m1);done)) (by rfl)) (RV.tmp rfl RV.nil)) (Casts.cons (cast_agg (Casts.keep (Casts.keep (Casts.nils (s := 33) (Casts.nils (s := 3) (Casts.nils (s := 3) Casts.refl)))))) Casts.refl) (()) (by repeat first|exact s0 _|exact s1 _|apply s2|apply s3) (by simp [It.rids]) ?_
    have e : rparseC l n = (Chg.zero, 2) := by
      unfold rparseC
      rw [if_neg (by omega), if_pos (by
        first
          | exact .inl (by assumption)
          | exact .inr (.inl (by have h8 := hc75; simp at h8; exact h8))
          | exact .inr (.inr (.inl (by have h8 := hc79; simp at h8; exact h8)))
          | exact .inr (.inr (.inr (by have h8 := hc84; simp at h8; exact h8))))]
    rw [e]
    rfl
  intro hc75
  refine SL.val (Val.move rfl) rfl rfl ?_
  refine SL.val (Val.notB rfl) rfl rfl ?_
  refine SL.val (Val.pickF rfl rfl) rfl rfl ?_
  refine SL.val (Val.move rfl) rfl rfl ?_
  refine SL.both (t := 79) rfl ?_ ?_
  · intro hc79
    iterate 4 refine SL.skip rfl rfl ?_
    refine SL.val (Val.pickT rfl rfl) rfl rfl ?_
    refine SL.nil (SE.seq ?_)
    refine SC.condT rfl ?_
    refine SC.seq (SC.region ?_)
    refine SL.val (Val.buildS tabOk rfl rfl rfl rfl) rfl rfl ?_
    refine SL.eff (Eff.store tabOk rfl rfl rfl (by repeat first|assumption|exact Upd.here|apply Upd.there) (by rfl) (Nat.le_of_ble_eq_true (by rfl)) (by rfl) (by rfl)) rfl rfl ?_
    rintro _ _ ⟨rfl, rfl⟩
    refine SL.val (Val.assign rfl) rfl rfl ?_
    refine SL.nil (SE.seq ?_)
    refine SC.ret ?_
    refine SE.then_ (by intro h; cases h) ?_
    refine SE.finC (rs := [.cell 4 52, .tmp 5]) rfl (RV.cell rfl (RV.cellA tabOk rfl rfl (by first|(apply Or.inl;(repeat first|assumption|exact m0|apply m1);done)|(apply Or.inr;(repeat first|assumption|exact m0|apply m1);done)) (by rfl)) (RV.tmp rfl RV.nil)) (Casts.cons (cast_agg (Casts.keep (Casts.keep (Casts.nils (s := 33) (Casts.nils (s := 3) (Casts.nils (s := 3) Casts.refl)))))) Casts.refl) (()) (by repeat first|exact s0 _|exact s1 _|apply s2|apply s3) (by simp [It.rids]) ?_
    have e : rparseC l n = (Chg.zero, 2) := by
      unfold rparseC
      rw [if_neg (by omega), if_pos (by
        first
          | exact .inl (by assumption)
          | exact .inr (.inl (by have h8 := hc75; simp at h8; exact h8))
          | exact .inr (.inr (.inl (by have h8 := hc79; simp at h8; exact h8)))
          | exact .inr (.inr (.inr (by have h8 := hc84; simp at h8; exact h8))))]
    rw [e]
    rfl
  intro hc79
  first
    | refine SL.val (Val.loadA tabOk rfl rfl rfl (by first|(apply Or.inl;(repeat first|assumption|exact m0|apply m1);done)|(apply Or.inr;(repeat first|assumption|exact m0|apply m1);done)) List.not_mem_nil (by rfl)) rfl rfl ?_
    | refine SL.val (Val.loadP tabOk rfl rfl rfl (by first|(apply Or.inl;(repeat first|assumption|exact m0|apply m1);done)|(apply Or.inr;(repeat first|assumption|exact m0|apply m1);done)) List.not_mem_nil (Nat.le_of_ble_eq_true (by rfl))) rfl rfl ?_
  refine SL.val (Val.move rfl) rfl rfl ?_
  refine SL.call (right_s (c := Rd.rchg l) (n := n) hg1 hg2 hg3 hl1 hl2) Casts.refl (by kernel_rfl) rfl rfl rfl ?_
  refine After.pure (by repeat first|exact .nil|refine .blk (by repeat first|assumption|exact m0|apply m1) ?_|refine .rd (by repeat first|assumption|exact m0|apply m1) ?_|refine .pc (by repeat first|assumption|exact m0|apply m1) ?_|refine .rdpc (by repeat first|assumption|exact m0|apply m1) ?_) (fun _ => rfl) ?_
  intro _
  refine SL.val (Val.notB rfl) rfl rfl ?_
  refine SL.val (Val.pickF rfl rfl) rfl rfl ?_
  refine SL.nil (SE.seq ?_)
  refine SC.cond rfl ?_ ?_
  · intro hc84
    refine SC.seq (SC.region ?_)
    refine SL.val (Val.buildS tabOk rfl rfl rfl rfl) rfl rfl ?_
    refine SL.eff (Eff.store tabOk rfl rfl rfl (by repeat first|assumption|exact Upd.here|apply Upd.there) (by rfl) (Nat.le_of_ble_eq_true (by rfl)) (by rfl) (by rfl)) rfl rfl ?_
    rintro _ _ ⟨rfl, rfl⟩
    refine SL.val (Val.assign rfl) rfl rfl ?_
    refine SL.nil (SE.seq ?_)
    refine SC.ret ?_
    refine SE.then_ (by intro h; cases h) ?_
    refine SE.finC (rs := [.cell 4 52, .tmp 5]) rfl (RV.cell rfl (RV.cellA tabOk rfl rfl (by first|(apply Or.inl;(repeat first|assumption|exact m0|apply m1);done)|(apply Or.inr;(repeat first|assumption|exact m0|apply m1);done)) (by rfl)) (RV.tmp rfl RV.nil)) (Casts.cons (cast_agg (Casts.keep (Casts.keep (Casts.nils (s := 33) (Casts.nils (s := 3) (Casts.nils (s := 3) Casts.refl)))))) Casts.refl) (()) (by repeat first|exact s0 _|exact s1 _|apply s2|apply s3) (by simp [It.rids]) ?_
    have e : rparseC l n = (Chg.zero, 2) := by
      unfold rparseC
      rw [if_neg (by omega), if_pos (by
        first
          | exact .inl (by assumption)
          | exact .inr (.inl (by have h8 := hc75; simp at h8; exact h8))
          | exact .inr (.inr (.inl (by have h8 := hc79; simp at h8; exact h8)))
          | exact .inr (.inr (.inr (by have h8 := hc84; simp at h8; exact h8))))]
    rw [e]
    rfl
  intro hc84
  refine SC.skip ?_
  refine SE.seq ?_
  refine SC.seq (SC.region ?_)
  first
    | refine SL.val (Val.loadA tabOk rfl rfl rfl (by first|(apply Or.inl;(repeat first|assumption|exact m0|apply m1);done)|(apply Or.inr;(repeat first|assumption|exact m0|apply m1);done)) List.not_mem_nil (by rfl)) rfl rfl ?_
    | refine SL.val (Val.loadP tabOk rfl rfl rfl (by first|(apply Or.inl;(repeat first|assumption|exact m0|apply m1);done)|(apply Or.inr;(repeat first|assumption|exact m0|apply m1);done)) List.not_mem_nil (Nat.le_of_ble_eq_true (by rfl))) rfl rfl ?_
  refine SL.eff (Eff.store tabOk rfl rfl rfl (by repeat first|assumption|exact Upd.here|apply Upd.there) (by rfl) (Nat.le_of_ble_eq_true (by rfl)) (by rfl) (by rfl)) rfl rfl ?_
  rintro _ _ ⟨rfl, rfl⟩
  refine SL.val (Val.assign rfl) rfl rfl ?_
  refine SL.nil (SE.seq ?_)
  refine SC.ret ?_
  refine SE.fin (rs := [.cell 4 52, .tmp 5]) rfl (RV.cell rfl (RV.cellA tabOk rfl rfl (by first|(apply Or.inl;(repeat first|assumption|exact m0|apply m1);done)|(apply Or.inr;(repeat first|assumption|exact m0|apply m1);done)) (by rfl)) (RV.tmp rfl RV.nil)) (()) (by repeat first|exact s0 _|exact s1 _|apply s2|apply s3) (by simp [It.rids]) ?_
  have e : rparseC l n = (Rd.rchg l, 0) := by
    unfold rparseC
    rw [if_neg (by omega), if_neg (by
      intro h
      rcases h with h | h | h | h
      · exact hc71 h
      · have h8 : (Rd.rchgPre l).2.1 = true := by have h9 := hc75; simp at h9; exact h9
        exact Bool.noConfusion (h.symm.trans h8)
      · have h8 : (Rd.rchgPro l).2.1 = true := by have h9 := hc79; simp at h9; exact h9
        exact Bool.noConfusion (h.symm.trans h8)
      · have h8 : yes ((Rd.rchg l).Right n) = true := by have h9 := hc84; simp at h9; exact h9
        exact Bool.noConfusion (h.symm.trans h8))]
  rw [e]
  rfl
end
end Go.Proofs.Ytpgffckfbgfgcaa.A
/-
  Batches, in plain Lean: what is written reads back.
-/
set_option maxRecDepth 100000
namespace Go.Proofs.Ytpgffckfbgfgcaa
open Go.RowKit

/-- A reader that has not failed, ahead of these bytes. -/
def Rd.At (s : Rd) (l : List UInt8) : Prop := s.e = 0 ∧ s.l = l
theorem at_fixed {s : Rd} {x r : List UInt8} (h : s.At (x ++ r)) {n : Int} (hn : n = x.length) : (s.fixed n).At r ∧ s.out n = x := by
  obtain ⟨h1, h2⟩ := h
  have hb : ¬ s.bad n := by
    unfold Rd.bad
    rw [h2, List.length_append]
    omega
  have ht : n.toNat = x.length := by omega
  unfold Rd.At Rd.fixed Rd.out
  simp only [h1, ne_eq, not_true_eq_false, if_false, hb, h2, ht]
  simp
theorem at_num {s : Rd} {r : List UInt8} {v k : Nat} (h : s.At (beBytes v k ++ r)) (hv : v < 256 ^ k) {n : Int} (hn : n = k) : (s.fixed n).At r ∧ s.num n = v := by
  obtain ⟨h1, h2⟩ := at_fixed h (n := n) (by rw [beBytes_length]; exact hn)
  exact ⟨h1, by rw [Rd.num, h2, beVal_be v k hv]⟩
theorem at_row {s : Rd} {x r : List UInt8} {most : Int} (h : s.At (rowB x ++ r)) (hx : x.length ≤ most) (hx2 : x.length < 4294967296) : (s.row most).At r ∧ s.rowOut most = x := by
  unfold rowB at h
  rw [List.append_assoc] at h
  obtain ⟨h1, h2⟩ := at_num h (by omega) (n := 4) rfl
  obtain ⟨h3, h4⟩ := at_fixed h1 (n := s.num 4) (by rw [h2])
  have hm : ¬ most < s.num 4 := by rw [h2]; omega
  unfold Rd.row Rd.rowOut
  simp only [h1.1, ne_eq, not_true_eq_false, if_false, hm]
  exact ⟨h3, h4⟩
theorem sg_u64 {a : Int} (h : InR .i64 a) : sg (u64 a) = a := by
  obtain ⟨h1, h2⟩ := h
  simp only [lo, hi] at h1 h2
  unfold sg u64
  simp [IntKind.wrap, IntKind.bits, IntKind.signed]
  split <;> omega
theorem u64_nat {a : Int} (h : 0 ≤ a) (h2 : a < 18446744073709551616) : ((u64 a : Nat) : Int) = a := by
  unfold u64
  omega
theorem txtB_bytes (b : ByteArray) : txtB b.data.toList = b := by
  unfold txtB
  simp
/-- A core that may be written and read. -/
structure Core.Back (c : Core) : Prop where
  client : 0 ≤ c.client ∧ c.client < 256
  stamp : InR .i64 c.stamp
  op : 0 ≤ c.op ∧ c.op < 256
  a : InR .i64 c.a
  b : InR .i64 c.b
theorem at_core {s : Rd} {c : Core} {most : Int} (h : s.At c.bytes) (hc : c.Back) (hl : (c.bytes.length : Int) ≤ most) (hl2 : c.bytes.length < 4294967296) : (s.coreEnd most).At [] ∧ s.core most = c := by
  have e1 : c.letter.data.toList.length = c.letter.size := by simp
  have e2 : c.text.data.toList.length = c.text.size := by simp
  have hlen := Core.bytes_length c
  unfold Core.bytes at h
  simp only [List.append_assoc] at h
  have u1 := u64_nat hc.client.1 (by have := hc.client.2; omega)
  have u2 := u64_nat hc.op.1 (by have := hc.op.2; omega)
  have g1 := hc.client.2
  have g2 := hc.op.2
  obtain ⟨a1, b1⟩ := at_num h (by omega) (n := 1) rfl
  obtain ⟨a2, b2⟩ := at_num a1 (by have := u64_lt c.stamp; omega) (n := 8) rfl
  obtain ⟨a3, b3⟩ := at_num a2 (by omega) (n := 1) rfl
  obtain ⟨a4, b4⟩ := at_row (most := most) a3 (by omega) (by omega)
  obtain ⟨a5, b5⟩ := at_num a4 (by have := u64_lt c.a; omega) (n := 8) rfl
  obtain ⟨a6, b6⟩ := at_num a5 (by have := u64_lt c.b; omega) (n := 8) rfl
  rw [← List.append_nil (rowB c.text.data.toList)] at a6
  obtain ⟨a7, b7⟩ := at_row (most := most) a6 (by omega) (by omega)
  refine ⟨a7, ?_⟩
  unfold Rd.core
  unfold Rd.c6 Rd.c4 Rd.c3
  rw [b1, b2, b3, b4, b5, b6, b7, u1, u2, sg_u64 hc.stamp, sg_u64 hc.a, sg_u64 hc.b, txtB_bytes, txtB_bytes]
/-- An entry that may be written and read. -/
structure Ent.Back (e : Ent) : Prop where
  core : e.core.Back
  mask : e.mask < 256
  len : e.core.bytes.length ≤ 100000
theorem ents_back {L : Int} : ∀ (es : List Ent) (s : Rd) (acc : List Ent), (∀ e ∈ es, e.Back ∧ (e.core.bytes.length : Int) ≤ L) → s.At (es.flatMap Ent.bytes) → ∃ t : Rd, t.At [] ∧ s.ents L es.length acc = some (acc ++ es, t)
  | [], s, acc, _, h => ⟨s, h, by simp [Rd.ents]⟩
  | e :: es, s, acc, hall, h => by
    obtain ⟨he, hL⟩ := hall e List.mem_cons_self
    have hlen := he.len
    rw [List.flatMap_cons, Ent.bytes, List.append_assoc] at h
    obtain ⟨a1, b1⟩ := at_row (most := L) h hL (by omega)
    obtain ⟨a2, b2⟩ := at_num a1 (by have := he.mask; omega) (n := 1) rfl
    obtain ⟨c1, c2⟩ := at_core (s := Rd.of e.core.bytes) (c := e.core) (most := (e.core.bytes.length : Nat)) ⟨rfl, rfl⟩ he.core (Int.le_refl _) (by omega)
    have hok : okOf e.core.bytes (e.core.bytes.length : Nat) = true := by
      refine decide_eq_true ?_
      unfold Rd.end_
      rw [c1.1, c1.2]
      simp
    have hco : coreOf e.core.bytes (e.core.bytes.length : Nat) = e.core := c2
    obtain ⟨t, ht, hr⟩ := ents_back es ((s.row L).fixed 1) (acc ++ [e]) (fun x hx => hall x (List.mem_cons_of_mem _ hx)) a2
    refine ⟨t, ht, ?_⟩
    rw [List.length_cons]
    simp only [Rd.ents]
    rw [b1, hok, if_neg (by decide), hco, b2]
    rw [List.append_assoc] at hr
    exact hr
theorem of_if {b : Bool} {r : Int} (h : (if b = true then (15 : Int) else r) = 0) : r = 0 := by
  cases b with
  | false => simpa using h
  | true => simp at h
theorem chkL_all {n : Int} : ∀ (es : List Ent) (p : Option Int), chkL n p es = 0 → ∀ e ∈ es, e.core.check n = 0 ∧ e.mask < 2 ^ n.toNat
  | [], _, _ => by simp
  | e :: es, p, h => by
    simp only [chkL] at h
    split at h
    · rename_i h1; exact absurd h h1
    · rename_i h1
      split at h
      · exact absurd h (by decide)
      · rename_i h2
        intro x hx
        rcases List.mem_cons.1 hx with rfl | hx
        · exact ⟨Decidable.not_not.1 h1, by omega⟩
        · exact chkL_all es _ (of_if h) x hx
theorem check_ok {c : Core} {n : Int} (h : c.check n = 0) : 1 ≤ n ∧ n ≤ 7 ∧ n ≤ c.client ∧ c.client < n + 4 ∧ 1 ≤ c.stamp ∧ c.stamp ≤ 1099511627776 ∧ 1 ≤ c.op ∧ c.op ≤ 9 ∧ nameB c.letter = true ∧ c.text.size ≤ 200 := by
  unfold Core.check at h
  split at h
  · exact absurd h (by decide)
  · split at h
    · exact absurd h (by decide)
    · split at h
      · exact absurd h (by decide)
      · split at h
        · exact absurd h (by decide)
        · split at h
          · exact absurd h (by decide)
          · rename_i h4 _
            rw [Bool.not_eq_false] at h4
            exact ⟨by omega, by omega, by omega, by omega, by omega, by omega, by omega, by omega, h4, by omega⟩
/-- What may be a batch reads back. -/
theorem parse_back {es : List Ent} {n : Int} (hs : ∀ e ∈ es, e.Lits) (h : chkB es n = 0) : parseS (batchB es) n = (es, 0) := by
  have h0 := h
  unfold chkB at h
  split at h
  · exact absurd h (by decide)
  · rename_i hn
    split at h
    · exact absurd h (by decide)
    · rename_i hlen
      have hall := chkL_all es none h
      have hback : ∀ e ∈ es, e.Back ∧ (e.core.bytes.length : Int) ≤ ((batchB es).length : Nat) := fun e he => by
        obtain ⟨k1, k2⟩ := hall e he
        obtain ⟨g1, g2, g3, g4, g5, g6, g7, g8, g9, g10⟩ := check_ok k1
        have hl := hs e he
        have hsz : e.core.letter.size ≤ 16 := by
          unfold nameB at g9
          simp only [Bool.and_eq_true, decide_eq_true_eq] at g9
          exact g9.2
        have hm : e.mask < 128 + 1 := by
          have : 2 ^ n.toNat ≤ 2 ^ 7 := Nat.pow_le_pow_right (by decide) (by omega)
          omega
        have hlen2 := Core.bytes_length e.core
        refine ⟨⟨⟨⟨by omega, by omega⟩, hl.stamp, ⟨by omega, by omega⟩, hl.a, hl.b⟩, by omega, by omega⟩, ?_⟩
        have : e.bytes.length ≤ (es.flatMap Ent.bytes).length := by
          obtain ⟨s1, s2, rfl⟩ := List.append_of_mem he
          simp only [List.flatMap_append, List.flatMap_cons, List.length_append]
          omega
        have h7 : e.core.bytes.length ≤ e.bytes.length := by
          unfold Ent.bytes rowB
          simp only [List.length_append]
          omega
        unfold batchB
        rw [List.length_append]
        omega
      have hat : (Rd.of (batchB es)).At (beBytes es.length 2 ++ es.flatMap Ent.bytes) := ⟨rfl, rfl⟩
      obtain ⟨a1, b1⟩ := at_num hat (by omega) (n := 2) rfl
      obtain ⟨t, ht, hr⟩ := ents_back (L := ((batchB es).length : Nat)) es ((Rd.of (batchB es)).fixed 2) [] hback a1
      have hmany : manyOf (batchB es) = es.length := by
        unfold manyOf
        rw [b1]
        have : es.length ≤ (batchB es).length + 1 := by
          have : es.length ≤ (es.flatMap Ent.bytes).length := by
            clear h h0 hlen hall hback hat a1 b1 ht hr hs
            induction es with
            | nil => simp
            | cons e es ih =>
              rw [List.flatMap_cons, List.length_append, List.length_cons]
              have : 1 ≤ e.bytes.length := by
                unfold Ent.bytes
                rw [List.length_append, beBytes_length]
                omega
              omega
          unfold batchB
          rw [List.length_append]
          omega
        omega
      have hend : t.end_ = 0 := by
        unfold Rd.end_
        rw [ht.1, ht.2]
        simp
      unfold parseS
      rw [hmany, hr]
      simp only [parse2, List.nil_append]
      rw [if_neg (by simp [hend]), if_neg (by simp [h0])]
end Go.Proofs.Ytpgffckfbgfgcaa
