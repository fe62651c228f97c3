/-
  Packed out of the texts: C5, C6, C7.
-/
import Derived.Test.YtpgffckfbgfgcaaV010
/-
  Changes as bytes, over the second engine.
-/
set_option maxRecDepth 100000
set_option linter.unusedSimpArgs false
set_option linter.unusedVariables false
namespace Go.Proofs.Ytpgffckfbgfgcaa.A
open Go.RowKit

structure Prf.Few (p : Prf) : Prop where
  len : p.batch.length ≤ 10
  all : ∀ e ∈ p.batch, e.Few
theorem Prf.Few.bytes {p : Prf} (h : p.Few) : (batchB p.batch).length ≤ 30000 := by
  have h1 := ents_length h.all
  have h2 := h.len
  unfold batchB
  rw [List.length_append, beBytes_length]
  omega
def Prf.bytes (p : Prf) : List UInt8 := long8 [p.seq, p.view] ++ rowB (batchB p.batch)
def prfsB (ps : List Prf) : List UInt8 := beBytes ps.length 2 ++ ps.flatMap Prf.bytes
theorem prfs_length {ps : List Prf} (h : ∀ p ∈ ps, p.Few) : (ps.flatMap Prf.bytes).length ≤ ps.length * 40000 := by
  induction ps with
  | nil => simp
  | cons p ps ih =>
    have h1 := (h p (by simp)).bytes
    have h2 := ih (fun x hx => h x (by simp [hx]))
    have h3 := long8_length [p.seq, p.view]
    rw [List.flatMap_cons, List.length_append, Prf.bytes, rowB, List.length_append, List.length_append, beBytes_length, h3, List.length_cons, Nat.succ_mul]
    simp only [List.length_cons, List.length_nil]
    omega
def Pnt.bytes (p : Pnt) : List UInt8 := long8 [p.seq] ++ p.dig
theorem pnts_length (ps : List Pnt) : (ps.flatMap Pnt.bytes).length = ps.length * 40 := by
  induction ps with
  | nil => rfl
  | cons p ps ih =>
    have h := p.len
    rw [List.flatMap_cons, List.length_append, ih, Pnt.bytes, List.length_append, long8_length, List.length_cons]
    simp only [List.length_cons, List.length_nil]
    omega
structure Chg.Few (x : Chg) : Prop where
  pts : x.points.length ≤ 1000
  prep : x.prepared.length ≤ 1000
  prop : x.proposed.length ≤ 1000
  fprep : ∀ p ∈ x.prepared, p.Few
  fprop : ∀ p ∈ x.proposed, p.Few
def Chg.head (x : Chg) (k : Nat) : List UInt8 := [] ++ long8 [x.view, x.low] ++ beBytes x.points.length 2 ++ (x.points.take k).flatMap Pnt.bytes
def Chg.bytes (x : Chg) : List UInt8 := x.head x.points.length ++ prfsB x.prepared ++ prfsB x.proposed
theorem Chg.head_length (x : Chg) (k : Nat) (h : x.points.length ≤ 1000) : (x.head k).length ≤ 50000 := by
  unfold Chg.head
  have h1 : (x.points.take k).length ≤ x.points.length := by rw [List.length_take]; omega
  simp only [List.length_append, long8_length, beBytes_length, pnts_length, List.length_cons, List.length_nil]
  omega
theorem prfsB_length {ps : List Prf} (h : ∀ p ∈ ps, p.Few) (hn : ps.length ≤ 1000) : (prfsB ps).length ≤ 40000002 := by
  have := prfs_length h
  unfold prfsB
  rw [List.length_append, beBytes_length]
  omega
abbrev ints (xs : List Int) : Abs := .sl 1 (xs.map fun x => [int x])
theorem rep_ints {K : List Nat} {w : World} {x : Value} {xs : List Int} : rep K w (ints xs) x ↔ IsRow K w x xs.length (xs.map fun y => .int .i64 y) := by
  have e : (xs.map fun x => [int x]) = (xs.map fun y : Int => (.int .i64 y : Value)).map fun u => [.v u] := by rw [List.map_map]; rfl
  constructor
  · rintro ⟨us, h1, h2⟩
    rw [e] at h2
    have := repss_ones_eq h2
    subst this
    simpa using h1
  · intro h
    refine ⟨_, by simpa using h, ?_⟩
    rw [e]; exact repss_ones
section
variable {l : List UInt8} {xs : List Int} {ps : List Prf}
theorem long_s (hl : l.length + xs.length * 8 ≤ lots) : Pure Try.prog 177 [byt l, ints xs] (byt (l ++ long8 xs)) := Pure.of2 fun K w vals hK hv => by
  obtain ⟨v, us', rfl, h1, u, us2, rfl, h2, h3⟩ := hv
  have h3 : us2 = [] := h3
  subst h3
  refine (long_c (((enter2 w K).add (z := bytesD v l) (row2 (rep_byt.1 h1))).add (z := intsD u xs) (row2 (rep_ints.1 h2))) (by simp) (by simp) hl).mono fun e w' ⟨r, he, hm⟩ => ⟨r, he, leave2 hm (by simp), rep_byt.2 (row3 hK (ent2 hm) (hm.data (z := bytesD r _) (by simp)))⟩
theorem long_o (hl : l.length + xs.length * 8 ≤ lots) (hn : xs ≠ []) : Spec Try.prog 177 [byt l, ints xs] [] (fun r : Value => [own 5 1 r ((l ++ long8 xs).map fun b => [.v (bc b)])]) (fun r => .v r) := Spec.ofOwnB fun K w vals hK hv => by
  obtain ⟨v, us', rfl, h1, u, us2, rfl, h2, h3⟩ := hv
  have h3 : us2 = [] := h3
  subst h3
  refine (long_own (((enter2 w K).add (z := bytesD v l) (row2 (rep_byt.1 h1))).add (z := intsD u xs) (row2 (rep_ints.1 h2))) (by simp) (by simp) hl hn).mono fun e w' ⟨r, he, hm⟩ => ⟨r, _, he, hm⟩
set_option maxHeartbeats 2000000 in
theorem write_s (hl : l.length ≤ 100000000) (hn : ps.length ≤ 1000) (hf : ∀ p ∈ ps, p.Few) : Spec Try.prog 178 [byt l, prfsA ps] [] (fun _ : Unit => []) (fun _ => byt (l ++ prfsB ps)) := by
  have hL : lots = 100000000000 := rfl
  refine spec_of Try.func178 rfl Try.ntmps178 rfl fun G w => ?_
  refine SC.seq (SC.region ?_)
  refine SL.val (Val.assign rfl) rfl rfl ?_
  refine SL.nil (SE.seq ?_)
  refine SC.seq (SC.region ?_)
  refine SL.val (Val.move rfl) rfl rfl ?_
  refine SL.val (Val.move rfl) rfl rfl ?_
  first
    | refine SL.val (Val.lenSl rfl Try.underlying50 (List.length_map _)) rfl rfl ?_
    | refine SL.val (Val.lenOwn rfl (by repeat first|assumption|exact m0|apply m1) Try.underlying50 (List.length_map _)) rfl rfl ?_
    | refine SL.val (Val.lenNil rfl Try.underlying50) rfl rfl ?_
  first
    | refine SL.val (Val.convI rfl Try.underlying166 (by kernel_rfl) (by simp only [InR, lo, hi]; omega)) rfl rfl ?_
    | refine SL.val (Val.convU rfl Try.underlying166 (by kernel_rfl)) rfl rfl ?_
  refine SL.call (put_s (l := l) (x := ps.length) (n := 2) (by omega) (by omega) rfl) Casts.refl (by kernel_rfl) rfl rfl rfl ?_
  refine After.pure (by repeat first|exact .nil|refine .blk (by repeat first|assumption|exact m0|apply m1) ?_|refine .rd (by repeat first|assumption|exact m0|apply m1) ?_|refine .pc (by repeat first|assumption|exact m0|apply m1) ?_|refine .rdpc (by repeat first|assumption|exact m0|apply m1) ?_) (fun _ => rfl) ?_
  intro _
  refine SL.val (Val.assign rfl) rfl rfl ?_
  refine SL.nil (SE.seq ?_)
  refine SC.seq ?_
  refine SC.seq (SC.region ?_)
  refine SL.val (Val.move rfl) rfl rfl ?_
  first
    | refine SL.val (Val.lenSl rfl Try.underlying50 (List.length_map _)) rfl rfl ?_
    | refine SL.val (Val.lenOwn rfl (by repeat first|assumption|exact m0|apply m1) Try.underlying50 (List.length_map _)) rfl rfl ?_
    | refine SL.val (Val.lenNil rfl Try.underlying50) rfl rfl ?_
  refine SL.val (Val.move rfl) rfl rfl ?_
  refine SL.nil (SE.seq ?_)
  refine SC.block ?_
  refine SC.loop (ι := Nat) (fun z => []) (fun z => [(0, byt (l ++ beBytes ps.length 2 ++ (ps.take z).flatMap Prf.bytes)), (12, prfsA ps), (13, int (ps.length : Nat)), (14, int (z : Nat))]) (fun z => z ≤ ps.length) (fun z => ps.length - z) (0) (Nat.zero_le _) ⟨congrArg (fun m => some (byt m)) (by simp), rfl, rfl, rfl, trivial⟩ (by repeat first|exact s0 _|exact s1 _|apply s2|apply s3) ?_
  intro z hz
  have hlen : (l ++ beBytes ps.length 2 ++ (ps.take z).flatMap Prf.bytes).length ≤ 100000000 + 2 + 1000 * 40000 := by
    have h0 := prfs_length (ps := ps.take z) (fun p hp' => hf p (List.mem_of_mem_take hp'))
    have h9 : (ps.take z).length ≤ ps.length := by simp; omega
    have h8 : (ps.take z).length * 40000 ≤ 1000 * 40000 := Nat.mul_le_mul_right _ (by omega)
    simp only [List.length_append, beBytes_length]
    omega
  refine SC.seq (SC.region ?_)
  refine SL.val (Val.ltI rfl rfl) rfl rfl ?_
  refine SL.nil (SE.seq ?_)
  refine SC.seq ?_
  refine SC.condP rfl ?_ ?_
  rotate_left
  · intro hc15
    refine SC.exit ?_
    refine SE.then_ (by intro h; cases h) ?_
    refine SE.then_ (by intro h; cases h) ?_
    refine SE.exit ?_
    refine SE.seq ?_
    refine SC.seq (SC.region ?_)
    refine SL.val (Val.move rfl) rfl rfl ?_
    refine SL.val (Val.assign rfl) rfl rfl ?_
    refine SL.nil (SE.seq ?_)
    refine SC.ret ?_
    refine SE.fin (rs := [.tmp 4]) rfl (RV.tmp rfl RV.nil) (()) (by repeat first|exact s0 _|exact s1 _|apply s2|apply s3) (by simp [It.rids]) ?_
    have e2 : (l ++ beBytes ps.length 2 ++ (ps.take z).flatMap Prf.bytes) = l ++ prfsB ps := by
      rw [List.take_of_length_le (by omega)]
      simp [prfsB]
    exact congrArg byt e2
  intro hc15
  have hlt : z < ps.length := by omega
  have hfp := hf _ (List.getElem_mem hlt)
  have hbl := hfp.bytes
  refine SC.skip ?_
  refine SE.seq ?_
  refine SC.seq ?_
  refine SC.block ?_
  refine SC.seq (SC.region ?_)
  refine SL.val (Val.indexSl tabOk Try.underlying50 rfl rfl rfl rfl (at_map (by omega)) rfl rfl) rfl rfl ?_
  first
    | refine SL.val (Val.loadAR tabOk rfl rfl rfl (by rfl)) rfl rfl ?_
    | refine SL.val (Val.loadPR tabOk rfl rfl rfl (Nat.le_of_ble_eq_true (by rfl))) rfl rfl ?_
  refine SL.eff (Eff.alloc tabOk rfl) rfl rfl ?_
  rintro _ _ ⟨b6, rfl, rfl⟩
  refine SL.eff (Eff.store tabOk rfl rfl rfl (by repeat first|assumption|exact Upd.here|apply Upd.there) (by rfl) (Nat.le_of_ble_eq_true (by rfl)) (by rfl) (by rfl)) rfl rfl ?_
  rintro _ _ ⟨rfl, rfl⟩
  refine SL.nil (SE.seq ?_)
  refine SC.draw [] (.q 0 (.q 1 (.q 2 (.q 3 (.q 4 (.q 7 (.q 8 (.e 5 (.e 6 (.e 9 (.e 10 (.q 11 .nil)))))))))))) (by kernel_rfl) (by kernel_rfl) ?_
  refine SX.val rfl (Val.move rfl) (by simp) rfl rfl ?_
  refine SX.val rfl (Val.fieldAddr tabOk rfl rfl rfl rfl rfl) (by simp) rfl rfl ?_
  refine SX.val rfl (Val.load1 tabOk rfl rfl (by first|(apply Or.inl;(repeat first|assumption|exact m0|apply m1);done)|(apply Or.inr;(repeat first|assumption|exact m0|apply m1);done)) List.not_mem_nil (by rfl)) (by simp) rfl rfl ?_
  refine SX.val rfl (Val.fieldAddr tabOk rfl rfl rfl rfl rfl) (by simp) rfl rfl ?_
  refine SX.val rfl (Val.load1 tabOk rfl rfl (by first|(apply Or.inl;(repeat first|assumption|exact m0|apply m1);done)|(apply Or.inr;(repeat first|assumption|exact m0|apply m1);done)) List.not_mem_nil (by rfl)) (by simp) rfl rfl ?_
  refine SX.val rfl (Val.fieldAddr tabOk rfl rfl rfl rfl rfl) (by simp) rfl rfl ?_
  refine SX.val rfl (Val.load1 tabOk rfl rfl (by first|(apply Or.inl;(repeat first|assumption|exact m0|apply m1);done)|(apply Or.inr;(repeat first|assumption|exact m0|apply m1);done)) List.not_mem_nil (by rfl)) (by simp) rfl rfl ?_
  refine SX.eff rfl (Eff.buildSl tabOk Try.underlying105 rfl rfl rfl rfl rfl rfl rfl) (by simp) rfl rfl ?_
  rintro _ _ ⟨rfl, rfl⟩
  refine SX.call rfl (long_s (l := (l ++ beBytes ps.length 2 ++ (ps.take z).flatMap Prf.bytes)) (xs := [(ps[z]'hlt).seq, (ps[z]'hlt).view]) (by simp only [List.length_append, beBytes_length, long8_length, List.length_cons, List.length_nil] at *; omega)) (by simp [mids, It.mids]) Casts.refl (by kernel_rfl) rfl rfl rfl ?_
  refine After.pure (by repeat first|exact .nil|refine .blk (by repeat first|assumption|exact m0|apply m1) ?_|refine .rd (by repeat first|assumption|exact m0|apply m1) ?_|refine .pc (by repeat first|assumption|exact m0|apply m1) ?_|refine .rdpc (by repeat first|assumption|exact m0|apply m1) ?_) (fun _ => rfl) ?_
  intro _
  refine SX.call rfl (bbytes_s (es := (ps[z]'hlt).batch) (by have := hfp.len; omega) hfp.all) (by simp [mids, It.mids]) Casts.refl (by kernel_rfl) rfl rfl rfl ?_
  refine After.pure (by repeat first|exact .nil|refine .blk (by repeat first|assumption|exact m0|apply m1) ?_|refine .rd (by repeat first|assumption|exact m0|apply m1) ?_|refine .pc (by repeat first|assumption|exact m0|apply m1) ?_|refine .rdpc (by repeat first|assumption|exact m0|apply m1) ?_) (fun _ => rfl) ?_
  intro _
  refine SX.call rfl (row_s (l := (l ++ beBytes ps.length 2 ++ (ps.take z).flatMap Prf.bytes) ++ long8 [(ps[z]'hlt).seq, (ps[z]'hlt).view]) (m := batchB (ps[z]'hlt).batch) (by simp only [List.length_append, beBytes_length, long8_length, List.length_cons, List.length_nil] at *; omega) (by omega)) (by simp [mids, It.mids]) Casts.refl (by kernel_rfl) rfl rfl rfl ?_
  refine After.pure (by repeat first|exact .nil|refine .blk (by repeat first|assumption|exact m0|apply m1) ?_|refine .rd (by repeat first|assumption|exact m0|apply m1) ?_|refine .pc (by repeat first|assumption|exact m0|apply m1) ?_|refine .rdpc (by repeat first|assumption|exact m0|apply m1) ?_) (fun _ => rfl) ?_
  intro _
  refine SX.val rfl (Val.assign rfl) (by simp) rfl rfl ?_
  refine SX.nil ?_
  refine SE.inBlock ?_
  refine SE.seq ?_
  refine SC.region ?_
  first
    | refine SL.val (Val.addI rfl rfl (by simp only [InR, lo, hi]; omega)) rfl rfl ?_
    | refine SL.val (Val.addW rfl rfl) rfl rfl ?_
  refine SL.val (Val.move rfl) rfl rfl ?_
  refine SL.nil ?_
  have e1 : (l ++ beBytes ps.length 2 ++ (ps.take z).flatMap Prf.bytes) ++ long8 [(ps[z]'hlt).seq, (ps[z]'hlt).view] ++ beBytes (batchB (ps[z]'hlt).batch).length 4 ++ batchB (ps[z]'hlt).batch = (l ++ beBytes ps.length 2 ++ (ps.take (z + 1)).flatMap Prf.bytes) := by
    rw [List.take_succ_eq_append_getElem hlt, List.flatMap_append]
    simp [Prf.bytes, rowB, long8]
  refine SE.round (z + 1) (by first | omega | (dsimp only; omega)) (by first | omega | (dsimp only; omega)) ⟨congrArg (fun m => some (byt m)) e1, rfl, rfl, rfl, trivial⟩ (by repeat first|exact s0 _|exact s1 _|apply s2|apply s3)
abbrev bys (l : List UInt8) : List (List Abs) := l.map fun b => [Abs.v (bc b)]
theorem bys_app (a b : List UInt8) : bys a ++ bys b = bys (a ++ b) := by simp [bys]
theorem bys_ones (l : List UInt8) : ∀ c ∈ bys l, ones c = true := by
  intro c hc
  obtain ⟨b, _, rfl⟩ := List.mem_map.1 hc
  rfl
theorem Pnt.tail (p : Pnt) : ((p.abs.drop 1).take 32).map (fun a => [a]) = bys p.dig := by
  show ((digA p.dig).take 32).map _ = _
  rw [List.take_of_length_le (by simp [digA, p.len])]
  simp [digA, bys]
theorem Pnt.tail_length (p : Pnt) : (p.abs.drop 1).length = 32 := by simp [Pnt.size]
variable {c : Chg}
set_option maxHeartbeats 2000000 in
theorem bytes_s (hf : c.Few) : Spec Try.prog 118 [.agg c.abs] [] (fun _ : Unit => []) (fun _ => byt c.bytes) := by
  have hL : lots = 100000000000 := rfl
  have hn0 := hf.pts
  refine spec_of Try.func118 rfl Try.ntmps118 rfl fun G w => ?_
  refine SC.seq (SC.region ?_)
  refine SL.eff (Eff.boxA rfl) rfl rfl ?_
  rintro _ _ ⟨b1, rfl, rfl⟩
  refine SL.val (Val.assign rfl) rfl rfl ?_
  refine SL.nil (SE.seq ?_)
  refine SC.seq ?_
  refine SC.draw [] (.q 0 (.q 1 (.q 2 (.q 3 (.q 6 (.q 7 (.q 8 (.q 9 (.e 4 (.e 5 (.e 10 (.q 11 .nil)))))))))))) (by kernel_rfl) (by kernel_rfl) ?_
  refine SX.val rfl (Val.fieldAddr tabOk rfl rfl rfl rfl rfl) (by simp) rfl rfl ?_
  refine SX.val rfl (Val.load1 tabOk rfl rfl (by first|(apply Or.inl;(repeat first|assumption|exact m0|apply m1);done)|(apply Or.inr;(repeat first|assumption|exact m0|apply m1);done)) List.not_mem_nil (by rfl)) (by simp) rfl rfl ?_
  refine SX.val rfl (Val.fieldAddr tabOk rfl rfl rfl rfl rfl) (by simp) rfl rfl ?_
  refine SX.val rfl (Val.load1 tabOk rfl rfl (by first|(apply Or.inl;(repeat first|assumption|exact m0|apply m1);done)|(apply Or.inr;(repeat first|assumption|exact m0|apply m1);done)) List.not_mem_nil (by rfl)) (by simp) rfl rfl ?_
  refine SX.val rfl (Val.fieldAddr tabOk rfl rfl rfl rfl rfl) (by simp) rfl rfl ?_
  refine SX.val rfl (Val.load1 tabOk rfl rfl (by first|(apply Or.inl;(repeat first|assumption|exact m0|apply m1);done)|(apply Or.inr;(repeat first|assumption|exact m0|apply m1);done)) List.not_mem_nil (by rfl)) (by simp) rfl rfl ?_
  first
    | refine SX.val rfl (Val.lenSl rfl Try.underlying49 (List.length_map _)) (by simp) rfl rfl ?_
    | refine SX.val rfl (Val.lenOwn rfl (by repeat first|assumption|exact m0|apply m1) Try.underlying49 (List.length_map _)) (by simp) rfl rfl ?_
    | refine SX.val rfl (Val.lenNil rfl Try.underlying49) (by simp) rfl rfl ?_
  first
    | refine SX.val rfl (Val.convI rfl Try.underlying166 (by kernel_rfl) (by simp only [InR, lo, hi]; omega)) (by simp) rfl rfl ?_
    | refine SX.val rfl (Val.convU rfl Try.underlying166 (by kernel_rfl)) (by simp) rfl rfl ?_
  refine SX.eff rfl (Eff.buildSl tabOk Try.underlying105 rfl rfl rfl rfl rfl rfl rfl) (by simp) rfl rfl ?_
  rintro _ _ ⟨rfl, rfl⟩
  refine SX.call rfl (long_s (l := []) (xs := [c.view, c.low]) (by simp; omega)) (by simp [mids, It.mids]) (Casts.cons (fun _ _ _ h => rep_nil h) Casts.refl) (by kernel_rfl) rfl rfl rfl ?_
  refine After.pure (by repeat first|exact .nil|refine .blk (by repeat first|assumption|exact m0|apply m1) ?_|refine .rd (by repeat first|assumption|exact m0|apply m1) ?_|refine .pc (by repeat first|assumption|exact m0|apply m1) ?_|refine .rdpc (by repeat first|assumption|exact m0|apply m1) ?_) (fun _ => rfl) ?_
  intro _
  refine SX.call rfl (put_s (l := [] ++ long8 [c.view, c.low]) (x := c.points.length) (n := 2) (by simp only [List.nil_append, long8_length, List.length_cons, List.length_nil]; omega) (by omega) rfl) (by simp [mids, It.mids]) Casts.refl (by kernel_rfl) rfl rfl rfl ?_
  refine After.pure (by repeat first|exact .nil|refine .blk (by repeat first|assumption|exact m0|apply m1) ?_|refine .rd (by repeat first|assumption|exact m0|apply m1) ?_|refine .pc (by repeat first|assumption|exact m0|apply m1) ?_|refine .rdpc (by repeat first|assumption|exact m0|apply m1) ?_) (fun _ => rfl) ?_
  intro _
  refine SX.val rfl (Val.assign rfl) (by simp) rfl rfl ?_
  refine SX.nil (SE.seq ?_)
  refine SC.seq ?_
  refine SC.seq (SC.region ?_)
  refine SL.val (Val.fieldAddr tabOk rfl rfl rfl rfl rfl) rfl rfl ?_
  refine SL.val (Val.load1 tabOk rfl rfl (by first|(apply Or.inl;(repeat first|assumption|exact m0|apply m1);done)|(apply Or.inr;(repeat first|assumption|exact m0|apply m1);done)) List.not_mem_nil (by rfl)) rfl rfl ?_
  first
    | refine SL.val (Val.lenSl rfl Try.underlying49 (List.length_map _)) rfl rfl ?_
    | refine SL.val (Val.lenOwn rfl (by repeat first|assumption|exact m0|apply m1) Try.underlying49 (List.length_map _)) rfl rfl ?_
    | refine SL.val (Val.lenNil rfl Try.underlying49) rfl rfl ?_
  refine SL.val (Val.move rfl) rfl rfl ?_
  refine SL.nil (SE.seq ?_)
  refine SC.block ?_
  refine SC.loop (ι := Nat) (fun z => [.blk b1 52 c.abs]) (fun z => [(1, ptr b1), (3, byt (c.head z)), (18, pntsA c.points), (19, int (c.points.length : Nat)), (20, int (z : Nat))]) (fun z => z ≤ c.points.length) (fun z => c.points.length - z) (0) (Nat.zero_le _) ⟨rfl, congrArg (fun m => some (byt m)) (by simp [Chg.head, long8]), rfl, rfl, rfl, trivial⟩ (by repeat first|exact s0 _|exact s1 _|apply s2|apply s3) ?_
  intro z hz
  have hlen := c.head_length z hf.pts
  have hpp := prfsB_length hf.fprep hf.prep
  refine SC.seq (SC.region ?_)
  refine SL.val (Val.ltI rfl rfl) rfl rfl ?_
  refine SL.nil (SE.seq ?_)
  refine SC.seq ?_
  refine SC.condP rfl ?_ ?_
  rotate_left
  · intro hc21
    refine SC.exit ?_
    refine SE.then_ (by intro h; cases h) ?_
    refine SE.then_ (by intro h; cases h) ?_
    refine SE.exit ?_
    refine SE.seq ?_
    refine SC.seq ?_
    refine SC.draw [] (.q 0 (.q 1 (.q 2 (.q 4 (.q 5 (.e 3 (.e 6 (.q 7 .nil)))))))) (by kernel_rfl) (by kernel_rfl) ?_
    refine SX.val rfl (Val.move rfl) (by simp) rfl rfl ?_
    refine SX.val rfl (Val.fieldAddr tabOk rfl rfl rfl rfl rfl) (by simp) rfl rfl ?_
    refine SX.val rfl (Val.load1 tabOk rfl rfl (by first|(apply Or.inl;(repeat first|assumption|exact m0|apply m1);done)|(apply Or.inr;(repeat first|assumption|exact m0|apply m1);done)) List.not_mem_nil (by rfl)) (by simp) rfl rfl ?_
    refine SX.val rfl (Val.fieldAddr tabOk rfl rfl rfl rfl rfl) (by simp) rfl rfl ?_
    refine SX.val rfl (Val.load1 tabOk rfl rfl (by first|(apply Or.inl;(repeat first|assumption|exact m0|apply m1);done)|(apply Or.inr;(repeat first|assumption|exact m0|apply m1);done)) List.not_mem_nil (by rfl)) (by simp) rfl rfl ?_
    refine SX.call rfl (write_s (l := c.head z) (ps := c.prepared) (by omega) hf.prep hf.fprep) (by simp [mids, It.mids]) Casts.refl (by kernel_rfl) rfl rfl rfl ?_
    refine After.pure (by repeat first|exact .nil|refine .blk (by repeat first|assumption|exact m0|apply m1) ?_|refine .rd (by repeat first|assumption|exact m0|apply m1) ?_|refine .pc (by repeat first|assumption|exact m0|apply m1) ?_|refine .rdpc (by repeat first|assumption|exact m0|apply m1) ?_) (fun _ => rfl) ?_
    intro _
    refine SX.call rfl (write_s (l := c.head z ++ prfsB c.prepared) (ps := c.proposed) (by rw [List.length_append]; omega) hf.prop hf.fprop) (by simp [mids, It.mids]) Casts.refl (by kernel_rfl) rfl rfl rfl ?_
    refine After.pure (by repeat first|exact .nil|refine .blk (by repeat first|assumption|exact m0|apply m1) ?_|refine .rd (by repeat first|assumption|exact m0|apply m1) ?_|refine .pc (by repeat first|assumption|exact m0|apply m1) ?_|refine .rdpc (by repeat first|assumption|exact m0|apply m1) ?_) (fun _ => rfl) ?_
    intro _
    refine SX.val rfl (Val.assign rfl) (by simp) rfl rfl ?_
    refine SX.nil (SE.seq ?_)
    refine SC.ret ?_
    refine SE.fin (rs := [.tmp 2]) rfl (RV.tmp rfl RV.nil) (()) (by repeat first|exact s0 _|exact s1 _|apply s2|apply s3) (by simp [It.rids]) ?_
    have e2 : z = c.points.length := by omega
    subst e2
    exact congrArg byt (by simp [Chg.bytes])
  intro hc21
  have hlt : z < c.points.length := by omega
  have hd9 := (c.points[z]'hlt).len
  have hl8 := long8_length [(c.points[z]'hlt).seq]
  simp only [List.length_cons, List.length_nil] at hl8
  refine SC.skip ?_
  refine SE.seq ?_
  refine SC.seq ?_
  refine SC.block ?_
  refine SC.seq (SC.region ?_)
  refine SL.val (Val.indexSl tabOk Try.underlying49 rfl rfl rfl rfl (at_map (by omega)) rfl rfl) rfl rfl ?_
  refine SL.val (Val.loadAR tabOk rfl rfl rfl (Pnt.size _)) rfl rfl ?_
  refine SL.eff (Eff.alloc tabOk rfl) rfl rfl ?_
  rintro _ _ ⟨b5, rfl, rfl⟩
  refine SL.eff (Eff.store (L' := (c.points[z]'hlt).abs) tabOk rfl rfl rfl (by repeat first|assumption|exact Upd.here|apply Upd.there) (Pnt.size _) (Nat.le_of_ble_eq_true (by rfl)) (Pnt.ones _) (by exact putL_all (Pnt.size _))) rfl rfl ?_
  rintro _ _ ⟨rfl, rfl⟩
  refine SL.nil (SE.seq ?_)
  refine SC.freezeB [] 5 rfl rfl ?_
  refine SC.draw [] (.q 0 (.q 1 (.q 2 (.q 5 (.q 6 (.e 3 (.e 4 (.e 7 (.q 8 .nil))))))))) (by kernel_rfl) (by kernel_rfl) ?_
  refine SX.val rfl (Val.move rfl) (by simp) rfl rfl ?_
  refine SX.val rfl (Val.fieldAddrR tabOk rfl rfl rfl rfl rfl) (by simp) rfl rfl ?_
  refine SX.val rfl (Val.load1R tabOk rfl rfl rfl) (by simp) rfl rfl ?_
  refine SX.val rfl (Val.fieldAddrR tabOk rfl rfl rfl rfl rfl) (by simp) rfl rfl ?_
  refine SX.val rfl (Val.sliceArrR tabOk Try.underlying30 rfl rfl rfl rfl (Pnt.tail _) (by rw [Pnt.tail_length]; exact Nat.le_refl _)) (by first|(simp[mids,It.mids,ownPc];done)|(intro k hk;simp[mids,It.mids,ownPc] at hk ⊢;grind)) rfl rfl ?_
  refine SX.eff rfl (Eff.buildSl tabOk Try.underlying105 rfl rfl rfl rfl rfl rfl rfl) (by simp) rfl rfl ?_
  rintro _ _ ⟨rfl, rfl⟩
  refine SX.callM rfl (long_o (l := c.head z) (xs := [(c.points[z]'hlt).seq]) (by simp; omega) (by simp)) (by simp [mids, It.mids]) Casts.refl (by kernel_rfl) rfl rfl rfl ?_
  refine After.make (by repeat first|exact .nil|refine .blk (by repeat first|assumption|exact m0|apply m1) ?_|refine .rd (by repeat first|assumption|exact m0|apply m1) ?_|refine .pc (by repeat first|assumption|exact m0|apply m1) ?_|refine .rdpc (by repeat first|assumption|exact m0|apply m1) ?_) (fun _ => rfl) ?_
  intro r28
  refine SX.effX [] rfl (Eff.append tabOk [] Try.underlying34 rfl rfl rfl rfl rfl rfl (bys_ones _) (by unfold maxLen; simp only [bys, List.length_map, List.length_append, List.length_take, List.length_cons, List.length_nil]; omega) (by rw [show Try.prog.bytesOf 5 = 1 by kernel_rfl]; simp only [bys, List.length_map, List.length_append, List.length_take, List.length_cons, List.length_nil]; omega)) (by simp [mids, It.mids, ownPc]) (by simp) rfl rfl ?_
  rintro _ _ ⟨r31, rfl, rfl⟩
  refine SX.val rfl (Val.assign rfl) (by first|(simp[mids,It.mids,ownPc];done)|(intro k hk;simp[mids,It.mids,ownPc] at hk ⊢;grind)) rfl rfl ?_
  refine SX.nil ?_
  refine SE.inBlock ?_
  refine SE.seq ?_
  refine SC.region ?_
  first
    | refine SL.val (Val.addI rfl rfl (by simp only [InR, lo, hi]; omega)) rfl rfl ?_
    | refine SL.val (Val.addW rfl rfl) rfl rfl ?_
  refine SL.val (Val.move rfl) rfl rfl ?_
  refine SL.nil ?_
  have e1 : c.head z ++ long8 [(c.points[z]'hlt).seq] ++ (c.points[z]'hlt).dig = c.head (z + 1) := by
    unfold Chg.head
    rw [List.take_succ_eq_append_getElem hlt, List.flatMap_append]
    simp [Pnt.bytes]
  refine SE.freeze [] (t := 3) rfl rfl ?_
  refine SE.round (z + 1) (by first | omega | (dsimp only; omega)) (by first | omega | (dsimp only; omega)) ⟨rfl, congrArg (fun m => some (Abs.sl 1 m)) ((bys_app _ _).trans (congrArg bys e1)), rfl, rfl, rfl, trivial⟩ (by repeat first|exact s0 _|exact s1 _|apply s2|apply s3)
end
end Go.Proofs.Ytpgffckfbgfgcaa.A
/-
  Changes as bytes: the document's, over the second engine.
-/
set_option maxRecDepth 100000
set_option linter.unusedSimpArgs false
set_option linter.unusedVariables false
namespace Go.Proofs.Ytpgffckfbgfgcaa.A
open Go.RowKit

section
variable {l m : List UInt8} {ps : List Prf} {c : Chg}
theorem rdig_s (hl : l.length + 32 ≤ lots) (hm : m.length = 32) : Spec Try.prog 184 [byt l, .agg (digA m)] [] (fun _ : Unit => []) (fun _ => byt (l ++ m)) := by
  have hL : lots = 100000000000 := rfl
  refine spec_of Try.func184 rfl Try.ntmps184 rfl fun G w => ?_
  refine SC.seq (SC.region ?_)
  refine SL.eff (Eff.boxA rfl) rfl rfl ?_
  rintro _ _ ⟨b3, rfl, rfl⟩
  refine SL.val (Val.assign rfl) rfl rfl ?_
  refine SL.nil (SE.seq ?_)
  refine SC.seq (SC.region ?_)
  refine SL.eff (Eff.buildOwn tabOk Try.underlying34 rfl rfl rfl rfl rfl rfl rfl) rfl rfl ?_
  rintro _ _ ⟨r8, rfl, rfl⟩
  refine SL.val (Val.move rfl) rfl rfl ?_
  refine SL.eff (Eff.append tabOk [] Try.underlying34 rfl rfl rfl rfl rfl rfl (bys_ones _) (by unfold maxLen; simp only [bys, List.length_map, List.length_append, List.length_take, List.length_cons, List.length_nil]; omega) (by rw [show Try.prog.bytesOf 5 = 1 by kernel_rfl]; simp only [bys, List.length_map, List.length_append, List.length_take, List.length_cons, List.length_nil]; omega)) rfl rfl ?_
  rintro _ _ ⟨r10, rfl, rfl⟩
  rw [show ([] : List (List Abs)) ++ (l.map fun b => [Abs.v (bc b)]) = bys (l ++ m.take 0) by simp]
  refine SL.val (Val.assign rfl) rfl rfl ?_
  refine SL.nil (SE.seq ?_)
  refine SC.seq ?_
  refine SC.seq (SC.region ?_)
  refine SL.val (Val.loadA tabOk rfl rfl rfl (by first|(apply Or.inl;(repeat first|assumption|exact m0|apply m1);done)|(apply Or.inr;(repeat first|assumption|exact m0|apply m1);done)) List.not_mem_nil (by simp [digA, hm])) rfl rfl ?_
  refine SL.val (Val.move rfl) rfl rfl ?_
  refine SL.nil (SE.seq ?_)
  refine SC.block ?_
  refine SC.loop (ι := Nat × Value) (fun z => [own 5 1 z.2 (bys (l ++ m.take z.1))]) (fun z => [(5, .v z.2), (11, .agg (digA m)), (12, int (z.1 : Nat))]) (fun z => z.1 ≤ 32) (fun z => 32 - z.1) ((0, r10)) (Nat.zero_le _) (by exact ⟨rfl, rfl, rfl, trivial⟩) (by repeat first|exact s0 _|exact s1 _|apply s2|apply s3) ?_
  intro z hz
  refine SC.seq (SC.region ?_)
  refine SL.val (Val.ltI rfl rfl) rfl rfl ?_
  refine SL.nil (SE.seq ?_)
  refine SC.seq ?_
  refine SC.condP rfl ?_ ?_
  rotate_left
  · intro hc13
    refine SC.exit ?_
    refine SE.then_ (by intro h; cases h) ?_
    refine SE.then_ (by intro h; cases h) ?_
    refine SE.exit ?_
    refine SE.seq ?_
    refine SC.seq (SC.region ?_)
    refine SL.val (Val.move rfl) rfl rfl ?_
    refine SL.val (Val.assign rfl) rfl rfl ?_
    refine SL.nil (SE.seq ?_)
    refine SC.ret ?_
    refine SE.freeze [] (t := 4) rfl rfl ?_
    refine SE.fin (rs := [.tmp 4]) rfl (RV.tmp rfl RV.nil) (()) (by repeat first|exact s0 _|exact s1 _|apply s2|apply s3) (by simp [It.rids]) ?_
    exact congrArg byt (by rw [List.take_of_length_le (by omega)])
  intro hc13
  have hlt : z.1 < 32 := by omega
  refine SC.skip ?_
  refine SE.seq ?_
  refine SC.seq ?_
  refine SC.block ?_
  refine SC.seq (SC.region ?_)
  refine SL.val (Val.indexAr (q := z.1) tabOk Try.underlying30 rfl rfl rfl rfl rfl (by omega) (at_map1 (by omega))) rfl rfl ?_
  refine SL.val (Val.assign rfl) rfl rfl ?_
  refine SL.nil (SE.seq ?_)
  refine SC.region ?_
  refine SL.val (Val.move rfl) rfl rfl ?_
  refine SL.val (Val.move rfl) rfl rfl ?_
  refine SL.eff (Eff.buildSl tabOk Try.underlying34 rfl rfl rfl rfl rfl rfl rfl) rfl rfl ?_
  rintro _ _ ⟨rfl, rfl⟩
  refine SL.eff (Eff.append tabOk [] Try.underlying34 rfl rfl rfl rfl rfl rfl (bys_ones [m[z.1]'(by omega)]) (by unfold maxLen; simp only [bys, List.length_map, List.length_append, List.length_take, List.length_cons, List.length_nil]; omega) (by rw [show Try.prog.bytesOf 5 = 1 by kernel_rfl]; simp only [bys, List.length_map, List.length_append, List.length_take, List.length_cons, List.length_nil]; omega)) rfl rfl ?_
  rintro _ _ ⟨r18, rfl, rfl⟩
  have e9 : bys (l ++ m.take z.1) ++ [cellsA (Abs.v (bc (m[z.1]'(by omega))))] = bys (l ++ m.take (z.1 + 1)) := by
    show bys (l ++ m.take z.1) ++ bys [m[z.1]'(by omega)] = _
    rw [bys_app, List.append_assoc, ← List.take_succ_eq_append_getElem]
  rw [e9]
  refine SL.val (Val.assign rfl) rfl rfl ?_
  refine SL.nil ?_
  refine SE.inBlock ?_
  refine SE.seq ?_
  refine SC.region ?_
  first
    | refine SL.val (Val.addI rfl rfl (by simp only [InR, lo, hi]; omega)) rfl rfl ?_
    | refine SL.val (Val.addW rfl rfl) rfl rfl ?_
  refine SL.val (Val.move rfl) rfl rfl ?_
  refine SL.nil ?_
  refine SE.round ((z.1 + 1, r18)) (by first | omega | (dsimp only; omega)) (by first | omega | (dsimp only; omega)) (by exact ⟨rfl, rfl, rfl, trivial⟩) (by repeat first|exact s0 _|exact s1 _|apply s2|apply s3)
set_option maxHeartbeats 2000000 in
theorem rproofs_s (hl : l.length ≤ 100000000) (hn : ps.length ≤ 1000) (hf : ∀ p ∈ ps, p.Few) : Spec Try.prog 185 [byt l, prfsA ps] [] (fun _ : Unit => []) (fun _ => byt (l ++ prfsB ps)) := by
  have hL : lots = 100000000000 := rfl
  refine spec_of Try.func185 rfl Try.ntmps185 rfl fun G w => ?_
  refine SC.seq (SC.region ?_)
  refine SL.val (Val.assign rfl) rfl rfl ?_
  refine SL.nil (SE.seq ?_)
  refine SC.seq (SC.region ?_)
  refine SL.val (Val.move rfl) rfl rfl ?_
  refine SL.val (Val.move rfl) rfl rfl ?_
  first
    | refine SL.val (Val.lenSl rfl Try.underlying50 (List.length_map _)) rfl rfl ?_
    | refine SL.val (Val.lenOwn rfl (by repeat first|assumption|exact m0|apply m1) Try.underlying50 (List.length_map _)) rfl rfl ?_
    | refine SL.val (Val.lenNil rfl Try.underlying50) rfl rfl ?_
  first
    | refine SL.val (Val.convI rfl Try.underlying166 (by kernel_rfl) (by simp only [InR, lo, hi]; omega)) rfl rfl ?_
    | refine SL.val (Val.convU rfl Try.underlying166 (by kernel_rfl)) rfl rfl ?_
  refine SL.call (rput_s (l := l) (x := ps.length) (n := 2) (by omega) rfl) Casts.refl (by kernel_rfl) rfl rfl rfl ?_
  refine After.pure (by repeat first|exact .nil|refine .blk (by repeat first|assumption|exact m0|apply m1) ?_|refine .rd (by repeat first|assumption|exact m0|apply m1) ?_|refine .pc (by repeat first|assumption|exact m0|apply m1) ?_|refine .rdpc (by repeat first|assumption|exact m0|apply m1) ?_) (fun _ => rfl) ?_
  intro _
  refine SL.val (Val.assign rfl) rfl rfl ?_
  refine SL.nil (SE.seq ?_)
  refine SC.seq ?_
  refine SC.seq (SC.region ?_)
  refine SL.val (Val.move rfl) rfl rfl ?_
  first
    | refine SL.val (Val.lenSl rfl Try.underlying50 (List.length_map _)) rfl rfl ?_
    | refine SL.val (Val.lenOwn rfl (by repeat first|assumption|exact m0|apply m1) Try.underlying50 (List.length_map _)) rfl rfl ?_
    | refine SL.val (Val.lenNil rfl Try.underlying50) rfl rfl ?_
  refine SL.val (Val.move rfl) rfl rfl ?_
  refine SL.nil (SE.seq ?_)
  refine SC.block ?_
  refine SC.loop (ι := Nat) (fun z => []) (fun z => [(0, byt (l ++ beBytes ps.length 2 ++ (ps.take z).flatMap Prf.bytes)), (12, prfsA ps), (13, int (ps.length : Nat)), (14, int (z : Nat))]) (fun z => z ≤ ps.length) (fun z => ps.length - z) (0) (Nat.zero_le _) ⟨congrArg (fun m => some (byt m)) (by simp), rfl, rfl, rfl, trivial⟩ (by repeat first|exact s0 _|exact s1 _|apply s2|apply s3) ?_
  intro z hz
  have hlen : (l ++ beBytes ps.length 2 ++ (ps.take z).flatMap Prf.bytes).length ≤ 100000000 + 2 + 1000 * 40000 := by
    have h0 := prfs_length (ps := ps.take z) (fun p hp' => hf p (List.mem_of_mem_take hp'))
    have h9 : (ps.take z).length ≤ ps.length := by simp; omega
    have h8 : (ps.take z).length * 40000 ≤ 1000 * 40000 := Nat.mul_le_mul_right _ (by omega)
    simp only [List.length_append, beBytes_length]
    omega
  refine SC.seq (SC.region ?_)
  refine SL.val (Val.ltI rfl rfl) rfl rfl ?_
  refine SL.nil (SE.seq ?_)
  refine SC.seq ?_
  refine SC.condP rfl ?_ ?_
  rotate_left
  · intro hc15
    refine SC.exit ?_
    refine SE.then_ (by intro h; cases h) ?_
    refine SE.then_ (by intro h; cases h) ?_
    refine SE.exit ?_
    refine SE.seq ?_
    refine SC.seq (SC.region ?_)
    refine SL.val (Val.move rfl) rfl rfl ?_
    refine SL.val (Val.assign rfl) rfl rfl ?_
    refine SL.nil (SE.seq ?_)
    refine SC.ret ?_
    refine SE.fin (rs := [.tmp 4]) rfl (RV.tmp rfl RV.nil) (()) (by repeat first|exact s0 _|exact s1 _|apply s2|apply s3) (by simp [It.rids]) ?_
    have e2 : (l ++ beBytes ps.length 2 ++ (ps.take z).flatMap Prf.bytes) = l ++ prfsB ps := by
      rw [List.take_of_length_le (by omega)]
      simp [prfsB]
    exact congrArg byt e2
  intro hc15
  have hlt : z < ps.length := by omega
  have hfp := hf _ (List.getElem_mem hlt)
  have hbl := hfp.bytes
  refine SC.skip ?_
  refine SE.seq ?_
  refine SC.seq ?_
  refine SC.block ?_
  refine SC.seq (SC.region ?_)
  refine SL.val (Val.indexSl tabOk Try.underlying50 rfl rfl rfl rfl (at_map (by omega)) rfl rfl) rfl rfl ?_
  first
    | refine SL.val (Val.loadAR tabOk rfl rfl rfl (by rfl)) rfl rfl ?_
    | refine SL.val (Val.loadPR tabOk rfl rfl rfl (Nat.le_of_ble_eq_true (by rfl))) rfl rfl ?_
  refine SL.eff (Eff.alloc tabOk rfl) rfl rfl ?_
  rintro _ _ ⟨b6, rfl, rfl⟩
  refine SL.eff (Eff.store tabOk rfl rfl rfl (by repeat first|assumption|exact Upd.here|apply Upd.there) (by rfl) (Nat.le_of_ble_eq_true (by rfl)) (by rfl) (by rfl)) rfl rfl ?_
  rintro _ _ ⟨rfl, rfl⟩
  refine SL.nil (SE.seq ?_)
  refine SC.seq ?_
  refine SC.draw [] (.q 0 (.q 1 (.q 2 (.q 3 (.q 5 (.q 6 (.q 7 (.e 4 (.e 8 (.q 9 .nil)))))))))) (by kernel_rfl) (by kernel_rfl) ?_
  refine SX.val rfl (Val.move rfl) (by simp) rfl rfl ?_
  refine SX.val rfl (Val.fieldAddr tabOk rfl rfl rfl rfl rfl) (by simp) rfl rfl ?_
  refine SX.val rfl (Val.load1 tabOk rfl rfl (by first|(apply Or.inl;(repeat first|assumption|exact m0|apply m1);done)|(apply Or.inr;(repeat first|assumption|exact m0|apply m1);done)) List.not_mem_nil (by rfl)) (by simp) rfl rfl ?_
  refine SX.val rfl (Val.convU rfl Try.underlying166 (by kernel_rfl)) (by first|(simp[mids,It.mids,ownPc];done)|(intro k hk;simp[mids,It.mids,ownPc] at hk ⊢;grind)) rfl rfl ?_
  refine SX.val rfl (Val.fieldAddr tabOk rfl rfl rfl rfl rfl) (by simp) rfl rfl ?_
  refine SX.val rfl (Val.load1 tabOk rfl rfl (by first|(apply Or.inl;(repeat first|assumption|exact m0|apply m1);done)|(apply Or.inr;(repeat first|assumption|exact m0|apply m1);done)) List.not_mem_nil (by rfl)) (by simp) rfl rfl ?_
  refine SX.val rfl (Val.convU rfl Try.underlying166 (by kernel_rfl)) (by first|(simp[mids,It.mids,ownPc];done)|(intro k hk;simp[mids,It.mids,ownPc] at hk ⊢;grind)) rfl rfl ?_
  refine SX.call rfl (rput_s (l := (l ++ beBytes ps.length 2 ++ (ps.take z).flatMap Prf.bytes)) (x := u64 (ps[z]'hlt).seq) (n := 8) (by omega) rfl) (by simp [mids, It.mids]) Casts.refl (by kernel_rfl) rfl rfl rfl ?_
  refine After.pure (by repeat first|exact .nil|refine .blk (by repeat first|assumption|exact m0|apply m1) ?_|refine .rd (by repeat first|assumption|exact m0|apply m1) ?_|refine .pc (by repeat first|assumption|exact m0|apply m1) ?_|refine .rdpc (by repeat first|assumption|exact m0|apply m1) ?_) (fun _ => rfl) ?_
  intro _
  refine SX.call rfl (rput_s (l := (l ++ beBytes ps.length 2 ++ (ps.take z).flatMap Prf.bytes) ++ beBytes (u64 (ps[z]'hlt).seq) 8) (x := u64 (ps[z]'hlt).view) (n := 8) (by simp only [List.length_append, beBytes_length, long8_length, List.length_cons, List.length_nil] at *; omega) rfl) (by simp [mids, It.mids]) Casts.refl (by kernel_rfl) rfl rfl rfl ?_
  refine After.pure (by repeat first|exact .nil|refine .blk (by repeat first|assumption|exact m0|apply m1) ?_|refine .rd (by repeat first|assumption|exact m0|apply m1) ?_|refine .pc (by repeat first|assumption|exact m0|apply m1) ?_|refine .rdpc (by repeat first|assumption|exact m0|apply m1) ?_) (fun _ => rfl) ?_
  intro _
  refine SX.val rfl (Val.assign rfl) (by simp) rfl rfl ?_
  refine SX.nil (SE.seq ?_)
  refine SC.region ?_
  refine SL.val (Val.move rfl) rfl rfl ?_
  refine SL.val (Val.fieldAddr tabOk rfl rfl rfl rfl rfl) rfl rfl ?_
  refine SL.val (Val.load1 tabOk rfl rfl (by first|(apply Or.inl;(repeat first|assumption|exact m0|apply m1);done)|(apply Or.inr;(repeat first|assumption|exact m0|apply m1);done)) List.not_mem_nil (by rfl)) rfl rfl ?_
  refine SL.call (rbbytes_s (es := (ps[z]'hlt).batch) (by have := hfp.len; omega) hfp.all) Casts.refl (by kernel_rfl) rfl rfl rfl ?_
  refine After.pure (by repeat first|exact .nil|refine .blk (by repeat first|assumption|exact m0|apply m1) ?_|refine .rd (by repeat first|assumption|exact m0|apply m1) ?_|refine .pc (by repeat first|assumption|exact m0|apply m1) ?_|refine .rdpc (by repeat first|assumption|exact m0|apply m1) ?_) (fun _ => rfl) ?_
  intro _
  refine SL.call (rrow_s (l := (l ++ beBytes ps.length 2 ++ (ps.take z).flatMap Prf.bytes) ++ beBytes (u64 (ps[z]'hlt).seq) 8 ++ beBytes (u64 (ps[z]'hlt).view) 8) (m := batchB (ps[z]'hlt).batch) (by simp only [List.length_append, beBytes_length, long8_length, List.length_cons, List.length_nil] at *; omega) (by omega)) Casts.refl (by kernel_rfl) rfl rfl rfl ?_
  refine After.pure (by repeat first|exact .nil|refine .blk (by repeat first|assumption|exact m0|apply m1) ?_|refine .rd (by repeat first|assumption|exact m0|apply m1) ?_|refine .pc (by repeat first|assumption|exact m0|apply m1) ?_|refine .rdpc (by repeat first|assumption|exact m0|apply m1) ?_) (fun _ => rfl) ?_
  intro _
  refine SL.val (Val.assign rfl) rfl rfl ?_
  refine SL.nil ?_
  refine SE.inBlock ?_
  refine SE.seq ?_
  refine SC.region ?_
  first
    | refine SL.val (Val.addI rfl rfl (by simp only [InR, lo, hi]; omega)) rfl rfl ?_
    | refine SL.val (Val.addW rfl rfl) rfl rfl ?_
  refine SL.val (Val.move rfl) rfl rfl ?_
  refine SL.nil ?_
  have e1 : (l ++ beBytes ps.length 2 ++ (ps.take z).flatMap Prf.bytes) ++ beBytes (u64 (ps[z]'hlt).seq) 8 ++ beBytes (u64 (ps[z]'hlt).view) 8 ++ beBytes (batchB (ps[z]'hlt).batch).length 4 ++ batchB (ps[z]'hlt).batch = (l ++ beBytes ps.length 2 ++ (ps.take (z + 1)).flatMap Prf.bytes) := by
    rw [List.take_succ_eq_append_getElem hlt, List.flatMap_append]
    simp [Prf.bytes, rowB, long8]
  refine SE.round (z + 1) (by first | omega | (dsimp only; omega)) (by first | omega | (dsimp only; omega)) ⟨congrArg (fun m => some (byt m)) e1, rfl, rfl, rfl, trivial⟩ (by repeat first|exact s0 _|exact s1 _|apply s2|apply s3)
set_option maxHeartbeats 2000000 in
theorem rbytes_s (hf : c.Few) : Spec Try.prog 120 [.agg c.abs] [] (fun _ : Unit => []) (fun _ => byt c.bytes) := by
  have hL : lots = 100000000000 := rfl
  have hn0 := hf.pts
  refine spec_of Try.func120 rfl Try.ntmps120 rfl fun G w => ?_
  refine SC.seq (SC.region ?_)
  refine SL.eff (Eff.boxA rfl) rfl rfl ?_
  rintro _ _ ⟨b1, rfl, rfl⟩
  refine SL.val (Val.assign rfl) rfl rfl ?_
  refine SL.nil (SE.seq ?_)
  refine SC.seq ?_
  refine SC.draw [] (.q 0 (.q 1 (.q 2 (.q 4 (.q 5 (.q 6 (.e 3 (.e 7 (.q 8 .nil))))))))) (by kernel_rfl) (by kernel_rfl) ?_
  refine SX.val rfl (Val.fieldAddr tabOk rfl rfl rfl rfl rfl) (by simp) rfl rfl ?_
  refine SX.val rfl (Val.load1 tabOk rfl rfl (by first|(apply Or.inl;(repeat first|assumption|exact m0|apply m1);done)|(apply Or.inr;(repeat first|assumption|exact m0|apply m1);done)) List.not_mem_nil (by rfl)) (by simp) rfl rfl ?_
  refine SX.val rfl (Val.convU rfl Try.underlying166 (by kernel_rfl)) (by first|(simp[mids,It.mids,ownPc];done)|(intro k hk;simp[mids,It.mids,ownPc] at hk ⊢;grind)) rfl rfl ?_
  refine SX.val rfl (Val.fieldAddr tabOk rfl rfl rfl rfl rfl) (by simp) rfl rfl ?_
  refine SX.val rfl (Val.load1 tabOk rfl rfl (by first|(apply Or.inl;(repeat first|assumption|exact m0|apply m1);done)|(apply Or.inr;(repeat first|assumption|exact m0|apply m1);done)) List.not_mem_nil (by rfl)) (by simp) rfl rfl ?_
  refine SX.val rfl (Val.convU rfl Try.underlying166 (by kernel_rfl)) (by first|(simp[mids,It.mids,ownPc];done)|(intro k hk;simp[mids,It.mids,ownPc] at hk ⊢;grind)) rfl rfl ?_
  refine SX.call rfl (rput_s (l := []) (x := u64 c.view) (n := 8) (by simp; omega) rfl) (by simp [mids, It.mids]) (Casts.cons (fun _ _ _ h => rep_nil h) Casts.refl) (by kernel_rfl) rfl rfl rfl ?_
  refine After.pure (by repeat first|exact .nil|refine .blk (by repeat first|assumption|exact m0|apply m1) ?_|refine .rd (by repeat first|assumption|exact m0|apply m1) ?_|refine .pc (by repeat first|assumption|exact m0|apply m1) ?_|refine .rdpc (by repeat first|assumption|exact m0|apply m1) ?_) (fun _ => rfl) ?_
  intro _
  refine SX.call rfl (rput_s (l := [] ++ beBytes (u64 c.view) 8) (x := u64 c.low) (n := 8) (by simp [beBytes_length]; omega) rfl) (by simp [mids, It.mids]) Casts.refl (by kernel_rfl) rfl rfl rfl ?_
  refine After.pure (by repeat first|exact .nil|refine .blk (by repeat first|assumption|exact m0|apply m1) ?_|refine .rd (by repeat first|assumption|exact m0|apply m1) ?_|refine .pc (by repeat first|assumption|exact m0|apply m1) ?_|refine .rdpc (by repeat first|assumption|exact m0|apply m1) ?_) (fun _ => rfl) ?_
  intro _
  refine SX.val rfl (Val.assign rfl) (by simp) rfl rfl ?_
  refine SX.nil (SE.seq ?_)
  refine SC.seq (SC.region ?_)
  refine SL.val (Val.move rfl) rfl rfl ?_
  refine SL.val (Val.fieldAddr tabOk rfl rfl rfl rfl rfl) rfl rfl ?_
  refine SL.val (Val.load1 tabOk rfl rfl (by first|(apply Or.inl;(repeat first|assumption|exact m0|apply m1);done)|(apply Or.inr;(repeat first|assumption|exact m0|apply m1);done)) List.not_mem_nil (by rfl)) rfl rfl ?_
  first
    | refine SL.val (Val.lenSl rfl Try.underlying49 (List.length_map _)) rfl rfl ?_
    | refine SL.val (Val.lenOwn rfl (by repeat first|assumption|exact m0|apply m1) Try.underlying49 (List.length_map _)) rfl rfl ?_
    | refine SL.val (Val.lenNil rfl Try.underlying49) rfl rfl ?_
  first
    | refine SL.val (Val.convI rfl Try.underlying166 (by kernel_rfl) (by simp only [InR, lo, hi]; omega)) rfl rfl ?_
    | refine SL.val (Val.convU rfl Try.underlying166 (by kernel_rfl)) rfl rfl ?_
  refine SL.call (rput_s (l := [] ++ beBytes (u64 c.view) 8 ++ beBytes (u64 c.low) 8) (x := c.points.length) (n := 2) (by simp [beBytes_length]; omega) rfl) Casts.refl (by kernel_rfl) rfl rfl rfl ?_
  refine After.pure (by repeat first|exact .nil|refine .blk (by repeat first|assumption|exact m0|apply m1) ?_|refine .rd (by repeat first|assumption|exact m0|apply m1) ?_|refine .pc (by repeat first|assumption|exact m0|apply m1) ?_|refine .rdpc (by repeat first|assumption|exact m0|apply m1) ?_) (fun _ => rfl) ?_
  intro _
  refine SL.val (Val.assign rfl) rfl rfl ?_
  refine SL.nil (SE.seq ?_)
  refine SC.seq ?_
  refine SC.seq (SC.region ?_)
  refine SL.val (Val.fieldAddr tabOk rfl rfl rfl rfl rfl) rfl rfl ?_
  refine SL.val (Val.load1 tabOk rfl rfl (by first|(apply Or.inl;(repeat first|assumption|exact m0|apply m1);done)|(apply Or.inr;(repeat first|assumption|exact m0|apply m1);done)) List.not_mem_nil (by rfl)) rfl rfl ?_
  first
    | refine SL.val (Val.lenSl rfl Try.underlying49 (List.length_map _)) rfl rfl ?_
    | refine SL.val (Val.lenOwn rfl (by repeat first|assumption|exact m0|apply m1) Try.underlying49 (List.length_map _)) rfl rfl ?_
    | refine SL.val (Val.lenNil rfl Try.underlying49) rfl rfl ?_
  refine SL.val (Val.move rfl) rfl rfl ?_
  refine SL.nil (SE.seq ?_)
  refine SC.block ?_
  refine SC.loop (ι := Nat) (fun z => [.blk b1 52 c.abs]) (fun z => [(1, ptr b1), (3, byt (c.head z)), (21, pntsA c.points), (22, int (c.points.length : Nat)), (23, int (z : Nat))]) (fun z => z ≤ c.points.length) (fun z => c.points.length - z) (0) (Nat.zero_le _) ⟨rfl, congrArg (fun m => some (byt m)) (by simp [Chg.head, long8]), rfl, rfl, rfl, trivial⟩ (by repeat first|exact s0 _|exact s1 _|apply s2|apply s3) ?_
  intro z hz
  have hlen := c.head_length z hf.pts
  have hpp := prfsB_length hf.fprep hf.prep
  refine SC.seq (SC.region ?_)
  refine SL.val (Val.ltI rfl rfl) rfl rfl ?_
  refine SL.nil (SE.seq ?_)
  refine SC.seq ?_
  refine SC.condP rfl ?_ ?_
  rotate_left
  · intro hc24
    refine SC.exit ?_
    refine SE.then_ (by intro h; cases h) ?_
    refine SE.then_ (by intro h; cases h) ?_
    refine SE.exit ?_
    refine SE.seq ?_
    refine SC.seq ?_
    refine SC.draw [] (.q 0 (.q 1 (.q 2 (.q 4 (.q 5 (.e 3 (.e 6 (.q 7 .nil)))))))) (by kernel_rfl) (by kernel_rfl) ?_
    refine SX.val rfl (Val.move rfl) (by simp) rfl rfl ?_
    refine SX.val rfl (Val.fieldAddr tabOk rfl rfl rfl rfl rfl) (by simp) rfl rfl ?_
    refine SX.val rfl (Val.load1 tabOk rfl rfl (by first|(apply Or.inl;(repeat first|assumption|exact m0|apply m1);done)|(apply Or.inr;(repeat first|assumption|exact m0|apply m1);done)) List.not_mem_nil (by rfl)) (by simp) rfl rfl ?_
    refine SX.val rfl (Val.fieldAddr tabOk rfl rfl rfl rfl rfl) (by simp) rfl rfl ?_
    refine SX.val rfl (Val.load1 tabOk rfl rfl (by first|(apply Or.inl;(repeat first|assumption|exact m0|apply m1);done)|(apply Or.inr;(repeat first|assumption|exact m0|apply m1);done)) List.not_mem_nil (by rfl)) (by simp) rfl rfl ?_
    refine SX.call rfl (rproofs_s (l := c.head z) (ps := c.prepared) (by omega) hf.prep hf.fprep) (by simp [mids, It.mids]) Casts.refl (by kernel_rfl) rfl rfl rfl ?_
    refine After.pure (by repeat first|exact .nil|refine .blk (by repeat first|assumption|exact m0|apply m1) ?_|refine .rd (by repeat first|assumption|exact m0|apply m1) ?_|refine .pc (by repeat first|assumption|exact m0|apply m1) ?_|refine .rdpc (by repeat first|assumption|exact m0|apply m1) ?_) (fun _ => rfl) ?_
    intro _
    refine SX.call rfl (rproofs_s (l := c.head z ++ prfsB c.prepared) (ps := c.proposed) (by rw [List.length_append]; omega) hf.prop hf.fprop) (by simp [mids, It.mids]) Casts.refl (by kernel_rfl) rfl rfl rfl ?_
    refine After.pure (by repeat first|exact .nil|refine .blk (by repeat first|assumption|exact m0|apply m1) ?_|refine .rd (by repeat first|assumption|exact m0|apply m1) ?_|refine .pc (by repeat first|assumption|exact m0|apply m1) ?_|refine .rdpc (by repeat first|assumption|exact m0|apply m1) ?_) (fun _ => rfl) ?_
    intro _
    refine SX.val rfl (Val.assign rfl) (by simp) rfl rfl ?_
    refine SX.nil (SE.seq ?_)
    refine SC.ret ?_
    refine SE.fin (rs := [.tmp 2]) rfl (RV.tmp rfl RV.nil) (()) (by repeat first|exact s0 _|exact s1 _|apply s2|apply s3) (by simp [It.rids]) ?_
    have e2 : z = c.points.length := by omega
    subst e2
    exact congrArg byt (by simp [Chg.bytes])
  intro hc24
  have hlt : z < c.points.length := by omega
  refine SC.skip ?_
  refine SE.seq ?_
  refine SC.seq ?_
  refine SC.block ?_
  refine SC.seq (SC.region ?_)
  refine SL.val (Val.indexSl tabOk Try.underlying49 rfl rfl rfl rfl (at_map (by omega)) rfl rfl) rfl rfl ?_
  refine SL.val (Val.loadAR tabOk rfl rfl rfl (Pnt.size _)) rfl rfl ?_
  refine SL.eff (Eff.alloc tabOk rfl) rfl rfl ?_
  rintro _ _ ⟨b5, rfl, rfl⟩
  refine SL.eff (Eff.store (L' := (c.points[z]'hlt).abs) tabOk rfl rfl rfl (by repeat first|assumption|exact Upd.here|apply Upd.there) (Pnt.size _) (Nat.le_of_ble_eq_true (by rfl)) (Pnt.ones _) (by exact putL_all (Pnt.size _))) rfl rfl ?_
  rintro _ _ ⟨rfl, rfl⟩
  refine SL.nil (SE.seq ?_)
  refine SC.freezeB [] 5 rfl rfl ?_
  refine SC.draw [] (.q 0 (.q 1 (.q 2 (.q 3 (.q 5 (.q 6 (.e 4 (.e 7 (.q 8 .nil))))))))) (by kernel_rfl) (by kernel_rfl) ?_
  refine SX.val rfl (Val.move rfl) (by simp) rfl rfl ?_
  refine SX.val rfl (Val.fieldAddrR tabOk rfl rfl rfl rfl rfl) (by simp) rfl rfl ?_
  refine SX.val rfl (Val.load1R tabOk rfl rfl rfl) (by simp) rfl rfl ?_
  refine SX.val rfl (Val.convU rfl Try.underlying166 (by kernel_rfl)) (by first|(simp[mids,It.mids,ownPc];done)|(intro k hk;simp[mids,It.mids,ownPc] at hk ⊢;grind)) rfl rfl ?_
  refine SX.val rfl (Val.fieldAddrR tabOk rfl rfl rfl rfl rfl) (by simp) rfl rfl ?_
  refine SX.val rfl (Val.loadAR tabOk rfl rfl rfl (Pnt.tail_length _)) (by first|(simp[mids,It.mids,ownPc];done)|(intro k hk;simp[mids,It.mids,ownPc] at hk ⊢;grind)) rfl rfl ?_
  refine SX.call rfl (rput_s (l := c.head z) (x := u64 (c.points[z]'hlt).seq) (n := 8) (by omega) rfl) (by simp [mids, It.mids]) Casts.refl (by kernel_rfl) rfl rfl rfl ?_
  refine After.pure (by repeat first|exact .nil|refine .blk (by repeat first|assumption|exact m0|apply m1) ?_|refine .rd (by repeat first|assumption|exact m0|apply m1) ?_|refine .pc (by repeat first|assumption|exact m0|apply m1) ?_|refine .rdpc (by repeat first|assumption|exact m0|apply m1) ?_) (fun _ => rfl) ?_
  intro _
  refine SX.call rfl (rdig_s (l := c.head z ++ beBytes (u64 (c.points[z]'hlt).seq) 8) (m := (c.points[z]'hlt).dig) (by rw [List.length_append, beBytes_length]; omega) (c.points[z]'hlt).len) (by simp [mids, It.mids]) Casts.refl (by kernel_rfl) rfl rfl rfl ?_
  refine After.pure (by repeat first|exact .nil|refine .blk (by repeat first|assumption|exact m0|apply m1) ?_|refine .rd (by repeat first|assumption|exact m0|apply m1) ?_|refine .pc (by repeat first|assumption|exact m0|apply m1) ?_|refine .rdpc (by repeat first|assumption|exact m0|apply m1) ?_) (fun _ => rfl) ?_
  intro _
  refine SX.val rfl (Val.assign rfl) (by simp) rfl rfl ?_
  refine SX.nil ?_
  refine SE.inBlock ?_
  refine SE.seq ?_
  refine SC.region ?_
  first
    | refine SL.val (Val.addI rfl rfl (by simp only [InR, lo, hi]; omega)) rfl rfl ?_
    | refine SL.val (Val.addW rfl rfl) rfl rfl ?_
  refine SL.val (Val.move rfl) rfl rfl ?_
  refine SL.nil ?_
  have e1 : c.head z ++ beBytes (u64 (c.points[z]'hlt).seq) 8 ++ (c.points[z]'hlt).dig = c.head (z + 1) := by
    unfold Chg.head
    rw [List.take_succ_eq_append_getElem hlt, List.flatMap_append]
    simp [Pnt.bytes, long8]
  refine SE.round (z + 1) (by first | omega | (dsimp only; omega)) (by first | omega | (dsimp only; omega)) ⟨rfl, congrArg (fun m => some (byt m)) e1, rfl, rfl, rfl, trivial⟩ (by repeat first|exact s0 _|exact s1 _|apply s2|apply s3)
end
end Go.Proofs.Ytpgffckfbgfgcaa.A
/-
  Changes out of bytes: rows of proofs, over the second engine.
-/
set_option maxRecDepth 100000
set_option linter.unusedSimpArgs false
set_option linter.unusedVariables false
namespace Go.Proofs.Ytpgffckfbgfgcaa.A
open Go.RowKit

/-- A proof that is read: its head, and its batch's bytes. -/
def Rd.pr1 (s : Rd) : Rd := s.fixed 8
def Rd.pr2 (s : Rd) : Rd := (s.fixed 8).fixed 8
def Rd.prOut (s : Rd) (room : Int) : List UInt8 := (Rd.pr2 s).rowOut room
/-- Rows of proofs as the program reads them. -/
def Rd.prfs (n room : Int) : Nat → Rd → List Prf → Bool → List Prf × Bool × Rd
  | 0, s, acc, o => (acc, o, s)
  | k + 1, s, acc, o => Rd.prfs n room k ((Rd.pr2 s).row room) (acc ++ [⟨sg (s.num 8), sg ((Rd.pr1 s).num 8), (parseS (Rd.prOut s room) n).1⟩]) (o || decide ((parseS (Rd.prOut s room) n).2 ≠ 0))
/-- And as the document does. -/
def Rd.rprfs : Nat → Rd → List Prf → Bool → List Prf × Bool × Rd
  | 0, s, acc, o => (acc, o, s)
  | k + 1, s, acc, o => if s.e ≠ 0 then (acc, o, s) else Rd.rprfs k ((Rd.pr2 s).row 1048576) (acc ++ [⟨sg (s.num 8), sg ((Rd.pr1 s).num 8), (Rd.ens (Rd.of (Rd.prOut s 1048576))).1⟩])
      (o && (Rd.ens (Rd.of (Rd.prOut s 1048576))).2.1 && decide ((Rd.ens (Rd.of (Rd.prOut s 1048576))).2.2.end_ = 0))
theorem Rd.count_length (s : Rd) (most : Int) : (s.count most).l.length ≤ s.l.length := by
  unfold Rd.count
  have := s.fixed_length 2
  split
  · exact this
  · exact this
theorem Rd.countN_lt (s : Rd) (most : Int) : s.countN most < 65536 := by
  unfold Rd.countN
  split
  · omega
  · exact s.num_lt (n := 2) (k := 2) (Nat.le_refl _)
section
variable {p : Nat} {s : Rd} {n room most : Int}
set_option maxHeartbeats 2000000 in
theorem readp_s (hl : s.l.length ≤ 10000000) (hr : 0 ≤ room ∧ room ≤ 9223372036854775807) : Spec Try.prog 189 [ptr p, int n, int most, int room] [rdA TR p s] (fun _ : Unit => [rdA TR p (Rd.prfs n room (s.countN most) (s.count most) [] false).2.2]) (fun _ => .tup [prfsA (Rd.prfs n room (s.countN most) (s.count most) [] false).1, boo (Rd.prfs n room (s.countN most) (s.count most) [] false).2.1]) := by
  have hL : lots = 100000000000 := rfl
  have hcl := Rd.count_length s most
  have hcn := Rd.countN_lt s most
  refine spec_of Try.func189 rfl Try.ntmps189 rfl fun G w => ?_
  refine SC.seq (SC.region ?_)
  refine SL.val (Val.assign rfl) rfl rfl ?_
  refine SL.val (Val.assign rfl) rfl rfl ?_
  refine SL.nil (SE.seq ?_)
  refine SC.seq ?_
  refine SC.seq (SC.region ?_)
  refine SL.val (Val.move rfl) rfl rfl ?_
  refine SL.val (Val.move rfl) rfl rfl ?_
  refine SL.call (count_s (s := s) (n := most) (by omega)) Casts.refl (by kernel_rfl) rfl rfl rfl ?_
  refine After.one rfl (by repeat first|assumption|exact m0|apply m1) (fun _ => rfl) ?_
  intro _
  refine ⟨_, (by repeat first|assumption|exact Upd.here|apply Upd.there), ?_⟩
  refine SL.val (Val.move rfl) rfl rfl ?_
  refine SL.nil (SE.seq ?_)
  refine SC.block ?_
  refine SC.own0 176 3 ?_
  refine SC.loop (ι := Rd × List Prf × Bool × Nat × Value) (fun z => [own 176 3 z.2.2.2.2 (z.2.1.map Prf.abs), rdA TR p z.1]) (fun z => [(0, ptr p), (1, int n), (3, int room), (8, .v z.2.2.2.2), (9, boo z.2.2.1), (15, int ((s.countN most) : Nat)), (16, int (z.2.2.2.1 : Nat))]) (fun z => z.2.2.2.1 ≤ (s.countN most) ∧ z.1.l.length ≤ s.l.length ∧ z.2.1.length = z.2.2.2.1 ∧ Rd.prfs n room ((s.countN most) - z.2.2.2.1) z.1 z.2.1 z.2.2.1 = Rd.prfs n room (s.countN most) (s.count most) [] false) (fun z => (s.countN most) - z.2.2.2.1) (s.count most, [], false, 0, .slice none 0 0) (⟨Nat.zero_le _, hcl, rfl, rfl⟩) (by exact ⟨rfl, rfl, rfl, rfl, rfl, rfl, rfl, trivial⟩) (by repeat first|exact s0 _|exact s1 _|apply s2|apply s3) ?_
  intro z hz
  refine SC.seq (SC.region ?_)
  refine SL.val (Val.ltI rfl rfl) rfl rfl ?_
  refine SL.nil (SE.seq ?_)
  refine SC.seq ?_
  refine SC.condP rfl ?_ ?_
  rotate_left
  · intro hc17
    refine SC.exit ?_
    refine SE.then_ (by intro h; cases h) ?_
    refine SE.then_ (by intro h; cases h) ?_
    refine SE.exit ?_
    refine SE.seq ?_
    refine SC.seq (SC.region ?_)
    refine SL.val (Val.move rfl) rfl rfl ?_
    refine SL.val (Val.move rfl) rfl rfl ?_
    refine SL.val (Val.assign rfl) rfl rfl ?_
    refine SL.val (Val.assign rfl) rfl rfl ?_
    refine SL.nil (SE.seq ?_)
    refine SC.ret ?_
    have e0 : Rd.prfs n room (s.countN most) (s.count most) [] false = (z.2.1, z.2.2.1, z.1) := by
      rw [← hz.2.2.2, show (s.countN most) - z.2.2.2.1 = 0 by omega]
      rfl
    refine SE.freeze [] (t := 8) rfl rfl ?_
    rw [e0]
    refine SE.fin (rs := [.tmp 8, .tmp 9]) rfl (RV.tmp rfl (RV.tmp rfl RV.nil)) (()) (by repeat first|exact s0 _|exact s1 _|apply s2|apply s3) (by simp [It.rids]) ?_
    exact rfl
  intro hc17
  have n1 := z.1.fixed_length 8
  have n2 := (z.1.fixed 8).fixed_length 8
  have n3 : (Rd.prOut z.1 room).length ≤ (z.1.fixed 8 |>.fixed 8).l.length := Rd.rowOut_length _ _
  have n4 := Rd.row_length ((z.1.fixed 8).fixed 8) room
  refine SC.skip ?_
  refine SE.seq ?_
  refine SC.seq ?_
  refine SC.block ?_
  refine SC.seq (SC.region ?_)
  refine SL.val (Val.move rfl) rfl rfl ?_
  refine SL.call (number_s (s := z.1) (n := 8) (by omega) rfl) Casts.refl (by kernel_rfl) rfl rfl rfl ?_
  refine After.one rfl (by repeat first|assumption|exact m0|apply m1) (fun _ => rfl) ?_
  intro _
  refine ⟨_, (by repeat first|assumption|exact Upd.here|apply Upd.there), ?_⟩
  first
    | refine SL.val (Val.convI rfl Try.underlying2 (by kernel_rfl) (by simp only [InR, lo, hi]; omega)) rfl rfl ?_
    | refine SL.val (Val.convW rfl Try.underlying2 (by kernel_rfl)) rfl rfl ?_
  refine SL.val (Val.move rfl) rfl rfl ?_
  refine SL.call (number_s (s := (Rd.pr1 z.1)) (n := 8) (by unfold Rd.pr1; omega) rfl) Casts.refl (by kernel_rfl) rfl rfl rfl ?_
  refine After.one rfl (by repeat first|assumption|exact m0|apply m1) (fun _ => rfl) ?_
  intro _
  refine ⟨_, (by repeat first|assumption|exact Upd.here|apply Upd.there), ?_⟩
  first
    | refine SL.val (Val.convI rfl Try.underlying2 (by kernel_rfl) (by simp only [InR, lo, hi]; omega)) rfl rfl ?_
    | refine SL.val (Val.convW rfl Try.underlying2 (by kernel_rfl)) rfl rfl ?_
  refine SL.val (Val.buildS tabOk rfl rfl rfl rfl) rfl rfl ?_
  refine SL.eff (Eff.alloc tabOk rfl) rfl rfl ?_
  rintro _ _ ⟨b10, rfl, rfl⟩
  refine SL.eff (Eff.store tabOk rfl rfl rfl (by repeat first|assumption|exact Upd.here|apply Upd.there) (by rfl) (Nat.le_of_ble_eq_true (by rfl)) (by rfl) (by rfl)) rfl rfl ?_
  rintro _ _ ⟨rfl, rfl⟩
  refine SL.nil (SE.seq ?_)
  refine SC.seq (SC.region ?_)
  refine SL.val (Val.move rfl) rfl rfl ?_
  refine SL.val (Val.move rfl) rfl rfl ?_
  refine SL.call (rowr_s (s := (Rd.pr2 z.1)) (n := room) (by unfold Rd.pr2; omega) hr) Casts.refl (by kernel_rfl) rfl rfl rfl ?_
  refine After.one rfl (by repeat first|assumption|exact m0|apply m1) (fun _ => rfl) ?_
  intro _
  refine ⟨_, (by repeat first|assumption|exact Upd.here|apply Upd.there), ?_⟩
  refine SL.val (Val.move rfl) rfl rfl ?_
  refine SL.call (bparse_s (l := (Rd.prOut z.1 room)) (n := n) (by omega)) Casts.refl (by kernel_rfl) rfl rfl rfl ?_
  refine After.pure (by repeat first|exact .nil|refine .blk (by repeat first|assumption|exact m0|apply m1) ?_|refine .rd (by repeat first|assumption|exact m0|apply m1) ?_|refine .pc (by repeat first|assumption|exact m0|apply m1) ?_|refine .rdpc (by repeat first|assumption|exact m0|apply m1) ?_) (fun _ => rfl) ?_
  intro _
  refine SL.val (Val.move rfl) rfl rfl ?_
  refine SL.val (Val.extract rfl rfl) rfl rfl ?_
  refine SL.val (Val.extract rfl rfl) rfl rfl ?_
  refine SL.val (Val.assign rfl) rfl rfl ?_
  refine SL.val (Val.assign rfl) rfl rfl ?_
  refine SL.nil (SE.seq ?_)
  refine SC.seq (SC.region ?_)
  refine SL.val (Val.move rfl) rfl rfl ?_
  refine SL.val (Val.fieldAddr tabOk rfl rfl rfl rfl rfl) rfl rfl ?_
  first
    | refine SL.eff (Eff.store tabOk rfl rfl rfl (by repeat first|assumption|exact Upd.here|apply Upd.there) (by rfl) (Nat.le_of_ble_eq_true (by rfl)) (by rfl) (by rfl)) rfl rfl ?_
    | refine SL.eff (Eff.storeOwn tabOk rfl rfl rfl rfl (by repeat first|assumption|exact m0|apply m1) (by repeat first|assumption|exact Upd.here|apply Upd.there) rfl (by rfl)) rfl rfl ?_
  rintro _ _ ⟨rfl, rfl⟩
  refine SL.nil (SE.seq ?_)
  refine SC.seq (SC.region ?_)
  refine SL.val (Val.move rfl) rfl rfl ?_
  refine SL.val (Val.move rfl) rfl rfl ?_
  refine SL.both (t := 36) rfl ?_ ?_
  · intro hc36
    iterate 2 refine SL.skip rfl rfl ?_
    refine SL.val (Val.pickT rfl rfl) rfl rfl ?_
    refine SL.val (Val.assign rfl) rfl rfl ?_
    refine SL.nil (SE.seq ?_)
    refine SC.region ?_
    refine SL.val (Val.move rfl) rfl rfl ?_
    first
      | refine SL.val (Val.loadA tabOk rfl rfl rfl (by first|(apply Or.inl;(repeat first|assumption|exact m0|apply m1);done)|(apply Or.inr;(repeat first|assumption|exact m0|apply m1);done)) List.not_mem_nil (by rfl)) rfl rfl ?_
      | refine SL.val (Val.loadP tabOk rfl rfl rfl (by first|(apply Or.inl;(repeat first|assumption|exact m0|apply m1);done)|(apply Or.inr;(repeat first|assumption|exact m0|apply m1);done)) List.not_mem_nil (Nat.le_of_ble_eq_true (by rfl))) rfl rfl ?_
    refine SL.eff (Eff.buildSl tabOk Try.underlying50 rfl rfl rfl rfl rfl rfl rfl) rfl rfl ?_
    rintro _ _ ⟨rfl, rfl⟩
    refine SL.eff (Eff.appendE (zs := (z.2.1 ++ [(⟨sg (z.1.num 8), sg ((Rd.pr1 z.1).num 8), (parseS (Rd.prOut z.1 room) n).1⟩ : Prf)]).map Prf.abs) tabOk [_] (by rw [List.map_append]; rfl) Try.underlying50 rfl rfl rfl rfl rfl rfl (by intro c hc; rw [List.mem_singleton] at hc; subst hc; rfl) (by unfold maxLen; simp only [List.length_map, List.length_cons, List.length_nil]; omega) (by rw [show Try.prog.bytesOf 176 = 40 by kernel_rfl]; simp only [List.length_map, List.length_cons, List.length_nil]; omega)) rfl rfl ?_
    rintro _ _ ⟨r43, rfl, rfl⟩
    refine SL.val (Val.assign rfl) rfl rfl ?_
    refine SL.nil ?_
    refine SE.inBlock ?_
    refine SE.seq ?_
    refine SC.region ?_
    first
      | refine SL.val (Val.addI rfl rfl (by simp only [InR, lo, hi]; omega)) rfl rfl ?_
      | refine SL.val (Val.addW rfl rfl) rfl rfl ?_
    refine SL.val (Val.move rfl) rfl rfl ?_
    refine SL.nil ?_
    refine SE.round (((Rd.pr2 z.1).row room, z.2.1 ++ [(⟨sg (z.1.num 8), sg ((Rd.pr1 z.1).num 8), (parseS (Rd.prOut z.1 room) n).1⟩ : Prf)], z.2.2.1 || decide ((parseS (Rd.prOut z.1 room) n).2 ≠ 0), z.2.2.2.1 + 1, r43)) (by first | omega | (dsimp only; omega)) (⟨by dsimp only; omega, by dsimp only [Rd.pr2]; omega, by dsimp only; rw [List.length_append, hz.2.2.1]; rfl, by
      rw [← hz.2.2.2]
      obtain ⟨j, hj⟩ : ∃ j, (s.countN most) - z.2.2.2.1 = j + 1 := ⟨(s.countN most) - z.2.2.2.1 - 1, by omega⟩
      rw [hj]
      show Rd.prfs n room ((s.countN most) - (z.2.2.2.1 + 1)) _ _ _ = Rd.prfs n room (j + 1) _ _ _
      rw [show (s.countN most) - (z.2.2.2.1 + 1) = j by omega]
      rfl⟩) ⟨rfl, rfl, rfl, rfl, by show some (boo true) = some (boo (_ || _)); rw [hc36]; rfl, rfl, rfl, trivial⟩ (by repeat first|exact s0 _|exact s1 _|apply s2|apply s3)
  intro hc36
  refine SL.val (Val.move rfl) rfl rfl ?_
  refine SL.val (Val.neI rfl rfl) rfl rfl ?_
  refine SL.val (Val.pickF rfl rfl) rfl rfl ?_
  refine SL.val (Val.assign rfl) rfl rfl ?_
  refine SL.nil (SE.seq ?_)
  refine SC.region ?_
  refine SL.val (Val.move rfl) rfl rfl ?_
  first
    | refine SL.val (Val.loadA tabOk rfl rfl rfl (by first|(apply Or.inl;(repeat first|assumption|exact m0|apply m1);done)|(apply Or.inr;(repeat first|assumption|exact m0|apply m1);done)) List.not_mem_nil (by rfl)) rfl rfl ?_
    | refine SL.val (Val.loadP tabOk rfl rfl rfl (by first|(apply Or.inl;(repeat first|assumption|exact m0|apply m1);done)|(apply Or.inr;(repeat first|assumption|exact m0|apply m1);done)) List.not_mem_nil (Nat.le_of_ble_eq_true (by rfl))) rfl rfl ?_
  refine SL.eff (Eff.buildSl tabOk Try.underlying50 rfl rfl rfl rfl rfl rfl rfl) rfl rfl ?_
  rintro _ _ ⟨rfl, rfl⟩
  refine SL.eff (Eff.appendE (zs := (z.2.1 ++ [(⟨sg (z.1.num 8), sg ((Rd.pr1 z.1).num 8), (parseS (Rd.prOut z.1 room) n).1⟩ : Prf)]).map Prf.abs) tabOk [_] (by rw [List.map_append]; rfl) Try.underlying50 rfl rfl rfl rfl rfl rfl (by intro c hc; rw [List.mem_singleton] at hc; subst hc; rfl) (by unfold maxLen; simp only [List.length_map, List.length_cons, List.length_nil]; omega) (by rw [show Try.prog.bytesOf 176 = 40 by kernel_rfl]; simp only [List.length_map, List.length_cons, List.length_nil]; omega)) rfl rfl ?_
  rintro _ _ ⟨r43, rfl, rfl⟩
  refine SL.val (Val.assign rfl) rfl rfl ?_
  refine SL.nil ?_
  refine SE.inBlock ?_
  refine SE.seq ?_
  refine SC.region ?_
  first
    | refine SL.val (Val.addI rfl rfl (by simp only [InR, lo, hi]; omega)) rfl rfl ?_
    | refine SL.val (Val.addW rfl rfl) rfl rfl ?_
  refine SL.val (Val.move rfl) rfl rfl ?_
  refine SL.nil ?_
  refine SE.round (((Rd.pr2 z.1).row room, z.2.1 ++ [(⟨sg (z.1.num 8), sg ((Rd.pr1 z.1).num 8), (parseS (Rd.prOut z.1 room) n).1⟩ : Prf)], z.2.2.1 || decide ((parseS (Rd.prOut z.1 room) n).2 ≠ 0), z.2.2.2.1 + 1, r43)) (by first | omega | (dsimp only; omega)) (⟨by dsimp only; omega, by dsimp only [Rd.pr2]; omega, by dsimp only; rw [List.length_append, hz.2.2.1]; rfl, by
    rw [← hz.2.2.2]
    obtain ⟨j, hj⟩ : ∃ j, (s.countN most) - z.2.2.2.1 = j + 1 := ⟨(s.countN most) - z.2.2.2.1 - 1, by omega⟩
    rw [hj]
    show Rd.prfs n room ((s.countN most) - (z.2.2.2.1 + 1)) _ _ _ = Rd.prfs n room (j + 1) _ _ _
    rw [show (s.countN most) - (z.2.2.2.1 + 1) = j by omega]
    rfl⟩) ⟨rfl, rfl, rfl, rfl, by show some (boo (decide _)) = some (boo (_ || _)); rw [hc36, Bool.false_or], rfl, rfl, trivial⟩ (by repeat first|exact s0 _|exact s1 _|apply s2|apply s3)
theorem rprfs_stop {s : Rd} {acc : List Prf} {o : Bool} (h : s.e ≠ 0) : ∀ k, Rd.rprfs k s acc o = (acc, o, s)
  | 0 => rfl
  | k + 1 => by show (if s.e ≠ 0 then _ else _) = _; rw [if_pos h]
set_option maxHeartbeats 2000000 in
theorem rreadp_s (hl : s.l.length ≤ 900000) : Spec Try.prog 192 [ptr p, int most] [rdA RR p s] (fun _ : Unit => [rdA RR p (Rd.rprfs (s.countN most) (s.count most) [] true).2.2]) (fun _ => .tup [prfsA (Rd.rprfs (s.countN most) (s.count most) [] true).1, boo (Rd.rprfs (s.countN most) (s.count most) [] true).2.1]) := by
  have hL : lots = 100000000000 := rfl
  have hcl := Rd.count_length s most
  have hcn := Rd.countN_lt s most
  refine spec_of Try.func192 rfl Try.ntmps192 rfl fun G w => ?_
  refine SC.seq (SC.region ?_)
  refine SL.val (Val.assign rfl) rfl rfl ?_
  refine SL.val (Val.assign rfl) rfl rfl ?_
  refine SL.nil (SE.seq ?_)
  refine SC.seq (SC.region ?_)
  refine SL.val (Val.assign rfl) rfl rfl ?_
  refine SL.nil (SE.seq ?_)
  refine SC.seq (SC.region ?_)
  refine SL.val (Val.assign rfl) rfl rfl ?_
  refine SL.nil (SE.seq ?_)
  refine SC.seq ?_
  refine SC.seq (SC.region ?_)
  refine SL.val (Val.move rfl) rfl rfl ?_
  refine SL.val (Val.move rfl) rfl rfl ?_
  refine SL.call (rcount_s (s := s) (n := most) (by omega)) Casts.refl (by kernel_rfl) rfl rfl rfl ?_
  refine After.one rfl (by repeat first|assumption|exact m0|apply m1) (fun _ => rfl) ?_
  intro _
  refine ⟨_, (by repeat first|assumption|exact Upd.here|apply Upd.there), ?_⟩
  refine SL.val (Val.assign rfl) rfl rfl ?_
  refine SL.nil (SE.seq ?_)
  refine SC.block ?_
  refine SC.own0 176 3 ?_
  refine SC.loop (ι := Rd × List Prf × Bool × Nat × Value) (fun z => [own 176 3 z.2.2.2.2 (z.2.1.map Prf.abs), rdA RR p z.1]) (fun z => [(0, ptr p), (6, .v z.2.2.2.2), (7, boo z.2.2.1), (8, int (z.2.2.2.1 : Nat))]) (fun z => z.1.l.length ≤ s.l.length ∧ z.2.1.length + z.2.2.2.1 = (s.countN most) ∧ Rd.rprfs z.2.2.2.1 z.1 z.2.1 z.2.2.1 = Rd.rprfs (s.countN most) (s.count most) [] true) (fun z => z.2.2.2.1) (s.count most, [], true, (s.countN most), .slice none 0 0) (⟨hcl, Nat.zero_add _, rfl⟩) (by exact ⟨rfl, rfl, rfl, rfl, trivial⟩) (by repeat first|exact s0 _|exact s1 _|apply s2|apply s3) ?_
  intro z hz
  refine SC.seq ?_
  refine SC.seq (SC.region ?_)
  refine SL.val (Val.move rfl) rfl rfl ?_
  refine SL.val (Val.gtI rfl rfl) rfl rfl ?_
  refine SL.val (Val.move rfl) rfl rfl ?_
  refine SL.bothP (t := 18) rfl ?_ ?_
  rotate_left
  · intro hc18
    iterate 5 refine SL.skip rfl rfl ?_
    refine SL.val (Val.pickF rfl rfl) rfl rfl ?_
    refine SL.nil (SE.seq ?_)
    refine SC.condF rfl ?_
    refine SC.exit ?_
    refine SE.then_ (by intro h; cases h) ?_
    refine SE.then_ (by intro h; cases h) ?_
    refine SE.exit ?_
    refine SE.seq ?_
    refine SC.seq (SC.region ?_)
    refine SL.val (Val.move rfl) rfl rfl ?_
    refine SL.val (Val.move rfl) rfl rfl ?_
    refine SL.val (Val.assign rfl) rfl rfl ?_
    refine SL.val (Val.assign rfl) rfl rfl ?_
    refine SL.nil (SE.seq ?_)
    refine SC.ret ?_
    have e0 : Rd.rprfs (s.countN most) (s.count most) [] true = (z.2.1, z.2.2.1, z.1) := by
      rw [← hz.2.2]
      first
        | (rw [show z.2.2.2.1 = 0 by omega]; rfl)
        | exact rprfs_stop (by simpa using hc24) _
    refine SE.freeze [] (t := 4) rfl rfl ?_
    rw [e0]
    refine SE.fin (rs := [.tmp 4, .tmp 5]) rfl (RV.tmp rfl (RV.tmp rfl RV.nil)) (()) (by repeat first|exact s0 _|exact s1 _|apply s2|apply s3) (by simp [It.rids]) ?_
    exact rfl
  intro hc18
  refine SL.val (Val.move rfl) rfl rfl ?_
  refine SL.val (Val.nilCheck rfl) rfl rfl ?_
  refine SL.val (Val.fieldAddr tabOk rfl rfl rfl rfl rfl) rfl rfl ?_
  refine SL.val (Val.load1 tabOk rfl rfl (by first|(apply Or.inl;(repeat first|assumption|exact m0|apply m1);done)|(apply Or.inr;(repeat first|assumption|exact m0|apply m1);done)) List.not_mem_nil (by rfl)) rfl rfl ?_
  refine SL.val (Val.eqI rfl rfl) rfl rfl ?_
  refine SL.val (Val.pickT rfl rfl) rfl rfl ?_
  refine SL.nil (SE.seq ?_)
  refine SC.condP rfl ?_ ?_
  rotate_left
  · intro hc24
    refine SC.exit ?_
    refine SE.then_ (by intro h; cases h) ?_
    refine SE.then_ (by intro h; cases h) ?_
    refine SE.exit ?_
    refine SE.seq ?_
    refine SC.seq (SC.region ?_)
    refine SL.val (Val.move rfl) rfl rfl ?_
    refine SL.val (Val.move rfl) rfl rfl ?_
    refine SL.val (Val.assign rfl) rfl rfl ?_
    refine SL.val (Val.assign rfl) rfl rfl ?_
    refine SL.nil (SE.seq ?_)
    refine SC.ret ?_
    have e0 : Rd.rprfs (s.countN most) (s.count most) [] true = (z.2.1, z.2.2.1, z.1) := by
      rw [← hz.2.2]
      first
        | (rw [show z.2.2.2.1 = 0 by omega]; rfl)
        | exact rprfs_stop (by simpa using hc24) _
    refine SE.freeze [] (t := 4) rfl rfl ?_
    rw [e0]
    refine SE.fin (rs := [.tmp 4, .tmp 5]) rfl (RV.tmp rfl (RV.tmp rfl RV.nil)) (()) (by repeat first|exact s0 _|exact s1 _|apply s2|apply s3) (by simp [It.rids]) ?_
    exact rfl
  intro hc24
  have n1 := z.1.fixed_length 8
  have n2 := (z.1.fixed 8).fixed_length 8
  have n3 : (Rd.prOut z.1 1048576).length ≤ (z.1.fixed 8 |>.fixed 8).l.length := Rd.rowOut_length _ _
  have n4 := Rd.row_length ((z.1.fixed 8).fixed 8) 1048576
  refine SC.skip ?_
  refine SE.seq ?_
  refine SC.seq ?_
  refine SC.block ?_
  refine SC.seq (SC.region ?_)
  refine SL.val (Val.move rfl) rfl rfl ?_
  refine SL.call (rnumber_s (s := z.1) (n := 8) (by omega) rfl) Casts.refl (by kernel_rfl) rfl rfl rfl ?_
  refine After.one rfl (by repeat first|assumption|exact m0|apply m1) (fun _ => rfl) ?_
  intro _
  refine ⟨_, (by repeat first|assumption|exact Upd.here|apply Upd.there), ?_⟩
  first
    | refine SL.val (Val.convI rfl Try.underlying2 (by kernel_rfl) (by simp only [InR, lo, hi]; omega)) rfl rfl ?_
    | refine SL.val (Val.convW rfl Try.underlying2 (by kernel_rfl)) rfl rfl ?_
  refine SL.val (Val.move rfl) rfl rfl ?_
  refine SL.call (rnumber_s (s := (Rd.pr1 z.1)) (n := 8) (by unfold Rd.pr1; omega) rfl) Casts.refl (by kernel_rfl) rfl rfl rfl ?_
  refine After.one rfl (by repeat first|assumption|exact m0|apply m1) (fun _ => rfl) ?_
  intro _
  refine ⟨_, (by repeat first|assumption|exact Upd.here|apply Upd.there), ?_⟩
  first
    | refine SL.val (Val.convI rfl Try.underlying2 (by kernel_rfl) (by simp only [InR, lo, hi]; omega)) rfl rfl ?_
    | refine SL.val (Val.convW rfl Try.underlying2 (by kernel_rfl)) rfl rfl ?_
  refine SL.val (Val.buildS tabOk rfl rfl rfl rfl) rfl rfl ?_
  refine SL.eff (Eff.alloc tabOk rfl) rfl rfl ?_
  rintro _ _ ⟨b9, rfl, rfl⟩
  refine SL.eff (Eff.store tabOk rfl rfl rfl (by repeat first|assumption|exact Upd.here|apply Upd.there) (by rfl) (Nat.le_of_ble_eq_true (by rfl)) (by rfl) (by rfl)) rfl rfl ?_
  rintro _ _ ⟨rfl, rfl⟩
  refine SL.nil (SE.seq ?_)
  refine SC.seq (SC.region ?_)
  refine SL.val (Val.move rfl) rfl rfl ?_
  refine SL.call (rrowr_s (s := (Rd.pr2 z.1)) (n := 1048576) (by unfold Rd.pr2; omega) (by omega)) Casts.refl (by kernel_rfl) rfl rfl rfl ?_
  refine After.one rfl (by repeat first|assumption|exact m0|apply m1) (fun _ => rfl) ?_
  intro _
  refine ⟨_, (by repeat first|assumption|exact Upd.here|apply Upd.there), ?_⟩
  refine SL.val (Val.buildS tabOk rfl rfl rfl rfl) rfl rfl ?_
  refine SL.eff (Eff.boxA rfl) rfl rfl ?_
  rintro _ _ ⟨b37, rfl, rfl⟩
  refine SL.val (Val.assign rfl) rfl rfl ?_
  refine SL.nil (SE.seq ?_)
  refine SC.seq (SC.region ?_)
  refine SL.val (Val.move rfl) rfl rfl ?_
  refine SL.call (rbread_s (s := Rd.of (Rd.prOut z.1 1048576)) (by show (Rd.prOut z.1 1048576).length ≤ lots; omega)) Casts.refl (by kernel_rfl) rfl rfl rfl ?_
  refine After.one rfl (by repeat first|assumption|exact m0|apply m1) (fun _ => rfl) ?_
  intro _
  refine ⟨_, (by repeat first|assumption|exact Upd.here|apply Upd.there), ?_⟩
  refine SL.val (Val.move rfl) rfl rfl ?_
  refine SL.val (Val.extract rfl rfl) rfl rfl ?_
  refine SL.val (Val.extract rfl rfl) rfl rfl ?_
  refine SL.val (Val.assign rfl) rfl rfl ?_
  refine SL.val (Val.assign rfl) rfl rfl ?_
  refine SL.nil (SE.seq ?_)
  refine SC.seq (SC.region ?_)
  refine SL.val (Val.move rfl) rfl rfl ?_
  refine SL.val (Val.move rfl) rfl rfl ?_
  refine SL.both (t := 44) rfl ?_ ?_
  rotate_left
  · intro hc44
    refine SL.skip rfl rfl ?_
    refine SL.val (Val.pickF rfl rfl) rfl rfl ?_
    refine SL.val (Val.move rfl) rfl rfl ?_
    iterate 3 refine SL.skip rfl rfl ?_
    refine SL.val (Val.pickF rfl rfl) rfl rfl ?_
    refine SL.val (Val.assign rfl) rfl rfl ?_
    refine SL.nil (SE.seq ?_)
    refine SC.seq (SC.region ?_)
    refine SL.val (Val.move rfl) rfl rfl ?_
    refine SL.val (Val.fieldAddr tabOk rfl rfl rfl rfl rfl) rfl rfl ?_
    first
      | refine SL.eff (Eff.store tabOk rfl rfl rfl (by repeat first|assumption|exact Upd.here|apply Upd.there) (by rfl) (Nat.le_of_ble_eq_true (by rfl)) (by rfl) (by rfl)) rfl rfl ?_
      | refine SL.eff (Eff.storeOwn tabOk rfl rfl rfl rfl (by repeat first|assumption|exact m0|apply m1) (by repeat first|assumption|exact Upd.here|apply Upd.there) rfl (by rfl)) rfl rfl ?_
    rintro _ _ ⟨rfl, rfl⟩
    refine SL.nil (SE.seq ?_)
    refine SC.region ?_
    refine SL.val (Val.move rfl) rfl rfl ?_
    first
      | refine SL.val (Val.loadA tabOk rfl rfl rfl (by first|(apply Or.inl;(repeat first|assumption|exact m0|apply m1);done)|(apply Or.inr;(repeat first|assumption|exact m0|apply m1);done)) List.not_mem_nil (by rfl)) rfl rfl ?_
      | refine SL.val (Val.loadP tabOk rfl rfl rfl (by first|(apply Or.inl;(repeat first|assumption|exact m0|apply m1);done)|(apply Or.inr;(repeat first|assumption|exact m0|apply m1);done)) List.not_mem_nil (Nat.le_of_ble_eq_true (by rfl))) rfl rfl ?_
    refine SL.eff (Eff.buildSl tabOk Try.underlying50 rfl rfl rfl rfl rfl rfl rfl) rfl rfl ?_
    rintro _ _ ⟨rfl, rfl⟩
    refine SL.eff (Eff.appendE (zs := (z.2.1 ++ [(⟨sg (z.1.num 8), sg ((Rd.pr1 z.1).num 8), (Rd.ens (Rd.of (Rd.prOut z.1 1048576))).1⟩ : Prf)]).map Prf.abs) tabOk [_, _] (by rw [List.map_append]; rfl) Try.underlying50 rfl rfl rfl rfl rfl rfl (by intro c hc; rw [List.mem_singleton] at hc; subst hc; rfl) (by unfold maxLen; simp only [List.length_map, List.length_cons, List.length_nil]; omega) (by rw [show Try.prog.bytesOf 176 = 40 by kernel_rfl]; simp only [List.length_map, List.length_cons, List.length_nil]; omega)) rfl rfl ?_
    rintro _ _ ⟨r57, rfl, rfl⟩
    refine SL.val (Val.assign rfl) rfl rfl ?_
    refine SL.nil ?_
    refine SE.inBlock ?_
    refine SE.seq ?_
    refine SC.region ?_
    refine SL.val (Val.move rfl) rfl rfl ?_
    first
      | refine SL.val (Val.subI rfl rfl (by simp only [InR, lo, hi]; omega)) rfl rfl ?_
      | refine SL.val (Val.subW rfl rfl) rfl rfl ?_
    refine SL.val (Val.assign rfl) rfl rfl ?_
    refine SL.nil ?_
    refine SE.round (((Rd.pr2 z.1).row 1048576, z.2.1 ++ [(⟨sg (z.1.num 8), sg ((Rd.pr1 z.1).num 8), (Rd.ens (Rd.of (Rd.prOut z.1 1048576))).1⟩ : Prf)], z.2.2.1 && (Rd.ens (Rd.of (Rd.prOut z.1 1048576))).2.1 && decide ((Rd.ens (Rd.of (Rd.prOut z.1 1048576))).2.2.end_ = 0), z.2.2.2.1 - 1, r57)) (by first | omega | (dsimp only; omega)) (⟨by dsimp only [Rd.pr2]; omega, by dsimp only; rw [List.length_append, List.length_singleton]; omega, by
      rw [← hz.2.2]
      obtain ⟨j, hj⟩ : ∃ j, z.2.2.2.1 = j + 1 := ⟨z.2.2.2.1 - 1, by omega⟩
      show Rd.rprfs (z.2.2.2.1 - 1) _ _ _ = Rd.rprfs z.2.2.2.1 _ _ _
      rw [hj, Nat.add_sub_cancel]
      show _ = (if z.1.e ≠ 0 then _ else _)
      rw [if_neg (by simpa using hc24)]⟩) ⟨rfl, rfl, (by show some (boo false) = some (boo (_ && _ && _)); rw [hc44]; rfl), (by show some (Abs.v (Value.int _ ((z.2.2.2.1 : Int) - 1))) = some (Abs.v (Value.int _ ((z.2.2.2.1 - 1 : Nat) : Int))); congr 3; omega), trivial⟩ (by repeat first|exact s0 _|exact s1 _|apply s2|apply s3)
  intro hc44
  refine SL.val (Val.move rfl) rfl rfl ?_
  refine SL.val (Val.pickT rfl rfl) rfl rfl ?_
  refine SL.val (Val.move rfl) rfl rfl ?_
  refine SL.both (t := 47) rfl ?_ ?_
  rotate_left
  · intro hc47
    iterate 3 refine SL.skip rfl rfl ?_
    refine SL.val (Val.pickF rfl rfl) rfl rfl ?_
    refine SL.val (Val.assign rfl) rfl rfl ?_
    refine SL.nil (SE.seq ?_)
    refine SC.seq (SC.region ?_)
    refine SL.val (Val.move rfl) rfl rfl ?_
    refine SL.val (Val.fieldAddr tabOk rfl rfl rfl rfl rfl) rfl rfl ?_
    first
      | refine SL.eff (Eff.store tabOk rfl rfl rfl (by repeat first|assumption|exact Upd.here|apply Upd.there) (by rfl) (Nat.le_of_ble_eq_true (by rfl)) (by rfl) (by rfl)) rfl rfl ?_
      | refine SL.eff (Eff.storeOwn tabOk rfl rfl rfl rfl (by repeat first|assumption|exact m0|apply m1) (by repeat first|assumption|exact Upd.here|apply Upd.there) rfl (by rfl)) rfl rfl ?_
    rintro _ _ ⟨rfl, rfl⟩
    refine SL.nil (SE.seq ?_)
    refine SC.region ?_
    refine SL.val (Val.move rfl) rfl rfl ?_
    first
      | refine SL.val (Val.loadA tabOk rfl rfl rfl (by first|(apply Or.inl;(repeat first|assumption|exact m0|apply m1);done)|(apply Or.inr;(repeat first|assumption|exact m0|apply m1);done)) List.not_mem_nil (by rfl)) rfl rfl ?_
      | refine SL.val (Val.loadP tabOk rfl rfl rfl (by first|(apply Or.inl;(repeat first|assumption|exact m0|apply m1);done)|(apply Or.inr;(repeat first|assumption|exact m0|apply m1);done)) List.not_mem_nil (Nat.le_of_ble_eq_true (by rfl))) rfl rfl ?_
    refine SL.eff (Eff.buildSl tabOk Try.underlying50 rfl rfl rfl rfl rfl rfl rfl) rfl rfl ?_
    rintro _ _ ⟨rfl, rfl⟩
    refine SL.eff (Eff.appendE (zs := (z.2.1 ++ [(⟨sg (z.1.num 8), sg ((Rd.pr1 z.1).num 8), (Rd.ens (Rd.of (Rd.prOut z.1 1048576))).1⟩ : Prf)]).map Prf.abs) tabOk [_, _] (by rw [List.map_append]; rfl) Try.underlying50 rfl rfl rfl rfl rfl rfl (by intro c hc; rw [List.mem_singleton] at hc; subst hc; rfl) (by unfold maxLen; simp only [List.length_map, List.length_cons, List.length_nil]; omega) (by rw [show Try.prog.bytesOf 176 = 40 by kernel_rfl]; simp only [List.length_map, List.length_cons, List.length_nil]; omega)) rfl rfl ?_
    rintro _ _ ⟨r57, rfl, rfl⟩
    refine SL.val (Val.assign rfl) rfl rfl ?_
    refine SL.nil ?_
    refine SE.inBlock ?_
    refine SE.seq ?_
    refine SC.region ?_
    refine SL.val (Val.move rfl) rfl rfl ?_
    first
      | refine SL.val (Val.subI rfl rfl (by simp only [InR, lo, hi]; omega)) rfl rfl ?_
      | refine SL.val (Val.subW rfl rfl) rfl rfl ?_
    refine SL.val (Val.assign rfl) rfl rfl ?_
    refine SL.nil ?_
    refine SE.round (((Rd.pr2 z.1).row 1048576, z.2.1 ++ [(⟨sg (z.1.num 8), sg ((Rd.pr1 z.1).num 8), (Rd.ens (Rd.of (Rd.prOut z.1 1048576))).1⟩ : Prf)], z.2.2.1 && (Rd.ens (Rd.of (Rd.prOut z.1 1048576))).2.1 && decide ((Rd.ens (Rd.of (Rd.prOut z.1 1048576))).2.2.end_ = 0), z.2.2.2.1 - 1, r57)) (by first | omega | (dsimp only; omega)) (⟨by dsimp only [Rd.pr2]; omega, by dsimp only; rw [List.length_append, List.length_singleton]; omega, by
      rw [← hz.2.2]
      obtain ⟨j, hj⟩ : ∃ j, z.2.2.2.1 = j + 1 := ⟨z.2.2.2.1 - 1, by omega⟩
      show Rd.rprfs (z.2.2.2.1 - 1) _ _ _ = Rd.rprfs z.2.2.2.1 _ _ _
      rw [hj, Nat.add_sub_cancel]
      show _ = (if z.1.e ≠ 0 then _ else _)
      rw [if_neg (by simpa using hc24)]⟩) ⟨rfl, rfl, (by show some (boo false) = some (boo (_ && _ && _)); rw [hc44, hc47]; rfl), (by show some (Abs.v (Value.int _ ((z.2.2.2.1 : Int) - 1))) = some (Abs.v (Value.int _ ((z.2.2.2.1 - 1 : Nat) : Int))); congr 3; omega), trivial⟩ (by repeat first|exact s0 _|exact s1 _|apply s2|apply s3)
  intro hc47
  refine SL.val (Val.move rfl) rfl rfl ?_
  refine SL.call (rend_s (s := (Rd.ens (Rd.of (Rd.prOut z.1 1048576))).2.2)) Casts.refl (by kernel_rfl) rfl rfl rfl ?_
  refine After.one rfl (by repeat first|assumption|exact m0|apply m1) (fun _ => rfl) ?_
  intro _
  refine ⟨_, (by repeat first|assumption|exact Upd.here|apply Upd.there), ?_⟩
  refine SL.val (Val.eqI rfl rfl) rfl rfl ?_
  refine SL.val (Val.pickT rfl rfl) rfl rfl ?_
  refine SL.val (Val.assign rfl) rfl rfl ?_
  refine SL.nil (SE.seq ?_)
  refine SC.seq (SC.region ?_)
  refine SL.val (Val.move rfl) rfl rfl ?_
  refine SL.val (Val.fieldAddr tabOk rfl rfl rfl rfl rfl) rfl rfl ?_
  first
    | refine SL.eff (Eff.store tabOk rfl rfl rfl (by repeat first|assumption|exact Upd.here|apply Upd.there) (by rfl) (Nat.le_of_ble_eq_true (by rfl)) (by rfl) (by rfl)) rfl rfl ?_
    | refine SL.eff (Eff.storeOwn tabOk rfl rfl rfl rfl (by repeat first|assumption|exact m0|apply m1) (by repeat first|assumption|exact Upd.here|apply Upd.there) rfl (by rfl)) rfl rfl ?_
  rintro _ _ ⟨rfl, rfl⟩
  refine SL.nil (SE.seq ?_)
  refine SC.region ?_
  refine SL.val (Val.move rfl) rfl rfl ?_
  first
    | refine SL.val (Val.loadA tabOk rfl rfl rfl (by first|(apply Or.inl;(repeat first|assumption|exact m0|apply m1);done)|(apply Or.inr;(repeat first|assumption|exact m0|apply m1);done)) List.not_mem_nil (by rfl)) rfl rfl ?_
    | refine SL.val (Val.loadP tabOk rfl rfl rfl (by first|(apply Or.inl;(repeat first|assumption|exact m0|apply m1);done)|(apply Or.inr;(repeat first|assumption|exact m0|apply m1);done)) List.not_mem_nil (Nat.le_of_ble_eq_true (by rfl))) rfl rfl ?_
  refine SL.eff (Eff.buildSl tabOk Try.underlying50 rfl rfl rfl rfl rfl rfl rfl) rfl rfl ?_
  rintro _ _ ⟨rfl, rfl⟩
  refine SL.eff (Eff.appendE (zs := (z.2.1 ++ [(⟨sg (z.1.num 8), sg ((Rd.pr1 z.1).num 8), (Rd.ens (Rd.of (Rd.prOut z.1 1048576))).1⟩ : Prf)]).map Prf.abs) tabOk [_, _] (by rw [List.map_append]; rfl) Try.underlying50 rfl rfl rfl rfl rfl rfl (by intro c hc; rw [List.mem_singleton] at hc; subst hc; rfl) (by unfold maxLen; simp only [List.length_map, List.length_cons, List.length_nil]; omega) (by rw [show Try.prog.bytesOf 176 = 40 by kernel_rfl]; simp only [List.length_map, List.length_cons, List.length_nil]; omega)) rfl rfl ?_
  rintro _ _ ⟨r57, rfl, rfl⟩
  refine SL.val (Val.assign rfl) rfl rfl ?_
  refine SL.nil ?_
  refine SE.inBlock ?_
  refine SE.seq ?_
  refine SC.region ?_
  refine SL.val (Val.move rfl) rfl rfl ?_
  first
    | refine SL.val (Val.subI rfl rfl (by simp only [InR, lo, hi]; omega)) rfl rfl ?_
    | refine SL.val (Val.subW rfl rfl) rfl rfl ?_
  refine SL.val (Val.assign rfl) rfl rfl ?_
  refine SL.nil ?_
  refine SE.round (((Rd.pr2 z.1).row 1048576, z.2.1 ++ [(⟨sg (z.1.num 8), sg ((Rd.pr1 z.1).num 8), (Rd.ens (Rd.of (Rd.prOut z.1 1048576))).1⟩ : Prf)], z.2.2.1 && (Rd.ens (Rd.of (Rd.prOut z.1 1048576))).2.1 && decide ((Rd.ens (Rd.of (Rd.prOut z.1 1048576))).2.2.end_ = 0), z.2.2.2.1 - 1, r57)) (by first | omega | (dsimp only; omega)) (⟨by dsimp only [Rd.pr2]; omega, by dsimp only; rw [List.length_append, List.length_singleton]; omega, by
    rw [← hz.2.2]
    obtain ⟨j, hj⟩ : ∃ j, z.2.2.2.1 = j + 1 := ⟨z.2.2.2.1 - 1, by omega⟩
    show Rd.rprfs (z.2.2.2.1 - 1) _ _ _ = Rd.rprfs z.2.2.2.1 _ _ _
    rw [hj, Nat.add_sub_cancel]
    show _ = (if z.1.e ≠ 0 then _ else _)
    rw [if_neg (by simpa using hc24)]⟩) ⟨rfl, rfl, (by show some (boo (decide _)) = some (boo (_ && _ && _)); rw [hc44, hc47, Bool.true_and, Bool.true_and]), (by show some (Abs.v (Value.int _ ((z.2.2.2.1 : Int) - 1))) = some (Abs.v (Value.int _ ((z.2.2.2.1 - 1 : Nat) : Int))); congr 3; omega), trivial⟩ (by repeat first|exact s0 _|exact s1 _|apply s2|apply s3)
end
end Go.Proofs.Ytpgffckfbgfgcaa.A
