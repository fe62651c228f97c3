/-
  Packed out of the texts: Y11, Law, Open, OpenBytes, AOpen.
-/
import Derived.Test.YtonceioajbimaaaG09
import Derived.Test.YtonceioajbimaaaRows
import Derived.OpenShut
import Derived.SizedLaws
import Derived.Deep.Slices
/-
  TallyPlays: the walk.
-/
set_option maxRecDepth 100000
set_option linter.unusedSimpArgs false
set_option linter.unusedVariables false
namespace Go.Proofs.Ytonceioajbimaaa.A
open Go.RowKit Go.Maps Go.Sort Go.Shelf

/-- What a call asks: Add, or Change. -/
structure Act20 where
  kind : UInt8
  who : Int
  vote : Vt
def Act20.ok (a : Act20) : Prop := intOk a.who ∧ vtOk a.vote
def actC (a : Act20) : List Abs := .v (bc a.kind) :: int a.who :: vtC a.vote
theorem actC_len (a : Act20) : (actC a).length = 36 := by simp [actC, vtC_len]
theorem actC_ones (a : Act20) : ones (actC a) = true := by
  have h := vtC_ones a.vote
  unfold actC
  rw [ones_iff] at h ⊢
  intro x hx
  rcases List.mem_cons.1 hx with rfl | hx
  · rfl
  rcases List.mem_cons.1 hx with rfl | hx
  · rfl
  · exact h x hx
theorem act_part (a : Act20) : part (actC a) 2 34 = vtC a.vote := by
  unfold part actC
  rw [List.drop_succ_cons, List.drop_succ_cons, List.drop_zero, List.take_of_length_le (by rw [vtC_len]; omega)]
theorem act_le (a : Act20) : 2 + 34 ≤ (actC a).length := by rw [actC_len]; omega
abbrev actsA (l : List Act20) : Abs := .sl 36 (l.map actC)
theorem vtA_eq (o : Option Vt) : vtA o = .agg (vtC (o.getD vt0)) := by cases o <;> rfl
theorem aput_vals {m : List (Int × Vt)} (h : ∀ w v, aget m w = some v → vtOk v) (who : Int) {k : Vt} (hk : vtOk k) : ∀ w v, aget (aput m who k) w = some v → vtOk v := fun w v hv => by
  rw [aget_aput] at hv
  split at hv
  · cases hv; exact hk
  · exact h w v hv
theorem aput_oks {m : List (Int × Vt)} (h : ∀ w ∈ m.map (·.1), intOk w) {who : Int} (hw : intOk who) (k : Vt) : ∀ w ∈ (aput m who k).map (·.1), intOk w := fun w hx => by
  rw [aput_keys] at hx
  split at hx
  · exact h w hx
  · rcases List.mem_append.1 hx with hx | hx
    · exact h w hx
    · rw [List.mem_singleton.1 hx]; exact hw
theorem Rel.vals {r m : List (Int × Vt)} (h : Rel r m) (hm : ∀ w v, Go.Proofs.Ytonceioajbimaaa.aget m w = some v → vtOk v) : ∀ p ∈ r, vtOk p.2 := fun p hp => hm p.1 p.2 (by rw [← h.aget, aget_some h.nd]; exact hp)
theorem Rel.gOf {r m : List (Int × Vt)} (h : Rel r m) (w : Int) : gOf m w = Go.Proofs.Ytonceioajbimaaa.A.gOf r w := by
  unfold Go.Proofs.Ytonceioajbimaaa.A.gOf
  rw [h.aget]
theorem Rel.gAt {r m : List (Int × Vt)} (h : Rel r m) : ∀ p ∈ m, Go.Proofs.Ytonceioajbimaaa.A.gOf m p.1 = p.2 := fun p hp => by
  unfold Go.Proofs.Ytonceioajbimaaa.A.gOf
  rw [(aget_some h.nd2).2 hp]
  rfl
theorem leastQ_ok {c : Vt → Nat} {at_ : Int} : ∀ {r : List (Int × Vt)}, (∀ p ∈ r, vtOk p.2) → vtOk ((leastQ c at_ r).getD vt0)
  | [], _ => vt0_ok
  | p :: r, h => by
    unfold leastQ
    split
    · exact h p List.mem_cons_self
    · exact leastQ_ok fun q hq => h q (List.mem_cons_of_mem _ hq)
/-- What is kept from call to call. -/
structure Kp (n : Nat) (m : List (Int × Vt)) (c : List (Vt × Nat)) (r : List (Int × Vt)) : Prop where
  inv : TInv m c
  rel : Rel r m
  len : m.length ≤ n
  keys : ∀ w ∈ m.map (·.1), intOk w
  vals : ∀ w v, aget m w = some v → vtOk v
theorem Kp.nil : Kp 0 [] [] [] := ⟨TInv.nil, Rel.nil, Nat.le_refl _, fun _ h => (by cases h), fun _ _ h => (by cases h)⟩
theorem Kp.chg {n : Nat} {m : List (Int × Vt)} {c : List (Vt × Nat)} {r : List (Int × Vt)} (h : Kp n m c r) {who : Int} (hw : intOk who) {k : Vt} (hk : vtOk k) : Kp (n + 1) (aput m who k) (chgC m c who k) (chgR r who k) :=
  ⟨h.inv.chg who k, h.rel.chg who k, Nat.le_trans (aput_length_le m who k) (by have := h.len; omega), aput_oks h.keys hw k, aput_vals h.vals who hk⟩
theorem Kp.more {n : Nat} {m : List (Int × Vt)} {c : List (Vt × Nat)} {r : List (Int × Vt)} (h : Kp n m c r) : Kp (n + 1) m c r := ⟨h.inv, h.rel, Nat.le_succ_of_le h.len, h.keys, h.vals⟩
theorem Kp.addN {n : Nat} {m : List (Int × Vt)} {c : List (Vt × Nat)} {r : List (Int × Vt)} (h : Kp n m c r) {who : Int} (hw : intOk who) {k : Vt} (hk : vtOk k) (hv : (!(aget r who).isSome) = true) : Kp (n + 1) (tAddM m who k) (tAddC m c who k) (chgR r who k) ∧ (aget (tAddM m who k) who).isSome = true := by
  have hn : aget m who = none := by rw [← h.rel.aget]; simpa using hv
  rw [tAddM_new hn, tAddC_new hn]
  exact ⟨h.chg hw hk, by rw [aget_aput, if_pos rfl]; rfl⟩
theorem Kp.addO {n : Nat} {m : List (Int × Vt)} {c : List (Vt × Nat)} {r : List (Int × Vt)} (h : Kp n m c r) {who : Int} {k : Vt} (hv : (!(aget r who).isSome) = false) : Kp (n + 1) (tAddM m who k) (tAddC m c who k) r ∧ (aget (tAddM m who k) who).isSome = true := by
  have hs : (aget m who).isSome = true := by
    rw [← h.rel.aget]
    cases hb : (aget r who).isSome with
    | true => rfl
    | false => rw [hb] at hv; cases hv
  obtain ⟨v, hn⟩ := isSome_some hs
  rw [tAddM_old hn, tAddC_old hn]
  exact ⟨h.more, hs⟩
theorem Kp.setO {n : Nat} {m : List (Int × Vt)} {c : List (Vt × Nat)} {r : List (Int × Vt)} (h : Kp n m c r) {who : Int} (hw : intOk who) {k : Vt} (hk : vtOk k) : Kp (n + 1) (aput m who k) (chgC m c who k) (chgR r who k) ∧ (aget (aput m who k) who).isSome = true := ⟨h.chg hw hk, by rw [aget_aput, if_pos rfl]; rfl⟩
theorem Kp.bN {n : Nat} {m : List (Int × Vt)} {c : List (Vt × Nat)} {r : List (Int × Vt)} (h : Kp n m c r) {who : Int} {k : Vt} (hv : (!(aget r who).isSome) = true) : (tAddB m who k != true) = false := by
  have hn : aget m who = none := by rw [← h.rel.aget]; simpa using hv
  rw [tAddB_new hn]
  rfl
theorem Kp.bO {n : Nat} {m : List (Int × Vt)} {c : List (Vt × Nat)} {r : List (Int × Vt)} (h : Kp n m c r) {who : Int} {k : Vt} (hv : (!(aget r who).isSome) = false) : (tAddB m who k != decide (gOf r who = k)) = false := by
  have hs : (aget m who).isSome = true := by
    rw [← h.rel.aget]
    cases hb : (aget r who).isSome with
    | true => rfl
    | false => rw [hb] at hv; cases hv
  obtain ⟨v, hn⟩ := isSome_some hs
  rw [tAddB_old hn, ← h.rel.gOf]
  unfold gOf
  rw [hn]
  simp
section
variable {t bv bn : Nat} {m : List (Int × Vt)} {c : List (Vt × Nat)} {k : Vt} {who : Int}
theorem vt_add_s (hw : intOk who) (hti : TInv m c) (hl : m.length ≤ 1000) (hk : vtOk k) (hok : ∀ w v, aget m w = some v → vtOk v) : Spec Try.prog 8 [ptr t, int who, .agg (vtC k)] [.blk t 69 [mapV bv, mapV bn], .pc (mapPc bv intK vtV intOk m), .pc (mapPc bn vtV cntV vtOk c)] (fun _ : Unit => [.blk t 69 [mapV bv, mapV bn], .pc (mapPc bv intK vtV intOk (tAddM m who k)), .pc (mapPc bn vtV cntV vtOk (tAddC m c who k))]) (fun _ => boo (tAddB m who k)) := by
  cases hv : aget m who with
  | none => rw [tAddM_new hv, tAddC_new hv, tAddB_new hv]; exact vt_addN_s hw hti hl hk hok hv
  | some v => rw [tAddM_old hv, tAddC_old hv, tAddB_old hv]; exact vt_addO_s hw hti hl hk hok hv
theorem vt_change_s (hw : intOk who) (hti : TInv m c) (hl : m.length ≤ 1000) (hk : vtOk k) (hok : ∀ w v, aget m w = some v → vtOk v) : Spec Try.prog 10 [ptr t, int who, .agg (vtC k)] [.blk t 69 [mapV bv, mapV bn], .pc (mapPc bv intK vtV intOk m), .pc (mapPc bn vtV cntV vtOk c)] (fun _ : Unit => [.blk t 69 [mapV bv, mapV bn], .pc (mapPc bv intK vtV intOk (aput m who k)), .pc (mapPc bn vtV cntV vtOk (chgC m c who k))]) (fun _ => .tup []) := by
  cases hv : aget m who with
  | none => exact vt_changeN_s hw hti hl hk hok hv
  | some v => exact vt_changeO_s hw hti hl hk hok hv
end
section
variable {l : List Act20} {at_ : Int}
set_option maxHeartbeats 8000000 in
theorem tplays_s (hacts : ∀ a ∈ l, a.ok) : Spec Try.prog 3 [actsA l, int at_] [] (fun _ : Unit => []) (fun _ => boo true) := by
  refine spec_of Try.func3 rfl Try.ntmps3 rfl fun G w => ?_
  refine SC.seq (SC.region ?_)
  refine SL.val (Val.assign rfl) rfl rfl ?_
  refine SL.nil (SE.seq ?_)
  refine SC.seq ?_
  refine SC.seq (SC.region ?_)
  refine SL.call (fixed20_s) Casts.refl (by kernel_rfl) rfl rfl rfl ?_
  refine After.pure (by repeat first|exact .nil|refine .blk (by repeat first|assumption|exact m0|apply m1) ?_|refine .rd (by repeat first|assumption|exact m0|apply m1) ?_|refine .pc (by repeat first|assumption|exact m0|apply m1) ?_|refine .rdpc (by repeat first|assumption|exact m0|apply m1) ?_) (fun _ => rfl) ?_
  intro _
  refine SL.val (Val.notT rfl) rfl rfl ?_
  refine SL.nil (SE.seq ?_)
  refine SC.condF rfl ?_
  refine SC.skip ?_
  refine SE.seq ?_
  refine SC.seq ?_
  refine SC.seq (SC.region ?_)
  refine SL.val (Val.move rfl) rfl rfl ?_
  first
    | refine SL.val (Val.lenSl rfl Try.underlying22 (List.length_map _)) rfl rfl ?_
    | refine SL.val (Val.lenOwn rfl (by repeat first|assumption|exact m0|apply m1) Try.underlying22 (List.length_map _)) rfl rfl ?_
    | refine SL.val (Val.lenNil rfl Try.underlying22) rfl rfl ?_
  refine SL.val (Val.gtI rfl rfl) rfl rfl ?_
  refine SL.nil (SE.seq ?_)
  refine SC.condP rfl ?_ ?_
  · intro hc23
    refine SC.seq (SC.region ?_)
    refine SL.val (Val.assign rfl) rfl rfl ?_
    refine SL.nil (SE.seq ?_)
    refine SC.ret ?_
    refine SE.then_ (by intro h; cases h) ?_
    refine SE.fin (rs := [.tmp 4]) rfl (RV.tmp rfl RV.nil) (()) (by repeat first|exact s0 _|exact s1 _|apply s2|apply s3) (by simp [It.rids]) ?_
    exact rfl
  intro hc23
  refine SC.skip ?_
  refine SE.seq ?_
  refine SC.seq (SC.region ?_)
  refine SL.call (vt_new_s) Casts.refl (by kernel_rfl) rfl rfl rfl ?_
  refine After.make3 (by repeat first|exact .nil|refine .blk (by repeat first|assumption|exact m0|apply m1) ?_|refine .rd (by repeat first|assumption|exact m0|apply m1) ?_|refine .pc (by repeat first|assumption|exact m0|apply m1) ?_|refine .rdpc (by repeat first|assumption|exact m0|apply m1) ?_) (fun _ => rfl) ?_
  intro z1
  refine SL.val (Val.assign rfl) rfl rfl ?_
  refine SL.nil (SE.seq ?_)
  refine SC.seq (SC.region ?_)
  refine SL.val (Val.assign rfl) rfl rfl ?_
  refine SL.nil (SE.seq ?_)
  refine SC.seq ?_
  refine SC.seq (SC.region ?_)
  refine SL.val (Val.move rfl) rfl rfl ?_
  first
    | refine SL.val (Val.lenSl rfl Try.underlying22 (List.length_map _)) rfl rfl ?_
    | refine SL.val (Val.lenOwn rfl (by repeat first|assumption|exact m0|apply m1) Try.underlying22 (List.length_map _)) rfl rfl ?_
    | refine SL.val (Val.lenNil rfl Try.underlying22) rfl rfl ?_
  refine SL.val (Val.move rfl) rfl rfl ?_
  refine SL.nil (SE.seq ?_)
  refine SC.block ?_
  refine SC.own0 71 35 ?_
  refine SC.freeze [] (t := 6) rfl rfl ?_
  refine SC.loop (ι := Nat × List (Int × Vt) × List (Vt × Nat) × List (Int × Vt)) (fun y => [.blk z1.1 69 [mapV z1.2.1, mapV z1.2.2], .pc (mapPc z1.2.1 intK vtV intOk y.2.1), .pc (mapPc z1.2.2 vtV cntV vtOk y.2.2.1)]) (fun y => [(1, int at_), (5, ptr z1.1), (6, rowA y.2.2.2), (25, actsA l), (26, int (l.length : Nat)), (27, int (y.1 : Nat))]) (fun y => y.1 ≤ l.length ∧ Kp y.1 y.2.1 y.2.2.1 y.2.2.2) (fun y => l.length - y.1) (0, [], [], []) (⟨Nat.zero_le _, Kp.nil⟩) (by exact ⟨rfl, rfl, rfl, rfl, rfl, rfl, trivial⟩) (by repeat first|exact s0 _|exact s1 _|apply s2|apply s3) ?_
  intro y hy
  refine SC.seq (SC.region ?_)
  refine SL.val (Val.ltI rfl rfl) rfl rfl ?_
  refine SL.nil (SE.seq ?_)
  refine SC.seq ?_
  refine SC.condP rfl ?_ ?_
  rotate_left
  · intro hc28
    refine SC.exit ?_
    refine SE.then_ (by intro h; cases h) ?_
    refine SE.then_ (by intro h; cases h) ?_
    refine SE.exit ?_
    refine SE.seq ?_
    refine SC.seq (SC.region ?_)
    refine SL.val (Val.assign rfl) rfl rfl ?_
    refine SL.nil (SE.seq ?_)
    refine SC.ret ?_
    refine SE.fin (rs := [.tmp 4]) rfl (RV.tmp rfl RV.nil) (()) (by repeat first|exact s0 _|exact s1 _|apply s2|apply s3) (by simp [It.rids]) ?_
    exact rfl
  intro hc28
  have hlt : y.1 < l.length := by omega
  have hok := hacts _ (List.getElem_mem hlt)
  have hKl := hy.2.len
  have hRl := hy.2.rel.len
  have hwas0 : vtOk (gOf y.2.2.2 (l[y.1]'hlt).who) := gOf_ok (fun w v h => hy.2.vals w v (by rw [← hy.2.rel.aget]; exact h)) _
  refine SC.skip ?_
  refine SE.seq ?_
  refine SC.seq ?_
  refine SC.block ?_
  refine SC.seq (SC.region ?_)
  refine SL.val (Val.indexSl tabOk Try.underlying22 rfl rfl rfl rfl (at_map (by omega)) rfl rfl) rfl rfl ?_
  refine SL.val (Val.loadAR tabOk rfl rfl rfl (actC_len _)) rfl rfl ?_
  refine SL.eff (Eff.alloc tabOk rfl) rfl rfl ?_
  rintro _ _ ⟨b8, rfl, rfl⟩
  refine SL.eff (Eff.store (L' := actC (l[y.1]'hlt)) tabOk rfl rfl rfl (by repeat first|assumption|exact Upd.here|apply Upd.there) (by exact actC_len _) (Nat.le_of_ble_eq_true (by rfl)) (by exact actC_ones _) (putL_whole (by exact actC_len _))) rfl rfl ?_
  rintro _ _ ⟨rfl, rfl⟩
  refine SL.nil (SE.seq ?_)
  refine SC.seq (SC.region ?_)
  refine SL.val (Val.move rfl) rfl rfl ?_
  refine SL.val (Val.fieldAddr tabOk rfl rfl rfl rfl rfl) rfl rfl ?_
  refine SL.val (Val.load1 tabOk rfl rfl (by first|(apply Or.inl;(repeat first|assumption|exact m0|apply m1);done)|(apply Or.inr;(repeat first|assumption|exact m0|apply m1);done)) List.not_mem_nil (by rfl)) rfl rfl ?_
  refine SL.call (rof_s (r := y.2.2.2) (who := (l[y.1]'hlt).who) (by omega)) Casts.refl (by kernel_rfl) rfl rfl rfl ?_
  refine After.pure (by repeat first|exact .nil|refine .blk (by repeat first|assumption|exact m0|apply m1) ?_|refine .rd (by repeat first|assumption|exact m0|apply m1) ?_|refine .pc (by repeat first|assumption|exact m0|apply m1) ?_|refine .rdpc (by repeat first|assumption|exact m0|apply m1) ?_) (fun _ => rfl) ?_
  intro _
  refine SL.val (Val.move rfl) rfl rfl ?_
  refine SL.val (Val.extract rfl rfl) rfl rfl ?_
  refine SL.val (Val.extract rfl rfl) rfl rfl ?_
  refine SL.eff (Eff.alloc tabOk rfl) rfl rfl ?_
  rintro _ _ ⟨b9, rfl, rfl⟩
  refine SL.eff (Eff.store (L' := vtC (gOf y.2.2.2 (l[y.1]'hlt).who)) tabOk rfl rfl rfl (by repeat first|assumption|exact Upd.here|apply Upd.there) (by exact vtC_len _) (Nat.le_of_ble_eq_true (by rfl)) (by exact vtC_ones _) (putL_whole (by exact vtC_len _))) rfl rfl ?_
  rintro _ _ ⟨rfl, rfl⟩
  refine SL.val (Val.assign rfl) rfl rfl ?_
  refine SL.nil (SE.seq ?_)
  refine SC.cutS (ι := List (Int × Vt) × List (Vt × Nat) × List (Int × Vt)) (fun z => [.blk b9 29 (vtC (gOf y.2.2.2 (l[y.1]'hlt).who)), .blk b8 33 (actC (l[y.1]'hlt)), .blk z1.1 69 [mapV z1.2.1, mapV z1.2.2], .pc (mapPc z1.2.1 intK vtV intOk z.1), .pc (mapPc z1.2.2 vtV cntV vtOk z.2.1)]) (fun z => [(1, int at_), (5, ptr z1.1), (6, rowA z.2.2), (8, ptr b8), (9, ptr b9), (25, actsA l), (26, int (l.length : Nat)), (27, int (y.1 : Nat))]) (fun z => Kp (y.1 + 1) z.1 z.2.1 z.2.2 ∧ (aget z.1 (l[y.1]'hlt).who).isSome = true) ?_ ?_
  · skip
    refine SC.seq (SC.region ?_)
    refine SL.val (Val.fieldAddr tabOk rfl rfl rfl rfl rfl) rfl rfl ?_
    refine SL.val (Val.load1 tabOk rfl rfl (by first|(apply Or.inl;(repeat first|assumption|exact m0|apply m1);done)|(apply Or.inr;(repeat first|assumption|exact m0|apply m1);done)) List.not_mem_nil (by rfl)) rfl rfl ?_
    first
      | refine SL.val (Val.remI rfl rfl (by omega)) rfl rfl ?_
      | refine SL.val (Val.remT rfl rfl (by omega)) rfl rfl ?_
    refine SL.val (Val.eqI rfl rfl) rfl rfl ?_
    refine SL.nil (SE.seq ?_)
    refine SC.condP rfl ?_ ?_
    rotate_left
    · intro hc41
      refine SC.seq (SC.region ?_)
      refine SL.val (Val.move rfl) rfl rfl ?_
      refine SL.val (Val.fieldAddr tabOk rfl rfl rfl rfl rfl) rfl rfl ?_
      refine SL.val (Val.load1 tabOk rfl rfl (by first|(apply Or.inl;(repeat first|assumption|exact m0|apply m1);done)|(apply Or.inr;(repeat first|assumption|exact m0|apply m1);done)) List.not_mem_nil (by rfl)) rfl rfl ?_
      refine SL.val (Val.fieldAddr tabOk rfl rfl rfl rfl rfl) rfl rfl ?_
      refine SL.val (Val.to (C := .agg (vtC (l[y.1]'hlt).vote)) (Val.loadP tabOk rfl rfl rfl (by first|(apply Or.inl;(repeat first|assumption|exact m0|apply m1);done)|(apply Or.inr;(repeat first|assumption|exact m0|apply m1);done)) List.not_mem_nil (act_le _)) (congrArg Abs.agg (act_part _))) rfl rfl ?_
      refine SL.call (vt_change_s (t := z1.1) (bv := z1.2.1) (bn := z1.2.2) (m := y.2.1) (c := y.2.2.1) (who := (l[y.1]'hlt).who) (k := (l[y.1]'hlt).vote) hok.1 hy.2.inv (by omega) hok.2 hy.2.vals) Casts.refl (by kernel_rfl) rfl rfl rfl ?_
      refine After.three3 ⟨rfl, rfl, rfl⟩ (fun _ => rfl) ?_
      intro _
      refine SL.nil (SE.seq ?_)
      refine SC.region ?_
      refine SL.val (Val.move rfl) rfl rfl ?_
      refine SL.val (Val.fieldAddr tabOk rfl rfl rfl rfl rfl) rfl rfl ?_
      refine SL.val (Val.load1 tabOk rfl rfl (by first|(apply Or.inl;(repeat first|assumption|exact m0|apply m1);done)|(apply Or.inr;(repeat first|assumption|exact m0|apply m1);done)) List.not_mem_nil (by rfl)) rfl rfl ?_
      refine SL.val (Val.fieldAddr tabOk rfl rfl rfl rfl rfl) rfl rfl ?_
      refine SL.val (Val.to (C := .agg (vtC (l[y.1]'hlt).vote)) (Val.loadP tabOk rfl rfl rfl (by first|(apply Or.inl;(repeat first|assumption|exact m0|apply m1);done)|(apply Or.inr;(repeat first|assumption|exact m0|apply m1);done)) List.not_mem_nil (act_le _)) (congrArg Abs.agg (act_part _))) rfl rfl ?_
      refine SL.call (rchange_s (r := y.2.2.2) (who := (l[y.1]'hlt).who) (v := (l[y.1]'hlt).vote) (by omega)) Casts.refl (by kernel_rfl) rfl rfl rfl ?_
      refine After.make (by repeat (first | exact Reads.nil | (refine Reads.blk ?_ ?_; focus ((repeat first|assumption|exact m0|apply m1); done)) | (refine Reads.rd ?_ ?_; focus ((repeat first|assumption|exact m0|apply m1); done)) | (refine Reads.pc ?_ ?_; focus ((repeat first|assumption|exact m0|apply m1); done)) | (refine Reads.rdpc ?_ ?_; focus ((repeat first|assumption|exact m0|apply m1); done)))) (fun _ => rfl) ?_
      intro rc
      refine SL.val (Val.assign rfl) rfl rfl ?_
      refine SL.freeze [] (t := 6) rfl rfl ?_
      refine SL.nil ?_
      refine SE.meet (aput y.2.1 (l[y.1]'hlt).who (l[y.1]'hlt).vote, chgC y.2.1 y.2.2.1 (l[y.1]'hlt).who (l[y.1]'hlt).vote, chgR y.2.2.2 (l[y.1]'hlt).who (l[y.1]'hlt).vote) (hy.2.setO hok.1 hok.2) (by exact ⟨rfl, rfl, rfl, rfl, rfl, rfl, rfl, rfl, trivial⟩) (by repeat first|exact s0 _|exact s1 _|apply s2|apply s3)
    intro hc41
    refine SC.seq ?_
    refine SC.seq (SC.region ?_)
    refine SL.val (Val.move rfl) rfl rfl ?_
    refine SL.val (Val.fieldAddr tabOk rfl rfl rfl rfl rfl) rfl rfl ?_
    refine SL.val (Val.load1 tabOk rfl rfl (by first|(apply Or.inl;(repeat first|assumption|exact m0|apply m1);done)|(apply Or.inr;(repeat first|assumption|exact m0|apply m1);done)) List.not_mem_nil (by rfl)) rfl rfl ?_
    refine SL.val (Val.fieldAddr tabOk rfl rfl rfl rfl rfl) rfl rfl ?_
    refine SL.val (Val.to (C := .agg (vtC (l[y.1]'hlt).vote)) (Val.loadP tabOk rfl rfl rfl (by first|(apply Or.inl;(repeat first|assumption|exact m0|apply m1);done)|(apply Or.inr;(repeat first|assumption|exact m0|apply m1);done)) List.not_mem_nil (act_le _)) (congrArg Abs.agg (act_part _))) rfl rfl ?_
    refine SL.call (vt_add_s (t := z1.1) (bv := z1.2.1) (bn := z1.2.2) (m := y.2.1) (c := y.2.2.1) (who := (l[y.1]'hlt).who) (k := (l[y.1]'hlt).vote) hok.1 hy.2.inv (by omega) hok.2 hy.2.vals) Casts.refl (by kernel_rfl) rfl rfl rfl ?_
    refine After.three3 ⟨rfl, rfl, rfl⟩ (fun _ => rfl) ?_
    intro _
    refine SL.val (Val.move rfl) rfl rfl ?_
    refine SL.val (Val.notB rfl) rfl rfl ?_
    refine SL.val (Val.move rfl) rfl rfl ?_
    refine SL.both (t := 50) rfl ?_ ?_
    · intro hc50
      have h56 := hy.2.bN (k := (l[y.1]'hlt).vote) hc50
      iterate 4 refine SL.skip rfl rfl ?_
      refine SL.val (Val.pickT rfl rfl) rfl rfl ?_
      refine SL.val (Val.to (C := boo false) (Val.neB rfl rfl (by kernel_rfl)) (congrArg (fun b => Abs.v (Value.bool b)) h56)) rfl rfl ?_
      refine SL.nil (SE.seq ?_)
      refine SC.condF rfl ?_
      refine SC.skip ?_
      refine SE.seq ?_
      refine SC.seq (SC.region ?_)
      refine SL.val (Val.move rfl) rfl rfl ?_
      refine SL.val (Val.notB rfl) rfl rfl ?_
      refine SL.nil (SE.seq ?_)
      refine SC.cond rfl ?_ ?_
      rotate_left
      · intro hc58
        refine SC.skip ?_
        refine SE.meet (tAddM y.2.1 (l[y.1]'hlt).who (l[y.1]'hlt).vote, tAddC y.2.1 y.2.2.1 (l[y.1]'hlt).who (l[y.1]'hlt).vote, y.2.2.2) (hy.2.addO (by simpa using hc58)) (by exact ⟨rfl, rfl, rfl, rfl, rfl, rfl, rfl, rfl, trivial⟩) (by repeat first|exact s0 _|exact s1 _|apply s2|apply s3)
      intro hc58
      refine SC.region ?_
      refine SL.val (Val.move rfl) rfl rfl ?_
      refine SL.val (Val.fieldAddr tabOk rfl rfl rfl rfl rfl) rfl rfl ?_
      refine SL.val (Val.load1 tabOk rfl rfl (by first|(apply Or.inl;(repeat first|assumption|exact m0|apply m1);done)|(apply Or.inr;(repeat first|assumption|exact m0|apply m1);done)) List.not_mem_nil (by rfl)) rfl rfl ?_
      refine SL.val (Val.fieldAddr tabOk rfl rfl rfl rfl rfl) rfl rfl ?_
      refine SL.val (Val.to (C := .agg (vtC (l[y.1]'hlt).vote)) (Val.loadP tabOk rfl rfl rfl (by first|(apply Or.inl;(repeat first|assumption|exact m0|apply m1);done)|(apply Or.inr;(repeat first|assumption|exact m0|apply m1);done)) List.not_mem_nil (act_le _)) (congrArg Abs.agg (act_part _))) rfl rfl ?_
      refine SL.call (rchange_s (r := y.2.2.2) (who := (l[y.1]'hlt).who) (v := (l[y.1]'hlt).vote) (by omega)) Casts.refl (by kernel_rfl) rfl rfl rfl ?_
      refine After.make (by repeat (first | exact Reads.nil | (refine Reads.blk ?_ ?_; focus ((repeat first|assumption|exact m0|apply m1); done)) | (refine Reads.rd ?_ ?_; focus ((repeat first|assumption|exact m0|apply m1); done)) | (refine Reads.pc ?_ ?_; focus ((repeat first|assumption|exact m0|apply m1); done)) | (refine Reads.rdpc ?_ ?_; focus ((repeat first|assumption|exact m0|apply m1); done)))) (fun _ => rfl) ?_
      intro rc
      refine SL.val (Val.assign rfl) rfl rfl ?_
      refine SL.freeze [] (t := 6) rfl rfl ?_
      refine SL.nil ?_
      refine SE.meet (tAddM y.2.1 (l[y.1]'hlt).who (l[y.1]'hlt).vote, tAddC y.2.1 y.2.2.1 (l[y.1]'hlt).who (l[y.1]'hlt).vote, chgR y.2.2.2 (l[y.1]'hlt).who (l[y.1]'hlt).vote) (hy.2.addN hok.1 hok.2 (by simpa using hc58)) (by exact ⟨rfl, rfl, rfl, rfl, rfl, rfl, rfl, rfl, trivial⟩) (by repeat first|exact s0 _|exact s1 _|apply s2|apply s3)
    intro hc50
    have h56 := hy.2.bO (k := (l[y.1]'hlt).vote) (by simpa using hc50)
    refine SL.val (Val.loadA tabOk rfl rfl rfl (by first|(apply Or.inl;(repeat first|assumption|exact m0|apply m1);done)|(apply Or.inr;(repeat first|assumption|exact m0|apply m1);done)) List.not_mem_nil (vtC_len _)) rfl rfl ?_
    refine SL.val (Val.fieldAddr tabOk rfl rfl rfl rfl rfl) rfl rfl ?_
    refine SL.val (Val.to (C := .agg (vtC (l[y.1]'hlt).vote)) (Val.loadP tabOk rfl rfl rfl (by first|(apply Or.inl;(repeat first|assumption|exact m0|apply m1);done)|(apply Or.inr;(repeat first|assumption|exact m0|apply m1);done)) List.not_mem_nil (act_le _)) (congrArg Abs.agg (act_part _))) rfl rfl ?_
    refine SL.val (Val.eqA rfl rfl (vt_plains _) (vt_plains _) (by kernel_rfl) (eqVt hwas0 hok.2)) rfl rfl ?_
    refine SL.val (Val.pickF rfl rfl) rfl rfl ?_
    refine SL.val (Val.to (C := boo false) (Val.neB rfl rfl (by kernel_rfl)) (congrArg (fun b => Abs.v (Value.bool b)) h56)) rfl rfl ?_
    refine SL.nil (SE.seq ?_)
    refine SC.condF rfl ?_
    refine SC.skip ?_
    refine SE.seq ?_
    refine SC.seq (SC.region ?_)
    refine SL.val (Val.move rfl) rfl rfl ?_
    refine SL.val (Val.notB rfl) rfl rfl ?_
    refine SL.nil (SE.seq ?_)
    refine SC.cond rfl ?_ ?_
    rotate_left
    · intro hc58
      refine SC.skip ?_
      refine SE.meet (tAddM y.2.1 (l[y.1]'hlt).who (l[y.1]'hlt).vote, tAddC y.2.1 y.2.2.1 (l[y.1]'hlt).who (l[y.1]'hlt).vote, y.2.2.2) (hy.2.addO (by simpa using hc58)) (by exact ⟨rfl, rfl, rfl, rfl, rfl, rfl, rfl, rfl, trivial⟩) (by repeat first|exact s0 _|exact s1 _|apply s2|apply s3)
    intro hc58
    refine SC.region ?_
    refine SL.val (Val.move rfl) rfl rfl ?_
    refine SL.val (Val.fieldAddr tabOk rfl rfl rfl rfl rfl) rfl rfl ?_
    refine SL.val (Val.load1 tabOk rfl rfl (by first|(apply Or.inl;(repeat first|assumption|exact m0|apply m1);done)|(apply Or.inr;(repeat first|assumption|exact m0|apply m1);done)) List.not_mem_nil (by rfl)) rfl rfl ?_
    refine SL.val (Val.fieldAddr tabOk rfl rfl rfl rfl rfl) rfl rfl ?_
    refine SL.val (Val.to (C := .agg (vtC (l[y.1]'hlt).vote)) (Val.loadP tabOk rfl rfl rfl (by first|(apply Or.inl;(repeat first|assumption|exact m0|apply m1);done)|(apply Or.inr;(repeat first|assumption|exact m0|apply m1);done)) List.not_mem_nil (act_le _)) (congrArg Abs.agg (act_part _))) rfl rfl ?_
    refine SL.call (rchange_s (r := y.2.2.2) (who := (l[y.1]'hlt).who) (v := (l[y.1]'hlt).vote) (by omega)) Casts.refl (by kernel_rfl) rfl rfl rfl ?_
    refine After.make (by repeat (first | exact Reads.nil | (refine Reads.blk ?_ ?_; focus ((repeat first|assumption|exact m0|apply m1); done)) | (refine Reads.rd ?_ ?_; focus ((repeat first|assumption|exact m0|apply m1); done)) | (refine Reads.pc ?_ ?_; focus ((repeat first|assumption|exact m0|apply m1); done)) | (refine Reads.rdpc ?_ ?_; focus ((repeat first|assumption|exact m0|apply m1); done)))) (fun _ => rfl) ?_
    intro rc
    refine SL.val (Val.assign rfl) rfl rfl ?_
    refine SL.freeze [] (t := 6) rfl rfl ?_
    refine SL.nil ?_
    refine SE.meet (tAddM y.2.1 (l[y.1]'hlt).who (l[y.1]'hlt).vote, tAddC y.2.1 y.2.2.1 (l[y.1]'hlt).who (l[y.1]'hlt).vote, chgR y.2.2.2 (l[y.1]'hlt).who (l[y.1]'hlt).vote) (hy.2.addN hok.1 hok.2 (by simpa using hc58)) (by exact ⟨rfl, rfl, rfl, rfl, rfl, rfl, rfl, rfl, trivial⟩) (by repeat first|exact s0 _|exact s1 _|apply s2|apply s3)
  · intro z0 hz0
    obtain ⟨hK, hsome⟩ := hz0
    have hKm := hK.len
    have hRm := hK.rel.len
    have hg := hK.rel.gOf (l[y.1]'hlt).who
    have hvr := hK.rel.vals hK.vals
    have hq := leastQ_ok (c := cnt z0.2.2) (at_ := at_) hvr
    have hwas : vtOk (gOf y.2.2.2 (l[y.1]'hlt).who) := gOf_ok (fun w v h => hy.2.vals w v (by rw [← hy.2.rel.aget]; exact h)) _
    have hgk : vtOk (gOf z0.2.2 (l[y.1]'hlt).who) := hg ▸ gOf_ok hK.vals _
    refine SC.seq (SC.region ?_)
    refine SL.val (Val.move rfl) rfl rfl ?_
    refine SL.val (Val.move rfl) rfl rfl ?_
    refine SL.call (vt_least_s (t := z1.1) (bv := z1.2.1) (bn := z1.2.2) (m := z0.1) (c := z0.2.1) (at_ := at_) (by omega) hK.keys hK.vals) Casts.refl (by kernel_rfl) rfl rfl rfl ?_
    refine After.three3 ⟨rfl, rfl, rfl⟩ (fun _ => rfl) ?_
    intro _
    rw [vtA_eq, least_eq hK.rel hK.inv]
    refine SL.val (Val.move rfl) rfl rfl ?_
    refine SL.val (Val.extract rfl rfl) rfl rfl ?_
    refine SL.val (Val.extract rfl rfl) rfl rfl ?_
    refine SL.eff (Eff.alloc tabOk rfl) rfl rfl ?_
    rintro _ _ ⟨b11, rfl, rfl⟩
    refine SL.eff (Eff.store (L' := vtC ((leastQ (cnt z0.2.2) at_ z0.2.2).getD vt0)) tabOk rfl rfl rfl (by repeat first|assumption|exact Upd.here|apply Upd.there) (by exact vtC_len _) (Nat.le_of_ble_eq_true (by rfl)) (by exact vtC_ones _) (putL_whole (by exact vtC_len _))) rfl rfl ?_
    rintro _ _ ⟨rfl, rfl⟩
    refine SL.val (Val.assign rfl) rfl rfl ?_
    refine SL.nil (SE.seq ?_)
    refine SC.seq (SC.region ?_)
    refine SL.val (Val.move rfl) rfl rfl ?_
    refine SL.val (Val.move rfl) rfl rfl ?_
    refine SL.call (rleast_s (r := z0.2.2) (at_ := at_) hvr (by omega)) Casts.refl (by kernel_rfl) rfl rfl rfl ?_
    refine After.pure (by repeat first|exact .nil|refine .blk (by repeat first|assumption|exact m0|apply m1) ?_|refine .rd (by repeat first|assumption|exact m0|apply m1) ?_|refine .pc (by repeat first|assumption|exact m0|apply m1) ?_|refine .rdpc (by repeat first|assumption|exact m0|apply m1) ?_) (fun _ => rfl) ?_
    intro _
    refine SL.val (Val.move rfl) rfl rfl ?_
    refine SL.val (Val.extract rfl rfl) rfl rfl ?_
    refine SL.val (Val.extract rfl rfl) rfl rfl ?_
    refine SL.eff (Eff.alloc tabOk rfl) rfl rfl ?_
    rintro _ _ ⟨b13, rfl, rfl⟩
    refine SL.eff (Eff.store (L' := vtC ((leastQ (cnt z0.2.2) at_ z0.2.2).getD vt0)) tabOk rfl rfl rfl (by repeat first|assumption|exact Upd.here|apply Upd.there) (by exact vtC_len _) (Nat.le_of_ble_eq_true (by rfl)) (by exact vtC_ones _) (putL_whole (by exact vtC_len _))) rfl rfl ?_
    rintro _ _ ⟨rfl, rfl⟩
    refine SL.val (Val.assign rfl) rfl rfl ?_
    refine SL.nil (SE.seq ?_)
    refine SC.seq (SC.region ?_)
    refine SL.val (Val.move rfl) rfl rfl ?_
    refine SL.val (Val.fieldAddr tabOk rfl rfl rfl rfl rfl) rfl rfl ?_
    refine SL.val (Val.load1 tabOk rfl rfl (by first|(apply Or.inl;(repeat first|assumption|exact m0|apply m1);done)|(apply Or.inr;(repeat first|assumption|exact m0|apply m1);done)) List.not_mem_nil (by rfl)) rfl rfl ?_
    refine SL.call (vt_ofR_s (t := z1.1) (bv := z1.2.1) (bn := z1.2.2) (m := z0.1) (c := z0.2.1) (who := (l[y.1]'hlt).who) hok.1) Casts.refl (by kernel_rfl) rfl rfl rfl ?_
    refine After.pure (by repeat (first | exact Reads.nil | (refine Reads.blk ?_ ?_; focus ((repeat first|assumption|exact m0|apply m1); done)) | (refine Reads.rd ?_ ?_; focus ((repeat first|assumption|exact m0|apply m1); done)) | (refine Reads.pc ?_ ?_; focus ((repeat first|assumption|exact m0|apply m1); done)) | (refine Reads.rdpc ?_ ?_; focus ((repeat first|assumption|exact m0|apply m1); done)))) (fun _ => rfl) ?_
    intro _
    rw [hg, hsome]
    refine SL.val (Val.move rfl) rfl rfl ?_
    refine SL.val (Val.extract rfl rfl) rfl rfl ?_
    refine SL.val (Val.extract rfl rfl) rfl rfl ?_
    refine SL.eff (Eff.alloc tabOk rfl) rfl rfl ?_
    rintro _ _ ⟨b15, rfl, rfl⟩
    refine SL.eff (Eff.store (L' := vtC (gOf z0.2.2 (l[y.1]'hlt).who)) tabOk rfl rfl rfl (by repeat first|assumption|exact Upd.here|apply Upd.there) (by exact vtC_len _) (Nat.le_of_ble_eq_true (by rfl)) (by exact vtC_ones _) (putL_whole (by exact vtC_len _))) rfl rfl ?_
    rintro _ _ ⟨rfl, rfl⟩
    refine SL.val (Val.assign rfl) rfl rfl ?_
    refine SL.nil (SE.seq ?_)
    refine SC.seq (SC.region ?_)
    refine SL.val (Val.move rfl) rfl rfl ?_
    refine SL.val (Val.fieldAddr tabOk rfl rfl rfl rfl rfl) rfl rfl ?_
    refine SL.val (Val.load1 tabOk rfl rfl (by first|(apply Or.inl;(repeat first|assumption|exact m0|apply m1);done)|(apply Or.inr;(repeat first|assumption|exact m0|apply m1);done)) List.not_mem_nil (by rfl)) rfl rfl ?_
    refine SL.call (rof_s (r := z0.2.2) (who := (l[y.1]'hlt).who) (by omega)) Casts.refl (by kernel_rfl) rfl rfl rfl ?_
    refine After.pure (by repeat first|exact .nil|refine .blk (by repeat first|assumption|exact m0|apply m1) ?_|refine .rd (by repeat first|assumption|exact m0|apply m1) ?_|refine .pc (by repeat first|assumption|exact m0|apply m1) ?_|refine .rdpc (by repeat first|assumption|exact m0|apply m1) ?_) (fun _ => rfl) ?_
    intro _
    refine SL.val (Val.move rfl) rfl rfl ?_
    refine SL.val (Val.extract rfl rfl) rfl rfl ?_
    refine SL.val (Val.extract rfl rfl) rfl rfl ?_
    refine SL.eff (Eff.alloc tabOk rfl) rfl rfl ?_
    rintro _ _ ⟨b17, rfl, rfl⟩
    refine SL.eff (Eff.store (L' := vtC (gOf z0.2.2 (l[y.1]'hlt).who)) tabOk rfl rfl rfl (by repeat first|assumption|exact Upd.here|apply Upd.there) (by exact vtC_len _) (Nat.le_of_ble_eq_true (by rfl)) (by exact vtC_ones _) (putL_whole (by exact vtC_len _))) rfl rfl ?_
    rintro _ _ ⟨rfl, rfl⟩
    refine SL.val (Val.assign rfl) rfl rfl ?_
    refine SL.nil (SE.seq ?_)
    refine SC.seq ?_
    refine SC.draw [] (.q 0 (.q 1 (.q 2 (.q 3 (.q 4 (.q 5 (.q 6 (.q 7 (.q 8 (.q 9 (.q 10 (.q 11 (.q 12 (.q 13 (.q 14 (.q 15 (.q 16 (.q 17 (.q 18 (.q 20 (.q 21 (.e 19 (.q 22 (.q 23 (.q 24 (.q 25 (.q 26 (.q 28 (.q 29 (.e 27 (.e 30 (.q 31 (.q 32 (.q 33 (.q 34 (.q 35 (.q 36 (.q 37 (.q 39 (.q 40 (.q 41 (.e 38 (.e 42 (.e 43 (.q 44 (.q 45 .nil)))))))))))))))))))))))))))))))))))))))))))))) (by kernel_rfl) (by kernel_rfl) ?_
    refine SX.val rfl (Val.loadA tabOk rfl rfl rfl (by first|(apply Or.inl;(repeat first|assumption|exact m0|apply m1);done)|(apply Or.inr;(repeat first|assumption|exact m0|apply m1);done)) List.not_mem_nil (vtC_len _)) (by first | (simp [mids, It.mids, ownPc, mapPc]; done) | (intro k hk; simp [mids, It.mids, ownPc, mapPc, mapAtPc] at hk ⊢; grind)) rfl rfl ?_
    refine SX.val rfl (Val.loadA tabOk rfl rfl rfl (by first|(apply Or.inl;(repeat first|assumption|exact m0|apply m1);done)|(apply Or.inr;(repeat first|assumption|exact m0|apply m1);done)) List.not_mem_nil (vtC_len _)) (by first | (simp [mids, It.mids, ownPc, mapPc]; done) | (intro k hk; simp [mids, It.mids, ownPc, mapPc, mapAtPc] at hk ⊢; grind)) rfl rfl ?_
    refine SX.val rfl (Val.to (C := boo false) (Val.neA rfl rfl (vt_plains _) (vt_plains _) (by kernel_rfl) (neVt hq hq)) (congrArg (fun b => Abs.v (Value.bool b)) (by simp))) (by first | (simp [mids, It.mids, ownPc, mapPc]; done) | (intro k hk; simp [mids, It.mids, ownPc, mapPc, mapAtPc] at hk ⊢; grind)) rfl rfl ?_
    refine SX.val rfl (Val.move rfl) (by simp) rfl rfl ?_
    refine SX.val rfl (Val.move rfl) (by simp) rfl rfl ?_
    refine SX.val rfl (Val.move rfl) (by simp) rfl rfl ?_
    refine SX.val rfl (Val.to (C := boo false) (Val.neB rfl rfl (by kernel_rfl)) (congrArg (fun b => Abs.v (Value.bool b)) (by simp))) (by first | (simp [mids, It.mids, ownPc, mapPc]; done) | (intro k hk; simp [mids, It.mids, ownPc, mapPc, mapAtPc] at hk ⊢; grind)) rfl rfl ?_
    refine SX.val rfl (Val.pickF rfl rfl) (by simp) rfl rfl ?_
    refine SX.val rfl (Val.move rfl) (by simp) rfl rfl ?_
    refine SX.val rfl (Val.loadA tabOk rfl rfl rfl (by first|(apply Or.inl;(repeat first|assumption|exact m0|apply m1);done)|(apply Or.inr;(repeat first|assumption|exact m0|apply m1);done)) List.not_mem_nil (vtC_len _)) (by first | (simp [mids, It.mids, ownPc, mapPc]; done) | (intro k hk; simp [mids, It.mids, ownPc, mapPc, mapAtPc] at hk ⊢; grind)) rfl rfl ?_
    refine SX.val rfl (Val.loadA tabOk rfl rfl rfl (by first|(apply Or.inl;(repeat first|assumption|exact m0|apply m1);done)|(apply Or.inr;(repeat first|assumption|exact m0|apply m1);done)) List.not_mem_nil (vtC_len _)) (by first | (simp [mids, It.mids, ownPc, mapPc]; done) | (intro k hk; simp [mids, It.mids, ownPc, mapPc, mapAtPc] at hk ⊢; grind)) rfl rfl ?_
    refine SX.val rfl (Val.to (C := boo false) (Val.neA rfl rfl (vt_plains _) (vt_plains _) (by kernel_rfl) (neVt hgk hgk)) (congrArg (fun b => Abs.v (Value.bool b)) (by simp))) (by first | (simp [mids, It.mids, ownPc, mapPc]; done) | (intro k hk; simp [mids, It.mids, ownPc, mapPc, mapAtPc] at hk ⊢; grind)) rfl rfl ?_
    refine SX.val rfl (Val.pickF rfl rfl) (by simp) rfl rfl ?_
    refine SX.val rfl (Val.move rfl) (by simp) rfl rfl ?_
    refine SX.val rfl (Val.move rfl) (by simp) rfl rfl ?_
    refine SX.val rfl (Val.notT rfl) (by simp) rfl rfl ?_
    refine SX.val rfl (Val.pickF rfl rfl) (by simp) rfl rfl ?_
    refine SX.val rfl (Val.move rfl) (by simp) rfl rfl ?_
    refine SX.val rfl (Val.move rfl) (by simp) rfl rfl ?_
    refine SX.val rfl (Val.move rfl) (by simp) rfl rfl ?_
    first
      | refine SX.val rfl (Val.lenSl rfl Try.underlying31 (List.length_map _)) (by simp) rfl rfl ?_
      | refine SX.val rfl (Val.lenOwn rfl (by repeat first|assumption|exact m0|apply m1) Try.underlying31 (List.length_map _)) (by simp) rfl rfl ?_
      | refine SX.val rfl (Val.lenNil rfl Try.underlying31) (by simp) rfl rfl ?_
    refine SX.call rfl (vt_lenR_s (t := z1.1) (bv := z1.2.1) (bn := z1.2.2) (m := z0.1) (c := z0.2.1)) (by simp [mids, It.mids]) Casts.refl (by kernel_rfl) rfl rfl rfl ?_
    refine After.pure (by repeat (first | exact Reads.nil | (refine Reads.blk ?_ ?_; focus ((repeat first|assumption|exact m0|apply m1); done)) | (refine Reads.rd ?_ ?_; focus ((repeat first|assumption|exact m0|apply m1); done)) | (refine Reads.pc ?_ ?_; focus ((repeat first|assumption|exact m0|apply m1); done)) | (refine Reads.rdpc ?_ ?_; focus ((repeat first|assumption|exact m0|apply m1); done)))) (fun _ => rfl) ?_
    intro _
    refine SX.val rfl (Val.to (C := boo false) (Val.neI rfl rfl) (congrArg (fun b => Abs.v (Value.bool b)) (decide_eq_false (by omega)))) (by first | (simp [mids, It.mids, ownPc, mapPc]; done) | (intro k hk; simp [mids, It.mids, ownPc, mapPc, mapAtPc] at hk ⊢; grind)) rfl rfl ?_
    refine SX.val rfl (Val.pickF rfl rfl) (by simp) rfl rfl ?_
    refine SX.val rfl (Val.move rfl) (by simp) rfl rfl ?_
    refine SX.val rfl (Val.move rfl) (by simp) rfl rfl ?_
    refine SX.val rfl (Val.loadA tabOk rfl rfl rfl (by first|(apply Or.inl;(repeat first|assumption|exact m0|apply m1);done)|(apply Or.inr;(repeat first|assumption|exact m0|apply m1);done)) List.not_mem_nil (vtC_len _)) (by first | (simp [mids, It.mids, ownPc, mapPc]; done) | (intro k hk; simp [mids, It.mids, ownPc, mapPc, mapAtPc] at hk ⊢; grind)) rfl rfl ?_
    refine SX.val rfl (Val.move rfl) (by simp) rfl rfl ?_
    refine SX.val rfl (Val.loadA tabOk rfl rfl rfl (by first|(apply Or.inl;(repeat first|assumption|exact m0|apply m1);done)|(apply Or.inr;(repeat first|assumption|exact m0|apply m1);done)) List.not_mem_nil (vtC_len _)) (by first | (simp [mids, It.mids, ownPc, mapPc]; done) | (intro k hk; simp [mids, It.mids, ownPc, mapPc, mapAtPc] at hk ⊢; grind)) rfl rfl ?_
    refine SX.call rfl (vt_countR_s (t := z1.1) (bv := z1.2.1) (bn := z1.2.2) (m := z0.1) (c := z0.2.1) (k := (gOf y.2.2.2 (l[y.1]'hlt).who)) hwas) (by simp [mids, It.mids]) Casts.refl (by kernel_rfl) rfl rfl rfl ?_
    refine After.pure (by repeat (first | exact Reads.nil | (refine Reads.blk ?_ ?_; focus ((repeat first|assumption|exact m0|apply m1); done)) | (refine Reads.rd ?_ ?_; focus ((repeat first|assumption|exact m0|apply m1); done)) | (refine Reads.pc ?_ ?_; focus ((repeat first|assumption|exact m0|apply m1); done)) | (refine Reads.rdpc ?_ ?_; focus ((repeat first|assumption|exact m0|apply m1); done)))) (fun _ => rfl) ?_
    intro _
    refine SX.call rfl (rwho_s (r := z0.2.2) (k := (gOf y.2.2.2 (l[y.1]'hlt).who)) hwas hvr (by omega)) (by simp [mids, It.mids]) Casts.refl (by kernel_rfl) rfl rfl rfl ?_
    refine After.make (by repeat (first | exact Reads.nil | (refine Reads.blk ?_ ?_; focus ((repeat first|assumption|exact m0|apply m1); done)) | (refine Reads.rd ?_ ?_; focus ((repeat first|assumption|exact m0|apply m1); done)) | (refine Reads.pc ?_ ?_; focus ((repeat first|assumption|exact m0|apply m1); done)) | (refine Reads.rdpc ?_ ?_; focus ((repeat first|assumption|exact m0|apply m1); done)))) (fun _ => rfl) ?_
    intro w1
    refine SX.freeze [] (t := 133) rfl rfl ?_
    first
      | refine SX.val rfl (Val.lenSl rfl Try.underlying41 (List.length_map _)) (by simp) rfl rfl ?_
      | refine SX.val rfl (Val.lenOwn rfl (by repeat first|assumption|exact m0|apply m1) Try.underlying41 (List.length_map _)) (by simp) rfl rfl ?_
      | refine SX.val rfl (Val.lenNil rfl Try.underlying41) (by simp) rfl rfl ?_
    refine SX.val rfl (Val.to (C := boo false) (Val.neI rfl rfl) (congrArg (fun b => Abs.v (Value.bool b)) (decide_eq_false (by rw [hK.inv.num, ← hK.rel.cnt, ← whoR_len]; simp)))) (by first | (simp [mids, It.mids, ownPc, mapPc]; done) | (intro k hk; simp [mids, It.mids, ownPc, mapPc, mapAtPc] at hk ⊢; grind)) rfl rfl ?_
    refine SX.val rfl (Val.pickF rfl rfl) (by simp) rfl rfl ?_
    refine SX.val rfl (Val.move rfl) (by simp) rfl rfl ?_
    refine SX.val rfl (Val.move rfl) (by simp) rfl rfl ?_
    refine SX.val rfl (Val.fieldAddr tabOk rfl rfl rfl rfl rfl) (by simp) rfl rfl ?_
    refine SX.val rfl (Val.to (C := .agg (vtC (l[y.1]'hlt).vote)) (Val.loadP tabOk rfl rfl rfl (by first|(apply Or.inl;(repeat first|assumption|exact m0|apply m1);done)|(apply Or.inr;(repeat first|assumption|exact m0|apply m1);done)) List.not_mem_nil (act_le _)) (congrArg Abs.agg (act_part _))) (by first | (simp [mids, It.mids, ownPc, mapPc]; done) | (intro k hk; simp [mids, It.mids, ownPc, mapPc, mapAtPc] at hk ⊢; grind)) rfl rfl ?_
    refine SX.val rfl (Val.move rfl) (by simp) rfl rfl ?_
    refine SX.val rfl (Val.fieldAddr tabOk rfl rfl rfl rfl rfl) (by simp) rfl rfl ?_
    refine SX.val rfl (Val.to (C := .agg (vtC (l[y.1]'hlt).vote)) (Val.loadP tabOk rfl rfl rfl (by first|(apply Or.inl;(repeat first|assumption|exact m0|apply m1);done)|(apply Or.inr;(repeat first|assumption|exact m0|apply m1);done)) List.not_mem_nil (act_le _)) (congrArg Abs.agg (act_part _))) (by first | (simp [mids, It.mids, ownPc, mapPc]; done) | (intro k hk; simp [mids, It.mids, ownPc, mapPc, mapAtPc] at hk ⊢; grind)) rfl rfl ?_
    refine SX.call rfl (vt_whoR_s (t := z1.1) (bv := z1.2.1) (bn := z1.2.2) (m := z0.1) (c := z0.2.1) (k := (l[y.1]'hlt).vote) hok.2 (by omega) hK.keys hK.vals) (by simp [mids, It.mids]) Casts.refl (by kernel_rfl) rfl rfl rfl ?_
    refine After.make (by repeat (first | exact Reads.nil | (refine Reads.blk ?_ ?_; focus ((repeat first|assumption|exact m0|apply m1); done)) | (refine Reads.rd ?_ ?_; focus ((repeat first|assumption|exact m0|apply m1); done)) | (refine Reads.pc ?_ ?_; focus ((repeat first|assumption|exact m0|apply m1); done)) | (refine Reads.rdpc ?_ ?_; focus ((repeat first|assumption|exact m0|apply m1); done)))) (fun _ => rfl) ?_
    intro w2
    refine SX.freeze [] (t := 141) rfl rfl ?_
    rw [whoR_eq hK.rel hK.rel.gAt]
    refine SX.call rfl (rwho_s (r := z0.2.2) (k := (l[y.1]'hlt).vote) hok.2 hvr (by omega)) (by simp [mids, It.mids]) Casts.refl (by kernel_rfl) rfl rfl rfl ?_
    refine After.make (by repeat (first | exact Reads.nil | (refine Reads.blk ?_ ?_; focus ((repeat first|assumption|exact m0|apply m1); done)) | (refine Reads.rd ?_ ?_; focus ((repeat first|assumption|exact m0|apply m1); done)) | (refine Reads.pc ?_ ?_; focus ((repeat first|assumption|exact m0|apply m1); done)) | (refine Reads.rdpc ?_ ?_; focus ((repeat first|assumption|exact m0|apply m1); done)))) (fun _ => rfl) ?_
    intro w3
    refine SX.freeze [] (t := 145) rfl rfl ?_
    refine SX.call rfl (sameInts_s (xs := whoR z0.2.2 (l[y.1]'hlt).vote) (ys := whoR z0.2.2 (l[y.1]'hlt).vote) (by rw [whoR_len]; exact Nat.lt_of_le_of_lt (cnt_le _ _) (by omega))) (by simp [mids, It.mids]) Casts.refl (by kernel_rfl) rfl rfl rfl ?_
    refine After.pure (by repeat first|exact .nil|refine .blk (by repeat first|assumption|exact m0|apply m1) ?_|refine .rd (by repeat first|assumption|exact m0|apply m1) ?_|refine .pc (by repeat first|assumption|exact m0|apply m1) ?_|refine .rdpc (by repeat first|assumption|exact m0|apply m1) ?_) (fun _ => rfl) ?_
    intro _
    rw [decide_eq_true (rfl : whoR z0.2.2 (l[y.1]'hlt).vote = whoR z0.2.2 (l[y.1]'hlt).vote)]
    refine SX.val rfl (Val.notT rfl) (by simp) rfl rfl ?_
    refine SX.val rfl (Val.pickF rfl rfl) (by simp) rfl rfl ?_
    refine SX.nil (SE.seq ?_)
    refine SC.condF rfl ?_
    refine SC.skip ?_
    refine SE.inBlock ?_
    refine SE.seq ?_
    refine SC.region ?_
    first
      | refine SL.val (Val.addI rfl rfl (by simp only [InR, lo, hi]; omega)) rfl rfl ?_
      | refine SL.val (Val.addW rfl rfl) rfl rfl ?_
    refine SL.val (Val.move rfl) rfl rfl ?_
    refine SL.nil ?_
    refine SE.round (y.1 + 1, z0.1, z0.2.1, z0.2.2) (by first | omega | (dsimp only; omega)) (⟨hlt, hK⟩) (by exact ⟨rfl, rfl, rfl, rfl, rfl, rfl, trivial⟩) (by repeat first|exact s0 _|exact s1 _|apply s2|apply s3)
end
end Go.Proofs.Ytonceioajbimaaa.A
/-
  From a walk that returns true and changes no old memory to the given statement, for any law without package variables.
-/
namespace Go.Proofs.Ytonceioajbimaaa
open Go.ChangeShapes Go.WideShapes Go.ChangeAt Go.RowKit

theorem law_own : ownKnob Try.prog.godebug = none := by kernel_rfl
theorem law_laidOut : laidOutB Try.prog = true := by kernel_rfl

theorem trodAll_below {H : Type} {enc : TypeId × Value → H} {W W' : World} (hb : Below W.heap.size W W') :
    ∀ (ts : List TypeId) (vs : List Value) (ds : List (DataW H)) (p : List MemPlace), (∀ t ∈ ts, Try.prog.readableRec t = true ∧ t < Try.prog.types.size) →
      DataW.TrodAll enc Try.prog W 0 (fun _ => true) true ts vs ds p → ∃ q, DataW.TrodAll enc Try.prog W' 0 (fun b => decide (b < W.heap.size)) true ts vs ds q
  | [], [], [], p, _, h => ⟨p, h⟩
  | t :: ts, v :: vs, d :: ds, p, hr, h => by
    obtain ⟨p0, q0, h0, h1, rfl⟩ := h
    obtain ⟨q, hq⟩ := trodAll_below hb ts vs ds q0 (fun t ht => hr t (List.mem_cons_of_mem _ ht)) h1
    have lt0 : ∀ x ∈ p0, x.block < W.heap.size := by obtain ⟨m, hm⟩ := h0; exact DataW.trod_lt m _ _ _ hm
    exact ⟨p0 ++ q, p0, q, Below.trod law_laidOut (hr t List.mem_cons_self).1 (hr t List.mem_cons_self).2 h0 hb lt0, hq, rfl⟩
  | [], _ :: _, _, _, _, h => h.elim
  | [], [], _ :: _, _, _, h => h.elim
  | _ :: _, [], _, _, _, h => h.elim
  | _ :: _, _ :: _, [], _, _, h => h.elim

set_option maxRecDepth 100000 in
theorem law_lift {H : Type} {enc : TypeId × Value → H} {os : Os} (started : os.Started) {f : FuncId} {fn : Func} {s : ChangeSpec}
    (noInit : Try.prog.inits.idxOf? f = none) (hfn : Try.prog.funcs[f]? = some fn) (hvars : s.vars = []) (hres : fn.resultTypes = #[4])
    (hparB : (fn.params.toList.all fun t => Try.prog.readableRec t && decide (t < Try.prog.types.size)) = true)
    (hspec : ∀ ds : List (DataW H), ds.length = fn.params.size → s.fn H (ds ++ []) = { results := [.lit (.bool true)], args := ds })
    (wit : ∃ (w : World) (tape : Tape) (i : Input), w.os = os ∧ (w.forCall tape i).Shaped Try.prog ∧ i.vars = [] ∧ Input.okWide Try.prog (w.forCall tape i) .any w.heap.size f i ∧
      s.pre6 enc Try.prog fn [] false (w.forCall tape i).memory i.args ∧ Assume.holds {} Try.prog (lone (Frame.enter Try.prog f i.args .normal) [] (w.forCall tape i)))
    (walk : ∀ (W : World) (base : Nat) (args : Array Value) (ds : List (DataW H)) (p : List MemPlace),
      (∀ (j : Nat) t v, fn.params[j]? = some t → args[j]? = some v → Value.okWide Try.prog W .any base t v) →
      DataW.TrodAll enc Try.prog W 0 (fun _ => true) true fn.params.toList args.toList ds p →
      (DataW.weightsEach Try.prog fn.params.toList ds).all (· ≤ reachBytes) = true →
      Calls Try.prog f args W fun e W' => e = .returned (.bool true) ∧ Ext [] W W') :
    ReturnsInHanded {} Try.checked os f .any (s.pre6 enc Try.prog fn [] false) (s.post enc Try.prog fn false true false false) := by
  have hpar : ∀ t ∈ fn.params.toList, Try.prog.readableRec t = true ∧ t < Try.prog.types.size := by
    simpa only [List.all_eq_true, Bool.and_eq_true, decide_eq_true_eq] using hparB
  refine returnsInHanded_of_change_sized (C := Try.checked) law_own started noInit hfn wit ?_
  intro W base args ds gs before hval0 hW hcnd hsz _
  have hval : ∀ (j : Nat) t v, fn.params[j]? = some t → args[j]? = some v → Value.okWide Try.prog W .any base t v := hval0
  have hW' := hW
  obtain ⟨p, q, hA0, hV, rfl, hfz, hnd⟩ := hW
  have hA : DataW.TrodAll enc Try.prog W 0 (fun _ => true) true fn.params.toList args.toList ds p := hA0
  rw [hvars] at hV
  obtain ⟨rfl, rfl⟩ := trodVars_none hV
  have hsz' : (DataW.weightsEach Try.prog fn.params.toList ds).all (· ≤ reachBytes) = true := by
    have h2 := hsz
    simp only [ChangeSpec.plain, DataSpec.varTypes, hvars, List.filterMap_nil, List.append_nil] at h2
    exact h2
  refine (walk W base args ds p hval hA hsz').mono fun e W' ⟨he, bel⟩ => ?_
  subst he
  have hlen : ds.length = fn.params.size := by
    have : ∀ (ts : List TypeId) (vs : List Value) (ds : List (DataW H)) (p : List MemPlace), DataW.TrodAll enc Try.prog W 0 (fun _ => true) true ts vs ds p → ds.length = ts.length := by
      intro ts
      induction ts with
      | nil => intro vs ds p h; cases vs <;> cases ds <;> first | rfl | exact h.elim
      | cons t ts ih =>
        intro vs ds p h
        cases vs with
        | nil => exact h.elim
        | cons v vs =>
          cases ds with
          | nil => exact h.elim
          | cons d ds => obtain ⟨p0, q0, _, h1, _⟩ := h; simp [ih vs ds q0 h1]
    simpa using this _ _ _ _ hA
  obtain ⟨pa, hpa⟩ := trodAll_below (enc := enc) bel.below fn.params.toList args.toList ds p hpar hA
  refine ⟨_, rfl, ds, [], p ++ [], [], pa, [], hW', ?_, ?_, ?_, bel.below.frame _, fun h => by cases h⟩
  · rw [hspec ds hlen, hres]
    exact trodAll_mk1 (shut_bool Try.underlying4 _)
  · rw [hspec ds hlen]; exact hpa
  · rw [hspec ds hlen, hvars]; rfl

theorem spot_none {w : World} {b o : Nat} {s : Option Nat} {v : Value} (h : w.cell? ⟨b, o, s⟩ = some v) : s = none := by
  have := World.cell?_spot h
  simpa using this

set_option maxRecDepth 100000 in
/-- A slice of integers that came in. -/
theorem open_row_ints {H : Type} {enc : TypeId × Value → H} {W : World} {base : Nat} {t e : TypeId} {k : IntKind} {v : Value} {d : DataW H} {p : List MemPlace}
    (ht : Try.prog.underlying t = some (.slice e)) (he : Try.prog.underlying e = some (.int k)) (hE : Try.prog.cellsOf e = 1)
    (hv : Value.okWide Try.prog W .any base t v) (h : DataW.Trod enc Try.prog W 0 (fun _ => true) true t v d p) :
    ∃ (A : Option Addr) (n c : Nat) (zs : List Int), v = .slice A n c ∧ zs.length = n ∧ n ≤ c ∧ c ≤ maxLen ∧ Row W A (zs.map (Value.int k)) ∧ ∀ z ∈ zs, (Lit.int k z).wf = true := by
  obtain ⟨A, n, c, rfl⟩ := okWide_slice ht hv
  obtain ⟨fuel, hf⟩ := h
  rcases open_ints ht he hE hf with ⟨hcs, _⟩ | ⟨x, l, c', zs, hcs, _, hl, hm, hz, _, hcell, hwz⟩
  · simp [Value.cells] at hcs
    obtain ⟨rfl, rfl, rfl⟩ := hcs
    exact ⟨none, 0, 0, [], rfl, rfl, Nat.le_refl _, Nat.zero_le _, Row.nil_ _ _, by simp⟩
  · simp [Value.cells] at hcs
    obtain ⟨rfl, rfl, rfl⟩ := hcs
    have hz' : zs.length = c := by simpa using hz
    refine ⟨some x, n, c, zs.take n, rfl, by simp; omega, hl, hm, ?_, fun z hz0 => hwz z (List.mem_of_mem_take hz0)⟩
    intro hn
    have hn0 : 0 < zs.length := by
      rcases zs with _ | ⟨z, zs⟩
      · simp at hn
      · simp
    obtain ⟨b, off, spot⟩ := x
    have h0 := hcell 0 hn0
    have hs : spot = none := by
      have : (⟨b, off, spot⟩ : Addr).add 0 = ⟨b, off, spot⟩ := by simp [Addr.add]
      rw [this] at h0
      exact spot_none h0
    subst hs
    refine ⟨b, off, rfl, fun j u hu => ?_⟩
    rw [List.getElem?_map, List.getElem?_take] at hu
    split at hu
    · rename_i hj
      have hjl : j < zs.length := by
        rcases Nat.lt_or_ge j zs.length with h1 | h1
        · exact h1
        · rw [List.getElem?_eq_none h1] at hu; simp at hu
      have hcj := hcell j hjl
      have e1 : (⟨b, off, none⟩ : Addr).add j = ⟨b, off + j, none⟩ := by
        unfold Addr.add
        split
        · rename_i h0; subst h0; rfl
        · rfl
      rw [e1] at hcj
      rw [hcj, ← hu]
      simp [hjl]
    · simp at hu
end Go.Proofs.Ytonceioajbimaaa
/-
  Arguments opened down to their cells: a struct, however deep, is its cells, each read by its own type.
-/
set_option maxRecDepth 100000
namespace Go.Proofs.Ytonceioajbimaaa
open Go.RowKit Go.ChangeShapes Go.WideShapes Go.ChangeAt

/-- The types of a type's cells, in order. -/
def leaves (P : Program) : Nat → TypeId → Option (List TypeId)
  | 0, _ => none
  | d + 1, t =>
    match P.underlying t with
    | some (.struct fs) => fs.toList.foldlM (fun acc f => (leaves P d f.type).bind fun l => if f.offset = acc.length ∧ l.length = P.cellsOf f.type then some (acc ++ l) else none) []
    | some (.array n e) => (leaves P d e).bind fun l => if l.length = P.cellsOf e then some (List.replicate n l).flatten else none
    | some _ => some [t]
    | none => none

section
variable {H : Type} {enc : TypeId × Value → H} {P : Program} {w : World} {base : Nat} {spare : Nat → Bool} {held : Bool}

/-- Cell j reads by its own type. -/
def LeafAt (enc : TypeId × Value → H) (P : Program) (w : World) (base : Nat) (spare : Nat → Bool) (held : Bool) (u : TypeId) (v : Value) : Prop := ∃ n y, DataW.trod enc P w base spare held n u [v] = some y

theorem leaves_fields {d : Nat} {cs : List Value} {n : Nat}
    (ih : ∀ (t : TypeId) (ts : List TypeId) (fuel : Nat) (cs : List Value) (x : DataW H × List MemPlace), leaves P d t = some ts → ts.length = cs.length → DataW.trod enc P w base spare held fuel t cs = some x →
      ∀ (j : Nat) (v : Value) (u : TypeId), cs[j]? = some v → ts[j]? = some u → LeafAt enc P w base spare held u v) :
    ∀ (fs : List Field) (acc ts : List TypeId), (∀ f ∈ fs, ∃ y, DataW.trod enc P w base spare held n f.type ((cs.drop f.offset).take (P.cellsOf f.type)) = some y) →
      fs.foldlM (fun acc f => (leaves P d f.type).bind fun l => if f.offset = acc.length ∧ l.length = P.cellsOf f.type then some (acc ++ l) else none) acc = some ts →
      ts.length ≤ cs.length →
      (∀ (j : Nat) (v : Value) (u : TypeId), cs[j]? = some v → acc[j]? = some u → LeafAt enc P w base spare held u v) →
      (∀ (j : Nat) (v : Value) (u : TypeId), cs[j]? = some v → ts[j]? = some u → LeafAt enc P w base spare held u v) := by
  intro fs
  induction fs with
  | nil =>
    intro acc ts _ h _ ha
    simp at h
    subst h
    exact ha
  | cons f fs hfs =>
    intro acc ts hall h hlen ha
    simp only [List.foldlM_cons, Option.bind_eq_bind, Option.bind_eq_some_iff] at h
    obtain ⟨acc', ⟨l, hl, hif⟩, hrest⟩ := h
    split at hif
    · rename_i hc
      obtain ⟨ho, hlc⟩ := hc
      simp only [Option.some.injEq] at hif
      subst hif
      have hmono : ∀ (fs : List Field) (a b : List TypeId), fs.foldlM (fun acc f => (leaves P d f.type).bind fun l => if f.offset = acc.length ∧ l.length = P.cellsOf f.type then some (acc ++ l) else none) a = some b → a.length ≤ b.length := by
        intro fs
        induction fs with
        | nil => intro a b h; simp at h; subst h; exact Nat.le_refl _
        | cons f fs ih2 =>
          intro a b h
          simp only [List.foldlM_cons, Option.bind_eq_bind, Option.bind_eq_some_iff] at h
          obtain ⟨a', ⟨l, _, hif⟩, hr⟩ := h
          split at hif
          · simp only [Option.some.injEq] at hif
            subst hif
            have := ih2 _ _ hr
            simp at this
            omega
          · cases hif
      have hacc := hmono _ _ _ hrest
      refine hfs (acc ++ l) ts (fun g hg => hall g (List.mem_cons_of_mem _ hg)) hrest hlen ?_
      intro j v u hv hu
      rw [List.getElem?_append] at hu
      split at hu
      · exact ha j v u hv hu
      · rename_i hj
        obtain ⟨y, hy⟩ := hall f List.mem_cons_self
        rw [List.length_append] at hacc
        refine ih f.type l n _ y hl ?_ hy (j - acc.length) v u ?_ hu
        · rw [List.length_take, List.length_drop]; omega
        · have hjl : j - acc.length < l.length := (List.getElem?_eq_some_iff.1 hu).1
          rw [List.getElem?_take, if_pos (by omega), List.getElem?_drop, ho, show acc.length + (j - acc.length) = j by omega]
          exact hv
    · cases hif

theorem leaves_trod : ∀ (d : Nat) (t : TypeId) (ts : List TypeId) (fuel : Nat) (cs : List Value) (x : DataW H × List MemPlace), leaves P d t = some ts → ts.length = cs.length → DataW.trod enc P w base spare held fuel t cs = some x →
    ∀ (j : Nat) (v : Value) (u : TypeId), cs[j]? = some v → ts[j]? = some u → LeafAt enc P w base spare held u v := by
  intro d
  induction d with
  | zero => intro t ts fuel cs x h; simp [leaves] at h
  | succ d ih =>
    intro t ts fuel cs x h hlen ht
    unfold leaves at h
    split at h
    · rename_i fs hu
      obtain ⟨xs, n, _, _, hcl, hxl, hf⟩ := DataW.trod_struct hu ht
      refine leaves_fields (n := n) ih fs.toList [] ts ?_ h (by omega) (by simp)
      intro f hfm
      obtain ⟨i, hi, he⟩ := List.getElem_of_mem hfm
      have h1 := hf i f (by rw [← Array.getElem?_toList, List.getElem?_eq_getElem hi, he])
      have : i < xs.length := by rw [hxl]; simpa using hi
      exact ⟨xs[i], by rw [h1, List.getElem?_eq_getElem this]⟩
    · rename_i m e hu
      obtain ⟨xs, n, _, _, hcl, hxl, hf⟩ := DataW.trod_array hu ht
      simp only [Option.bind_eq_some_iff] at h
      obtain ⟨l, hl, hif⟩ := h
      split at hif
      · rename_i hc
        simp only [Option.some.injEq] at hif
        subst hif
        intro j v u hv hu'
        have hjl : j < (List.replicate m l).flatten.length := (List.getElem?_eq_some_iff.1 hu').1
        have hfl : ∀ k, (List.replicate k l).flatten.length = k * l.length := by
          intro k; simp
        rw [hfl] at hjl
        have hl0 : 0 < l.length := by
          rcases Nat.eq_zero_or_pos l.length with h0 | h0
          · rw [h0] at hjl; simp at hjl
          · exact h0
        have hi : j / l.length < m := by rw [Nat.div_lt_iff_lt_mul hl0]; exact hjl
        have hmod := Nat.mod_lt j hl0
        have hjd := Nat.div_add_mod j l.length
        have hget : ∀ (k j : Nat), j < k * l.length → (List.replicate k l).flatten[j]? = l[j % l.length]? := by
          intro k
          induction k with
          | zero => intro j hj; simp at hj
          | succ k ihk =>
            intro j hj
            rw [List.replicate_succ, List.flatten_cons, List.getElem?_append]
            split
            · rename_i h1; rw [Nat.mod_eq_of_lt h1]
            · rename_i h1
              rw [ihk (j - l.length) (by rw [Nat.succ_mul] at hj; omega)]
              rw [← Nat.mod_eq_sub_mod (show l.length ≤ j by omega)]
        rw [hget m j hjl] at hu'
        have h1 := hf (j / l.length) hi
        have hxi : j / l.length < xs.length := by omega
        rw [List.getElem?_eq_getElem hxi] at h1
        have hsz : (j / l.length) * P.cellsOf e + P.cellsOf e ≤ cs.length := by
          rw [← hlen, hfl, ← hc]
          calc (j / l.length) * l.length + l.length = (j / l.length + 1) * l.length := by rw [Nat.succ_mul]
            _ ≤ m * l.length := Nat.mul_le_mul_right _ hi
        refine ih e l n _ _ hl ?_ h1 (j % l.length) v u ?_ hu'
        · rw [List.length_take, List.length_drop]; omega
        · rw [List.getElem?_take, if_pos (by omega), List.getElem?_drop, ← hc, ← hv]
          congr 1
          rw [Nat.mul_comm]; exact hjd
      · cases hif
    · rename_i hu1 hu2 hs
      simp only [Option.some.injEq] at h
      subst h
      intro j v u hv hu'
      have hc1 : cs.length = 1 := by simpa using hlen.symm
      match cs, hc1 with
      | [c], _ =>
        match j with
        | 0 =>
          simp at hv hu'
          subst hv; subst hu'
          exact ⟨fuel, x, ht⟩
        | j + 1 => simp at hv
    · cases h
theorem LeafAt.int {u : TypeId} {v : Value} {k : IntKind} (h : LeafAt enc P w base spare held u v) (hu : P.underlying u = some (.int k)) : ∃ n, v = .int k n ∧ (Lit.int k n).wf = true := by
  obtain ⟨n, y, hy⟩ := h
  obtain ⟨m, h1, _, h2⟩ := DataW.trod_int hu hy
  simp at h1
  exact ⟨m, h1, h2⟩
theorem LeafAt.string {u : TypeId} {v : Value} (h : LeafAt enc P w base spare held u v) (hu : P.underlying u = some .string) : ∃ s, v = .string s ∧ s.size ≤ maxLen := by
  obtain ⟨n, y, hy⟩ := h
  obtain ⟨m, h1, _, h2⟩ := DataW.trod_string hu hy
  simp at h1
  exact ⟨m, h1, h2⟩
theorem LeafAt.bool {u : TypeId} {v : Value} (h : LeafAt enc P w base spare held u v) (hu : P.underlying u = some .bool) : ∃ b, v = .bool b := by
  obtain ⟨n, y, hy⟩ := h
  obtain ⟨m, h1, _⟩ := DataW.trod_bool hu hy
  simp at h1
  exact ⟨m, h1⟩

theorem flatten_get {α : Type} {sz : Nat} (h0 : 0 < sz) : ∀ (xs : List (List α)), (∀ x ∈ xs, x.length = sz) → ∀ j, xs.flatten[j]? = (xs[j / sz]?).bind fun x => x[j % sz]? := by
  intro xs
  induction xs with
  | nil => intro _ j; simp
  | cons x xs ih =>
    intro hx j
    have hxl := hx x List.mem_cons_self
    rw [List.flatten_cons, List.getElem?_append]
    split
    · rename_i h1
      rw [Nat.div_eq_of_lt (by omega), Nat.mod_eq_of_lt (by omega)]
      simp
    · rename_i h1
      rw [ih (fun y hy => hx y (List.mem_cons_of_mem _ hy)), hxl]
      have h2 : j / sz = (j - sz) / sz + 1 := by
        rw [Nat.div_eq_sub_div h0 (by omega)]
      rw [h2, List.getElem?_cons_succ, ← Nat.mod_eq_sub_mod (show sz ≤ j by omega)]
theorem flatten_length {α : Type} {sz : Nat} : ∀ (xs : List (List α)), (∀ x ∈ xs, x.length = sz) → xs.flatten.length = xs.length * sz := by
  intro xs
  induction xs with
  | nil => intro _; simp
  | cons x xs ih =>
    intro hx
    rw [List.flatten_cons, List.length_append, ih (fun y hy => hx y (List.mem_cons_of_mem _ hy)), hx x List.mem_cons_self, List.length_cons, Nat.succ_mul, Nat.add_comm]
theorem add_eq (b off : Nat) (j : Nat) : (⟨b, off, none⟩ : Addr).add j = ⟨b, off + j, none⟩ := by
  unfold Addr.add
  split
  · rename_i h0; subst h0; rfl
  · rfl

/-- A slice that came in: its row, element by element: each element's cells read by the element's type. -/
theorem open_row {t e : TypeId} {fuel : Nat} {A : Option Addr} {n c : Nat} {x : DataW H × List MemPlace} (ht : P.underlying t = some (.slice e)) (h : DataW.trod enc P w base spare held fuel t [.slice A n c] = some x) :
    n ≤ c ∧ c ≤ maxLen ∧ ∃ xs : List (List Value), xs.length = n ∧ (∀ cs ∈ xs, cs.length = P.cellsOf e ∧ ∃ m y, DataW.trod enc P w base spare held m e cs = some y) ∧ (xs.flatten ≠ [] → ∃ b off : Nat, A = some ⟨b, off, none⟩ ∧ ∀ j u, xs.flatten[j]? = some u → w.cell? ⟨b, off + j, none⟩ = some u) := by
  rcases Deep.open_slice ht h with ⟨hcs, _⟩ | ⟨a, len, cap, m, n', D, Pl, hcs, _, hl, hm, hmm, _, hi⟩
  · simp at hcs
    obtain ⟨rfl, rfl, rfl⟩ := hcs
    exact ⟨Nat.le_refl _, Nat.zero_le _, [], rfl, by simp, by simp⟩
  · simp at hcs
    obtain ⟨rfl, rfl, rfl⟩ := hcs
    have hnm : n ≤ m := by rw [hmm]; split <;> omega
    refine ⟨hl, hm, (List.range n).map fun i => ((w.cells? base (a.add (i * P.cellsOf e)) (P.cellsOf e)).getD []), by simp, ?_, ?_⟩
    · intro cs hcs
      simp only [List.mem_map, List.mem_range] at hcs
      obtain ⟨i, hin, rfl⟩ := hcs
      obtain ⟨cs', h1, h2⟩ := hi i (by omega)
      rw [h1]
      exact ⟨(World.cells?_some h1).2.1, n', _, h2⟩
    · intro hne
      have hall : ∀ y ∈ (List.range n).map (fun i => ((w.cells? base (a.add (i * P.cellsOf e)) (P.cellsOf e)).getD [])), y.length = P.cellsOf e := by
        intro y hy
        simp only [List.mem_map, List.mem_range] at hy
        obtain ⟨i, hin, rfl⟩ := hy
        obtain ⟨cs', h1, _⟩ := hi i (by omega)
        rw [h1]
        exact (World.cells?_some h1).2.1
      have hlen0 := flatten_length _ hall
      have hpos : 0 < n * P.cellsOf e := by
        rcases Nat.eq_zero_or_pos (n * P.cellsOf e) with h0 | h0
        · exfalso
          apply hne
          apply List.eq_nil_of_length_eq_zero
          rw [hlen0]
          simpa using h0
        · exact h0
      have hsz : 0 < P.cellsOf e := Nat.pos_of_mul_pos_left hpos
      have hn0 : 0 < n := Nat.pos_of_mul_pos_right hpos
      obtain ⟨b, off, spot⟩ := a
      have hs : spot = none := by
        obtain ⟨cs', h1, _⟩ := hi 0 (by omega)
        obtain ⟨_, hl1, hc1⟩ := World.cells?_some h1
        have h2 := hc1 0 hsz
        have h3 : ((⟨b, off, spot⟩ : Addr).add (0 * P.cellsOf e)).add 0 = ⟨b, off, spot⟩ := by simp [Addr.add]
        rw [h3, List.getElem?_eq_getElem (by omega)] at h2
        exact spot_none h2
      subst hs
      refine ⟨b, off, rfl, fun j u hu => ?_⟩
      rw [flatten_get hsz _ hall] at hu
      simp only [Option.bind_eq_some_iff, List.getElem?_map, Option.map_eq_some_iff] at hu
      obtain ⟨y, ⟨i, hir, rfl⟩, hy⟩ := hu
      have hrl := List.getElem?_eq_some_iff.1 hir
      obtain ⟨hir1, hir2⟩ := hrl
      simp at hir1 hir2
      subst hir2
      obtain ⟨cs', h1, _⟩ := hi (j / P.cellsOf e) (by omega)
      rw [h1] at hy
      simp only [Option.getD_some] at hy
      obtain ⟨_, hl1, hc1⟩ := World.cells?_some h1
      have h2 := hc1 (j % P.cellsOf e) (Nat.mod_lt _ hsz)
      rw [add_eq, add_eq, hy] at h2
      have hjd := Nat.div_add_mod j (P.cellsOf e)
      rw [show off + j = off + j / P.cellsOf e * P.cellsOf e + j % P.cellsOf e by rw [Nat.mul_comm (j / P.cellsOf e)]; omega]
      exact h2
/-- The same, the elements decoded. -/
theorem open_rowOf {α : Type} {cells : α → List Value} {Ok : α → Prop} {t e : TypeId} {fuel : Nat} {A : Option Addr} {n c : Nat} {x : DataW H × List MemPlace} (ht : P.underlying t = some (.slice e)) (h : DataW.trod enc P w base spare held fuel t [.slice A n c] = some x)
    (hdec : ∀ cs, cs.length = P.cellsOf e → (∃ m y, DataW.trod enc P w base spare held m e cs = some y) → ∃ a, cs = cells a ∧ Ok a) :
    n ≤ c ∧ c ≤ maxLen ∧ ∃ xs : List α, xs.length = n ∧ Row w A (xs.flatMap cells) ∧ ∀ a ∈ xs, Ok a := by
  obtain ⟨h1, h2, ys, hl, hall, hrow⟩ := open_row ht h
  have hd : ∀ (ys : List (List Value)), (∀ cs ∈ ys, cs.length = P.cellsOf e ∧ ∃ m y, DataW.trod enc P w base spare held m e cs = some y) → ∃ xs : List α, xs.length = ys.length ∧ ys = xs.map cells ∧ ∀ a ∈ xs, Ok a := by
    intro ys
    induction ys with
    | nil => intro _; exact ⟨[], rfl, rfl, by simp⟩
    | cons cs ys ih =>
      intro hy
      obtain ⟨a, ha, hok⟩ := hdec cs (hy cs List.mem_cons_self).1 (hy cs List.mem_cons_self).2
      obtain ⟨xs, hxl, hxe, hxo⟩ := ih (fun c hc => hy c (List.mem_cons_of_mem _ hc))
      exact ⟨a :: xs, by simp [hxl], by simp [ha, hxe], by simpa using ⟨hok, hxo⟩⟩
  obtain ⟨xs, hxl, hxe, hxo⟩ := hd ys hall
  refine ⟨h1, h2, xs, by omega, ?_, hxo⟩
  intro hne
  have hf : ys.flatten = xs.flatMap cells := by rw [hxe, List.flatMap]
  rw [← hf] at hne
  obtain ⟨b, off, hA, hc⟩ := hrow hne
  exact ⟨b, off, hA, fun j u hu => hc j u (by rw [hf]; exact hu)⟩
end
end Go.Proofs.Ytonceioajbimaaa
/-
  Rows of bytes that come in as arguments.
-/
set_option maxRecDepth 100000
namespace Go.Proofs.Ytonceioajbimaaa
open Go.RowKit Go.ChangeShapes Go.WideShapes Go.ChangeAt

section
variable {H : Type} {enc : TypeId × Value → H} {w : World} {base : Nat} {spare : Nat → Bool} {held : Bool}
theorem open_byte (cs : List Value) (hl : cs.length = Try.prog.cellsOf 5) (h : ∃ m y, DataW.trod enc Try.prog w base spare held m 5 cs = some y) : ∃ c : UInt8, cs = [bc c] ∧ True := by
  obtain ⟨fuel, x, h⟩ := h
  rw [show Try.prog.cellsOf 5 = 1 by kernel_rfl] at hl
  have hlv : leaves Try.prog 4 5 = some [5] := by kernel_rfl
  have hh := leaves_trod 4 _ _ _ _ _ hlv (by simpa using hl.symm) h
  match cs, hl with
  | [v0], _ =>
    obtain ⟨n, rfl, b⟩ := (hh 0 v0 _ rfl rfl).int Try.underlying5
    simp only [Lit.wf, Bool.and_eq_true, decide_eq_true_eq] at b
    have b0 : (0 : Int) ≤ n := b.1
    have b1 : n ≤ (255 : Int) := b.2
    refine ⟨UInt8.ofNat n.toNat, ?_, trivial⟩
    have : ((UInt8.ofNat n.toNat).toNat : Int) = n := by simp; omega
    simp [bc]
    omega
theorem open_bytes {fuel : Nat} {A : Option Addr} {n c : Nat} {x : DataW H × List MemPlace} (h : DataW.trod enc Try.prog w base spare held fuel 45 [.slice A n c] = some x) : ∃ l : List UInt8, l.length = n ∧ n ≤ c ∧ c ≤ maxLen ∧ Row w A (l.map bc) := by
  obtain ⟨h1, h2, xs, h3, h4, _⟩ := open_rowOf (cells := fun c : UInt8 => [bc c]) (Ok := fun _ => True) Try.underlying45 h (fun cs hl hh => open_byte cs hl hh)
  refine ⟨xs, h3, h1, h2, ?_⟩
  have : xs.flatMap (fun c : UInt8 => [bc c]) = xs.map bc := by
    clear h3 h4
    induction xs with
    | nil => rfl
    | cons a xs ih => simp [ih]
  rw [← this]
  exact h4
theorem open_none {t e : TypeId} {fuel : Nat} {A : Option Addr} {n c : Nat} {x : DataW H × List MemPlace} (ht : Try.prog.underlying t = some (.slice e)) (h : DataW.trod enc Try.prog w base spare held fuel t [.slice A n c] = some x) : A = none → c = 0 := by
  intro hA
  rcases Deep.open_slice ht h with ⟨hcs, _⟩ | ⟨a, len, cap, m, n', D, Pl, hcs, _⟩
  · simp at hcs
    exact hcs.2.2
  · simp at hcs
    rw [hA] at hcs
    simp at hcs
theorem open_bytesV {fuel : Nat} {A : Option Addr} {n c : Nat} {x : DataW H × List MemPlace} (h : DataW.trod enc Try.prog w base spare held fuel 45 [.slice A n c] = some x) : ∃ l : List UInt8, BytesV w (.slice A n c) l := by
  obtain ⟨l, rfl, h1, h2, h3⟩ := open_bytes h
  exact ⟨l, A, c, rfl, h1, h2, open_none Try.underlying45 h, h3⟩
theorem open_oneBytes (cs : List Value) (h : ∃ m y, DataW.trod enc Try.prog w base spare held m 45 cs = some y) : ∃ a : Value × List UInt8, cs = [a.1] ∧ BytesV w a.1 a.2 := by
  obtain ⟨fuel, x, h⟩ := h
  rcases Deep.open_slice Try.underlying45 h with ⟨hcs, _⟩ | ⟨a, len, cap, m, n', D, Pl, hcs, _⟩
  · subst hcs
    obtain ⟨l, hl⟩ := open_bytesV h
    exact ⟨(_, l), rfl, hl⟩
  · subst hcs
    obtain ⟨l, hl⟩ := open_bytesV h
    exact ⟨(_, l), rfl, hl⟩
end
end Go.Proofs.Ytonceioajbimaaa
/-
  Arguments that are rows of structs as trees: opened down to their cells; from a walk to the statement.
-/
set_option maxRecDepth 100000
set_option linter.unusedSimpArgs false
set_option linter.unusedVariables false
namespace Go.Proofs.Ytonceioajbimaaa.A
open Go.RowKit Go.ChangeShapes Go.WideShapes Go.ChangeAt

section
variable {H : Type} {enc : TypeId × Value → H} {w : World} {base : Nat} {spare : Nat → Bool} {held : Bool}
theorem wfIn {a : Int} (h : (Lit.int .i64 a).wf = true) : InR .i64 a := by
  have := bounds_i64 h
  simp only [InR, lo, hi]
  omega
theorem open_rows {α : Type} {abs : α → List Abs} {Ok : α → Prop} {s : Nat} : ∀ {ys : List (List Value)}, (∀ cs ∈ ys, cs.length = s ∧ ∃ a, reps [] w (abs a) cs ∧ Ok a) → ∃ xs : List α, repss [] w s (xs.map abs) ys.flatten ∧ xs.length = ys.length ∧ ∀ a ∈ xs, Ok a
  | [], _ => ⟨[], rfl, rfl, by simp⟩
  | cs :: ys, h => by
    obtain ⟨h1, a, h2, h3⟩ := h cs List.mem_cons_self
    obtain ⟨xs, h4, h5, h6⟩ := open_rows (ys := ys) fun c hc => h c (List.mem_cons_of_mem _ hc)
    exact ⟨a :: xs, ⟨cs, _, rfl, h1, h2, h4⟩, by simp [h5], by simpa using ⟨h3, h6⟩⟩
/-- A slice that came in, as a tree. -/
theorem open_slA {α : Type} {abs : α → List Abs} {Ok : α → Prop} {t e : TypeId} {s : Nat} {v : Value} (ht : Try.prog.underlying t = some (.slice e)) (hs : Try.prog.cellsOf e = s) (h : LeafAt enc Try.prog w base spare held t v)
    (hdec : ∀ cs, cs.length = Try.prog.cellsOf e → (∃ m y, DataW.trod enc Try.prog w base spare held m e cs = some y) → ∃ a, reps [] w (abs a) cs ∧ Ok a) :
    ∃ xs : List α, rep [] w (.sl s (xs.map abs)) v ∧ ∀ a ∈ xs, Ok a := by
  obtain ⟨fuel, x, h⟩ := h
  obtain ⟨A, n, c, rfl⟩ : ∃ A n c, v = .slice A n c := by
    rcases Deep.open_slice ht h with ⟨hcs, _⟩ | ⟨a, len, cap, m, n', D, Pl, hcs, _⟩
    · simp at hcs; exact ⟨_, _, _, hcs⟩
    · simp at hcs; exact ⟨_, _, _, hcs⟩
  obtain ⟨h1, h2, ys, h3, h4, h5⟩ := open_row ht h
  obtain ⟨xs, h6, h7, h8⟩ := open_rows (abs := abs) (Ok := Ok) (s := s) (w := w) (ys := ys) fun cs hc => ⟨by rw [← hs]; exact (h4 cs hc).1, hdec cs (h4 cs hc).1 (h4 cs hc).2⟩
  refine ⟨xs, ⟨ys.flatten, ⟨⟨A, c, ?_, ?_, h2, open_none ht h⟩, fun hn => ?_⟩, h6⟩, h8⟩
  · rw [List.length_map, h7, h3]
  · rw [List.length_map, h7, h3]; exact h1
  · obtain ⟨b, off, rfl, hc⟩ := h5 hn
    exact ⟨b, off, _, _, rfl, by simp, hc⟩
theorem open_u8 : ∀ {cs : List Value}, (∀ v ∈ cs, LeafAt enc Try.prog w base spare held 5 v) → ∃ d : List UInt8, cs = d.map bc
  | [], _ => ⟨[], rfl⟩
  | v :: cs, h => by
    obtain ⟨d, rfl⟩ := open_u8 (cs := cs) fun x hx => h x (List.mem_cons_of_mem _ hx)
    obtain ⟨m, y, hy⟩ := h v List.mem_cons_self
    obtain ⟨c, hc, _⟩ := open_byte [v] (by rw [show Try.prog.cellsOf 5 = 1 by kernel_rfl]; rfl) ⟨m, y, hy⟩
    simp at hc
    exact ⟨c :: d, by rw [hc]; rfl⟩
theorem reps_dig {K : List Nat} (d : List UInt8) : reps K w (digA d) (d.map bc) := by
  have : digA d = (d.map bc).map .v := by simp [digA]
  rw [this]
  exact reps_plain.2 rfl
end
theorem _root_.Go.Proofs.Ytonceioajbimaaa.IsRow.bytesA {K : List Nat} {w : World} {v : Value} {m : List UInt8} (h : IsRow K w v m.length (m.map bc)) : BytesV w v m := by
  obtain ⟨A, c, rfl, h1, h2, h3⟩ := h.shape
  refine ⟨A, c, rfl, h1, h2, h3, fun hn => ?_⟩
  obtain ⟨b, off, n', c', hv, _, hc⟩ := h.cells hn
  simp at hv
  obtain ⟨rfl, _, _⟩ := hv
  exact ⟨b, off, rfl, hc⟩
/-- A row of bytes as a text. -/
theorem Val.strOf {n : Nat} {W : Wd} {σ : Blks} {l : Slots} {X : List Nat} {x : Operand} {d : Option Nat} {ty : TypeId} {pos : String} {aft : Array Edge} {gq : Option (Nat × Bool)} {m : List UInt8} (hx : look l x = some (byt m)) : Val Try.prog n W σ l X ⟨d, .convert 45 9 x, ty, pos, aft, gq⟩ (.v (.string ⟨m.toArray⟩)) := fun a w hs hX => ⟨_, rfl, fun w' hw' => by
  have h1 := rep_byt.1 (hs.eval hx)
  have h2 := (Carry.of_ext hw' (K := mids σ ++ W.G) (K' := mids σ ++ W.G) (fun k hk => .inl (List.mem_append_left _ (hX k hk))) (fun k hk => .inl hk)).row h1
  have := conv_txtE h2.bytesA
  simp [execOp, this, Result.andThen]⟩
/-- A law's walk, as a call in a world. -/
theorem law_of {f : FuncId} {args : List Abs} (h : Pure Try.prog f args (boo true)) {w : World} {vals : List Value} (hv : reps [] w args vals) : Calls Try.prog f vals.toArray w fun e w' => e = .returned (.bool true) ∧ Ext [] w w' := by
  have hm : Mem w (mids []) [] [] w := ⟨Ext.refl w, by simp [mids], by simp, by simp, by simp, by simp [mids], by simp⟩
  refine (h [] w vals hm hv).mono fun e w' ⟨z, r, he, _, h1, h2⟩ => ⟨?_, h1.ext⟩
  have h2 : r = .bool true := h2
  rw [he, h2]
end Go.Proofs.Ytonceioajbimaaa.A
