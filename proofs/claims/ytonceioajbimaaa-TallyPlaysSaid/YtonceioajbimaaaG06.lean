/-
  Packed out of the texts: Y2, Y3, Arr32.
-/
import Derived.Test.YtonceioajbimaaaG05
import Derived.DataShut
/-
  Tallies: the program's.
-/
set_option maxRecDepth 100000
set_option linter.unusedSimpArgs false
set_option linter.unusedVariables false
namespace Go.Proofs.Ytonceioajbimaaa.A
open Go.RowKit Go.Maps Go.Sort Go.Shelf

theorem After.three {ι : Type} {x1 x2 x3 : It} {β : Blks} {τ' : ι → Blks} {y1 y2 y3 : ι → It} {K : Blks → ι → Prop} (hr : x1.rids = [] ∧ x2.rids = [] ∧ x3.rids = []) (hτ : ∀ z, τ' z = [y1 z, y2 z, y3 z]) (k : ∀ z, K (y1 z :: y2 z :: y3 z :: β) z) : After (x1 :: x2 :: x3 :: β) [x1, x2, x3] τ' K :=
  After.mid [] (β := β) rfl (by intro x hx; simp only [List.mem_cons, List.not_mem_nil, or_false] at hx; rcases hx with rfl | rfl | rfl; exact hr.1; exact hr.2.1; exact hr.2.2) fun z => by rw [hτ z]; exact k z
theorem After.threeN {ι : Type} {x1 x2 x3 : It} {β : Blks} {τ' : ι → Blks} {y0 y1 y2 y3 : ι → It} {K : Blks → ι → Prop} (hr : x1.rids = [] ∧ x2.rids = [] ∧ x3.rids = []) (hτ : ∀ z, τ' z = [y0 z, y1 z, y2 z, y3 z]) (k : ∀ z, K (y0 z :: y1 z :: y2 z :: y3 z :: β) z) : After (x1 :: x2 :: x3 :: β) [x1, x2, x3] τ' K :=
  After.mid [] (β := β) rfl (by intro x hx; simp only [List.mem_cons, List.not_mem_nil, or_false] at hx; rcases hx with rfl | rfl | rfl; exact hr.1; exact hr.2.1; exact hr.2.2) fun z => by rw [hτ z]; exact k z
section
variable {α : Type} [DecidableEq α] {m : List (Int × α)} {c : List (α × Nat)} {v k : α} {who : Int}
def tAddM (m : List (Int × α)) (who : Int) (k : α) : List (Int × α) := if (aget m who).isSome then m else aput m who k
def tAddC (m : List (Int × α)) (c : List (α × Nat)) (who : Int) (k : α) : List (α × Nat) := if (aget m who).isSome then c else chgC m c who k
def tAddB (m : List (Int × α)) (who : Int) (k : α) : Bool := match aget m who with | some v => decide (v = k) | none => true
omit [DecidableEq α] in
theorem tAddM_old (h : aget m who = some v) : tAddM m who k = m := if_pos (by rw [h]; rfl)
omit [DecidableEq α] in
theorem tAddM_new (h : aget m who = none) : tAddM m who k = aput m who k := if_neg (by rw [h]; simp)
theorem tAddC_old (h : aget m who = some v) : tAddC m c who k = c := if_pos (by rw [h]; rfl)
theorem tAddC_new (h : aget m who = none) : tAddC m c who k = chgC m c who k := if_neg (by rw [h]; simp)
theorem tAddB_old (h : aget m who = some v) : tAddB m who k = decide (v = k) := by unfold tAddB; rw [h]
theorem tAddB_new (h : aget m who = none) : tAddB m who k = true := by unfold tAddB; rw [h]
end
theorem getD_is {α : Type} {enc : α → Abs} {V : α → Value} {z : Abs} {zv : Value} (h : ∀ a, (enc a).is (V a)) (hz : z.is zv) (o : Option α) : ((o.map enc).getD z).is ((o.map V).getD zv) := by
  cases o with
  | none => exact hz
  | some a => exact h a
theorem isSome_some {α : Type} {o : Option α} (h : o.isSome = true) : ∃ v, o = some v := Option.isSome_iff_exists.1 h
theorem isSome_none {α : Type} {o : Option α} (h : o.isSome = false) : o = none := by simpa using h
def u8E (x : UInt8) : Abs := .v (bc x)
theorem u8_is (x : UInt8) : (u8E x).is (bc x) := is_v
abbrev u8A (o : Option UInt8) : Abs := (o.map u8E).getD (.v (.int .u8 0))
theorem u8_zero : ∀ w, (zeroValue 5).run Try.prog w = .ok (.int .u8 0) w := fun w => by
  kernel_rfl
theorem u8A_is (o : Option UInt8) : (u8A o).is ((o.map bc).getD (.int .u8 0)) := getD_is u8_is (is_v) o
section
variable {t bv bn : Nat} {m : List (Int × UInt8)} {c : List (UInt8 × Nat)} {k : UInt8} {who at_ : Int}
theorem u8_new_s  : Spec Try.prog 26 [] [] (fun z : Nat × Nat × Nat => [.blk z.1 82 [mapV z.2.1, mapV z.2.2], .pc (mapPc z.2.1 intK bc intOk []), .pc (mapPc z.2.2 bc cntV top [])]) (fun z => ptr z.1) := by
  refine spec_of Try.func26 rfl Try.ntmps26 rfl fun G w => ?_
  refine SC.seq (SC.region ?_)
  refine SL.val (Val.assign rfl) rfl rfl ?_
  refine SL.nil (SE.seq ?_)
  refine SC.seq (SC.region ?_)
  refine SL.eff (Eff.makeMap intK bc intOk (fun ac w => by simp [execOp, Instr.makeMap, newObj, Sem.run, Sem.run_bind, Result.andThen])) rfl rfl ?_
  rintro _ _ ⟨m1, rfl, rfl⟩
  refine SL.eff (Eff.makeMap bc cntV top (fun ac w => by simp [execOp, Instr.makeMap, newObj, Sem.run, Sem.run_bind, Result.andThen])) rfl rfl ?_
  rintro _ _ ⟨m2, rfl, rfl⟩
  refine SL.val (Val.buildS tabOk rfl rfl rfl rfl) rfl rfl ?_
  refine SL.eff (Eff.boxA rfl) rfl rfl ?_
  rintro _ _ ⟨b4, rfl, rfl⟩
  refine SL.val (Val.assign rfl) rfl rfl ?_
  refine SL.nil (SE.seq ?_)
  refine SC.ret ?_
  refine SE.perm (List.Perm.cons _ (List.Perm.swap _ _ _)) ?_
  refine SE.fin (rs := [.tmp 0]) rfl (RV.tmp rfl RV.nil) (b4, m1, m2) (by repeat first|exact s0 _|exact s1 _|apply s2|apply s3) (by simp [It.rids]) ?_
  exact rfl
theorem int_zero : ∀ w, (zeroValue 3).run Try.prog w = .ok (cntV 0) w := fun w => by
  kernel_rfl
set_option maxHeartbeats 2000000 in
theorem u8_change_s (hw : intOk who) (hti : TInv m c) (hl : m.length ≤ 1000) : Spec Try.prog 40 [ptr t, int who, u8E k] [.blk t 82 [mapV bv, mapV bn], .pc (mapPc bv intK bc intOk m), .pc (mapPc bn bc cntV top c)] (fun _ : Unit => [.blk t 82 [mapV bv, mapV bn], .pc (mapPc bv intK bc intOk (aput m who k)), .pc (mapPc bn bc cntV top (chgC m c who k))]) (fun _ => .tup []) := by
  refine spec_of Try.func40 rfl Try.ntmps40 rfl fun G w => ?_
  refine SC.seq ?_
  refine SC.seq (SC.region ?_)
  refine SL.val (Val.move rfl) rfl rfl ?_
  refine SL.val (Val.eqP rfl rfl (by kernel_rfl)) rfl rfl ?_
  refine SL.nil (SE.seq ?_)
  refine SC.condF rfl ?_
  refine SC.skip ?_
  refine SE.seq ?_
  refine SC.cutS (ι := Unit) (fun z => [.blk t 82 [mapV bv, mapV bn], .pc (mapPc bv intK bc intOk m), .pc (mapPc bn bc cntV top (decO c (aget m who)))]) (fun z => [(0, ptr t), (1, int who), (2, u8E k)]) (fun z => True) ?_ ?_
  · skip
    refine SC.seq (SC.region ?_)
    refine SL.val (Val.move rfl) rfl rfl ?_
    refine SL.val (Val.nilCheck rfl) rfl rfl ?_
    refine SL.val (Val.fieldAddr tabOk rfl rfl rfl rfl rfl) rfl rfl ?_
    refine SL.val (Val.load1 tabOk rfl rfl (by first|(apply Or.inl;(repeat first|assumption|exact m0|apply m1);done)|(apply Or.inr;(repeat first|assumption|exact m0|apply m1);done)) List.not_mem_nil (by rfl)) rfl rfl ?_
    refine SL.val (Val.move rfl) rfl rfl ?_
    refine SL.val (Val.mapGetOk (a := who) (zv := (.int .u8 0)) (C := u8A (aget m who)) (int_fit Try.underlying3) Try.underlying79 u8_zero rfl (by first|(apply Or.inl;(repeat first|assumption|exact m0|apply m1);done)|(apply Or.inr;(repeat first|assumption|exact m0|apply m1);done)) List.not_mem_nil rfl is_v hw (u8A_is _)) rfl rfl ?_
    refine SL.val (Val.move rfl) rfl rfl ?_
    refine SL.val (Val.extract rfl rfl) rfl rfl ?_
    refine SL.val (Val.extract rfl rfl) rfl rfl ?_
    refine SL.val (Val.assign rfl) rfl rfl ?_
    refine SL.val (Val.assign rfl) rfl rfl ?_
    refine SL.nil (SE.seq ?_)
    refine SC.seq (SC.region ?_)
    refine SL.val (Val.move rfl) rfl rfl ?_
    refine SL.nil (SE.seq ?_)
    refine SC.cond rfl ?_ ?_
    rotate_left
    · intro hc19
      have hv := isSome_none hc19
      rw [hv]
      refine SC.skip ?_
      refine SE.meet (()) (trivial) (by exact ⟨rfl, rfl, rfl, trivial⟩) (by repeat first|exact s0 _|exact s1 _|apply s2|apply s3)
    intro hc19
    obtain ⟨v, hv⟩ := isSome_some hc19
    rw [hv]
    refine SC.seq (SC.region ?_)
    refine SL.val (Val.move rfl) rfl rfl ?_
    refine SL.val (Val.nilCheck rfl) rfl rfl ?_
    refine SL.val (Val.fieldAddr tabOk rfl rfl rfl rfl rfl) rfl rfl ?_
    refine SL.val (Val.load1 tabOk rfl rfl (by first|(apply Or.inl;(repeat first|assumption|exact m0|apply m1);done)|(apply Or.inr;(repeat first|assumption|exact m0|apply m1);done)) List.not_mem_nil (by rfl)) rfl rfl ?_
    refine SL.val (Val.move rfl) rfl rfl ?_
    refine SL.val (Val.mapGet (a := v) (zv := cntV 0) (C := int ((cget c v : Nat) : Int)) u8_fit Try.underlying80 int_zero rfl (by first|(apply Or.inl;(repeat first|assumption|exact m0|apply m1);done)|(apply Or.inr;(repeat first|assumption|exact m0|apply m1);done)) List.not_mem_nil rfl (u8_is _) trivial (cget_is _ _)) rfl rfl ?_
    refine SL.val (Val.to (C := int ((cget c v - 1 : Nat) : Int)) (Val.subI rfl rfl (by have := hti.le v; simp only [InR, lo, hi]; omega)) (congrArg int (by have := hti.pos hv; omega))) rfl rfl ?_
    refine SL.eff (Eff.mapPut (a := v) (v := cget c v - 1) (m' := aput c v (cget c v - 1)) u8_fit Try.underlying80 rfl (by repeat first|assumption|exact Upd.here|apply Upd.there) rfl (u8_is _) trivial rfl is_v rfl) rfl rfl ?_
    rintro _ _ ⟨rfl, rfl⟩
    refine SL.nil (SE.seq ?_)
    refine SC.seq (SC.region ?_)
    refine SL.val (Val.move rfl) rfl rfl ?_
    refine SL.val (Val.nilCheck rfl) rfl rfl ?_
    refine SL.val (Val.fieldAddr tabOk rfl rfl rfl rfl rfl) rfl rfl ?_
    refine SL.val (Val.load1 tabOk rfl rfl (by first|(apply Or.inl;(repeat first|assumption|exact m0|apply m1);done)|(apply Or.inr;(repeat first|assumption|exact m0|apply m1);done)) List.not_mem_nil (by rfl)) rfl rfl ?_
    refine SL.val (Val.move rfl) rfl rfl ?_
    refine SL.val (Val.mapGet (a := v) (zv := cntV 0) (C := int ((cget (aput c v (cget c v - 1)) v : Nat) : Int)) u8_fit Try.underlying80 int_zero rfl (by first|(apply Or.inl;(repeat first|assumption|exact m0|apply m1);done)|(apply Or.inr;(repeat first|assumption|exact m0|apply m1);done)) List.not_mem_nil rfl (u8_is _) trivial (cget_is _ _)) rfl rfl ?_
    refine SL.val (Val.eqI rfl rfl) rfl rfl ?_
    refine SL.nil (SE.seq ?_)
    refine SC.condP rfl ?_ ?_
    rotate_left
    · intro hc33
      refine SC.skip ?_
      refine SE.meet () trivial ⟨rfl, rfl, rfl, trivial⟩ ?_
      rw [dec_keep (by omega)]
      repeat (first | exact List.nil_sublist _ | exact List.Sublist.refl _ | apply List.Sublist.cons_cons | apply List.Sublist.cons)
    intro hc33
    refine SC.region ?_
    refine SL.val (Val.move rfl) rfl rfl ?_
    refine SL.val (Val.nilCheck rfl) rfl rfl ?_
    refine SL.val (Val.fieldAddr tabOk rfl rfl rfl rfl rfl) rfl rfl ?_
    refine SL.val (Val.load1 tabOk rfl rfl (by first|(apply Or.inl;(repeat first|assumption|exact m0|apply m1);done)|(apply Or.inr;(repeat first|assumption|exact m0|apply m1);done)) List.not_mem_nil (by rfl)) rfl rfl ?_
    refine SL.val (Val.move rfl) rfl rfl ?_
    refine SL.eff (Eff.mapDel (a := v) (m' := decO c (some v)) u8_fit Try.underlying80 rfl (by repeat first|assumption|exact Upd.here|apply Upd.there) rfl (u8_is _) trivial (dec_del (by omega))) rfl rfl ?_
    rintro _ _ ⟨rfl, rfl⟩
    refine SL.nil ?_
    refine SE.meet (()) (trivial) (by exact ⟨rfl, rfl, rfl, trivial⟩) (by repeat first|exact s0 _|exact s1 _|apply s2|apply s3)
  · intro z0 hz0
    refine SC.seq (SC.region ?_)
    refine SL.val (Val.move rfl) rfl rfl ?_
    refine SL.val (Val.nilCheck rfl) rfl rfl ?_
    refine SL.val (Val.fieldAddr tabOk rfl rfl rfl rfl rfl) rfl rfl ?_
    refine SL.val (Val.load1 tabOk rfl rfl (by first|(apply Or.inl;(repeat first|assumption|exact m0|apply m1);done)|(apply Or.inr;(repeat first|assumption|exact m0|apply m1);done)) List.not_mem_nil (by rfl)) rfl rfl ?_
    refine SL.val (Val.move rfl) rfl rfl ?_
    refine SL.val (Val.move rfl) rfl rfl ?_
    refine SL.eff (Eff.mapPut (a := who) (v := k) (m' := aput m who k) (int_fit Try.underlying3) Try.underlying79 rfl (by repeat first|assumption|exact Upd.here|apply Upd.there) rfl is_v hw rfl (u8_is _) rfl) rfl rfl ?_
    rintro _ _ ⟨rfl, rfl⟩
    refine SL.nil (SE.seq ?_)
    refine SC.region ?_
    refine SL.val (Val.move rfl) rfl rfl ?_
    refine SL.val (Val.nilCheck rfl) rfl rfl ?_
    refine SL.val (Val.fieldAddr tabOk rfl rfl rfl rfl rfl) rfl rfl ?_
    refine SL.val (Val.load1 tabOk rfl rfl (by first|(apply Or.inl;(repeat first|assumption|exact m0|apply m1);done)|(apply Or.inr;(repeat first|assumption|exact m0|apply m1);done)) List.not_mem_nil (by rfl)) rfl rfl ?_
    refine SL.val (Val.move rfl) rfl rfl ?_
    refine SL.val (Val.mapGet (a := k) (zv := cntV 0) (C := int ((cget (decO c (aget m who)) k : Nat) : Int)) u8_fit Try.underlying80 int_zero rfl (by first|(apply Or.inl;(repeat first|assumption|exact m0|apply m1);done)|(apply Or.inr;(repeat first|assumption|exact m0|apply m1);done)) List.not_mem_nil rfl (u8_is _) trivial (cget_is _ _)) rfl rfl ?_
    refine SL.val (Val.to (C := int ((cget (decO c (aget m who)) k + 1 : Nat) : Int)) (Val.addI rfl rfl (by have := hti.dec_le (aget m who) k; simp only [InR, lo, hi]; omega)) (congrArg int (by omega))) rfl rfl ?_
    refine SL.eff (Eff.mapPut (a := k) (v := cget (decO c (aget m who)) k + 1) (m' := chgC m c who k) u8_fit Try.underlying80 rfl (by repeat first|assumption|exact Upd.here|apply Upd.there) rfl (u8_is _) trivial rfl is_v rfl) rfl rfl ?_
    rintro _ _ ⟨rfl, rfl⟩
    refine SL.nil ?_
    refine SE.finN (rs := []) rfl RV.nil (()) (by repeat first|exact s0 _|exact s1 _|apply s2|apply s3) (by simp [It.rids]) ?_
    exact rfl
set_option maxHeartbeats 2000000 in
theorem u8_add_s (hw : intOk who) (hti : TInv m c) (hl : m.length ≤ 1000) : Spec Try.prog 28 [ptr t, int who, u8E k] [.blk t 82 [mapV bv, mapV bn], .pc (mapPc bv intK bc intOk m), .pc (mapPc bn bc cntV top c)] (fun _ : Unit => [.blk t 82 [mapV bv, mapV bn], .pc (mapPc bv intK bc intOk (tAddM m who k)), .pc (mapPc bn bc cntV top (tAddC m c who k))]) (fun _ => boo (tAddB m who k)) := by
  refine spec_of Try.func28 rfl Try.ntmps28 rfl fun G w => ?_
  refine SC.seq (SC.region ?_)
  refine SL.val (Val.assign rfl) rfl rfl ?_
  refine SL.nil (SE.seq ?_)
  refine SC.seq ?_
  refine SC.seq (SC.region ?_)
  refine SL.val (Val.move rfl) rfl rfl ?_
  refine SL.val (Val.eqP rfl rfl (by kernel_rfl)) rfl rfl ?_
  refine SL.nil (SE.seq ?_)
  refine SC.condF rfl ?_
  refine SC.skip ?_
  refine SE.seq ?_
  refine SC.seq ?_
  refine SC.seq (SC.region ?_)
  refine SL.val (Val.move rfl) rfl rfl ?_
  refine SL.val (Val.nilCheck rfl) rfl rfl ?_
  refine SL.val (Val.fieldAddr tabOk rfl rfl rfl rfl rfl) rfl rfl ?_
  refine SL.val (Val.load1 tabOk rfl rfl (by first|(apply Or.inl;(repeat first|assumption|exact m0|apply m1);done)|(apply Or.inr;(repeat first|assumption|exact m0|apply m1);done)) List.not_mem_nil (by rfl)) rfl rfl ?_
  refine SL.val (Val.move rfl) rfl rfl ?_
  refine SL.val (Val.mapGetOk (a := who) (zv := (.int .u8 0)) (C := u8A (aget m who)) (int_fit Try.underlying3) Try.underlying79 u8_zero rfl (by first|(apply Or.inl;(repeat first|assumption|exact m0|apply m1);done)|(apply Or.inr;(repeat first|assumption|exact m0|apply m1);done)) List.not_mem_nil rfl is_v hw (u8A_is _)) rfl rfl ?_
  refine SL.val (Val.move rfl) rfl rfl ?_
  refine SL.val (Val.extract rfl rfl) rfl rfl ?_
  refine SL.val (Val.extract rfl rfl) rfl rfl ?_
  refine SL.val (Val.assign rfl) rfl rfl ?_
  refine SL.val (Val.assign rfl) rfl rfl ?_
  refine SL.nil (SE.seq ?_)
  refine SC.seq (SC.region ?_)
  refine SL.val (Val.move rfl) rfl rfl ?_
  refine SL.nil (SE.seq ?_)
  refine SC.cond rfl ?_ ?_
  · intro hc20
    obtain ⟨v, hv⟩ := isSome_some hc20
    rw [hv]
    refine SC.seq (SC.region ?_)
    refine SL.val (Val.move rfl) rfl rfl ?_
    refine SL.val (Val.move rfl) rfl rfl ?_
    refine SL.val (Val.to (C := boo (decide (v = k))) (Val.eqI rfl rfl) (congrArg (fun b => Abs.v (Value.bool b)) (by rw [decide_eq_decide]; exact ⟨fun h => UInt8.toNat.inj (by omega), fun h => by rw [h]⟩))) rfl rfl ?_
    refine SL.val (Val.assign rfl) rfl rfl ?_
    refine SL.nil (SE.seq ?_)
    refine SC.ret ?_
    refine SE.then_ (by intro h; cases h) ?_
    refine SE.fin (rs := [.tmp 6]) rfl (RV.tmp rfl RV.nil) (()) (by rw [tAddC_old hv, tAddM_old hv]; exact List.Sublist.refl _) (by simp [It.rids]) ?_
    exact congrArg (fun b => Abs.v (Value.bool b)) (tAddB_old hv).symm
  intro hc20
  have hv := isSome_none hc20
  refine SC.skip ?_
  refine SE.seq ?_
  refine SC.seq (SC.region ?_)
  refine SL.val (Val.move rfl) rfl rfl ?_
  refine SL.val (Val.move rfl) rfl rfl ?_
  refine SL.val (Val.move rfl) rfl rfl ?_
  refine SL.call (u8_change_s (t := t) (bv := bv) (bn := bn) hw hti hl) Casts.refl (by kernel_rfl) rfl rfl rfl ?_
  refine After.three ⟨rfl, rfl, rfl⟩ (fun _ => rfl) ?_
  intro _
  refine SL.nil (SE.seq ?_)
  refine SC.seq (SC.region ?_)
  refine SL.val (Val.assign rfl) rfl rfl ?_
  refine SL.nil (SE.seq ?_)
  refine SC.ret ?_
  refine SE.fin (rs := [.tmp 6]) rfl (RV.tmp rfl RV.nil) (()) (by rw [tAddC_new hv, tAddM_new hv]; exact List.Sublist.refl _) (by simp [It.rids]) ?_
  exact congrArg (fun b => Abs.v (Value.bool b)) (tAddB_new hv).symm
theorem u8_len_s  : Spec Try.prog 32 [ptr t] [.blk t 82 [mapV bv, mapV bn], .pc (mapPc bv intK bc intOk m), .pc (mapPc bn bc cntV top c)] (fun _ : Unit => [.blk t 82 [mapV bv, mapV bn], .pc (mapPc bv intK bc intOk m), .pc (mapPc bn bc cntV top c)]) (fun _ => int (m.length : Nat)) := by
  refine spec_of Try.func32 rfl Try.ntmps32 rfl fun G w => ?_
  refine SC.seq (SC.region ?_)
  refine SL.val (Val.assign rfl) rfl rfl ?_
  refine SL.nil (SE.seq ?_)
  refine SC.seq ?_
  refine SC.seq (SC.region ?_)
  refine SL.val (Val.move rfl) rfl rfl ?_
  refine SL.val (Val.eqP rfl rfl (by kernel_rfl)) rfl rfl ?_
  refine SL.nil (SE.seq ?_)
  refine SC.condF rfl ?_
  refine SC.skip ?_
  refine SE.seq ?_
  refine SC.seq (SC.region ?_)
  refine SL.val (Val.move rfl) rfl rfl ?_
  refine SL.val (Val.nilCheck rfl) rfl rfl ?_
  refine SL.val (Val.fieldAddr tabOk rfl rfl rfl rfl rfl) rfl rfl ?_
  refine SL.val (Val.load1 tabOk rfl rfl (by first|(apply Or.inl;(repeat first|assumption|exact m0|apply m1);done)|(apply Or.inr;(repeat first|assumption|exact m0|apply m1);done)) List.not_mem_nil (by rfl)) rfl rfl ?_
  refine SL.val (Val.lenMap Try.underlying79 rfl (by first|(apply Or.inl;(repeat first|assumption|exact m0|apply m1);done)|(apply Or.inr;(repeat first|assumption|exact m0|apply m1);done)) List.not_mem_nil) rfl rfl ?_
  refine SL.val (Val.assign rfl) rfl rfl ?_
  refine SL.nil (SE.seq ?_)
  refine SC.ret ?_
  refine SE.fin (rs := [.tmp 2]) rfl (RV.tmp rfl RV.nil) (()) (by repeat first|exact s0 _|exact s1 _|apply s2|apply s3) (by simp [It.rids]) ?_
  exact rfl
theorem u8_voters_s (hl : m.length ≤ 1000) : Spec Try.prog 42 [ptr t] [.blk t 82 [mapV bv, mapV bn], .pc (mapPc bv intK bc intOk m), .pc (mapPc bn bc cntV top c)] (fun v : Value => [own 3 1 v ((srt (m.map (·.1))).map fun x => [int x]), .blk t 82 [mapV bv, mapV bn], .pc (mapPc bv intK bc intOk m), .pc (mapPc bn bc cntV top c)]) (fun v => .v v) := by
  refine spec_of Try.func42 rfl Try.ntmps42 rfl fun G w => ?_
  refine SC.seq (SC.region ?_)
  refine SL.val (Val.assign rfl) rfl rfl ?_
  refine SL.nil (SE.seq ?_)
  refine SC.seq ?_
  refine SC.seq (SC.region ?_)
  refine SL.val (Val.move rfl) rfl rfl ?_
  refine SL.val (Val.eqP rfl rfl (by kernel_rfl)) rfl rfl ?_
  refine SL.nil (SE.seq ?_)
  refine SC.condF rfl ?_
  refine SC.skip ?_
  refine SE.seq ?_
  refine SC.seq (SC.region ?_)
  refine SL.val (Val.move rfl) rfl rfl ?_
  refine SL.val (Val.nilCheck rfl) rfl rfl ?_
  refine SL.val (Val.fieldAddr tabOk rfl rfl rfl rfl rfl) rfl rfl ?_
  refine SL.val (Val.load1 tabOk rfl rfl (by first|(apply Or.inl;(repeat first|assumption|exact m0|apply m1);done)|(apply Or.inr;(repeat first|assumption|exact m0|apply m1);done)) List.not_mem_nil (by rfl)) rfl rfl ?_
  refine SL.call (keys_3_s (b := bv)) Casts.refl (by kernel_rfl) rfl rfl rfl ?_
  refine After.make (by repeat first|exact .nil|refine .blk (by repeat first|assumption|exact m0|apply m1) ?_|refine .rd (by repeat first|assumption|exact m0|apply m1) ?_|refine .pc (by repeat first|assumption|exact m0|apply m1) ?_|refine .rdpc (by repeat first|assumption|exact m0|apply m1) ?_) (fun _ => rfl) ?_
  intro zk
  refine SL.call (sorted_3_s (V := bc) (m := m) (b := bv) (z := zk) (by omega)) Casts.refl (by kernel_rfl) rfl rfl rfl ?_
  refine After.make (by repeat first|exact .nil|refine .blk (by repeat first|assumption|exact m0|apply m1) ?_|refine .rd (by repeat first|assumption|exact m0|apply m1) ?_|refine .pc (by repeat first|assumption|exact m0|apply m1) ?_|refine .rdpc (by repeat first|assumption|exact m0|apply m1) ?_) (fun _ => rfl) ?_
  intro r10
  refine SL.val (Val.assign rfl) rfl rfl ?_
  refine SL.nil (SE.seq ?_)
  refine SC.ret ?_
  refine SE.fin (rs := [.tmp 2]) rfl (RV.tmp rfl RV.nil) (r10) (by repeat first|exact s0 _|exact s1 _|apply s2|apply s3) (by simp [It.rids]) ?_
  exact rfl
theorem u8_voters0_s  : Spec Try.prog 42 [.v (.pointer none)] [] (fun _ : Unit => []) (fun _ => .v (.slice none 0 0)) := by
  refine spec_of Try.func42 rfl Try.ntmps42 rfl fun G w => ?_
  refine SC.seq (SC.region ?_)
  refine SL.val (Val.assign rfl) rfl rfl ?_
  refine SL.nil (SE.seq ?_)
  refine SC.seq ?_
  refine SC.seq (SC.region ?_)
  refine SL.val (Val.move rfl) rfl rfl ?_
  refine SL.val (Val.eqP rfl rfl (by kernel_rfl)) rfl rfl ?_
  refine SL.nil (SE.seq ?_)
  refine SC.condT rfl ?_
  refine SC.seq (SC.region ?_)
  refine SL.val (Val.assign rfl) rfl rfl ?_
  refine SL.nil (SE.seq ?_)
  refine SC.ret ?_
  refine SE.then_ (by intro h; cases h) ?_
  refine SE.fin (rs := [.tmp 2]) rfl (RV.tmp rfl RV.nil) (()) (by repeat first|exact s0 _|exact s1 _|apply s2|apply s3) (by simp [It.rids]) ?_
  exact rfl
set_option maxHeartbeats 2000000 in
theorem u8_least_s (hl : m.length ≤ 1000) (hmok : ∀ w ∈ m.map (·.1), intOk w) : Spec Try.prog 30 [ptr t, int at_] [.blk t 82 [mapV bv, mapV bn], .pc (mapPc bv intK bc intOk m), .pc (mapPc bn bc cntV top c)] (fun _ : Unit => [.blk t 82 [mapV bv, mapV bn], .pc (mapPc bv intK bc intOk m), .pc (mapPc bn bc cntV top c)]) (fun _ => .tup [u8A (leastO m c at_ (srt (m.map (·.1)))), boo (leastO m c at_ (srt (m.map (·.1)))).isSome]) := by
  have hsl : (srt (m.map (·.1))).length = m.length := by rw [srt_length, List.length_map]
  refine spec_of Try.func30 rfl Try.ntmps30 rfl fun G w => ?_
  refine SC.seq (SC.region ?_)
  refine SL.val (Val.assign rfl) rfl rfl ?_
  refine SL.val (Val.assign rfl) rfl rfl ?_
  refine SL.nil (SE.seq ?_)
  refine SC.seq ?_
  refine SC.seq (SC.region ?_)
  refine SL.val (Val.move rfl) rfl rfl ?_
  refine SL.call (u8_voters_s (t := t) (bv := bv) (bn := bn) (m := m) (c := c) hl) Casts.refl (by kernel_rfl) rfl rfl rfl ?_
  refine After.threeN ⟨rfl, rfl, rfl⟩ (fun _ => rfl) ?_
  intro r11
  refine SL.freeze [] (t := 11) rfl rfl ?_
  first
    | refine SL.val (Val.lenSl rfl Try.underlying41 (List.length_map _)) rfl rfl ?_
    | refine SL.val (Val.lenOwn rfl (by repeat first|assumption|exact m0|apply m1) Try.underlying41 (List.length_map _)) rfl rfl ?_
    | refine SL.val (Val.lenNil rfl Try.underlying41) rfl rfl ?_
  refine SL.val (Val.move rfl) rfl rfl ?_
  refine SL.nil (SE.seq ?_)
  refine SC.block ?_
  refine SC.loop (ι := Nat) (fun z => [.blk t 82 [mapV bv, mapV bn], .pc (mapPc bv intK bc intOk m), .pc (mapPc bn bc cntV top c)]) (fun z => [(0, ptr t), (1, int at_), (11, ints (srt (m.map (·.1)))), (12, int ((srt (m.map (·.1))).length : Nat)), (13, int (z : Nat))]) (fun z => z ≤ (srt (m.map (·.1))).length ∧ ∀ j (h : j < (srt (m.map (·.1))).length), j < z → ∀ v, aget m (srt (m.map (·.1)))[j] = some v → ¬ (1 ≤ at_ ∧ at_ ≤ cget c v)) (fun z => (srt (m.map (·.1))).length - z) (0) (⟨Nat.zero_le _, fun j h hj => by omega⟩) (by exact ⟨rfl, rfl, rfl, rfl, rfl, trivial⟩) (by repeat first|exact s0 _|exact s1 _|apply s2|apply s3) ?_
  intro z hz
  refine SC.seq (SC.region ?_)
  refine SL.val (Val.ltI rfl rfl) rfl rfl ?_
  refine SL.nil (SE.seq ?_)
  refine SC.seq ?_
  refine SC.condP rfl ?_ ?_
  rotate_left
  · intro hc14
    refine SC.exit ?_
    refine SE.then_ (by intro h; cases h) ?_
    refine SE.then_ (by intro h; cases h) ?_
    refine SE.exit ?_
    refine SE.seq ?_
    refine SC.seq (SC.region ?_)
    refine SL.val (Val.assign rfl) rfl rfl ?_
    refine SL.nil (SE.seq ?_)
    refine SC.seq (SC.region ?_)
    refine SL.val (Val.move rfl) rfl rfl ?_
    refine SL.val (Val.assign rfl) rfl rfl ?_
    refine SL.val (Val.assign rfl) rfl rfl ?_
    refine SL.nil (SE.seq ?_)
    refine SC.ret ?_
    have hle : leastO m c at_ (srt (m.map (·.1))) = none := by
      rw [leastO_drop hz.2, List.drop_eq_nil_of_le (by omega)]
      rfl
    refine SE.fin (rs := [.tmp 4, .tmp 5]) rfl (RV.tmp rfl (RV.tmp rfl RV.nil)) (()) (by repeat first|exact s0 _|exact s1 _|apply s2|apply s3) (by simp [It.rids]) ?_
    rw [hle]
    rfl
  intro hc14
  have hlt : z < (srt (m.map (·.1))).length := by omega
  have hin : (srt (m.map (·.1)))[z] ∈ m.map (·.1) := (srt_perm _).mem_iff.1 (List.getElem_mem hlt)
  obtain ⟨v, hv⟩ := isSome_some ((aget_isSome m (srt (m.map (·.1)))[z]).2 hin)
  have hwz := hmok _ hin
  refine SC.skip ?_
  refine SE.seq ?_
  refine SC.seq ?_
  refine SC.block ?_
  refine SC.seq (SC.region ?_)
  refine SL.val (Val.indexSl tabOk Try.underlying41 rfl rfl rfl rfl (at_map (by omega)) rfl rfl) rfl rfl ?_
  refine SL.val (Val.to (C := int ((srt (m.map (·.1)))[z]'hlt)) (Val.load1R tabOk rfl rfl rfl) rfl) rfl rfl ?_
  refine SL.val (Val.assign rfl) rfl rfl ?_
  refine SL.nil (SE.seq ?_)
  refine SC.seq (SC.region ?_)
  refine SL.val (Val.move rfl) rfl rfl ?_
  refine SL.val (Val.nilCheck rfl) rfl rfl ?_
  refine SL.val (Val.fieldAddr tabOk rfl rfl rfl rfl rfl) rfl rfl ?_
  refine SL.val (Val.load1 tabOk rfl rfl (by first|(apply Or.inl;(repeat first|assumption|exact m0|apply m1);done)|(apply Or.inr;(repeat first|assumption|exact m0|apply m1);done)) List.not_mem_nil (by rfl)) rfl rfl ?_
  refine SL.val (Val.move rfl) rfl rfl ?_
  refine SL.val (Val.mapGet (a := (srt (m.map (·.1)))[z]) (zv := (.int .u8 0)) (C := u8A (aget m (srt (m.map (·.1)))[z])) (int_fit Try.underlying3) Try.underlying79 u8_zero rfl (by first|(apply Or.inl;(repeat first|assumption|exact m0|apply m1);done)|(apply Or.inr;(repeat first|assumption|exact m0|apply m1);done)) List.not_mem_nil rfl is_v hwz (u8A_is _)) rfl rfl ?_
  rw [hv]
  refine SL.val (Val.assign rfl) rfl rfl ?_
  refine SL.nil (SE.seq ?_)
  refine SC.seq (SC.region ?_)
  refine SL.val (Val.move rfl) rfl rfl ?_
  refine SL.val (Val.geI rfl rfl) rfl rfl ?_
  refine SL.val (Val.move rfl) rfl rfl ?_
  refine SL.bothP (t := 25) rfl ?_ ?_
  rotate_left
  · intro hc25
    iterate 8 refine SL.skip rfl rfl ?_
    refine SL.val (Val.pickF rfl rfl) rfl rfl ?_
    refine SL.nil (SE.seq ?_)
    refine SC.condF rfl ?_
    refine SC.skip ?_
    refine SE.inBlock ?_
    refine SE.seq ?_
    refine SC.region ?_
    first
      | refine SL.val (Val.addI rfl rfl (by simp only [InR, lo, hi]; omega)) rfl rfl ?_
      | refine SL.val (Val.addW rfl rfl) rfl rfl ?_
    refine SL.val (Val.move rfl) rfl rfl ?_
    refine SL.nil ?_
    refine SE.round (z + 1) (by first | omega | (dsimp only; omega)) (⟨by omega, fun j h hj u hu => by
          rcases Nat.lt_or_ge j z with h1 | h1
          · exact hz.2 j h h1 u hu
          · obtain rfl : j = z := by omega
            rw [hv] at hu
            cases hu
            first | omega | (simp at *; omega)⟩) (by exact ⟨rfl, rfl, rfl, rfl, rfl, trivial⟩) (by repeat first|exact s0 _|exact s1 _|apply s2|apply s3)
  intro hc25
  refine SL.val (Val.move rfl) rfl rfl ?_
  refine SL.val (Val.nilCheck rfl) rfl rfl ?_
  refine SL.val (Val.fieldAddr tabOk rfl rfl rfl rfl rfl) rfl rfl ?_
  refine SL.val (Val.load1 tabOk rfl rfl (by first|(apply Or.inl;(repeat first|assumption|exact m0|apply m1);done)|(apply Or.inr;(repeat first|assumption|exact m0|apply m1);done)) List.not_mem_nil (by rfl)) rfl rfl ?_
  refine SL.val (Val.move rfl) rfl rfl ?_
  refine SL.val (Val.mapGet (a := v) (zv := cntV 0) (C := int ((cget c v : Nat) : Int)) u8_fit Try.underlying80 int_zero rfl (by first|(apply Or.inl;(repeat first|assumption|exact m0|apply m1);done)|(apply Or.inr;(repeat first|assumption|exact m0|apply m1);done)) List.not_mem_nil rfl (u8_is _) trivial (cget_is _ _)) rfl rfl ?_
  refine SL.val (Val.move rfl) rfl rfl ?_
  refine SL.val (Val.geI rfl rfl) rfl rfl ?_
  refine SL.val (Val.pickT rfl rfl) rfl rfl ?_
  refine SL.nil (SE.seq ?_)
  refine SC.condP rfl ?_ ?_
  rotate_left
  · intro hc34
    refine SC.skip ?_
    refine SE.inBlock ?_
    refine SE.seq ?_
    refine SC.region ?_
    first
      | refine SL.val (Val.addI rfl rfl (by simp only [InR, lo, hi]; omega)) rfl rfl ?_
      | refine SL.val (Val.addW rfl rfl) rfl rfl ?_
    refine SL.val (Val.move rfl) rfl rfl ?_
    refine SL.nil ?_
    refine SE.round (z + 1) (by first | omega | (dsimp only; omega)) (⟨by omega, fun j h hj u hu => by
          rcases Nat.lt_or_ge j z with h1 | h1
          · exact hz.2 j h h1 u hu
          · obtain rfl : j = z := by omega
            rw [hv] at hu
            cases hu
            first | omega | (simp at *; omega)⟩) (by exact ⟨rfl, rfl, rfl, rfl, rfl, trivial⟩) (by repeat first|exact s0 _|exact s1 _|apply s2|apply s3)
  intro hc34
  refine SC.seq (SC.region ?_)
  refine SL.val (Val.move rfl) rfl rfl ?_
  refine SL.val (Val.assign rfl) rfl rfl ?_
  refine SL.val (Val.assign rfl) rfl rfl ?_
  refine SL.nil (SE.seq ?_)
  refine SC.ret ?_
  refine SE.ret ?_
  refine SE.then_ (by intro h; cases h) ?_
  refine SE.then_ (by intro h; cases h) ?_
  refine SE.ret ?_
  refine SE.then_ (by intro h; cases h) ?_
  have hle : leastO m c at_ (srt (m.map (·.1))) = some v := by
    rw [leastO_drop hz.2, List.drop_eq_getElem_cons hlt, leastO_cons, hv]
    exact if_pos (by omega)
  refine SE.fin (rs := [.tmp 4, .tmp 5]) rfl (RV.tmp rfl (RV.tmp rfl RV.nil)) (()) (by repeat first|exact s0 _|exact s1 _|apply s2|apply s3) (by simp [It.rids]) ?_
  rw [hle]
  rfl
end
def stE (x : ByteArray) : Abs := .v (.string x)
theorem st_is (x : ByteArray) : (stE x).is (Value.string x) := is_v
abbrev stA (o : Option ByteArray) : Abs := (o.map stE).getD (.v (.string ⟨#[]⟩))
theorem st_zero : ∀ w, (zeroValue 9).run Try.prog w = .ok (.string ⟨#[]⟩) w := fun w => by
  kernel_rfl
theorem stA_is (o : Option ByteArray) : (stA o).is ((o.map Value.string).getD (.string ⟨#[]⟩)) := getD_is st_is (is_v) o
section
variable {t bv bn : Nat} {m : List (Int × ByteArray)} {c : List (ByteArray × Nat)} {k : ByteArray} {who at_ : Int}
theorem st_new_s  : Spec Try.prog 34 [] [] (fun z : Nat × Nat × Nat => [.blk z.1 78 [mapV z.2.1, mapV z.2.2], .pc (mapPc z.2.1 intK Value.string intOk []), .pc (mapPc z.2.2 Value.string cntV strOk [])]) (fun z => ptr z.1) := by
  refine spec_of Try.func34 rfl Try.ntmps34 rfl fun G w => ?_
  refine SC.seq (SC.region ?_)
  refine SL.val (Val.assign rfl) rfl rfl ?_
  refine SL.nil (SE.seq ?_)
  refine SC.seq (SC.region ?_)
  refine SL.eff (Eff.makeMap intK Value.string intOk (fun ac w => by simp [execOp, Instr.makeMap, newObj, Sem.run, Sem.run_bind, Result.andThen])) rfl rfl ?_
  rintro _ _ ⟨m1, rfl, rfl⟩
  refine SL.eff (Eff.makeMap Value.string cntV strOk (fun ac w => by simp [execOp, Instr.makeMap, newObj, Sem.run, Sem.run_bind, Result.andThen])) rfl rfl ?_
  rintro _ _ ⟨m2, rfl, rfl⟩
  refine SL.val (Val.buildS tabOk rfl rfl rfl rfl) rfl rfl ?_
  refine SL.eff (Eff.boxA rfl) rfl rfl ?_
  rintro _ _ ⟨b4, rfl, rfl⟩
  refine SL.val (Val.assign rfl) rfl rfl ?_
  refine SL.nil (SE.seq ?_)
  refine SC.ret ?_
  refine SE.perm (List.Perm.cons _ (List.Perm.swap _ _ _)) ?_
  refine SE.fin (rs := [.tmp 0]) rfl (RV.tmp rfl RV.nil) (b4, m1, m2) (by repeat first|exact s0 _|exact s1 _|apply s2|apply s3) (by simp [It.rids]) ?_
  exact rfl
set_option maxHeartbeats 2000000 in
theorem st_change_s (hw : intOk who) (hti : TInv m c) (hl : m.length ≤ 1000) (hk : strOk k) (hok : ∀ w v, aget m w = some v → strOk v) : Spec Try.prog 19 [ptr t, int who, stE k] [.blk t 78 [mapV bv, mapV bn], .pc (mapPc bv intK Value.string intOk m), .pc (mapPc bn Value.string cntV strOk c)] (fun _ : Unit => [.blk t 78 [mapV bv, mapV bn], .pc (mapPc bv intK Value.string intOk (aput m who k)), .pc (mapPc bn Value.string cntV strOk (chgC m c who k))]) (fun _ => .tup []) := by
  refine spec_of Try.func19 rfl Try.ntmps19 rfl fun G w => ?_
  refine SC.seq ?_
  refine SC.seq (SC.region ?_)
  refine SL.val (Val.move rfl) rfl rfl ?_
  refine SL.val (Val.eqP rfl rfl (by kernel_rfl)) rfl rfl ?_
  refine SL.nil (SE.seq ?_)
  refine SC.condF rfl ?_
  refine SC.skip ?_
  refine SE.seq ?_
  refine SC.cutS (ι := Unit) (fun z => [.blk t 78 [mapV bv, mapV bn], .pc (mapPc bv intK Value.string intOk m), .pc (mapPc bn Value.string cntV strOk (decO c (aget m who)))]) (fun z => [(0, ptr t), (1, int who), (2, stE k)]) (fun z => True) ?_ ?_
  · skip
    refine SC.seq (SC.region ?_)
    refine SL.val (Val.move rfl) rfl rfl ?_
    refine SL.val (Val.nilCheck rfl) rfl rfl ?_
    refine SL.val (Val.fieldAddr tabOk rfl rfl rfl rfl rfl) rfl rfl ?_
    refine SL.val (Val.load1 tabOk rfl rfl (by first|(apply Or.inl;(repeat first|assumption|exact m0|apply m1);done)|(apply Or.inr;(repeat first|assumption|exact m0|apply m1);done)) List.not_mem_nil (by rfl)) rfl rfl ?_
    refine SL.val (Val.move rfl) rfl rfl ?_
    refine SL.val (Val.mapGetOk (a := who) (zv := (.string ⟨#[]⟩)) (C := stA (aget m who)) (int_fit Try.underlying3) Try.underlying75 st_zero rfl (by first|(apply Or.inl;(repeat first|assumption|exact m0|apply m1);done)|(apply Or.inr;(repeat first|assumption|exact m0|apply m1);done)) List.not_mem_nil rfl is_v hw (stA_is _)) rfl rfl ?_
    refine SL.val (Val.move rfl) rfl rfl ?_
    refine SL.val (Val.extract rfl rfl) rfl rfl ?_
    refine SL.val (Val.extract rfl rfl) rfl rfl ?_
    refine SL.val (Val.assign rfl) rfl rfl ?_
    refine SL.val (Val.assign rfl) rfl rfl ?_
    refine SL.nil (SE.seq ?_)
    refine SC.seq (SC.region ?_)
    refine SL.val (Val.move rfl) rfl rfl ?_
    refine SL.nil (SE.seq ?_)
    refine SC.cond rfl ?_ ?_
    rotate_left
    · intro hc19
      have hv := isSome_none hc19
      rw [hv]
      refine SC.skip ?_
      refine SE.meet (()) (trivial) (by exact ⟨rfl, rfl, rfl, trivial⟩) (by repeat first|exact s0 _|exact s1 _|apply s2|apply s3)
    intro hc19
    obtain ⟨v, hv⟩ := isSome_some hc19
    rw [hv]
    refine SC.seq (SC.region ?_)
    refine SL.val (Val.move rfl) rfl rfl ?_
    refine SL.val (Val.nilCheck rfl) rfl rfl ?_
    refine SL.val (Val.fieldAddr tabOk rfl rfl rfl rfl rfl) rfl rfl ?_
    refine SL.val (Val.load1 tabOk rfl rfl (by first|(apply Or.inl;(repeat first|assumption|exact m0|apply m1);done)|(apply Or.inr;(repeat first|assumption|exact m0|apply m1);done)) List.not_mem_nil (by rfl)) rfl rfl ?_
    refine SL.val (Val.move rfl) rfl rfl ?_
    refine SL.val (Val.mapGet (a := v) (zv := cntV 0) (C := int ((cget c v : Nat) : Int)) str_fit Try.underlying76 int_zero rfl (by first|(apply Or.inl;(repeat first|assumption|exact m0|apply m1);done)|(apply Or.inr;(repeat first|assumption|exact m0|apply m1);done)) List.not_mem_nil rfl (st_is _) (hok _ _ hv) (cget_is _ _)) rfl rfl ?_
    refine SL.val (Val.to (C := int ((cget c v - 1 : Nat) : Int)) (Val.subI rfl rfl (by have := hti.le v; simp only [InR, lo, hi]; omega)) (congrArg int (by have := hti.pos hv; omega))) rfl rfl ?_
    refine SL.eff (Eff.mapPut (a := v) (v := cget c v - 1) (m' := aput c v (cget c v - 1)) str_fit Try.underlying76 rfl (by repeat first|assumption|exact Upd.here|apply Upd.there) rfl (st_is _) (hok _ _ hv) rfl is_v rfl) rfl rfl ?_
    rintro _ _ ⟨rfl, rfl⟩
    refine SL.nil (SE.seq ?_)
    refine SC.seq (SC.region ?_)
    refine SL.val (Val.move rfl) rfl rfl ?_
    refine SL.val (Val.nilCheck rfl) rfl rfl ?_
    refine SL.val (Val.fieldAddr tabOk rfl rfl rfl rfl rfl) rfl rfl ?_
    refine SL.val (Val.load1 tabOk rfl rfl (by first|(apply Or.inl;(repeat first|assumption|exact m0|apply m1);done)|(apply Or.inr;(repeat first|assumption|exact m0|apply m1);done)) List.not_mem_nil (by rfl)) rfl rfl ?_
    refine SL.val (Val.move rfl) rfl rfl ?_
    refine SL.val (Val.mapGet (a := v) (zv := cntV 0) (C := int ((cget (aput c v (cget c v - 1)) v : Nat) : Int)) str_fit Try.underlying76 int_zero rfl (by first|(apply Or.inl;(repeat first|assumption|exact m0|apply m1);done)|(apply Or.inr;(repeat first|assumption|exact m0|apply m1);done)) List.not_mem_nil rfl (st_is _) (hok _ _ hv) (cget_is _ _)) rfl rfl ?_
    refine SL.val (Val.eqI rfl rfl) rfl rfl ?_
    refine SL.nil (SE.seq ?_)
    refine SC.condP rfl ?_ ?_
    rotate_left
    · intro hc33
      refine SC.skip ?_
      refine SE.meet () trivial ⟨rfl, rfl, rfl, trivial⟩ ?_
      rw [dec_keep (by omega)]
      repeat (first | exact List.nil_sublist _ | exact List.Sublist.refl _ | apply List.Sublist.cons_cons | apply List.Sublist.cons)
    intro hc33
    refine SC.region ?_
    refine SL.val (Val.move rfl) rfl rfl ?_
    refine SL.val (Val.nilCheck rfl) rfl rfl ?_
    refine SL.val (Val.fieldAddr tabOk rfl rfl rfl rfl rfl) rfl rfl ?_
    refine SL.val (Val.load1 tabOk rfl rfl (by first|(apply Or.inl;(repeat first|assumption|exact m0|apply m1);done)|(apply Or.inr;(repeat first|assumption|exact m0|apply m1);done)) List.not_mem_nil (by rfl)) rfl rfl ?_
    refine SL.val (Val.move rfl) rfl rfl ?_
    refine SL.eff (Eff.mapDel (a := v) (m' := decO c (some v)) str_fit Try.underlying76 rfl (by repeat first|assumption|exact Upd.here|apply Upd.there) rfl (st_is _) (hok _ _ hv) (dec_del (by omega))) rfl rfl ?_
    rintro _ _ ⟨rfl, rfl⟩
    refine SL.nil ?_
    refine SE.meet (()) (trivial) (by exact ⟨rfl, rfl, rfl, trivial⟩) (by repeat first|exact s0 _|exact s1 _|apply s2|apply s3)
  · intro z0 hz0
    refine SC.seq (SC.region ?_)
    refine SL.val (Val.move rfl) rfl rfl ?_
    refine SL.val (Val.nilCheck rfl) rfl rfl ?_
    refine SL.val (Val.fieldAddr tabOk rfl rfl rfl rfl rfl) rfl rfl ?_
    refine SL.val (Val.load1 tabOk rfl rfl (by first|(apply Or.inl;(repeat first|assumption|exact m0|apply m1);done)|(apply Or.inr;(repeat first|assumption|exact m0|apply m1);done)) List.not_mem_nil (by rfl)) rfl rfl ?_
    refine SL.val (Val.move rfl) rfl rfl ?_
    refine SL.val (Val.move rfl) rfl rfl ?_
    refine SL.eff (Eff.mapPut (a := who) (v := k) (m' := aput m who k) (int_fit Try.underlying3) Try.underlying75 rfl (by repeat first|assumption|exact Upd.here|apply Upd.there) rfl is_v hw rfl (st_is _) rfl) rfl rfl ?_
    rintro _ _ ⟨rfl, rfl⟩
    refine SL.nil (SE.seq ?_)
    refine SC.region ?_
    refine SL.val (Val.move rfl) rfl rfl ?_
    refine SL.val (Val.nilCheck rfl) rfl rfl ?_
    refine SL.val (Val.fieldAddr tabOk rfl rfl rfl rfl rfl) rfl rfl ?_
    refine SL.val (Val.load1 tabOk rfl rfl (by first|(apply Or.inl;(repeat first|assumption|exact m0|apply m1);done)|(apply Or.inr;(repeat first|assumption|exact m0|apply m1);done)) List.not_mem_nil (by rfl)) rfl rfl ?_
    refine SL.val (Val.move rfl) rfl rfl ?_
    refine SL.val (Val.mapGet (a := k) (zv := cntV 0) (C := int ((cget (decO c (aget m who)) k : Nat) : Int)) str_fit Try.underlying76 int_zero rfl (by first|(apply Or.inl;(repeat first|assumption|exact m0|apply m1);done)|(apply Or.inr;(repeat first|assumption|exact m0|apply m1);done)) List.not_mem_nil rfl (st_is _) hk (cget_is _ _)) rfl rfl ?_
    refine SL.val (Val.to (C := int ((cget (decO c (aget m who)) k + 1 : Nat) : Int)) (Val.addI rfl rfl (by have := hti.dec_le (aget m who) k; simp only [InR, lo, hi]; omega)) (congrArg int (by omega))) rfl rfl ?_
    refine SL.eff (Eff.mapPut (a := k) (v := cget (decO c (aget m who)) k + 1) (m' := chgC m c who k) str_fit Try.underlying76 rfl (by repeat first|assumption|exact Upd.here|apply Upd.there) rfl (st_is _) hk rfl is_v rfl) rfl rfl ?_
    rintro _ _ ⟨rfl, rfl⟩
    refine SL.nil ?_
    refine SE.finN (rs := []) rfl RV.nil (()) (by repeat first|exact s0 _|exact s1 _|apply s2|apply s3) (by simp [It.rids]) ?_
    exact rfl
set_option maxHeartbeats 2000000 in
theorem st_add_s (hw : intOk who) (hti : TInv m c) (hl : m.length ≤ 1000) (hk : strOk k) (hok : ∀ w v, aget m w = some v → strOk v) : Spec Try.prog 22 [ptr t, int who, stE k] [.blk t 78 [mapV bv, mapV bn], .pc (mapPc bv intK Value.string intOk m), .pc (mapPc bn Value.string cntV strOk c)] (fun _ : Unit => [.blk t 78 [mapV bv, mapV bn], .pc (mapPc bv intK Value.string intOk (tAddM m who k)), .pc (mapPc bn Value.string cntV strOk (tAddC m c who k))]) (fun _ => boo (tAddB m who k)) := by
  refine spec_of Try.func22 rfl Try.ntmps22 rfl fun G w => ?_
  refine SC.seq (SC.region ?_)
  refine SL.val (Val.assign rfl) rfl rfl ?_
  refine SL.nil (SE.seq ?_)
  refine SC.seq ?_
  refine SC.seq (SC.region ?_)
  refine SL.val (Val.move rfl) rfl rfl ?_
  refine SL.val (Val.eqP rfl rfl (by kernel_rfl)) rfl rfl ?_
  refine SL.nil (SE.seq ?_)
  refine SC.condF rfl ?_
  refine SC.skip ?_
  refine SE.seq ?_
  refine SC.seq ?_
  refine SC.seq (SC.region ?_)
  refine SL.val (Val.move rfl) rfl rfl ?_
  refine SL.val (Val.nilCheck rfl) rfl rfl ?_
  refine SL.val (Val.fieldAddr tabOk rfl rfl rfl rfl rfl) rfl rfl ?_
  refine SL.val (Val.load1 tabOk rfl rfl (by first|(apply Or.inl;(repeat first|assumption|exact m0|apply m1);done)|(apply Or.inr;(repeat first|assumption|exact m0|apply m1);done)) List.not_mem_nil (by rfl)) rfl rfl ?_
  refine SL.val (Val.move rfl) rfl rfl ?_
  refine SL.val (Val.mapGetOk (a := who) (zv := (.string ⟨#[]⟩)) (C := stA (aget m who)) (int_fit Try.underlying3) Try.underlying75 st_zero rfl (by first|(apply Or.inl;(repeat first|assumption|exact m0|apply m1);done)|(apply Or.inr;(repeat first|assumption|exact m0|apply m1);done)) List.not_mem_nil rfl is_v hw (stA_is _)) rfl rfl ?_
  refine SL.val (Val.move rfl) rfl rfl ?_
  refine SL.val (Val.extract rfl rfl) rfl rfl ?_
  refine SL.val (Val.extract rfl rfl) rfl rfl ?_
  refine SL.val (Val.assign rfl) rfl rfl ?_
  refine SL.val (Val.assign rfl) rfl rfl ?_
  refine SL.nil (SE.seq ?_)
  refine SC.seq (SC.region ?_)
  refine SL.val (Val.move rfl) rfl rfl ?_
  refine SL.nil (SE.seq ?_)
  refine SC.cond rfl ?_ ?_
  · intro hc20
    obtain ⟨v, hv⟩ := isSome_some hc20
    rw [hv]
    refine SC.seq (SC.region ?_)
    refine SL.val (Val.move rfl) rfl rfl ?_
    refine SL.val (Val.move rfl) rfl rfl ?_
    refine SL.val (Val.eqS rfl rfl) rfl rfl ?_
    refine SL.val (Val.assign rfl) rfl rfl ?_
    refine SL.nil (SE.seq ?_)
    refine SC.ret ?_
    refine SE.then_ (by intro h; cases h) ?_
    refine SE.fin (rs := [.tmp 6]) rfl (RV.tmp rfl RV.nil) (()) (by rw [tAddC_old hv, tAddM_old hv]; exact List.Sublist.refl _) (by simp [It.rids]) ?_
    exact congrArg (fun b => Abs.v (Value.bool b)) (tAddB_old hv).symm
  intro hc20
  have hv := isSome_none hc20
  refine SC.skip ?_
  refine SE.seq ?_
  refine SC.seq (SC.region ?_)
  refine SL.val (Val.move rfl) rfl rfl ?_
  refine SL.val (Val.move rfl) rfl rfl ?_
  refine SL.val (Val.move rfl) rfl rfl ?_
  refine SL.call (st_change_s (t := t) (bv := bv) (bn := bn) hw hti hl hk hok) Casts.refl (by kernel_rfl) rfl rfl rfl ?_
  refine After.three ⟨rfl, rfl, rfl⟩ (fun _ => rfl) ?_
  intro _
  refine SL.nil (SE.seq ?_)
  refine SC.seq (SC.region ?_)
  refine SL.val (Val.assign rfl) rfl rfl ?_
  refine SL.nil (SE.seq ?_)
  refine SC.ret ?_
  refine SE.fin (rs := [.tmp 6]) rfl (RV.tmp rfl RV.nil) (()) (by rw [tAddC_new hv, tAddM_new hv]; exact List.Sublist.refl _) (by simp [It.rids]) ?_
  exact congrArg (fun b => Abs.v (Value.bool b)) (tAddB_new hv).symm
theorem st_len_s  : Spec Try.prog 23 [ptr t] [.blk t 78 [mapV bv, mapV bn], .pc (mapPc bv intK Value.string intOk m), .pc (mapPc bn Value.string cntV strOk c)] (fun _ : Unit => [.blk t 78 [mapV bv, mapV bn], .pc (mapPc bv intK Value.string intOk m), .pc (mapPc bn Value.string cntV strOk c)]) (fun _ => int (m.length : Nat)) := by
  refine spec_of Try.func23 rfl Try.ntmps23 rfl fun G w => ?_
  refine SC.seq (SC.region ?_)
  refine SL.val (Val.assign rfl) rfl rfl ?_
  refine SL.nil (SE.seq ?_)
  refine SC.seq ?_
  refine SC.seq (SC.region ?_)
  refine SL.val (Val.move rfl) rfl rfl ?_
  refine SL.val (Val.eqP rfl rfl (by kernel_rfl)) rfl rfl ?_
  refine SL.nil (SE.seq ?_)
  refine SC.condF rfl ?_
  refine SC.skip ?_
  refine SE.seq ?_
  refine SC.seq (SC.region ?_)
  refine SL.val (Val.move rfl) rfl rfl ?_
  refine SL.val (Val.nilCheck rfl) rfl rfl ?_
  refine SL.val (Val.fieldAddr tabOk rfl rfl rfl rfl rfl) rfl rfl ?_
  refine SL.val (Val.load1 tabOk rfl rfl (by first|(apply Or.inl;(repeat first|assumption|exact m0|apply m1);done)|(apply Or.inr;(repeat first|assumption|exact m0|apply m1);done)) List.not_mem_nil (by rfl)) rfl rfl ?_
  refine SL.val (Val.lenMap Try.underlying75 rfl (by first|(apply Or.inl;(repeat first|assumption|exact m0|apply m1);done)|(apply Or.inr;(repeat first|assumption|exact m0|apply m1);done)) List.not_mem_nil) rfl rfl ?_
  refine SL.val (Val.assign rfl) rfl rfl ?_
  refine SL.nil (SE.seq ?_)
  refine SC.ret ?_
  refine SE.fin (rs := [.tmp 2]) rfl (RV.tmp rfl RV.nil) (()) (by repeat first|exact s0 _|exact s1 _|apply s2|apply s3) (by simp [It.rids]) ?_
  exact rfl
theorem st_voters_s (hl : m.length ≤ 1000) : Spec Try.prog 38 [ptr t] [.blk t 78 [mapV bv, mapV bn], .pc (mapPc bv intK Value.string intOk m), .pc (mapPc bn Value.string cntV strOk c)] (fun v : Value => [own 3 1 v ((srt (m.map (·.1))).map fun x => [int x]), .blk t 78 [mapV bv, mapV bn], .pc (mapPc bv intK Value.string intOk m), .pc (mapPc bn Value.string cntV strOk c)]) (fun v => .v v) := by
  refine spec_of Try.func38 rfl Try.ntmps38 rfl fun G w => ?_
  refine SC.seq (SC.region ?_)
  refine SL.val (Val.assign rfl) rfl rfl ?_
  refine SL.nil (SE.seq ?_)
  refine SC.seq ?_
  refine SC.seq (SC.region ?_)
  refine SL.val (Val.move rfl) rfl rfl ?_
  refine SL.val (Val.eqP rfl rfl (by kernel_rfl)) rfl rfl ?_
  refine SL.nil (SE.seq ?_)
  refine SC.condF rfl ?_
  refine SC.skip ?_
  refine SE.seq ?_
  refine SC.seq (SC.region ?_)
  refine SL.val (Val.move rfl) rfl rfl ?_
  refine SL.val (Val.nilCheck rfl) rfl rfl ?_
  refine SL.val (Val.fieldAddr tabOk rfl rfl rfl rfl rfl) rfl rfl ?_
  refine SL.val (Val.load1 tabOk rfl rfl (by first|(apply Or.inl;(repeat first|assumption|exact m0|apply m1);done)|(apply Or.inr;(repeat first|assumption|exact m0|apply m1);done)) List.not_mem_nil (by rfl)) rfl rfl ?_
  refine SL.call (keys_2_s (b := bv)) Casts.refl (by kernel_rfl) rfl rfl rfl ?_
  refine After.make (by repeat first|exact .nil|refine .blk (by repeat first|assumption|exact m0|apply m1) ?_|refine .rd (by repeat first|assumption|exact m0|apply m1) ?_|refine .pc (by repeat first|assumption|exact m0|apply m1) ?_|refine .rdpc (by repeat first|assumption|exact m0|apply m1) ?_) (fun _ => rfl) ?_
  intro zk
  refine SL.call (sorted_2_s (V := Value.string) (m := m) (b := bv) (z := zk) (by omega)) Casts.refl (by kernel_rfl) rfl rfl rfl ?_
  refine After.make (by repeat first|exact .nil|refine .blk (by repeat first|assumption|exact m0|apply m1) ?_|refine .rd (by repeat first|assumption|exact m0|apply m1) ?_|refine .pc (by repeat first|assumption|exact m0|apply m1) ?_|refine .rdpc (by repeat first|assumption|exact m0|apply m1) ?_) (fun _ => rfl) ?_
  intro r10
  refine SL.val (Val.assign rfl) rfl rfl ?_
  refine SL.nil (SE.seq ?_)
  refine SC.ret ?_
  refine SE.fin (rs := [.tmp 2]) rfl (RV.tmp rfl RV.nil) (r10) (by repeat first|exact s0 _|exact s1 _|apply s2|apply s3) (by simp [It.rids]) ?_
  exact rfl
theorem st_voters0_s  : Spec Try.prog 38 [.v (.pointer none)] [] (fun _ : Unit => []) (fun _ => .v (.slice none 0 0)) := by
  refine spec_of Try.func38 rfl Try.ntmps38 rfl fun G w => ?_
  refine SC.seq (SC.region ?_)
  refine SL.val (Val.assign rfl) rfl rfl ?_
  refine SL.nil (SE.seq ?_)
  refine SC.seq ?_
  refine SC.seq (SC.region ?_)
  refine SL.val (Val.move rfl) rfl rfl ?_
  refine SL.val (Val.eqP rfl rfl (by kernel_rfl)) rfl rfl ?_
  refine SL.nil (SE.seq ?_)
  refine SC.condT rfl ?_
  refine SC.seq (SC.region ?_)
  refine SL.val (Val.assign rfl) rfl rfl ?_
  refine SL.nil (SE.seq ?_)
  refine SC.ret ?_
  refine SE.then_ (by intro h; cases h) ?_
  refine SE.fin (rs := [.tmp 2]) rfl (RV.tmp rfl RV.nil) (()) (by repeat first|exact s0 _|exact s1 _|apply s2|apply s3) (by simp [It.rids]) ?_
  exact rfl
set_option maxHeartbeats 2000000 in
theorem st_least_s (hl : m.length ≤ 1000) (hmok : ∀ w ∈ m.map (·.1), intOk w) (hok : ∀ w v, aget m w = some v → strOk v) : Spec Try.prog 20 [ptr t, int at_] [.blk t 78 [mapV bv, mapV bn], .pc (mapPc bv intK Value.string intOk m), .pc (mapPc bn Value.string cntV strOk c)] (fun _ : Unit => [.blk t 78 [mapV bv, mapV bn], .pc (mapPc bv intK Value.string intOk m), .pc (mapPc bn Value.string cntV strOk c)]) (fun _ => .tup [stA (leastO m c at_ (srt (m.map (·.1)))), boo (leastO m c at_ (srt (m.map (·.1)))).isSome]) := by
  have hsl : (srt (m.map (·.1))).length = m.length := by rw [srt_length, List.length_map]
  refine spec_of Try.func20 rfl Try.ntmps20 rfl fun G w => ?_
  refine SC.seq (SC.region ?_)
  refine SL.val (Val.assign rfl) rfl rfl ?_
  refine SL.val (Val.assign rfl) rfl rfl ?_
  refine SL.nil (SE.seq ?_)
  refine SC.seq ?_
  refine SC.seq (SC.region ?_)
  refine SL.val (Val.move rfl) rfl rfl ?_
  refine SL.call (st_voters_s (t := t) (bv := bv) (bn := bn) (m := m) (c := c) hl) Casts.refl (by kernel_rfl) rfl rfl rfl ?_
  refine After.threeN ⟨rfl, rfl, rfl⟩ (fun _ => rfl) ?_
  intro r11
  refine SL.freeze [] (t := 11) rfl rfl ?_
  first
    | refine SL.val (Val.lenSl rfl Try.underlying41 (List.length_map _)) rfl rfl ?_
    | refine SL.val (Val.lenOwn rfl (by repeat first|assumption|exact m0|apply m1) Try.underlying41 (List.length_map _)) rfl rfl ?_
    | refine SL.val (Val.lenNil rfl Try.underlying41) rfl rfl ?_
  refine SL.val (Val.move rfl) rfl rfl ?_
  refine SL.nil (SE.seq ?_)
  refine SC.block ?_
  refine SC.loop (ι := Nat) (fun z => [.blk t 78 [mapV bv, mapV bn], .pc (mapPc bv intK Value.string intOk m), .pc (mapPc bn Value.string cntV strOk c)]) (fun z => [(0, ptr t), (1, int at_), (11, ints (srt (m.map (·.1)))), (12, int ((srt (m.map (·.1))).length : Nat)), (13, int (z : Nat))]) (fun z => z ≤ (srt (m.map (·.1))).length ∧ ∀ j (h : j < (srt (m.map (·.1))).length), j < z → ∀ v, aget m (srt (m.map (·.1)))[j] = some v → ¬ (1 ≤ at_ ∧ at_ ≤ cget c v)) (fun z => (srt (m.map (·.1))).length - z) (0) (⟨Nat.zero_le _, fun j h hj => by omega⟩) (by exact ⟨rfl, rfl, rfl, rfl, rfl, trivial⟩) (by repeat first|exact s0 _|exact s1 _|apply s2|apply s3) ?_
  intro z hz
  refine SC.seq (SC.region ?_)
  refine SL.val (Val.ltI rfl rfl) rfl rfl ?_
  refine SL.nil (SE.seq ?_)
  refine SC.seq ?_
  refine SC.condP rfl ?_ ?_
  rotate_left
  · intro hc14
    refine SC.exit ?_
    refine SE.then_ (by intro h; cases h) ?_
    refine SE.then_ (by intro h; cases h) ?_
    refine SE.exit ?_
    refine SE.seq ?_
    refine SC.seq (SC.region ?_)
    refine SL.val (Val.assign rfl) rfl rfl ?_
    refine SL.nil (SE.seq ?_)
    refine SC.seq (SC.region ?_)
    refine SL.val (Val.move rfl) rfl rfl ?_
    refine SL.val (Val.assign rfl) rfl rfl ?_
    refine SL.val (Val.assign rfl) rfl rfl ?_
    refine SL.nil (SE.seq ?_)
    refine SC.ret ?_
    have hle : leastO m c at_ (srt (m.map (·.1))) = none := by
      rw [leastO_drop hz.2, List.drop_eq_nil_of_le (by omega)]
      rfl
    refine SE.fin (rs := [.tmp 4, .tmp 5]) rfl (RV.tmp rfl (RV.tmp rfl RV.nil)) (()) (by repeat first|exact s0 _|exact s1 _|apply s2|apply s3) (by simp [It.rids]) ?_
    rw [hle]
    rfl
  intro hc14
  have hlt : z < (srt (m.map (·.1))).length := by omega
  have hin : (srt (m.map (·.1)))[z] ∈ m.map (·.1) := (srt_perm _).mem_iff.1 (List.getElem_mem hlt)
  obtain ⟨v, hv⟩ := isSome_some ((aget_isSome m (srt (m.map (·.1)))[z]).2 hin)
  have hwz := hmok _ hin
  refine SC.skip ?_
  refine SE.seq ?_
  refine SC.seq ?_
  refine SC.block ?_
  refine SC.seq (SC.region ?_)
  refine SL.val (Val.indexSl tabOk Try.underlying41 rfl rfl rfl rfl (at_map (by omega)) rfl rfl) rfl rfl ?_
  refine SL.val (Val.to (C := int ((srt (m.map (·.1)))[z]'hlt)) (Val.load1R tabOk rfl rfl rfl) rfl) rfl rfl ?_
  refine SL.val (Val.assign rfl) rfl rfl ?_
  refine SL.nil (SE.seq ?_)
  refine SC.seq (SC.region ?_)
  refine SL.val (Val.move rfl) rfl rfl ?_
  refine SL.val (Val.nilCheck rfl) rfl rfl ?_
  refine SL.val (Val.fieldAddr tabOk rfl rfl rfl rfl rfl) rfl rfl ?_
  refine SL.val (Val.load1 tabOk rfl rfl (by first|(apply Or.inl;(repeat first|assumption|exact m0|apply m1);done)|(apply Or.inr;(repeat first|assumption|exact m0|apply m1);done)) List.not_mem_nil (by rfl)) rfl rfl ?_
  refine SL.val (Val.move rfl) rfl rfl ?_
  refine SL.val (Val.mapGet (a := (srt (m.map (·.1)))[z]) (zv := (.string ⟨#[]⟩)) (C := stA (aget m (srt (m.map (·.1)))[z])) (int_fit Try.underlying3) Try.underlying75 st_zero rfl (by first|(apply Or.inl;(repeat first|assumption|exact m0|apply m1);done)|(apply Or.inr;(repeat first|assumption|exact m0|apply m1);done)) List.not_mem_nil rfl is_v hwz (stA_is _)) rfl rfl ?_
  rw [hv]
  refine SL.val (Val.assign rfl) rfl rfl ?_
  refine SL.nil (SE.seq ?_)
  refine SC.seq (SC.region ?_)
  refine SL.val (Val.move rfl) rfl rfl ?_
  refine SL.val (Val.geI rfl rfl) rfl rfl ?_
  refine SL.val (Val.move rfl) rfl rfl ?_
  refine SL.bothP (t := 25) rfl ?_ ?_
  rotate_left
  · intro hc25
    iterate 8 refine SL.skip rfl rfl ?_
    refine SL.val (Val.pickF rfl rfl) rfl rfl ?_
    refine SL.nil (SE.seq ?_)
    refine SC.condF rfl ?_
    refine SC.skip ?_
    refine SE.inBlock ?_
    refine SE.seq ?_
    refine SC.region ?_
    first
      | refine SL.val (Val.addI rfl rfl (by simp only [InR, lo, hi]; omega)) rfl rfl ?_
      | refine SL.val (Val.addW rfl rfl) rfl rfl ?_
    refine SL.val (Val.move rfl) rfl rfl ?_
    refine SL.nil ?_
    refine SE.round (z + 1) (by first | omega | (dsimp only; omega)) (⟨by omega, fun j h hj u hu => by
          rcases Nat.lt_or_ge j z with h1 | h1
          · exact hz.2 j h h1 u hu
          · obtain rfl : j = z := by omega
            rw [hv] at hu
            cases hu
            first | omega | (simp at *; omega)⟩) (by exact ⟨rfl, rfl, rfl, rfl, rfl, trivial⟩) (by repeat first|exact s0 _|exact s1 _|apply s2|apply s3)
  intro hc25
  refine SL.val (Val.move rfl) rfl rfl ?_
  refine SL.val (Val.nilCheck rfl) rfl rfl ?_
  refine SL.val (Val.fieldAddr tabOk rfl rfl rfl rfl rfl) rfl rfl ?_
  refine SL.val (Val.load1 tabOk rfl rfl (by first|(apply Or.inl;(repeat first|assumption|exact m0|apply m1);done)|(apply Or.inr;(repeat first|assumption|exact m0|apply m1);done)) List.not_mem_nil (by rfl)) rfl rfl ?_
  refine SL.val (Val.move rfl) rfl rfl ?_
  refine SL.val (Val.mapGet (a := v) (zv := cntV 0) (C := int ((cget c v : Nat) : Int)) str_fit Try.underlying76 int_zero rfl (by first|(apply Or.inl;(repeat first|assumption|exact m0|apply m1);done)|(apply Or.inr;(repeat first|assumption|exact m0|apply m1);done)) List.not_mem_nil rfl (st_is _) (hok _ _ hv) (cget_is _ _)) rfl rfl ?_
  refine SL.val (Val.move rfl) rfl rfl ?_
  refine SL.val (Val.geI rfl rfl) rfl rfl ?_
  refine SL.val (Val.pickT rfl rfl) rfl rfl ?_
  refine SL.nil (SE.seq ?_)
  refine SC.condP rfl ?_ ?_
  rotate_left
  · intro hc34
    refine SC.skip ?_
    refine SE.inBlock ?_
    refine SE.seq ?_
    refine SC.region ?_
    first
      | refine SL.val (Val.addI rfl rfl (by simp only [InR, lo, hi]; omega)) rfl rfl ?_
      | refine SL.val (Val.addW rfl rfl) rfl rfl ?_
    refine SL.val (Val.move rfl) rfl rfl ?_
    refine SL.nil ?_
    refine SE.round (z + 1) (by first | omega | (dsimp only; omega)) (⟨by omega, fun j h hj u hu => by
          rcases Nat.lt_or_ge j z with h1 | h1
          · exact hz.2 j h h1 u hu
          · obtain rfl : j = z := by omega
            rw [hv] at hu
            cases hu
            first | omega | (simp at *; omega)⟩) (by exact ⟨rfl, rfl, rfl, rfl, rfl, trivial⟩) (by repeat first|exact s0 _|exact s1 _|apply s2|apply s3)
  intro hc34
  refine SC.seq (SC.region ?_)
  refine SL.val (Val.move rfl) rfl rfl ?_
  refine SL.val (Val.assign rfl) rfl rfl ?_
  refine SL.val (Val.assign rfl) rfl rfl ?_
  refine SL.nil (SE.seq ?_)
  refine SC.ret ?_
  refine SE.ret ?_
  refine SE.then_ (by intro h; cases h) ?_
  refine SE.then_ (by intro h; cases h) ?_
  refine SE.ret ?_
  refine SE.then_ (by intro h; cases h) ?_
  have hle : leastO m c at_ (srt (m.map (·.1))) = some v := by
    rw [leastO_drop hz.2, List.drop_eq_getElem_cons hlt, leastO_cons, hv]
    exact if_pos (by omega)
  refine SE.fin (rs := [.tmp 4, .tmp 5]) rfl (RV.tmp rfl (RV.tmp rfl RV.nil)) (()) (by repeat first|exact s0 _|exact s1 _|apply s2|apply s3) (by simp [It.rids]) ?_
  rw [hle]
  rfl
end
def p9E (x : UInt8) : Abs := .agg [.v (bc x), .v (bc 9)]
theorem p9_is (x : UInt8) : (p9E x).is (p9V x) := is_agg (us := [bc x, bc 9])
abbrev p9A (o : Option UInt8) : Abs := (o.map p9E).getD (.agg [.v (.int .u8 0), .v (.int .u8 0)])
theorem p9_zero : ∀ w, (zeroValue 57).run Try.prog w = .ok (.agg #[.int .u8 0, .int .u8 0]) w := fun w => by
  kernel_rfl
theorem p9A_is (o : Option UInt8) : (p9A o).is ((o.map p9V).getD (.agg #[.int .u8 0, .int .u8 0])) := getD_is p9_is (is_agg (us := [.int .u8 0, .int .u8 0])) o
section
variable {t bv bn : Nat} {m : List (Int × UInt8)} {c : List (UInt8 × Nat)} {k : UInt8} {who at_ : Int}
theorem p9_new_s  : Spec Try.prog 27 [] [] (fun z : Nat × Nat × Nat => [.blk z.1 86 [mapV z.2.1, mapV z.2.2], .pc (mapPc z.2.1 intK p9V intOk []), .pc (mapPc z.2.2 p9V cntV top [])]) (fun z => ptr z.1) := by
  refine spec_of Try.func27 rfl Try.ntmps27 rfl fun G w => ?_
  refine SC.seq (SC.region ?_)
  refine SL.val (Val.assign rfl) rfl rfl ?_
  refine SL.nil (SE.seq ?_)
  refine SC.seq (SC.region ?_)
  refine SL.eff (Eff.makeMap intK p9V intOk (fun ac w => by simp [execOp, Instr.makeMap, newObj, Sem.run, Sem.run_bind, Result.andThen])) rfl rfl ?_
  rintro _ _ ⟨m1, rfl, rfl⟩
  refine SL.eff (Eff.makeMap p9V cntV top (fun ac w => by simp [execOp, Instr.makeMap, newObj, Sem.run, Sem.run_bind, Result.andThen])) rfl rfl ?_
  rintro _ _ ⟨m2, rfl, rfl⟩
  refine SL.val (Val.buildS tabOk rfl rfl rfl rfl) rfl rfl ?_
  refine SL.eff (Eff.boxA rfl) rfl rfl ?_
  rintro _ _ ⟨b4, rfl, rfl⟩
  refine SL.val (Val.assign rfl) rfl rfl ?_
  refine SL.nil (SE.seq ?_)
  refine SC.ret ?_
  refine SE.perm (List.Perm.cons _ (List.Perm.swap _ _ _)) ?_
  refine SE.fin (rs := [.tmp 0]) rfl (RV.tmp rfl RV.nil) (b4, m1, m2) (by repeat first|exact s0 _|exact s1 _|apply s2|apply s3) (by simp [It.rids]) ?_
  exact rfl
theorem p9_len_s  : Spec Try.prog 33 [ptr t] [.blk t 86 [mapV bv, mapV bn], .pc (mapPc bv intK p9V intOk m), .pc (mapPc bn p9V cntV top c)] (fun _ : Unit => [.blk t 86 [mapV bv, mapV bn], .pc (mapPc bv intK p9V intOk m), .pc (mapPc bn p9V cntV top c)]) (fun _ => int (m.length : Nat)) := by
  refine spec_of Try.func33 rfl Try.ntmps33 rfl fun G w => ?_
  refine SC.seq (SC.region ?_)
  refine SL.val (Val.assign rfl) rfl rfl ?_
  refine SL.nil (SE.seq ?_)
  refine SC.seq ?_
  refine SC.seq (SC.region ?_)
  refine SL.val (Val.move rfl) rfl rfl ?_
  refine SL.val (Val.eqP rfl rfl (by kernel_rfl)) rfl rfl ?_
  refine SL.nil (SE.seq ?_)
  refine SC.condF rfl ?_
  refine SC.skip ?_
  refine SE.seq ?_
  refine SC.seq (SC.region ?_)
  refine SL.val (Val.move rfl) rfl rfl ?_
  refine SL.val (Val.nilCheck rfl) rfl rfl ?_
  refine SL.val (Val.fieldAddr tabOk rfl rfl rfl rfl rfl) rfl rfl ?_
  refine SL.val (Val.load1 tabOk rfl rfl (by first|(apply Or.inl;(repeat first|assumption|exact m0|apply m1);done)|(apply Or.inr;(repeat first|assumption|exact m0|apply m1);done)) List.not_mem_nil (by rfl)) rfl rfl ?_
  refine SL.val (Val.lenMap Try.underlying83 rfl (by first|(apply Or.inl;(repeat first|assumption|exact m0|apply m1);done)|(apply Or.inr;(repeat first|assumption|exact m0|apply m1);done)) List.not_mem_nil) rfl rfl ?_
  refine SL.val (Val.assign rfl) rfl rfl ?_
  refine SL.nil (SE.seq ?_)
  refine SC.ret ?_
  refine SE.fin (rs := [.tmp 2]) rfl (RV.tmp rfl RV.nil) (()) (by repeat first|exact s0 _|exact s1 _|apply s2|apply s3) (by simp [It.rids]) ?_
  exact rfl
theorem p9_voters_s (hl : m.length ≤ 1000) : Spec Try.prog 43 [ptr t] [.blk t 86 [mapV bv, mapV bn], .pc (mapPc bv intK p9V intOk m), .pc (mapPc bn p9V cntV top c)] (fun v : Value => [own 3 1 v ((srt (m.map (·.1))).map fun x => [int x]), .blk t 86 [mapV bv, mapV bn], .pc (mapPc bv intK p9V intOk m), .pc (mapPc bn p9V cntV top c)]) (fun v => .v v) := by
  refine spec_of Try.func43 rfl Try.ntmps43 rfl fun G w => ?_
  refine SC.seq (SC.region ?_)
  refine SL.val (Val.assign rfl) rfl rfl ?_
  refine SL.nil (SE.seq ?_)
  refine SC.seq ?_
  refine SC.seq (SC.region ?_)
  refine SL.val (Val.move rfl) rfl rfl ?_
  refine SL.val (Val.eqP rfl rfl (by kernel_rfl)) rfl rfl ?_
  refine SL.nil (SE.seq ?_)
  refine SC.condF rfl ?_
  refine SC.skip ?_
  refine SE.seq ?_
  refine SC.seq (SC.region ?_)
  refine SL.val (Val.move rfl) rfl rfl ?_
  refine SL.val (Val.nilCheck rfl) rfl rfl ?_
  refine SL.val (Val.fieldAddr tabOk rfl rfl rfl rfl rfl) rfl rfl ?_
  refine SL.val (Val.load1 tabOk rfl rfl (by first|(apply Or.inl;(repeat first|assumption|exact m0|apply m1);done)|(apply Or.inr;(repeat first|assumption|exact m0|apply m1);done)) List.not_mem_nil (by rfl)) rfl rfl ?_
  refine SL.call (keys_0_s (b := bv)) Casts.refl (by kernel_rfl) rfl rfl rfl ?_
  refine After.make (by repeat first|exact .nil|refine .blk (by repeat first|assumption|exact m0|apply m1) ?_|refine .rd (by repeat first|assumption|exact m0|apply m1) ?_|refine .pc (by repeat first|assumption|exact m0|apply m1) ?_|refine .rdpc (by repeat first|assumption|exact m0|apply m1) ?_) (fun _ => rfl) ?_
  intro zk
  refine SL.call (sorted_0_s (V := p9V) (m := m) (b := bv) (z := zk) (by omega)) Casts.refl (by kernel_rfl) rfl rfl rfl ?_
  refine After.make (by repeat first|exact .nil|refine .blk (by repeat first|assumption|exact m0|apply m1) ?_|refine .rd (by repeat first|assumption|exact m0|apply m1) ?_|refine .pc (by repeat first|assumption|exact m0|apply m1) ?_|refine .rdpc (by repeat first|assumption|exact m0|apply m1) ?_) (fun _ => rfl) ?_
  intro r10
  refine SL.val (Val.assign rfl) rfl rfl ?_
  refine SL.nil (SE.seq ?_)
  refine SC.ret ?_
  refine SE.fin (rs := [.tmp 2]) rfl (RV.tmp rfl RV.nil) (r10) (by repeat first|exact s0 _|exact s1 _|apply s2|apply s3) (by simp [It.rids]) ?_
  exact rfl
theorem p9_voters0_s  : Spec Try.prog 43 [.v (.pointer none)] [] (fun _ : Unit => []) (fun _ => .v (.slice none 0 0)) := by
  refine spec_of Try.func43 rfl Try.ntmps43 rfl fun G w => ?_
  refine SC.seq (SC.region ?_)
  refine SL.val (Val.assign rfl) rfl rfl ?_
  refine SL.nil (SE.seq ?_)
  refine SC.seq ?_
  refine SC.seq (SC.region ?_)
  refine SL.val (Val.move rfl) rfl rfl ?_
  refine SL.val (Val.eqP rfl rfl (by kernel_rfl)) rfl rfl ?_
  refine SL.nil (SE.seq ?_)
  refine SC.condT rfl ?_
  refine SC.seq (SC.region ?_)
  refine SL.val (Val.assign rfl) rfl rfl ?_
  refine SL.nil (SE.seq ?_)
  refine SC.ret ?_
  refine SE.then_ (by intro h; cases h) ?_
  refine SE.fin (rs := [.tmp 2]) rfl (RV.tmp rfl RV.nil) (()) (by repeat first|exact s0 _|exact s1 _|apply s2|apply s3) (by simp [It.rids]) ?_
  exact rfl
end
end Go.Proofs.Ytonceioajbimaaa.A
/-
  Tallies: nil ones; counts.
-/
set_option maxRecDepth 100000
set_option linter.unusedSimpArgs false
set_option linter.unusedVariables false
namespace Go.Proofs.Ytonceioajbimaaa.A
open Go.RowKit Go.Maps Go.Sort Go.Shelf

section
variable {t bv bn : Nat} {m : List (Int × ByteArray)} {c : List (ByteArray × Nat)} {k : ByteArray} {who at_ : Int}
theorem st_count_s (hk : strOk k) : Spec Try.prog 24 [ptr t, stE k] [.blk t 78 [mapV bv, mapV bn], .pc (mapPc bv intK Value.string intOk m), .pc (mapPc bn Value.string cntV strOk c)] (fun _ : Unit => [.blk t 78 [mapV bv, mapV bn], .pc (mapPc bv intK Value.string intOk m), .pc (mapPc bn Value.string cntV strOk c)]) (fun _ => int ((cget c k : Nat) : Int)) := by
  refine spec_of Try.func24 rfl Try.ntmps24 rfl fun G w => ?_
  refine SC.seq (SC.region ?_)
  refine SL.val (Val.assign rfl) rfl rfl ?_
  refine SL.nil (SE.seq ?_)
  refine SC.seq ?_
  refine SC.seq (SC.region ?_)
  refine SL.val (Val.move rfl) rfl rfl ?_
  refine SL.val (Val.eqP rfl rfl (by kernel_rfl)) rfl rfl ?_
  refine SL.nil (SE.seq ?_)
  refine SC.condF rfl ?_
  refine SC.skip ?_
  refine SE.seq ?_
  refine SC.seq (SC.region ?_)
  refine SL.val (Val.move rfl) rfl rfl ?_
  refine SL.val (Val.nilCheck rfl) rfl rfl ?_
  refine SL.val (Val.fieldAddr tabOk rfl rfl rfl rfl rfl) rfl rfl ?_
  refine SL.val (Val.load1 tabOk rfl rfl (by first|(apply Or.inl;(repeat first|assumption|exact m0|apply m1);done)|(apply Or.inr;(repeat first|assumption|exact m0|apply m1);done)) List.not_mem_nil (by rfl)) rfl rfl ?_
  refine SL.val (Val.move rfl) rfl rfl ?_
  refine SL.val (Val.mapGet (a := k) (zv := cntV 0) (C := int ((cget c k : Nat) : Int)) str_fit Try.underlying76 int_zero rfl (by first|(apply Or.inl;(repeat first|assumption|exact m0|apply m1);done)|(apply Or.inr;(repeat first|assumption|exact m0|apply m1);done)) List.not_mem_nil rfl (st_is _) hk (cget_is _ _)) rfl rfl ?_
  refine SL.val (Val.assign rfl) rfl rfl ?_
  refine SL.nil (SE.seq ?_)
  refine SC.ret ?_
  refine SE.fin (rs := [.tmp 4]) rfl (RV.tmp rfl RV.nil) (()) (by repeat first|exact s0 _|exact s1 _|apply s2|apply s3) (by simp [It.rids]) ?_
  exact rfl
theorem st_change0_s  : Spec Try.prog 19 [.v (.pointer none), int who, stE k] [] (fun _ : Unit => []) (fun _ => .tup []) := by
  refine spec_of Try.func19 rfl Try.ntmps19 rfl fun G w => ?_
  refine SC.seq ?_
  refine SC.seq (SC.region ?_)
  refine SL.val (Val.move rfl) rfl rfl ?_
  refine SL.val (Val.eqP rfl rfl (by kernel_rfl)) rfl rfl ?_
  refine SL.nil (SE.seq ?_)
  refine SC.condT rfl ?_
  refine SC.ret ?_
  refine SE.then_ (by intro h; cases h) ?_
  refine SE.fin (rs := []) rfl RV.nil (()) (by repeat first|exact s0 _|exact s1 _|apply s2|apply s3) (by simp [It.rids]) ?_
  exact rfl
theorem st_of0_s  : Spec Try.prog 21 [.v (.pointer none), int who] [] (fun _ : Unit => []) (fun _ => .tup [stA none, boo false]) := by
  refine spec_of Try.func21 rfl Try.ntmps21 rfl fun G w => ?_
  refine SC.seq (SC.region ?_)
  refine SL.val (Val.assign rfl) rfl rfl ?_
  refine SL.val (Val.assign rfl) rfl rfl ?_
  refine SL.nil (SE.seq ?_)
  refine SC.seq ?_
  refine SC.seq (SC.region ?_)
  refine SL.val (Val.move rfl) rfl rfl ?_
  refine SL.val (Val.eqP rfl rfl (by kernel_rfl)) rfl rfl ?_
  refine SL.nil (SE.seq ?_)
  refine SC.condT rfl ?_
  refine SC.seq (SC.region ?_)
  refine SL.val (Val.assign rfl) rfl rfl ?_
  refine SL.nil (SE.seq ?_)
  refine SC.seq (SC.region ?_)
  refine SL.val (Val.move rfl) rfl rfl ?_
  refine SL.val (Val.assign rfl) rfl rfl ?_
  refine SL.val (Val.assign rfl) rfl rfl ?_
  refine SL.nil (SE.seq ?_)
  refine SC.ret ?_
  refine SE.then_ (by intro h; cases h) ?_
  refine SE.fin (rs := [.tmp 4, .tmp 5]) rfl (RV.tmp rfl (RV.tmp rfl RV.nil)) (()) (by repeat first|exact s0 _|exact s1 _|apply s2|apply s3) (by simp [It.rids]) ?_
  exact rfl
theorem st_add0_s  : Spec Try.prog 22 [.v (.pointer none), int who, stE k] [] (fun _ : Unit => []) (fun _ => boo false) := by
  refine spec_of Try.func22 rfl Try.ntmps22 rfl fun G w => ?_
  refine SC.seq (SC.region ?_)
  refine SL.val (Val.assign rfl) rfl rfl ?_
  refine SL.nil (SE.seq ?_)
  refine SC.seq ?_
  refine SC.seq (SC.region ?_)
  refine SL.val (Val.move rfl) rfl rfl ?_
  refine SL.val (Val.eqP rfl rfl (by kernel_rfl)) rfl rfl ?_
  refine SL.nil (SE.seq ?_)
  refine SC.condT rfl ?_
  refine SC.seq (SC.region ?_)
  refine SL.val (Val.assign rfl) rfl rfl ?_
  refine SL.nil (SE.seq ?_)
  refine SC.ret ?_
  refine SE.then_ (by intro h; cases h) ?_
  refine SE.fin (rs := [.tmp 6]) rfl (RV.tmp rfl RV.nil) (()) (by repeat first|exact s0 _|exact s1 _|apply s2|apply s3) (by simp [It.rids]) ?_
  exact rfl
theorem st_len0_s  : Spec Try.prog 23 [.v (.pointer none)] [] (fun _ : Unit => []) (fun _ => int 0) := by
  refine spec_of Try.func23 rfl Try.ntmps23 rfl fun G w => ?_
  refine SC.seq (SC.region ?_)
  refine SL.val (Val.assign rfl) rfl rfl ?_
  refine SL.nil (SE.seq ?_)
  refine SC.seq ?_
  refine SC.seq (SC.region ?_)
  refine SL.val (Val.move rfl) rfl rfl ?_
  refine SL.val (Val.eqP rfl rfl (by kernel_rfl)) rfl rfl ?_
  refine SL.nil (SE.seq ?_)
  refine SC.condT rfl ?_
  refine SC.seq (SC.region ?_)
  refine SL.val (Val.assign rfl) rfl rfl ?_
  refine SL.nil (SE.seq ?_)
  refine SC.ret ?_
  refine SE.then_ (by intro h; cases h) ?_
  refine SE.fin (rs := [.tmp 2]) rfl (RV.tmp rfl RV.nil) (()) (by repeat first|exact s0 _|exact s1 _|apply s2|apply s3) (by simp [It.rids]) ?_
  exact rfl
theorem st_count0_s  : Spec Try.prog 24 [.v (.pointer none), stE k] [] (fun _ : Unit => []) (fun _ => int 0) := by
  refine spec_of Try.func24 rfl Try.ntmps24 rfl fun G w => ?_
  refine SC.seq (SC.region ?_)
  refine SL.val (Val.assign rfl) rfl rfl ?_
  refine SL.nil (SE.seq ?_)
  refine SC.seq ?_
  refine SC.seq (SC.region ?_)
  refine SL.val (Val.move rfl) rfl rfl ?_
  refine SL.val (Val.eqP rfl rfl (by kernel_rfl)) rfl rfl ?_
  refine SL.nil (SE.seq ?_)
  refine SC.condT rfl ?_
  refine SC.seq (SC.region ?_)
  refine SL.val (Val.assign rfl) rfl rfl ?_
  refine SL.nil (SE.seq ?_)
  refine SC.ret ?_
  refine SE.then_ (by intro h; cases h) ?_
  refine SE.fin (rs := [.tmp 4]) rfl (RV.tmp rfl RV.nil) (()) (by repeat first|exact s0 _|exact s1 _|apply s2|apply s3) (by simp [It.rids]) ?_
  exact rfl
theorem st_least0_s  : Spec Try.prog 20 [.v (.pointer none), int at_] [] (fun _ : Unit => []) (fun _ => .tup [stA none, boo false]) := by
  refine spec_of Try.func20 rfl Try.ntmps20 rfl fun G w => ?_
  refine SC.seq (SC.region ?_)
  refine SL.val (Val.assign rfl) rfl rfl ?_
  refine SL.val (Val.assign rfl) rfl rfl ?_
  refine SL.nil (SE.seq ?_)
  refine SC.seq ?_
  refine SC.seq (SC.region ?_)
  refine SL.val (Val.move rfl) rfl rfl ?_
  refine SL.call (st_voters0_s) Casts.refl (by kernel_rfl) rfl rfl rfl ?_
  refine After.pure (by repeat first|exact .nil|refine .blk (by repeat first|assumption|exact m0|apply m1) ?_|refine .rd (by repeat first|assumption|exact m0|apply m1) ?_|refine .pc (by repeat first|assumption|exact m0|apply m1) ?_|refine .rdpc (by repeat first|assumption|exact m0|apply m1) ?_) (fun _ => rfl) ?_
  intro _
  first
    | refine SL.val (Val.lenSl rfl Try.underlying41 (List.length_map _)) rfl rfl ?_
    | refine SL.val (Val.lenOwn rfl (by repeat first|assumption|exact m0|apply m1) Try.underlying41 (List.length_map _)) rfl rfl ?_
    | refine SL.val (Val.lenNil rfl Try.underlying41) rfl rfl ?_
  refine SL.val (Val.move rfl) rfl rfl ?_
  refine SL.nil (SE.seq ?_)
  refine SC.block ?_
  refine SC.loop (ι := Unit) (fun z => []) (fun z => [(12, int ((0 : Nat) : Int)), (13, int 0)]) (fun z => True) (fun z => 0) (()) (trivial) (by exact ⟨rfl, rfl, trivial⟩) (by repeat first|exact s0 _|exact s1 _|apply s2|apply s3) ?_
  intro z hz
  refine SC.seq (SC.region ?_)
  refine SL.val (Val.ltI rfl rfl) rfl rfl ?_
  refine SL.nil (SE.seq ?_)
  refine SC.seq ?_
  refine SC.condP rfl (by intro hc14; exfalso; omega) ?_
  intro hc14
  refine SC.exit ?_
  refine SE.then_ (by intro h; cases h) ?_
  refine SE.then_ (by intro h; cases h) ?_
  refine SE.exit ?_
  refine SE.seq ?_
  refine SC.seq (SC.region ?_)
  refine SL.val (Val.assign rfl) rfl rfl ?_
  refine SL.nil (SE.seq ?_)
  refine SC.seq (SC.region ?_)
  refine SL.val (Val.move rfl) rfl rfl ?_
  refine SL.val (Val.assign rfl) rfl rfl ?_
  refine SL.val (Val.assign rfl) rfl rfl ?_
  refine SL.nil (SE.seq ?_)
  refine SC.ret ?_
  refine SE.fin (rs := [.tmp 4, .tmp 5]) rfl (RV.tmp rfl (RV.tmp rfl RV.nil)) (()) (by repeat first|exact s0 _|exact s1 _|apply s2|apply s3) (by simp [It.rids]) ?_
  exact rfl
end
section
variable {f : FuncId} {bs cs : List Abs}
theorem index0_s  : Spec Try.prog 46 [.v (.slice none 0 0), .fn (.func f) bs cs] [] (fun _ : Unit => []) (fun _ => int (-1)) := by
  refine spec_of Try.func46 rfl Try.ntmps46 rfl fun G w => ?_
  refine SC.seq (SC.region ?_)
  refine SL.val (Val.assign rfl) rfl rfl ?_
  refine SL.nil (SE.seq ?_)
  refine SC.seq ?_
  refine SC.seq (SC.region ?_)
  refine SL.val (Val.move rfl) rfl rfl ?_
  first
    | refine SL.val (Val.lenSl rfl Try.underlying41 (List.length_map _)) rfl rfl ?_
    | refine SL.val (Val.lenOwn rfl (by repeat first|assumption|exact m0|apply m1) Try.underlying41 (List.length_map _)) rfl rfl ?_
    | refine SL.val (Val.lenNil rfl Try.underlying41) rfl rfl ?_
  refine SL.val (Val.move rfl) rfl rfl ?_
  refine SL.nil (SE.seq ?_)
  refine SC.block ?_
  refine SC.loop (ι := Unit) (fun z => []) (fun z => [(7, int ((0 : Nat) : Int)), (8, int 0)]) (fun z => True) (fun z => 0) (()) (trivial) (by exact ⟨rfl, rfl, trivial⟩) (by repeat first|exact s0 _|exact s1 _|apply s2|apply s3) ?_
  intro z hz
  refine SC.seq (SC.region ?_)
  refine SL.val (Val.ltI rfl rfl) rfl rfl ?_
  refine SL.nil (SE.seq ?_)
  refine SC.seq ?_
  refine SC.condP rfl (by intro hc9; exfalso; omega) ?_
  intro hc9
  refine SC.exit ?_
  refine SE.then_ (by intro h; cases h) ?_
  refine SE.then_ (by intro h; cases h) ?_
  refine SE.exit ?_
  refine SE.seq ?_
  refine SC.seq (SC.region ?_)
  refine SL.val (Val.assign rfl) rfl rfl ?_
  refine SL.nil (SE.seq ?_)
  refine SC.ret ?_
  refine SE.fin (rs := [.tmp 4]) rfl (RV.tmp rfl RV.nil) (()) (by repeat first|exact s0 _|exact s1 _|apply s2|apply s3) (by simp [It.rids]) ?_
  exact rfl
theorem delete0_s  : Spec Try.prog 36 [.v (.slice none 0 0), .fn (.func f) bs cs] [] (fun _ : Unit => []) (fun _ => .v (.slice none 0 0)) := by
  refine spec_of Try.func36 rfl Try.ntmps36 rfl fun G w => ?_
  refine SC.seq (SC.region ?_)
  refine SL.val (Val.assign rfl) rfl rfl ?_
  refine SL.nil (SE.seq ?_)
  refine SC.seq (SC.region ?_)
  refine SL.val (Val.move rfl) rfl rfl ?_
  refine SL.val (Val.move rfl) rfl rfl ?_
  refine SL.call (index0_s (f := f) (bs := bs) (cs := cs)) Casts.refl (by kernel_rfl) rfl rfl rfl ?_
  refine After.pure (by repeat first|exact .nil|refine .blk (by repeat first|assumption|exact m0|apply m1) ?_|refine .rd (by repeat first|assumption|exact m0|apply m1) ?_|refine .pc (by repeat first|assumption|exact m0|apply m1) ?_|refine .rdpc (by repeat first|assumption|exact m0|apply m1) ?_) (fun _ => rfl) ?_
  intro _
  refine SL.val (Val.assign rfl) rfl rfl ?_
  refine SL.nil (SE.seq ?_)
  refine SC.seq ?_
  refine SC.seq (SC.region ?_)
  refine SL.val (Val.move rfl) rfl rfl ?_
  refine SL.val (Val.eqI rfl rfl) rfl rfl ?_
  refine SL.nil (SE.seq ?_)
  refine SC.condP rfl ?_ (by intro hc12; exfalso; omega)
  intro hc12
  refine SC.seq (SC.region ?_)
  refine SL.val (Val.move rfl) rfl rfl ?_
  refine SL.val (Val.assign rfl) rfl rfl ?_
  refine SL.nil (SE.seq ?_)
  refine SC.ret ?_
  refine SE.then_ (by intro h; cases h) ?_
  refine SE.fin (rs := [.tmp 4]) rfl (RV.tmp rfl RV.nil) (()) (by repeat first|exact s0 _|exact s1 _|apply s2|apply s3) (by simp [It.rids]) ?_
  exact rfl
end
section
variable {k : ByteArray}
theorem st_who0_s  : Spec Try.prog 25 [.v (.pointer none), stE k] [] (fun _ : Unit => []) (fun _ => .v (.slice none 0 0)) := by
  refine spec_of Try.func25 rfl Try.ntmps25 rfl fun G w => ?_
  refine SC.seq (SC.region ?_)
  refine SL.eff (Eff.box1 rfl rfl) rfl rfl ?_
  rintro _ _ ⟨b2, rfl, rfl⟩
  refine SL.eff (Eff.box1 rfl rfl) rfl rfl ?_
  rintro _ _ ⟨b3, rfl, rfl⟩
  refine SL.val (Val.assign rfl) rfl rfl ?_
  refine SL.nil (SE.seq ?_)
  refine SC.seq (SC.region ?_)
  refine SL.val (Val.load1 tabOk rfl rfl (by first|(apply Or.inl;(repeat first|assumption|exact m0|apply m1);done)|(apply Or.inr;(repeat first|assumption|exact m0|apply m1);done)) List.not_mem_nil (by rfl)) rfl rfl ?_
  refine SL.call (st_voters0_s) Casts.refl (by kernel_rfl) rfl rfl rfl ?_
  refine After.pure (by repeat first|exact .nil|refine .blk (by repeat first|assumption|exact m0|apply m1) ?_|refine .rd (by repeat first|assumption|exact m0|apply m1) ?_|refine .pc (by repeat first|assumption|exact m0|apply m1) ?_|refine .rdpc (by repeat first|assumption|exact m0|apply m1) ?_) (fun _ => rfl) ?_
  intro _
  refine SL.val (Val.makeFunc rfl rfl) rfl rfl ?_
  refine SL.call (delete0_s (f := 39) (bs := []) (cs := [ptr b2, ptr b3])) Casts.refl (by kernel_rfl) rfl rfl rfl ?_
  refine After.pure (by repeat first|exact .nil|refine .blk (by repeat first|assumption|exact m0|apply m1) ?_|refine .rd (by repeat first|assumption|exact m0|apply m1) ?_|refine .pc (by repeat first|assumption|exact m0|apply m1) ?_|refine .rdpc (by repeat first|assumption|exact m0|apply m1) ?_) (fun _ => rfl) ?_
  intro _
  refine SL.val (Val.assign rfl) rfl rfl ?_
  refine SL.nil (SE.seq ?_)
  refine SC.ret ?_
  refine SE.fin (rs := [.tmp 4]) rfl (RV.tmp rfl RV.nil) (()) (by repeat first|exact s0 _|exact s1 _|apply s2|apply s3) (by simp [It.rids]) ?_
  exact rfl
end
end Go.Proofs.Ytonceioajbimaaa.A
/-
  Arrays of 32 bytes: are two the same?
-/
set_option maxRecDepth 100000
namespace Go.Proofs.Ytonceioajbimaaa
open Go.RowKit

def litB (c : UInt8) : Lit := .int .u8 (c.toNat : Int)
theorem litB_inj {L M : List UInt8} (h : L.map litB = M.map litB) : L = M := by
  have hi : ∀ a b : UInt8, litB a = litB b → a = b := by
    intro a b hab
    unfold litB at hab
    injection hab with _ hab
    exact UInt8.toNat.inj (by omega)
  induction L generalizing M with
  | nil => cases M with
    | nil => rfl
    | cons _ _ => simp at h
  | cons a L ih => cases M with
    | nil => simp at h
    | cons b M =>
      simp only [List.map_cons, List.cons.injEq] at h
      rw [hi _ _ h.1, ih h.2]
theorem lits_bytes {m : Nat} {T : TypeId} (hu : Try.prog.underlying T = some (.array 32 5)) (hc : Try.prog.cellsOf T = 32) (L : List UInt8) (hL : L.length = 32) :
    Try.prog.keyLits (m + 2) T (L.map bc) = some (L.map litB) := by
  have h5 : Try.prog.cellsOf 5 = 1 := by kernel_rfl
  have hone : ∀ c : UInt8, Try.prog.keyLits (m + 1) 5 [bc c] = some [litB c] := by
    intro c
    have hb : c.toNat < 256 := c.toNat_lt
    have e1 : (Lit.int .u8 (c.toNat : Int)).wf = true := by
      simp only [Lit.wf, Bool.and_eq_true, decide_eq_true_eq]
      exact ⟨by show (0 : Int) ≤ _; omega, by show _ ≤ (255 : Int); omega⟩
    simp [Program.keyLits, Try.underlying5, bc, litB, e1]
  have hm : (List.range 32).mapM (fun i => Try.prog.keyLits (m + 1) 5 (((L.map bc).drop (i * 1)).take 1)) = some (L.map fun c => [litB c]) := by
    refine mapM_some_of_get _ _ (by simp [hL]) ?_
    intro i x hx
    have hi : i < 32 := by
      have := (List.getElem?_eq_some_iff.1 hx).1
      simpa using this
    have hxi : x = i := by
      have := (List.getElem?_eq_some_iff.1 hx).2
      simpa using this.symm
    subst hxi
    have hl : x < L.length := by omega
    have hd : ((L.map bc).drop (x * 1)).take 1 = [bc L[x]] := by
      rw [Nat.mul_one, List.drop_eq_getElem_cons (by simpa using hl)]
      simp
    rw [hd, hone]
    simp [hl]
  have hfl : (L.map fun c => [litB c]).flatten = L.map litB := by
    clear hm hL
    induction L with
    | nil => rfl
    | cons c L ih => simp [ih]
  have hlen : (L.map bc).length = Try.prog.cellsOf T := by simp [hL, hc]
  have hcell : (L.map bc).length = 32 := by simp [hL]
  unfold Program.keyLits
  rw [hu]
  split
  · simp_all
  · simp_all
  · simp_all
  · rename_i h1
    injection h1 with h1
    injection h1 with h1 h2
    subst h1
    subst h2
    rw [if_pos hlen, h5, hm, Option.map_some, hfl]
  · simp_all
  · simp_all
def arrB (L : List UInt8) : Value := .agg (L.map bc).toArray
theorem formedB {T : TypeId} (hu : Try.prog.underlying T = some (.array 32 5)) (hc : Try.prog.cellsOf T = 32) (L : List UInt8) (hL : L.length = 32) : (arrB L).formed Try.prog T = true := by
  simp [arrB, Value.formed, hu, hc, hL]
theorem eqlB {T : TypeId} (hu : Try.prog.underlying T = some (.array 32 5)) (hc : Try.prog.cellsOf T = 32) (hk : Try.prog.keyTypeAt 4 T = true) (L M : List UInt8) (hL : L.length = 32) (hM : M.length = 32) (b : Bool) (hb : decide (L = M) = b) (w : World) :
    (binOp .eql T (arrB L) (arrB M)).run Try.prog w = .ok (.bool b) w :=
  run_eql_lits (m := 4) (by decide) hk (formedB hu hc L hL) (formedB hu hc M hM) (lits_bytes (m := 0) hu hc L hL) (lits_bytes (m := 0) hu hc M hM) b (by
    rw [← hb, decide_eq_true_eq]
    exact ⟨fun h => by rw [h], litB_inj⟩) w
theorem neqB {T : TypeId} (hu : Try.prog.underlying T = some (.array 32 5)) (hc : Try.prog.cellsOf T = 32) (hk : Try.prog.keyTypeAt 4 T = true) (L M : List UInt8) (hL : L.length = 32) (hM : M.length = 32) (b : Bool) (hb : decide (L ≠ M) = b) (w : World) :
    (binOp .neq T (arrB L) (arrB M)).run Try.prog w = .ok (.bool b) w :=
  run_neq_lits (m := 4) (by decide) hk (formedB hu hc L hL) (formedB hu hc M hM) (lits_bytes (m := 0) hu hc L hL) (lits_bytes (m := 0) hu hc M hM) b (by
    rw [← hb, decide_eq_true_eq]
    exact ⟨fun h e => h (litB_inj e), fun h e => h (by rw [e])⟩) w
theorem eqlD (L M : List UInt8) (hL : L.length = 32) (hM : M.length = 32) (b : Bool) (hb : decide (L = M) = b) (w : World) : (binOp .eql 27 (arrB L) (arrB M)).run Try.prog w = .ok (.bool b) w :=
  eqlB Try.underlying27 (by kernel_rfl) (by kernel_rfl) L M hL hM b hb w
theorem neqD (L M : List UInt8) (hL : L.length = 32) (hM : M.length = 32) (b : Bool) (hb : decide (L ≠ M) = b) (w : World) : (binOp .neq 27 (arrB L) (arrB M)).run Try.prog w = .ok (.bool b) w :=
  neqB Try.underlying27 (by kernel_rfl) (by kernel_rfl) L M hL hM b hb w
end Go.Proofs.Ytonceioajbimaaa
