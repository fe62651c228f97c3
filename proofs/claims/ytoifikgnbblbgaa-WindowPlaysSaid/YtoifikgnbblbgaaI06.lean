/-
  Packed out of the texts: W1, Y0, Arr32, W3, W4.
-/
import Derived.Test.YtoifikgnbblbgaaI05
import Derived.LaidEqlPtr
import Derived.DataShut
/-
  The program's log.
-/
set_option maxRecDepth 100000
set_option linter.unusedSimpArgs false
set_option linter.unusedVariables false
namespace Go.Proofs.Ytoifikgnbblbgaa.A
open Go.RowKit Go.Maps Go.Sort Go.Shelf

abbrev ptrV (p : Nat) : Value := .pointer (some ⟨p, 0, none⟩)
theorem optSome {α : Type} {o : Option α} (h : o.isSome = true) : ∃ v, o = some v := Option.isSome_iff_exists.1 h
theorem optNone {α : Type} {o : Option α} (h : o.isSome = false) : o = none := by simpa using h
/-- Is a number within? -/
def inW (low seq : Int) : Prop := low < seq ∧ seq ≤ low + 8 ∧ seq ≤ 1048576
instance {low seq : Int} : Decidable (inW low seq) := inferInstanceAs (Decidable (_ ∧ _ ∧ _))
def lowOk (low : Int) : Prop := 0 ≤ low ∧ low ≤ 1048576
theorem boo_t {p : Prop} [Decidable p] (h : p) : retA [boo true] = boo (decide p) := congrArg (fun b => Abs.v (Value.bool b)) (decide_eq_true h).symm
theorem boo_f {p : Prop} [Decidable p] (h : ¬ p) : retA [boo false] = boo (decide p) := congrArg (fun b => Abs.v (Value.bool b)) (decide_eq_false h).symm
theorem boo_i {p q : Prop} [Decidable p] [Decidable q] (h : q ↔ p) : retA [boo (decide q)] = boo (decide p) := congrArg (fun b => Abs.v (Value.bool b)) (decide_eq_decide.2 h)
theorem ptr_zero : ∀ w, (zeroValue 28).run Try.prog w = .ok (.pointer none) w := fun w => by
  kernel_rfl
theorem int0_zero : ∀ w, (zeroValue 3).run Try.prog w = .ok (cntV 0) w := fun w => by
  kernel_rfl
theorem mv_keep {m rest z : List (Int × Nat)} {low : Int} {p : Int × Nat} (hz : z = m.filter fun q => decide (low < q.1) || decide (q ∈ rest)) (hp : ¬ p.1 ≤ low) : z = m.filter fun q => decide (low < q.1) || decide (q ∈ rest.filter fun q => decide (q.1 ≠ p.1)) := by
  rw [hz]
  apply List.filter_congr
  intro q _
  simp only [List.mem_filter, decide_eq_true_eq]
  by_cases h1 : low < q.1
  · simp [h1]
  · have : q.1 ≠ p.1 := by omega
    simp [h1, this]
theorem mv_del {m rest z : List (Int × Nat)} {low : Int} {p : Int × Nat} (hz : z = m.filter fun q => decide (low < q.1) || decide (q ∈ rest)) (hp : p.1 ≤ low) : adel z p.1 = m.filter fun q => decide (low < q.1) || decide (q ∈ rest.filter fun q => decide (q.1 ≠ p.1)) := by
  rw [hz]
  unfold adel
  rw [List.filter_filter]
  apply List.filter_congr
  intro q _
  simp only [List.mem_filter, decide_eq_true_eq]
  by_cases h1 : q.1 = p.1
  · have : ¬ low < q.1 := by omega
    simp [h1, this]
    omega
  · simp [h1]
theorem mv_end {m z : List (Int × Nat)} {low : Int} (hz : z = m.filter fun q => decide (low < q.1) || decide (q ∈ ([] : List (Int × Nat)))) : z = m.filter fun q => decide (low < q.1) := by
  rw [hz]
  apply List.filter_congr
  intro q _
  simp
theorem adel_idem {rest : List (Int × Nat)} {a : Int} : adel (rest.filter fun q => decide (q.1 ≠ a)) a = rest.filter fun q => decide (q.1 ≠ a) := by
  unfold adel
  rw [List.filter_filter]
  simp
section
variable {P : Program} {n : Nat} {W : Wd} {σ : Blks} {l : Slots} {X : List Nat} {x y : Operand} {d : Option Nat} {ty t t' : TypeId} {pos : String} {aft : Array Edge} {g : Option (Nat × Bool)} {p : Option Addr}
theorem Val.eqPP (hx : look l x = some (.v (.pointer p))) (hy : look l y = some (.v (.pointer p))) (h : ∀ w, (binOp .eql t (.pointer p) (.pointer p)).run P w = .ok (.bool true) w) : Val P n W σ l X ⟨d, .binOp .eql t x y t', ty, pos, aft, g⟩ (.v (.bool true)) := fun a w hs _ => ⟨_, rfl, fun w' _ => by
  simp [execOp, hs.plain hx, hs.plain hy, eqGuard, h w', Sem.run_bind, Result.andThen]⟩
end
theorem eqSlot (p : Nat) (w : World) : (binOp .eql 28 (.pointer (some ⟨p, 0, none⟩)) (.pointer (some ⟨p, 0, none⟩))).run Try.prog w = .ok (.bool true) w := by
  obtain ⟨j, hj⟩ := Option.isSome_iff_exists.1 (by kernel_rfl : (Try.prog.info? 66).isSome = true)
  exact run_eql_ptr_same w ⟨p, 0, none⟩ Try.underlying28 hj
section
variable {t b : Nat} {m : List (Int × Nat)} {n low seq : Int}
theorem wnew_s (hn : 1 ≤ n ∧ n ≤ 7) : Spec Try.prog 6 [int n] [] (fun z : Nat × Nat => [.blk z.1 51 [int n, int 0, mapV z.2], .pc (mapPc z.2 intK ptrV intOk [])]) (fun z => ptr z.1) := by
  refine spec_of Try.func6 rfl Try.ntmps6 rfl fun G w => ?_
  refine SC.seq (SC.region ?_)
  refine SL.val (Val.assign rfl) rfl rfl ?_
  refine SL.nil (SE.seq ?_)
  refine SC.seq ?_
  refine SC.seq (SC.region ?_)
  refine SL.val (Val.move rfl) rfl rfl ?_
  refine SL.val (Val.ltI rfl rfl) rfl rfl ?_
  refine SL.val (Val.move rfl) rfl rfl ?_
  refine SL.bothP (t := 5) rfl (by intro hc5; exfalso; omega) ?_
  intro hc5
  refine SL.val (Val.move rfl) rfl rfl ?_
  refine SL.val (Val.gtI rfl rfl) rfl rfl ?_
  refine SL.val (Val.pickF rfl rfl) rfl rfl ?_
  refine SL.nil (SE.seq ?_)
  refine SC.condP rfl (by intro hc8; exfalso; omega) ?_
  intro hc8
  refine SC.skip ?_
  refine SE.seq ?_
  refine SC.seq (SC.region ?_)
  refine SL.val (Val.move rfl) rfl rfl ?_
  refine SL.eff (Eff.makeMap intK ptrV intOk (fun ac w => by simp [execOp, Instr.makeMap, newObj, Sem.run, Sem.run_bind, Result.andThen])) rfl rfl ?_
  rintro _ _ ⟨m10, rfl, rfl⟩
  refine SL.val (Val.buildS tabOk rfl rfl rfl rfl) rfl rfl ?_
  refine SL.eff (Eff.boxA rfl) rfl rfl ?_
  rintro _ _ ⟨b12, rfl, rfl⟩
  refine SL.val (Val.assign rfl) rfl rfl ?_
  refine SL.nil (SE.seq ?_)
  refine SC.ret ?_
  refine SE.fin (rs := [.tmp 2]) rfl (RV.tmp rfl RV.nil) (b12, m10) (by repeat first|exact s0 _|exact s1 _|apply s2|apply s3) (by simp [It.rids]) ?_
  exact rfl
theorem wlow_s  : Spec Try.prog 11 [ptr t] [.rd t 51 [int n, int low, mapV b]] (fun _ : Unit => []) (fun _ => int low) := by
  refine spec_of Try.func11 rfl Try.ntmps11 rfl fun G w => ?_
  refine SC.seq (SC.region ?_)
  refine SL.val (Val.assign rfl) rfl rfl ?_
  refine SL.nil (SE.seq ?_)
  refine SC.seq ?_
  refine SC.seq (SC.region ?_)
  refine SL.val (Val.move rfl) rfl rfl ?_
  refine SL.val (Val.eqP rfl rfl (by kernel_rfl)) rfl rfl ?_
  refine SL.nil (SE.seq ?_)
  refine SC.condF rfl ?_
  refine SC.skip ?_
  refine SE.seq ?_
  refine SC.seq (SC.region ?_)
  refine SL.val (Val.move rfl) rfl rfl ?_
  refine SL.val (Val.nilCheck rfl) rfl rfl ?_
  refine SL.val (Val.fieldAddr tabOk rfl rfl rfl rfl rfl) rfl rfl ?_
  refine SL.val (Val.load1 tabOk rfl rfl (by first|(apply Or.inl;(repeat first|assumption|exact m0|apply m1);done)|(apply Or.inr;(repeat first|assumption|exact m0|apply m1);done)) List.not_mem_nil (by rfl)) rfl rfl ?_
  refine SL.val (Val.assign rfl) rfl rfl ?_
  refine SL.nil (SE.seq ?_)
  refine SC.ret ?_
  refine SE.fin (rs := [.tmp 2]) rfl (RV.tmp rfl RV.nil) (()) (by repeat first|exact s0 _|exact s1 _|apply s2|apply s3) (by simp [It.rids]) ?_
  exact rfl
theorem win_s (hl : lowOk low) : Spec Try.prog 8 [ptr t, int seq] [.rd t 51 [int n, int low, mapV b]] (fun _ : Unit => []) (fun _ => boo (decide (inW low seq))) := by
  unfold lowOk at hl
  refine spec_of Try.func8 rfl Try.ntmps8 rfl fun G w => ?_
  refine SC.seq (SC.region ?_)
  refine SL.val (Val.assign rfl) rfl rfl ?_
  refine SL.nil (SE.seq ?_)
  refine SC.seq (SC.region ?_)
  refine SL.val (Val.move rfl) rfl rfl ?_
  refine SL.val (Val.neP rfl rfl (by kernel_rfl)) rfl rfl ?_
  refine SL.val (Val.move rfl) rfl rfl ?_
  refine SL.val (Val.move rfl) rfl rfl ?_
  refine SL.val (Val.move rfl) rfl rfl ?_
  refine SL.val (Val.nilCheck rfl) rfl rfl ?_
  refine SL.val (Val.fieldAddr tabOk rfl rfl rfl rfl rfl) rfl rfl ?_
  refine SL.val (Val.load1 tabOk rfl rfl (by first|(apply Or.inl;(repeat first|assumption|exact m0|apply m1);done)|(apply Or.inr;(repeat first|assumption|exact m0|apply m1);done)) List.not_mem_nil (by rfl)) rfl rfl ?_
  refine SL.val (Val.gtI rfl rfl) rfl rfl ?_
  refine SL.val (Val.pickT rfl rfl) rfl rfl ?_
  refine SL.val (Val.move rfl) rfl rfl ?_
  refine SL.bothP (t := 15) rfl ?_ ?_
  rotate_left
  · intro hc15
    iterate 8 refine SL.skip rfl rfl ?_
    refine SL.val (Val.pickF rfl rfl) rfl rfl ?_
    refine SL.val (Val.assign rfl) rfl rfl ?_
    refine SL.nil (SE.seq ?_)
    refine SC.ret ?_
    refine SE.fin (rs := [.tmp 4]) rfl (RV.tmp rfl RV.nil) (()) (by repeat first|exact s0 _|exact s1 _|apply s2|apply s3) (by simp [It.rids]) ?_
    first
      | exact boo_i (by unfold inW; omega)
      | exact boo_f (by unfold inW; omega)
  intro hc15
  refine SL.val (Val.move rfl) rfl rfl ?_
  refine SL.val (Val.move rfl) rfl rfl ?_
  refine SL.val (Val.nilCheck rfl) rfl rfl ?_
  refine SL.val (Val.fieldAddr tabOk rfl rfl rfl rfl rfl) rfl rfl ?_
  refine SL.val (Val.load1 tabOk rfl rfl (by first|(apply Or.inl;(repeat first|assumption|exact m0|apply m1);done)|(apply Or.inr;(repeat first|assumption|exact m0|apply m1);done)) List.not_mem_nil (by rfl)) rfl rfl ?_
  first
    | refine SL.val (Val.addI rfl rfl (by simp only [InR, lo, hi]; omega)) rfl rfl ?_
    | refine SL.val (Val.addW rfl rfl) rfl rfl ?_
  refine SL.val (Val.minI rfl rfl) rfl rfl ?_
  refine SL.val (Val.leI rfl rfl) rfl rfl ?_
  refine SL.val (Val.pickT rfl rfl) rfl rfl ?_
  refine SL.val (Val.assign rfl) rfl rfl ?_
  refine SL.nil (SE.seq ?_)
  refine SC.ret ?_
  refine SE.fin (rs := [.tmp 4]) rfl (RV.tmp rfl RV.nil) (()) (by repeat first|exact s0 _|exact s1 _|apply s2|apply s3) (by simp [It.rids]) ?_
  first
    | exact boo_i (by unfold inW; omega)
    | exact boo_f (by unfold inW; omega)
theorem dgnew_s  : Spec Try.prog 25 [] [] (fun _ : Nat => []) (fun z => ptr z) := by
  refine spec_of Try.func25 rfl Try.ntmps25 rfl fun G w => ?_
  refine SC.seq (SC.region ?_)
  refine SL.val (Val.assign rfl) rfl rfl ?_
  refine SL.nil (SE.seq ?_)
  refine SC.seq (SC.region ?_)
  refine SL.eff (Eff.makeMap intK cntV intOk (fun ac w => by simp [execOp, Instr.makeMap, newObj, Sem.run, Sem.run_bind, Result.andThen])) rfl rfl ?_
  rintro _ _ ⟨m1, rfl, rfl⟩
  refine SL.eff (Eff.makeMap intK cntV intOk (fun ac w => by simp [execOp, Instr.makeMap, newObj, Sem.run, Sem.run_bind, Result.andThen])) rfl rfl ?_
  rintro _ _ ⟨m2, rfl, rfl⟩
  refine SL.val (Val.buildS tabOk rfl rfl rfl rfl) rfl rfl ?_
  refine SL.eff (Eff.boxA rfl) rfl rfl ?_
  rintro _ _ ⟨b4, rfl, rfl⟩
  refine SL.val (Val.assign rfl) rfl rfl ?_
  refine SL.nil (SE.seq ?_)
  refine SC.ret ?_
  refine SE.fin (rs := [.tmp 0]) rfl (RV.tmp rfl RV.nil) (b4) (by repeat first|exact s0 _|exact s1 _|apply s2|apply s3) (by simp [It.rids]) ?_
  exact rfl
theorem snew_s (hn : 1 ≤ n ∧ n ≤ 7) : Spec Try.prog 20 [int n] [] (fun _ : Nat => []) (fun z => ptr z) := by
  refine spec_of Try.func20 rfl Try.ntmps20 rfl fun G w => ?_
  refine SC.seq (SC.region ?_)
  refine SL.val (Val.assign rfl) rfl rfl ?_
  refine SL.nil (SE.seq ?_)
  refine SC.seq ?_
  refine SC.seq (SC.region ?_)
  refine SL.val (Val.move rfl) rfl rfl ?_
  refine SL.val (Val.ltI rfl rfl) rfl rfl ?_
  refine SL.val (Val.move rfl) rfl rfl ?_
  refine SL.bothP (t := 5) rfl (by intro hc5; exfalso; omega) ?_
  intro hc5
  refine SL.val (Val.move rfl) rfl rfl ?_
  refine SL.val (Val.gtI rfl rfl) rfl rfl ?_
  refine SL.val (Val.pickF rfl rfl) rfl rfl ?_
  refine SL.nil (SE.seq ?_)
  refine SC.condP rfl (by intro hc8; exfalso; omega) ?_
  intro hc8
  refine SC.skip ?_
  refine SE.seq ?_
  refine SC.seq (SC.region ?_)
  refine SL.val (Val.move rfl) rfl rfl ?_
  refine SL.call (dgnew_s) Casts.refl (by kernel_rfl) rfl rfl rfl ?_
  refine After.pure (by repeat (first | exact Reads.nil | (refine Reads.blk ?_ ?_; focus ((repeat first|assumption|exact m0|apply m1); done)) | (refine Reads.rd ?_ ?_; focus ((repeat first|assumption|exact m0|apply m1); done)) | (refine Reads.pc ?_ ?_; focus ((repeat first|assumption|exact m0|apply m1); done)) | (refine Reads.rdpc ?_ ?_; focus ((repeat first|assumption|exact m0|apply m1); done)))) (fun _ => rfl) ?_
  intro q
  refine SL.call (dgnew_s) Casts.refl (by kernel_rfl) rfl rfl rfl ?_
  refine After.pure (by repeat (first | exact Reads.nil | (refine Reads.blk ?_ ?_; focus ((repeat first|assumption|exact m0|apply m1); done)) | (refine Reads.rd ?_ ?_; focus ((repeat first|assumption|exact m0|apply m1); done)) | (refine Reads.pc ?_ ?_; focus ((repeat first|assumption|exact m0|apply m1); done)) | (refine Reads.rdpc ?_ ?_; focus ((repeat first|assumption|exact m0|apply m1); done)))) (fun _ => rfl) ?_
  intro q
  refine SL.val (Val.buildS tabOk rfl rfl rfl rfl) rfl rfl ?_
  refine SL.eff (Eff.boxA rfl) rfl rfl ?_
  rintro _ _ ⟨b13, rfl, rfl⟩
  refine SL.val (Val.assign rfl) rfl rfl ?_
  refine SL.nil (SE.seq ?_)
  refine SC.ret ?_
  refine SE.fin (rs := [.tmp 2]) rfl (RV.tmp rfl RV.nil) (b13) (by repeat first|exact s0 _|exact s1 _|apply s2|apply s3) (by simp [It.rids]) ?_
  exact rfl
theorem wat_out_s (hl : lowOk low) (hi : ¬ inW low seq) : Spec Try.prog 9 [ptr t, int seq] [.rd t 51 [int n, int low, mapV b], .rdpc (mapPc b intK ptrV intOk m)] (fun _ : Unit => []) (fun _ => .tup [.v (.pointer none), int 14]) := by
  refine spec_of Try.func9 rfl Try.ntmps9 rfl fun G w => ?_
  refine SC.seq (SC.region ?_)
  refine SL.val (Val.assign rfl) rfl rfl ?_
  refine SL.val (Val.assign rfl) rfl rfl ?_
  refine SL.nil (SE.seq ?_)
  refine SC.seq ?_
  refine SC.block ?_
  refine SC.seq (SC.region ?_)
  refine SL.val (Val.move rfl) rfl rfl ?_
  refine SL.val (Val.eqP rfl rfl (by kernel_rfl)) rfl rfl ?_
  refine SL.val (Val.assign rfl) rfl rfl ?_
  refine SL.nil (SE.seq ?_)
  refine SC.condF rfl ?_
  refine SC.seq (SC.region ?_)
  refine SL.val (Val.move rfl) rfl rfl ?_
  refine SL.val (Val.move rfl) rfl rfl ?_
  refine SL.call (win_s (t := t) (n := n) (b := b) (low := low) (seq := seq) hl) Casts.refl (by kernel_rfl) rfl rfl rfl ?_
  refine After.pure (by repeat (first | exact Reads.nil | (refine Reads.blk ?_ ?_; focus ((repeat first|assumption|exact m0|apply m1); done)) | (refine Reads.rd ?_ ?_; focus ((repeat first|assumption|exact m0|apply m1); done)) | (refine Reads.pc ?_ ?_; focus ((repeat first|assumption|exact m0|apply m1); done)) | (refine Reads.rdpc ?_ ?_; focus ((repeat first|assumption|exact m0|apply m1); done)))) (fun _ => rfl) ?_
  intro _
  refine SL.val (Val.notB rfl) rfl rfl ?_
  refine SL.val (Val.assign rfl) rfl rfl ?_
  refine SL.nil (SE.seq ?_)
  refine SC.cond rfl ?_ (by intro hc11; exfalso; exact hi (by simpa using hc11))
  intro hc11
  refine SC.seq (SC.region ?_)
  refine SL.val (Val.assign rfl) rfl rfl ?_
  refine SL.val (Val.assign rfl) rfl rfl ?_
  refine SL.nil (SE.seq ?_)
  refine SC.ret ?_
  refine SE.ret ?_
  refine SE.then_ (by intro h; cases h) ?_
  refine SE.fin (rs := [.tmp 4, .tmp 5]) rfl (RV.tmp rfl (RV.tmp rfl RV.nil)) (()) (by repeat first|exact s0 _|exact s1 _|apply s2|apply s3) (by simp [It.rids]) ?_
  exact rfl
theorem wat_old_s {p : Nat} (hl : lowOk low) (hi : inW low seq) (hs : intOk seq) (hv : aget m seq = some p) : Spec Try.prog 9 [ptr t, int seq] [.rd t 51 [int n, int low, mapV b], .rdpc (mapPc b intK ptrV intOk m)] (fun _ : Unit => []) (fun _ => .tup [ptr p, int 0]) := by
  refine spec_of Try.func9 rfl Try.ntmps9 rfl fun G w => ?_
  refine SC.seq (SC.region ?_)
  refine SL.val (Val.assign rfl) rfl rfl ?_
  refine SL.val (Val.assign rfl) rfl rfl ?_
  refine SL.nil (SE.seq ?_)
  refine SC.seq ?_
  refine SC.block ?_
  refine SC.seq (SC.region ?_)
  refine SL.val (Val.move rfl) rfl rfl ?_
  refine SL.val (Val.eqP rfl rfl (by kernel_rfl)) rfl rfl ?_
  refine SL.val (Val.assign rfl) rfl rfl ?_
  refine SL.nil (SE.seq ?_)
  refine SC.condF rfl ?_
  refine SC.seq (SC.region ?_)
  refine SL.val (Val.move rfl) rfl rfl ?_
  refine SL.val (Val.move rfl) rfl rfl ?_
  refine SL.call (win_s (t := t) (n := n) (b := b) (low := low) (seq := seq) hl) Casts.refl (by kernel_rfl) rfl rfl rfl ?_
  refine After.pure (by repeat (first | exact Reads.nil | (refine Reads.blk ?_ ?_; focus ((repeat first|assumption|exact m0|apply m1); done)) | (refine Reads.rd ?_ ?_; focus ((repeat first|assumption|exact m0|apply m1); done)) | (refine Reads.pc ?_ ?_; focus ((repeat first|assumption|exact m0|apply m1); done)) | (refine Reads.rdpc ?_ ?_; focus ((repeat first|assumption|exact m0|apply m1); done)))) (fun _ => rfl) ?_
  intro _
  refine SL.val (Val.notB rfl) rfl rfl ?_
  refine SL.val (Val.assign rfl) rfl rfl ?_
  refine SL.nil (SE.seq ?_)
  refine SC.cond rfl (by intro hc11; exfalso; have := decide_eq_true hi; simp_all) ?_
  intro hc11
  refine SC.skip ?_
  refine SE.inBlock ?_
  refine SE.seq ?_
  refine SC.seq (SC.region ?_)
  refine SL.val (Val.move rfl) rfl rfl ?_
  refine SL.val (Val.nilCheck rfl) rfl rfl ?_
  refine SL.val (Val.fieldAddr tabOk rfl rfl rfl rfl rfl) rfl rfl ?_
  refine SL.val (Val.load1 tabOk rfl rfl (by first|(apply Or.inl;(repeat first|assumption|exact m0|apply m1);done)|(apply Or.inr;(repeat first|assumption|exact m0|apply m1);done)) List.not_mem_nil (by rfl)) rfl rfl ?_
  refine SL.val (Val.move rfl) rfl rfl ?_
  refine SL.val (Val.to (C := .tup [ptr p, boo true]) (Val.mapGetOk (a := seq) (zv := .pointer none) (C := ptr p) (int_fit Try.underlying2) Try.underlying49 ptr_zero rfl (by first|(apply Or.inl;(repeat first|assumption|exact m0|apply m1);done)|(apply Or.inr;(repeat first|assumption|exact m0|apply m1);done)) List.not_mem_nil rfl is_v hs (by rw [hv]; exact is_v)) (by rw [hv]; rfl)) rfl rfl ?_
  refine SL.val (Val.move rfl) rfl rfl ?_
  refine SL.val (Val.extract rfl rfl) rfl rfl ?_
  refine SL.val (Val.extract rfl rfl) rfl rfl ?_
  refine SL.val (Val.assign rfl) rfl rfl ?_
  refine SL.val (Val.assign rfl) rfl rfl ?_
  refine SL.nil (SE.seq ?_)
  refine SC.seq ?_
  refine SC.seq (SC.region ?_)
  refine SL.val (Val.move rfl) rfl rfl ?_
  refine SL.val (Val.notT rfl) rfl rfl ?_
  refine SL.nil (SE.seq ?_)
  refine SC.condF rfl ?_
  refine SC.skip ?_
  refine SE.seq ?_
  refine SC.seq (SC.region ?_)
  refine SL.val (Val.move rfl) rfl rfl ?_
  refine SL.val (Val.assign rfl) rfl rfl ?_
  refine SL.val (Val.assign rfl) rfl rfl ?_
  refine SL.nil (SE.seq ?_)
  refine SC.ret ?_
  refine SE.fin (rs := [.tmp 4, .tmp 5]) rfl (RV.tmp rfl (RV.tmp rfl RV.nil)) (()) (by repeat first|exact s0 _|exact s1 _|apply s2|apply s3) (by simp [It.rids]) ?_
  exact rfl
theorem wat_new_s (hl : lowOk low) (hi : inW low seq) (hs : intOk seq) (hn : 1 ≤ n ∧ n ≤ 7) (hv : aget m seq = none) : Spec Try.prog 9 [ptr t, int seq] [.blk t 51 [int n, int low, mapV b], .pc (mapPc b intK ptrV intOk m)] (fun p : Nat => [.blk t 51 [int n, int low, mapV b], .pc (mapPc b intK ptrV intOk (aput m seq p))]) (fun p => .tup [ptr p, int 0]) := by
  refine spec_of Try.func9 rfl Try.ntmps9 rfl fun G w => ?_
  refine SC.seq (SC.region ?_)
  refine SL.val (Val.assign rfl) rfl rfl ?_
  refine SL.val (Val.assign rfl) rfl rfl ?_
  refine SL.nil (SE.seq ?_)
  refine SC.seq ?_
  refine SC.block ?_
  refine SC.seq (SC.region ?_)
  refine SL.val (Val.move rfl) rfl rfl ?_
  refine SL.val (Val.eqP rfl rfl (by kernel_rfl)) rfl rfl ?_
  refine SL.val (Val.assign rfl) rfl rfl ?_
  refine SL.nil (SE.seq ?_)
  refine SC.condF rfl ?_
  refine SC.seq (SC.region ?_)
  refine SL.val (Val.move rfl) rfl rfl ?_
  refine SL.val (Val.move rfl) rfl rfl ?_
  refine SL.call (win_s (t := t) (n := n) (b := b) (low := low) (seq := seq) hl) Casts.refl (by kernel_rfl) rfl rfl rfl ?_
  refine After.pure (by repeat (first | exact Reads.nil | (refine Reads.blk ?_ ?_; focus ((repeat first|assumption|exact m0|apply m1); done)) | (refine Reads.rd ?_ ?_; focus ((repeat first|assumption|exact m0|apply m1); done)) | (refine Reads.pc ?_ ?_; focus ((repeat first|assumption|exact m0|apply m1); done)) | (refine Reads.rdpc ?_ ?_; focus ((repeat first|assumption|exact m0|apply m1); done)))) (fun _ => rfl) ?_
  intro _
  refine SL.val (Val.notB rfl) rfl rfl ?_
  refine SL.val (Val.assign rfl) rfl rfl ?_
  refine SL.nil (SE.seq ?_)
  refine SC.cond rfl (by intro hc11; exfalso; have := decide_eq_true hi; simp_all) ?_
  intro hc11
  refine SC.skip ?_
  refine SE.inBlock ?_
  refine SE.seq ?_
  refine SC.seq (SC.region ?_)
  refine SL.val (Val.move rfl) rfl rfl ?_
  refine SL.val (Val.nilCheck rfl) rfl rfl ?_
  refine SL.val (Val.fieldAddr tabOk rfl rfl rfl rfl rfl) rfl rfl ?_
  refine SL.val (Val.load1 tabOk rfl rfl (by first|(apply Or.inl;(repeat first|assumption|exact m0|apply m1);done)|(apply Or.inr;(repeat first|assumption|exact m0|apply m1);done)) List.not_mem_nil (by rfl)) rfl rfl ?_
  refine SL.val (Val.move rfl) rfl rfl ?_
  refine SL.val (Val.to (C := .tup [.v (.pointer none), boo false]) (Val.mapGetOk (a := seq) (zv := .pointer none) (C := .v (.pointer none)) (int_fit Try.underlying2) Try.underlying49 ptr_zero rfl (by first|(apply Or.inl;(repeat first|assumption|exact m0|apply m1);done)|(apply Or.inr;(repeat first|assumption|exact m0|apply m1);done)) List.not_mem_nil rfl is_v hs (by rw [hv]; exact is_v)) (by rw [hv]; rfl)) rfl rfl ?_
  refine SL.val (Val.move rfl) rfl rfl ?_
  refine SL.val (Val.extract rfl rfl) rfl rfl ?_
  refine SL.val (Val.extract rfl rfl) rfl rfl ?_
  refine SL.val (Val.assign rfl) rfl rfl ?_
  refine SL.val (Val.assign rfl) rfl rfl ?_
  refine SL.nil (SE.seq ?_)
  refine SC.seq ?_
  refine SC.seq (SC.region ?_)
  refine SL.val (Val.move rfl) rfl rfl ?_
  refine SL.val (Val.notF rfl) rfl rfl ?_
  refine SL.nil (SE.seq ?_)
  refine SC.condT rfl ?_
  refine SC.seq (SC.region ?_)
  refine SL.val (Val.move rfl) rfl rfl ?_
  refine SL.val (Val.nilCheck rfl) rfl rfl ?_
  refine SL.val (Val.fieldAddr tabOk rfl rfl rfl rfl rfl) rfl rfl ?_
  refine SL.val (Val.load1 tabOk rfl rfl (by first|(apply Or.inl;(repeat first|assumption|exact m0|apply m1);done)|(apply Or.inr;(repeat first|assumption|exact m0|apply m1);done)) List.not_mem_nil (by rfl)) rfl rfl ?_
  refine SL.call (snew_s (n := n) hn) Casts.refl (by kernel_rfl) rfl rfl rfl ?_
  refine After.pure (by repeat (first | exact Reads.nil | (refine Reads.blk ?_ ?_; focus ((repeat first|assumption|exact m0|apply m1); done)) | (refine Reads.rd ?_ ?_; focus ((repeat first|assumption|exact m0|apply m1); done)) | (refine Reads.pc ?_ ?_; focus ((repeat first|assumption|exact m0|apply m1); done)) | (refine Reads.rdpc ?_ ?_; focus ((repeat first|assumption|exact m0|apply m1); done)))) (fun _ => rfl) ?_
  intro q
  refine SL.val (Val.assign rfl) rfl rfl ?_
  refine SL.nil (SE.seq ?_)
  refine SC.region ?_
  refine SL.val (Val.move rfl) rfl rfl ?_
  refine SL.val (Val.nilCheck rfl) rfl rfl ?_
  refine SL.val (Val.fieldAddr tabOk rfl rfl rfl rfl rfl) rfl rfl ?_
  refine SL.val (Val.load1 tabOk rfl rfl (by first|(apply Or.inl;(repeat first|assumption|exact m0|apply m1);done)|(apply Or.inr;(repeat first|assumption|exact m0|apply m1);done)) List.not_mem_nil (by rfl)) rfl rfl ?_
  refine SL.val (Val.move rfl) rfl rfl ?_
  refine SL.val (Val.move rfl) rfl rfl ?_
  refine SL.eff (Eff.mapPut (a := seq) (v := q) (m' := aput m seq q) (int_fit Try.underlying2) Try.underlying49 rfl (by repeat first|assumption|exact Upd.here|apply Upd.there) rfl is_v hs rfl is_v rfl) rfl rfl ?_
  rintro _ _ ⟨rfl, rfl⟩
  refine SL.nil (SE.seq ?_)
  refine SC.seq (SC.region ?_)
  refine SL.val (Val.move rfl) rfl rfl ?_
  refine SL.val (Val.assign rfl) rfl rfl ?_
  refine SL.val (Val.assign rfl) rfl rfl ?_
  refine SL.nil (SE.seq ?_)
  refine SC.ret ?_
  refine SE.fin (rs := [.tmp 4, .tmp 5]) rfl (RV.tmp rfl (RV.tmp rfl RV.nil)) (q) (by repeat first|exact s0 _|exact s1 _|apply s2|apply s3) (by simp [It.rids]) ?_
  exact rfl
theorem wmove_no_s (hi : seq < low ∨ 1048576 < seq) : Spec Try.prog 7 [ptr t, int seq] [.rd t 51 [int n, int low, mapV b], .rdpc (mapPc b intK ptrV intOk m)] (fun _ : Unit => []) (fun _ => int 14) := by
  refine spec_of Try.func7 rfl Try.ntmps7 rfl fun G w => ?_
  refine SC.seq (SC.region ?_)
  refine SL.val (Val.assign rfl) rfl rfl ?_
  refine SL.nil (SE.seq ?_)
  refine SC.seq ?_
  refine SC.block ?_
  refine SC.seq (SC.region ?_)
  refine SL.val (Val.move rfl) rfl rfl ?_
  refine SL.val (Val.eqP rfl rfl (by kernel_rfl)) rfl rfl ?_
  refine SL.val (Val.assign rfl) rfl rfl ?_
  refine SL.nil (SE.seq ?_)
  refine SC.condF rfl ?_
  refine SC.seq (SC.region ?_)
  refine SL.val (Val.move rfl) rfl rfl ?_
  refine SL.val (Val.move rfl) rfl rfl ?_
  refine SL.val (Val.nilCheck rfl) rfl rfl ?_
  refine SL.val (Val.fieldAddr tabOk rfl rfl rfl rfl rfl) rfl rfl ?_
  refine SL.val (Val.load1 tabOk rfl rfl (by first|(apply Or.inl;(repeat first|assumption|exact m0|apply m1);done)|(apply Or.inr;(repeat first|assumption|exact m0|apply m1);done)) List.not_mem_nil (by rfl)) rfl rfl ?_
  refine SL.val (Val.ltI rfl rfl) rfl rfl ?_
  refine SL.val (Val.move rfl) rfl rfl ?_
  refine SL.bothP (t := 16) rfl ?_ ?_
  · intro hc16
    iterate 2 refine SL.skip rfl rfl ?_
    refine SL.val (Val.pickT rfl rfl) rfl rfl ?_
    refine SL.val (Val.assign rfl) rfl rfl ?_
    refine SL.nil (SE.seq ?_)
    refine SC.condT rfl ?_
    refine SC.seq (SC.region ?_)
    refine SL.val (Val.assign rfl) rfl rfl ?_
    refine SL.nil (SE.seq ?_)
    refine SC.ret ?_
    refine SE.ret ?_
    refine SE.then_ (by intro h; cases h) ?_
    refine SE.fin (rs := [.tmp 4]) rfl (RV.tmp rfl RV.nil) (()) (by repeat first|exact s0 _|exact s1 _|apply s2|apply s3) (by simp [It.rids]) ?_
    exact rfl
  intro hc16
  refine SL.val (Val.move rfl) rfl rfl ?_
  refine SL.val (Val.gtI rfl rfl) rfl rfl ?_
  refine SL.val (Val.pickF rfl rfl) rfl rfl ?_
  refine SL.val (Val.assign rfl) rfl rfl ?_
  refine SL.nil (SE.seq ?_)
  refine SC.condP rfl ?_ (by intro hc9; exfalso; omega)
  intro hc9
  refine SC.seq (SC.region ?_)
  refine SL.val (Val.assign rfl) rfl rfl ?_
  refine SL.nil (SE.seq ?_)
  refine SC.ret ?_
  refine SE.ret ?_
  refine SE.then_ (by intro h; cases h) ?_
  refine SE.fin (rs := [.tmp 4]) rfl (RV.tmp rfl RV.nil) (()) (by repeat first|exact s0 _|exact s1 _|apply s2|apply s3) (by simp [It.rids]) ?_
  exact rfl
set_option maxHeartbeats 1000000 in
theorem wmove_s (hi : low ≤ seq ∧ seq ≤ 1048576) (hmok : ∀ p ∈ m, intOk p.1) : Spec Try.prog 7 [ptr t, int seq] [.blk t 51 [int n, int low, mapV b], .pc (mapPc b intK ptrV intOk m)] (fun _ : Unit => [.blk t 51 [int n, int seq, mapV b], .pc (mapPc b intK ptrV intOk (m.filter fun q => decide (seq < q.1)))]) (fun _ => int 0) := by
  refine spec_of Try.func7 rfl Try.ntmps7 rfl fun G w => ?_
  refine SC.seq (SC.region ?_)
  refine SL.val (Val.assign rfl) rfl rfl ?_
  refine SL.nil (SE.seq ?_)
  refine SC.seq ?_
  refine SC.block ?_
  refine SC.seq (SC.region ?_)
  refine SL.val (Val.move rfl) rfl rfl ?_
  refine SL.val (Val.eqP rfl rfl (by kernel_rfl)) rfl rfl ?_
  refine SL.val (Val.assign rfl) rfl rfl ?_
  refine SL.nil (SE.seq ?_)
  refine SC.condF rfl ?_
  refine SC.seq (SC.region ?_)
  refine SL.val (Val.move rfl) rfl rfl ?_
  refine SL.val (Val.move rfl) rfl rfl ?_
  refine SL.val (Val.nilCheck rfl) rfl rfl ?_
  refine SL.val (Val.fieldAddr tabOk rfl rfl rfl rfl rfl) rfl rfl ?_
  refine SL.val (Val.load1 tabOk rfl rfl (by first|(apply Or.inl;(repeat first|assumption|exact m0|apply m1);done)|(apply Or.inr;(repeat first|assumption|exact m0|apply m1);done)) List.not_mem_nil (by rfl)) rfl rfl ?_
  refine SL.val (Val.ltI rfl rfl) rfl rfl ?_
  refine SL.val (Val.move rfl) rfl rfl ?_
  refine SL.bothP (t := 16) rfl (by intro hc16; exfalso; omega) ?_
  intro hc16
  refine SL.val (Val.move rfl) rfl rfl ?_
  refine SL.val (Val.gtI rfl rfl) rfl rfl ?_
  refine SL.val (Val.pickF rfl rfl) rfl rfl ?_
  refine SL.val (Val.assign rfl) rfl rfl ?_
  refine SL.nil (SE.seq ?_)
  refine SC.condP rfl (by intro hc9; exfalso; omega) ?_
  intro hc9
  refine SC.skip ?_
  refine SE.inBlock ?_
  refine SE.seq ?_
  refine SC.seq (SC.region ?_)
  refine SL.val (Val.move rfl) rfl rfl ?_
  refine SL.val (Val.move rfl) rfl rfl ?_
  refine SL.val (Val.nilCheck rfl) rfl rfl ?_
  refine SL.val (Val.fieldAddr tabOk rfl rfl rfl rfl rfl) rfl rfl ?_
  refine SL.eff (Eff.store tabOk rfl rfl rfl (by repeat first|assumption|exact Upd.here|apply Upd.there) (by rfl) (Nat.le_of_ble_eq_true (by rfl)) (by rfl) (by rfl)) rfl rfl ?_
  rintro _ _ ⟨rfl, rfl⟩
  refine SL.nil (SE.seq ?_)
  refine SC.seq ?_
  refine SC.seq (SC.region ?_)
  refine SL.val (Val.move rfl) rfl rfl ?_
  refine SL.val (Val.nilCheck rfl) rfl rfl ?_
  refine SL.val (Val.fieldAddr tabOk rfl rfl rfl rfl rfl) rfl rfl ?_
  refine SL.val (Val.load1 tabOk rfl rfl (by first|(apply Or.inl;(repeat first|assumption|exact m0|apply m1);done)|(apply Or.inr;(repeat first|assumption|exact m0|apply m1);done)) List.not_mem_nil (by rfl)) rfl rfl ?_
  refine SL.eff (Eff.rangeMap (K := intK) (V := ptrV) (Good := intOk) (m := m) Try.underlying49 rfl (fun _ => (by repeat first|assumption|exact Upd.here|apply Upd.there))) rfl rfl ?_
  rintro _ _ ⟨r28, rfl, rfl⟩
  refine SL.nil (SE.seq ?_)
  refine SC.block ?_
  refine SC.loop (ι := List (Int × Nat) × List (Int × Nat) × Option (Int × Nat)) (fun z => [.blk t 51 [int n, int seq, mapV b], .pc (rngPc b r28 intK ptrV intOk z.1 z.2.1 z.2.2)]) (fun z => [(0, ptr t), (1, int seq), (28, ptr r28)]) (fun z => z.1 = (m.filter fun q => decide (seq < q.1) || decide (q ∈ z.2.1)) ∧ ∀ p ∈ z.2.1, p ∈ m) (fun z => z.2.1.length) (m, m, none) (⟨(List.filter_eq_self.2 fun q hq => by simp [hq]).symm, fun p hp => hp⟩) (by exact ⟨rfl, rfl, rfl, trivial⟩) (by repeat first|exact s0 _|exact s1 _|apply s2|apply s3) ?_
  intro z hz
  refine SC.seq (SC.region ?_)
  refine SL.eff (Eff.nextMap (K := intK) (V := ptrV) (Good := intOk) (m := z.1) (rest := z.2.1) (cur := z.2.2) rfl (fun _ _ => (by repeat first|assumption|exact Upd.here|apply Upd.there))) rfl rfl ?_
  rintro _ _ ⟨o, rest', ho, hpo, rfl, rfl⟩
  refine SL.val (Val.extract rfl rfl) rfl rfl ?_
  refine SL.nil (SE.seq ?_)
  refine SC.seq ?_
  refine SC.cond rfl ?_ ?_
  rotate_left
  · intro hc30
    have ho2 := optNone hc30
    subst ho2
    have hr0 := ho rfl
    refine SC.exit ?_
    refine SE.then_ (by intro h; cases h) ?_
    refine SE.then_ (by intro h; cases h) ?_
    refine SE.exit ?_
    refine SE.seq ?_
    refine SC.seq ?_
    refine SC.rngDone (by repeat first|assumption|exact Upd.here|apply Upd.there) ?_
    refine SC.region ?_
    refine SL.val (Val.assign rfl) rfl rfl ?_
    refine SL.nil (SE.seq ?_)
    refine SC.ret ?_
    have he := mv_end (m := m) (z := z.1) (low := seq) (by rw [← hr0]; exact hz.1)
    refine SE.fin (rs := [.tmp 4]) rfl (RV.tmp rfl RV.nil) (()) (by rw [← he]; repeat (first | exact List.nil_sublist _ | exact List.Sublist.refl _ | apply List.Sublist.cons_cons | apply List.Sublist.cons)) (by simp [It.rids]) ?_
    exact rfl
  intro hc30
  obtain ⟨p, rfl⟩ := optSome hc30
  obtain ⟨hpm, hre⟩ := hpo p rfl
  subst hre
  have hls := rest_less hpm
  refine SC.skip ?_
  refine SE.seq ?_
  refine SC.block ?_
  refine SC.seq (SC.region ?_)
  refine SL.val (Val.entryMap rfl (by repeat first|assumption|exact m0|apply m1) ⟨List.not_mem_nil, List.not_mem_nil⟩) rfl rfl ?_
  refine SL.val (Val.to (C := int p.1) (Val.extract rfl rfl) rfl) rfl rfl ?_
  refine SL.val (Val.assign rfl) rfl rfl ?_
  refine SL.nil (SE.seq ?_)
  refine SC.seq (SC.region ?_)
  refine SL.val (Val.move rfl) rfl rfl ?_
  refine SL.val (Val.move rfl) rfl rfl ?_
  refine SL.val (Val.leI rfl rfl) rfl rfl ?_
  refine SL.nil (SE.seq ?_)
  refine SC.condP rfl ?_ ?_
  rotate_left
  · intro hc35
    refine SC.skip ?_
    refine SE.inBlock ?_
    refine SE.round (z.1, (z.2.1.filter fun q => decide (q.1 ≠ p.1)), some p) (by exact hls) (⟨mv_keep hz.1 (by omega), fun q hq => hz.2 q ((List.mem_filter.1 hq).1)⟩) (by exact ⟨rfl, rfl, rfl, trivial⟩) (by repeat first|exact s0 _|exact s1 _|apply s2|apply s3)
  intro hc35
  refine SC.region ?_
  refine SL.val (Val.move rfl) rfl rfl ?_
  refine SL.val (Val.nilCheck rfl) rfl rfl ?_
  refine SL.val (Val.fieldAddr tabOk rfl rfl rfl rfl rfl) rfl rfl ?_
  refine SL.val (Val.load1 tabOk rfl rfl (by first|(apply Or.inl;(repeat first|assumption|exact m0|apply m1);done)|(apply Or.inr;(repeat first|assumption|exact m0|apply m1);done)) List.not_mem_nil (by rfl)) rfl rfl ?_
  refine SL.val (Val.move rfl) rfl rfl ?_
  refine SL.eff (Eff.rngDel (a := p.1) (m' := adel z.1 p.1) (rest' := z.2.1.filter fun q => decide (q.1 ≠ p.1)) (int_fit Try.underlying2) Try.underlying49 rfl (by repeat first|assumption|exact Upd.here|apply Upd.there) rfl is_v (hmok p (hz.2 p hpm)) rfl adel_idem) rfl rfl ?_
  rintro _ _ ⟨rfl, rfl⟩
  refine SL.nil ?_
  refine SE.inBlock ?_
  refine SE.round (adel z.1 p.1, (z.2.1.filter fun q => decide (q.1 ≠ p.1)), none) (by exact hls) (⟨mv_del hz.1 (by omega), fun q hq => hz.2 q ((List.mem_filter.1 hq).1)⟩) (by exact ⟨rfl, rfl, rfl, trivial⟩) (by repeat first|exact s0 _|exact s1 _|apply s2|apply s3)
theorem wseqs_s (hl : m.length ≤ 1000) : Spec Try.prog 12 [ptr t] [.rd t 51 [int n, int low, mapV b], .rdpc (mapPc b intK ptrV intOk m)] (fun v : Value => [own 2 1 v ((srt (m.map (·.1))).map fun x => [int x])]) (fun v => .v v) := by
  refine spec_of Try.func12 rfl Try.ntmps12 rfl fun G w => ?_
  refine SC.seq (SC.region ?_)
  refine SL.val (Val.assign rfl) rfl rfl ?_
  refine SL.nil (SE.seq ?_)
  refine SC.seq ?_
  refine SC.seq (SC.region ?_)
  refine SL.val (Val.move rfl) rfl rfl ?_
  refine SL.val (Val.eqP rfl rfl (by kernel_rfl)) rfl rfl ?_
  refine SL.nil (SE.seq ?_)
  refine SC.condF rfl ?_
  refine SC.skip ?_
  refine SE.seq ?_
  refine SC.seq (SC.region ?_)
  refine SL.val (Val.move rfl) rfl rfl ?_
  refine SL.val (Val.nilCheck rfl) rfl rfl ?_
  refine SL.val (Val.fieldAddr tabOk rfl rfl rfl rfl rfl) rfl rfl ?_
  refine SL.val (Val.load1 tabOk rfl rfl (by first|(apply Or.inl;(repeat first|assumption|exact m0|apply m1);done)|(apply Or.inr;(repeat first|assumption|exact m0|apply m1);done)) List.not_mem_nil (by rfl)) rfl rfl ?_
  refine SL.call (keys_0_s (b := b)) Casts.refl (by kernel_rfl) rfl rfl rfl ?_
  refine After.make (by repeat first|exact .nil|refine .blk (by repeat first|assumption|exact m0|apply m1) ?_|refine .rd (by repeat first|assumption|exact m0|apply m1) ?_|refine .pc (by repeat first|assumption|exact m0|apply m1) ?_|refine .rdpc (by repeat first|assumption|exact m0|apply m1) ?_) (fun _ => rfl) ?_
  intro zk
  refine SL.call (sorted_0_s (V := ptrV) (m := m) (b := b) (z := zk) (by omega)) Casts.refl (by kernel_rfl) rfl rfl rfl ?_
  refine After.make (by repeat (first | exact Reads.nil | (refine Reads.blk ?_ ?_; focus ((repeat first|assumption|exact m0|apply m1); done)) | (refine Reads.rd ?_ ?_; focus ((repeat first|assumption|exact m0|apply m1); done)) | (refine Reads.pc ?_ ?_; focus ((repeat first|assumption|exact m0|apply m1); done)) | (refine Reads.rdpc ?_ ?_; focus ((repeat first|assumption|exact m0|apply m1); done)))) (fun _ => rfl) ?_
  intro r10
  refine SL.val (Val.assign rfl) rfl rfl ?_
  refine SL.nil (SE.seq ?_)
  refine SC.ret ?_
  refine SE.fin (rs := [.tmp 2]) rfl (RV.tmp rfl RV.nil) (r10) (by repeat first|exact s0 _|exact s1 _|apply s2|apply s3) (by simp [It.rids]) ?_
  exact rfl
end
end Go.Proofs.Ytoifikgnbblbgaa.A
/-
  Tallies, plain: who votes for what, and how many do.
-/
set_option maxRecDepth 100000
set_option linter.unusedSimpArgs false
set_option linter.unusedVariables false
namespace Go.Proofs.Ytoifikgnbblbgaa.A
open Go.RowKit

section
variable {α : Type} [DecidableEq α] {m : List (Int × α)} {c : List (α × Nat)} {u v k : α} {w who : Int}
def cget (c : List (α × Nat)) (v : α) : Nat := (aget c v).getD 0
def cnt (m : List (Int × α)) (v : α) : Nat := (m.filter fun p => decide (p.2 = v)).length
/-- One vote less for something. -/
def decO (c : List (α × Nat)) : Option α → List (α × Nat)
  | none => c
  | some v => if cget (aput c v (cget c v - 1)) v = 0 then adel (aput c v (cget c v - 1)) v else aput c v (cget c v - 1)
def chgC (m : List (Int × α)) (c : List (α × Nat)) (who : Int) (k : α) : List (α × Nat) := aput (decO c (aget m who)) k (cget (decO c (aget m who)) k + 1)
structure TInv (m : List (Int × α)) (c : List (α × Nat)) : Prop where
  nd : (m.map (·.1)).Nodup
  num : ∀ v, cget c v = cnt m v
theorem cget_aput (c : List (α × Nat)) (k v : α) (n : Nat) : cget (aput c k n) v = if v = k then n else cget c v := by
  unfold cget
  rw [aget_aput]
  split <;> rfl
theorem cget_adel (c : List (α × Nat)) (k v : α) : cget (adel c k) v = if v = k then 0 else cget c v := by
  unfold cget
  rw [aget_adel]
  split <;> rfl
theorem cget_dec (c : List (α × Nat)) (u v : α) : cget (decO c (some u)) v = if v = u then cget c u - 1 else cget c v := by
  show cget (if cget (aput c u (cget c u - 1)) u = 0 then adel (aput c u (cget c u - 1)) u else aput c u (cget c u - 1)) v = _
  split
  · next h =>
    rw [cget_aput, if_pos rfl] at h
    rw [cget_adel, cget_aput]
    split
    · omega
    · rfl
  · rw [cget_aput]
theorem cnt_cons (p : Int × α) (m : List (Int × α)) (v : α) : cnt (p :: m) v = (if p.2 = v then 1 else 0) + cnt m v := by
  unfold cnt
  rw [List.filter_cons]
  by_cases h : p.2 = v
  · simp [h]; omega
  · simp [h]
theorem cnt_append (m l : List (Int × α)) (v : α) : cnt (m ++ l) v = cnt m v + cnt l v := by simp [cnt]
theorem cnt_le (m : List (Int × α)) (v : α) : cnt m v ≤ m.length := List.length_filter_le _ _
omit [DecidableEq α] in
theorem aget_cons (p : Int × α) (m : List (Int × α)) (w : Int) : aget (p :: m) w = if p.1 = w then some p.2 else aget m w := by
  unfold aget
  rw [List.find?_cons]
  by_cases h : p.1 = w <;> simp [h]
theorem cnt_pos : ∀ {m : List (Int × α)} {w : Int} {v : α}, aget m w = some v → 1 ≤ cnt m v
  | [], w, v, h => by cases h
  | p :: m, w, v, h => by
    rw [aget_cons] at h
    rw [cnt_cons]
    split at h
    · have := Option.some.inj h
      rw [if_pos this]
      omega
    · have := cnt_pos h
      omega
omit [DecidableEq α] in
theorem aput_new (h : aget m w = none) (k : α) : aput m w k = m ++ [(w, k)] := by
  unfold aput
  rw [if_neg (by rw [h]; simp)]
theorem cnt_new (h : aget m w = none) (k v : α) : cnt (aput m w k) v = cnt m v + (if k = v then 1 else 0) := by
  rw [aput_new h, cnt_append]
  congr 1
  rw [cnt_cons]
  simp [cnt]
omit [DecidableEq α] in
theorem map_none : ∀ {m : List (Int × α)} {w : Int} {k : α}, w ∉ m.map (·.1) → (m.map fun p => if p.1 = w then (w, k) else p) = m
  | [], _, _, _ => rfl
  | p :: m, w, k, h => by
    rw [List.map_cons, List.mem_cons, not_or] at h
    rw [List.map_cons, if_neg (fun e => h.1 e.symm), map_none h.2]
theorem cnt_old : ∀ {m : List (Int × α)} {w : Int} {u : α}, (m.map (·.1)).Nodup → aget m w = some u → ∀ k v : α, cnt (m.map fun p => if p.1 = w then (w, k) else p) v + (if u = v then 1 else 0) = cnt m v + (if k = v then 1 else 0)
  | [], w, u, _, h, _, _ => by cases h
  | p :: m, w, u, hn, h, k, v => by
    rw [List.map_cons, List.nodup_cons] at hn
    rw [aget_cons] at h
    rw [List.map_cons, cnt_cons, cnt_cons]
    by_cases hp : p.1 = w
    · rw [if_pos hp] at h
      have := Option.some.inj h
      subst this
      subst hp
      rw [if_pos rfl, map_none hn.1]
      dsimp only
      omega
    · rw [if_neg hp] at h
      have := cnt_old hn.2 h k v
      rw [if_neg hp]
      omega
theorem TInv.nil : TInv ([] : List (Int × α)) [] := ⟨by simp, fun v => rfl⟩
theorem TInv.chg (h : TInv m c) (who : Int) (k : α) : TInv (aput m who k) (chgC m c who k) := by
  refine ⟨aput_nodup h.nd who k, fun v => ?_⟩
  unfold chgC
  rw [cget_aput]
  cases hw : aget m who with
  | none =>
    rw [cnt_new hw]
    show (if v = k then cget c k + 1 else cget c v) = _
    rw [h.num, h.num]
    by_cases hv : v = k
    · subst hv; simp
    · rw [if_neg hv, if_neg (fun e => hv e.symm)]; omega
  | some u =>
    have h1 := cnt_old h.nd hw k v
    have h2 := cnt_pos hw
    have e : aput m who k = m.map fun p => if p.1 = who then (who, k) else p := by
      unfold aput
      rw [if_pos (by rw [hw]; rfl)]
    rw [e, cget_dec, cget_dec, h.num, h.num, h.num]
    by_cases hv : v = k
    · subst hv
      have e1 : (if v = v then 1 else 0) = 1 := if_pos rfl
      rw [e1] at h1
      rw [if_pos rfl]
      by_cases hu : v = u
      · subst hu
        rw [if_pos rfl] at h1 ⊢
        omega
      · have e2 : (if u = v then 1 else 0) = 0 := if_neg fun e => hu e.symm
        rw [e2] at h1
        rw [if_neg hu]
        omega
    · have e1 : (if k = v then 1 else 0) = 0 := if_neg fun e => hv e.symm
      rw [e1] at h1
      rw [if_neg hv]
      by_cases hu : v = u
      · subst hu
        rw [if_pos rfl] at h1 ⊢
        omega
      · have e2 : (if u = v then 1 else 0) = 0 := if_neg fun e => hu e.symm
        rw [e2] at h1
        rw [if_neg hu]
        omega
theorem TInv.le (h : TInv m c) (v : α) : cget c v ≤ m.length := by rw [h.num]; exact cnt_le m v
theorem TInv.pos (h : TInv m c) (hw : aget m who = some v) : 1 ≤ cget c v := by rw [h.num]; exact cnt_pos hw
theorem TInv.dec_le (h : TInv m c) (o : Option α) (v : α) : cget (decO c o) v ≤ m.length := by
  cases o with
  | none => exact h.le v
  | some u =>
    rw [cget_dec]
    have h1 := h.le u
    have h2 := h.le v
    split <;> omega
theorem dec_del (h : cget (aput c v (cget c v - 1)) v = 0) : adel (aput c v (cget c v - 1)) v = decO c (some v) := (if_pos h).symm
theorem dec_keep (h : ¬ cget (aput c v (cget c v - 1)) v = 0) : decO c (some v) = aput c v (cget c v - 1) := if_neg h
theorem cget_is (c : List (α × Nat)) (v : α) : (int ((cget c v : Nat) : Int)).is (((aget c v).map cntV).getD (cntV 0)) := by
  unfold cget
  cases aget c v with
  | none => exact is_v
  | some n => exact is_v
omit [DecidableEq α] in
theorem aput_length_le (m : List (Int × α)) (w : Int) (k : α) : (aput m w k).length ≤ m.length + 1 := by
  rw [aput_length]
  split <;> omega
/-- What enough vote for, the lowest voter first. -/
def leastO (m : List (Int × α)) (c : List (α × Nat)) (at_ : Int) : List Int → Option α
  | [] => none
  | w :: ks => match aget m w with
    | some v => if 1 ≤ at_ ∧ at_ ≤ cget c v then some v else leastO m c at_ ks
    | none => leastO m c at_ ks
theorem leastO_cons (m : List (Int × α)) (c : List (α × Nat)) (at_ : Int) (w : Int) (ks : List Int) : leastO m c at_ (w :: ks) = match aget m w with
    | some v => if 1 ≤ at_ ∧ at_ ≤ cget c v then some v else leastO m c at_ ks
    | none => leastO m c at_ ks := rfl
/-- The rest of a row, of which none was enough so far. -/
theorem leastO_drop {m : List (Int × α)} {c : List (α × Nat)} {at_ : Int} : ∀ {ks : List Int} {z : Nat}, (∀ j (h : j < ks.length), j < z → ∀ v, aget m ks[j] = some v → ¬ (1 ≤ at_ ∧ at_ ≤ cget c v)) → leastO m c at_ ks = leastO m c at_ (ks.drop z)
  | ks, 0, _ => rfl
  | [], z + 1, _ => rfl
  | w :: ks, z + 1, h => by
    have h0 := h 0 (by simp) (by omega)
    simp only [List.getElem_cons_zero] at h0
    have h1 := leastO_drop (ks := ks) (z := z) fun j hj hz v hv => h (j + 1) (by simpa using hj) (by omega) v hv
    rw [List.drop_succ_cons, ← h1]
    rw [leastO_cons]
    cases hw : aget m w with
    | none => rfl
    | some v => exact if_neg (h0 v hw)
end
end Go.Proofs.Ytoifikgnbblbgaa.A
/-
  Arrays of 32 bytes: are two the same?
-/
set_option maxRecDepth 100000
namespace Go.Proofs.Ytoifikgnbblbgaa
open Go.RowKit

def litB (c : UInt8) : Lit := .int .u8 (c.toNat : Int)
theorem litB_inj {L M : List UInt8} (h : L.map litB = M.map litB) : L = M := by
  have hi : ∀ a b : UInt8, litB a = litB b → a = b := by
    intro a b hab
    unfold litB at hab
    injection hab with _ hab
    exact UInt8.toNat.inj (by omega)
  induction L generalizing M with
  | nil => cases M with
    | nil => rfl
    | cons _ _ => simp at h
  | cons a L ih => cases M with
    | nil => simp at h
    | cons b M =>
      simp only [List.map_cons, List.cons.injEq] at h
      rw [hi _ _ h.1, ih h.2]
theorem lits_bytes {m : Nat} {T : TypeId} (hu : Try.prog.underlying T = some (.array 32 5)) (hc : Try.prog.cellsOf T = 32) (L : List UInt8) (hL : L.length = 32) :
    Try.prog.keyLits (m + 2) T (L.map bc) = some (L.map litB) := by
  have h5 : Try.prog.cellsOf 5 = 1 := by kernel_rfl
  have hone : ∀ c : UInt8, Try.prog.keyLits (m + 1) 5 [bc c] = some [litB c] := by
    intro c
    have hb : c.toNat < 256 := c.toNat_lt
    have e1 : (Lit.int .u8 (c.toNat : Int)).wf = true := by
      simp only [Lit.wf, Bool.and_eq_true, decide_eq_true_eq]
      exact ⟨by show (0 : Int) ≤ _; omega, by show _ ≤ (255 : Int); omega⟩
    simp [Program.keyLits, Try.underlying5, bc, litB, e1]
  have hm : (List.range 32).mapM (fun i => Try.prog.keyLits (m + 1) 5 (((L.map bc).drop (i * 1)).take 1)) = some (L.map fun c => [litB c]) := by
    refine mapM_some_of_get _ _ (by simp [hL]) ?_
    intro i x hx
    have hi : i < 32 := by
      have := (List.getElem?_eq_some_iff.1 hx).1
      simpa using this
    have hxi : x = i := by
      have := (List.getElem?_eq_some_iff.1 hx).2
      simpa using this.symm
    subst hxi
    have hl : x < L.length := by omega
    have hd : ((L.map bc).drop (x * 1)).take 1 = [bc L[x]] := by
      rw [Nat.mul_one, List.drop_eq_getElem_cons (by simpa using hl)]
      simp
    rw [hd, hone]
    simp [hl]
  have hfl : (L.map fun c => [litB c]).flatten = L.map litB := by
    clear hm hL
    induction L with
    | nil => rfl
    | cons c L ih => simp [ih]
  have hlen : (L.map bc).length = Try.prog.cellsOf T := by simp [hL, hc]
  have hcell : (L.map bc).length = 32 := by simp [hL]
  unfold Program.keyLits
  rw [hu]
  split
  · simp_all
  · simp_all
  · simp_all
  · rename_i h1
    injection h1 with h1
    injection h1 with h1 h2
    subst h1
    subst h2
    rw [if_pos hlen, h5, hm, Option.map_some, hfl]
  · simp_all
  · simp_all
def arrB (L : List UInt8) : Value := .agg (L.map bc).toArray
theorem formedB {T : TypeId} (hu : Try.prog.underlying T = some (.array 32 5)) (hc : Try.prog.cellsOf T = 32) (L : List UInt8) (hL : L.length = 32) : (arrB L).formed Try.prog T = true := by
  simp [arrB, Value.formed, hu, hc, hL]
theorem eqlB {T : TypeId} (hu : Try.prog.underlying T = some (.array 32 5)) (hc : Try.prog.cellsOf T = 32) (hk : Try.prog.keyTypeAt 4 T = true) (L M : List UInt8) (hL : L.length = 32) (hM : M.length = 32) (b : Bool) (hb : decide (L = M) = b) (w : World) :
    (binOp .eql T (arrB L) (arrB M)).run Try.prog w = .ok (.bool b) w :=
  run_eql_lits (m := 4) (by decide) hk (formedB hu hc L hL) (formedB hu hc M hM) (lits_bytes (m := 0) hu hc L hL) (lits_bytes (m := 0) hu hc M hM) b (by
    rw [← hb, decide_eq_true_eq]
    exact ⟨fun h => by rw [h], litB_inj⟩) w
theorem neqB {T : TypeId} (hu : Try.prog.underlying T = some (.array 32 5)) (hc : Try.prog.cellsOf T = 32) (hk : Try.prog.keyTypeAt 4 T = true) (L M : List UInt8) (hL : L.length = 32) (hM : M.length = 32) (b : Bool) (hb : decide (L ≠ M) = b) (w : World) :
    (binOp .neq T (arrB L) (arrB M)).run Try.prog w = .ok (.bool b) w :=
  run_neq_lits (m := 4) (by decide) hk (formedB hu hc L hL) (formedB hu hc M hM) (lits_bytes (m := 0) hu hc L hL) (lits_bytes (m := 0) hu hc M hM) b (by
    rw [← hb, decide_eq_true_eq]
    exact ⟨fun h e => h (litB_inj e), fun h e => h (by rw [e])⟩) w
theorem eqlD (L M : List UInt8) (hL : L.length = 32) (hM : M.length = 32) (b : Bool) (hb : decide (L = M) = b) (w : World) : (binOp .eql 41 (arrB L) (arrB M)).run Try.prog w = .ok (.bool b) w :=
  eqlB Try.underlying41 (by kernel_rfl) (by kernel_rfl) L M hL hM b hb w
theorem neqD (L M : List UInt8) (hL : L.length = 32) (hM : M.length = 32) (b : Bool) (hb : decide (L ≠ M) = b) (w : World) : (binOp .neq 41 (arrB L) (arrB M)).run Try.prog w = .ok (.bool b) w :=
  neqB Try.underlying41 (by kernel_rfl) (by kernel_rfl) L M hL hM b hb w
end Go.Proofs.Ytoifikgnbblbgaa
/-
  Digests as votes and as keys.
-/
set_option maxRecDepth 100000
set_option linter.unusedSimpArgs false
set_option linter.unusedVariables false
namespace Go.Proofs.Ytoifikgnbblbgaa.A
open Go.RowKit Go.Maps Go.Sort Go.Shelf

theorem After.three {ι : Type} {x1 x2 x3 : It} {β : Blks} {τ' : ι → Blks} {y1 y2 y3 : ι → It} {K : Blks → ι → Prop} (hr : x1.rids = [] ∧ x2.rids = [] ∧ x3.rids = []) (hτ : ∀ z, τ' z = [y1 z, y2 z, y3 z]) (k : ∀ z, K (y1 z :: y2 z :: y3 z :: β) z) : After (x1 :: x2 :: x3 :: β) [x1, x2, x3] τ' K :=
  After.mid [] (β := β) rfl (by intro x hx; simp only [List.mem_cons, List.not_mem_nil, or_false] at hx; rcases hx with rfl | rfl | rfl; exact hr.1; exact hr.2.1; exact hr.2.2) fun z => by rw [hτ z]; exact k z
theorem After.threeN {ι : Type} {x1 x2 x3 : It} {β : Blks} {τ' : ι → Blks} {y0 y1 y2 y3 : ι → It} {K : Blks → ι → Prop} (hr : x1.rids = [] ∧ x2.rids = [] ∧ x3.rids = []) (hτ : ∀ z, τ' z = [y0 z, y1 z, y2 z, y3 z]) (k : ∀ z, K (y0 z :: y1 z :: y2 z :: y3 z :: β) z) : After (x1 :: x2 :: x3 :: β) [x1, x2, x3] τ' K :=
  After.mid [] (β := β) rfl (by intro x hx; simp only [List.mem_cons, List.not_mem_nil, or_false] at hx; rcases hx with rfl | rfl | rfl; exact hr.1; exact hr.2.1; exact hr.2.2) fun z => by rw [hτ z]; exact k z
section
variable {α : Type} [DecidableEq α] {m : List (Int × α)} {c : List (α × Nat)} {v k : α} {who : Int}
def tAddM (m : List (Int × α)) (who : Int) (k : α) : List (Int × α) := if (aget m who).isSome then m else aput m who k
def tAddC (m : List (Int × α)) (c : List (α × Nat)) (who : Int) (k : α) : List (α × Nat) := if (aget m who).isSome then c else chgC m c who k
def tAddB (m : List (Int × α)) (who : Int) (k : α) : Bool := match aget m who with | some v => decide (v = k) | none => true
omit [DecidableEq α] in
theorem tAddM_old (h : aget m who = some v) : tAddM m who k = m := if_pos (by rw [h]; rfl)
omit [DecidableEq α] in
theorem tAddM_new (h : aget m who = none) : tAddM m who k = aput m who k := if_neg (by rw [h]; simp)
theorem tAddC_old (h : aget m who = some v) : tAddC m c who k = c := if_pos (by rw [h]; rfl)
theorem tAddC_new (h : aget m who = none) : tAddC m c who k = chgC m c who k := if_neg (by rw [h]; simp)
theorem tAddB_old (h : aget m who = some v) : tAddB m who k = decide (v = k) := by unfold tAddB; rw [h]
theorem tAddB_new (h : aget m who = none) : tAddB m who k = true := by unfold tAddB; rw [h]
end
theorem getD_is {α : Type} {enc : α → Abs} {V : α → Value} {z : Abs} {zv : Value} (h : ∀ a, (enc a).is (V a)) (hz : z.is zv) (o : Option α) : ((o.map enc).getD z).is ((o.map V).getD zv) := by
  cases o with
  | none => exact hz
  | some a => exact h a
theorem isSome_some {α : Type} {o : Option α} (h : o.isSome = true) : ∃ v, o = some v := Option.isSome_iff_exists.1 h
theorem isSome_none {α : Type} {o : Option α} (h : o.isSome = false) : o = none := by simpa using h
theorem After.three3 {ι : Type} {a b x1 x2 x3 : It} {β : Blks} {τ' : ι → Blks} {y1 y2 y3 : ι → It} {K : Blks → ι → Prop} (hr : x1.rids = [] ∧ x2.rids = [] ∧ x3.rids = []) (hτ : ∀ z, τ' z = [y1 z, y2 z, y3 z]) (k : ∀ z, K (a :: b :: y1 z :: y2 z :: y3 z :: β) z) : After (a :: b :: x1 :: x2 :: x3 :: β) [x1, x2, x3] τ' K :=
  After.mid [a, b] (β := β) rfl (by intro x hx; simp only [List.mem_cons, List.not_mem_nil, or_false] at hx; rcases hx with rfl | rfl | rfl; exact hr.1; exact hr.2.1; exact hr.2.2) fun z => by rw [hτ z]; exact k z
theorem After.threeN1 {ι : Type} {a x1 x2 x3 : It} {β : Blks} {τ' : ι → Blks} {y0 y1 y2 y3 : ι → It} {K : Blks → ι → Prop} (hr : x1.rids = [] ∧ x2.rids = [] ∧ x3.rids = []) (hτ : ∀ z, τ' z = [y0 z, y1 z, y2 z, y3 z]) (k : ∀ z, K (a :: y0 z :: y1 z :: y2 z :: y3 z :: β) z) : After (a :: x1 :: x2 :: x3 :: β) [x1, x2, x3] τ' K :=
  After.mid [a] (β := β) rfl (by intro x hx; simp only [List.mem_cons, List.not_mem_nil, or_false] at hx; rcases hx with rfl | rfl | rfl; exact hr.1; exact hr.2.1; exact hr.2.2) fun z => by rw [hτ z]; exact k z
section
variable {α : Type} [DecidableEq α] {m : List (Int × α)} {c : List (α × Nat)} {who : Int} {k v : α}
theorem chgC_new (hv : aget m who = none) : chgC m c who k = aput c k (cget c k + 1) := by
  unfold chgC
  rw [hv]
  rfl
theorem chgC_old (hv : aget m who = some v) : chgC m c who k = aput (decO c (some v)) k (cget (decO c (some v)) k + 1) := by
  unfold chgC
  rw [hv]
theorem cget_ent_is (c : List (α × Nat)) (v : α) : (int ((cget c v : Nat) : Int)).is (((aget (aent c v 0) v).map cntV).getD (cntV 0)) := by
  have h := cget_is (aent c v 0) v
  have e : cget (aent c v 0) v = cget c v := by
    unfold aent
    split
    · rfl
    · next hn =>
      rw [cget_aput, if_pos rfl]
      have : aget c v = none := by simpa using hn
      unfold cget
      rw [this]
      rfl
  rw [e] at h
  exact h
end
section
variable {P : Program} {n : Nat} {W : Wd} {σ : Blks} {l : Slots} {X : List Nat} {x y : Operand} {d : Option Nat} {ty t k e : TypeId} {pos : String} {aft : Array Edge} {g : Option (Nat × Bool)} {b s : Nat} {A C : Abs}
variable {α β : Type} [DecidableEq α] {K : α → Value} {V : β → Value} {Good : α → Prop} {m : List (α × β)} {a a' : α} {zv : Value}
/-- 'm[k]', an entry being under way. -/
theorem Val.mapGetAt (kf : KeyFit P k K Good) (ht : P.underlying t = some (.map k e)) (hz : ∀ w, (zeroValue e).run P w = .ok zv w) (hx : look l x = some (mapV b)) (hb : It.pc (mapAtPc b K V Good m a' s) ∈ σ)
    (hy : look l y = some A) (hA : A.is (K a)) (ha : Good a) (hC : C.is (((aget m a).map V).getD zv)) : Val P n W σ l [] ⟨d, .lookup t x y false, ty, pos, aft, g⟩ C := fun ac w hs _ => by
  have h0 : MapAt w b K V Good m a' s := hs.mem.hold _ hb
  have h1 : MapOf w b K V Good m := by
    obtain ⟨es, clock, h1, h2, h3, h4, h5, h6, _⟩ := h0
    exact ⟨es, clock, h1, h2, h3, h4, h5, h6⟩
  have e1 := hs.plain hx
  have e2 := hA.1 _ _ _ (hs.eval hy)
  refine ⟨((aget m a).map V).getD zv, hC.2 _ _, fun w' hw' => ?_⟩
  simp only [execOp, e1, e2, Sem.run_bind, (h1.ext hw' (by simp)).look_run kf ht (hz w') ha false, Bool.false_eq_true, if_false, Result.andThen_ok, Sem.run_pure]
end
theorem int_zero : ∀ w, (zeroValue 3).run Try.prog w = .ok (cntV 0) w := fun w => by
  kernel_rfl
/-- A digest. -/
structure Dg where
  d : List UInt8
  len : d.length = 32
theorem Dg.same {p q : Dg} (h : p.d = q.d) : p = q := by
  obtain ⟨a, _⟩ := p
  obtain ⟨b, _⟩ := q
  dsimp only at h
  subst h
  rfl
instance : DecidableEq Dg := fun p q => if h : p.d = q.d then isTrue (Dg.same h) else isFalse fun e => h (by rw [e])
def dg0 : Dg := ⟨List.replicate 32 0, rfl⟩
abbrev dgTop (_ : Dg) : Prop := True
def dgU (v : Dg) : List Value := v.d.map bc
def dgV (v : Dg) : Value := .agg (dgU v).toArray
def dgC (v : Dg) : List Abs := (dgU v).map .v
abbrev dgZ : List Abs := dgC dg0
theorem dgU_len (v : Dg) : (dgU v).length = 32 := by simp [dgU, v.len]
theorem dgC_len (v : Dg) : (dgC v).length = 32 := by simp [dgC, dgU_len]
theorem ones_v (l : List Value) (h : ∀ u ∈ l, (Abs.v u).one = true) : ones (l.map .v) = true := ones_iff.2 fun a ha => by
  obtain ⟨u, hu, rfl⟩ := List.mem_map.1 ha
  exact h u hu
theorem dgC_ones (v : Dg) : ones (dgC v) = true := ones_v _ fun u hu => by
  simp only [dgU, List.mem_map] at hu
  obtain ⟨b, _, rfl⟩ := hu
  rfl
theorem dg_plains (v : Dg) : plains (dgC v) = some (dgU v) := by
  have h := plains_map (fun x : Value => x) (dgU v)
  simpa [dgC] using h
theorem dg_cells : Try.prog.cellsOf 41 = 32 := by kernel_rfl
theorem dg_lits {m : Nat} (v : Dg) : Try.prog.keyLits (m + 2) 41 (dgU v) = some (v.d.map litB) := lits_bytes (m := m) Try.underlying41 dg_cells v.d v.len
theorem dg_formed (v : Dg) : (dgV v).formed Try.prog 41 = true := formedB Try.underlying41 dg_cells v.d v.len
theorem dg_lit (v : Dg) : ∃ l, keyOf Try.prog 41 (dgV v) = some l := by
  have hk : Try.prog.keyType 41 = true := by kernel_rfl
  have hd : ∃ k, Try.prog.types.size + 1 = k + 2 := ⟨_, (rfl : Try.prog.types.size + 1 = (Try.prog.types.size - 1) + 2)⟩
  obtain ⟨k, hd⟩ := hd
  have hl := dg_lits (m := k) v
  unfold keyOf
  simp only [Try.underlying41, hk, dg_formed, Bool.and_self, if_true, hd]
  rw [show (dgV v).cells.toList = dgU v from rfl, hl]
  exact ⟨_, rfl⟩
theorem dg_fit : KeyFit Try.prog 41 dgV dgTop where
  keyed := Maps.Keyed.of_law (deep_law_laid laid (m := 4) (by decide) (of_decide_eq_true (by kernel_rfl)) (by kernel_rfl) (by kernel_rfl))
  lit a _ := dg_lit a
  inj a b _ _ h := by
    unfold dgV at h
    injection h with h
    have h := congrArg Array.toList h
    refine Dg.same (litB_inj ?_)
    have e : ∀ l : List UInt8, l.map litB = (l.map bc).map fun v => match v with | .int q n => Lit.int q n | _ => litB 0 := fun l => by
      rw [List.map_map]
      exact List.map_congr_left fun x _ => rfl
    have h : a.d.map bc = b.d.map bc := h
    rw [e, e, h]
theorem eqDg (p q : Dg) (w : World) : (binOp .eql 41 (.agg (dgU p).toArray) (.agg (dgU q).toArray)).run Try.prog w = .ok (.bool (decide (p = q))) w :=
  run_eql_lits (m := 10) (by decide) (by kernel_rfl) (dg_formed p) (dg_formed q) (dg_lits (m := 0) p) (dg_lits (m := 0) q) _ (by
    rw [decide_eq_true_eq]
    exact ⟨fun h => by rw [h], fun h => Dg.same (litB_inj h)⟩) w
theorem dgA_eq' (o : Option Dg) : ((o.map fun x => Abs.agg (dgC x)).getD (.agg dgZ)) = .agg (dgC (o.getD dg0)) := by cases o <;> rfl
def hOf (m : List (Int × Dg)) (w : Int) : Dg := (aget m w).getD dg0
theorem hOf_is (m : List (Int × Dg)) (w : Int) : (Abs.agg (dgC (hOf m w))).is (((aget m w).map dgV).getD (dgV dg0)) := by
  unfold hOf
  cases aget m w with
  | none => exact is_agg (us := dgU dg0)
  | some v => exact is_agg (us := dgU v)
end Go.Proofs.Ytoifikgnbblbgaa.A
/-
  Tallies of digests: the program's.
-/
set_option maxRecDepth 100000
set_option linter.unusedSimpArgs false
set_option linter.unusedVariables false
namespace Go.Proofs.Ytoifikgnbblbgaa.A
open Go.RowKit Go.Maps Go.Sort Go.Shelf

def dgE (x : Dg) : Abs := .agg (dgC x)
theorem dg_is (x : Dg) : (dgE x).is (dgV x) := is_agg (us := dgU x)
abbrev dgA (o : Option Dg) : Abs := (o.map dgE).getD (.agg dgZ)
theorem dg_zero : ∀ w, (zeroValue 41).run Try.prog w = .ok (dgV dg0) w := fun w => by
  kernel_rfl
theorem dgA_is (o : Option Dg) : (dgA o).is ((o.map dgV).getD (dgV dg0)) := getD_is dg_is (is_agg (us := dgU dg0)) o
section
variable {t bv bn : Nat} {m : List (Int × Dg)} {c : List (Dg × Nat)} {k : Dg} {who at_ : Int}
theorem dg_new_s  : Spec Try.prog 25 [] [] (fun z : Nat × Nat × Nat => [.blk z.1 79 [mapV z.2.1, mapV z.2.2], .pc (mapPc z.2.1 intK dgV intOk []), .pc (mapPc z.2.2 dgV cntV dgTop [])]) (fun z => ptr z.1) := by
  refine spec_of Try.func25 rfl Try.ntmps25 rfl fun G w => ?_
  refine SC.seq (SC.region ?_)
  refine SL.val (Val.assign rfl) rfl rfl ?_
  refine SL.nil (SE.seq ?_)
  refine SC.seq (SC.region ?_)
  refine SL.eff (Eff.makeMap intK dgV intOk (fun ac w => by simp [execOp, Instr.makeMap, newObj, Sem.run, Sem.run_bind, Result.andThen])) rfl rfl ?_
  rintro _ _ ⟨m1, rfl, rfl⟩
  refine SL.eff (Eff.makeMap dgV cntV dgTop (fun ac w => by simp [execOp, Instr.makeMap, newObj, Sem.run, Sem.run_bind, Result.andThen])) rfl rfl ?_
  rintro _ _ ⟨m2, rfl, rfl⟩
  refine SL.val (Val.buildS tabOk rfl rfl rfl rfl) rfl rfl ?_
  refine SL.eff (Eff.boxA rfl) rfl rfl ?_
  rintro _ _ ⟨b4, rfl, rfl⟩
  refine SL.val (Val.assign rfl) rfl rfl ?_
  refine SL.nil (SE.seq ?_)
  refine SC.ret ?_
  refine SE.perm (List.Perm.cons _ (List.Perm.swap _ _ _)) ?_
  refine SE.fin (rs := [.tmp 0]) rfl (RV.tmp rfl RV.nil) (b4, m1, m2) (by repeat first|exact s0 _|exact s1 _|apply s2|apply s3) (by simp [It.rids]) ?_
  exact rfl
end
section
variable {t bv bn : Nat} {m : List (Int × Dg)} {c : List (Dg × Nat)} {k v : Dg} {who at_ : Int}
set_option maxHeartbeats 2000000 in
theorem dg_changeN_s (hw : intOk who) (hti : TInv m c) (hl : m.length ≤ 1000)  (hv : aget m who = none) : Spec Try.prog 34 [ptr t, int who, dgE k] [.blk t 79 [mapV bv, mapV bn], .pc (mapPc bv intK dgV intOk m), .pc (mapPc bn dgV cntV dgTop c)] (fun _ : Unit => [.blk t 79 [mapV bv, mapV bn], .pc (mapPc bv intK dgV intOk (aput m who k)), .pc (mapPc bn dgV cntV dgTop (chgC m c who k))]) (fun _ => .tup []) := by
  refine spec_of Try.func34 rfl Try.ntmps34 rfl fun G w => ?_
  refine SC.seq (SC.region ?_)
  refine SL.eff (Eff.boxA (cs := dgC k) rfl) rfl rfl ?_
  rintro _ _ ⟨b5, rfl, rfl⟩
  refine SL.nil (SE.seq ?_)
  refine SC.seq ?_
  refine SC.seq (SC.region ?_)
  refine SL.val (Val.move rfl) rfl rfl ?_
  refine SL.val (Val.eqP rfl rfl (by kernel_rfl)) rfl rfl ?_
  refine SL.nil (SE.seq ?_)
  refine SC.condF rfl ?_
  refine SC.skip ?_
  refine SE.seq ?_
  refine SC.seq ?_
  refine SC.seq (SC.region ?_)
  refine SL.val (Val.move rfl) rfl rfl ?_
  refine SL.val (Val.nilCheck rfl) rfl rfl ?_
  refine SL.val (Val.fieldAddr tabOk rfl rfl rfl rfl rfl) rfl rfl ?_
  refine SL.val (Val.load1 tabOk rfl rfl (by first|(apply Or.inl;(repeat first|assumption|exact m0|apply m1);done)|(apply Or.inr;(repeat first|assumption|exact m0|apply m1);done)) List.not_mem_nil (by rfl)) rfl rfl ?_
  refine SL.val (Val.move rfl) rfl rfl ?_
  refine SL.val (Val.to (C := .tup [.agg dgZ, boo false]) (Val.mapGetOk (a := who) (zv := (dgV dg0)) (C := dgA (aget m who)) (int_fit Try.underlying3) Try.underlying76 dg_zero rfl (by first|(apply Or.inl;(repeat first|assumption|exact m0|apply m1);done)|(apply Or.inr;(repeat first|assumption|exact m0|apply m1);done)) List.not_mem_nil rfl is_v hw (dgA_is _)) (by rw [hv]; rfl)) rfl rfl ?_
  refine SL.val (Val.move rfl) rfl rfl ?_
  refine SL.val (Val.extract rfl rfl) rfl rfl ?_
  refine SL.val (Val.extract rfl rfl) rfl rfl ?_
  refine SL.eff (Eff.alloc tabOk rfl) rfl rfl ?_
  rintro _ _ ⟨b6, rfl, rfl⟩
  refine SL.eff (Eff.store (L' := dgZ) tabOk rfl rfl rfl (by repeat first|assumption|exact Upd.here|apply Upd.there) (by exact rfl) (Nat.le_of_ble_eq_true (by rfl)) (by exact rfl) (putL_whole (by exact rfl))) rfl rfl ?_
  rintro _ _ ⟨rfl, rfl⟩
  refine SL.val (Val.assign rfl) rfl rfl ?_
  refine SL.nil (SE.seq ?_)
  refine SC.seq (SC.region ?_)
  refine SL.val (Val.move rfl) rfl rfl ?_
  refine SL.nil (SE.seq ?_)
  refine SC.condF rfl ?_
  refine SC.skip ?_
  refine SE.seq ?_
  refine SC.seq ?_
  refine SC.drawZ [] (.q 0 (.q 1 (.q 2 (.q 3 (.q 4 (.q 5 .nil)))))) (by kernel_rfl) (by kernel_rfl) ?_
  refine SX.val rfl (Val.move rfl) (by simp) rfl rfl ?_
  refine SX.val rfl (Val.nilCheck rfl) (by simp) rfl rfl ?_
  refine SX.val rfl (Val.fieldAddr tabOk rfl rfl rfl rfl rfl) (by simp) rfl rfl ?_
  refine SX.val rfl (Val.load1 tabOk rfl rfl (by first|(apply Or.inl;(repeat first|assumption|exact m0|apply m1);done)|(apply Or.inr;(repeat first|assumption|exact m0|apply m1);done)) List.not_mem_nil (by rfl)) (by first | (simp [mids, It.mids, ownPc, mapPc]; done) | (intro k hk; simp [mids, It.mids, ownPc, mapPc, mapAtPc] at hk ⊢; grind)) rfl rfl ?_
  refine SX.val rfl (Val.move rfl) (by simp) rfl rfl ?_
  refine SX.val rfl (Val.loadA tabOk rfl rfl rfl (by first|(apply Or.inl;(repeat first|assumption|exact m0|apply m1);done)|(apply Or.inr;(repeat first|assumption|exact m0|apply m1);done)) List.not_mem_nil (dgC_len _)) (by first | (simp [mids, It.mids, ownPc, mapPc]; done) | (intro k hk; simp [mids, It.mids, ownPc, mapPc, mapAtPc] at hk ⊢; grind)) rfl rfl ?_
  refine SX.nil ?_
  refine SE.effZ rfl (Eff.mapPut (a := who) (v := k) (m' := aput m who k) (int_fit Try.underlying3) Try.underlying76 rfl (by repeat first|assumption|exact Upd.here|apply Upd.there) rfl is_v hw rfl (dg_is _) rfl) rfl rfl ?_
  rintro _ _ ⟨rfl, rfl⟩
  refine SE.seq ?_
  refine SC.known (p := t ∉ [bn] ∧ b5 ∉ [bn]) (fun _ _ h => by
      have h1 := h.mem.nodup
      simp [mids, It.mids, mapPc, ownPc] at h1 ⊢
      grind) fun hX => ?_
  refine SC.draw [bn] (.q 0 (.q 1 (.q 2 (.q 3 (.q 4 (.two 5 7 (.q 6 (.e 7 (.q 8 (.e 9 .nil)))) (.q 8 (.e 5 (.q 6 (.e 9 .nil)))))))))) (by kernel_rfl) (by kernel_rfl) ?_
  refine SX.val rfl (Val.move rfl) (by first | (simp [mids, It.mids, ownPc, mapPc]; done) | (intro k hk; simp [mids, It.mids, ownPc, mapPc, mapAtPc] at hk ⊢; grind)) rfl rfl ?_
  refine SX.val rfl (Val.nilCheck rfl) (by first | (simp [mids, It.mids, ownPc, mapPc]; done) | (intro k hk; simp [mids, It.mids, ownPc, mapPc, mapAtPc] at hk ⊢; grind)) rfl rfl ?_
  refine SX.val rfl (Val.fieldAddr tabOk rfl rfl rfl rfl rfl) (by first | (simp [mids, It.mids, ownPc, mapPc]; done) | (intro k hk; simp [mids, It.mids, ownPc, mapPc, mapAtPc] at hk ⊢; grind)) rfl rfl ?_
  refine SX.val rfl (Val.load1 tabOk rfl rfl (by first|(apply Or.inl;(repeat first|assumption|exact m0|apply m1);done)|(apply Or.inr;(repeat first|assumption|exact m0|apply m1);done)) (by first | exact hX.1 | exact hX.2) (by rfl)) (by first | (simp [mids, It.mids, ownPc, mapPc]; done) | (intro k hk; simp [mids, It.mids, ownPc, mapPc, mapAtPc] at hk ⊢; grind)) rfl rfl ?_
  refine SX.val rfl (Val.loadA tabOk rfl rfl rfl (by first|(apply Or.inl;(repeat first|assumption|exact m0|apply m1);done)|(apply Or.inr;(repeat first|assumption|exact m0|apply m1);done)) (by first | exact hX.1 | exact hX.2) (dgC_len _)) (by first | (simp [mids, It.mids, ownPc, mapPc]; done) | (intro k hk; simp [mids, It.mids, ownPc, mapPc, mapAtPc] at hk ⊢; grind)) rfl rfl ?_
  refine SX.two ?_ ?_
  · skip
    first
      | (refine SX.valE rfl (Val.mapGet (a := k) (zv := cntV 0) (C := int ((cget c k : Nat) : Int)) dg_fit Try.underlying77 int_zero rfl ?_ List.not_mem_nil rfl (dg_is _) trivial (cget_is _ _)) rfl rfl ?_; focus (apply Or.inl; (repeat first|assumption|exact m0|apply m1); done))
      | (refine SX.valE rfl (Val.mapGetAt (a := k) (a' := k) (s := s54) (zv := cntV 0) (C := int ((cget c k : Nat) : Int)) dg_fit Try.underlying77 int_zero rfl ?_ rfl (dg_is _) trivial (cget_ent_is _ _)) rfl rfl ?_; focus ((repeat first|assumption|exact m0|apply m1); done))
    refine SX.val rfl (Val.to (C := int ((cget c k + 1 : Nat) : Int)) (Val.addI rfl rfl (by have := hti.dec_le (aget m who) k; rw [hv] at this; have e : cget c k ≤ m.length := this; simp only [InR, lo, hi]; omega)) (congrArg int (by omega))) (by first | (simp [mids, It.mids, ownPc, mapPc]; done) | (intro k hk; simp [mids, It.mids, ownPc, mapPc, mapAtPc] at hk ⊢; grind)) rfl rfl ?_
    refine SX.eff rfl (Eff.mapEntry (a := k) (zv := 0) (V := cntV) (C := int ((cget c k : Nat) : Int)) dg_fit Try.underlying77 int_zero rfl (fun s => (by repeat first|assumption|exact Upd.here|apply Upd.there)) rfl (dg_is _) trivial (cget_is _ _)) (by simp) rfl rfl ?_
    rintro _ _ ⟨s54, rfl, rfl⟩
    refine SX.val rfl (Val.extract rfl rfl) (by first | (simp [mids, It.mids, ownPc, mapPc]; done) | (intro k hk; simp [mids, It.mids, ownPc, mapPc, mapAtPc] at hk ⊢; grind)) rfl rfl ?_
    refine SX.eff rfl (Eff.entryStore (v := cget c k + 1) (m' := aput c k (cget c k + 1)) rfl (by repeat first|assumption|exact Upd.here|apply Upd.there) rfl rfl is_v (aput_aent _ _ _ _)) (by simp) rfl rfl ?_
    rintro _ _ ⟨rfl, rfl⟩
    refine SX.nil ?_
    refine SE.finN (rs := []) rfl RV.nil (()) (by rw [chgC_new hv]; repeat (first | exact List.nil_sublist _ | exact List.Sublist.refl _ | apply List.Sublist.cons_cons | apply List.Sublist.cons)) (by simp [It.rids]) ?_
    exact rfl
  · skip
    refine SX.eff rfl (Eff.mapEntry (a := k) (zv := 0) (V := cntV) (C := int ((cget c k : Nat) : Int)) dg_fit Try.underlying77 int_zero rfl (fun s => (by repeat first|assumption|exact Upd.here|apply Upd.there)) rfl (dg_is _) trivial (cget_is _ _)) (by simp) rfl rfl ?_
    rintro _ _ ⟨s54, rfl, rfl⟩
    refine SX.val rfl (Val.extract rfl rfl) (by first | (simp [mids, It.mids, ownPc, mapPc]; done) | (intro k hk; simp [mids, It.mids, ownPc, mapPc, mapAtPc] at hk ⊢; grind)) rfl rfl ?_
    first
      | (refine SX.valE rfl (Val.mapGet (a := k) (zv := cntV 0) (C := int ((cget c k : Nat) : Int)) dg_fit Try.underlying77 int_zero rfl ?_ List.not_mem_nil rfl (dg_is _) trivial (cget_is _ _)) rfl rfl ?_; focus (apply Or.inl; (repeat first|assumption|exact m0|apply m1); done))
      | (refine SX.valE rfl (Val.mapGetAt (a := k) (a' := k) (s := s54) (zv := cntV 0) (C := int ((cget c k : Nat) : Int)) dg_fit Try.underlying77 int_zero rfl ?_ rfl (dg_is _) trivial (cget_ent_is _ _)) rfl rfl ?_; focus ((repeat first|assumption|exact m0|apply m1); done))
    refine SX.val rfl (Val.to (C := int ((cget c k + 1 : Nat) : Int)) (Val.addI rfl rfl (by have := hti.dec_le (aget m who) k; rw [hv] at this; have e : cget c k ≤ m.length := this; simp only [InR, lo, hi]; omega)) (congrArg int (by omega))) (by first | (simp [mids, It.mids, ownPc, mapPc]; done) | (intro k hk; simp [mids, It.mids, ownPc, mapPc, mapAtPc] at hk ⊢; grind)) rfl rfl ?_
    refine SX.eff rfl (Eff.entryStore (v := cget c k + 1) (m' := aput c k (cget c k + 1)) rfl (by repeat first|assumption|exact Upd.here|apply Upd.there) rfl rfl is_v (aput_aent _ _ _ _)) (by simp) rfl rfl ?_
    rintro _ _ ⟨rfl, rfl⟩
    refine SX.nil ?_
    refine SE.finN (rs := []) rfl RV.nil (()) (by rw [chgC_new hv]; repeat (first | exact List.nil_sublist _ | exact List.Sublist.refl _ | apply List.Sublist.cons_cons | apply List.Sublist.cons)) (by simp [It.rids]) ?_
    exact rfl
set_option maxHeartbeats 4000000 in
theorem dg_changeO_s (hw : intOk who) (hti : TInv m c) (hl : m.length ≤ 1000)  (hv : aget m who = some v) : Spec Try.prog 34 [ptr t, int who, dgE k] [.blk t 79 [mapV bv, mapV bn], .pc (mapPc bv intK dgV intOk m), .pc (mapPc bn dgV cntV dgTop c)] (fun _ : Unit => [.blk t 79 [mapV bv, mapV bn], .pc (mapPc bv intK dgV intOk (aput m who k)), .pc (mapPc bn dgV cntV dgTop (chgC m c who k))]) (fun _ => .tup []) := by
  refine spec_of Try.func34 rfl Try.ntmps34 rfl fun G w => ?_
  refine SC.seq (SC.region ?_)
  refine SL.eff (Eff.boxA (cs := dgC k) rfl) rfl rfl ?_
  rintro _ _ ⟨b5, rfl, rfl⟩
  refine SL.nil (SE.seq ?_)
  refine SC.seq ?_
  refine SC.seq (SC.region ?_)
  refine SL.val (Val.move rfl) rfl rfl ?_
  refine SL.val (Val.eqP rfl rfl (by kernel_rfl)) rfl rfl ?_
  refine SL.nil (SE.seq ?_)
  refine SC.condF rfl ?_
  refine SC.skip ?_
  refine SE.seq ?_
  refine SC.seq ?_
  refine SC.seq (SC.region ?_)
  refine SL.val (Val.move rfl) rfl rfl ?_
  refine SL.val (Val.nilCheck rfl) rfl rfl ?_
  refine SL.val (Val.fieldAddr tabOk rfl rfl rfl rfl rfl) rfl rfl ?_
  refine SL.val (Val.load1 tabOk rfl rfl (by first|(apply Or.inl;(repeat first|assumption|exact m0|apply m1);done)|(apply Or.inr;(repeat first|assumption|exact m0|apply m1);done)) List.not_mem_nil (by rfl)) rfl rfl ?_
  refine SL.val (Val.move rfl) rfl rfl ?_
  refine SL.val (Val.to (C := .tup [.agg (dgC v), boo true]) (Val.mapGetOk (a := who) (zv := (dgV dg0)) (C := dgA (aget m who)) (int_fit Try.underlying3) Try.underlying76 dg_zero rfl (by first|(apply Or.inl;(repeat first|assumption|exact m0|apply m1);done)|(apply Or.inr;(repeat first|assumption|exact m0|apply m1);done)) List.not_mem_nil rfl is_v hw (dgA_is _)) (by rw [hv]; rfl)) rfl rfl ?_
  refine SL.val (Val.move rfl) rfl rfl ?_
  refine SL.val (Val.extract rfl rfl) rfl rfl ?_
  refine SL.val (Val.extract rfl rfl) rfl rfl ?_
  refine SL.eff (Eff.alloc tabOk rfl) rfl rfl ?_
  rintro _ _ ⟨b6, rfl, rfl⟩
  refine SL.eff (Eff.store (L' := (dgC v)) tabOk rfl rfl rfl (by repeat first|assumption|exact Upd.here|apply Upd.there) (by exact (dgC_len _)) (Nat.le_of_ble_eq_true (by rfl)) (by exact (dgC_ones _)) (putL_whole (by exact (dgC_len _)))) rfl rfl ?_
  rintro _ _ ⟨rfl, rfl⟩
  refine SL.val (Val.assign rfl) rfl rfl ?_
  refine SL.nil (SE.seq ?_)
  refine SC.seq (SC.region ?_)
  refine SL.val (Val.move rfl) rfl rfl ?_
  refine SL.nil (SE.seq ?_)
  refine SC.condT rfl ?_
  refine SC.seq ?_
  refine SC.known (p := t ∉ [bn] ∧ b6 ∉ [bn]) (fun _ _ h => by
      have h1 := h.mem.nodup
      simp [mids, It.mids, mapPc, ownPc] at h1 ⊢
      grind) fun hX => ?_
  refine SC.draw [bn] (.q 0 (.q 1 (.q 2 (.q 3 (.q 4 (.two 5 7 (.q 6 (.e 7 (.q 8 (.e 9 .nil)))) (.q 8 (.e 5 (.q 6 (.e 9 .nil)))))))))) (by kernel_rfl) (by kernel_rfl) ?_
  refine SX.val rfl (Val.move rfl) (by first | (simp [mids, It.mids, ownPc, mapPc]; done) | (intro k hk; simp [mids, It.mids, ownPc, mapPc, mapAtPc] at hk ⊢; grind)) rfl rfl ?_
  refine SX.val rfl (Val.nilCheck rfl) (by first | (simp [mids, It.mids, ownPc, mapPc]; done) | (intro k hk; simp [mids, It.mids, ownPc, mapPc, mapAtPc] at hk ⊢; grind)) rfl rfl ?_
  refine SX.val rfl (Val.fieldAddr tabOk rfl rfl rfl rfl rfl) (by first | (simp [mids, It.mids, ownPc, mapPc]; done) | (intro k hk; simp [mids, It.mids, ownPc, mapPc, mapAtPc] at hk ⊢; grind)) rfl rfl ?_
  refine SX.val rfl (Val.load1 tabOk rfl rfl (by first|(apply Or.inl;(repeat first|assumption|exact m0|apply m1);done)|(apply Or.inr;(repeat first|assumption|exact m0|apply m1);done)) (by first | exact hX.1 | exact hX.2) (by rfl)) (by first | (simp [mids, It.mids, ownPc, mapPc]; done) | (intro k hk; simp [mids, It.mids, ownPc, mapPc, mapAtPc] at hk ⊢; grind)) rfl rfl ?_
  refine SX.val rfl (Val.loadA tabOk rfl rfl rfl (by first|(apply Or.inl;(repeat first|assumption|exact m0|apply m1);done)|(apply Or.inr;(repeat first|assumption|exact m0|apply m1);done)) (by first | exact hX.1 | exact hX.2) (dgC_len _)) (by first | (simp [mids, It.mids, ownPc, mapPc]; done) | (intro k hk; simp [mids, It.mids, ownPc, mapPc, mapAtPc] at hk ⊢; grind)) rfl rfl ?_
  refine SX.two ?_ ?_
  · skip
    first
      | (refine SX.valE rfl (Val.mapGet (a := v) (zv := cntV 0) (C := int ((cget c v : Nat) : Int)) dg_fit Try.underlying77 int_zero rfl ?_ List.not_mem_nil rfl (dg_is _) trivial (cget_is _ _)) rfl rfl ?_; focus (apply Or.inl; (repeat first|assumption|exact m0|apply m1); done))
      | (refine SX.valE rfl (Val.mapGetAt (a := v) (a' := v) (s := s27) (zv := cntV 0) (C := int ((cget c v : Nat) : Int)) dg_fit Try.underlying77 int_zero rfl ?_ rfl (dg_is _) trivial (cget_ent_is _ _)) rfl rfl ?_; focus ((repeat first|assumption|exact m0|apply m1); done))
    refine SX.val rfl (Val.to (C := int ((cget c v - 1 : Nat) : Int)) (Val.subI rfl rfl (by have := hti.le v; simp only [InR, lo, hi]; omega)) (congrArg int (by have := hti.pos hv; omega))) (by first | (simp [mids, It.mids, ownPc, mapPc]; done) | (intro k hk; simp [mids, It.mids, ownPc, mapPc, mapAtPc] at hk ⊢; grind)) rfl rfl ?_
    refine SX.eff rfl (Eff.mapEntry (a := v) (zv := 0) (V := cntV) (C := int ((cget c v : Nat) : Int)) dg_fit Try.underlying77 int_zero rfl (fun s => (by repeat first|assumption|exact Upd.here|apply Upd.there)) rfl (dg_is _) trivial (cget_is _ _)) (by simp) rfl rfl ?_
    rintro _ _ ⟨s27, rfl, rfl⟩
    refine SX.val rfl (Val.extract rfl rfl) (by first | (simp [mids, It.mids, ownPc, mapPc]; done) | (intro k hk; simp [mids, It.mids, ownPc, mapPc, mapAtPc] at hk ⊢; grind)) rfl rfl ?_
    refine SX.eff rfl (Eff.entryStore (v := cget c v - 1) (m' := aput c v (cget c v - 1)) rfl (by repeat first|assumption|exact Upd.here|apply Upd.there) rfl rfl is_v (aput_aent _ _ _ _)) (by simp) rfl rfl ?_
    rintro _ _ ⟨rfl, rfl⟩
    refine SX.nil (SE.seq ?_)
    refine SC.seq ?_
    refine SC.draw [] (.q 0 (.q 1 (.q 2 (.q 3 (.q 4 (.q 5 (.q 6 .nil))))))) (by kernel_rfl) (by kernel_rfl) ?_
    refine SX.val rfl (Val.move rfl) (by simp) rfl rfl ?_
    refine SX.val rfl (Val.nilCheck rfl) (by simp) rfl rfl ?_
    refine SX.val rfl (Val.fieldAddr tabOk rfl rfl rfl rfl rfl) (by simp) rfl rfl ?_
    refine SX.val rfl (Val.load1 tabOk rfl rfl (by first|(apply Or.inl;(repeat first|assumption|exact m0|apply m1);done)|(apply Or.inr;(repeat first|assumption|exact m0|apply m1);done)) List.not_mem_nil (by rfl)) (by simp) rfl rfl ?_
    refine SX.val rfl (Val.loadA tabOk rfl rfl rfl (by first|(apply Or.inl;(repeat first|assumption|exact m0|apply m1);done)|(apply Or.inr;(repeat first|assumption|exact m0|apply m1);done)) List.not_mem_nil (dgC_len _)) (by first | (simp [mids, It.mids, ownPc, mapPc]; done) | (intro k hk; simp [mids, It.mids, ownPc, mapPc, mapAtPc] at hk ⊢; grind)) rfl rfl ?_
    refine SX.val rfl (Val.mapGet (a := v) (zv := cntV 0) (C := int ((cget (aput c v (cget c v - 1)) v : Nat) : Int)) dg_fit Try.underlying77 int_zero rfl (by first|(apply Or.inl;(repeat first|assumption|exact m0|apply m1);done)|(apply Or.inr;(repeat first|assumption|exact m0|apply m1);done)) List.not_mem_nil rfl (dg_is _) trivial (cget_is _ _)) (by first | (simp [mids, It.mids, ownPc, mapPc]; done) | (intro k hk; simp [mids, It.mids, ownPc, mapPc, mapAtPc] at hk ⊢; grind)) rfl rfl ?_
    refine SX.val rfl (Val.eqI rfl rfl) (by simp) rfl rfl ?_
    refine SX.nil (SE.seq ?_)
    refine SC.condP rfl ?_ ?_
    rotate_left
    · intro hc35
      rw [show (aput c v (cget c v - 1)) = (decO c (some v)) from (dec_keep (by omega)).symm]
      refine SC.skip ?_
      refine SE.seq ?_
      refine SC.seq ?_
      refine SC.drawZ [] (.q 0 (.q 1 (.q 2 (.q 3 (.q 4 (.q 5 .nil)))))) (by kernel_rfl) (by kernel_rfl) ?_
      refine SX.val rfl (Val.move rfl) (by simp) rfl rfl ?_
      refine SX.val rfl (Val.nilCheck rfl) (by simp) rfl rfl ?_
      refine SX.val rfl (Val.fieldAddr tabOk rfl rfl rfl rfl rfl) (by simp) rfl rfl ?_
      refine SX.val rfl (Val.load1 tabOk rfl rfl (by first|(apply Or.inl;(repeat first|assumption|exact m0|apply m1);done)|(apply Or.inr;(repeat first|assumption|exact m0|apply m1);done)) List.not_mem_nil (by rfl)) (by first | (simp [mids, It.mids, ownPc, mapPc]; done) | (intro k hk; simp [mids, It.mids, ownPc, mapPc, mapAtPc] at hk ⊢; grind)) rfl rfl ?_
      refine SX.val rfl (Val.move rfl) (by simp) rfl rfl ?_
      refine SX.val rfl (Val.loadA tabOk rfl rfl rfl (by first|(apply Or.inl;(repeat first|assumption|exact m0|apply m1);done)|(apply Or.inr;(repeat first|assumption|exact m0|apply m1);done)) List.not_mem_nil (dgC_len _)) (by first | (simp [mids, It.mids, ownPc, mapPc]; done) | (intro k hk; simp [mids, It.mids, ownPc, mapPc, mapAtPc] at hk ⊢; grind)) rfl rfl ?_
      refine SX.nil ?_
      refine SE.effZ rfl (Eff.mapPut (a := who) (v := k) (m' := aput m who k) (int_fit Try.underlying3) Try.underlying76 rfl (by repeat first|assumption|exact Upd.here|apply Upd.there) rfl is_v hw rfl (dg_is _) rfl) rfl rfl ?_
      rintro _ _ ⟨rfl, rfl⟩
      refine SE.seq ?_
      refine SC.known (p := t ∉ [bn] ∧ b5 ∉ [bn]) (fun _ _ h => by
          have h1 := h.mem.nodup
          simp [mids, It.mids, mapPc, ownPc] at h1 ⊢
          grind) fun hX => ?_
      refine SC.draw [bn] (.q 0 (.q 1 (.q 2 (.q 3 (.q 4 (.two 5 7 (.q 6 (.e 7 (.q 8 (.e 9 .nil)))) (.q 8 (.e 5 (.q 6 (.e 9 .nil)))))))))) (by kernel_rfl) (by kernel_rfl) ?_
      refine SX.val rfl (Val.move rfl) (by first | (simp [mids, It.mids, ownPc, mapPc]; done) | (intro k hk; simp [mids, It.mids, ownPc, mapPc, mapAtPc] at hk ⊢; grind)) rfl rfl ?_
      refine SX.val rfl (Val.nilCheck rfl) (by first | (simp [mids, It.mids, ownPc, mapPc]; done) | (intro k hk; simp [mids, It.mids, ownPc, mapPc, mapAtPc] at hk ⊢; grind)) rfl rfl ?_
      refine SX.val rfl (Val.fieldAddr tabOk rfl rfl rfl rfl rfl) (by first | (simp [mids, It.mids, ownPc, mapPc]; done) | (intro k hk; simp [mids, It.mids, ownPc, mapPc, mapAtPc] at hk ⊢; grind)) rfl rfl ?_
      refine SX.val rfl (Val.load1 tabOk rfl rfl (by first|(apply Or.inl;(repeat first|assumption|exact m0|apply m1);done)|(apply Or.inr;(repeat first|assumption|exact m0|apply m1);done)) (by first | exact hX.1 | exact hX.2) (by rfl)) (by first | (simp [mids, It.mids, ownPc, mapPc]; done) | (intro k hk; simp [mids, It.mids, ownPc, mapPc, mapAtPc] at hk ⊢; grind)) rfl rfl ?_
      refine SX.val rfl (Val.loadA tabOk rfl rfl rfl (by first|(apply Or.inl;(repeat first|assumption|exact m0|apply m1);done)|(apply Or.inr;(repeat first|assumption|exact m0|apply m1);done)) (by first | exact hX.1 | exact hX.2) (dgC_len _)) (by first | (simp [mids, It.mids, ownPc, mapPc]; done) | (intro k hk; simp [mids, It.mids, ownPc, mapPc, mapAtPc] at hk ⊢; grind)) rfl rfl ?_
      refine SX.two ?_ ?_
      · skip
        first
          | (refine SX.valE rfl (Val.mapGet (a := k) (zv := cntV 0) (C := int ((cget (decO c (some v)) k : Nat) : Int)) dg_fit Try.underlying77 int_zero rfl ?_ List.not_mem_nil rfl (dg_is _) trivial (cget_is _ _)) rfl rfl ?_; focus (apply Or.inl; (repeat first|assumption|exact m0|apply m1); done))
          | (refine SX.valE rfl (Val.mapGetAt (a := k) (a' := k) (s := s54) (zv := cntV 0) (C := int ((cget (decO c (some v)) k : Nat) : Int)) dg_fit Try.underlying77 int_zero rfl ?_ rfl (dg_is _) trivial (cget_ent_is _ _)) rfl rfl ?_; focus ((repeat first|assumption|exact m0|apply m1); done))
        refine SX.val rfl (Val.to (C := int ((cget (decO c (some v)) k + 1 : Nat) : Int)) (Val.addI rfl rfl (by have := hti.dec_le (aget m who) k; rw [hv] at this; have e : cget (decO c (some v)) k ≤ m.length := this; simp only [InR, lo, hi]; omega)) (congrArg int (by omega))) (by first | (simp [mids, It.mids, ownPc, mapPc]; done) | (intro k hk; simp [mids, It.mids, ownPc, mapPc, mapAtPc] at hk ⊢; grind)) rfl rfl ?_
        refine SX.eff rfl (Eff.mapEntry (a := k) (zv := 0) (V := cntV) (C := int ((cget (decO c (some v)) k : Nat) : Int)) dg_fit Try.underlying77 int_zero rfl (fun s => (by repeat first|assumption|exact Upd.here|apply Upd.there)) rfl (dg_is _) trivial (cget_is _ _)) (by simp) rfl rfl ?_
        rintro _ _ ⟨s54, rfl, rfl⟩
        refine SX.val rfl (Val.extract rfl rfl) (by first | (simp [mids, It.mids, ownPc, mapPc]; done) | (intro k hk; simp [mids, It.mids, ownPc, mapPc, mapAtPc] at hk ⊢; grind)) rfl rfl ?_
        refine SX.eff rfl (Eff.entryStore (v := cget (decO c (some v)) k + 1) (m' := aput (decO c (some v)) k (cget (decO c (some v)) k + 1)) rfl (by repeat first|assumption|exact Upd.here|apply Upd.there) rfl rfl is_v (aput_aent _ _ _ _)) (by simp) rfl rfl ?_
        rintro _ _ ⟨rfl, rfl⟩
        refine SX.nil ?_
        refine SE.finN (rs := []) rfl RV.nil (()) (by rw [chgC_old hv]; repeat (first | exact List.nil_sublist _ | exact List.Sublist.refl _ | apply List.Sublist.cons_cons | apply List.Sublist.cons)) (by simp [It.rids]) ?_
        exact rfl
      · skip
        refine SX.eff rfl (Eff.mapEntry (a := k) (zv := 0) (V := cntV) (C := int ((cget (decO c (some v)) k : Nat) : Int)) dg_fit Try.underlying77 int_zero rfl (fun s => (by repeat first|assumption|exact Upd.here|apply Upd.there)) rfl (dg_is _) trivial (cget_is _ _)) (by simp) rfl rfl ?_
        rintro _ _ ⟨s54, rfl, rfl⟩
        refine SX.val rfl (Val.extract rfl rfl) (by first | (simp [mids, It.mids, ownPc, mapPc]; done) | (intro k hk; simp [mids, It.mids, ownPc, mapPc, mapAtPc] at hk ⊢; grind)) rfl rfl ?_
        first
          | (refine SX.valE rfl (Val.mapGet (a := k) (zv := cntV 0) (C := int ((cget (decO c (some v)) k : Nat) : Int)) dg_fit Try.underlying77 int_zero rfl ?_ List.not_mem_nil rfl (dg_is _) trivial (cget_is _ _)) rfl rfl ?_; focus (apply Or.inl; (repeat first|assumption|exact m0|apply m1); done))
          | (refine SX.valE rfl (Val.mapGetAt (a := k) (a' := k) (s := s54) (zv := cntV 0) (C := int ((cget (decO c (some v)) k : Nat) : Int)) dg_fit Try.underlying77 int_zero rfl ?_ rfl (dg_is _) trivial (cget_ent_is _ _)) rfl rfl ?_; focus ((repeat first|assumption|exact m0|apply m1); done))
        refine SX.val rfl (Val.to (C := int ((cget (decO c (some v)) k + 1 : Nat) : Int)) (Val.addI rfl rfl (by have := hti.dec_le (aget m who) k; rw [hv] at this; have e : cget (decO c (some v)) k ≤ m.length := this; simp only [InR, lo, hi]; omega)) (congrArg int (by omega))) (by first | (simp [mids, It.mids, ownPc, mapPc]; done) | (intro k hk; simp [mids, It.mids, ownPc, mapPc, mapAtPc] at hk ⊢; grind)) rfl rfl ?_
        refine SX.eff rfl (Eff.entryStore (v := cget (decO c (some v)) k + 1) (m' := aput (decO c (some v)) k (cget (decO c (some v)) k + 1)) rfl (by repeat first|assumption|exact Upd.here|apply Upd.there) rfl rfl is_v (aput_aent _ _ _ _)) (by simp) rfl rfl ?_
        rintro _ _ ⟨rfl, rfl⟩
        refine SX.nil ?_
        refine SE.finN (rs := []) rfl RV.nil (()) (by rw [chgC_old hv]; repeat (first | exact List.nil_sublist _ | exact List.Sublist.refl _ | apply List.Sublist.cons_cons | apply List.Sublist.cons)) (by simp [It.rids]) ?_
        exact rfl
    intro hc35
    refine SC.drawZ [] (.q 0 (.q 1 (.q 2 (.q 3 (.q 4 .nil))))) (by kernel_rfl) (by kernel_rfl) ?_
    refine SX.val rfl (Val.move rfl) (by simp) rfl rfl ?_
    refine SX.val rfl (Val.nilCheck rfl) (by simp) rfl rfl ?_
    refine SX.val rfl (Val.fieldAddr tabOk rfl rfl rfl rfl rfl) (by simp) rfl rfl ?_
    refine SX.val rfl (Val.load1 tabOk rfl rfl (by first|(apply Or.inl;(repeat first|assumption|exact m0|apply m1);done)|(apply Or.inr;(repeat first|assumption|exact m0|apply m1);done)) List.not_mem_nil (by rfl)) (by simp) rfl rfl ?_
    refine SX.val rfl (Val.loadA tabOk rfl rfl rfl (by first|(apply Or.inl;(repeat first|assumption|exact m0|apply m1);done)|(apply Or.inr;(repeat first|assumption|exact m0|apply m1);done)) List.not_mem_nil (dgC_len _)) (by first | (simp [mids, It.mids, ownPc, mapPc]; done) | (intro k hk; simp [mids, It.mids, ownPc, mapPc, mapAtPc] at hk ⊢; grind)) rfl rfl ?_
    refine SX.nil ?_
    refine SE.effZ rfl (Eff.mapDel (a := v) (m' := (decO c (some v))) dg_fit Try.underlying77 rfl (by repeat first|assumption|exact Upd.here|apply Upd.there) rfl (dg_is _) trivial (dec_del (by omega))) rfl rfl ?_
    rintro _ _ ⟨rfl, rfl⟩
    refine SE.seq ?_
    refine SC.seq ?_
    refine SC.drawZ [] (.q 0 (.q 1 (.q 2 (.q 3 (.q 4 (.q 5 .nil)))))) (by kernel_rfl) (by kernel_rfl) ?_
    refine SX.val rfl (Val.move rfl) (by simp) rfl rfl ?_
    refine SX.val rfl (Val.nilCheck rfl) (by simp) rfl rfl ?_
    refine SX.val rfl (Val.fieldAddr tabOk rfl rfl rfl rfl rfl) (by simp) rfl rfl ?_
    refine SX.val rfl (Val.load1 tabOk rfl rfl (by first|(apply Or.inl;(repeat first|assumption|exact m0|apply m1);done)|(apply Or.inr;(repeat first|assumption|exact m0|apply m1);done)) List.not_mem_nil (by rfl)) (by first | (simp [mids, It.mids, ownPc, mapPc]; done) | (intro k hk; simp [mids, It.mids, ownPc, mapPc, mapAtPc] at hk ⊢; grind)) rfl rfl ?_
    refine SX.val rfl (Val.move rfl) (by simp) rfl rfl ?_
    refine SX.val rfl (Val.loadA tabOk rfl rfl rfl (by first|(apply Or.inl;(repeat first|assumption|exact m0|apply m1);done)|(apply Or.inr;(repeat first|assumption|exact m0|apply m1);done)) List.not_mem_nil (dgC_len _)) (by first | (simp [mids, It.mids, ownPc, mapPc]; done) | (intro k hk; simp [mids, It.mids, ownPc, mapPc, mapAtPc] at hk ⊢; grind)) rfl rfl ?_
    refine SX.nil ?_
    refine SE.effZ rfl (Eff.mapPut (a := who) (v := k) (m' := aput m who k) (int_fit Try.underlying3) Try.underlying76 rfl (by repeat first|assumption|exact Upd.here|apply Upd.there) rfl is_v hw rfl (dg_is _) rfl) rfl rfl ?_
    rintro _ _ ⟨rfl, rfl⟩
    refine SE.seq ?_
    refine SC.known (p := t ∉ [bn] ∧ b5 ∉ [bn]) (fun _ _ h => by
        have h1 := h.mem.nodup
        simp [mids, It.mids, mapPc, ownPc] at h1 ⊢
        grind) fun hX => ?_
    refine SC.draw [bn] (.q 0 (.q 1 (.q 2 (.q 3 (.q 4 (.two 5 7 (.q 6 (.e 7 (.q 8 (.e 9 .nil)))) (.q 8 (.e 5 (.q 6 (.e 9 .nil)))))))))) (by kernel_rfl) (by kernel_rfl) ?_
    refine SX.val rfl (Val.move rfl) (by first | (simp [mids, It.mids, ownPc, mapPc]; done) | (intro k hk; simp [mids, It.mids, ownPc, mapPc, mapAtPc] at hk ⊢; grind)) rfl rfl ?_
    refine SX.val rfl (Val.nilCheck rfl) (by first | (simp [mids, It.mids, ownPc, mapPc]; done) | (intro k hk; simp [mids, It.mids, ownPc, mapPc, mapAtPc] at hk ⊢; grind)) rfl rfl ?_
    refine SX.val rfl (Val.fieldAddr tabOk rfl rfl rfl rfl rfl) (by first | (simp [mids, It.mids, ownPc, mapPc]; done) | (intro k hk; simp [mids, It.mids, ownPc, mapPc, mapAtPc] at hk ⊢; grind)) rfl rfl ?_
    refine SX.val rfl (Val.load1 tabOk rfl rfl (by first|(apply Or.inl;(repeat first|assumption|exact m0|apply m1);done)|(apply Or.inr;(repeat first|assumption|exact m0|apply m1);done)) (by first | exact hX.1 | exact hX.2) (by rfl)) (by first | (simp [mids, It.mids, ownPc, mapPc]; done) | (intro k hk; simp [mids, It.mids, ownPc, mapPc, mapAtPc] at hk ⊢; grind)) rfl rfl ?_
    refine SX.val rfl (Val.loadA tabOk rfl rfl rfl (by first|(apply Or.inl;(repeat first|assumption|exact m0|apply m1);done)|(apply Or.inr;(repeat first|assumption|exact m0|apply m1);done)) (by first | exact hX.1 | exact hX.2) (dgC_len _)) (by first | (simp [mids, It.mids, ownPc, mapPc]; done) | (intro k hk; simp [mids, It.mids, ownPc, mapPc, mapAtPc] at hk ⊢; grind)) rfl rfl ?_
    refine SX.two ?_ ?_
    · skip
      first
        | (refine SX.valE rfl (Val.mapGet (a := k) (zv := cntV 0) (C := int ((cget (decO c (some v)) k : Nat) : Int)) dg_fit Try.underlying77 int_zero rfl ?_ List.not_mem_nil rfl (dg_is _) trivial (cget_is _ _)) rfl rfl ?_; focus (apply Or.inl; (repeat first|assumption|exact m0|apply m1); done))
        | (refine SX.valE rfl (Val.mapGetAt (a := k) (a' := k) (s := s54) (zv := cntV 0) (C := int ((cget (decO c (some v)) k : Nat) : Int)) dg_fit Try.underlying77 int_zero rfl ?_ rfl (dg_is _) trivial (cget_ent_is _ _)) rfl rfl ?_; focus ((repeat first|assumption|exact m0|apply m1); done))
      refine SX.val rfl (Val.to (C := int ((cget (decO c (some v)) k + 1 : Nat) : Int)) (Val.addI rfl rfl (by have := hti.dec_le (aget m who) k; rw [hv] at this; have e : cget (decO c (some v)) k ≤ m.length := this; simp only [InR, lo, hi]; omega)) (congrArg int (by omega))) (by first | (simp [mids, It.mids, ownPc, mapPc]; done) | (intro k hk; simp [mids, It.mids, ownPc, mapPc, mapAtPc] at hk ⊢; grind)) rfl rfl ?_
      refine SX.eff rfl (Eff.mapEntry (a := k) (zv := 0) (V := cntV) (C := int ((cget (decO c (some v)) k : Nat) : Int)) dg_fit Try.underlying77 int_zero rfl (fun s => (by repeat first|assumption|exact Upd.here|apply Upd.there)) rfl (dg_is _) trivial (cget_is _ _)) (by simp) rfl rfl ?_
      rintro _ _ ⟨s54, rfl, rfl⟩
      refine SX.val rfl (Val.extract rfl rfl) (by first | (simp [mids, It.mids, ownPc, mapPc]; done) | (intro k hk; simp [mids, It.mids, ownPc, mapPc, mapAtPc] at hk ⊢; grind)) rfl rfl ?_
      refine SX.eff rfl (Eff.entryStore (v := cget (decO c (some v)) k + 1) (m' := aput (decO c (some v)) k (cget (decO c (some v)) k + 1)) rfl (by repeat first|assumption|exact Upd.here|apply Upd.there) rfl rfl is_v (aput_aent _ _ _ _)) (by simp) rfl rfl ?_
      rintro _ _ ⟨rfl, rfl⟩
      refine SX.nil ?_
      refine SE.finN (rs := []) rfl RV.nil (()) (by rw [chgC_old hv]; repeat (first | exact List.nil_sublist _ | exact List.Sublist.refl _ | apply List.Sublist.cons_cons | apply List.Sublist.cons)) (by simp [It.rids]) ?_
      exact rfl
    · skip
      refine SX.eff rfl (Eff.mapEntry (a := k) (zv := 0) (V := cntV) (C := int ((cget (decO c (some v)) k : Nat) : Int)) dg_fit Try.underlying77 int_zero rfl (fun s => (by repeat first|assumption|exact Upd.here|apply Upd.there)) rfl (dg_is _) trivial (cget_is _ _)) (by simp) rfl rfl ?_
      rintro _ _ ⟨s54, rfl, rfl⟩
      refine SX.val rfl (Val.extract rfl rfl) (by first | (simp [mids, It.mids, ownPc, mapPc]; done) | (intro k hk; simp [mids, It.mids, ownPc, mapPc, mapAtPc] at hk ⊢; grind)) rfl rfl ?_
      first
        | (refine SX.valE rfl (Val.mapGet (a := k) (zv := cntV 0) (C := int ((cget (decO c (some v)) k : Nat) : Int)) dg_fit Try.underlying77 int_zero rfl ?_ List.not_mem_nil rfl (dg_is _) trivial (cget_is _ _)) rfl rfl ?_; focus (apply Or.inl; (repeat first|assumption|exact m0|apply m1); done))
        | (refine SX.valE rfl (Val.mapGetAt (a := k) (a' := k) (s := s54) (zv := cntV 0) (C := int ((cget (decO c (some v)) k : Nat) : Int)) dg_fit Try.underlying77 int_zero rfl ?_ rfl (dg_is _) trivial (cget_ent_is _ _)) rfl rfl ?_; focus ((repeat first|assumption|exact m0|apply m1); done))
      refine SX.val rfl (Val.to (C := int ((cget (decO c (some v)) k + 1 : Nat) : Int)) (Val.addI rfl rfl (by have := hti.dec_le (aget m who) k; rw [hv] at this; have e : cget (decO c (some v)) k ≤ m.length := this; simp only [InR, lo, hi]; omega)) (congrArg int (by omega))) (by first | (simp [mids, It.mids, ownPc, mapPc]; done) | (intro k hk; simp [mids, It.mids, ownPc, mapPc, mapAtPc] at hk ⊢; grind)) rfl rfl ?_
      refine SX.eff rfl (Eff.entryStore (v := cget (decO c (some v)) k + 1) (m' := aput (decO c (some v)) k (cget (decO c (some v)) k + 1)) rfl (by repeat first|assumption|exact Upd.here|apply Upd.there) rfl rfl is_v (aput_aent _ _ _ _)) (by simp) rfl rfl ?_
      rintro _ _ ⟨rfl, rfl⟩
      refine SX.nil ?_
      refine SE.finN (rs := []) rfl RV.nil (()) (by rw [chgC_old hv]; repeat (first | exact List.nil_sublist _ | exact List.Sublist.refl _ | apply List.Sublist.cons_cons | apply List.Sublist.cons)) (by simp [It.rids]) ?_
      exact rfl
  · skip
    refine SX.eff rfl (Eff.mapEntry (a := v) (zv := 0) (V := cntV) (C := int ((cget c v : Nat) : Int)) dg_fit Try.underlying77 int_zero rfl (fun s => (by repeat first|assumption|exact Upd.here|apply Upd.there)) rfl (dg_is _) trivial (cget_is _ _)) (by simp) rfl rfl ?_
    rintro _ _ ⟨s27, rfl, rfl⟩
    refine SX.val rfl (Val.extract rfl rfl) (by first | (simp [mids, It.mids, ownPc, mapPc]; done) | (intro k hk; simp [mids, It.mids, ownPc, mapPc, mapAtPc] at hk ⊢; grind)) rfl rfl ?_
    first
      | (refine SX.valE rfl (Val.mapGet (a := v) (zv := cntV 0) (C := int ((cget c v : Nat) : Int)) dg_fit Try.underlying77 int_zero rfl ?_ List.not_mem_nil rfl (dg_is _) trivial (cget_is _ _)) rfl rfl ?_; focus (apply Or.inl; (repeat first|assumption|exact m0|apply m1); done))
      | (refine SX.valE rfl (Val.mapGetAt (a := v) (a' := v) (s := s27) (zv := cntV 0) (C := int ((cget c v : Nat) : Int)) dg_fit Try.underlying77 int_zero rfl ?_ rfl (dg_is _) trivial (cget_ent_is _ _)) rfl rfl ?_; focus ((repeat first|assumption|exact m0|apply m1); done))
    refine SX.val rfl (Val.to (C := int ((cget c v - 1 : Nat) : Int)) (Val.subI rfl rfl (by have := hti.le v; simp only [InR, lo, hi]; omega)) (congrArg int (by have := hti.pos hv; omega))) (by first | (simp [mids, It.mids, ownPc, mapPc]; done) | (intro k hk; simp [mids, It.mids, ownPc, mapPc, mapAtPc] at hk ⊢; grind)) rfl rfl ?_
    refine SX.eff rfl (Eff.entryStore (v := cget c v - 1) (m' := aput c v (cget c v - 1)) rfl (by repeat first|assumption|exact Upd.here|apply Upd.there) rfl rfl is_v (aput_aent _ _ _ _)) (by simp) rfl rfl ?_
    rintro _ _ ⟨rfl, rfl⟩
    refine SX.nil (SE.seq ?_)
    refine SC.seq ?_
    refine SC.draw [] (.q 0 (.q 1 (.q 2 (.q 3 (.q 4 (.q 5 (.q 6 .nil))))))) (by kernel_rfl) (by kernel_rfl) ?_
    refine SX.val rfl (Val.move rfl) (by simp) rfl rfl ?_
    refine SX.val rfl (Val.nilCheck rfl) (by simp) rfl rfl ?_
    refine SX.val rfl (Val.fieldAddr tabOk rfl rfl rfl rfl rfl) (by simp) rfl rfl ?_
    refine SX.val rfl (Val.load1 tabOk rfl rfl (by first|(apply Or.inl;(repeat first|assumption|exact m0|apply m1);done)|(apply Or.inr;(repeat first|assumption|exact m0|apply m1);done)) List.not_mem_nil (by rfl)) (by simp) rfl rfl ?_
    refine SX.val rfl (Val.loadA tabOk rfl rfl rfl (by first|(apply Or.inl;(repeat first|assumption|exact m0|apply m1);done)|(apply Or.inr;(repeat first|assumption|exact m0|apply m1);done)) List.not_mem_nil (dgC_len _)) (by first | (simp [mids, It.mids, ownPc, mapPc]; done) | (intro k hk; simp [mids, It.mids, ownPc, mapPc, mapAtPc] at hk ⊢; grind)) rfl rfl ?_
    refine SX.val rfl (Val.mapGet (a := v) (zv := cntV 0) (C := int ((cget (aput c v (cget c v - 1)) v : Nat) : Int)) dg_fit Try.underlying77 int_zero rfl (by first|(apply Or.inl;(repeat first|assumption|exact m0|apply m1);done)|(apply Or.inr;(repeat first|assumption|exact m0|apply m1);done)) List.not_mem_nil rfl (dg_is _) trivial (cget_is _ _)) (by first | (simp [mids, It.mids, ownPc, mapPc]; done) | (intro k hk; simp [mids, It.mids, ownPc, mapPc, mapAtPc] at hk ⊢; grind)) rfl rfl ?_
    refine SX.val rfl (Val.eqI rfl rfl) (by simp) rfl rfl ?_
    refine SX.nil (SE.seq ?_)
    refine SC.condP rfl ?_ ?_
    rotate_left
    · intro hc35
      rw [show (aput c v (cget c v - 1)) = (decO c (some v)) from (dec_keep (by omega)).symm]
      refine SC.skip ?_
      refine SE.seq ?_
      refine SC.seq ?_
      refine SC.drawZ [] (.q 0 (.q 1 (.q 2 (.q 3 (.q 4 (.q 5 .nil)))))) (by kernel_rfl) (by kernel_rfl) ?_
      refine SX.val rfl (Val.move rfl) (by simp) rfl rfl ?_
      refine SX.val rfl (Val.nilCheck rfl) (by simp) rfl rfl ?_
      refine SX.val rfl (Val.fieldAddr tabOk rfl rfl rfl rfl rfl) (by simp) rfl rfl ?_
      refine SX.val rfl (Val.load1 tabOk rfl rfl (by first|(apply Or.inl;(repeat first|assumption|exact m0|apply m1);done)|(apply Or.inr;(repeat first|assumption|exact m0|apply m1);done)) List.not_mem_nil (by rfl)) (by first | (simp [mids, It.mids, ownPc, mapPc]; done) | (intro k hk; simp [mids, It.mids, ownPc, mapPc, mapAtPc] at hk ⊢; grind)) rfl rfl ?_
      refine SX.val rfl (Val.move rfl) (by simp) rfl rfl ?_
      refine SX.val rfl (Val.loadA tabOk rfl rfl rfl (by first|(apply Or.inl;(repeat first|assumption|exact m0|apply m1);done)|(apply Or.inr;(repeat first|assumption|exact m0|apply m1);done)) List.not_mem_nil (dgC_len _)) (by first | (simp [mids, It.mids, ownPc, mapPc]; done) | (intro k hk; simp [mids, It.mids, ownPc, mapPc, mapAtPc] at hk ⊢; grind)) rfl rfl ?_
      refine SX.nil ?_
      refine SE.effZ rfl (Eff.mapPut (a := who) (v := k) (m' := aput m who k) (int_fit Try.underlying3) Try.underlying76 rfl (by repeat first|assumption|exact Upd.here|apply Upd.there) rfl is_v hw rfl (dg_is _) rfl) rfl rfl ?_
      rintro _ _ ⟨rfl, rfl⟩
      refine SE.seq ?_
      refine SC.known (p := t ∉ [bn] ∧ b5 ∉ [bn]) (fun _ _ h => by
          have h1 := h.mem.nodup
          simp [mids, It.mids, mapPc, ownPc] at h1 ⊢
          grind) fun hX => ?_
      refine SC.draw [bn] (.q 0 (.q 1 (.q 2 (.q 3 (.q 4 (.two 5 7 (.q 6 (.e 7 (.q 8 (.e 9 .nil)))) (.q 8 (.e 5 (.q 6 (.e 9 .nil)))))))))) (by kernel_rfl) (by kernel_rfl) ?_
      refine SX.val rfl (Val.move rfl) (by first | (simp [mids, It.mids, ownPc, mapPc]; done) | (intro k hk; simp [mids, It.mids, ownPc, mapPc, mapAtPc] at hk ⊢; grind)) rfl rfl ?_
      refine SX.val rfl (Val.nilCheck rfl) (by first | (simp [mids, It.mids, ownPc, mapPc]; done) | (intro k hk; simp [mids, It.mids, ownPc, mapPc, mapAtPc] at hk ⊢; grind)) rfl rfl ?_
      refine SX.val rfl (Val.fieldAddr tabOk rfl rfl rfl rfl rfl) (by first | (simp [mids, It.mids, ownPc, mapPc]; done) | (intro k hk; simp [mids, It.mids, ownPc, mapPc, mapAtPc] at hk ⊢; grind)) rfl rfl ?_
      refine SX.val rfl (Val.load1 tabOk rfl rfl (by first|(apply Or.inl;(repeat first|assumption|exact m0|apply m1);done)|(apply Or.inr;(repeat first|assumption|exact m0|apply m1);done)) (by first | exact hX.1 | exact hX.2) (by rfl)) (by first | (simp [mids, It.mids, ownPc, mapPc]; done) | (intro k hk; simp [mids, It.mids, ownPc, mapPc, mapAtPc] at hk ⊢; grind)) rfl rfl ?_
      refine SX.val rfl (Val.loadA tabOk rfl rfl rfl (by first|(apply Or.inl;(repeat first|assumption|exact m0|apply m1);done)|(apply Or.inr;(repeat first|assumption|exact m0|apply m1);done)) (by first | exact hX.1 | exact hX.2) (dgC_len _)) (by first | (simp [mids, It.mids, ownPc, mapPc]; done) | (intro k hk; simp [mids, It.mids, ownPc, mapPc, mapAtPc] at hk ⊢; grind)) rfl rfl ?_
      refine SX.two ?_ ?_
      · skip
        first
          | (refine SX.valE rfl (Val.mapGet (a := k) (zv := cntV 0) (C := int ((cget (decO c (some v)) k : Nat) : Int)) dg_fit Try.underlying77 int_zero rfl ?_ List.not_mem_nil rfl (dg_is _) trivial (cget_is _ _)) rfl rfl ?_; focus (apply Or.inl; (repeat first|assumption|exact m0|apply m1); done))
          | (refine SX.valE rfl (Val.mapGetAt (a := k) (a' := k) (s := s54) (zv := cntV 0) (C := int ((cget (decO c (some v)) k : Nat) : Int)) dg_fit Try.underlying77 int_zero rfl ?_ rfl (dg_is _) trivial (cget_ent_is _ _)) rfl rfl ?_; focus ((repeat first|assumption|exact m0|apply m1); done))
        refine SX.val rfl (Val.to (C := int ((cget (decO c (some v)) k + 1 : Nat) : Int)) (Val.addI rfl rfl (by have := hti.dec_le (aget m who) k; rw [hv] at this; have e : cget (decO c (some v)) k ≤ m.length := this; simp only [InR, lo, hi]; omega)) (congrArg int (by omega))) (by first | (simp [mids, It.mids, ownPc, mapPc]; done) | (intro k hk; simp [mids, It.mids, ownPc, mapPc, mapAtPc] at hk ⊢; grind)) rfl rfl ?_
        refine SX.eff rfl (Eff.mapEntry (a := k) (zv := 0) (V := cntV) (C := int ((cget (decO c (some v)) k : Nat) : Int)) dg_fit Try.underlying77 int_zero rfl (fun s => (by repeat first|assumption|exact Upd.here|apply Upd.there)) rfl (dg_is _) trivial (cget_is _ _)) (by simp) rfl rfl ?_
        rintro _ _ ⟨s54, rfl, rfl⟩
        refine SX.val rfl (Val.extract rfl rfl) (by first | (simp [mids, It.mids, ownPc, mapPc]; done) | (intro k hk; simp [mids, It.mids, ownPc, mapPc, mapAtPc] at hk ⊢; grind)) rfl rfl ?_
        refine SX.eff rfl (Eff.entryStore (v := cget (decO c (some v)) k + 1) (m' := aput (decO c (some v)) k (cget (decO c (some v)) k + 1)) rfl (by repeat first|assumption|exact Upd.here|apply Upd.there) rfl rfl is_v (aput_aent _ _ _ _)) (by simp) rfl rfl ?_
        rintro _ _ ⟨rfl, rfl⟩
        refine SX.nil ?_
        refine SE.finN (rs := []) rfl RV.nil (()) (by rw [chgC_old hv]; repeat (first | exact List.nil_sublist _ | exact List.Sublist.refl _ | apply List.Sublist.cons_cons | apply List.Sublist.cons)) (by simp [It.rids]) ?_
        exact rfl
      · skip
        refine SX.eff rfl (Eff.mapEntry (a := k) (zv := 0) (V := cntV) (C := int ((cget (decO c (some v)) k : Nat) : Int)) dg_fit Try.underlying77 int_zero rfl (fun s => (by repeat first|assumption|exact Upd.here|apply Upd.there)) rfl (dg_is _) trivial (cget_is _ _)) (by simp) rfl rfl ?_
        rintro _ _ ⟨s54, rfl, rfl⟩
        refine SX.val rfl (Val.extract rfl rfl) (by first | (simp [mids, It.mids, ownPc, mapPc]; done) | (intro k hk; simp [mids, It.mids, ownPc, mapPc, mapAtPc] at hk ⊢; grind)) rfl rfl ?_
        first
          | (refine SX.valE rfl (Val.mapGet (a := k) (zv := cntV 0) (C := int ((cget (decO c (some v)) k : Nat) : Int)) dg_fit Try.underlying77 int_zero rfl ?_ List.not_mem_nil rfl (dg_is _) trivial (cget_is _ _)) rfl rfl ?_; focus (apply Or.inl; (repeat first|assumption|exact m0|apply m1); done))
          | (refine SX.valE rfl (Val.mapGetAt (a := k) (a' := k) (s := s54) (zv := cntV 0) (C := int ((cget (decO c (some v)) k : Nat) : Int)) dg_fit Try.underlying77 int_zero rfl ?_ rfl (dg_is _) trivial (cget_ent_is _ _)) rfl rfl ?_; focus ((repeat first|assumption|exact m0|apply m1); done))
        refine SX.val rfl (Val.to (C := int ((cget (decO c (some v)) k + 1 : Nat) : Int)) (Val.addI rfl rfl (by have := hti.dec_le (aget m who) k; rw [hv] at this; have e : cget (decO c (some v)) k ≤ m.length := this; simp only [InR, lo, hi]; omega)) (congrArg int (by omega))) (by first | (simp [mids, It.mids, ownPc, mapPc]; done) | (intro k hk; simp [mids, It.mids, ownPc, mapPc, mapAtPc] at hk ⊢; grind)) rfl rfl ?_
        refine SX.eff rfl (Eff.entryStore (v := cget (decO c (some v)) k + 1) (m' := aput (decO c (some v)) k (cget (decO c (some v)) k + 1)) rfl (by repeat first|assumption|exact Upd.here|apply Upd.there) rfl rfl is_v (aput_aent _ _ _ _)) (by simp) rfl rfl ?_
        rintro _ _ ⟨rfl, rfl⟩
        refine SX.nil ?_
        refine SE.finN (rs := []) rfl RV.nil (()) (by rw [chgC_old hv]; repeat (first | exact List.nil_sublist _ | exact List.Sublist.refl _ | apply List.Sublist.cons_cons | apply List.Sublist.cons)) (by simp [It.rids]) ?_
        exact rfl
    intro hc35
    refine SC.drawZ [] (.q 0 (.q 1 (.q 2 (.q 3 (.q 4 .nil))))) (by kernel_rfl) (by kernel_rfl) ?_
    refine SX.val rfl (Val.move rfl) (by simp) rfl rfl ?_
    refine SX.val rfl (Val.nilCheck rfl) (by simp) rfl rfl ?_
    refine SX.val rfl (Val.fieldAddr tabOk rfl rfl rfl rfl rfl) (by simp) rfl rfl ?_
    refine SX.val rfl (Val.load1 tabOk rfl rfl (by first|(apply Or.inl;(repeat first|assumption|exact m0|apply m1);done)|(apply Or.inr;(repeat first|assumption|exact m0|apply m1);done)) List.not_mem_nil (by rfl)) (by simp) rfl rfl ?_
    refine SX.val rfl (Val.loadA tabOk rfl rfl rfl (by first|(apply Or.inl;(repeat first|assumption|exact m0|apply m1);done)|(apply Or.inr;(repeat first|assumption|exact m0|apply m1);done)) List.not_mem_nil (dgC_len _)) (by first | (simp [mids, It.mids, ownPc, mapPc]; done) | (intro k hk; simp [mids, It.mids, ownPc, mapPc, mapAtPc] at hk ⊢; grind)) rfl rfl ?_
    refine SX.nil ?_
    refine SE.effZ rfl (Eff.mapDel (a := v) (m' := (decO c (some v))) dg_fit Try.underlying77 rfl (by repeat first|assumption|exact Upd.here|apply Upd.there) rfl (dg_is _) trivial (dec_del (by omega))) rfl rfl ?_
    rintro _ _ ⟨rfl, rfl⟩
    refine SE.seq ?_
    refine SC.seq ?_
    refine SC.drawZ [] (.q 0 (.q 1 (.q 2 (.q 3 (.q 4 (.q 5 .nil)))))) (by kernel_rfl) (by kernel_rfl) ?_
    refine SX.val rfl (Val.move rfl) (by simp) rfl rfl ?_
    refine SX.val rfl (Val.nilCheck rfl) (by simp) rfl rfl ?_
    refine SX.val rfl (Val.fieldAddr tabOk rfl rfl rfl rfl rfl) (by simp) rfl rfl ?_
    refine SX.val rfl (Val.load1 tabOk rfl rfl (by first|(apply Or.inl;(repeat first|assumption|exact m0|apply m1);done)|(apply Or.inr;(repeat first|assumption|exact m0|apply m1);done)) List.not_mem_nil (by rfl)) (by first | (simp [mids, It.mids, ownPc, mapPc]; done) | (intro k hk; simp [mids, It.mids, ownPc, mapPc, mapAtPc] at hk ⊢; grind)) rfl rfl ?_
    refine SX.val rfl (Val.move rfl) (by simp) rfl rfl ?_
    refine SX.val rfl (Val.loadA tabOk rfl rfl rfl (by first|(apply Or.inl;(repeat first|assumption|exact m0|apply m1);done)|(apply Or.inr;(repeat first|assumption|exact m0|apply m1);done)) List.not_mem_nil (dgC_len _)) (by first | (simp [mids, It.mids, ownPc, mapPc]; done) | (intro k hk; simp [mids, It.mids, ownPc, mapPc, mapAtPc] at hk ⊢; grind)) rfl rfl ?_
    refine SX.nil ?_
    refine SE.effZ rfl (Eff.mapPut (a := who) (v := k) (m' := aput m who k) (int_fit Try.underlying3) Try.underlying76 rfl (by repeat first|assumption|exact Upd.here|apply Upd.there) rfl is_v hw rfl (dg_is _) rfl) rfl rfl ?_
    rintro _ _ ⟨rfl, rfl⟩
    refine SE.seq ?_
    refine SC.known (p := t ∉ [bn] ∧ b5 ∉ [bn]) (fun _ _ h => by
        have h1 := h.mem.nodup
        simp [mids, It.mids, mapPc, ownPc] at h1 ⊢
        grind) fun hX => ?_
    refine SC.draw [bn] (.q 0 (.q 1 (.q 2 (.q 3 (.q 4 (.two 5 7 (.q 6 (.e 7 (.q 8 (.e 9 .nil)))) (.q 8 (.e 5 (.q 6 (.e 9 .nil)))))))))) (by kernel_rfl) (by kernel_rfl) ?_
    refine SX.val rfl (Val.move rfl) (by first | (simp [mids, It.mids, ownPc, mapPc]; done) | (intro k hk; simp [mids, It.mids, ownPc, mapPc, mapAtPc] at hk ⊢; grind)) rfl rfl ?_
    refine SX.val rfl (Val.nilCheck rfl) (by first | (simp [mids, It.mids, ownPc, mapPc]; done) | (intro k hk; simp [mids, It.mids, ownPc, mapPc, mapAtPc] at hk ⊢; grind)) rfl rfl ?_
    refine SX.val rfl (Val.fieldAddr tabOk rfl rfl rfl rfl rfl) (by first | (simp [mids, It.mids, ownPc, mapPc]; done) | (intro k hk; simp [mids, It.mids, ownPc, mapPc, mapAtPc] at hk ⊢; grind)) rfl rfl ?_
    refine SX.val rfl (Val.load1 tabOk rfl rfl (by first|(apply Or.inl;(repeat first|assumption|exact m0|apply m1);done)|(apply Or.inr;(repeat first|assumption|exact m0|apply m1);done)) (by first | exact hX.1 | exact hX.2) (by rfl)) (by first | (simp [mids, It.mids, ownPc, mapPc]; done) | (intro k hk; simp [mids, It.mids, ownPc, mapPc, mapAtPc] at hk ⊢; grind)) rfl rfl ?_
    refine SX.val rfl (Val.loadA tabOk rfl rfl rfl (by first|(apply Or.inl;(repeat first|assumption|exact m0|apply m1);done)|(apply Or.inr;(repeat first|assumption|exact m0|apply m1);done)) (by first | exact hX.1 | exact hX.2) (dgC_len _)) (by first | (simp [mids, It.mids, ownPc, mapPc]; done) | (intro k hk; simp [mids, It.mids, ownPc, mapPc, mapAtPc] at hk ⊢; grind)) rfl rfl ?_
    refine SX.two ?_ ?_
    · skip
      first
        | (refine SX.valE rfl (Val.mapGet (a := k) (zv := cntV 0) (C := int ((cget (decO c (some v)) k : Nat) : Int)) dg_fit Try.underlying77 int_zero rfl ?_ List.not_mem_nil rfl (dg_is _) trivial (cget_is _ _)) rfl rfl ?_; focus (apply Or.inl; (repeat first|assumption|exact m0|apply m1); done))
        | (refine SX.valE rfl (Val.mapGetAt (a := k) (a' := k) (s := s54) (zv := cntV 0) (C := int ((cget (decO c (some v)) k : Nat) : Int)) dg_fit Try.underlying77 int_zero rfl ?_ rfl (dg_is _) trivial (cget_ent_is _ _)) rfl rfl ?_; focus ((repeat first|assumption|exact m0|apply m1); done))
      refine SX.val rfl (Val.to (C := int ((cget (decO c (some v)) k + 1 : Nat) : Int)) (Val.addI rfl rfl (by have := hti.dec_le (aget m who) k; rw [hv] at this; have e : cget (decO c (some v)) k ≤ m.length := this; simp only [InR, lo, hi]; omega)) (congrArg int (by omega))) (by first | (simp [mids, It.mids, ownPc, mapPc]; done) | (intro k hk; simp [mids, It.mids, ownPc, mapPc, mapAtPc] at hk ⊢; grind)) rfl rfl ?_
      refine SX.eff rfl (Eff.mapEntry (a := k) (zv := 0) (V := cntV) (C := int ((cget (decO c (some v)) k : Nat) : Int)) dg_fit Try.underlying77 int_zero rfl (fun s => (by repeat first|assumption|exact Upd.here|apply Upd.there)) rfl (dg_is _) trivial (cget_is _ _)) (by simp) rfl rfl ?_
      rintro _ _ ⟨s54, rfl, rfl⟩
      refine SX.val rfl (Val.extract rfl rfl) (by first | (simp [mids, It.mids, ownPc, mapPc]; done) | (intro k hk; simp [mids, It.mids, ownPc, mapPc, mapAtPc] at hk ⊢; grind)) rfl rfl ?_
      refine SX.eff rfl (Eff.entryStore (v := cget (decO c (some v)) k + 1) (m' := aput (decO c (some v)) k (cget (decO c (some v)) k + 1)) rfl (by repeat first|assumption|exact Upd.here|apply Upd.there) rfl rfl is_v (aput_aent _ _ _ _)) (by simp) rfl rfl ?_
      rintro _ _ ⟨rfl, rfl⟩
      refine SX.nil ?_
      refine SE.finN (rs := []) rfl RV.nil (()) (by rw [chgC_old hv]; repeat (first | exact List.nil_sublist _ | exact List.Sublist.refl _ | apply List.Sublist.cons_cons | apply List.Sublist.cons)) (by simp [It.rids]) ?_
      exact rfl
    · skip
      refine SX.eff rfl (Eff.mapEntry (a := k) (zv := 0) (V := cntV) (C := int ((cget (decO c (some v)) k : Nat) : Int)) dg_fit Try.underlying77 int_zero rfl (fun s => (by repeat first|assumption|exact Upd.here|apply Upd.there)) rfl (dg_is _) trivial (cget_is _ _)) (by simp) rfl rfl ?_
      rintro _ _ ⟨s54, rfl, rfl⟩
      refine SX.val rfl (Val.extract rfl rfl) (by first | (simp [mids, It.mids, ownPc, mapPc]; done) | (intro k hk; simp [mids, It.mids, ownPc, mapPc, mapAtPc] at hk ⊢; grind)) rfl rfl ?_
      first
        | (refine SX.valE rfl (Val.mapGet (a := k) (zv := cntV 0) (C := int ((cget (decO c (some v)) k : Nat) : Int)) dg_fit Try.underlying77 int_zero rfl ?_ List.not_mem_nil rfl (dg_is _) trivial (cget_is _ _)) rfl rfl ?_; focus (apply Or.inl; (repeat first|assumption|exact m0|apply m1); done))
        | (refine SX.valE rfl (Val.mapGetAt (a := k) (a' := k) (s := s54) (zv := cntV 0) (C := int ((cget (decO c (some v)) k : Nat) : Int)) dg_fit Try.underlying77 int_zero rfl ?_ rfl (dg_is _) trivial (cget_ent_is _ _)) rfl rfl ?_; focus ((repeat first|assumption|exact m0|apply m1); done))
      refine SX.val rfl (Val.to (C := int ((cget (decO c (some v)) k + 1 : Nat) : Int)) (Val.addI rfl rfl (by have := hti.dec_le (aget m who) k; rw [hv] at this; have e : cget (decO c (some v)) k ≤ m.length := this; simp only [InR, lo, hi]; omega)) (congrArg int (by omega))) (by first | (simp [mids, It.mids, ownPc, mapPc]; done) | (intro k hk; simp [mids, It.mids, ownPc, mapPc, mapAtPc] at hk ⊢; grind)) rfl rfl ?_
      refine SX.eff rfl (Eff.entryStore (v := cget (decO c (some v)) k + 1) (m' := aput (decO c (some v)) k (cget (decO c (some v)) k + 1)) rfl (by repeat first|assumption|exact Upd.here|apply Upd.there) rfl rfl is_v (aput_aent _ _ _ _)) (by simp) rfl rfl ?_
      rintro _ _ ⟨rfl, rfl⟩
      refine SX.nil ?_
      refine SE.finN (rs := []) rfl RV.nil (()) (by rw [chgC_old hv]; repeat (first | exact List.nil_sublist _ | exact List.Sublist.refl _ | apply List.Sublist.cons_cons | apply List.Sublist.cons)) (by simp [It.rids]) ?_
      exact rfl
set_option maxHeartbeats 2000000 in
theorem dg_addO_s (hw : intOk who) (hti : TInv m c) (hl : m.length ≤ 1000)  (hv : aget m who = some v) : Spec Try.prog 30 [ptr t, int who, dgE k] [.blk t 79 [mapV bv, mapV bn], .pc (mapPc bv intK dgV intOk m), .pc (mapPc bn dgV cntV dgTop c)] (fun _ : Unit => [.blk t 79 [mapV bv, mapV bn], .pc (mapPc bv intK dgV intOk m), .pc (mapPc bn dgV cntV dgTop c)]) (fun _ => boo (decide (v = k))) := by
  refine spec_of Try.func30 rfl Try.ntmps30 rfl fun G w => ?_
  refine SC.seq (SC.region ?_)
  refine SL.eff (Eff.boxA (cs := dgC k) rfl) rfl rfl ?_
  rintro _ _ ⟨b5, rfl, rfl⟩
  refine SL.val (Val.assign rfl) rfl rfl ?_
  refine SL.nil (SE.seq ?_)
  refine SC.seq ?_
  refine SC.seq (SC.region ?_)
  refine SL.val (Val.move rfl) rfl rfl ?_
  refine SL.val (Val.eqP rfl rfl (by kernel_rfl)) rfl rfl ?_
  refine SL.nil (SE.seq ?_)
  refine SC.condF rfl ?_
  refine SC.skip ?_
  refine SE.seq ?_
  refine SC.seq ?_
  refine SC.seq (SC.region ?_)
  refine SL.val (Val.move rfl) rfl rfl ?_
  refine SL.val (Val.nilCheck rfl) rfl rfl ?_
  refine SL.val (Val.fieldAddr tabOk rfl rfl rfl rfl rfl) rfl rfl ?_
  refine SL.val (Val.load1 tabOk rfl rfl (by first|(apply Or.inl;(repeat first|assumption|exact m0|apply m1);done)|(apply Or.inr;(repeat first|assumption|exact m0|apply m1);done)) List.not_mem_nil (by rfl)) rfl rfl ?_
  refine SL.val (Val.move rfl) rfl rfl ?_
  refine SL.val (Val.to (C := .tup [.agg (dgC v), boo true]) (Val.mapGetOk (a := who) (zv := (dgV dg0)) (C := dgA (aget m who)) (int_fit Try.underlying3) Try.underlying76 dg_zero rfl (by first|(apply Or.inl;(repeat first|assumption|exact m0|apply m1);done)|(apply Or.inr;(repeat first|assumption|exact m0|apply m1);done)) List.not_mem_nil rfl is_v hw (dgA_is _)) (by rw [hv]; rfl)) rfl rfl ?_
  refine SL.val (Val.move rfl) rfl rfl ?_
  refine SL.val (Val.extract rfl rfl) rfl rfl ?_
  refine SL.val (Val.extract rfl rfl) rfl rfl ?_
  refine SL.eff (Eff.alloc tabOk rfl) rfl rfl ?_
  rintro _ _ ⟨b7, rfl, rfl⟩
  refine SL.eff (Eff.store (L' := (dgC v)) tabOk rfl rfl rfl (by repeat first|assumption|exact Upd.here|apply Upd.there) (by exact (dgC_len _)) (Nat.le_of_ble_eq_true (by rfl)) (by exact (dgC_ones _)) (putL_whole (by exact (dgC_len _)))) rfl rfl ?_
  rintro _ _ ⟨rfl, rfl⟩
  refine SL.val (Val.assign rfl) rfl rfl ?_
  refine SL.nil (SE.seq ?_)
  refine SC.seq (SC.region ?_)
  refine SL.val (Val.move rfl) rfl rfl ?_
  refine SL.nil (SE.seq ?_)
  refine SC.condT rfl ?_
  refine SC.seq (SC.region ?_)
  refine SL.val (Val.loadA tabOk rfl rfl rfl (by first|(apply Or.inl;(repeat first|assumption|exact m0|apply m1);done)|(apply Or.inr;(repeat first|assumption|exact m0|apply m1);done)) List.not_mem_nil (dgC_len _)) rfl rfl ?_
  refine SL.val (Val.loadA tabOk rfl rfl rfl (by first|(apply Or.inl;(repeat first|assumption|exact m0|apply m1);done)|(apply Or.inr;(repeat first|assumption|exact m0|apply m1);done)) List.not_mem_nil (dgC_len _)) rfl rfl ?_
  refine SL.val (Val.eqA rfl rfl (dg_plains v) (dg_plains k) (by kernel_rfl) (eqDg v k)) rfl rfl ?_
  refine SL.val (Val.assign rfl) rfl rfl ?_
  refine SL.nil (SE.seq ?_)
  refine SC.ret ?_
  refine SE.then_ (by intro h; cases h) ?_
  refine SE.fin (rs := [.tmp 6]) rfl (RV.tmp rfl RV.nil) (()) (by repeat first|exact s0 _|exact s1 _|apply s2|apply s3) (by simp [It.rids]) ?_
  exact rfl
set_option maxHeartbeats 2000000 in
theorem dg_addN_s (hw : intOk who) (hti : TInv m c) (hl : m.length ≤ 1000)  (hv : aget m who = none) : Spec Try.prog 30 [ptr t, int who, dgE k] [.blk t 79 [mapV bv, mapV bn], .pc (mapPc bv intK dgV intOk m), .pc (mapPc bn dgV cntV dgTop c)] (fun _ : Unit => [.blk t 79 [mapV bv, mapV bn], .pc (mapPc bv intK dgV intOk (aput m who k)), .pc (mapPc bn dgV cntV dgTop (chgC m c who k))]) (fun _ => boo true) := by
  refine spec_of Try.func30 rfl Try.ntmps30 rfl fun G w => ?_
  refine SC.seq (SC.region ?_)
  refine SL.eff (Eff.boxA (cs := dgC k) rfl) rfl rfl ?_
  rintro _ _ ⟨b5, rfl, rfl⟩
  refine SL.val (Val.assign rfl) rfl rfl ?_
  refine SL.nil (SE.seq ?_)
  refine SC.seq ?_
  refine SC.seq (SC.region ?_)
  refine SL.val (Val.move rfl) rfl rfl ?_
  refine SL.val (Val.eqP rfl rfl (by kernel_rfl)) rfl rfl ?_
  refine SL.nil (SE.seq ?_)
  refine SC.condF rfl ?_
  refine SC.skip ?_
  refine SE.seq ?_
  refine SC.seq ?_
  refine SC.seq (SC.region ?_)
  refine SL.val (Val.move rfl) rfl rfl ?_
  refine SL.val (Val.nilCheck rfl) rfl rfl ?_
  refine SL.val (Val.fieldAddr tabOk rfl rfl rfl rfl rfl) rfl rfl ?_
  refine SL.val (Val.load1 tabOk rfl rfl (by first|(apply Or.inl;(repeat first|assumption|exact m0|apply m1);done)|(apply Or.inr;(repeat first|assumption|exact m0|apply m1);done)) List.not_mem_nil (by rfl)) rfl rfl ?_
  refine SL.val (Val.move rfl) rfl rfl ?_
  refine SL.val (Val.to (C := .tup [.agg dgZ, boo false]) (Val.mapGetOk (a := who) (zv := (dgV dg0)) (C := dgA (aget m who)) (int_fit Try.underlying3) Try.underlying76 dg_zero rfl (by first|(apply Or.inl;(repeat first|assumption|exact m0|apply m1);done)|(apply Or.inr;(repeat first|assumption|exact m0|apply m1);done)) List.not_mem_nil rfl is_v hw (dgA_is _)) (by rw [hv]; rfl)) rfl rfl ?_
  refine SL.val (Val.move rfl) rfl rfl ?_
  refine SL.val (Val.extract rfl rfl) rfl rfl ?_
  refine SL.val (Val.extract rfl rfl) rfl rfl ?_
  refine SL.eff (Eff.alloc tabOk rfl) rfl rfl ?_
  rintro _ _ ⟨b7, rfl, rfl⟩
  refine SL.eff (Eff.store (L' := dgZ) tabOk rfl rfl rfl (by repeat first|assumption|exact Upd.here|apply Upd.there) (by exact rfl) (Nat.le_of_ble_eq_true (by rfl)) (by exact rfl) (putL_whole (by exact rfl))) rfl rfl ?_
  rintro _ _ ⟨rfl, rfl⟩
  refine SL.val (Val.assign rfl) rfl rfl ?_
  refine SL.nil (SE.seq ?_)
  refine SC.seq (SC.region ?_)
  refine SL.val (Val.move rfl) rfl rfl ?_
  refine SL.nil (SE.seq ?_)
  refine SC.condF rfl ?_
  refine SC.skip ?_
  refine SE.seq ?_
  refine SC.seq (SC.region ?_)
  refine SL.val (Val.move rfl) rfl rfl ?_
  refine SL.val (Val.move rfl) rfl rfl ?_
  refine SL.val (Val.loadA tabOk rfl rfl rfl (by first|(apply Or.inl;(repeat first|assumption|exact m0|apply m1);done)|(apply Or.inr;(repeat first|assumption|exact m0|apply m1);done)) List.not_mem_nil (dgC_len _)) rfl rfl ?_
  refine SL.call (dg_changeN_s (t := t) (bv := bv) (bn := bn) (k := k) hw hti hl hv) Casts.refl (by kernel_rfl) rfl rfl rfl ?_
  refine After.three3 ⟨rfl, rfl, rfl⟩ (fun _ => rfl) ?_
  intro _
  refine SL.nil (SE.seq ?_)
  refine SC.seq (SC.region ?_)
  refine SL.val (Val.assign rfl) rfl rfl ?_
  refine SL.nil (SE.seq ?_)
  refine SC.ret ?_
  refine SE.fin (rs := [.tmp 6]) rfl (RV.tmp rfl RV.nil) (()) (by repeat first|exact s0 _|exact s1 _|apply s2|apply s3) (by simp [It.rids]) ?_
  exact rfl
end
end Go.Proofs.Ytoifikgnbblbgaa.A
