/-
  Packed out of the texts: Y4, Y6.
-/
import Derived.Test.YtonceioajbimaaaG06
import Derived.DataShut
/-
  Tallies of votes of several cells.
-/
set_option maxRecDepth 100000
set_option linter.unusedSimpArgs false
set_option linter.unusedVariables false
namespace Go.Proofs.Ytonceioajbimaaa.A
open Go.RowKit Go.Maps Go.Sort Go.Shelf

theorem After.three3 {ι : Type} {a b x1 x2 x3 : It} {β : Blks} {τ' : ι → Blks} {y1 y2 y3 : ι → It} {K : Blks → ι → Prop} (hr : x1.rids = [] ∧ x2.rids = [] ∧ x3.rids = []) (hτ : ∀ z, τ' z = [y1 z, y2 z, y3 z]) (k : ∀ z, K (a :: b :: y1 z :: y2 z :: y3 z :: β) z) : After (a :: b :: x1 :: x2 :: x3 :: β) [x1, x2, x3] τ' K :=
  After.mid [a, b] (β := β) rfl (by intro x hx; simp only [List.mem_cons, List.not_mem_nil, or_false] at hx; rcases hx with rfl | rfl | rfl; exact hr.1; exact hr.2.1; exact hr.2.2) fun z => by rw [hτ z]; exact k z
theorem After.threeN1 {ι : Type} {a x1 x2 x3 : It} {β : Blks} {τ' : ι → Blks} {y0 y1 y2 y3 : ι → It} {K : Blks → ι → Prop} (hr : x1.rids = [] ∧ x2.rids = [] ∧ x3.rids = []) (hτ : ∀ z, τ' z = [y0 z, y1 z, y2 z, y3 z]) (k : ∀ z, K (a :: y0 z :: y1 z :: y2 z :: y3 z :: β) z) : After (a :: x1 :: x2 :: x3 :: β) [x1, x2, x3] τ' K :=
  After.mid [a] (β := β) rfl (by intro x hx; simp only [List.mem_cons, List.not_mem_nil, or_false] at hx; rcases hx with rfl | rfl | rfl; exact hr.1; exact hr.2.1; exact hr.2.2) fun z => by rw [hτ z]; exact k z
section
variable {α : Type} [DecidableEq α] {m : List (Int × α)} {c : List (α × Nat)} {who : Int} {k v : α}
theorem chgC_new (hv : aget m who = none) : chgC m c who k = aput c k (cget c k + 1) := by
  unfold chgC
  rw [hv]
  rfl
theorem chgC_old (hv : aget m who = some v) : chgC m c who k = aput (decO c (some v)) k (cget (decO c (some v)) k + 1) := by
  unfold chgC
  rw [hv]
theorem cget_ent_is (c : List (α × Nat)) (v : α) : (int ((cget c v : Nat) : Int)).is (((aget (aent c v 0) v).map cntV).getD (cntV 0)) := by
  have h := cget_is (aent c v 0) v
  have e : cget (aent c v 0) v = cget c v := by
    unfold aent
    split
    · rfl
    · next hn =>
      rw [cget_aput, if_pos rfl]
      have : aget c v = none := by simpa using hn
      unfold cget
      rw [this]
      rfl
  rw [e] at h
  exact h
end
section
variable {P : Program} {n : Nat} {W : Wd} {σ : Blks} {l : Slots} {X : List Nat} {x y : Operand} {d : Option Nat} {ty t k e : TypeId} {pos : String} {aft : Array Edge} {g : Option (Nat × Bool)} {b s : Nat} {A C : Abs}
variable {α β : Type} [DecidableEq α] {K : α → Value} {V : β → Value} {Good : α → Prop} {m : List (α × β)} {a a' : α} {zv : Value}
/-- 'm[k]', an entry being under way. -/
theorem Val.mapGetAt (kf : KeyFit P k K Good) (ht : P.underlying t = some (.map k e)) (hz : ∀ w, (zeroValue e).run P w = .ok zv w) (hx : look l x = some (mapV b)) (hb : It.pc (mapAtPc b K V Good m a' s) ∈ σ)
    (hy : look l y = some A) (hA : A.is (K a)) (ha : Good a) (hC : C.is (((aget m a).map V).getD zv)) : Val P n W σ l [] ⟨d, .lookup t x y false, ty, pos, aft, g⟩ C := fun ac w hs _ => by
  have h0 : MapAt w b K V Good m a' s := hs.mem.hold _ hb
  have h1 : MapOf w b K V Good m := by
    obtain ⟨es, clock, h1, h2, h3, h4, h5, h6, _⟩ := h0
    exact ⟨es, clock, h1, h2, h3, h4, h5, h6⟩
  have e1 := hs.plain hx
  have e2 := hA.1 _ _ _ (hs.eval hy)
  refine ⟨((aget m a).map V).getD zv, hC.2 _ _, fun w' hw' => ?_⟩
  simp only [execOp, e1, e2, Sem.run_bind, (h1.ext hw' (by simp)).look_run kf ht (hz w') ha false, Bool.false_eq_true, if_false, Result.andThen_ok, Sem.run_pure]
end
def p9C (x : UInt8) : List Abs := [.v (bc x), .v (bc 9)]
abbrev p9Z : List Abs := [.v (.int .u8 0), .v (.int .u8 0)]
theorem p9C_len (x : UInt8) : (p9C x).length = 2 := rfl
theorem p9C_ones (x : UInt8) : ones (p9C x) = true := rfl
theorem p9_lits (x : UInt8) : Try.prog.keyLits 2 57 [bc x, bc 9] = some [litB x, litB 9] := by
  have hn : Try.prog.cellsOf 57 = 2 := by kernel_rfl
  have hn5 : Try.prog.cellsOf 5 = 1 := by kernel_rfl
  have hx := x.toNat_lt
  have e1 : IntKind.u8.min ≤ (x.toNat : Int) ∧ (x.toNat : Int) ≤ IntKind.u8.max := ⟨by show (0 : Int) ≤ _; omega, by show _ ≤ (255 : Int); omega⟩
  have e2 : IntKind.u8.min ≤ 9 ∧ 9 ≤ IntKind.u8.max := by decide
  simp [Program.keyLits, Try.underlying57, Try.underlying5, hn, hn5, bc, litB, Lit.wf, List.range, List.range.loop, e1, e2]
theorem eqp9 (x y : UInt8) (w : World) : (binOp .eql 57 (.agg #[bc x, bc 9]) (.agg #[bc y, bc 9])).run Try.prog w = .ok (.bool (decide (x = y))) w := by
  have hk : Try.prog.keyTypeAt 4 57 = true := by kernel_rfl
  have hf : ∀ x, (Value.agg #[bc x, bc 9]).formed Try.prog 57 = true := fun x => by
    have hc : Try.prog.cellsOf 57 = 2 := by kernel_rfl
    simp [Value.formed, Try.underlying57, hc]
  refine run_eql_lits (m := 4) (by decide) hk (hf x) (hf y) (p9_lits x) (p9_lits y) _ ?_ w
  rw [decide_eq_true_eq]
  constructor
  · rintro rfl; rfl
  · intro h
    have := (List.cons.inj h).1
    exact litB_inj (L := [x]) (M := [y]) (by simp [this]) |> fun h => by simpa using h
section
variable {t bv bn : Nat} {m : List (Int × UInt8)} {c : List (UInt8 × Nat)} {k v : UInt8} {who at_ : Int}
set_option maxHeartbeats 2000000 in
theorem p9_changeN_s (hw : intOk who) (hti : TInv m c) (hl : m.length ≤ 1000)  (hv : aget m who = none) : Spec Try.prog 41 [ptr t, int who, p9E k] [.blk t 86 [mapV bv, mapV bn], .pc (mapPc bv intK p9V intOk m), .pc (mapPc bn p9V cntV top c)] (fun _ : Unit => [.blk t 86 [mapV bv, mapV bn], .pc (mapPc bv intK p9V intOk (aput m who k)), .pc (mapPc bn p9V cntV top (chgC m c who k))]) (fun _ => .tup []) := by
  refine spec_of Try.func41 rfl Try.ntmps41 rfl fun G w => ?_
  refine SC.seq (SC.region ?_)
  refine SL.eff (Eff.boxA (cs := p9C k) rfl) rfl rfl ?_
  rintro _ _ ⟨b5, rfl, rfl⟩
  refine SL.nil (SE.seq ?_)
  refine SC.seq ?_
  refine SC.seq (SC.region ?_)
  refine SL.val (Val.move rfl) rfl rfl ?_
  refine SL.val (Val.eqP rfl rfl (by kernel_rfl)) rfl rfl ?_
  refine SL.nil (SE.seq ?_)
  refine SC.condF rfl ?_
  refine SC.skip ?_
  refine SE.seq ?_
  refine SC.seq ?_
  refine SC.seq (SC.region ?_)
  refine SL.val (Val.move rfl) rfl rfl ?_
  refine SL.val (Val.nilCheck rfl) rfl rfl ?_
  refine SL.val (Val.fieldAddr tabOk rfl rfl rfl rfl rfl) rfl rfl ?_
  refine SL.val (Val.load1 tabOk rfl rfl (by first|(apply Or.inl;(repeat first|assumption|exact m0|apply m1);done)|(apply Or.inr;(repeat first|assumption|exact m0|apply m1);done)) List.not_mem_nil (by rfl)) rfl rfl ?_
  refine SL.val (Val.move rfl) rfl rfl ?_
  refine SL.val (Val.to (C := .tup [.agg p9Z, boo false]) (Val.mapGetOk (a := who) (zv := (.agg #[.int .u8 0, .int .u8 0])) (C := p9A (aget m who)) (int_fit Try.underlying3) Try.underlying83 p9_zero rfl (by first|(apply Or.inl;(repeat first|assumption|exact m0|apply m1);done)|(apply Or.inr;(repeat first|assumption|exact m0|apply m1);done)) List.not_mem_nil rfl is_v hw (p9A_is _)) (by rw [hv]; rfl)) rfl rfl ?_
  refine SL.val (Val.move rfl) rfl rfl ?_
  refine SL.val (Val.extract rfl rfl) rfl rfl ?_
  refine SL.val (Val.extract rfl rfl) rfl rfl ?_
  refine SL.eff (Eff.alloc tabOk rfl) rfl rfl ?_
  rintro _ _ ⟨b6, rfl, rfl⟩
  refine SL.eff (Eff.store (L' := p9Z) tabOk rfl rfl rfl (by repeat first|assumption|exact Upd.here|apply Upd.there) (by exact rfl) (Nat.le_of_ble_eq_true (by rfl)) (by exact rfl) (putL_whole (by exact rfl))) rfl rfl ?_
  rintro _ _ ⟨rfl, rfl⟩
  refine SL.val (Val.assign rfl) rfl rfl ?_
  refine SL.nil (SE.seq ?_)
  refine SC.seq (SC.region ?_)
  refine SL.val (Val.move rfl) rfl rfl ?_
  refine SL.nil (SE.seq ?_)
  refine SC.condF rfl ?_
  refine SC.skip ?_
  refine SE.seq ?_
  refine SC.seq ?_
  refine SC.drawZ [] (.q 0 (.q 1 (.q 2 (.q 3 (.q 4 (.q 5 .nil)))))) (by kernel_rfl) (by kernel_rfl) ?_
  refine SX.val rfl (Val.move rfl) (by simp) rfl rfl ?_
  refine SX.val rfl (Val.nilCheck rfl) (by simp) rfl rfl ?_
  refine SX.val rfl (Val.fieldAddr tabOk rfl rfl rfl rfl rfl) (by simp) rfl rfl ?_
  refine SX.val rfl (Val.load1 tabOk rfl rfl (by first|(apply Or.inl;(repeat first|assumption|exact m0|apply m1);done)|(apply Or.inr;(repeat first|assumption|exact m0|apply m1);done)) List.not_mem_nil (by rfl)) (by first | (simp [mids, It.mids, ownPc, mapPc]; done) | (intro k hk; simp [mids, It.mids, ownPc, mapPc, mapAtPc] at hk ⊢; grind)) rfl rfl ?_
  refine SX.val rfl (Val.move rfl) (by simp) rfl rfl ?_
  refine SX.val rfl (Val.loadA tabOk rfl rfl rfl (by first|(apply Or.inl;(repeat first|assumption|exact m0|apply m1);done)|(apply Or.inr;(repeat first|assumption|exact m0|apply m1);done)) List.not_mem_nil (p9C_len _)) (by first | (simp [mids, It.mids, ownPc, mapPc]; done) | (intro k hk; simp [mids, It.mids, ownPc, mapPc, mapAtPc] at hk ⊢; grind)) rfl rfl ?_
  refine SX.nil ?_
  refine SE.effZ rfl (Eff.mapPut (a := who) (v := k) (m' := aput m who k) (int_fit Try.underlying3) Try.underlying83 rfl (by repeat first|assumption|exact Upd.here|apply Upd.there) rfl is_v hw rfl (p9_is _) rfl) rfl rfl ?_
  rintro _ _ ⟨rfl, rfl⟩
  refine SE.seq ?_
  refine SC.known (p := t ∉ [bn] ∧ b5 ∉ [bn]) (fun _ _ h => by
      have h1 := h.mem.nodup
      simp [mids, It.mids, mapPc, ownPc] at h1 ⊢
      grind) fun hX => ?_
  refine SC.draw [bn] (.q 0 (.q 1 (.q 2 (.q 3 (.q 4 (.two 5 7 (.q 6 (.e 7 (.q 8 (.e 9 .nil)))) (.q 8 (.e 5 (.q 6 (.e 9 .nil)))))))))) (by kernel_rfl) (by kernel_rfl) ?_
  refine SX.val rfl (Val.move rfl) (by first | (simp [mids, It.mids, ownPc, mapPc]; done) | (intro k hk; simp [mids, It.mids, ownPc, mapPc, mapAtPc] at hk ⊢; grind)) rfl rfl ?_
  refine SX.val rfl (Val.nilCheck rfl) (by first | (simp [mids, It.mids, ownPc, mapPc]; done) | (intro k hk; simp [mids, It.mids, ownPc, mapPc, mapAtPc] at hk ⊢; grind)) rfl rfl ?_
  refine SX.val rfl (Val.fieldAddr tabOk rfl rfl rfl rfl rfl) (by first | (simp [mids, It.mids, ownPc, mapPc]; done) | (intro k hk; simp [mids, It.mids, ownPc, mapPc, mapAtPc] at hk ⊢; grind)) rfl rfl ?_
  refine SX.val rfl (Val.load1 tabOk rfl rfl (by first|(apply Or.inl;(repeat first|assumption|exact m0|apply m1);done)|(apply Or.inr;(repeat first|assumption|exact m0|apply m1);done)) (by first | exact hX.1 | exact hX.2) (by rfl)) (by first | (simp [mids, It.mids, ownPc, mapPc]; done) | (intro k hk; simp [mids, It.mids, ownPc, mapPc, mapAtPc] at hk ⊢; grind)) rfl rfl ?_
  refine SX.val rfl (Val.loadA tabOk rfl rfl rfl (by first|(apply Or.inl;(repeat first|assumption|exact m0|apply m1);done)|(apply Or.inr;(repeat first|assumption|exact m0|apply m1);done)) (by first | exact hX.1 | exact hX.2) (p9C_len _)) (by first | (simp [mids, It.mids, ownPc, mapPc]; done) | (intro k hk; simp [mids, It.mids, ownPc, mapPc, mapAtPc] at hk ⊢; grind)) rfl rfl ?_
  refine SX.two ?_ ?_
  · skip
    first
      | (refine SX.valE rfl (Val.mapGet (a := k) (zv := cntV 0) (C := int ((cget c k : Nat) : Int)) p9_fit Try.underlying84 int_zero rfl ?_ List.not_mem_nil rfl (p9_is _) trivial (cget_is _ _)) rfl rfl ?_; focus (apply Or.inl; (repeat first|assumption|exact m0|apply m1); done))
      | (refine SX.valE rfl (Val.mapGetAt (a := k) (a' := k) (s := s54) (zv := cntV 0) (C := int ((cget c k : Nat) : Int)) p9_fit Try.underlying84 int_zero rfl ?_ rfl (p9_is _) trivial (cget_ent_is _ _)) rfl rfl ?_; focus ((repeat first|assumption|exact m0|apply m1); done))
    refine SX.val rfl (Val.to (C := int ((cget c k + 1 : Nat) : Int)) (Val.addI rfl rfl (by have := hti.dec_le (aget m who) k; rw [hv] at this; have e : cget c k ≤ m.length := this; simp only [InR, lo, hi]; omega)) (congrArg int (by omega))) (by first | (simp [mids, It.mids, ownPc, mapPc]; done) | (intro k hk; simp [mids, It.mids, ownPc, mapPc, mapAtPc] at hk ⊢; grind)) rfl rfl ?_
    refine SX.eff rfl (Eff.mapEntry (a := k) (zv := 0) (V := cntV) (C := int ((cget c k : Nat) : Int)) p9_fit Try.underlying84 int_zero rfl (fun s => (by repeat first|assumption|exact Upd.here|apply Upd.there)) rfl (p9_is _) trivial (cget_is _ _)) (by simp) rfl rfl ?_
    rintro _ _ ⟨s54, rfl, rfl⟩
    refine SX.val rfl (Val.extract rfl rfl) (by first | (simp [mids, It.mids, ownPc, mapPc]; done) | (intro k hk; simp [mids, It.mids, ownPc, mapPc, mapAtPc] at hk ⊢; grind)) rfl rfl ?_
    refine SX.eff rfl (Eff.entryStore (v := cget c k + 1) (m' := aput c k (cget c k + 1)) rfl (by repeat first|assumption|exact Upd.here|apply Upd.there) rfl rfl is_v (aput_aent _ _ _ _)) (by simp) rfl rfl ?_
    rintro _ _ ⟨rfl, rfl⟩
    refine SX.nil ?_
    refine SE.finN (rs := []) rfl RV.nil (()) (by rw [chgC_new hv]; repeat (first | exact List.nil_sublist _ | exact List.Sublist.refl _ | apply List.Sublist.cons_cons | apply List.Sublist.cons)) (by simp [It.rids]) ?_
    exact rfl
  · skip
    refine SX.eff rfl (Eff.mapEntry (a := k) (zv := 0) (V := cntV) (C := int ((cget c k : Nat) : Int)) p9_fit Try.underlying84 int_zero rfl (fun s => (by repeat first|assumption|exact Upd.here|apply Upd.there)) rfl (p9_is _) trivial (cget_is _ _)) (by simp) rfl rfl ?_
    rintro _ _ ⟨s54, rfl, rfl⟩
    refine SX.val rfl (Val.extract rfl rfl) (by first | (simp [mids, It.mids, ownPc, mapPc]; done) | (intro k hk; simp [mids, It.mids, ownPc, mapPc, mapAtPc] at hk ⊢; grind)) rfl rfl ?_
    first
      | (refine SX.valE rfl (Val.mapGet (a := k) (zv := cntV 0) (C := int ((cget c k : Nat) : Int)) p9_fit Try.underlying84 int_zero rfl ?_ List.not_mem_nil rfl (p9_is _) trivial (cget_is _ _)) rfl rfl ?_; focus (apply Or.inl; (repeat first|assumption|exact m0|apply m1); done))
      | (refine SX.valE rfl (Val.mapGetAt (a := k) (a' := k) (s := s54) (zv := cntV 0) (C := int ((cget c k : Nat) : Int)) p9_fit Try.underlying84 int_zero rfl ?_ rfl (p9_is _) trivial (cget_ent_is _ _)) rfl rfl ?_; focus ((repeat first|assumption|exact m0|apply m1); done))
    refine SX.val rfl (Val.to (C := int ((cget c k + 1 : Nat) : Int)) (Val.addI rfl rfl (by have := hti.dec_le (aget m who) k; rw [hv] at this; have e : cget c k ≤ m.length := this; simp only [InR, lo, hi]; omega)) (congrArg int (by omega))) (by first | (simp [mids, It.mids, ownPc, mapPc]; done) | (intro k hk; simp [mids, It.mids, ownPc, mapPc, mapAtPc] at hk ⊢; grind)) rfl rfl ?_
    refine SX.eff rfl (Eff.entryStore (v := cget c k + 1) (m' := aput c k (cget c k + 1)) rfl (by repeat first|assumption|exact Upd.here|apply Upd.there) rfl rfl is_v (aput_aent _ _ _ _)) (by simp) rfl rfl ?_
    rintro _ _ ⟨rfl, rfl⟩
    refine SX.nil ?_
    refine SE.finN (rs := []) rfl RV.nil (()) (by rw [chgC_new hv]; repeat (first | exact List.nil_sublist _ | exact List.Sublist.refl _ | apply List.Sublist.cons_cons | apply List.Sublist.cons)) (by simp [It.rids]) ?_
    exact rfl
set_option maxHeartbeats 4000000 in
theorem p9_changeO_s (hw : intOk who) (hti : TInv m c) (hl : m.length ≤ 1000)  (hv : aget m who = some v) : Spec Try.prog 41 [ptr t, int who, p9E k] [.blk t 86 [mapV bv, mapV bn], .pc (mapPc bv intK p9V intOk m), .pc (mapPc bn p9V cntV top c)] (fun _ : Unit => [.blk t 86 [mapV bv, mapV bn], .pc (mapPc bv intK p9V intOk (aput m who k)), .pc (mapPc bn p9V cntV top (chgC m c who k))]) (fun _ => .tup []) := by
  refine spec_of Try.func41 rfl Try.ntmps41 rfl fun G w => ?_
  refine SC.seq (SC.region ?_)
  refine SL.eff (Eff.boxA (cs := p9C k) rfl) rfl rfl ?_
  rintro _ _ ⟨b5, rfl, rfl⟩
  refine SL.nil (SE.seq ?_)
  refine SC.seq ?_
  refine SC.seq (SC.region ?_)
  refine SL.val (Val.move rfl) rfl rfl ?_
  refine SL.val (Val.eqP rfl rfl (by kernel_rfl)) rfl rfl ?_
  refine SL.nil (SE.seq ?_)
  refine SC.condF rfl ?_
  refine SC.skip ?_
  refine SE.seq ?_
  refine SC.seq ?_
  refine SC.seq (SC.region ?_)
  refine SL.val (Val.move rfl) rfl rfl ?_
  refine SL.val (Val.nilCheck rfl) rfl rfl ?_
  refine SL.val (Val.fieldAddr tabOk rfl rfl rfl rfl rfl) rfl rfl ?_
  refine SL.val (Val.load1 tabOk rfl rfl (by first|(apply Or.inl;(repeat first|assumption|exact m0|apply m1);done)|(apply Or.inr;(repeat first|assumption|exact m0|apply m1);done)) List.not_mem_nil (by rfl)) rfl rfl ?_
  refine SL.val (Val.move rfl) rfl rfl ?_
  refine SL.val (Val.to (C := .tup [.agg (p9C v), boo true]) (Val.mapGetOk (a := who) (zv := (.agg #[.int .u8 0, .int .u8 0])) (C := p9A (aget m who)) (int_fit Try.underlying3) Try.underlying83 p9_zero rfl (by first|(apply Or.inl;(repeat first|assumption|exact m0|apply m1);done)|(apply Or.inr;(repeat first|assumption|exact m0|apply m1);done)) List.not_mem_nil rfl is_v hw (p9A_is _)) (by rw [hv]; rfl)) rfl rfl ?_
  refine SL.val (Val.move rfl) rfl rfl ?_
  refine SL.val (Val.extract rfl rfl) rfl rfl ?_
  refine SL.val (Val.extract rfl rfl) rfl rfl ?_
  refine SL.eff (Eff.alloc tabOk rfl) rfl rfl ?_
  rintro _ _ ⟨b6, rfl, rfl⟩
  refine SL.eff (Eff.store (L' := (p9C v)) tabOk rfl rfl rfl (by repeat first|assumption|exact Upd.here|apply Upd.there) (by exact (p9C_len _)) (Nat.le_of_ble_eq_true (by rfl)) (by exact (p9C_ones _)) (putL_whole (by exact (p9C_len _)))) rfl rfl ?_
  rintro _ _ ⟨rfl, rfl⟩
  refine SL.val (Val.assign rfl) rfl rfl ?_
  refine SL.nil (SE.seq ?_)
  refine SC.seq (SC.region ?_)
  refine SL.val (Val.move rfl) rfl rfl ?_
  refine SL.nil (SE.seq ?_)
  refine SC.condT rfl ?_
  refine SC.seq ?_
  refine SC.known (p := t ∉ [bn] ∧ b6 ∉ [bn]) (fun _ _ h => by
      have h1 := h.mem.nodup
      simp [mids, It.mids, mapPc, ownPc] at h1 ⊢
      grind) fun hX => ?_
  refine SC.draw [bn] (.q 0 (.q 1 (.q 2 (.q 3 (.q 4 (.two 5 7 (.q 6 (.e 7 (.q 8 (.e 9 .nil)))) (.q 8 (.e 5 (.q 6 (.e 9 .nil)))))))))) (by kernel_rfl) (by kernel_rfl) ?_
  refine SX.val rfl (Val.move rfl) (by first | (simp [mids, It.mids, ownPc, mapPc]; done) | (intro k hk; simp [mids, It.mids, ownPc, mapPc, mapAtPc] at hk ⊢; grind)) rfl rfl ?_
  refine SX.val rfl (Val.nilCheck rfl) (by first | (simp [mids, It.mids, ownPc, mapPc]; done) | (intro k hk; simp [mids, It.mids, ownPc, mapPc, mapAtPc] at hk ⊢; grind)) rfl rfl ?_
  refine SX.val rfl (Val.fieldAddr tabOk rfl rfl rfl rfl rfl) (by first | (simp [mids, It.mids, ownPc, mapPc]; done) | (intro k hk; simp [mids, It.mids, ownPc, mapPc, mapAtPc] at hk ⊢; grind)) rfl rfl ?_
  refine SX.val rfl (Val.load1 tabOk rfl rfl (by first|(apply Or.inl;(repeat first|assumption|exact m0|apply m1);done)|(apply Or.inr;(repeat first|assumption|exact m0|apply m1);done)) (by first | exact hX.1 | exact hX.2) (by rfl)) (by first | (simp [mids, It.mids, ownPc, mapPc]; done) | (intro k hk; simp [mids, It.mids, ownPc, mapPc, mapAtPc] at hk ⊢; grind)) rfl rfl ?_
  refine SX.val rfl (Val.loadA tabOk rfl rfl rfl (by first|(apply Or.inl;(repeat first|assumption|exact m0|apply m1);done)|(apply Or.inr;(repeat first|assumption|exact m0|apply m1);done)) (by first | exact hX.1 | exact hX.2) (p9C_len _)) (by first | (simp [mids, It.mids, ownPc, mapPc]; done) | (intro k hk; simp [mids, It.mids, ownPc, mapPc, mapAtPc] at hk ⊢; grind)) rfl rfl ?_
  refine SX.two ?_ ?_
  · skip
    first
      | (refine SX.valE rfl (Val.mapGet (a := v) (zv := cntV 0) (C := int ((cget c v : Nat) : Int)) p9_fit Try.underlying84 int_zero rfl ?_ List.not_mem_nil rfl (p9_is _) trivial (cget_is _ _)) rfl rfl ?_; focus (apply Or.inl; (repeat first|assumption|exact m0|apply m1); done))
      | (refine SX.valE rfl (Val.mapGetAt (a := v) (a' := v) (s := s27) (zv := cntV 0) (C := int ((cget c v : Nat) : Int)) p9_fit Try.underlying84 int_zero rfl ?_ rfl (p9_is _) trivial (cget_ent_is _ _)) rfl rfl ?_; focus ((repeat first|assumption|exact m0|apply m1); done))
    refine SX.val rfl (Val.to (C := int ((cget c v - 1 : Nat) : Int)) (Val.subI rfl rfl (by have := hti.le v; simp only [InR, lo, hi]; omega)) (congrArg int (by have := hti.pos hv; omega))) (by first | (simp [mids, It.mids, ownPc, mapPc]; done) | (intro k hk; simp [mids, It.mids, ownPc, mapPc, mapAtPc] at hk ⊢; grind)) rfl rfl ?_
    refine SX.eff rfl (Eff.mapEntry (a := v) (zv := 0) (V := cntV) (C := int ((cget c v : Nat) : Int)) p9_fit Try.underlying84 int_zero rfl (fun s => (by repeat first|assumption|exact Upd.here|apply Upd.there)) rfl (p9_is _) trivial (cget_is _ _)) (by simp) rfl rfl ?_
    rintro _ _ ⟨s27, rfl, rfl⟩
    refine SX.val rfl (Val.extract rfl rfl) (by first | (simp [mids, It.mids, ownPc, mapPc]; done) | (intro k hk; simp [mids, It.mids, ownPc, mapPc, mapAtPc] at hk ⊢; grind)) rfl rfl ?_
    refine SX.eff rfl (Eff.entryStore (v := cget c v - 1) (m' := aput c v (cget c v - 1)) rfl (by repeat first|assumption|exact Upd.here|apply Upd.there) rfl rfl is_v (aput_aent _ _ _ _)) (by simp) rfl rfl ?_
    rintro _ _ ⟨rfl, rfl⟩
    refine SX.nil (SE.seq ?_)
    refine SC.seq ?_
    refine SC.draw [] (.q 0 (.q 1 (.q 2 (.q 3 (.q 4 (.q 5 (.q 6 .nil))))))) (by kernel_rfl) (by kernel_rfl) ?_
    refine SX.val rfl (Val.move rfl) (by simp) rfl rfl ?_
    refine SX.val rfl (Val.nilCheck rfl) (by simp) rfl rfl ?_
    refine SX.val rfl (Val.fieldAddr tabOk rfl rfl rfl rfl rfl) (by simp) rfl rfl ?_
    refine SX.val rfl (Val.load1 tabOk rfl rfl (by first|(apply Or.inl;(repeat first|assumption|exact m0|apply m1);done)|(apply Or.inr;(repeat first|assumption|exact m0|apply m1);done)) List.not_mem_nil (by rfl)) (by simp) rfl rfl ?_
    refine SX.val rfl (Val.loadA tabOk rfl rfl rfl (by first|(apply Or.inl;(repeat first|assumption|exact m0|apply m1);done)|(apply Or.inr;(repeat first|assumption|exact m0|apply m1);done)) List.not_mem_nil (p9C_len _)) (by first | (simp [mids, It.mids, ownPc, mapPc]; done) | (intro k hk; simp [mids, It.mids, ownPc, mapPc, mapAtPc] at hk ⊢; grind)) rfl rfl ?_
    refine SX.val rfl (Val.mapGet (a := v) (zv := cntV 0) (C := int ((cget (aput c v (cget c v - 1)) v : Nat) : Int)) p9_fit Try.underlying84 int_zero rfl (by first|(apply Or.inl;(repeat first|assumption|exact m0|apply m1);done)|(apply Or.inr;(repeat first|assumption|exact m0|apply m1);done)) List.not_mem_nil rfl (p9_is _) trivial (cget_is _ _)) (by first | (simp [mids, It.mids, ownPc, mapPc]; done) | (intro k hk; simp [mids, It.mids, ownPc, mapPc, mapAtPc] at hk ⊢; grind)) rfl rfl ?_
    refine SX.val rfl (Val.eqI rfl rfl) (by simp) rfl rfl ?_
    refine SX.nil (SE.seq ?_)
    refine SC.condP rfl ?_ ?_
    rotate_left
    · intro hc35
      rw [show (aput c v (cget c v - 1)) = (decO c (some v)) from (dec_keep (by omega)).symm]
      refine SC.skip ?_
      refine SE.seq ?_
      refine SC.seq ?_
      refine SC.drawZ [] (.q 0 (.q 1 (.q 2 (.q 3 (.q 4 (.q 5 .nil)))))) (by kernel_rfl) (by kernel_rfl) ?_
      refine SX.val rfl (Val.move rfl) (by simp) rfl rfl ?_
      refine SX.val rfl (Val.nilCheck rfl) (by simp) rfl rfl ?_
      refine SX.val rfl (Val.fieldAddr tabOk rfl rfl rfl rfl rfl) (by simp) rfl rfl ?_
      refine SX.val rfl (Val.load1 tabOk rfl rfl (by first|(apply Or.inl;(repeat first|assumption|exact m0|apply m1);done)|(apply Or.inr;(repeat first|assumption|exact m0|apply m1);done)) List.not_mem_nil (by rfl)) (by first | (simp [mids, It.mids, ownPc, mapPc]; done) | (intro k hk; simp [mids, It.mids, ownPc, mapPc, mapAtPc] at hk ⊢; grind)) rfl rfl ?_
      refine SX.val rfl (Val.move rfl) (by simp) rfl rfl ?_
      refine SX.val rfl (Val.loadA tabOk rfl rfl rfl (by first|(apply Or.inl;(repeat first|assumption|exact m0|apply m1);done)|(apply Or.inr;(repeat first|assumption|exact m0|apply m1);done)) List.not_mem_nil (p9C_len _)) (by first | (simp [mids, It.mids, ownPc, mapPc]; done) | (intro k hk; simp [mids, It.mids, ownPc, mapPc, mapAtPc] at hk ⊢; grind)) rfl rfl ?_
      refine SX.nil ?_
      refine SE.effZ rfl (Eff.mapPut (a := who) (v := k) (m' := aput m who k) (int_fit Try.underlying3) Try.underlying83 rfl (by repeat first|assumption|exact Upd.here|apply Upd.there) rfl is_v hw rfl (p9_is _) rfl) rfl rfl ?_
      rintro _ _ ⟨rfl, rfl⟩
      refine SE.seq ?_
      refine SC.known (p := t ∉ [bn] ∧ b5 ∉ [bn]) (fun _ _ h => by
          have h1 := h.mem.nodup
          simp [mids, It.mids, mapPc, ownPc] at h1 ⊢
          grind) fun hX => ?_
      refine SC.draw [bn] (.q 0 (.q 1 (.q 2 (.q 3 (.q 4 (.two 5 7 (.q 6 (.e 7 (.q 8 (.e 9 .nil)))) (.q 8 (.e 5 (.q 6 (.e 9 .nil)))))))))) (by kernel_rfl) (by kernel_rfl) ?_
      refine SX.val rfl (Val.move rfl) (by first | (simp [mids, It.mids, ownPc, mapPc]; done) | (intro k hk; simp [mids, It.mids, ownPc, mapPc, mapAtPc] at hk ⊢; grind)) rfl rfl ?_
      refine SX.val rfl (Val.nilCheck rfl) (by first | (simp [mids, It.mids, ownPc, mapPc]; done) | (intro k hk; simp [mids, It.mids, ownPc, mapPc, mapAtPc] at hk ⊢; grind)) rfl rfl ?_
      refine SX.val rfl (Val.fieldAddr tabOk rfl rfl rfl rfl rfl) (by first | (simp [mids, It.mids, ownPc, mapPc]; done) | (intro k hk; simp [mids, It.mids, ownPc, mapPc, mapAtPc] at hk ⊢; grind)) rfl rfl ?_
      refine SX.val rfl (Val.load1 tabOk rfl rfl (by first|(apply Or.inl;(repeat first|assumption|exact m0|apply m1);done)|(apply Or.inr;(repeat first|assumption|exact m0|apply m1);done)) (by first | exact hX.1 | exact hX.2) (by rfl)) (by first | (simp [mids, It.mids, ownPc, mapPc]; done) | (intro k hk; simp [mids, It.mids, ownPc, mapPc, mapAtPc] at hk ⊢; grind)) rfl rfl ?_
      refine SX.val rfl (Val.loadA tabOk rfl rfl rfl (by first|(apply Or.inl;(repeat first|assumption|exact m0|apply m1);done)|(apply Or.inr;(repeat first|assumption|exact m0|apply m1);done)) (by first | exact hX.1 | exact hX.2) (p9C_len _)) (by first | (simp [mids, It.mids, ownPc, mapPc]; done) | (intro k hk; simp [mids, It.mids, ownPc, mapPc, mapAtPc] at hk ⊢; grind)) rfl rfl ?_
      refine SX.two ?_ ?_
      · skip
        first
          | (refine SX.valE rfl (Val.mapGet (a := k) (zv := cntV 0) (C := int ((cget (decO c (some v)) k : Nat) : Int)) p9_fit Try.underlying84 int_zero rfl ?_ List.not_mem_nil rfl (p9_is _) trivial (cget_is _ _)) rfl rfl ?_; focus (apply Or.inl; (repeat first|assumption|exact m0|apply m1); done))
          | (refine SX.valE rfl (Val.mapGetAt (a := k) (a' := k) (s := s54) (zv := cntV 0) (C := int ((cget (decO c (some v)) k : Nat) : Int)) p9_fit Try.underlying84 int_zero rfl ?_ rfl (p9_is _) trivial (cget_ent_is _ _)) rfl rfl ?_; focus ((repeat first|assumption|exact m0|apply m1); done))
        refine SX.val rfl (Val.to (C := int ((cget (decO c (some v)) k + 1 : Nat) : Int)) (Val.addI rfl rfl (by have := hti.dec_le (aget m who) k; rw [hv] at this; have e : cget (decO c (some v)) k ≤ m.length := this; simp only [InR, lo, hi]; omega)) (congrArg int (by omega))) (by first | (simp [mids, It.mids, ownPc, mapPc]; done) | (intro k hk; simp [mids, It.mids, ownPc, mapPc, mapAtPc] at hk ⊢; grind)) rfl rfl ?_
        refine SX.eff rfl (Eff.mapEntry (a := k) (zv := 0) (V := cntV) (C := int ((cget (decO c (some v)) k : Nat) : Int)) p9_fit Try.underlying84 int_zero rfl (fun s => (by repeat first|assumption|exact Upd.here|apply Upd.there)) rfl (p9_is _) trivial (cget_is _ _)) (by simp) rfl rfl ?_
        rintro _ _ ⟨s54, rfl, rfl⟩
        refine SX.val rfl (Val.extract rfl rfl) (by first | (simp [mids, It.mids, ownPc, mapPc]; done) | (intro k hk; simp [mids, It.mids, ownPc, mapPc, mapAtPc] at hk ⊢; grind)) rfl rfl ?_
        refine SX.eff rfl (Eff.entryStore (v := cget (decO c (some v)) k + 1) (m' := aput (decO c (some v)) k (cget (decO c (some v)) k + 1)) rfl (by repeat first|assumption|exact Upd.here|apply Upd.there) rfl rfl is_v (aput_aent _ _ _ _)) (by simp) rfl rfl ?_
        rintro _ _ ⟨rfl, rfl⟩
        refine SX.nil ?_
        refine SE.finN (rs := []) rfl RV.nil (()) (by rw [chgC_old hv]; repeat (first | exact List.nil_sublist _ | exact List.Sublist.refl _ | apply List.Sublist.cons_cons | apply List.Sublist.cons)) (by simp [It.rids]) ?_
        exact rfl
      · skip
        refine SX.eff rfl (Eff.mapEntry (a := k) (zv := 0) (V := cntV) (C := int ((cget (decO c (some v)) k : Nat) : Int)) p9_fit Try.underlying84 int_zero rfl (fun s => (by repeat first|assumption|exact Upd.here|apply Upd.there)) rfl (p9_is _) trivial (cget_is _ _)) (by simp) rfl rfl ?_
        rintro _ _ ⟨s54, rfl, rfl⟩
        refine SX.val rfl (Val.extract rfl rfl) (by first | (simp [mids, It.mids, ownPc, mapPc]; done) | (intro k hk; simp [mids, It.mids, ownPc, mapPc, mapAtPc] at hk ⊢; grind)) rfl rfl ?_
        first
          | (refine SX.valE rfl (Val.mapGet (a := k) (zv := cntV 0) (C := int ((cget (decO c (some v)) k : Nat) : Int)) p9_fit Try.underlying84 int_zero rfl ?_ List.not_mem_nil rfl (p9_is _) trivial (cget_is _ _)) rfl rfl ?_; focus (apply Or.inl; (repeat first|assumption|exact m0|apply m1); done))
          | (refine SX.valE rfl (Val.mapGetAt (a := k) (a' := k) (s := s54) (zv := cntV 0) (C := int ((cget (decO c (some v)) k : Nat) : Int)) p9_fit Try.underlying84 int_zero rfl ?_ rfl (p9_is _) trivial (cget_ent_is _ _)) rfl rfl ?_; focus ((repeat first|assumption|exact m0|apply m1); done))
        refine SX.val rfl (Val.to (C := int ((cget (decO c (some v)) k + 1 : Nat) : Int)) (Val.addI rfl rfl (by have := hti.dec_le (aget m who) k; rw [hv] at this; have e : cget (decO c (some v)) k ≤ m.length := this; simp only [InR, lo, hi]; omega)) (congrArg int (by omega))) (by first | (simp [mids, It.mids, ownPc, mapPc]; done) | (intro k hk; simp [mids, It.mids, ownPc, mapPc, mapAtPc] at hk ⊢; grind)) rfl rfl ?_
        refine SX.eff rfl (Eff.entryStore (v := cget (decO c (some v)) k + 1) (m' := aput (decO c (some v)) k (cget (decO c (some v)) k + 1)) rfl (by repeat first|assumption|exact Upd.here|apply Upd.there) rfl rfl is_v (aput_aent _ _ _ _)) (by simp) rfl rfl ?_
        rintro _ _ ⟨rfl, rfl⟩
        refine SX.nil ?_
        refine SE.finN (rs := []) rfl RV.nil (()) (by rw [chgC_old hv]; repeat (first | exact List.nil_sublist _ | exact List.Sublist.refl _ | apply List.Sublist.cons_cons | apply List.Sublist.cons)) (by simp [It.rids]) ?_
        exact rfl
    intro hc35
    refine SC.drawZ [] (.q 0 (.q 1 (.q 2 (.q 3 (.q 4 .nil))))) (by kernel_rfl) (by kernel_rfl) ?_
    refine SX.val rfl (Val.move rfl) (by simp) rfl rfl ?_
    refine SX.val rfl (Val.nilCheck rfl) (by simp) rfl rfl ?_
    refine SX.val rfl (Val.fieldAddr tabOk rfl rfl rfl rfl rfl) (by simp) rfl rfl ?_
    refine SX.val rfl (Val.load1 tabOk rfl rfl (by first|(apply Or.inl;(repeat first|assumption|exact m0|apply m1);done)|(apply Or.inr;(repeat first|assumption|exact m0|apply m1);done)) List.not_mem_nil (by rfl)) (by simp) rfl rfl ?_
    refine SX.val rfl (Val.loadA tabOk rfl rfl rfl (by first|(apply Or.inl;(repeat first|assumption|exact m0|apply m1);done)|(apply Or.inr;(repeat first|assumption|exact m0|apply m1);done)) List.not_mem_nil (p9C_len _)) (by first | (simp [mids, It.mids, ownPc, mapPc]; done) | (intro k hk; simp [mids, It.mids, ownPc, mapPc, mapAtPc] at hk ⊢; grind)) rfl rfl ?_
    refine SX.nil ?_
    refine SE.effZ rfl (Eff.mapDel (a := v) (m' := (decO c (some v))) p9_fit Try.underlying84 rfl (by repeat first|assumption|exact Upd.here|apply Upd.there) rfl (p9_is _) trivial (dec_del (by omega))) rfl rfl ?_
    rintro _ _ ⟨rfl, rfl⟩
    refine SE.seq ?_
    refine SC.seq ?_
    refine SC.drawZ [] (.q 0 (.q 1 (.q 2 (.q 3 (.q 4 (.q 5 .nil)))))) (by kernel_rfl) (by kernel_rfl) ?_
    refine SX.val rfl (Val.move rfl) (by simp) rfl rfl ?_
    refine SX.val rfl (Val.nilCheck rfl) (by simp) rfl rfl ?_
    refine SX.val rfl (Val.fieldAddr tabOk rfl rfl rfl rfl rfl) (by simp) rfl rfl ?_
    refine SX.val rfl (Val.load1 tabOk rfl rfl (by first|(apply Or.inl;(repeat first|assumption|exact m0|apply m1);done)|(apply Or.inr;(repeat first|assumption|exact m0|apply m1);done)) List.not_mem_nil (by rfl)) (by first | (simp [mids, It.mids, ownPc, mapPc]; done) | (intro k hk; simp [mids, It.mids, ownPc, mapPc, mapAtPc] at hk ⊢; grind)) rfl rfl ?_
    refine SX.val rfl (Val.move rfl) (by simp) rfl rfl ?_
    refine SX.val rfl (Val.loadA tabOk rfl rfl rfl (by first|(apply Or.inl;(repeat first|assumption|exact m0|apply m1);done)|(apply Or.inr;(repeat first|assumption|exact m0|apply m1);done)) List.not_mem_nil (p9C_len _)) (by first | (simp [mids, It.mids, ownPc, mapPc]; done) | (intro k hk; simp [mids, It.mids, ownPc, mapPc, mapAtPc] at hk ⊢; grind)) rfl rfl ?_
    refine SX.nil ?_
    refine SE.effZ rfl (Eff.mapPut (a := who) (v := k) (m' := aput m who k) (int_fit Try.underlying3) Try.underlying83 rfl (by repeat first|assumption|exact Upd.here|apply Upd.there) rfl is_v hw rfl (p9_is _) rfl) rfl rfl ?_
    rintro _ _ ⟨rfl, rfl⟩
    refine SE.seq ?_
    refine SC.known (p := t ∉ [bn] ∧ b5 ∉ [bn]) (fun _ _ h => by
        have h1 := h.mem.nodup
        simp [mids, It.mids, mapPc, ownPc] at h1 ⊢
        grind) fun hX => ?_
    refine SC.draw [bn] (.q 0 (.q 1 (.q 2 (.q 3 (.q 4 (.two 5 7 (.q 6 (.e 7 (.q 8 (.e 9 .nil)))) (.q 8 (.e 5 (.q 6 (.e 9 .nil)))))))))) (by kernel_rfl) (by kernel_rfl) ?_
    refine SX.val rfl (Val.move rfl) (by first | (simp [mids, It.mids, ownPc, mapPc]; done) | (intro k hk; simp [mids, It.mids, ownPc, mapPc, mapAtPc] at hk ⊢; grind)) rfl rfl ?_
    refine SX.val rfl (Val.nilCheck rfl) (by first | (simp [mids, It.mids, ownPc, mapPc]; done) | (intro k hk; simp [mids, It.mids, ownPc, mapPc, mapAtPc] at hk ⊢; grind)) rfl rfl ?_
    refine SX.val rfl (Val.fieldAddr tabOk rfl rfl rfl rfl rfl) (by first | (simp [mids, It.mids, ownPc, mapPc]; done) | (intro k hk; simp [mids, It.mids, ownPc, mapPc, mapAtPc] at hk ⊢; grind)) rfl rfl ?_
    refine SX.val rfl (Val.load1 tabOk rfl rfl (by first|(apply Or.inl;(repeat first|assumption|exact m0|apply m1);done)|(apply Or.inr;(repeat first|assumption|exact m0|apply m1);done)) (by first | exact hX.1 | exact hX.2) (by rfl)) (by first | (simp [mids, It.mids, ownPc, mapPc]; done) | (intro k hk; simp [mids, It.mids, ownPc, mapPc, mapAtPc] at hk ⊢; grind)) rfl rfl ?_
    refine SX.val rfl (Val.loadA tabOk rfl rfl rfl (by first|(apply Or.inl;(repeat first|assumption|exact m0|apply m1);done)|(apply Or.inr;(repeat first|assumption|exact m0|apply m1);done)) (by first | exact hX.1 | exact hX.2) (p9C_len _)) (by first | (simp [mids, It.mids, ownPc, mapPc]; done) | (intro k hk; simp [mids, It.mids, ownPc, mapPc, mapAtPc] at hk ⊢; grind)) rfl rfl ?_
    refine SX.two ?_ ?_
    · skip
      first
        | (refine SX.valE rfl (Val.mapGet (a := k) (zv := cntV 0) (C := int ((cget (decO c (some v)) k : Nat) : Int)) p9_fit Try.underlying84 int_zero rfl ?_ List.not_mem_nil rfl (p9_is _) trivial (cget_is _ _)) rfl rfl ?_; focus (apply Or.inl; (repeat first|assumption|exact m0|apply m1); done))
        | (refine SX.valE rfl (Val.mapGetAt (a := k) (a' := k) (s := s54) (zv := cntV 0) (C := int ((cget (decO c (some v)) k : Nat) : Int)) p9_fit Try.underlying84 int_zero rfl ?_ rfl (p9_is _) trivial (cget_ent_is _ _)) rfl rfl ?_; focus ((repeat first|assumption|exact m0|apply m1); done))
      refine SX.val rfl (Val.to (C := int ((cget (decO c (some v)) k + 1 : Nat) : Int)) (Val.addI rfl rfl (by have := hti.dec_le (aget m who) k; rw [hv] at this; have e : cget (decO c (some v)) k ≤ m.length := this; simp only [InR, lo, hi]; omega)) (congrArg int (by omega))) (by first | (simp [mids, It.mids, ownPc, mapPc]; done) | (intro k hk; simp [mids, It.mids, ownPc, mapPc, mapAtPc] at hk ⊢; grind)) rfl rfl ?_
      refine SX.eff rfl (Eff.mapEntry (a := k) (zv := 0) (V := cntV) (C := int ((cget (decO c (some v)) k : Nat) : Int)) p9_fit Try.underlying84 int_zero rfl (fun s => (by repeat first|assumption|exact Upd.here|apply Upd.there)) rfl (p9_is _) trivial (cget_is _ _)) (by simp) rfl rfl ?_
      rintro _ _ ⟨s54, rfl, rfl⟩
      refine SX.val rfl (Val.extract rfl rfl) (by first | (simp [mids, It.mids, ownPc, mapPc]; done) | (intro k hk; simp [mids, It.mids, ownPc, mapPc, mapAtPc] at hk ⊢; grind)) rfl rfl ?_
      refine SX.eff rfl (Eff.entryStore (v := cget (decO c (some v)) k + 1) (m' := aput (decO c (some v)) k (cget (decO c (some v)) k + 1)) rfl (by repeat first|assumption|exact Upd.here|apply Upd.there) rfl rfl is_v (aput_aent _ _ _ _)) (by simp) rfl rfl ?_
      rintro _ _ ⟨rfl, rfl⟩
      refine SX.nil ?_
      refine SE.finN (rs := []) rfl RV.nil (()) (by rw [chgC_old hv]; repeat (first | exact List.nil_sublist _ | exact List.Sublist.refl _ | apply List.Sublist.cons_cons | apply List.Sublist.cons)) (by simp [It.rids]) ?_
      exact rfl
    · skip
      refine SX.eff rfl (Eff.mapEntry (a := k) (zv := 0) (V := cntV) (C := int ((cget (decO c (some v)) k : Nat) : Int)) p9_fit Try.underlying84 int_zero rfl (fun s => (by repeat first|assumption|exact Upd.here|apply Upd.there)) rfl (p9_is _) trivial (cget_is _ _)) (by simp) rfl rfl ?_
      rintro _ _ ⟨s54, rfl, rfl⟩
      refine SX.val rfl (Val.extract rfl rfl) (by first | (simp [mids, It.mids, ownPc, mapPc]; done) | (intro k hk; simp [mids, It.mids, ownPc, mapPc, mapAtPc] at hk ⊢; grind)) rfl rfl ?_
      first
        | (refine SX.valE rfl (Val.mapGet (a := k) (zv := cntV 0) (C := int ((cget (decO c (some v)) k : Nat) : Int)) p9_fit Try.underlying84 int_zero rfl ?_ List.not_mem_nil rfl (p9_is _) trivial (cget_is _ _)) rfl rfl ?_; focus (apply Or.inl; (repeat first|assumption|exact m0|apply m1); done))
        | (refine SX.valE rfl (Val.mapGetAt (a := k) (a' := k) (s := s54) (zv := cntV 0) (C := int ((cget (decO c (some v)) k : Nat) : Int)) p9_fit Try.underlying84 int_zero rfl ?_ rfl (p9_is _) trivial (cget_ent_is _ _)) rfl rfl ?_; focus ((repeat first|assumption|exact m0|apply m1); done))
      refine SX.val rfl (Val.to (C := int ((cget (decO c (some v)) k + 1 : Nat) : Int)) (Val.addI rfl rfl (by have := hti.dec_le (aget m who) k; rw [hv] at this; have e : cget (decO c (some v)) k ≤ m.length := this; simp only [InR, lo, hi]; omega)) (congrArg int (by omega))) (by first | (simp [mids, It.mids, ownPc, mapPc]; done) | (intro k hk; simp [mids, It.mids, ownPc, mapPc, mapAtPc] at hk ⊢; grind)) rfl rfl ?_
      refine SX.eff rfl (Eff.entryStore (v := cget (decO c (some v)) k + 1) (m' := aput (decO c (some v)) k (cget (decO c (some v)) k + 1)) rfl (by repeat first|assumption|exact Upd.here|apply Upd.there) rfl rfl is_v (aput_aent _ _ _ _)) (by simp) rfl rfl ?_
      rintro _ _ ⟨rfl, rfl⟩
      refine SX.nil ?_
      refine SE.finN (rs := []) rfl RV.nil (()) (by rw [chgC_old hv]; repeat (first | exact List.nil_sublist _ | exact List.Sublist.refl _ | apply List.Sublist.cons_cons | apply List.Sublist.cons)) (by simp [It.rids]) ?_
      exact rfl
  · skip
    refine SX.eff rfl (Eff.mapEntry (a := v) (zv := 0) (V := cntV) (C := int ((cget c v : Nat) : Int)) p9_fit Try.underlying84 int_zero rfl (fun s => (by repeat first|assumption|exact Upd.here|apply Upd.there)) rfl (p9_is _) trivial (cget_is _ _)) (by simp) rfl rfl ?_
    rintro _ _ ⟨s27, rfl, rfl⟩
    refine SX.val rfl (Val.extract rfl rfl) (by first | (simp [mids, It.mids, ownPc, mapPc]; done) | (intro k hk; simp [mids, It.mids, ownPc, mapPc, mapAtPc] at hk ⊢; grind)) rfl rfl ?_
    first
      | (refine SX.valE rfl (Val.mapGet (a := v) (zv := cntV 0) (C := int ((cget c v : Nat) : Int)) p9_fit Try.underlying84 int_zero rfl ?_ List.not_mem_nil rfl (p9_is _) trivial (cget_is _ _)) rfl rfl ?_; focus (apply Or.inl; (repeat first|assumption|exact m0|apply m1); done))
      | (refine SX.valE rfl (Val.mapGetAt (a := v) (a' := v) (s := s27) (zv := cntV 0) (C := int ((cget c v : Nat) : Int)) p9_fit Try.underlying84 int_zero rfl ?_ rfl (p9_is _) trivial (cget_ent_is _ _)) rfl rfl ?_; focus ((repeat first|assumption|exact m0|apply m1); done))
    refine SX.val rfl (Val.to (C := int ((cget c v - 1 : Nat) : Int)) (Val.subI rfl rfl (by have := hti.le v; simp only [InR, lo, hi]; omega)) (congrArg int (by have := hti.pos hv; omega))) (by first | (simp [mids, It.mids, ownPc, mapPc]; done) | (intro k hk; simp [mids, It.mids, ownPc, mapPc, mapAtPc] at hk ⊢; grind)) rfl rfl ?_
    refine SX.eff rfl (Eff.entryStore (v := cget c v - 1) (m' := aput c v (cget c v - 1)) rfl (by repeat first|assumption|exact Upd.here|apply Upd.there) rfl rfl is_v (aput_aent _ _ _ _)) (by simp) rfl rfl ?_
    rintro _ _ ⟨rfl, rfl⟩
    refine SX.nil (SE.seq ?_)
    refine SC.seq ?_
    refine SC.draw [] (.q 0 (.q 1 (.q 2 (.q 3 (.q 4 (.q 5 (.q 6 .nil))))))) (by kernel_rfl) (by kernel_rfl) ?_
    refine SX.val rfl (Val.move rfl) (by simp) rfl rfl ?_
    refine SX.val rfl (Val.nilCheck rfl) (by simp) rfl rfl ?_
    refine SX.val rfl (Val.fieldAddr tabOk rfl rfl rfl rfl rfl) (by simp) rfl rfl ?_
    refine SX.val rfl (Val.load1 tabOk rfl rfl (by first|(apply Or.inl;(repeat first|assumption|exact m0|apply m1);done)|(apply Or.inr;(repeat first|assumption|exact m0|apply m1);done)) List.not_mem_nil (by rfl)) (by simp) rfl rfl ?_
    refine SX.val rfl (Val.loadA tabOk rfl rfl rfl (by first|(apply Or.inl;(repeat first|assumption|exact m0|apply m1);done)|(apply Or.inr;(repeat first|assumption|exact m0|apply m1);done)) List.not_mem_nil (p9C_len _)) (by first | (simp [mids, It.mids, ownPc, mapPc]; done) | (intro k hk; simp [mids, It.mids, ownPc, mapPc, mapAtPc] at hk ⊢; grind)) rfl rfl ?_
    refine SX.val rfl (Val.mapGet (a := v) (zv := cntV 0) (C := int ((cget (aput c v (cget c v - 1)) v : Nat) : Int)) p9_fit Try.underlying84 int_zero rfl (by first|(apply Or.inl;(repeat first|assumption|exact m0|apply m1);done)|(apply Or.inr;(repeat first|assumption|exact m0|apply m1);done)) List.not_mem_nil rfl (p9_is _) trivial (cget_is _ _)) (by first | (simp [mids, It.mids, ownPc, mapPc]; done) | (intro k hk; simp [mids, It.mids, ownPc, mapPc, mapAtPc] at hk ⊢; grind)) rfl rfl ?_
    refine SX.val rfl (Val.eqI rfl rfl) (by simp) rfl rfl ?_
    refine SX.nil (SE.seq ?_)
    refine SC.condP rfl ?_ ?_
    rotate_left
    · intro hc35
      rw [show (aput c v (cget c v - 1)) = (decO c (some v)) from (dec_keep (by omega)).symm]
      refine SC.skip ?_
      refine SE.seq ?_
      refine SC.seq ?_
      refine SC.drawZ [] (.q 0 (.q 1 (.q 2 (.q 3 (.q 4 (.q 5 .nil)))))) (by kernel_rfl) (by kernel_rfl) ?_
      refine SX.val rfl (Val.move rfl) (by simp) rfl rfl ?_
      refine SX.val rfl (Val.nilCheck rfl) (by simp) rfl rfl ?_
      refine SX.val rfl (Val.fieldAddr tabOk rfl rfl rfl rfl rfl) (by simp) rfl rfl ?_
      refine SX.val rfl (Val.load1 tabOk rfl rfl (by first|(apply Or.inl;(repeat first|assumption|exact m0|apply m1);done)|(apply Or.inr;(repeat first|assumption|exact m0|apply m1);done)) List.not_mem_nil (by rfl)) (by first | (simp [mids, It.mids, ownPc, mapPc]; done) | (intro k hk; simp [mids, It.mids, ownPc, mapPc, mapAtPc] at hk ⊢; grind)) rfl rfl ?_
      refine SX.val rfl (Val.move rfl) (by simp) rfl rfl ?_
      refine SX.val rfl (Val.loadA tabOk rfl rfl rfl (by first|(apply Or.inl;(repeat first|assumption|exact m0|apply m1);done)|(apply Or.inr;(repeat first|assumption|exact m0|apply m1);done)) List.not_mem_nil (p9C_len _)) (by first | (simp [mids, It.mids, ownPc, mapPc]; done) | (intro k hk; simp [mids, It.mids, ownPc, mapPc, mapAtPc] at hk ⊢; grind)) rfl rfl ?_
      refine SX.nil ?_
      refine SE.effZ rfl (Eff.mapPut (a := who) (v := k) (m' := aput m who k) (int_fit Try.underlying3) Try.underlying83 rfl (by repeat first|assumption|exact Upd.here|apply Upd.there) rfl is_v hw rfl (p9_is _) rfl) rfl rfl ?_
      rintro _ _ ⟨rfl, rfl⟩
      refine SE.seq ?_
      refine SC.known (p := t ∉ [bn] ∧ b5 ∉ [bn]) (fun _ _ h => by
          have h1 := h.mem.nodup
          simp [mids, It.mids, mapPc, ownPc] at h1 ⊢
          grind) fun hX => ?_
      refine SC.draw [bn] (.q 0 (.q 1 (.q 2 (.q 3 (.q 4 (.two 5 7 (.q 6 (.e 7 (.q 8 (.e 9 .nil)))) (.q 8 (.e 5 (.q 6 (.e 9 .nil)))))))))) (by kernel_rfl) (by kernel_rfl) ?_
      refine SX.val rfl (Val.move rfl) (by first | (simp [mids, It.mids, ownPc, mapPc]; done) | (intro k hk; simp [mids, It.mids, ownPc, mapPc, mapAtPc] at hk ⊢; grind)) rfl rfl ?_
      refine SX.val rfl (Val.nilCheck rfl) (by first | (simp [mids, It.mids, ownPc, mapPc]; done) | (intro k hk; simp [mids, It.mids, ownPc, mapPc, mapAtPc] at hk ⊢; grind)) rfl rfl ?_
      refine SX.val rfl (Val.fieldAddr tabOk rfl rfl rfl rfl rfl) (by first | (simp [mids, It.mids, ownPc, mapPc]; done) | (intro k hk; simp [mids, It.mids, ownPc, mapPc, mapAtPc] at hk ⊢; grind)) rfl rfl ?_
      refine SX.val rfl (Val.load1 tabOk rfl rfl (by first|(apply Or.inl;(repeat first|assumption|exact m0|apply m1);done)|(apply Or.inr;(repeat first|assumption|exact m0|apply m1);done)) (by first | exact hX.1 | exact hX.2) (by rfl)) (by first | (simp [mids, It.mids, ownPc, mapPc]; done) | (intro k hk; simp [mids, It.mids, ownPc, mapPc, mapAtPc] at hk ⊢; grind)) rfl rfl ?_
      refine SX.val rfl (Val.loadA tabOk rfl rfl rfl (by first|(apply Or.inl;(repeat first|assumption|exact m0|apply m1);done)|(apply Or.inr;(repeat first|assumption|exact m0|apply m1);done)) (by first | exact hX.1 | exact hX.2) (p9C_len _)) (by first | (simp [mids, It.mids, ownPc, mapPc]; done) | (intro k hk; simp [mids, It.mids, ownPc, mapPc, mapAtPc] at hk ⊢; grind)) rfl rfl ?_
      refine SX.two ?_ ?_
      · skip
        first
          | (refine SX.valE rfl (Val.mapGet (a := k) (zv := cntV 0) (C := int ((cget (decO c (some v)) k : Nat) : Int)) p9_fit Try.underlying84 int_zero rfl ?_ List.not_mem_nil rfl (p9_is _) trivial (cget_is _ _)) rfl rfl ?_; focus (apply Or.inl; (repeat first|assumption|exact m0|apply m1); done))
          | (refine SX.valE rfl (Val.mapGetAt (a := k) (a' := k) (s := s54) (zv := cntV 0) (C := int ((cget (decO c (some v)) k : Nat) : Int)) p9_fit Try.underlying84 int_zero rfl ?_ rfl (p9_is _) trivial (cget_ent_is _ _)) rfl rfl ?_; focus ((repeat first|assumption|exact m0|apply m1); done))
        refine SX.val rfl (Val.to (C := int ((cget (decO c (some v)) k + 1 : Nat) : Int)) (Val.addI rfl rfl (by have := hti.dec_le (aget m who) k; rw [hv] at this; have e : cget (decO c (some v)) k ≤ m.length := this; simp only [InR, lo, hi]; omega)) (congrArg int (by omega))) (by first | (simp [mids, It.mids, ownPc, mapPc]; done) | (intro k hk; simp [mids, It.mids, ownPc, mapPc, mapAtPc] at hk ⊢; grind)) rfl rfl ?_
        refine SX.eff rfl (Eff.mapEntry (a := k) (zv := 0) (V := cntV) (C := int ((cget (decO c (some v)) k : Nat) : Int)) p9_fit Try.underlying84 int_zero rfl (fun s => (by repeat first|assumption|exact Upd.here|apply Upd.there)) rfl (p9_is _) trivial (cget_is _ _)) (by simp) rfl rfl ?_
        rintro _ _ ⟨s54, rfl, rfl⟩
        refine SX.val rfl (Val.extract rfl rfl) (by first | (simp [mids, It.mids, ownPc, mapPc]; done) | (intro k hk; simp [mids, It.mids, ownPc, mapPc, mapAtPc] at hk ⊢; grind)) rfl rfl ?_
        refine SX.eff rfl (Eff.entryStore (v := cget (decO c (some v)) k + 1) (m' := aput (decO c (some v)) k (cget (decO c (some v)) k + 1)) rfl (by repeat first|assumption|exact Upd.here|apply Upd.there) rfl rfl is_v (aput_aent _ _ _ _)) (by simp) rfl rfl ?_
        rintro _ _ ⟨rfl, rfl⟩
        refine SX.nil ?_
        refine SE.finN (rs := []) rfl RV.nil (()) (by rw [chgC_old hv]; repeat (first | exact List.nil_sublist _ | exact List.Sublist.refl _ | apply List.Sublist.cons_cons | apply List.Sublist.cons)) (by simp [It.rids]) ?_
        exact rfl
      · skip
        refine SX.eff rfl (Eff.mapEntry (a := k) (zv := 0) (V := cntV) (C := int ((cget (decO c (some v)) k : Nat) : Int)) p9_fit Try.underlying84 int_zero rfl (fun s => (by repeat first|assumption|exact Upd.here|apply Upd.there)) rfl (p9_is _) trivial (cget_is _ _)) (by simp) rfl rfl ?_
        rintro _ _ ⟨s54, rfl, rfl⟩
        refine SX.val rfl (Val.extract rfl rfl) (by first | (simp [mids, It.mids, ownPc, mapPc]; done) | (intro k hk; simp [mids, It.mids, ownPc, mapPc, mapAtPc] at hk ⊢; grind)) rfl rfl ?_
        first
          | (refine SX.valE rfl (Val.mapGet (a := k) (zv := cntV 0) (C := int ((cget (decO c (some v)) k : Nat) : Int)) p9_fit Try.underlying84 int_zero rfl ?_ List.not_mem_nil rfl (p9_is _) trivial (cget_is _ _)) rfl rfl ?_; focus (apply Or.inl; (repeat first|assumption|exact m0|apply m1); done))
          | (refine SX.valE rfl (Val.mapGetAt (a := k) (a' := k) (s := s54) (zv := cntV 0) (C := int ((cget (decO c (some v)) k : Nat) : Int)) p9_fit Try.underlying84 int_zero rfl ?_ rfl (p9_is _) trivial (cget_ent_is _ _)) rfl rfl ?_; focus ((repeat first|assumption|exact m0|apply m1); done))
        refine SX.val rfl (Val.to (C := int ((cget (decO c (some v)) k + 1 : Nat) : Int)) (Val.addI rfl rfl (by have := hti.dec_le (aget m who) k; rw [hv] at this; have e : cget (decO c (some v)) k ≤ m.length := this; simp only [InR, lo, hi]; omega)) (congrArg int (by omega))) (by first | (simp [mids, It.mids, ownPc, mapPc]; done) | (intro k hk; simp [mids, It.mids, ownPc, mapPc, mapAtPc] at hk ⊢; grind)) rfl rfl ?_
        refine SX.eff rfl (Eff.entryStore (v := cget (decO c (some v)) k + 1) (m' := aput (decO c (some v)) k (cget (decO c (some v)) k + 1)) rfl (by repeat first|assumption|exact Upd.here|apply Upd.there) rfl rfl is_v (aput_aent _ _ _ _)) (by simp) rfl rfl ?_
        rintro _ _ ⟨rfl, rfl⟩
        refine SX.nil ?_
        refine SE.finN (rs := []) rfl RV.nil (()) (by rw [chgC_old hv]; repeat (first | exact List.nil_sublist _ | exact List.Sublist.refl _ | apply List.Sublist.cons_cons | apply List.Sublist.cons)) (by simp [It.rids]) ?_
        exact rfl
    intro hc35
    refine SC.drawZ [] (.q 0 (.q 1 (.q 2 (.q 3 (.q 4 .nil))))) (by kernel_rfl) (by kernel_rfl) ?_
    refine SX.val rfl (Val.move rfl) (by simp) rfl rfl ?_
    refine SX.val rfl (Val.nilCheck rfl) (by simp) rfl rfl ?_
    refine SX.val rfl (Val.fieldAddr tabOk rfl rfl rfl rfl rfl) (by simp) rfl rfl ?_
    refine SX.val rfl (Val.load1 tabOk rfl rfl (by first|(apply Or.inl;(repeat first|assumption|exact m0|apply m1);done)|(apply Or.inr;(repeat first|assumption|exact m0|apply m1);done)) List.not_mem_nil (by rfl)) (by simp) rfl rfl ?_
    refine SX.val rfl (Val.loadA tabOk rfl rfl rfl (by first|(apply Or.inl;(repeat first|assumption|exact m0|apply m1);done)|(apply Or.inr;(repeat first|assumption|exact m0|apply m1);done)) List.not_mem_nil (p9C_len _)) (by first | (simp [mids, It.mids, ownPc, mapPc]; done) | (intro k hk; simp [mids, It.mids, ownPc, mapPc, mapAtPc] at hk ⊢; grind)) rfl rfl ?_
    refine SX.nil ?_
    refine SE.effZ rfl (Eff.mapDel (a := v) (m' := (decO c (some v))) p9_fit Try.underlying84 rfl (by repeat first|assumption|exact Upd.here|apply Upd.there) rfl (p9_is _) trivial (dec_del (by omega))) rfl rfl ?_
    rintro _ _ ⟨rfl, rfl⟩
    refine SE.seq ?_
    refine SC.seq ?_
    refine SC.drawZ [] (.q 0 (.q 1 (.q 2 (.q 3 (.q 4 (.q 5 .nil)))))) (by kernel_rfl) (by kernel_rfl) ?_
    refine SX.val rfl (Val.move rfl) (by simp) rfl rfl ?_
    refine SX.val rfl (Val.nilCheck rfl) (by simp) rfl rfl ?_
    refine SX.val rfl (Val.fieldAddr tabOk rfl rfl rfl rfl rfl) (by simp) rfl rfl ?_
    refine SX.val rfl (Val.load1 tabOk rfl rfl (by first|(apply Or.inl;(repeat first|assumption|exact m0|apply m1);done)|(apply Or.inr;(repeat first|assumption|exact m0|apply m1);done)) List.not_mem_nil (by rfl)) (by first | (simp [mids, It.mids, ownPc, mapPc]; done) | (intro k hk; simp [mids, It.mids, ownPc, mapPc, mapAtPc] at hk ⊢; grind)) rfl rfl ?_
    refine SX.val rfl (Val.move rfl) (by simp) rfl rfl ?_
    refine SX.val rfl (Val.loadA tabOk rfl rfl rfl (by first|(apply Or.inl;(repeat first|assumption|exact m0|apply m1);done)|(apply Or.inr;(repeat first|assumption|exact m0|apply m1);done)) List.not_mem_nil (p9C_len _)) (by first | (simp [mids, It.mids, ownPc, mapPc]; done) | (intro k hk; simp [mids, It.mids, ownPc, mapPc, mapAtPc] at hk ⊢; grind)) rfl rfl ?_
    refine SX.nil ?_
    refine SE.effZ rfl (Eff.mapPut (a := who) (v := k) (m' := aput m who k) (int_fit Try.underlying3) Try.underlying83 rfl (by repeat first|assumption|exact Upd.here|apply Upd.there) rfl is_v hw rfl (p9_is _) rfl) rfl rfl ?_
    rintro _ _ ⟨rfl, rfl⟩
    refine SE.seq ?_
    refine SC.known (p := t ∉ [bn] ∧ b5 ∉ [bn]) (fun _ _ h => by
        have h1 := h.mem.nodup
        simp [mids, It.mids, mapPc, ownPc] at h1 ⊢
        grind) fun hX => ?_
    refine SC.draw [bn] (.q 0 (.q 1 (.q 2 (.q 3 (.q 4 (.two 5 7 (.q 6 (.e 7 (.q 8 (.e 9 .nil)))) (.q 8 (.e 5 (.q 6 (.e 9 .nil)))))))))) (by kernel_rfl) (by kernel_rfl) ?_
    refine SX.val rfl (Val.move rfl) (by first | (simp [mids, It.mids, ownPc, mapPc]; done) | (intro k hk; simp [mids, It.mids, ownPc, mapPc, mapAtPc] at hk ⊢; grind)) rfl rfl ?_
    refine SX.val rfl (Val.nilCheck rfl) (by first | (simp [mids, It.mids, ownPc, mapPc]; done) | (intro k hk; simp [mids, It.mids, ownPc, mapPc, mapAtPc] at hk ⊢; grind)) rfl rfl ?_
    refine SX.val rfl (Val.fieldAddr tabOk rfl rfl rfl rfl rfl) (by first | (simp [mids, It.mids, ownPc, mapPc]; done) | (intro k hk; simp [mids, It.mids, ownPc, mapPc, mapAtPc] at hk ⊢; grind)) rfl rfl ?_
    refine SX.val rfl (Val.load1 tabOk rfl rfl (by first|(apply Or.inl;(repeat first|assumption|exact m0|apply m1);done)|(apply Or.inr;(repeat first|assumption|exact m0|apply m1);done)) (by first | exact hX.1 | exact hX.2) (by rfl)) (by first | (simp [mids, It.mids, ownPc, mapPc]; done) | (intro k hk; simp [mids, It.mids, ownPc, mapPc, mapAtPc] at hk ⊢; grind)) rfl rfl ?_
    refine SX.val rfl (Val.loadA tabOk rfl rfl rfl (by first|(apply Or.inl;(repeat first|assumption|exact m0|apply m1);done)|(apply Or.inr;(repeat first|assumption|exact m0|apply m1);done)) (by first | exact hX.1 | exact hX.2) (p9C_len _)) (by first | (simp [mids, It.mids, ownPc, mapPc]; done) | (intro k hk; simp [mids, It.mids, ownPc, mapPc, mapAtPc] at hk ⊢; grind)) rfl rfl ?_
    refine SX.two ?_ ?_
    · skip
      first
        | (refine SX.valE rfl (Val.mapGet (a := k) (zv := cntV 0) (C := int ((cget (decO c (some v)) k : Nat) : Int)) p9_fit Try.underlying84 int_zero rfl ?_ List.not_mem_nil rfl (p9_is _) trivial (cget_is _ _)) rfl rfl ?_; focus (apply Or.inl; (repeat first|assumption|exact m0|apply m1); done))
        | (refine SX.valE rfl (Val.mapGetAt (a := k) (a' := k) (s := s54) (zv := cntV 0) (C := int ((cget (decO c (some v)) k : Nat) : Int)) p9_fit Try.underlying84 int_zero rfl ?_ rfl (p9_is _) trivial (cget_ent_is _ _)) rfl rfl ?_; focus ((repeat first|assumption|exact m0|apply m1); done))
      refine SX.val rfl (Val.to (C := int ((cget (decO c (some v)) k + 1 : Nat) : Int)) (Val.addI rfl rfl (by have := hti.dec_le (aget m who) k; rw [hv] at this; have e : cget (decO c (some v)) k ≤ m.length := this; simp only [InR, lo, hi]; omega)) (congrArg int (by omega))) (by first | (simp [mids, It.mids, ownPc, mapPc]; done) | (intro k hk; simp [mids, It.mids, ownPc, mapPc, mapAtPc] at hk ⊢; grind)) rfl rfl ?_
      refine SX.eff rfl (Eff.mapEntry (a := k) (zv := 0) (V := cntV) (C := int ((cget (decO c (some v)) k : Nat) : Int)) p9_fit Try.underlying84 int_zero rfl (fun s => (by repeat first|assumption|exact Upd.here|apply Upd.there)) rfl (p9_is _) trivial (cget_is _ _)) (by simp) rfl rfl ?_
      rintro _ _ ⟨s54, rfl, rfl⟩
      refine SX.val rfl (Val.extract rfl rfl) (by first | (simp [mids, It.mids, ownPc, mapPc]; done) | (intro k hk; simp [mids, It.mids, ownPc, mapPc, mapAtPc] at hk ⊢; grind)) rfl rfl ?_
      refine SX.eff rfl (Eff.entryStore (v := cget (decO c (some v)) k + 1) (m' := aput (decO c (some v)) k (cget (decO c (some v)) k + 1)) rfl (by repeat first|assumption|exact Upd.here|apply Upd.there) rfl rfl is_v (aput_aent _ _ _ _)) (by simp) rfl rfl ?_
      rintro _ _ ⟨rfl, rfl⟩
      refine SX.nil ?_
      refine SE.finN (rs := []) rfl RV.nil (()) (by rw [chgC_old hv]; repeat (first | exact List.nil_sublist _ | exact List.Sublist.refl _ | apply List.Sublist.cons_cons | apply List.Sublist.cons)) (by simp [It.rids]) ?_
      exact rfl
    · skip
      refine SX.eff rfl (Eff.mapEntry (a := k) (zv := 0) (V := cntV) (C := int ((cget (decO c (some v)) k : Nat) : Int)) p9_fit Try.underlying84 int_zero rfl (fun s => (by repeat first|assumption|exact Upd.here|apply Upd.there)) rfl (p9_is _) trivial (cget_is _ _)) (by simp) rfl rfl ?_
      rintro _ _ ⟨s54, rfl, rfl⟩
      refine SX.val rfl (Val.extract rfl rfl) (by first | (simp [mids, It.mids, ownPc, mapPc]; done) | (intro k hk; simp [mids, It.mids, ownPc, mapPc, mapAtPc] at hk ⊢; grind)) rfl rfl ?_
      first
        | (refine SX.valE rfl (Val.mapGet (a := k) (zv := cntV 0) (C := int ((cget (decO c (some v)) k : Nat) : Int)) p9_fit Try.underlying84 int_zero rfl ?_ List.not_mem_nil rfl (p9_is _) trivial (cget_is _ _)) rfl rfl ?_; focus (apply Or.inl; (repeat first|assumption|exact m0|apply m1); done))
        | (refine SX.valE rfl (Val.mapGetAt (a := k) (a' := k) (s := s54) (zv := cntV 0) (C := int ((cget (decO c (some v)) k : Nat) : Int)) p9_fit Try.underlying84 int_zero rfl ?_ rfl (p9_is _) trivial (cget_ent_is _ _)) rfl rfl ?_; focus ((repeat first|assumption|exact m0|apply m1); done))
      refine SX.val rfl (Val.to (C := int ((cget (decO c (some v)) k + 1 : Nat) : Int)) (Val.addI rfl rfl (by have := hti.dec_le (aget m who) k; rw [hv] at this; have e : cget (decO c (some v)) k ≤ m.length := this; simp only [InR, lo, hi]; omega)) (congrArg int (by omega))) (by first | (simp [mids, It.mids, ownPc, mapPc]; done) | (intro k hk; simp [mids, It.mids, ownPc, mapPc, mapAtPc] at hk ⊢; grind)) rfl rfl ?_
      refine SX.eff rfl (Eff.entryStore (v := cget (decO c (some v)) k + 1) (m' := aput (decO c (some v)) k (cget (decO c (some v)) k + 1)) rfl (by repeat first|assumption|exact Upd.here|apply Upd.there) rfl rfl is_v (aput_aent _ _ _ _)) (by simp) rfl rfl ?_
      rintro _ _ ⟨rfl, rfl⟩
      refine SX.nil ?_
      refine SE.finN (rs := []) rfl RV.nil (()) (by rw [chgC_old hv]; repeat (first | exact List.nil_sublist _ | exact List.Sublist.refl _ | apply List.Sublist.cons_cons | apply List.Sublist.cons)) (by simp [It.rids]) ?_
      exact rfl
set_option maxHeartbeats 2000000 in
theorem p9_addO_s (hw : intOk who) (hti : TInv m c) (hl : m.length ≤ 1000)  (hv : aget m who = some v) : Spec Try.prog 29 [ptr t, int who, p9E k] [.blk t 86 [mapV bv, mapV bn], .pc (mapPc bv intK p9V intOk m), .pc (mapPc bn p9V cntV top c)] (fun _ : Unit => [.blk t 86 [mapV bv, mapV bn], .pc (mapPc bv intK p9V intOk m), .pc (mapPc bn p9V cntV top c)]) (fun _ => boo (decide (v = k))) := by
  refine spec_of Try.func29 rfl Try.ntmps29 rfl fun G w => ?_
  refine SC.seq (SC.region ?_)
  refine SL.eff (Eff.boxA (cs := p9C k) rfl) rfl rfl ?_
  rintro _ _ ⟨b5, rfl, rfl⟩
  refine SL.val (Val.assign rfl) rfl rfl ?_
  refine SL.nil (SE.seq ?_)
  refine SC.seq ?_
  refine SC.seq (SC.region ?_)
  refine SL.val (Val.move rfl) rfl rfl ?_
  refine SL.val (Val.eqP rfl rfl (by kernel_rfl)) rfl rfl ?_
  refine SL.nil (SE.seq ?_)
  refine SC.condF rfl ?_
  refine SC.skip ?_
  refine SE.seq ?_
  refine SC.seq ?_
  refine SC.seq (SC.region ?_)
  refine SL.val (Val.move rfl) rfl rfl ?_
  refine SL.val (Val.nilCheck rfl) rfl rfl ?_
  refine SL.val (Val.fieldAddr tabOk rfl rfl rfl rfl rfl) rfl rfl ?_
  refine SL.val (Val.load1 tabOk rfl rfl (by first|(apply Or.inl;(repeat first|assumption|exact m0|apply m1);done)|(apply Or.inr;(repeat first|assumption|exact m0|apply m1);done)) List.not_mem_nil (by rfl)) rfl rfl ?_
  refine SL.val (Val.move rfl) rfl rfl ?_
  refine SL.val (Val.to (C := .tup [.agg (p9C v), boo true]) (Val.mapGetOk (a := who) (zv := (.agg #[.int .u8 0, .int .u8 0])) (C := p9A (aget m who)) (int_fit Try.underlying3) Try.underlying83 p9_zero rfl (by first|(apply Or.inl;(repeat first|assumption|exact m0|apply m1);done)|(apply Or.inr;(repeat first|assumption|exact m0|apply m1);done)) List.not_mem_nil rfl is_v hw (p9A_is _)) (by rw [hv]; rfl)) rfl rfl ?_
  refine SL.val (Val.move rfl) rfl rfl ?_
  refine SL.val (Val.extract rfl rfl) rfl rfl ?_
  refine SL.val (Val.extract rfl rfl) rfl rfl ?_
  refine SL.eff (Eff.alloc tabOk rfl) rfl rfl ?_
  rintro _ _ ⟨b7, rfl, rfl⟩
  refine SL.eff (Eff.store (L' := (p9C v)) tabOk rfl rfl rfl (by repeat first|assumption|exact Upd.here|apply Upd.there) (by exact (p9C_len _)) (Nat.le_of_ble_eq_true (by rfl)) (by exact (p9C_ones _)) (putL_whole (by exact (p9C_len _)))) rfl rfl ?_
  rintro _ _ ⟨rfl, rfl⟩
  refine SL.val (Val.assign rfl) rfl rfl ?_
  refine SL.nil (SE.seq ?_)
  refine SC.seq (SC.region ?_)
  refine SL.val (Val.move rfl) rfl rfl ?_
  refine SL.nil (SE.seq ?_)
  refine SC.condT rfl ?_
  refine SC.seq (SC.region ?_)
  refine SL.val (Val.loadA tabOk rfl rfl rfl (by first|(apply Or.inl;(repeat first|assumption|exact m0|apply m1);done)|(apply Or.inr;(repeat first|assumption|exact m0|apply m1);done)) List.not_mem_nil (p9C_len _)) rfl rfl ?_
  refine SL.val (Val.loadA tabOk rfl rfl rfl (by first|(apply Or.inl;(repeat first|assumption|exact m0|apply m1);done)|(apply Or.inr;(repeat first|assumption|exact m0|apply m1);done)) List.not_mem_nil (p9C_len _)) rfl rfl ?_
  refine SL.val (Val.eqA (X' := [bc v, bc 9]) (Y' := [bc k, bc 9]) rfl rfl rfl rfl (by kernel_rfl) (eqp9 v k)) rfl rfl ?_
  refine SL.val (Val.assign rfl) rfl rfl ?_
  refine SL.nil (SE.seq ?_)
  refine SC.ret ?_
  refine SE.then_ (by intro h; cases h) ?_
  refine SE.fin (rs := [.tmp 6]) rfl (RV.tmp rfl RV.nil) (()) (by repeat first|exact s0 _|exact s1 _|apply s2|apply s3) (by simp [It.rids]) ?_
  exact rfl
set_option maxHeartbeats 2000000 in
theorem p9_addN_s (hw : intOk who) (hti : TInv m c) (hl : m.length ≤ 1000)  (hv : aget m who = none) : Spec Try.prog 29 [ptr t, int who, p9E k] [.blk t 86 [mapV bv, mapV bn], .pc (mapPc bv intK p9V intOk m), .pc (mapPc bn p9V cntV top c)] (fun _ : Unit => [.blk t 86 [mapV bv, mapV bn], .pc (mapPc bv intK p9V intOk (aput m who k)), .pc (mapPc bn p9V cntV top (chgC m c who k))]) (fun _ => boo true) := by
  refine spec_of Try.func29 rfl Try.ntmps29 rfl fun G w => ?_
  refine SC.seq (SC.region ?_)
  refine SL.eff (Eff.boxA (cs := p9C k) rfl) rfl rfl ?_
  rintro _ _ ⟨b5, rfl, rfl⟩
  refine SL.val (Val.assign rfl) rfl rfl ?_
  refine SL.nil (SE.seq ?_)
  refine SC.seq ?_
  refine SC.seq (SC.region ?_)
  refine SL.val (Val.move rfl) rfl rfl ?_
  refine SL.val (Val.eqP rfl rfl (by kernel_rfl)) rfl rfl ?_
  refine SL.nil (SE.seq ?_)
  refine SC.condF rfl ?_
  refine SC.skip ?_
  refine SE.seq ?_
  refine SC.seq ?_
  refine SC.seq (SC.region ?_)
  refine SL.val (Val.move rfl) rfl rfl ?_
  refine SL.val (Val.nilCheck rfl) rfl rfl ?_
  refine SL.val (Val.fieldAddr tabOk rfl rfl rfl rfl rfl) rfl rfl ?_
  refine SL.val (Val.load1 tabOk rfl rfl (by first|(apply Or.inl;(repeat first|assumption|exact m0|apply m1);done)|(apply Or.inr;(repeat first|assumption|exact m0|apply m1);done)) List.not_mem_nil (by rfl)) rfl rfl ?_
  refine SL.val (Val.move rfl) rfl rfl ?_
  refine SL.val (Val.to (C := .tup [.agg p9Z, boo false]) (Val.mapGetOk (a := who) (zv := (.agg #[.int .u8 0, .int .u8 0])) (C := p9A (aget m who)) (int_fit Try.underlying3) Try.underlying83 p9_zero rfl (by first|(apply Or.inl;(repeat first|assumption|exact m0|apply m1);done)|(apply Or.inr;(repeat first|assumption|exact m0|apply m1);done)) List.not_mem_nil rfl is_v hw (p9A_is _)) (by rw [hv]; rfl)) rfl rfl ?_
  refine SL.val (Val.move rfl) rfl rfl ?_
  refine SL.val (Val.extract rfl rfl) rfl rfl ?_
  refine SL.val (Val.extract rfl rfl) rfl rfl ?_
  refine SL.eff (Eff.alloc tabOk rfl) rfl rfl ?_
  rintro _ _ ⟨b7, rfl, rfl⟩
  refine SL.eff (Eff.store (L' := p9Z) tabOk rfl rfl rfl (by repeat first|assumption|exact Upd.here|apply Upd.there) (by exact rfl) (Nat.le_of_ble_eq_true (by rfl)) (by exact rfl) (putL_whole (by exact rfl))) rfl rfl ?_
  rintro _ _ ⟨rfl, rfl⟩
  refine SL.val (Val.assign rfl) rfl rfl ?_
  refine SL.nil (SE.seq ?_)
  refine SC.seq (SC.region ?_)
  refine SL.val (Val.move rfl) rfl rfl ?_
  refine SL.nil (SE.seq ?_)
  refine SC.condF rfl ?_
  refine SC.skip ?_
  refine SE.seq ?_
  refine SC.seq (SC.region ?_)
  refine SL.val (Val.move rfl) rfl rfl ?_
  refine SL.val (Val.move rfl) rfl rfl ?_
  refine SL.val (Val.loadA tabOk rfl rfl rfl (by first|(apply Or.inl;(repeat first|assumption|exact m0|apply m1);done)|(apply Or.inr;(repeat first|assumption|exact m0|apply m1);done)) List.not_mem_nil (p9C_len _)) rfl rfl ?_
  refine SL.call (p9_changeN_s (t := t) (bv := bv) (bn := bn) (k := k) hw hti hl hv) Casts.refl (by kernel_rfl) rfl rfl rfl ?_
  refine After.three3 ⟨rfl, rfl, rfl⟩ (fun _ => rfl) ?_
  intro _
  refine SL.nil (SE.seq ?_)
  refine SC.seq (SC.region ?_)
  refine SL.val (Val.assign rfl) rfl rfl ?_
  refine SL.nil (SE.seq ?_)
  refine SC.ret ?_
  refine SE.fin (rs := [.tmp 6]) rfl (RV.tmp rfl RV.nil) (()) (by repeat first|exact s0 _|exact s1 _|apply s2|apply s3) (by simp [It.rids]) ?_
  exact rfl
set_option maxHeartbeats 2000000 in
theorem p9_least_s (hl : m.length ≤ 1000) (hmok : ∀ w ∈ m.map (·.1), intOk w) : Spec Try.prog 31 [ptr t, int at_] [.blk t 86 [mapV bv, mapV bn], .pc (mapPc bv intK p9V intOk m), .pc (mapPc bn p9V cntV top c)] (fun _ : Unit => [.blk t 86 [mapV bv, mapV bn], .pc (mapPc bv intK p9V intOk m), .pc (mapPc bn p9V cntV top c)]) (fun _ => .tup [p9A (leastO m c at_ (srt (m.map (·.1)))), boo (leastO m c at_ (srt (m.map (·.1)))).isSome]) := by
  have hsl : (srt (m.map (·.1))).length = m.length := by rw [srt_length, List.length_map]
  refine spec_of Try.func31 rfl Try.ntmps31 rfl fun G w => ?_
  refine SC.seq (SC.region ?_)
  refine SL.eff (Eff.alloc tabOk rfl) rfl rfl ?_
  rintro _ _ ⟨b4, rfl, rfl⟩
  refine SL.val (Val.assign rfl) rfl rfl ?_
  refine SL.nil (SE.seq ?_)
  refine SC.seq ?_
  refine SC.seq (SC.region ?_)
  refine SL.val (Val.move rfl) rfl rfl ?_
  refine SL.call (p9_voters_s (t := t) (bv := bv) (bn := bn) (m := m) (c := c) hl) Casts.refl (by kernel_rfl) rfl rfl rfl ?_
  refine After.threeN1 ⟨rfl, rfl, rfl⟩ (fun _ => rfl) ?_
  intro r11
  refine SL.freeze [_] (t := 11) rfl rfl ?_
  first
    | refine SL.val (Val.lenSl rfl Try.underlying41 (List.length_map _)) rfl rfl ?_
    | refine SL.val (Val.lenOwn rfl (by repeat first|assumption|exact m0|apply m1) Try.underlying41 (List.length_map _)) rfl rfl ?_
    | refine SL.val (Val.lenNil rfl Try.underlying41) rfl rfl ?_
  refine SL.val (Val.move rfl) rfl rfl ?_
  refine SL.nil (SE.seq ?_)
  refine SC.block ?_
  refine SC.loop (ι := Nat) (fun z => [.blk b4 57 p9Z, .blk t 86 [mapV bv, mapV bn], .pc (mapPc bv intK p9V intOk m), .pc (mapPc bn p9V cntV top c)]) (fun z => [(0, ptr t), (1, int at_), (4, ptr b4), (11, ints (srt (m.map (·.1)))), (12, int ((srt (m.map (·.1))).length : Nat)), (13, int (z : Nat))]) (fun z => z ≤ (srt (m.map (·.1))).length ∧ ∀ j (h : j < (srt (m.map (·.1))).length), j < z → ∀ v, aget m (srt (m.map (·.1)))[j] = some v → ¬ (1 ≤ at_ ∧ at_ ≤ cget c v)) (fun z => (srt (m.map (·.1))).length - z) (0) (⟨Nat.zero_le _, fun j h hj => by omega⟩) (by exact ⟨rfl, rfl, rfl, rfl, rfl, rfl, trivial⟩) (by repeat first|exact s0 _|exact s1 _|apply s2|apply s3) ?_
  intro z hz
  refine SC.seq (SC.region ?_)
  refine SL.val (Val.ltI rfl rfl) rfl rfl ?_
  refine SL.nil (SE.seq ?_)
  refine SC.seq ?_
  refine SC.condP rfl ?_ ?_
  rotate_left
  · intro hc14
    refine SC.exit ?_
    refine SE.then_ (by intro h; cases h) ?_
    refine SE.then_ (by intro h; cases h) ?_
    refine SE.exit ?_
    refine SE.seq ?_
    refine SC.seq (SC.region ?_)
    refine SL.eff (Eff.alloc tabOk rfl) rfl rfl ?_
    rintro _ _ ⟨b9, rfl, rfl⟩
    refine SL.nil (SE.seq ?_)
    refine SC.seq (SC.region ?_)
    refine SL.val (Val.to (C := .agg p9Z) (Val.loadA tabOk rfl rfl rfl (by first|(apply Or.inl;(repeat first|assumption|exact m0|apply m1);done)|(apply Or.inr;(repeat first|assumption|exact m0|apply m1);done)) List.not_mem_nil rfl) rfl) rfl rfl ?_
    refine SL.eff (Eff.store (L' := p9Z) tabOk rfl rfl rfl (by repeat first|assumption|exact Upd.here|apply Upd.there) (by exact rfl) (Nat.le_of_ble_eq_true (by rfl)) (by exact rfl) (putL_whole (by exact rfl))) rfl rfl ?_
    rintro _ _ ⟨rfl, rfl⟩
    refine SL.val (Val.assign rfl) rfl rfl ?_
    refine SL.nil (SE.seq ?_)
    refine SC.ret ?_
    have hle : leastO m c at_ (srt (m.map (·.1))) = none := by
      rw [leastO_drop hz.2, List.drop_eq_nil_of_le (by omega)]
      rfl
    refine SE.fin (rs := [.cell 4 57, .tmp 5]) rfl (RV.cell rfl (RV.cellA tabOk rfl rfl (by first|(apply Or.inl;(repeat first|assumption|exact m0|apply m1);done)|(apply Or.inr;(repeat first|assumption|exact m0|apply m1);done)) (by rfl)) (RV.tmp rfl RV.nil)) (()) (by repeat first|exact s0 _|exact s1 _|apply s2|apply s3) (by simp [It.rids]) ?_
    rw [hle]
    rfl
  intro hc14
  have hlt : z < (srt (m.map (·.1))).length := by omega
  have hin : (srt (m.map (·.1)))[z] ∈ m.map (·.1) := (srt_perm _).mem_iff.1 (List.getElem_mem hlt)
  obtain ⟨v, hv⟩ := isSome_some ((aget_isSome m (srt (m.map (·.1)))[z]).2 hin)
  have hwz := hmok _ hin
  refine SC.skip ?_
  refine SE.seq ?_
  refine SC.seq ?_
  refine SC.block ?_
  refine SC.seq (SC.region ?_)
  refine SL.val (Val.indexSl tabOk Try.underlying41 rfl rfl rfl rfl (at_map (by omega)) rfl rfl) rfl rfl ?_
  refine SL.val (Val.to (C := int ((srt (m.map (·.1)))[z]'hlt)) (Val.load1R tabOk rfl rfl rfl) rfl) rfl rfl ?_
  refine SL.val (Val.assign rfl) rfl rfl ?_
  refine SL.nil (SE.seq ?_)
  refine SC.seq (SC.region ?_)
  refine SL.val (Val.move rfl) rfl rfl ?_
  refine SL.val (Val.nilCheck rfl) rfl rfl ?_
  refine SL.val (Val.fieldAddr tabOk rfl rfl rfl rfl rfl) rfl rfl ?_
  refine SL.val (Val.load1 tabOk rfl rfl (by first|(apply Or.inl;(repeat first|assumption|exact m0|apply m1);done)|(apply Or.inr;(repeat first|assumption|exact m0|apply m1);done)) List.not_mem_nil (by rfl)) rfl rfl ?_
  refine SL.val (Val.move rfl) rfl rfl ?_
  refine SL.val (Val.to (C := .agg (p9C v)) (Val.mapGet (a := (srt (m.map (·.1)))[z]) (zv := (.agg #[.int .u8 0, .int .u8 0])) (C := p9A (aget m (srt (m.map (·.1)))[z])) (int_fit Try.underlying3) Try.underlying83 p9_zero rfl (by first|(apply Or.inl;(repeat first|assumption|exact m0|apply m1);done)|(apply Or.inr;(repeat first|assumption|exact m0|apply m1);done)) List.not_mem_nil rfl is_v hwz (p9A_is _)) (by rw [hv]; rfl)) rfl rfl ?_
  refine SL.eff (Eff.alloc tabOk rfl) rfl rfl ?_
  rintro _ _ ⟨b8, rfl, rfl⟩
  refine SL.eff (Eff.store (L' := (p9C v)) tabOk rfl rfl rfl (by repeat first|assumption|exact Upd.here|apply Upd.there) (by exact (p9C_len _)) (Nat.le_of_ble_eq_true (by rfl)) (by exact (p9C_ones _)) (putL_whole (by exact (p9C_len _)))) rfl rfl ?_
  rintro _ _ ⟨rfl, rfl⟩
  refine SL.nil (SE.seq ?_)
  refine SC.seq ?_
  refine SC.draw [] (.q 0 (.q 1 (.q 2 (.q 3 (.q 4 (.q 5 (.q 6 (.q 7 (.q 8 (.q 9 (.q 10 (.q 11 .nil)))))))))))) (by kernel_rfl) (by kernel_rfl) ?_
  refine SX.val rfl (Val.move rfl) (by simp) rfl rfl ?_
  refine SX.val rfl (Val.geI rfl rfl) (by simp) rfl rfl ?_
  refine SX.val rfl (Val.move rfl) (by simp) rfl rfl ?_
  refine SX.bothP (t := 25) rfl ?_ ?_
  rotate_left
  · intro hc25
    iterate 8 refine SX.skip rfl rfl rfl ?_
    refine SX.val rfl (Val.pickF rfl rfl) (by simp) rfl rfl ?_
    refine SX.nil (SE.seq ?_)
    refine SC.condF rfl ?_
    refine SC.skip ?_
    refine SE.inBlock ?_
    refine SE.seq ?_
    refine SC.region ?_
    first
      | refine SL.val (Val.addI rfl rfl (by simp only [InR, lo, hi]; omega)) rfl rfl ?_
      | refine SL.val (Val.addW rfl rfl) rfl rfl ?_
    refine SL.val (Val.move rfl) rfl rfl ?_
    refine SL.nil ?_
    refine SE.round (z + 1) (by first | omega | (dsimp only; omega)) (⟨by omega, fun j h hj u hu => by
          rcases Nat.lt_or_ge j z with h1 | h1
          · exact hz.2 j h h1 u hu
          · obtain rfl : j = z := by omega
            rw [hv] at hu
            cases hu
            first | omega | (simp at *; omega)⟩) (by exact ⟨rfl, rfl, rfl, rfl, rfl, rfl, trivial⟩) (by repeat first|exact s0 _|exact s1 _|apply s2|apply s3)
  intro hc25
  refine SX.val rfl (Val.move rfl) (by simp) rfl rfl ?_
  refine SX.val rfl (Val.nilCheck rfl) (by simp) rfl rfl ?_
  refine SX.val rfl (Val.fieldAddr tabOk rfl rfl rfl rfl rfl) (by simp) rfl rfl ?_
  refine SX.val rfl (Val.load1 tabOk rfl rfl (by first|(apply Or.inl;(repeat first|assumption|exact m0|apply m1);done)|(apply Or.inr;(repeat first|assumption|exact m0|apply m1);done)) List.not_mem_nil (by rfl)) (by simp) rfl rfl ?_
  refine SX.val rfl (Val.loadA tabOk rfl rfl rfl (by first|(apply Or.inl;(repeat first|assumption|exact m0|apply m1);done)|(apply Or.inr;(repeat first|assumption|exact m0|apply m1);done)) List.not_mem_nil (p9C_len _)) (by first | (simp [mids, It.mids, ownPc, mapPc]; done) | (intro k hk; simp [mids, It.mids, ownPc, mapPc, mapAtPc] at hk ⊢; grind)) rfl rfl ?_
  refine SX.val rfl (Val.mapGet (a := v) (zv := cntV 0) (C := int ((cget c v : Nat) : Int)) p9_fit Try.underlying84 int_zero rfl (by first|(apply Or.inl;(repeat first|assumption|exact m0|apply m1);done)|(apply Or.inr;(repeat first|assumption|exact m0|apply m1);done)) List.not_mem_nil rfl (p9_is _) trivial (cget_is _ _)) (by first | (simp [mids, It.mids, ownPc, mapPc]; done) | (intro k hk; simp [mids, It.mids, ownPc, mapPc, mapAtPc] at hk ⊢; grind)) rfl rfl ?_
  refine SX.val rfl (Val.move rfl) (by simp) rfl rfl ?_
  refine SX.val rfl (Val.geI rfl rfl) (by simp) rfl rfl ?_
  refine SX.val rfl (Val.pickT rfl rfl) (by simp) rfl rfl ?_
  refine SX.nil (SE.seq ?_)
  refine SC.condP rfl ?_ ?_
  rotate_left
  · intro hc34
    refine SC.skip ?_
    refine SE.inBlock ?_
    refine SE.seq ?_
    refine SC.region ?_
    first
      | refine SL.val (Val.addI rfl rfl (by simp only [InR, lo, hi]; omega)) rfl rfl ?_
      | refine SL.val (Val.addW rfl rfl) rfl rfl ?_
    refine SL.val (Val.move rfl) rfl rfl ?_
    refine SL.nil ?_
    refine SE.round (z + 1) (by first | omega | (dsimp only; omega)) (⟨by omega, fun j h hj u hu => by
          rcases Nat.lt_or_ge j z with h1 | h1
          · exact hz.2 j h h1 u hu
          · obtain rfl : j = z := by omega
            rw [hv] at hu
            cases hu
            first | omega | (simp at *; omega)⟩) (by exact ⟨rfl, rfl, rfl, rfl, rfl, rfl, trivial⟩) (by repeat first|exact s0 _|exact s1 _|apply s2|apply s3)
  intro hc34
  refine SC.seq (SC.region ?_)
  refine SL.val (Val.loadA tabOk rfl rfl rfl (by first|(apply Or.inl;(repeat first|assumption|exact m0|apply m1);done)|(apply Or.inr;(repeat first|assumption|exact m0|apply m1);done)) List.not_mem_nil (p9C_len _)) rfl rfl ?_
  refine SL.eff (Eff.store (L' := (p9C v)) tabOk rfl rfl rfl (by repeat first|assumption|exact Upd.here|apply Upd.there) (by exact (p9C_len _)) (Nat.le_of_ble_eq_true (by rfl)) (by exact (p9C_ones _)) (putL_whole (by exact (p9C_len _)))) rfl rfl ?_
  rintro _ _ ⟨rfl, rfl⟩
  refine SL.val (Val.assign rfl) rfl rfl ?_
  refine SL.nil (SE.seq ?_)
  refine SC.ret ?_
  refine SE.ret ?_
  refine SE.then_ (by intro h; cases h) ?_
  refine SE.then_ (by intro h; cases h) ?_
  refine SE.ret ?_
  refine SE.then_ (by intro h; cases h) ?_
  have hle : leastO m c at_ (srt (m.map (·.1))) = some v := by
    rw [leastO_drop hz.2, List.drop_eq_getElem_cons hlt, leastO_cons, hv]
    exact if_pos (by omega)
  refine SE.fin (rs := [.cell 4 57, .tmp 5]) rfl (RV.cell rfl (RV.cellA tabOk rfl rfl (by first|(apply Or.inl;(repeat first|assumption|exact m0|apply m1);done)|(apply Or.inr;(repeat first|assumption|exact m0|apply m1);done)) ((p9C_len _))) (RV.tmp rfl RV.nil)) (()) (by repeat first|exact s0 _|exact s1 _|apply s2|apply s3) (by simp [It.rids]) ?_
  rw [hle]
  rfl
end
end Go.Proofs.Ytonceioajbimaaa.A
/-
  Votes: as keys of maps, and two compared.
-/
set_option maxRecDepth 100000
set_option linter.unusedSimpArgs false
set_option linter.unusedVariables false
namespace Go.Proofs.Ytonceioajbimaaa.A
open Go.RowKit

/-- A vote. -/
structure Vt where
  view : Int
  seq : Int
  dig : List UInt8
  len : dig.length = 32
theorem Vt.same {p q : Vt} (h0 : p.view = q.view) (h1 : p.seq = q.seq) (h2 : p.dig = q.dig) : p = q := by
  obtain ⟨a, b, c, _⟩ := p
  obtain ⟨d, e, f, _⟩ := q
  dsimp only at h0 h1 h2
  subst h0 h1 h2
  rfl
instance : DecidableEq Vt := fun p q => if h : p.view = q.view ∧ p.seq = q.seq ∧ p.dig = q.dig then isTrue (Vt.same h.1 h.2.1 h.2.2) else isFalse fun e => h (by rw [e]; exact ⟨rfl, rfl, rfl⟩)
def vt0 : Vt := ⟨0, 0, List.replicate 32 0, rfl⟩
def vtOk (v : Vt) : Prop := intOk v.view ∧ intOk v.seq
def vtU (v : Vt) : List Value := .int .i64 v.view :: .int .i64 v.seq :: v.dig.map bc
def vtV (v : Vt) : Value := .agg (vtU v).toArray
def vtC (v : Vt) : List Abs := (vtU v).map .v
abbrev vtZ : List Abs := vtC vt0
theorem vtU_len (v : Vt) : (vtU v).length = 34 := by simp [vtU, v.len]
theorem vtC_len (v : Vt) : (vtC v).length = 34 := by simp [vtC, vtU_len]
theorem ones_v (l : List Value) (h : ∀ u ∈ l, (Abs.v u).one = true) : ones (l.map .v) = true := ones_iff.2 fun a ha => by
  obtain ⟨u, hu, rfl⟩ := List.mem_map.1 ha
  exact h u hu
theorem vtC_ones (v : Vt) : ones (vtC v) = true := ones_v _ fun u hu => by
  simp only [vtU, List.mem_cons, List.mem_map] at hu
  rcases hu with rfl | rfl | ⟨b, _, rfl⟩ <;> rfl
theorem vt_plains (v : Vt) : plains (vtC v) = some (vtU v) := by
  have h := plains_map (fun x : Value => x) (vtU v)
  simpa [vtC] using h
def vtL (v : Vt) : List Lit := .int .i64 v.view :: .int .i64 v.seq :: v.dig.map litB
theorem vtL_inj {p q : Vt} (h : vtL p = vtL q) : p = q := by
  unfold vtL at h
  simp only [List.cons.injEq, Lit.int.injEq, true_and] at h
  exact Vt.same h.1 h.2.1 (litB_inj h.2.2)
theorem vt_lits {m : Nat} (v : Vt) (h : vtOk v) : Try.prog.keyLits (m + 3) 29 (vtU v) = some (vtL v) := by
  have h1 := int_wf h.1
  have h2 := int_wf h.2
  have c1 : Try.prog.cellsOf 29 = 34 := by kernel_rfl
  have c2 : Try.prog.cellsOf 27 = 32 := by kernel_rfl
  have c3 : Try.prog.cellsOf 2 = 1 := by kernel_rfl
  have h3 := lits_bytes (m := m) Try.underlying27 c2 v.dig v.len
  have h4 : ∀ x : Int, (Lit.int .i64 x).wf = true → Try.prog.keyLits (m + 2) 2 [.int .i64 x] = some [.int .i64 x] := fun x hx => by
    simp [Program.keyLits, Try.underlying2, hx]
  have hl : (v.dig.map bc).length = 32 := by simp [v.len]
  have h5 : (v.dig.map bc).take 32 = v.dig.map bc := List.take_of_length_le (by omega)
  unfold Program.keyLits vtU vtL
  rw [Try.underlying29]
  simp [c1, c2, c3, h4 _ h1, h4 _ h2, h3, h5, v.len]
theorem vt_formed (v : Vt) : (vtV v).formed Try.prog 29 = true := by
  have c1 : Try.prog.cellsOf 29 = 34 := by kernel_rfl
  simp [Value.formed, vtV, Try.underlying29, c1, vtU_len]
theorem vt_lit (v : Vt) (h : vtOk v) : ∃ l, keyOf Try.prog 29 (vtV v) = some l := by
  have hk : Try.prog.keyType 29 = true := by kernel_rfl
  have hd : ∃ k, Try.prog.types.size + 1 = k + 3 := ⟨_, (rfl : Try.prog.types.size + 1 = (Try.prog.types.size - 2) + 3)⟩
  obtain ⟨k, hd⟩ := hd
  have hl := vt_lits (m := k) v h
  unfold keyOf
  simp only [Try.underlying29, hk, vt_formed, Bool.and_self, if_true, hd]
  rw [show (vtV v).cells.toList = vtU v from rfl, hl]
  exact ⟨_, rfl⟩
theorem vt_fit : KeyFit Try.prog 29 vtV vtOk where
  keyed := Maps.Keyed.of_law (deep_law_laid laid (m := 4) (by decide) (of_decide_eq_true (by kernel_rfl)) (by kernel_rfl) (by kernel_rfl))
  lit a h := vt_lit a h
  inj a b _ _ h := by
    unfold vtV at h
    injection h with h
    have h := congrArg Array.toList h
    simp only [vtU, List.cons.injEq, Value.int.injEq, true_and] at h
    refine Vt.same h.1 h.2.1 (litB_inj ?_)
    have e : ∀ l : List UInt8, l.map litB = (l.map bc).map fun v => match v with | .int q n => Lit.int q n | _ => litB 0 := fun l => by
      rw [List.map_map]
      exact List.map_congr_left fun x _ => rfl
    rw [e, e, h.2.2]
theorem eqVt {p q : Vt} (hp : vtOk p) (hq : vtOk q) (w : World) : (binOp .eql 29 (.agg (vtU p).toArray) (.agg (vtU q).toArray)).run Try.prog w = .ok (.bool (decide (p = q))) w :=
  run_eql_lits (m := 10) (by decide) (by kernel_rfl) (vt_formed p) (vt_formed q) (vt_lits (m := 0) p hp) (vt_lits (m := 0) q hq) _ (by
    rw [decide_eq_true_eq]
    exact ⟨fun h => by rw [h], vtL_inj⟩) w
theorem neVt {p q : Vt} (hp : vtOk p) (hq : vtOk q) (w : World) : (binOp .neq 29 (.agg (vtU p).toArray) (.agg (vtU q).toArray)).run Try.prog w = .ok (.bool (decide (p ≠ q))) w :=
  run_neq_lits (m := 10) (by decide) (by kernel_rfl) (vt_formed p) (vt_formed q) (vt_lits (m := 0) p hp) (vt_lits (m := 0) q hq) _ (by
    rw [decide_eq_true_eq]
    exact ⟨fun h e => h (vtL_inj e), fun h e => h (by rw [e])⟩) w
end Go.Proofs.Ytonceioajbimaaa.A
