/-
  Packed out of the texts: Y4, Y5, Law.
-/
import Derived.Test.YtonceioajbimaaaJ06
import Derived.Test.YtonceioajbimaaaRows
import Derived.OpenShut
import Derived.SizedLaws
/-
  Tallies of votes of several cells.
-/
set_option maxRecDepth 100000
set_option linter.unusedSimpArgs false
set_option linter.unusedVariables false
namespace Go.Proofs.Ytonceioajbimaaa.A
open Go.RowKit Go.Maps Go.Sort Go.Shelf

theorem After.three3 {ι : Type} {a b x1 x2 x3 : It} {β : Blks} {τ' : ι → Blks} {y1 y2 y3 : ι → It} {K : Blks → ι → Prop} (hr : x1.rids = [] ∧ x2.rids = [] ∧ x3.rids = []) (hτ : ∀ z, τ' z = [y1 z, y2 z, y3 z]) (k : ∀ z, K (a :: b :: y1 z :: y2 z :: y3 z :: β) z) : After (a :: b :: x1 :: x2 :: x3 :: β) [x1, x2, x3] τ' K :=
  After.mid [a, b] (β := β) rfl (by intro x hx; simp only [List.mem_cons, List.not_mem_nil, or_false] at hx; rcases hx with rfl | rfl | rfl; exact hr.1; exact hr.2.1; exact hr.2.2) fun z => by rw [hτ z]; exact k z
theorem After.threeN1 {ι : Type} {a x1 x2 x3 : It} {β : Blks} {τ' : ι → Blks} {y0 y1 y2 y3 : ι → It} {K : Blks → ι → Prop} (hr : x1.rids = [] ∧ x2.rids = [] ∧ x3.rids = []) (hτ : ∀ z, τ' z = [y0 z, y1 z, y2 z, y3 z]) (k : ∀ z, K (a :: y0 z :: y1 z :: y2 z :: y3 z :: β) z) : After (a :: x1 :: x2 :: x3 :: β) [x1, x2, x3] τ' K :=
  After.mid [a] (β := β) rfl (by intro x hx; simp only [List.mem_cons, List.not_mem_nil, or_false] at hx; rcases hx with rfl | rfl | rfl; exact hr.1; exact hr.2.1; exact hr.2.2) fun z => by rw [hτ z]; exact k z
section
variable {α : Type} [DecidableEq α] {m : List (Int × α)} {c : List (α × Nat)} {who : Int} {k v : α}
theorem chgC_new (hv : aget m who = none) : chgC m c who k = aput c k (cget c k + 1) := by
  unfold chgC
  rw [hv]
  rfl
theorem chgC_old (hv : aget m who = some v) : chgC m c who k = aput (decO c (some v)) k (cget (decO c (some v)) k + 1) := by
  unfold chgC
  rw [hv]
theorem cget_ent_is (c : List (α × Nat)) (v : α) : (int ((cget c v : Nat) : Int)).is (((aget (aent c v 0) v).map cntV).getD (cntV 0)) := by
  have h := cget_is (aent c v 0) v
  have e : cget (aent c v 0) v = cget c v := by
    unfold aent
    split
    · rfl
    · next hn =>
      rw [cget_aput, if_pos rfl]
      have : aget c v = none := by simpa using hn
      unfold cget
      rw [this]
      rfl
  rw [e] at h
  exact h
end
section
variable {P : Program} {n : Nat} {W : Wd} {σ : Blks} {l : Slots} {X : List Nat} {x y : Operand} {d : Option Nat} {ty t k e : TypeId} {pos : String} {aft : Array Edge} {g : Option (Nat × Bool)} {b s : Nat} {A C : Abs}
variable {α β : Type} [DecidableEq α] {K : α → Value} {V : β → Value} {Good : α → Prop} {m : List (α × β)} {a a' : α} {zv : Value}
/-- 'm[k]', an entry being under way. -/
theorem Val.mapGetAt (kf : KeyFit P k K Good) (ht : P.underlying t = some (.map k e)) (hz : ∀ w, (zeroValue e).run P w = .ok zv w) (hx : look l x = some (mapV b)) (hb : It.pc (mapAtPc b K V Good m a' s) ∈ σ)
    (hy : look l y = some A) (hA : A.is (K a)) (ha : Good a) (hC : C.is (((aget m a).map V).getD zv)) : Val P n W σ l [] ⟨d, .lookup t x y false, ty, pos, aft, g⟩ C := fun ac w hs _ => by
  have h0 : MapAt w b K V Good m a' s := hs.mem.hold _ hb
  have h1 : MapOf w b K V Good m := by
    obtain ⟨es, clock, h1, h2, h3, h4, h5, h6, _⟩ := h0
    exact ⟨es, clock, h1, h2, h3, h4, h5, h6⟩
  have e1 := hs.plain hx
  have e2 := hA.1 _ _ _ (hs.eval hy)
  refine ⟨((aget m a).map V).getD zv, hC.2 _ _, fun w' hw' => ?_⟩
  simp only [execOp, e1, e2, Sem.run_bind, (h1.ext hw' (by simp)).look_run kf ht (hz w') ha false, Bool.false_eq_true, if_false, Result.andThen_ok, Sem.run_pure]
end
def p9C (x : UInt8) : List Abs := [.v (bc x), .v (bc 9)]
abbrev p9Z : List Abs := [.v (.int .u8 0), .v (.int .u8 0)]
theorem p9C_len (x : UInt8) : (p9C x).length = 2 := rfl
theorem p9C_ones (x : UInt8) : ones (p9C x) = true := rfl
theorem p9_lits (x : UInt8) : Try.prog.keyLits 2 57 [bc x, bc 9] = some [litB x, litB 9] := by
  have hn : Try.prog.cellsOf 57 = 2 := by kernel_rfl
  have hn5 : Try.prog.cellsOf 5 = 1 := by kernel_rfl
  have hx := x.toNat_lt
  have e1 : IntKind.u8.min ≤ (x.toNat : Int) ∧ (x.toNat : Int) ≤ IntKind.u8.max := ⟨by show (0 : Int) ≤ _; omega, by show _ ≤ (255 : Int); omega⟩
  have e2 : IntKind.u8.min ≤ 9 ∧ 9 ≤ IntKind.u8.max := by decide
  simp [Program.keyLits, Try.underlying57, Try.underlying5, hn, hn5, bc, litB, Lit.wf, List.range, List.range.loop, e1, e2]
theorem eqp9 (x y : UInt8) (w : World) : (binOp .eql 57 (.agg #[bc x, bc 9]) (.agg #[bc y, bc 9])).run Try.prog w = .ok (.bool (decide (x = y))) w := by
  have hk : Try.prog.keyTypeAt 4 57 = true := by kernel_rfl
  have hf : ∀ x, (Value.agg #[bc x, bc 9]).formed Try.prog 57 = true := fun x => by
    have hc : Try.prog.cellsOf 57 = 2 := by kernel_rfl
    simp [Value.formed, Try.underlying57, hc]
  refine run_eql_lits (m := 4) (by decide) hk (hf x) (hf y) (p9_lits x) (p9_lits y) _ ?_ w
  rw [decide_eq_true_eq]
  constructor
  · rintro rfl; rfl
  · intro h
    have := (List.cons.inj h).1
    exact litB_inj (L := [x]) (M := [y]) (by simp [this]) |> fun h => by simpa using h
section
variable {t bv bn : Nat} {m : List (Int × UInt8)} {c : List (UInt8 × Nat)} {k v : UInt8} {who at_ : Int}
set_option maxHeartbeats 2000000 in
theorem p9_changeN_s (hw : intOk who) (hti : TInv m c) (hl : m.length ≤ 1000)  (hv : aget m who = none) : Spec Try.prog 41 [ptr t, int who, p9E k] [.blk t 86 [mapV bv, mapV bn], .pc (mapPc bv intK p9V intOk m), .pc (mapPc bn p9V cntV top c)] (fun _ : Unit => [.blk t 86 [mapV bv, mapV bn], .pc (mapPc bv intK p9V intOk (aput m who k)), .pc (mapPc bn p9V cntV top (chgC m c who k))]) (fun _ => .tup []) := by
  refine spec_of Try.func41 rfl Try.ntmps41 rfl fun G w => ?_
  refine SC.seq (SC.region ?_)
  refine SL.eff (Eff.boxA (cs := p9C k) rfl) rfl rfl ?_
  rintro _ _ ⟨b5, rfl, rfl⟩
  refine SL.nil (SE.seq ?_)
  refine SC.seq ?_
  refine SC.seq (SC.region ?_)
  refine SL.val (Val.move rfl) rfl rfl ?_
  refine SL.val (Val.eqP rfl rfl (by kernel_rfl)) rfl rfl ?_
  refine SL.nil (SE.seq ?_)
  refine SC.condF rfl ?_
  refine SC.skip ?_
  refine SE.seq ?_
  refine SC.seq ?_
  refine SC.seq (SC.region ?_)
  refine SL.val (Val.move rfl) rfl rfl ?_
  refine SL.val (Val.nilCheck rfl) rfl rfl ?_
  refine SL.val (Val.fieldAddr tabOk rfl rfl rfl rfl rfl) rfl rfl ?_
  refine SL.val (Val.load1 tabOk rfl rfl (by first|(apply Or.inl;(repeat first|assumption|exact m0|apply m1);done)|(apply Or.inr;(repeat first|assumption|exact m0|apply m1);done)) List.not_mem_nil (by rfl)) rfl rfl ?_
  refine SL.val (Val.move rfl) rfl rfl ?_
  refine SL.val (Val.to (C := .tup [.agg p9Z, boo false]) (Val.mapGetOk (a := who) (zv := (.agg #[.int .u8 0, .int .u8 0])) (C := p9A (aget m who)) (int_fit Try.underlying3) Try.underlying83 p9_zero rfl (by first|(apply Or.inl;(repeat first|assumption|exact m0|apply m1);done)|(apply Or.inr;(repeat first|assumption|exact m0|apply m1);done)) List.not_mem_nil rfl is_v hw (p9A_is _)) (by rw [hv]; rfl)) rfl rfl ?_
  refine SL.val (Val.move rfl) rfl rfl ?_
  refine SL.val (Val.extract rfl rfl) rfl rfl ?_
  refine SL.val (Val.extract rfl rfl) rfl rfl ?_
  refine SL.eff (Eff.alloc tabOk rfl) rfl rfl ?_
  rintro _ _ ⟨b6, rfl, rfl⟩
  refine SL.eff (Eff.store (L' := p9Z) tabOk rfl rfl rfl (by repeat first|assumption|exact Upd.here|apply Upd.there) (by exact rfl) (Nat.le_of_ble_eq_true (by rfl)) (by exact rfl) (putL_whole (by exact rfl))) rfl rfl ?_
  rintro _ _ ⟨rfl, rfl⟩
  refine SL.val (Val.assign rfl) rfl rfl ?_
  refine SL.nil (SE.seq ?_)
  refine SC.seq (SC.region ?_)
  refine SL.val (Val.move rfl) rfl rfl ?_
  refine SL.nil (SE.seq ?_)
  refine SC.condF rfl ?_
  refine SC.skip ?_
  refine SE.seq ?_
  refine SC.seq ?_
  refine SC.drawZ [] (.q 0 (.q 1 (.q 2 (.q 3 (.q 4 (.q 5 .nil)))))) (by kernel_rfl) (by kernel_rfl) ?_
  refine SX.val rfl (Val.move rfl) (by simp) rfl rfl ?_
  refine SX.val rfl (Val.nilCheck rfl) (by simp) rfl rfl ?_
  refine SX.val rfl (Val.fieldAddr tabOk rfl rfl rfl rfl rfl) (by simp) rfl rfl ?_
  refine SX.val rfl (Val.load1 tabOk rfl rfl (by first|(apply Or.inl;(repeat first|assumption|exact m0|apply m1);done)|(apply Or.inr;(repeat first|assumption|exact m0|apply m1);done)) List.not_mem_nil (by rfl)) (by first | (simp [mids, It.mids, ownPc, mapPc]; done) | (intro k hk; simp [mids, It.mids, ownPc, mapPc, mapAtPc] at hk ⊢; grind)) rfl rfl ?_
  refine SX.val rfl (Val.move rfl) (by simp) rfl rfl ?_
  refine SX.val rfl (Val.loadA tabOk rfl rfl rfl (by first|(apply Or.inl;(repeat first|assumption|exact m0|apply m1);done)|(apply Or.inr;(repeat first|assumption|exact m0|apply m1);done)) List.not_mem_nil (p9C_len _)) (by first | (simp [mids, It.mids, ownPc, mapPc]; done) | (intro k hk; simp [mids, It.mids, ownPc, mapPc, mapAtPc] at hk ⊢; grind)) rfl rfl ?_
  refine SX.nil ?_
  refine SE.effZ rfl (Eff.mapPut (a := who) (v := k) (m' := aput m who k) (int_fit Try.underlying3) Try.underlying83 rfl (by repeat first|assumption|exact Upd.here|apply Upd.there) rfl is_v hw rfl (p9_is _) rfl) rfl rfl ?_
  rintro _ _ ⟨rfl, rfl⟩
  refine SE.seq ?_
  refine SC.known (p := t ∉ [bn] ∧ b5 ∉ [bn]) (fun _ _ h => by
      have h1 := h.mem.nodup
      simp [mids, It.mids, mapPc, ownPc] at h1 ⊢
      grind) fun hX => ?_
  refine SC.draw [bn] (.q 0 (.q 1 (.q 2 (.q 3 (.q 4 (.two 5 7 (.q 6 (.e 7 (.q 8 (.e 9 .nil)))) (.q 8 (.e 5 (.q 6 (.e 9 .nil)))))))))) (by kernel_rfl) (by kernel_rfl) ?_
  refine SX.val rfl (Val.move rfl) (by first | (simp [mids, It.mids, ownPc, mapPc]; done) | (intro k hk; simp [mids, It.mids, ownPc, mapPc, mapAtPc] at hk ⊢; grind)) rfl rfl ?_
  refine SX.val rfl (Val.nilCheck rfl) (by first | (simp [mids, It.mids, ownPc, mapPc]; done) | (intro k hk; simp [mids, It.mids, ownPc, mapPc, mapAtPc] at hk ⊢; grind)) rfl rfl ?_
  refine SX.val rfl (Val.fieldAddr tabOk rfl rfl rfl rfl rfl) (by first | (simp [mids, It.mids, ownPc, mapPc]; done) | (intro k hk; simp [mids, It.mids, ownPc, mapPc, mapAtPc] at hk ⊢; grind)) rfl rfl ?_
  refine SX.val rfl (Val.load1 tabOk rfl rfl (by first|(apply Or.inl;(repeat first|assumption|exact m0|apply m1);done)|(apply Or.inr;(repeat first|assumption|exact m0|apply m1);done)) (by first | exact hX.1 | exact hX.2) (by rfl)) (by first | (simp [mids, It.mids, ownPc, mapPc]; done) | (intro k hk; simp [mids, It.mids, ownPc, mapPc, mapAtPc] at hk ⊢; grind)) rfl rfl ?_
  refine SX.val rfl (Val.loadA tabOk rfl rfl rfl (by first|(apply Or.inl;(repeat first|assumption|exact m0|apply m1);done)|(apply Or.inr;(repeat first|assumption|exact m0|apply m1);done)) (by first | exact hX.1 | exact hX.2) (p9C_len _)) (by first | (simp [mids, It.mids, ownPc, mapPc]; done) | (intro k hk; simp [mids, It.mids, ownPc, mapPc, mapAtPc] at hk ⊢; grind)) rfl rfl ?_
  refine SX.two ?_ ?_
  · skip
    first
      | (refine SX.valE rfl (Val.mapGet (a := k) (zv := cntV 0) (C := int ((cget c k : Nat) : Int)) p9_fit Try.underlying84 int_zero rfl ?_ List.not_mem_nil rfl (p9_is _) trivial (cget_is _ _)) rfl rfl ?_; focus (apply Or.inl; (repeat first|assumption|exact m0|apply m1); done))
      | (refine SX.valE rfl (Val.mapGetAt (a := k) (a' := k) (s := s54) (zv := cntV 0) (C := int ((cget c k : Nat) : Int)) p9_fit Try.underlying84 int_zero rfl ?_ rfl (p9_is _) trivial (cget_ent_is _ _)) rfl rfl ?_; focus ((repeat first|assumption|exact m0|apply m1); done))
    refine SX.val rfl (Val.to (C := int ((cget c k + 1 : Nat) : Int)) (Val.addI rfl rfl (by have := hti.dec_le (aget m who) k; rw [hv] at this; have e : cget c k ≤ m.length := this; simp only [InR, lo, hi]; omega)) (congrArg int (by omega))) (by first | (simp [mids, It.mids, ownPc, mapPc]; done) | (intro k hk; simp [mids, It.mids, ownPc, mapPc, mapAtPc] at hk ⊢; grind)) rfl rfl ?_
    refine SX.eff rfl (Eff.mapEntry (a := k) (zv := 0) (V := cntV) (C := int ((cget c k : Nat) : Int)) p9_fit Try.underlying84 int_zero rfl (fun s => (by repeat first|assumption|exact Upd.here|apply Upd.there)) rfl (p9_is _) trivial (cget_is _ _)) (by simp) rfl rfl ?_
    rintro _ _ ⟨s54, rfl, rfl⟩
    refine SX.val rfl (Val.extract rfl rfl) (by first | (simp [mids, It.mids, ownPc, mapPc]; done) | (intro k hk; simp [mids, It.mids, ownPc, mapPc, mapAtPc] at hk ⊢; grind)) rfl rfl ?_
    refine SX.eff rfl (Eff.entryStore (v := cget c k + 1) (m' := aput c k (cget c k + 1)) rfl (by repeat first|assumption|exact Upd.here|apply Upd.there) rfl rfl is_v (aput_aent _ _ _ _)) (by simp) rfl rfl ?_
    rintro _ _ ⟨rfl, rfl⟩
    refine SX.nil ?_
    refine SE.finN (rs := []) rfl RV.nil (()) (by rw [chgC_new hv]; repeat (first | exact List.nil_sublist _ | exact List.Sublist.refl _ | apply List.Sublist.cons_cons | apply List.Sublist.cons)) (by simp [It.rids]) ?_
    exact rfl
  · skip
    refine SX.eff rfl (Eff.mapEntry (a := k) (zv := 0) (V := cntV) (C := int ((cget c k : Nat) : Int)) p9_fit Try.underlying84 int_zero rfl (fun s => (by repeat first|assumption|exact Upd.here|apply Upd.there)) rfl (p9_is _) trivial (cget_is _ _)) (by simp) rfl rfl ?_
    rintro _ _ ⟨s54, rfl, rfl⟩
    refine SX.val rfl (Val.extract rfl rfl) (by first | (simp [mids, It.mids, ownPc, mapPc]; done) | (intro k hk; simp [mids, It.mids, ownPc, mapPc, mapAtPc] at hk ⊢; grind)) rfl rfl ?_
    first
      | (refine SX.valE rfl (Val.mapGet (a := k) (zv := cntV 0) (C := int ((cget c k : Nat) : Int)) p9_fit Try.underlying84 int_zero rfl ?_ List.not_mem_nil rfl (p9_is _) trivial (cget_is _ _)) rfl rfl ?_; focus (apply Or.inl; (repeat first|assumption|exact m0|apply m1); done))
      | (refine SX.valE rfl (Val.mapGetAt (a := k) (a' := k) (s := s54) (zv := cntV 0) (C := int ((cget c k : Nat) : Int)) p9_fit Try.underlying84 int_zero rfl ?_ rfl (p9_is _) trivial (cget_ent_is _ _)) rfl rfl ?_; focus ((repeat first|assumption|exact m0|apply m1); done))
    refine SX.val rfl (Val.to (C := int ((cget c k + 1 : Nat) : Int)) (Val.addI rfl rfl (by have := hti.dec_le (aget m who) k; rw [hv] at this; have e : cget c k ≤ m.length := this; simp only [InR, lo, hi]; omega)) (congrArg int (by omega))) (by first | (simp [mids, It.mids, ownPc, mapPc]; done) | (intro k hk; simp [mids, It.mids, ownPc, mapPc, mapAtPc] at hk ⊢; grind)) rfl rfl ?_
    refine SX.eff rfl (Eff.entryStore (v := cget c k + 1) (m' := aput c k (cget c k + 1)) rfl (by repeat first|assumption|exact Upd.here|apply Upd.there) rfl rfl is_v (aput_aent _ _ _ _)) (by simp) rfl rfl ?_
    rintro _ _ ⟨rfl, rfl⟩
    refine SX.nil ?_
    refine SE.finN (rs := []) rfl RV.nil (()) (by rw [chgC_new hv]; repeat (first | exact List.nil_sublist _ | exact List.Sublist.refl _ | apply List.Sublist.cons_cons | apply List.Sublist.cons)) (by simp [It.rids]) ?_
    exact rfl
set_option maxHeartbeats 4000000 in
theorem p9_changeO_s (hw : intOk who) (hti : TInv m c) (hl : m.length ≤ 1000)  (hv : aget m who = some v) : Spec Try.prog 41 [ptr t, int who, p9E k] [.blk t 86 [mapV bv, mapV bn], .pc (mapPc bv intK p9V intOk m), .pc (mapPc bn p9V cntV top c)] (fun _ : Unit => [.blk t 86 [mapV bv, mapV bn], .pc (mapPc bv intK p9V intOk (aput m who k)), .pc (mapPc bn p9V cntV top (chgC m c who k))]) (fun _ => .tup []) := by
  refine spec_of Try.func41 rfl Try.ntmps41 rfl fun G w => ?_
  refine SC.seq (SC.region ?_)
  refine SL.eff (Eff.boxA (cs := p9C k) rfl) rfl rfl ?_
  rintro _ _ ⟨b5, rfl, rfl⟩
  refine SL.nil (SE.seq ?_)
  refine SC.seq ?_
  refine SC.seq (SC.region ?_)
  refine SL.val (Val.move rfl) rfl rfl ?_
  refine SL.val (Val.eqP rfl rfl (by kernel_rfl)) rfl rfl ?_
  refine SL.nil (SE.seq ?_)
  refine SC.condF rfl ?_
  refine SC.skip ?_
  refine SE.seq ?_
  refine SC.seq ?_
  refine SC.seq (SC.region ?_)
  refine SL.val (Val.move rfl) rfl rfl ?_
  refine SL.val (Val.nilCheck rfl) rfl rfl ?_
  refine SL.val (Val.fieldAddr tabOk rfl rfl rfl rfl rfl) rfl rfl ?_
  refine SL.val (Val.load1 tabOk rfl rfl (by first|(apply Or.inl;(repeat first|assumption|exact m0|apply m1);done)|(apply Or.inr;(repeat first|assumption|exact m0|apply m1);done)) List.not_mem_nil (by rfl)) rfl rfl ?_
  refine SL.val (Val.move rfl) rfl rfl ?_
  refine SL.val (Val.to (C := .tup [.agg (p9C v), boo true]) (Val.mapGetOk (a := who) (zv := (.agg #[.int .u8 0, .int .u8 0])) (C := p9A (aget m who)) (int_fit Try.underlying3) Try.underlying83 p9_zero rfl (by first|(apply Or.inl;(repeat first|assumption|exact m0|apply m1);done)|(apply Or.inr;(repeat first|assumption|exact m0|apply m1);done)) List.not_mem_nil rfl is_v hw (p9A_is _)) (by rw [hv]; rfl)) rfl rfl ?_
  refine SL.val (Val.move rfl) rfl rfl ?_
  refine SL.val (Val.extract rfl rfl) rfl rfl ?_
  refine SL.val (Val.extract rfl rfl) rfl rfl ?_
  refine SL.eff (Eff.alloc tabOk rfl) rfl rfl ?_
  rintro _ _ ⟨b6, rfl, rfl⟩
  refine SL.eff (Eff.store (L' := (p9C v)) tabOk rfl rfl rfl (by repeat first|assumption|exact Upd.here|apply Upd.there) (by exact (p9C_len _)) (Nat.le_of_ble_eq_true (by rfl)) (by exact (p9C_ones _)) (putL_whole (by exact (p9C_len _)))) rfl rfl ?_
  rintro _ _ ⟨rfl, rfl⟩
  refine SL.val (Val.assign rfl) rfl rfl ?_
  refine SL.nil (SE.seq ?_)
  refine SC.seq (SC.region ?_)
  refine SL.val (Val.move rfl) rfl rfl ?_
  refine SL.nil (SE.seq ?_)
  refine SC.condT rfl ?_
  refine SC.seq ?_
  refine SC.known (p := t ∉ [bn] ∧ b6 ∉ [bn]) (fun _ _ h => by
      have h1 := h.mem.nodup
      simp [mids, It.mids, mapPc, ownPc] at h1 ⊢
      grind) fun hX => ?_
  refine SC.draw [bn] (.q 0 (.q 1 (.q 2 (.q 3 (.q 4 (.two 5 7 (.q 6 (.e 7 (.q 8 (.e 9 .nil)))) (.q 8 (.e 5 (.q 6 (.e 9 .nil)))))))))) (by kernel_rfl) (by kernel_rfl) ?_
  refine SX.val rfl (Val.move rfl) (by first | (simp [mids, It.mids, ownPc, mapPc]; done) | (intro k hk; simp [mids, It.mids, ownPc, mapPc, mapAtPc] at hk ⊢; grind)) rfl rfl ?_
  refine SX.val rfl (Val.nilCheck rfl) (by first | (simp [mids, It.mids, ownPc, mapPc]; done) | (intro k hk; simp [mids, It.mids, ownPc, mapPc, mapAtPc] at hk ⊢; grind)) rfl rfl ?_
  refine SX.val rfl (Val.fieldAddr tabOk rfl rfl rfl rfl rfl) (by first | (simp [mids, It.mids, ownPc, mapPc]; done) | (intro k hk; simp [mids, It.mids, ownPc, mapPc, mapAtPc] at hk ⊢; grind)) rfl rfl ?_
  refine SX.val rfl (Val.load1 tabOk rfl rfl (by first|(apply Or.inl;(repeat first|assumption|exact m0|apply m1);done)|(apply Or.inr;(repeat first|assumption|exact m0|apply m1);done)) (by first | exact hX.1 | exact hX.2) (by rfl)) (by first | (simp [mids, It.mids, ownPc, mapPc]; done) | (intro k hk; simp [mids, It.mids, ownPc, mapPc, mapAtPc] at hk ⊢; grind)) rfl rfl ?_
  refine SX.val rfl (Val.loadA tabOk rfl rfl rfl (by first|(apply Or.inl;(repeat first|assumption|exact m0|apply m1);done)|(apply Or.inr;(repeat first|assumption|exact m0|apply m1);done)) (by first | exact hX.1 | exact hX.2) (p9C_len _)) (by first | (simp [mids, It.mids, ownPc, mapPc]; done) | (intro k hk; simp [mids, It.mids, ownPc, mapPc, mapAtPc] at hk ⊢; grind)) rfl rfl ?_
  refine SX.two ?_ ?_
  · skip
    first
      | (refine SX.valE rfl (Val.mapGet (a := v) (zv := cntV 0) (C := int ((cget c v : Nat) : Int)) p9_fit Try.underlying84 int_zero rfl ?_ List.not_mem_nil rfl (p9_is _) trivial (cget_is _ _)) rfl rfl ?_; focus (apply Or.inl; (repeat first|assumption|exact m0|apply m1); done))
      | (refine SX.valE rfl (Val.mapGetAt (a := v) (a' := v) (s := s27) (zv := cntV 0) (C := int ((cget c v : Nat) : Int)) p9_fit Try.underlying84 int_zero rfl ?_ rfl (p9_is _) trivial (cget_ent_is _ _)) rfl rfl ?_; focus ((repeat first|assumption|exact m0|apply m1); done))
    refine SX.val rfl (Val.to (C := int ((cget c v - 1 : Nat) : Int)) (Val.subI rfl rfl (by have := hti.le v; simp only [InR, lo, hi]; omega)) (congrArg int (by have := hti.pos hv; omega))) (by first | (simp [mids, It.mids, ownPc, mapPc]; done) | (intro k hk; simp [mids, It.mids, ownPc, mapPc, mapAtPc] at hk ⊢; grind)) rfl rfl ?_
    refine SX.eff rfl (Eff.mapEntry (a := v) (zv := 0) (V := cntV) (C := int ((cget c v : Nat) : Int)) p9_fit Try.underlying84 int_zero rfl (fun s => (by repeat first|assumption|exact Upd.here|apply Upd.there)) rfl (p9_is _) trivial (cget_is _ _)) (by simp) rfl rfl ?_
    rintro _ _ ⟨s27, rfl, rfl⟩
    refine SX.val rfl (Val.extract rfl rfl) (by first | (simp [mids, It.mids, ownPc, mapPc]; done) | (intro k hk; simp [mids, It.mids, ownPc, mapPc, mapAtPc] at hk ⊢; grind)) rfl rfl ?_
    refine SX.eff rfl (Eff.entryStore (v := cget c v - 1) (m' := aput c v (cget c v - 1)) rfl (by repeat first|assumption|exact Upd.here|apply Upd.there) rfl rfl is_v (aput_aent _ _ _ _)) (by simp) rfl rfl ?_
    rintro _ _ ⟨rfl, rfl⟩
    refine SX.nil (SE.seq ?_)
    refine SC.seq ?_
    refine SC.draw [] (.q 0 (.q 1 (.q 2 (.q 3 (.q 4 (.q 5 (.q 6 .nil))))))) (by kernel_rfl) (by kernel_rfl) ?_
    refine SX.val rfl (Val.move rfl) (by simp) rfl rfl ?_
    refine SX.val rfl (Val.nilCheck rfl) (by simp) rfl rfl ?_
    refine SX.val rfl (Val.fieldAddr tabOk rfl rfl rfl rfl rfl) (by simp) rfl rfl ?_
    refine SX.val rfl (Val.load1 tabOk rfl rfl (by first|(apply Or.inl;(repeat first|assumption|exact m0|apply m1);done)|(apply Or.inr;(repeat first|assumption|exact m0|apply m1);done)) List.not_mem_nil (by rfl)) (by simp) rfl rfl ?_
    refine SX.val rfl (Val.loadA tabOk rfl rfl rfl (by first|(apply Or.inl;(repeat first|assumption|exact m0|apply m1);done)|(apply Or.inr;(repeat first|assumption|exact m0|apply m1);done)) List.not_mem_nil (p9C_len _)) (by first | (simp [mids, It.mids, ownPc, mapPc]; done) | (intro k hk; simp [mids, It.mids, ownPc, mapPc, mapAtPc] at hk ⊢; grind)) rfl rfl ?_
    refine SX.val rfl (Val.mapGet (a := v) (zv := cntV 0) (C := int ((cget (aput c v (cget c v - 1)) v : Nat) : Int)) p9_fit Try.underlying84 int_zero rfl (by first|(apply Or.inl;(repeat first|assumption|exact m0|apply m1);done)|(apply Or.inr;(repeat first|assumption|exact m0|apply m1);done)) List.not_mem_nil rfl (p9_is _) trivial (cget_is _ _)) (by first | (simp [mids, It.mids, ownPc, mapPc]; done) | (intro k hk; simp [mids, It.mids, ownPc, mapPc, mapAtPc] at hk ⊢; grind)) rfl rfl ?_
    refine SX.val rfl (Val.eqI rfl rfl) (by simp) rfl rfl ?_
    refine SX.nil (SE.seq ?_)
    refine SC.condP rfl ?_ ?_
    rotate_left
    · intro hc35
      rw [show (aput c v (cget c v - 1)) = (decO c (some v)) from (dec_keep (by omega)).symm]
      refine SC.skip ?_
      refine SE.seq ?_
      refine SC.seq ?_
      refine SC.drawZ [] (.q 0 (.q 1 (.q 2 (.q 3 (.q 4 (.q 5 .nil)))))) (by kernel_rfl) (by kernel_rfl) ?_
      refine SX.val rfl (Val.move rfl) (by simp) rfl rfl ?_
      refine SX.val rfl (Val.nilCheck rfl) (by simp) rfl rfl ?_
      refine SX.val rfl (Val.fieldAddr tabOk rfl rfl rfl rfl rfl) (by simp) rfl rfl ?_
      refine SX.val rfl (Val.load1 tabOk rfl rfl (by first|(apply Or.inl;(repeat first|assumption|exact m0|apply m1);done)|(apply Or.inr;(repeat first|assumption|exact m0|apply m1);done)) List.not_mem_nil (by rfl)) (by first | (simp [mids, It.mids, ownPc, mapPc]; done) | (intro k hk; simp [mids, It.mids, ownPc, mapPc, mapAtPc] at hk ⊢; grind)) rfl rfl ?_
      refine SX.val rfl (Val.move rfl) (by simp) rfl rfl ?_
      refine SX.val rfl (Val.loadA tabOk rfl rfl rfl (by first|(apply Or.inl;(repeat first|assumption|exact m0|apply m1);done)|(apply Or.inr;(repeat first|assumption|exact m0|apply m1);done)) List.not_mem_nil (p9C_len _)) (by first | (simp [mids, It.mids, ownPc, mapPc]; done) | (intro k hk; simp [mids, It.mids, ownPc, mapPc, mapAtPc] at hk ⊢; grind)) rfl rfl ?_
      refine SX.nil ?_
      refine SE.effZ rfl (Eff.mapPut (a := who) (v := k) (m' := aput m who k) (int_fit Try.underlying3) Try.underlying83 rfl (by repeat first|assumption|exact Upd.here|apply Upd.there) rfl is_v hw rfl (p9_is _) rfl) rfl rfl ?_
      rintro _ _ ⟨rfl, rfl⟩
      refine SE.seq ?_
      refine SC.known (p := t ∉ [bn] ∧ b5 ∉ [bn]) (fun _ _ h => by
          have h1 := h.mem.nodup
          simp [mids, It.mids, mapPc, ownPc] at h1 ⊢
          grind) fun hX => ?_
      refine SC.draw [bn] (.q 0 (.q 1 (.q 2 (.q 3 (.q 4 (.two 5 7 (.q 6 (.e 7 (.q 8 (.e 9 .nil)))) (.q 8 (.e 5 (.q 6 (.e 9 .nil)))))))))) (by kernel_rfl) (by kernel_rfl) ?_
      refine SX.val rfl (Val.move rfl) (by first | (simp [mids, It.mids, ownPc, mapPc]; done) | (intro k hk; simp [mids, It.mids, ownPc, mapPc, mapAtPc] at hk ⊢; grind)) rfl rfl ?_
      refine SX.val rfl (Val.nilCheck rfl) (by first | (simp [mids, It.mids, ownPc, mapPc]; done) | (intro k hk; simp [mids, It.mids, ownPc, mapPc, mapAtPc] at hk ⊢; grind)) rfl rfl ?_
      refine SX.val rfl (Val.fieldAddr tabOk rfl rfl rfl rfl rfl) (by first | (simp [mids, It.mids, ownPc, mapPc]; done) | (intro k hk; simp [mids, It.mids, ownPc, mapPc, mapAtPc] at hk ⊢; grind)) rfl rfl ?_
      refine SX.val rfl (Val.load1 tabOk rfl rfl (by first|(apply Or.inl;(repeat first|assumption|exact m0|apply m1);done)|(apply Or.inr;(repeat first|assumption|exact m0|apply m1);done)) (by first | exact hX.1 | exact hX.2) (by rfl)) (by first | (simp [mids, It.mids, ownPc, mapPc]; done) | (intro k hk; simp [mids, It.mids, ownPc, mapPc, mapAtPc] at hk ⊢; grind)) rfl rfl ?_
      refine SX.val rfl (Val.loadA tabOk rfl rfl rfl (by first|(apply Or.inl;(repeat first|assumption|exact m0|apply m1);done)|(apply Or.inr;(repeat first|assumption|exact m0|apply m1);done)) (by first | exact hX.1 | exact hX.2) (p9C_len _)) (by first | (simp [mids, It.mids, ownPc, mapPc]; done) | (intro k hk; simp [mids, It.mids, ownPc, mapPc, mapAtPc] at hk ⊢; grind)) rfl rfl ?_
      refine SX.two ?_ ?_
      · skip
        first
          | (refine SX.valE rfl (Val.mapGet (a := k) (zv := cntV 0) (C := int ((cget (decO c (some v)) k : Nat) : Int)) p9_fit Try.underlying84 int_zero rfl ?_ List.not_mem_nil rfl (p9_is _) trivial (cget_is _ _)) rfl rfl ?_; focus (apply Or.inl; (repeat first|assumption|exact m0|apply m1); done))
          | (refine SX.valE rfl (Val.mapGetAt (a := k) (a' := k) (s := s54) (zv := cntV 0) (C := int ((cget (decO c (some v)) k : Nat) : Int)) p9_fit Try.underlying84 int_zero rfl ?_ rfl (p9_is _) trivial (cget_ent_is _ _)) rfl rfl ?_; focus ((repeat first|assumption|exact m0|apply m1); done))
        refine SX.val rfl (Val.to (C := int ((cget (decO c (some v)) k + 1 : Nat) : Int)) (Val.addI rfl rfl (by have := hti.dec_le (aget m who) k; rw [hv] at this; have e : cget (decO c (some v)) k ≤ m.length := this; simp only [InR, lo, hi]; omega)) (congrArg int (by omega))) (by first | (simp [mids, It.mids, ownPc, mapPc]; done) | (intro k hk; simp [mids, It.mids, ownPc, mapPc, mapAtPc] at hk ⊢; grind)) rfl rfl ?_
        refine SX.eff rfl (Eff.mapEntry (a := k) (zv := 0) (V := cntV) (C := int ((cget (decO c (some v)) k : Nat) : Int)) p9_fit Try.underlying84 int_zero rfl (fun s => (by repeat first|assumption|exact Upd.here|apply Upd.there)) rfl (p9_is _) trivial (cget_is _ _)) (by simp) rfl rfl ?_
        rintro _ _ ⟨s54, rfl, rfl⟩
        refine SX.val rfl (Val.extract rfl rfl) (by first | (simp [mids, It.mids, ownPc, mapPc]; done) | (intro k hk; simp [mids, It.mids, ownPc, mapPc, mapAtPc] at hk ⊢; grind)) rfl rfl ?_
        refine SX.eff rfl (Eff.entryStore (v := cget (decO c (some v)) k + 1) (m' := aput (decO c (some v)) k (cget (decO c (some v)) k + 1)) rfl (by repeat first|assumption|exact Upd.here|apply Upd.there) rfl rfl is_v (aput_aent _ _ _ _)) (by simp) rfl rfl ?_
        rintro _ _ ⟨rfl, rfl⟩
        refine SX.nil ?_
        refine SE.finN (rs := []) rfl RV.nil (()) (by rw [chgC_old hv]; repeat (first | exact List.nil_sublist _ | exact List.Sublist.refl _ | apply List.Sublist.cons_cons | apply List.Sublist.cons)) (by simp [It.rids]) ?_
        exact rfl
      · skip
        refine SX.eff rfl (Eff.mapEntry (a := k) (zv := 0) (V := cntV) (C := int ((cget (decO c (some v)) k : Nat) : Int)) p9_fit Try.underlying84 int_zero rfl (fun s => (by repeat first|assumption|exact Upd.here|apply Upd.there)) rfl (p9_is _) trivial (cget_is _ _)) (by simp) rfl rfl ?_
        rintro _ _ ⟨s54, rfl, rfl⟩
        refine SX.val rfl (Val.extract rfl rfl) (by first | (simp [mids, It.mids, ownPc, mapPc]; done) | (intro k hk; simp [mids, It.mids, ownPc, mapPc, mapAtPc] at hk ⊢; grind)) rfl rfl ?_
        first
          | (refine SX.valE rfl (Val.mapGet (a := k) (zv := cntV 0) (C := int ((cget (decO c (some v)) k : Nat) : Int)) p9_fit Try.underlying84 int_zero rfl ?_ List.not_mem_nil rfl (p9_is _) trivial (cget_is _ _)) rfl rfl ?_; focus (apply Or.inl; (repeat first|assumption|exact m0|apply m1); done))
          | (refine SX.valE rfl (Val.mapGetAt (a := k) (a' := k) (s := s54) (zv := cntV 0) (C := int ((cget (decO c (some v)) k : Nat) : Int)) p9_fit Try.underlying84 int_zero rfl ?_ rfl (p9_is _) trivial (cget_ent_is _ _)) rfl rfl ?_; focus ((repeat first|assumption|exact m0|apply m1); done))
        refine SX.val rfl (Val.to (C := int ((cget (decO c (some v)) k + 1 : Nat) : Int)) (Val.addI rfl rfl (by have := hti.dec_le (aget m who) k; rw [hv] at this; have e : cget (decO c (some v)) k ≤ m.length := this; simp only [InR, lo, hi]; omega)) (congrArg int (by omega))) (by first | (simp [mids, It.mids, ownPc, mapPc]; done) | (intro k hk; simp [mids, It.mids, ownPc, mapPc, mapAtPc] at hk ⊢; grind)) rfl rfl ?_
        refine SX.eff rfl (Eff.entryStore (v := cget (decO c (some v)) k + 1) (m' := aput (decO c (some v)) k (cget (decO c (some v)) k + 1)) rfl (by repeat first|assumption|exact Upd.here|apply Upd.there) rfl rfl is_v (aput_aent _ _ _ _)) (by simp) rfl rfl ?_
        rintro _ _ ⟨rfl, rfl⟩
        refine SX.nil ?_
        refine SE.finN (rs := []) rfl RV.nil (()) (by rw [chgC_old hv]; repeat (first | exact List.nil_sublist _ | exact List.Sublist.refl _ | apply List.Sublist.cons_cons | apply List.Sublist.cons)) (by simp [It.rids]) ?_
        exact rfl
    intro hc35
    refine SC.drawZ [] (.q 0 (.q 1 (.q 2 (.q 3 (.q 4 .nil))))) (by kernel_rfl) (by kernel_rfl) ?_
    refine SX.val rfl (Val.move rfl) (by simp) rfl rfl ?_
    refine SX.val rfl (Val.nilCheck rfl) (by simp) rfl rfl ?_
    refine SX.val rfl (Val.fieldAddr tabOk rfl rfl rfl rfl rfl) (by simp) rfl rfl ?_
    refine SX.val rfl (Val.load1 tabOk rfl rfl (by first|(apply Or.inl;(repeat first|assumption|exact m0|apply m1);done)|(apply Or.inr;(repeat first|assumption|exact m0|apply m1);done)) List.not_mem_nil (by rfl)) (by simp) rfl rfl ?_
    refine SX.val rfl (Val.loadA tabOk rfl rfl rfl (by first|(apply Or.inl;(repeat first|assumption|exact m0|apply m1);done)|(apply Or.inr;(repeat first|assumption|exact m0|apply m1);done)) List.not_mem_nil (p9C_len _)) (by first | (simp [mids, It.mids, ownPc, mapPc]; done) | (intro k hk; simp [mids, It.mids, ownPc, mapPc, mapAtPc] at hk ⊢; grind)) rfl rfl ?_
    refine SX.nil ?_
    refine SE.effZ rfl (Eff.mapDel (a := v) (m' := (decO c (some v))) p9_fit Try.underlying84 rfl (by repeat first|assumption|exact Upd.here|apply Upd.there) rfl (p9_is _) trivial (dec_del (by omega))) rfl rfl ?_
    rintro _ _ ⟨rfl, rfl⟩
    refine SE.seq ?_
    refine SC.seq ?_
    refine SC.drawZ [] (.q 0 (.q 1 (.q 2 (.q 3 (.q 4 (.q 5 .nil)))))) (by kernel_rfl) (by kernel_rfl) ?_
    refine SX.val rfl (Val.move rfl) (by simp) rfl rfl ?_
    refine SX.val rfl (Val.nilCheck rfl) (by simp) rfl rfl ?_
    refine SX.val rfl (Val.fieldAddr tabOk rfl rfl rfl rfl rfl) (by simp) rfl rfl ?_
    refine SX.val rfl (Val.load1 tabOk rfl rfl (by first|(apply Or.inl;(repeat first|assumption|exact m0|apply m1);done)|(apply Or.inr;(repeat first|assumption|exact m0|apply m1);done)) List.not_mem_nil (by rfl)) (by first | (simp [mids, It.mids, ownPc, mapPc]; done) | (intro k hk; simp [mids, It.mids, ownPc, mapPc, mapAtPc] at hk ⊢; grind)) rfl rfl ?_
    refine SX.val rfl (Val.move rfl) (by simp) rfl rfl ?_
    refine SX.val rfl (Val.loadA tabOk rfl rfl rfl (by first|(apply Or.inl;(repeat first|assumption|exact m0|apply m1);done)|(apply Or.inr;(repeat first|assumption|exact m0|apply m1);done)) List.not_mem_nil (p9C_len _)) (by first | (simp [mids, It.mids, ownPc, mapPc]; done) | (intro k hk; simp [mids, It.mids, ownPc, mapPc, mapAtPc] at hk ⊢; grind)) rfl rfl ?_
    refine SX.nil ?_
    refine SE.effZ rfl (Eff.mapPut (a := who) (v := k) (m' := aput m who k) (int_fit Try.underlying3) Try.underlying83 rfl (by repeat first|assumption|exact Upd.here|apply Upd.there) rfl is_v hw rfl (p9_is _) rfl) rfl rfl ?_
    rintro _ _ ⟨rfl, rfl⟩
    refine SE.seq ?_
    refine SC.known (p := t ∉ [bn] ∧ b5 ∉ [bn]) (fun _ _ h => by
        have h1 := h.mem.nodup
        simp [mids, It.mids, mapPc, ownPc] at h1 ⊢
        grind) fun hX => ?_
    refine SC.draw [bn] (.q 0 (.q 1 (.q 2 (.q 3 (.q 4 (.two 5 7 (.q 6 (.e 7 (.q 8 (.e 9 .nil)))) (.q 8 (.e 5 (.q 6 (.e 9 .nil)))))))))) (by kernel_rfl) (by kernel_rfl) ?_
    refine SX.val rfl (Val.move rfl) (by first | (simp [mids, It.mids, ownPc, mapPc]; done) | (intro k hk; simp [mids, It.mids, ownPc, mapPc, mapAtPc] at hk ⊢; grind)) rfl rfl ?_
    refine SX.val rfl (Val.nilCheck rfl) (by first | (simp [mids, It.mids, ownPc, mapPc]; done) | (intro k hk; simp [mids, It.mids, ownPc, mapPc, mapAtPc] at hk ⊢; grind)) rfl rfl ?_
    refine SX.val rfl (Val.fieldAddr tabOk rfl rfl rfl rfl rfl) (by first | (simp [mids, It.mids, ownPc, mapPc]; done) | (intro k hk; simp [mids, It.mids, ownPc, mapPc, mapAtPc] at hk ⊢; grind)) rfl rfl ?_
    refine SX.val rfl (Val.load1 tabOk rfl rfl (by first|(apply Or.inl;(repeat first|assumption|exact m0|apply m1);done)|(apply Or.inr;(repeat first|assumption|exact m0|apply m1);done)) (by first | exact hX.1 | exact hX.2) (by rfl)) (by first | (simp [mids, It.mids, ownPc, mapPc]; done) | (intro k hk; simp [mids, It.mids, ownPc, mapPc, mapAtPc] at hk ⊢; grind)) rfl rfl ?_
    refine SX.val rfl (Val.loadA tabOk rfl rfl rfl (by first|(apply Or.inl;(repeat first|assumption|exact m0|apply m1);done)|(apply Or.inr;(repeat first|assumption|exact m0|apply m1);done)) (by first | exact hX.1 | exact hX.2) (p9C_len _)) (by first | (simp [mids, It.mids, ownPc, mapPc]; done) | (intro k hk; simp [mids, It.mids, ownPc, mapPc, mapAtPc] at hk ⊢; grind)) rfl rfl ?_
    refine SX.two ?_ ?_
    · skip
      first
        | (refine SX.valE rfl (Val.mapGet (a := k) (zv := cntV 0) (C := int ((cget (decO c (some v)) k : Nat) : Int)) p9_fit Try.underlying84 int_zero rfl ?_ List.not_mem_nil rfl (p9_is _) trivial (cget_is _ _)) rfl rfl ?_; focus (apply Or.inl; (repeat first|assumption|exact m0|apply m1); done))
        | (refine SX.valE rfl (Val.mapGetAt (a := k) (a' := k) (s := s54) (zv := cntV 0) (C := int ((cget (decO c (some v)) k : Nat) : Int)) p9_fit Try.underlying84 int_zero rfl ?_ rfl (p9_is _) trivial (cget_ent_is _ _)) rfl rfl ?_; focus ((repeat first|assumption|exact m0|apply m1); done))
      refine SX.val rfl (Val.to (C := int ((cget (decO c (some v)) k + 1 : Nat) : Int)) (Val.addI rfl rfl (by have := hti.dec_le (aget m who) k; rw [hv] at this; have e : cget (decO c (some v)) k ≤ m.length := this; simp only [InR, lo, hi]; omega)) (congrArg int (by omega))) (by first | (simp [mids, It.mids, ownPc, mapPc]; done) | (intro k hk; simp [mids, It.mids, ownPc, mapPc, mapAtPc] at hk ⊢; grind)) rfl rfl ?_
      refine SX.eff rfl (Eff.mapEntry (a := k) (zv := 0) (V := cntV) (C := int ((cget (decO c (some v)) k : Nat) : Int)) p9_fit Try.underlying84 int_zero rfl (fun s => (by repeat first|assumption|exact Upd.here|apply Upd.there)) rfl (p9_is _) trivial (cget_is _ _)) (by simp) rfl rfl ?_
      rintro _ _ ⟨s54, rfl, rfl⟩
      refine SX.val rfl (Val.extract rfl rfl) (by first | (simp [mids, It.mids, ownPc, mapPc]; done) | (intro k hk; simp [mids, It.mids, ownPc, mapPc, mapAtPc] at hk ⊢; grind)) rfl rfl ?_
      refine SX.eff rfl (Eff.entryStore (v := cget (decO c (some v)) k + 1) (m' := aput (decO c (some v)) k (cget (decO c (some v)) k + 1)) rfl (by repeat first|assumption|exact Upd.here|apply Upd.there) rfl rfl is_v (aput_aent _ _ _ _)) (by simp) rfl rfl ?_
      rintro _ _ ⟨rfl, rfl⟩
      refine SX.nil ?_
      refine SE.finN (rs := []) rfl RV.nil (()) (by rw [chgC_old hv]; repeat (first | exact List.nil_sublist _ | exact List.Sublist.refl _ | apply List.Sublist.cons_cons | apply List.Sublist.cons)) (by simp [It.rids]) ?_
      exact rfl
    · skip
      refine SX.eff rfl (Eff.mapEntry (a := k) (zv := 0) (V := cntV) (C := int ((cget (decO c (some v)) k : Nat) : Int)) p9_fit Try.underlying84 int_zero rfl (fun s => (by repeat first|assumption|exact Upd.here|apply Upd.there)) rfl (p9_is _) trivial (cget_is _ _)) (by simp) rfl rfl ?_
      rintro _ _ ⟨s54, rfl, rfl⟩
      refine SX.val rfl (Val.extract rfl rfl) (by first | (simp [mids, It.mids, ownPc, mapPc]; done) | (intro k hk; simp [mids, It.mids, ownPc, mapPc, mapAtPc] at hk ⊢; grind)) rfl rfl ?_
      first
        | (refine SX.valE rfl (Val.mapGet (a := k) (zv := cntV 0) (C := int ((cget (decO c (some v)) k : Nat) : Int)) p9_fit Try.underlying84 int_zero rfl ?_ List.not_mem_nil rfl (p9_is _) trivial (cget_is _ _)) rfl rfl ?_; focus (apply Or.inl; (repeat first|assumption|exact m0|apply m1); done))
        | (refine SX.valE rfl (Val.mapGetAt (a := k) (a' := k) (s := s54) (zv := cntV 0) (C := int ((cget (decO c (some v)) k : Nat) : Int)) p9_fit Try.underlying84 int_zero rfl ?_ rfl (p9_is _) trivial (cget_ent_is _ _)) rfl rfl ?_; focus ((repeat first|assumption|exact m0|apply m1); done))
      refine SX.val rfl (Val.to (C := int ((cget (decO c (some v)) k + 1 : Nat) : Int)) (Val.addI rfl rfl (by have := hti.dec_le (aget m who) k; rw [hv] at this; have e : cget (decO c (some v)) k ≤ m.length := this; simp only [InR, lo, hi]; omega)) (congrArg int (by omega))) (by first | (simp [mids, It.mids, ownPc, mapPc]; done) | (intro k hk; simp [mids, It.mids, ownPc, mapPc, mapAtPc] at hk ⊢; grind)) rfl rfl ?_
      refine SX.eff rfl (Eff.entryStore (v := cget (decO c (some v)) k + 1) (m' := aput (decO c (some v)) k (cget (decO c (some v)) k + 1)) rfl (by repeat first|assumption|exact Upd.here|apply Upd.there) rfl rfl is_v (aput_aent _ _ _ _)) (by simp) rfl rfl ?_
      rintro _ _ ⟨rfl, rfl⟩
      refine SX.nil ?_
      refine SE.finN (rs := []) rfl RV.nil (()) (by rw [chgC_old hv]; repeat (first | exact List.nil_sublist _ | exact List.Sublist.refl _ | apply List.Sublist.cons_cons | apply List.Sublist.cons)) (by simp [It.rids]) ?_
      exact rfl
  · skip
    refine SX.eff rfl (Eff.mapEntry (a := v) (zv := 0) (V := cntV) (C := int ((cget c v : Nat) : Int)) p9_fit Try.underlying84 int_zero rfl (fun s => (by repeat first|assumption|exact Upd.here|apply Upd.there)) rfl (p9_is _) trivial (cget_is _ _)) (by simp) rfl rfl ?_
    rintro _ _ ⟨s27, rfl, rfl⟩
    refine SX.val rfl (Val.extract rfl rfl) (by first | (simp [mids, It.mids, ownPc, mapPc]; done) | (intro k hk; simp [mids, It.mids, ownPc, mapPc, mapAtPc] at hk ⊢; grind)) rfl rfl ?_
    first
      | (refine SX.valE rfl (Val.mapGet (a := v) (zv := cntV 0) (C := int ((cget c v : Nat) : Int)) p9_fit Try.underlying84 int_zero rfl ?_ List.not_mem_nil rfl (p9_is _) trivial (cget_is _ _)) rfl rfl ?_; focus (apply Or.inl; (repeat first|assumption|exact m0|apply m1); done))
      | (refine SX.valE rfl (Val.mapGetAt (a := v) (a' := v) (s := s27) (zv := cntV 0) (C := int ((cget c v : Nat) : Int)) p9_fit Try.underlying84 int_zero rfl ?_ rfl (p9_is _) trivial (cget_ent_is _ _)) rfl rfl ?_; focus ((repeat first|assumption|exact m0|apply m1); done))
    refine SX.val rfl (Val.to (C := int ((cget c v - 1 : Nat) : Int)) (Val.subI rfl rfl (by have := hti.le v; simp only [InR, lo, hi]; omega)) (congrArg int (by have := hti.pos hv; omega))) (by first | (simp [mids, It.mids, ownPc, mapPc]; done) | (intro k hk; simp [mids, It.mids, ownPc, mapPc, mapAtPc] at hk ⊢; grind)) rfl rfl ?_
    refine SX.eff rfl (Eff.entryStore (v := cget c v - 1) (m' := aput c v (cget c v - 1)) rfl (by repeat first|assumption|exact Upd.here|apply Upd.there) rfl rfl is_v (aput_aent _ _ _ _)) (by simp) rfl rfl ?_
    rintro _ _ ⟨rfl, rfl⟩
    refine SX.nil (SE.seq ?_)
    refine SC.seq ?_
    refine SC.draw [] (.q 0 (.q 1 (.q 2 (.q 3 (.q 4 (.q 5 (.q 6 .nil))))))) (by kernel_rfl) (by kernel_rfl) ?_
    refine SX.val rfl (Val.move rfl) (by simp) rfl rfl ?_
    refine SX.val rfl (Val.nilCheck rfl) (by simp) rfl rfl ?_
    refine SX.val rfl (Val.fieldAddr tabOk rfl rfl rfl rfl rfl) (by simp) rfl rfl ?_
    refine SX.val rfl (Val.load1 tabOk rfl rfl (by first|(apply Or.inl;(repeat first|assumption|exact m0|apply m1);done)|(apply Or.inr;(repeat first|assumption|exact m0|apply m1);done)) List.not_mem_nil (by rfl)) (by simp) rfl rfl ?_
    refine SX.val rfl (Val.loadA tabOk rfl rfl rfl (by first|(apply Or.inl;(repeat first|assumption|exact m0|apply m1);done)|(apply Or.inr;(repeat first|assumption|exact m0|apply m1);done)) List.not_mem_nil (p9C_len _)) (by first | (simp [mids, It.mids, ownPc, mapPc]; done) | (intro k hk; simp [mids, It.mids, ownPc, mapPc, mapAtPc] at hk ⊢; grind)) rfl rfl ?_
    refine SX.val rfl (Val.mapGet (a := v) (zv := cntV 0) (C := int ((cget (aput c v (cget c v - 1)) v : Nat) : Int)) p9_fit Try.underlying84 int_zero rfl (by first|(apply Or.inl;(repeat first|assumption|exact m0|apply m1);done)|(apply Or.inr;(repeat first|assumption|exact m0|apply m1);done)) List.not_mem_nil rfl (p9_is _) trivial (cget_is _ _)) (by first | (simp [mids, It.mids, ownPc, mapPc]; done) | (intro k hk; simp [mids, It.mids, ownPc, mapPc, mapAtPc] at hk ⊢; grind)) rfl rfl ?_
    refine SX.val rfl (Val.eqI rfl rfl) (by simp) rfl rfl ?_
    refine SX.nil (SE.seq ?_)
    refine SC.condP rfl ?_ ?_
    rotate_left
    · intro hc35
      rw [show (aput c v (cget c v - 1)) = (decO c (some v)) from (dec_keep (by omega)).symm]
      refine SC.skip ?_
      refine SE.seq ?_
      refine SC.seq ?_
      refine SC.drawZ [] (.q 0 (.q 1 (.q 2 (.q 3 (.q 4 (.q 5 .nil)))))) (by kernel_rfl) (by kernel_rfl) ?_
      refine SX.val rfl (Val.move rfl) (by simp) rfl rfl ?_
      refine SX.val rfl (Val.nilCheck rfl) (by simp) rfl rfl ?_
      refine SX.val rfl (Val.fieldAddr tabOk rfl rfl rfl rfl rfl) (by simp) rfl rfl ?_
      refine SX.val rfl (Val.load1 tabOk rfl rfl (by first|(apply Or.inl;(repeat first|assumption|exact m0|apply m1);done)|(apply Or.inr;(repeat first|assumption|exact m0|apply m1);done)) List.not_mem_nil (by rfl)) (by first | (simp [mids, It.mids, ownPc, mapPc]; done) | (intro k hk; simp [mids, It.mids, ownPc, mapPc, mapAtPc] at hk ⊢; grind)) rfl rfl ?_
      refine SX.val rfl (Val.move rfl) (by simp) rfl rfl ?_
      refine SX.val rfl (Val.loadA tabOk rfl rfl rfl (by first|(apply Or.inl;(repeat first|assumption|exact m0|apply m1);done)|(apply Or.inr;(repeat first|assumption|exact m0|apply m1);done)) List.not_mem_nil (p9C_len _)) (by first | (simp [mids, It.mids, ownPc, mapPc]; done) | (intro k hk; simp [mids, It.mids, ownPc, mapPc, mapAtPc] at hk ⊢; grind)) rfl rfl ?_
      refine SX.nil ?_
      refine SE.effZ rfl (Eff.mapPut (a := who) (v := k) (m' := aput m who k) (int_fit Try.underlying3) Try.underlying83 rfl (by repeat first|assumption|exact Upd.here|apply Upd.there) rfl is_v hw rfl (p9_is _) rfl) rfl rfl ?_
      rintro _ _ ⟨rfl, rfl⟩
      refine SE.seq ?_
      refine SC.known (p := t ∉ [bn] ∧ b5 ∉ [bn]) (fun _ _ h => by
          have h1 := h.mem.nodup
          simp [mids, It.mids, mapPc, ownPc] at h1 ⊢
          grind) fun hX => ?_
      refine SC.draw [bn] (.q 0 (.q 1 (.q 2 (.q 3 (.q 4 (.two 5 7 (.q 6 (.e 7 (.q 8 (.e 9 .nil)))) (.q 8 (.e 5 (.q 6 (.e 9 .nil)))))))))) (by kernel_rfl) (by kernel_rfl) ?_
      refine SX.val rfl (Val.move rfl) (by first | (simp [mids, It.mids, ownPc, mapPc]; done) | (intro k hk; simp [mids, It.mids, ownPc, mapPc, mapAtPc] at hk ⊢; grind)) rfl rfl ?_
      refine SX.val rfl (Val.nilCheck rfl) (by first | (simp [mids, It.mids, ownPc, mapPc]; done) | (intro k hk; simp [mids, It.mids, ownPc, mapPc, mapAtPc] at hk ⊢; grind)) rfl rfl ?_
      refine SX.val rfl (Val.fieldAddr tabOk rfl rfl rfl rfl rfl) (by first | (simp [mids, It.mids, ownPc, mapPc]; done) | (intro k hk; simp [mids, It.mids, ownPc, mapPc, mapAtPc] at hk ⊢; grind)) rfl rfl ?_
      refine SX.val rfl (Val.load1 tabOk rfl rfl (by first|(apply Or.inl;(repeat first|assumption|exact m0|apply m1);done)|(apply Or.inr;(repeat first|assumption|exact m0|apply m1);done)) (by first | exact hX.1 | exact hX.2) (by rfl)) (by first | (simp [mids, It.mids, ownPc, mapPc]; done) | (intro k hk; simp [mids, It.mids, ownPc, mapPc, mapAtPc] at hk ⊢; grind)) rfl rfl ?_
      refine SX.val rfl (Val.loadA tabOk rfl rfl rfl (by first|(apply Or.inl;(repeat first|assumption|exact m0|apply m1);done)|(apply Or.inr;(repeat first|assumption|exact m0|apply m1);done)) (by first | exact hX.1 | exact hX.2) (p9C_len _)) (by first | (simp [mids, It.mids, ownPc, mapPc]; done) | (intro k hk; simp [mids, It.mids, ownPc, mapPc, mapAtPc] at hk ⊢; grind)) rfl rfl ?_
      refine SX.two ?_ ?_
      · skip
        first
          | (refine SX.valE rfl (Val.mapGet (a := k) (zv := cntV 0) (C := int ((cget (decO c (some v)) k : Nat) : Int)) p9_fit Try.underlying84 int_zero rfl ?_ List.not_mem_nil rfl (p9_is _) trivial (cget_is _ _)) rfl rfl ?_; focus (apply Or.inl; (repeat first|assumption|exact m0|apply m1); done))
          | (refine SX.valE rfl (Val.mapGetAt (a := k) (a' := k) (s := s54) (zv := cntV 0) (C := int ((cget (decO c (some v)) k : Nat) : Int)) p9_fit Try.underlying84 int_zero rfl ?_ rfl (p9_is _) trivial (cget_ent_is _ _)) rfl rfl ?_; focus ((repeat first|assumption|exact m0|apply m1); done))
        refine SX.val rfl (Val.to (C := int ((cget (decO c (some v)) k + 1 : Nat) : Int)) (Val.addI rfl rfl (by have := hti.dec_le (aget m who) k; rw [hv] at this; have e : cget (decO c (some v)) k ≤ m.length := this; simp only [InR, lo, hi]; omega)) (congrArg int (by omega))) (by first | (simp [mids, It.mids, ownPc, mapPc]; done) | (intro k hk; simp [mids, It.mids, ownPc, mapPc, mapAtPc] at hk ⊢; grind)) rfl rfl ?_
        refine SX.eff rfl (Eff.mapEntry (a := k) (zv := 0) (V := cntV) (C := int ((cget (decO c (some v)) k : Nat) : Int)) p9_fit Try.underlying84 int_zero rfl (fun s => (by repeat first|assumption|exact Upd.here|apply Upd.there)) rfl (p9_is _) trivial (cget_is _ _)) (by simp) rfl rfl ?_
        rintro _ _ ⟨s54, rfl, rfl⟩
        refine SX.val rfl (Val.extract rfl rfl) (by first | (simp [mids, It.mids, ownPc, mapPc]; done) | (intro k hk; simp [mids, It.mids, ownPc, mapPc, mapAtPc] at hk ⊢; grind)) rfl rfl ?_
        refine SX.eff rfl (Eff.entryStore (v := cget (decO c (some v)) k + 1) (m' := aput (decO c (some v)) k (cget (decO c (some v)) k + 1)) rfl (by repeat first|assumption|exact Upd.here|apply Upd.there) rfl rfl is_v (aput_aent _ _ _ _)) (by simp) rfl rfl ?_
        rintro _ _ ⟨rfl, rfl⟩
        refine SX.nil ?_
        refine SE.finN (rs := []) rfl RV.nil (()) (by rw [chgC_old hv]; repeat (first | exact List.nil_sublist _ | exact List.Sublist.refl _ | apply List.Sublist.cons_cons | apply List.Sublist.cons)) (by simp [It.rids]) ?_
        exact rfl
      · skip
        refine SX.eff rfl (Eff.mapEntry (a := k) (zv := 0) (V := cntV) (C := int ((cget (decO c (some v)) k : Nat) : Int)) p9_fit Try.underlying84 int_zero rfl (fun s => (by repeat first|assumption|exact Upd.here|apply Upd.there)) rfl (p9_is _) trivial (cget_is _ _)) (by simp) rfl rfl ?_
        rintro _ _ ⟨s54, rfl, rfl⟩
        refine SX.val rfl (Val.extract rfl rfl) (by first | (simp [mids, It.mids, ownPc, mapPc]; done) | (intro k hk; simp [mids, It.mids, ownPc, mapPc, mapAtPc] at hk ⊢; grind)) rfl rfl ?_
        first
          | (refine SX.valE rfl (Val.mapGet (a := k) (zv := cntV 0) (C := int ((cget (decO c (some v)) k : Nat) : Int)) p9_fit Try.underlying84 int_zero rfl ?_ List.not_mem_nil rfl (p9_is _) trivial (cget_is _ _)) rfl rfl ?_; focus (apply Or.inl; (repeat first|assumption|exact m0|apply m1); done))
          | (refine SX.valE rfl (Val.mapGetAt (a := k) (a' := k) (s := s54) (zv := cntV 0) (C := int ((cget (decO c (some v)) k : Nat) : Int)) p9_fit Try.underlying84 int_zero rfl ?_ rfl (p9_is _) trivial (cget_ent_is _ _)) rfl rfl ?_; focus ((repeat first|assumption|exact m0|apply m1); done))
        refine SX.val rfl (Val.to (C := int ((cget (decO c (some v)) k + 1 : Nat) : Int)) (Val.addI rfl rfl (by have := hti.dec_le (aget m who) k; rw [hv] at this; have e : cget (decO c (some v)) k ≤ m.length := this; simp only [InR, lo, hi]; omega)) (congrArg int (by omega))) (by first | (simp [mids, It.mids, ownPc, mapPc]; done) | (intro k hk; simp [mids, It.mids, ownPc, mapPc, mapAtPc] at hk ⊢; grind)) rfl rfl ?_
        refine SX.eff rfl (Eff.entryStore (v := cget (decO c (some v)) k + 1) (m' := aput (decO c (some v)) k (cget (decO c (some v)) k + 1)) rfl (by repeat first|assumption|exact Upd.here|apply Upd.there) rfl rfl is_v (aput_aent _ _ _ _)) (by simp) rfl rfl ?_
        rintro _ _ ⟨rfl, rfl⟩
        refine SX.nil ?_
        refine SE.finN (rs := []) rfl RV.nil (()) (by rw [chgC_old hv]; repeat (first | exact List.nil_sublist _ | exact List.Sublist.refl _ | apply List.Sublist.cons_cons | apply List.Sublist.cons)) (by simp [It.rids]) ?_
        exact rfl
    intro hc35
    refine SC.drawZ [] (.q 0 (.q 1 (.q 2 (.q 3 (.q 4 .nil))))) (by kernel_rfl) (by kernel_rfl) ?_
    refine SX.val rfl (Val.move rfl) (by simp) rfl rfl ?_
    refine SX.val rfl (Val.nilCheck rfl) (by simp) rfl rfl ?_
    refine SX.val rfl (Val.fieldAddr tabOk rfl rfl rfl rfl rfl) (by simp) rfl rfl ?_
    refine SX.val rfl (Val.load1 tabOk rfl rfl (by first|(apply Or.inl;(repeat first|assumption|exact m0|apply m1);done)|(apply Or.inr;(repeat first|assumption|exact m0|apply m1);done)) List.not_mem_nil (by rfl)) (by simp) rfl rfl ?_
    refine SX.val rfl (Val.loadA tabOk rfl rfl rfl (by first|(apply Or.inl;(repeat first|assumption|exact m0|apply m1);done)|(apply Or.inr;(repeat first|assumption|exact m0|apply m1);done)) List.not_mem_nil (p9C_len _)) (by first | (simp [mids, It.mids, ownPc, mapPc]; done) | (intro k hk; simp [mids, It.mids, ownPc, mapPc, mapAtPc] at hk ⊢; grind)) rfl rfl ?_
    refine SX.nil ?_
    refine SE.effZ rfl (Eff.mapDel (a := v) (m' := (decO c (some v))) p9_fit Try.underlying84 rfl (by repeat first|assumption|exact Upd.here|apply Upd.there) rfl (p9_is _) trivial (dec_del (by omega))) rfl rfl ?_
    rintro _ _ ⟨rfl, rfl⟩
    refine SE.seq ?_
    refine SC.seq ?_
    refine SC.drawZ [] (.q 0 (.q 1 (.q 2 (.q 3 (.q 4 (.q 5 .nil)))))) (by kernel_rfl) (by kernel_rfl) ?_
    refine SX.val rfl (Val.move rfl) (by simp) rfl rfl ?_
    refine SX.val rfl (Val.nilCheck rfl) (by simp) rfl rfl ?_
    refine SX.val rfl (Val.fieldAddr tabOk rfl rfl rfl rfl rfl) (by simp) rfl rfl ?_
    refine SX.val rfl (Val.load1 tabOk rfl rfl (by first|(apply Or.inl;(repeat first|assumption|exact m0|apply m1);done)|(apply Or.inr;(repeat first|assumption|exact m0|apply m1);done)) List.not_mem_nil (by rfl)) (by first | (simp [mids, It.mids, ownPc, mapPc]; done) | (intro k hk; simp [mids, It.mids, ownPc, mapPc, mapAtPc] at hk ⊢; grind)) rfl rfl ?_
    refine SX.val rfl (Val.move rfl) (by simp) rfl rfl ?_
    refine SX.val rfl (Val.loadA tabOk rfl rfl rfl (by first|(apply Or.inl;(repeat first|assumption|exact m0|apply m1);done)|(apply Or.inr;(repeat first|assumption|exact m0|apply m1);done)) List.not_mem_nil (p9C_len _)) (by first | (simp [mids, It.mids, ownPc, mapPc]; done) | (intro k hk; simp [mids, It.mids, ownPc, mapPc, mapAtPc] at hk ⊢; grind)) rfl rfl ?_
    refine SX.nil ?_
    refine SE.effZ rfl (Eff.mapPut (a := who) (v := k) (m' := aput m who k) (int_fit Try.underlying3) Try.underlying83 rfl (by repeat first|assumption|exact Upd.here|apply Upd.there) rfl is_v hw rfl (p9_is _) rfl) rfl rfl ?_
    rintro _ _ ⟨rfl, rfl⟩
    refine SE.seq ?_
    refine SC.known (p := t ∉ [bn] ∧ b5 ∉ [bn]) (fun _ _ h => by
        have h1 := h.mem.nodup
        simp [mids, It.mids, mapPc, ownPc] at h1 ⊢
        grind) fun hX => ?_
    refine SC.draw [bn] (.q 0 (.q 1 (.q 2 (.q 3 (.q 4 (.two 5 7 (.q 6 (.e 7 (.q 8 (.e 9 .nil)))) (.q 8 (.e 5 (.q 6 (.e 9 .nil)))))))))) (by kernel_rfl) (by kernel_rfl) ?_
    refine SX.val rfl (Val.move rfl) (by first | (simp [mids, It.mids, ownPc, mapPc]; done) | (intro k hk; simp [mids, It.mids, ownPc, mapPc, mapAtPc] at hk ⊢; grind)) rfl rfl ?_
    refine SX.val rfl (Val.nilCheck rfl) (by first | (simp [mids, It.mids, ownPc, mapPc]; done) | (intro k hk; simp [mids, It.mids, ownPc, mapPc, mapAtPc] at hk ⊢; grind)) rfl rfl ?_
    refine SX.val rfl (Val.fieldAddr tabOk rfl rfl rfl rfl rfl) (by first | (simp [mids, It.mids, ownPc, mapPc]; done) | (intro k hk; simp [mids, It.mids, ownPc, mapPc, mapAtPc] at hk ⊢; grind)) rfl rfl ?_
    refine SX.val rfl (Val.load1 tabOk rfl rfl (by first|(apply Or.inl;(repeat first|assumption|exact m0|apply m1);done)|(apply Or.inr;(repeat first|assumption|exact m0|apply m1);done)) (by first | exact hX.1 | exact hX.2) (by rfl)) (by first | (simp [mids, It.mids, ownPc, mapPc]; done) | (intro k hk; simp [mids, It.mids, ownPc, mapPc, mapAtPc] at hk ⊢; grind)) rfl rfl ?_
    refine SX.val rfl (Val.loadA tabOk rfl rfl rfl (by first|(apply Or.inl;(repeat first|assumption|exact m0|apply m1);done)|(apply Or.inr;(repeat first|assumption|exact m0|apply m1);done)) (by first | exact hX.1 | exact hX.2) (p9C_len _)) (by first | (simp [mids, It.mids, ownPc, mapPc]; done) | (intro k hk; simp [mids, It.mids, ownPc, mapPc, mapAtPc] at hk ⊢; grind)) rfl rfl ?_
    refine SX.two ?_ ?_
    · skip
      first
        | (refine SX.valE rfl (Val.mapGet (a := k) (zv := cntV 0) (C := int ((cget (decO c (some v)) k : Nat) : Int)) p9_fit Try.underlying84 int_zero rfl ?_ List.not_mem_nil rfl (p9_is _) trivial (cget_is _ _)) rfl rfl ?_; focus (apply Or.inl; (repeat first|assumption|exact m0|apply m1); done))
        | (refine SX.valE rfl (Val.mapGetAt (a := k) (a' := k) (s := s54) (zv := cntV 0) (C := int ((cget (decO c (some v)) k : Nat) : Int)) p9_fit Try.underlying84 int_zero rfl ?_ rfl (p9_is _) trivial (cget_ent_is _ _)) rfl rfl ?_; focus ((repeat first|assumption|exact m0|apply m1); done))
      refine SX.val rfl (Val.to (C := int ((cget (decO c (some v)) k + 1 : Nat) : Int)) (Val.addI rfl rfl (by have := hti.dec_le (aget m who) k; rw [hv] at this; have e : cget (decO c (some v)) k ≤ m.length := this; simp only [InR, lo, hi]; omega)) (congrArg int (by omega))) (by first | (simp [mids, It.mids, ownPc, mapPc]; done) | (intro k hk; simp [mids, It.mids, ownPc, mapPc, mapAtPc] at hk ⊢; grind)) rfl rfl ?_
      refine SX.eff rfl (Eff.mapEntry (a := k) (zv := 0) (V := cntV) (C := int ((cget (decO c (some v)) k : Nat) : Int)) p9_fit Try.underlying84 int_zero rfl (fun s => (by repeat first|assumption|exact Upd.here|apply Upd.there)) rfl (p9_is _) trivial (cget_is _ _)) (by simp) rfl rfl ?_
      rintro _ _ ⟨s54, rfl, rfl⟩
      refine SX.val rfl (Val.extract rfl rfl) (by first | (simp [mids, It.mids, ownPc, mapPc]; done) | (intro k hk; simp [mids, It.mids, ownPc, mapPc, mapAtPc] at hk ⊢; grind)) rfl rfl ?_
      refine SX.eff rfl (Eff.entryStore (v := cget (decO c (some v)) k + 1) (m' := aput (decO c (some v)) k (cget (decO c (some v)) k + 1)) rfl (by repeat first|assumption|exact Upd.here|apply Upd.there) rfl rfl is_v (aput_aent _ _ _ _)) (by simp) rfl rfl ?_
      rintro _ _ ⟨rfl, rfl⟩
      refine SX.nil ?_
      refine SE.finN (rs := []) rfl RV.nil (()) (by rw [chgC_old hv]; repeat (first | exact List.nil_sublist _ | exact List.Sublist.refl _ | apply List.Sublist.cons_cons | apply List.Sublist.cons)) (by simp [It.rids]) ?_
      exact rfl
    · skip
      refine SX.eff rfl (Eff.mapEntry (a := k) (zv := 0) (V := cntV) (C := int ((cget (decO c (some v)) k : Nat) : Int)) p9_fit Try.underlying84 int_zero rfl (fun s => (by repeat first|assumption|exact Upd.here|apply Upd.there)) rfl (p9_is _) trivial (cget_is _ _)) (by simp) rfl rfl ?_
      rintro _ _ ⟨s54, rfl, rfl⟩
      refine SX.val rfl (Val.extract rfl rfl) (by first | (simp [mids, It.mids, ownPc, mapPc]; done) | (intro k hk; simp [mids, It.mids, ownPc, mapPc, mapAtPc] at hk ⊢; grind)) rfl rfl ?_
      first
        | (refine SX.valE rfl (Val.mapGet (a := k) (zv := cntV 0) (C := int ((cget (decO c (some v)) k : Nat) : Int)) p9_fit Try.underlying84 int_zero rfl ?_ List.not_mem_nil rfl (p9_is _) trivial (cget_is _ _)) rfl rfl ?_; focus (apply Or.inl; (repeat first|assumption|exact m0|apply m1); done))
        | (refine SX.valE rfl (Val.mapGetAt (a := k) (a' := k) (s := s54) (zv := cntV 0) (C := int ((cget (decO c (some v)) k : Nat) : Int)) p9_fit Try.underlying84 int_zero rfl ?_ rfl (p9_is _) trivial (cget_ent_is _ _)) rfl rfl ?_; focus ((repeat first|assumption|exact m0|apply m1); done))
      refine SX.val rfl (Val.to (C := int ((cget (decO c (some v)) k + 1 : Nat) : Int)) (Val.addI rfl rfl (by have := hti.dec_le (aget m who) k; rw [hv] at this; have e : cget (decO c (some v)) k ≤ m.length := this; simp only [InR, lo, hi]; omega)) (congrArg int (by omega))) (by first | (simp [mids, It.mids, ownPc, mapPc]; done) | (intro k hk; simp [mids, It.mids, ownPc, mapPc, mapAtPc] at hk ⊢; grind)) rfl rfl ?_
      refine SX.eff rfl (Eff.entryStore (v := cget (decO c (some v)) k + 1) (m' := aput (decO c (some v)) k (cget (decO c (some v)) k + 1)) rfl (by repeat first|assumption|exact Upd.here|apply Upd.there) rfl rfl is_v (aput_aent _ _ _ _)) (by simp) rfl rfl ?_
      rintro _ _ ⟨rfl, rfl⟩
      refine SX.nil ?_
      refine SE.finN (rs := []) rfl RV.nil (()) (by rw [chgC_old hv]; repeat (first | exact List.nil_sublist _ | exact List.Sublist.refl _ | apply List.Sublist.cons_cons | apply List.Sublist.cons)) (by simp [It.rids]) ?_
      exact rfl
set_option maxHeartbeats 2000000 in
theorem p9_addO_s (hw : intOk who) (hti : TInv m c) (hl : m.length ≤ 1000)  (hv : aget m who = some v) : Spec Try.prog 29 [ptr t, int who, p9E k] [.blk t 86 [mapV bv, mapV bn], .pc (mapPc bv intK p9V intOk m), .pc (mapPc bn p9V cntV top c)] (fun _ : Unit => [.blk t 86 [mapV bv, mapV bn], .pc (mapPc bv intK p9V intOk m), .pc (mapPc bn p9V cntV top c)]) (fun _ => boo (decide (v = k))) := by
  refine spec_of Try.func29 rfl Try.ntmps29 rfl fun G w => ?_
  refine SC.seq (SC.region ?_)
  refine SL.eff (Eff.boxA (cs := p9C k) rfl) rfl rfl ?_
  rintro _ _ ⟨b5, rfl, rfl⟩
  refine SL.val (Val.assign rfl) rfl rfl ?_
  refine SL.nil (SE.seq ?_)
  refine SC.seq ?_
  refine SC.seq (SC.region ?_)
  refine SL.val (Val.move rfl) rfl rfl ?_
  refine SL.val (Val.eqP rfl rfl (by kernel_rfl)) rfl rfl ?_
  refine SL.nil (SE.seq ?_)
  refine SC.condF rfl ?_
  refine SC.skip ?_
  refine SE.seq ?_
  refine SC.seq ?_
  refine SC.seq (SC.region ?_)
  refine SL.val (Val.move rfl) rfl rfl ?_
  refine SL.val (Val.nilCheck rfl) rfl rfl ?_
  refine SL.val (Val.fieldAddr tabOk rfl rfl rfl rfl rfl) rfl rfl ?_
  refine SL.val (Val.load1 tabOk rfl rfl (by first|(apply Or.inl;(repeat first|assumption|exact m0|apply m1);done)|(apply Or.inr;(repeat first|assumption|exact m0|apply m1);done)) List.not_mem_nil (by rfl)) rfl rfl ?_
  refine SL.val (Val.move rfl) rfl rfl ?_
  refine SL.val (Val.to (C := .tup [.agg (p9C v), boo true]) (Val.mapGetOk (a := who) (zv := (.agg #[.int .u8 0, .int .u8 0])) (C := p9A (aget m who)) (int_fit Try.underlying3) Try.underlying83 p9_zero rfl (by first|(apply Or.inl;(repeat first|assumption|exact m0|apply m1);done)|(apply Or.inr;(repeat first|assumption|exact m0|apply m1);done)) List.not_mem_nil rfl is_v hw (p9A_is _)) (by rw [hv]; rfl)) rfl rfl ?_
  refine SL.val (Val.move rfl) rfl rfl ?_
  refine SL.val (Val.extract rfl rfl) rfl rfl ?_
  refine SL.val (Val.extract rfl rfl) rfl rfl ?_
  refine SL.eff (Eff.alloc tabOk rfl) rfl rfl ?_
  rintro _ _ ⟨b7, rfl, rfl⟩
  refine SL.eff (Eff.store (L' := (p9C v)) tabOk rfl rfl rfl (by repeat first|assumption|exact Upd.here|apply Upd.there) (by exact (p9C_len _)) (Nat.le_of_ble_eq_true (by rfl)) (by exact (p9C_ones _)) (putL_whole (by exact (p9C_len _)))) rfl rfl ?_
  rintro _ _ ⟨rfl, rfl⟩
  refine SL.val (Val.assign rfl) rfl rfl ?_
  refine SL.nil (SE.seq ?_)
  refine SC.seq (SC.region ?_)
  refine SL.val (Val.move rfl) rfl rfl ?_
  refine SL.nil (SE.seq ?_)
  refine SC.condT rfl ?_
  refine SC.seq (SC.region ?_)
  refine SL.val (Val.loadA tabOk rfl rfl rfl (by first|(apply Or.inl;(repeat first|assumption|exact m0|apply m1);done)|(apply Or.inr;(repeat first|assumption|exact m0|apply m1);done)) List.not_mem_nil (p9C_len _)) rfl rfl ?_
  refine SL.val (Val.loadA tabOk rfl rfl rfl (by first|(apply Or.inl;(repeat first|assumption|exact m0|apply m1);done)|(apply Or.inr;(repeat first|assumption|exact m0|apply m1);done)) List.not_mem_nil (p9C_len _)) rfl rfl ?_
  refine SL.val (Val.eqA (X' := [bc v, bc 9]) (Y' := [bc k, bc 9]) rfl rfl rfl rfl (by kernel_rfl) (eqp9 v k)) rfl rfl ?_
  refine SL.val (Val.assign rfl) rfl rfl ?_
  refine SL.nil (SE.seq ?_)
  refine SC.ret ?_
  refine SE.then_ (by intro h; cases h) ?_
  refine SE.fin (rs := [.tmp 6]) rfl (RV.tmp rfl RV.nil) (()) (by repeat first|exact s0 _|exact s1 _|apply s2|apply s3) (by simp [It.rids]) ?_
  exact rfl
set_option maxHeartbeats 2000000 in
theorem p9_addN_s (hw : intOk who) (hti : TInv m c) (hl : m.length ≤ 1000)  (hv : aget m who = none) : Spec Try.prog 29 [ptr t, int who, p9E k] [.blk t 86 [mapV bv, mapV bn], .pc (mapPc bv intK p9V intOk m), .pc (mapPc bn p9V cntV top c)] (fun _ : Unit => [.blk t 86 [mapV bv, mapV bn], .pc (mapPc bv intK p9V intOk (aput m who k)), .pc (mapPc bn p9V cntV top (chgC m c who k))]) (fun _ => boo true) := by
  refine spec_of Try.func29 rfl Try.ntmps29 rfl fun G w => ?_
  refine SC.seq (SC.region ?_)
  refine SL.eff (Eff.boxA (cs := p9C k) rfl) rfl rfl ?_
  rintro _ _ ⟨b5, rfl, rfl⟩
  refine SL.val (Val.assign rfl) rfl rfl ?_
  refine SL.nil (SE.seq ?_)
  refine SC.seq ?_
  refine SC.seq (SC.region ?_)
  refine SL.val (Val.move rfl) rfl rfl ?_
  refine SL.val (Val.eqP rfl rfl (by kernel_rfl)) rfl rfl ?_
  refine SL.nil (SE.seq ?_)
  refine SC.condF rfl ?_
  refine SC.skip ?_
  refine SE.seq ?_
  refine SC.seq ?_
  refine SC.seq (SC.region ?_)
  refine SL.val (Val.move rfl) rfl rfl ?_
  refine SL.val (Val.nilCheck rfl) rfl rfl ?_
  refine SL.val (Val.fieldAddr tabOk rfl rfl rfl rfl rfl) rfl rfl ?_
  refine SL.val (Val.load1 tabOk rfl rfl (by first|(apply Or.inl;(repeat first|assumption|exact m0|apply m1);done)|(apply Or.inr;(repeat first|assumption|exact m0|apply m1);done)) List.not_mem_nil (by rfl)) rfl rfl ?_
  refine SL.val (Val.move rfl) rfl rfl ?_
  refine SL.val (Val.to (C := .tup [.agg p9Z, boo false]) (Val.mapGetOk (a := who) (zv := (.agg #[.int .u8 0, .int .u8 0])) (C := p9A (aget m who)) (int_fit Try.underlying3) Try.underlying83 p9_zero rfl (by first|(apply Or.inl;(repeat first|assumption|exact m0|apply m1);done)|(apply Or.inr;(repeat first|assumption|exact m0|apply m1);done)) List.not_mem_nil rfl is_v hw (p9A_is _)) (by rw [hv]; rfl)) rfl rfl ?_
  refine SL.val (Val.move rfl) rfl rfl ?_
  refine SL.val (Val.extract rfl rfl) rfl rfl ?_
  refine SL.val (Val.extract rfl rfl) rfl rfl ?_
  refine SL.eff (Eff.alloc tabOk rfl) rfl rfl ?_
  rintro _ _ ⟨b7, rfl, rfl⟩
  refine SL.eff (Eff.store (L' := p9Z) tabOk rfl rfl rfl (by repeat first|assumption|exact Upd.here|apply Upd.there) (by exact rfl) (Nat.le_of_ble_eq_true (by rfl)) (by exact rfl) (putL_whole (by exact rfl))) rfl rfl ?_
  rintro _ _ ⟨rfl, rfl⟩
  refine SL.val (Val.assign rfl) rfl rfl ?_
  refine SL.nil (SE.seq ?_)
  refine SC.seq (SC.region ?_)
  refine SL.val (Val.move rfl) rfl rfl ?_
  refine SL.nil (SE.seq ?_)
  refine SC.condF rfl ?_
  refine SC.skip ?_
  refine SE.seq ?_
  refine SC.seq (SC.region ?_)
  refine SL.val (Val.move rfl) rfl rfl ?_
  refine SL.val (Val.move rfl) rfl rfl ?_
  refine SL.val (Val.loadA tabOk rfl rfl rfl (by first|(apply Or.inl;(repeat first|assumption|exact m0|apply m1);done)|(apply Or.inr;(repeat first|assumption|exact m0|apply m1);done)) List.not_mem_nil (p9C_len _)) rfl rfl ?_
  refine SL.call (p9_changeN_s (t := t) (bv := bv) (bn := bn) (k := k) hw hti hl hv) Casts.refl (by kernel_rfl) rfl rfl rfl ?_
  refine After.three3 ⟨rfl, rfl, rfl⟩ (fun _ => rfl) ?_
  intro _
  refine SL.nil (SE.seq ?_)
  refine SC.seq (SC.region ?_)
  refine SL.val (Val.assign rfl) rfl rfl ?_
  refine SL.nil (SE.seq ?_)
  refine SC.ret ?_
  refine SE.fin (rs := [.tmp 6]) rfl (RV.tmp rfl RV.nil) (()) (by repeat first|exact s0 _|exact s1 _|apply s2|apply s3) (by simp [It.rids]) ?_
  exact rfl
set_option maxHeartbeats 2000000 in
theorem p9_least_s (hl : m.length ≤ 1000) (hmok : ∀ w ∈ m.map (·.1), intOk w) : Spec Try.prog 31 [ptr t, int at_] [.blk t 86 [mapV bv, mapV bn], .pc (mapPc bv intK p9V intOk m), .pc (mapPc bn p9V cntV top c)] (fun _ : Unit => [.blk t 86 [mapV bv, mapV bn], .pc (mapPc bv intK p9V intOk m), .pc (mapPc bn p9V cntV top c)]) (fun _ => .tup [p9A (leastO m c at_ (srt (m.map (·.1)))), boo (leastO m c at_ (srt (m.map (·.1)))).isSome]) := by
  have hsl : (srt (m.map (·.1))).length = m.length := by rw [srt_length, List.length_map]
  refine spec_of Try.func31 rfl Try.ntmps31 rfl fun G w => ?_
  refine SC.seq (SC.region ?_)
  refine SL.eff (Eff.alloc tabOk rfl) rfl rfl ?_
  rintro _ _ ⟨b4, rfl, rfl⟩
  refine SL.val (Val.assign rfl) rfl rfl ?_
  refine SL.nil (SE.seq ?_)
  refine SC.seq ?_
  refine SC.seq (SC.region ?_)
  refine SL.val (Val.move rfl) rfl rfl ?_
  refine SL.call (p9_voters_s (t := t) (bv := bv) (bn := bn) (m := m) (c := c) hl) Casts.refl (by kernel_rfl) rfl rfl rfl ?_
  refine After.threeN1 ⟨rfl, rfl, rfl⟩ (fun _ => rfl) ?_
  intro r11
  refine SL.freeze [_] (t := 11) rfl rfl ?_
  first
    | refine SL.val (Val.lenSl rfl Try.underlying41 (List.length_map _)) rfl rfl ?_
    | refine SL.val (Val.lenOwn rfl (by repeat first|assumption|exact m0|apply m1) Try.underlying41 (List.length_map _)) rfl rfl ?_
    | refine SL.val (Val.lenNil rfl Try.underlying41) rfl rfl ?_
  refine SL.val (Val.move rfl) rfl rfl ?_
  refine SL.nil (SE.seq ?_)
  refine SC.block ?_
  refine SC.loop (ι := Nat) (fun z => [.blk b4 57 p9Z, .blk t 86 [mapV bv, mapV bn], .pc (mapPc bv intK p9V intOk m), .pc (mapPc bn p9V cntV top c)]) (fun z => [(0, ptr t), (1, int at_), (4, ptr b4), (11, ints (srt (m.map (·.1)))), (12, int ((srt (m.map (·.1))).length : Nat)), (13, int (z : Nat))]) (fun z => z ≤ (srt (m.map (·.1))).length ∧ ∀ j (h : j < (srt (m.map (·.1))).length), j < z → ∀ v, aget m (srt (m.map (·.1)))[j] = some v → ¬ (1 ≤ at_ ∧ at_ ≤ cget c v)) (fun z => (srt (m.map (·.1))).length - z) (0) (⟨Nat.zero_le _, fun j h hj => by omega⟩) (by exact ⟨rfl, rfl, rfl, rfl, rfl, rfl, trivial⟩) (by repeat first|exact s0 _|exact s1 _|apply s2|apply s3) ?_
  intro z hz
  refine SC.seq (SC.region ?_)
  refine SL.val (Val.ltI rfl rfl) rfl rfl ?_
  refine SL.nil (SE.seq ?_)
  refine SC.seq ?_
  refine SC.condP rfl ?_ ?_
  rotate_left
  · intro hc14
    refine SC.exit ?_
    refine SE.then_ (by intro h; cases h) ?_
    refine SE.then_ (by intro h; cases h) ?_
    refine SE.exit ?_
    refine SE.seq ?_
    refine SC.seq (SC.region ?_)
    refine SL.eff (Eff.alloc tabOk rfl) rfl rfl ?_
    rintro _ _ ⟨b9, rfl, rfl⟩
    refine SL.nil (SE.seq ?_)
    refine SC.seq (SC.region ?_)
    refine SL.val (Val.to (C := .agg p9Z) (Val.loadA tabOk rfl rfl rfl (by first|(apply Or.inl;(repeat first|assumption|exact m0|apply m1);done)|(apply Or.inr;(repeat first|assumption|exact m0|apply m1);done)) List.not_mem_nil rfl) rfl) rfl rfl ?_
    refine SL.eff (Eff.store (L' := p9Z) tabOk rfl rfl rfl (by repeat first|assumption|exact Upd.here|apply Upd.there) (by exact rfl) (Nat.le_of_ble_eq_true (by rfl)) (by exact rfl) (putL_whole (by exact rfl))) rfl rfl ?_
    rintro _ _ ⟨rfl, rfl⟩
    refine SL.val (Val.assign rfl) rfl rfl ?_
    refine SL.nil (SE.seq ?_)
    refine SC.ret ?_
    have hle : leastO m c at_ (srt (m.map (·.1))) = none := by
      rw [leastO_drop hz.2, List.drop_eq_nil_of_le (by omega)]
      rfl
    refine SE.fin (rs := [.cell 4 57, .tmp 5]) rfl (RV.cell rfl (RV.cellA tabOk rfl rfl (by first|(apply Or.inl;(repeat first|assumption|exact m0|apply m1);done)|(apply Or.inr;(repeat first|assumption|exact m0|apply m1);done)) (by rfl)) (RV.tmp rfl RV.nil)) (()) (by repeat first|exact s0 _|exact s1 _|apply s2|apply s3) (by simp [It.rids]) ?_
    rw [hle]
    rfl
  intro hc14
  have hlt : z < (srt (m.map (·.1))).length := by omega
  have hin : (srt (m.map (·.1)))[z] ∈ m.map (·.1) := (srt_perm _).mem_iff.1 (List.getElem_mem hlt)
  obtain ⟨v, hv⟩ := isSome_some ((aget_isSome m (srt (m.map (·.1)))[z]).2 hin)
  have hwz := hmok _ hin
  refine SC.skip ?_
  refine SE.seq ?_
  refine SC.seq ?_
  refine SC.block ?_
  refine SC.seq (SC.region ?_)
  refine SL.val (Val.indexSl tabOk Try.underlying41 rfl rfl rfl rfl (at_map (by omega)) rfl rfl) rfl rfl ?_
  refine SL.val (Val.to (C := int ((srt (m.map (·.1)))[z]'hlt)) (Val.load1R tabOk rfl rfl rfl) rfl) rfl rfl ?_
  refine SL.val (Val.assign rfl) rfl rfl ?_
  refine SL.nil (SE.seq ?_)
  refine SC.seq (SC.region ?_)
  refine SL.val (Val.move rfl) rfl rfl ?_
  refine SL.val (Val.nilCheck rfl) rfl rfl ?_
  refine SL.val (Val.fieldAddr tabOk rfl rfl rfl rfl rfl) rfl rfl ?_
  refine SL.val (Val.load1 tabOk rfl rfl (by first|(apply Or.inl;(repeat first|assumption|exact m0|apply m1);done)|(apply Or.inr;(repeat first|assumption|exact m0|apply m1);done)) List.not_mem_nil (by rfl)) rfl rfl ?_
  refine SL.val (Val.move rfl) rfl rfl ?_
  refine SL.val (Val.to (C := .agg (p9C v)) (Val.mapGet (a := (srt (m.map (·.1)))[z]) (zv := (.agg #[.int .u8 0, .int .u8 0])) (C := p9A (aget m (srt (m.map (·.1)))[z])) (int_fit Try.underlying3) Try.underlying83 p9_zero rfl (by first|(apply Or.inl;(repeat first|assumption|exact m0|apply m1);done)|(apply Or.inr;(repeat first|assumption|exact m0|apply m1);done)) List.not_mem_nil rfl is_v hwz (p9A_is _)) (by rw [hv]; rfl)) rfl rfl ?_
  refine SL.eff (Eff.alloc tabOk rfl) rfl rfl ?_
  rintro _ _ ⟨b8, rfl, rfl⟩
  refine SL.eff (Eff.store (L' := (p9C v)) tabOk rfl rfl rfl (by repeat first|assumption|exact Upd.here|apply Upd.there) (by exact (p9C_len _)) (Nat.le_of_ble_eq_true (by rfl)) (by exact (p9C_ones _)) (putL_whole (by exact (p9C_len _)))) rfl rfl ?_
  rintro _ _ ⟨rfl, rfl⟩
  refine SL.nil (SE.seq ?_)
  refine SC.seq ?_
  refine SC.draw [] (.q 0 (.q 1 (.q 2 (.q 3 (.q 4 (.q 5 (.q 6 (.q 7 (.q 8 (.q 9 (.q 10 (.q 11 .nil)))))))))))) (by kernel_rfl) (by kernel_rfl) ?_
  refine SX.val rfl (Val.move rfl) (by simp) rfl rfl ?_
  refine SX.val rfl (Val.geI rfl rfl) (by simp) rfl rfl ?_
  refine SX.val rfl (Val.move rfl) (by simp) rfl rfl ?_
  refine SX.bothP (t := 25) rfl ?_ ?_
  rotate_left
  · intro hc25
    iterate 8 refine SX.skip rfl rfl rfl ?_
    refine SX.val rfl (Val.pickF rfl rfl) (by simp) rfl rfl ?_
    refine SX.nil (SE.seq ?_)
    refine SC.condF rfl ?_
    refine SC.skip ?_
    refine SE.inBlock ?_
    refine SE.seq ?_
    refine SC.region ?_
    first
      | refine SL.val (Val.addI rfl rfl (by simp only [InR, lo, hi]; omega)) rfl rfl ?_
      | refine SL.val (Val.addW rfl rfl) rfl rfl ?_
    refine SL.val (Val.move rfl) rfl rfl ?_
    refine SL.nil ?_
    refine SE.round (z + 1) (by first | omega | (dsimp only; omega)) (⟨by omega, fun j h hj u hu => by
          rcases Nat.lt_or_ge j z with h1 | h1
          · exact hz.2 j h h1 u hu
          · obtain rfl : j = z := by omega
            rw [hv] at hu
            cases hu
            first | omega | (simp at *; omega)⟩) (by exact ⟨rfl, rfl, rfl, rfl, rfl, rfl, trivial⟩) (by repeat first|exact s0 _|exact s1 _|apply s2|apply s3)
  intro hc25
  refine SX.val rfl (Val.move rfl) (by simp) rfl rfl ?_
  refine SX.val rfl (Val.nilCheck rfl) (by simp) rfl rfl ?_
  refine SX.val rfl (Val.fieldAddr tabOk rfl rfl rfl rfl rfl) (by simp) rfl rfl ?_
  refine SX.val rfl (Val.load1 tabOk rfl rfl (by first|(apply Or.inl;(repeat first|assumption|exact m0|apply m1);done)|(apply Or.inr;(repeat first|assumption|exact m0|apply m1);done)) List.not_mem_nil (by rfl)) (by simp) rfl rfl ?_
  refine SX.val rfl (Val.loadA tabOk rfl rfl rfl (by first|(apply Or.inl;(repeat first|assumption|exact m0|apply m1);done)|(apply Or.inr;(repeat first|assumption|exact m0|apply m1);done)) List.not_mem_nil (p9C_len _)) (by first | (simp [mids, It.mids, ownPc, mapPc]; done) | (intro k hk; simp [mids, It.mids, ownPc, mapPc, mapAtPc] at hk ⊢; grind)) rfl rfl ?_
  refine SX.val rfl (Val.mapGet (a := v) (zv := cntV 0) (C := int ((cget c v : Nat) : Int)) p9_fit Try.underlying84 int_zero rfl (by first|(apply Or.inl;(repeat first|assumption|exact m0|apply m1);done)|(apply Or.inr;(repeat first|assumption|exact m0|apply m1);done)) List.not_mem_nil rfl (p9_is _) trivial (cget_is _ _)) (by first | (simp [mids, It.mids, ownPc, mapPc]; done) | (intro k hk; simp [mids, It.mids, ownPc, mapPc, mapAtPc] at hk ⊢; grind)) rfl rfl ?_
  refine SX.val rfl (Val.move rfl) (by simp) rfl rfl ?_
  refine SX.val rfl (Val.geI rfl rfl) (by simp) rfl rfl ?_
  refine SX.val rfl (Val.pickT rfl rfl) (by simp) rfl rfl ?_
  refine SX.nil (SE.seq ?_)
  refine SC.condP rfl ?_ ?_
  rotate_left
  · intro hc34
    refine SC.skip ?_
    refine SE.inBlock ?_
    refine SE.seq ?_
    refine SC.region ?_
    first
      | refine SL.val (Val.addI rfl rfl (by simp only [InR, lo, hi]; omega)) rfl rfl ?_
      | refine SL.val (Val.addW rfl rfl) rfl rfl ?_
    refine SL.val (Val.move rfl) rfl rfl ?_
    refine SL.nil ?_
    refine SE.round (z + 1) (by first | omega | (dsimp only; omega)) (⟨by omega, fun j h hj u hu => by
          rcases Nat.lt_or_ge j z with h1 | h1
          · exact hz.2 j h h1 u hu
          · obtain rfl : j = z := by omega
            rw [hv] at hu
            cases hu
            first | omega | (simp at *; omega)⟩) (by exact ⟨rfl, rfl, rfl, rfl, rfl, rfl, trivial⟩) (by repeat first|exact s0 _|exact s1 _|apply s2|apply s3)
  intro hc34
  refine SC.seq (SC.region ?_)
  refine SL.val (Val.loadA tabOk rfl rfl rfl (by first|(apply Or.inl;(repeat first|assumption|exact m0|apply m1);done)|(apply Or.inr;(repeat first|assumption|exact m0|apply m1);done)) List.not_mem_nil (p9C_len _)) rfl rfl ?_
  refine SL.eff (Eff.store (L' := (p9C v)) tabOk rfl rfl rfl (by repeat first|assumption|exact Upd.here|apply Upd.there) (by exact (p9C_len _)) (Nat.le_of_ble_eq_true (by rfl)) (by exact (p9C_ones _)) (putL_whole (by exact (p9C_len _)))) rfl rfl ?_
  rintro _ _ ⟨rfl, rfl⟩
  refine SL.val (Val.assign rfl) rfl rfl ?_
  refine SL.nil (SE.seq ?_)
  refine SC.ret ?_
  refine SE.ret ?_
  refine SE.then_ (by intro h; cases h) ?_
  refine SE.then_ (by intro h; cases h) ?_
  refine SE.ret ?_
  refine SE.then_ (by intro h; cases h) ?_
  have hle : leastO m c at_ (srt (m.map (·.1))) = some v := by
    rw [leastO_drop hz.2, List.drop_eq_getElem_cons hlt, leastO_cons, hv]
    exact if_pos (by omega)
  refine SE.fin (rs := [.cell 4 57, .tmp 5]) rfl (RV.cell rfl (RV.cellA tabOk rfl rfl (by first|(apply Or.inl;(repeat first|assumption|exact m0|apply m1);done)|(apply Or.inr;(repeat first|assumption|exact m0|apply m1);done)) ((p9C_len _))) (RV.tmp rfl RV.nil)) (()) (by repeat first|exact s0 _|exact s1 _|apply s2|apply s3) (by simp [It.rids]) ?_
  rw [hle]
  rfl
end
end Go.Proofs.Ytonceioajbimaaa.A
/-
  TallyNil: the walk.
-/
set_option maxRecDepth 100000
set_option linter.unusedSimpArgs false
set_option linter.unusedVariables false
namespace Go.Proofs.Ytonceioajbimaaa.A
open Go.RowKit Go.Maps Go.Sort Go.Shelf

theorem After.make3 {ι : Type} {σ σ1 : Blks} {τ' : ι → Blks} {a b c : ι → It} {K : Blks → ι → Prop} (h : Reads σ σ1) (hτ : ∀ z, τ' z = [a z, b z, c z]) (k : ∀ z, K (a z :: b z :: c z :: σ) z) : After σ σ1 τ' K := ⟨σ, h.split, fun z => ⟨_, by rw [hτ z]; exact List.Perm.refl _, k z⟩⟩
theorem After.threeAt3 {ι : Type} {a b c x1 x2 x3 : It} {β : Blks} {τ' : ι → Blks} {y1 y2 y3 : ι → It} {K : Blks → ι → Prop} (hr : x1.rids = [] ∧ x2.rids = [] ∧ x3.rids = []) (hτ : ∀ z, τ' z = [y1 z, y2 z, y3 z]) (k : ∀ z, K (a :: b :: c :: y1 z :: y2 z :: y3 z :: β) z) : After (a :: b :: c :: x1 :: x2 :: x3 :: β) [x1, x2, x3] τ' K :=
  After.mid [a, b, c] (β := β) rfl (by intro x hx; simp only [List.mem_cons, List.not_mem_nil, or_false] at hx; rcases hx with rfl | rfl | rfl; exact hr.1; exact hr.2.1; exact hr.2.2) fun z => by rw [hτ z]; exact k z
theorem After.threeAt1 {ι : Type} {a x1 x2 x3 : It} {β : Blks} {τ' : ι → Blks} {y1 y2 y3 : ι → It} {K : Blks → ι → Prop} (hr : x1.rids = [] ∧ x2.rids = [] ∧ x3.rids = []) (hτ : ∀ z, τ' z = [y1 z, y2 z, y3 z]) (k : ∀ z, K (a :: y1 z :: y2 z :: y3 z :: β) z) : After (a :: x1 :: x2 :: x3 :: β) [x1, x2, x3] τ' K :=
  After.mid [a] (β := β) rfl (by intro x hx; simp only [List.mem_cons, List.not_mem_nil, or_false] at hx; rcases hx with rfl | rfl | rfl; exact hr.1; exact hr.2.1; exact hr.2.2) fun z => by rw [hτ z]; exact k z
theorem After.threeAt4 {ι : Type} {a b c d x1 x2 x3 : It} {β : Blks} {τ' : ι → Blks} {y1 y2 y3 : ι → It} {K : Blks → ι → Prop} (hr : x1.rids = [] ∧ x2.rids = [] ∧ x3.rids = []) (hτ : ∀ z, τ' z = [y1 z, y2 z, y3 z]) (k : ∀ z, K (a :: b :: c :: d :: y1 z :: y2 z :: y3 z :: β) z) : After (a :: b :: c :: d :: x1 :: x2 :: x3 :: β) [x1, x2, x3] τ' K :=
  After.mid [a, b, c, d] (β := β) rfl (by intro x hx; simp only [List.mem_cons, List.not_mem_nil, or_false] at hx; rcases hx with rfl | rfl | rfl; exact hr.1; exact hr.2.1; exact hr.2.2) fun z => by rw [hτ z]; exact k z
theorem TInv.add {α : Type} [DecidableEq α] {m : List (Int × α)} {c : List (α × Nat)} (h : TInv m c) (who : Int) (k : α) : TInv (tAddM m who k) (tAddC m c who k) := by
  cases hv : aget m who with
  | none => rw [tAddM_new hv, tAddC_new hv]; exact h.chg who k
  | some v => rw [tAddM_old hv, tAddC_old hv]; exact h
theorem tAddM_length {α : Type} (m : List (Int × α)) (who : Int) (k : α) : (tAddM m who k).length ≤ m.length + 1 := by
  unfold tAddM
  split
  · omega
  · exact aput_length_le m who k
theorem tAddM_keys {α : Type} {ok : Int → Prop} {m : List (Int × α)} (h : ∀ w ∈ m.map (·.1), ok w) {who : Int} (hw : ok who) (k : α) : ∀ w ∈ (tAddM m who k).map (·.1), ok w := by
  unfold tAddM
  split
  · exact h
  · rw [aput_keys]
    split
    · exact h
    · intro w hw2
      rcases List.mem_append.1 hw2 with h2 | h2
      · exact h w h2
      · rw [List.mem_singleton.1 h2]; exact hw
theorem tAddM_vals {α : Type} {ok : α → Prop} {m : List (Int × α)} (h : ∀ w v, aget m w = some v → ok v) (who : Int) {k : α} (hk : ok k) : ∀ w v, aget (tAddM m who k) w = some v → ok v := by
  unfold tAddM
  split
  · exact h
  · intro w v hv
    rw [aget_aput] at hv
    split at hv
    · cases hv; exact hk
    · exact h w v hv
def sA : ByteArray := ⟨#[97]⟩
def sB : ByteArray := ⟨#[98]⟩
abbrev fM1 := tAddM ([] : List (Int × ByteArray)) 1 sA
abbrev fC1 := tAddC ([] : List (Int × ByteArray)) [] 1 sA
abbrev fM2 := tAddM fM1 1 sB
abbrev fC2 := tAddC fM1 fC1 1 sB
abbrev fM3 := tAddM fM2 2 sA
abbrev fC3 := tAddC fM2 fC2 2 sA
theorem fM3_eq : fM3 = [(1, sA), (2, sA)] := by decide +kernel
theorem fC3_eq : fC3 = [(sA, 2)] := by decide +kernel
theorem fB1 : tAddB ([] : List (Int × ByteArray)) 1 sA = true := by decide +kernel
theorem fB2 : tAddB fM1 1 sB = false := by decide +kernel
theorem fInv1 : TInv fM1 fC1 := TInv.nil.add _ _
theorem fInv2 : TInv fM2 fC2 := fInv1.add _ _
theorem sA_ok : strOk sA := by show 1 ≤ maxLen; unfold maxLen; decide
theorem sB_ok : strOk sB := by show 1 ≤ maxLen; unfold maxLen; decide
theorem fOk0 : ∀ w v, aget ([] : List (Int × ByteArray)) w = some v → strOk v := fun w v h => by cases h
theorem fOk1 : ∀ w v, aget fM1 w = some v → strOk v := tAddM_vals fOk0 1 sA_ok
theorem fOk2 : ∀ w v, aget fM2 w = some v → strOk v := tAddM_vals fOk1 1 sB_ok
theorem fOk3 : ∀ w v, aget fM3 w = some v → strOk v := tAddM_vals fOk2 2 sA_ok
theorem srt12 : srt [1, 2] = [1, 2] := sorted_unique (srt_perm _) (srt_sorted _) (by decide)
theorem fLeast : leastO fM3 fC3 2 (srt (fM3.map (·.1))) = some sA := by
  rw [show fM3.map (·.1) = [1, 2] by rw [fM3_eq]; rfl, srt12, fM3_eq, fC3_eq]
  decide +kernel
theorem fKeys : ∀ w ∈ fM3.map (·.1), intOk w := by
  rw [show fM3.map (·.1) = [1, 2] by rw [fM3_eq]; rfl]
  intro w hw
  simp only [List.mem_cons, List.not_mem_nil, or_false] at hw
  simp only [InR, lo, hi]
  omega
theorem i1 : intOk 1 := by simp only [InR, lo, hi]; omega
theorem i2 : intOk 2 := by simp only [InR, lo, hi]; omega
theorem fCount : cget fC3 sA = 2 := by rw [fC3_eq]; decide +kernel
theorem fLen : fM3.length = 2 := by rw [fM3_eq]; rfl
set_option maxHeartbeats 2000000 in
theorem fixed20_s  : Spec Try.prog 5 [] [] (fun _ : Unit => []) (fun _ => boo true) := by
  refine spec_of Try.func5 rfl Try.ntmps5 rfl fun G w => ?_
  refine SC.seq (SC.region ?_)
  refine SL.val (Val.assign rfl) rfl rfl ?_
  refine SL.nil (SE.seq ?_)
  refine SC.seq (SC.region ?_)
  refine SL.call (st_new_s) Casts.refl (by kernel_rfl) rfl rfl rfl ?_
  refine After.make3 (by repeat first|exact .nil|refine .blk (by repeat first|assumption|exact m0|apply m1) ?_|refine .rd (by repeat first|assumption|exact m0|apply m1) ?_|refine .pc (by repeat first|assumption|exact m0|apply m1) ?_|refine .rdpc (by repeat first|assumption|exact m0|apply m1) ?_) (fun _ => rfl) ?_
  intro z0
  refine SL.val (Val.assign rfl) rfl rfl ?_
  refine SL.nil (SE.seq ?_)
  refine SC.seq (SC.region ?_)
  refine SL.val (Val.move rfl) rfl rfl ?_
  refine SL.call (st_add_s (t := z0.1) (bv := z0.2.1) (bn := z0.2.2) (m := []) (c := []) (who := 1) (k := sA) i1 TInv.nil (by decide +kernel) sA_ok fOk0) Casts.refl (by kernel_rfl) rfl rfl rfl ?_
  refine After.three ⟨rfl, rfl, rfl⟩ (fun _ => rfl) ?_
  intro _
  refine SL.val (Val.move rfl) rfl rfl ?_
  refine SL.call (st_add_s (t := z0.1) (bv := z0.2.1) (bn := z0.2.2) (m := fM1) (c := fC1) (who := 1) (k := sB) i1 fInv1 (by decide +kernel) sB_ok fOk1) Casts.refl (by kernel_rfl) rfl rfl rfl ?_
  refine After.three ⟨rfl, rfl, rfl⟩ (fun _ => rfl) ?_
  intro _
  refine SL.val (Val.assign rfl) rfl rfl ?_
  refine SL.val (Val.assign rfl) rfl rfl ?_
  refine SL.nil (SE.seq ?_)
  refine SC.seq (SC.region ?_)
  refine SL.val (Val.move rfl) rfl rfl ?_
  refine SL.call (st_add_s (t := z0.1) (bv := z0.2.1) (bn := z0.2.2) (m := fM2) (c := fC2) (who := 2) (k := sA) i2 fInv2 (by decide +kernel) sA_ok fOk2) Casts.refl (by kernel_rfl) rfl rfl rfl ?_
  refine After.three ⟨rfl, rfl, rfl⟩ (fun _ => rfl) ?_
  intro _
  refine SL.nil (SE.seq ?_)
  refine SC.seq (SC.region ?_)
  refine SL.val (Val.move rfl) rfl rfl ?_
  refine SL.call (st_least_s (t := z0.1) (bv := z0.2.1) (bn := z0.2.2) (m := fM3) (c := fC3) (at_ := 2) (by decide +kernel) fKeys fOk3) Casts.refl (by kernel_rfl) rfl rfl rfl ?_
  refine After.three ⟨rfl, rfl, rfl⟩ (fun _ => rfl) ?_
  intro _
  rw [fLeast]
  refine SL.val (Val.move rfl) rfl rfl ?_
  refine SL.val (Val.extract rfl rfl) rfl rfl ?_
  refine SL.val (Val.extract rfl rfl) rfl rfl ?_
  refine SL.val (Val.assign rfl) rfl rfl ?_
  refine SL.val (Val.assign rfl) rfl rfl ?_
  refine SL.nil (SE.seq ?_)
  refine SC.seq (SC.region ?_)
  refine SL.val (Val.move rfl) rfl rfl ?_
  refine SL.val (Val.move rfl) rfl rfl ?_
  refine SL.both (t := 19) rfl ?_ (by intro hc19; exfalso; rw [fB1] at hc19; cases hc19)
  intro hc19
  refine SL.val (Val.move rfl) rfl rfl ?_
  refine SL.val (Val.notB rfl) rfl rfl ?_
  refine SL.val (Val.pickT rfl rfl) rfl rfl ?_
  refine SL.val (Val.move rfl) rfl rfl ?_
  refine SL.both (t := 23) rfl ?_ (by intro hc23; exfalso; rw [fB2] at hc23; cases hc23)
  intro hc23
  refine SL.val (Val.move rfl) rfl rfl ?_
  refine SL.val (Val.pickT rfl rfl) rfl rfl ?_
  refine SL.val (Val.move rfl) rfl rfl ?_
  refine SL.both (t := 26) rfl ?_ (by intro hc26; exfalso; cases hc26)
  intro hc26
  refine SL.val (Val.move rfl) rfl rfl ?_
  refine SL.val (Val.to (C := boo true) (Val.eqS rfl rfl) (by rfl)) rfl rfl ?_
  refine SL.val (Val.pickT rfl rfl) rfl rfl ?_
  refine SL.val (Val.move rfl) rfl rfl ?_
  refine SL.val (Val.move rfl) rfl rfl ?_
  refine SL.call (st_count_s (t := z0.1) (bv := z0.2.1) (bn := z0.2.2) (m := fM3) (c := fC3) (k := sA) sA_ok) Casts.refl (by kernel_rfl) rfl rfl rfl ?_
  refine After.three ⟨rfl, rfl, rfl⟩ (fun _ => rfl) ?_
  intro _
  refine SL.val (Val.eqI rfl rfl) rfl rfl ?_
  refine SL.val (Val.pickT rfl rfl) rfl rfl ?_
  refine SL.val (Val.move rfl) rfl rfl ?_
  refine SL.bothP (t := 35) rfl ?_ (by intro hc35; exfalso; exact hc35 (by rw [fCount]; rfl))
  intro hc35
  refine SL.val (Val.move rfl) rfl rfl ?_
  refine SL.call (st_len_s (t := z0.1) (bv := z0.2.1) (bn := z0.2.2) (m := fM3) (c := fC3)) Casts.refl (by kernel_rfl) rfl rfl rfl ?_
  refine After.three ⟨rfl, rfl, rfl⟩ (fun _ => rfl) ?_
  intro _
  refine SL.val (Val.eqI rfl rfl) rfl rfl ?_
  refine SL.val (Val.pickT rfl rfl) rfl rfl ?_
  refine SL.val (Val.assign rfl) rfl rfl ?_
  refine SL.nil (SE.seq ?_)
  refine SC.ret ?_
  refine SE.fin (rs := [.tmp 0]) rfl (RV.tmp rfl RV.nil) (()) (by repeat first|exact s0 _|exact s1 _|apply s2|apply s3) (by simp [It.rids]) ?_
  exact congrArg (fun b => Abs.v (Value.bool b)) (decide_eq_true (by rw [fLen]; rfl))
theorem p9_add_s {t bv bn : Nat} {m : List (Int × UInt8)} {c : List (UInt8 × Nat)} {k : UInt8} {who : Int} (hw : intOk who) (hti : TInv m c) (hl : m.length ≤ 1000) : Spec Try.prog 29 [ptr t, int who, p9E k] [.blk t 86 [mapV bv, mapV bn], .pc (mapPc bv intK p9V intOk m), .pc (mapPc bn p9V cntV top c)] (fun _ : Unit => [.blk t 86 [mapV bv, mapV bn], .pc (mapPc bv intK p9V intOk (tAddM m who k)), .pc (mapPc bn p9V cntV top (tAddC m c who k))]) (fun _ => boo (tAddB m who k)) := by
  cases hv : aget m who with
  | none => rw [tAddM_new hv, tAddC_new hv, tAddB_new hv]; exact p9_addN_s hw hti hl hv
  | some v => rw [tAddM_old hv, tAddC_old hv, tAddB_old hv]; exact p9_addO_s hw hti hl hv
def p9CO (o : Option UInt8) : List Abs := (o.map p9C).getD p9Z
theorem p9A_eq (o : Option UInt8) : p9A o = .agg (p9CO o) := by cases o <;> rfl
theorem p9CO_len (o : Option UInt8) : (p9CO o).length = 2 := by cases o <;> rfl
theorem p9CO_ones (o : Option UInt8) : ones (p9CO o) = true := by cases o <;> rfl
section
variable {l : List UInt8} {at_ : Int}
set_option maxHeartbeats 4000000 in
theorem tnil_s  : Spec Try.prog 4 [byt l, int at_] [] (fun _ : Unit => []) (fun _ => boo true) := by
  refine spec_of Try.func4 rfl Try.ntmps4 rfl fun G w => ?_
  refine SC.seq (SC.region ?_)
  refine SL.val (Val.assign rfl) rfl rfl ?_
  refine SL.nil (SE.seq ?_)
  refine SC.seq ?_
  refine SC.seq (SC.region ?_)
  refine SL.call (fixed20_s) Casts.refl (by kernel_rfl) rfl rfl rfl ?_
  refine After.pure (by repeat first|exact .nil|refine .blk (by repeat first|assumption|exact m0|apply m1) ?_|refine .rd (by repeat first|assumption|exact m0|apply m1) ?_|refine .pc (by repeat first|assumption|exact m0|apply m1) ?_|refine .rdpc (by repeat first|assumption|exact m0|apply m1) ?_) (fun _ => rfl) ?_
  intro _
  refine SL.val (Val.notT rfl) rfl rfl ?_
  refine SL.nil (SE.seq ?_)
  refine SC.condF rfl ?_
  refine SC.skip ?_
  refine SE.seq ?_
  refine SC.seq ?_
  refine SC.seq (SC.region ?_)
  refine SL.val (Val.move rfl) rfl rfl ?_
  first
    | refine SL.val (Val.lenSl rfl Try.underlying45 (List.length_map _)) rfl rfl ?_
    | refine SL.val (Val.lenOwn rfl (by repeat first|assumption|exact m0|apply m1) Try.underlying45 (List.length_map _)) rfl rfl ?_
    | refine SL.val (Val.lenNil rfl Try.underlying45) rfl rfl ?_
  refine SL.val (Val.gtI rfl rfl) rfl rfl ?_
  refine SL.nil (SE.seq ?_)
  refine SC.condP rfl ?_ ?_
  · intro hc24
    refine SC.seq (SC.region ?_)
    refine SL.val (Val.assign rfl) rfl rfl ?_
    refine SL.nil (SE.seq ?_)
    refine SC.ret ?_
    refine SE.then_ (by intro h; cases h) ?_
    refine SE.fin (rs := [.tmp 4]) rfl (RV.tmp rfl RV.nil) (()) (by repeat first|exact s0 _|exact s1 _|apply s2|apply s3) (by simp [It.rids]) ?_
    first
      | rfl
      | exact congrArg (fun b => Abs.v (Value.bool b)) (decide_eq_true rfl)
  intro hc24
  refine SC.skip ?_
  refine SE.seq ?_
  refine SC.seq (SC.region ?_)
  refine SL.val (Val.assign rfl) rfl rfl ?_
  refine SL.nil (SE.seq ?_)
  refine SC.seq (SC.region ?_)
  refine SL.val (Val.move rfl) rfl rfl ?_
  refine SL.call (st_change0_s (who := 1) (k := sA)) Casts.refl (by kernel_rfl) rfl rfl rfl ?_
  refine After.pure (by repeat first|exact .nil|refine .blk (by repeat first|assumption|exact m0|apply m1) ?_|refine .rd (by repeat first|assumption|exact m0|apply m1) ?_|refine .pc (by repeat first|assumption|exact m0|apply m1) ?_|refine .rdpc (by repeat first|assumption|exact m0|apply m1) ?_) (fun _ => rfl) ?_
  intro _
  refine SL.nil (SE.seq ?_)
  refine SC.seq (SC.region ?_)
  refine SL.val (Val.move rfl) rfl rfl ?_
  refine SL.val (Val.move rfl) rfl rfl ?_
  refine SL.call (st_least0_s (at_ := at_)) Casts.refl (by kernel_rfl) rfl rfl rfl ?_
  refine After.pure (by repeat first|exact .nil|refine .blk (by repeat first|assumption|exact m0|apply m1) ?_|refine .rd (by repeat first|assumption|exact m0|apply m1) ?_|refine .pc (by repeat first|assumption|exact m0|apply m1) ?_|refine .rdpc (by repeat first|assumption|exact m0|apply m1) ?_) (fun _ => rfl) ?_
  intro _
  refine SL.val (Val.move rfl) rfl rfl ?_
  refine SL.val (Val.extract rfl rfl) rfl rfl ?_
  refine SL.val (Val.extract rfl rfl) rfl rfl ?_
  refine SL.val (Val.assign rfl) rfl rfl ?_
  refine SL.val (Val.assign rfl) rfl rfl ?_
  refine SL.nil (SE.seq ?_)
  refine SC.seq (SC.region ?_)
  refine SL.val (Val.move rfl) rfl rfl ?_
  refine SL.call (st_of0_s (who := 1)) Casts.refl (by kernel_rfl) rfl rfl rfl ?_
  refine After.pure (by repeat first|exact .nil|refine .blk (by repeat first|assumption|exact m0|apply m1) ?_|refine .rd (by repeat first|assumption|exact m0|apply m1) ?_|refine .pc (by repeat first|assumption|exact m0|apply m1) ?_|refine .rdpc (by repeat first|assumption|exact m0|apply m1) ?_) (fun _ => rfl) ?_
  intro _
  refine SL.val (Val.move rfl) rfl rfl ?_
  refine SL.val (Val.extract rfl rfl) rfl rfl ?_
  refine SL.val (Val.extract rfl rfl) rfl rfl ?_
  refine SL.val (Val.assign rfl) rfl rfl ?_
  refine SL.val (Val.assign rfl) rfl rfl ?_
  refine SL.nil (SE.seq ?_)
  refine SC.seq ?_
  refine SC.seq (SC.region ?_)
  refine SL.val (Val.move rfl) rfl rfl ?_
  refine SL.call (st_add0_s (who := 1) (k := sA)) Casts.refl (by kernel_rfl) rfl rfl rfl ?_
  refine After.pure (by repeat first|exact .nil|refine .blk (by repeat first|assumption|exact m0|apply m1) ?_|refine .rd (by repeat first|assumption|exact m0|apply m1) ?_|refine .pc (by repeat first|assumption|exact m0|apply m1) ?_|refine .rdpc (by repeat first|assumption|exact m0|apply m1) ?_) (fun _ => rfl) ?_
  intro _
  refine SL.val (Val.move rfl) rfl rfl ?_
  refine SL.val (Val.move rfl) rfl rfl ?_
  refine SL.val (Val.pickF rfl rfl) rfl rfl ?_
  refine SL.val (Val.move rfl) rfl rfl ?_
  refine SL.both (t := 43) rfl (by intro hc43; exfalso; cases hc43) ?_
  intro hc43
  refine SL.val (Val.move rfl) rfl rfl ?_
  refine SL.val (Val.pickF rfl rfl) rfl rfl ?_
  refine SL.val (Val.move rfl) rfl rfl ?_
  refine SL.both (t := 46) rfl (by intro hc46; exfalso; cases hc46) ?_
  intro hc46
  refine SL.val (Val.move rfl) rfl rfl ?_
  refine SL.call (st_len0_s) Casts.refl (by kernel_rfl) rfl rfl rfl ?_
  refine After.pure (by repeat first|exact .nil|refine .blk (by repeat first|assumption|exact m0|apply m1) ?_|refine .rd (by repeat first|assumption|exact m0|apply m1) ?_|refine .pc (by repeat first|assumption|exact m0|apply m1) ?_|refine .rdpc (by repeat first|assumption|exact m0|apply m1) ?_) (fun _ => rfl) ?_
  intro _
  refine SL.val (Val.move rfl) rfl rfl ?_
  refine SL.call (st_count0_s (k := sA)) Casts.refl (by kernel_rfl) rfl rfl rfl ?_
  refine After.pure (by repeat first|exact .nil|refine .blk (by repeat first|assumption|exact m0|apply m1) ?_|refine .rd (by repeat first|assumption|exact m0|apply m1) ?_|refine .pc (by repeat first|assumption|exact m0|apply m1) ?_|refine .rdpc (by repeat first|assumption|exact m0|apply m1) ?_) (fun _ => rfl) ?_
  intro _
  first
    | refine SL.val (Val.addI rfl rfl (by simp only [InR, lo, hi]; omega)) rfl rfl ?_
    | refine SL.val (Val.addW rfl rfl) rfl rfl ?_
  refine SL.val (Val.move rfl) rfl rfl ?_
  refine SL.call (st_who0_s (k := sA)) Casts.refl (by kernel_rfl) rfl rfl rfl ?_
  refine After.pure (by repeat first|exact .nil|refine .blk (by repeat first|assumption|exact m0|apply m1) ?_|refine .rd (by repeat first|assumption|exact m0|apply m1) ?_|refine .pc (by repeat first|assumption|exact m0|apply m1) ?_|refine .rdpc (by repeat first|assumption|exact m0|apply m1) ?_) (fun _ => rfl) ?_
  intro _
  first
    | refine SL.val (Val.lenSl rfl Try.underlying41 (List.length_map _)) rfl rfl ?_
    | refine SL.val (Val.lenOwn rfl (by repeat first|assumption|exact m0|apply m1) Try.underlying41 (List.length_map _)) rfl rfl ?_
    | refine SL.val (Val.lenNil rfl Try.underlying41) rfl rfl ?_
  first
    | refine SL.val (Val.addI rfl rfl (by simp only [InR, lo, hi]; omega)) rfl rfl ?_
    | refine SL.val (Val.addW rfl rfl) rfl rfl ?_
  refine SL.val (Val.neI rfl rfl) rfl rfl ?_
  refine SL.val (Val.pickF rfl rfl) rfl rfl ?_
  refine SL.nil (SE.seq ?_)
  refine SC.condP rfl (by intro hc57; exfalso; exact hc57 rfl) ?_
  intro hc57
  refine SC.skip ?_
  refine SE.seq ?_
  refine SC.seq (SC.region ?_)
  refine SL.call (u8_new_s) Casts.refl (by kernel_rfl) rfl rfl rfl ?_
  refine After.make3 (by repeat first|exact .nil|refine .blk (by repeat first|assumption|exact m0|apply m1) ?_|refine .rd (by repeat first|assumption|exact m0|apply m1) ?_|refine .pc (by repeat first|assumption|exact m0|apply m1) ?_|refine .rdpc (by repeat first|assumption|exact m0|apply m1) ?_) (fun _ => rfl) ?_
  intro z1
  refine SL.call (p9_new_s) Casts.refl (by kernel_rfl) rfl rfl rfl ?_
  refine After.make3 (by repeat first|exact .nil|refine .blk (by repeat first|assumption|exact m0|apply m1) ?_|refine .rd (by repeat first|assumption|exact m0|apply m1) ?_|refine .pc (by repeat first|assumption|exact m0|apply m1) ?_|refine .rdpc (by repeat first|assumption|exact m0|apply m1) ?_) (fun _ => rfl) ?_
  intro z2
  refine SL.val (Val.assign rfl) rfl rfl ?_
  refine SL.val (Val.assign rfl) rfl rfl ?_
  refine SL.nil (SE.seq ?_)
  refine SC.seq ?_
  refine SC.seq (SC.region ?_)
  refine SL.val (Val.move rfl) rfl rfl ?_
  first
    | refine SL.val (Val.lenSl rfl Try.underlying45 (List.length_map _)) rfl rfl ?_
    | refine SL.val (Val.lenOwn rfl (by repeat first|assumption|exact m0|apply m1) Try.underlying45 (List.length_map _)) rfl rfl ?_
    | refine SL.val (Val.lenNil rfl Try.underlying45) rfl rfl ?_
  refine SL.val (Val.move rfl) rfl rfl ?_
  refine SL.nil (SE.seq ?_)
  refine SC.block ?_
  refine SC.loop (ι := Nat × List (Int × UInt8) × List (UInt8 × Nat)) (fun z => [.blk z2.1 86 [mapV z2.2.1, mapV z2.2.2], .pc (mapPc z2.2.1 intK p9V intOk z.2.1), .pc (mapPc z2.2.2 p9V cntV top z.2.2), .blk z1.1 82 [mapV z1.2.1, mapV z1.2.2], .pc (mapPc z1.2.1 intK bc intOk z.2.1), .pc (mapPc z1.2.2 bc cntV top z.2.2)]) (fun z => [(0, byt l), (1, int at_), (10, ptr z1.1), (11, ptr z2.1), (60, byt l), (61, int (l.length : Nat)), (62, int (z.1 : Nat))]) (fun z => z.1 ≤ l.length ∧ TInv z.2.1 z.2.2 ∧ z.2.1.length ≤ z.1 ∧ ∀ w ∈ z.2.1.map (·.1), intOk w) (fun z => l.length - z.1) (0, [], []) (⟨Nat.zero_le _, TInv.nil, Nat.le_refl _, fun w h => by cases h⟩) (by exact ⟨rfl, rfl, rfl, rfl, rfl, rfl, rfl, trivial⟩) (by repeat first|exact s0 _|exact s1 _|apply s2|apply s3) ?_
  intro z hz
  refine SC.seq (SC.region ?_)
  refine SL.val (Val.ltI rfl rfl) rfl rfl ?_
  refine SL.nil (SE.seq ?_)
  refine SC.seq ?_
  refine SC.condP rfl ?_ ?_
  · intro hc63
    have hlt : z.1 < l.length := by omega
    have hwho : intOk ((z.1 : Int) % 5) := by simp only [InR, lo, hi]; omega
    refine SC.skip ?_
    refine SE.seq ?_
    refine SC.seq ?_
    refine SC.block ?_
    refine SC.seq (SC.region ?_)
    refine SL.val (Val.move rfl) rfl rfl ?_
    refine SL.val (Val.indexSl tabOk Try.underlying45 rfl rfl rfl rfl (at_map (by omega)) rfl rfl) rfl rfl ?_
    refine SL.val (Val.to (C := .v (bc (l[z.1]'hlt))) (Val.load1R tabOk rfl rfl rfl) rfl) rfl rfl ?_
    refine SL.val (Val.assign rfl) rfl rfl ?_
    refine SL.val (Val.assign rfl) rfl rfl ?_
    refine SL.nil (SE.seq ?_)
    refine SC.seq (SC.region ?_)
    refine SL.val (Val.move rfl) rfl rfl ?_
    refine SL.val (Val.to (C := int ((z.1 : Int) % 5)) (Val.remI rfl rfl (by omega)) rfl) rfl rfl ?_
    refine SL.val (Val.move rfl) rfl rfl ?_
    refine SL.val (Val.to (C := .v (bc (l[z.1]'hlt % 3))) (Val.remI rfl rfl (by omega)) (congrArg Abs.v (by unfold bc; rw [UInt8.toNat_mod]; rfl))) rfl rfl ?_
    refine SL.val (Val.assign rfl) rfl rfl ?_
    refine SL.val (Val.assign rfl) rfl rfl ?_
    refine SL.nil (SE.seq ?_)
    refine SC.seq (SC.region ?_)
    refine SL.val (Val.move rfl) rfl rfl ?_
    refine SL.val (Val.move rfl) rfl rfl ?_
    refine SL.val (Val.move rfl) rfl rfl ?_
    refine SL.call (u8_add_s (t := z1.1) (bv := z1.2.1) (bn := z1.2.2) (m := z.2.1) (c := z.2.2) (who := ((z.1 : Int) % 5)) (k := (l[z.1]'hlt % 3)) hwho hz.2.1 (by omega)) Casts.refl (by kernel_rfl) rfl rfl rfl ?_
    refine After.threeAt3 ⟨rfl, rfl, rfl⟩ (fun _ => rfl) ?_
    intro _
    refine SL.val (Val.move rfl) rfl rfl ?_
    refine SL.val (Val.move rfl) rfl rfl ?_
    refine SL.val (Val.move rfl) rfl rfl ?_
    refine SL.val (Val.to (C := p9E (l[z.1]'hlt % 3)) (Val.buildA tabOk rfl rfl rfl rfl) rfl) rfl rfl ?_
    refine SL.call (p9_add_s (t := z2.1) (bv := z2.2.1) (bn := z2.2.2) (m := z.2.1) (c := z.2.2) (who := ((z.1 : Int) % 5)) (k := (l[z.1]'hlt % 3)) hwho hz.2.1 (by omega)) Casts.refl (by kernel_rfl) rfl rfl rfl ?_
    refine After.three ⟨rfl, rfl, rfl⟩ (fun _ => rfl) ?_
    intro _
    refine SL.val (Val.to (C := boo false) (Val.neB rfl rfl (by kernel_rfl)) (congrArg (fun b => Abs.v (Value.bool b)) (by simp))) rfl rfl ?_
    refine SL.nil (SE.seq ?_)
    refine SC.condF rfl ?_
    refine SC.skip ?_
    refine SE.inBlock ?_
    refine SE.seq ?_
    refine SC.region ?_
    first
      | refine SL.val (Val.addI rfl rfl (by simp only [InR, lo, hi]; omega)) rfl rfl ?_
      | refine SL.val (Val.addW rfl rfl) rfl rfl ?_
    refine SL.val (Val.move rfl) rfl rfl ?_
    refine SL.nil ?_
    refine SE.round (z.1 + 1, tAddM z.2.1 ((z.1 : Int) % 5) (l[z.1]'hlt % 3), tAddC z.2.1 z.2.2 ((z.1 : Int) % 5) (l[z.1]'hlt % 3)) (by first | omega | (dsimp only; omega)) (⟨by dsimp only; omega, hz.2.1.add _ _, by have := tAddM_length z.2.1 ((z.1 : Int) % 5) (l[z.1]'hlt % 3); dsimp only; omega, tAddM_keys hz.2.2.2 hwho _⟩) (by exact ⟨rfl, rfl, rfl, rfl, rfl, rfl, rfl, trivial⟩) (by repeat first|exact s0 _|exact s1 _|apply s2|apply s3)
  intro hc63
  refine SC.exit ?_
  refine SE.then_ (by intro h; cases h) ?_
  refine SE.then_ (by intro h; cases h) ?_
  refine SE.exit ?_
  refine SE.seq ?_
  refine SC.seq (SC.region ?_)
  refine SL.val (Val.move rfl) rfl rfl ?_
  refine SL.val (Val.move rfl) rfl rfl ?_
  refine SL.call (u8_least_s (t := z1.1) (bv := z1.2.1) (bn := z1.2.2) (m := z.2.1) (c := z.2.2) (at_ := at_) (by omega) hz.2.2.2) Casts.refl (by kernel_rfl) rfl rfl rfl ?_
  refine After.threeAt3 ⟨rfl, rfl, rfl⟩ (fun _ => rfl) ?_
  intro _
  refine SL.val (Val.move rfl) rfl rfl ?_
  refine SL.val (Val.extract rfl rfl) rfl rfl ?_
  refine SL.val (Val.extract rfl rfl) rfl rfl ?_
  refine SL.val (Val.assign rfl) rfl rfl ?_
  refine SL.val (Val.assign rfl) rfl rfl ?_
  refine SL.nil (SE.seq ?_)
  refine SC.seq (SC.region ?_)
  refine SL.val (Val.move rfl) rfl rfl ?_
  refine SL.val (Val.move rfl) rfl rfl ?_
  refine SL.call (p9_least_s (t := z2.1) (bv := z2.2.1) (bn := z2.2.2) (m := z.2.1) (c := z.2.2) (at_ := at_) (by omega) hz.2.2.2) Casts.refl (by kernel_rfl) rfl rfl rfl ?_
  refine After.three ⟨rfl, rfl, rfl⟩ (fun _ => rfl) ?_
  intro _
  rw [p9A_eq]
  refine SL.val (Val.move rfl) rfl rfl ?_
  refine SL.val (Val.extract rfl rfl) rfl rfl ?_
  refine SL.val (Val.extract rfl rfl) rfl rfl ?_
  refine SL.eff (Eff.alloc tabOk rfl) rfl rfl ?_
  rintro _ _ ⟨b18, rfl, rfl⟩
  refine SL.eff (Eff.store (L' := p9CO (leastO z.2.1 z.2.2 at_ (srt (z.2.1.map (·.1))))) tabOk rfl rfl rfl (by repeat first|assumption|exact Upd.here|apply Upd.there) (p9CO_len _) (Nat.le_of_ble_eq_true (by rfl)) (p9CO_ones _) (putL_whole (by exact p9CO_len _))) rfl rfl ?_
  rintro _ _ ⟨rfl, rfl⟩
  refine SL.val (Val.assign rfl) rfl rfl ?_
  refine SL.nil (SE.seq ?_)
  refine SC.seq (SC.region ?_)
  refine SL.val (Val.move rfl) rfl rfl ?_
  refine SL.val (Val.move rfl) rfl rfl ?_
  refine SL.val (Val.to (C := boo true) (Val.eqB rfl rfl (by kernel_rfl)) (congrArg (fun b => Abs.v (Value.bool b)) (by simp))) rfl rfl ?_
  refine SL.val (Val.move rfl) rfl rfl ?_
  refine SL.val (Val.move rfl) rfl rfl ?_
  refine SL.val (Val.notB rfl) rfl rfl ?_
  refine SL.val (Val.move rfl) rfl rfl ?_
  refine SL.both (t := 100) rfl ?_ ?_
  · intro hc100
    iterate 4 refine SL.skip rfl rfl ?_
    refine SL.val (Val.pickT rfl rfl) rfl rfl ?_
    refine SL.val (Val.pickT rfl rfl) rfl rfl ?_
    refine SL.val (Val.move rfl) rfl rfl ?_
    refine SL.val (Val.move rfl) rfl rfl ?_
    refine SL.call (u8_len_s (t := z1.1) (bv := z1.2.1) (bn := z1.2.2) (m := z.2.1) (c := z.2.2)) Casts.refl (by kernel_rfl) rfl rfl rfl ?_
    refine After.threeAt4 ⟨rfl, rfl, rfl⟩ (fun _ => rfl) ?_
    intro _
    refine SL.val (Val.move rfl) rfl rfl ?_
    refine SL.call (p9_len_s (t := z2.1) (bv := z2.2.1) (bn := z2.2.2) (m := z.2.1) (c := z.2.2)) Casts.refl (by kernel_rfl) rfl rfl rfl ?_
    refine After.threeAt1 ⟨rfl, rfl, rfl⟩ (fun _ => rfl) ?_
    intro _
    refine SL.val (Val.eqI rfl rfl) rfl rfl ?_
    refine SL.val (Val.pickT rfl rfl) rfl rfl ?_
    refine SL.val (Val.assign rfl) rfl rfl ?_
    refine SL.nil (SE.seq ?_)
    refine SC.ret ?_
    refine SE.fin (rs := [.tmp 4]) rfl (RV.tmp rfl RV.nil) (()) (by repeat first|exact s0 _|exact s1 _|apply s2|apply s3) (by simp [It.rids]) ?_
    first
      | rfl
      | exact congrArg (fun b => Abs.v (Value.bool b)) (decide_eq_true rfl)
  intro hc100
  have hsome : (leastO z.2.1 z.2.2 at_ (srt (z.2.1.map (·.1)))).isSome = true := by simpa using hc100
  obtain ⟨v, hv⟩ := isSome_some hsome
  rw [hv]
  refine SL.val (Val.to (C := .agg (p9C v)) (Val.loadA tabOk rfl rfl rfl (by first|(apply Or.inl;(repeat first|assumption|exact m0|apply m1);done)|(apply Or.inr;(repeat first|assumption|exact m0|apply m1);done)) List.not_mem_nil (p9CO_len _)) rfl) rfl rfl ?_
  refine SL.val (Val.move rfl) rfl rfl ?_
  refine SL.val (Val.to (C := .agg (p9C v)) (Val.buildA tabOk rfl rfl rfl rfl) rfl) rfl rfl ?_
  refine SL.val (Val.to (C := boo true) (Val.eqA (X' := [bc v, bc 9]) (Y' := [bc v, bc 9]) rfl rfl rfl rfl (by kernel_rfl) (eqp9 v v)) (congrArg (fun b => Abs.v (Value.bool b)) (decide_eq_true rfl))) rfl rfl ?_
  refine SL.val (Val.pickF rfl rfl) rfl rfl ?_
  refine SL.val (Val.pickT rfl rfl) rfl rfl ?_
  refine SL.val (Val.move rfl) rfl rfl ?_
  refine SL.val (Val.move rfl) rfl rfl ?_
  refine SL.call (u8_len_s (t := z1.1) (bv := z1.2.1) (bn := z1.2.2) (m := z.2.1) (c := z.2.2)) Casts.refl (by kernel_rfl) rfl rfl rfl ?_
  refine After.threeAt4 ⟨rfl, rfl, rfl⟩ (fun _ => rfl) ?_
  intro _
  refine SL.val (Val.move rfl) rfl rfl ?_
  refine SL.call (p9_len_s (t := z2.1) (bv := z2.2.1) (bn := z2.2.2) (m := z.2.1) (c := z.2.2)) Casts.refl (by kernel_rfl) rfl rfl rfl ?_
  refine After.threeAt1 ⟨rfl, rfl, rfl⟩ (fun _ => rfl) ?_
  intro _
  refine SL.val (Val.eqI rfl rfl) rfl rfl ?_
  refine SL.val (Val.pickT rfl rfl) rfl rfl ?_
  refine SL.val (Val.assign rfl) rfl rfl ?_
  refine SL.nil (SE.seq ?_)
  refine SC.ret ?_
  refine SE.fin (rs := [.tmp 4]) rfl (RV.tmp rfl RV.nil) (()) (by repeat first|exact s0 _|exact s1 _|apply s2|apply s3) (by simp [It.rids]) ?_
  first
    | rfl
    | exact congrArg (fun b => Abs.v (Value.bool b)) (decide_eq_true rfl)
end
end Go.Proofs.Ytonceioajbimaaa.A
/-
  From a walk that returns true and changes no old memory to the given statement, for any law without package variables.
-/
namespace Go.Proofs.Ytonceioajbimaaa
open Go.ChangeShapes Go.WideShapes Go.ChangeAt Go.RowKit

theorem law_own : ownKnob Try.prog.godebug = none := by kernel_rfl
theorem law_laidOut : laidOutB Try.prog = true := by kernel_rfl

theorem trodAll_below {H : Type} {enc : TypeId × Value → H} {W W' : World} (hb : Below W.heap.size W W') :
    ∀ (ts : List TypeId) (vs : List Value) (ds : List (DataW H)) (p : List MemPlace), (∀ t ∈ ts, Try.prog.readableRec t = true ∧ t < Try.prog.types.size) →
      DataW.TrodAll enc Try.prog W 0 (fun _ => true) true ts vs ds p → ∃ q, DataW.TrodAll enc Try.prog W' 0 (fun b => decide (b < W.heap.size)) true ts vs ds q
  | [], [], [], p, _, h => ⟨p, h⟩
  | t :: ts, v :: vs, d :: ds, p, hr, h => by
    obtain ⟨p0, q0, h0, h1, rfl⟩ := h
    obtain ⟨q, hq⟩ := trodAll_below hb ts vs ds q0 (fun t ht => hr t (List.mem_cons_of_mem _ ht)) h1
    have lt0 : ∀ x ∈ p0, x.block < W.heap.size := by obtain ⟨m, hm⟩ := h0; exact DataW.trod_lt m _ _ _ hm
    exact ⟨p0 ++ q, p0, q, Below.trod law_laidOut (hr t List.mem_cons_self).1 (hr t List.mem_cons_self).2 h0 hb lt0, hq, rfl⟩
  | [], _ :: _, _, _, _, h => h.elim
  | [], [], _ :: _, _, _, h => h.elim
  | _ :: _, [], _, _, _, h => h.elim
  | _ :: _, _ :: _, [], _, _, h => h.elim

set_option maxRecDepth 100000 in
theorem law_lift {H : Type} {enc : TypeId × Value → H} {os : Os} (started : os.Started) {f : FuncId} {fn : Func} {s : ChangeSpec}
    (noInit : Try.prog.inits.idxOf? f = none) (hfn : Try.prog.funcs[f]? = some fn) (hvars : s.vars = []) (hres : fn.resultTypes = #[4])
    (hparB : (fn.params.toList.all fun t => Try.prog.readableRec t && decide (t < Try.prog.types.size)) = true)
    (hspec : ∀ ds : List (DataW H), ds.length = fn.params.size → s.fn H (ds ++ []) = { results := [.lit (.bool true)], args := ds })
    (wit : ∃ (w : World) (tape : Tape) (i : Input), w.os = os ∧ (w.forCall tape i).Shaped Try.prog ∧ i.vars = [] ∧ Input.okWide Try.prog (w.forCall tape i) .any w.heap.size f i ∧
      s.pre6 enc Try.prog fn [] false (w.forCall tape i).memory i.args ∧ Assume.holds {} Try.prog (lone (Frame.enter Try.prog f i.args .normal) [] (w.forCall tape i)))
    (walk : ∀ (W : World) (base : Nat) (args : Array Value) (ds : List (DataW H)) (p : List MemPlace),
      (∀ (j : Nat) t v, fn.params[j]? = some t → args[j]? = some v → Value.okWide Try.prog W .any base t v) →
      DataW.TrodAll enc Try.prog W 0 (fun _ => true) true fn.params.toList args.toList ds p →
      (DataW.weightsEach Try.prog fn.params.toList ds).all (· ≤ reachBytes) = true →
      Calls Try.prog f args W fun e W' => e = .returned (.bool true) ∧ Ext [] W W') :
    ReturnsInHanded {} Try.checked os f .any (s.pre6 enc Try.prog fn [] false) (s.post enc Try.prog fn false true false false) := by
  have hpar : ∀ t ∈ fn.params.toList, Try.prog.readableRec t = true ∧ t < Try.prog.types.size := by
    simpa only [List.all_eq_true, Bool.and_eq_true, decide_eq_true_eq] using hparB
  refine returnsInHanded_of_change_sized (C := Try.checked) law_own started noInit hfn wit ?_
  intro W base args ds gs before hval0 hW hcnd hsz _
  have hval : ∀ (j : Nat) t v, fn.params[j]? = some t → args[j]? = some v → Value.okWide Try.prog W .any base t v := hval0
  have hW' := hW
  obtain ⟨p, q, hA0, hV, rfl, hfz, hnd⟩ := hW
  have hA : DataW.TrodAll enc Try.prog W 0 (fun _ => true) true fn.params.toList args.toList ds p := hA0
  rw [hvars] at hV
  obtain ⟨rfl, rfl⟩ := trodVars_none hV
  have hsz' : (DataW.weightsEach Try.prog fn.params.toList ds).all (· ≤ reachBytes) = true := by
    have h2 := hsz
    simp only [ChangeSpec.plain, DataSpec.varTypes, hvars, List.filterMap_nil, List.append_nil] at h2
    exact h2
  refine (walk W base args ds p hval hA hsz').mono fun e W' ⟨he, bel⟩ => ?_
  subst he
  have hlen : ds.length = fn.params.size := by
    have : ∀ (ts : List TypeId) (vs : List Value) (ds : List (DataW H)) (p : List MemPlace), DataW.TrodAll enc Try.prog W 0 (fun _ => true) true ts vs ds p → ds.length = ts.length := by
      intro ts
      induction ts with
      | nil => intro vs ds p h; cases vs <;> cases ds <;> first | rfl | exact h.elim
      | cons t ts ih =>
        intro vs ds p h
        cases vs with
        | nil => exact h.elim
        | cons v vs =>
          cases ds with
          | nil => exact h.elim
          | cons d ds => obtain ⟨p0, q0, _, h1, _⟩ := h; simp [ih vs ds q0 h1]
    simpa using this _ _ _ _ hA
  obtain ⟨pa, hpa⟩ := trodAll_below (enc := enc) bel.below fn.params.toList args.toList ds p hpar hA
  refine ⟨_, rfl, ds, [], p ++ [], [], pa, [], hW', ?_, ?_, ?_, bel.below.frame _, fun h => by cases h⟩
  · rw [hspec ds hlen, hres]
    exact trodAll_mk1 (shut_bool Try.underlying4 _)
  · rw [hspec ds hlen]; exact hpa
  · rw [hspec ds hlen, hvars]; rfl

theorem spot_none {w : World} {b o : Nat} {s : Option Nat} {v : Value} (h : w.cell? ⟨b, o, s⟩ = some v) : s = none := by
  have := World.cell?_spot h
  simpa using this

set_option maxRecDepth 100000 in
/-- A slice of integers that came in. -/
theorem open_row_ints {H : Type} {enc : TypeId × Value → H} {W : World} {base : Nat} {t e : TypeId} {k : IntKind} {v : Value} {d : DataW H} {p : List MemPlace}
    (ht : Try.prog.underlying t = some (.slice e)) (he : Try.prog.underlying e = some (.int k)) (hE : Try.prog.cellsOf e = 1)
    (hv : Value.okWide Try.prog W .any base t v) (h : DataW.Trod enc Try.prog W 0 (fun _ => true) true t v d p) :
    ∃ (A : Option Addr) (n c : Nat) (zs : List Int), v = .slice A n c ∧ zs.length = n ∧ n ≤ c ∧ c ≤ maxLen ∧ Row W A (zs.map (Value.int k)) ∧ ∀ z ∈ zs, (Lit.int k z).wf = true := by
  obtain ⟨A, n, c, rfl⟩ := okWide_slice ht hv
  obtain ⟨fuel, hf⟩ := h
  rcases open_ints ht he hE hf with ⟨hcs, _⟩ | ⟨x, l, c', zs, hcs, _, hl, hm, hz, _, hcell, hwz⟩
  · simp [Value.cells] at hcs
    obtain ⟨rfl, rfl, rfl⟩ := hcs
    exact ⟨none, 0, 0, [], rfl, rfl, Nat.le_refl _, Nat.zero_le _, Row.nil_ _ _, by simp⟩
  · simp [Value.cells] at hcs
    obtain ⟨rfl, rfl, rfl⟩ := hcs
    have hz' : zs.length = c := by simpa using hz
    refine ⟨some x, n, c, zs.take n, rfl, by simp; omega, hl, hm, ?_, fun z hz0 => hwz z (List.mem_of_mem_take hz0)⟩
    intro hn
    have hn0 : 0 < zs.length := by
      rcases zs with _ | ⟨z, zs⟩
      · simp at hn
      · simp
    obtain ⟨b, off, spot⟩ := x
    have h0 := hcell 0 hn0
    have hs : spot = none := by
      have : (⟨b, off, spot⟩ : Addr).add 0 = ⟨b, off, spot⟩ := by simp [Addr.add]
      rw [this] at h0
      exact spot_none h0
    subst hs
    refine ⟨b, off, rfl, fun j u hu => ?_⟩
    rw [List.getElem?_map, List.getElem?_take] at hu
    split at hu
    · rename_i hj
      have hjl : j < zs.length := by
        rcases Nat.lt_or_ge j zs.length with h1 | h1
        · exact h1
        · rw [List.getElem?_eq_none h1] at hu; simp at hu
      have hcj := hcell j hjl
      have e1 : (⟨b, off, none⟩ : Addr).add j = ⟨b, off + j, none⟩ := by
        unfold Addr.add
        split
        · rename_i h0; subst h0; rfl
        · rfl
      rw [e1] at hcj
      rw [hcj, ← hu]
      simp [hjl]
    · simp at hu
end Go.Proofs.Ytonceioajbimaaa
