/-
  Packed out of the texts: A12, A13, Book, BookDo, BookSee, Arr32, BookCheck, BookLaw, BookInv, StrK, Law, Open, OpenBytes, AOpen, AFace, ABook, ABk2, A18, Sum, Doc, A14, A16, A19, Id.
-/
import Derived.Test.YtggajaigfkekhaaGreatP04
import Derived.DeepKeys4
import Derived.Laws.BytesArg
import Derived.Laws.CopyOwn
import Derived.DataShut
import Derived.Lib.SlBytesConst
import Derived.Test.YtggajaigfkekhaaGreatRows
import Derived.OpenShut
import Derived.SizedLaws
import Derived.Deep.Slices
set_option maxRecDepth 100000
set_option linter.unusedSimpArgs false
set_option linter.unusedVariables false
namespace Go.Proofs.YtggajaigfkekhaaGreat
open Go.RowKit
/-! ### Regions that draw, whose last operation comes behind all others -/
section
variable {P : Program} {ops : Array Oper}
def anyZ (P : Program) (ops : Array Oper) (D : World → Prop) (z : Nat) (Q : Act → World → Prop) : Nat → Array Bool → Act → World → Prop
  | 0, listed, a, w => Region.ready .any ops listed = [] ∧ Q a w
  | fuel + 1, listed, a, w => (Region.ready .any ops listed = [] → Q a w) ∧
      ∀ i ∈ Region.ready .any ops listed, wpOp P ops NoExit i (fun a' w' => (i = z ∨ D w') ∧ anyZ P ops D z Q fuel (listed.setIfInBounds i true) a' w') a w
theorem anyZ.wpAny {D : World → Prop} {z : Nat} {Q : Exit → Act → World → Prop} : ∀ (fuel : Nat) (listed : Array Bool) (a : Act) (w : World),
    anyZ P ops D z (Q .normal) fuel listed a w → wpAny P .any ops Q fuel listed a w
  | 0, _, _, _, h => h
  | fuel + 1, _, _, _, h => ⟨h.1, fun i hi => cM_ (wpOp_mono (fun a' w' h3 => anyZ.wpAny fuel _ a' w' h3.2) (h.2 i hi))⟩
theorem anyZ.mono {D D' : World → Prop} {z : Nat} {Q : Act → World → Prop} (hD : ∀ w, D' w → D w) : ∀ (fuel : Nat) (listed : Array Bool) (a : Act) (w : World),
    anyZ P ops D' z Q fuel listed a w → anyZ P ops D z Q fuel listed a w
  | 0, _, _, _, h => h
  | fuel + 1, _, _, _, h => ⟨h.1, fun i hi => wpOp_mono (fun a' w' h3 => ⟨h3.1.imp_right (hD _), anyZ.mono hD fuel _ a' w' h3.2⟩) (h.2 i hi)⟩
def Down (ops : Array Oper) (L : Array Bool) : Prop := ∀ (k : Nat) (o : Oper), ops[k]? = some o → L.getD k false = true → ∀ e ∈ o.after, Region.binds .any e = true → L.getD e.on false = true
theorem Down.set {L : Array Bool} (h : Down ops L) {j : Nat} (hj : j ∈ Region.ready .any ops L) : Down ops (L.setIfInBounds j true) := by
  intro k o hk hl e he hb
  refine getD_set_true ?_
  by_cases hkj : k = j
  · subst hkj
    obtain ⟨_, o', ho', hall⟩ := mem_ready.1 hj
    rw [ho'] at hk
    cases hk
    exact hall e he hb
  · have : (L.setIfInBounds j true).getD k false = L.getD k false := getD_set_ne false (Ne.symm hkj)
    exact h k o hk (this ▸ hl) e he hb
def domOk (ops : Array Oper) : Bool := (List.range (ops.size - 1)).all fun i => (List.range ops.size).any fun j => Nat.blt i j && ((ops[j]?).map fun o => o.after.any fun e => Region.binds .any e && e.on == i).getD false
theorem dom_next (hd : domOk ops = true) {i : Nat} (hi : i + 1 < ops.size) : ∃ j o, i < j ∧ j < ops.size ∧ ops[j]? = some o ∧ ∃ e ∈ o.after, Region.binds .any e = true ∧ e.on = i := by
  unfold domOk at hd
  rw [List.all_eq_true] at hd
  have h1 := hd i (by rw [List.mem_range]; omega)
  rw [List.any_eq_true] at h1
  obtain ⟨j, hj, h2⟩ := h1
  rw [List.mem_range] at hj
  simp only [Bool.and_eq_true, Nat.blt_eq] at h2
  obtain ⟨h2, h3⟩ := h2
  cases ho : ops[j]? with
  | none => rw [ho] at h3; cases h3
  | some o =>
    rw [ho] at h3
    simp only [Option.map_some, Option.getD_some, Array.any_eq_true, Bool.and_eq_true, beq_iff_eq] at h3
    obtain ⟨m, hm, hb, hon⟩ := h3
    exact ⟨j, o, h2, hj, ho, _, Array.getElem_mem hm, hb, hon⟩
theorem dom_all (hd : domOk ops = true) {L : Array Bool} (hL : Down ops L) (hz : ops.size - 1 ∈ Region.ready .any ops L) : ∀ m i, ops.size - 1 - i = m → i + 1 < ops.size → L.getD i false = true := by
  intro m
  induction m using Nat.strongRecOn with
  | _ m ih =>
    intro i hm hi
    obtain ⟨j, o, hij, hj, ho, e, he, hb, hon⟩ := dom_next hd hi
    subst hon
    by_cases hjz : j = ops.size - 1
    · subst hjz
      obtain ⟨_, o', ho', hall⟩ := mem_ready.1 hz
      rw [ho'] at ho
      cases ho
      exact hall e he hb
    · exact hL j o ho (ih _ (by omega) j rfl (by omega)) e he hb
theorem eq_ {L : Array Bool} {i : Nat} (h : L.getD i true = false) : L.getD i false = false := by
  rw [Array.getD_eq_getD_getElem?] at h ⊢
  cases hq : L[i]? with
  | none => rfl
  | some b => rw [hq] at h; exact h
theorem h5_ {D : World → Prop} {Q : Act → World → Prop} {i : Nat} {oi : Oper} {v : Value} (hd : domOk ops = true) (hiz : i + 1 < ops.size) (hi : ops[i]? = some oi) (hsel : ∀ (j : Nat) (o : Oper) cs b, ops[j]? = some o → o.op ≠ .select cs b) :
    ∀ (fuel : Nat) (listed : Array Bool) (a : Act) (w : World), D w → Down ops listed →
      (∀ j oj, ops[j]? = some oj → j ≠ i → listed.getD j true = false → (∀ e ∈ oj.after, Region.binds .any e = true → e.on ≠ i) → oi.apart ops oj = true) →
      i ∈ Region.ready .any ops listed → YieldsD P ops D oi v a →
      anyZ P ops D (ops.size - 1) Q fuel (listed.setIfInBounds i true) (a.put oi.dst v) w → anyZ P ops D (ops.size - 1) Q (fuel + 1) listed a w := by
  intro fuel
  induction fuel with
  | zero =>
    intro listed a w hDw _ _ hr hy H
    refine ⟨fun h => (by rw [h] at hr; cases hr), fun j hj => ?_⟩
    by_cases hji : j = i
    · subst hji; exact hy.wpOp hi hDw ⟨.inr hDw, H⟩
    · have := ready_mono hj hji
      rw [H.1] at this
      cases this
  | succ fuel ih =>
    intro listed a w hDw hdn hfree hr hy H
    refine ⟨fun h => (by rw [h] at hr; cases hr), fun j hj => ?_⟩
    by_cases hji : j = i
    · subst hji; exact hy.wpOp hi hDw ⟨.inr hDw, H⟩
    · have hjz : j ≠ ops.size - 1 := fun h => by
        subst h
        have h1 := dom_all hd hdn hj _ i rfl hiz
        have h0 := eq_ (mem_ready.1 hr).1
        rw [h1] at h0
        cases h0
      have h1 := H.2 j (ready_mono hj hji)
      obtain ⟨hjun, oj, hoj, hall⟩ := mem_ready.1 hj
      have hnot : ∀ e ∈ oj.after, Region.binds .any e = true → e.on ≠ i := fun e he hb heq => by
        have h1 := hall e he hb
        have h0 := (mem_ready.1 hr).1
        rw [heq] at h1
        rw [eq_ h0] at h1
        cases h1
      have h2 := d4_ hoj (hfree j oj hoj hji hjun hnot) (fun cs b => hsel i oi cs b hi) (fun cs b => hsel j oj cs b hoj) hy h1
      have hfree' : ∀ k ok, ops[k]? = some ok → k ≠ i → (listed.setIfInBounds j true).getD k true = false →
          (∀ e ∈ ok.after, Region.binds .any e = true → e.on ≠ i) → oi.apart ops ok = true := fun k ok hk hki hun hno => by
        refine hfree k ok hk hki ?_ hno
        by_cases hjk : j = k
        · subst hjk; exact hjun
        · rw [getD_set_ne true hjk] at hun; exact hun
      refine wpOp_mono (fun a' w' h3 => ?_) h2
      have hDw' : D w' := h3.2.1.resolve_left hjz
      refine ⟨.inr hDw', ih (listed.setIfInBounds j true) a' w' hDw' (hdn.set hj) hfree' (ready_mono hr (Ne.symm hji)) h3.1 ?_⟩
      rw [Array.setIfInBounds_comm _ _ hji]
      exact h3.2.2
def planOkZ (ops : Array Oper) : Nat → Array Bool → Plan → Bool
  | _ + 1, listed, .nil => (Region.ready .any ops listed == [ops.size - 1]) && (Region.ready .any ops (listed.setIfInBounds (ops.size - 1) true)).isEmpty
  | n + 1, listed, .q i k => Nat.blt (i + 1) ops.size && Region.free .any ops listed i && (Region.ready .any ops listed).contains i && planOkZ ops n (listed.setIfInBounds i true) k
  | n + 1, listed, .e i k => (Region.ready .any ops listed == [i]) && planOkZ ops n (listed.setIfInBounds i true) k
  | n + 1, listed, .two i j k h => (Region.ready .any ops listed == [i, j]) && planOkZ ops n (listed.setIfInBounds i true) k && planOkZ ops n (listed.setIfInBounds j true) h
  | 0, _, _ => false
theorem planW.anyZ {Q : Act → World → Prop} (hs : Region.noSelect ops = true) (hd : domOk ops = true) : ∀ (n : Nat) (ix : Plan) (D : World → Prop) (listed : Array Bool) (a : Act) (w : World), planOkZ ops n listed ix = true → D w → Down ops listed →
    planW P ops (fun a w => wpOp P ops NoExit (ops.size - 1) Q a w) ix D a w → Proofs.YtggajaigfkekhaaGreat.anyZ P ops D (ops.size - 1) Q n listed a w
  | 0, .nil, _, _, _, _, hok, _, _, _ => by cases hok
  | n + 1, .nil, D, listed, a, w, hok, hD, hdn, h => by
    simp only [planOkZ, Bool.and_eq_true, beq_iff_eq, List.isEmpty_iff] at hok
    refine ⟨fun h0 => (by rw [hok.1] at h0; cases h0), fun j hj => ?_⟩
    rw [hok.1] at hj
    simp only [List.mem_singleton] at hj
    subst hj
    refine wpOp_mono (fun a' w' hq => ⟨.inl rfl, ?_⟩) h
    cases n with
    | zero => exact ⟨hok.2, hq⟩
    | succ n => exact ⟨fun _ => hq, fun i hi => by rw [hok.2] at hi; cases hi⟩
  | n + 1, .q i ix, D, listed, a, w, hok, hD, hdn, ⟨o, v, hi, hy, h⟩ => by
    simp only [planOkZ, Bool.and_eq_true, Nat.blt_eq] at hok
    have hrd : i ∈ Region.ready .any ops listed := by simpa using hok.1.2
    exact h5_ hd hok.1.1.1 hi (Region.noSelect_spec hs) n listed a w hD hdn (Region.free_spec hi hok.1.1.2) hrd hy (planW.anyZ hs hd n ix D _ _ _ hok.2 hD (hdn.set hrd) h)
  | n + 1, .e i ix, D, listed, a, w, hok, hD, hdn, h => by
    simp only [planOkZ, Bool.and_eq_true, beq_iff_eq] at hok
    refine ⟨fun h0 => (by rw [hok.1] at h0; cases h0), fun j hj => ?_⟩
    have hj0 := hj
    rw [hok.1] at hj
    simp only [List.mem_singleton] at hj
    subst hj
    exact wpOp_mono (fun a' w' ⟨D', hD', hw', h'⟩ => ⟨.inr (hD' _ hw'), anyZ.mono hD' _ _ _ _ (planW.anyZ hs hd n ix D' _ a' w' hok.2 hw' (hdn.set hj0) h')⟩) h
  | n + 1, .two i j k m, D, listed, a, w, hok, hD, hdn, h => by
    simp only [planOkZ, Bool.and_eq_true, beq_iff_eq] at hok
    refine ⟨fun h0 => (by rw [hok.1.1] at h0; cases h0), fun r hr => ?_⟩
    have hr0 := hr
    rw [hok.1.1] at hr
    simp only [List.mem_cons, List.not_mem_nil, or_false] at hr
    rcases hr with rfl | rfl
    · exact wpOp_mono (fun a' w' ⟨D', hD', hw', h'⟩ => ⟨.inr (hD' _ hw'), anyZ.mono hD' _ _ _ _ (planW.anyZ hs hd n k D' _ a' w' hok.1.2 hw' (hdn.set hr0) h')⟩) h.1
    · exact wpOp_mono (fun a' w' ⟨D', hD', hw', h'⟩ => ⟨.inr (hD' _ hw'), anyZ.mono hD' _ _ _ _ (planW.anyZ hs hd n m D' _ a' w' hok.2 hw' (hdn.set hr0) h')⟩) h.2
theorem gc_ (n : Nat) : Down ops (Array.replicate n false) := by
  intro k o _ h
  rw [Array.getD_eq_getD_getElem?, Array.getElem?_replicate] at h
  split at h <;> cases h
theorem d3_ {id : Nat} {a : Act} {w : World} {Q : Exit → Act → World → Prop} (D : World → Prop) (ix : Plan) (hm : P.follows .mixedOrders = true)
    (hok : (Region.noSelect ops && domOk ops && planOkZ ops ops.size (Array.replicate ops.size false) ix) = true) (hD : D w.drew)
    (h : planW P ops (fun a w => wpOp P ops NoExit (ops.size - 1) (Q .normal) a w) ix D a w.drew) : (Code.region id ops true).wp P Q a w := by
  simp only [Bool.and_eq_true] at hok
  refine wp_region_any hm ?_
  exact anyZ.wpAny _ _ _ _ (planW.anyZ hok.1.1 hok.1.2 _ ix D _ a _ hok.2 hD (gc_ _) h)
end
end Go.Proofs.YtggajaigfkekhaaGreat
namespace Go.Proofs.YtggajaigfkekhaaGreat.A
open Go.RowKit
section
variable {P : Program} {n : Nat} {W : Wd} {σ : Blks} {l : Slots} {o : Oper} {ops : Array Oper} {Q : Exit → Act → World → Prop}
def LastOp (P : Program) (ops : Array Oper) (Q : Exit → Act → World → Prop) : Exit → Act → World → Prop := fun _ a w => wpOp P ops NoExit (ops.size - 1) (Q .normal) a w
theorem aZ_ {id : Nat} (X : List Nat) (ix : Plan) (hm : P.follows .mixedOrders = true)
    (hok : (Region.noSelect ops && domOk ops && planOkZ ops ops.size (Array.replicate ops.size false) ix) = true) (h : SX P ops ix X (St n W σ l) (LastOp P ops Q)) : SC P (.region id ops true) (St n W σ l) Q := fun a w hs =>
  d3_ (fun w' => Ext X w.drew w') ix hm hok (Ext.refl _) (h a _ hs.drew)
theorem bg_ {Y : List Nat} {R : Abs → Blks → Prop} (hi : ops[ops.size - 1]? = some o) (hv : Eff P n W σ l Y o R) (hg : gd ops l o = some true) (hd : lt? o.dst n = true)
    (k : ∀ y τ, R y τ → SE .normal (St n W τ (put? l o.dst y)) Q) : SE .normal (St n W σ l) (LastOp P ops Q) := fun a w hs => by
  unfold LastOp wpOp
  simp only [hi, hs.wanted hg, if_true]
  refine .inl ?_
  unfold Oper.wp
  obtain ⟨v, w', y, τ, hR, hx, hr, hm, hc, hrun | ⟨rfl, hrun⟩⟩ := hv a w hs
  · rw [hrun]; exact k _ _ hR _ _ ((hs.to hm hc).put hd hr)
  · rw [hrun]; exact k _ _ hR _ _ ((hs.to hm hc).put hd hr)
end
abbrev Wo := BitVec 32
def u32 (p : Wo) : Abs := .v (.int .u32 (p.toNat : Nat))
theorem N_ {L ys : List Abs} (h : ys.length = L.length) : putL L 0 ys = ys := by
  rw [cq_ _ _ _ (Nat.zero_le _), Nat.zero_add, h]
  simp
section
variable {P : Program} {n : Nat} {W : Wd} {σ τ : Blks} {l : Slots} {X : List Nat} {x y z : Operand} {d : Option Nat} {ty t t' e : TypeId} {pos : String} {aft : Array Edge} {g : Option (Nat × Bool)} {k k' : IntKind} {b : Nat} {A B : Abs} {tab : List (Nat × TI)} {ops : Array Oper} {rest : List Oper} {Q : Exit → Act → World → Prop} {p q : Wo}
theorem b1_ {ix : Plan} (hT : TabOk P tab) {i : TI} {j : Nat} (ht : ti tab t = some i) (hi : ops[j]? = some ⟨d, .alloc t, ty, pos, aft, g⟩) (hg : gd ops l ⟨d, .alloc t, ty, pos, aft, g⟩ = some true) (hd : lt? d n = true)
    (k : ∀ b, SX P ops ix (b :: X) (St n W (.blk b t (zabs i.zero) :: σ) (put? l d (.v (.pointer (some ⟨b, 0, none⟩))))) Q) : SX P ops (.e j ix) X (St n W σ l) Q := fun a w hs => by
  unfold planW wpOp
  simp only [hi, hs.wanted hg, if_true]
  refine .inl ?_
  unfold Oper.wp
  obtain ⟨zv, hz, hc⟩ := (hT t _ ht).zeroValue (w := w)
  obtain ⟨h1, h2⟩ := hs.mem.alloc t (b6_ i.zero)
  have hrun : (execOp a.eval ⟨d, .alloc t, ty, pos, aft, g⟩).run P w = .ok (.value (.pointer (some ⟨w.heap.size, 0, none⟩))) (w.alloc (row t i.zero)) := by
    simp [execOp, Instr.alloc, Sem.run_bind, hz, Result.andThen, newVar, newRow, newObj, Sem.run, hc, row]
  rw [hrun]
  refine ⟨fun w2 => Ext (w.heap.size :: X) (w.alloc (row t i.zero)) w2, fun w2 h3 => ((Ext.refl w).alloc _).trans (h3 : Ext (w.heap.size :: X) _ w2) fun x hx => ?_, Ext.refl _, k _ _ _ ((hs.to h1 h2).put hd (show rep _ _ (.v (.pointer (some ⟨w.heap.size, 0, none⟩))) _ from rfl))⟩
  rcases List.mem_cons.1 hx with rfl | hx
  · exact .inr (Nat.le_refl _)
  · exact .inl hx
theorem After.two {ι : Type} {x1 x2 : It} {β : Blks} {τ' : ι → Blks} {y1 y2 : ι → It} {K : Blks → ι → Prop} (hr : x1.rids = [] ∧ x2.rids = []) (hτ : ∀ z, τ' z = [y1 z, y2 z]) (k : ∀ z, K (y1 z :: y2 z :: β) z) : After (x1 :: x2 :: β) [x1, x2] τ' K :=
  bc_ [] (β := β) rfl (by intro x hx; simp only [List.mem_cons, List.not_mem_nil, or_false] at hx; rcases hx with rfl | rfl; exact hr.1; exact hr.2) fun z => by rw [hτ z]; exact k z
theorem g7_ {ex : Exit} (h : τ.Perm σ) (k : SE ex (St n W τ l) Q) : SE ex (St n W σ l) Q := fun a w hs => k a w (hs.perm h)
end
section
variable {P : Program} {n : Nat} {W : Wd} {σ : Blks} {l : Slots} {X : List Nat} {x : Operand} {d : Option Nat} {ty t t' e tp : TypeId} {pos : String} {aft : Array Edge} {gq : Option (Nat × Bool)} {A : Abs} {ms : Array (String × TypeId)} {ops : Array Oper} {rest : List Oper} {Q : Exit → Act → World → Prop} {s : Nat} {xs : List (List Abs)}
theorem gn_ (hi : P.underlying t = some (.interface ms)) (hx : look l x = some (.ifc tp A)) : Val P n W σ l X ⟨d, .binOp .eql t x (.const .nilIface) t', ty, pos, aft, gq⟩ (.v (.bool false)) := fun a w hs _ => by
  obtain ⟨u, h1, h2⟩ := hs.eval hx
  refine ⟨_, rfl, fun w' _ => ?_⟩
  have h : ∀ d : Nat, (Op.equalIn (d + 1) t (.iface tp u) .nilIface).run P w' = .ok false w' := fun d => by simp [Op.equalIn, run_underlying hi]
  have h3 : (binOp .eql t (.iface tp u) .nilIface).run P w' = .ok (.bool false) w' := by
    simp only [binOp]
    simp [Op.equal, Op.maxDepth, h 9999]
  have e : a.eval (.const .nilIface) = .nilIface := rfl
  simp [execOp, h1, e, eqGuard, h3]
end
end Go.Proofs.YtggajaigfkekhaaGreat.A
namespace Go.Proofs.YtggajaigfkekhaaGreat
open Go.RowKit
section
variable {P : Program} {ops : Array Oper}
def anyS (P : Program) (ops : Array Oper) (D : World → Prop) (m : Nat) (Q : Act → World → Prop) : Nat → Array Bool → Act → World → Prop
  | 0, listed, a, w => Region.ready .any ops listed = [] ∧ Q a w
  | fuel + 1, listed, a, w => (Region.ready .any ops listed = [] → Q a w) ∧
      ∀ i ∈ Region.ready .any ops listed, wpOp P ops NoExit i (fun a' w' => (m ≤ i ∨ D w') ∧ anyS P ops D m Q fuel (listed.setIfInBounds i true) a' w') a w
theorem anyS.mono {D D' : World → Prop} {m : Nat} {Q : Act → World → Prop} (hD : ∀ w, D' w → D w) : ∀ (fuel : Nat) (listed : Array Bool) (a : Act) (w : World),
    anyS P ops D' m Q fuel listed a w → anyS P ops D m Q fuel listed a w
  | 0, _, _, _, h => h
  | fuel + 1, _, _, _, h => ⟨h.1, fun i hi => wpOp_mono (fun a' w' h3 => ⟨h3.1.imp_right (hD _), anyS.mono hD fuel _ a' w' h3.2⟩) (h.2 i hi)⟩
def headIn (m : Nat) (L : Array Bool) : Bool := (List.range m).all fun i => L.getD i false
theorem hZ_ {m : Nat} {L : Array Bool} (h : headIn m L = true) (j : Nat) : headIn m (L.setIfInBounds j true) = true := by
  unfold headIn at *
  rw [List.all_eq_true] at *
  exact fun i hi => getD_set_true (h i hi)
theorem h0_ {m : Nat} {L : Array Bool} (h : headIn m L = true) {i : Nat} (hi : i < m) : L.getD i false = true := by
  unfold headIn at h
  rw [List.all_eq_true] at h
  exact h i (List.mem_range.2 hi)
theorem anyD.toS {D D2 : World → Prop} {m : Nat} {Q : Act → World → Prop} : ∀ (fuel : Nat) (listed : Array Bool) (a : Act) (w : World), headIn m listed = true →
    anyD P ops D2 Q fuel listed a w → anyS P ops D m Q fuel listed a w
  | 0, _, _, _, _, h => h
  | fuel + 1, L, _, _, hL, h => ⟨h.1, fun i hi => wpOp_mono (fun a' w' h3 => ⟨.inl (by
      rcases Nat.lt_or_ge i m with h1 | h1
      · have h2 := h0_ hL h1
        rw [eq_ (mem_ready.1 hi).1] at h2
        cases h2
      · exact h1), anyD.toS fuel _ a' w' (hZ_ hL i) h3.2⟩) (h.2 i hi)⟩
def domOkS (ops : Array Oper) (m : Nat) : Bool :=
  ((List.range m).all fun i => (List.range (m + 1)).any fun j => Nat.blt i j && ((ops[j]?).map fun o => o.after.any fun e => Region.binds .any e && e.on == i).getD false) &&
  ((List.range ops.size).all fun j => Nat.ble j m || ((ops[j]?).map fun o => o.after.any fun e => Region.binds .any e && Nat.ble m e.on && Nat.blt e.on j).getD false)
theorem i5_ {m : Nat} (hd : domOkS ops m = true) {i : Nat} (hi : i < m) : ∃ j o, i < j ∧ j ≤ m ∧ ops[j]? = some o ∧ ∃ e ∈ o.after, Region.binds .any e = true ∧ e.on = i := by
  unfold domOkS at hd
  rw [Bool.and_eq_true, List.all_eq_true] at hd
  have h1 := hd.1 i (by rw [List.mem_range]; omega)
  rw [List.any_eq_true] at h1
  obtain ⟨j, hj, h2⟩ := h1
  rw [List.mem_range] at hj
  simp only [Bool.and_eq_true, Nat.blt_eq] at h2
  obtain ⟨h2, h3⟩ := h2
  cases ho : ops[j]? with
  | none => rw [ho] at h3; cases h3
  | some o =>
    rw [ho] at h3
    simp only [Option.map_some, Option.getD_some, Array.any_eq_true, Bool.and_eq_true, beq_iff_eq] at h3
    obtain ⟨x, hx, hb, hon⟩ := h3
    exact ⟨j, o, h2, by omega, ho, _, Array.getElem_mem hx, hb, hon⟩
theorem i6_ {m : Nat} (hd : domOkS ops m = true) {j : Nat} {o : Oper} (ho : ops[j]? = some o) (hj : m < j) : ∃ e ∈ o.after, Region.binds .any e = true ∧ m ≤ e.on ∧ e.on < j := by
  unfold domOkS at hd
  rw [Bool.and_eq_true, List.all_eq_true, List.all_eq_true] at hd
  have h1 := hd.2 j (by rw [List.mem_range]; exact (Array.getElem?_eq_some_iff.1 ho).1)
  rw [ho] at h1
  simp only [Option.map_some, Option.getD_some, Bool.or_eq_true, Nat.ble_eq, Array.any_eq_true, Bool.and_eq_true, Nat.blt_eq] at h1
  rcases h1 with h1 | ⟨x, hx, ⟨hb, h2⟩, h3⟩
  · omega
  · exact ⟨_, Array.getElem_mem hx, hb, h2, h3⟩
def Due (ops : Array Oper) (L : Array Bool) (j : Nat) : Prop := ∃ o, ops[j]? = some o ∧ ∀ e ∈ o.after, Region.binds .any e = true → L.getD e.on false = true
theorem Due.down {m : Nat} (hd : domOkS ops m = true) {L : Array Bool} (hL : Down ops L) (hin : ∀ k, L.getD k false = true → ∃ o, ops[k]? = some o) : ∀ j, m ≤ j → Due ops L j → Due ops L m := by
  intro j
  induction j using Nat.strongRecOn with
  | _ j ih =>
    intro hj h
    by_cases hjm : j = m
    · subst hjm; exact h
    · obtain ⟨o, ho, hall⟩ := h
      obtain ⟨e, he, hb, h1, h2⟩ := i6_ hd ho (by omega)
      have h3 := hall e he hb
      obtain ⟨o2, ho2⟩ := hin _ h3
      exact ih e.on h2 h1 ⟨o2, ho2, hL _ _ ho2 h3⟩
theorem domS_all {m : Nat} (hd : domOkS ops m = true) {L : Array Bool} (hL : Down ops L) (hz : Due ops L m) : ∀ k i, m - i = k → i < m → L.getD i false = true := by
  intro k
  induction k using Nat.strongRecOn with
  | _ k ih =>
    intro i hk hi
    obtain ⟨j, o, hij, hj, ho, e, he, hb, hon⟩ := i5_ hd hi
    subst hon
    by_cases hjz : j = m
    · subst hjz
      obtain ⟨o', ho', hall⟩ := hz
      rw [ho'] at ho
      cases ho
      exact hall e he hb
    · exact hL j o ho (ih _ (by omega) j rfl (by omega)) e he hb
structure Listed (ops : Array Oper) (L : Array Bool) : Prop where
  down : Down ops L
  there : ∀ k, L.getD k false = true → ∃ o, ops[k]? = some o
theorem Listed.set {L : Array Bool} (h : Listed ops L) {j : Nat} (hj : j ∈ Region.ready .any ops L) : Listed ops (L.setIfInBounds j true) := by
  refine ⟨h.down.set hj, fun k hk => ?_⟩
  by_cases hkj : k = j
  · subst hkj
    obtain ⟨_, o, ho, _⟩ := mem_ready.1 hj
    exact ⟨o, ho⟩
  · have : (L.setIfInBounds j true).getD k false = L.getD k false := getD_set_ne false (Ne.symm hkj)
    exact h.there k (this ▸ hk)
theorem Listed.none (n : Nat) : Listed ops (Array.replicate n false) := by
  refine ⟨gc_ n, fun k h => ?_⟩
  rw [Array.getD_eq_getD_getElem?, Array.getElem?_replicate] at h
  split at h <;> cases h
theorem h6_ {D : World → Prop} {m : Nat} {Q : Act → World → Prop} {i : Nat} {oi : Oper} {v : Value} (hd : domOkS ops m = true) (hiz : i < m) (hi : ops[i]? = some oi) (hsel : ∀ (j : Nat) (o : Oper) cs b, ops[j]? = some o → o.op ≠ .select cs b) :
    ∀ (fuel : Nat) (listed : Array Bool) (a : Act) (w : World), D w → Listed ops listed →
      (∀ j oj, ops[j]? = some oj → j ≠ i → listed.getD j true = false → (∀ e ∈ oj.after, Region.binds .any e = true → e.on ≠ i) → oi.apart ops oj = true) →
      i ∈ Region.ready .any ops listed → YieldsD P ops D oi v a →
      anyS P ops D m Q fuel (listed.setIfInBounds i true) (a.put oi.dst v) w → anyS P ops D m Q (fuel + 1) listed a w := by
  intro fuel
  induction fuel with
  | zero =>
    intro listed a w hDw _ _ hr hy H
    refine ⟨fun h => (by rw [h] at hr; cases hr), fun j hj => ?_⟩
    by_cases hji : j = i
    · subst hji; exact hy.wpOp hi hDw ⟨.inr hDw, H⟩
    · have := ready_mono hj hji
      rw [H.1] at this
      cases this
  | succ fuel ih =>
    intro listed a w hDw hdn hfree hr hy H
    refine ⟨fun h => (by rw [h] at hr; cases hr), fun j hj => ?_⟩
    by_cases hji : j = i
    · subst hji; exact hy.wpOp hi hDw ⟨.inr hDw, H⟩
    · have hjz : ¬ m ≤ j := fun h => by
        have h2 : Due ops listed j := (mem_ready.1 hj).2
        have h1 := domS_all hd hdn.down (h2.down hd hdn.down hdn.there j h) _ i rfl hiz
        have h0 := eq_ (mem_ready.1 hr).1
        rw [h1] at h0
        cases h0
      have h1 := H.2 j (ready_mono hj hji)
      obtain ⟨hjun, oj, hoj, hall⟩ := mem_ready.1 hj
      have hnot : ∀ e ∈ oj.after, Region.binds .any e = true → e.on ≠ i := fun e he hb heq => by
        have h1 := hall e he hb
        have h0 := (mem_ready.1 hr).1
        rw [heq] at h1
        rw [eq_ h0] at h1
        cases h1
      have h2 := d4_ hoj (hfree j oj hoj hji hjun hnot) (fun cs b => hsel i oi cs b hi) (fun cs b => hsel j oj cs b hoj) hy h1
      have hfree' : ∀ k ok, ops[k]? = some ok → k ≠ i → (listed.setIfInBounds j true).getD k true = false →
          (∀ e ∈ ok.after, Region.binds .any e = true → e.on ≠ i) → oi.apart ops ok = true := fun k ok hk hki hun hno => by
        refine hfree k ok hk hki ?_ hno
        by_cases hjk : j = k
        · subst hjk; exact hjun
        · rw [getD_set_ne true hjk] at hun; exact hun
      refine wpOp_mono (fun a' w' h3 => ?_) h2
      have hDw' : D w' := h3.2.1.resolve_left hjz
      refine ⟨.inr hDw', ih (listed.setIfInBounds j true) a' w' hDw' (hdn.set hj) hfree' (ready_mono hr (Ne.symm hji)) h3.1 ?_⟩
      rw [Array.setIfInBounds_comm _ _ hji]
      exact h3.2.2
def planOkS (ops : Array Oper) (m : Nat) (k2 : Plan) : Nat → Array Bool → Plan → Bool
  | n, listed, .nil => headIn m listed && planOk ops n listed k2
  | n + 1, listed, .q i k => Nat.blt i m && Region.free .any ops listed i && (Region.ready .any ops listed).contains i && planOkS ops m k2 n (listed.setIfInBounds i true) k
  | n + 1, listed, .e i k => (Region.ready .any ops listed == [i]) && planOkS ops m k2 n (listed.setIfInBounds i true) k
  | n + 1, listed, .two i j k h => (Region.ready .any ops listed == [i, j]) && planOkS ops m k2 n (listed.setIfInBounds i true) k && planOkS ops m k2 n (listed.setIfInBounds j true) h
  | 0, _, _ => false
def RestOf (P : Program) (ops : Array Oper) (k2 : Plan) (Q : Exit → Act → World → Prop) : Exit → Act → World → Prop := fun _ a w => ∃ D : World → Prop, D w ∧ planW P ops (Q .normal) k2 D a w
theorem planW.anyS {Q : Exit → Act → World → Prop} {m : Nat} {k2 : Plan} (hs : Region.noSelect ops = true) (hd : domOkS ops m = true) : ∀ (n : Nat) (ix : Plan) (D : World → Prop) (listed : Array Bool) (a : Act) (w : World), planOkS ops m k2 n listed ix = true → D w → Listed ops listed →
    planW P ops (RestOf P ops k2 Q .normal) ix D a w → Proofs.YtggajaigfkekhaaGreat.anyS P ops D m (Q .normal) n listed a w
  | n, .nil, D, listed, a, w, hok, hD, hdn, ⟨D2, h1, h2⟩ => by
    unfold planOkS at hok
    simp only [Bool.and_eq_true] at hok
    exact anyD.toS _ _ _ _ hok.1 (planW.anyD hs n k2 D2 _ _ _ hok.2 h1 h2)
  | n + 1, .q i ix, D, listed, a, w, hok, hD, hdn, ⟨o, v, hi, hy, h⟩ => by
    simp only [planOkS, Bool.and_eq_true, Nat.blt_eq] at hok
    have hrd : i ∈ Region.ready .any ops listed := by simpa using hok.1.2
    exact h6_ hd hok.1.1.1 hi (Region.noSelect_spec hs) n listed a w hD hdn (Region.free_spec hi hok.1.1.2) hrd hy (planW.anyS hs hd n ix D _ _ _ hok.2 hD (hdn.set hrd) h)
  | n + 1, .e i ix, D, listed, a, w, hok, hD, hdn, h => by
    simp only [planOkS, Bool.and_eq_true, beq_iff_eq] at hok
    refine ⟨fun h0 => (by rw [hok.1] at h0; cases h0), fun j hj => ?_⟩
    have hj0 := hj
    rw [hok.1] at hj
    simp only [List.mem_singleton] at hj
    subst hj
    exact wpOp_mono (fun a' w' ⟨D', hD', hw', h'⟩ => ⟨.inr (hD' _ hw'), anyS.mono hD' _ _ _ _ (planW.anyS hs hd n ix D' _ a' w' hok.2 hw' (hdn.set hj0) h')⟩) h
  | n + 1, .two i j k r, D, listed, a, w, hok, hD, hdn, h => by
    simp only [planOkS, Bool.and_eq_true, beq_iff_eq] at hok
    refine ⟨fun h0 => (by rw [hok.1.1] at h0; cases h0), fun q hq => ?_⟩
    have hq0 := hq
    rw [hok.1.1] at hq
    simp only [List.mem_cons, List.not_mem_nil, or_false] at hq
    rcases hq with rfl | rfl
    · exact wpOp_mono (fun a' w' ⟨D', hD', hw', h'⟩ => ⟨.inr (hD' _ hw'), anyS.mono hD' _ _ _ _ (planW.anyS hs hd n k D' _ a' w' hok.1.2 hw' (hdn.set hq0) h')⟩) h.1
    · exact wpOp_mono (fun a' w' ⟨D', hD', hw', h'⟩ => ⟨.inr (hD' _ hw'), anyS.mono hD' _ _ _ _ (planW.anyS hs hd n r D' _ a' w' hok.2 hw' (hdn.set hq0) h')⟩) h.2
end
end Go.Proofs.YtggajaigfkekhaaGreat
namespace Go.Proofs.YtggajaigfkekhaaGreat.A
open Go.RowKit
section
variable {P : Program} {n : Nat} {W : Wd} {σ τ : Blks} {l : Slots} {X : List Nat} {x y : Operand} {d : Option Nat} {ty t t' e : TypeId} {pos : String} {aft : Array Edge} {g : Option (Nat × Bool)} {A : Abs} {tab : List (Nat × TI)} {ops : Array Oper} {Q : Exit → Act → World → Prop} {v : Value} {xs : List (List Abs)} {s q : Nat} {a b : Int}
theorem SE.rest {k2 : Plan} (X : List Nat) (h : SX P ops k2 X (St n W σ l) Q) : SE .normal (St n W σ l) (RestOf P ops k2 Q) := fun a w hs => ⟨fun w' => Ext X w w', Ext.refl w, h a w hs⟩
theorem fV_ {K : List Nat} {w : World} {ys : List Abs} {vs : List Value} (hy : reps K w ys vs) (hv : vs.length = s) : ∀ {xs : List (List Abs)} {us : List Value} {q : Nat}, repss K w s xs us → q < xs.length → repss K w s (xs.set q ys) (us.take (q * s) ++ vs ++ us.drop (q * s + s))
  | [], _, _, _, h => by simp at h
  | c :: xs, _, 0, ⟨u1, u2, h1, h2, h3, h4⟩, _ => by
    subst h1
    refine ⟨vs, u2, ?_, hv, hy, h4⟩
    simp [← h2]
  | c :: xs, _, q + 1, ⟨u1, u2, h1, h2, h3, h4⟩, hq => by
    subst h1
    have h5 := fV_ hy hv h4 (q := q) (by simpa using hq)
    refine ⟨u1, _, ?_, h2, h3, h5⟩
    have e1 : (q + 1) * s = u1.length + q * s := by rw [Nat.succ_mul]; omega
    rw [e1, Nat.add_assoc, List.take_length_add_append, List.drop_length_add_append]
    simp
theorem if_ (hT : TabOk P tab) {i : TI} {ys : List Abs} (ht : ti tab t = some i) (hx : look l x = some (.v (eptr v (q * s)))) (hy : look l y = some A) (hu : Upd (own e s v xs) (own e s v (xs.set q ys)) σ τ) (hc : cellsA A = ys) (hs : Nat.beq i.size s = true) (hl : Nat.beq ys.length s = true) (hq : q < xs.length) (h1 : ones ys = true) :
    Eff P n W σ l v.ownBlock.toList ⟨d, .store t x y, ty, pos, aft, g⟩ fun u τ' => u = .v undef ∧ τ' = τ := fun ac w hst => by
  have hs := Nat.eq_of_beq_eq_true hs
  have hl := Nat.eq_of_beq_eq_true hl
  obtain ⟨us, hown, hr⟩ : (ownPc e s v xs).p _ w := hst.mem.hold _ hu.mem
  have hry := cJ_ (hst.eval hy)
  rw [hc] at hry
  have hlen := ac_ hry
  have hone := cr_ hry h1
  rcases hown.2 with ⟨h, h0⟩ | ⟨gb, cap, cur, hv, hbase, hg, hn, hcap, hsz, htk⟩
  · omega
  · subst hv
    have h2 := (hT t _ ht).sizeOf (w := w)
    have hb1 : q * s + s ≤ xs.length * s := by rw [← Nat.succ_mul]; exact Nat.mul_le_mul_right _ hq
    have hb2 : xs.length * s ≤ cap * s := Nat.mul_le_mul_right _ hn
    have hrun := run_storeCells_at (P := P) gb (0 + q * s) e (cellsL (ac.eval y)) 0 cur w hg (by omega) hone
    have e0 : 0 + q * s + 0 = q * s := by omega
    rw [e0] at hrun
    have hcl : cur.toList.length = cur.size := by simp
    have hle : (cellsL (ac.eval y)).length = s := by omega
    have hxx : Ext (Value.ownBlock (.slice (some ⟨gb, 0, none⟩) xs.length cap)).toList w (w.setRow gb (cur.toList.take (q * s) ++ cellsL (ac.eval y) ++ cur.toList.drop (q * s + (cellsL (ac.eval y)).length)).toArray) := (Ext.refl w).setRow (.inl (by simp [Value.ownBlock])) _
    have hnew : (cur.toList.take (q * s) ++ cellsL (ac.eval y) ++ cur.toList.drop (q * s + (cellsL (ac.eval y)).length)).take (xs.length * s) = us.take (q * s) ++ cellsL (ac.eval y) ++ us.drop (q * s + s) := by
      rw [← htk, hle]
      apply List.ext_getElem?
      intro j
      simp only [List.getElem?_take, List.getElem?_append, List.length_append, List.length_take, List.getElem?_drop, hle]
      grind
    have hm := hst.mem.upd hu hxx bB_ (fun k hk => .inl hk) rfl fun hca => ⟨us.take (q * s) ++ cellsL (ac.eval y) ++ us.drop (q * s + s), ⟨?_, .inr ⟨gb, cap, _, by rw [List.length_set], hbase, setRow_heap w gb cur _ e (0, 0) hg, by rw [List.length_set]; exact hn, hcap, ?_, ?_⟩⟩, aH_ hca _ _ _ (fV_ hry (by omega) hr hq)⟩
    · refine ⟨undef, _, _, _, ⟨rfl, rfl⟩, hxx, rfl, hm.1, hm.2, .inr ⟨rfl, ?_⟩⟩
      have hcs := dd_ (ac.eval y)
      have hle2 : (cellsL (ac.eval y)).length = i.size := by omega
      have hx2 : ac.eval x = .pointer (some ⟨gb, 0 + q * s, none⟩) := hst.plain hx
      simp [execOp, hx2, Instr.storeAt, Instr.sureAddr, storeVar, Sem.run_bind, hcs, h2, hle2, hrun, Result.andThen]
      (simp only [Nat.zero_add] at hrun; simp [hle2, hrun])
    · have h5 := hown.1
      simp only [List.length_append, List.length_take, List.length_drop, List.length_set]
      omega
    · simp only [List.size_toArray, List.length_append, List.length_take, List.length_drop]
      omega
    · rw [List.length_set]
      simpa using hnew
end
end Go.Proofs.YtggajaigfkekhaaGreat.A
namespace Go.Proofs.YtggajaigfkekhaaGreat
open Go.RowKit
section
variable {α : Type} [DecidableEq α]
def pl (m : List (α × Nat)) (k : α) : Nat := (aget m k).getD (m.length + 1)
def pm (m : List (α × Nat)) (k : α) : List (α × Nat) := if (aget m k).isSome then m else aput m k (m.length + 1)
end
def litB (c : UInt8) : Lit := .int .u8 (c.toNat : Int)
theorem fn_ {L M : List UInt8} (h : L.map litB = M.map litB) : L = M := by
  have hi : ∀ a b : UInt8, litB a = litB b → a = b := by
    intro a b hab
    unfold litB at hab
    injection hab with _ hab
    exact UInt8.toNat.inj (by omega)
  induction L generalizing M with
  | nil => cases M with
    | nil => rfl
    | cons _ _ => simp at h
  | cons a L ih => cases M with
    | nil => simp at h
    | cons b M =>
      simp only [List.map_cons, List.cons.injEq] at h
      rw [hi _ _ h.1, ih h.2]
theorem eT_ {m : Nat} {T : TypeId} (hu : Tryz.prog.underlying T = some (.array 32 5)) (hc : Tryz.prog.cellsOf T = 32) (L : List UInt8) (hL : L.length = 32) :
    Tryz.prog.keyLits (m + 2) T (L.map bc) = some (L.map litB) := by
  have h5 : Tryz.prog.cellsOf 5 = 1 := by kernel_rfl
  have hone : ∀ c : UInt8, Tryz.prog.keyLits (m + 1) 5 [bc c] = some [litB c] := by
    intro c
    have hb : c.toNat < 256 := c.toNat_lt
    have e1 : (Lit.int .u8 (c.toNat : Int)).wf = true := by
      simp only [Lit.wf, Bool.and_eq_true, decide_eq_true_eq]
      exact ⟨by show (0 : Int) ≤ _; omega, by show _ ≤ (255 : Int); omega⟩
    simp [Program.keyLits, Tryz.underlying5, bc, litB, e1]
  have hm : (List.range 32).mapM (fun i => Tryz.prog.keyLits (m + 1) 5 (((L.map bc).drop (i * 1)).take 1)) = some (L.map fun c => [litB c]) := by
    refine mapM_some_of_get _ _ (by simp [hL]) ?_
    intro i x hx
    have hi : i < 32 := by
      have := (List.getElem?_eq_some_iff.1 hx).1
      simpa using this
    have hxi : x = i := by
      have := (List.getElem?_eq_some_iff.1 hx).2
      simpa using this.symm
    subst hxi
    have hl : x < L.length := by omega
    have hd : ((L.map bc).drop (x * 1)).take 1 = [bc L[x]] := by
      rw [Nat.mul_one, List.drop_eq_getElem_cons (by simpa using hl)]
      simp
    rw [hd, hone]
    simp [hl]
  have hfl : (L.map fun c => [litB c]).flatten = L.map litB := by
    clear hm hL
    induction L with
    | nil => rfl
    | cons c L ih => simp [ih]
  have hlen : (L.map bc).length = Tryz.prog.cellsOf T := by simp [hL, hc]
  have hcell : (L.map bc).length = 32 := by simp [hL]
  unfold Program.keyLits
  rw [hu]
  split
  · simp_all
  · simp_all
  · simp_all
  · rename_i h1
    injection h1 with h1
    injection h1 with h1 h2
    subst h1
    subst h2
    rw [if_pos hlen, h5, hm, Option.map_some, hfl]
  · simp_all
  · simp_all
/-! ### Rows of 32 bytes -/
def numB (f n : Nat) : List UInt8 := UInt8.ofNat f :: (List.replicate 23 0 ++ beBytes n 8)
theorem aI_ (f n : Nat) : (numB f n).length = 32 := by simp [numB, m_]
section
variable {α : Type} [DecidableEq α] {m : List (α × Nat)} {k c : α}
structure Inv1 (m : List (α × Nat)) (k : α) : Prop where
  one : aget m k = some 1
  only : ∀ c, aget m c = some 1 → c = k
  pos : 1 ≤ m.length
theorem ae_ (m : List (α × Nat)) (c : α) : (pm m c).length ≤ m.length + 1 := by
  unfold pm
  split
  · omega
  · rename_i hn; rw [cZ_, if_neg hn]; omega
end
theorem gX_ (n : Nat) : ∀ v v', beBytes v n = beBytes v' n → v % 256 ^ n = v' % 256 ^ n := by
  induction n with
  | zero => intro v v' _; simp [Nat.mod_one]
  | succ n ih =>
    intro v v' h
    simp only [beBytes] at h
    have hl : (beBytes (v / 256) n).length = (beBytes (v' / 256) n).length := by rw [m_, m_]
    obtain ⟨h1, h2⟩ := List.append_inj h hl
    have h3 := ih _ _ h1
    have h4 : v % 256 = v' % 256 := by
      have := congrArg (List.map UInt8.toNat) h2
      simpa using this
    rw [Nat.pow_succ, Nat.mul_comm, Nat.mod_mul, Nat.mod_mul, h3, h4]
theorem numB_inj {f n f' n' : Nat} (hf : f < 256) (hf' : f' < 256) (hn : n < 18446744073709551616) (hn' : n' < 18446744073709551616) (h : numB f n = numB f' n') : f = f' ∧ n = n' := by
  unfold numB at h
  rw [List.cons.injEq] at h
  obtain ⟨h1, h2⟩ := h
  have h3 := List.append_cancel_left h2
  have h4 := gX_ 8 _ _ h3
  rw [Nat.mod_eq_of_lt (by omega), Nat.mod_eq_of_lt (by omega)] at h4
  refine ⟨?_, h4⟩
  have := congrArg UInt8.toNat h1
  simp at this
  omega
end Go.Proofs.YtggajaigfkekhaaGreat
namespace Go.Proofs.YtggajaigfkekhaaGreat.A
open Go.RowKit
def sOk (s : ByteArray) : Prop := s.size ≤ maxLen
theorem s_fit : KeyFit Tryz.prog 9 Value.string sOk where
  keyed := Maps.string_keyed Tryz.underlying9
  lit a h := ⟨_, WideMaps.keyOf_string_mk Tryz.underlying9 h⟩
  inj a b _ _ h := by injection h
section
variable {α : Type} [DecidableEq α] {T : List (α × Nat)} {k k' : α} {v : Nat}
structure Num1 (T : List (α × Nat)) : Prop where
  pos : ∀ k v, aget T k = some v → 1 ≤ v ∧ v ≤ T.length
  inj : ∀ k k' v, aget T k = some v → aget T k' = some v → k = k'
theorem Num1.nil : Num1 ([] : List (α × Nat)) := ⟨fun k v h => by simp [aget] at h, fun k k' v h => by simp [aget] at h⟩
theorem Num1.put (h : Num1 T) (k : α) : Num1 (pm T k) := by
  unfold pm
  split
  · exact h
  · rename_i hn
    refine ⟨fun c v hc => ?_, fun c c' v hc hc' => ?_⟩
    · rw [cZ_, if_neg hn]
      rw [a1_] at hc
      split at hc
      · have := Option.some.inj hc
        omega
      · have := h.pos c v hc
        omega
    · rw [a1_] at hc hc'
      split at hc
      · next e =>
        split at hc'
        · next e' => exact e.trans e'.symm
        · have h1 := Option.some.inj hc
          have := h.pos c' v hc'
          omega
      · split at hc'
        · have h1 := Option.some.inj hc'
          have := h.pos c v hc
          omega
        · exact h.inj c c' v hc hc'
theorem Num1.zero (h : Num1 T) (k : α) : cget T k = 0 ↔ aget T k = none := by
  unfold cget
  cases hk : aget T k with
  | none => simp
  | some v =>
    have := h.pos k v hk
    simp
    omega
theorem Num1.pl_le (h : Num1 T) (k : α) : pl T k ≤ T.length + 1 := by
  unfold pl
  cases hk : aget T k with
  | none => exact Nat.le_refl _
  | some v =>
    have := h.pos k v hk
    show v ≤ _
    omega
theorem iG_ (hk : aget T k = none) : pm T k = aput T k (T.length + 1) := by
  unfold pm
  rw [if_neg (by rw [hk]; decide)]
theorem iF_ (hk : ¬ aget T k = none) : pm T k = T := by
  unfold pm
  rw [if_pos (by cases h : aget T k with | none => exact absurd h hk | some v => rfl)]
theorem cget_pm : cget (pm T k) k = pl T k := by
  unfold cget pl
  by_cases hk : aget T k = none
  · rw [iG_ hk, a1_, if_pos rfl, hk]
    rfl
  · rw [iF_ hk]
    cases h : aget T k with
    | none => exact absurd h hk
    | some v => rfl
end
end Go.Proofs.YtggajaigfkekhaaGreat.A
namespace Go.Proofs.YtggajaigfkekhaaGreat
open Go.ChangeShapes Go.WideShapes Go.ChangeAt Go.RowKit
theorem law_own : ownKnob Tryz.prog.godebug = none := by kernel_rfl
theorem gF_ : laidOutB Tryz.prog = true := by kernel_rfl
theorem c1_ {H : Type} {enc : TypeId × Value → H} {W W' : World} (hb : Below W.heap.size W W') :
    ∀ (ts : List TypeId) (vs : List Value) (ds : List (DataW H)) (p : List MemPlace), (∀ t ∈ ts, Tryz.prog.readableRec t = true ∧ t < Tryz.prog.types.size) →
      DataW.TrodAll enc Tryz.prog W 0 (fun _ => true) true ts vs ds p → ∃ q, DataW.TrodAll enc Tryz.prog W' 0 (fun b => decide (b < W.heap.size)) true ts vs ds q
  | [], [], [], p, _, h => ⟨p, h⟩
  | t :: ts, v :: vs, d :: ds, p, hr, h => by
    obtain ⟨p0, q0, h0, h1, rfl⟩ := h
    obtain ⟨q, hq⟩ := c1_ hb ts vs ds q0 (fun t ht => hr t (List.mem_cons_of_mem _ ht)) h1
    have lt0 : ∀ x ∈ p0, x.block < W.heap.size := by obtain ⟨m, hm⟩ := h0; exact DataW.trod_lt m _ _ _ hm
    exact ⟨p0 ++ q, p0, q, Below.trod gF_ (hr t List.mem_cons_self).1 (hr t List.mem_cons_self).2 h0 hb lt0, hq, rfl⟩
  | [], _ :: _, _, _, _, h => h.elim
  | [], [], _ :: _, _, _, h => h.elim
  | _ :: _, [], _, _, _, h => h.elim
  | _ :: _, _ :: _, [], _, _, h => h.elim
set_option maxRecDepth 100000 in
theorem law_lift {H : Type} {enc : TypeId × Value → H} {os : Os} (started : os.Started) {f : FuncId} {fn : Func} {s : ChangeSpec}
    (noInit : Tryz.prog.inits.idxOf? f = none) (hfn : Tryz.prog.funcs[f]? = some fn) (hvars : s.vars = []) (hres : fn.resultTypes = #[4])
    (hparB : (fn.params.toList.all fun t => Tryz.prog.readableRec t && decide (t < Tryz.prog.types.size)) = true)
    (hspec : ∀ ds : List (DataW H), ds.length = fn.params.size → s.fn H (ds ++ []) = { results := [.lit (.bool true)], args := ds })
    (wit : ∃ (w : World) (tape : Tape) (i : Input), w.os = os ∧ (w.forCall tape i).Shaped Tryz.prog ∧ i.vars = [] ∧ Input.okWide Tryz.prog (w.forCall tape i) .any w.heap.size f i ∧
      s.pre6 enc Tryz.prog fn [] false (w.forCall tape i).memory i.args ∧ Assume.holds {} Tryz.prog (lone (Frame.enter Tryz.prog f i.args .normal) [] (w.forCall tape i)))
    (walk : ∀ (W : World) (base : Nat) (args : Array Value) (ds : List (DataW H)) (p : List MemPlace),
      (∀ (j : Nat) t v, fn.params[j]? = some t → args[j]? = some v → Value.okWide Tryz.prog W .any base t v) →
      DataW.TrodAll enc Tryz.prog W 0 (fun _ => true) true fn.params.toList args.toList ds p →
      (DataW.weightsEach Tryz.prog fn.params.toList ds).all (· ≤ reachBytes) = true →
      Calls Tryz.prog f args W fun e W' => e = .returned (.bool true) ∧ Ext [] W W') :
    ReturnsInHanded {} Tryz.checked os f .any (s.pre6 enc Tryz.prog fn [] false) (s.post enc Tryz.prog fn false true false false) := by
  have hpar : ∀ t ∈ fn.params.toList, Tryz.prog.readableRec t = true ∧ t < Tryz.prog.types.size := by
    simpa only [List.all_eq_true, Bool.and_eq_true, decide_eq_true_eq] using hparB
  refine returnsInHanded_of_change_sized (C := Tryz.checked) law_own started noInit hfn wit ?_
  intro W base args ds gs before hval0 hW hcnd hsz _
  have hval : ∀ (j : Nat) t v, fn.params[j]? = some t → args[j]? = some v → Value.okWide Tryz.prog W .any base t v := hval0
  have hW' := hW
  obtain ⟨p, q, hA0, hV, rfl, hfz, hnd⟩ := hW
  have hA : DataW.TrodAll enc Tryz.prog W 0 (fun _ => true) true fn.params.toList args.toList ds p := hA0
  rw [hvars] at hV
  obtain ⟨rfl, rfl⟩ := trodVars_none hV
  have hsz' : (DataW.weightsEach Tryz.prog fn.params.toList ds).all (· ≤ reachBytes) = true := by
    have h2 := hsz
    simp only [ChangeSpec.plain, DataSpec.varTypes, hvars, List.filterMap_nil, List.append_nil] at h2
    exact h2
  refine (walk W base args ds p hval hA hsz').mono fun e W' ⟨he, bel⟩ => ?_
  subst he
  have hlen : ds.length = fn.params.size := by
    have : ∀ (ts : List TypeId) (vs : List Value) (ds : List (DataW H)) (p : List MemPlace), DataW.TrodAll enc Tryz.prog W 0 (fun _ => true) true ts vs ds p → ds.length = ts.length := by
      intro ts
      induction ts with
      | nil => intro vs ds p h; cases vs <;> cases ds <;> first | rfl | exact h.elim
      | cons t ts ih =>
        intro vs ds p h
        cases vs with
        | nil => exact h.elim
        | cons v vs =>
          cases ds with
          | nil => exact h.elim
          | cons d ds => obtain ⟨p0, q0, _, h1, _⟩ := h; simp [ih vs ds q0 h1]
    simpa using this _ _ _ _ hA
  obtain ⟨pa, hpa⟩ := c1_ (enc := enc) bel.below fn.params.toList args.toList ds p hpar hA
  refine ⟨_, rfl, ds, [], p ++ [], [], pa, [], hW', ?_, ?_, ?_, bel.below.frame _, fun h => by cases h⟩
  · rw [hspec ds hlen, hres]
    exact trodAll_mk1 (shut_bool Tryz.underlying4 _)
  · rw [hspec ds hlen]; exact hpa
  · rw [hspec ds hlen, hvars]; rfl
theorem iq_ {w : World} {b o : Nat} {s : Option Nat} {v : Value} (h : w.cell? ⟨b, o, s⟩ = some v) : s = none := by
  have := World.cell?_spot h
  simpa using this
end Go.Proofs.YtggajaigfkekhaaGreat
namespace Go.Proofs.YtggajaigfkekhaaGreat
open Go.RowKit Go.ChangeShapes Go.WideShapes Go.ChangeAt
def leaves (P : Program) : Nat → TypeId → Option (List TypeId)
  | 0, _ => none
  | d + 1, t =>
    match P.underlying t with
    | some (.struct fs) => fs.toList.foldlM (fun acc f => (leaves P d f.type).bind fun l => if f.offset = acc.length ∧ l.length = P.cellsOf f.type then some (acc ++ l) else none) []
    | some (.array n e) => (leaves P d e).bind fun l => if l.length = P.cellsOf e then some (List.replicate n l).flatten else none
    | some _ => some [t]
    | none => none
section
variable {H : Type} {enc : TypeId × Value → H} {P : Program} {w : World} {base : Nat} {spare : Nat → Bool} {held : Bool}
def LeafAt (enc : TypeId × Value → H) (P : Program) (w : World) (base : Nat) (spare : Nat → Bool) (held : Bool) (u : TypeId) (v : Value) : Prop := ∃ n y, DataW.trod enc P w base spare held n u [v] = some y
theorem fo_ {d : Nat} {cs : List Value} {n : Nat}
    (ih : ∀ (t : TypeId) (ts : List TypeId) (fuel : Nat) (cs : List Value) (x : DataW H × List MemPlace), leaves P d t = some ts → ts.length = cs.length → DataW.trod enc P w base spare held fuel t cs = some x →
      ∀ (j : Nat) (v : Value) (u : TypeId), cs[j]? = some v → ts[j]? = some u → LeafAt enc P w base spare held u v) :
    ∀ (fs : List Field) (acc ts : List TypeId), (∀ f ∈ fs, ∃ y, DataW.trod enc P w base spare held n f.type ((cs.drop f.offset).take (P.cellsOf f.type)) = some y) →
      fs.foldlM (fun acc f => (leaves P d f.type).bind fun l => if f.offset = acc.length ∧ l.length = P.cellsOf f.type then some (acc ++ l) else none) acc = some ts →
      ts.length ≤ cs.length →
      (∀ (j : Nat) (v : Value) (u : TypeId), cs[j]? = some v → acc[j]? = some u → LeafAt enc P w base spare held u v) →
      (∀ (j : Nat) (v : Value) (u : TypeId), cs[j]? = some v → ts[j]? = some u → LeafAt enc P w base spare held u v) := by
  intro fs
  induction fs with
  | nil =>
    intro acc ts _ h _ ha
    simp at h
    subst h
    exact ha
  | cons f fs hfs =>
    intro acc ts hall h hlen ha
    simp only [List.foldlM_cons, Option.bind_eq_bind, Option.bind_eq_some_iff] at h
    obtain ⟨acc', ⟨l, hl, hif⟩, hrest⟩ := h
    split at hif
    · rename_i hc
      obtain ⟨ho, hlc⟩ := hc
      simp only [Option.some.injEq] at hif
      subst hif
      have hmono : ∀ (fs : List Field) (a b : List TypeId), fs.foldlM (fun acc f => (leaves P d f.type).bind fun l => if f.offset = acc.length ∧ l.length = P.cellsOf f.type then some (acc ++ l) else none) a = some b → a.length ≤ b.length := by
        intro fs
        induction fs with
        | nil => intro a b h; simp at h; subst h; exact Nat.le_refl _
        | cons f fs ih2 =>
          intro a b h
          simp only [List.foldlM_cons, Option.bind_eq_bind, Option.bind_eq_some_iff] at h
          obtain ⟨a', ⟨l, _, hif⟩, hr⟩ := h
          split at hif
          · simp only [Option.some.injEq] at hif
            subst hif
            have := ih2 _ _ hr
            simp at this
            omega
          · cases hif
      have hacc := hmono _ _ _ hrest
      refine hfs (acc ++ l) ts (fun g hg => hall g (List.mem_cons_of_mem _ hg)) hrest hlen ?_
      intro j v u hv hu
      rw [List.getElem?_append] at hu
      split at hu
      · exact ha j v u hv hu
      · rename_i hj
        obtain ⟨y, hy⟩ := hall f List.mem_cons_self
        rw [List.length_append] at hacc
        refine ih f.type l n _ y hl ?_ hy (j - acc.length) v u ?_ hu
        · rw [List.length_take, List.length_drop]; omega
        · have hjl : j - acc.length < l.length := (List.getElem?_eq_some_iff.1 hu).1
          rw [List.getElem?_take, if_pos (by omega), List.getElem?_drop, ho, show acc.length + (j - acc.length) = j by omega]
          exact hv
    · cases hif
theorem bt_ : ∀ (d : Nat) (t : TypeId) (ts : List TypeId) (fuel : Nat) (cs : List Value) (x : DataW H × List MemPlace), leaves P d t = some ts → ts.length = cs.length → DataW.trod enc P w base spare held fuel t cs = some x →
    ∀ (j : Nat) (v : Value) (u : TypeId), cs[j]? = some v → ts[j]? = some u → LeafAt enc P w base spare held u v := by
  intro d
  induction d with
  | zero => intro t ts fuel cs x h; simp [leaves] at h
  | succ d ih =>
    intro t ts fuel cs x h hlen ht
    unfold leaves at h
    split at h
    · rename_i fs hu
      obtain ⟨xs, n, _, _, hcl, hxl, hf⟩ := DataW.trod_struct hu ht
      refine fo_ (n := n) ih fs.toList [] ts ?_ h (by omega) (by simp)
      intro f hfm
      obtain ⟨i, hi, he⟩ := List.getElem_of_mem hfm
      have h1 := hf i f (by rw [← Array.getElem?_toList, List.getElem?_eq_getElem hi, he])
      have : i < xs.length := by rw [hxl]; simpa using hi
      exact ⟨xs[i], by rw [h1, List.getElem?_eq_getElem this]⟩
    · rename_i m e hu
      obtain ⟨xs, n, _, _, hcl, hxl, hf⟩ := DataW.trod_array hu ht
      simp only [Option.bind_eq_some_iff] at h
      obtain ⟨l, hl, hif⟩ := h
      split at hif
      · rename_i hc
        simp only [Option.some.injEq] at hif
        subst hif
        intro j v u hv hu'
        have hjl : j < (List.replicate m l).flatten.length := (List.getElem?_eq_some_iff.1 hu').1
        have hfl : ∀ k, (List.replicate k l).flatten.length = k * l.length := by
          intro k; simp
        rw [hfl] at hjl
        have hl0 : 0 < l.length := by
          rcases Nat.eq_zero_or_pos l.length with h0 | h0
          · rw [h0] at hjl; simp at hjl
          · exact h0
        have hi : j / l.length < m := by rw [Nat.div_lt_iff_lt_mul hl0]; exact hjl
        have hmod := Nat.mod_lt j hl0
        have hjd := Nat.div_add_mod j l.length
        have hget : ∀ (k j : Nat), j < k * l.length → (List.replicate k l).flatten[j]? = l[j % l.length]? := by
          intro k
          induction k with
          | zero => intro j hj; simp at hj
          | succ k ihk =>
            intro j hj
            rw [List.replicate_succ, List.flatten_cons, List.getElem?_append]
            split
            · rename_i h1; rw [Nat.mod_eq_of_lt h1]
            · rename_i h1
              rw [ihk (j - l.length) (by rw [Nat.succ_mul] at hj; omega)]
              rw [← Nat.mod_eq_sub_mod (show l.length ≤ j by omega)]
        rw [hget m j hjl] at hu'
        have h1 := hf (j / l.length) hi
        have hxi : j / l.length < xs.length := by omega
        rw [List.getElem?_eq_getElem hxi] at h1
        have hsz : (j / l.length) * P.cellsOf e + P.cellsOf e ≤ cs.length := by
          rw [← hlen, hfl, ← hc]
          calc (j / l.length) * l.length + l.length = (j / l.length + 1) * l.length := by rw [Nat.succ_mul]
            _ ≤ m * l.length := Nat.mul_le_mul_right _ hi
        refine ih e l n _ _ hl ?_ h1 (j % l.length) v u ?_ hu'
        · rw [List.length_take, List.length_drop]; omega
        · rw [List.getElem?_take, if_pos (by omega), List.getElem?_drop, ← hc, ← hv]
          congr 1
          rw [Nat.mul_comm]; exact hjd
      · cases hif
    · rename_i hu1 hu2 hs
      simp only [Option.some.injEq] at h
      subst h
      intro j v u hv hu'
      have hc1 : cs.length = 1 := by simpa using hlen.symm
      match cs, hc1 with
      | [c], _ =>
        match j with
        | 0 =>
          simp at hv hu'
          subst hv; subst hu'
          exact ⟨fuel, x, ht⟩
        | j + 1 => simp at hv
    · cases h
theorem LeafAt.int {u : TypeId} {v : Value} {k : IntKind} (h : LeafAt enc P w base spare held u v) (hu : P.underlying u = some (.int k)) : ∃ n, v = .int k n ∧ (Lit.int k n).wf = true := by
  obtain ⟨n, y, hy⟩ := h
  obtain ⟨m, h1, _, h2⟩ := DataW.trod_int hu hy
  simp at h1
  exact ⟨m, h1, h2⟩
theorem LeafAt.string {u : TypeId} {v : Value} (h : LeafAt enc P w base spare held u v) (hu : P.underlying u = some .string) : ∃ s, v = .string s ∧ s.size ≤ maxLen := by
  obtain ⟨n, y, hy⟩ := h
  obtain ⟨m, h1, _, h2⟩ := DataW.trod_string hu hy
  simp at h1
  exact ⟨m, h1, h2⟩
theorem LeafAt.bool {u : TypeId} {v : Value} (h : LeafAt enc P w base spare held u v) (hu : P.underlying u = some .bool) : ∃ b, v = .bool b := by
  obtain ⟨n, y, hy⟩ := h
  obtain ⟨m, h1, _⟩ := DataW.trod_bool hu hy
  simp at h1
  exact ⟨m, h1⟩
theorem gK_ {α : Type} {sz : Nat} (h0 : 0 < sz) : ∀ (xs : List (List α)), (∀ x ∈ xs, x.length = sz) → ∀ j, xs.flatten[j]? = (xs[j / sz]?).bind fun x => x[j % sz]? := by
  intro xs
  induction xs with
  | nil => intro _ j; simp
  | cons x xs ih =>
    intro hx j
    have hxl := hx x List.mem_cons_self
    rw [List.flatten_cons, List.getElem?_append]
    split
    · rename_i h1
      rw [Nat.div_eq_of_lt (by omega), Nat.mod_eq_of_lt (by omega)]
      simp
    · rename_i h1
      rw [ih (fun y hy => hx y (List.mem_cons_of_mem _ hy)), hxl]
      have h2 : j / sz = (j - sz) / sz + 1 := by
        rw [Nat.div_eq_sub_div h0 (by omega)]
      rw [h2, List.getElem?_cons_succ, ← Nat.mod_eq_sub_mod (show sz ≤ j by omega)]
theorem eF_ {α : Type} {sz : Nat} : ∀ (xs : List (List α)), (∀ x ∈ xs, x.length = sz) → xs.flatten.length = xs.length * sz := by
  intro xs
  induction xs with
  | nil => intro _; simp
  | cons x xs ih =>
    intro hx
    rw [List.flatten_cons, List.length_append, ih (fun y hy => hx y (List.mem_cons_of_mem _ hy)), hx x List.mem_cons_self, List.length_cons, Nat.succ_mul, Nat.add_comm]
theorem add_eq (b off : Nat) (j : Nat) : (⟨b, off, none⟩ : Addr).add j = ⟨b, off + j, none⟩ := by
  unfold Addr.add
  split
  · rename_i h0; subst h0; rfl
  · rfl
theorem ho_ {t e : TypeId} {fuel : Nat} {A : Option Addr} {n c : Nat} {x : DataW H × List MemPlace} (ht : P.underlying t = some (.slice e)) (h : DataW.trod enc P w base spare held fuel t [.slice A n c] = some x) :
    n ≤ c ∧ c ≤ maxLen ∧ ∃ xs : List (List Value), xs.length = n ∧ (∀ cs ∈ xs, cs.length = P.cellsOf e ∧ ∃ m y, DataW.trod enc P w base spare held m e cs = some y) ∧ (xs.flatten ≠ [] → ∃ b off : Nat, A = some ⟨b, off, none⟩ ∧ ∀ j u, xs.flatten[j]? = some u → w.cell? ⟨b, off + j, none⟩ = some u) := by
  rcases Deep.open_slice ht h with ⟨hcs, _⟩ | ⟨a, len, cap, m, n', D, Pl, hcs, _, hl, hm, hmm, _, hi⟩
  · simp at hcs
    obtain ⟨rfl, rfl, rfl⟩ := hcs
    exact ⟨Nat.le_refl _, Nat.zero_le _, [], rfl, by simp, by simp⟩
  · simp at hcs
    obtain ⟨rfl, rfl, rfl⟩ := hcs
    have hnm : n ≤ m := by rw [hmm]; split <;> omega
    refine ⟨hl, hm, (List.range n).map fun i => ((w.cells? base (a.add (i * P.cellsOf e)) (P.cellsOf e)).getD []), by simp, ?_, ?_⟩
    · intro cs hcs
      simp only [List.mem_map, List.mem_range] at hcs
      obtain ⟨i, hin, rfl⟩ := hcs
      obtain ⟨cs', h1, h2⟩ := hi i (by omega)
      rw [h1]
      exact ⟨(World.cells?_some h1).2.1, n', _, h2⟩
    · intro hne
      have hall : ∀ y ∈ (List.range n).map (fun i => ((w.cells? base (a.add (i * P.cellsOf e)) (P.cellsOf e)).getD [])), y.length = P.cellsOf e := by
        intro y hy
        simp only [List.mem_map, List.mem_range] at hy
        obtain ⟨i, hin, rfl⟩ := hy
        obtain ⟨cs', h1, _⟩ := hi i (by omega)
        rw [h1]
        exact (World.cells?_some h1).2.1
      have hlen0 := eF_ _ hall
      have hpos : 0 < n * P.cellsOf e := by
        rcases Nat.eq_zero_or_pos (n * P.cellsOf e) with h0 | h0
        · exfalso
          apply hne
          apply List.eq_nil_of_length_eq_zero
          rw [hlen0]
          simpa using h0
        · exact h0
      have hsz : 0 < P.cellsOf e := Nat.pos_of_mul_pos_left hpos
      have hn0 : 0 < n := Nat.pos_of_mul_pos_right hpos
      obtain ⟨b, off, spot⟩ := a
      have hs : spot = none := by
        obtain ⟨cs', h1, _⟩ := hi 0 (by omega)
        obtain ⟨_, hl1, hc1⟩ := World.cells?_some h1
        have h2 := hc1 0 hsz
        have h3 : ((⟨b, off, spot⟩ : Addr).add (0 * P.cellsOf e)).add 0 = ⟨b, off, spot⟩ := by simp [Addr.add]
        rw [h3, List.getElem?_eq_getElem (by omega)] at h2
        exact iq_ h2
      subst hs
      refine ⟨b, off, rfl, fun j u hu => ?_⟩
      rw [gK_ hsz _ hall] at hu
      simp only [Option.bind_eq_some_iff, List.getElem?_map, Option.map_eq_some_iff] at hu
      obtain ⟨y, ⟨i, hir, rfl⟩, hy⟩ := hu
      have hrl := List.getElem?_eq_some_iff.1 hir
      obtain ⟨hir1, hir2⟩ := hrl
      simp at hir1 hir2
      subst hir2
      obtain ⟨cs', h1, _⟩ := hi (j / P.cellsOf e) (by omega)
      rw [h1] at hy
      simp only [Option.getD_some] at hy
      obtain ⟨_, hl1, hc1⟩ := World.cells?_some h1
      have h2 := hc1 (j % P.cellsOf e) (Nat.mod_lt _ hsz)
      rw [add_eq, add_eq, hy] at h2
      have hjd := Nat.div_add_mod j (P.cellsOf e)
      rw [show off + j = off + j / P.cellsOf e * P.cellsOf e + j % P.cellsOf e by rw [Nat.mul_comm (j / P.cellsOf e)]; omega]
      exact h2
theorem hT_ {α : Type} {cells : α → List Value} {Ok : α → Prop} {t e : TypeId} {fuel : Nat} {A : Option Addr} {n c : Nat} {x : DataW H × List MemPlace} (ht : P.underlying t = some (.slice e)) (h : DataW.trod enc P w base spare held fuel t [.slice A n c] = some x)
    (hdec : ∀ cs, cs.length = P.cellsOf e → (∃ m y, DataW.trod enc P w base spare held m e cs = some y) → ∃ a, cs = cells a ∧ Ok a) :
    n ≤ c ∧ c ≤ maxLen ∧ ∃ xs : List α, xs.length = n ∧ Row w A (xs.flatMap cells) ∧ ∀ a ∈ xs, Ok a := by
  obtain ⟨h1, h2, ys, hl, hall, hrow⟩ := ho_ ht h
  have hd : ∀ (ys : List (List Value)), (∀ cs ∈ ys, cs.length = P.cellsOf e ∧ ∃ m y, DataW.trod enc P w base spare held m e cs = some y) → ∃ xs : List α, xs.length = ys.length ∧ ys = xs.map cells ∧ ∀ a ∈ xs, Ok a := by
    intro ys
    induction ys with
    | nil => intro _; exact ⟨[], rfl, rfl, by simp⟩
    | cons cs ys ih =>
      intro hy
      obtain ⟨a, ha, hok⟩ := hdec cs (hy cs List.mem_cons_self).1 (hy cs List.mem_cons_self).2
      obtain ⟨xs, hxl, hxe, hxo⟩ := ih (fun c hc => hy c (List.mem_cons_of_mem _ hc))
      exact ⟨a :: xs, by simp [hxl], by simp [ha, hxe], by simpa using ⟨hok, hxo⟩⟩
  obtain ⟨xs, hxl, hxe, hxo⟩ := hd ys hall
  refine ⟨h1, h2, xs, by omega, ?_, hxo⟩
  intro hne
  have hf : ys.flatten = xs.flatMap cells := by rw [hxe, List.flatMap]
  rw [← hf] at hne
  obtain ⟨b, off, hA, hc⟩ := hrow hne
  exact ⟨b, off, hA, fun j u hu => hc j u (by rw [hf]; exact hu)⟩
end
end Go.Proofs.YtggajaigfkekhaaGreat
namespace Go.Proofs.YtggajaigfkekhaaGreat
open Go.RowKit Go.ChangeShapes Go.WideShapes Go.ChangeAt
section
variable {H : Type} {enc : TypeId × Value → H} {w : World} {base : Nat} {spare : Nat → Bool} {held : Bool}
theorem f4_ (cs : List Value) (hl : cs.length = Tryz.prog.cellsOf 5) (h : ∃ m y, DataW.trod enc Tryz.prog w base spare held m 5 cs = some y) : ∃ c : UInt8, cs = [bc c] ∧ True := by
  obtain ⟨fuel, x, h⟩ := h
  rw [show Tryz.prog.cellsOf 5 = 1 by kernel_rfl] at hl
  have hlv : leaves Tryz.prog 4 5 = some [5] := by kernel_rfl
  have hh := bt_ 4 _ _ _ _ _ hlv (by simpa using hl.symm) h
  match cs, hl with
  | [v0], _ =>
    obtain ⟨n, rfl, b⟩ := (hh 0 v0 _ rfl rfl).int Tryz.underlying5
    simp only [Lit.wf, Bool.and_eq_true, decide_eq_true_eq] at b
    have b0 : (0 : Int) ≤ n := b.1
    have b1 : n ≤ (255 : Int) := b.2
    refine ⟨UInt8.ofNat n.toNat, ?_, trivial⟩
    have : ((UInt8.ofNat n.toNat).toNat : Int) = n := by simp; omega
    simp [bc]
    omega
theorem hV_ {fuel : Nat} {A : Option Addr} {n c : Nat} {x : DataW H × List MemPlace} (h : DataW.trod enc Tryz.prog w base spare held fuel 27 [.slice A n c] = some x) : ∃ l : List UInt8, l.length = n ∧ n ≤ c ∧ c ≤ maxLen ∧ Row w A (l.map bc) := by
  obtain ⟨h1, h2, xs, h3, h4, _⟩ := hT_ (cells := fun c : UInt8 => [bc c]) (Ok := fun _ => True) Tryz.underlying27 h (fun cs hl hh => f4_ cs hl hh)
  refine ⟨xs, h3, h1, h2, ?_⟩
  have : xs.flatMap (fun c : UInt8 => [bc c]) = xs.map bc := by
    clear h3 h4
    induction xs with
    | nil => rfl
    | cons a xs ih => simp [ih]
  rw [← this]
  exact h4
theorem f3_ {t e : TypeId} {fuel : Nat} {A : Option Addr} {n c : Nat} {x : DataW H × List MemPlace} (ht : Tryz.prog.underlying t = some (.slice e)) (h : DataW.trod enc Tryz.prog w base spare held fuel t [.slice A n c] = some x) : A = none → c = 0 := by
  intro hA
  rcases Deep.open_slice ht h with ⟨hcs, _⟩ | ⟨a, len, cap, m, n', D, Pl, hcs, _⟩
  · simp at hcs
    exact hcs.2.2
  · simp at hcs
    rw [hA] at hcs
    simp at hcs
theorem gD_ {fuel : Nat} {A : Option Addr} {n c : Nat} {x : DataW H × List MemPlace} (h : DataW.trod enc Tryz.prog w base spare held fuel 27 [.slice A n c] = some x) : ∃ l : List UInt8, BytesV w (.slice A n c) l := by
  obtain ⟨l, rfl, h1, h2, h3⟩ := hV_ h
  exact ⟨l, A, c, rfl, h1, h2, f3_ Tryz.underlying27 h, h3⟩
end
end Go.Proofs.YtggajaigfkekhaaGreat
namespace Go.Proofs.YtggajaigfkekhaaGreat.A
open Go.RowKit Go.ChangeShapes Go.WideShapes Go.ChangeAt
section
variable {H : Type} {enc : TypeId × Value → H} {w : World} {base : Nat} {spare : Nat → Bool} {held : Bool}
theorem wfIn {a : Int} (h : (Lit.int .i64 a).wf = true) : InR .i64 a := by
  have := bounds_i64 h
  simp only [InR, lo, hi]
  omega
theorem f2_ {α : Type} {abs : α → List Abs} {Ok : α → Prop} {s : Nat} : ∀ {ys : List (List Value)}, (∀ cs ∈ ys, cs.length = s ∧ ∃ a, reps [] w (abs a) cs ∧ Ok a) → ∃ xs : List α, repss [] w s (xs.map abs) ys.flatten ∧ xs.length = ys.length ∧ ∀ a ∈ xs, Ok a
  | [], _ => ⟨[], rfl, rfl, by simp⟩
  | cs :: ys, h => by
    obtain ⟨h1, a, h2, h3⟩ := h cs List.mem_cons_self
    obtain ⟨xs, h4, h5, h6⟩ := f2_ (ys := ys) fun c hc => h c (List.mem_cons_of_mem _ hc)
    exact ⟨a :: xs, ⟨cs, _, rfl, h1, h2, h4⟩, by simp [h5], by simpa using ⟨h3, h6⟩⟩
theorem dU_ {α : Type} {abs : α → List Abs} {Ok : α → Prop} {t e : TypeId} {s : Nat} {v : Value} (ht : Tryz.prog.underlying t = some (.slice e)) (hs : Tryz.prog.cellsOf e = s) (h : LeafAt enc Tryz.prog w base spare held t v)
    (hdec : ∀ cs, cs.length = Tryz.prog.cellsOf e → (∃ m y, DataW.trod enc Tryz.prog w base spare held m e cs = some y) → ∃ a, reps [] w (abs a) cs ∧ Ok a) :
    ∃ xs : List α, rep [] w (.sl s (xs.map abs)) v ∧ ∀ a ∈ xs, Ok a := by
  obtain ⟨fuel, x, h⟩ := h
  obtain ⟨A, n, c, rfl⟩ : ∃ A n c, v = .slice A n c := by
    rcases Deep.open_slice ht h with ⟨hcs, _⟩ | ⟨a, len, cap, m, n', D, Pl, hcs, _⟩
    · simp at hcs; exact ⟨_, _, _, hcs⟩
    · simp at hcs; exact ⟨_, _, _, hcs⟩
  obtain ⟨h1, h2, ys, h3, h4, h5⟩ := ho_ ht h
  obtain ⟨xs, h6, h7, h8⟩ := f2_ (abs := abs) (Ok := Ok) (s := s) (w := w) (ys := ys) fun cs hc => ⟨by rw [← hs]; exact (h4 cs hc).1, hdec cs (h4 cs hc).1 (h4 cs hc).2⟩
  refine ⟨xs, ⟨ys.flatten, ⟨⟨A, c, ?_, ?_, h2, f3_ ht h⟩, fun hn => ?_⟩, h6⟩, h8⟩
  · rw [List.length_map, h7, h3]
  · rw [List.length_map, h7, h3]; exact h1
  · obtain ⟨b, off, rfl, hc⟩ := h5 hn
    exact ⟨b, off, _, _, rfl, by simp, hc⟩
theorem iJ_ : ∀ {cs : List Value}, (∀ v ∈ cs, LeafAt enc Tryz.prog w base spare held 5 v) → ∃ d : List UInt8, cs = d.map bc
  | [], _ => ⟨[], rfl⟩
  | v :: cs, h => by
    obtain ⟨d, rfl⟩ := iJ_ (cs := cs) fun x hx => h x (List.mem_cons_of_mem _ hx)
    obtain ⟨m, y, hy⟩ := h v List.mem_cons_self
    obtain ⟨c, hc, _⟩ := f4_ [v] (by rw [show Tryz.prog.cellsOf 5 = 1 by kernel_rfl]; rfl) ⟨m, y, hy⟩
    simp at hc
    exact ⟨c :: d, by rw [hc]; rfl⟩
theorem reps_dig {K : List Nat} (d : List UInt8) : reps K w (digA d) (d.map bc) := by
  have : digA d = (d.map bc).map .v := by simp [digA]
  rw [this]
  exact aF_.2 rfl
end
theorem _root_.Go.Proofs.YtggajaigfkekhaaGreat.IsRow.bytesA {K : List Nat} {w : World} {v : Value} {m : List UInt8} (h : IsRow K w v m.length (m.map bc)) : BytesV w v m := by
  obtain ⟨A, c, rfl, h1, h2, h3⟩ := h.shape
  refine ⟨A, c, rfl, h1, h2, h3, fun hn => ?_⟩
  obtain ⟨b, off, n', c', hv, _, hc⟩ := h.cells hn
  simp at hv
  obtain ⟨rfl, _, _⟩ := hv
  exact ⟨b, off, rfl, hc⟩
theorem dg_ {n : Nat} {W : Wd} {σ : Blks} {l : Slots} {X : List Nat} {x : Operand} {d : Option Nat} {ty : TypeId} {pos : String} {aft : Array Edge} {gq : Option (Nat × Bool)} {m : List UInt8} (hx : look l x = some (byt m)) : Val Tryz.prog n W σ l X ⟨d, .convert 27 9 x, ty, pos, aft, gq⟩ (.v (.string ⟨m.toArray⟩)) := fun a w hs hX => ⟨_, rfl, fun w' hw' => by
  have h1 := a7_.1 (hs.eval hx)
  have h2 := (Carry.of_ext hw' (K := mids σ ++ W.G) (K' := mids σ ++ W.G) (fun k hk => .inl (List.mem_append_left _ (hX k hk))) (fun k hk => .inl hk)).row h1
  have := ge_ h2.bytesA
  simp [execOp, this, Result.andThen]⟩
theorem law_of {f : FuncId} {args : List Abs} (h : Pure Tryz.prog f args (boo true)) {w : World} {vals : List Value} (hv : reps [] w args vals) : Calls Tryz.prog f vals.toArray w fun e w' => e = .returned (.bool true) ∧ Ext [] w w' := by
  have hm : Mem w (mids []) [] [] w := ⟨Ext.refl w, by simp [mids], by simp, by simp, by simp, by simp [mids], by simp⟩
  refine (h [] w vals hm hv).mono fun e w' ⟨z, r, he, _, h1, h2⟩ => ⟨?_, h1.ext⟩
  have h2 : r = .bool true := h2
  rw [he, h2]
theorem ic_ {P : Program} {n : Nat} {W : Wd} {ops : Array Oper} {l : Slots} {σ : Blks} {X : List Nat} {Q : Exit → Act → World → Prop} {ix : Plan} {f : FuncId} {args args' : List Abs} {σ1 : Blks} {ι : Type} {τ' : ι → Blks} {res : ι → Abs} {xs : List Operand} {ats : Array TypeId} {d : Option Nat} {ty : TypeId} {pos : String} {aft : Array Edge} {g : Option (Nat × Bool)} {i : Nat} {x : Operand} {m : String} {t : TypeId} {y : Abs}
    (hi : ops[i]? = some ⟨d, .call { callee := .invoke x m, args := xs.toArray, argTypes := ats }, ty, pos, aft, g⟩) (hs : Spec P f args' σ1 τ' res) (hX : ∀ k ∈ mids σ1, k ∈ X) (hx : look l x = some (.ifc t y)) (hca : Casts (y :: args) args')
    (hmm : ∀ (u : Value) (ρ : Operand → Value) w, (Go.invoke (.fn (.method m) #[]) (#[.iface t u] ++ (xs.map ρ).toArray)).run P w = .ok (.enter f (#[u] ++ (xs.map ρ).toArray)) w) (hv : looks l xs = some args)
    (hg : gd ops l ⟨d, .call { callee := .invoke x m, args := xs.toArray, argTypes := ats }, ty, pos, aft, g⟩ = some true) (hd : lt? d n = true)
    (k : After σ σ1 τ' fun ν z => SX P ops ix X (St n W ν (put? l d (res z))) Q) : SX P ops (.e i ix) X (St n W σ l) Q := fun a w h => by
  unfold planW wpOp
  simp only [hi, h.wanted hg, if_true]
  refine .inl ?_
  unfold Oper.wp
  obtain ⟨u, h1, h2⟩ := h.eval hx
  rw [hM_ rfl h1 (hmm u a.eval), Oper.upon_enter]
  have : reps (mids σ ++ W.G) w (y :: args) (u :: xs.map a.eval) := ⟨u, _, rfl, h2, h.evals hv⟩
  rw [show #[u] ++ (xs.map a.eval).toArray = (u :: xs.map a.eval).toArray by simp]
  refine (hs.after h.mem (hca _ _ _ this) k).mono fun e w' ⟨z, r, ν, he, hx, _, hm, hc, hr, hk⟩ => ?_
  subst he
  exact ⟨fun w2 => Ext X w' w2, fun w2 h2 => (hx.mono (fun k hk => .inl (hX k hk))).trans h2 fun k hk => .inl hk, Ext.refl w', hk _ _ ((h.to hm hc).put hd hr)⟩
theorem dh_ {P : Program} {n : Nat} {W : Wd} {σ : Blks} {l : Slots} {X : List Nat} {x : Operand} {d : Option Nat} {ty : TypeId} {pos : String} {aft : Array Edge} {g : Option (Nat × Bool)} {m : String} {t : TypeId} {u : Value}
    (hx : look l x = some (.fn (.method m) [.ifc t (.v u)] [])) (h : ∀ w, (nilAhead (P.types.size + Made.depth) t u m).run P w = .ok (some false) w) : Val P n W σ l X ⟨d, .nilCheck x, ty, pos, aft, g⟩ (.fn (.method m) [.ifc t (.v u)] []) := fun a w hs _ => by
  have hr := hs.eval hx
  obtain ⟨us, vs, h1, ⟨_, _, rfl, ⟨_, rfl, h2⟩, h3⟩, h4⟩ := hr
  have h2 : _ = u := h2
  have h3 : _ = [] := h3
  have h4 : vs = [] := h4
  subst h2 h3 h4
  refine ⟨_, hs.eval hx, fun w' _ => ?_⟩
  simp [execOp, h1, Sem.run_bind, program, Sem.run, h w', Result.andThen]
abbrev DMap := List ((Nat × List UInt8) × Nat)
abbrev TMap := List (((Int × Int) × List UInt8) × Nat)
section
variable {from_ to_ : Int} {l M : List UInt8} {p bd bt : Nat} {D : DMap} {T : TMap}
/-! ### The program's calls -/
end
def blkP (b : Nat) (t : TypeId) (cs : List Abs) : Pc where
  ids := [b]
  p := fun K w => ∃ us, w.heap[b]? = some (row t us) ∧ reps K w cs us
  carry := fun K w K' w' hc hs ⟨us, h1, h2⟩ => ⟨us, (hs b (by simp)).trans h1, ao_ hc _ _ h2⟩
  lt := fun K w ⟨us, h1, _⟩ k hk => by
    simp at hk
    subst hk
    exact bu_ h1
def bigP (l : List Pc) : Pc where
  ids := l.flatMap Pc.ids
  p := fun K w => ∀ c ∈ l, c.p K w
  carry := fun K w K' w' hc hs h c hm => c.carry K w K' w' hc (fun k hk => hs k (List.mem_flatMap.2 ⟨c, hm, hk⟩)) (h c hm)
  lt := fun K w h k hk => by
    obtain ⟨c, hm, hk⟩ := List.mem_flatMap.1 hk
    exact c.lt K w (h c hm) k hk
section
variable {w0 w : World} {F G : List Nat} {α β xs ys : Blks}
theorem Mem.regroup {zs : List Nat} (hp : (mids xs).Perm (mids ys ++ zs)) (hr : ∀ y ∈ ys, y.rids = []) (hh : ∀ K, (∀ x ∈ xs, x.holds K w) → ∀ y ∈ ys, y.holds K w) (h : Mem w0 F G (α ++ (xs ++ β)) w) :
    Mem w0 F G (α ++ (ys ++ β)) w ∧ Carry (mids (α ++ (xs ++ β)) ++ G) w (mids (α ++ (ys ++ β)) ++ G) w := by
  have hsub : ∀ k ∈ mids ys, k ∈ mids xs := fun k hk => hp.mem_iff.2 (List.mem_append_left _ hk)
  refine h.step (Y := []) (Ext.refl w) (by simp) (fun k hk => ?_) (fun x hx => ?_) ?_ fun hc x hx => ?_
  · simp only [Q_, List.mem_append] at hk ⊢
    rcases hk with hk | hk | hk
    · exact .inl (.inl hk)
    · exact .inl (.inr (.inl (hsub k hk)))
    · exact .inl (.inr (.inr hk))
  · simp only [List.mem_append] at hx
    rcases hx with hx | hx | hx
    · exact h.ro x (by simp [hx])
    · rw [hr x hx]; simp
    · exact h.ro x (by simp [hx])
  · have hn := h.nodup
    simp only [Q_] at hn ⊢
    have h2 : (mids α ++ (mids xs ++ mids β)).Perm ((mids α ++ (mids ys ++ mids β)) ++ zs) := by
      rw [List.append_assoc, List.append_assoc]
      refine List.Perm.append_left _ ?_
      refine (hp.append_right _).trans ?_
      rw [List.append_assoc]
      exact List.Perm.append_left _ List.perm_append_comm
    exact (List.nodup_append.1 (h2.nodup_iff.1 hn)).1
  · simp only [List.mem_append] at hx
    rcases hx with hx | hx | hx
    · exact h.keep (Y := []) (Ext.refl w) hc (by simp [hx]) (by simp) (by simp)
    · exact hh _ (fun z hz => h.keep (Y := []) (Ext.refl w) hc (by simp [hz]) (by simp) (by simp)) x hx
    · exact h.keep (Y := []) (Ext.refl w) hc (by simp [hx]) (by simp) (by simp)
end
section
variable {P : Program} {n : Nat} {W : Wd} {σ τ : Blks} {l : Slots} {X : List Nat} {ops : Array Oper} {rest : List Oper} {Q : Exit → Act → World → Prop} {ix : Plan} {α β xs ys : Blks}
structure Re (xs ys : Blks) : Prop where
  ids : ∃ zs : List Nat, (mids xs).Perm (mids ys ++ zs)
  rd : ∀ y ∈ ys, y.rids = []
  hh : ∀ K w, (∀ x ∈ xs, x.holds K w) → ∀ y ∈ ys, y.holds K w
theorem St.re {a : Act} {w : World} (hr : Re xs ys) (hσ : σ = α ++ (xs ++ β)) (hτ : τ = α ++ (ys ++ β)) (h : St n W σ l a w) : St n W τ l a w := by
  subst hσ hτ
  obtain ⟨zs, hz⟩ := hr.ids
  have h1 := h.mem.regroup hz hr.rd (fun K => hr.hh K w)
  exact h.to h1.1 h1.2
theorem jF_ {c : Code} (α : Blks) {β : Blks} (hr : Re xs ys) (hσ : σ = α ++ (xs ++ β)) (k : SC P c (St n W (α ++ (ys ++ β)) l) Q) : SC P c (St n W σ l) Q := fun a w h => k a w (h.re hr hσ rfl)
theorem SE.re {ex : Exit} (α : Blks) {β : Blks} (hr : Re xs ys) (hσ : σ = α ++ (xs ++ β)) (k : SE ex (St n W (α ++ (ys ++ β)) l) Q) : SE ex (St n W σ l) Q := fun a w h => k a w (h.re hr hσ rfl)
end
theorem Re.refl {xs : Blks} (h : ∀ x ∈ xs, x.rids = []) : Re xs xs := ⟨⟨[], by simp⟩, h, fun _ _ h => h⟩
theorem Re.trans {xs ys zs : Blks} (h : Re xs ys) (k : Re ys zs) : Re xs zs where
  ids := by
    obtain ⟨a, ha⟩ := h.ids
    obtain ⟨b, hb⟩ := k.ids
    exact ⟨b ++ a, ha.trans ((hb.append_right a).trans (by rw [List.append_assoc]))⟩
  rd := k.rd
  hh := fun K w hx => k.hh K w (h.hh K w hx)
theorem Re.app {xs ys : Blks} (h : Re xs ys) (c : Pc) : Re (xs ++ [.pc c]) (ys ++ [.pc c]) where
  ids := by
    obtain ⟨a, ha⟩ := h.ids
    refine ⟨a, ?_⟩
    rw [Q_, Q_, List.append_assoc]
    exact (ha.append_right _).trans (by rw [List.append_assoc]; exact List.Perm.append_left _ List.perm_append_comm)
  rd := fun y hy => by
    rcases List.mem_append.1 hy with hy | hy
    · exact h.rd y hy
    · rw [List.mem_singleton.1 hy]; rfl
  hh := fun K w hx y hy => by
    rcases List.mem_append.1 hy with hy | hy
    · exact h.hh K w (fun x hx2 => hx x (List.mem_append_left _ hx2)) y hy
    · exact hx y (List.mem_append_right _ hy)
theorem Re.out {l1 l2 : List Pc} {c : Pc} : Re [.pc (bigP (l1 ++ c :: l2))] [.pc c, .pc (bigP (l1 ++ l2))] where
  ids := ⟨[], by
    simp only [mids, List.flatMap_cons, List.flatMap_nil, It.mids, bigP, List.flatMap_append, List.append_nil]
    exact List.perm_append_comm_assoc _ _ _⟩
  rd := by simp [It.rids]
  hh := fun K w h y hy => by
    have h1 : ∀ d ∈ l1 ++ c :: l2, d.p K w := h _ (List.mem_singleton.2 rfl)
    simp only [List.mem_cons, List.not_mem_nil, or_false] at hy
    rcases hy with rfl | rfl
    · exact h1 c (by simp)
    · intro d hd
      exact h1 d (by
        rcases List.mem_append.1 hd with hd | hd
        · simp [hd]
        · simp [hd])
theorem Re.back {l1 l2 : List Pc} {c : Pc} : Re [.pc c, .pc (bigP (l1 ++ l2))] [.pc (bigP (l1 ++ c :: l2))] where
  ids := ⟨[], by
    simp only [mids, List.flatMap_cons, List.flatMap_nil, It.mids, bigP, List.flatMap_append, List.append_nil]
    exact List.perm_append_comm_assoc _ _ _⟩
  rd := by simp [It.rids]
  hh := fun K w h y hy => by
    have h1 : c.p K w := h (.pc c) (by simp)
    have h2 : ∀ d ∈ l1 ++ l2, d.p K w := h (.pc (bigP (l1 ++ l2))) (by simp)
    rw [List.mem_singleton.1 hy]
    intro d hd
    simp only [List.mem_append, List.mem_cons] at hd
    rcases hd with hd | rfl | hd
    · exact h2 d (by simp [hd])
    · exact h1
    · exact h2 d (by simp [hd])
theorem Re.empty : Re [] [.pc (bigP [])] := ⟨⟨[], by simp [mids, It.mids, bigP]⟩, by simp [It.rids], fun K w _ y hy => by
  rw [List.mem_singleton.1 hy]
  intro d hd
  cases hd⟩
abbrev bs (l : List UInt8) : List (List Abs) := l.map fun b => [Abs.v (bc b)]
def rot (x : Wo) (n : Nat) : Wo := x >>> n ||| x <<< (32 - n)
def mixW (x : Wo) (a b c : Nat) : Wo := rot x a ^^^ rot x b ^^^ rot x c
def byW (l : List UInt8) (i : Nat) : Wo := BitVec.ofNat 32 (l.getD i 0).toNat
def wordAt (l : List UInt8) (i : Nat) : Wo := byW l (4 * i + 0) <<< 24 ||| byW l (4 * i + 1) <<< 16 ||| byW l (4 * i + 2) <<< 8 ||| byW l (4 * i + 3)
def nextW (l : List Wo) (z : Nat) : Wo := l.getD z 0 + (rot (l.getD (z + 1) 0) 7 ^^^ rot (l.getD (z + 1) 0) 18 ^^^ l.getD (z + 1) 0 >>> 3) + l.getD (z + 9) 0 + (rot (l.getD (z + 14) 0) 17 ^^^ rot (l.getD (z + 14) 0) 19 ^^^ l.getD (z + 14) 0 >>> 10)
def sched0 (l : List UInt8) (k : Nat) : List Wo := (List.range k).map (wordAt l)
def grow (l : List Wo) : Nat → List Wo
  | 0 => l
  | k + 1 => grow l k ++ [nextW (grow l k) k]
def sched (l : List UInt8) : List Wo := grow (sched0 l 16) 48
def roundsL : List Wo := [0x428a2f98#32, 0x71374491#32, 0xb5c0fbcf#32, 0xe9b5dba5#32, 0x3956c25b#32, 0x59f111f1#32, 0x923f82a4#32, 0xab1c5ed5#32, 0xd807aa98#32, 0x12835b01#32, 0x243185be#32, 0x550c7dc3#32, 0x72be5d74#32, 0x80deb1fe#32, 0x9bdc06a7#32, 0xc19bf174#32, 0xe49b69c1#32, 0xefbe4786#32, 0x0fc19dc6#32, 0x240ca1cc#32, 0x2de92c6f#32, 0x4a7484aa#32, 0x5cb0a9dc#32, 0x76f988da#32, 0x983e5152#32, 0xa831c66d#32, 0xb00327c8#32, 0xbf597fc7#32, 0xc6e00bf3#32, 0xd5a79147#32, 0x06ca6351#32, 0x14292967#32, 0x27b70a85#32, 0x2e1b2138#32, 0x4d2c6dfc#32, 0x53380d13#32, 0x650a7354#32, 0x766a0abb#32, 0x81c2c92e#32, 0x92722c85#32, 0xa2bfe8a1#32, 0xa81a664b#32, 0xc24b8b70#32, 0xc76c51a3#32, 0xd192e819#32, 0xd6990624#32, 0xf40e3585#32, 0x106aa070#32, 0x19a4c116#32, 0x1e376c08#32, 0x2748774c#32, 0x34b0bcb5#32, 0x391c0cb3#32, 0x4ed8aa4a#32, 0x5b9cca4f#32, 0x682e6ff3#32, 0x748f82ee#32, 0x78a5636f#32, 0x84c87814#32, 0x8cc70208#32, 0x90befffa#32, 0xa4506ceb#32, 0xbef9a3f7#32, 0xc67178f2#32]
structure R8 where
  (a0 a1 a2 a3 e0 e1 e2 e3 : Wo)
def R8.a (r : R8) : List Wo := [r.a0, r.a1, r.a2, r.a3]
def R8.e (r : R8) : List Wo := [r.e0, r.e1, r.e2, r.e3]
def R8.l (r : R8) : List Wo := [r.a0, r.a1, r.a2, r.a3, r.e0, r.e1, r.e2, r.e3]
def t1W (r : R8) (k w : Wo) : Wo := r.e3 + mixW r.e0 6 11 25 + (r.e2 ^^^ (r.e0 &&& (r.e1 ^^^ r.e2))) + k + w
def t2W (r : R8) : Wo := mixW r.a0 2 13 22 + ((r.a0 &&& r.a1) ^^^ (r.a0 &&& r.a2) ^^^ (r.a1 &&& r.a2))
def rnd (r : R8) (k w : Wo) : R8 := ⟨t1W r k w + t2W r, r.a0, r.a1, r.a2, r.a3 + t1W r k w, r.e0, r.e1, r.e2⟩
def rnds (r : R8) (ws : List Wo) : Nat → R8
  | 0 => r
  | i + 1 => rnd (rnds r ws i) (roundsL.getD i 0) (ws.getD i 0)
def R8.add (r s : R8) : R8 := ⟨r.a0 + s.a0, r.a1 + s.a1, r.a2 + s.a2, r.a3 + s.a3, r.e0 + s.e0, r.e1 + s.e1, r.e2 + s.e2, r.e3 + s.e3⟩
def blockW (r : R8) (l : List UInt8) : R8 := r.add (rnds r (sched l) 64)
def blocks (r : R8) (l : List UInt8) : Nat → R8
  | 0 => r
  | k + 1 => blockW (blocks r l k) (l.drop (64 * k))
structure Sm where
  (r : R8) (rest : List UInt8) (n : Nat)
def Sm.add (s : Sm) (l : List UInt8) : Sm := ⟨blocks s.r (s.rest ++ l) ((s.rest ++ l).length / 64), (s.rest ++ l).drop (64 * ((s.rest ++ l).length / 64)), s.n + l.length⟩
theorem bs_ones (l : List UInt8) : ∀ c ∈ bs l, ones c = true := by
  intro c hc
  obtain ⟨b, _, rfl⟩ := List.mem_map.1 hc
  rfl
/-! ### Constants -/
abbrev ws (l : List Wo) : List (List Abs) := l.map fun p => [u32 p]
section
variable {P : Program} {n : Nat} {W : Wd} {σ τ : Blks} {l : Slots} {X : List Nat} {x y z : Operand} {d : Option Nat} {ty t t' e : TypeId} {pos : String} {aft : Array Edge} {g : Option (Nat × Bool)} {A : Abs} {tab : List (Nat × TI)} {ops : Array Oper} {Q : Exit → Act → World → Prop} {k : IntKind}
theorem ofInt8 (c : UInt8) : BitVec.ofInt IntKind.u8.bits ((c.toNat : Nat) : Int) = c.toBitVec := by
  show BitVec.ofInt 8 ((c.toBitVec.toNat : Nat) : Int) = _
  rw [BitVec.ofInt_natCast, BitVec.ofNat_toNat, BitVec.setWidth_eq]
theorem wrap8 (p : BitVec 8) : IntKind.u8.wrap (p.toNat : Nat) = (p.toNat : Nat) := by
  have := p.isLt
  simp only [IntKind.wrap, IntKind.bits, IntKind.signed]
  simp
  omega
theorem jv_ {c f : UInt8} (hx : look l x = some (.v (bc c))) (hy : look l y = some (.v (bc f))) : Val P n W σ l X ⟨d, .binOp .or t x y t', ty, pos, aft, g⟩ (.v (bc (c ||| f))) :=
  fG_ hx hy (fun w => by
    simp only [Op.intBits, ofInt8]
    exact congrArg (fun r => Result.ok (Value.int .u8 r) w) (wrap8 (c.toBitVec ||| f.toBitVec))) rfl
end
/-! ### Rows of words -/
def cutTo : Value → Nat → Value
  | .slice a _ c, q => .slice a q c
  | v, _ => v
def cutFrom : Value → Nat → Value
  | .slice (some ⟨b, off, _⟩) n c, q => .slice (some ⟨b, off + q, none⟩) (n - q) (c - q)
  | v, _ => v
theorem gQ_ (v : Value) (q : Nat) : (cutTo v q).ownBlock = v.ownBlock := by
  unfold cutTo
  split
  · next a n c => cases a <;> rfl
  · rfl
section
variable {P : Program} {n : Nat} {W : Wd} {σ τ : Blks} {l : Slots} {X : List Nat} {x y z : Operand} {d : Option Nat} {ty t e e' : TypeId} {pos : String} {aft : Array Edge} {g : Option (Nat × Bool)} {v u : Value} {k : IntKind} {tab : List (Nat × TI)} {xs ys : List (List Abs)} {s q : Nat} {ops : Array Oper} {rest : List Oper} {Q : Exit → Act → World → Prop}
theorem eG_ (hT : TabOk P tab) {j : TI} (hu : P.underlying t = some (.slice e)) (hj : ti tab e = some j) (h1 : Nat.beq j.size 1 = true) (hx : look l x = some (.v v)) (hb : isOwn σ e' 1 v xs) {r : Int} (hy : look l y = some (.v (.int k r))) (hr : r = (q : Nat)) (hq : q < xs.length) :
    Val P n W σ l X ⟨d, .slice t x (some y) none none, ty, pos, aft, g⟩ (.v (cutFrom v q)) := fun a w hs _ => by
  subst hr
  have h1 := Nat.eq_of_beq_eq_true h1
  obtain ⟨us, hr1, hr2⟩ := hs.mem.ownR hb
  obtain ⟨b, off, c, hv, _⟩ := iI_ hr1 hr2 (by omega) (List.getElem?_eq_getElem hq)
  obtain ⟨A', c', hsh, h3, _⟩ := hr1.shape
  have hc : c = c' := by
    have := hv.symm.trans hsh
    injection this
  subst hc
  refine ⟨_, rfl, fun w' _ => ?_⟩
  have h7 := (hT _ _ hj).sizeOf (w := w')
  have e1 : a.eval x = .slice (some ⟨b, off, none⟩) xs.length c := (hs.plain hx).trans hv
  have e2 : a.eval y = .int k ((q : Nat) : Int) := hs.plain hy
  rw [hv]
  have hne : ¬ c = q := by omega
  simp [execOp, Instr.sliceAt, Instr.slice, Instr.sliceBounds, Instr.sliceBound, asIntOf, e1, e2, run_underlying hu, Sem.run_bind, Result.andThen, h7, h1, hne, Nat.le_of_lt hq, Addr.add, cutFrom]
theorem eH_ (hT : TabOk P tab) {j : TI} (hu : P.underlying t = some (.slice e)) (hj : ti tab e = some j) (hx : look l x = some (.v v)) (hb : isOwn σ e' s v xs) {r : Int} (hy : look l y = some (.v (.int k r))) (hr : r = (q : Nat)) (hq : q ≤ xs.length) :
    Val P n W σ l X ⟨d, .slice t x none (some y) none, ty, pos, aft, g⟩ (.v (cutTo v q)) := fun a w hs _ => by
  subst hr
  obtain ⟨us, hr1, hr2⟩ := hs.mem.ownR hb
  obtain ⟨A', c, hsh, h3, _⟩ := hr1.shape
  refine ⟨_, rfl, fun w' _ => ?_⟩
  have h7 := (hT _ _ hj).sizeOf (w := w')
  have e1 : a.eval x = .slice A' xs.length c := (hs.plain hx).trans hsh
  have e2 : a.eval y = .int k ((q : Nat) : Int) := hs.plain hy
  rw [hsh]
  have hqc : q ≤ c := by omega
  simp [execOp, Instr.sliceAt, Instr.slice, Instr.sliceBounds, Instr.sliceBound, asIntOf, e1, e2, run_underlying hu, Sem.run_bind, Result.andThen, h7, hqc, Addr.add, cutTo]
  try (cases A' <;> simp)
theorem St.cutOwn {a : Act} {w : World} (h : St n W σ l a w) (hu : Upd (own e s v xs) (own e s (cutTo v q) (xs.take q)) σ τ) (hq : q ≤ xs.length) : St n W τ l a w := by
  obtain ⟨us, hown, hr⟩ : (ownPc e s v xs).p _ w := h.mem.hold _ hu.mem
  have hm := h.mem.upd hu (Ext.refl w) bB_ (fun k hk => .inl (by simpa [It.mids, ownPc, gQ_] using hk)) rfl fun hc => by
    refine ⟨us.take (q * s), ⟨?_, ?_⟩, aH_ hc s _ _ (cE_ hr q hq).2⟩
    · rw [List.length_take, List.length_take, hown.1, Nat.min_eq_left hq, Nat.min_eq_left (Nat.mul_le_mul_right _ hq)]
    · rcases hown.2 with ⟨rfl, h0⟩ | ⟨gb, cap, cur, rfl, hbase, hg, hn, hcap, hsz, htk⟩
      · refine .inl ⟨?_, ?_⟩
        · have : q = 0 := by omega
          rw [this]; rfl
        · rw [List.length_take]; omega
      · refine .inr ⟨gb, cap, cur, ?_, hbase, hg, by rw [List.length_take]; omega, hcap, hsz, ?_⟩
        · rw [List.length_take, Nat.min_eq_left hq]; rfl
        · rw [List.length_take, Nat.min_eq_left hq, ← htk, List.take_take, Nat.min_eq_left (Nat.mul_le_mul_right _ hq)]
  exact h.to hm.1 hm.2
theorem jD_ (hy : xs.take q = ys) (hu : Upd (own e s v xs) (own e s (cutTo v q) ys) σ τ) (hq : q ≤ xs.length) (k : SL P ops rest (St n W τ l) Q) : SL P ops rest (St n W σ l) Q := by subst hy; exact fun a w h => k a w (h.cutOwn hu hq)
theorem fW_ {K : List Nat} {w : World} {z : Value} : ∀ m : Nat, repss K w 1 (List.replicate m [.v z]) (List.replicate m z)
  | 0 => rfl
  | m + 1 => ⟨[z], List.replicate m z, rfl, rfl, ⟨z, [], rfl, rfl, rfl⟩, fW_ m⟩
theorem gr_ {z : Value} (hu : P.underlying t = some (.slice e')) (hz : ∀ w, (zeroValue e').run P w = .ok z w) (hc : z.cells = #[z]) (h1 : z.oneCell' = true) (hx : look l x = some (.v (cutFrom v q))) (hq : q < xs.length) (hup : Upd (own e 1 v xs) (own e 1 v (xs.take q ++ List.replicate (xs.length - q) [.v z])) σ τ) :
    Eff P n W σ l v.ownBlock.toList ⟨d, .call { callee := .builtin .clear, args := #[x], argTypes := #[t] }, ty, pos, aft, g⟩ fun u τ' => u = .tup [] ∧ τ' = τ := fun ac w hst => by
  obtain ⟨us, hown, hr⟩ : (ownPc e 1 v xs).p _ w := hst.mem.hold _ hup.mem
  have hul := hown.1
  rw [Nat.mul_one] at hul
  rcases hown.2 with ⟨h, h0⟩ | ⟨gb, cap, cur, hv, hbase, hg, hn, hcap, hsz, htk⟩
  · omega
  · subst hv
    rw [Nat.mul_one] at hsz htk
    have hrun := run_storeCells_at (P := P) gb (0 + q) e (List.replicate (xs.length - q) z) 0 cur w hg (by rw [List.length_replicate]; omega) (fun v hv => by rw [List.eq_of_mem_replicate hv]; exact h1)
    have e0 : 0 + q + 0 = q := by omega
    rw [e0, List.length_replicate] at hrun
    have hcl : cur.toList.length = cur.size := by simp
    have hxx : Ext (Value.ownBlock (.slice (some ⟨gb, 0, none⟩) xs.length cap)).toList w (w.setRow gb (cur.toList.take q ++ List.replicate (xs.length - q) z ++ cur.toList.drop (q + (xs.length - q))).toArray) := (Ext.refl w).setRow (.inl (by simp [Value.ownBlock])) _
    have hnew : (cur.toList.take q ++ List.replicate (xs.length - q) z ++ cur.toList.drop (q + (xs.length - q))).take xs.length = us.take q ++ List.replicate (xs.length - q) z := by
      rw [← htk]
      apply List.ext_getElem?
      intro j
      simp only [List.getElem?_take, List.getElem?_append, List.length_append, List.length_take, List.getElem?_drop, List.length_replicate, List.getElem?_replicate]
      grind
    have hlen : (xs.take q ++ List.replicate (xs.length - q) [Abs.v z]).length = xs.length := by simp; omega
    have hm := hst.mem.upd hup hxx bB_ (fun k hk => .inl hk) rfl fun hca => ⟨us.take q ++ List.replicate (xs.length - q) z, ⟨?_, .inr ⟨gb, cap, _, by rw [hlen], hbase, setRow_heap w gb cur _ e (0, 0) hg, by rw [hlen]; exact hn, hcap, ?_, ?_⟩⟩, cp_ (aH_ hca 1 _ _ (by simpa using (cE_ hr q (by omega)).2)) (fW_ _)⟩
    · refine ⟨.tuple #[], _, _, _, ⟨rfl, rfl⟩, hxx, ⟨[], rfl, rfl⟩, hm.1, hm.2, .inl ?_⟩
      have hx2 : ac.eval x = .slice (some ⟨gb, 0 + q, none⟩) (xs.length - q) (cap - q) := hst.plain hx
      have hzc : (Builtin.zeroCells z.cells (xs.length - q)).toList = List.replicate (xs.length - q) z := by
        rw [hc]
        simp [Builtin.zeroCells]
        apply List.ext_getElem
        · simp
        · intro i h1 h2
          simp [Nat.mod_one]
      have hcl : (Builtin.clear_ #[t] ty #[.slice (some ⟨gb, 0 + q, none⟩) (xs.length - q) (cap - q)]).run P w = .ok (.tuple #[]) (w.setRow gb (cur.toList.take q ++ List.replicate (xs.length - q) z ++ cur.toList.drop (q + (xs.length - q))).toArray) := by
        obtain ⟨m, hm⟩ : ∃ m, xs.length - q = m + 1 := ⟨xs.length - q - 1, by omega⟩
        rw [hm] at hzc hrun ⊢
        simp [Builtin.clear_, run_underlying hu, hz, hzc, hrun, Sem.run_bind, Result.andThen]
        try simp_all
      rw [Nat.zero_add] at hx2 hcl
      rw [List.append_assoc] at hcl ⊢
      simp [execOp, resolve, invoke, builtin, hx2, hcl, Result.andThen]
    · simp only [List.length_append, List.length_take, List.length_replicate]
      omega
    · simp only [List.size_toArray, List.length_append, List.length_take, List.length_drop, List.length_replicate]
      omega
    · rw [hlen, Nat.mul_one]
      simpa using hnew
end
def RdAll (σ : Blks) : Prop := ∀ x ∈ σ, (∃ b t cs, x = .rd b t cs) ∨ ∃ c, x = .rdpc c
theorem RdAll.reads {σ τ : Blks} (h : RdAll τ) (hs : ∀ x ∈ τ, x ∈ σ) : Reads σ τ := by
  induction τ with
  | nil => exact .nil
  | cons x τ ih =>
    have h1 := ih (fun y hy => h y (List.mem_cons_of_mem _ hy)) (fun y hy => hs y (List.mem_cons_of_mem _ hy))
    have hx := hs x List.mem_cons_self
    rcases h x List.mem_cons_self with ⟨b, t, cs, rfl⟩ | ⟨c, rfl⟩
    · exact .rd hx h1
    · exact .rdpc hx h1
section
variable {P : Program} {n : Nat} {W : Wd} {σ σ0 : Blks} {l : Slots} {X0 : List Nat} {ops : Array Oper} {Q : Exit → Act → World → Prop} {ix : Plan} {o : Oper}
theorem jB_ (ν : Blks) (X0 : List Nat) {i : Nat} {Y : List Nat} {R : Abs → Blks → Prop} (hi : ops[i]? = some o) (hv : Eff P n W σ l Y o R) (hσ : σ = ν ++ σ0) (hY : ∀ k ∈ Y, k ∈ mids ν ++ X0) (hg : gd ops l o = some true) (hd : lt? o.dst n = true)
    (k : ∀ y τ, R y τ → ∃ ν' : Blks, τ = ν' ++ σ0 ∧ SX P ops ix (mids ν' ++ X0) (St n W τ (put? l o.dst y)) Q) : SX P ops (.e i ix) (mids ν ++ X0) (St n W σ l) Q := fun a w hs => by
  unfold planW wpOp
  simp only [hi, hs.wanted hg, if_true]
  refine .inl ?_
  unfold Oper.wp
  obtain ⟨v, w', y, τ, hR, hx, hr, hm, hc, hrun⟩ := hv a w hs
  obtain ⟨ν', hτ, hk⟩ := k y τ hR
  have hnew : ∀ k ∈ mids ν' ++ X0, k ∈ mids ν ++ X0 ∨ w.heap.size ≤ k := fun k hk => by
    rcases List.mem_append.1 hk with hk | hk
    · have hkt : k ∈ mids τ := by rw [hτ, Q_]; exact List.mem_append_left _ hk
      rcases Nat.lt_or_ge k w.heap.size with h1 | h1
      · have h2 : k ∈ mids σ ++ W.G := Classical.byContradiction fun hn => hc.out k hn h1 (List.mem_append_left _ hkt)
        rcases List.mem_append.1 h2 with h2 | h2
        · rw [hσ, Q_] at h2
          rcases List.mem_append.1 h2 with h2 | h2
          · exact .inl (List.mem_append_left _ h2)
          · have hnd := hm.nodup
            rw [hτ, Q_, List.nodup_append] at hnd
            exact absurd rfl (hnd.2.2 k hk k h2)
        · exact absurd h2 (hm.sep k hkt)
      · exact .inr h1
    · exact .inl (List.mem_append_right _ hk)
  have hinv : ∀ w2, Ext (mids ν' ++ X0) w' w2 → Ext (mids ν ++ X0) w w2 := fun w2 h2 => (hx.mono (fun k hk => .inl (hY k hk))).trans h2 hnew
  rcases hrun with hrun | ⟨rfl, hrun⟩
  · rw [hrun]; exact ⟨fun w2 => Ext (mids ν' ++ X0) w' w2, hinv, Ext.refl w', hk _ _ ((hs.to hm hc).put hd hr)⟩
  · rw [hrun]; exact ⟨fun w2 => Ext (mids ν' ++ X0) w' w2, hinv, Ext.refl w', hk _ _ ((hs.to hm hc).put hd hr)⟩
end
theorem Re.cons {xs ys : Blks} {x : It} (hx : x.rids = []) (h : Re xs ys) : Re (x :: xs) (x :: ys) where
  ids := by
    obtain ⟨a, ha⟩ := h.ids
    refine ⟨a, ?_⟩
    rw [aq_, aq_, List.append_assoc]
    exact List.Perm.append_left _ ha
  rd := fun y hy => by
    rcases List.mem_cons.1 hy with rfl | hy
    · exact hx
    · exact h.rd y hy
  hh := fun K w hk y hy => by
    rcases List.mem_cons.1 hy with rfl | hy
    · exact hk _ List.mem_cons_self
    · exact h.hh K w (fun z hz => hk z (List.mem_cons_of_mem _ hz)) y hy
theorem Re.perm {xs ys : Blks} (h : xs.Perm ys) (hr : ∀ x ∈ xs, x.rids = []) : Re xs ys := ⟨⟨[], by rw [List.append_nil]; exact da_ h⟩, fun y hy => hr y (h.mem_iff.2 hy), fun K w hx y hy => hx y (h.mem_iff.2 hy)⟩
theorem f6_ : ∀ w, (zeroValue 3).run Tryz.prog w = .ok (cntV 0) w := fun w => by
  kernel_rfl
def num6 (f n z : Nat) : List UInt8 := UInt8.ofNat f :: (List.replicate 23 0 ++ (beBytes n 8).take z ++ List.replicate (8 - z) 0)
theorem num6_len {f n z : Nat} (hz : z ≤ 8) : (num6 f n z).length = 32 := by
  simp [num6, m_]
  omega
theorem b7_ {f n z : Nat} (hz : z ≤ 8) : (digA (num6 f n z)).length = 32 := by rw [digA, List.length_map, num6_len hz]
theorem num6_end {f n : Nat} : num6 f n 8 = numB f n := by
  unfold num6 numB
  rw [List.take_of_length_le (by rw [m_]; exact Nat.le_refl _)]
  simp
theorem num6_put {f n z : Nat} (hz : z < (beBytes n 8).length) : putL (digA (num6 f n z)) (24 + z) [.v (bc (beBytes n 8)[z])] = digA (num6 f n (z + 1)) := by
  have h8 : (beBytes n 8).length = 8 := m_ _ _
  rw [cq_ _ _ _ (by rw [b7_ (by omega)]; omega)]
  have e1 : num6 f n z = (UInt8.ofNat f :: (List.replicate 23 0 ++ (beBytes n 8).take z)) ++ (0 :: List.replicate (8 - (z + 1)) 0) := by
    unfold num6
    rw [show 8 - z = (8 - (z + 1)) + 1 by omega, List.replicate_succ (n := 8 - (z + 1)), ← List.cons_append]
  have e2 : num6 f n (z + 1) = (UInt8.ofNat f :: (List.replicate 23 0 ++ (beBytes n 8).take z)) ++ ((beBytes n 8)[z] :: List.replicate (8 - (z + 1)) 0) := by
    unfold num6
    rw [List.take_succ_eq_append_getElem hz, List.cons_append, List.append_assoc, List.append_assoc, List.append_assoc, List.singleton_append]
  have hl : (UInt8.ofNat f :: (List.replicate 23 0 ++ (beBytes n 8).take z)).length = 24 + z := by
    simp [h8]
    omega
  rw [e1, e2]
  unfold digA
  rw [List.map_append, List.map_append, List.take_append_of_le_length (by rw [List.length_map, hl]; exact Nat.le_refl _), List.take_of_length_le (by rw [List.length_map, hl]; exact Nat.le_refl _), List.drop_append, List.drop_of_length_le (by rw [List.length_map, hl]; simp), List.length_map, hl, List.map_cons, List.map_cons]
  simp
theorem dZ_ (d : List UInt8) : ones (digA d) = true := bU_.2 fun a ha => by
  obtain ⟨b, _, rfl⟩ := List.mem_map.1 ha
  rfl
section
variable {f n : Nat} {l : List UInt8} {x : UInt8} {a b : Int}
set_option maxHeartbeats 2000000 in
theorem inum_s (hf : f < 256) (hn : n < 9223372036854775808) : Spec Tryz.prog 79 [.v (.int .u8 (f : Nat)), int (n : Nat)] [] (fun _ : Unit => []) (fun _ => .agg (digA (numB f n))) := by
 refine K_ Tryz.func79 rfl Tryz.ntmps79 rfl fun G w =>d_<|a_<|eb_ (H_ tabOk rfl) rfl rfl fun b4=>?_
 refine g_<|c_<|d_<|a_<|eb_ (H_ tabOk rfl) rfl rfl fun b5=>?_
 refine g_<|c_<|d_<|a_<|q_ 1 rfl<|b_ (dG_ (q := 0) tabOk Tryz.underlying39 rfl rfl rfl rfl (by decide) rfl) rfl rfl ?_
 refine e_ (D_ (L' := digA (num6 f n 0)) tabOk rfl rfl rfl u0_ rfl (Nat.le_of_ble_eq_true rfl) rfl (by simp [num6, zabs, putL, digA, beBytes, cellsA, bc]; omega)) rfl rfl ?_
 refine g_<|c_<|d_<|d_<|a_<|q_ 1 rfl<|b_ (ab_ rfl Tryz.underlying134 (by kernel_rfl) (by simp only [InR, lo, hi]; omega)) rfl rfl ?_
 refine t_ (dD_ (l := []) (x := n) (n := 8) (by decide) rfl) (Casts.nils (s := 1) Casts.refl) (by kernel_rfl) rfl rfl rfl ?_
 refine ap_<|fun _=>b_ (w_ rfl Tryz.underlying27 (List.length_map _)) rfl rfl<|q_ 1 rfl<|g_<|c_<|u_<|W_ (ι := Nat) (fun z => [.blk b5 39 (digA (num6 f n z)), .blk b4 39 (zabs (List.replicate 32 (.int .u8 0)))]) (fun z => [(4, ptr b4), (5, ptr b5), (12, byt (beBytes n 8)), (13, int (8 : Nat)), (14, int (z : Nat))]) (fun z => z ≤ 8) (fun z => 8 - z) (0) (Nat.zero_le _) (by exact ⟨rfl, rfl, rfl, congrArg (fun x : Nat => some (int (x : Nat))) (show ([] ++ beBytes n 8).length = 8 by simp [m_]), rfl, trivial⟩) sr_ ?_
 intro z hz
 refine d_<|a_<|q_ 1 rfl<|g_<|c_<|d_<|o_ rfl ?_ ?_
 rotate_left
 ·intro hc15
  have h8 : ([] ++ beBytes n 8).length = 8 := by simp [m_]
  have hz8 : z = 8 := by omega
  refine T_<|i_ nofun<|i_ nofun<|S_<|c_<|d_<|a_<|b_ (x_ tabOk rfl rfl rfl l0_ List.not_mem_nil (b7_ (by omega))) rfl rfl ?_
  refine e_ (D_ (L' := digA (num6 f n z)) tabOk rfl rfl rfl u1_ (by simp only [cellsA]; rw [b7_ (by omega)]) (Nat.le_of_ble_eq_true rfl) (dZ_ _) (by exact N_ (by simp only [cellsA]; rw [b7_ (by omega)]; rfl))) rfl rfl ?_
  refine g_<|c_<|n_<|f_ (rs := [.cell 4 39]) rfl (RV.cell rfl (RV.cellA tabOk rfl rfl l1_ (b7_ (by omega))) RV.nil) () sn_ ?_
  show Abs.agg (digA (num6 f n z)) = _
  rw [hz8, num6_end]
 intro hc15
 have h8 : ([] ++ beBytes n 8).length = 8 := by simp [m_]
 have hlt : z < (beBytes n 8).length := by rw [m_]; omega
 refine s_<|c_<|d_<|u_<|d_<|a_<|q_ 1 rfl<|b_ (E_ (q := z) tabOk Tryz.underlying27 rfl rfl rfl rfl (ah_ hlt) rfl rfl) rfl rfl<|b_ (y_ (C := .v (bc ((beBytes n 8)[z]'hlt))) (as_ tabOk rfl rfl rfl) rfl) rfl rfl<|q_ 2 rfl<|g_<|c_<|a_<|q_ 1 rfl<|b_ (y_ (C := int ((24 + z : Nat) : Int)) (v_ rfl rfl (by simp only [InR, lo, hi]; omega)) (congrArg int (by omega))) rfl rfl ?_
 refine q_ 1 rfl<|b_ (dG_ (q := 24 + z) tabOk Tryz.underlying39 rfl rfl rfl rfl (by omega) rfl) rfl rfl ?_
 refine e_ (D_ (L' := digA (num6 f n (z + 1))) tabOk rfl rfl rfl u0_ rfl (by rw [b7_ (by omega)]; show 0 + (24 + z) * 1 + 1 ≤ 32; omega) rfl (by rw [show 0 + (24 + z) * 1 = 24 + z by omega]; exact num6_put hlt)) rfl rfl ?_
 refine g_<|r_<|c_<|a_<|b_ (v_ rfl rfl (by simp only [InR, lo, hi]; omega)) rfl rfl ?_
 refine q_ 1 rfl<|g_<|A_ (z + 1) (by omega) (by omega) (by exact ⟨rfl, rfl, rfl, rfl, rfl, trivial⟩) sr_
end
section
variable {q bd bt : Nat} {D T : List (ByteArray × Nat)} {a b : Int} {l M : List UInt8}
theorem cg_is (c : List (ByteArray × Nat)) (v : ByteArray) : (int ((cget c v : Nat) : Int)).is (((aget c v).map cntV).getD (cntV 0)) := aK_ c v
theorem inew_s  : Spec Tryz.prog 8 [] [] (fun z : Nat × Nat × Nat => [.blk z.1 86 [mapV z.2.1, mapV z.2.2], .pc (mapPc z.2.1 Value.string cntV sOk []), .pc (mapPc z.2.2 Value.string cntV sOk [])]) (fun z => ptr z.1) := by
 refine K_ Tryz.func8 rfl Tryz.ntmps8 rfl fun G w =>d_<|a_<|q_ 1 rfl<|g_<|c_<|d_<|a_<|eb_ (bS_ Value.string cntV sOk (fun ac w => by simp [execOp, Instr.makeMap, newObj, Sem.run, Sem.run_bind, Result.andThen])) rfl rfl fun m1=>?_
 refine eb_ (bS_ Value.string cntV sOk (fun ac w => by simp [execOp, Instr.makeMap, newObj, Sem.run, Sem.run_bind, Result.andThen])) rfl rfl fun m2=>?_
 refine b_ (L_ tabOk rfl rfl rfl rfl) rfl rfl<|eb_ (O_ rfl) rfl rfl fun b4=>?_
 exact q_ 1 rfl<|g_<|c_<|n_<|g7_ (List.Perm.cons _ (List.Perm.swap _ _ _))<|f_ (rs := [.tmp 0]) rfl (RV.tmp rfl RV.nil) (b4, m1, m2) sr_<|rfl
end
end Go.Proofs.YtggajaigfkekhaaGreat.A
