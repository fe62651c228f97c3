/-
  Packed out of the texts: A12, Sum, A13, Doc, A14, A16, A19, A21, A17, A31, Pts, Arr32, PntEq.
-/
import Derived.Test.YtjbikemecdlolaaR03
import Derived.Maps.RangeRun
import Derived.DataShut
/-
  The second engine: words of 32 bits; parts of an array of the call's own as an array.
-/
set_option maxRecDepth 100000
set_option linter.unusedSimpArgs false
set_option linter.unusedVariables false
namespace Go.Proofs.Ytjbikemecdlolaa
open Go.RowKit
/-! ### Regions that draw, whose last operation comes behind all others -/
section
variable {P : Program} {ops : Array Oper}
def anyZ (P : Program) (ops : Array Oper) (D : World → Prop) (z : Nat) (Q : Act → World → Prop) : Nat → Array Bool → Act → World → Prop
  | 0, listed, a, w => Region.ready .any ops listed = [] ∧ Q a w
  | fuel + 1, listed, a, w => (Region.ready .any ops listed = [] → Q a w) ∧
      ∀ i ∈ Region.ready .any ops listed, wpOp P ops NoExit i (fun a' w' => (i = z ∨ D w') ∧ anyZ P ops D z Q fuel (listed.setIfInBounds i true) a' w') a w
theorem anyZ.wpAny {D : World → Prop} {z : Nat} {Q : Exit → Act → World → Prop} : ∀ (fuel : Nat) (listed : Array Bool) (a : Act) (w : World),
    anyZ P ops D z (Q .normal) fuel listed a w → wpAny P .any ops Q fuel listed a w
  | 0, _, _, _, h => h
  | fuel + 1, _, _, _, h => ⟨h.1, fun i hi => wpOp_of_noExit (wpOp_mono (fun a' w' h3 => anyZ.wpAny fuel _ a' w' h3.2) (h.2 i hi))⟩
theorem anyZ.mono {D D' : World → Prop} {z : Nat} {Q : Act → World → Prop} (hD : ∀ w, D' w → D w) : ∀ (fuel : Nat) (listed : Array Bool) (a : Act) (w : World),
    anyZ P ops D' z Q fuel listed a w → anyZ P ops D z Q fuel listed a w
  | 0, _, _, _, h => h
  | fuel + 1, _, _, _, h => ⟨h.1, fun i hi => wpOp_mono (fun a' w' h3 => ⟨h3.1.imp_right (hD _), anyZ.mono hD fuel _ a' w' h3.2⟩) (h.2 i hi)⟩
/-- What is listed has all that it comes behind listed. -/
def Down (ops : Array Oper) (L : Array Bool) : Prop := ∀ (k : Nat) (o : Oper), ops[k]? = some o → L.getD k false = true → ∀ e ∈ o.after, Region.binds .any e = true → L.getD e.on false = true
theorem Down.set {L : Array Bool} (h : Down ops L) {j : Nat} (hj : j ∈ Region.ready .any ops L) : Down ops (L.setIfInBounds j true) := by
  intro k o hk hl e he hb
  refine getD_set_true ?_
  by_cases hkj : k = j
  · subst hkj
    obtain ⟨_, o', ho', hall⟩ := mem_ready.1 hj
    rw [ho'] at hk
    cases hk
    exact hall e he hb
  · have : (L.setIfInBounds j true).getD k false = L.getD k false := getD_set_ne false (Ne.symm hkj)
    exact h k o hk (this ▸ hl) e he hb
/-- Each but the last comes ahead of a later one. -/
def domOk (ops : Array Oper) : Bool := (List.range (ops.size - 1)).all fun i => (List.range ops.size).any fun j => Nat.blt i j && ((ops[j]?).map fun o => o.after.any fun e => Region.binds .any e && e.on == i).getD false
theorem dom_next (hd : domOk ops = true) {i : Nat} (hi : i + 1 < ops.size) : ∃ j o, i < j ∧ j < ops.size ∧ ops[j]? = some o ∧ ∃ e ∈ o.after, Region.binds .any e = true ∧ e.on = i := by
  unfold domOk at hd
  rw [List.all_eq_true] at hd
  have h1 := hd i (by rw [List.mem_range]; omega)
  rw [List.any_eq_true] at h1
  obtain ⟨j, hj, h2⟩ := h1
  rw [List.mem_range] at hj
  simp only [Bool.and_eq_true, Nat.blt_eq] at h2
  obtain ⟨h2, h3⟩ := h2
  cases ho : ops[j]? with
  | none => rw [ho] at h3; cases h3
  | some o =>
    rw [ho] at h3
    simp only [Option.map_some, Option.getD_some, Array.any_eq_true, Bool.and_eq_true, beq_iff_eq] at h3
    obtain ⟨m, hm, hb, hon⟩ := h3
    exact ⟨j, o, h2, hj, ho, _, Array.getElem_mem hm, hb, hon⟩
theorem dom_all (hd : domOk ops = true) {L : Array Bool} (hL : Down ops L) (hz : ops.size - 1 ∈ Region.ready .any ops L) : ∀ m i, ops.size - 1 - i = m → i + 1 < ops.size → L.getD i false = true := by
  intro m
  induction m using Nat.strongRecOn with
  | _ m ih =>
    intro i hm hi
    obtain ⟨j, o, hij, hj, ho, e, he, hb, hon⟩ := dom_next hd hi
    subst hon
    by_cases hjz : j = ops.size - 1
    · subst hjz
      obtain ⟨_, o', ho', hall⟩ := mem_ready.1 hz
      rw [ho'] at ho
      cases ho
      exact hall e he hb
    · exact hL j o ho (ih _ (by omega) j rfl (by omega)) e he hb
theorem getD_ff {L : Array Bool} {i : Nat} (h : L.getD i true = false) : L.getD i false = false := by
  rw [Array.getD_eq_getD_getElem?] at h ⊢
  cases hq : L[i]? with
  | none => rfl
  | some b => rw [hq] at h; exact h
theorem anyZ_first {D : World → Prop} {Q : Act → World → Prop} {i : Nat} {oi : Oper} {v : Value} (hd : domOk ops = true) (hiz : i + 1 < ops.size) (hi : ops[i]? = some oi) (hsel : ∀ (j : Nat) (o : Oper) cs b, ops[j]? = some o → o.op ≠ .select cs b) :
    ∀ (fuel : Nat) (listed : Array Bool) (a : Act) (w : World), D w → Down ops listed →
      (∀ j oj, ops[j]? = some oj → j ≠ i → listed.getD j true = false → (∀ e ∈ oj.after, Region.binds .any e = true → e.on ≠ i) → oi.apart ops oj = true) →
      i ∈ Region.ready .any ops listed → YieldsD P ops D oi v a →
      anyZ P ops D (ops.size - 1) Q fuel (listed.setIfInBounds i true) (a.put oi.dst v) w → anyZ P ops D (ops.size - 1) Q (fuel + 1) listed a w := by
  intro fuel
  induction fuel with
  | zero =>
    intro listed a w hDw _ _ hr hy H
    refine ⟨fun h => (by rw [h] at hr; cases hr), fun j hj => ?_⟩
    by_cases hji : j = i
    · subst hji; exact hy.wpOp hi hDw ⟨.inr hDw, H⟩
    · have := ready_mono hj hji
      rw [H.1] at this
      cases this
  | succ fuel ih =>
    intro listed a w hDw hdn hfree hr hy H
    refine ⟨fun h => (by rw [h] at hr; cases hr), fun j hj => ?_⟩
    by_cases hji : j = i
    · subst hji; exact hy.wpOp hi hDw ⟨.inr hDw, H⟩
    · have hjz : j ≠ ops.size - 1 := fun h => by
        subst h
        have h1 := dom_all hd hdn hj _ i rfl hiz
        have h0 := getD_ff (mem_ready.1 hr).1
        rw [h1] at h0
        cases h0
      have h1 := H.2 j (ready_mono hj hji)
      obtain ⟨hjun, oj, hoj, hall⟩ := mem_ready.1 hj
      have hnot : ∀ e ∈ oj.after, Region.binds .any e = true → e.on ≠ i := fun e he hb heq => by
        have h1 := hall e he hb
        have h0 := (mem_ready.1 hr).1
        rw [heq] at h1
        rw [getD_ff h0] at h1
        cases h1
      have h2 := wpOp_putD hoj (hfree j oj hoj hji hjun hnot) (fun cs b => hsel i oi cs b hi) (fun cs b => hsel j oj cs b hoj) hy h1
      have hfree' : ∀ k ok, ops[k]? = some ok → k ≠ i → (listed.setIfInBounds j true).getD k true = false →
          (∀ e ∈ ok.after, Region.binds .any e = true → e.on ≠ i) → oi.apart ops ok = true := fun k ok hk hki hun hno => by
        refine hfree k ok hk hki ?_ hno
        by_cases hjk : j = k
        · subst hjk; exact hjun
        · rw [getD_set_ne true hjk] at hun; exact hun
      refine wpOp_mono (fun a' w' h3 => ?_) h2
      have hDw' : D w' := h3.2.1.resolve_left hjz
      refine ⟨.inr hDw', ih (listed.setIfInBounds j true) a' w' hDw' (hdn.set hj) hfree' (ready_mono hr (Ne.symm hji)) h3.1 ?_⟩
      rw [Array.setIfInBounds_comm _ _ hji]
      exact h3.2.2
def planOkZ (ops : Array Oper) : Nat → Array Bool → Plan → Bool
  | _ + 1, listed, .nil => (Region.ready .any ops listed == [ops.size - 1]) && (Region.ready .any ops (listed.setIfInBounds (ops.size - 1) true)).isEmpty
  | n + 1, listed, .q i k => Nat.blt (i + 1) ops.size && Region.free .any ops listed i && (Region.ready .any ops listed).contains i && planOkZ ops n (listed.setIfInBounds i true) k
  | n + 1, listed, .e i k => (Region.ready .any ops listed == [i]) && planOkZ ops n (listed.setIfInBounds i true) k
  | n + 1, listed, .two i j k h => (Region.ready .any ops listed == [i, j]) && planOkZ ops n (listed.setIfInBounds i true) k && planOkZ ops n (listed.setIfInBounds j true) h
  | 0, _, _ => false
theorem planW.anyZ {Q : Act → World → Prop} (hs : Region.noSelect ops = true) (hd : domOk ops = true) : ∀ (n : Nat) (ix : Plan) (D : World → Prop) (listed : Array Bool) (a : Act) (w : World), planOkZ ops n listed ix = true → D w → Down ops listed →
    planW P ops (fun a w => wpOp P ops NoExit (ops.size - 1) Q a w) ix D a w → Proofs.Ytjbikemecdlolaa.anyZ P ops D (ops.size - 1) Q n listed a w
  | 0, .nil, _, _, _, _, hok, _, _, _ => by cases hok
  | n + 1, .nil, D, listed, a, w, hok, hD, hdn, h => by
    simp only [planOkZ, Bool.and_eq_true, beq_iff_eq, List.isEmpty_iff] at hok
    refine ⟨fun h0 => (by rw [hok.1] at h0; cases h0), fun j hj => ?_⟩
    rw [hok.1] at hj
    simp only [List.mem_singleton] at hj
    subst hj
    refine wpOp_mono (fun a' w' hq => ⟨.inl rfl, ?_⟩) h
    cases n with
    | zero => exact ⟨hok.2, hq⟩
    | succ n => exact ⟨fun _ => hq, fun i hi => by rw [hok.2] at hi; cases hi⟩
  | n + 1, .q i ix, D, listed, a, w, hok, hD, hdn, ⟨o, v, hi, hy, h⟩ => by
    simp only [planOkZ, Bool.and_eq_true, Nat.blt_eq] at hok
    have hrd : i ∈ Region.ready .any ops listed := by simpa using hok.1.2
    exact anyZ_first hd hok.1.1.1 hi (Region.noSelect_spec hs) n listed a w hD hdn (Region.free_spec hi hok.1.1.2) hrd hy (planW.anyZ hs hd n ix D _ _ _ hok.2 hD (hdn.set hrd) h)
  | n + 1, .e i ix, D, listed, a, w, hok, hD, hdn, h => by
    simp only [planOkZ, Bool.and_eq_true, beq_iff_eq] at hok
    refine ⟨fun h0 => (by rw [hok.1] at h0; cases h0), fun j hj => ?_⟩
    have hj0 := hj
    rw [hok.1] at hj
    simp only [List.mem_singleton] at hj
    subst hj
    exact wpOp_mono (fun a' w' ⟨D', hD', hw', h'⟩ => ⟨.inr (hD' _ hw'), anyZ.mono hD' _ _ _ _ (planW.anyZ hs hd n ix D' _ a' w' hok.2 hw' (hdn.set hj0) h')⟩) h
  | n + 1, .two i j k m, D, listed, a, w, hok, hD, hdn, h => by
    simp only [planOkZ, Bool.and_eq_true, beq_iff_eq] at hok
    refine ⟨fun h0 => (by rw [hok.1.1] at h0; cases h0), fun r hr => ?_⟩
    have hr0 := hr
    rw [hok.1.1] at hr
    simp only [List.mem_cons, List.not_mem_nil, or_false] at hr
    rcases hr with rfl | rfl
    · exact wpOp_mono (fun a' w' ⟨D', hD', hw', h'⟩ => ⟨.inr (hD' _ hw'), anyZ.mono hD' _ _ _ _ (planW.anyZ hs hd n k D' _ a' w' hok.1.2 hw' (hdn.set hr0) h')⟩) h.1
    · exact wpOp_mono (fun a' w' ⟨D', hD', hw', h'⟩ => ⟨.inr (hD' _ hw'), anyZ.mono hD' _ _ _ _ (planW.anyZ hs hd n m D' _ a' w' hok.2 hw' (hdn.set hr0) h')⟩) h.2
theorem down_none (n : Nat) : Down ops (Array.replicate n false) := by
  intro k o _ h
  rw [Array.getD_eq_getD_getElem?, Array.getElem?_replicate] at h
  split at h <;> cases h
theorem wp_region_planZ {id : Nat} {a : Act} {w : World} {Q : Exit → Act → World → Prop} (D : World → Prop) (ix : Plan) (hm : P.follows .mixedOrders = true)
    (hok : (Region.noSelect ops && domOk ops && planOkZ ops ops.size (Array.replicate ops.size false) ix) = true) (hD : D w.drew)
    (h : planW P ops (fun a w => wpOp P ops NoExit (ops.size - 1) (Q .normal) a w) ix D a w.drew) : (Code.region id ops true).wp P Q a w := by
  simp only [Bool.and_eq_true] at hok
  refine wp_region_any hm ?_
  exact anyZ.wpAny _ _ _ _ (planW.anyZ hok.1.1 hok.1.2 _ ix D _ a _ hok.2 hD (down_none _) h)
end
end Go.Proofs.Ytjbikemecdlolaa
namespace Go.Proofs.Ytjbikemecdlolaa.A
open Go.RowKit
section
variable {P : Program} {n : Nat} {W : Wd} {σ : Blks} {l : Slots} {o : Oper} {ops : Array Oper} {Q : Exit → Act → World → Prop}
/-- What is to be shown ahead of a region's last operation. -/
def LastOp (P : Program) (ops : Array Oper) (Q : Exit → Act → World → Prop) : Exit → Act → World → Prop := fun _ a w => wpOp P ops NoExit (ops.size - 1) (Q .normal) a w
theorem SC.drawZ {id : Nat} (X : List Nat) (ix : Plan) (hm : P.follows .mixedOrders = true)
    (hok : (Region.noSelect ops && domOk ops && planOkZ ops ops.size (Array.replicate ops.size false) ix) = true) (h : SX P ops ix X (St n W σ l) (LastOp P ops Q)) : SC P (.region id ops true) (St n W σ l) Q := fun a w hs =>
  wp_region_planZ (fun w' => Ext X w.drew w') ix hm hok (Ext.refl _) (h a _ hs.drew)
theorem SE.effZ {Y : List Nat} {R : Abs → Blks → Prop} (hi : ops[ops.size - 1]? = some o) (hv : Eff P n W σ l Y o R) (hg : gd ops l o = some true) (hd : lt? o.dst n = true)
    (k : ∀ y τ, R y τ → SE .normal (St n W τ (put? l o.dst y)) Q) : SE .normal (St n W σ l) (LastOp P ops Q) := fun a w hs => by
  unfold LastOp wpOp
  simp only [hi, hs.wanted hg, if_true]
  refine .inl ?_
  unfold Oper.wp
  obtain ⟨v, w', y, τ, hR, hx, hr, hm, hc, hrun | ⟨rfl, hrun⟩⟩ := hv a w hs
  · rw [hrun]; exact k _ _ hR _ _ ((hs.to hm hc).put hd hr)
  · rw [hrun]; exact k _ _ hR _ _ ((hs.to hm hc).put hd hr)
end

abbrev Wo := BitVec 32
/-- A word's value. -/
def u32 (p : Wo) : Abs := .v (.int .u32 (p.toNat : Nat))
theorem putL_whole {L ys : List Abs} (h : ys.length = L.length) : putL L 0 ys = ys := by
  rw [putL_eq _ _ _ (Nat.zero_le _), Nat.zero_add, h]
  simp
section
variable {P : Program} {n : Nat} {W : Wd} {σ τ : Blks} {l : Slots} {X : List Nat} {x y z : Operand} {d : Option Nat} {ty t t' e : TypeId} {pos : String} {aft : Array Edge} {g : Option (Nat × Bool)} {k k' : IntKind} {b : Nat} {A B : Abs} {tab : List (Nat × TI)} {ops : Array Oper} {rest : List Oper} {Q : Exit → Act → World → Prop} {p q : Wo}
/-- A new block in a region that draws: what follows may change it. -/
theorem SX.alloc {ix : Plan} (hT : TabOk P tab) {i : TI} {j : Nat} (ht : ti tab t = some i) (hi : ops[j]? = some ⟨d, .alloc t, ty, pos, aft, g⟩) (hg : gd ops l ⟨d, .alloc t, ty, pos, aft, g⟩ = some true) (hd : lt? d n = true)
    (k : ∀ b, SX P ops ix (b :: X) (St n W (.blk b t (zabs i.zero) :: σ) (put? l d (.v (.pointer (some ⟨b, 0, none⟩))))) Q) : SX P ops (.e j ix) X (St n W σ l) Q := fun a w hs => by
  unfold planW wpOp
  simp only [hi, hs.wanted hg, if_true]
  refine .inl ?_
  unfold Oper.wp
  obtain ⟨zv, hz, hc⟩ := (hT t _ ht).zeroValue (w := w)
  obtain ⟨h1, h2⟩ := hs.mem.alloc t (reps_zabs i.zero)
  have hrun : (execOp a.eval ⟨d, .alloc t, ty, pos, aft, g⟩).run P w = .ok (.value (.pointer (some ⟨w.heap.size, 0, none⟩))) (w.alloc (row t i.zero)) := by
    simp [execOp, Instr.alloc, Sem.run_bind, hz, Result.andThen, newVar, newRow, newObj, Sem.run, hc, row]
  rw [hrun]
  refine ⟨fun w2 => Ext (w.heap.size :: X) (w.alloc (row t i.zero)) w2, fun w2 h3 => ((Ext.refl w).alloc _).trans (h3 : Ext (w.heap.size :: X) _ w2) fun x hx => ?_, Ext.refl _, k _ _ _ ((hs.to h1 h2).put hd (show rep _ _ (.v (.pointer (some ⟨w.heap.size, 0, none⟩))) _ from rfl))⟩
  rcases List.mem_cons.1 hx with rfl | hx
  · exact .inr (Nat.le_refl _)
  · exact .inl hx
/-- A call that takes the two pieces on top. -/
theorem After.two {ι : Type} {x1 x2 : It} {β : Blks} {τ' : ι → Blks} {y1 y2 : ι → It} {K : Blks → ι → Prop} (hr : x1.rids = [] ∧ x2.rids = []) (hτ : ∀ z, τ' z = [y1 z, y2 z]) (k : ∀ z, K (y1 z :: y2 z :: β) z) : After (x1 :: x2 :: β) [x1, x2] τ' K :=
  After.mid [] (β := β) rfl (by intro x hx; simp only [List.mem_cons, List.not_mem_nil, or_false] at hx; rcases hx with rfl | rfl; exact hr.1; exact hr.2) fun z => by rw [hτ z]; exact k z
theorem SE.perm {ex : Exit} (h : τ.Perm σ) (k : SE ex (St n W τ l) Q) : SE ex (St n W σ l) Q := fun a w hs => k a w (hs.perm h)
theorem SE.swap {ex : Exit} {x y : It} (k : SE ex (St n W (y :: x :: σ) l) Q) : SE ex (St n W (x :: y :: σ) l) Q := SE.perm (List.Perm.swap x y σ) k
end
section
variable {P : Program} {n : Nat} {W : Wd} {σ : Blks} {l : Slots} {X : List Nat} {x : Operand} {d : Option Nat} {ty t t' e tp : TypeId} {pos : String} {aft : Array Edge} {gq : Option (Nat × Bool)} {A : Abs} {ms : Array (String × TypeId)} {ops : Array Oper} {rest : List Oper} {Q : Exit → Act → World → Prop} {s : Nat} {xs : List (List Abs)}
/-- Is a slice nil? Then it is empty. -/
theorem SL.eqNil (ht : P.underlying t = some (.slice e)) (hx : look l x = some (.sl s xs)) (hg : gd ops l ⟨d, .binOp .eql t x (.const (.slice none 0 0)) t', ty, pos, aft, gq⟩ = some true) (hd : lt? d n = true)
    (k : ∀ b : Bool, (b = true → xs = []) → SL P ops rest (St n W σ (put? l d (.v (.bool b)))) Q) : SL P ops (⟨d, .binOp .eql t x (.const (.slice none 0 0)) t', ty, pos, aft, gq⟩ :: rest) (St n W σ l) Q := fun a w hs =>
  wpList_step fun K hK => by
    rw [if_pos (hs.wanted hg)]
    unfold Oper.wp
    obtain ⟨us, hr, h2⟩ := hs.eval hx
    obtain ⟨A', c, h1, h3, h4, h5⟩ := hr.shape
    have e1 : a.eval (.const (.slice none 0 0)) = .slice none 0 0 := rfl
    have hrun : (binOp .eql t (.slice A' xs.length c) (.slice none 0 0)).run P w = .ok (.bool A'.isNone) w := by
      have h : ∀ d : Nat, (Op.equalIn (d + 1) t (.slice A' xs.length c) (.slice none 0 0)).run P w = .ok A'.isNone w := fun d => by cases A' <;> simp [Op.equalIn, run_underlying ht]
      simp only [binOp]
      simp [Op.equal, Op.maxDepth, h 9999]
    have hrun2 : (execOp a.eval ⟨d, .binOp .eql t x (.const (.slice none 0 0)) t', ty, pos, aft, gq⟩).run P w = .ok (.value (.bool A'.isNone)) w := by simp [execOp, h1, e1, eqGuard, hrun]
    rw [hrun2]
    refine hK _ _ (k A'.isNone (fun hb => ?_) _ _ (hs.put hd (show rep _ _ (.v (.bool A'.isNone)) _ from rfl)))
    cases A' with
    | none =>
      have := h5 rfl
      exact List.length_eq_zero_iff.1 (by omega)
    | some A' => cases hb
end
end Go.Proofs.Ytjbikemecdlolaa.A
/-
  Sums: what the program's rounds come to, as plain functions on words.
-/
namespace Go.Proofs.Ytjbikemecdlolaa.A
open Go.RowKit

abbrev bs (l : List UInt8) : List (List Abs) := l.map fun b => [Abs.v (bc b)]
def rot (x : Wo) (n : Nat) : Wo := x >>> n ||| x <<< (32 - n)
def mixW (x : Wo) (a b c : Nat) : Wo := rot x a ^^^ rot x b ^^^ rot x c
def byW (l : List UInt8) (i : Nat) : Wo := BitVec.ofNat 32 (l.getD i 0).toNat
def wordAt (l : List UInt8) (i : Nat) : Wo := byW l (4 * i + 0) <<< 24 ||| byW l (4 * i + 1) <<< 16 ||| byW l (4 * i + 2) <<< 8 ||| byW l (4 * i + 3)
def nextW (l : List Wo) (z : Nat) : Wo := l.getD z 0 + (rot (l.getD (z + 1) 0) 7 ^^^ rot (l.getD (z + 1) 0) 18 ^^^ l.getD (z + 1) 0 >>> 3) + l.getD (z + 9) 0 + (rot (l.getD (z + 14) 0) 17 ^^^ rot (l.getD (z + 14) 0) 19 ^^^ l.getD (z + 14) 0 >>> 10)
def sched0 (l : List UInt8) (k : Nat) : List Wo := (List.range k).map (wordAt l)
def grow (l : List Wo) : Nat → List Wo
  | 0 => l
  | k + 1 => grow l k ++ [nextW (grow l k) k]
def sched (l : List UInt8) : List Wo := grow (sched0 l 16) 48
def roundsL : List Wo := [0x428a2f98#32, 0x71374491#32, 0xb5c0fbcf#32, 0xe9b5dba5#32, 0x3956c25b#32, 0x59f111f1#32, 0x923f82a4#32, 0xab1c5ed5#32, 0xd807aa98#32, 0x12835b01#32, 0x243185be#32, 0x550c7dc3#32, 0x72be5d74#32, 0x80deb1fe#32, 0x9bdc06a7#32, 0xc19bf174#32, 0xe49b69c1#32, 0xefbe4786#32, 0x0fc19dc6#32, 0x240ca1cc#32, 0x2de92c6f#32, 0x4a7484aa#32, 0x5cb0a9dc#32, 0x76f988da#32, 0x983e5152#32, 0xa831c66d#32, 0xb00327c8#32, 0xbf597fc7#32, 0xc6e00bf3#32, 0xd5a79147#32, 0x06ca6351#32, 0x14292967#32, 0x27b70a85#32, 0x2e1b2138#32, 0x4d2c6dfc#32, 0x53380d13#32, 0x650a7354#32, 0x766a0abb#32, 0x81c2c92e#32, 0x92722c85#32, 0xa2bfe8a1#32, 0xa81a664b#32, 0xc24b8b70#32, 0xc76c51a3#32, 0xd192e819#32, 0xd6990624#32, 0xf40e3585#32, 0x106aa070#32, 0x19a4c116#32, 0x1e376c08#32, 0x2748774c#32, 0x34b0bcb5#32, 0x391c0cb3#32, 0x4ed8aa4a#32, 0x5b9cca4f#32, 0x682e6ff3#32, 0x748f82ee#32, 0x78a5636f#32, 0x84c87814#32, 0x8cc70208#32, 0x90befffa#32, 0xa4506ceb#32, 0xbef9a3f7#32, 0xc67178f2#32]
structure R8 where
  (a0 a1 a2 a3 e0 e1 e2 e3 : Wo)
def R8.a (r : R8) : List Wo := [r.a0, r.a1, r.a2, r.a3]
def R8.e (r : R8) : List Wo := [r.e0, r.e1, r.e2, r.e3]
def R8.l (r : R8) : List Wo := [r.a0, r.a1, r.a2, r.a3, r.e0, r.e1, r.e2, r.e3]
def firstR : R8 := ⟨0x6a09e667#32, 0xbb67ae85#32, 0x3c6ef372#32, 0xa54ff53a#32, 0x510e527f#32, 0x9b05688c#32, 0x1f83d9ab#32, 0x5be0cd19#32⟩
def t1W (r : R8) (k w : Wo) : Wo := r.e3 + mixW r.e0 6 11 25 + (r.e2 ^^^ (r.e0 &&& (r.e1 ^^^ r.e2))) + k + w
def t2W (r : R8) : Wo := mixW r.a0 2 13 22 + ((r.a0 &&& r.a1) ^^^ (r.a0 &&& r.a2) ^^^ (r.a1 &&& r.a2))
def rnd (r : R8) (k w : Wo) : R8 := ⟨t1W r k w + t2W r, r.a0, r.a1, r.a2, r.a3 + t1W r k w, r.e0, r.e1, r.e2⟩
def rnds (r : R8) (ws : List Wo) : Nat → R8
  | 0 => r
  | i + 1 => rnd (rnds r ws i) (roundsL.getD i 0) (ws.getD i 0)
def R8.add (r s : R8) : R8 := ⟨r.a0 + s.a0, r.a1 + s.a1, r.a2 + s.a2, r.a3 + s.a3, r.e0 + s.e0, r.e1 + s.e1, r.e2 + s.e2, r.e3 + s.e3⟩
def blockW (r : R8) (l : List UInt8) : R8 := r.add (rnds r (sched l) 64)
/-- So many blocks of a text. -/
def blocks (r : R8) (l : List UInt8) : Nat → R8
  | 0 => r
  | k + 1 => blockW (blocks r l k) (l.drop (64 * k))
def padded (l : List UInt8) (n : Nat) : List UInt8 := l ++ [128] ++ List.replicate ((119 - l.length) % 64) 0 ++ beBytes (n * 8) 8
def byteAt (ws : List Wo) (q : Nat) : UInt8 := UInt8.ofNat (ws.getD (q / 4) 0 >>> (24 - 8 * (q % 4))).toNat
def outN (ws : List Wo) (j : Nat) : List UInt8 := (List.range j).map (byteAt ws) ++ List.replicate (32 - j) 0
/-- The sum of what was taken in so far. -/
def finish (r : R8) (rest : List UInt8) (n : Nat) : List UInt8 := outN (blocks r (padded rest n) ((padded rest n).length / 64)).l 32
/-- A sum that is under way. -/
structure Sm where
  (r : R8) (rest : List UInt8) (n : Nat)
def Sm.new : Sm := ⟨firstR, [], 0⟩
def Sm.add (s : Sm) (l : List UInt8) : Sm := ⟨blocks s.r (s.rest ++ l) ((s.rest ++ l).length / 64), (s.rest ++ l).drop (64 * ((s.rest ++ l).length / 64)), s.n + l.length⟩
def Sm.sum (s : Sm) : List UInt8 := finish s.r s.rest s.n
def Sm.Ok (s : Sm) : Prop := s.rest.length < 64
end Go.Proofs.Ytjbikemecdlolaa.A
/-
  The second engine: regions that draw, in two parts; an element of a row of the call's own stored; words of 64 bits.
-/
namespace Go.Proofs.Ytjbikemecdlolaa
open Go.RowKit
section
variable {P : Program} {ops : Array Oper}
/-- In whatever order; what the operations from m on leave is asked nothing. -/
def anyS (P : Program) (ops : Array Oper) (D : World → Prop) (m : Nat) (Q : Act → World → Prop) : Nat → Array Bool → Act → World → Prop
  | 0, listed, a, w => Region.ready .any ops listed = [] ∧ Q a w
  | fuel + 1, listed, a, w => (Region.ready .any ops listed = [] → Q a w) ∧
      ∀ i ∈ Region.ready .any ops listed, wpOp P ops NoExit i (fun a' w' => (m ≤ i ∨ D w') ∧ anyS P ops D m Q fuel (listed.setIfInBounds i true) a' w') a w
theorem anyS.wpAny {D : World → Prop} {m : Nat} {Q : Exit → Act → World → Prop} : ∀ (fuel : Nat) (listed : Array Bool) (a : Act) (w : World),
    anyS P ops D m (Q .normal) fuel listed a w → wpAny P .any ops Q fuel listed a w
  | 0, _, _, _, h => h
  | fuel + 1, _, _, _, h => ⟨h.1, fun i hi => wpOp_of_noExit (wpOp_mono (fun a' w' h3 => anyS.wpAny fuel _ a' w' h3.2) (h.2 i hi))⟩
theorem anyS.mono {D D' : World → Prop} {m : Nat} {Q : Act → World → Prop} (hD : ∀ w, D' w → D w) : ∀ (fuel : Nat) (listed : Array Bool) (a : Act) (w : World),
    anyS P ops D' m Q fuel listed a w → anyS P ops D m Q fuel listed a w
  | 0, _, _, _, h => h
  | fuel + 1, _, _, _, h => ⟨h.1, fun i hi => wpOp_mono (fun a' w' h3 => ⟨h3.1.imp_right (hD _), anyS.mono hD fuel _ a' w' h3.2⟩) (h.2 i hi)⟩
/-- Those ahead of m are listed. -/
def headIn (m : Nat) (L : Array Bool) : Bool := (List.range m).all fun i => L.getD i false
theorem headIn_set {m : Nat} {L : Array Bool} (h : headIn m L = true) (j : Nat) : headIn m (L.setIfInBounds j true) = true := by
  unfold headIn at *
  rw [List.all_eq_true] at *
  exact fun i hi => getD_set_true (h i hi)
theorem headIn_get {m : Nat} {L : Array Bool} (h : headIn m L = true) {i : Nat} (hi : i < m) : L.getD i false = true := by
  unfold headIn at h
  rw [List.all_eq_true] at h
  exact h i (List.mem_range.2 hi)
theorem anyD.toS {D D2 : World → Prop} {m : Nat} {Q : Act → World → Prop} : ∀ (fuel : Nat) (listed : Array Bool) (a : Act) (w : World), headIn m listed = true →
    anyD P ops D2 Q fuel listed a w → anyS P ops D m Q fuel listed a w
  | 0, _, _, _, _, h => h
  | fuel + 1, L, _, _, hL, h => ⟨h.1, fun i hi => wpOp_mono (fun a' w' h3 => ⟨.inl (by
      rcases Nat.lt_or_ge i m with h1 | h1
      · have h2 := headIn_get hL h1
        rw [getD_ff (mem_ready.1 hi).1] at h2
        cases h2
      · exact h1), anyD.toS fuel _ a' w' (headIn_set hL i) h3.2⟩) (h.2 i hi)⟩
/-- Each ahead of m comes ahead of a later one up to m; each behind m comes behind one from m on. -/
def domOkS (ops : Array Oper) (m : Nat) : Bool :=
  ((List.range m).all fun i => (List.range (m + 1)).any fun j => Nat.blt i j && ((ops[j]?).map fun o => o.after.any fun e => Region.binds .any e && e.on == i).getD false) &&
  ((List.range ops.size).all fun j => Nat.ble j m || ((ops[j]?).map fun o => o.after.any fun e => Region.binds .any e && Nat.ble m e.on && Nat.blt e.on j).getD false)
theorem domS_next {m : Nat} (hd : domOkS ops m = true) {i : Nat} (hi : i < m) : ∃ j o, i < j ∧ j ≤ m ∧ ops[j]? = some o ∧ ∃ e ∈ o.after, Region.binds .any e = true ∧ e.on = i := by
  unfold domOkS at hd
  rw [Bool.and_eq_true, List.all_eq_true] at hd
  have h1 := hd.1 i (by rw [List.mem_range]; omega)
  rw [List.any_eq_true] at h1
  obtain ⟨j, hj, h2⟩ := h1
  rw [List.mem_range] at hj
  simp only [Bool.and_eq_true, Nat.blt_eq] at h2
  obtain ⟨h2, h3⟩ := h2
  cases ho : ops[j]? with
  | none => rw [ho] at h3; cases h3
  | some o =>
    rw [ho] at h3
    simp only [Option.map_some, Option.getD_some, Array.any_eq_true, Bool.and_eq_true, beq_iff_eq] at h3
    obtain ⟨x, hx, hb, hon⟩ := h3
    exact ⟨j, o, h2, by omega, ho, _, Array.getElem_mem hx, hb, hon⟩
theorem domS_back {m : Nat} (hd : domOkS ops m = true) {j : Nat} {o : Oper} (ho : ops[j]? = some o) (hj : m < j) : ∃ e ∈ o.after, Region.binds .any e = true ∧ m ≤ e.on ∧ e.on < j := by
  unfold domOkS at hd
  rw [Bool.and_eq_true, List.all_eq_true, List.all_eq_true] at hd
  have h1 := hd.2 j (by rw [List.mem_range]; exact (Array.getElem?_eq_some_iff.1 ho).1)
  rw [ho] at h1
  simp only [Option.map_some, Option.getD_some, Bool.or_eq_true, Nat.ble_eq, Array.any_eq_true, Bool.and_eq_true, Nat.blt_eq] at h1
  rcases h1 with h1 | ⟨x, hx, ⟨hb, h2⟩, h3⟩
  · omega
  · exact ⟨_, Array.getElem_mem hx, hb, h2, h3⟩
/-- All that one comes behind is listed. -/
def Due (ops : Array Oper) (L : Array Bool) (j : Nat) : Prop := ∃ o, ops[j]? = some o ∧ ∀ e ∈ o.after, Region.binds .any e = true → L.getD e.on false = true
theorem Due.down {m : Nat} (hd : domOkS ops m = true) {L : Array Bool} (hL : Down ops L) (hin : ∀ k, L.getD k false = true → ∃ o, ops[k]? = some o) : ∀ j, m ≤ j → Due ops L j → Due ops L m := by
  intro j
  induction j using Nat.strongRecOn with
  | _ j ih =>
    intro hj h
    by_cases hjm : j = m
    · subst hjm; exact h
    · obtain ⟨o, ho, hall⟩ := h
      obtain ⟨e, he, hb, h1, h2⟩ := domS_back hd ho (by omega)
      have h3 := hall e he hb
      obtain ⟨o2, ho2⟩ := hin _ h3
      exact ih e.on h2 h1 ⟨o2, ho2, hL _ _ ho2 h3⟩
theorem domS_all {m : Nat} (hd : domOkS ops m = true) {L : Array Bool} (hL : Down ops L) (hz : Due ops L m) : ∀ k i, m - i = k → i < m → L.getD i false = true := by
  intro k
  induction k using Nat.strongRecOn with
  | _ k ih =>
    intro i hk hi
    obtain ⟨j, o, hij, hj, ho, e, he, hb, hon⟩ := domS_next hd hi
    subst hon
    by_cases hjz : j = m
    · subst hjz
      obtain ⟨o', ho', hall⟩ := hz
      rw [ho'] at ho
      cases ho
      exact hall e he hb
    · exact hL j o ho (ih _ (by omega) j rfl (by omega)) e he hb
/-- What is listed is there, with all that it comes behind. -/
structure Listed (ops : Array Oper) (L : Array Bool) : Prop where
  down : Down ops L
  there : ∀ k, L.getD k false = true → ∃ o, ops[k]? = some o
theorem Listed.set {L : Array Bool} (h : Listed ops L) {j : Nat} (hj : j ∈ Region.ready .any ops L) : Listed ops (L.setIfInBounds j true) := by
  refine ⟨h.down.set hj, fun k hk => ?_⟩
  by_cases hkj : k = j
  · subst hkj
    obtain ⟨_, o, ho, _⟩ := mem_ready.1 hj
    exact ⟨o, ho⟩
  · have : (L.setIfInBounds j true).getD k false = L.getD k false := getD_set_ne false (Ne.symm hkj)
    exact h.there k (this ▸ hk)
theorem Listed.none (n : Nat) : Listed ops (Array.replicate n false) := by
  refine ⟨down_none n, fun k h => ?_⟩
  rw [Array.getD_eq_getD_getElem?, Array.getElem?_replicate] at h
  split at h <;> cases h
theorem anyS_first {D : World → Prop} {m : Nat} {Q : Act → World → Prop} {i : Nat} {oi : Oper} {v : Value} (hd : domOkS ops m = true) (hiz : i < m) (hi : ops[i]? = some oi) (hsel : ∀ (j : Nat) (o : Oper) cs b, ops[j]? = some o → o.op ≠ .select cs b) :
    ∀ (fuel : Nat) (listed : Array Bool) (a : Act) (w : World), D w → Listed ops listed →
      (∀ j oj, ops[j]? = some oj → j ≠ i → listed.getD j true = false → (∀ e ∈ oj.after, Region.binds .any e = true → e.on ≠ i) → oi.apart ops oj = true) →
      i ∈ Region.ready .any ops listed → YieldsD P ops D oi v a →
      anyS P ops D m Q fuel (listed.setIfInBounds i true) (a.put oi.dst v) w → anyS P ops D m Q (fuel + 1) listed a w := by
  intro fuel
  induction fuel with
  | zero =>
    intro listed a w hDw _ _ hr hy H
    refine ⟨fun h => (by rw [h] at hr; cases hr), fun j hj => ?_⟩
    by_cases hji : j = i
    · subst hji; exact hy.wpOp hi hDw ⟨.inr hDw, H⟩
    · have := ready_mono hj hji
      rw [H.1] at this
      cases this
  | succ fuel ih =>
    intro listed a w hDw hdn hfree hr hy H
    refine ⟨fun h => (by rw [h] at hr; cases hr), fun j hj => ?_⟩
    by_cases hji : j = i
    · subst hji; exact hy.wpOp hi hDw ⟨.inr hDw, H⟩
    · have hjz : ¬ m ≤ j := fun h => by
        have h2 : Due ops listed j := (mem_ready.1 hj).2
        have h1 := domS_all hd hdn.down (h2.down hd hdn.down hdn.there j h) _ i rfl hiz
        have h0 := getD_ff (mem_ready.1 hr).1
        rw [h1] at h0
        cases h0
      have h1 := H.2 j (ready_mono hj hji)
      obtain ⟨hjun, oj, hoj, hall⟩ := mem_ready.1 hj
      have hnot : ∀ e ∈ oj.after, Region.binds .any e = true → e.on ≠ i := fun e he hb heq => by
        have h1 := hall e he hb
        have h0 := (mem_ready.1 hr).1
        rw [heq] at h1
        rw [getD_ff h0] at h1
        cases h1
      have h2 := wpOp_putD hoj (hfree j oj hoj hji hjun hnot) (fun cs b => hsel i oi cs b hi) (fun cs b => hsel j oj cs b hoj) hy h1
      have hfree' : ∀ k ok, ops[k]? = some ok → k ≠ i → (listed.setIfInBounds j true).getD k true = false →
          (∀ e ∈ ok.after, Region.binds .any e = true → e.on ≠ i) → oi.apart ops ok = true := fun k ok hk hki hun hno => by
        refine hfree k ok hk hki ?_ hno
        by_cases hjk : j = k
        · subst hjk; exact hjun
        · rw [getD_set_ne true hjk] at hun; exact hun
      refine wpOp_mono (fun a' w' h3 => ?_) h2
      have hDw' : D w' := h3.2.1.resolve_left hjz
      refine ⟨.inr hDw', ih (listed.setIfInBounds j true) a' w' hDw' (hdn.set hj) hfree' (ready_mono hr (Ne.symm hji)) h3.1 ?_⟩
      rw [Array.setIfInBounds_comm _ _ hji]
      exact h3.2.2
def planOkS (ops : Array Oper) (m : Nat) (k2 : Plan) : Nat → Array Bool → Plan → Bool
  | n, listed, .nil => headIn m listed && planOk ops n listed k2
  | n + 1, listed, .q i k => Nat.blt i m && Region.free .any ops listed i && (Region.ready .any ops listed).contains i && planOkS ops m k2 n (listed.setIfInBounds i true) k
  | n + 1, listed, .e i k => (Region.ready .any ops listed == [i]) && planOkS ops m k2 n (listed.setIfInBounds i true) k
  | n + 1, listed, .two i j k h => (Region.ready .any ops listed == [i, j]) && planOkS ops m k2 n (listed.setIfInBounds i true) k && planOkS ops m k2 n (listed.setIfInBounds j true) h
  | 0, _, _ => false
/-- What is to be shown ahead of a region's other part. -/
def RestOf (P : Program) (ops : Array Oper) (k2 : Plan) (Q : Exit → Act → World → Prop) : Exit → Act → World → Prop := fun _ a w => ∃ D : World → Prop, D w ∧ planW P ops (Q .normal) k2 D a w
theorem planW.anyS {Q : Exit → Act → World → Prop} {m : Nat} {k2 : Plan} (hs : Region.noSelect ops = true) (hd : domOkS ops m = true) : ∀ (n : Nat) (ix : Plan) (D : World → Prop) (listed : Array Bool) (a : Act) (w : World), planOkS ops m k2 n listed ix = true → D w → Listed ops listed →
    planW P ops (RestOf P ops k2 Q .normal) ix D a w → Proofs.Ytjbikemecdlolaa.anyS P ops D m (Q .normal) n listed a w
  | n, .nil, D, listed, a, w, hok, hD, hdn, ⟨D2, h1, h2⟩ => by
    unfold planOkS at hok
    simp only [Bool.and_eq_true] at hok
    exact anyD.toS _ _ _ _ hok.1 (planW.anyD hs n k2 D2 _ _ _ hok.2 h1 h2)
  | n + 1, .q i ix, D, listed, a, w, hok, hD, hdn, ⟨o, v, hi, hy, h⟩ => by
    simp only [planOkS, Bool.and_eq_true, Nat.blt_eq] at hok
    have hrd : i ∈ Region.ready .any ops listed := by simpa using hok.1.2
    exact anyS_first hd hok.1.1.1 hi (Region.noSelect_spec hs) n listed a w hD hdn (Region.free_spec hi hok.1.1.2) hrd hy (planW.anyS hs hd n ix D _ _ _ hok.2 hD (hdn.set hrd) h)
  | n + 1, .e i ix, D, listed, a, w, hok, hD, hdn, h => by
    simp only [planOkS, Bool.and_eq_true, beq_iff_eq] at hok
    refine ⟨fun h0 => (by rw [hok.1] at h0; cases h0), fun j hj => ?_⟩
    have hj0 := hj
    rw [hok.1] at hj
    simp only [List.mem_singleton] at hj
    subst hj
    exact wpOp_mono (fun a' w' ⟨D', hD', hw', h'⟩ => ⟨.inr (hD' _ hw'), anyS.mono hD' _ _ _ _ (planW.anyS hs hd n ix D' _ a' w' hok.2 hw' (hdn.set hj0) h')⟩) h
  | n + 1, .two i j k r, D, listed, a, w, hok, hD, hdn, h => by
    simp only [planOkS, Bool.and_eq_true, beq_iff_eq] at hok
    refine ⟨fun h0 => (by rw [hok.1.1] at h0; cases h0), fun q hq => ?_⟩
    have hq0 := hq
    rw [hok.1.1] at hq
    simp only [List.mem_cons, List.not_mem_nil, or_false] at hq
    rcases hq with rfl | rfl
    · exact wpOp_mono (fun a' w' ⟨D', hD', hw', h'⟩ => ⟨.inr (hD' _ hw'), anyS.mono hD' _ _ _ _ (planW.anyS hs hd n k D' _ a' w' hok.1.2 hw' (hdn.set hq0) h')⟩) h.1
    · exact wpOp_mono (fun a' w' ⟨D', hD', hw', h'⟩ => ⟨.inr (hD' _ hw'), anyS.mono hD' _ _ _ _ (planW.anyS hs hd n r D' _ a' w' hok.2 hw' (hdn.set hq0) h')⟩) h.2
theorem wp_region_planS {id m : Nat} {k2 : Plan} {a : Act} {w : World} {Q : Exit → Act → World → Prop} (D : World → Prop) (ix : Plan) (hm : P.follows .mixedOrders = true)
    (hok : (Region.noSelect ops && domOkS ops m && planOkS ops m k2 ops.size (Array.replicate ops.size false) ix) = true) (hD : D w.drew)
    (h : planW P ops (RestOf P ops k2 Q .normal) ix D a w.drew) : (Code.region id ops true).wp P Q a w := by
  simp only [Bool.and_eq_true] at hok
  refine wp_region_any hm ?_
  exact anyS.wpAny _ _ _ _ (planW.anyS hok.1.1 hok.1.2 _ ix D _ a _ hok.2 hD (Listed.none _) h)
end
end Go.Proofs.Ytjbikemecdlolaa
namespace Go.Proofs.Ytjbikemecdlolaa.A
open Go.RowKit
section
variable {P : Program} {n : Nat} {W : Wd} {σ τ : Blks} {l : Slots} {X : List Nat} {x y : Operand} {d : Option Nat} {ty t t' e : TypeId} {pos : String} {aft : Array Edge} {g : Option (Nat × Bool)} {A : Abs} {tab : List (Nat × TI)} {ops : Array Oper} {Q : Exit → Act → World → Prop} {v : Value} {xs : List (List Abs)} {s q : Nat} {a b : Int}
/-- A region that draws, in two parts: what the second part changes, the first may read. -/
theorem SC.drawS {id : Nat} (m : Nat) (X : List Nat) (ix k2 : Plan) (hm : P.follows .mixedOrders = true)
    (hok : (Region.noSelect ops && domOkS ops m && planOkS ops m k2 ops.size (Array.replicate ops.size false) ix) = true) (h : SX P ops ix X (St n W σ l) (RestOf P ops k2 Q)) : SC P (.region id ops true) (St n W σ l) Q := fun a w hs =>
  wp_region_planS (fun w' => Ext X w.drew w') ix hm hok (Ext.refl _) (h a _ hs.drew)
theorem SE.rest {k2 : Plan} (X : List Nat) (h : SX P ops k2 X (St n W σ l) Q) : SE .normal (St n W σ l) (RestOf P ops k2 Q) := fun a w hs => ⟨fun w' => Ext X w w', Ext.refl w, h a w hs⟩
theorem repss_set {K : List Nat} {w : World} {ys : List Abs} {vs : List Value} (hy : reps K w ys vs) (hv : vs.length = s) : ∀ {xs : List (List Abs)} {us : List Value} {q : Nat}, repss K w s xs us → q < xs.length → repss K w s (xs.set q ys) (us.take (q * s) ++ vs ++ us.drop (q * s + s))
  | [], _, _, _, h => by simp at h
  | c :: xs, _, 0, ⟨u1, u2, h1, h2, h3, h4⟩, _ => by
    subst h1
    refine ⟨vs, u2, ?_, hv, hy, h4⟩
    simp [← h2]
  | c :: xs, _, q + 1, ⟨u1, u2, h1, h2, h3, h4⟩, hq => by
    subst h1
    have h5 := repss_set hy hv h4 (q := q) (by simpa using hq)
    refine ⟨u1, _, ?_, h2, h3, h5⟩
    have e1 : (q + 1) * s = u1.length + q * s := by rw [Nat.succ_mul]; omega
    rw [e1, Nat.add_assoc, List.take_length_add_append, List.drop_length_add_append]
    simp
/-- An element of a row of the call's own is another one then. -/
theorem Eff.setOwn (hT : TabOk P tab) {i : TI} {ys : List Abs} (ht : ti tab t = some i) (hx : look l x = some (.v (eptr v (q * s)))) (hy : look l y = some A) (hu : Upd (own e s v xs) (own e s v (xs.set q ys)) σ τ) (hc : cellsA A = ys) (hs : Nat.beq i.size s = true) (hl : Nat.beq ys.length s = true) (hq : q < xs.length) (h1 : ones ys = true) :
    Eff P n W σ l v.ownBlock.toList ⟨d, .store t x y, ty, pos, aft, g⟩ fun u τ' => u = .v undef ∧ τ' = τ := fun ac w hst => by
  have hs := Nat.eq_of_beq_eq_true hs
  have hl := Nat.eq_of_beq_eq_true hl
  obtain ⟨us, hown, hr⟩ : (ownPc e s v xs).p _ w := hst.mem.hold _ hu.mem
  have hry := cellsA_rep (hst.eval hy)
  rw [hc] at hry
  have hlen := reps_length hry
  have hone := ones_reps hry h1
  rcases hown.2 with ⟨h, h0⟩ | ⟨gb, cap, cur, hv, hbase, hg, hn, hcap, hsz, htk⟩
  · omega
  · subst hv
    have h2 := (hT t _ ht).sizeOf (w := w)
    have hb1 : q * s + s ≤ xs.length * s := by rw [← Nat.succ_mul]; exact Nat.mul_le_mul_right _ hq
    have hb2 : xs.length * s ≤ cap * s := Nat.mul_le_mul_right _ hn
    have hrun := run_storeCells_at (P := P) gb (0 + q * s) e (cellsL (ac.eval y)) 0 cur w hg (by omega) hone
    have e0 : 0 + q * s + 0 = q * s := by omega
    rw [e0] at hrun
    have hcl : cur.toList.length = cur.size := by simp
    have hle : (cellsL (ac.eval y)).length = s := by omega
    have hxx : Ext (Value.ownBlock (.slice (some ⟨gb, 0, none⟩) xs.length cap)).toList w (w.setRow gb (cur.toList.take (q * s) ++ cellsL (ac.eval y) ++ cur.toList.drop (q * s + (cellsL (ac.eval y)).length)).toArray) := (Ext.refl w).setRow (.inl (by simp [Value.ownBlock])) _
    have hnew : (cur.toList.take (q * s) ++ cellsL (ac.eval y) ++ cur.toList.drop (q * s + (cellsL (ac.eval y)).length)).take (xs.length * s) = us.take (q * s) ++ cellsL (ac.eval y) ++ us.drop (q * s + s) := by
      rw [← htk, hle]
      apply List.ext_getElem?
      intro j
      simp only [List.getElem?_take, List.getElem?_append, List.length_append, List.length_take, List.getElem?_drop, hle]
      grind
    have hm := hst.mem.upd hu hxx own_nodup (fun k hk => .inl hk) rfl fun hca => ⟨us.take (q * s) ++ cellsL (ac.eval y) ++ us.drop (q * s + s), ⟨?_, .inr ⟨gb, cap, _, by rw [List.length_set], hbase, setRow_heap w gb cur _ e (0, 0) hg, by rw [List.length_set]; exact hn, hcap, ?_, ?_⟩⟩, repss_carry hca _ _ _ (repss_set hry (by omega) hr hq)⟩
    · refine ⟨undef, _, _, _, ⟨rfl, rfl⟩, hxx, rfl, hm.1, hm.2, .inr ⟨rfl, ?_⟩⟩
      have hcs := cellsL_eq (ac.eval y)
      have hle2 : (cellsL (ac.eval y)).length = i.size := by omega
      have hx2 : ac.eval x = .pointer (some ⟨gb, 0 + q * s, none⟩) := hst.plain hx
      simp [execOp, hx2, Instr.storeAt, Instr.sureAddr, storeVar, Sem.run_bind, hcs, h2, hle2, hrun, Result.andThen]
      first | rfl | (simp only [Nat.zero_add] at hrun; simp [hle2, hrun])
    · have h5 := hown.1
      simp only [List.length_append, List.length_take, List.length_drop, List.length_set]
      omega
    · simp only [List.size_toArray, List.length_append, List.length_take, List.length_drop]
      omega
    · rw [List.length_set]
      simpa using hnew
end
end Go.Proofs.Ytjbikemecdlolaa.A
/-
  Sums: what the document's answer comes to, as plain functions; the same as the program's.
-/
namespace Go.Proofs.Ytjbikemecdlolaa.A
open Go.RowKit

def an64 (x y : Nat) : Nat := (x % 18446744073709551616) &&& (y % 18446744073709551616)
section
variable {P : Program} {n : Nat} {W : Wd} {σ τ : Blks} {l : Slots} {X : List Nat} {x y z : Operand} {d : Option Nat} {ty t t' e : TypeId} {pos : String} {aft : Array Edge} {g : Option (Nat × Bool)} {k k' : IntKind} {a b : Int} {p q : Nat} {c : Wo}
theorem wrap64 (v : Int) : IntKind.u64.wrap v = v % 18446744073709551616 := by simp [IntKind.wrap, IntKind.bits, IntKind.signed]
theorem ofInt64 (p : Nat) : BitVec.ofInt IntKind.u64.bits ((p : Nat) : Int) = BitVec.ofNat 64 p := by
  show BitVec.ofInt 64 ((p : Nat) : Int) = _
  rw [BitVec.ofInt_natCast]
theorem Val.an64 (hx : look l x = some (.v (.int .u64 a))) (hy : look l y = some (.v (.int .u64 b))) (p q : Nat) (ha : a = (p : Nat)) (hb : b = (q : Nat)) : Val P n W σ l X ⟨d, .binOp .and t x y t', ty, pos, aft, g⟩ (wrd (an64 p q)) := by
  subst ha hb
  refine Val.bitI hx hy (fun w => ?_) rfl
  simp only [Op.intBits, ofInt64]
  refine congrArg (fun r => Result.ok (Value.int .u64 r) w) ?_
  rw [wrap64]
  have h : (BitVec.ofNat 64 p &&& BitVec.ofNat 64 q).toNat = Proofs.Ytjbikemecdlolaa.A.an64 p q := by rw [BitVec.toNat_and, BitVec.toNat_ofNat, BitVec.toNat_ofNat]; rfl
  have h2 := (BitVec.ofNat 64 p &&& BitVec.ofNat 64 q).isLt
  show (((BitVec.ofNat 64 p &&& BitVec.ofNat 64 q).toNat : Nat) : Int) % _ = _
  rw [← h]
  omega
end
/-! ### Constants -/
def mulHi (x y : Nat) : Nat :=
  let w0 := an64 x 4294967295 * an64 y 4294967295 % 18446744073709551616
  let t := (x / 2 ^ 32 * an64 y 4294967295 % 18446744073709551616 + w0 / 2 ^ 32) % 18446744073709551616
  ((x / 2 ^ 32 * (y / 2 ^ 32) % 18446744073709551616 + t / 2 ^ 32) % 18446744073709551616 + (an64 t 4294967295 + an64 x 4294967295 * (y / 2 ^ 32) % 18446744073709551616) % 18446744073709551616 / 2 ^ 32) % 18446744073709551616
def gt2 (hi lo p : Nat) : Bool := Nat.blt p hi || (Nat.beq hi p && Nat.blt 0 lo)
def above (x p : Nat) (cube : Bool) : Bool :=
  match cube with
  | false => gt2 (mulHi x x) (x * x % 18446744073709551616) p
  | true => gt2 ((mulHi x x * x % 18446744073709551616 + mulHi (x * x % 18446744073709551616) x) % 18446744073709551616) (x * x % 18446744073709551616 * x % 18446744073709551616) (p * 2 ^ 32 % 18446744073709551616)
abbrev ws (l : List Wo) : List (List Abs) := l.map fun p => [u32 p]
end Go.Proofs.Ytjbikemecdlolaa.A
/-
  The second engine: slices of arrays in blocks; bytes mixed.
-/
namespace Go.Proofs.Ytjbikemecdlolaa.A
open Go.RowKit
section
variable {P : Program} {n : Nat} {W : Wd} {σ τ : Blks} {l : Slots} {X : List Nat} {x y z : Operand} {d : Option Nat} {ty t t' e : TypeId} {pos : String} {aft : Array Edge} {g : Option (Nat × Bool)} {A : Abs} {tab : List (Nat × TI)} {ops : Array Oper} {Q : Exit → Act → World → Prop} {k : IntKind}
end
/-! ### Rows of words -/
end Go.Proofs.Ytjbikemecdlolaa.A
/-
  The second engine: rows of the call's own, cut; 'clear'.
-/
namespace Go.Proofs.Ytjbikemecdlolaa.A
open Go.RowKit

/-- The first q elements of a row. -/
def cutTo : Value → Nat → Value
  | .slice a _ c, q => .slice a q c
  | v, _ => v
theorem cutTo_block (v : Value) (q : Nat) : (cutTo v q).ownBlock = v.ownBlock := by
  unfold cutTo
  split
  · next a n c => cases a <;> rfl
  · rfl
section
variable {P : Program} {n : Nat} {W : Wd} {σ τ : Blks} {l : Slots} {X : List Nat} {x y z : Operand} {d : Option Nat} {ty t e e' : TypeId} {pos : String} {aft : Array Edge} {g : Option (Nat × Bool)} {v u : Value} {k : IntKind} {tab : List (Nat × TI)} {xs ys : List (List Abs)} {s q : Nat} {ops : Array Oper} {rest : List Oper} {Q : Exit → Act → World → Prop}
/-- 's[:q]' of a row of one's own. -/
theorem Val.sliceOwnHi (hT : TabOk P tab) {j : TI} (hu : P.underlying t = some (.slice e)) (hj : ti tab e = some j) (hx : look l x = some (.v v)) (hb : isOwn σ e' s v xs) {r : Int} (hy : look l y = some (.v (.int k r))) (hr : r = (q : Nat)) (hq : q ≤ xs.length) :
    Val P n W σ l X ⟨d, .slice t x none (some y) none, ty, pos, aft, g⟩ (.v (cutTo v q)) := fun a w hs _ => by
  subst hr
  obtain ⟨us, hr1, hr2⟩ := hs.mem.ownR hb
  obtain ⟨A', c, hsh, h3, _⟩ := hr1.shape
  refine ⟨_, rfl, fun w' _ => ?_⟩
  have h7 := (hT _ _ hj).sizeOf (w := w')
  have e1 : a.eval x = .slice A' xs.length c := (hs.plain hx).trans hsh
  have e2 : a.eval y = .int k ((q : Nat) : Int) := hs.plain hy
  rw [hsh]
  have hqc : q ≤ c := by omega
  simp [execOp, Instr.sliceAt, Instr.slice, Instr.sliceBounds, Instr.sliceBound, asIntOf, e1, e2, run_underlying hu, Sem.run_bind, Result.andThen, h7, hqc, Addr.add, cutTo]
  try (cases A' <;> simp)
theorem repss_rep {K : List Nat} {w : World} {z : Value} : ∀ m : Nat, repss K w 1 (List.replicate m [.v z]) (List.replicate m z)
  | 0 => rfl
  | m + 1 => ⟨[z], List.replicate m z, rfl, rfl, ⟨z, [], rfl, rfl, rfl⟩, repss_rep m⟩
end
/-- Pieces that are read alone. -/
def RdAll (σ : Blks) : Prop := ∀ x ∈ σ, (∃ b t cs, x = .rd b t cs) ∨ ∃ c, x = .rdpc c
theorem RdAll.reads {σ τ : Blks} (h : RdAll τ) (hs : ∀ x ∈ τ, x ∈ σ) : Reads σ τ := by
  induction τ with
  | nil => exact .nil
  | cons x τ ih =>
    have h1 := ih (fun y hy => h y (List.mem_cons_of_mem _ hy)) (fun y hy => hs y (List.mem_cons_of_mem _ hy))
    have hx := hs x List.mem_cons_self
    rcases h x List.mem_cons_self with ⟨b, t, cs, rfl⟩ | ⟨c, rfl⟩
    · exact .rd hx h1
    · exact .rdpc hx h1
end Go.Proofs.Ytjbikemecdlolaa.A
/-
  The second engine: regions that draw and make memory of their own.
-/
namespace Go.Proofs.Ytjbikemecdlolaa.A
open Go.RowKit

section
variable {P : Program} {n : Nat} {W : Wd} {σ σ0 : Blks} {l : Slots} {X0 : List Nat} {ops : Array Oper} {Q : Exit → Act → World → Prop} {ix : Plan} {o : Oper}
/-- The pieces that the region has made stand ahead: what follows may change them. -/
theorem SX.effN (ν : Blks) (X0 : List Nat) {i : Nat} {Y : List Nat} {R : Abs → Blks → Prop} (hi : ops[i]? = some o) (hv : Eff P n W σ l Y o R) (hσ : σ = ν ++ σ0) (hY : ∀ k ∈ Y, k ∈ mids ν ++ X0) (hg : gd ops l o = some true) (hd : lt? o.dst n = true)
    (k : ∀ y τ, R y τ → ∃ ν' : Blks, τ = ν' ++ σ0 ∧ SX P ops ix (mids ν' ++ X0) (St n W τ (put? l o.dst y)) Q) : SX P ops (.e i ix) (mids ν ++ X0) (St n W σ l) Q := fun a w hs => by
  unfold planW wpOp
  simp only [hi, hs.wanted hg, if_true]
  refine .inl ?_
  unfold Oper.wp
  obtain ⟨v, w', y, τ, hR, hx, hr, hm, hc, hrun⟩ := hv a w hs
  obtain ⟨ν', hτ, hk⟩ := k y τ hR
  have hnew : ∀ k ∈ mids ν' ++ X0, k ∈ mids ν ++ X0 ∨ w.heap.size ≤ k := fun k hk => by
    rcases List.mem_append.1 hk with hk | hk
    · have hkt : k ∈ mids τ := by rw [hτ, mids_append]; exact List.mem_append_left _ hk
      rcases Nat.lt_or_ge k w.heap.size with h1 | h1
      · have h2 : k ∈ mids σ ++ W.G := Classical.byContradiction fun hn => hc.out k hn h1 (List.mem_append_left _ hkt)
        rcases List.mem_append.1 h2 with h2 | h2
        · rw [hσ, mids_append] at h2
          rcases List.mem_append.1 h2 with h2 | h2
          · exact .inl (List.mem_append_left _ h2)
          · have hnd := hm.nodup
            rw [hτ, mids_append, List.nodup_append] at hnd
            exact absurd rfl (hnd.2.2 k hk k h2)
        · exact absurd h2 (hm.sep k hkt)
      · exact .inr h1
    · exact .inl (List.mem_append_right _ hk)
  have hinv : ∀ w2, Ext (mids ν' ++ X0) w' w2 → Ext (mids ν ++ X0) w w2 := fun w2 h2 => (hx.mono (fun k hk => .inl (hY k hk))).trans h2 hnew
  rcases hrun with hrun | ⟨rfl, hrun⟩
  · rw [hrun]; exact ⟨fun w2 => Ext (mids ν' ++ X0) w' w2, hinv, Ext.refl w', hk _ _ ((hs.to hm hc).put hd hr)⟩
  · rw [hrun]; exact ⟨fun w2 => Ext (mids ν' ++ X0) w' w2, hinv, Ext.refl w', hk _ _ ((hs.to hm hc).put hd hr)⟩
theorem own_mid {e : TypeId} {s : Nat} {v : Value} {xs : List (List Abs)} {ν : Blks} (h : own e s v xs ∈ ν) : ∀ k ∈ v.ownBlock.toList, k ∈ mids ν ++ [] := fun k hk => by
  rw [List.append_nil]
  exact mids_mem.2 ⟨_, h, hk⟩
end
/-- A row made that is at once a row read. -/
theorem Eff.frozen {P : Program} {n : Nat} {W : Wd} {σ : Blks} {l : Slots} {Y : List Nat} {o : Oper} {e : TypeId} {s : Nat} {zs : List (List Abs)} (pre : Blks) {post : Blks} (hE : Eff P n W σ l Y o fun r τ => ∃ u, r = .v u ∧ τ = pre ++ own e s u zs :: post) : Eff P n W σ l Y o fun r τ => r = .sl s zs ∧ τ = pre ++ post := fun a w h => by
  obtain ⟨v, w', y, τ, ⟨u, rfl, rfl⟩, hx, hr, hm, hc, hrun⟩ := hE a w h
  have hv : v = u := hr
  subst hv
  have hs := hm.sub (τ := pre ++ post) (List.Sublist.append (List.Sublist.refl _) (List.sublist_cons_self _ _))
  exact ⟨v, w', _, _, ⟨rfl, rfl⟩, hx, own_sl hm, hs.1, hc.trans hs.2, hrun⟩
/-- A block's cells said otherwise. -/
theorem Re.cast {b : Nat} {t : TypeId} {cs ds : List Abs} (h : Casts cs ds) : Re [.blk b t cs] [.blk b t ds] := ⟨⟨[], by simp [mids, It.mids]⟩, by simp [It.rids], fun K w hx y hy => by
  rw [List.mem_singleton.1 hy]
  obtain ⟨us, h1, h2⟩ := hx (.blk b t cs) (by simp)
  exact ⟨us, h1, h K w us h2⟩⟩
theorem Re.cons {xs ys : Blks} {x : It} (hx : x.rids = []) (h : Re xs ys) : Re (x :: xs) (x :: ys) where
  ids := by
    obtain ⟨a, ha⟩ := h.ids
    refine ⟨a, ?_⟩
    rw [mids_cons, mids_cons, List.append_assoc]
    exact List.Perm.append_left _ ha
  rd := fun y hy => by
    rcases List.mem_cons.1 hy with rfl | hy
    · exact hx
    · exact h.rd y hy
  hh := fun K w hk y hy => by
    rcases List.mem_cons.1 hy with rfl | hy
    · exact hk _ List.mem_cons_self
    · exact h.hh K w (fun z hz => hk z (List.mem_cons_of_mem _ hz)) y hy
theorem Re.perm {xs ys : Blks} (h : xs.Perm ys) (hr : ∀ x ∈ xs, x.rids = []) : Re xs ys := ⟨⟨[], by rw [List.append_nil]; exact mids_perm h⟩, fun y hy => hr y (h.mem_iff.2 hy), fun K w hx y hy => hx y (h.mem_iff.2 hy)⟩
end Go.Proofs.Ytjbikemecdlolaa.A
/-
  The second engine: what values are, kept as a piece; calls that change pieces here and there.
-/
namespace Go.Proofs.Ytjbikemecdlolaa.A
open Go.RowKit

/-- These values are these trees. -/
def factsPc (l : List (Value × Abs)) : Pc where
  ids := []
  p := fun K w => ∀ x ∈ l, rep K w x.2 x.1
  carry := fun _ _ _ _ hc _ h x hx => rep_carry hc _ _ (h x hx)
  lt := fun _ _ _ k hk => by cases hk
abbrev facts (l : List (Value × Abs)) : It := .pc (factsPc l)
section
variable {P : Program} {n : Nat} {W : Wd} {σ τ : Blks} {l : Slots} {X : List Nat} {ops : Array Oper} {rest : List Oper} {Q : Exit → Act → World → Prop} {ix : Plan} {L L' : List (Value × Abs)} {t : Nat} {A : Abs} {u : Value}
theorem Re.factsLess (h : ∀ x ∈ L', x ∈ L) : Re [facts L] [facts L'] := ⟨⟨[], by simp [mids, It.mids, factsPc]⟩, by simp [It.rids], fun K w hk y hy => by
  rw [List.mem_singleton.1 hy]
  intro x hx
  have h1 : (facts L).holds K w := hk _ List.mem_cons_self
  exact h1 x (h x hx)⟩
theorem fact_rep {w0 w : World} {F G : List Nat} (h : Mem w0 F G σ w) (hf : It.pc (factsPc L) ∈ σ ∨ It.rdpc (factsPc L) ∈ σ) (hm : (u, A) ∈ L) : rep (mids σ ++ G) w A u := by
  rcases hf with hf | hf
  · exact (h.hold _ hf : ∀ x ∈ L, rep (mids σ ++ G) w x.2 x.1) (u, A) hm
  · exact (h.hold _ hf : ∀ x ∈ L, rep (mids σ ++ G) w x.2 x.1) (u, A) hm
/-- A value is the tree that was kept. -/
theorem SL.fact (hs : slot l t = some (.v u)) (hf : It.pc (factsPc L) ∈ σ ∨ It.rdpc (factsPc L) ∈ σ) (hm : (u, A) ∈ L) (k : SL P ops rest (St n W σ ((t, A) :: l)) Q) : SL P ops rest (St n W σ l) Q := fun a w h =>
  k a w (h.cast hs fun x hx => by rw [show x = u from hx]; exact fact_rep h.mem hf hm)
theorem SX.fact (hs : slot l t = some (.v u)) (hf : It.pc (factsPc L) ∈ σ ∨ It.rdpc (factsPc L) ∈ σ) (hm : (u, A) ∈ L) (k : SX P ops ix X (St n W σ ((t, A) :: l)) Q) : SX P ops ix X (St n W σ l) Q := fun a w h =>
  k a w (h.cast hs fun x hx => by rw [show x = u from hx]; exact fact_rep h.mem hf hm)
theorem SC.fact {c : Code} (hs : slot l t = some (.v u)) (hf : It.pc (factsPc L) ∈ σ ∨ It.rdpc (factsPc L) ∈ σ) (hm : (u, A) ∈ L) (k : SC P c (St n W σ ((t, A) :: l)) Q) : SC P c (St n W σ l) Q := fun a w h =>
  k a w (h.cast hs fun x hx => by rw [show x = u from hx]; exact fact_rep h.mem hf hm)
/-- What a value yields, said as the tree that was kept. -/
theorem Val.fact {o : Oper} (h : Val P n W σ l X o (.v u)) (hf : It.pc (factsPc L) ∈ σ ∨ It.rdpc (factsPc L) ∈ σ) (hm : (u, A) ∈ L) : Val P n W σ l X o A := fun a w hs hX => by
  obtain ⟨v, h1, h2⟩ := h a w hs hX
  exact ⟨v, by rw [show v = u from h1]; exact fact_rep hs.mem hf hm, h2⟩
end
/-! ### Maps whose values are trees: the map's own values, and what they are -/
section
variable {α β : Type} [DecidableEq α] {tm tm' : List (α × (Value × β))} {a c : α} {u : Value} {x : β}
def rawM (tm : List (α × (Value × β))) : List (α × Value) := tm.map fun e => (e.1, e.2.1)
def facM (enc : β → Abs) (tm : List (α × (Value × β))) : List (Value × Abs) := tm.map fun e => (e.2.1, enc e.2.2)
theorem rawM_get : ∀ (tm : List (α × (Value × β))), aget (rawM tm) a = (aget tm a).map (·.1)
  | [] => rfl
  | e :: tm => by
    have h := rawM_get tm
    unfold rawM aget at h ⊢
    rw [List.map_cons, List.find?_cons, List.find?_cons]
    by_cases he : e.1 = a
    · simp [he]
    · simpa [he] using h
omit [DecidableEq α] in
theorem rawM_keys (tm : List (α × (Value × β))) : (rawM tm).map (·.1) = tm.map (·.1) := by
  unfold rawM
  rw [List.map_map]
  rfl
theorem rawM_put (tm : List (α × (Value × β))) (a : α) (u : Value) (x : β) : rawM (aput tm a (u, x)) = aput (rawM tm) a u := by
  have hg := rawM_get tm (a := a)
  unfold aput
  rw [hg, Option.isSome_map]
  split
  · unfold rawM
    rw [List.map_map, List.map_map]
    refine List.map_congr_left fun e _ => ?_
    show ((if e.1 = a then (a, (u, x)) else e).1, (if e.1 = a then (a, (u, x)) else e).2.1) = if e.1 = a then (a, u) else (e.1, e.2.1)
    split <;> rfl
  · unfold rawM
    rw [List.map_append]
    rfl
theorem rawM_del (tm : List (α × (Value × β))) (a : α) : rawM (adel tm a) = adel (rawM tm) a := by
  unfold rawM adel
  rw [List.filter_map]
  rfl
theorem facM_put {enc : β → Abs} (tm : List (α × (Value × β))) (a : α) (u : Value) (x : β) : ∀ y ∈ facM enc (aput tm a (u, x)), y ∈ (u, enc x) :: facM enc tm := by
  intro y hy
  obtain ⟨e, he, rfl⟩ := List.mem_map.1 hy
  unfold aput at he
  split at he
  · obtain ⟨d, hd, rfl⟩ := List.mem_map.1 he
    split
    · exact List.mem_cons_self
    · exact List.mem_cons_of_mem _ (List.mem_map.2 ⟨d, hd, rfl⟩)
  · rcases List.mem_append.1 he with he | he
    · exact List.mem_cons_of_mem _ (List.mem_map.2 ⟨e, he, rfl⟩)
    · rw [List.mem_singleton.1 he]; exact List.mem_cons_self
omit [DecidableEq α] in
theorem facM_sub {enc : β → Abs} (h : ∀ e ∈ tm', e ∈ tm) : ∀ y ∈ facM enc tm', y ∈ facM enc tm := by
  intro y hy
  obtain ⟨e, he, rfl⟩ := List.mem_map.1 hy
  exact List.mem_map.2 ⟨e, h e he, rfl⟩
theorem aget_in {γ : Type} : ∀ {m : List (α × γ)} {v : γ}, aget m a = some v → (a, v) ∈ m
  | [], v, h => by simp [aget] at h
  | e :: m, v, h => by
    unfold aget at h
    rw [List.find?_cons] at h
    by_cases he : e.1 = a
    · simp [he] at h
      obtain ⟨e1, e2⟩ := e
      dsimp only at h he
      subst h he
      exact List.mem_cons_self
    · simp only [he, decide_false] at h
      exact List.mem_cons_of_mem _ (aget_in (by unfold aget; exact h))
end
section
variable {α β : Type} [DecidableEq α] {tm : List (α × (Value × β))} {a : α} {P : Program} {n : Nat} {W : Wd} {σ : Blks} {l : Slots} {X : List Nat} {k e t ty : TypeId} {K : α → Value} {Good : α → Prop} {enc : β → Abs} {z0 : β} {zv : Value} {b : Nat} {A : Abs} {x y : Operand} {d : Option Nat} {pos : String} {aft : Array Edge} {g : Option (Nat × Bool)} {L : List (Value × Abs)}
end
section
variable {σ σ1 : Blks} {ι : Type} {τ' : ι → Blks} {K : Blks → ι → Prop}
theorem After.sub (φ : Blks) (hσ : σ.Perm (σ1 ++ φ)) (hr : ∀ x ∈ σ1, x.rids = []) (hk : ∀ z, ∃ ν : Blks, ν.Perm (τ' z ++ φ) ∧ K ν z) : After σ σ1 τ' K :=
  ⟨φ, ⟨by rw [← mids_append]; exact mids_perm hσ.symm, fun x hx => .inl ⟨hσ.mem_iff.2 (List.mem_append_left _ hx), hr x hx⟩, fun x hx => hσ.mem_iff.2 (List.mem_append_right _ hx)⟩, hk⟩
theorem After.deep (a b : Blks) (x : It) (hσ : σ = a ++ (b ++ (x :: σ1))) (hr : ∀ y ∈ σ1, y.rids = []) (k : ∀ z, K (a ++ (b ++ (x :: τ' z))) z) : After σ σ1 τ' K := by
  subst hσ
  have e : ∀ c : Blks, (a ++ (b ++ (x :: c))).Perm (c ++ (a ++ (b ++ [x]))) := fun c => by
    have h1 : a ++ (b ++ (x :: c)) = (a ++ (b ++ [x])) ++ c := by simp
    rw [h1]
    exact List.perm_append_comm
  exact After.sub (a ++ (b ++ [x])) (e σ1) hr fun z => ⟨_, e (τ' z), k z⟩
theorem After.last (a b : Blks) (hσ : σ = a ++ (b ++ σ1)) (hr : ∀ y ∈ σ1, y.rids = []) (k : ∀ z, K (a ++ (b ++ τ' z)) z) : After σ σ1 τ' K := by
  subst hσ
  have e : ∀ c : Blks, (a ++ (b ++ c)).Perm (c ++ (a ++ b)) := fun c => by
    have h1 : a ++ (b ++ c) = (a ++ b) ++ c := by simp
    rw [h1]
    exact List.perm_append_comm
  exact After.sub (a ++ b) (e σ1) hr fun z => ⟨_, e (τ' z), k z⟩
end
theorem Spec.keep {P : Program} {f : FuncId} {args : List Abs} {σ σr : Blks} {r : Abs} (h : Spec P f args σr (fun _ : Unit => []) (fun _ => r)) (hr : Reads σ σr) (hro : ∀ x ∈ σ, x.rids = []) : Spec P f args σ (fun _ : Unit => σ) (fun _ => r) := fun G w vals hm hv =>
  (h.after hm hv (After.pure hr (fun _ => rfl) (K := fun ν _ => ν = σ) (fun _ => rfl))).mono fun e w' ⟨z, u, ν, he, hx, ho, hm', hc, hr', hk⟩ => by
    subst hk
    exact ⟨(), u, he, hro, hm', hr'⟩
end Go.Proofs.Ytjbikemecdlolaa.A
/-
  The second engine: 'for k := range m', with entries struck in the rounds: the map and its iterator as one piece.
-/
namespace Go.Proofs.Ytjbikemecdlolaa.A
open Go.RowKit

/-- The map m in block b, ranged by the iterator in block r: of its entries 'rest' is still to come; 'cur' came last. -/
structure Rng {α β : Type} (w : World) (b r : Nat) (K : α → Value) (V : β → Value) (Good : α → Prop) (m rest : List (α × β)) (cur : Option (α × β)) (es : Array MapEntry) (clock since : Nat) (seen : Array Nat) (c0 : Nat) : Prop where
  hb : w.heap[b]? = some (.map es clock)
  he : es.toList.map (fun e => (e.key, e.val)) = m.map (fun p => (K p.1, V p.2))
  nd : (m.map (·.1)).Nodup
  good : ∀ p ∈ m, Good p.1
  born : ∀ e ∈ es.toList, e.born < clock
  bnd : (es.toList.map (·.born)).Nodup
  hr : w.heap[r]? = some (.mapIter (some b) since seen c0)
  old : ∀ e ∈ es.toList, e.born < since
  le : since ≤ c0
  le2 : since ≤ clock
  left : ∀ p, p ∈ rest ↔ ∃ (j : Nat) (e : MapEntry), m[j]? = some p ∧ es.toList[j]? = some e ∧ seen.contains e.born = false
  last : ∀ p, cur = some p → c0 = clock ∧ ∃ (e : MapEntry) (s' : Array Nat), e ∈ es.toList ∧ e.key = K p.1 ∧ e.val = V p.2 ∧ seen = s'.push e.born
def rngPc {α β : Type} (b r : Nat) (K : α → Value) (V : β → Value) (Good : α → Prop) (m rest : List (α × β)) (cur : Option (α × β)) : Pc where
  ids := [b, r]
  p := fun _ w => r ≠ b ∧ ∃ es clock since seen c0, Rng w b r K V Good m rest cur es clock since seen c0
  carry := fun _ _ _ _ _ hs ⟨hn, es, clock, since, seen, c0, h⟩ => ⟨hn, es, clock, since, seen, c0, { h with hb := (hs b (by simp)).trans h.hb, hr := (hs r (by simp)).trans h.hr }⟩
  lt := fun _ w ⟨_, es, clock, since, seen, c0, h⟩ k hk => by
    simp at hk
    rcases hk with rfl | rfl
    · exact heap_lt h.hb
    · exact heap_lt h.hr
theorem ex_map {w : World} {b : Nat} {o : Obj} (hb : b < w.heap.size) : Ext [b] w (Go.ChangeMaps.setBlock w b o) :=
  ⟨rfl, rfl, rfl, by simp [Go.ChangeMaps.setBlock], fun k _ hn => by
    have : b ≠ k := fun h => hn (by simp [h])
    simp [Go.ChangeMaps.setBlock, Array.getElem?_setIfInBounds_ne this]⟩
theorem sb_same {w : World} {b : Nat} {o : Obj} (hb : b < w.heap.size) : (Go.ChangeMaps.setBlock w b o).heap[b]? = some o := by
  simp [Go.ChangeMaps.setBlock, Array.getElem?_setIfInBounds_self, hb]
theorem sb_other {w : World} {b k : Nat} {o : Obj} (h : b ≠ k) : (Go.ChangeMaps.setBlock w b o).heap[k]? = w.heap[k]? := by
  simp [Go.ChangeMaps.setBlock, Array.getElem?_setIfInBounds_ne h]
section
variable {α β : Type} {w : World} {b r : Nat} {K : α → Value} {V : β → Value} {Good : α → Prop} {m rest : List (α × β)} {cur : Option (α × β)} {es : Array MapEntry} {clock since : Nat} {seen : Array Nat} {c0 : Nat}
theorem enc_len {es : List MapEntry} (h : es.map (fun e => (e.key, e.val)) = m.map (fun p => (K p.1, V p.2))) : es.length = m.length := by
  have h3 := congrArg List.length h
  simpa using h3
theorem enc_at {es : List MapEntry} (h : es.map (fun e => (e.key, e.val)) = m.map (fun p => (K p.1, V p.2))) {j : Nat} {e : MapEntry} {p : α × β} (he : es[j]? = some e) (hp : m[j]? = some p) : e.key = K p.1 ∧ e.val = V p.2 := by
  have h1 : (es.map (fun e => (e.key, e.val)))[j]? = (m.map (fun p => (K p.1, V p.2)))[j]? := by rw [h]
  rw [List.getElem?_map, List.getElem?_map, he, hp] at h1
  simpa using h1
theorem nd_at {l : List (α × β)} (h : (l.map (·.1)).Nodup) {i j : Nat} {p q : α × β} (hi : l[i]? = some p) (hj : l[j]? = some q) : p.1 = q.1 ↔ i = j := by
  have hi2 : (l.map (·.1))[i]? = some p.1 := by rw [List.getElem?_map, hi]; rfl
  have hj2 : (l.map (·.1))[j]? = some q.1 := by rw [List.getElem?_map, hj]; rfl
  constructor
  · intro e
    have hlt : i < (l.map (·.1)).length := (List.getElem?_eq_some_iff.1 hi2).1
    exact (List.getElem?_inj hlt h).1 (by rw [hi2, hj2, e])
  · rintro rfl
    rw [hi] at hj
    cases hj
    rfl
theorem bn_at {l : List MapEntry} (h : (l.map (·.born)).Nodup) {i j : Nat} {p q : MapEntry} (hi : l[i]? = some p) (hj : l[j]? = some q) : p.born = q.born ↔ i = j := by
  have hi2 : (l.map (·.born))[i]? = some p.born := by rw [List.getElem?_map, hi]; rfl
  have hj2 : (l.map (·.born))[j]? = some q.born := by rw [List.getElem?_map, hj]; rfl
  constructor
  · intro e
    have hlt : i < (l.map (·.born)).length := (List.getElem?_eq_some_iff.1 hi2).1
    exact (List.getElem?_inj hlt h).1 (by rw [hi2, hj2, e])
  · rintro rfl
    rw [hi] at hj
    cases hj
    rfl
theorem Rng.sub (h : Rng w b r K V Good m rest cur es clock since seen c0) : ∀ p ∈ rest, p ∈ m := fun p hp => by
  obtain ⟨j, e, h1, _⟩ := (h.left p).1 hp
  exact List.mem_of_getElem? h1
theorem Rng.map (h : Rng w b r K V Good m rest cur es clock since seen c0) : MapOf w b K V Good m := ⟨es, clock, h.hb, h.he, h.nd, h.good, h.born, h.bnd⟩
/-- The step. -/
theorem Rng.next [DecidableEq α] {P : Program} (hne : r ≠ b) (h : Rng w b r K V Good m rest cur es clock since seen c0) (ty : TypeId) :
    (rest = [] ∧ (Instr.next (.pointer (some ⟨r, 0, none⟩)) false ty).run P w = .ok (.tuple #[.bool false]) w) ∨
    ∃ p ∈ rest, ∃ w', (Instr.next (.pointer (some ⟨r, 0, none⟩)) false ty).run P w = .ok (.tuple #[.bool true, K p.1, V p.2]) w' ∧ Ext [b, r] w w' ∧
      ∃ seen' c0', Rng w' b r K V Good m (rest.filter fun q => decide (q.1 ≠ p.1)) (some p) es clock since seen' c0' := by
  have hmem : ∀ e, e ∈ (leftOf es seen).toList ↔ e ∈ es.toList ∧ seen.contains e.born = false := fun e => by
    unfold leftOf
    rw [Array.toList_filter, List.mem_filter]
    cases seen.contains e.born <;> simp
  rcases run_next_at (P := P) w ty r b since c0 seen es clock h.hr h.hb h.old h.le with ⟨h0, hrun⟩ | ⟨e, he, w1, hw1, hrun⟩
  · refine .inl ⟨?_, hrun⟩
    rw [List.eq_nil_iff_forall_not_mem]
    intro p hp
    obtain ⟨j, e, _, h2, h3⟩ := (h.left p).1 hp
    have h4 := (hmem e).2 ⟨List.mem_of_getElem? h2, h3⟩
    have h5 : (leftOf es seen).toList = [] := List.length_eq_zero_iff.1 (by simpa using h0)
    rw [h5] at h4
    cases h4
  · obtain ⟨h1, h2⟩ := (hmem e).1 he
    obtain ⟨j, hj⟩ := List.getElem?_of_mem h1
    have hjl : j < es.toList.length := (List.getElem?_eq_some_iff.1 hj).1
    have hjm : j < m.length := by rw [← enc_len h.he]; exact hjl
    obtain ⟨p, hp⟩ : ∃ p, m[j]? = some p := ⟨_, List.getElem?_eq_getElem hjm⟩
    obtain ⟨hk, hv⟩ := enc_at h.he hj hp
    have hheap : w1.heap = w.heap := by rcases hw1 with rfl | rfl <;> rfl
    have hx1 : Ext [] w w1 := by
      rcases hw1 with rfl | rfl
      · exact Ext.refl _
      · exact (Ext.refl _).drew
    have hrl : r < w1.heap.size := by rw [hheap]; exact heap_lt h.hr
    refine .inr ⟨p, (h.left p).2 ⟨j, e, hp, hj, h2⟩, _, by rw [← hk, ← hv]; exact hrun, ?_, _, _, ⟨?_, h.he, h.nd, h.good, h.born, h.bnd, sb_same hrl, h.old, ?_, ?_, ?_, ?_⟩⟩
    · refine ⟨(ex_map hrl).os.trans hx1.os, (ex_map hrl).tape.trans hx1.tape, (ex_map hrl).output.trans hx1.output, Nat.le_trans hx1.size (ex_map hrl).size, fun k hk2 hn => ?_⟩
      rw [(ex_map hrl).block k (by rw [hheap]; exact hk2) (fun hk3 => hn (by simp at hk3; simp [hk3])), hheap]
    · rw [sb_other hne, hheap]
      exact h.hb
    · exact h.le2
    · exact h.le2
    · intro q
      rw [List.mem_filter, h.left q, decide_eq_true_eq]
      constructor
      · rintro ⟨⟨i, e', h3, h4, h5⟩, h6⟩
        refine ⟨i, e', h3, h4, ?_⟩
        rw [Array.contains_push, h5, Bool.false_or, beq_eq_false_iff_ne]
        intro e6
        exact h6 ((nd_at h.nd h3 hp).2 ((bn_at h.bnd h4 hj).1 e6))
      · rintro ⟨i, e', h3, h4, h5⟩
        rw [Array.contains_push, Bool.or_eq_false_iff, beq_eq_false_iff_ne] at h5
        refine ⟨⟨i, e', h3, h4, h5.1⟩, fun e6 => h5.2 ?_⟩
        exact (bn_at h.bnd h4 hj).2 ((nd_at h.nd h3 hp).1 e6)
    · intro p' hp'
      cases hp'
      exact ⟨rfl, e, seen, h1, hk, hv, rfl⟩
/-- An entry struck. -/
theorem Rng.del [DecidableEq α] {P : Program} {k e t : TypeId} (hne : r ≠ b) (h : Rng w b r K V Good m rest cur es clock since seen c0) (kf : KeyFit P k K Good) (ht : P.underlying t = some (.map k e)) {a : α} (ha : Good a) (ty : TypeId) :
    ∃ w', (Builtin.delete_ #[t, k] ty #[.map (some b), K a]).run P w = .ok (.tuple #[]) w' ∧ Ext [b] w w' ∧ ∃ es', Rng w' b r K V Good (adel m a) (adel rest a) none es' clock since seen c0 := by
  obtain ⟨l, hl⟩ := kf.lit a ha
  have hbl : b < w.heap.size := heap_lt h.hb
  have hbr : b ≠ r := fun e => hne e.symm
  rcases find_run kf h.he h.good h.nd ha w with ⟨h1, h2⟩ | ⟨j, u, hj, h1, h2⟩
  · have hr0 : adel rest a = rest := by
      unfold adel
      rw [List.filter_eq_self]
      intro q hq
      simp only [decide_eq_true_eq]
      intro e
      rw [aget_none] at h1
      exact h1 (e ▸ List.mem_map.2 ⟨q, h.sub q hq, rfl⟩)
    refine ⟨Go.ChangeMaps.setBlock w b (.map es clock), ?_, ex_map hbl, es, ?_⟩
    · simp [Builtin.delete_, Sem.run_bind, run_underlying ht, Result.andThen, run_getMap h.hb, kf.keyed.check w _ hl, h2, run_setMap h.hb, Go.ChangeMaps.setBlock]
    · rw [adel_none h1, hr0]
      exact { h with hb := sb_same hbl, hr := (sb_other hbr).trans h.hr, last := fun p hp => by cases hp }
  · have em : adel m a = m.eraseIdx j := (erase_adel h.nd hj).symm
    have e1 : (es.eraseIdxIfInBounds j).toList = es.toList.eraseIdx j := by simp
    have hsub : ∀ x ∈ (es.eraseIdxIfInBounds j).toList, x ∈ es.toList := fun x hx => by
      rw [e1] at hx
      exact List.mem_of_mem_eraseIdx hx
    refine ⟨Go.ChangeMaps.setBlock w b (.map (es.eraseIdxIfInBounds j) clock), ?_, ex_map hbl, es.eraseIdxIfInBounds j, sb_same hbl, ?_, adel_nodup h.nd a, ?_, fun x hx => h.born x (hsub x hx), ?_, (sb_other hbr).trans h.hr, fun x hx => h.old x (hsub x hx), h.le, h.le2, ?_, fun p hp => by cases hp⟩
    · simp [Builtin.delete_, Sem.run_bind, run_underlying ht, Result.andThen, run_getMap h.hb, kf.keyed.check w _ hl, h2, run_setMap h.hb, Go.ChangeMaps.setBlock]
    · rw [em, e1, erase_map, h.he, ← erase_map]
    · exact fun p hp => h.good p ((List.mem_filter.1 hp).1)
    · rw [e1, erase_map]
      exact h.bnd.sublist (List.eraseIdx_sublist _ _)
    · intro q
      have hmr : q ∈ adel rest a ↔ q ∈ rest ∧ q.1 ≠ a := by unfold adel; rw [List.mem_filter, decide_eq_true_eq]
      rw [hmr, h.left q, em, e1]
      constructor
      · rintro ⟨⟨i, x, h3, h4, h5⟩, h6⟩
        have hij : i ≠ j := fun e => h6 (by rw [e, hj] at h3; cases h3; rfl)
        rcases Nat.lt_or_gt_of_ne hij with h7 | h7
        · refine ⟨i, x, ?_, ?_, h5⟩
          · rw [List.getElem?_eraseIdx, if_pos h7]; exact h3
          · rw [List.getElem?_eraseIdx, if_pos h7]; exact h4
        · obtain ⟨i', rfl⟩ : ∃ i', i = i' + 1 := ⟨i - 1, by omega⟩
          refine ⟨i', x, ?_, ?_, h5⟩
          · rw [List.getElem?_eraseIdx, if_neg (by omega)]; exact h3
          · rw [List.getElem?_eraseIdx, if_neg (by omega)]; exact h4
      · rintro ⟨i, x, h3, h4, h5⟩
        rw [List.getElem?_eraseIdx] at h3 h4
        split at h3
        · next h7 =>
          rw [if_pos h7] at h4
          exact ⟨⟨i, x, h3, h4, h5⟩, fun e => absurd ((nd_at h.nd h3 hj).1 e) (by omega)⟩
        · next h7 =>
          rw [if_neg h7] at h4
          exact ⟨⟨i + 1, x, h3, h4, h5⟩, fun e => absurd ((nd_at h.nd h3 hj).1 e) (by omega)⟩
end
section
variable {P : Program} {n : Nat} {W : Wd} {σ τ : Blks} {l : Slots} {X : List Nat} {x y z : Operand} {d : Option Nat} {ty t k e : TypeId} {pos : String} {aft : Array Edge} {g : Option (Nat × Bool)} {b r : Nat} {A B C : Abs}
variable {α β : Type} [DecidableEq α] {K : α → Value} {V : β → Value} {Good : α → Prop} {m rest : List (α × β)} {cur : Option (α × β)} {a : α} {p : α × β} {Q : Exit → Act → World → Prop}
omit [DecidableEq α] in
/-- 'range m'. -/
theorem Eff.rangeMap {τ : Nat → Blks} (ht : P.underlying t = some (.map k e)) (hx : look l x = some (mapV b)) (hu : ∀ r, Upd (.pc (mapPc b K V Good m)) (.pc (rngPc b r K V Good m m none)) σ (τ r)) :
    Eff P n W σ l [b] ⟨d, .range t x, ty, pos, aft, g⟩ fun u τ' => ∃ r : Nat, u = .v (.pointer (some ⟨r, 0, none⟩)) ∧ τ' = τ r := fun ac w hs => by
  have h1 : MapOf w b K V Good m := hs.mem.hold _ (hu 0).mem
  obtain ⟨es, clock, hb, he, hnd, hg, hborn, hbnd⟩ := h1
  have hbl := heap_lt hb
  have hne : w.heap.size ≠ b := by omega
  have hx2 : Ext [b] w (w.alloc (.mapIter (some b) clock #[] clock)) := (Ext.new w _).mono (by simp)
  have hal : ∀ k, k < w.heap.size → (w.alloc (.mapIter (some b) clock #[] clock)).heap[k]? = w.heap[k]? := fun k hk => (Ext.new w _).block k hk (by simp)
  have h4 := hs.mem.upd (hu w.heap.size) (hx2.mono (by simp [It.mids, mapPc])) (by simp [It.mids, rngPc, Ne.symm hne]) (fun k hk => by
      simp [It.mids, rngPc] at hk
      rcases hk with rfl | rfl
      · exact .inl (by simp [It.mids, mapPc])
      · exact .inr (Nat.le_refl _)) rfl (fun _ => ⟨hne, es, clock, clock, #[], clock, (hal b hbl).trans hb, he, hnd, hg, hborn, hbnd, heap_alloc_new w _, hborn, Nat.le_refl _, Nat.le_refl _, fun p => ?_, fun p hp => by cases hp⟩)
  · refine ⟨.pointer (some ⟨w.heap.size, 0, none⟩), _, _, _, ⟨_, rfl, rfl⟩, hx2, rfl, h4.1, h4.2, .inl ?_⟩
    simp [execOp, hs.plain hx, run_range_map w t k e b es clock ht hb, Sem.run_bind, Result.andThen]
  · constructor
    · intro hp
      obtain ⟨j, hj⟩ := List.getElem?_of_mem hp
      have hjl : j < es.toList.length := by rw [enc_len he]; exact (List.getElem?_eq_some_iff.1 hj).1
      exact ⟨j, _, hj, List.getElem?_eq_getElem hjl, by simp⟩
    · rintro ⟨j, e, h1, _⟩
      exact List.mem_of_getElem? h1
/-- One step of it. -/
theorem Eff.nextMap {τ : List (α × β) → Option (α × β) → Blks} (hx : look l x = some (.v (.pointer (some ⟨r, 0, none⟩)))) (hu : ∀ rest' cur', Upd (.pc (rngPc b r K V Good m rest cur)) (.pc (rngPc b r K V Good m rest' cur')) σ (τ rest' cur')) :
    Eff P n W σ l [b, r] ⟨d, .next x false, ty, pos, aft, g⟩ fun u τ' => ∃ (o : Option (α × β)) (rest' : List (α × β)), (o = none → rest = []) ∧ (∀ p, o = some p → p ∈ rest ∧ rest' = rest.filter fun q => decide (q.1 ≠ p.1)) ∧
      u = .tup (.v (.bool o.isSome) :: (match o with | none => [] | some p => [.v (K p.1), .v (V p.2)])) ∧ τ' = τ rest' o := fun ac w hs => by
  obtain ⟨hne, es, clock, since, seen, c0, h⟩ : (rngPc b r K V Good m rest cur).p _ w := hs.mem.hold _ (hu [] none).mem
  have hnd : (It.pc (rngPc b r K V Good m rest cur)).mids.Nodup := by simp [It.mids, rngPc, Ne.symm hne]
  rcases h.next (P := P) hne ty with ⟨h0, hrun⟩ | ⟨p, hp, w', hrun, hx2, seen', c0', h'⟩
  · have h4 := hs.mem.upd (hu rest none) (Ext.refl w) hnd (fun k hk => .inl hk) rfl (fun hc => (rngPc b r K V Good m rest none).carry _ _ _ _ hc (fun _ _ => rfl) ⟨hne, es, clock, since, seen, c0, { h with last := fun p hp => by cases hp }⟩)
    refine ⟨.tuple #[.bool false], w, _, _, ⟨none, rest, fun _ => h0, fun p hp => (by cases hp), rfl, rfl⟩, Ext.refl w, ⟨[.bool false], rfl, _, _, rfl, rfl, rfl⟩, h4.1, h4.2, .inl ?_⟩
    simp [execOp, hs.plain hx, hrun, Sem.run_bind, Result.andThen]
  · have h4 := hs.mem.upd (hu _ (some p)) (hx2.mono (by simp [It.mids, rngPc])) hnd (fun k hk => .inl hk) rfl (fun hc => ⟨hne, es, clock, since, seen', c0', h'⟩)
    refine ⟨.tuple #[.bool true, K p.1, V p.2], w', _, _, ⟨some p, _, fun h => (by cases h), fun q hq => (by cases hq; exact ⟨hp, rfl⟩), rfl, rfl⟩, hx2, ⟨[.bool true, K p.1, V p.2], rfl, _, _, rfl, rfl, _, _, rfl, rfl, _, _, rfl, rfl, rfl⟩, h4.1, h4.2, .inl ?_⟩
    simp [execOp, hs.plain hx, hrun, Sem.run_bind, Result.andThen]
omit [DecidableEq α] in
/-- The entry that came last. -/
theorem Val.entryMap (hx : look l x = some (.v (.pointer (some ⟨r, 0, none⟩)))) (hb : It.pc (rngPc b r K V Good m rest (some p)) ∈ σ) (hX : b ∉ X ∧ r ∉ X) : Val P n W σ l X ⟨d, .entry x, ty, pos, aft, g⟩ (.tup [.v (K p.1), .v (V p.2)]) := fun ac w hs _ => by
  obtain ⟨hne, es, clock, since, seen, c0, h⟩ : (rngPc b r K V Good m rest (some p)).p _ w := hs.mem.hold _ hb
  obtain ⟨rfl, e, s', he, hk, hv, rfl⟩ := h.last p rfl
  refine ⟨.tuple #[K p.1, V p.2], ⟨[K p.1, V p.2], rfl, _, _, rfl, rfl, _, _, rfl, rfl, rfl⟩, fun w' hw' => ?_⟩
  have h1 := run_entry_at (P := P) w' r b since s' es c0 e ((hw'.block r (heap_lt h.hr) hX.2).trans h.hr) ((hw'.block b (heap_lt h.hb) hX.1).trans h.hb) he h.bnd
  rw [hk, hv] at h1
  simp [execOp, hs.plain hx, h1, Sem.run_bind, Result.andThen]
/-- 'delete(m, k)' in the round. -/
theorem Eff.rngDel {m' rest' : List (α × β)} (kf : KeyFit P k K Good) (ht : P.underlying t = some (.map k e)) (hx : look l x = some (mapV b)) (hu : Upd (.pc (rngPc b r K V Good m rest cur)) (.pc (rngPc b r K V Good m' rest' none)) σ τ) (hy : look l y = some A) (hA : A.is (K a)) (ha : Good a) (hm : adel m a = m') (hr : adel rest a = rest') :
    Eff P n W σ l [b] ⟨d, .call { callee := .builtin .delete, args := #[x, y], argTypes := #[t, k] }, ty, pos, aft, g⟩ fun u τ' => u = .tup [] ∧ τ' = τ := fun ac w hs => by
  subst hm hr
  obtain ⟨hne, es, clock, since, seen, c0, h⟩ : (rngPc b r K V Good m rest cur).p _ w := hs.mem.hold _ hu.mem
  obtain ⟨w', hrun, hx2, es', h'⟩ := h.del hne kf ht ha ty
  have h4 := hs.mem.upd hu (hx2.mono (by simp [It.mids, rngPc])) (by simp [It.mids, rngPc, Ne.symm hne]) (fun k hk => .inl hk) rfl (fun _ => ⟨hne, es', clock, since, seen, c0, h'⟩)
  refine ⟨.tuple #[], w', _, _, ⟨rfl, rfl⟩, hx2, ⟨[], rfl, rfl⟩, h4.1, h4.2, .inl ?_⟩
  simp [execOp, resolve, invoke, builtin, hs.plain hx, hA.1 _ _ _ (hs.eval hy), hrun, Result.andThen]
theorem rest_less (h : p ∈ rest) : (rest.filter fun q => decide (q.1 ≠ p.1)).length < rest.length := List.length_filter_lt_length_iff_exists.2 ⟨p, h, by simp⟩
end
end Go.Proofs.Ytjbikemecdlolaa.A
/-
  The second engine: a map whose values are trees, as one piece.
-/
namespace Go.Proofs.Ytjbikemecdlolaa.A
open Go.RowKit

section
variable {α β : Type} [DecidableEq α] {tm tm' : List (α × (Value × β))} {a c : α} {u : Value} {x : β}
def plM (tm : List (α × (Value × β))) : List (α × β) := tm.map fun e => (e.1, e.2.2)
theorem plM_get : ∀ (tm : List (α × (Value × β))), aget (plM tm) a = (aget tm a).map (·.2)
  | [] => rfl
  | e :: tm => by
    have h := plM_get tm
    unfold plM aget at h ⊢
    rw [List.map_cons, List.find?_cons, List.find?_cons]
    by_cases he : e.1 = a
    · simp [he]
    · simpa [he] using h
omit [DecidableEq α] in
theorem plM_keys (tm : List (α × (Value × β))) : (plM tm).map (·.1) = tm.map (·.1) := by
  unfold plM
  rw [List.map_map]
  rfl
theorem plM_put (tm : List (α × (Value × β))) (a : α) (u : Value) (x : β) : plM (aput tm a (u, x)) = aput (plM tm) a x := by
  have hg := plM_get tm (a := a)
  unfold aput
  rw [hg, Option.isSome_map]
  split
  · unfold plM
    rw [List.map_map, List.map_map]
    refine List.map_congr_left fun e _ => ?_
    show ((if e.1 = a then (a, (u, x)) else e).1, (if e.1 = a then (a, (u, x)) else e).2.2) = if e.1 = a then (a, x) else (e.1, e.2.2)
    split <;> rfl
  · unfold plM
    rw [List.map_append]
    rfl
end
/-- A map of trees. -/
def tmPc {α β : Type} (b : Nat) (K : α → Value) (Good : α → Prop) (enc : β → Abs) (m : List (α × β)) : Pc where
  ids := [b]
  p := fun K' w => ∃ tm : List (α × (Value × β)), plM tm = m ∧ MapOf w b K id Good (rawM tm) ∧ ∀ y ∈ facM enc tm, rep K' w y.2 y.1
  carry := fun _ _ _ _ hc hs ⟨tm, h1, h2, h3⟩ => ⟨tm, h1, map_same h2 (hs b (by simp)), fun y hy => rep_carry hc _ _ (h3 y hy)⟩
  lt := fun _ _ ⟨_, _, h2, _⟩ k hk => by simp at hk; subst hk; exact h2.lt
section
variable {P : Program} {n : Nat} {W : Wd} {σ τ : Blks} {l : Slots} {X : List Nat} {x y z : Operand} {d : Option Nat} {ty t k e : TypeId} {pos : String} {aft : Array Edge} {g : Option (Nat × Bool)} {b : Nat} {A B C : Abs} {ops : Array Oper} {rest : List Oper} {Q : Exit → Act → World → Prop}
variable {α β : Type} [DecidableEq α] {K : α → Value} {Good : α → Prop} {enc : β → Abs} {m : List (α × β)} {a : α} {v z0 : β} {zv : Value}
/-- It is there, to change or to read. -/
abbrev isTm (σ : Blks) (b : Nat) (K : α → Value) (Good : α → Prop) (enc : β → Abs) (m : List (α × β)) : Prop := It.pc (tmPc b K Good enc m) ∈ σ ∨ It.rdpc (tmPc b K Good enc m) ∈ σ
omit [DecidableEq α] in
theorem mem_tm {w0 w : World} {F G : List Nat} {σ : Blks} (h : Mem w0 F G σ w) (hb : isTm σ b K Good enc m) : ∃ tm : List (α × (Value × β)), plM tm = m ∧ MapOf w b K id Good (rawM tm) ∧ ∀ y ∈ facM enc tm, rep (mids σ ++ G) w y.2 y.1 := by
  rcases hb with hb | hb
  · exact h.hold _ hb
  · exact h.hold _ hb
theorem tm_rep {tm : List (α × (Value × β))} {K' : List Nat} {w : World} (h : ∀ y ∈ facM enc tm, rep K' w y.2 y.1) (hz : rep K' w (enc z0) zv) : rep K' w (enc ((aget (plM tm) a).getD z0)) (((aget (rawM tm) a).map id).getD zv) := by
  rw [rawM_get, plM_get]
  cases hg : aget tm a with
  | none => exact hz
  | some e => exact h _ (List.mem_map.2 ⟨(a, e), aget_in hg, rfl⟩)
/-- 'v, ok := m[k]'. -/
theorem Val.tmGetOk (kf : KeyFit P k K Good) (ht : P.underlying t = some (.map k e)) (hz : ∀ w, (zeroValue e).run P w = .ok zv w) (hzr : ∀ K w, rep K w (enc z0) zv) (hx : look l x = some (mapV b)) (hb : isTm σ b K Good enc m) (hbX : b ∉ X)
    (hy : look l y = some A) (hA : A.is (K a)) (ha : Good a) : Val P n W σ l X ⟨d, .lookup t x y true, ty, pos, aft, g⟩ (.tup [enc ((aget m a).getD z0), boo (aget m a).isSome]) := fun ac w hs _ => by
  obtain ⟨tm, rfl, h1, h2⟩ := mem_tm hs.mem hb
  have e1 := hs.plain hx
  have e2 := hA.1 _ _ _ (hs.eval hy)
  refine ⟨.tuple #[((aget (rawM tm) a).map id).getD zv, .bool (aget (rawM tm) a).isSome], ⟨_, rfl, _, _, rfl, tm_rep h2 (hzr _ _), _, _, rfl, ?_, rfl⟩, fun w' hw' => ?_⟩
  · rw [plM_get, rawM_get, Option.isSome_map, Option.isSome_map]; exact rfl
  · simp only [execOp, e1, e2, Sem.run_bind, (h1.ext hw' hbX).look_run kf ht (hz w') ha true, if_true, Result.andThen_ok, Sem.run_pure]
/-- 'm[k]'. -/
theorem Val.tmGet (kf : KeyFit P k K Good) (ht : P.underlying t = some (.map k e)) (hz : ∀ w, (zeroValue e).run P w = .ok zv w) (hzr : ∀ K w, rep K w (enc z0) zv) (hx : look l x = some (mapV b)) (hb : isTm σ b K Good enc m) (hbX : b ∉ X)
    (hy : look l y = some A) (hA : A.is (K a)) (ha : Good a) : Val P n W σ l X ⟨d, .lookup t x y false, ty, pos, aft, g⟩ (enc ((aget m a).getD z0)) := fun ac w hs _ => by
  obtain ⟨tm, rfl, h1, h2⟩ := mem_tm hs.mem hb
  have e1 := hs.plain hx
  have e2 := hA.1 _ _ _ (hs.eval hy)
  refine ⟨((aget (rawM tm) a).map id).getD zv, tm_rep h2 (hzr _ _), fun w' hw' => ?_⟩
  simp only [execOp, e1, e2, Sem.run_bind, (h1.ext hw' hbX).look_run kf ht (hz w') ha false, Bool.false_eq_true, if_false, Result.andThen_ok, Sem.run_pure]
/-- 'm[k] = v'. -/
theorem Eff.tmPut {m' : List (α × β)} (kf : KeyFit P k K Good) (ht : P.underlying t = some (.map k e)) (hx : look l x = some (mapV b)) (hu : Upd (.pc (tmPc b K Good enc m)) (.pc (tmPc b K Good enc m')) σ τ) (hy : look l y = some A) (hA : A.is (K a)) (ha : Good a) (hz : look l z = some (enc v)) (hm : aput m a v = m') :
    Eff P n W σ l [b] ⟨d, .mapUpdate t x y z, ty, pos, aft, g⟩ fun u τ' => u = .v undef ∧ τ' = τ := fun ac w hs => by
  subst hm
  obtain ⟨tm, rfl, h1, h2⟩ := mem_tm hs.mem (.inl hu.mem)
  have h5 := hs.eval hz
  obtain ⟨w', hr, h6, h3⟩ := h1.put_run kf ht ha (ac.eval z)
  have h4 := hs.mem.upd hu (h3.mono (by simp [It.mids, tmPc])) (by simp [It.mids, tmPc]) (fun k hk => .inl hk) rfl (fun hc => ⟨aput tm a (ac.eval z, v), plM_put _ _ _ _, by rw [rawM_put]; exact h6, fun y hy => by
    rcases List.mem_cons.1 (facM_put tm a (ac.eval z) v y hy) with rfl | hy
    · exact rep_carry hc _ _ h5
    · exact rep_carry hc _ _ (h2 y hy)⟩)
  refine ⟨_, w', _, _, ⟨rfl, rfl⟩, h3, rfl, h4.1, h4.2, .inr ⟨rfl, ?_⟩⟩
  simp only [id] at hr
  simp only [execOp, hs.plain hx, hA.1 _ _ _ (hs.eval hy), Sem.run_bind, hr, Result.andThen_ok, Sem.run_pure]
omit [DecidableEq α] in
/-- 'map[K]V{}', 'make(map[K]V)'. -/
theorem Eff.makeTm {o : Op} (K : α → Value) (Good : α → Prop) (enc : β → Abs) (hrun : ∀ (ac : Act) (w : World), (execOp ac.eval ⟨d, o, ty, pos, aft, g⟩).run P w = .ok (.value (.map (some w.heap.size))) (w.alloc (.map #[] 0))) :
    Eff P n W σ l [] ⟨d, o, ty, pos, aft, g⟩ fun u τ' => ∃ b, u = mapV b ∧ τ' = .pc (tmPc b K Good enc []) :: σ := fun ac w hs => by
  have hx : Ext [] w (w.alloc (.map #[] 0)) := (Ext.refl w).alloc _
  have h4 := hs.mem.new (y := .pc (tmPc w.heap.size K Good enc [])) hx (by simp [It.mids, tmPc]) (by simp [It.mids, tmPc]) rfl (fun _ => ⟨[], rfl, MapOf.new w, fun y hy => by cases hy⟩)
  exact ⟨_, _, _, _, ⟨w.heap.size, rfl, rfl⟩, hx, rfl, h4.1, h4.2, .inl (hrun ac w)⟩
/-! ### Opened: the map's own values, and what they are -/
omit [DecidableEq α] in
theorem Re.tmIn {tm : List (α × (Value × β))} (hm : plM tm = m) : Re [facts (facM enc tm), .pc (mapPc b K id Good (rawM tm))] [.pc (tmPc b K Good enc m)] := ⟨⟨[], by simp [mids, It.mids, mapPc, tmPc, factsPc]⟩, by simp [It.rids], fun K' w h y hy => by
  rw [List.mem_singleton.1 hy]
  exact ⟨tm, hm, h (.pc (mapPc b K id Good (rawM tm))) (by simp), fun y hy => (h (facts (facM enc tm)) (by simp) : ∀ x ∈ facM enc tm, rep K' w x.2 x.1) y hy⟩⟩
omit [DecidableEq α] in
theorem St.tmOpen {ac : Act} {w : World} {pre post : Blks} (h : St n W (pre ++ .pc (tmPc b K Good enc m) :: post) l ac w) : ∃ tm : List (α × (Value × β)), plM tm = m ∧ St n W (pre ++ facts (facM enc tm) :: .pc (mapPc b K id Good (rawM tm)) :: post) l ac w := by
  obtain ⟨tm, rfl, h1, h2⟩ := mem_tm (b := b) (K := K) (Good := Good) (enc := enc) (m := m) h.mem (.inl (by simp))
  have hids : mids (pre ++ facts (facM enc tm) :: .pc (mapPc b K id Good (rawM tm)) :: post) = mids (pre ++ .pc (tmPc b K Good enc (plM tm)) :: post) := by
    simp [mids_append, mids_cons, It.mids, mapPc, tmPc, factsPc]
  have h3 := h.mem.step (τ := pre ++ facts (facM enc tm) :: .pc (mapPc b K id Good (rawM tm)) :: post) (Y := []) (Ext.refl w) (by simp) (fun k hk => .inl (by rw [← hids]; exact hk)) (fun y hy => ?_) (by rw [hids]; exact h.mem.nodup) fun hc y hy => ?_
  · exact ⟨tm, rfl, h.to h3.1 h3.2⟩
  · simp only [List.mem_append, List.mem_cons] at hy
    rcases hy with hy | rfl | rfl | hy
    · exact h.mem.ro y (by simp [hy])
    · simp [It.rids]
    · simp [It.rids]
    · exact h.mem.ro y (by simp [hy])
  · simp only [List.mem_append, List.mem_cons] at hy
    rcases hy with hy | rfl | rfl | hy
    · exact h.mem.keep (Y := []) (Ext.refl w) hc (by simp [hy]) (by simp) (by simp)
    · exact fun y hy => rep_carry hc _ _ (h2 y hy)
    · exact h1
    · exact h.mem.keep (Y := []) (Ext.refl w) hc (by simp [hy]) (by simp) (by simp)
omit [DecidableEq α] in
theorem SC.tmOpen {c : Code} (pre : Blks) {post : Blks} (hσ : σ = pre ++ .pc (tmPc b K Good enc m) :: post) (k : ∀ tm : List (α × (Value × β)), plM tm = m → SC P c (St n W (pre ++ facts (facM enc tm) :: .pc (mapPc b K id Good (rawM tm)) :: post) l) Q) : SC P c (St n W σ l) Q := by
  subst hσ
  intro a w h
  obtain ⟨tm, h1, h2⟩ := h.tmOpen
  exact k tm h1 a w h2
omit [DecidableEq α] in
theorem SL.tmOpen (pre : Blks) {post : Blks} (hσ : σ = pre ++ .pc (tmPc b K Good enc m) :: post) (k : ∀ tm : List (α × (Value × β)), plM tm = m → SL P ops rest (St n W (pre ++ facts (facM enc tm) :: .pc (mapPc b K id Good (rawM tm)) :: post) l) Q) : SL P ops rest (St n W σ l) Q := by
  subst hσ
  intro a w h
  obtain ⟨tm, h1, h2⟩ := h.tmOpen
  exact k tm h1 a w h2
omit [DecidableEq α] in
/-- A function that reads the map's own values. -/
theorem Spec.tmRead {f : FuncId} {args : List Abs} {σ1 : Blks} {ι : Type} {τ : ι → Blks} {res : ι → Abs} (h : ∀ tm : List (α × (Value × β)), plM tm = m → Spec P f args (σ1 ++ [.rdpc (mapPc b K id Good (rawM tm))]) τ res) : Spec P f args (σ1 ++ [.rdpc (tmPc b K Good enc m)]) τ res := fun G w vals hm hv => by
  obtain ⟨tm, rfl, h1, h2⟩ := mem_tm (b := b) (K := K) (Good := Good) (enc := enc) (m := m) hm (.inr (by simp))
  have hids : mids (σ1 ++ [.rdpc (mapPc b K id Good (rawM tm))]) = mids (σ1 ++ [.rdpc (tmPc b K Good enc (plM tm))]) := by
    simp [mids_append, mids_cons, It.mids]
  have hc : Carry (mids (σ1 ++ [.rdpc (tmPc b K Good enc (plM tm))]) ++ G) w (mids (σ1 ++ [.rdpc (mapPc b K id Good (rawM tm))]) ++ G) w := by rw [hids]; exact Carry.refl
  have hm2 : Mem w (mids (σ1 ++ [.rdpc (mapPc b K id Good (rawM tm))])) G (σ1 ++ [.rdpc (mapPc b K id Good (rawM tm))]) w := by
    refine ⟨Ext.refl w, fun k hk => .inl hk, by rw [hids]; exact hm.sep, hm.old, fun x hx => ?_, by rw [hids]; exact hm.nodup, fun x hx => ?_⟩
    · rcases List.mem_append.1 hx with hx | hx
      · exact hm.ro x (by simp [hx])
      · rw [List.mem_singleton.1 hx]; exact hm.ro (.rdpc (tmPc b K Good enc (plM tm))) (by simp)
    · rcases List.mem_append.1 hx with hx | hx
      · exact It.carry (hm.hold x (by simp [hx])) hc fun _ _ => rfl
      · rw [List.mem_singleton.1 hx]; exact h1
  have hmid : mids (σ1 ++ [.rdpc (tmPc b K Good enc (plM tm))]) = mids (σ1 ++ [.rdpc (mapPc b K id Good (rawM tm))]) := hids.symm
  have hr := h tm rfl G w vals hm2 (reps_carry hc _ _ hv)
  rw [hmid]
  exact hr
end
end Go.Proofs.Ytjbikemecdlolaa.A
/-
  Points, plain: own ones by numbers, and what others vote for.
-/
namespace Go.Proofs.Ytjbikemecdlolaa.A
open Go.RowKit

theorem zdig_len : (List.replicate 32 (0 : UInt8)).length = 32 := by simp
def Pnt.zero : Pnt := ⟨0, List.replicate 32 0, zdig_len⟩
/-- An own point: its digest, its bytes. -/
structure Ow where
  dig : List UInt8
  b : List UInt8
  len : dig.length = 32
def Ow.cells (o : Ow) : List Abs := digA o.dig ++ [byt o.b]
def Ow.enc (o : Ow) : Abs := .agg o.cells
def Ow.zero : Ow := ⟨List.replicate 32 0, [], zdig_len⟩
/-- Own points, rising. -/
def ownP (om : List (Int × Ow)) : List Pnt := (srt (om.map (·.1))).map fun k => ⟨k, ((aget om k).getD Ow.zero).dig, ((aget om k).getD Ow.zero).len⟩
def ownHas (om : List (Int × Ow)) (x : Pnt) : Bool := (aget om x.seq).isSome && decide (((aget om x.seq).getD Ow.zero).dig = x.dig)
/-- How many vote for a point. -/
def supF (om : List (Int × Ow)) (vs : List (List Pnt)) (x : Pnt) : Nat := (if ownHas om x then 1 else 0) + (vs.filter fun l => decide (x ∈ l)).length
/-- A voter's. -/
def votesF (me : Nat) (om : List (Int × Ow)) (vs : List (List Pnt)) (who : Nat) : List Pnt := if who = me then ownP om else (vs[who]?).getD []
def bestF (om : List (Int × Ow)) (vs : List (List Pnt)) (l : List Pnt) (above at_ : Int) : Option Pnt := l.reverse.find? fun x => decide (above < x.seq) && decide (at_ ≤ (supF om vs x : Nat))
/-- Where a number stands, or belongs. -/
def lbP (l : List Pnt) (s : Int) : Nat := (l.takeWhile fun y => decide (y.seq < s)).length
def insP (l : List Pnt) (x : Pnt) : List Pnt := l.take (lbP l x.seq) ++ x :: l.drop (lbP l x.seq)
def thereP (l : List Pnt) (s : Int) : Bool := l.any fun y => decide (y.seq = s)
def voteOk (l : List Pnt) (x : Pnt) : Bool := !thereP l x.seq && !(decide (l.length = 3) && decide (lbP l x.seq = 0))
def voteL (l : List Pnt) (x : Pnt) : List Pnt := if l.length = 3 then (insP l x).drop 1 else insP l x
def Rising (l : List Pnt) : Prop := l.Pairwise fun a b => a.seq < b.seq
/-- The greatest of two that there may be. -/
def maxO (o p : Option Pnt) : Option Pnt := match p, o with
  | none, o => o
  | some x, none => some x
  | some x, some y => if y.seq < x.seq then some x else some y
def toldF (l : List Pnt) : List Pnt := if 1 < l.length - 3 then l.take 1 ++ l.drop (l.length - 3) else l
/-- What holds of points at any time. -/
structure PtsOk (n me : Nat) (om : List (Int × Ow)) (vs : List (List Pnt)) : Prop where
  n1 : 1 ≤ n
  n7 : n ≤ 7
  slf : me < n
  len : vs.length = n
  rise : ∀ l ∈ vs, Rising l
  few : ∀ l ∈ vs, l.length ≤ 3
  ins : ∀ l ∈ vs, ∀ x ∈ l, InR .i64 x.seq
  keys : ∀ e ∈ om, InR .i64 e.1
  nd : (om.map (·.1)).Nodup
  om : om.length ≤ 100000
theorem lbP_le {l : List Pnt} {s : Int} : lbP l s ≤ l.length := (List.takeWhile_sublist _).length_le
theorem insP_length {l : List Pnt} {x : Pnt} : (insP l x).length = l.length + 1 := by
  have := lbP_le (l := l) (s := x.seq)
  simp only [insP, List.length_append, List.length_take, List.length_cons, List.length_drop]
  omega
/-- What stands ahead of the place is less, what stands from there on is not. -/
theorem lbP_lt {l : List Pnt} {s : Int} (h : Rising l) {j : Nat} (hj : j < l.length) : l[j].seq < s ↔ j < lbP l s := by
  unfold lbP
  induction l generalizing j with
  | nil => simp at hj
  | cons y l ih =>
    have h2 := List.pairwise_cons.1 h
    by_cases hy : y.seq < s
    · rw [List.takeWhile_cons, if_pos (by simpa using hy)]
      cases j with
      | zero => simpa using hy
      | succ j =>
        simp only [List.getElem_cons_succ, List.length_cons]
        rw [ih h2.2 (by simpa using hj)]
        omega
    · rw [List.takeWhile_cons, if_neg (by simpa using hy)]
      simp only [List.length_nil, Nat.not_lt_zero, iff_false]
      cases j with
      | zero => simpa using hy
      | succ j =>
        simp only [List.getElem_cons_succ]
        have := h2.1 _ (List.getElem_mem (by simpa using hj : j < l.length))
        omega
theorem lbP_eq {l : List Pnt} {s : Int} (h : Rising l) {q : Nat} (hq : q ≤ l.length) (h1 : ∀ j (hj : j < l.length), j < q → l[j].seq < s) (h2 : ∀ j (hj : j < l.length), q ≤ j → ¬ l[j].seq < s) : lbP l s = q := by
  have hle := lbP_le (l := l) (s := s)
  rcases Nat.lt_trichotomy (lbP l s) q with h3 | h3 | h3
  · exact absurd ((lbP_lt h (by omega)).1 (h1 (lbP l s) (by omega) h3)) (by omega)
  · exact h3
  · exact absurd ((lbP_lt h (by omega)).2 h3) (h2 q (by omega) (Nat.le_refl _))
theorem thereP_at {l : List Pnt} {s : Int} (h : Rising l) : thereP l s = true ↔ ∃ hq : lbP l s < l.length, l[lbP l s].seq = s := by
  unfold thereP
  rw [List.any_eq_true]
  constructor
  · rintro ⟨y, hy, h2⟩
    obtain ⟨j, hj, rfl⟩ := List.getElem_of_mem hy
    have h2 := of_decide_eq_true h2
    have h3 : ¬ j < lbP l s := fun hlt => by have := (lbP_lt h hj).2 hlt; omega
    have hq : lbP l s < l.length := by omega
    refine ⟨hq, ?_⟩
    have h4 : ¬ l[lbP l s].seq < s := fun hlt => by have := (lbP_lt h hq).1 hlt; omega
    rcases Nat.lt_or_ge (lbP l s) j with h5 | h5
    · have := List.pairwise_iff_getElem.1 h (lbP l s) j hq hj h5
      omega
    · obtain rfl : j = lbP l s := by omega
      exact h2
  · rintro ⟨hq, h2⟩
    exact ⟨_, List.getElem_mem hq, decide_eq_true h2⟩
theorem insP_rising {l : List Pnt} {x : Pnt} (h : Rising l) (ht : thereP l x.seq = false) : Rising (insP l x) := by
  unfold insP Rising
  rw [List.pairwise_append]
  refine ⟨List.Pairwise.sublist (List.take_sublist _ _) h, ?_, fun a ha b hb => ?_⟩
  · rw [List.pairwise_cons]
    refine ⟨fun b hb => ?_, List.Pairwise.sublist (List.drop_sublist _ _) h⟩
    obtain ⟨j, hj, rfl⟩ := List.getElem_of_mem hb
    rw [List.length_drop] at hj
    rw [List.getElem_drop]
    have h1 : ¬ l[lbP l x.seq + j].seq < x.seq := fun hlt => by have := (lbP_lt h (by omega)).1 hlt; omega
    have h2 : ¬ l[lbP l x.seq + j].seq = x.seq := fun he => by
      have : thereP l x.seq = true := List.any_eq_true.2 ⟨_, List.getElem_mem (by omega), decide_eq_true he⟩
      rw [ht] at this; cases this
    omega
  · obtain ⟨i, hi, rfl⟩ := List.getElem_of_mem ha
    rw [List.length_take] at hi
    rw [List.getElem_take]
    have h1 := (lbP_lt h (s := x.seq) (by omega : i < l.length)).2 (by omega)
    rcases List.mem_cons.1 hb with rfl | hb
    · exact h1
    · obtain ⟨j, hj, rfl⟩ := List.getElem_of_mem hb
      rw [List.length_drop] at hj
      rw [List.getElem_drop]
      exact List.pairwise_iff_getElem.1 h i (lbP l x.seq + j) (by omega) (by omega) (by omega)
theorem insP_mem {l : List Pnt} {x y : Pnt} (h : y ∈ insP l x) : y = x ∨ y ∈ l := by
  unfold insP at h
  rcases List.mem_append.1 h with h | h
  · exact .inr (List.mem_of_mem_take h)
  · rcases List.mem_cons.1 h with h | h
    · exact .inl h
    · exact .inr (List.mem_of_mem_drop h)
theorem voteL_mem {l : List Pnt} {x y : Pnt} (h : y ∈ voteL l x) : y = x ∨ y ∈ l := by
  unfold voteL at h
  split at h
  · exact insP_mem (List.mem_of_mem_drop h)
  · exact insP_mem h
theorem voteL_rising {l : List Pnt} {x : Pnt} (h : Rising l) (ht : thereP l x.seq = false) : Rising (voteL l x) := by
  unfold voteL
  split
  · exact List.Pairwise.sublist (List.drop_sublist _ _) (insP_rising h ht)
  · exact insP_rising h ht
theorem voteL_few {l : List Pnt} {x : Pnt} (h : l.length ≤ 3) : (voteL l x).length ≤ 3 := by
  unfold voteL
  split
  · rw [List.length_drop, insP_length]; omega
  · rw [insP_length]; omega
theorem srt_mem {ks : List Int} {k : Int} : k ∈ srt ks ↔ k ∈ ks := (srt_perm ks).mem_iff
theorem ownP_length (om : List (Int × Ow)) : (ownP om).length = om.length := by simp [ownP, srt_length]
theorem ownP_rising {om : List (Int × Ow)} (hn : (om.map (·.1)).Nodup) : Rising (ownP om) := by
  unfold ownP Rising
  rw [List.pairwise_map]
  have h1 := srt_sorted (om.map (·.1))
  have h2 : (srt (om.map (·.1))).Nodup := (srt_perm _).nodup_iff.2 hn
  exact (h1.and h2).imp fun ⟨h3, h4⟩ => by dsimp only; omega
theorem ownP_in {om : List (Int × Ow)} (h : ∀ e ∈ om, InR .i64 e.1) : ∀ x ∈ ownP om, InR .i64 x.seq := fun x hx => by
  obtain ⟨k, hk, rfl⟩ := List.mem_map.1 hx
  obtain ⟨e, he, rfl⟩ := List.mem_map.1 (srt_mem.1 hk)
  exact h e he
theorem votesF_in {n me : Nat} {om : List (Int × Ow)} {vs : List (List Pnt)} (h : PtsOk n me om vs) (who : Nat) : ∀ x ∈ votesF me om vs who, InR .i64 x.seq := fun x hx => by
  unfold votesF at hx
  split at hx
  · exact ownP_in h.keys x hx
  · cases hv : vs[who]? with
    | none => rw [hv] at hx; cases hx
    | some l => rw [hv] at hx; exact h.ins l (List.mem_of_getElem? hv) x hx
theorem votesF_len {n me : Nat} {om : List (Int × Ow)} {vs : List (List Pnt)} (h : PtsOk n me om vs) (who : Nat) : (votesF me om vs who).length ≤ 100000 := by
  unfold votesF
  split
  · rw [ownP_length]; exact h.om
  · cases hv : vs[who]? with
    | none => simp
    | some l => have := h.few l (List.mem_of_getElem? hv); simp; omega
theorem PtsOk.own {n me : Nat} {om : List (Int × Ow)} {vs : List (List Pnt)} (h : PtsOk n me om vs) {k : Int} (hk : InR .i64 k) (o : Ow) (hl : om.length < 100000) : PtsOk n me (aput om k o) vs where
  n1 := h.n1
  n7 := h.n7
  slf := h.slf
  len := h.len
  rise := h.rise
  few := h.few
  ins := h.ins
  keys := fun e he => by
    unfold aput at he
    split at he
    · obtain ⟨d, hd, rfl⟩ := List.mem_map.1 he
      split
      · exact hk
      · exact h.keys d hd
    · rcases List.mem_append.1 he with he | he
      · exact h.keys e he
      · rw [List.mem_singleton.1 he]; exact hk
  nd := aput_nodup h.nd _ _
  om := by
    unfold aput
    split
    · rw [List.length_map]; exact h.om
    · simp only [List.length_append, List.length_cons, List.length_nil]; omega
theorem PtsOk.move {n me : Nat} {om : List (Int × Ow)} {vs : List (List Pnt)} (h : PtsOk n me om vs) (p : Int × Ow → Bool) : PtsOk n me (om.filter p) vs where
  n1 := h.n1
  n7 := h.n7
  slf := h.slf
  len := h.len
  rise := h.rise
  few := h.few
  ins := h.ins
  keys := fun e he => h.keys e (List.mem_filter.1 he).1
  nd := h.nd.sublist (List.filter_sublist.map _)
  om := Nat.le_trans (List.length_filter_le _ _) h.om
theorem PtsOk.vote {n me : Nat} {om : List (Int × Ow)} {vs : List (List Pnt)} (h : PtsOk n me om vs) {who : Nat} {x : Pnt} (hw : who < n) (hx : InR .i64 x.seq) {l : List Pnt} (hl : vs[who]? = some l) (ht : thereP l x.seq = false) : PtsOk n me om (vs.set who (voteL l x)) := by
  have hm := List.mem_of_getElem? hl
  have key : ∀ {q : List Pnt → Prop}, (∀ l ∈ vs, q l) → q (voteL l x) → ∀ k ∈ vs.set who (voteL l x), q k := fun h1 h2 k hk => by
    rcases List.mem_or_eq_of_mem_set hk with hk | hk
    · exact h1 k hk
    · rw [hk]; exact h2
  exact ⟨h.n1, h.n7, h.slf, by rw [List.length_set]; exact h.len, key h.rise (voteL_rising (h.rise l hm) ht), key h.few (voteL_few (h.few l hm)), key h.ins (fun y hy => by
    rcases voteL_mem hy with rfl | hy
    · exact hx
    · exact h.ins l hm y hy), h.keys, h.nd, h.om⟩
end Go.Proofs.Ytjbikemecdlolaa.A
/-
  Arrays of 32 bytes: are two the same?
-/
namespace Go.Proofs.Ytjbikemecdlolaa
open Go.RowKit

def litB (c : UInt8) : Lit := .int .u8 (c.toNat : Int)
theorem litB_inj {L M : List UInt8} (h : L.map litB = M.map litB) : L = M := by
  have hi : ∀ a b : UInt8, litB a = litB b → a = b := by
    intro a b hab
    unfold litB at hab
    injection hab with _ hab
    exact UInt8.toNat.inj (by omega)
  induction L generalizing M with
  | nil => cases M with
    | nil => rfl
    | cons _ _ => simp at h
  | cons a L ih => cases M with
    | nil => simp at h
    | cons b M =>
      simp only [List.map_cons, List.cons.injEq] at h
      rw [hi _ _ h.1, ih h.2]
theorem lits_bytes {m : Nat} {T : TypeId} (hu : Try.prog.underlying T = some (.array 32 5)) (hc : Try.prog.cellsOf T = 32) (L : List UInt8) (hL : L.length = 32) :
    Try.prog.keyLits (m + 2) T (L.map bc) = some (L.map litB) := by
  have h5 : Try.prog.cellsOf 5 = 1 := by kernel_rfl
  have hone : ∀ c : UInt8, Try.prog.keyLits (m + 1) 5 [bc c] = some [litB c] := by
    intro c
    have hb : c.toNat < 256 := c.toNat_lt
    have e1 : (Lit.int .u8 (c.toNat : Int)).wf = true := by
      simp only [Lit.wf, Bool.and_eq_true, decide_eq_true_eq]
      exact ⟨by show (0 : Int) ≤ _; omega, by show _ ≤ (255 : Int); omega⟩
    simp [Program.keyLits, Try.underlying5, bc, litB, e1]
  have hm : (List.range 32).mapM (fun i => Try.prog.keyLits (m + 1) 5 (((L.map bc).drop (i * 1)).take 1)) = some (L.map fun c => [litB c]) := by
    refine mapM_some_of_get _ _ (by simp [hL]) ?_
    intro i x hx
    have hi : i < 32 := by
      have := (List.getElem?_eq_some_iff.1 hx).1
      simpa using this
    have hxi : x = i := by
      have := (List.getElem?_eq_some_iff.1 hx).2
      simpa using this.symm
    subst hxi
    have hl : x < L.length := by omega
    have hd : ((L.map bc).drop (x * 1)).take 1 = [bc L[x]] := by
      rw [Nat.mul_one, List.drop_eq_getElem_cons (by simpa using hl)]
      simp
    rw [hd, hone]
    simp [hl]
  have hfl : (L.map fun c => [litB c]).flatten = L.map litB := by
    clear hm hL
    induction L with
    | nil => rfl
    | cons c L ih => simp [ih]
  have hlen : (L.map bc).length = Try.prog.cellsOf T := by simp [hL, hc]
  have hcell : (L.map bc).length = 32 := by simp [hL]
  unfold Program.keyLits
  rw [hu]
  split
  · simp_all
  · simp_all
  · simp_all
  · rename_i h1
    injection h1 with h1
    injection h1 with h1 h2
    subst h1
    subst h2
    rw [if_pos hlen, h5, hm, Option.map_some, hfl]
  · simp_all
  · simp_all
def arrB (L : List UInt8) : Value := .agg (L.map bc).toArray
theorem formedB {T : TypeId} (hu : Try.prog.underlying T = some (.array 32 5)) (hc : Try.prog.cellsOf T = 32) (L : List UInt8) (hL : L.length = 32) : (arrB L).formed Try.prog T = true := by
  simp [arrB, Value.formed, hu, hc, hL]
theorem eqlB {T : TypeId} (hu : Try.prog.underlying T = some (.array 32 5)) (hc : Try.prog.cellsOf T = 32) (hk : Try.prog.keyTypeAt 4 T = true) (L M : List UInt8) (hL : L.length = 32) (hM : M.length = 32) (b : Bool) (hb : decide (L = M) = b) (w : World) :
    (binOp .eql T (arrB L) (arrB M)).run Try.prog w = .ok (.bool b) w :=
  run_eql_lits (m := 4) (by decide) hk (formedB hu hc L hL) (formedB hu hc M hM) (lits_bytes (m := 0) hu hc L hL) (lits_bytes (m := 0) hu hc M hM) b (by
    rw [← hb, decide_eq_true_eq]
    exact ⟨fun h => by rw [h], litB_inj⟩) w
theorem neqB {T : TypeId} (hu : Try.prog.underlying T = some (.array 32 5)) (hc : Try.prog.cellsOf T = 32) (hk : Try.prog.keyTypeAt 4 T = true) (L M : List UInt8) (hL : L.length = 32) (hM : M.length = 32) (b : Bool) (hb : decide (L ≠ M) = b) (w : World) :
    (binOp .neq T (arrB L) (arrB M)).run Try.prog w = .ok (.bool b) w :=
  run_neq_lits (m := 4) (by decide) hk (formedB hu hc L hL) (formedB hu hc M hM) (lits_bytes (m := 0) hu hc L hL) (lits_bytes (m := 0) hu hc M hM) b (by
    rw [← hb, decide_eq_true_eq]
    exact ⟨fun h e => h (litB_inj e), fun h e => h (by rw [e])⟩) w
theorem eqlD (L M : List UInt8) (hL : L.length = 32) (hM : M.length = 32) (b : Bool) (hb : decide (L = M) = b) (w : World) : (binOp .eql 25 (arrB L) (arrB M)).run Try.prog w = .ok (.bool b) w :=
  eqlB Try.underlying25 (by kernel_rfl) (by kernel_rfl) L M hL hM b hb w
theorem neqD (L M : List UInt8) (hL : L.length = 32) (hM : M.length = 32) (b : Bool) (hb : decide (L ≠ M) = b) (w : World) : (binOp .neq 25 (arrB L) (arrB M)).run Try.prog w = .ok (.bool b) w :=
  neqB Try.underlying25 (by kernel_rfl) (by kernel_rfl) L M hL hM b hb w
end Go.Proofs.Ytjbikemecdlolaa
/-
  '==' of checkpoints.
-/
namespace Go.Proofs.Ytjbikemecdlolaa.A
open Go.RowKit

theorem pnt_keys {m : Nat} (p : Pnt) (h : InR .i64 p.seq) : Try.prog.keyLits (m + 3) 27 (.int .i64 p.seq :: p.dig.map bc) = some (.int .i64 p.seq :: p.dig.map litB) := by
  have h1 : (Lit.int .i64 p.seq).wf = true := by
    simp only [InR, lo, hi] at h
    simp only [Lit.wf, Bool.and_eq_true, decide_eq_true_eq]
    exact ⟨by show (-9223372036854775808 : Int) ≤ _; omega, by show _ ≤ (9223372036854775807 : Int); omega⟩
  have c1 : Try.prog.cellsOf 27 = 33 := by kernel_rfl
  have c2 : Try.prog.cellsOf 25 = 32 := by kernel_rfl
  have c3 : Try.prog.cellsOf 2 = 1 := by kernel_rfl
  have h2 := lits_bytes (m := m) Try.underlying25 c2 p.dig p.len
  have h3 : Try.prog.keyLits (m + 2) 2 [.int .i64 p.seq] = some [.int .i64 p.seq] := by
    simp [Program.keyLits, Try.underlying2, h1]
  have hl : (p.dig.map bc).length = 32 := by simp [p.len]
  have h5 : (p.dig.map bc).take 32 = p.dig.map bc := List.take_of_length_le (by omega)
  unfold Program.keyLits
  rw [Try.underlying27]
  simp [c1, c2, c3, h2, h3, h5, p.len]
theorem pnt_formed (p : Pnt) : (Value.agg (.int .i64 p.seq :: p.dig.map bc).toArray).formed Try.prog 27 = true := by
  have c1 : Try.prog.cellsOf 27 = 33 := by kernel_rfl
  simp [Value.formed, Try.underlying27, c1, p.len]
theorem neqP {p q : Pnt} (hp : InR .i64 p.seq) (hq : InR .i64 q.seq) (w : World) : (binOp .neq 27 (.agg (Value.int .i64 p.seq :: p.dig.map bc).toArray) (.agg (Value.int .i64 q.seq :: q.dig.map bc).toArray)).run Try.prog w = .ok (.bool (decide (p ≠ q))) w :=
  run_neq_lits (m := 10) (by decide) (by kernel_rfl) (pnt_formed p) (pnt_formed q) (pnt_keys (m := 0) p hp) (pnt_keys (m := 0) q hq) _ (by
    rw [decide_eq_true_eq]
    constructor
    · intro h h2
      simp only [List.cons.injEq, Lit.int.injEq, true_and] at h2
      exact h (Pnt.same h2.1 (litB_inj h2.2))
    · intro h h2
      exact h (by rw [h2])) w
theorem eqP {p q : Pnt} (hp : InR .i64 p.seq) (hq : InR .i64 q.seq) (w : World) : (binOp .eql 27 (.agg (Value.int .i64 p.seq :: p.dig.map bc).toArray) (.agg (Value.int .i64 q.seq :: q.dig.map bc).toArray)).run Try.prog w = .ok (.bool (decide (p = q))) w :=
  run_eql_lits (m := 10) (by decide) (by kernel_rfl) (pnt_formed p) (pnt_formed q) (pnt_keys (m := 0) p hp) (pnt_keys (m := 0) q hq) _ (by
    rw [decide_eq_true_eq]
    constructor
    · intro h
      rw [h]
    · intro h2
      simp only [List.cons.injEq, Lit.int.injEq, true_and] at h2
      exact Pnt.same h2.1 (litB_inj h2.2)) w
theorem plains_dig (d : List UInt8) : plains (digA d) = some (d.map bc) := by
  induction d with
  | nil => rfl
  | cons b d ih =>
    show (match plains (digA d) with | some us => some (bc b :: us) | none => none) = _
    rw [ih]; rfl
theorem pnt_plains (p : Pnt) : plains p.abs = some (.int .i64 p.seq :: p.dig.map bc) := by
  show (match plains (digA p.dig) with | some us => some (Value.int .i64 p.seq :: us) | none => none) = _
  rw [plains_dig]
end Go.Proofs.Ytjbikemecdlolaa.A
