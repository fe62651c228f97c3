/-
  Packed out of the texts: A12, A13, Y1, Lay, Iter.
-/
import Derived.Test.YtonceioajbimaaaG04
import Derived.DataShut
import Derived.Shelf.SlIterI.Nil
import Derived.Shelf.SlIterI.Sorted
import Derived.Shelf.SortM.Plain
import Derived.Shelf.SortM.SortNone
import Derived.Test.YtonceioajbimaaaProg
/-
  The second engine: words of 32 bits; parts of an array of the call's own as an array.
-/
set_option maxRecDepth 100000
set_option linter.unusedSimpArgs false
set_option linter.unusedVariables false
namespace Go.Proofs.Ytonceioajbimaaa
open Go.RowKit
/-! ### Regions that draw, whose last operation comes behind all others -/
section
variable {P : Program} {ops : Array Oper}
def anyZ (P : Program) (ops : Array Oper) (D : World → Prop) (z : Nat) (Q : Act → World → Prop) : Nat → Array Bool → Act → World → Prop
  | 0, listed, a, w => Region.ready .any ops listed = [] ∧ Q a w
  | fuel + 1, listed, a, w => (Region.ready .any ops listed = [] → Q a w) ∧
      ∀ i ∈ Region.ready .any ops listed, wpOp P ops NoExit i (fun a' w' => (i = z ∨ D w') ∧ anyZ P ops D z Q fuel (listed.setIfInBounds i true) a' w') a w
theorem anyZ.wpAny {D : World → Prop} {z : Nat} {Q : Exit → Act → World → Prop} : ∀ (fuel : Nat) (listed : Array Bool) (a : Act) (w : World),
    anyZ P ops D z (Q .normal) fuel listed a w → wpAny P .any ops Q fuel listed a w
  | 0, _, _, _, h => h
  | fuel + 1, _, _, _, h => ⟨h.1, fun i hi => wpOp_of_noExit (wpOp_mono (fun a' w' h3 => anyZ.wpAny fuel _ a' w' h3.2) (h.2 i hi))⟩
theorem anyZ.mono {D D' : World → Prop} {z : Nat} {Q : Act → World → Prop} (hD : ∀ w, D' w → D w) : ∀ (fuel : Nat) (listed : Array Bool) (a : Act) (w : World),
    anyZ P ops D' z Q fuel listed a w → anyZ P ops D z Q fuel listed a w
  | 0, _, _, _, h => h
  | fuel + 1, _, _, _, h => ⟨h.1, fun i hi => wpOp_mono (fun a' w' h3 => ⟨h3.1.imp_right (hD _), anyZ.mono hD fuel _ a' w' h3.2⟩) (h.2 i hi)⟩
/-- What is listed has all that it comes behind listed. -/
def Down (ops : Array Oper) (L : Array Bool) : Prop := ∀ (k : Nat) (o : Oper), ops[k]? = some o → L.getD k false = true → ∀ e ∈ o.after, Region.binds .any e = true → L.getD e.on false = true
theorem Down.set {L : Array Bool} (h : Down ops L) {j : Nat} (hj : j ∈ Region.ready .any ops L) : Down ops (L.setIfInBounds j true) := by
  intro k o hk hl e he hb
  refine getD_set_true ?_
  by_cases hkj : k = j
  · subst hkj
    obtain ⟨_, o', ho', hall⟩ := mem_ready.1 hj
    rw [ho'] at hk
    cases hk
    exact hall e he hb
  · have : (L.setIfInBounds j true).getD k false = L.getD k false := getD_set_ne false (Ne.symm hkj)
    exact h k o hk (this ▸ hl) e he hb
/-- Each but the last comes ahead of a later one. -/
def domOk (ops : Array Oper) : Bool := (List.range (ops.size - 1)).all fun i => (List.range ops.size).any fun j => Nat.blt i j && ((ops[j]?).map fun o => o.after.any fun e => Region.binds .any e && e.on == i).getD false
theorem dom_next (hd : domOk ops = true) {i : Nat} (hi : i + 1 < ops.size) : ∃ j o, i < j ∧ j < ops.size ∧ ops[j]? = some o ∧ ∃ e ∈ o.after, Region.binds .any e = true ∧ e.on = i := by
  unfold domOk at hd
  rw [List.all_eq_true] at hd
  have h1 := hd i (by rw [List.mem_range]; omega)
  rw [List.any_eq_true] at h1
  obtain ⟨j, hj, h2⟩ := h1
  rw [List.mem_range] at hj
  simp only [Bool.and_eq_true, Nat.blt_eq] at h2
  obtain ⟨h2, h3⟩ := h2
  cases ho : ops[j]? with
  | none => rw [ho] at h3; cases h3
  | some o =>
    rw [ho] at h3
    simp only [Option.map_some, Option.getD_some, Array.any_eq_true, Bool.and_eq_true, beq_iff_eq] at h3
    obtain ⟨m, hm, hb, hon⟩ := h3
    exact ⟨j, o, h2, hj, ho, _, Array.getElem_mem hm, hb, hon⟩
theorem dom_all (hd : domOk ops = true) {L : Array Bool} (hL : Down ops L) (hz : ops.size - 1 ∈ Region.ready .any ops L) : ∀ m i, ops.size - 1 - i = m → i + 1 < ops.size → L.getD i false = true := by
  intro m
  induction m using Nat.strongRecOn with
  | _ m ih =>
    intro i hm hi
    obtain ⟨j, o, hij, hj, ho, e, he, hb, hon⟩ := dom_next hd hi
    subst hon
    by_cases hjz : j = ops.size - 1
    · subst hjz
      obtain ⟨_, o', ho', hall⟩ := mem_ready.1 hz
      rw [ho'] at ho
      cases ho
      exact hall e he hb
    · exact hL j o ho (ih _ (by omega) j rfl (by omega)) e he hb
theorem getD_ff {L : Array Bool} {i : Nat} (h : L.getD i true = false) : L.getD i false = false := by
  rw [Array.getD_eq_getD_getElem?] at h ⊢
  cases hq : L[i]? with
  | none => rfl
  | some b => rw [hq] at h; exact h
theorem anyZ_first {D : World → Prop} {Q : Act → World → Prop} {i : Nat} {oi : Oper} {v : Value} (hd : domOk ops = true) (hiz : i + 1 < ops.size) (hi : ops[i]? = some oi) (hsel : ∀ (j : Nat) (o : Oper) cs b, ops[j]? = some o → o.op ≠ .select cs b) :
    ∀ (fuel : Nat) (listed : Array Bool) (a : Act) (w : World), D w → Down ops listed →
      (∀ j oj, ops[j]? = some oj → j ≠ i → listed.getD j true = false → (∀ e ∈ oj.after, Region.binds .any e = true → e.on ≠ i) → oi.apart ops oj = true) →
      i ∈ Region.ready .any ops listed → YieldsD P ops D oi v a →
      anyZ P ops D (ops.size - 1) Q fuel (listed.setIfInBounds i true) (a.put oi.dst v) w → anyZ P ops D (ops.size - 1) Q (fuel + 1) listed a w := by
  intro fuel
  induction fuel with
  | zero =>
    intro listed a w hDw _ _ hr hy H
    refine ⟨fun h => (by rw [h] at hr; cases hr), fun j hj => ?_⟩
    by_cases hji : j = i
    · subst hji; exact hy.wpOp hi hDw ⟨.inr hDw, H⟩
    · have := ready_mono hj hji
      rw [H.1] at this
      cases this
  | succ fuel ih =>
    intro listed a w hDw hdn hfree hr hy H
    refine ⟨fun h => (by rw [h] at hr; cases hr), fun j hj => ?_⟩
    by_cases hji : j = i
    · subst hji; exact hy.wpOp hi hDw ⟨.inr hDw, H⟩
    · have hjz : j ≠ ops.size - 1 := fun h => by
        subst h
        have h1 := dom_all hd hdn hj _ i rfl hiz
        have h0 := getD_ff (mem_ready.1 hr).1
        rw [h1] at h0
        cases h0
      have h1 := H.2 j (ready_mono hj hji)
      obtain ⟨hjun, oj, hoj, hall⟩ := mem_ready.1 hj
      have hnot : ∀ e ∈ oj.after, Region.binds .any e = true → e.on ≠ i := fun e he hb heq => by
        have h1 := hall e he hb
        have h0 := (mem_ready.1 hr).1
        rw [heq] at h1
        rw [getD_ff h0] at h1
        cases h1
      have h2 := wpOp_putD hoj (hfree j oj hoj hji hjun hnot) (fun cs b => hsel i oi cs b hi) (fun cs b => hsel j oj cs b hoj) hy h1
      have hfree' : ∀ k ok, ops[k]? = some ok → k ≠ i → (listed.setIfInBounds j true).getD k true = false →
          (∀ e ∈ ok.after, Region.binds .any e = true → e.on ≠ i) → oi.apart ops ok = true := fun k ok hk hki hun hno => by
        refine hfree k ok hk hki ?_ hno
        by_cases hjk : j = k
        · subst hjk; exact hjun
        · rw [getD_set_ne true hjk] at hun; exact hun
      refine wpOp_mono (fun a' w' h3 => ?_) h2
      have hDw' : D w' := h3.2.1.resolve_left hjz
      refine ⟨.inr hDw', ih (listed.setIfInBounds j true) a' w' hDw' (hdn.set hj) hfree' (ready_mono hr (Ne.symm hji)) h3.1 ?_⟩
      rw [Array.setIfInBounds_comm _ _ hji]
      exact h3.2.2
def planOkZ (ops : Array Oper) : Nat → Array Bool → Plan → Bool
  | _ + 1, listed, .nil => (Region.ready .any ops listed == [ops.size - 1]) && (Region.ready .any ops (listed.setIfInBounds (ops.size - 1) true)).isEmpty
  | n + 1, listed, .q i k => Nat.blt (i + 1) ops.size && Region.free .any ops listed i && (Region.ready .any ops listed).contains i && planOkZ ops n (listed.setIfInBounds i true) k
  | n + 1, listed, .e i k => (Region.ready .any ops listed == [i]) && planOkZ ops n (listed.setIfInBounds i true) k
  | n + 1, listed, .two i j k h => (Region.ready .any ops listed == [i, j]) && planOkZ ops n (listed.setIfInBounds i true) k && planOkZ ops n (listed.setIfInBounds j true) h
  | 0, _, _ => false
theorem planW.anyZ {Q : Act → World → Prop} (hs : Region.noSelect ops = true) (hd : domOk ops = true) : ∀ (n : Nat) (ix : Plan) (D : World → Prop) (listed : Array Bool) (a : Act) (w : World), planOkZ ops n listed ix = true → D w → Down ops listed →
    planW P ops (fun a w => wpOp P ops NoExit (ops.size - 1) Q a w) ix D a w → Proofs.Ytonceioajbimaaa.anyZ P ops D (ops.size - 1) Q n listed a w
  | 0, .nil, _, _, _, _, hok, _, _, _ => by cases hok
  | n + 1, .nil, D, listed, a, w, hok, hD, hdn, h => by
    simp only [planOkZ, Bool.and_eq_true, beq_iff_eq, List.isEmpty_iff] at hok
    refine ⟨fun h0 => (by rw [hok.1] at h0; cases h0), fun j hj => ?_⟩
    rw [hok.1] at hj
    simp only [List.mem_singleton] at hj
    subst hj
    refine wpOp_mono (fun a' w' hq => ⟨.inl rfl, ?_⟩) h
    cases n with
    | zero => exact ⟨hok.2, hq⟩
    | succ n => exact ⟨fun _ => hq, fun i hi => by rw [hok.2] at hi; cases hi⟩
  | n + 1, .q i ix, D, listed, a, w, hok, hD, hdn, ⟨o, v, hi, hy, h⟩ => by
    simp only [planOkZ, Bool.and_eq_true, Nat.blt_eq] at hok
    have hrd : i ∈ Region.ready .any ops listed := by simpa using hok.1.2
    exact anyZ_first hd hok.1.1.1 hi (Region.noSelect_spec hs) n listed a w hD hdn (Region.free_spec hi hok.1.1.2) hrd hy (planW.anyZ hs hd n ix D _ _ _ hok.2 hD (hdn.set hrd) h)
  | n + 1, .e i ix, D, listed, a, w, hok, hD, hdn, h => by
    simp only [planOkZ, Bool.and_eq_true, beq_iff_eq] at hok
    refine ⟨fun h0 => (by rw [hok.1] at h0; cases h0), fun j hj => ?_⟩
    have hj0 := hj
    rw [hok.1] at hj
    simp only [List.mem_singleton] at hj
    subst hj
    exact wpOp_mono (fun a' w' ⟨D', hD', hw', h'⟩ => ⟨.inr (hD' _ hw'), anyZ.mono hD' _ _ _ _ (planW.anyZ hs hd n ix D' _ a' w' hok.2 hw' (hdn.set hj0) h')⟩) h
  | n + 1, .two i j k m, D, listed, a, w, hok, hD, hdn, h => by
    simp only [planOkZ, Bool.and_eq_true, beq_iff_eq] at hok
    refine ⟨fun h0 => (by rw [hok.1.1] at h0; cases h0), fun r hr => ?_⟩
    have hr0 := hr
    rw [hok.1.1] at hr
    simp only [List.mem_cons, List.not_mem_nil, or_false] at hr
    rcases hr with rfl | rfl
    · exact wpOp_mono (fun a' w' ⟨D', hD', hw', h'⟩ => ⟨.inr (hD' _ hw'), anyZ.mono hD' _ _ _ _ (planW.anyZ hs hd n k D' _ a' w' hok.1.2 hw' (hdn.set hr0) h')⟩) h.1
    · exact wpOp_mono (fun a' w' ⟨D', hD', hw', h'⟩ => ⟨.inr (hD' _ hw'), anyZ.mono hD' _ _ _ _ (planW.anyZ hs hd n m D' _ a' w' hok.2 hw' (hdn.set hr0) h')⟩) h.2
theorem down_none (n : Nat) : Down ops (Array.replicate n false) := by
  intro k o _ h
  rw [Array.getD_eq_getD_getElem?, Array.getElem?_replicate] at h
  split at h <;> cases h
theorem wp_region_planZ {id : Nat} {a : Act} {w : World} {Q : Exit → Act → World → Prop} (D : World → Prop) (ix : Plan) (hm : P.follows .mixedOrders = true)
    (hok : (Region.noSelect ops && domOk ops && planOkZ ops ops.size (Array.replicate ops.size false) ix) = true) (hD : D w.drew)
    (h : planW P ops (fun a w => wpOp P ops NoExit (ops.size - 1) (Q .normal) a w) ix D a w.drew) : (Code.region id ops true).wp P Q a w := by
  simp only [Bool.and_eq_true] at hok
  refine wp_region_any hm ?_
  exact anyZ.wpAny _ _ _ _ (planW.anyZ hok.1.1 hok.1.2 _ ix D _ a _ hok.2 hD (down_none _) h)
end
end Go.Proofs.Ytonceioajbimaaa
namespace Go.Proofs.Ytonceioajbimaaa.A
open Go.RowKit
section
variable {P : Program} {n : Nat} {W : Wd} {σ : Blks} {l : Slots} {o : Oper} {ops : Array Oper} {Q : Exit → Act → World → Prop}
/-- What is to be shown ahead of a region's last operation. -/
def LastOp (P : Program) (ops : Array Oper) (Q : Exit → Act → World → Prop) : Exit → Act → World → Prop := fun _ a w => wpOp P ops NoExit (ops.size - 1) (Q .normal) a w
theorem SC.drawZ {id : Nat} (X : List Nat) (ix : Plan) (hm : P.follows .mixedOrders = true)
    (hok : (Region.noSelect ops && domOk ops && planOkZ ops ops.size (Array.replicate ops.size false) ix) = true) (h : SX P ops ix X (St n W σ l) (LastOp P ops Q)) : SC P (.region id ops true) (St n W σ l) Q := fun a w hs =>
  wp_region_planZ (fun w' => Ext X w.drew w') ix hm hok (Ext.refl _) (h a _ hs.drew)
theorem SE.effZ {Y : List Nat} {R : Abs → Blks → Prop} (hi : ops[ops.size - 1]? = some o) (hv : Eff P n W σ l Y o R) (hg : gd ops l o = some true) (hd : lt? o.dst n = true)
    (k : ∀ y τ, R y τ → SE .normal (St n W τ (put? l o.dst y)) Q) : SE .normal (St n W σ l) (LastOp P ops Q) := fun a w hs => by
  unfold LastOp wpOp
  simp only [hi, hs.wanted hg, if_true]
  refine .inl ?_
  unfold Oper.wp
  obtain ⟨v, w', y, τ, hR, hx, hr, hm, hc, hrun | ⟨rfl, hrun⟩⟩ := hv a w hs
  · rw [hrun]; exact k _ _ hR _ _ ((hs.to hm hc).put hd hr)
  · rw [hrun]; exact k _ _ hR _ _ ((hs.to hm hc).put hd hr)
end

abbrev Wo := BitVec 32
/-- A word's value. -/
def u32 (p : Wo) : Abs := .v (.int .u32 (p.toNat : Nat))
def lA (l : List Wo) : List Abs := l.map u32
theorem putL_whole {L ys : List Abs} (h : ys.length = L.length) : putL L 0 ys = ys := by
  rw [putL_eq _ _ _ (Nat.zero_le _), Nat.zero_add, h]
  simp
theorem lA_at {l : List Wo} {q : Nat} (h : q < l.length) : (lA l)[0 + q * 1]? = some (u32 (l.getD q 0)) := by
  simp [lA, List.getD, h]
theorem putL_set (L : List Abs) (q : Nat) (a : Abs) (h : q < L.length) : putL L q [a] = L.set q a := by
  rw [putL_eq _ _ _ (by omega), List.set_eq_take_append_cons_drop, if_pos h]
  simp
theorem lA_put {l : List Wo} {q : Nat} {p : Wo} (h : q < l.length) : putL (lA l) (0 + q * 1) [u32 p] = lA (l.set q p) := by
  rw [putL_set _ _ _ (by simpa [lA] using h)]
  simp [lA, List.map_set]
theorem set_next {l : List Wo} {m : Nat} {p : Wo} (h : 0 < m) : (l ++ List.replicate m 0).set l.length p = l ++ [p] ++ List.replicate (m - 1) 0 := by
  obtain ⟨m, rfl⟩ : ∃ k, m = k + 1 := ⟨m - 1, by omega⟩
  simp [List.replicate_succ, List.set_append]
section
variable {P : Program} {n : Nat} {W : Wd} {σ τ : Blks} {l : Slots} {X : List Nat} {x y z : Operand} {d : Option Nat} {ty t t' e : TypeId} {pos : String} {aft : Array Edge} {g : Option (Nat × Bool)} {k k' : IntKind} {b : Nat} {A B : Abs} {tab : List (Nat × TI)} {ops : Array Oper} {rest : List Oper} {Q : Exit → Act → World → Prop} {p q : Wo}
theorem wrap32 (p : Wo) : IntKind.u32.wrap (p.toNat : Nat) = (p.toNat : Nat) := by
  have := p.isLt
  simp [IntKind.wrap, IntKind.bits, IntKind.signed]
  omega
theorem ofInt32 (p : Wo) : BitVec.ofInt IntKind.u32.bits ((p.toNat : Nat) : Int) = p := by
  show BitVec.ofInt 32 ((p.toNat : Nat) : Int) = p
  rw [BitVec.ofInt_natCast, BitVec.ofNat_toNat, BitVec.setWidth_eq]
theorem Val.xorW (hx : look l x = some (u32 p)) (hy : look l y = some (u32 q)) : Val P n W σ l X ⟨d, .binOp .xor t x y t', ty, pos, aft, g⟩ (u32 (p ^^^ q)) :=
  Val.bitI hx hy (fun w => by
    simp only [Op.intBits, ofInt32]
    exact congrArg (fun r => Result.ok (Value.int .u32 r) w) (wrap32 (p ^^^ q))) rfl
theorem Val.andW (hx : look l x = some (u32 p)) (hy : look l y = some (u32 q)) : Val P n W σ l X ⟨d, .binOp .and t x y t', ty, pos, aft, g⟩ (u32 (p &&& q)) :=
  Val.bitI hx hy (fun w => by
    simp only [Op.intBits, ofInt32]
    exact congrArg (fun r => Result.ok (Value.int .u32 r) w) (wrap32 (p &&& q))) rfl
theorem Val.orW (hx : look l x = some (u32 p)) (hy : look l y = some (u32 q)) : Val P n W σ l X ⟨d, .binOp .or t x y t', ty, pos, aft, g⟩ (u32 (p ||| q)) :=
  Val.bitI hx hy (fun w => by
    simp only [Op.intBits, ofInt32]
    exact congrArg (fun r => Result.ok (Value.int .u32 r) w) (wrap32 (p ||| q))) rfl
theorem Val.sumW (hx : look l x = some (u32 p)) (hy : look l y = some (u32 q)) : Val P n W σ l X ⟨d, .binOp .add t x y t', ty, pos, aft, g⟩ (u32 (p + q)) :=
  Val.to (Val.addW hx hy) (congrArg (fun r => Abs.v (.int .u32 r)) (by
    simp only [IntKind.wrap, IntKind.bits, IntKind.signed, BitVec.toNat_add]
    simp))
theorem Val.shrB {m : Nat} {r : Int} (hx : look l x = some (u32 p)) (hy : look l y = some (.v (.int k' r))) (hr : r = (m : Nat)) : Val P n W σ l X ⟨d, .binOp .shr t x y t', ty, pos, aft, g⟩ (u32 (p >>> m)) :=
  Val.to (Val.shrI hx hy (by omega)) (congrArg (fun r => Abs.v (.int .u32 r)) (by
    subst hr
    have hp := p.isLt
    simp only [IntKind.bits, Int.toNat_natCast, BitVec.toNat_ushiftRight, Nat.shiftRight_eq_div_pow]
    rw [Int.fdiv_eq_ediv_of_nonneg _ (by exact Int.le_of_lt (Int.pow_pos (by decide)))]
    rcases Nat.le_total m 32 with h | h
    · rw [Nat.min_eq_left h]; simp
    · rw [Nat.min_eq_right h, Nat.div_eq_of_lt (Nat.lt_of_lt_of_le hp (Nat.pow_le_pow_right (by decide) h))]
      omega))
theorem Val.shlB {m : Nat} {r : Int} (hx : look l x = some (u32 p)) (hy : look l y = some (.v (.int k' r))) (hr : r = (m : Nat)) : Val P n W σ l X ⟨d, .binOp .shl t x y t', ty, pos, aft, g⟩ (u32 (p <<< m)) :=
  Val.to (Val.shlW hx hy (by omega)) (congrArg (fun r => Abs.v (.int .u32 r)) (by
    subst hr
    have hp := p.isLt
    have e : ∀ v : Int, IntKind.u32.wrap v = v % 4294967296 := fun v => by simp [IntKind.wrap, IntKind.bits, IntKind.signed]
    rw [e, show IntKind.u32.bits = 32 from rfl, Int.toNat_natCast, BitVec.toNat_shiftLeft, Nat.shiftLeft_eq]
    rcases Nat.le_total m 32 with h | h
    · rw [Nat.min_eq_left h]; simp
    · rw [Nat.min_eq_right h]
      obtain ⟨j, rfl⟩ : ∃ j, m = 32 + j := ⟨m - 32, by omega⟩
      rw [Nat.pow_add, show p.toNat * (2 ^ 32 * 2 ^ j) = 2 ^ 32 * (p.toNat * 2 ^ j) by rw [Nat.mul_left_comm], Nat.mul_mod_right]
      simp))
/-- A byte as a word. -/
theorem Val.conv8 {c : UInt8} (hx : look l x = some (.v (bc c))) (ht : P.underlying t' = some (.int .u32)) (hs : (P.underlying t).isSome = true) : Val P n W σ l X ⟨d, .convert t t' x, ty, pos, aft, g⟩ (u32 (BitVec.ofNat 32 c.toNat)) :=
  Val.to (Val.convI (k := .u8) (a := (c.toNat : Nat)) hx ht hs (by have := c.toNat_lt; simp only [InR, lo, hi]; omega)) (congrArg (fun r => Abs.v (.int .u32 r)) (by
    have := c.toNat_lt
    rw [BitVec.toNat_ofNat, Nat.mod_eq_of_lt (by omega)]))
/-- A word as a byte. -/
theorem Val.conv32 (hx : look l x = some (u32 p)) (ht : P.underlying t' = some (.int .u8)) (hs : (P.underlying t).isSome = true) : Val P n W σ l X ⟨d, .convert t t' x, ty, pos, aft, g⟩ (.v (bc (UInt8.ofNat p.toNat))) :=
  Val.to (Val.convW hx ht hs) (congrArg Abs.v (by
    simp [IntKind.wrap, IntKind.bits, IntKind.signed, bc]))
/-- A part of an array in a block of the call's own. -/
theorem Val.sliceArrLo (hT : TabOk P tab) {i : TI} {m off q : Nat} {r : Int} (hu : P.underlying t = some (.array m e)) (hi : ti tab e = some i) (hx : look l x = some (.v (.pointer (some ⟨b, off, none⟩)))) (hy : look l y = some (.v (.int k r))) (hr : r = (q : Nat)) (hq : q < m) :
    Val P n W σ l X ⟨d, .slice t x (some y) none none, ty, pos, aft, g⟩ (.v (.slice (some ⟨b, off + q * i.size, none⟩) (m - q) (m - q))) := fun a w hs _ => ⟨_, rfl, fun w' _ => by
  subst hr
  have h6 := (hT _ _ hi).sizeOf (w := w')
  have h1 : q ≤ m := by omega
  have h2 : ¬ m < q := by omega
  have h3 : ¬ m = q := by omega
  simp [execOp, Instr.sliceAt, Instr.sureAddr, Instr.sliceBounds, Instr.sliceBound, asIntOf, hs.plain hx, hs.plain hy, run_underlying hu, Sem.run_bind, Result.andThen, h6, h1, h2, h3, Addr.add_none]⟩
theorem Val.sliceArrHi (hT : TabOk P tab) {i : TI} {m off q : Nat} {r : Int} (hu : P.underlying t = some (.array m e)) (hi : ti tab e = some i) (hx : look l x = some (.v (.pointer (some ⟨b, off, none⟩)))) (hy : look l y = some (.v (.int k r))) (hr : r = (q : Nat)) (hq : q < m) :
    Val P n W σ l X ⟨d, .slice t x none (some y) none, ty, pos, aft, g⟩ (.v (.slice (some ⟨b, off, none⟩) q m)) := fun a w hs _ => ⟨_, rfl, fun w' _ => by
  subst hr
  have h6 := (hT _ _ hi).sizeOf (w := w')
  have h1 : q ≤ m := by omega
  have h2 : ¬ m < q := by omega
  have h3 : ¬ m = 0 := by omega
  simp [execOp, Instr.sliceAt, Instr.sureAddr, Instr.sliceBounds, Instr.sliceBound, asIntOf, hs.plain hx, hs.plain hy, run_underlying hu, Sem.run_bind, Result.andThen, h6, h1, h2, h3, Addr.add]⟩
/-- A row that is an array's address. -/
theorem Val.arrayAt {m len c : Nat} {A' : Option Addr} (hu : P.underlying t = some (.array m e)) (hx : look l x = some (.v (.slice A' len c))) (hm : m ≤ len) :
    Val P n W σ l X ⟨d, .sliceToArrayPointer t x, ty, pos, aft, g⟩ (.v (.pointer A')) := fun a w hs _ => ⟨_, rfl, fun w' _ => by
  have h1 : ¬ len < m := by omega
  simp [execOp, Instr.arrayAt, hs.plain hx, run_underlying hu, Sem.run_bind, Result.andThen, h1]⟩
/-- A new block in a region that draws: what follows may change it. -/
theorem SX.alloc {ix : Plan} (hT : TabOk P tab) {i : TI} {j : Nat} (ht : ti tab t = some i) (hi : ops[j]? = some ⟨d, .alloc t, ty, pos, aft, g⟩) (hg : gd ops l ⟨d, .alloc t, ty, pos, aft, g⟩ = some true) (hd : lt? d n = true)
    (k : ∀ b, SX P ops ix (b :: X) (St n W (.blk b t (zabs i.zero) :: σ) (put? l d (.v (.pointer (some ⟨b, 0, none⟩))))) Q) : SX P ops (.e j ix) X (St n W σ l) Q := fun a w hs => by
  unfold planW wpOp
  simp only [hi, hs.wanted hg, if_true]
  refine .inl ?_
  unfold Oper.wp
  obtain ⟨zv, hz, hc⟩ := (hT t _ ht).zeroValue (w := w)
  obtain ⟨h1, h2⟩ := hs.mem.alloc t (reps_zabs i.zero)
  have hrun : (execOp a.eval ⟨d, .alloc t, ty, pos, aft, g⟩).run P w = .ok (.value (.pointer (some ⟨w.heap.size, 0, none⟩))) (w.alloc (row t i.zero)) := by
    simp [execOp, Instr.alloc, Sem.run_bind, hz, Result.andThen, newVar, newRow, newObj, Sem.run, hc, row]
  rw [hrun]
  refine ⟨fun w2 => Ext (w.heap.size :: X) (w.alloc (row t i.zero)) w2, fun w2 h3 => ((Ext.refl w).alloc _).trans (h3 : Ext (w.heap.size :: X) _ w2) fun x hx => ?_, Ext.refl _, k _ _ _ ((hs.to h1 h2).put hd (show rep _ _ (.v (.pointer (some ⟨w.heap.size, 0, none⟩))) _ from rfl))⟩
  rcases List.mem_cons.1 hx with rfl | hx
  · exact .inr (Nat.le_refl _)
  · exact .inl hx
/-- A call that takes the two pieces on top. -/
theorem After.two {ι : Type} {x1 x2 : It} {β : Blks} {τ' : ι → Blks} {y1 y2 : ι → It} {K : Blks → ι → Prop} (hr : x1.rids = [] ∧ x2.rids = []) (hτ : ∀ z, τ' z = [y1 z, y2 z]) (k : ∀ z, K (y1 z :: y2 z :: β) z) : After (x1 :: x2 :: β) [x1, x2] τ' K :=
  After.mid [] (β := β) rfl (by intro x hx; simp only [List.mem_cons, List.not_mem_nil, or_false] at hx; rcases hx with rfl | rfl; exact hr.1; exact hr.2) fun z => by rw [hτ z]; exact k z
theorem After.two0 {ι : Type} {x1 x2 : It} {β : Blks} {τ' : ι → Blks} {K : Blks → ι → Prop} (hr : x1.rids = [] ∧ x2.rids = []) (hτ : ∀ z, τ' z = []) (k : ∀ z, K β z) : After (x1 :: x2 :: β) [x1, x2] τ' K :=
  After.mid [] (β := β) rfl (by intro x hx; simp only [List.mem_cons, List.not_mem_nil, or_false] at hx; rcases hx with rfl | rfl; exact hr.1; exact hr.2) fun z => by rw [hτ z]; exact k z
/-- A row is never longer than may be. -/
theorem SC.rowLe {c : Code} {s i : Nat} {xs : List (List Abs)} (hs : slot l i = some (.sl s xs)) (k : xs.length ≤ maxLen → SC P c (St n W σ l) Q) : SC P c (St n W σ l) Q := fun a w h => by
  have h1 : rep (mids σ ++ W.G) w (.sl s xs) (a.eval (.tmp i)) := h.eval (x := .tmp i) hs
  obtain ⟨us, h2, _⟩ := h1
  obtain ⟨_, _, _, h3, h4, _⟩ := h2.shape
  exact k (Nat.le_trans h3 h4) a w h
theorem SE.perm {ex : Exit} (h : τ.Perm σ) (k : SE ex (St n W τ l) Q) : SE ex (St n W σ l) Q := fun a w hs => k a w (hs.perm h)
theorem SE.swap {ex : Exit} {x y : It} (k : SE ex (St n W (y :: x :: σ) l) Q) : SE ex (St n W (x :: y :: σ) l) Q := SE.perm (List.Perm.swap x y σ) k
end
section
variable {P : Program} {n : Nat} {W : Wd} {σ : Blks} {l : Slots} {X : List Nat} {x : Operand} {d : Option Nat} {ty t t' e tp : TypeId} {pos : String} {aft : Array Edge} {gq : Option (Nat × Bool)} {A : Abs} {ms : Array (String × TypeId)} {ops : Array Oper} {rest : List Oper} {Q : Exit → Act → World → Prop} {s : Nat} {xs : List (List Abs)}
/-- Is an interface's value nil? -/
theorem Val.ifaceNil (hi : P.underlying t = some (.interface ms)) (hx : look l x = some (.ifc tp A)) : Val P n W σ l X ⟨d, .binOp .eql t x (.const .nilIface) t', ty, pos, aft, gq⟩ (.v (.bool false)) := fun a w hs _ => by
  obtain ⟨u, h1, h2⟩ := hs.eval hx
  refine ⟨_, rfl, fun w' _ => ?_⟩
  have h : ∀ d : Nat, (Op.equalIn (d + 1) t (.iface tp u) .nilIface).run P w' = .ok false w' := fun d => by simp [Op.equalIn, run_underlying hi]
  have h3 : (binOp .eql t (.iface tp u) .nilIface).run P w' = .ok (.bool false) w' := by
    simp only [binOp]
    simp [Op.equal, Op.maxDepth, h 9999]
  have e : a.eval (.const .nilIface) = .nilIface := rfl
  simp [execOp, h1, e, eqGuard, h3]
theorem Val.nilNil (hi : P.underlying t = some (.interface ms)) (hx : look l x = some (.v .nilIface)) : Val P n W σ l X ⟨d, .binOp .eql t x (.const .nilIface) t', ty, pos, aft, gq⟩ (.v (.bool true)) := fun a w hs _ => by
  refine ⟨_, rfl, fun w' _ => ?_⟩
  have h : ∀ d : Nat, (Op.equalIn (d + 1) t .nilIface .nilIface).run P w' = .ok true w' := fun d => by simp [Op.equalIn, run_underlying hi]
  have h3 : (binOp .eql t .nilIface .nilIface).run P w' = .ok (.bool true) w' := by
    simp only [binOp]
    simp [Op.equal, Op.maxDepth, h 9999]
  have e : a.eval (.const .nilIface) = .nilIface := rfl
  simp [execOp, hs.plain hx, e, eqGuard, h3]
/-- Is a slice nil? Then it is empty. -/
theorem SL.eqNil (ht : P.underlying t = some (.slice e)) (hx : look l x = some (.sl s xs)) (hg : gd ops l ⟨d, .binOp .eql t x (.const (.slice none 0 0)) t', ty, pos, aft, gq⟩ = some true) (hd : lt? d n = true)
    (k : ∀ b : Bool, (b = true → xs = []) → SL P ops rest (St n W σ (put? l d (.v (.bool b)))) Q) : SL P ops (⟨d, .binOp .eql t x (.const (.slice none 0 0)) t', ty, pos, aft, gq⟩ :: rest) (St n W σ l) Q := fun a w hs =>
  wpList_step fun K hK => by
    rw [if_pos (hs.wanted hg)]
    unfold Oper.wp
    obtain ⟨us, hr, h2⟩ := hs.eval hx
    obtain ⟨A', c, h1, h3, h4, h5⟩ := hr.shape
    have e1 : a.eval (.const (.slice none 0 0)) = .slice none 0 0 := rfl
    have hrun : (binOp .eql t (.slice A' xs.length c) (.slice none 0 0)).run P w = .ok (.bool A'.isNone) w := by
      have h : ∀ d : Nat, (Op.equalIn (d + 1) t (.slice A' xs.length c) (.slice none 0 0)).run P w = .ok A'.isNone w := fun d => by cases A' <;> simp [Op.equalIn, run_underlying ht]
      simp only [binOp]
      simp [Op.equal, Op.maxDepth, h 9999]
    have hrun2 : (execOp a.eval ⟨d, .binOp .eql t x (.const (.slice none 0 0)) t', ty, pos, aft, gq⟩).run P w = .ok (.value (.bool A'.isNone)) w := by simp [execOp, h1, e1, eqGuard, hrun]
    rw [hrun2]
    refine hK _ _ (k A'.isNone (fun hb => ?_) _ _ (hs.put hd (show rep _ _ (.v (.bool A'.isNone)) _ from rfl)))
    cases A' with
    | none =>
      have := h5 rfl
      exact List.length_eq_zero_iff.1 (by omega)
    | some A' => cases hb
end
end Go.Proofs.Ytonceioajbimaaa.A
/-
  The second engine: regions that draw, in two parts; an element of a row of the call's own stored; words of 64 bits.
-/
set_option maxRecDepth 100000
set_option linter.unusedSimpArgs false
set_option linter.unusedVariables false
namespace Go.Proofs.Ytonceioajbimaaa
open Go.RowKit
section
variable {P : Program} {ops : Array Oper}
/-- In whatever order; what the operations from m on leave is asked nothing. -/
def anyS (P : Program) (ops : Array Oper) (D : World → Prop) (m : Nat) (Q : Act → World → Prop) : Nat → Array Bool → Act → World → Prop
  | 0, listed, a, w => Region.ready .any ops listed = [] ∧ Q a w
  | fuel + 1, listed, a, w => (Region.ready .any ops listed = [] → Q a w) ∧
      ∀ i ∈ Region.ready .any ops listed, wpOp P ops NoExit i (fun a' w' => (m ≤ i ∨ D w') ∧ anyS P ops D m Q fuel (listed.setIfInBounds i true) a' w') a w
theorem anyS.wpAny {D : World → Prop} {m : Nat} {Q : Exit → Act → World → Prop} : ∀ (fuel : Nat) (listed : Array Bool) (a : Act) (w : World),
    anyS P ops D m (Q .normal) fuel listed a w → wpAny P .any ops Q fuel listed a w
  | 0, _, _, _, h => h
  | fuel + 1, _, _, _, h => ⟨h.1, fun i hi => wpOp_of_noExit (wpOp_mono (fun a' w' h3 => anyS.wpAny fuel _ a' w' h3.2) (h.2 i hi))⟩
theorem anyS.mono {D D' : World → Prop} {m : Nat} {Q : Act → World → Prop} (hD : ∀ w, D' w → D w) : ∀ (fuel : Nat) (listed : Array Bool) (a : Act) (w : World),
    anyS P ops D' m Q fuel listed a w → anyS P ops D m Q fuel listed a w
  | 0, _, _, _, h => h
  | fuel + 1, _, _, _, h => ⟨h.1, fun i hi => wpOp_mono (fun a' w' h3 => ⟨h3.1.imp_right (hD _), anyS.mono hD fuel _ a' w' h3.2⟩) (h.2 i hi)⟩
/-- Those ahead of m are listed. -/
def headIn (m : Nat) (L : Array Bool) : Bool := (List.range m).all fun i => L.getD i false
theorem headIn_set {m : Nat} {L : Array Bool} (h : headIn m L = true) (j : Nat) : headIn m (L.setIfInBounds j true) = true := by
  unfold headIn at *
  rw [List.all_eq_true] at *
  exact fun i hi => getD_set_true (h i hi)
theorem headIn_get {m : Nat} {L : Array Bool} (h : headIn m L = true) {i : Nat} (hi : i < m) : L.getD i false = true := by
  unfold headIn at h
  rw [List.all_eq_true] at h
  exact h i (List.mem_range.2 hi)
theorem anyD.toS {D D2 : World → Prop} {m : Nat} {Q : Act → World → Prop} : ∀ (fuel : Nat) (listed : Array Bool) (a : Act) (w : World), headIn m listed = true →
    anyD P ops D2 Q fuel listed a w → anyS P ops D m Q fuel listed a w
  | 0, _, _, _, _, h => h
  | fuel + 1, L, _, _, hL, h => ⟨h.1, fun i hi => wpOp_mono (fun a' w' h3 => ⟨.inl (by
      rcases Nat.lt_or_ge i m with h1 | h1
      · have h2 := headIn_get hL h1
        rw [getD_ff (mem_ready.1 hi).1] at h2
        cases h2
      · exact h1), anyD.toS fuel _ a' w' (headIn_set hL i) h3.2⟩) (h.2 i hi)⟩
/-- Each ahead of m comes ahead of a later one up to m; each behind m comes behind one from m on. -/
def domOkS (ops : Array Oper) (m : Nat) : Bool :=
  ((List.range m).all fun i => (List.range (m + 1)).any fun j => Nat.blt i j && ((ops[j]?).map fun o => o.after.any fun e => Region.binds .any e && e.on == i).getD false) &&
  ((List.range ops.size).all fun j => Nat.ble j m || ((ops[j]?).map fun o => o.after.any fun e => Region.binds .any e && Nat.ble m e.on && Nat.blt e.on j).getD false)
theorem domS_next {m : Nat} (hd : domOkS ops m = true) {i : Nat} (hi : i < m) : ∃ j o, i < j ∧ j ≤ m ∧ ops[j]? = some o ∧ ∃ e ∈ o.after, Region.binds .any e = true ∧ e.on = i := by
  unfold domOkS at hd
  rw [Bool.and_eq_true, List.all_eq_true] at hd
  have h1 := hd.1 i (by rw [List.mem_range]; omega)
  rw [List.any_eq_true] at h1
  obtain ⟨j, hj, h2⟩ := h1
  rw [List.mem_range] at hj
  simp only [Bool.and_eq_true, Nat.blt_eq] at h2
  obtain ⟨h2, h3⟩ := h2
  cases ho : ops[j]? with
  | none => rw [ho] at h3; cases h3
  | some o =>
    rw [ho] at h3
    simp only [Option.map_some, Option.getD_some, Array.any_eq_true, Bool.and_eq_true, beq_iff_eq] at h3
    obtain ⟨x, hx, hb, hon⟩ := h3
    exact ⟨j, o, h2, by omega, ho, _, Array.getElem_mem hx, hb, hon⟩
theorem domS_back {m : Nat} (hd : domOkS ops m = true) {j : Nat} {o : Oper} (ho : ops[j]? = some o) (hj : m < j) : ∃ e ∈ o.after, Region.binds .any e = true ∧ m ≤ e.on ∧ e.on < j := by
  unfold domOkS at hd
  rw [Bool.and_eq_true, List.all_eq_true, List.all_eq_true] at hd
  have h1 := hd.2 j (by rw [List.mem_range]; exact (Array.getElem?_eq_some_iff.1 ho).1)
  rw [ho] at h1
  simp only [Option.map_some, Option.getD_some, Bool.or_eq_true, Nat.ble_eq, Array.any_eq_true, Bool.and_eq_true, Nat.blt_eq] at h1
  rcases h1 with h1 | ⟨x, hx, ⟨hb, h2⟩, h3⟩
  · omega
  · exact ⟨_, Array.getElem_mem hx, hb, h2, h3⟩
/-- All that one comes behind is listed. -/
def Due (ops : Array Oper) (L : Array Bool) (j : Nat) : Prop := ∃ o, ops[j]? = some o ∧ ∀ e ∈ o.after, Region.binds .any e = true → L.getD e.on false = true
theorem Due.down {m : Nat} (hd : domOkS ops m = true) {L : Array Bool} (hL : Down ops L) (hin : ∀ k, L.getD k false = true → ∃ o, ops[k]? = some o) : ∀ j, m ≤ j → Due ops L j → Due ops L m := by
  intro j
  induction j using Nat.strongRecOn with
  | _ j ih =>
    intro hj h
    by_cases hjm : j = m
    · subst hjm; exact h
    · obtain ⟨o, ho, hall⟩ := h
      obtain ⟨e, he, hb, h1, h2⟩ := domS_back hd ho (by omega)
      have h3 := hall e he hb
      obtain ⟨o2, ho2⟩ := hin _ h3
      exact ih e.on h2 h1 ⟨o2, ho2, hL _ _ ho2 h3⟩
theorem domS_all {m : Nat} (hd : domOkS ops m = true) {L : Array Bool} (hL : Down ops L) (hz : Due ops L m) : ∀ k i, m - i = k → i < m → L.getD i false = true := by
  intro k
  induction k using Nat.strongRecOn with
  | _ k ih =>
    intro i hk hi
    obtain ⟨j, o, hij, hj, ho, e, he, hb, hon⟩ := domS_next hd hi
    subst hon
    by_cases hjz : j = m
    · subst hjz
      obtain ⟨o', ho', hall⟩ := hz
      rw [ho'] at ho
      cases ho
      exact hall e he hb
    · exact hL j o ho (ih _ (by omega) j rfl (by omega)) e he hb
/-- What is listed is there, with all that it comes behind. -/
structure Listed (ops : Array Oper) (L : Array Bool) : Prop where
  down : Down ops L
  there : ∀ k, L.getD k false = true → ∃ o, ops[k]? = some o
theorem Listed.set {L : Array Bool} (h : Listed ops L) {j : Nat} (hj : j ∈ Region.ready .any ops L) : Listed ops (L.setIfInBounds j true) := by
  refine ⟨h.down.set hj, fun k hk => ?_⟩
  by_cases hkj : k = j
  · subst hkj
    obtain ⟨_, o, ho, _⟩ := mem_ready.1 hj
    exact ⟨o, ho⟩
  · have : (L.setIfInBounds j true).getD k false = L.getD k false := getD_set_ne false (Ne.symm hkj)
    exact h.there k (this ▸ hk)
theorem Listed.none (n : Nat) : Listed ops (Array.replicate n false) := by
  refine ⟨down_none n, fun k h => ?_⟩
  rw [Array.getD_eq_getD_getElem?, Array.getElem?_replicate] at h
  split at h <;> cases h
theorem anyS_first {D : World → Prop} {m : Nat} {Q : Act → World → Prop} {i : Nat} {oi : Oper} {v : Value} (hd : domOkS ops m = true) (hiz : i < m) (hi : ops[i]? = some oi) (hsel : ∀ (j : Nat) (o : Oper) cs b, ops[j]? = some o → o.op ≠ .select cs b) :
    ∀ (fuel : Nat) (listed : Array Bool) (a : Act) (w : World), D w → Listed ops listed →
      (∀ j oj, ops[j]? = some oj → j ≠ i → listed.getD j true = false → (∀ e ∈ oj.after, Region.binds .any e = true → e.on ≠ i) → oi.apart ops oj = true) →
      i ∈ Region.ready .any ops listed → YieldsD P ops D oi v a →
      anyS P ops D m Q fuel (listed.setIfInBounds i true) (a.put oi.dst v) w → anyS P ops D m Q (fuel + 1) listed a w := by
  intro fuel
  induction fuel with
  | zero =>
    intro listed a w hDw _ _ hr hy H
    refine ⟨fun h => (by rw [h] at hr; cases hr), fun j hj => ?_⟩
    by_cases hji : j = i
    · subst hji; exact hy.wpOp hi hDw ⟨.inr hDw, H⟩
    · have := ready_mono hj hji
      rw [H.1] at this
      cases this
  | succ fuel ih =>
    intro listed a w hDw hdn hfree hr hy H
    refine ⟨fun h => (by rw [h] at hr; cases hr), fun j hj => ?_⟩
    by_cases hji : j = i
    · subst hji; exact hy.wpOp hi hDw ⟨.inr hDw, H⟩
    · have hjz : ¬ m ≤ j := fun h => by
        have h2 : Due ops listed j := (mem_ready.1 hj).2
        have h1 := domS_all hd hdn.down (h2.down hd hdn.down hdn.there j h) _ i rfl hiz
        have h0 := getD_ff (mem_ready.1 hr).1
        rw [h1] at h0
        cases h0
      have h1 := H.2 j (ready_mono hj hji)
      obtain ⟨hjun, oj, hoj, hall⟩ := mem_ready.1 hj
      have hnot : ∀ e ∈ oj.after, Region.binds .any e = true → e.on ≠ i := fun e he hb heq => by
        have h1 := hall e he hb
        have h0 := (mem_ready.1 hr).1
        rw [heq] at h1
        rw [getD_ff h0] at h1
        cases h1
      have h2 := wpOp_putD hoj (hfree j oj hoj hji hjun hnot) (fun cs b => hsel i oi cs b hi) (fun cs b => hsel j oj cs b hoj) hy h1
      have hfree' : ∀ k ok, ops[k]? = some ok → k ≠ i → (listed.setIfInBounds j true).getD k true = false →
          (∀ e ∈ ok.after, Region.binds .any e = true → e.on ≠ i) → oi.apart ops ok = true := fun k ok hk hki hun hno => by
        refine hfree k ok hk hki ?_ hno
        by_cases hjk : j = k
        · subst hjk; exact hjun
        · rw [getD_set_ne true hjk] at hun; exact hun
      refine wpOp_mono (fun a' w' h3 => ?_) h2
      have hDw' : D w' := h3.2.1.resolve_left hjz
      refine ⟨.inr hDw', ih (listed.setIfInBounds j true) a' w' hDw' (hdn.set hj) hfree' (ready_mono hr (Ne.symm hji)) h3.1 ?_⟩
      rw [Array.setIfInBounds_comm _ _ hji]
      exact h3.2.2
def planOkS (ops : Array Oper) (m : Nat) (k2 : Plan) : Nat → Array Bool → Plan → Bool
  | n, listed, .nil => headIn m listed && planOk ops n listed k2
  | n + 1, listed, .q i k => Nat.blt i m && Region.free .any ops listed i && (Region.ready .any ops listed).contains i && planOkS ops m k2 n (listed.setIfInBounds i true) k
  | n + 1, listed, .e i k => (Region.ready .any ops listed == [i]) && planOkS ops m k2 n (listed.setIfInBounds i true) k
  | n + 1, listed, .two i j k h => (Region.ready .any ops listed == [i, j]) && planOkS ops m k2 n (listed.setIfInBounds i true) k && planOkS ops m k2 n (listed.setIfInBounds j true) h
  | 0, _, _ => false
/-- What is to be shown ahead of a region's other part. -/
def RestOf (P : Program) (ops : Array Oper) (k2 : Plan) (Q : Exit → Act → World → Prop) : Exit → Act → World → Prop := fun _ a w => ∃ D : World → Prop, D w ∧ planW P ops (Q .normal) k2 D a w
theorem planW.anyS {Q : Exit → Act → World → Prop} {m : Nat} {k2 : Plan} (hs : Region.noSelect ops = true) (hd : domOkS ops m = true) : ∀ (n : Nat) (ix : Plan) (D : World → Prop) (listed : Array Bool) (a : Act) (w : World), planOkS ops m k2 n listed ix = true → D w → Listed ops listed →
    planW P ops (RestOf P ops k2 Q .normal) ix D a w → Proofs.Ytonceioajbimaaa.anyS P ops D m (Q .normal) n listed a w
  | n, .nil, D, listed, a, w, hok, hD, hdn, ⟨D2, h1, h2⟩ => by
    unfold planOkS at hok
    simp only [Bool.and_eq_true] at hok
    exact anyD.toS _ _ _ _ hok.1 (planW.anyD hs n k2 D2 _ _ _ hok.2 h1 h2)
  | n + 1, .q i ix, D, listed, a, w, hok, hD, hdn, ⟨o, v, hi, hy, h⟩ => by
    simp only [planOkS, Bool.and_eq_true, Nat.blt_eq] at hok
    have hrd : i ∈ Region.ready .any ops listed := by simpa using hok.1.2
    exact anyS_first hd hok.1.1.1 hi (Region.noSelect_spec hs) n listed a w hD hdn (Region.free_spec hi hok.1.1.2) hrd hy (planW.anyS hs hd n ix D _ _ _ hok.2 hD (hdn.set hrd) h)
  | n + 1, .e i ix, D, listed, a, w, hok, hD, hdn, h => by
    simp only [planOkS, Bool.and_eq_true, beq_iff_eq] at hok
    refine ⟨fun h0 => (by rw [hok.1] at h0; cases h0), fun j hj => ?_⟩
    have hj0 := hj
    rw [hok.1] at hj
    simp only [List.mem_singleton] at hj
    subst hj
    exact wpOp_mono (fun a' w' ⟨D', hD', hw', h'⟩ => ⟨.inr (hD' _ hw'), anyS.mono hD' _ _ _ _ (planW.anyS hs hd n ix D' _ a' w' hok.2 hw' (hdn.set hj0) h')⟩) h
  | n + 1, .two i j k r, D, listed, a, w, hok, hD, hdn, h => by
    simp only [planOkS, Bool.and_eq_true, beq_iff_eq] at hok
    refine ⟨fun h0 => (by rw [hok.1.1] at h0; cases h0), fun q hq => ?_⟩
    have hq0 := hq
    rw [hok.1.1] at hq
    simp only [List.mem_cons, List.not_mem_nil, or_false] at hq
    rcases hq with rfl | rfl
    · exact wpOp_mono (fun a' w' ⟨D', hD', hw', h'⟩ => ⟨.inr (hD' _ hw'), anyS.mono hD' _ _ _ _ (planW.anyS hs hd n k D' _ a' w' hok.1.2 hw' (hdn.set hq0) h')⟩) h.1
    · exact wpOp_mono (fun a' w' ⟨D', hD', hw', h'⟩ => ⟨.inr (hD' _ hw'), anyS.mono hD' _ _ _ _ (planW.anyS hs hd n r D' _ a' w' hok.2 hw' (hdn.set hq0) h')⟩) h.2
theorem wp_region_planS {id m : Nat} {k2 : Plan} {a : Act} {w : World} {Q : Exit → Act → World → Prop} (D : World → Prop) (ix : Plan) (hm : P.follows .mixedOrders = true)
    (hok : (Region.noSelect ops && domOkS ops m && planOkS ops m k2 ops.size (Array.replicate ops.size false) ix) = true) (hD : D w.drew)
    (h : planW P ops (RestOf P ops k2 Q .normal) ix D a w.drew) : (Code.region id ops true).wp P Q a w := by
  simp only [Bool.and_eq_true] at hok
  refine wp_region_any hm ?_
  exact anyS.wpAny _ _ _ _ (planW.anyS hok.1.1 hok.1.2 _ ix D _ a _ hok.2 hD (Listed.none _) h)
end
end Go.Proofs.Ytonceioajbimaaa
namespace Go.Proofs.Ytonceioajbimaaa.A
open Go.RowKit
section
variable {P : Program} {n : Nat} {W : Wd} {σ τ : Blks} {l : Slots} {X : List Nat} {x y : Operand} {d : Option Nat} {ty t t' e : TypeId} {pos : String} {aft : Array Edge} {g : Option (Nat × Bool)} {A : Abs} {tab : List (Nat × TI)} {ops : Array Oper} {Q : Exit → Act → World → Prop} {v : Value} {xs : List (List Abs)} {s q : Nat} {a b : Int}
/-- A region that draws, in two parts: what the second part changes, the first may read. -/
theorem SC.drawS {id : Nat} (m : Nat) (X : List Nat) (ix k2 : Plan) (hm : P.follows .mixedOrders = true)
    (hok : (Region.noSelect ops && domOkS ops m && planOkS ops m k2 ops.size (Array.replicate ops.size false) ix) = true) (h : SX P ops ix X (St n W σ l) (RestOf P ops k2 Q)) : SC P (.region id ops true) (St n W σ l) Q := fun a w hs =>
  wp_region_planS (fun w' => Ext X w.drew w') ix hm hok (Ext.refl _) (h a _ hs.drew)
theorem SE.rest {k2 : Plan} (X : List Nat) (h : SX P ops k2 X (St n W σ l) Q) : SE .normal (St n W σ l) (RestOf P ops k2 Q) := fun a w hs => ⟨fun w' => Ext X w w', Ext.refl w, h a w hs⟩
theorem repss_set {K : List Nat} {w : World} {ys : List Abs} {vs : List Value} (hy : reps K w ys vs) (hv : vs.length = s) : ∀ {xs : List (List Abs)} {us : List Value} {q : Nat}, repss K w s xs us → q < xs.length → repss K w s (xs.set q ys) (us.take (q * s) ++ vs ++ us.drop (q * s + s))
  | [], _, _, _, h => by simp at h
  | c :: xs, _, 0, ⟨u1, u2, h1, h2, h3, h4⟩, _ => by
    subst h1
    refine ⟨vs, u2, ?_, hv, hy, h4⟩
    simp [← h2]
  | c :: xs, _, q + 1, ⟨u1, u2, h1, h2, h3, h4⟩, hq => by
    subst h1
    have h5 := repss_set hy hv h4 (q := q) (by simpa using hq)
    refine ⟨u1, _, ?_, h2, h3, h5⟩
    have e1 : (q + 1) * s = u1.length + q * s := by rw [Nat.succ_mul]; omega
    rw [e1, Nat.add_assoc, List.take_length_add_append, List.drop_length_add_append]
    simp
/-- An element of a row of the call's own is another one then. -/
theorem Eff.setOwn (hT : TabOk P tab) {i : TI} {ys : List Abs} (ht : ti tab t = some i) (hx : look l x = some (.v (eptr v (q * s)))) (hy : look l y = some A) (hu : Upd (own e s v xs) (own e s v (xs.set q ys)) σ τ) (hc : cellsA A = ys) (hs : Nat.beq i.size s = true) (hl : Nat.beq ys.length s = true) (hq : q < xs.length) (h1 : ones ys = true) :
    Eff P n W σ l v.ownBlock.toList ⟨d, .store t x y, ty, pos, aft, g⟩ fun u τ' => u = .v undef ∧ τ' = τ := fun ac w hst => by
  have hs := Nat.eq_of_beq_eq_true hs
  have hl := Nat.eq_of_beq_eq_true hl
  obtain ⟨us, hown, hr⟩ : (ownPc e s v xs).p _ w := hst.mem.hold _ hu.mem
  have hry := cellsA_rep (hst.eval hy)
  rw [hc] at hry
  have hlen := reps_length hry
  have hone := ones_reps hry h1
  rcases hown.2 with ⟨h, h0⟩ | ⟨gb, cap, cur, hv, hbase, hg, hn, hcap, hsz, htk⟩
  · omega
  · subst hv
    have h2 := (hT t _ ht).sizeOf (w := w)
    have hb1 : q * s + s ≤ xs.length * s := by rw [← Nat.succ_mul]; exact Nat.mul_le_mul_right _ hq
    have hb2 : xs.length * s ≤ cap * s := Nat.mul_le_mul_right _ hn
    have hrun := run_storeCells_at (P := P) gb (0 + q * s) e (cellsL (ac.eval y)) 0 cur w hg (by omega) hone
    have e0 : 0 + q * s + 0 = q * s := by omega
    rw [e0] at hrun
    have hcl : cur.toList.length = cur.size := by simp
    have hle : (cellsL (ac.eval y)).length = s := by omega
    have hxx : Ext (Value.ownBlock (.slice (some ⟨gb, 0, none⟩) xs.length cap)).toList w (w.setRow gb (cur.toList.take (q * s) ++ cellsL (ac.eval y) ++ cur.toList.drop (q * s + (cellsL (ac.eval y)).length)).toArray) := (Ext.refl w).setRow (.inl (by simp [Value.ownBlock])) _
    have hnew : (cur.toList.take (q * s) ++ cellsL (ac.eval y) ++ cur.toList.drop (q * s + (cellsL (ac.eval y)).length)).take (xs.length * s) = us.take (q * s) ++ cellsL (ac.eval y) ++ us.drop (q * s + s) := by
      rw [← htk, hle]
      apply List.ext_getElem?
      intro j
      simp only [List.getElem?_take, List.getElem?_append, List.length_append, List.length_take, List.getElem?_drop, hle]
      grind
    have hm := hst.mem.upd hu hxx own_nodup (fun k hk => .inl hk) rfl fun hca => ⟨us.take (q * s) ++ cellsL (ac.eval y) ++ us.drop (q * s + s), ⟨?_, .inr ⟨gb, cap, _, by rw [List.length_set], hbase, setRow_heap w gb cur _ e (0, 0) hg, by rw [List.length_set]; exact hn, hcap, ?_, ?_⟩⟩, repss_carry hca _ _ _ (repss_set hry (by omega) hr hq)⟩
    · refine ⟨undef, _, _, _, ⟨rfl, rfl⟩, hxx, rfl, hm.1, hm.2, .inr ⟨rfl, ?_⟩⟩
      have hcs := cellsL_eq (ac.eval y)
      have hle2 : (cellsL (ac.eval y)).length = i.size := by omega
      have hx2 : ac.eval x = .pointer (some ⟨gb, 0 + q * s, none⟩) := hst.plain hx
      simp [execOp, hx2, Instr.storeAt, Instr.sureAddr, storeVar, Sem.run_bind, hcs, h2, hle2, hrun, Result.andThen]
      first | rfl | (simp only [Nat.zero_add] at hrun; simp [hle2, hrun])
    · have h5 := hown.1
      simp only [List.length_append, List.length_take, List.length_drop, List.length_set]
      omega
    · simp only [List.size_toArray, List.length_append, List.length_take, List.length_drop]
      omega
    · rw [List.length_set]
      simpa using hnew
end
end Go.Proofs.Ytonceioajbimaaa.A
/-
  Keys of maps: bytes, strings, pairs of bytes.
-/
set_option maxRecDepth 100000
set_option linter.unusedSimpArgs false
set_option linter.unusedVariables false
namespace Go.Proofs.Ytonceioajbimaaa.A
open Go.RowKit

def strOk (s : ByteArray) : Prop := s.size ≤ maxLen
abbrev top (_ : UInt8) : Prop := True
def p9V (x : UInt8) : Value := .agg #[bc x, bc 9]
theorem bc_inj {a b : UInt8} (h : bc a = bc b) : a = b := by
  unfold bc at h
  injection h with _ h
  exact UInt8.toNat.inj (by omega)
theorem bc_wf (x : UInt8) : (Lit.int .u8 (x.toNat : Nat)).wf = true := by
  have := x.toNat_lt
  simp only [Lit.wf, Bool.and_eq_true, decide_eq_true_eq]
  exact ⟨by show (0 : Int) ≤ _; omega, by show _ ≤ (255 : Int); omega⟩
theorem u8_fit : KeyFit Try.prog 5 bc top where
  keyed := Maps.int_keyed Try.underlying5
  lit a _ := ⟨_, Maps.keyOf_int_mk Try.underlying5 (bc_wf a)⟩
  inj a b _ _ h := bc_inj h
theorem str_fit : KeyFit Try.prog 9 Value.string strOk where
  keyed := Maps.string_keyed Try.underlying9
  lit a h := ⟨_, WideMaps.keyOf_string_mk Try.underlying9 h⟩
  inj a b _ _ h := by injection h
theorem p9_lit (x : UInt8) : ∃ l, keyOf Try.prog 57 (p9V x) = some l := by
  have hk : (Try.prog.keyType 57 && (p9V x).formed Try.prog 57) = true := by kernel_rfl
  have hn : Try.prog.cellsOf 57 = 2 := by kernel_rfl
  have hn5 : Try.prog.cellsOf 5 = 1 := by kernel_rfl
  obtain ⟨m, hm⟩ := types_pos
  unfold keyOf
  simp only [Try.underlying57, if_pos hk, hm]
  have hx := x.toNat_lt
  have e1 : IntKind.u8.min ≤ (x.toNat : Int) ∧ (x.toNat : Int) ≤ IntKind.u8.max := ⟨by show (0 : Int) ≤ _; omega, by show _ ≤ (255 : Int); omega⟩
  have e2 : IntKind.u8.min ≤ 9 ∧ 9 ≤ IntKind.u8.max := by decide
  simp [Program.keyLits, Try.underlying57, Try.underlying5, hn, hn5, p9V, bc, Value.cells, Lit.wf, List.range, List.range.loop, e1, e2]
theorem p9_fit : KeyFit Try.prog 57 p9V top where
  keyed := Maps.Keyed.of_law (deep_law_laid laid (m := 4) (by decide) (of_decide_eq_true (by kernel_rfl)) (by kernel_rfl) (by kernel_rfl))
  lit a _ := p9_lit a
  inj a b _ _ h := by
    unfold p9V at h
    injection h with h
    simp at h
    exact bc_inj h
end Go.Proofs.Ytonceioajbimaaa.A
/-
  The shelf's contracts of slices.Sorted and maps.Keys, laid at this program.
-/
set_option maxRecDepth 100000
namespace Go.Proofs.Ytonceioajbimaaa
open Go.Shelf Go.RowKit
def sorted_intR : Ren := ⟨fun | 6 => 44 | 8 => 50 | 9 => 51 | 11 => 56 | 13 => 58 | 12 => 57 | 23 => 68 | 24 => 69 | 14 => 59 | 15 => 60 | 16 => 61 | 17 => 62 | 18 => 63 | 19 => 64 | 20 => 65 | 21 => 66 | 22 => 67 | 25 => 70 | 26 => 71 | 27 => 72 | 28 => 73 | 29 => 74 | 30 => 75 | 31 => 76 | n => n, fun | 26 => 3 | 28 => 91 | 24 => 41 | 0 => 0 | 3 => 3 | 37 => 101 | 48 => 112 | 50 => 114 | 4 => 4 | 40 => 104 | 39 => 103 | 45 => 109 | 5 => 5 | 9 => 9 | 51 => 115 | 55 => 119 | 57 => 121 | 58 => 122 | 33 => 74 | n => n, fun n => n⟩
theorem sorted_intL : SlLaysZI.n6 Try.prog sorted_intR := {
  mixed := by kernel_rfl,
  f6 := ⟨Try.f44.name, by decide, Try.func44.trans (congrArg some (by kernel_rfl))⟩,
  f8 := ⟨Try.f50.name, by decide, Try.func50.trans (congrArg some (by kernel_rfl))⟩,
  f11 := ⟨Try.f56.name, by decide, Try.func56.trans (congrArg some (by kernel_rfl))⟩,
  t0 := Try.underlying0,
  a0 := Try.isAgg0,
  z0 := Try.sizeOf0,
  v0 := Try.zeroValue0,
  t24 := Try.underlying41,
  a24 := Try.isAgg41,
  z24 := Try.sizeOf41,
  v24 := Try.zeroValue41,
  t26 := Try.underlying3,
  a26 := Try.isAgg3,
  z26 := Try.sizeOf3,
  v26 := Try.zeroValue3,
  t28 := Try.underlying91,
  a28 := Try.isAgg91,
  z28 := Try.sizeOf91,
  v28 := Try.zeroValue91,
  i26 := by kernel_rfl }
def sort_intR : Ren := ⟨fun | 5 => 51 | 8 => 58 | 7 => 57 | 19 => 68 | 20 => 69 | 10 => 59 | 11 => 60 | 12 => 61 | 13 => 62 | 14 => 63 | 15 => 64 | 16 => 65 | 17 => 66 | 18 => 67 | 30 => 70 | 31 => 71 | 32 => 72 | 33 => 73 | 34 => 74 | 35 => 75 | 40 => 76 | n => n, fun | 23 => 41 | 25 => 3 | 3 => 3 | 32 => 101 | 22 => 41 | 0 => 0 | 44 => 112 | 46 => 114 | 4 => 4 | 36 => 104 | 35 => 103 | 41 => 109 | 5 => 5 | 9 => 9 | 53 => 115 | 57 => 119 | 63 => 121 | 64 => 122 | n => n, fun n => n⟩
theorem sort_intL : SlLaysM.n5 Try.prog sort_intR := {
  mixed := by kernel_rfl,
  f5 := ⟨Try.f51.name, by decide, Try.func51.trans (congrArg some (by kernel_rfl))⟩,
  f7 := ⟨Try.f57.name, by decide, Try.func57.trans (congrArg some (by kernel_rfl))⟩,
  f8 := Try.func58.trans (congrArg some (by kernel_rfl)),
  f10 := ⟨Try.f59.name, by decide, Try.func59.trans (congrArg some (by kernel_rfl))⟩,
  f11 := ⟨Try.f60.name, by decide, Try.func60.trans (congrArg some (by kernel_rfl))⟩,
  f12 := ⟨Try.f61.name, by decide, Try.func61.trans (congrArg some (by kernel_rfl))⟩,
  f13 := ⟨Try.f62.name, by decide, Try.func62.trans (congrArg some (by kernel_rfl))⟩,
  f14 := ⟨Try.f63.name, by decide, Try.func63.trans (congrArg some (by kernel_rfl))⟩,
  f15 := ⟨Try.f64.name, by decide, Try.func64.trans (congrArg some (by kernel_rfl))⟩,
  f16 := ⟨Try.f65.name, by decide, Try.func65.trans (congrArg some (by kernel_rfl))⟩,
  f17 := ⟨Try.f66.name, by decide, Try.func66.trans (congrArg some (by kernel_rfl))⟩,
  f18 := ⟨Try.f67.name, by decide, Try.func67.trans (congrArg some (by kernel_rfl))⟩,
  f19 := Try.func68.trans (congrArg some (by kernel_rfl)),
  f20 := Try.func69.trans (congrArg some (by kernel_rfl)),
  f30 := ⟨Try.f70.name, by decide, Try.func70.trans (congrArg some (by kernel_rfl))⟩,
  f31 := Try.func71.trans (congrArg some (by kernel_rfl)),
  f32 := Try.func72.trans (congrArg some (by kernel_rfl)),
  f33 := ⟨Try.f73.name, by decide, Try.func73.trans (congrArg some (by kernel_rfl))⟩,
  f34 := ⟨Try.f74.name, by decide, Try.func74.trans (congrArg some (by kernel_rfl))⟩,
  f35 := ⟨Try.f75.name, by decide, Try.func75.trans (congrArg some (by kernel_rfl))⟩,
  f40 := ⟨Try.f76.name, by decide, Try.func76.trans (congrArg some (by kernel_rfl))⟩,
  t0 := Try.underlying0,
  a0 := Try.isAgg0,
  z0 := Try.sizeOf0,
  v0 := Try.zeroValue0,
  t3 := Try.underlying3,
  a3 := Try.isAgg3,
  z3 := Try.sizeOf3,
  v3 := Try.zeroValue3,
  t4 := Try.underlying4,
  a4 := Try.isAgg4,
  z4 := Try.sizeOf4,
  v4 := Try.zeroValue4,
  t5 := Try.underlying5,
  a5 := Try.isAgg5,
  z5 := Try.sizeOf5,
  v5 := Try.zeroValue5,
  t9 := Try.underlying9,
  a9 := Try.isAgg9,
  z9 := Try.sizeOf9,
  v9 := Try.zeroValue9,
  t22 := Try.underlying41,
  a22 := Try.isAgg41,
  z22 := Try.sizeOf41,
  v22 := Try.zeroValue41,
  t23 := Try.underlying41,
  a23 := Try.isAgg41,
  z23 := Try.sizeOf41,
  v23 := Try.zeroValue41,
  t25 := Try.underlying3,
  a25 := Try.isAgg3,
  z25 := Try.sizeOf3,
  v25 := Try.zeroValue3,
  t32 := Try.underlying101,
  a32 := Try.isAgg101,
  z32 := Try.sizeOf101,
  v32 := Try.zeroValue101,
  t35 := Try.underlying103,
  a35 := Try.isAgg103,
  z35 := Try.sizeOf103,
  v35 := Try.zeroValue103,
  t36 := Try.underlying104,
  a36 := Try.isAgg104,
  z36 := Try.sizeOf104,
  v36 := Try.zeroValue104,
  t41 := Try.underlying109,
  a41 := Try.isAgg109,
  z41 := Try.sizeOf109,
  v41 := Try.zeroValue109,
  t44 := Try.underlying112,
  a44 := Try.isAgg112,
  z44 := Try.sizeOf112,
  v44 := Try.zeroValue112,
  t46 := Try.underlying114,
  a46 := Try.isAgg114,
  z46 := Try.sizeOf114,
  v46 := Try.zeroValue114,
  t53 := Try.underlying115,
  a53 := Try.isAgg115,
  z53 := Try.sizeOf115,
  v53 := Try.zeroValue115,
  t57 := Try.underlying119,
  a57 := Try.isAgg119,
  z57 := Try.sizeOf119,
  v57 := Try.zeroValue119,
  t63 := Try.underlying121,
  a63 := Try.isAgg121,
  z63 := Try.sizeOf121,
  v63 := Try.zeroValue121,
  t64 := Try.underlying122,
  a64 := Try.isAgg122,
  z64 := Try.sizeOf122,
  v64 := Try.zeroValue122 }
def keys_0R : Ren := ⟨fun | 7 => 49 | 10 => 55 | n => n, fun | 23 => 83 | 26 => 3 | 3 => 57 | 28 => 91 | 0 => 0 | 27 => 90 | 33 => 74 | 4 => 4 | n => n, fun n => n⟩
theorem keys_0L : SlLaysZI.n7 Try.prog keys_0R := {
  mixed := by kernel_rfl,
  f7 := ⟨Try.f49.name, by decide, Try.func49.trans (congrArg some (by kernel_rfl))⟩,
  f10 := ⟨Try.f55.name, by decide, Try.func55.trans (congrArg some (by kernel_rfl))⟩,
  t0 := Try.underlying0,
  a0 := Try.isAgg0,
  z0 := Try.sizeOf0,
  v0 := Try.zeroValue0,
  t4 := Try.underlying4,
  a4 := Try.isAgg4,
  z4 := Try.sizeOf4,
  v4 := Try.zeroValue4,
  t23 := Try.underlying83,
  a23 := Try.isAgg83,
  z23 := Try.sizeOf83,
  v23 := Try.zeroValue83,
  t26 := Try.underlying3,
  a26 := Try.isAgg3,
  z26 := Try.sizeOf3,
  v26 := Try.zeroValue3,
  t27 := Try.underlying90,
  a27 := Try.isAgg90,
  z27 := Try.sizeOf90,
  v27 := Try.zeroValue90,
  t28 := Try.underlying91,
  a28 := Try.isAgg91,
  z28 := Try.sizeOf91,
  v28 := Try.zeroValue91,
  t33 := Try.underlying74,
  a33 := Try.isAgg74,
  z33 := Try.sizeOf74,
  v33 := Try.zeroValue74 }
def keys_1R : Ren := ⟨fun | 7 => 45 | 10 => 52 | n => n, fun | 23 => 66 | 26 => 3 | 3 => 29 | 28 => 91 | 0 => 0 | 27 => 90 | 33 => 74 | 4 => 4 | n => n, fun n => n⟩
theorem keys_1L : SlLaysZI.n7 Try.prog keys_1R := {
  mixed := by kernel_rfl,
  f7 := ⟨Try.f45.name, by decide, Try.func45.trans (congrArg some (by kernel_rfl))⟩,
  f10 := ⟨Try.f52.name, by decide, Try.func52.trans (congrArg some (by kernel_rfl))⟩,
  t0 := Try.underlying0,
  a0 := Try.isAgg0,
  z0 := Try.sizeOf0,
  v0 := Try.zeroValue0,
  t4 := Try.underlying4,
  a4 := Try.isAgg4,
  z4 := Try.sizeOf4,
  v4 := Try.zeroValue4,
  t23 := Try.underlying66,
  a23 := Try.isAgg66,
  z23 := Try.sizeOf66,
  v23 := Try.zeroValue66,
  t26 := Try.underlying3,
  a26 := Try.isAgg3,
  z26 := Try.sizeOf3,
  v26 := Try.zeroValue3,
  t27 := Try.underlying90,
  a27 := Try.isAgg90,
  z27 := Try.sizeOf90,
  v27 := Try.zeroValue90,
  t28 := Try.underlying91,
  a28 := Try.isAgg91,
  z28 := Try.sizeOf91,
  v28 := Try.zeroValue91,
  t33 := Try.underlying74,
  a33 := Try.isAgg74,
  z33 := Try.sizeOf74,
  v33 := Try.zeroValue74 }
def keys_2R : Ren := ⟨fun | 7 => 47 | 10 => 53 | n => n, fun | 23 => 75 | 26 => 3 | 3 => 9 | 28 => 91 | 0 => 0 | 27 => 90 | 33 => 74 | 4 => 4 | n => n, fun n => n⟩
theorem keys_2L : SlLaysZI.n7 Try.prog keys_2R := {
  mixed := by kernel_rfl,
  f7 := ⟨Try.f47.name, by decide, Try.func47.trans (congrArg some (by kernel_rfl))⟩,
  f10 := ⟨Try.f53.name, by decide, Try.func53.trans (congrArg some (by kernel_rfl))⟩,
  t0 := Try.underlying0,
  a0 := Try.isAgg0,
  z0 := Try.sizeOf0,
  v0 := Try.zeroValue0,
  t4 := Try.underlying4,
  a4 := Try.isAgg4,
  z4 := Try.sizeOf4,
  v4 := Try.zeroValue4,
  t23 := Try.underlying75,
  a23 := Try.isAgg75,
  z23 := Try.sizeOf75,
  v23 := Try.zeroValue75,
  t26 := Try.underlying3,
  a26 := Try.isAgg3,
  z26 := Try.sizeOf3,
  v26 := Try.zeroValue3,
  t27 := Try.underlying90,
  a27 := Try.isAgg90,
  z27 := Try.sizeOf90,
  v27 := Try.zeroValue90,
  t28 := Try.underlying91,
  a28 := Try.isAgg91,
  z28 := Try.sizeOf91,
  v28 := Try.zeroValue91,
  t33 := Try.underlying74,
  a33 := Try.isAgg74,
  z33 := Try.sizeOf74,
  v33 := Try.zeroValue74 }
def keys_3R : Ren := ⟨fun | 7 => 48 | 10 => 54 | n => n, fun | 23 => 79 | 26 => 3 | 3 => 5 | 28 => 91 | 0 => 0 | 27 => 90 | 33 => 74 | 4 => 4 | n => n, fun n => n⟩
theorem keys_3L : SlLaysZI.n7 Try.prog keys_3R := {
  mixed := by kernel_rfl,
  f7 := ⟨Try.f48.name, by decide, Try.func48.trans (congrArg some (by kernel_rfl))⟩,
  f10 := ⟨Try.f54.name, by decide, Try.func54.trans (congrArg some (by kernel_rfl))⟩,
  t0 := Try.underlying0,
  a0 := Try.isAgg0,
  z0 := Try.sizeOf0,
  v0 := Try.zeroValue0,
  t4 := Try.underlying4,
  a4 := Try.isAgg4,
  z4 := Try.sizeOf4,
  v4 := Try.zeroValue4,
  t23 := Try.underlying79,
  a23 := Try.isAgg79,
  z23 := Try.sizeOf79,
  v23 := Try.zeroValue79,
  t26 := Try.underlying3,
  a26 := Try.isAgg3,
  z26 := Try.sizeOf3,
  v26 := Try.zeroValue3,
  t27 := Try.underlying90,
  a27 := Try.isAgg90,
  z27 := Try.sizeOf90,
  v27 := Try.zeroValue90,
  t28 := Try.underlying91,
  a28 := Try.isAgg91,
  z28 := Try.sizeOf91,
  v28 := Try.zeroValue91,
  t33 := Try.underlying74,
  a33 := Try.isAgg74,
  z33 := Try.sizeOf74,
  v33 := Try.zeroValue74 }
theorem sorts_int (m : Nat) : AnyZI.SortsIn Try.prog sorted_intR Fence.wide m :=
  ⟨fun blk off cap ss W hH hblk hsz => callsIn_wide.2 (AnyM.slices_Sort_int sort_intL blk off cap ss W hH hblk hsz), fun p cap W => callsIn_wide.2 (AnyM.slices_Sort_int_none sort_intL p cap W)⟩
end Go.Proofs.Ytonceioajbimaaa
/-
  Keys of maps, rising.
-/
set_option maxRecDepth 100000
set_option linter.unusedSimpArgs false
set_option linter.unusedVariables false
namespace Go.Proofs.Ytonceioajbimaaa.A
open Go.RowKit Go.Maps Go.Sort Go.Shelf

theorem repss_ints {K : List Nat} {w : World} : ∀ {xs : List Int}, repss K w 1 (xs.map fun x => [int x]) (xs.map encZ)
  | [] => rfl
  | x :: xs => ⟨[encZ x], _, rfl, rfl, ⟨_, _, rfl, rfl, rfl⟩, repss_ints⟩
def R0 : Value → Option (DataW Unit × List MemPlace) := fun _ => some (.nil, [])
theorem map_owned {β : Type} {V : β → Value} {w : World} {b : Nat} {m : List (Int × β)} (h : MapOf w b intK V intOk m) {k : TypeId} (hk : Try.prog.underlying k = some (.int .i64)) (hl : m.length ≤ maxLen) :
    ∃ D0 : DataW Unit, w.ownsMap Try.prog k R0 b m.length D0 ∧ (intKeys D0).Perm (m.map (·.1)) ∧ Maps.size D0 = m.length := by
  obtain ⟨es, clock, hb, he, hnd, hg, hborn, hbnd⟩ := h
  have hlen : es.toList.length = m.length := by
    have h3 := congrArg List.length he
    simpa using h3
  have hkeys : es.toList.map (·.key) = (m.map (·.1)).map intK := by
    have h3 := congrArg (List.map Prod.fst) he
    simpa [List.map_map, Function.comp_def] using h3
  have hrd : ∀ x ∈ es.toList, ∃ y : Int, x.key = intK y ∧ intOk y := fun x hx => by
    have h3 : x.key ∈ (m.map (·.1)).map intK := hkeys ▸ List.mem_map.2 ⟨x, hx, rfl⟩
    simp only [List.mem_map] at h3
    obtain ⟨y, ⟨p, hp, rfl⟩, h4⟩ := h3
    exact ⟨p.1, h4.symm, hg p hp⟩
  have hrg : ∀ x ∈ es.toList, ∀ y : Int, x.key = intK y → intOk y → WideElems.rd Try.prog k R0 x = some (.int .i64 y, .nil) := fun x hx y hy hok => by
    unfold WideElems.rd
    rw [hy, Maps.keyOf_int_mk hk (int_wf hok)]
    rfl
  refine ⟨_, ⟨es, clock, hb, ⟨by rw [← Array.length_toList, hlen]; exact hl, ⟨hborn, hbnd, ?_⟩, fun x hx => ?_⟩, by rw [← Array.length_toList, hlen]; exact Nat.le_refl _, rfl⟩, ?_, ?_⟩
  · rw [hkeys]
    exact List.pairwise_map.2 (hnd.imp fun h e => h (by injection e))
  · obtain ⟨y, hy, hok⟩ := hrd x hx
    exact ⟨_, hrg x hx y hy hok⟩
  · have h5 : es.toList.map (fun x => Go.intOf (WideElems.rg Try.prog k R0 x).1) = m.map (·.1) := by
      have h6 : es.toList.map (fun x => Go.intOf (WideElems.rg Try.prog k R0 x).1) = (es.toList.map (·.key)).map (fun v => match v with | .int _ n => n | _ => 0) := by
        rw [List.map_map]
        refine List.map_congr_left fun x hx => ?_
        obtain ⟨y, hy, hok⟩ := hrd x hx
        show Go.intOf ((WideElems.rd Try.prog k R0 x).getD _).1 = _
        rw [hrg x hx y hy hok]
        simp only [Function.comp, hy]
        rfl
      rw [h6, hkeys, List.map_map]
      simp [Function.comp_def]
    show (((es.toList.map (WideElems.rg Try.prog k R0)).foldr DataW.insert []).map fun p => Go.intOf p.1).Perm _
    refine ((WideShapes.sorted_perm (es.toList.map (WideElems.rg Try.prog k R0))).map _).trans ?_
    rw [List.map_map]
    exact h5 ▸ List.Perm.refl _
  · show ((es.toList.map (WideElems.rg Try.prog k R0)).foldr DataW.insert []).length = _
    rw [(WideShapes.sorted_perm (es.toList.map (WideElems.rg Try.prog k R0))).length_eq, List.length_map, hlen]
/-- A row of ints that is new. -/
theorem new_ints {w w' : World} {F G : List Nat} {σ : Blks} {e : TypeId} {v : Value} {ss ks : List Int} (hm : Mem w F G σ w) (hrow : w'.ownsRow w.heap.size e 1 v ss.length ((ss.mergeSort (fun x y => decide (x ≤ y))).map encZ)) (hp : ss.Perm ks) (hb : Below w.heap.size w w') : Mem w F G (own e 1 v ((srt ks).map fun x => [int x]) :: σ) w' := by
  have hx : Ext [] w w' := ⟨hb.os, hb.tape, hb.output, hb.size, fun k hk _ => hb.block k hk⟩
  have hss : ss.mergeSort (fun x y => decide (x ≤ y)) = srt ks := srt_congr hp
  have hlen : ss.length = (srt ks).length := by rw [srt_length, hp.length_eq]
  rw [hss, hlen] at hrow
  refine (hm.new (y := own e 1 v ((srt ks).map fun x => [int x])) hx own_nodup (fun k hk => ?_) rfl fun _ => ⟨(srt ks).map encZ, by rw [List.length_map]; exact ⟨hrow.1, hrow.2.imp id fun ⟨g, cap, cur, h1, h2, h3⟩ => ⟨g, cap, cur, h1, Nat.zero_le _, h3⟩⟩, repss_ints⟩).1
  have hk' : v.ownBlock = some k := by simpa [It.mids, ownPc] using hk
  exact (World.ownsRow.lt hrow k hk').1
section
variable {b z : Nat}
theorem keys_0_s  : Spec Try.prog 49 [mapV b] [] (fun z : Nat => [.blk z 83 [mapV b]]) (fun z => .fn (.func 55) [] [ptr z]) := by
  refine spec_of Try.func49 rfl Try.ntmps49 rfl fun G w => ?_
  refine SC.seq (SC.region ?_)
  refine SL.eff (Eff.box1 rfl rfl) rfl rfl ?_
  rintro _ _ ⟨b1, rfl, rfl⟩
  refine SL.val (Val.assign rfl) rfl rfl ?_
  refine SL.nil (SE.seq ?_)
  refine SC.seq (SC.region ?_)
  refine SL.val (Val.makeFunc rfl rfl) rfl rfl ?_
  refine SL.val (Val.assign rfl) rfl rfl ?_
  refine SL.nil (SE.seq ?_)
  refine SC.ret ?_
  refine SE.fin (rs := [.tmp 2]) rfl (RV.tmp rfl RV.nil) (b1) (by repeat first|exact s0 _|exact s1 _|apply s2|apply s3) (by simp [It.rids]) ?_
  exact rfl
end
theorem sorted_0_s {β : Type} {V : β → Value} {m : List (Int × β)} {b z : Nat} (hl : m.length ≤ 1000000) : Spec Try.prog 44 [.fn (.func 55) [] [ptr z]] [.rd z 83 [mapV b], .rdpc (mapPc b intK V intOk m)] (fun v : Value => [own 3 1 v ((srt (m.map (·.1))).map fun x => [int x])]) (fun v => .v v) := fun G w vals hm hv => by
  obtain ⟨_, _, rfl, ⟨us, vs, rfl, h1, h2⟩, h3⟩ := hv
  have h1 : us = [] := h1
  have h3 : _ = [] := h3
  obtain ⟨_, _, rfl, h4, h5⟩ := h2
  have h4 : _ = Value.pointer (some ⟨z, 0, none⟩) := h4
  have h5 : _ = [] := h5
  subst h1 h3 h4 h5
  obtain ⟨cs, hb, hr⟩ := hm.hold (.rd z 83 [mapV b]) (by simp)
  obtain ⟨_, _, rfl, h6, h7⟩ := hr
  have h6 : _ = Value.map (some b) := h6
  have h7 : _ = [] := h7
  subst h6 h7
  have hmap : MapOf w b intK V intOk m := hm.hold (.rdpc (mapPc b intK V intOk m)) (by simp)
  obtain ⟨D0, hown, hperm, hsize⟩ := map_owned hmap Try.underlying3 (by unfold maxLen; omega)
  have hcell : w.cell? ⟨z, 0, none⟩ = some (.map (some b)) := by rw [mem_cell hb]; rfl
  have hseq := AnyZI.keys_gives (ρ := keys_0R) { keys_0L with } Fence.wide 2 trivial rfl (by omega) z b m.length D0 (R := R0) w (heap_lt hb) hcell hown
  have cS := AnyZI.sorted_in sorted_intL Fence.wide 5 trivial trivial trivial trivial rfl (by omega) (sorts_int _) (enters_of Try.func51 (by kernel_rfl) rfl) 55 #[.pointer (some ⟨z, 0, none⟩)] trivial (enters_of Try.func55 (by kernel_rfl) rfl) _ (Maps.size D0) (by rw [hsize]; unfold maxLen; omega) (by rw [hsize]; omega) w hseq
  refine ((callsIn_wide (n := 5)).1 cS).mono fun e w' ⟨v, ss, he, hS, hrow, hnil, hbel⟩ => ?_
  exact ⟨v, v, he, by simp [It.rids], ((new_ints hm hrow (hS.trans hperm) hbel).sub (List.Sublist.cons_cons _ (List.nil_sublist _))).1, rfl⟩
section
variable {b z : Nat}
theorem keys_1_s  : Spec Try.prog 45 [mapV b] [] (fun z : Nat => [.blk z 66 [mapV b]]) (fun z => .fn (.func 52) [] [ptr z]) := by
  refine spec_of Try.func45 rfl Try.ntmps45 rfl fun G w => ?_
  refine SC.seq (SC.region ?_)
  refine SL.eff (Eff.box1 rfl rfl) rfl rfl ?_
  rintro _ _ ⟨b1, rfl, rfl⟩
  refine SL.val (Val.assign rfl) rfl rfl ?_
  refine SL.nil (SE.seq ?_)
  refine SC.seq (SC.region ?_)
  refine SL.val (Val.makeFunc rfl rfl) rfl rfl ?_
  refine SL.val (Val.assign rfl) rfl rfl ?_
  refine SL.nil (SE.seq ?_)
  refine SC.ret ?_
  refine SE.fin (rs := [.tmp 2]) rfl (RV.tmp rfl RV.nil) (b1) (by repeat first|exact s0 _|exact s1 _|apply s2|apply s3) (by simp [It.rids]) ?_
  exact rfl
end
theorem sorted_1_s {β : Type} {V : β → Value} {m : List (Int × β)} {b z : Nat} (hl : m.length ≤ 1000000) : Spec Try.prog 44 [.fn (.func 52) [] [ptr z]] [.rd z 66 [mapV b], .rdpc (mapPc b intK V intOk m)] (fun v : Value => [own 3 1 v ((srt (m.map (·.1))).map fun x => [int x])]) (fun v => .v v) := fun G w vals hm hv => by
  obtain ⟨_, _, rfl, ⟨us, vs, rfl, h1, h2⟩, h3⟩ := hv
  have h1 : us = [] := h1
  have h3 : _ = [] := h3
  obtain ⟨_, _, rfl, h4, h5⟩ := h2
  have h4 : _ = Value.pointer (some ⟨z, 0, none⟩) := h4
  have h5 : _ = [] := h5
  subst h1 h3 h4 h5
  obtain ⟨cs, hb, hr⟩ := hm.hold (.rd z 66 [mapV b]) (by simp)
  obtain ⟨_, _, rfl, h6, h7⟩ := hr
  have h6 : _ = Value.map (some b) := h6
  have h7 : _ = [] := h7
  subst h6 h7
  have hmap : MapOf w b intK V intOk m := hm.hold (.rdpc (mapPc b intK V intOk m)) (by simp)
  obtain ⟨D0, hown, hperm, hsize⟩ := map_owned hmap Try.underlying3 (by unfold maxLen; omega)
  have hcell : w.cell? ⟨z, 0, none⟩ = some (.map (some b)) := by rw [mem_cell hb]; rfl
  have hseq := AnyZI.keys_gives (ρ := keys_1R) { keys_1L with } Fence.wide 2 trivial rfl (by omega) z b m.length D0 (R := R0) w (heap_lt hb) hcell hown
  have cS := AnyZI.sorted_in sorted_intL Fence.wide 5 trivial trivial trivial trivial rfl (by omega) (sorts_int _) (enters_of Try.func51 (by kernel_rfl) rfl) 52 #[.pointer (some ⟨z, 0, none⟩)] trivial (enters_of Try.func52 (by kernel_rfl) rfl) _ (Maps.size D0) (by rw [hsize]; unfold maxLen; omega) (by rw [hsize]; omega) w hseq
  refine ((callsIn_wide (n := 5)).1 cS).mono fun e w' ⟨v, ss, he, hS, hrow, hnil, hbel⟩ => ?_
  exact ⟨v, v, he, by simp [It.rids], ((new_ints hm hrow (hS.trans hperm) hbel).sub (List.Sublist.cons_cons _ (List.nil_sublist _))).1, rfl⟩
section
variable {b z : Nat}
theorem keys_2_s  : Spec Try.prog 47 [mapV b] [] (fun z : Nat => [.blk z 75 [mapV b]]) (fun z => .fn (.func 53) [] [ptr z]) := by
  refine spec_of Try.func47 rfl Try.ntmps47 rfl fun G w => ?_
  refine SC.seq (SC.region ?_)
  refine SL.eff (Eff.box1 rfl rfl) rfl rfl ?_
  rintro _ _ ⟨b1, rfl, rfl⟩
  refine SL.val (Val.assign rfl) rfl rfl ?_
  refine SL.nil (SE.seq ?_)
  refine SC.seq (SC.region ?_)
  refine SL.val (Val.makeFunc rfl rfl) rfl rfl ?_
  refine SL.val (Val.assign rfl) rfl rfl ?_
  refine SL.nil (SE.seq ?_)
  refine SC.ret ?_
  refine SE.fin (rs := [.tmp 2]) rfl (RV.tmp rfl RV.nil) (b1) (by repeat first|exact s0 _|exact s1 _|apply s2|apply s3) (by simp [It.rids]) ?_
  exact rfl
end
theorem sorted_2_s {β : Type} {V : β → Value} {m : List (Int × β)} {b z : Nat} (hl : m.length ≤ 1000000) : Spec Try.prog 44 [.fn (.func 53) [] [ptr z]] [.rd z 75 [mapV b], .rdpc (mapPc b intK V intOk m)] (fun v : Value => [own 3 1 v ((srt (m.map (·.1))).map fun x => [int x])]) (fun v => .v v) := fun G w vals hm hv => by
  obtain ⟨_, _, rfl, ⟨us, vs, rfl, h1, h2⟩, h3⟩ := hv
  have h1 : us = [] := h1
  have h3 : _ = [] := h3
  obtain ⟨_, _, rfl, h4, h5⟩ := h2
  have h4 : _ = Value.pointer (some ⟨z, 0, none⟩) := h4
  have h5 : _ = [] := h5
  subst h1 h3 h4 h5
  obtain ⟨cs, hb, hr⟩ := hm.hold (.rd z 75 [mapV b]) (by simp)
  obtain ⟨_, _, rfl, h6, h7⟩ := hr
  have h6 : _ = Value.map (some b) := h6
  have h7 : _ = [] := h7
  subst h6 h7
  have hmap : MapOf w b intK V intOk m := hm.hold (.rdpc (mapPc b intK V intOk m)) (by simp)
  obtain ⟨D0, hown, hperm, hsize⟩ := map_owned hmap Try.underlying3 (by unfold maxLen; omega)
  have hcell : w.cell? ⟨z, 0, none⟩ = some (.map (some b)) := by rw [mem_cell hb]; rfl
  have hseq := AnyZI.keys_gives (ρ := keys_2R) { keys_2L with } Fence.wide 2 trivial rfl (by omega) z b m.length D0 (R := R0) w (heap_lt hb) hcell hown
  have cS := AnyZI.sorted_in sorted_intL Fence.wide 5 trivial trivial trivial trivial rfl (by omega) (sorts_int _) (enters_of Try.func51 (by kernel_rfl) rfl) 53 #[.pointer (some ⟨z, 0, none⟩)] trivial (enters_of Try.func53 (by kernel_rfl) rfl) _ (Maps.size D0) (by rw [hsize]; unfold maxLen; omega) (by rw [hsize]; omega) w hseq
  refine ((callsIn_wide (n := 5)).1 cS).mono fun e w' ⟨v, ss, he, hS, hrow, hnil, hbel⟩ => ?_
  exact ⟨v, v, he, by simp [It.rids], ((new_ints hm hrow (hS.trans hperm) hbel).sub (List.Sublist.cons_cons _ (List.nil_sublist _))).1, rfl⟩
section
variable {b z : Nat}
theorem keys_3_s  : Spec Try.prog 48 [mapV b] [] (fun z : Nat => [.blk z 79 [mapV b]]) (fun z => .fn (.func 54) [] [ptr z]) := by
  refine spec_of Try.func48 rfl Try.ntmps48 rfl fun G w => ?_
  refine SC.seq (SC.region ?_)
  refine SL.eff (Eff.box1 rfl rfl) rfl rfl ?_
  rintro _ _ ⟨b1, rfl, rfl⟩
  refine SL.val (Val.assign rfl) rfl rfl ?_
  refine SL.nil (SE.seq ?_)
  refine SC.seq (SC.region ?_)
  refine SL.val (Val.makeFunc rfl rfl) rfl rfl ?_
  refine SL.val (Val.assign rfl) rfl rfl ?_
  refine SL.nil (SE.seq ?_)
  refine SC.ret ?_
  refine SE.fin (rs := [.tmp 2]) rfl (RV.tmp rfl RV.nil) (b1) (by repeat first|exact s0 _|exact s1 _|apply s2|apply s3) (by simp [It.rids]) ?_
  exact rfl
end
theorem sorted_3_s {β : Type} {V : β → Value} {m : List (Int × β)} {b z : Nat} (hl : m.length ≤ 1000000) : Spec Try.prog 44 [.fn (.func 54) [] [ptr z]] [.rd z 79 [mapV b], .rdpc (mapPc b intK V intOk m)] (fun v : Value => [own 3 1 v ((srt (m.map (·.1))).map fun x => [int x])]) (fun v => .v v) := fun G w vals hm hv => by
  obtain ⟨_, _, rfl, ⟨us, vs, rfl, h1, h2⟩, h3⟩ := hv
  have h1 : us = [] := h1
  have h3 : _ = [] := h3
  obtain ⟨_, _, rfl, h4, h5⟩ := h2
  have h4 : _ = Value.pointer (some ⟨z, 0, none⟩) := h4
  have h5 : _ = [] := h5
  subst h1 h3 h4 h5
  obtain ⟨cs, hb, hr⟩ := hm.hold (.rd z 79 [mapV b]) (by simp)
  obtain ⟨_, _, rfl, h6, h7⟩ := hr
  have h6 : _ = Value.map (some b) := h6
  have h7 : _ = [] := h7
  subst h6 h7
  have hmap : MapOf w b intK V intOk m := hm.hold (.rdpc (mapPc b intK V intOk m)) (by simp)
  obtain ⟨D0, hown, hperm, hsize⟩ := map_owned hmap Try.underlying3 (by unfold maxLen; omega)
  have hcell : w.cell? ⟨z, 0, none⟩ = some (.map (some b)) := by rw [mem_cell hb]; rfl
  have hseq := AnyZI.keys_gives (ρ := keys_3R) { keys_3L with } Fence.wide 2 trivial rfl (by omega) z b m.length D0 (R := R0) w (heap_lt hb) hcell hown
  have cS := AnyZI.sorted_in sorted_intL Fence.wide 5 trivial trivial trivial trivial rfl (by omega) (sorts_int _) (enters_of Try.func51 (by kernel_rfl) rfl) 54 #[.pointer (some ⟨z, 0, none⟩)] trivial (enters_of Try.func54 (by kernel_rfl) rfl) _ (Maps.size D0) (by rw [hsize]; unfold maxLen; omega) (by rw [hsize]; omega) w hseq
  refine ((callsIn_wide (n := 5)).1 cS).mono fun e w' ⟨v, ss, he, hS, hrow, hnil, hbel⟩ => ?_
  exact ⟨v, v, he, by simp [It.rids], ((new_ints hm hrow (hS.trans hperm) hbel).sub (List.Sublist.cons_cons _ (List.nil_sublist _))).1, rfl⟩
end Go.Proofs.Ytonceioajbimaaa.A
