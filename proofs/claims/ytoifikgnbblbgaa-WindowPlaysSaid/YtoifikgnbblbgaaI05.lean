/-
  Packed out of the texts: A12, Sum, A13, Doc, A14, A16, A17.
-/
import Derived.Test.YtoifikgnbblbgaaI04
import Derived.Maps.RangeRun
/-
  The second engine: words of 32 bits; parts of an array of the call's own as an array.
-/
set_option maxRecDepth 100000
set_option linter.unusedSimpArgs false
set_option linter.unusedVariables false
namespace Go.Proofs.Ytoifikgnbblbgaa
open Go.RowKit
/-! ### Regions that draw, whose last operation comes behind all others -/
section
variable {P : Program} {ops : Array Oper}
def anyZ (P : Program) (ops : Array Oper) (D : World → Prop) (z : Nat) (Q : Act → World → Prop) : Nat → Array Bool → Act → World → Prop
  | 0, listed, a, w => Region.ready .any ops listed = [] ∧ Q a w
  | fuel + 1, listed, a, w => (Region.ready .any ops listed = [] → Q a w) ∧
      ∀ i ∈ Region.ready .any ops listed, wpOp P ops NoExit i (fun a' w' => (i = z ∨ D w') ∧ anyZ P ops D z Q fuel (listed.setIfInBounds i true) a' w') a w
theorem anyZ.wpAny {D : World → Prop} {z : Nat} {Q : Exit → Act → World → Prop} : ∀ (fuel : Nat) (listed : Array Bool) (a : Act) (w : World),
    anyZ P ops D z (Q .normal) fuel listed a w → wpAny P .any ops Q fuel listed a w
  | 0, _, _, _, h => h
  | fuel + 1, _, _, _, h => ⟨h.1, fun i hi => wpOp_of_noExit (wpOp_mono (fun a' w' h3 => anyZ.wpAny fuel _ a' w' h3.2) (h.2 i hi))⟩
theorem anyZ.mono {D D' : World → Prop} {z : Nat} {Q : Act → World → Prop} (hD : ∀ w, D' w → D w) : ∀ (fuel : Nat) (listed : Array Bool) (a : Act) (w : World),
    anyZ P ops D' z Q fuel listed a w → anyZ P ops D z Q fuel listed a w
  | 0, _, _, _, h => h
  | fuel + 1, _, _, _, h => ⟨h.1, fun i hi => wpOp_mono (fun a' w' h3 => ⟨h3.1.imp_right (hD _), anyZ.mono hD fuel _ a' w' h3.2⟩) (h.2 i hi)⟩
/-- What is listed has all that it comes behind listed. -/
def Down (ops : Array Oper) (L : Array Bool) : Prop := ∀ (k : Nat) (o : Oper), ops[k]? = some o → L.getD k false = true → ∀ e ∈ o.after, Region.binds .any e = true → L.getD e.on false = true
theorem Down.set {L : Array Bool} (h : Down ops L) {j : Nat} (hj : j ∈ Region.ready .any ops L) : Down ops (L.setIfInBounds j true) := by
  intro k o hk hl e he hb
  refine getD_set_true ?_
  by_cases hkj : k = j
  · subst hkj
    obtain ⟨_, o', ho', hall⟩ := mem_ready.1 hj
    rw [ho'] at hk
    cases hk
    exact hall e he hb
  · have : (L.setIfInBounds j true).getD k false = L.getD k false := getD_set_ne false (Ne.symm hkj)
    exact h k o hk (this ▸ hl) e he hb
/-- Each but the last comes ahead of a later one. -/
def domOk (ops : Array Oper) : Bool := (List.range (ops.size - 1)).all fun i => (List.range ops.size).any fun j => Nat.blt i j && ((ops[j]?).map fun o => o.after.any fun e => Region.binds .any e && e.on == i).getD false
theorem dom_next (hd : domOk ops = true) {i : Nat} (hi : i + 1 < ops.size) : ∃ j o, i < j ∧ j < ops.size ∧ ops[j]? = some o ∧ ∃ e ∈ o.after, Region.binds .any e = true ∧ e.on = i := by
  unfold domOk at hd
  rw [List.all_eq_true] at hd
  have h1 := hd i (by rw [List.mem_range]; omega)
  rw [List.any_eq_true] at h1
  obtain ⟨j, hj, h2⟩ := h1
  rw [List.mem_range] at hj
  simp only [Bool.and_eq_true, Nat.blt_eq] at h2
  obtain ⟨h2, h3⟩ := h2
  cases ho : ops[j]? with
  | none => rw [ho] at h3; cases h3
  | some o =>
    rw [ho] at h3
    simp only [Option.map_some, Option.getD_some, Array.any_eq_true, Bool.and_eq_true, beq_iff_eq] at h3
    obtain ⟨m, hm, hb, hon⟩ := h3
    exact ⟨j, o, h2, hj, ho, _, Array.getElem_mem hm, hb, hon⟩
theorem dom_all (hd : domOk ops = true) {L : Array Bool} (hL : Down ops L) (hz : ops.size - 1 ∈ Region.ready .any ops L) : ∀ m i, ops.size - 1 - i = m → i + 1 < ops.size → L.getD i false = true := by
  intro m
  induction m using Nat.strongRecOn with
  | _ m ih =>
    intro i hm hi
    obtain ⟨j, o, hij, hj, ho, e, he, hb, hon⟩ := dom_next hd hi
    subst hon
    by_cases hjz : j = ops.size - 1
    · subst hjz
      obtain ⟨_, o', ho', hall⟩ := mem_ready.1 hz
      rw [ho'] at ho
      cases ho
      exact hall e he hb
    · exact hL j o ho (ih _ (by omega) j rfl (by omega)) e he hb
theorem getD_ff {L : Array Bool} {i : Nat} (h : L.getD i true = false) : L.getD i false = false := by
  rw [Array.getD_eq_getD_getElem?] at h ⊢
  cases hq : L[i]? with
  | none => rfl
  | some b => rw [hq] at h; exact h
theorem anyZ_first {D : World → Prop} {Q : Act → World → Prop} {i : Nat} {oi : Oper} {v : Value} (hd : domOk ops = true) (hiz : i + 1 < ops.size) (hi : ops[i]? = some oi) (hsel : ∀ (j : Nat) (o : Oper) cs b, ops[j]? = some o → o.op ≠ .select cs b) :
    ∀ (fuel : Nat) (listed : Array Bool) (a : Act) (w : World), D w → Down ops listed →
      (∀ j oj, ops[j]? = some oj → j ≠ i → listed.getD j true = false → (∀ e ∈ oj.after, Region.binds .any e = true → e.on ≠ i) → oi.apart ops oj = true) →
      i ∈ Region.ready .any ops listed → YieldsD P ops D oi v a →
      anyZ P ops D (ops.size - 1) Q fuel (listed.setIfInBounds i true) (a.put oi.dst v) w → anyZ P ops D (ops.size - 1) Q (fuel + 1) listed a w := by
  intro fuel
  induction fuel with
  | zero =>
    intro listed a w hDw _ _ hr hy H
    refine ⟨fun h => (by rw [h] at hr; cases hr), fun j hj => ?_⟩
    by_cases hji : j = i
    · subst hji; exact hy.wpOp hi hDw ⟨.inr hDw, H⟩
    · have := ready_mono hj hji
      rw [H.1] at this
      cases this
  | succ fuel ih =>
    intro listed a w hDw hdn hfree hr hy H
    refine ⟨fun h => (by rw [h] at hr; cases hr), fun j hj => ?_⟩
    by_cases hji : j = i
    · subst hji; exact hy.wpOp hi hDw ⟨.inr hDw, H⟩
    · have hjz : j ≠ ops.size - 1 := fun h => by
        subst h
        have h1 := dom_all hd hdn hj _ i rfl hiz
        have h0 := getD_ff (mem_ready.1 hr).1
        rw [h1] at h0
        cases h0
      have h1 := H.2 j (ready_mono hj hji)
      obtain ⟨hjun, oj, hoj, hall⟩ := mem_ready.1 hj
      have hnot : ∀ e ∈ oj.after, Region.binds .any e = true → e.on ≠ i := fun e he hb heq => by
        have h1 := hall e he hb
        have h0 := (mem_ready.1 hr).1
        rw [heq] at h1
        rw [getD_ff h0] at h1
        cases h1
      have h2 := wpOp_putD hoj (hfree j oj hoj hji hjun hnot) (fun cs b => hsel i oi cs b hi) (fun cs b => hsel j oj cs b hoj) hy h1
      have hfree' : ∀ k ok, ops[k]? = some ok → k ≠ i → (listed.setIfInBounds j true).getD k true = false →
          (∀ e ∈ ok.after, Region.binds .any e = true → e.on ≠ i) → oi.apart ops ok = true := fun k ok hk hki hun hno => by
        refine hfree k ok hk hki ?_ hno
        by_cases hjk : j = k
        · subst hjk; exact hjun
        · rw [getD_set_ne true hjk] at hun; exact hun
      refine wpOp_mono (fun a' w' h3 => ?_) h2
      have hDw' : D w' := h3.2.1.resolve_left hjz
      refine ⟨.inr hDw', ih (listed.setIfInBounds j true) a' w' hDw' (hdn.set hj) hfree' (ready_mono hr (Ne.symm hji)) h3.1 ?_⟩
      rw [Array.setIfInBounds_comm _ _ hji]
      exact h3.2.2
def planOkZ (ops : Array Oper) : Nat → Array Bool → Plan → Bool
  | _ + 1, listed, .nil => (Region.ready .any ops listed == [ops.size - 1]) && (Region.ready .any ops (listed.setIfInBounds (ops.size - 1) true)).isEmpty
  | n + 1, listed, .q i k => Nat.blt (i + 1) ops.size && Region.free .any ops listed i && (Region.ready .any ops listed).contains i && planOkZ ops n (listed.setIfInBounds i true) k
  | n + 1, listed, .e i k => (Region.ready .any ops listed == [i]) && planOkZ ops n (listed.setIfInBounds i true) k
  | n + 1, listed, .two i j k h => (Region.ready .any ops listed == [i, j]) && planOkZ ops n (listed.setIfInBounds i true) k && planOkZ ops n (listed.setIfInBounds j true) h
  | 0, _, _ => false
theorem planW.anyZ {Q : Act → World → Prop} (hs : Region.noSelect ops = true) (hd : domOk ops = true) : ∀ (n : Nat) (ix : Plan) (D : World → Prop) (listed : Array Bool) (a : Act) (w : World), planOkZ ops n listed ix = true → D w → Down ops listed →
    planW P ops (fun a w => wpOp P ops NoExit (ops.size - 1) Q a w) ix D a w → Proofs.Ytoifikgnbblbgaa.anyZ P ops D (ops.size - 1) Q n listed a w
  | 0, .nil, _, _, _, _, hok, _, _, _ => by cases hok
  | n + 1, .nil, D, listed, a, w, hok, hD, hdn, h => by
    simp only [planOkZ, Bool.and_eq_true, beq_iff_eq, List.isEmpty_iff] at hok
    refine ⟨fun h0 => (by rw [hok.1] at h0; cases h0), fun j hj => ?_⟩
    rw [hok.1] at hj
    simp only [List.mem_singleton] at hj
    subst hj
    refine wpOp_mono (fun a' w' hq => ⟨.inl rfl, ?_⟩) h
    cases n with
    | zero => exact ⟨hok.2, hq⟩
    | succ n => exact ⟨fun _ => hq, fun i hi => by rw [hok.2] at hi; cases hi⟩
  | n + 1, .q i ix, D, listed, a, w, hok, hD, hdn, ⟨o, v, hi, hy, h⟩ => by
    simp only [planOkZ, Bool.and_eq_true, Nat.blt_eq] at hok
    have hrd : i ∈ Region.ready .any ops listed := by simpa using hok.1.2
    exact anyZ_first hd hok.1.1.1 hi (Region.noSelect_spec hs) n listed a w hD hdn (Region.free_spec hi hok.1.1.2) hrd hy (planW.anyZ hs hd n ix D _ _ _ hok.2 hD (hdn.set hrd) h)
  | n + 1, .e i ix, D, listed, a, w, hok, hD, hdn, h => by
    simp only [planOkZ, Bool.and_eq_true, beq_iff_eq] at hok
    refine ⟨fun h0 => (by rw [hok.1] at h0; cases h0), fun j hj => ?_⟩
    have hj0 := hj
    rw [hok.1] at hj
    simp only [List.mem_singleton] at hj
    subst hj
    exact wpOp_mono (fun a' w' ⟨D', hD', hw', h'⟩ => ⟨.inr (hD' _ hw'), anyZ.mono hD' _ _ _ _ (planW.anyZ hs hd n ix D' _ a' w' hok.2 hw' (hdn.set hj0) h')⟩) h
  | n + 1, .two i j k m, D, listed, a, w, hok, hD, hdn, h => by
    simp only [planOkZ, Bool.and_eq_true, beq_iff_eq] at hok
    refine ⟨fun h0 => (by rw [hok.1.1] at h0; cases h0), fun r hr => ?_⟩
    have hr0 := hr
    rw [hok.1.1] at hr
    simp only [List.mem_cons, List.not_mem_nil, or_false] at hr
    rcases hr with rfl | rfl
    · exact wpOp_mono (fun a' w' ⟨D', hD', hw', h'⟩ => ⟨.inr (hD' _ hw'), anyZ.mono hD' _ _ _ _ (planW.anyZ hs hd n k D' _ a' w' hok.1.2 hw' (hdn.set hr0) h')⟩) h.1
    · exact wpOp_mono (fun a' w' ⟨D', hD', hw', h'⟩ => ⟨.inr (hD' _ hw'), anyZ.mono hD' _ _ _ _ (planW.anyZ hs hd n m D' _ a' w' hok.2 hw' (hdn.set hr0) h')⟩) h.2
theorem down_none (n : Nat) : Down ops (Array.replicate n false) := by
  intro k o _ h
  rw [Array.getD_eq_getD_getElem?, Array.getElem?_replicate] at h
  split at h <;> cases h
theorem wp_region_planZ {id : Nat} {a : Act} {w : World} {Q : Exit → Act → World → Prop} (D : World → Prop) (ix : Plan) (hm : P.follows .mixedOrders = true)
    (hok : (Region.noSelect ops && domOk ops && planOkZ ops ops.size (Array.replicate ops.size false) ix) = true) (hD : D w.drew)
    (h : planW P ops (fun a w => wpOp P ops NoExit (ops.size - 1) (Q .normal) a w) ix D a w.drew) : (Code.region id ops true).wp P Q a w := by
  simp only [Bool.and_eq_true] at hok
  refine wp_region_any hm ?_
  exact anyZ.wpAny _ _ _ _ (planW.anyZ hok.1.1 hok.1.2 _ ix D _ a _ hok.2 hD (down_none _) h)
end
end Go.Proofs.Ytoifikgnbblbgaa
namespace Go.Proofs.Ytoifikgnbblbgaa.A
open Go.RowKit
section
variable {P : Program} {n : Nat} {W : Wd} {σ : Blks} {l : Slots} {o : Oper} {ops : Array Oper} {Q : Exit → Act → World → Prop}
/-- What is to be shown ahead of a region's last operation. -/
def LastOp (P : Program) (ops : Array Oper) (Q : Exit → Act → World → Prop) : Exit → Act → World → Prop := fun _ a w => wpOp P ops NoExit (ops.size - 1) (Q .normal) a w
theorem SC.drawZ {id : Nat} (X : List Nat) (ix : Plan) (hm : P.follows .mixedOrders = true)
    (hok : (Region.noSelect ops && domOk ops && planOkZ ops ops.size (Array.replicate ops.size false) ix) = true) (h : SX P ops ix X (St n W σ l) (LastOp P ops Q)) : SC P (.region id ops true) (St n W σ l) Q := fun a w hs =>
  wp_region_planZ (fun w' => Ext X w.drew w') ix hm hok (Ext.refl _) (h a _ hs.drew)
theorem SE.effZ {Y : List Nat} {R : Abs → Blks → Prop} (hi : ops[ops.size - 1]? = some o) (hv : Eff P n W σ l Y o R) (hg : gd ops l o = some true) (hd : lt? o.dst n = true)
    (k : ∀ y τ, R y τ → SE .normal (St n W τ (put? l o.dst y)) Q) : SE .normal (St n W σ l) (LastOp P ops Q) := fun a w hs => by
  unfold LastOp wpOp
  simp only [hi, hs.wanted hg, if_true]
  refine .inl ?_
  unfold Oper.wp
  obtain ⟨v, w', y, τ, hR, hx, hr, hm, hc, hrun | ⟨rfl, hrun⟩⟩ := hv a w hs
  · rw [hrun]; exact k _ _ hR _ _ ((hs.to hm hc).put hd hr)
  · rw [hrun]; exact k _ _ hR _ _ ((hs.to hm hc).put hd hr)
end

abbrev Wo := BitVec 32
/-- A word's value. -/
def u32 (p : Wo) : Abs := .v (.int .u32 (p.toNat : Nat))
def lA (l : List Wo) : List Abs := l.map u32
theorem putL_whole {L ys : List Abs} (h : ys.length = L.length) : putL L 0 ys = ys := by
  rw [putL_eq _ _ _ (Nat.zero_le _), Nat.zero_add, h]
  simp
theorem lA_at {l : List Wo} {q : Nat} (h : q < l.length) : (lA l)[0 + q * 1]? = some (u32 (l.getD q 0)) := by
  simp [lA, List.getD, h]
theorem putL_set (L : List Abs) (q : Nat) (a : Abs) (h : q < L.length) : putL L q [a] = L.set q a := by
  rw [putL_eq _ _ _ (by omega), List.set_eq_take_append_cons_drop, if_pos h]
  simp
theorem lA_put {l : List Wo} {q : Nat} {p : Wo} (h : q < l.length) : putL (lA l) (0 + q * 1) [u32 p] = lA (l.set q p) := by
  rw [putL_set _ _ _ (by simpa [lA] using h)]
  simp [lA, List.map_set]
theorem set_next {l : List Wo} {m : Nat} {p : Wo} (h : 0 < m) : (l ++ List.replicate m 0).set l.length p = l ++ [p] ++ List.replicate (m - 1) 0 := by
  obtain ⟨m, rfl⟩ : ∃ k, m = k + 1 := ⟨m - 1, by omega⟩
  simp [List.replicate_succ, List.set_append]
section
variable {P : Program} {n : Nat} {W : Wd} {σ τ : Blks} {l : Slots} {X : List Nat} {x y z : Operand} {d : Option Nat} {ty t t' e : TypeId} {pos : String} {aft : Array Edge} {g : Option (Nat × Bool)} {k k' : IntKind} {b : Nat} {A B : Abs} {tab : List (Nat × TI)} {ops : Array Oper} {rest : List Oper} {Q : Exit → Act → World → Prop} {p q : Wo}
theorem wrap32 (p : Wo) : IntKind.u32.wrap (p.toNat : Nat) = (p.toNat : Nat) := by
  have := p.isLt
  simp [IntKind.wrap, IntKind.bits, IntKind.signed]
  omega
theorem ofInt32 (p : Wo) : BitVec.ofInt IntKind.u32.bits ((p.toNat : Nat) : Int) = p := by
  show BitVec.ofInt 32 ((p.toNat : Nat) : Int) = p
  rw [BitVec.ofInt_natCast, BitVec.ofNat_toNat, BitVec.setWidth_eq]
theorem Val.xorW (hx : look l x = some (u32 p)) (hy : look l y = some (u32 q)) : Val P n W σ l X ⟨d, .binOp .xor t x y t', ty, pos, aft, g⟩ (u32 (p ^^^ q)) :=
  Val.bitI hx hy (fun w => by
    simp only [Op.intBits, ofInt32]
    exact congrArg (fun r => Result.ok (Value.int .u32 r) w) (wrap32 (p ^^^ q))) rfl
theorem Val.andW (hx : look l x = some (u32 p)) (hy : look l y = some (u32 q)) : Val P n W σ l X ⟨d, .binOp .and t x y t', ty, pos, aft, g⟩ (u32 (p &&& q)) :=
  Val.bitI hx hy (fun w => by
    simp only [Op.intBits, ofInt32]
    exact congrArg (fun r => Result.ok (Value.int .u32 r) w) (wrap32 (p &&& q))) rfl
theorem Val.orW (hx : look l x = some (u32 p)) (hy : look l y = some (u32 q)) : Val P n W σ l X ⟨d, .binOp .or t x y t', ty, pos, aft, g⟩ (u32 (p ||| q)) :=
  Val.bitI hx hy (fun w => by
    simp only [Op.intBits, ofInt32]
    exact congrArg (fun r => Result.ok (Value.int .u32 r) w) (wrap32 (p ||| q))) rfl
theorem Val.sumW (hx : look l x = some (u32 p)) (hy : look l y = some (u32 q)) : Val P n W σ l X ⟨d, .binOp .add t x y t', ty, pos, aft, g⟩ (u32 (p + q)) :=
  Val.to (Val.addW hx hy) (congrArg (fun r => Abs.v (.int .u32 r)) (by
    simp only [IntKind.wrap, IntKind.bits, IntKind.signed, BitVec.toNat_add]
    simp))
theorem Val.shrB {m : Nat} {r : Int} (hx : look l x = some (u32 p)) (hy : look l y = some (.v (.int k' r))) (hr : r = (m : Nat)) : Val P n W σ l X ⟨d, .binOp .shr t x y t', ty, pos, aft, g⟩ (u32 (p >>> m)) :=
  Val.to (Val.shrI hx hy (by omega)) (congrArg (fun r => Abs.v (.int .u32 r)) (by
    subst hr
    have hp := p.isLt
    simp only [IntKind.bits, Int.toNat_natCast, BitVec.toNat_ushiftRight, Nat.shiftRight_eq_div_pow]
    rw [Int.fdiv_eq_ediv_of_nonneg _ (by exact Int.le_of_lt (Int.pow_pos (by decide)))]
    rcases Nat.le_total m 32 with h | h
    · rw [Nat.min_eq_left h]; simp
    · rw [Nat.min_eq_right h, Nat.div_eq_of_lt (Nat.lt_of_lt_of_le hp (Nat.pow_le_pow_right (by decide) h))]
      omega))
theorem Val.shlB {m : Nat} {r : Int} (hx : look l x = some (u32 p)) (hy : look l y = some (.v (.int k' r))) (hr : r = (m : Nat)) : Val P n W σ l X ⟨d, .binOp .shl t x y t', ty, pos, aft, g⟩ (u32 (p <<< m)) :=
  Val.to (Val.shlW hx hy (by omega)) (congrArg (fun r => Abs.v (.int .u32 r)) (by
    subst hr
    have hp := p.isLt
    have e : ∀ v : Int, IntKind.u32.wrap v = v % 4294967296 := fun v => by simp [IntKind.wrap, IntKind.bits, IntKind.signed]
    rw [e, show IntKind.u32.bits = 32 from rfl, Int.toNat_natCast, BitVec.toNat_shiftLeft, Nat.shiftLeft_eq]
    rcases Nat.le_total m 32 with h | h
    · rw [Nat.min_eq_left h]; simp
    · rw [Nat.min_eq_right h]
      obtain ⟨j, rfl⟩ : ∃ j, m = 32 + j := ⟨m - 32, by omega⟩
      rw [Nat.pow_add, show p.toNat * (2 ^ 32 * 2 ^ j) = 2 ^ 32 * (p.toNat * 2 ^ j) by rw [Nat.mul_left_comm], Nat.mul_mod_right]
      simp))
/-- A byte as a word. -/
theorem Val.conv8 {c : UInt8} (hx : look l x = some (.v (bc c))) (ht : P.underlying t' = some (.int .u32)) (hs : (P.underlying t).isSome = true) : Val P n W σ l X ⟨d, .convert t t' x, ty, pos, aft, g⟩ (u32 (BitVec.ofNat 32 c.toNat)) :=
  Val.to (Val.convI (k := .u8) (a := (c.toNat : Nat)) hx ht hs (by have := c.toNat_lt; simp only [InR, lo, hi]; omega)) (congrArg (fun r => Abs.v (.int .u32 r)) (by
    have := c.toNat_lt
    rw [BitVec.toNat_ofNat, Nat.mod_eq_of_lt (by omega)]))
/-- A word as a byte. -/
theorem Val.conv32 (hx : look l x = some (u32 p)) (ht : P.underlying t' = some (.int .u8)) (hs : (P.underlying t).isSome = true) : Val P n W σ l X ⟨d, .convert t t' x, ty, pos, aft, g⟩ (.v (bc (UInt8.ofNat p.toNat))) :=
  Val.to (Val.convW hx ht hs) (congrArg Abs.v (by
    simp [IntKind.wrap, IntKind.bits, IntKind.signed, bc]))
/-- A part of an array in a block of the call's own. -/
theorem Val.sliceArrLo (hT : TabOk P tab) {i : TI} {m off q : Nat} {r : Int} (hu : P.underlying t = some (.array m e)) (hi : ti tab e = some i) (hx : look l x = some (.v (.pointer (some ⟨b, off, none⟩)))) (hy : look l y = some (.v (.int k r))) (hr : r = (q : Nat)) (hq : q < m) :
    Val P n W σ l X ⟨d, .slice t x (some y) none none, ty, pos, aft, g⟩ (.v (.slice (some ⟨b, off + q * i.size, none⟩) (m - q) (m - q))) := fun a w hs _ => ⟨_, rfl, fun w' _ => by
  subst hr
  have h6 := (hT _ _ hi).sizeOf (w := w')
  have h1 : q ≤ m := by omega
  have h2 : ¬ m < q := by omega
  have h3 : ¬ m = q := by omega
  simp [execOp, Instr.sliceAt, Instr.sureAddr, Instr.sliceBounds, Instr.sliceBound, asIntOf, hs.plain hx, hs.plain hy, run_underlying hu, Sem.run_bind, Result.andThen, h6, h1, h2, h3, Addr.add_none]⟩
theorem Val.sliceArrHi (hT : TabOk P tab) {i : TI} {m off q : Nat} {r : Int} (hu : P.underlying t = some (.array m e)) (hi : ti tab e = some i) (hx : look l x = some (.v (.pointer (some ⟨b, off, none⟩)))) (hy : look l y = some (.v (.int k r))) (hr : r = (q : Nat)) (hq : q < m) :
    Val P n W σ l X ⟨d, .slice t x none (some y) none, ty, pos, aft, g⟩ (.v (.slice (some ⟨b, off, none⟩) q m)) := fun a w hs _ => ⟨_, rfl, fun w' _ => by
  subst hr
  have h6 := (hT _ _ hi).sizeOf (w := w')
  have h1 : q ≤ m := by omega
  have h2 : ¬ m < q := by omega
  have h3 : ¬ m = 0 := by omega
  simp [execOp, Instr.sliceAt, Instr.sureAddr, Instr.sliceBounds, Instr.sliceBound, asIntOf, hs.plain hx, hs.plain hy, run_underlying hu, Sem.run_bind, Result.andThen, h6, h1, h2, h3, Addr.add]⟩
/-- A row that is an array's address. -/
theorem Val.arrayAt {m len c : Nat} {A' : Option Addr} (hu : P.underlying t = some (.array m e)) (hx : look l x = some (.v (.slice A' len c))) (hm : m ≤ len) :
    Val P n W σ l X ⟨d, .sliceToArrayPointer t x, ty, pos, aft, g⟩ (.v (.pointer A')) := fun a w hs _ => ⟨_, rfl, fun w' _ => by
  have h1 : ¬ len < m := by omega
  simp [execOp, Instr.arrayAt, hs.plain hx, run_underlying hu, Sem.run_bind, Result.andThen, h1]⟩
/-- A new block in a region that draws: what follows may change it. -/
theorem SX.alloc {ix : Plan} (hT : TabOk P tab) {i : TI} {j : Nat} (ht : ti tab t = some i) (hi : ops[j]? = some ⟨d, .alloc t, ty, pos, aft, g⟩) (hg : gd ops l ⟨d, .alloc t, ty, pos, aft, g⟩ = some true) (hd : lt? d n = true)
    (k : ∀ b, SX P ops ix (b :: X) (St n W (.blk b t (zabs i.zero) :: σ) (put? l d (.v (.pointer (some ⟨b, 0, none⟩))))) Q) : SX P ops (.e j ix) X (St n W σ l) Q := fun a w hs => by
  unfold planW wpOp
  simp only [hi, hs.wanted hg, if_true]
  refine .inl ?_
  unfold Oper.wp
  obtain ⟨zv, hz, hc⟩ := (hT t _ ht).zeroValue (w := w)
  obtain ⟨h1, h2⟩ := hs.mem.alloc t (reps_zabs i.zero)
  have hrun : (execOp a.eval ⟨d, .alloc t, ty, pos, aft, g⟩).run P w = .ok (.value (.pointer (some ⟨w.heap.size, 0, none⟩))) (w.alloc (row t i.zero)) := by
    simp [execOp, Instr.alloc, Sem.run_bind, hz, Result.andThen, newVar, newRow, newObj, Sem.run, hc, row]
  rw [hrun]
  refine ⟨fun w2 => Ext (w.heap.size :: X) (w.alloc (row t i.zero)) w2, fun w2 h3 => ((Ext.refl w).alloc _).trans (h3 : Ext (w.heap.size :: X) _ w2) fun x hx => ?_, Ext.refl _, k _ _ _ ((hs.to h1 h2).put hd (show rep _ _ (.v (.pointer (some ⟨w.heap.size, 0, none⟩))) _ from rfl))⟩
  rcases List.mem_cons.1 hx with rfl | hx
  · exact .inr (Nat.le_refl _)
  · exact .inl hx
/-- A call that takes the two pieces on top. -/
theorem After.two {ι : Type} {x1 x2 : It} {β : Blks} {τ' : ι → Blks} {y1 y2 : ι → It} {K : Blks → ι → Prop} (hr : x1.rids = [] ∧ x2.rids = []) (hτ : ∀ z, τ' z = [y1 z, y2 z]) (k : ∀ z, K (y1 z :: y2 z :: β) z) : After (x1 :: x2 :: β) [x1, x2] τ' K :=
  After.mid [] (β := β) rfl (by intro x hx; simp only [List.mem_cons, List.not_mem_nil, or_false] at hx; rcases hx with rfl | rfl; exact hr.1; exact hr.2) fun z => by rw [hτ z]; exact k z
theorem After.two0 {ι : Type} {x1 x2 : It} {β : Blks} {τ' : ι → Blks} {K : Blks → ι → Prop} (hr : x1.rids = [] ∧ x2.rids = []) (hτ : ∀ z, τ' z = []) (k : ∀ z, K β z) : After (x1 :: x2 :: β) [x1, x2] τ' K :=
  After.mid [] (β := β) rfl (by intro x hx; simp only [List.mem_cons, List.not_mem_nil, or_false] at hx; rcases hx with rfl | rfl; exact hr.1; exact hr.2) fun z => by rw [hτ z]; exact k z
/-- A row is never longer than may be. -/
theorem SC.rowLe {c : Code} {s i : Nat} {xs : List (List Abs)} (hs : slot l i = some (.sl s xs)) (k : xs.length ≤ maxLen → SC P c (St n W σ l) Q) : SC P c (St n W σ l) Q := fun a w h => by
  have h1 : rep (mids σ ++ W.G) w (.sl s xs) (a.eval (.tmp i)) := h.eval (x := .tmp i) hs
  obtain ⟨us, h2, _⟩ := h1
  obtain ⟨_, _, _, h3, h4, _⟩ := h2.shape
  exact k (Nat.le_trans h3 h4) a w h
theorem SE.perm {ex : Exit} (h : τ.Perm σ) (k : SE ex (St n W τ l) Q) : SE ex (St n W σ l) Q := fun a w hs => k a w (hs.perm h)
theorem SE.swap {ex : Exit} {x y : It} (k : SE ex (St n W (y :: x :: σ) l) Q) : SE ex (St n W (x :: y :: σ) l) Q := SE.perm (List.Perm.swap x y σ) k
end
section
variable {P : Program} {n : Nat} {W : Wd} {σ : Blks} {l : Slots} {X : List Nat} {x : Operand} {d : Option Nat} {ty t t' e tp : TypeId} {pos : String} {aft : Array Edge} {gq : Option (Nat × Bool)} {A : Abs} {ms : Array (String × TypeId)} {ops : Array Oper} {rest : List Oper} {Q : Exit → Act → World → Prop} {s : Nat} {xs : List (List Abs)}
/-- Is an interface's value nil? -/
theorem Val.ifaceNil (hi : P.underlying t = some (.interface ms)) (hx : look l x = some (.ifc tp A)) : Val P n W σ l X ⟨d, .binOp .eql t x (.const .nilIface) t', ty, pos, aft, gq⟩ (.v (.bool false)) := fun a w hs _ => by
  obtain ⟨u, h1, h2⟩ := hs.eval hx
  refine ⟨_, rfl, fun w' _ => ?_⟩
  have h : ∀ d : Nat, (Op.equalIn (d + 1) t (.iface tp u) .nilIface).run P w' = .ok false w' := fun d => by simp [Op.equalIn, run_underlying hi]
  have h3 : (binOp .eql t (.iface tp u) .nilIface).run P w' = .ok (.bool false) w' := by
    simp only [binOp]
    simp [Op.equal, Op.maxDepth, h 9999]
  have e : a.eval (.const .nilIface) = .nilIface := rfl
  simp [execOp, h1, e, eqGuard, h3]
theorem Val.nilNil (hi : P.underlying t = some (.interface ms)) (hx : look l x = some (.v .nilIface)) : Val P n W σ l X ⟨d, .binOp .eql t x (.const .nilIface) t', ty, pos, aft, gq⟩ (.v (.bool true)) := fun a w hs _ => by
  refine ⟨_, rfl, fun w' _ => ?_⟩
  have h : ∀ d : Nat, (Op.equalIn (d + 1) t .nilIface .nilIface).run P w' = .ok true w' := fun d => by simp [Op.equalIn, run_underlying hi]
  have h3 : (binOp .eql t .nilIface .nilIface).run P w' = .ok (.bool true) w' := by
    simp only [binOp]
    simp [Op.equal, Op.maxDepth, h 9999]
  have e : a.eval (.const .nilIface) = .nilIface := rfl
  simp [execOp, hs.plain hx, e, eqGuard, h3]
/-- Is a slice nil? Then it is empty. -/
theorem SL.eqNil (ht : P.underlying t = some (.slice e)) (hx : look l x = some (.sl s xs)) (hg : gd ops l ⟨d, .binOp .eql t x (.const (.slice none 0 0)) t', ty, pos, aft, gq⟩ = some true) (hd : lt? d n = true)
    (k : ∀ b : Bool, (b = true → xs = []) → SL P ops rest (St n W σ (put? l d (.v (.bool b)))) Q) : SL P ops (⟨d, .binOp .eql t x (.const (.slice none 0 0)) t', ty, pos, aft, gq⟩ :: rest) (St n W σ l) Q := fun a w hs =>
  wpList_step fun K hK => by
    rw [if_pos (hs.wanted hg)]
    unfold Oper.wp
    obtain ⟨us, hr, h2⟩ := hs.eval hx
    obtain ⟨A', c, h1, h3, h4, h5⟩ := hr.shape
    have e1 : a.eval (.const (.slice none 0 0)) = .slice none 0 0 := rfl
    have hrun : (binOp .eql t (.slice A' xs.length c) (.slice none 0 0)).run P w = .ok (.bool A'.isNone) w := by
      have h : ∀ d : Nat, (Op.equalIn (d + 1) t (.slice A' xs.length c) (.slice none 0 0)).run P w = .ok A'.isNone w := fun d => by cases A' <;> simp [Op.equalIn, run_underlying ht]
      simp only [binOp]
      simp [Op.equal, Op.maxDepth, h 9999]
    have hrun2 : (execOp a.eval ⟨d, .binOp .eql t x (.const (.slice none 0 0)) t', ty, pos, aft, gq⟩).run P w = .ok (.value (.bool A'.isNone)) w := by simp [execOp, h1, e1, eqGuard, hrun]
    rw [hrun2]
    refine hK _ _ (k A'.isNone (fun hb => ?_) _ _ (hs.put hd (show rep _ _ (.v (.bool A'.isNone)) _ from rfl)))
    cases A' with
    | none =>
      have := h5 rfl
      exact List.length_eq_zero_iff.1 (by omega)
    | some A' => cases hb
end
end Go.Proofs.Ytoifikgnbblbgaa.A
/-
  Sums: what the program's rounds come to, as plain functions on words.
-/
set_option maxRecDepth 100000
set_option linter.unusedSimpArgs false
set_option linter.unusedVariables false
namespace Go.Proofs.Ytoifikgnbblbgaa.A
open Go.RowKit

abbrev bs (l : List UInt8) : List (List Abs) := l.map fun b => [Abs.v (bc b)]
def rot (x : Wo) (n : Nat) : Wo := x >>> n ||| x <<< (32 - n)
def mixW (x : Wo) (a b c : Nat) : Wo := rot x a ^^^ rot x b ^^^ rot x c
def byW (l : List UInt8) (i : Nat) : Wo := BitVec.ofNat 32 (l.getD i 0).toNat
def wordAt (l : List UInt8) (i : Nat) : Wo := byW l (4 * i + 0) <<< 24 ||| byW l (4 * i + 1) <<< 16 ||| byW l (4 * i + 2) <<< 8 ||| byW l (4 * i + 3)
def nextW (l : List Wo) (z : Nat) : Wo := l.getD z 0 + (rot (l.getD (z + 1) 0) 7 ^^^ rot (l.getD (z + 1) 0) 18 ^^^ l.getD (z + 1) 0 >>> 3) + l.getD (z + 9) 0 + (rot (l.getD (z + 14) 0) 17 ^^^ rot (l.getD (z + 14) 0) 19 ^^^ l.getD (z + 14) 0 >>> 10)
def sched0 (l : List UInt8) (k : Nat) : List Wo := (List.range k).map (wordAt l)
def grow (l : List Wo) : Nat → List Wo
  | 0 => l
  | k + 1 => grow l k ++ [nextW (grow l k) k]
def sched (l : List UInt8) : List Wo := grow (sched0 l 16) 48
def firstL : List Wo := [0x6a09e667#32, 0xbb67ae85#32, 0x3c6ef372#32, 0xa54ff53a#32, 0x510e527f#32, 0x9b05688c#32, 0x1f83d9ab#32, 0x5be0cd19#32]
def roundsL : List Wo := [0x428a2f98#32, 0x71374491#32, 0xb5c0fbcf#32, 0xe9b5dba5#32, 0x3956c25b#32, 0x59f111f1#32, 0x923f82a4#32, 0xab1c5ed5#32, 0xd807aa98#32, 0x12835b01#32, 0x243185be#32, 0x550c7dc3#32, 0x72be5d74#32, 0x80deb1fe#32, 0x9bdc06a7#32, 0xc19bf174#32, 0xe49b69c1#32, 0xefbe4786#32, 0x0fc19dc6#32, 0x240ca1cc#32, 0x2de92c6f#32, 0x4a7484aa#32, 0x5cb0a9dc#32, 0x76f988da#32, 0x983e5152#32, 0xa831c66d#32, 0xb00327c8#32, 0xbf597fc7#32, 0xc6e00bf3#32, 0xd5a79147#32, 0x06ca6351#32, 0x14292967#32, 0x27b70a85#32, 0x2e1b2138#32, 0x4d2c6dfc#32, 0x53380d13#32, 0x650a7354#32, 0x766a0abb#32, 0x81c2c92e#32, 0x92722c85#32, 0xa2bfe8a1#32, 0xa81a664b#32, 0xc24b8b70#32, 0xc76c51a3#32, 0xd192e819#32, 0xd6990624#32, 0xf40e3585#32, 0x106aa070#32, 0x19a4c116#32, 0x1e376c08#32, 0x2748774c#32, 0x34b0bcb5#32, 0x391c0cb3#32, 0x4ed8aa4a#32, 0x5b9cca4f#32, 0x682e6ff3#32, 0x748f82ee#32, 0x78a5636f#32, 0x84c87814#32, 0x8cc70208#32, 0x90befffa#32, 0xa4506ceb#32, 0xbef9a3f7#32, 0xc67178f2#32]
structure R8 where
  (a0 a1 a2 a3 e0 e1 e2 e3 : Wo)
def R8.a (r : R8) : List Wo := [r.a0, r.a1, r.a2, r.a3]
def R8.e (r : R8) : List Wo := [r.e0, r.e1, r.e2, r.e3]
def R8.l (r : R8) : List Wo := [r.a0, r.a1, r.a2, r.a3, r.e0, r.e1, r.e2, r.e3]
def firstR : R8 := ⟨0x6a09e667#32, 0xbb67ae85#32, 0x3c6ef372#32, 0xa54ff53a#32, 0x510e527f#32, 0x9b05688c#32, 0x1f83d9ab#32, 0x5be0cd19#32⟩
def t1W (r : R8) (k w : Wo) : Wo := r.e3 + mixW r.e0 6 11 25 + (r.e2 ^^^ (r.e0 &&& (r.e1 ^^^ r.e2))) + k + w
def t2W (r : R8) : Wo := mixW r.a0 2 13 22 + ((r.a0 &&& r.a1) ^^^ (r.a0 &&& r.a2) ^^^ (r.a1 &&& r.a2))
def rnd (r : R8) (k w : Wo) : R8 := ⟨t1W r k w + t2W r, r.a0, r.a1, r.a2, r.a3 + t1W r k w, r.e0, r.e1, r.e2⟩
def rnds (r : R8) (ws : List Wo) : Nat → R8
  | 0 => r
  | i + 1 => rnd (rnds r ws i) (roundsL.getD i 0) (ws.getD i 0)
def R8.add (r s : R8) : R8 := ⟨r.a0 + s.a0, r.a1 + s.a1, r.a2 + s.a2, r.a3 + s.a3, r.e0 + s.e0, r.e1 + s.e1, r.e2 + s.e2, r.e3 + s.e3⟩
def blockW (r : R8) (l : List UInt8) : R8 := r.add (rnds r (sched l) 64)
def addL (r s : R8) (z : Nat) : List Wo := [if 0 < z then r.a0 + s.a0 else r.a0, if 1 < z then r.a1 + s.a1 else r.a1, if 2 < z then r.a2 + s.a2 else r.a2, if 3 < z then r.a3 + s.a3 else r.a3, if 0 < z then r.e0 + s.e0 else r.e0, if 1 < z then r.e1 + s.e1 else r.e1, if 2 < z then r.e2 + s.e2 else r.e2, if 3 < z then r.e3 + s.e3 else r.e3]
def addM (r s : R8) (z : Nat) : List Wo := (addL r s z).set z ((addL r s z).getD z 0 + s.a.getD z 0)
theorem addL_step (r s : R8) {z : Nat} (h : z < 4) : (addM r s z).set (z + 4) ((addM r s z).getD (z + 4) 0 + s.e.getD z 0) = addL r s (z + 1) := by
  rcases z with _ | _ | _ | _ | z
  · rfl
  · rfl
  · rfl
  · rfl
  · omega
theorem addL_length (r s : R8) (z : Nat) : (addL r s z).length = 8 := rfl
theorem addM_length (r s : R8) (z : Nat) : (addM r s z).length = 8 := by simp [addM, addL]
theorem addL_zero (r s : R8) : addL r s 0 = r.l := rfl
theorem addL_four (r s : R8) : addL r s 4 = (r.add s).l := rfl
theorem sched0_length (l : List UInt8) (k : Nat) : (sched0 l k).length = k := by simp [sched0]
theorem sched0_succ (l : List UInt8) (k : Nat) : sched0 l (k + 1) = sched0 l k ++ [wordAt l k] := by simp [sched0, List.range_succ]
theorem grow_length (l : List Wo) (k : Nat) : (grow l k).length = l.length + k := by
  induction k with
  | zero => rfl
  | succ k ih => simp [grow, ih]; omega
theorem sched_length (l : List UInt8) : (sched l).length = 64 := by simp [sched, grow_length, sched0_length]
theorem lA_length (l : List Wo) : (lA l).length = l.length := by simp [lA]
theorem ones_lA (l : List Wo) : ones (lA l) = true := by
  rw [ones_iff]
  intro a ha
  obtain ⟨p, _, rfl⟩ := List.mem_map.1 ha
  rfl
theorem lA_put' {l m : List Wo} {q : Nat} {p : Wo} (h : q < l.length) (e : l.set q p = m) : putL (lA l) (0 + q * 1) [u32 p] = lA m := by rw [lA_put h, e]
theorem lA_at' {l m : List Wo} {q : Nat} (h : q < l.length) : (lA (l ++ m))[0 + q * 1]? = some (u32 (l.getD q 0)) := by
  rw [lA_at (by rw [List.length_append]; omega)]
  congr 2
  simp [List.getD, List.getElem?_append_left h]
theorem set_next' {l : List Wo} {z m q : Nat} {p : Wo} {l2 : List Wo} (hq : l.length = q) (hm : m = z + 1) (h2 : l2 = l ++ [p]) : (l ++ List.replicate m 0).set q p = l2 ++ List.replicate z 0 := by
  subst hq hm h2
  exact set_next (by omega)
theorem byt_at {l : List UInt8} {z j : Nat} (h : 4 * z + j < l.length) : (((l.drop (4 * z)).map fun b => [Abs.v (bc b)])[j]?) = some [.v (bc (l.getD (4 * z + j) 0))] := by
  rw [List.getElem?_map, List.getElem?_drop, List.getElem?_eq_getElem h]
  simp [List.getD, h]
/-- So many blocks of a text. -/
def blocks (r : R8) (l : List UInt8) : Nat → R8
  | 0 => r
  | k + 1 => blockW (blocks r l k) (l.drop (64 * k))
def padded (l : List UInt8) (n : Nat) : List UInt8 := l ++ [128] ++ List.replicate ((119 - l.length) % 64) 0 ++ beBytes (n * 8) 8
theorem padded_length {l : List UInt8} (h : l.length < 64) (n : Nat) : (padded l n).length = if l.length < 56 then 64 else 128 := by
  simp only [padded, List.length_append, List.length_cons, List.length_nil, List.length_replicate, beBytes_length]
  split <;> omega
def byteAt (ws : List Wo) (q : Nat) : UInt8 := UInt8.ofNat (ws.getD (q / 4) 0 >>> (24 - 8 * (q % 4))).toNat
def outN (ws : List Wo) (j : Nat) : List UInt8 := (List.range j).map (byteAt ws) ++ List.replicate (32 - j) 0
theorem outN_length (ws : List Wo) {j : Nat} (h : j ≤ 32) : (outN ws j).length = 32 := by simp [outN]; omega
theorem outN_set (ws : List Wo) {j : Nat} (h : j < 32) : (outN ws j).set j (byteAt ws j) = outN ws (j + 1) := by
  unfold outN
  obtain ⟨m, hm⟩ : ∃ k, 32 - j = k + 1 := ⟨31 - j, by omega⟩
  rw [hm, show 32 - (j + 1) = m by omega, List.range_succ, List.map_append, List.replicate_succ, List.set_append]
  simp
/-- The sum of what was taken in so far. -/
def finish (r : R8) (rest : List UInt8) (n : Nat) : List UInt8 := outN (blocks r (padded rest n) ((padded rest n).length / 64)).l 32
theorem finish_length (r : R8) (rest : List UInt8) (n : Nat) : (finish r rest n).length = 32 := outN_length _ (by omega)
/-- A sum that is under way. -/
structure Sm where
  (r : R8) (rest : List UInt8) (n : Nat)
def Sm.new : Sm := ⟨firstR, [], 0⟩
def Sm.add (s : Sm) (l : List UInt8) : Sm := ⟨blocks s.r (s.rest ++ l) ((s.rest ++ l).length / 64), (s.rest ++ l).drop (64 * ((s.rest ++ l).length / 64)), s.n + l.length⟩
def Sm.sum (s : Sm) : List UInt8 := finish s.r s.rest s.n
def Sm.Ok (s : Sm) : Prop := s.rest.length < 64
theorem Sm.new_ok : Sm.new.Ok := by simp [Sm.Ok, Sm.new]
theorem Sm.add_ok (s : Sm) (l : List UInt8) : (s.add l).Ok := by
  simp only [Sm.Ok, Sm.add, List.length_drop]
  omega
theorem Sm.sum_length (s : Sm) : s.sum.length = 32 := finish_length _ _ _
/-- What stands for a text of a kind, by keys. -/
def kdigest (k : Nat) (l : List UInt8) : List UInt8 := ((Sm.new.add [UInt8.ofNat k]).add l).sum
theorem bs_ones (l : List UInt8) : ∀ c ∈ bs l, ones c = true := by
  intro c hc
  obtain ⟨b, _, rfl⟩ := List.mem_map.1 hc
  rfl
theorem lA_get {l : List Wo} {q : Nat} (h : q < l.length) : (lA l)[q]? = some (u32 (l.getD q 0)) := by
  simp [lA, List.getD, h]
theorem ones_dig (l : List UInt8) : ones (digA l) = true := by
  rw [ones_iff]
  intro a ha
  obtain ⟨p, _, rfl⟩ := List.mem_map.1 ha
  rfl
theorem digA_put {l m : List UInt8} {q : Nat} {c : UInt8} (h : q < l.length) (e : l.set q c = m) : putL (digA l) (0 + q * 1) [.v (bc c)] = digA m := by
  subst e
  rw [Nat.zero_add, Nat.mul_one, putL_set _ _ _ (by simpa [digA] using h)]
  simp [digA, List.map_set]
theorem byteAt_eq (ws : List Wo) {y x : Nat} (h : x < 4) : UInt8.ofNat (ws.getD y 0 >>> (24 - 8 * x)).toNat = byteAt ws (4 * y + x) := by
  unfold byteAt
  rw [show (4 * y + x) / 4 = y by omega, show (4 * y + x) % 4 = x by omega]
theorem dig_out (ws : List Wo) {j : Nat} (h : j ≤ 32) : (digA (outN ws j)).length = 32 := by simp only [digA, List.length_map, outN_length ws h]
theorem pad_snoc (a : List UInt8) (n : Nat) : bs (a ++ ([128] ++ List.replicate n 0)) ++ [[Abs.v (.int .u8 0)]] = bs (a ++ ([128] ++ List.replicate (n + 1) 0)) := by
  rw [List.replicate_succ']
  simp [bs, bc]
/-- The pieces of a sum that is under way. -/
def hashP (T U h : Nat) (v : Value) (s : Sm) : Blks := [own U 1 v (bs s.rest), .blk h T (lA s.r.l ++ [.v v, .v (.int .i64 (s.n : Nat))])]
theorem part8 (r : R8) (x : List Abs) : part (lA r.l ++ x) 0 8 = lA r.l := rfl
theorem put8 (r s : R8) (x : List Abs) : putL (lA r.l ++ x) 0 (lA s.l) = lA s.l ++ x := rfl
theorem l8 (r : R8) : (lA r.l).length = 8 := rfl
theorem l8x (r : R8) (x : List Abs) : (lA r.l ++ x).length = 8 + x.length := by rw [List.length_append, l8]
theorem bs_drop (l : List UInt8) (q : Nat) : Abs.sl 1 ((bs l).drop q) = byt (l.drop q) := congrArg (Abs.sl 1) List.map_drop.symm
theorem drop64 (l : List UInt8) (z : Nat) : Abs.sl 1 ((bs (l.drop (64 * z))).drop 64) = byt (l.drop (64 * (z + 1))) := by
  rw [bs_drop, List.drop_drop]
  rfl
end Go.Proofs.Ytoifikgnbblbgaa.A
/-
  The second engine: regions that draw, in two parts; an element of a row of the call's own stored; words of 64 bits.
-/
set_option maxRecDepth 100000
set_option linter.unusedSimpArgs false
set_option linter.unusedVariables false
namespace Go.Proofs.Ytoifikgnbblbgaa
open Go.RowKit
section
variable {P : Program} {ops : Array Oper}
/-- In whatever order; what the operations from m on leave is asked nothing. -/
def anyS (P : Program) (ops : Array Oper) (D : World → Prop) (m : Nat) (Q : Act → World → Prop) : Nat → Array Bool → Act → World → Prop
  | 0, listed, a, w => Region.ready .any ops listed = [] ∧ Q a w
  | fuel + 1, listed, a, w => (Region.ready .any ops listed = [] → Q a w) ∧
      ∀ i ∈ Region.ready .any ops listed, wpOp P ops NoExit i (fun a' w' => (m ≤ i ∨ D w') ∧ anyS P ops D m Q fuel (listed.setIfInBounds i true) a' w') a w
theorem anyS.wpAny {D : World → Prop} {m : Nat} {Q : Exit → Act → World → Prop} : ∀ (fuel : Nat) (listed : Array Bool) (a : Act) (w : World),
    anyS P ops D m (Q .normal) fuel listed a w → wpAny P .any ops Q fuel listed a w
  | 0, _, _, _, h => h
  | fuel + 1, _, _, _, h => ⟨h.1, fun i hi => wpOp_of_noExit (wpOp_mono (fun a' w' h3 => anyS.wpAny fuel _ a' w' h3.2) (h.2 i hi))⟩
theorem anyS.mono {D D' : World → Prop} {m : Nat} {Q : Act → World → Prop} (hD : ∀ w, D' w → D w) : ∀ (fuel : Nat) (listed : Array Bool) (a : Act) (w : World),
    anyS P ops D' m Q fuel listed a w → anyS P ops D m Q fuel listed a w
  | 0, _, _, _, h => h
  | fuel + 1, _, _, _, h => ⟨h.1, fun i hi => wpOp_mono (fun a' w' h3 => ⟨h3.1.imp_right (hD _), anyS.mono hD fuel _ a' w' h3.2⟩) (h.2 i hi)⟩
/-- Those ahead of m are listed. -/
def headIn (m : Nat) (L : Array Bool) : Bool := (List.range m).all fun i => L.getD i false
theorem headIn_set {m : Nat} {L : Array Bool} (h : headIn m L = true) (j : Nat) : headIn m (L.setIfInBounds j true) = true := by
  unfold headIn at *
  rw [List.all_eq_true] at *
  exact fun i hi => getD_set_true (h i hi)
theorem headIn_get {m : Nat} {L : Array Bool} (h : headIn m L = true) {i : Nat} (hi : i < m) : L.getD i false = true := by
  unfold headIn at h
  rw [List.all_eq_true] at h
  exact h i (List.mem_range.2 hi)
theorem anyD.toS {D D2 : World → Prop} {m : Nat} {Q : Act → World → Prop} : ∀ (fuel : Nat) (listed : Array Bool) (a : Act) (w : World), headIn m listed = true →
    anyD P ops D2 Q fuel listed a w → anyS P ops D m Q fuel listed a w
  | 0, _, _, _, _, h => h
  | fuel + 1, L, _, _, hL, h => ⟨h.1, fun i hi => wpOp_mono (fun a' w' h3 => ⟨.inl (by
      rcases Nat.lt_or_ge i m with h1 | h1
      · have h2 := headIn_get hL h1
        rw [getD_ff (mem_ready.1 hi).1] at h2
        cases h2
      · exact h1), anyD.toS fuel _ a' w' (headIn_set hL i) h3.2⟩) (h.2 i hi)⟩
/-- Each ahead of m comes ahead of a later one up to m; each behind m comes behind one from m on. -/
def domOkS (ops : Array Oper) (m : Nat) : Bool :=
  ((List.range m).all fun i => (List.range (m + 1)).any fun j => Nat.blt i j && ((ops[j]?).map fun o => o.after.any fun e => Region.binds .any e && e.on == i).getD false) &&
  ((List.range ops.size).all fun j => Nat.ble j m || ((ops[j]?).map fun o => o.after.any fun e => Region.binds .any e && Nat.ble m e.on && Nat.blt e.on j).getD false)
theorem domS_next {m : Nat} (hd : domOkS ops m = true) {i : Nat} (hi : i < m) : ∃ j o, i < j ∧ j ≤ m ∧ ops[j]? = some o ∧ ∃ e ∈ o.after, Region.binds .any e = true ∧ e.on = i := by
  unfold domOkS at hd
  rw [Bool.and_eq_true, List.all_eq_true] at hd
  have h1 := hd.1 i (by rw [List.mem_range]; omega)
  rw [List.any_eq_true] at h1
  obtain ⟨j, hj, h2⟩ := h1
  rw [List.mem_range] at hj
  simp only [Bool.and_eq_true, Nat.blt_eq] at h2
  obtain ⟨h2, h3⟩ := h2
  cases ho : ops[j]? with
  | none => rw [ho] at h3; cases h3
  | some o =>
    rw [ho] at h3
    simp only [Option.map_some, Option.getD_some, Array.any_eq_true, Bool.and_eq_true, beq_iff_eq] at h3
    obtain ⟨x, hx, hb, hon⟩ := h3
    exact ⟨j, o, h2, by omega, ho, _, Array.getElem_mem hx, hb, hon⟩
theorem domS_back {m : Nat} (hd : domOkS ops m = true) {j : Nat} {o : Oper} (ho : ops[j]? = some o) (hj : m < j) : ∃ e ∈ o.after, Region.binds .any e = true ∧ m ≤ e.on ∧ e.on < j := by
  unfold domOkS at hd
  rw [Bool.and_eq_true, List.all_eq_true, List.all_eq_true] at hd
  have h1 := hd.2 j (by rw [List.mem_range]; exact (Array.getElem?_eq_some_iff.1 ho).1)
  rw [ho] at h1
  simp only [Option.map_some, Option.getD_some, Bool.or_eq_true, Nat.ble_eq, Array.any_eq_true, Bool.and_eq_true, Nat.blt_eq] at h1
  rcases h1 with h1 | ⟨x, hx, ⟨hb, h2⟩, h3⟩
  · omega
  · exact ⟨_, Array.getElem_mem hx, hb, h2, h3⟩
/-- All that one comes behind is listed. -/
def Due (ops : Array Oper) (L : Array Bool) (j : Nat) : Prop := ∃ o, ops[j]? = some o ∧ ∀ e ∈ o.after, Region.binds .any e = true → L.getD e.on false = true
theorem Due.down {m : Nat} (hd : domOkS ops m = true) {L : Array Bool} (hL : Down ops L) (hin : ∀ k, L.getD k false = true → ∃ o, ops[k]? = some o) : ∀ j, m ≤ j → Due ops L j → Due ops L m := by
  intro j
  induction j using Nat.strongRecOn with
  | _ j ih =>
    intro hj h
    by_cases hjm : j = m
    · subst hjm; exact h
    · obtain ⟨o, ho, hall⟩ := h
      obtain ⟨e, he, hb, h1, h2⟩ := domS_back hd ho (by omega)
      have h3 := hall e he hb
      obtain ⟨o2, ho2⟩ := hin _ h3
      exact ih e.on h2 h1 ⟨o2, ho2, hL _ _ ho2 h3⟩
theorem domS_all {m : Nat} (hd : domOkS ops m = true) {L : Array Bool} (hL : Down ops L) (hz : Due ops L m) : ∀ k i, m - i = k → i < m → L.getD i false = true := by
  intro k
  induction k using Nat.strongRecOn with
  | _ k ih =>
    intro i hk hi
    obtain ⟨j, o, hij, hj, ho, e, he, hb, hon⟩ := domS_next hd hi
    subst hon
    by_cases hjz : j = m
    · subst hjz
      obtain ⟨o', ho', hall⟩ := hz
      rw [ho'] at ho
      cases ho
      exact hall e he hb
    · exact hL j o ho (ih _ (by omega) j rfl (by omega)) e he hb
/-- What is listed is there, with all that it comes behind. -/
structure Listed (ops : Array Oper) (L : Array Bool) : Prop where
  down : Down ops L
  there : ∀ k, L.getD k false = true → ∃ o, ops[k]? = some o
theorem Listed.set {L : Array Bool} (h : Listed ops L) {j : Nat} (hj : j ∈ Region.ready .any ops L) : Listed ops (L.setIfInBounds j true) := by
  refine ⟨h.down.set hj, fun k hk => ?_⟩
  by_cases hkj : k = j
  · subst hkj
    obtain ⟨_, o, ho, _⟩ := mem_ready.1 hj
    exact ⟨o, ho⟩
  · have : (L.setIfInBounds j true).getD k false = L.getD k false := getD_set_ne false (Ne.symm hkj)
    exact h.there k (this ▸ hk)
theorem Listed.none (n : Nat) : Listed ops (Array.replicate n false) := by
  refine ⟨down_none n, fun k h => ?_⟩
  rw [Array.getD_eq_getD_getElem?, Array.getElem?_replicate] at h
  split at h <;> cases h
theorem anyS_first {D : World → Prop} {m : Nat} {Q : Act → World → Prop} {i : Nat} {oi : Oper} {v : Value} (hd : domOkS ops m = true) (hiz : i < m) (hi : ops[i]? = some oi) (hsel : ∀ (j : Nat) (o : Oper) cs b, ops[j]? = some o → o.op ≠ .select cs b) :
    ∀ (fuel : Nat) (listed : Array Bool) (a : Act) (w : World), D w → Listed ops listed →
      (∀ j oj, ops[j]? = some oj → j ≠ i → listed.getD j true = false → (∀ e ∈ oj.after, Region.binds .any e = true → e.on ≠ i) → oi.apart ops oj = true) →
      i ∈ Region.ready .any ops listed → YieldsD P ops D oi v a →
      anyS P ops D m Q fuel (listed.setIfInBounds i true) (a.put oi.dst v) w → anyS P ops D m Q (fuel + 1) listed a w := by
  intro fuel
  induction fuel with
  | zero =>
    intro listed a w hDw _ _ hr hy H
    refine ⟨fun h => (by rw [h] at hr; cases hr), fun j hj => ?_⟩
    by_cases hji : j = i
    · subst hji; exact hy.wpOp hi hDw ⟨.inr hDw, H⟩
    · have := ready_mono hj hji
      rw [H.1] at this
      cases this
  | succ fuel ih =>
    intro listed a w hDw hdn hfree hr hy H
    refine ⟨fun h => (by rw [h] at hr; cases hr), fun j hj => ?_⟩
    by_cases hji : j = i
    · subst hji; exact hy.wpOp hi hDw ⟨.inr hDw, H⟩
    · have hjz : ¬ m ≤ j := fun h => by
        have h2 : Due ops listed j := (mem_ready.1 hj).2
        have h1 := domS_all hd hdn.down (h2.down hd hdn.down hdn.there j h) _ i rfl hiz
        have h0 := getD_ff (mem_ready.1 hr).1
        rw [h1] at h0
        cases h0
      have h1 := H.2 j (ready_mono hj hji)
      obtain ⟨hjun, oj, hoj, hall⟩ := mem_ready.1 hj
      have hnot : ∀ e ∈ oj.after, Region.binds .any e = true → e.on ≠ i := fun e he hb heq => by
        have h1 := hall e he hb
        have h0 := (mem_ready.1 hr).1
        rw [heq] at h1
        rw [getD_ff h0] at h1
        cases h1
      have h2 := wpOp_putD hoj (hfree j oj hoj hji hjun hnot) (fun cs b => hsel i oi cs b hi) (fun cs b => hsel j oj cs b hoj) hy h1
      have hfree' : ∀ k ok, ops[k]? = some ok → k ≠ i → (listed.setIfInBounds j true).getD k true = false →
          (∀ e ∈ ok.after, Region.binds .any e = true → e.on ≠ i) → oi.apart ops ok = true := fun k ok hk hki hun hno => by
        refine hfree k ok hk hki ?_ hno
        by_cases hjk : j = k
        · subst hjk; exact hjun
        · rw [getD_set_ne true hjk] at hun; exact hun
      refine wpOp_mono (fun a' w' h3 => ?_) h2
      have hDw' : D w' := h3.2.1.resolve_left hjz
      refine ⟨.inr hDw', ih (listed.setIfInBounds j true) a' w' hDw' (hdn.set hj) hfree' (ready_mono hr (Ne.symm hji)) h3.1 ?_⟩
      rw [Array.setIfInBounds_comm _ _ hji]
      exact h3.2.2
def planOkS (ops : Array Oper) (m : Nat) (k2 : Plan) : Nat → Array Bool → Plan → Bool
  | n, listed, .nil => headIn m listed && planOk ops n listed k2
  | n + 1, listed, .q i k => Nat.blt i m && Region.free .any ops listed i && (Region.ready .any ops listed).contains i && planOkS ops m k2 n (listed.setIfInBounds i true) k
  | n + 1, listed, .e i k => (Region.ready .any ops listed == [i]) && planOkS ops m k2 n (listed.setIfInBounds i true) k
  | n + 1, listed, .two i j k h => (Region.ready .any ops listed == [i, j]) && planOkS ops m k2 n (listed.setIfInBounds i true) k && planOkS ops m k2 n (listed.setIfInBounds j true) h
  | 0, _, _ => false
/-- What is to be shown ahead of a region's other part. -/
def RestOf (P : Program) (ops : Array Oper) (k2 : Plan) (Q : Exit → Act → World → Prop) : Exit → Act → World → Prop := fun _ a w => ∃ D : World → Prop, D w ∧ planW P ops (Q .normal) k2 D a w
theorem planW.anyS {Q : Exit → Act → World → Prop} {m : Nat} {k2 : Plan} (hs : Region.noSelect ops = true) (hd : domOkS ops m = true) : ∀ (n : Nat) (ix : Plan) (D : World → Prop) (listed : Array Bool) (a : Act) (w : World), planOkS ops m k2 n listed ix = true → D w → Listed ops listed →
    planW P ops (RestOf P ops k2 Q .normal) ix D a w → Proofs.Ytoifikgnbblbgaa.anyS P ops D m (Q .normal) n listed a w
  | n, .nil, D, listed, a, w, hok, hD, hdn, ⟨D2, h1, h2⟩ => by
    unfold planOkS at hok
    simp only [Bool.and_eq_true] at hok
    exact anyD.toS _ _ _ _ hok.1 (planW.anyD hs n k2 D2 _ _ _ hok.2 h1 h2)
  | n + 1, .q i ix, D, listed, a, w, hok, hD, hdn, ⟨o, v, hi, hy, h⟩ => by
    simp only [planOkS, Bool.and_eq_true, Nat.blt_eq] at hok
    have hrd : i ∈ Region.ready .any ops listed := by simpa using hok.1.2
    exact anyS_first hd hok.1.1.1 hi (Region.noSelect_spec hs) n listed a w hD hdn (Region.free_spec hi hok.1.1.2) hrd hy (planW.anyS hs hd n ix D _ _ _ hok.2 hD (hdn.set hrd) h)
  | n + 1, .e i ix, D, listed, a, w, hok, hD, hdn, h => by
    simp only [planOkS, Bool.and_eq_true, beq_iff_eq] at hok
    refine ⟨fun h0 => (by rw [hok.1] at h0; cases h0), fun j hj => ?_⟩
    have hj0 := hj
    rw [hok.1] at hj
    simp only [List.mem_singleton] at hj
    subst hj
    exact wpOp_mono (fun a' w' ⟨D', hD', hw', h'⟩ => ⟨.inr (hD' _ hw'), anyS.mono hD' _ _ _ _ (planW.anyS hs hd n ix D' _ a' w' hok.2 hw' (hdn.set hj0) h')⟩) h
  | n + 1, .two i j k r, D, listed, a, w, hok, hD, hdn, h => by
    simp only [planOkS, Bool.and_eq_true, beq_iff_eq] at hok
    refine ⟨fun h0 => (by rw [hok.1.1] at h0; cases h0), fun q hq => ?_⟩
    have hq0 := hq
    rw [hok.1.1] at hq
    simp only [List.mem_cons, List.not_mem_nil, or_false] at hq
    rcases hq with rfl | rfl
    · exact wpOp_mono (fun a' w' ⟨D', hD', hw', h'⟩ => ⟨.inr (hD' _ hw'), anyS.mono hD' _ _ _ _ (planW.anyS hs hd n k D' _ a' w' hok.1.2 hw' (hdn.set hq0) h')⟩) h.1
    · exact wpOp_mono (fun a' w' ⟨D', hD', hw', h'⟩ => ⟨.inr (hD' _ hw'), anyS.mono hD' _ _ _ _ (planW.anyS hs hd n r D' _ a' w' hok.2 hw' (hdn.set hq0) h')⟩) h.2
theorem wp_region_planS {id m : Nat} {k2 : Plan} {a : Act} {w : World} {Q : Exit → Act → World → Prop} (D : World → Prop) (ix : Plan) (hm : P.follows .mixedOrders = true)
    (hok : (Region.noSelect ops && domOkS ops m && planOkS ops m k2 ops.size (Array.replicate ops.size false) ix) = true) (hD : D w.drew)
    (h : planW P ops (RestOf P ops k2 Q .normal) ix D a w.drew) : (Code.region id ops true).wp P Q a w := by
  simp only [Bool.and_eq_true] at hok
  refine wp_region_any hm ?_
  exact anyS.wpAny _ _ _ _ (planW.anyS hok.1.1 hok.1.2 _ ix D _ a _ hok.2 hD (Listed.none _) h)
end
end Go.Proofs.Ytoifikgnbblbgaa
namespace Go.Proofs.Ytoifikgnbblbgaa.A
open Go.RowKit
section
variable {P : Program} {n : Nat} {W : Wd} {σ τ : Blks} {l : Slots} {X : List Nat} {x y : Operand} {d : Option Nat} {ty t t' e : TypeId} {pos : String} {aft : Array Edge} {g : Option (Nat × Bool)} {A : Abs} {tab : List (Nat × TI)} {ops : Array Oper} {Q : Exit → Act → World → Prop} {v : Value} {xs : List (List Abs)} {s q : Nat} {a b : Int}
/-- A region that draws, in two parts: what the second part changes, the first may read. -/
theorem SC.drawS {id : Nat} (m : Nat) (X : List Nat) (ix k2 : Plan) (hm : P.follows .mixedOrders = true)
    (hok : (Region.noSelect ops && domOkS ops m && planOkS ops m k2 ops.size (Array.replicate ops.size false) ix) = true) (h : SX P ops ix X (St n W σ l) (RestOf P ops k2 Q)) : SC P (.region id ops true) (St n W σ l) Q := fun a w hs =>
  wp_region_planS (fun w' => Ext X w.drew w') ix hm hok (Ext.refl _) (h a _ hs.drew)
theorem SE.rest {k2 : Plan} (X : List Nat) (h : SX P ops k2 X (St n W σ l) Q) : SE .normal (St n W σ l) (RestOf P ops k2 Q) := fun a w hs => ⟨fun w' => Ext X w w', Ext.refl w, h a w hs⟩
theorem repss_set {K : List Nat} {w : World} {ys : List Abs} {vs : List Value} (hy : reps K w ys vs) (hv : vs.length = s) : ∀ {xs : List (List Abs)} {us : List Value} {q : Nat}, repss K w s xs us → q < xs.length → repss K w s (xs.set q ys) (us.take (q * s) ++ vs ++ us.drop (q * s + s))
  | [], _, _, _, h => by simp at h
  | c :: xs, _, 0, ⟨u1, u2, h1, h2, h3, h4⟩, _ => by
    subst h1
    refine ⟨vs, u2, ?_, hv, hy, h4⟩
    simp [← h2]
  | c :: xs, _, q + 1, ⟨u1, u2, h1, h2, h3, h4⟩, hq => by
    subst h1
    have h5 := repss_set hy hv h4 (q := q) (by simpa using hq)
    refine ⟨u1, _, ?_, h2, h3, h5⟩
    have e1 : (q + 1) * s = u1.length + q * s := by rw [Nat.succ_mul]; omega
    rw [e1, Nat.add_assoc, List.take_length_add_append, List.drop_length_add_append]
    simp
/-- An element of a row of the call's own is another one then. -/
theorem Eff.setOwn (hT : TabOk P tab) {i : TI} {ys : List Abs} (ht : ti tab t = some i) (hx : look l x = some (.v (eptr v (q * s)))) (hy : look l y = some A) (hu : Upd (own e s v xs) (own e s v (xs.set q ys)) σ τ) (hc : cellsA A = ys) (hs : Nat.beq i.size s = true) (hl : Nat.beq ys.length s = true) (hq : q < xs.length) (h1 : ones ys = true) :
    Eff P n W σ l v.ownBlock.toList ⟨d, .store t x y, ty, pos, aft, g⟩ fun u τ' => u = .v undef ∧ τ' = τ := fun ac w hst => by
  have hs := Nat.eq_of_beq_eq_true hs
  have hl := Nat.eq_of_beq_eq_true hl
  obtain ⟨us, hown, hr⟩ : (ownPc e s v xs).p _ w := hst.mem.hold _ hu.mem
  have hry := cellsA_rep (hst.eval hy)
  rw [hc] at hry
  have hlen := reps_length hry
  have hone := ones_reps hry h1
  rcases hown.2 with ⟨h, h0⟩ | ⟨gb, cap, cur, hv, hbase, hg, hn, hcap, hsz, htk⟩
  · omega
  · subst hv
    have h2 := (hT t _ ht).sizeOf (w := w)
    have hb1 : q * s + s ≤ xs.length * s := by rw [← Nat.succ_mul]; exact Nat.mul_le_mul_right _ hq
    have hb2 : xs.length * s ≤ cap * s := Nat.mul_le_mul_right _ hn
    have hrun := run_storeCells_at (P := P) gb (0 + q * s) e (cellsL (ac.eval y)) 0 cur w hg (by omega) hone
    have e0 : 0 + q * s + 0 = q * s := by omega
    rw [e0] at hrun
    have hcl : cur.toList.length = cur.size := by simp
    have hle : (cellsL (ac.eval y)).length = s := by omega
    have hxx : Ext (Value.ownBlock (.slice (some ⟨gb, 0, none⟩) xs.length cap)).toList w (w.setRow gb (cur.toList.take (q * s) ++ cellsL (ac.eval y) ++ cur.toList.drop (q * s + (cellsL (ac.eval y)).length)).toArray) := (Ext.refl w).setRow (.inl (by simp [Value.ownBlock])) _
    have hnew : (cur.toList.take (q * s) ++ cellsL (ac.eval y) ++ cur.toList.drop (q * s + (cellsL (ac.eval y)).length)).take (xs.length * s) = us.take (q * s) ++ cellsL (ac.eval y) ++ us.drop (q * s + s) := by
      rw [← htk, hle]
      apply List.ext_getElem?
      intro j
      simp only [List.getElem?_take, List.getElem?_append, List.length_append, List.length_take, List.getElem?_drop, hle]
      grind
    have hm := hst.mem.upd hu hxx own_nodup (fun k hk => .inl hk) rfl fun hca => ⟨us.take (q * s) ++ cellsL (ac.eval y) ++ us.drop (q * s + s), ⟨?_, .inr ⟨gb, cap, _, by rw [List.length_set], hbase, setRow_heap w gb cur _ e (0, 0) hg, by rw [List.length_set]; exact hn, hcap, ?_, ?_⟩⟩, repss_carry hca _ _ _ (repss_set hry (by omega) hr hq)⟩
    · refine ⟨undef, _, _, _, ⟨rfl, rfl⟩, hxx, rfl, hm.1, hm.2, .inr ⟨rfl, ?_⟩⟩
      have hcs := cellsL_eq (ac.eval y)
      have hle2 : (cellsL (ac.eval y)).length = i.size := by omega
      have hx2 : ac.eval x = .pointer (some ⟨gb, 0 + q * s, none⟩) := hst.plain hx
      simp [execOp, hx2, Instr.storeAt, Instr.sureAddr, storeVar, Sem.run_bind, hcs, h2, hle2, hrun, Result.andThen]
      first | rfl | (simp only [Nat.zero_add] at hrun; simp [hle2, hrun])
    · have h5 := hown.1
      simp only [List.length_append, List.length_take, List.length_drop, List.length_set]
      omega
    · simp only [List.size_toArray, List.length_append, List.length_take, List.length_drop]
      omega
    · rw [List.length_set]
      simpa using hnew
end
end Go.Proofs.Ytoifikgnbblbgaa.A
/-
  Sums: what the document's answer comes to, as plain functions; the same as the program's.
-/
set_option maxRecDepth 100000
set_option linter.unusedSimpArgs false
set_option linter.unusedVariables false
namespace Go.Proofs.Ytoifikgnbblbgaa.A
open Go.RowKit

def an64 (x y : Nat) : Nat := (x % 18446744073709551616) &&& (y % 18446744073709551616)
def or64 (x y : Nat) : Nat := (x % 18446744073709551616) ||| (y % 18446744073709551616)
section
variable {P : Program} {n : Nat} {W : Wd} {σ τ : Blks} {l : Slots} {X : List Nat} {x y z : Operand} {d : Option Nat} {ty t t' e : TypeId} {pos : String} {aft : Array Edge} {g : Option (Nat × Bool)} {k k' : IntKind} {a b : Int} {p q : Nat} {c : Wo}
theorem wrap64 (v : Int) : IntKind.u64.wrap v = v % 18446744073709551616 := by simp [IntKind.wrap, IntKind.bits, IntKind.signed]
theorem ofInt64 (p : Nat) : BitVec.ofInt IntKind.u64.bits ((p : Nat) : Int) = BitVec.ofNat 64 p := by
  show BitVec.ofInt 64 ((p : Nat) : Int) = _
  rw [BitVec.ofInt_natCast]
theorem Val.an64 (hx : look l x = some (.v (.int .u64 a))) (hy : look l y = some (.v (.int .u64 b))) (p q : Nat) (ha : a = (p : Nat)) (hb : b = (q : Nat)) : Val P n W σ l X ⟨d, .binOp .and t x y t', ty, pos, aft, g⟩ (wrd (an64 p q)) := by
  subst ha hb
  refine Val.bitI hx hy (fun w => ?_) rfl
  simp only [Op.intBits, ofInt64]
  refine congrArg (fun r => Result.ok (Value.int .u64 r) w) ?_
  rw [wrap64]
  have h : (BitVec.ofNat 64 p &&& BitVec.ofNat 64 q).toNat = Proofs.Ytoifikgnbblbgaa.A.an64 p q := by rw [BitVec.toNat_and, BitVec.toNat_ofNat, BitVec.toNat_ofNat]; rfl
  have h2 := (BitVec.ofNat 64 p &&& BitVec.ofNat 64 q).isLt
  show (((BitVec.ofNat 64 p &&& BitVec.ofNat 64 q).toNat : Nat) : Int) % _ = _
  rw [← h]
  omega
theorem Val.or64 (hx : look l x = some (.v (.int .u64 a))) (hy : look l y = some (.v (.int .u64 b))) (p q : Nat) (ha : a = (p : Nat)) (hb : b = (q : Nat)) : Val P n W σ l X ⟨d, .binOp .or t x y t', ty, pos, aft, g⟩ (wrd (or64 p q)) := by
  subst ha hb
  refine Val.bitI hx hy (fun w => ?_) rfl
  simp only [Op.intBits, ofInt64]
  refine congrArg (fun r => Result.ok (Value.int .u64 r) w) ?_
  rw [wrap64]
  have h : (BitVec.ofNat 64 p ||| BitVec.ofNat 64 q).toNat = Proofs.Ytoifikgnbblbgaa.A.or64 p q := by rw [BitVec.toNat_or, BitVec.toNat_ofNat, BitVec.toNat_ofNat]; rfl
  have h2 := (BitVec.ofNat 64 p ||| BitVec.ofNat 64 q).isLt
  show (((BitVec.ofNat 64 p ||| BitVec.ofNat 64 q).toNat : Nat) : Int) % _ = _
  rw [← h]
  omega
theorem Val.sum64 (hx : look l x = some (.v (.int .u64 a))) (hy : look l y = some (.v (.int .u64 b))) (p q : Nat) (ha : a = (p : Nat)) (hb : b = (q : Nat)) : Val P n W σ l X ⟨d, .binOp .add t x y t', ty, pos, aft, g⟩ (wrd ((p + q) % 18446744073709551616)) :=
  Val.to (Val.addW hx hy) (congrArg (fun r => Abs.v (.int .u64 r)) (by rw [wrap64]; subst ha hb; show _ = (((p + q) % 18446744073709551616 : Nat) : Int); omega))
theorem Val.mul64 (hx : look l x = some (.v (.int .u64 a))) (hy : look l y = some (.v (.int .u64 b))) (p q : Nat) (ha : a = (p : Nat)) (hb : b = (q : Nat)) : Val P n W σ l X ⟨d, .binOp .mul t x y t', ty, pos, aft, g⟩ (wrd (p * q % 18446744073709551616)) :=
  Val.to (Val.mulW hx hy) (congrArg (fun r => Abs.v (.int .u64 r)) (by rw [wrap64, ha, hb, ← Int.natCast_mul]; show _ = ((p * q % 18446744073709551616 : Nat) : Int); omega))
theorem Val.shr64 (hx : look l x = some (.v (.int .u64 a))) (hy : look l y = some (.v (.int k b))) (p q : Nat) (ha : a = (p : Nat)) (hb : b = (q : Nat)) (hq : q ≤ 64) : Val P n W σ l X ⟨d, .binOp .shr t x y t', ty, pos, aft, g⟩ (wrd (p / 2 ^ q)) :=
  Val.to (Val.shrI hx hy (by omega)) (congrArg (fun r => Abs.v (.int .u64 r)) (by
    subst ha hb
    simp only [IntKind.bits, Int.toNat_natCast]
    rw [Int.fdiv_eq_ediv_of_nonneg _ (by exact Int.le_of_lt (Int.pow_pos (by decide))), Nat.min_eq_left hq]
    simp))
theorem Val.shl64 (hx : look l x = some (.v (.int .u64 a))) (hy : look l y = some (.v (.int k b))) (p q : Nat) (ha : a = (p : Nat)) (hb : b = (q : Nat)) (hq : q ≤ 64) : Val P n W σ l X ⟨d, .binOp .shl t x y t', ty, pos, aft, g⟩ (wrd (p * 2 ^ q % 18446744073709551616)) :=
  Val.to (Val.shlW hx hy (by omega)) (congrArg (fun r => Abs.v (.int .u64 r)) (by
    subst ha hb
    rw [wrap64, show IntKind.u64.bits = 64 from rfl, Int.toNat_natCast, Nat.min_eq_left hq]
    simp))
theorem Val.conv6432 (hx : look l x = some (.v (.int .u64 a))) (ht : P.underlying t' = some (.int .u32)) (hs : (P.underlying t).isSome = true) (p : Nat) (ha : a = (p : Nat)) : Val P n W σ l X ⟨d, .convert t t' x, ty, pos, aft, g⟩ (u32 (BitVec.ofNat 32 p)) :=
  Val.to (Val.convW hx ht hs) (congrArg (fun r => Abs.v (.int .u32 r)) (by
    subst ha
    rw [BitVec.toNat_ofNat]
    simp [IntKind.wrap, IntKind.bits, IntKind.signed]))
theorem Val.notW (hx : look l x = some (u32 c)) : Val P n W σ l X ⟨d, .unOp .xor t x, ty, pos, aft, g⟩ (u32 (~~~c)) :=
  Val.of1 hx fun _ h A w hf _ => by
    have h1 : (Op.intBits .xor .u32 4294967295 ((c.toNat : Nat) : Int)).run P w = .ok (.int .u32 (((~~~c).toNat : Nat) : Int)) w := by
      simp only [Op.intBits, ofInt32]
      have e : (BitVec.ofInt 32 4294967295) ^^^ c = ~~~c := BitVec.allOnes_xor
      show Result.ok (Value.int .u32 (IntKind.u32.wrap (((BitVec.ofInt 32 4294967295 ^^^ c).toNat : Nat) : Int))) w = _
      rw [e, wrap32]
    have h2 : (Op.unary .xor (.int .u32 ((c.toNat : Nat) : Int))).run P w = .ok (.int .u32 (((~~~c).toNat : Nat) : Int)) w := h1
    simp only [execOp, hf.eval h, Sem.run_bind, h2, Result.andThen_ok, Sem.run_pure]
end
/-! ### Constants -/
def mulHi (x y : Nat) : Nat :=
  let w0 := an64 x 4294967295 * an64 y 4294967295 % 18446744073709551616
  let t := (x / 2 ^ 32 * an64 y 4294967295 % 18446744073709551616 + w0 / 2 ^ 32) % 18446744073709551616
  ((x / 2 ^ 32 * (y / 2 ^ 32) % 18446744073709551616 + t / 2 ^ 32) % 18446744073709551616 + (an64 t 4294967295 + an64 x 4294967295 * (y / 2 ^ 32) % 18446744073709551616) % 18446744073709551616 / 2 ^ 32) % 18446744073709551616
def gt2 (hi lo p : Nat) : Bool := Nat.blt p hi || (Nat.beq hi p && Nat.blt 0 lo)
def above (x p : Nat) (cube : Bool) : Bool :=
  match cube with
  | false => gt2 (mulHi x x) (x * x % 18446744073709551616) p
  | true => gt2 ((mulHi x x * x % 18446744073709551616 + mulHi (x * x % 18446744073709551616) x) % 18446744073709551616) (x * x % 18446744073709551616 * x % 18446744073709551616) (p * 2 ^ 32 % 18446744073709551616)
def rootN (p : Nat) (cube : Bool) : Nat → Nat
  | 0 => 0
  | j + 1 => bif Nat.blt (37 - j) 36 && !above (or64 (rootN p cube j) (1 * 2 ^ (37 - j) % 18446744073709551616)) p cube then or64 (rootN p cube j) (1 * 2 ^ (37 - j) % 18446744073709551616) else rootN p cube j
def rootW (p : Nat) (cube : Bool) : Wo := BitVec.ofNat 32 (rootN p cube 38)
def noDiv (p q : Nat) : Bool := !(Nat.ble 2 q && Nat.ble (q * q) p && Nat.beq (p % q) 0)
def primeB (p : Nat) : Bool := Nat.blt 1 p && (List.range p).all (noDiv p)
def primes (p : Nat) : List Nat := (List.range p).filter primeB
def kAt (p : Nat) : List Wo := (primes p).map fun q => rootW q true
def hAt (p : Nat) : List Wo := ((primes p).take 8).map fun q => rootW q false
set_option maxHeartbeats 4000000 in
theorem kAt_all : kAt 312 = roundsL := by decide +kernel
set_option maxHeartbeats 4000000 in
theorem hAt_all : hAt 312 = firstR.l := by decide +kernel
theorem primes_311 : (primes 311).length = 63 := by decide +kernel
theorem primes_312 : (primes 312).length = 64 := by decide +kernel
theorem primes_succ (p : Nat) : primes (p + 1) = if primeB p then primes p ++ [p] else primes p := by
  unfold primes
  rw [List.range_succ, List.filter_append]
  by_cases h : primeB p = true
  · rw [if_pos h]; simp [h]
  · rw [if_neg h]; simp [h]
theorem primes_mono {p q : Nat} (h : p ≤ q) : (primes p).length ≤ (primes q).length := by
  induction q with
  | zero => obtain rfl : p = 0 := by omega
            exact Nat.le_refl _
  | succ q ih =>
    by_cases hq : p = q + 1
    · subst hq; exact Nat.le_refl _
    · have h1 := ih (by omega)
      rw [primes_succ]
      split
      · rw [List.length_append]; omega
      · exact h1
theorem kAt_length (p : Nat) : (kAt p).length = (primes p).length := by simp [kAt]
theorem kAt_succ (p : Nat) : kAt (p + 1) = if primeB p then kAt p ++ [rootW p true] else kAt p := by
  unfold kAt
  rw [primes_succ]
  split <;> simp
theorem hAt_length (p : Nat) : (hAt p).length = min 8 (primes p).length := by simp [hAt]
theorem hAt_succ (p : Nat) : hAt (p + 1) = if primeB p ∧ (hAt p).length < 8 then hAt p ++ [rootW p false] else hAt p := by
  unfold hAt
  rw [primes_succ]
  simp only [List.length_map, List.length_take]
  by_cases h : primeB p = true
  · by_cases h8 : (primes p).length < 8
    · rw [if_pos h, if_pos ⟨h, by omega⟩, List.take_of_length_le (by rw [List.length_append]; simp; omega), List.take_of_length_le (by omega)]
      simp
    · rw [if_pos h, if_neg (by omega), List.take_append_of_le_length (by omega)]
  · rw [if_neg h, if_neg (fun h2 => h h2.1)]
/-! ### Turning -/
theorem rot_bit (x : Wo) {n i : Nat} (hn : n < 32) (hi : i < 32) : (rot x n).getLsbD i = x.getLsbD ((i + n) % 32) := by
  unfold rot
  rw [BitVec.getLsbD_or, BitVec.getLsbD_ushiftRight, BitVec.getLsbD_shiftLeft]
  by_cases h : i + n < 32
  · rw [Nat.mod_eq_of_lt h, Nat.add_comm n i]
    have : i < 32 - n := by omega
    simp [this]
  · have e : (i + n) % 32 = i - (32 - n) := by omega
    rw [e, BitVec.getLsbD_of_ge x (n + i) (by omega)]
    have : ¬ i < 32 - n := by omega
    simp [hi, this]
theorem step_eq (p : Wo) : (p >>> 1 ||| p <<< 31).toNat = p.toNat / 2 + p.toNat % 2 * 2147483648 := by
  have hp := p.isLt
  rw [BitVec.toNat_or, BitVec.toNat_ushiftRight, BitVec.toNat_shiftLeft, Nat.shiftRight_eq_div_pow, Nat.shiftLeft_eq]
  have e : p.toNat * 2 ^ 31 % 2 ^ 32 = 2 ^ 31 * (p.toNat % 2) := by omega
  rw [e, Nat.or_comm, ← Nat.two_pow_add_eq_or_of_lt (by omega)]
  omega
theorem rot_succ (x : Wo) {n : Nat} (hn : n + 1 < 32) : rot x (n + 1) = (rot x n) >>> 1 ||| (rot x n) <<< 31 := by
  apply BitVec.eq_of_getLsbD_eq
  intro i hi
  rw [rot_bit x hn hi, BitVec.getLsbD_or, BitVec.getLsbD_ushiftRight, BitVec.getLsbD_shiftLeft]
  by_cases h : i < 31
  · rw [rot_bit x (by omega) (by omega : 1 + i < 32)]
    simp [h]
    congr 1
    omega
  · obtain rfl : i = 31 := by omega
    rw [BitVec.getLsbD_of_ge _ (1 + 31) (by omega)]
    simp only [Nat.lt_irrefl, decide_false, Bool.not_false, Nat.sub_self, Bool.false_or, Bool.true_and, decide_true, hi]
    rw [rot_bit x (by omega) (by omega : 0 < 32)]
    congr 1
    omega
theorem rot_zero (x : Wo) : rot x 0 = x := by
  apply BitVec.eq_of_getLsbD_eq
  intro i hi
  rw [rot_bit x (by omega) hi, Nat.add_zero, Nat.mod_eq_of_lt hi]
theorem rot_step (x : Wo) {n : Nat} (hn : n + 1 < 32) : (((rot x n).toNat : Nat) : Int) / 2 + (((rot x n).toNat : Nat) : Int) % 2 * 2147483648 = (((rot x (n + 1)).toNat : Nat) : Int) := by
  rw [rot_succ x hn, step_eq]
  omega
/-! ### What is mixed -/
theorem choose_eq (a b c : Wo) : (a &&& b ||| ~~~a &&& c) = c ^^^ (a &&& (b ^^^ c)) := by
  apply BitVec.eq_of_getLsbD_eq
  intro i hi
  simp only [BitVec.getLsbD_or, BitVec.getLsbD_and, BitVec.getLsbD_xor, BitVec.getLsbD_not, hi, decide_true, Bool.true_and]
  cases a.getLsbD i <;> cases b.getLsbD i <;> cases c.getLsbD i <;> rfl
theorem most_eq (a b c : Wo) : (a &&& b ||| a &&& c ||| b &&& c) = (a &&& b) ^^^ (a &&& c) ^^^ (b &&& c) := by
  apply BitVec.eq_of_getLsbD_eq
  intro i hi
  simp only [BitVec.getLsbD_or, BitVec.getLsbD_and, BitVec.getLsbD_xor]
  cases a.getLsbD i <;> cases b.getLsbD i <;> cases c.getLsbD i <;> rfl
/-! ### Rows of words -/
abbrev ws (l : List Wo) : List (List Abs) := l.map fun p => [u32 p]
theorem ws_at {l : List Wo} {q : Nat} (h : q < l.length) : (ws l)[q]? = some [u32 (l.getD q 0)] := by
  simp [List.getD, h]
theorem ws_ones (l : List Wo) : ∀ c ∈ ws l, ones c = true := by
  intro c hc
  obtain ⟨b, _, rfl⟩ := List.mem_map.1 hc
  rfl
theorem ws_snoc (l : List Wo) (p : Wo) : ws l ++ [[u32 p]] = ws (l ++ [p]) := by simp
theorem grow_get (l : List Wo) (k : Nat) : ∀ (m j : Nat), k ≤ m → j < l.length + k → (grow l m).getD j 0 = (grow l k).getD j 0
  | 0, j, h, hj => by
    obtain rfl : k = 0 := by omega
    rfl
  | m + 1, j, h, hj => by
    by_cases hk : k = m + 1
    · subst hk; rfl
    · have h1 := grow_get l k m j (by omega) hj
      rw [← h1]
      show (grow l m ++ [nextW (grow l m) m]).getD j 0 = _
      simp only [List.getD_eq_getElem?_getD]
      rw [List.getElem?_append_left (by rw [grow_length]; omega)]
theorem sched_low (l : List UInt8) {z : Nat} (h : z < 16) : (sched l).getD z 0 = wordAt l z := by
  unfold sched
  rw [grow_get _ 0 48 z (by omega) (by rw [sched0_length]; omega)]
  show (sched0 l 16).getD z 0 = _
  simp [sched0, List.getD, h]
theorem sched_high (l : List UInt8) {z : Nat} (h : z < 48) : (sched l).getD (16 + z) 0 = nextW (sched l) z := by
  have hl := sched0_length l 16
  have e : ∀ j, j < 16 + z → (grow (sched0 l 16) z).getD j 0 = (sched l).getD j 0 := fun j hj => (grow_get (sched0 l 16) z 48 j (by omega) (by omega)).symm
  have h1 := grow_get (sched0 l 16) (z + 1) 48 (16 + z) (by omega) (by omega)
  show (grow (sched0 l 16) 48).getD (16 + z) 0 = _
  rw [h1]
  show (grow (sched0 l 16) z ++ [nextW (grow (sched0 l 16) z) z]).getD (16 + z) 0 = _
  rw [List.getD_eq_getElem?_getD, List.getElem?_append_right (by rw [grow_length]; omega), grow_length, hl, Nat.sub_self]
  show nextW (grow (sched0 l 16) z) z = _
  unfold nextW
  rw [e z (by omega), e (z + 1) (by omega), e (z + 9) (by omega), e (z + 14) (by omega)]
/-- A word out of four bytes. -/
theorem word_be (a b c d : UInt8) : BitVec.ofNat 32 (((a.toNat * 256 + b.toNat) * 256 + c.toNat) * 256 + d.toNat) = (BitVec.ofNat 32 a.toNat <<< 24 ||| BitVec.ofNat 32 b.toNat <<< 16 ||| BitVec.ofNat 32 c.toNat <<< 8 ||| BitVec.ofNat 32 d.toNat : Wo) := by
  have ha := a.toNat_lt
  have hb := b.toNat_lt
  have hc := c.toNat_lt
  have hd := d.toNat_lt
  apply BitVec.eq_of_toNat_eq
  simp only [BitVec.toNat_or, BitVec.toNat_shiftLeft, BitVec.toNat_ofNat, Nat.shiftLeft_eq]
  rw [show a.toNat % 2 ^ 32 * 2 ^ 24 % 2 ^ 32 = 2 ^ 24 * a.toNat by omega, show b.toNat % 2 ^ 32 * 2 ^ 16 % 2 ^ 32 = 2 ^ 16 * b.toNat by omega, show c.toNat % 2 ^ 32 * 2 ^ 8 % 2 ^ 32 = 2 ^ 8 * c.toNat by omega, show d.toNat % 2 ^ 32 = d.toNat by omega]
  rw [← Nat.two_pow_add_eq_or_of_lt (by omega : 2 ^ 16 * b.toNat < 2 ^ 24)]
  rw [show 2 ^ 24 * a.toNat + 2 ^ 16 * b.toNat = 2 ^ 16 * (256 * a.toNat + b.toNat) by omega, ← Nat.two_pow_add_eq_or_of_lt (by omega : 2 ^ 8 * c.toNat < 2 ^ 16)]
  rw [show 2 ^ 16 * (256 * a.toNat + b.toNat) + 2 ^ 8 * c.toNat = 2 ^ 8 * (256 * (256 * a.toNat + b.toNat) + c.toNat) by omega, ← Nat.two_pow_add_eq_or_of_lt (by omega : d.toNat < 2 ^ 8)]
  omega
end Go.Proofs.Ytoifikgnbblbgaa.A
/-
  The second engine: slices of arrays in blocks; bytes mixed.
-/
set_option maxRecDepth 100000
set_option linter.unusedSimpArgs false
set_option linter.unusedVariables false
namespace Go.Proofs.Ytoifikgnbblbgaa.A
open Go.RowKit
section
variable {P : Program} {n : Nat} {W : Wd} {σ τ : Blks} {l : Slots} {X : List Nat} {x y z : Operand} {d : Option Nat} {ty t t' e : TypeId} {pos : String} {aft : Array Edge} {g : Option (Nat × Bool)} {A : Abs} {tab : List (Nat × TI)} {ops : Array Oper} {Q : Exit → Act → World → Prop} {k : IntKind}
/-- An element's address in a slice of a block. -/
theorem Val.indexBs (hT : TabOk P tab) {j : TI} {b off m c q : Nat} {r : Int} (hu : P.underlying t = some (.slice e)) (hj : ti tab e = some j) (hx : look l x = some (.v (.slice (some ⟨b, off, none⟩) m c))) (hy : look l y = some (.v (.int k r))) (hr : r = (q : Nat)) (hq : q < m) :
    Val P n W σ l X ⟨d, .indexAddr t x y, ty, pos, aft, g⟩ (.v (.pointer (some ⟨b, off + q * j.size, none⟩))) := Val.mk' fun a w hs hX => by
  subst hr
  exact ⟨_, rfl, fun w' _ => Proofs.Ytoifikgnbblbgaa.Val.indexSlN hT hu hj (by rw [hs.at2 hx, hs.plain hx]) (by rw [hs.at2 hy, hs.plain hy]) hq⟩
theorem ofInt8 (c : UInt8) : BitVec.ofInt IntKind.u8.bits ((c.toNat : Nat) : Int) = c.toBitVec := by
  show BitVec.ofInt 8 ((c.toBitVec.toNat : Nat) : Int) = _
  rw [BitVec.ofInt_natCast, BitVec.ofNat_toNat, BitVec.setWidth_eq]
theorem wrap8 (p : BitVec 8) : IntKind.u8.wrap (p.toNat : Nat) = (p.toNat : Nat) := by
  have := p.isLt
  simp only [IntKind.wrap, IntKind.bits, IntKind.signed]
  simp
  omega
theorem Val.xor8 {c f : UInt8} (hx : look l x = some (.v (bc c))) (hy : look l y = some (.v (bc f))) : Val P n W σ l X ⟨d, .binOp .xor t x y t', ty, pos, aft, g⟩ (.v (bc (c ^^^ f))) :=
  Val.bitI hx hy (fun w => by
    simp only [Op.intBits, ofInt8]
    exact congrArg (fun r => Result.ok (Value.int .u8 r) w) (wrap8 (c.toBitVec ^^^ f.toBitVec))) rfl
theorem Val.or8 {c f : UInt8} (hx : look l x = some (.v (bc c))) (hy : look l y = some (.v (bc f))) : Val P n W σ l X ⟨d, .binOp .or t x y t', ty, pos, aft, g⟩ (.v (bc (c ||| f))) :=
  Val.bitI hx hy (fun w => by
    simp only [Op.intBits, ofInt8]
    exact congrArg (fun r => Result.ok (Value.int .u8 r) w) (wrap8 (c.toBitVec ||| f.toBitVec))) rfl
/-- 's[p:q]' -/
theorem Val.sliceMid (hT : TabOk P tab) {i : TI} {k' : IntKind} {p q s : Nat} {a b : Int} {xs : List (List Abs)} (hu : P.underlying t = some (.slice e)) (hi : ti tab e = some i) (hsz : Nat.beq s i.size = true) (hx : look l x = some (.sl s xs)) (hy : look l y = some (.v (.int k a))) (hz : look l z = some (.v (.int k' b))) (ha : a = (p : Nat)) (hb : b = (q : Nat)) (hpq : p ≤ q) (hq : q ≤ xs.length) :
    Val P n W σ l X ⟨d, .slice t x (some y) (some z) none, ty, pos, aft, g⟩ (.sl s ((xs.drop p).take (q - p))) := fun ac w hs _ => by
  subst ha hb
  have hsz := Nat.eq_of_beq_eq_true hsz
  subst hsz
  obtain ⟨us, h1, h2⟩ := hs.eval hx
  obtain ⟨A', c, hsh, h3, h4, h5⟩ := h1.shape
  rw [hsh] at h1
  have h6 := IsRow.tailN h1 (show p ≤ xs.length by omega) (repss_length h2)
  have h8 := IsRow.headN (s := i.size) h6 (show q - p ≤ xs.length - p by omega) (c - p) (by omega) (Nat.le_refl _) (fun hA => by
    split at hA
    · omega
    · cases A' with
      | none => have := h5 rfl; omega
      | some a => simp at hA)
  have h9 := (repss_drop h2 p (by omega)).1
  refine ⟨.slice (if c = p then A' else A'.map (·.add (p * i.size))) (q - p) (c - p), ⟨_, by rw [List.length_take, List.length_drop, Nat.min_eq_left (by omega)]; exact h8, (repss_drop h9 (q - p) (by rw [List.length_drop]; omega)).2⟩, fun w' _ => ?_⟩
  have h7 := (hT _ _ hi).sizeOf (w := w')
  have hqc : q ≤ c := by omega
  have hpc : p ≤ c := by omega
  simp [execOp, Instr.sliceAt, Instr.slice, Instr.sliceBounds, Instr.sliceBound, asIntOf, hsh, hs.plain hy, hs.plain hz, run_underlying hu, Sem.run_bind, Result.andThen, h7, hqc, hpc, hpq]
end
/-! ### Rows of words -/
theorem ws_length (l : List Wo) : (ws l).length = l.length := List.length_map _
theorem ws_take_at {l : List Wo} {q z : Nat} (h : q < z) (hz : z ≤ l.length) : (ws (l.take z))[q]? = some [u32 (l.getD q 0)] := by
  rw [ws_at (by rw [List.length_take]; omega)]
  simp [List.getD, List.getElem?_take_of_lt h]
theorem ws_take_snoc {l : List Wo} {z : Nat} {p : Wo} (h : z < l.length) (hp : l.getD z 0 = p) : ws (l.take z) ++ [[u32 p]] = ws (l.take (z + 1)) := by
  rw [ws_snoc, ← hp, List.take_add_one, List.getElem?_eq_getElem h]
  simp [List.getD, h]
theorem add_getD (r s : R8) {y : Nat} (h : y < 8) : r.l.getD y 0 + s.l.getD y 0 = (r.add s).l.getD y 0 := by
  rcases y with _ | _ | _ | _ | _ | _ | _ | _ | y
  · rfl
  · rfl
  · rfl
  · rfl
  · rfl
  · rfl
  · rfl
  · rfl
  · omega
/-- A word's four bytes. -/
def be4 (p : Wo) : List UInt8 := beBytes p.toNat 4
def be32 (l : List Wo) : List UInt8 := l.flatMap be4
theorem be32_snoc (l : List Wo) (p : Wo) : be32 l ++ be4 p = be32 (l ++ [p]) := by simp [be32]
theorem be4_length (p : Wo) : (be4 p).length = 4 := beBytes_length _ _
theorem be32_length (l : List Wo) : (be32 l).length = 4 * l.length := by
  induction l with
  | nil => rfl
  | cons p l ih =>
    show (be4 p ++ be32 l).length = _
    rw [List.length_append, be4_length, ih, List.length_cons]
    omega
theorem be4_get (p : Wo) {j : Nat} (h : j < 4) : (be4 p)[j]? = some (UInt8.ofNat (p >>> (24 - 8 * j)).toNat) := by
  unfold be4
  rw [beBytes_getElem _ _ _ h, BitVec.toNat_ushiftRight, Nat.shiftRight_eq_div_pow]
  congr 3
  rcases j with _ | _ | _ | _ | j
  · rfl
  · rfl
  · rfl
  · rfl
  · omega
theorem be32_get : ∀ (l : List Wo) {q j : Nat}, q < l.length → j < 4 → (be32 l)[4 * q + j]? = some (UInt8.ofNat (l.getD q 0 >>> (24 - 8 * j)).toNat)
  | [], q, j, h, _ => by simp at h
  | p :: l, 0, j, _, hj => by
    show (be4 p ++ be32 l)[4 * 0 + j]? = _
    rw [Nat.mul_zero, Nat.zero_add, List.getElem?_append_left (by rw [be4_length]; exact hj), be4_get p hj]
    rfl
  | p :: l, q + 1, j, h, hj => by
    show (be4 p ++ be32 l)[4 * (q + 1) + j]? = _
    rw [List.getElem?_append_right (by rw [be4_length]; omega), be4_length, show 4 * (q + 1) + j - 4 = 4 * q + j by omega, be32_get l (by simpa using h) hj]
    rfl
theorem be32_at {l : List Wo} {y : Nat} (h : y < 4 * l.length) : (be32 l)[y]? = some (byteAt l y) := by
  have := be32_get l (q := y / 4) (j := y % 4) (by omega) (by omega)
  rw [show 4 * (y / 4) + y % 4 = y by omega] at this
  exact this
theorem be32_take {l : List Wo} {z : Nat} (h : z < l.length) : be32 (l.take z) ++ be4 (l.getD z 0) = be32 (l.take (z + 1)) := by
  rw [be32_snoc, List.take_add_one, List.getElem?_eq_getElem h]
  simp [List.getD, h]
/-- Four bytes as a word. -/
theorem word_four {l : List UInt8} {z : Nat} (h : 4 * z + 4 ≤ l.length) : BitVec.ofNat 32 (beVal ((l.drop (4 * z)).take 4)) = wordAt l z := by
  have e : (l.drop (4 * z)).take 4 = [l.getD (4 * z + 0) 0, l.getD (4 * z + 1) 0, l.getD (4 * z + 2) 0, l.getD (4 * z + 3) 0] := by
    apply List.ext_getElem?
    intro j
    by_cases hj : j < 4
    · rw [List.getElem?_take_of_lt hj, List.getElem?_drop, List.getElem?_eq_getElem (by omega)]
      rcases j with _ | _ | _ | _ | j
      · simp [List.getD, show 4 * z < l.length by omega]
      · simp [List.getD, show 4 * z + 1 < l.length by omega]
      · simp [List.getD, show 4 * z + 2 < l.length by omega]
      · simp [List.getD, show 4 * z + 3 < l.length by omega]
      · omega
    · rw [List.getElem?_eq_none (by rw [List.length_take]; omega), List.getElem?_eq_none (by simp; omega)]
  rw [e]
  show BitVec.ofNat 32 ((((0 * 256 + (l.getD (4 * z + 0) 0).toNat) * 256 + (l.getD (4 * z + 1) 0).toNat) * 256 + (l.getD (4 * z + 2) 0).toNat) * 256 + (l.getD (4 * z + 3) 0).toNat) = _
  rw [Nat.zero_mul, Nat.zero_add, word_be]
  rfl
end Go.Proofs.Ytoifikgnbblbgaa.A
/-
  The second engine: rows of the call's own, cut; 'clear'.
-/
set_option maxRecDepth 100000
set_option linter.unusedSimpArgs false
set_option linter.unusedVariables false
namespace Go.Proofs.Ytoifikgnbblbgaa.A
open Go.RowKit

/-- The first q elements of a row. -/
def cutTo : Value → Nat → Value
  | .slice a _ c, q => .slice a q c
  | v, _ => v
/-- The elements from q on, of one cell each. -/
def cutFrom : Value → Nat → Value
  | .slice (some ⟨b, off, _⟩) n c, q => .slice (some ⟨b, off + q, none⟩) (n - q) (c - q)
  | v, _ => v
theorem cutTo_block (v : Value) (q : Nat) : (cutTo v q).ownBlock = v.ownBlock := by
  unfold cutTo
  split
  · next a n c => cases a <;> rfl
  · rfl
section
variable {P : Program} {n : Nat} {W : Wd} {σ τ : Blks} {l : Slots} {X : List Nat} {x y z : Operand} {d : Option Nat} {ty t e e' : TypeId} {pos : String} {aft : Array Edge} {g : Option (Nat × Bool)} {v u : Value} {k : IntKind} {tab : List (Nat × TI)} {xs ys : List (List Abs)} {s q : Nat} {ops : Array Oper} {rest : List Oper} {Q : Exit → Act → World → Prop}
/-- 's[q:]' of a row of one's own. -/
theorem Val.sliceOwnLo (hT : TabOk P tab) {j : TI} (hu : P.underlying t = some (.slice e)) (hj : ti tab e = some j) (h1 : Nat.beq j.size 1 = true) (hx : look l x = some (.v v)) (hb : isOwn σ e' 1 v xs) {r : Int} (hy : look l y = some (.v (.int k r))) (hr : r = (q : Nat)) (hq : q < xs.length) :
    Val P n W σ l X ⟨d, .slice t x (some y) none none, ty, pos, aft, g⟩ (.v (cutFrom v q)) := fun a w hs _ => by
  subst hr
  have h1 := Nat.eq_of_beq_eq_true h1
  obtain ⟨us, hr1, hr2⟩ := hs.mem.ownR hb
  obtain ⟨b, off, c, hv, _⟩ := own_at hr1 hr2 (by omega) (List.getElem?_eq_getElem hq)
  obtain ⟨A', c', hsh, h3, _⟩ := hr1.shape
  have hc : c = c' := by
    have := hv.symm.trans hsh
    injection this
  subst hc
  refine ⟨_, rfl, fun w' _ => ?_⟩
  have h7 := (hT _ _ hj).sizeOf (w := w')
  have e1 : a.eval x = .slice (some ⟨b, off, none⟩) xs.length c := (hs.plain hx).trans hv
  have e2 : a.eval y = .int k ((q : Nat) : Int) := hs.plain hy
  rw [hv]
  have hne : ¬ c = q := by omega
  simp [execOp, Instr.sliceAt, Instr.slice, Instr.sliceBounds, Instr.sliceBound, asIntOf, e1, e2, run_underlying hu, Sem.run_bind, Result.andThen, h7, h1, hne, Nat.le_of_lt hq, Addr.add, cutFrom]
/-- 's[:q]' of a row of one's own. -/
theorem Val.sliceOwnHi (hT : TabOk P tab) {j : TI} (hu : P.underlying t = some (.slice e)) (hj : ti tab e = some j) (hx : look l x = some (.v v)) (hb : isOwn σ e' s v xs) {r : Int} (hy : look l y = some (.v (.int k r))) (hr : r = (q : Nat)) (hq : q ≤ xs.length) :
    Val P n W σ l X ⟨d, .slice t x none (some y) none, ty, pos, aft, g⟩ (.v (cutTo v q)) := fun a w hs _ => by
  subst hr
  obtain ⟨us, hr1, hr2⟩ := hs.mem.ownR hb
  obtain ⟨A', c, hsh, h3, _⟩ := hr1.shape
  refine ⟨_, rfl, fun w' _ => ?_⟩
  have h7 := (hT _ _ hj).sizeOf (w := w')
  have e1 : a.eval x = .slice A' xs.length c := (hs.plain hx).trans hsh
  have e2 : a.eval y = .int k ((q : Nat) : Int) := hs.plain hy
  rw [hsh]
  have hqc : q ≤ c := by omega
  simp [execOp, Instr.sliceAt, Instr.slice, Instr.sliceBounds, Instr.sliceBound, asIntOf, e1, e2, run_underlying hu, Sem.run_bind, Result.andThen, h7, hqc, Addr.add, cutTo]
  try (cases A' <;> simp)
/-- A row of the call's own, cut: the rest is let go. -/
theorem St.cutOwn {a : Act} {w : World} (h : St n W σ l a w) (hu : Upd (own e s v xs) (own e s (cutTo v q) (xs.take q)) σ τ) (hq : q ≤ xs.length) : St n W τ l a w := by
  obtain ⟨us, hown, hr⟩ : (ownPc e s v xs).p _ w := h.mem.hold _ hu.mem
  have hm := h.mem.upd hu (Ext.refl w) own_nodup (fun k hk => .inl (by simpa [It.mids, ownPc, cutTo_block] using hk)) rfl fun hc => by
    refine ⟨us.take (q * s), ⟨?_, ?_⟩, repss_carry hc s _ _ (repss_drop hr q hq).2⟩
    · rw [List.length_take, List.length_take, hown.1, Nat.min_eq_left hq, Nat.min_eq_left (Nat.mul_le_mul_right _ hq)]
    · rcases hown.2 with ⟨rfl, h0⟩ | ⟨gb, cap, cur, rfl, hbase, hg, hn, hcap, hsz, htk⟩
      · refine .inl ⟨?_, ?_⟩
        · have : q = 0 := by omega
          rw [this]; rfl
        · rw [List.length_take]; omega
      · refine .inr ⟨gb, cap, cur, ?_, hbase, hg, by rw [List.length_take]; omega, hcap, hsz, ?_⟩
        · rw [List.length_take, Nat.min_eq_left hq]; rfl
        · rw [List.length_take, Nat.min_eq_left hq, ← htk, List.take_take, Nat.min_eq_left (Nat.mul_le_mul_right _ hq)]
  exact h.to hm.1 hm.2
theorem SL.cutOwn (hy : xs.take q = ys) (hu : Upd (own e s v xs) (own e s (cutTo v q) ys) σ τ) (hq : q ≤ xs.length) (k : SL P ops rest (St n W τ l) Q) : SL P ops rest (St n W σ l) Q := by subst hy; exact fun a w h => k a w (h.cutOwn hu hq)
theorem repss_rep {K : List Nat} {w : World} {z : Value} : ∀ m : Nat, repss K w 1 (List.replicate m [.v z]) (List.replicate m z)
  | 0 => rfl
  | m + 1 => ⟨[z], List.replicate m z, rfl, rfl, ⟨z, [], rfl, rfl, rfl⟩, repss_rep m⟩
/-- 'clear(s[q:])'. -/
theorem Eff.clearOwn {z : Value} (hu : P.underlying t = some (.slice e')) (hz : ∀ w, (zeroValue e').run P w = .ok z w) (hc : z.cells = #[z]) (h1 : z.oneCell' = true) (hx : look l x = some (.v (cutFrom v q))) (hq : q < xs.length) (hup : Upd (own e 1 v xs) (own e 1 v (xs.take q ++ List.replicate (xs.length - q) [.v z])) σ τ) :
    Eff P n W σ l v.ownBlock.toList ⟨d, .call { callee := .builtin .clear, args := #[x], argTypes := #[t] }, ty, pos, aft, g⟩ fun u τ' => u = .tup [] ∧ τ' = τ := fun ac w hst => by
  obtain ⟨us, hown, hr⟩ : (ownPc e 1 v xs).p _ w := hst.mem.hold _ hup.mem
  have hul := hown.1
  rw [Nat.mul_one] at hul
  rcases hown.2 with ⟨h, h0⟩ | ⟨gb, cap, cur, hv, hbase, hg, hn, hcap, hsz, htk⟩
  · omega
  · subst hv
    rw [Nat.mul_one] at hsz htk
    have hrun := run_storeCells_at (P := P) gb (0 + q) e (List.replicate (xs.length - q) z) 0 cur w hg (by rw [List.length_replicate]; omega) (fun v hv => by rw [List.eq_of_mem_replicate hv]; exact h1)
    have e0 : 0 + q + 0 = q := by omega
    rw [e0, List.length_replicate] at hrun
    have hcl : cur.toList.length = cur.size := by simp
    have hxx : Ext (Value.ownBlock (.slice (some ⟨gb, 0, none⟩) xs.length cap)).toList w (w.setRow gb (cur.toList.take q ++ List.replicate (xs.length - q) z ++ cur.toList.drop (q + (xs.length - q))).toArray) := (Ext.refl w).setRow (.inl (by simp [Value.ownBlock])) _
    have hnew : (cur.toList.take q ++ List.replicate (xs.length - q) z ++ cur.toList.drop (q + (xs.length - q))).take xs.length = us.take q ++ List.replicate (xs.length - q) z := by
      rw [← htk]
      apply List.ext_getElem?
      intro j
      simp only [List.getElem?_take, List.getElem?_append, List.length_append, List.length_take, List.getElem?_drop, List.length_replicate, List.getElem?_replicate]
      grind
    have hlen : (xs.take q ++ List.replicate (xs.length - q) [Abs.v z]).length = xs.length := by simp; omega
    have hm := hst.mem.upd hup hxx own_nodup (fun k hk => .inl hk) rfl fun hca => ⟨us.take q ++ List.replicate (xs.length - q) z, ⟨?_, .inr ⟨gb, cap, _, by rw [hlen], hbase, setRow_heap w gb cur _ e (0, 0) hg, by rw [hlen]; exact hn, hcap, ?_, ?_⟩⟩, repss_append (repss_carry hca 1 _ _ (by simpa using (repss_drop hr q (by omega)).2)) (repss_rep _)⟩
    · refine ⟨.tuple #[], _, _, _, ⟨rfl, rfl⟩, hxx, ⟨[], rfl, rfl⟩, hm.1, hm.2, .inl ?_⟩
      have hx2 : ac.eval x = .slice (some ⟨gb, 0 + q, none⟩) (xs.length - q) (cap - q) := hst.plain hx
      have hzc : (Builtin.zeroCells z.cells (xs.length - q)).toList = List.replicate (xs.length - q) z := by
        rw [hc]
        simp [Builtin.zeroCells]
        apply List.ext_getElem
        · simp
        · intro i h1 h2
          simp [Nat.mod_one]
      have hcl : (Builtin.clear_ #[t] ty #[.slice (some ⟨gb, 0 + q, none⟩) (xs.length - q) (cap - q)]).run P w = .ok (.tuple #[]) (w.setRow gb (cur.toList.take q ++ List.replicate (xs.length - q) z ++ cur.toList.drop (q + (xs.length - q))).toArray) := by
        obtain ⟨m, hm⟩ : ∃ m, xs.length - q = m + 1 := ⟨xs.length - q - 1, by omega⟩
        rw [hm] at hzc hrun ⊢
        simp [Builtin.clear_, run_underlying hu, hz, hzc, hrun, Sem.run_bind, Result.andThen]
        try simp_all
      rw [Nat.zero_add] at hx2 hcl
      rw [List.append_assoc] at hcl ⊢
      simp [execOp, resolve, invoke, builtin, hx2, hcl, Result.andThen]
    · simp only [List.length_append, List.length_take, List.length_replicate]
      omega
    · simp only [List.size_toArray, List.length_append, List.length_take, List.length_drop, List.length_replicate]
      omega
    · rw [hlen, Nat.mul_one]
      simpa using hnew
end
/-- Pieces that are read alone. -/
def RdAll (σ : Blks) : Prop := ∀ x ∈ σ, (∃ b t cs, x = .rd b t cs) ∨ ∃ c, x = .rdpc c
theorem RdAll.reads {σ τ : Blks} (h : RdAll τ) (hs : ∀ x ∈ τ, x ∈ σ) : Reads σ τ := by
  induction τ with
  | nil => exact .nil
  | cons x τ ih =>
    have h1 := ih (fun y hy => h y (List.mem_cons_of_mem _ hy)) (fun y hy => hs y (List.mem_cons_of_mem _ hy))
    have hx := hs x List.mem_cons_self
    rcases h x List.mem_cons_self with ⟨b, t, cs, rfl⟩ | ⟨c, rfl⟩
    · exact .rd hx h1
    · exact .rdpc hx h1
/-- A call that changes the first piece, and reads others. -/
theorem After.headR {ι : Type} {u : It} {β σ1 τ : Blks} {τ' : ι → Blks} {uy : ι → It} {K : Blks → ι → Prop} (h1 : σ1 = u :: τ) (hu : u.rids = []) (h : Reads β τ) (hτ : ∀ z, τ' z = [uy z]) (k : ∀ z, K (uy z :: β) z) : After (u :: β) σ1 τ' K := by
  subst h1
  obtain ⟨ys, h2, rfl⟩ := h.ys
  exact ⟨β, Split.one (α := []) hu h2, fun z => ⟨_, by rw [hτ z]; exact List.Perm.refl _, k z⟩⟩
end Go.Proofs.Ytoifikgnbblbgaa.A
/-
  The second engine: 'for k := range m', with entries struck in the rounds: the map and its iterator as one piece.
-/
set_option maxRecDepth 100000
set_option linter.unusedSimpArgs false
set_option linter.unusedVariables false
namespace Go.Proofs.Ytoifikgnbblbgaa.A
open Go.RowKit

/-- The map m in block b, ranged by the iterator in block r: of its entries 'rest' is still to come; 'cur' came last. -/
structure Rng {α β : Type} (w : World) (b r : Nat) (K : α → Value) (V : β → Value) (Good : α → Prop) (m rest : List (α × β)) (cur : Option (α × β)) (es : Array MapEntry) (clock since : Nat) (seen : Array Nat) (c0 : Nat) : Prop where
  hb : w.heap[b]? = some (.map es clock)
  he : es.toList.map (fun e => (e.key, e.val)) = m.map (fun p => (K p.1, V p.2))
  nd : (m.map (·.1)).Nodup
  good : ∀ p ∈ m, Good p.1
  born : ∀ e ∈ es.toList, e.born < clock
  bnd : (es.toList.map (·.born)).Nodup
  hr : w.heap[r]? = some (.mapIter (some b) since seen c0)
  old : ∀ e ∈ es.toList, e.born < since
  le : since ≤ c0
  le2 : since ≤ clock
  left : ∀ p, p ∈ rest ↔ ∃ (j : Nat) (e : MapEntry), m[j]? = some p ∧ es.toList[j]? = some e ∧ seen.contains e.born = false
  last : ∀ p, cur = some p → c0 = clock ∧ ∃ (e : MapEntry) (s' : Array Nat), e ∈ es.toList ∧ e.key = K p.1 ∧ e.val = V p.2 ∧ seen = s'.push e.born
def rngPc {α β : Type} (b r : Nat) (K : α → Value) (V : β → Value) (Good : α → Prop) (m rest : List (α × β)) (cur : Option (α × β)) : Pc where
  ids := [b, r]
  p := fun _ w => r ≠ b ∧ ∃ es clock since seen c0, Rng w b r K V Good m rest cur es clock since seen c0
  carry := fun _ _ _ _ _ hs ⟨hn, es, clock, since, seen, c0, h⟩ => ⟨hn, es, clock, since, seen, c0, { h with hb := (hs b (by simp)).trans h.hb, hr := (hs r (by simp)).trans h.hr }⟩
  lt := fun _ w ⟨_, es, clock, since, seen, c0, h⟩ k hk => by
    simp at hk
    rcases hk with rfl | rfl
    · exact heap_lt h.hb
    · exact heap_lt h.hr
theorem ex_map {w : World} {b : Nat} {o : Obj} (hb : b < w.heap.size) : Ext [b] w (Go.ChangeMaps.setBlock w b o) :=
  ⟨rfl, rfl, rfl, by simp [Go.ChangeMaps.setBlock], fun k _ hn => by
    have : b ≠ k := fun h => hn (by simp [h])
    simp [Go.ChangeMaps.setBlock, Array.getElem?_setIfInBounds_ne this]⟩
theorem sb_same {w : World} {b : Nat} {o : Obj} (hb : b < w.heap.size) : (Go.ChangeMaps.setBlock w b o).heap[b]? = some o := by
  simp [Go.ChangeMaps.setBlock, Array.getElem?_setIfInBounds_self, hb]
theorem sb_other {w : World} {b k : Nat} {o : Obj} (h : b ≠ k) : (Go.ChangeMaps.setBlock w b o).heap[k]? = w.heap[k]? := by
  simp [Go.ChangeMaps.setBlock, Array.getElem?_setIfInBounds_ne h]
section
variable {α β : Type} {w : World} {b r : Nat} {K : α → Value} {V : β → Value} {Good : α → Prop} {m rest : List (α × β)} {cur : Option (α × β)} {es : Array MapEntry} {clock since : Nat} {seen : Array Nat} {c0 : Nat}
theorem enc_len {es : List MapEntry} (h : es.map (fun e => (e.key, e.val)) = m.map (fun p => (K p.1, V p.2))) : es.length = m.length := by
  have h3 := congrArg List.length h
  simpa using h3
theorem enc_at {es : List MapEntry} (h : es.map (fun e => (e.key, e.val)) = m.map (fun p => (K p.1, V p.2))) {j : Nat} {e : MapEntry} {p : α × β} (he : es[j]? = some e) (hp : m[j]? = some p) : e.key = K p.1 ∧ e.val = V p.2 := by
  have h1 : (es.map (fun e => (e.key, e.val)))[j]? = (m.map (fun p => (K p.1, V p.2)))[j]? := by rw [h]
  rw [List.getElem?_map, List.getElem?_map, he, hp] at h1
  simpa using h1
theorem nd_at {l : List (α × β)} (h : (l.map (·.1)).Nodup) {i j : Nat} {p q : α × β} (hi : l[i]? = some p) (hj : l[j]? = some q) : p.1 = q.1 ↔ i = j := by
  have hi2 : (l.map (·.1))[i]? = some p.1 := by rw [List.getElem?_map, hi]; rfl
  have hj2 : (l.map (·.1))[j]? = some q.1 := by rw [List.getElem?_map, hj]; rfl
  constructor
  · intro e
    have hlt : i < (l.map (·.1)).length := (List.getElem?_eq_some_iff.1 hi2).1
    exact (List.getElem?_inj hlt h).1 (by rw [hi2, hj2, e])
  · rintro rfl
    rw [hi] at hj
    cases hj
    rfl
theorem bn_at {l : List MapEntry} (h : (l.map (·.born)).Nodup) {i j : Nat} {p q : MapEntry} (hi : l[i]? = some p) (hj : l[j]? = some q) : p.born = q.born ↔ i = j := by
  have hi2 : (l.map (·.born))[i]? = some p.born := by rw [List.getElem?_map, hi]; rfl
  have hj2 : (l.map (·.born))[j]? = some q.born := by rw [List.getElem?_map, hj]; rfl
  constructor
  · intro e
    have hlt : i < (l.map (·.born)).length := (List.getElem?_eq_some_iff.1 hi2).1
    exact (List.getElem?_inj hlt h).1 (by rw [hi2, hj2, e])
  · rintro rfl
    rw [hi] at hj
    cases hj
    rfl
theorem Rng.sub (h : Rng w b r K V Good m rest cur es clock since seen c0) : ∀ p ∈ rest, p ∈ m := fun p hp => by
  obtain ⟨j, e, h1, _⟩ := (h.left p).1 hp
  exact List.mem_of_getElem? h1
theorem Rng.map (h : Rng w b r K V Good m rest cur es clock since seen c0) : MapOf w b K V Good m := ⟨es, clock, h.hb, h.he, h.nd, h.good, h.born, h.bnd⟩
/-- The step. -/
theorem Rng.next [DecidableEq α] {P : Program} (hne : r ≠ b) (h : Rng w b r K V Good m rest cur es clock since seen c0) (ty : TypeId) :
    (rest = [] ∧ (Instr.next (.pointer (some ⟨r, 0, none⟩)) false ty).run P w = .ok (.tuple #[.bool false]) w) ∨
    ∃ p ∈ rest, ∃ w', (Instr.next (.pointer (some ⟨r, 0, none⟩)) false ty).run P w = .ok (.tuple #[.bool true, K p.1, V p.2]) w' ∧ Ext [b, r] w w' ∧
      ∃ seen' c0', Rng w' b r K V Good m (rest.filter fun q => decide (q.1 ≠ p.1)) (some p) es clock since seen' c0' := by
  have hmem : ∀ e, e ∈ (leftOf es seen).toList ↔ e ∈ es.toList ∧ seen.contains e.born = false := fun e => by
    unfold leftOf
    rw [Array.toList_filter, List.mem_filter]
    cases seen.contains e.born <;> simp
  rcases run_next_at (P := P) w ty r b since c0 seen es clock h.hr h.hb h.old h.le with ⟨h0, hrun⟩ | ⟨e, he, w1, hw1, hrun⟩
  · refine .inl ⟨?_, hrun⟩
    rw [List.eq_nil_iff_forall_not_mem]
    intro p hp
    obtain ⟨j, e, _, h2, h3⟩ := (h.left p).1 hp
    have h4 := (hmem e).2 ⟨List.mem_of_getElem? h2, h3⟩
    have h5 : (leftOf es seen).toList = [] := List.length_eq_zero_iff.1 (by simpa using h0)
    rw [h5] at h4
    cases h4
  · obtain ⟨h1, h2⟩ := (hmem e).1 he
    obtain ⟨j, hj⟩ := List.getElem?_of_mem h1
    have hjl : j < es.toList.length := (List.getElem?_eq_some_iff.1 hj).1
    have hjm : j < m.length := by rw [← enc_len h.he]; exact hjl
    obtain ⟨p, hp⟩ : ∃ p, m[j]? = some p := ⟨_, List.getElem?_eq_getElem hjm⟩
    obtain ⟨hk, hv⟩ := enc_at h.he hj hp
    have hheap : w1.heap = w.heap := by rcases hw1 with rfl | rfl <;> rfl
    have hx1 : Ext [] w w1 := by
      rcases hw1 with rfl | rfl
      · exact Ext.refl _
      · exact (Ext.refl _).drew
    have hrl : r < w1.heap.size := by rw [hheap]; exact heap_lt h.hr
    refine .inr ⟨p, (h.left p).2 ⟨j, e, hp, hj, h2⟩, _, by rw [← hk, ← hv]; exact hrun, ?_, _, _, ⟨?_, h.he, h.nd, h.good, h.born, h.bnd, sb_same hrl, h.old, ?_, ?_, ?_, ?_⟩⟩
    · refine ⟨(ex_map hrl).os.trans hx1.os, (ex_map hrl).tape.trans hx1.tape, (ex_map hrl).output.trans hx1.output, Nat.le_trans hx1.size (ex_map hrl).size, fun k hk2 hn => ?_⟩
      rw [(ex_map hrl).block k (by rw [hheap]; exact hk2) (fun hk3 => hn (by simp at hk3; simp [hk3])), hheap]
    · rw [sb_other hne, hheap]
      exact h.hb
    · exact h.le2
    · exact h.le2
    · intro q
      rw [List.mem_filter, h.left q, decide_eq_true_eq]
      constructor
      · rintro ⟨⟨i, e', h3, h4, h5⟩, h6⟩
        refine ⟨i, e', h3, h4, ?_⟩
        rw [Array.contains_push, h5, Bool.false_or, beq_eq_false_iff_ne]
        intro e6
        exact h6 ((nd_at h.nd h3 hp).2 ((bn_at h.bnd h4 hj).1 e6))
      · rintro ⟨i, e', h3, h4, h5⟩
        rw [Array.contains_push, Bool.or_eq_false_iff, beq_eq_false_iff_ne] at h5
        refine ⟨⟨i, e', h3, h4, h5.1⟩, fun e6 => h5.2 ?_⟩
        exact (bn_at h.bnd h4 hj).2 ((nd_at h.nd h3 hp).1 e6)
    · intro p' hp'
      cases hp'
      exact ⟨rfl, e, seen, h1, hk, hv, rfl⟩
/-- An entry struck. -/
theorem Rng.del [DecidableEq α] {P : Program} {k e t : TypeId} (hne : r ≠ b) (h : Rng w b r K V Good m rest cur es clock since seen c0) (kf : KeyFit P k K Good) (ht : P.underlying t = some (.map k e)) {a : α} (ha : Good a) (ty : TypeId) :
    ∃ w', (Builtin.delete_ #[t, k] ty #[.map (some b), K a]).run P w = .ok (.tuple #[]) w' ∧ Ext [b] w w' ∧ ∃ es', Rng w' b r K V Good (adel m a) (adel rest a) none es' clock since seen c0 := by
  obtain ⟨l, hl⟩ := kf.lit a ha
  have hbl : b < w.heap.size := heap_lt h.hb
  have hbr : b ≠ r := fun e => hne e.symm
  rcases find_run kf h.he h.good h.nd ha w with ⟨h1, h2⟩ | ⟨j, u, hj, h1, h2⟩
  · have hr0 : adel rest a = rest := by
      unfold adel
      rw [List.filter_eq_self]
      intro q hq
      simp only [decide_eq_true_eq]
      intro e
      rw [aget_none] at h1
      exact h1 (e ▸ List.mem_map.2 ⟨q, h.sub q hq, rfl⟩)
    refine ⟨Go.ChangeMaps.setBlock w b (.map es clock), ?_, ex_map hbl, es, ?_⟩
    · simp [Builtin.delete_, Sem.run_bind, run_underlying ht, Result.andThen, run_getMap h.hb, kf.keyed.check w _ hl, h2, run_setMap h.hb, Go.ChangeMaps.setBlock]
    · rw [adel_none h1, hr0]
      exact { h with hb := sb_same hbl, hr := (sb_other hbr).trans h.hr, last := fun p hp => by cases hp }
  · have em : adel m a = m.eraseIdx j := (erase_adel h.nd hj).symm
    have e1 : (es.eraseIdxIfInBounds j).toList = es.toList.eraseIdx j := by simp
    have hsub : ∀ x ∈ (es.eraseIdxIfInBounds j).toList, x ∈ es.toList := fun x hx => by
      rw [e1] at hx
      exact List.mem_of_mem_eraseIdx hx
    refine ⟨Go.ChangeMaps.setBlock w b (.map (es.eraseIdxIfInBounds j) clock), ?_, ex_map hbl, es.eraseIdxIfInBounds j, sb_same hbl, ?_, adel_nodup h.nd a, ?_, fun x hx => h.born x (hsub x hx), ?_, (sb_other hbr).trans h.hr, fun x hx => h.old x (hsub x hx), h.le, h.le2, ?_, fun p hp => by cases hp⟩
    · simp [Builtin.delete_, Sem.run_bind, run_underlying ht, Result.andThen, run_getMap h.hb, kf.keyed.check w _ hl, h2, run_setMap h.hb, Go.ChangeMaps.setBlock]
    · rw [em, e1, erase_map, h.he, ← erase_map]
    · exact fun p hp => h.good p ((List.mem_filter.1 hp).1)
    · rw [e1, erase_map]
      exact h.bnd.sublist (List.eraseIdx_sublist _ _)
    · intro q
      have hmr : q ∈ adel rest a ↔ q ∈ rest ∧ q.1 ≠ a := by unfold adel; rw [List.mem_filter, decide_eq_true_eq]
      rw [hmr, h.left q, em, e1]
      constructor
      · rintro ⟨⟨i, x, h3, h4, h5⟩, h6⟩
        have hij : i ≠ j := fun e => h6 (by rw [e, hj] at h3; cases h3; rfl)
        rcases Nat.lt_or_gt_of_ne hij with h7 | h7
        · refine ⟨i, x, ?_, ?_, h5⟩
          · rw [List.getElem?_eraseIdx, if_pos h7]; exact h3
          · rw [List.getElem?_eraseIdx, if_pos h7]; exact h4
        · obtain ⟨i', rfl⟩ : ∃ i', i = i' + 1 := ⟨i - 1, by omega⟩
          refine ⟨i', x, ?_, ?_, h5⟩
          · rw [List.getElem?_eraseIdx, if_neg (by omega)]; exact h3
          · rw [List.getElem?_eraseIdx, if_neg (by omega)]; exact h4
      · rintro ⟨i, x, h3, h4, h5⟩
        rw [List.getElem?_eraseIdx] at h3 h4
        split at h3
        · next h7 =>
          rw [if_pos h7] at h4
          exact ⟨⟨i, x, h3, h4, h5⟩, fun e => absurd ((nd_at h.nd h3 hj).1 e) (by omega)⟩
        · next h7 =>
          rw [if_neg h7] at h4
          exact ⟨⟨i + 1, x, h3, h4, h5⟩, fun e => absurd ((nd_at h.nd h3 hj).1 e) (by omega)⟩
end
section
variable {P : Program} {n : Nat} {W : Wd} {σ τ : Blks} {l : Slots} {X : List Nat} {x y z : Operand} {d : Option Nat} {ty t k e : TypeId} {pos : String} {aft : Array Edge} {g : Option (Nat × Bool)} {b r : Nat} {A B C : Abs}
variable {α β : Type} [DecidableEq α] {K : α → Value} {V : β → Value} {Good : α → Prop} {m rest : List (α × β)} {cur : Option (α × β)} {a : α} {p : α × β} {Q : Exit → Act → World → Prop}
omit [DecidableEq α] in
/-- 'range m'. -/
theorem Eff.rangeMap {τ : Nat → Blks} (ht : P.underlying t = some (.map k e)) (hx : look l x = some (mapV b)) (hu : ∀ r, Upd (.pc (mapPc b K V Good m)) (.pc (rngPc b r K V Good m m none)) σ (τ r)) :
    Eff P n W σ l [b] ⟨d, .range t x, ty, pos, aft, g⟩ fun u τ' => ∃ r : Nat, u = .v (.pointer (some ⟨r, 0, none⟩)) ∧ τ' = τ r := fun ac w hs => by
  have h1 : MapOf w b K V Good m := hs.mem.hold _ (hu 0).mem
  obtain ⟨es, clock, hb, he, hnd, hg, hborn, hbnd⟩ := h1
  have hbl := heap_lt hb
  have hne : w.heap.size ≠ b := by omega
  have hx2 : Ext [b] w (w.alloc (.mapIter (some b) clock #[] clock)) := (Ext.new w _).mono (by simp)
  have hal : ∀ k, k < w.heap.size → (w.alloc (.mapIter (some b) clock #[] clock)).heap[k]? = w.heap[k]? := fun k hk => (Ext.new w _).block k hk (by simp)
  have h4 := hs.mem.upd (hu w.heap.size) (hx2.mono (by simp [It.mids, mapPc])) (by simp [It.mids, rngPc, Ne.symm hne]) (fun k hk => by
      simp [It.mids, rngPc] at hk
      rcases hk with rfl | rfl
      · exact .inl (by simp [It.mids, mapPc])
      · exact .inr (Nat.le_refl _)) rfl (fun _ => ⟨hne, es, clock, clock, #[], clock, (hal b hbl).trans hb, he, hnd, hg, hborn, hbnd, heap_alloc_new w _, hborn, Nat.le_refl _, Nat.le_refl _, fun p => ?_, fun p hp => by cases hp⟩)
  · refine ⟨.pointer (some ⟨w.heap.size, 0, none⟩), _, _, _, ⟨_, rfl, rfl⟩, hx2, rfl, h4.1, h4.2, .inl ?_⟩
    simp [execOp, hs.plain hx, run_range_map w t k e b es clock ht hb, Sem.run_bind, Result.andThen]
  · constructor
    · intro hp
      obtain ⟨j, hj⟩ := List.getElem?_of_mem hp
      have hjl : j < es.toList.length := by rw [enc_len he]; exact (List.getElem?_eq_some_iff.1 hj).1
      exact ⟨j, _, hj, List.getElem?_eq_getElem hjl, by simp⟩
    · rintro ⟨j, e, h1, _⟩
      exact List.mem_of_getElem? h1
/-- One step of it. -/
theorem Eff.nextMap {τ : List (α × β) → Option (α × β) → Blks} (hx : look l x = some (.v (.pointer (some ⟨r, 0, none⟩)))) (hu : ∀ rest' cur', Upd (.pc (rngPc b r K V Good m rest cur)) (.pc (rngPc b r K V Good m rest' cur')) σ (τ rest' cur')) :
    Eff P n W σ l [b, r] ⟨d, .next x false, ty, pos, aft, g⟩ fun u τ' => ∃ (o : Option (α × β)) (rest' : List (α × β)), (o = none → rest = []) ∧ (∀ p, o = some p → p ∈ rest ∧ rest' = rest.filter fun q => decide (q.1 ≠ p.1)) ∧
      u = .tup (.v (.bool o.isSome) :: (match o with | none => [] | some p => [.v (K p.1), .v (V p.2)])) ∧ τ' = τ rest' o := fun ac w hs => by
  obtain ⟨hne, es, clock, since, seen, c0, h⟩ : (rngPc b r K V Good m rest cur).p _ w := hs.mem.hold _ (hu [] none).mem
  have hnd : (It.pc (rngPc b r K V Good m rest cur)).mids.Nodup := by simp [It.mids, rngPc, Ne.symm hne]
  rcases h.next (P := P) hne ty with ⟨h0, hrun⟩ | ⟨p, hp, w', hrun, hx2, seen', c0', h'⟩
  · have h4 := hs.mem.upd (hu rest none) (Ext.refl w) hnd (fun k hk => .inl hk) rfl (fun hc => (rngPc b r K V Good m rest none).carry _ _ _ _ hc (fun _ _ => rfl) ⟨hne, es, clock, since, seen, c0, { h with last := fun p hp => by cases hp }⟩)
    refine ⟨.tuple #[.bool false], w, _, _, ⟨none, rest, fun _ => h0, fun p hp => (by cases hp), rfl, rfl⟩, Ext.refl w, ⟨[.bool false], rfl, _, _, rfl, rfl, rfl⟩, h4.1, h4.2, .inl ?_⟩
    simp [execOp, hs.plain hx, hrun, Sem.run_bind, Result.andThen]
  · have h4 := hs.mem.upd (hu _ (some p)) (hx2.mono (by simp [It.mids, rngPc])) hnd (fun k hk => .inl hk) rfl (fun hc => ⟨hne, es, clock, since, seen', c0', h'⟩)
    refine ⟨.tuple #[.bool true, K p.1, V p.2], w', _, _, ⟨some p, _, fun h => (by cases h), fun q hq => (by cases hq; exact ⟨hp, rfl⟩), rfl, rfl⟩, hx2, ⟨[.bool true, K p.1, V p.2], rfl, _, _, rfl, rfl, _, _, rfl, rfl, _, _, rfl, rfl, rfl⟩, h4.1, h4.2, .inl ?_⟩
    simp [execOp, hs.plain hx, hrun, Sem.run_bind, Result.andThen]
omit [DecidableEq α] in
/-- The entry that came last. -/
theorem Val.entryMap (hx : look l x = some (.v (.pointer (some ⟨r, 0, none⟩)))) (hb : It.pc (rngPc b r K V Good m rest (some p)) ∈ σ) (hX : b ∉ X ∧ r ∉ X) : Val P n W σ l X ⟨d, .entry x, ty, pos, aft, g⟩ (.tup [.v (K p.1), .v (V p.2)]) := fun ac w hs _ => by
  obtain ⟨hne, es, clock, since, seen, c0, h⟩ : (rngPc b r K V Good m rest (some p)).p _ w := hs.mem.hold _ hb
  obtain ⟨rfl, e, s', he, hk, hv, rfl⟩ := h.last p rfl
  refine ⟨.tuple #[K p.1, V p.2], ⟨[K p.1, V p.2], rfl, _, _, rfl, rfl, _, _, rfl, rfl, rfl⟩, fun w' hw' => ?_⟩
  have h1 := run_entry_at (P := P) w' r b since s' es c0 e ((hw'.block r (heap_lt h.hr) hX.2).trans h.hr) ((hw'.block b (heap_lt h.hb) hX.1).trans h.hb) he h.bnd
  rw [hk, hv] at h1
  simp [execOp, hs.plain hx, h1, Sem.run_bind, Result.andThen]
/-- 'delete(m, k)' in the round. -/
theorem Eff.rngDel {m' rest' : List (α × β)} (kf : KeyFit P k K Good) (ht : P.underlying t = some (.map k e)) (hx : look l x = some (mapV b)) (hu : Upd (.pc (rngPc b r K V Good m rest cur)) (.pc (rngPc b r K V Good m' rest' none)) σ τ) (hy : look l y = some A) (hA : A.is (K a)) (ha : Good a) (hm : adel m a = m') (hr : adel rest a = rest') :
    Eff P n W σ l [b] ⟨d, .call { callee := .builtin .delete, args := #[x, y], argTypes := #[t, k] }, ty, pos, aft, g⟩ fun u τ' => u = .tup [] ∧ τ' = τ := fun ac w hs => by
  subst hm hr
  obtain ⟨hne, es, clock, since, seen, c0, h⟩ : (rngPc b r K V Good m rest cur).p _ w := hs.mem.hold _ hu.mem
  obtain ⟨w', hrun, hx2, es', h'⟩ := h.del hne kf ht ha ty
  have h4 := hs.mem.upd hu (hx2.mono (by simp [It.mids, rngPc])) (by simp [It.mids, rngPc, Ne.symm hne]) (fun k hk => .inl hk) rfl (fun _ => ⟨hne, es', clock, since, seen, c0, h'⟩)
  refine ⟨.tuple #[], w', _, _, ⟨rfl, rfl⟩, hx2, ⟨[], rfl, rfl⟩, h4.1, h4.2, .inl ?_⟩
  simp [execOp, resolve, invoke, builtin, hs.plain hx, hA.1 _ _ _ (hs.eval hy), hrun, Result.andThen]
omit [DecidableEq α] in
/-- The range is over. -/
theorem SC.rngDone {c : Code} (hu : Upd (.pc (rngPc b r K V Good m rest cur)) (.pc (mapPc b K V Good m)) σ τ) (q : SC P c (St n W τ l) Q) : SC P c (St n W σ l) Q := fun ac w hs => by
  obtain ⟨hne, es, clock, since, seen, c0, h⟩ : (rngPc b r K V Good m rest cur).p _ w := hs.mem.hold _ hu.mem
  have h4 := hs.mem.upd hu (Ext.refl w) (by simp [It.mids, mapPc]) (fun k hk => .inl (by simp [It.mids, mapPc, rngPc] at hk ⊢; exact .inl hk)) rfl (fun _ => h.map)
  exact q ac w (hs.to h4.1 h4.2)
theorem rest_less (h : p ∈ rest) : (rest.filter fun q => decide (q.1 ≠ p.1)).length < rest.length := List.length_filter_lt_length_iff_exists.2 ⟨p, h, by simp⟩
end
end Go.Proofs.Ytoifikgnbblbgaa.A
