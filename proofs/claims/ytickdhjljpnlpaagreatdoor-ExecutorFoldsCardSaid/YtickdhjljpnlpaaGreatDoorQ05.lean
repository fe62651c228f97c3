/-
  Packed out of the texts: A13, A22, Maps, A9, A18, A15, Sum, Doc, A14, A16, A19, TM1, LayS, TGlob, TLaw, Money.
-/
import Derived.Test.YtickdhjljpnlpaaGreatDoorQ04
import Derived.Maps.Keyed
import Derived.Maps.OwnSet
import Derived.Shelf.Strconv.ErrVarAll
import Derived.Shelf.Strconv.Itoa3
import Derived.Test.YtickdhjljpnlpaaGreatDoorProg
import Derived.Lib.AtoiTie
import Derived.Test.YtickdhjljpnlpaaGreatDoorTie
import Derived.Lay
import Derived.LaidMore
import Derived.Stop.LaidErr
import Derived.Stop.Joined
import Derived.SevenTiedAt
set_option maxRecDepth 100000
set_option linter.unusedSimpArgs false
set_option linter.unusedVariables false
namespace Go.Proofs.YtickdhjljpnlpaaGreatDoor
open Go.RowKit
section
variable {P : Program} {ops : Array Oper}
def anyS (P : Program) (ops : Array Oper) (D : World → Prop) (m : Nat) (Q : Act → World → Prop) : Nat → Array Bool → Act → World → Prop
  | 0, listed, a, w => Region.ready .any ops listed = [] ∧ Q a w
  | fuel + 1, listed, a, w => (Region.ready .any ops listed = [] → Q a w) ∧
      ∀ i ∈ Region.ready .any ops listed, wpOp P ops NoExit i (fun a' w' => (m ≤ i ∨ D w') ∧ anyS P ops D m Q fuel (listed.setIfInBounds i true) a' w') a w
theorem anyS.wpAny {D : World → Prop} {m : Nat} {Q : Exit → Act → World → Prop} : ∀ (fuel : Nat) (listed : Array Bool) (a : Act) (w : World),
    anyS P ops D m (Q .normal) fuel listed a w → wpAny P .any ops Q fuel listed a w
  | 0, _, _, _, h => h
  | fuel + 1, _, _, _, h => ⟨h.1, fun i hi => cJ_ (wpOp_mono (fun a' w' h3 => anyS.wpAny fuel _ a' w' h3.2) (h.2 i hi))⟩
theorem anyS.mono {D D' : World → Prop} {m : Nat} {Q : Act → World → Prop} (hD : ∀ w, D' w → D w) : ∀ (fuel : Nat) (listed : Array Bool) (a : Act) (w : World),
    anyS P ops D' m Q fuel listed a w → anyS P ops D m Q fuel listed a w
  | 0, _, _, _, h => h
  | fuel + 1, _, _, _, h => ⟨h.1, fun i hi => wpOp_mono (fun a' w' h3 => ⟨h3.1.imp_right (hD _), anyS.mono hD fuel _ a' w' h3.2⟩) (h.2 i hi)⟩
def headIn (m : Nat) (L : Array Bool) : Bool := (List.range m).all fun i => L.getD i false
theorem iH_ {m : Nat} {L : Array Bool} (h : headIn m L = true) (j : Nat) : headIn m (L.setIfInBounds j true) = true := by
  unfold headIn at *
  rw [List.all_eq_true] at *
  exact fun i hi => getD_set_true (h i hi)
theorem iI_ {m : Nat} {L : Array Bool} (h : headIn m L = true) {i : Nat} (hi : i < m) : L.getD i false = true := by
  unfold headIn at h
  rw [List.all_eq_true] at h
  exact h i (List.mem_range.2 hi)
theorem anyD.toS {D D2 : World → Prop} {m : Nat} {Q : Act → World → Prop} : ∀ (fuel : Nat) (listed : Array Bool) (a : Act) (w : World), headIn m listed = true →
    anyD P ops D2 Q fuel listed a w → anyS P ops D m Q fuel listed a w
  | 0, _, _, _, _, h => h
  | fuel + 1, L, _, _, hL, h => ⟨h.1, fun i hi => wpOp_mono (fun a' w' h3 => ⟨.inl (by
      rcases Nat.lt_or_ge i m with h1 | h1
      · have h2 := iI_ hL h1
        rw [eo_ (mem_ready.1 hi).1] at h2
        cases h2
      · exact h1), anyD.toS fuel _ a' w' (iH_ hL i) h3.2⟩) (h.2 i hi)⟩
def domOkS (ops : Array Oper) (m : Nat) : Bool :=
  ((List.range m).all fun i => (List.range (m + 1)).any fun j => Nat.blt i j && ((ops[j]?).map fun o => o.after.any fun e => Region.binds .any e && e.on == i).getD false) &&
  ((List.range ops.size).all fun j => Nat.ble j m || ((ops[j]?).map fun o => o.after.any fun e => Region.binds .any e && Nat.ble m e.on && Nat.blt e.on j).getD false)
theorem kb_ {m : Nat} (hd : domOkS ops m = true) {i : Nat} (hi : i < m) : ∃ j o, i < j ∧ j ≤ m ∧ ops[j]? = some o ∧ ∃ e ∈ o.after, Region.binds .any e = true ∧ e.on = i := by
  unfold domOkS at hd
  rw [Bool.and_eq_true, List.all_eq_true] at hd
  have h1 := hd.1 i (by rw [List.mem_range]; omega)
  rw [List.any_eq_true] at h1
  obtain ⟨j, hj, h2⟩ := h1
  rw [List.mem_range] at hj
  simp only [Bool.and_eq_true, Nat.blt_eq] at h2
  obtain ⟨h2, h3⟩ := h2
  cases ho : ops[j]? with
  | none => rw [ho] at h3; cases h3
  | some o =>
    rw [ho] at h3
    simp only [Option.map_some, Option.getD_some, Array.any_eq_true, Bool.and_eq_true, beq_iff_eq] at h3
    obtain ⟨x, hx, hb, hon⟩ := h3
    exact ⟨j, o, h2, by omega, ho, _, Array.getElem_mem hx, hb, hon⟩
theorem kc_ {m : Nat} (hd : domOkS ops m = true) {j : Nat} {o : Oper} (ho : ops[j]? = some o) (hj : m < j) : ∃ e ∈ o.after, Region.binds .any e = true ∧ m ≤ e.on ∧ e.on < j := by
  unfold domOkS at hd
  rw [Bool.and_eq_true, List.all_eq_true, List.all_eq_true] at hd
  have h1 := hd.2 j (by rw [List.mem_range]; exact (Array.getElem?_eq_some_iff.1 ho).1)
  rw [ho] at h1
  simp only [Option.map_some, Option.getD_some, Bool.or_eq_true, Nat.ble_eq, Array.any_eq_true, Bool.and_eq_true, Nat.blt_eq] at h1
  rcases h1 with h1 | ⟨x, hx, ⟨hb, h2⟩, h3⟩
  · omega
  · exact ⟨_, Array.getElem_mem hx, hb, h2, h3⟩
def Due (ops : Array Oper) (L : Array Bool) (j : Nat) : Prop := ∃ o, ops[j]? = some o ∧ ∀ e ∈ o.after, Region.binds .any e = true → L.getD e.on false = true
theorem Due.down {m : Nat} (hd : domOkS ops m = true) {L : Array Bool} (hL : Down ops L) (hin : ∀ k, L.getD k false = true → ∃ o, ops[k]? = some o) : ∀ j, m ≤ j → Due ops L j → Due ops L m := by
  intro j
  induction j using Nat.strongRecOn with
  | _ j ih =>
    intro hj h
    by_cases hjm : j = m
    · subst hjm; exact h
    · obtain ⟨o, ho, hall⟩ := h
      obtain ⟨e, he, hb, h1, h2⟩ := kc_ hd ho (by omega)
      have h3 := hall e he hb
      obtain ⟨o2, ho2⟩ := hin _ h3
      exact ih e.on h2 h1 ⟨o2, ho2, hL _ _ ho2 h3⟩
theorem domS_all {m : Nat} (hd : domOkS ops m = true) {L : Array Bool} (hL : Down ops L) (hz : Due ops L m) : ∀ k i, m - i = k → i < m → L.getD i false = true := by
  intro k
  induction k using Nat.strongRecOn with
  | _ k ih =>
    intro i hk hi
    obtain ⟨j, o, hij, hj, ho, e, he, hb, hon⟩ := kb_ hd hi
    subst hon
    by_cases hjz : j = m
    · subst hjz
      obtain ⟨o', ho', hall⟩ := hz
      rw [ho'] at ho
      cases ho
      exact hall e he hb
    · exact hL j o ho (ih _ (by omega) j rfl (by omega)) e he hb
structure Listed (ops : Array Oper) (L : Array Bool) : Prop where
  down : Down ops L
  there : ∀ k, L.getD k false = true → ∃ o, ops[k]? = some o
theorem Listed.set {L : Array Bool} (h : Listed ops L) {j : Nat} (hj : j ∈ Region.ready .any ops L) : Listed ops (L.setIfInBounds j true) := by
  refine ⟨h.down.set hj, fun k hk => ?_⟩
  by_cases hkj : k = j
  · subst hkj
    obtain ⟨_, o, ho, _⟩ := mem_ready.1 hj
    exact ⟨o, ho⟩
  · have : (L.setIfInBounds j true).getD k false = L.getD k false := getD_set_ne false (Ne.symm hkj)
    exact h.there k (this ▸ hk)
theorem Listed.none (n : Nat) : Listed ops (Array.replicate n false) := by
  refine ⟨ka_ n, fun k h => ?_⟩
  rw [Array.getD_eq_getD_getElem?, Array.getElem?_replicate] at h
  split at h <;> cases h
theorem iP_ {D : World → Prop} {m : Nat} {Q : Act → World → Prop} {i : Nat} {oi : Oper} {v : Value} (hd : domOkS ops m = true) (hiz : i < m) (hi : ops[i]? = some oi) (hsel : ∀ (j : Nat) (o : Oper) cs b, ops[j]? = some o → o.op ≠ .select cs b) :
    ∀ (fuel : Nat) (listed : Array Bool) (a : Act) (w : World), D w → Listed ops listed →
      (∀ j oj, ops[j]? = some oj → j ≠ i → listed.getD j true = false → (∀ e ∈ oj.after, Region.binds .any e = true → e.on ≠ i) → oi.apart ops oj = true) →
      i ∈ Region.ready .any ops listed → YieldsD P ops D oi v a →
      anyS P ops D m Q fuel (listed.setIfInBounds i true) (a.put oi.dst v) w → anyS P ops D m Q (fuel + 1) listed a w := by
  intro fuel
  induction fuel with
  | zero =>
    intro listed a w hDw _ _ hr hy H
    refine ⟨fun h => (by rw [h] at hr; cases hr), fun j hj => ?_⟩
    by_cases hji : j = i
    · subst hji; exact hy.wpOp hi hDw ⟨.inr hDw, H⟩
    · have := ready_mono hj hji
      rw [H.1] at this
      cases this
  | succ fuel ih =>
    intro listed a w hDw hdn hfree hr hy H
    refine ⟨fun h => (by rw [h] at hr; cases hr), fun j hj => ?_⟩
    by_cases hji : j = i
    · subst hji; exact hy.wpOp hi hDw ⟨.inr hDw, H⟩
    · have hjz : ¬ m ≤ j := fun h => by
        have h2 : Due ops listed j := (mem_ready.1 hj).2
        have h1 := domS_all hd hdn.down (h2.down hd hdn.down hdn.there j h) _ i rfl hiz
        have h0 := eo_ (mem_ready.1 hr).1
        rw [h1] at h0
        cases h0
      have h1 := H.2 j (ready_mono hj hji)
      obtain ⟨hjun, oj, hoj, hall⟩ := mem_ready.1 hj
      have hnot : ∀ e ∈ oj.after, Region.binds .any e = true → e.on ≠ i := fun e he hb heq => by
        have h1 := hall e he hb
        have h0 := (mem_ready.1 hr).1
        rw [heq] at h1
        rw [eo_ h0] at h1
        cases h1
      have h2 := dS_ hoj (hfree j oj hoj hji hjun hnot) (fun cs b => hsel i oi cs b hi) (fun cs b => hsel j oj cs b hoj) hy h1
      have hfree' : ∀ k ok, ops[k]? = some ok → k ≠ i → (listed.setIfInBounds j true).getD k true = false →
          (∀ e ∈ ok.after, Region.binds .any e = true → e.on ≠ i) → oi.apart ops ok = true := fun k ok hk hki hun hno => by
        refine hfree k ok hk hki ?_ hno
        by_cases hjk : j = k
        · subst hjk; exact hjun
        · rw [getD_set_ne true hjk] at hun; exact hun
      refine wpOp_mono (fun a' w' h3 => ?_) h2
      have hDw' : D w' := h3.2.1.resolve_left hjz
      refine ⟨.inr hDw', ih (listed.setIfInBounds j true) a' w' hDw' (hdn.set hj) hfree' (ready_mono hr (Ne.symm hji)) h3.1 ?_⟩
      rw [Array.setIfInBounds_comm _ _ hji]
      exact h3.2.2
def planOkS (ops : Array Oper) (m : Nat) (k2 : Plan) : Nat → Array Bool → Plan → Bool
  | n, listed, .nil => headIn m listed && planOk ops n listed k2
  | n + 1, listed, .q i k => Nat.blt i m && Region.free .any ops listed i && (Region.ready .any ops listed).contains i && planOkS ops m k2 n (listed.setIfInBounds i true) k
  | n + 1, listed, .e i k => (Region.ready .any ops listed == [i]) && planOkS ops m k2 n (listed.setIfInBounds i true) k
  | n + 1, listed, .two i j k h => (Region.ready .any ops listed == [i, j]) && planOkS ops m k2 n (listed.setIfInBounds i true) k && planOkS ops m k2 n (listed.setIfInBounds j true) h
  | 0, _, _ => false
def RestOf (P : Program) (ops : Array Oper) (k2 : Plan) (Q : Exit → Act → World → Prop) : Exit → Act → World → Prop := fun _ a w => ∃ D : World → Prop, D w ∧ planW P ops (Q .normal) k2 D a w
theorem planW.anyS {Q : Exit → Act → World → Prop} {m : Nat} {k2 : Plan} (hs : Region.noSelect ops = true) (hd : domOkS ops m = true) : ∀ (n : Nat) (ix : Plan) (D : World → Prop) (listed : Array Bool) (a : Act) (w : World), planOkS ops m k2 n listed ix = true → D w → Listed ops listed →
    planW P ops (RestOf P ops k2 Q .normal) ix D a w → Proofs.YtickdhjljpnlpaaGreatDoor.anyS P ops D m (Q .normal) n listed a w
  | n, .nil, D, listed, a, w, hok, hD, hdn, ⟨D2, h1, h2⟩ => by
    unfold planOkS at hok
    simp only [Bool.and_eq_true] at hok
    exact anyD.toS _ _ _ _ hok.1 (planW.anyD hs n k2 D2 _ _ _ hok.2 h1 h2)
  | n + 1, .q i ix, D, listed, a, w, hok, hD, hdn, ⟨o, v, hi, hy, h⟩ => by
    simp only [planOkS, Bool.and_eq_true, Nat.blt_eq] at hok
    have hrd : i ∈ Region.ready .any ops listed := by simpa using hok.1.2
    exact iP_ hd hok.1.1.1 hi (Region.noSelect_spec hs) n listed a w hD hdn (Region.free_spec hi hok.1.1.2) hrd hy (planW.anyS hs hd n ix D _ _ _ hok.2 hD (hdn.set hrd) h)
  | n + 1, .e i ix, D, listed, a, w, hok, hD, hdn, h => by
    simp only [planOkS, Bool.and_eq_true, beq_iff_eq] at hok
    refine ⟨fun h0 => (by rw [hok.1] at h0; cases h0), fun j hj => ?_⟩
    have hj0 := hj
    rw [hok.1] at hj
    simp only [List.mem_singleton] at hj
    subst hj
    exact wpOp_mono (fun a' w' ⟨D', hD', hw', h'⟩ => ⟨.inr (hD' _ hw'), anyS.mono hD' _ _ _ _ (planW.anyS hs hd n ix D' _ a' w' hok.2 hw' (hdn.set hj0) h')⟩) h
  | n + 1, .two i j k r, D, listed, a, w, hok, hD, hdn, h => by
    simp only [planOkS, Bool.and_eq_true, beq_iff_eq] at hok
    refine ⟨fun h0 => (by rw [hok.1.1] at h0; cases h0), fun q hq => ?_⟩
    have hq0 := hq
    rw [hok.1.1] at hq
    simp only [List.mem_cons, List.not_mem_nil, or_false] at hq
    rcases hq with rfl | rfl
    · exact wpOp_mono (fun a' w' ⟨D', hD', hw', h'⟩ => ⟨.inr (hD' _ hw'), anyS.mono hD' _ _ _ _ (planW.anyS hs hd n k D' _ a' w' hok.1.2 hw' (hdn.set hq0) h')⟩) h.1
    · exact wpOp_mono (fun a' w' ⟨D', hD', hw', h'⟩ => ⟨.inr (hD' _ hw'), anyS.mono hD' _ _ _ _ (planW.anyS hs hd n r D' _ a' w' hok.2 hw' (hdn.set hq0) h')⟩) h.2
theorem dR_ {id m : Nat} {k2 : Plan} {a : Act} {w : World} {Q : Exit → Act → World → Prop} (D : World → Prop) (ix : Plan) (hm : P.follows .mixedOrders = true)
    (hok : (Region.noSelect ops && domOkS ops m && planOkS ops m k2 ops.size (Array.replicate ops.size false) ix) = true) (hD : D w.drew)
    (h : planW P ops (RestOf P ops k2 Q .normal) ix D a w.drew) : (Code.region id ops true).wp P Q a w := by
  simp only [Bool.and_eq_true] at hok
  refine wp_region_any hm ?_
  exact anyS.wpAny _ _ _ _ (planW.anyS hok.1.1 hok.1.2 _ ix D _ a _ hok.2 hD (Listed.none _) h)
end
end Go.Proofs.YtickdhjljpnlpaaGreatDoor
namespace Go.Proofs.YtickdhjljpnlpaaGreatDoor.A
open Go.RowKit
section
variable {P : Program} {n : Nat} {W : Wd} {σ τ : Blks} {l : Slots} {X : List Nat} {x y : Operand} {d : Option Nat} {ty t t' e : TypeId} {pos : String} {aft : Array Edge} {g : Option (Nat × Bool)} {A : Abs} {tab : List (Nat × TI)} {ops : Array Oper} {Q : Exit → Act → World → Prop} {v : Value} {xs : List (List Abs)} {s q : Nat} {a b : Int}
theorem ij_ {id : Nat} (m : Nat) (X : List Nat) (ix k2 : Plan) (hm : P.follows .mixedOrders = true)
    (hok : (Region.noSelect ops && domOkS ops m && planOkS ops m k2 ops.size (Array.replicate ops.size false) ix) = true) (h : SX P ops ix X (St n W σ l) (RestOf P ops k2 Q)) : SC P (.region id ops true) (St n W σ l) Q := fun a w hs =>
  dR_ (fun w' => Ext X w.drew w') ix hm hok (Ext.refl _) (h a _ hs.drew)
theorem kB_ {k2 : Plan} (X : List Nat) (h : SX P ops k2 X (St n W σ l) Q) : SE .normal (St n W σ l) (RestOf P ops k2 Q) := fun a w hs => ⟨fun w' => Ext X w w', Ext.refl w, h a w hs⟩
theorem f6_ {K : List Nat} {w : World} {ys : List Abs} {vs : List Value} (hy : reps K w ys vs) (hv : vs.length = s) : ∀ {xs : List (List Abs)} {us : List Value} {q : Nat}, repss K w s xs us → q < xs.length → repss K w s (xs.set q ys) (us.take (q * s) ++ vs ++ us.drop (q * s + s))
  | [], _, _, _, h => by simp at h
  | c :: xs, _, 0, ⟨u1, u2, h1, h2, h3, h4⟩, _ => by
    subst h1
    refine ⟨vs, u2, ?_, hv, hy, h4⟩
    simp [← h2]
  | c :: xs, _, q + 1, ⟨u1, u2, h1, h2, h3, h4⟩, hq => by
    subst h1
    have h5 := f6_ hy hv h4 (q := q) (by simpa using hq)
    refine ⟨u1, _, ?_, h2, h3, h5⟩
    have e1 : (q + 1) * s = u1.length + q * s := by rw [Nat.succ_mul]; omega
    rw [e1, Nat.add_assoc, List.take_length_add_append, List.drop_length_add_append]
    simp
theorem dy_ (hT : TabOk P tab) {i : TI} {ys : List Abs} (ht : ti tab t = some i) (hx : look l x = some (.v (eptr v (q * s)))) (hy : look l y = some A) (hu : Upd (own e s v xs) (own e s v (xs.set q ys)) σ τ) (hc : cellsA A = ys) (hs : Nat.beq i.size s = true) (hl : Nat.beq ys.length s = true) (hq : q < xs.length) (h1 : ones ys = true) :
    Eff P n W σ l v.ownBlock.toList ⟨d, .store t x y, ty, pos, aft, g⟩ fun u τ' => u = .v undef ∧ τ' = τ := fun ac w hst => by
  have hs := Nat.eq_of_beq_eq_true hs
  have hl := Nat.eq_of_beq_eq_true hl
  obtain ⟨us, hown, hr⟩ : (ownPc e s v xs).p _ w := hst.mem.hold _ hu.mem
  have hry := cD_ (hst.eval hy)
  rw [hc] at hry
  have hlen := am_ hry
  have hone := bW_ hry h1
  rcases hown.2 with ⟨h, h0⟩ | ⟨gb, cap, cur, hv, hbase, hg, hn, hcap, hsz, htk⟩
  · omega
  · subst hv
    have h2 := (hT t _ ht).sizeOf (w := w)
    have hb1 : q * s + s ≤ xs.length * s := by rw [← Nat.succ_mul]; exact Nat.mul_le_mul_right _ hq
    have hb2 : xs.length * s ≤ cap * s := Nat.mul_le_mul_right _ hn
    have hrun := run_storeCells_at (P := P) gb (0 + q * s) e (cellsL (ac.eval y)) 0 cur w hg (by omega) hone
    have e0 : 0 + q * s + 0 = q * s := by omega
    rw [e0] at hrun
    have hcl : cur.toList.length = cur.size := by simp
    have hle : (cellsL (ac.eval y)).length = s := by omega
    have hxx : Ext (Value.ownBlock (.slice (some ⟨gb, 0, none⟩) xs.length cap)).toList w (w.setRow gb (cur.toList.take (q * s) ++ cellsL (ac.eval y) ++ cur.toList.drop (q * s + (cellsL (ac.eval y)).length)).toArray) := (Ext.refl w).setRow (.inl (by simp [Value.ownBlock])) _
    have hnew : (cur.toList.take (q * s) ++ cellsL (ac.eval y) ++ cur.toList.drop (q * s + (cellsL (ac.eval y)).length)).take (xs.length * s) = us.take (q * s) ++ cellsL (ac.eval y) ++ us.drop (q * s + s) := by
      rw [← htk, hle]
      apply List.ext_getElem?
      intro j
      simp only [List.getElem?_take, List.getElem?_append, List.length_append, List.length_take, List.getElem?_drop, hle]
      grind
    have hm := hst.mem.upd hu hxx a9_ (fun k hk => .inl hk) rfl fun hca => ⟨us.take (q * s) ++ cellsL (ac.eval y) ++ us.drop (q * s + s), ⟨?_, .inr ⟨gb, cap, _, by rw [List.length_set], hbase, setRow_heap w gb cur _ e (0, 0) hg, by rw [List.length_set]; exact hn, hcap, ?_, ?_⟩⟩, al_ hca _ _ _ (f6_ hry (by omega) hr hq)⟩
    · refine ⟨undef, _, _, _, ⟨rfl, rfl⟩, hxx, rfl, hm.1, hm.2, .inr ⟨rfl, ?_⟩⟩
      have hcs := cl_ (ac.eval y)
      have hle2 : (cellsL (ac.eval y)).length = i.size := by omega
      have hx2 : ac.eval x = .pointer (some ⟨gb, 0 + q * s, none⟩) := hst.plain hx
      simp [execOp, hx2, Instr.storeAt, Instr.sureAddr, storeVar, Sem.run_bind, hcs, h2, hle2, hrun, Result.andThen]
      (simp only [Nat.zero_add] at hrun; simp [hle2, hrun])
    · have h5 := hown.1
      simp only [List.length_append, List.length_take, List.length_drop, List.length_set]
      omega
    · simp only [List.size_toArray, List.length_append, List.length_take, List.length_drop]
      omega
    · rw [List.length_set]
      simpa using hnew
end
section
variable {P : Program} {n : Nat} {W : Wd} {σ τ : Blks} {l : Slots} {X : List Nat} {x y z : Operand} {d : Option Nat} {ty t : TypeId} {pos : String} {aft : Array Edge} {g : Option (Nat × Bool)} {s : ByteArray} {k k' : IntKind} {r r' : Int} {q q' b p : Nat}
theorem au_ (hu : P.underlying t = some .string) (hx : look l x = some (.v (.string s))) (hy : look l y = some (.v (.int k r))) (hr : r = (q : Nat)) (hq : q ≤ s.size) :
    Val P n W σ l X ⟨d, .slice t x (some y) none none, ty, pos, aft, g⟩ (.v (.string (s.extract q s.size))) := fun a w hs _ => by
  subst hr
  refine ⟨_, rfl, fun w' _ => ?_⟩
  simp [execOp, Instr.sliceAt, Instr.slice, Instr.sliceBounds, Instr.sliceBound, asIntOf, hs.plain hx, hs.plain hy, run_underlying hu, Sem.run_bind, Result.andThen, hq]
theorem b8_ (hu : P.underlying t = some .string) (hx : look l x = some (.v (.string s))) (hy : look l y = some (.v (.int k r))) (hr : r = (q : Nat)) (hq : q ≤ s.size) :
    Val P n W σ l X ⟨d, .slice t x none (some y) none, ty, pos, aft, g⟩ (.v (.string (s.extract 0 q))) := fun a w hs _ => by
  subst hr
  refine ⟨_, rfl, fun w' _ => ?_⟩
  simp [execOp, Instr.sliceAt, Instr.slice, Instr.sliceBounds, Instr.sliceBound, asIntOf, hs.plain hx, hs.plain hy, run_underlying hu, Sem.run_bind, Result.andThen, hq]
def iterPc (b : Nat) (s : ByteArray) (p : Nat) : Pc where
  ids := [b]
  p := fun _ w => w.heap[b]? = some (.stringIter s p)
  carry := fun _ _ _ _ _ hs h => (hs b (by simp)).trans h
  lt := fun _ _ h k hk => by simp at hk; subst hk; exact bO_ h
theorem gW_ (hx : look l x = some (.v (.string s))) (hu : P.underlying t = some .string) : Eff P n W σ l [] ⟨d, .range t x, ty, pos, aft, g⟩ fun u τ' => ∃ b, u = ptr b ∧ τ' = .pc (iterPc b s 0) :: σ := fun a w hs => by
  have hx1 : Ext [] w (w.alloc (.stringIter s 0)) := (Ext.refl w).alloc _
  have h4 := hs.mem.new (y := .pc (iterPc w.heap.size s 0)) hx1 (by simp [It.mids, iterPc]) (by simp [It.mids, iterPc]) rfl (fun _ => heap_alloc_new w _)
  refine ⟨_, _, _, _, ⟨w.heap.size, rfl, rfl⟩, hx1, rfl, h4.1, h4.2, .inl ?_⟩
  simp only [execOp, Instr.range, hs.plain hx, Sem.run_bind, Sem.run_pure, Result.andThen_ok, run_underlying hu, newObj]
  rfl
theorem hF_ (hx : look l x = some (ptr b)) (hu : Upd (.pc (iterPc b s p)) (.pc (iterPc b s (p + (Utf8.decode s p).2))) σ τ) (hp : p < s.size) :
    Eff P n W σ l [b] ⟨d, .next x true, ty, pos, aft, g⟩ fun u τ' => u = .tup [boo true, int (p : Nat), .v (.int .i32 ((Utf8.decode s p).1 : Nat))] ∧ τ' = τ := fun a w hs => by
  have hb : w.heap[b]? = some (.stringIter s p) := hs.mem.hold _ hu.mem
  have hlt := bO_ hb
  have h3 : Ext [b] w { w with heap := w.heap.setIfInBounds b (.stringIter s (p + (Utf8.decode s p).2)) } := Proofs.YtickdhjljpnlpaaGreatDoor.Ext.setObj_ w b _
  have h4 := hs.mem.upd hu (h3.mono (by simp [It.mids, iterPc])) (by simp [It.mids, iterPc]) (fun k hk => .inl hk) rfl (fun _ => by
    show (w.heap.setIfInBounds b _)[b]? = _
    simp [hlt])
  refine ⟨_, _, _, _, ⟨rfl, rfl⟩, h3, ⟨[_, _, _], rfl, _, _, rfl, rfl, _, _, rfl, rfl, _, _, rfl, rfl, rfl⟩, h4.1, h4.2, .inl ?_⟩
  simp only [execOp, Instr.next, hs.plain hx, Sem.run_bind, Sem.run_pure, Result.andThen_ok, Proofs.YtickdhjljpnlpaaGreatDoor.d3_ hb, if_pos hp, Proofs.YtickdhjljpnlpaaGreatDoor.g1_ hb, goInt]
theorem eI_ (hx : look l x = some (ptr b)) (hb : It.pc (iterPc b s p) ∈ σ) (hbX : b ∉ X) (hp : ¬ p < s.size) :
    Val P n W σ l X ⟨d, .next x true, ty, pos, aft, g⟩ (.tup [boo false]) := fun a w hs _ => by
  have h1 : w.heap[b]? = some (.stringIter s p) := hs.mem.hold _ hb
  refine ⟨.tuple #[.bool false], ⟨[_], rfl, _, _, rfl, rfl, rfl⟩, fun w' hw' => ?_⟩
  have h2 : w'.heap[b]? = some (.stringIter s p) := (hw'.block b (bO_ h1) hbX).trans h1
  simp only [execOp, Instr.next, hs.plain hx, Sem.run_bind, Sem.run_pure, Result.andThen_ok, Proofs.YtickdhjljpnlpaaGreatDoor.d3_ h2, if_neg hp]
theorem iY_ {ops : Array Oper} {rest : List Oper} {Q : Exit → Act → World → Prop} (hx : look l x = some (ptr b)) (hb : It.pc (iterPc b s p) ∈ σ) (hg : gd ops l ⟨d, .next x true, ty, pos, aft, g⟩ = some true) (hd : lt? d n = true)
    (hyes : p < s.size → ∃ τ, Upd (.pc (iterPc b s p)) (.pc (iterPc b s (p + (Utf8.decode s p).2))) σ τ ∧ SL P ops rest (St n W τ (put? l d (.tup [boo true, int (p : Nat), .v (.int .i32 ((Utf8.decode s p).1 : Nat))]))) Q)
    (hno : ¬ p < s.size → SL P ops rest (St n W σ (put? l d (.tup [boo false]))) Q) : SL P ops (⟨d, .next x true, ty, pos, aft, g⟩ :: rest) (St n W σ l) Q := by
  by_cases h : p < s.size
  · obtain ⟨τ, hu, hk⟩ := hyes h
    exact a7_ (hF_ hx hu h) hg hd (by rintro _ _ ⟨rfl, rfl⟩; exact hk)
  · exact c_ (eI_ hx hb List.not_mem_nil h) hg hd (hno h)
theorem Val.neIf {u : Value} {c : Bool} {ms : Array (String × TypeId)} {t' : TypeId} (hi : P.underlying t = some (.interface ms)) (hx : look l x = some (.v u)) (hc : (c = false ∧ u = .nilIface) ∨ (c = true ∧ ∃ tp A, u = .iface tp A)) :
    Val P n W σ l X ⟨d, .binOp .neq t x (.const .nilIface) t', ty, pos, aft, g⟩ (boo c) := fun a w hs _ => by
  refine ⟨_, rfl, fun w' _ => ?_⟩
  have h1 := hs.plain hx
  have e : a.eval (.const .nilIface) = .nilIface := rfl
  rcases hc with ⟨rfl, rfl⟩ | ⟨rfl, tp, A, rfl⟩
  · have h : ∀ d : Nat, (Op.equalIn (d + 1) t .nilIface .nilIface).run P w' = .ok true w' := fun d => by simp [Op.equalIn, run_underlying hi]
    have h3 : (binOp .neq t .nilIface .nilIface).run P w' = .ok (.bool false) w' := by
      simp only [binOp]
      simp [Op.equal, Op.maxDepth, h 9999]
    simp [execOp, h1, e, eqGuard, h3]
  · have h : ∀ d : Nat, (Op.equalIn (d + 1) t (.iface tp A) .nilIface).run P w' = .ok false w' := fun d => by simp [Op.equalIn, run_underlying hi]
    have h3 : (binOp .neq t (.iface tp A) .nilIface).run P w' = .ok (.bool true) w' := by
      simp only [binOp]
      simp [Op.equal, Op.maxDepth, h 9999]
    simp [execOp, h1, e, eqGuard, h3]
end
/-! ### Texts as rows of bytes -/
abbrev tx (s : ByteArray) : List UInt8 := s.data.toList
theorem af_ (s : ByteArray) : (tx s).length = s.size := rfl
theorem tx_lo (s : ByteArray) (q : Nat) : tx (s.extract q s.size) = (tx s).drop q := by
  unfold tx
  rw [ByteArray.data_extract, Array.toList_extract]
  rw [List.extract_eq_take_drop]
  exact List.take_of_length_le (by rw [List.length_drop]; exact Nat.le_refl _)
theorem tx_hi (s : ByteArray) (q : Nat) : tx (s.extract 0 q) = (tx s).take q := by
  unfold tx
  rw [ByteArray.data_extract, Array.toList_extract]
  rw [List.extract_eq_take_drop]
  simp
theorem dV_ {s r : ByteArray} (h : tx s = tx r) : s = r := by
  cases s; cases r
  simp [tx] at h
  simp [h]
theorem fi_ (l : List UInt8) : tx ⟨l.toArray⟩ = l := by simp [tx]
end Go.Proofs.YtickdhjljpnlpaaGreatDoor.A
namespace Go.Proofs.YtickdhjljpnlpaaGreatDoor
open Go.RowKit
section
variable {α β : Type} [DecidableEq α]
def aget (m : List (α × β)) (a : α) : Option β := (m.find? fun p => decide (p.1 = a)).map (·.2)
def aput (m : List (α × β)) (a : α) (b : β) : List (α × β) := if (aget m a).isSome then m.map fun p => if p.1 = a then (a, b) else p else m ++ [(a, b)]
def adel (m : List (α × β)) (a : α) : List (α × β) := m.filter fun p => decide (p.1 ≠ a)
theorem b7_ (m : List (α × β)) (a : α) : (aget m a).isSome = true ↔ a ∈ m.map (·.1) := by
  unfold aget
  rw [Option.isSome_map, List.find?_isSome]
  simp
theorem eB_ (m : List (α × β)) (a : α) : aget m a = none ↔ a ∉ m.map (·.1) := by
  rw [← b7_]
  cases aget m a <;> simp
theorem kq_ (m : List (α × β)) (a : α) (b : β) : (aput m a b).map (·.1) = if a ∈ m.map (·.1) then m.map (·.1) else m.map (·.1) ++ [a] := by
  unfold aput
  by_cases h : a ∈ m.map (·.1)
  · rw [if_pos ((b7_ m a).2 h), if_pos h, List.map_map]
    apply List.map_congr_left
    intro p _
    simp only [Function.comp]
    split
    · rename_i h1; exact h1.symm
    · rfl
  · rw [if_neg (fun hc => h ((b7_ m a).1 hc)), if_neg h]
    simp
theorem iN_ {m : List (α × β)} (hm : (m.map (·.1)).Nodup) (a : α) (b : β) : ((aput m a b).map (·.1)).Nodup := by
  rw [kq_]
  split
  · exact hm
  · rename_i h
    rw [List.nodup_append]
    exact ⟨hm, by simp, by intro x hx y hy; simp at hy; subst hy; rintro rfl; exact h hx⟩
theorem kt_ (m : List (α × β)) (a c : α) (b : β) : aget (aput m a b) c = if c = a then some b else aget m c := by
  unfold aput
  by_cases h : (aget m a).isSome = true
  · rw [if_pos h]
    have hmap : ∀ (m : List (α × β)), ((m.map fun p => if p.1 = a then (a, b) else p).find? fun p => decide (p.1 = c)).map (·.2) = if c = a then (if a ∈ m.map (·.1) then some b else none) else aget m c := by
      intro m
      induction m with
      | nil => simp [aget]
      | cons p m ih =>
        simp only [List.map_cons, List.find?_cons]
        by_cases hp : p.1 = a
        · rw [if_pos hp]
          by_cases hc : c = a
          · subst hc; simp [hp]
          · have hac : ¬ a = c := fun h => hc h.symm
            simp only [hac, decide_false, if_neg hc]
            rw [ih, if_neg hc]
            unfold aget
            simp [hp, hac]
        · rw [if_neg hp]
          by_cases hpc : p.1 = c
          · have hca : ¬ c = a := fun h => hp (hpc.trans h)
            simp [hpc, hca, aget]
          · simp only [hpc, decide_false]
            rw [ih]
            by_cases hca : c = a
            · subst hca
              rw [if_pos rfl, if_pos rfl]
              have : (c ∈ p.1 :: m.map (·.1)) ↔ c ∈ m.map (·.1) := by
                simp only [List.mem_cons]
                constructor
                · rintro (h1 | h1)
                  · exact absurd h1.symm hp
                  · exact h1
                · exact Or.inr
              by_cases hin : c ∈ m.map (·.1)
              · rw [if_pos hin, if_pos (this.2 hin)]
              · rw [if_neg hin, if_neg (fun hh => hin (this.1 hh))]
            · rw [if_neg hca, if_neg hca]
              unfold aget
              simp [hpc]
    have h0 := hmap m
    rw [if_pos ((b7_ m a).1 h)] at h0
    exact h0
  · rw [if_neg h]
    unfold aget
    rw [List.find?_append]
    by_cases hc : c = a
    · subst hc
      have hn : aget m c = none := by cases hg : aget m c <;> simp_all
      have hf : (m.find? fun p => decide (p.1 = c)) = none := by
        unfold aget at hn
        simpa using hn
      rw [hf]
      simp
    · have hac : ¬ a = c := fun h => hc h.symm
      simp [hac, hc]
end
structure KeyFit {α : Type} (P : Program) (k : TypeId) (K : α → Value) (Good : α → Prop) : Prop where
  keyed : Maps.Keyed P k
  lit : ∀ a, Good a → ∃ l, keyOf P k (K a) = some l
  inj : ∀ a b, Good a → Good b → K a = K b → a = b
def MapOf {α β : Type} (w : World) (b : Nat) (K : α → Value) (V : β → Value) (Good : α → Prop) (m : List (α × β)) : Prop :=
  ∃ es clock, w.heap[b]? = some (.map es clock) ∧ es.toList.map (fun e => (e.key, e.val)) = m.map (fun p => (K p.1, V p.2)) ∧ (m.map (·.1)).Nodup ∧ (∀ p ∈ m, Good p.1) ∧
    (∀ e ∈ es.toList, e.born < clock) ∧ (es.toList.map (·.born)).Nodup
section
variable {α β : Type} {P : Program} {w w' : World} {b : Nat} {k e t : TypeId} {K : α → Value} {V : β → Value} {Good : α → Prop} {m : List (α × β)}
theorem MapOf.lt (h : MapOf w b K V Good m) : b < w.heap.size := by
  obtain ⟨es, clock, hb, _⟩ := h
  rcases Nat.lt_or_ge b w.heap.size with hlt | hge
  · exact hlt
  · rw [Array.getElem?_eq_none hge] at hb; cases hb
theorem MapOf.ext {F : List Nat} (h : MapOf w b K V Good m) (hx : Ext F w w') (hb : b ∉ F) : MapOf w' b K V Good m := by
  have hl := h.lt
  obtain ⟨es, clock, h1, h2⟩ := h
  exact ⟨es, clock, (hx.block b hl hb).trans h1, h2⟩
theorem MapOf.new (w : World) : MapOf (w.alloc (.map #[] 0)) w.heap.size K V Good [] :=
  ⟨#[], 0, heap_alloc_new w _, rfl, by simp, by simp, by simp, by simp⟩
theorem MapOf.alloc (h : MapOf w b K V Good m) (o : Obj) : MapOf (w.alloc o) b K V Good m := h.ext ((Ext.refl (F := []) _).alloc _) (by simp)
theorem MapOf.nodup (h : MapOf w b K V Good m) : (m.map (·.1)).Nodup := by obtain ⟨_, _, _, _, h, _⟩ := h; exact h
variable [DecidableEq α]
end
theorem laid : laidOutB Tryz.prog = true := by kernel_rfl
def k8 (k : Int) : Nat := (k % 256).toNat
end Go.Proofs.YtickdhjljpnlpaaGreatDoor
namespace Go.Proofs.YtickdhjljpnlpaaGreatDoor.A
open Go.RowKit
theorem map_same {α β : Type} {w w' : World} {b : Nat} {K : α → Value} {V : β → Value} {Good : α → Prop} {m : List (α × β)} (h : MapOf w b K V Good m) (hb : w'.heap[b]? = w.heap[b]?) : MapOf w' b K V Good m := by
  obtain ⟨es, clock, h1, h2⟩ := h
  exact ⟨es, clock, hb.trans h1, h2⟩
def mapPc {α β : Type} (b : Nat) (K : α → Value) (V : β → Value) (Good : α → Prop) (m : List (α × β)) : Pc where
  ids := [b]
  p := fun _ w => MapOf w b K V Good m
  carry := fun _ _ _ _ _ hs h => map_same h (hs b (by simp))
  lt := fun _ _ h k hk => by simp at hk; subst hk; exact h.lt
section
variable {P : Program} {n : Nat} {W : Wd} {σ τ : Blks} {l : Slots} {X : List Nat} {x y z : Operand} {d : Option Nat} {ty t k e : TypeId} {pos : String} {aft : Array Edge} {g : Option (Nat × Bool)} {b : Nat} {A B C : Abs}
variable {α β : Type} [DecidableEq α] {K : α → Value} {V : β → Value} {Good : α → Prop} {m : List (α × β)} {a : α} {v : β} {zv : Value}
omit [DecidableEq α] in
theorem mem_map {w0 w : World} {F G : List Nat} {σ : Blks} (h : Mem w0 F G σ w) (hb : It.pc (mapPc b K V Good m) ∈ σ ∨ It.rdpc (mapPc b K V Good m) ∈ σ) : MapOf w b K V Good m := by
  rcases hb with hb | hb
  · exact h.hold _ hb
  · exact h.hold _ hb
end
def blkP (b : Nat) (t : TypeId) (cs : List Abs) : Pc where
  ids := [b]
  p := fun K w => ∃ us, w.heap[b]? = some (row t us) ∧ reps K w cs us
  carry := fun K w K' w' hc hs ⟨us, h1, h2⟩ => ⟨us, (hs b (by simp)).trans h1, aA_ hc _ _ h2⟩
  lt := fun K w ⟨us, h1, _⟩ k hk => by
    simp at hk
    subst hk
    exact bO_ h1
def bigP (l : List Pc) : Pc where
  ids := l.flatMap Pc.ids
  p := fun K w => ∀ c ∈ l, c.p K w
  carry := fun K w K' w' hc hs h c hm => c.carry K w K' w' hc (fun k hk => hs k (List.mem_flatMap.2 ⟨c, hm, hk⟩)) (h c hm)
  lt := fun K w h k hk => by
    obtain ⟨c, hm, hk⟩ := List.mem_flatMap.1 hk
    exact c.lt K w (h c hm) k hk
section
variable {w0 w : World} {F G : List Nat} {α β xs ys : Blks}
theorem Mem.regroup {zs : List Nat} (hp : (mids xs).Perm (mids ys ++ zs)) (hr : ∀ y ∈ ys, y.rids = []) (hh : ∀ K, (∀ x ∈ xs, x.holds K w) → ∀ y ∈ ys, y.holds K w) (h : Mem w0 F G (α ++ (xs ++ β)) w) :
    Mem w0 F G (α ++ (ys ++ β)) w ∧ Carry (mids (α ++ (xs ++ β)) ++ G) w (mids (α ++ (ys ++ β)) ++ G) w := by
  have hsub : ∀ k ∈ mids ys, k ∈ mids xs := fun k hk => hp.mem_iff.2 (List.mem_append_left _ hk)
  refine h.step (Y := []) (Ext.refl w) (by simp) (fun k hk => ?_) (fun x hx => ?_) ?_ fun hc x hx => ?_
  · simp only [ai_, List.mem_append] at hk ⊢
    rcases hk with hk | hk | hk
    · exact .inl (.inl hk)
    · exact .inl (.inr (.inl (hsub k hk)))
    · exact .inl (.inr (.inr hk))
  · simp only [List.mem_append] at hx
    rcases hx with hx | hx | hx
    · exact h.ro x (by simp [hx])
    · rw [hr x hx]; simp
    · exact h.ro x (by simp [hx])
  · have hn := h.nodup
    simp only [ai_] at hn ⊢
    have h2 : (mids α ++ (mids xs ++ mids β)).Perm ((mids α ++ (mids ys ++ mids β)) ++ zs) := by
      rw [List.append_assoc, List.append_assoc]
      refine List.Perm.append_left _ ?_
      refine (hp.append_right _).trans ?_
      rw [List.append_assoc]
      exact List.Perm.append_left _ List.perm_append_comm
    exact (List.nodup_append.1 (h2.nodup_iff.1 hn)).1
  · simp only [List.mem_append] at hx
    rcases hx with hx | hx | hx
    · exact h.keep (Y := []) (Ext.refl w) hc (by simp [hx]) (by simp) (by simp)
    · exact hh _ (fun z hz => h.keep (Y := []) (Ext.refl w) hc (by simp [hz]) (by simp) (by simp)) x hx
    · exact h.keep (Y := []) (Ext.refl w) hc (by simp [hx]) (by simp) (by simp)
end
section
variable {P : Program} {n : Nat} {W : Wd} {σ τ : Blks} {l : Slots} {X : List Nat} {ops : Array Oper} {rest : List Oper} {Q : Exit → Act → World → Prop} {ix : Plan} {α β xs ys : Blks}
structure Re (xs ys : Blks) : Prop where
  ids : ∃ zs : List Nat, (mids xs).Perm (mids ys ++ zs)
  rd : ∀ y ∈ ys, y.rids = []
  hh : ∀ K w, (∀ x ∈ xs, x.holds K w) → ∀ y ∈ ys, y.holds K w
theorem St.re {a : Act} {w : World} (hr : Re xs ys) (hσ : σ = α ++ (xs ++ β)) (hτ : τ = α ++ (ys ++ β)) (h : St n W σ l a w) : St n W τ l a w := by
  subst hσ hτ
  obtain ⟨zs, hz⟩ := hr.ids
  have h1 := h.mem.regroup hz hr.rd (fun K => hr.hh K w)
  exact h.to h1.1 h1.2
theorem iZ_ {c : Code} (α : Blks) {β : Blks} (hr : Re xs ys) (hσ : σ = α ++ (xs ++ β)) (k : SC P c (St n W (α ++ (ys ++ β)) l) Q) : SC P c (St n W σ l) Q := fun a w h => k a w (h.re hr hσ rfl)
theorem SL.re (α : Blks) {β : Blks} (hr : Re xs ys) (hσ : σ = α ++ (xs ++ β)) (k : SL P ops rest (St n W (α ++ (ys ++ β)) l) Q) : SL P ops rest (St n W σ l) Q := fun a w h => k a w (h.re hr hσ rfl)
theorem cF_ {ex : Exit} (α : Blks) {β : Blks} (hr : Re xs ys) (hσ : σ = α ++ (xs ++ β)) (k : SE ex (St n W (α ++ (ys ++ β)) l) Q) : SE ex (St n W σ l) Q := fun a w h => k a w (h.re hr hσ rfl)
end
theorem Re.refl {xs : Blks} (h : ∀ x ∈ xs, x.rids = []) : Re xs xs := ⟨⟨[], by simp⟩, h, fun _ _ h => h⟩
theorem Re.trans {xs ys zs : Blks} (h : Re xs ys) (k : Re ys zs) : Re xs zs where
  ids := by
    obtain ⟨a, ha⟩ := h.ids
    obtain ⟨b, hb⟩ := k.ids
    exact ⟨b ++ a, ha.trans ((hb.append_right a).trans (by rw [List.append_assoc]))⟩
  rd := k.rd
  hh := fun K w hx => k.hh K w (h.hh K w hx)
theorem Re.out {l1 l2 : List Pc} {c : Pc} : Re [.pc (bigP (l1 ++ c :: l2))] [.pc c, .pc (bigP (l1 ++ l2))] where
  ids := ⟨[], by
    simp only [mids, List.flatMap_cons, List.flatMap_nil, It.mids, bigP, List.flatMap_append, List.append_nil]
    exact List.perm_append_comm_assoc _ _ _⟩
  rd := by simp [It.rids]
  hh := fun K w h y hy => by
    have h1 : ∀ d ∈ l1 ++ c :: l2, d.p K w := h _ (List.mem_singleton.2 rfl)
    simp only [List.mem_cons, List.not_mem_nil, or_false] at hy
    rcases hy with rfl | rfl
    · exact h1 c (by simp)
    · intro d hd
      exact h1 d (by
        rcases List.mem_append.1 hd with hd | hd
        · simp [hd]
        · simp [hd])
end Go.Proofs.YtickdhjljpnlpaaGreatDoor.A
namespace Go.Proofs.YtickdhjljpnlpaaGreatDoor
open Go.RowKit
section
variable {α β : Type} [DecidableEq α] {P : Program} {w w' : World} {b : Nat} {k e t : TypeId} {K : α → Value} {V : β → Value} {Good : α → Prop} {m : List (α × β)}
theorem gQ_ {m : List (α × β)} {a : α} (h : aget m a = none) : adel m a = m := by
  unfold adel
  rw [List.filter_eq_self]
  intro q hq
  simp only [decide_eq_true_eq]
  intro e
  rw [eB_] at h
  exact h (e ▸ List.mem_map.2 ⟨q, hq, rfl⟩)
end
end Go.Proofs.YtickdhjljpnlpaaGreatDoor
namespace Go.Proofs.YtickdhjljpnlpaaGreatDoor.A
open Go.RowKit
/-! ### Keys that are ints -/
abbrev bs (l : List UInt8) : List (List Abs) := l.map fun b => [Abs.v (bc b)]
def rot (x : Wo) (n : Nat) : Wo := x >>> n ||| x <<< (32 - n)
def mixW (x : Wo) (a b c : Nat) : Wo := rot x a ^^^ rot x b ^^^ rot x c
def byW (l : List UInt8) (i : Nat) : Wo := BitVec.ofNat 32 (l.getD i 0).toNat
def wordAt (l : List UInt8) (i : Nat) : Wo := byW l (4 * i + 0) <<< 24 ||| byW l (4 * i + 1) <<< 16 ||| byW l (4 * i + 2) <<< 8 ||| byW l (4 * i + 3)
def nextW (l : List Wo) (z : Nat) : Wo := l.getD z 0 + (rot (l.getD (z + 1) 0) 7 ^^^ rot (l.getD (z + 1) 0) 18 ^^^ l.getD (z + 1) 0 >>> 3) + l.getD (z + 9) 0 + (rot (l.getD (z + 14) 0) 17 ^^^ rot (l.getD (z + 14) 0) 19 ^^^ l.getD (z + 14) 0 >>> 10)
def sched0 (l : List UInt8) (k : Nat) : List Wo := (List.range k).map (wordAt l)
def grow (l : List Wo) : Nat → List Wo
  | 0 => l
  | k + 1 => grow l k ++ [nextW (grow l k) k]
def sched (l : List UInt8) : List Wo := grow (sched0 l 16) 48
def roundsL : List Wo := [0x428a2f98#32, 0x71374491#32, 0xb5c0fbcf#32, 0xe9b5dba5#32, 0x3956c25b#32, 0x59f111f1#32, 0x923f82a4#32, 0xab1c5ed5#32, 0xd807aa98#32, 0x12835b01#32, 0x243185be#32, 0x550c7dc3#32, 0x72be5d74#32, 0x80deb1fe#32, 0x9bdc06a7#32, 0xc19bf174#32, 0xe49b69c1#32, 0xefbe4786#32, 0x0fc19dc6#32, 0x240ca1cc#32, 0x2de92c6f#32, 0x4a7484aa#32, 0x5cb0a9dc#32, 0x76f988da#32, 0x983e5152#32, 0xa831c66d#32, 0xb00327c8#32, 0xbf597fc7#32, 0xc6e00bf3#32, 0xd5a79147#32, 0x06ca6351#32, 0x14292967#32, 0x27b70a85#32, 0x2e1b2138#32, 0x4d2c6dfc#32, 0x53380d13#32, 0x650a7354#32, 0x766a0abb#32, 0x81c2c92e#32, 0x92722c85#32, 0xa2bfe8a1#32, 0xa81a664b#32, 0xc24b8b70#32, 0xc76c51a3#32, 0xd192e819#32, 0xd6990624#32, 0xf40e3585#32, 0x106aa070#32, 0x19a4c116#32, 0x1e376c08#32, 0x2748774c#32, 0x34b0bcb5#32, 0x391c0cb3#32, 0x4ed8aa4a#32, 0x5b9cca4f#32, 0x682e6ff3#32, 0x748f82ee#32, 0x78a5636f#32, 0x84c87814#32, 0x8cc70208#32, 0x90befffa#32, 0xa4506ceb#32, 0xbef9a3f7#32, 0xc67178f2#32]
structure R8 where
  (a0 a1 a2 a3 e0 e1 e2 e3 : Wo)
def R8.a (r : R8) : List Wo := [r.a0, r.a1, r.a2, r.a3]
def R8.e (r : R8) : List Wo := [r.e0, r.e1, r.e2, r.e3]
def R8.l (r : R8) : List Wo := [r.a0, r.a1, r.a2, r.a3, r.e0, r.e1, r.e2, r.e3]
def firstR : R8 := ⟨0x6a09e667#32, 0xbb67ae85#32, 0x3c6ef372#32, 0xa54ff53a#32, 0x510e527f#32, 0x9b05688c#32, 0x1f83d9ab#32, 0x5be0cd19#32⟩
def t1W (r : R8) (k w : Wo) : Wo := r.e3 + mixW r.e0 6 11 25 + (r.e2 ^^^ (r.e0 &&& (r.e1 ^^^ r.e2))) + k + w
def t2W (r : R8) : Wo := mixW r.a0 2 13 22 + ((r.a0 &&& r.a1) ^^^ (r.a0 &&& r.a2) ^^^ (r.a1 &&& r.a2))
def rnd (r : R8) (k w : Wo) : R8 := ⟨t1W r k w + t2W r, r.a0, r.a1, r.a2, r.a3 + t1W r k w, r.e0, r.e1, r.e2⟩
def rnds (r : R8) (ws : List Wo) : Nat → R8
  | 0 => r
  | i + 1 => rnd (rnds r ws i) (roundsL.getD i 0) (ws.getD i 0)
def R8.add (r s : R8) : R8 := ⟨r.a0 + s.a0, r.a1 + s.a1, r.a2 + s.a2, r.a3 + s.a3, r.e0 + s.e0, r.e1 + s.e1, r.e2 + s.e2, r.e3 + s.e3⟩
def blockW (r : R8) (l : List UInt8) : R8 := r.add (rnds r (sched l) 64)
def blocks (r : R8) (l : List UInt8) : Nat → R8
  | 0 => r
  | k + 1 => blockW (blocks r l k) (l.drop (64 * k))
structure Sm where
  (r : R8) (rest : List UInt8) (n : Nat)
def Sm.new : Sm := ⟨firstR, [], 0⟩
def Sm.add (s : Sm) (l : List UInt8) : Sm := ⟨blocks s.r (s.rest ++ l) ((s.rest ++ l).length / 64), (s.rest ++ l).drop (64 * ((s.rest ++ l).length / 64)), s.n + l.length⟩
/-! ### Constants -/
abbrev ws (l : List Wo) : List (List Abs) := l.map fun p => [u32 p]
section
variable {P : Program} {n : Nat} {W : Wd} {σ τ : Blks} {l : Slots} {X : List Nat} {x y z : Operand} {d : Option Nat} {ty t t' e : TypeId} {pos : String} {aft : Array Edge} {g : Option (Nat × Bool)} {A : Abs} {tab : List (Nat × TI)} {ops : Array Oper} {Q : Exit → Act → World → Prop} {k : IntKind}
theorem ofInt8 (c : UInt8) : BitVec.ofInt IntKind.u8.bits ((c.toNat : Nat) : Int) = c.toBitVec := by
  show BitVec.ofInt 8 ((c.toBitVec.toNat : Nat) : Int) = _
  rw [BitVec.ofInt_natCast, BitVec.ofNat_toNat, BitVec.setWidth_eq]
theorem wrap8 (p : BitVec 8) : IntKind.u8.wrap (p.toNat : Nat) = (p.toNat : Nat) := by
  have := p.isLt
  simp only [IntKind.wrap, IntKind.bits, IntKind.signed]
  simp
  omega
theorem kw_ {c f : UInt8} (hx : look l x = some (.v (bc c))) (hy : look l y = some (.v (bc f))) : Val P n W σ l X ⟨d, .binOp .or t x y t', ty, pos, aft, g⟩ (.v (bc (c ||| f))) :=
  dQ_ hx hy (fun w => by
    simp only [Op.intBits, ofInt8]
    exact congrArg (fun r => Result.ok (Value.int .u8 r) w) (wrap8 (c.toBitVec ||| f.toBitVec))) rfl
end
/-! ### Rows of words -/
def cutTo : Value → Nat → Value
  | .slice a _ c, q => .slice a q c
  | v, _ => v
theorem hp_ (v : Value) (q : Nat) : (cutTo v q).ownBlock = v.ownBlock := by
  unfold cutTo
  split
  · next a n c => cases a <;> rfl
  · rfl
section
variable {P : Program} {n : Nat} {W : Wd} {σ τ : Blks} {l : Slots} {X : List Nat} {x y z : Operand} {d : Option Nat} {ty t e e' : TypeId} {pos : String} {aft : Array Edge} {g : Option (Nat × Bool)} {v u : Value} {k : IntKind} {tab : List (Nat × TI)} {xs ys : List (List Abs)} {s q : Nat} {ops : Array Oper} {rest : List Oper} {Q : Exit → Act → World → Prop}
theorem cN_ (hT : TabOk P tab) {j : TI} (hu : P.underlying t = some (.slice e)) (hj : ti tab e = some j) (hx : look l x = some (.v v)) (hb : isOwn σ e' s v xs) {r : Int} (hy : look l y = some (.v (.int k r))) (hr : r = (q : Nat)) (hq : q ≤ xs.length) :
    Val P n W σ l X ⟨d, .slice t x none (some y) none, ty, pos, aft, g⟩ (.v (cutTo v q)) := fun a w hs _ => by
  subst hr
  obtain ⟨us, hr1, hr2⟩ := hs.mem.ownR hb
  obtain ⟨A', c, hsh, h3, _⟩ := hr1.shape
  refine ⟨_, rfl, fun w' _ => ?_⟩
  have h7 := (hT _ _ hj).sizeOf (w := w')
  have e1 : a.eval x = .slice A' xs.length c := (hs.plain hx).trans hsh
  have e2 : a.eval y = .int k ((q : Nat) : Int) := hs.plain hy
  rw [hsh]
  have hqc : q ≤ c := by omega
  simp [execOp, Instr.sliceAt, Instr.slice, Instr.sliceBounds, Instr.sliceBound, asIntOf, e1, e2, run_underlying hu, Sem.run_bind, Result.andThen, h7, hqc, Addr.add, cutTo]
  try (cases A' <;> simp)
theorem f7_ {K : List Nat} {w : World} {z : Value} : ∀ m : Nat, repss K w 1 (List.replicate m [.v z]) (List.replicate m z)
  | 0 => rfl
  | m + 1 => ⟨[z], List.replicate m z, rfl, rfl, ⟨z, [], rfl, rfl, rfl⟩, f7_ m⟩
end
theorem Re.cast {b : Nat} {t : TypeId} {cs ds : List Abs} (h : Casts cs ds) : Re [.blk b t cs] [.blk b t ds] := ⟨⟨[], by simp [mids, It.mids]⟩, by simp [It.rids], fun K w hx y hy => by
  rw [List.mem_singleton.1 hy]
  obtain ⟨us, h1, h2⟩ := hx (.blk b t cs) (by simp)
  exact ⟨us, h1, h K w us h2⟩⟩
theorem Re.cons {xs ys : Blks} {x : It} (hx : x.rids = []) (h : Re xs ys) : Re (x :: xs) (x :: ys) where
  ids := by
    obtain ⟨a, ha⟩ := h.ids
    refine ⟨a, ?_⟩
    rw [aq_, aq_, List.append_assoc]
    exact List.Perm.append_left _ ha
  rd := fun y hy => by
    rcases List.mem_cons.1 hy with rfl | hy
    · exact hx
    · exact h.rd y hy
  hh := fun K w hk y hy => by
    rcases List.mem_cons.1 hy with rfl | hy
    · exact hk _ List.mem_cons_self
    · exact h.hh K w (fun z hz => hk z (List.mem_cons_of_mem _ hz)) y hy
theorem Re.perm {xs ys : Blks} (h : xs.Perm ys) (hr : ∀ x ∈ xs, x.rids = []) : Re xs ys := ⟨⟨[], by rw [List.append_nil]; exact ci_ h⟩, fun y hy => hr y (h.mem_iff.2 hy), fun K w hx y hy => hx y (h.mem_iff.2 hy)⟩
abbrev stA (l : Txt) : Abs := .v (.string ⟨l.toArray⟩)
theorem bd_ (l : Txt) : (ByteArray.mk l.toArray).size = l.length := by simp [ByteArray.size]
theorem d0_ (l : Txt) (q : Nat) : Abs.v (.string ((ByteArray.mk l.toArray).extract q (ByteArray.mk l.toArray).size)) = stA (l.drop q) :=
  congrArg (fun s => Abs.v (.string s)) (dV_ (by rw [tx_lo, fi_, fi_]))
theorem st_hi (l : Txt) (q : Nat) : Abs.v (.string ((ByteArray.mk l.toArray).extract 0 q)) = stA (l.take q) :=
  congrArg (fun s => Abs.v (.string s)) (dV_ (by rw [tx_hi, fi_, fi_]))
theorem is_ {l m : Txt} : (ByteArray.mk l.toArray = ByteArray.mk m.toArray) ↔ l = m := by
  constructor
  · intro h
    have := congrArg tx h
    rwa [fi_, fi_] at this
  · rintro rfl; rfl
theorem if_ {l : Txt} (h : l.length = 0) : bare l = l := by rw [List.length_eq_zero_iff.1 h]; rfl
theorem ko_ {l : Txt} (hq : 0 < l.length) (h : ¬ ((l[0]'hq).toNat : Int) = 32) : bare l = l := by
  cases l with
  | nil => rfl
  | cons c t => exact if_neg fun e => h (by rw [show (c :: t)[0] = c from rfl, e]; rfl)
theorem ie_ {l : Txt} (hq : 0 < l.length) (h : ((l[0]'hq).toNat : Int) = 32) : bare (l.drop 1) = bare l := by
  cases l with
  | nil => simp at hq
  | cons c t =>
    have e : c = 32 := by
      have h1 : c.toNat = 32 := by have h2 : ((c.toNat : Nat) : Int) = 32 := h; omega
      exact UInt8.toNat_inj.1 h1
    exact (if_pos e).symm
def psA (l : Txt) (odd : Bool) : List Abs := [stA l, boo odd]
def takeT (l wd : Txt) : Txt := if begins (bare l) wd = true then (bare l).drop wd.length else bare l
section
variable {l wd : Txt} {odd : Bool} {p : Nat}
theorem il_  : Spec Tryz.prog 154 [stA l, .v (.int .u8 32)] [] (fun _ : Unit => []) (fun _ => stA (bare l)) := by
 refine C_ Tryz.func154 rfl Tryz.ntmps154 rfl fun G w =>d_<|a_<|q_ 1 rfl<|g_<|b_<|d_<|w_<|aa_ (ι := Txt) (fun z => []) (fun z => [(0, stA z), (1, .v (.int .u8 32))]) (fun z => bare z = bare l) (fun z => z.length) (l) (rfl) (by exact ⟨rfl, rfl, trivial⟩) sn_ ?_
 intro z hz
 refine d_<|d_<|a_<|q_ 1 rfl<|c_ (k_ (C := int ((z.length : Nat) : Int)) (ag_ rfl Tryz.underlying9) rfl) rfl rfl<|q_ 2 rfl<|z_ (t := 8) rfl ?_ ?_
 rotate_left
 ·intro hc8
  refine q_ 5 rfl<|g_<|b_<|ah_ rfl<|X_<|h_ nofun<|h_ nofun<|W_<|b_<|d_<|a_<|q_ 2 rfl<|g_<|b_<|l_<|f_ (rs := [.tmp 4]) rfl (RV.tmp rfl RV.nil) (()) sn_ ?_
  (rw [← hz, if_ (by omega)]; rfl)
 intro hc8
 have hq : 0 < z.length := by omega
 refine q_ 1 rfl<|c_ (k_ (C := .v (.int .u8 ((z[0]'hq).toNat : Nat))) (aj_ (s := ⟨z.toArray⟩) (q := 0) rfl rfl rfl hq Tryz.underlying9) rfl) rfl rfl<|q_ 3 rfl<|g_<|b_<|p_ rfl ?_ ?_
 ·intro hc13
  refine o_<|b_<|w_<|a_<|q_ 1 rfl<|c_ (k_ (C := stA (z.drop 1)) (au_ (q := 1) Tryz.underlying9 rfl rfl rfl (by simp only [bd_]; omega)) (d0_ _ _)) rfl rfl ?_
  refine q_ 1 rfl<|g_<|u_<|D_ (z.drop 1) (by rw [List.length_drop]; omega) ((ie_ hq hc13).trans hz) (by exact ⟨rfl, rfl, trivial⟩) sn_
 intro hc13
 refine X_<|h_ nofun<|h_ nofun<|W_<|b_<|d_<|a_<|q_ 2 rfl<|g_<|b_<|l_<|f_ (rs := [.tmp 4]) rfl (RV.tmp rfl RV.nil) (()) sn_ ?_
 (rw [← hz, ko_ hq hc13]; rfl)
theorem ik_  : Spec Tryz.prog 139 [stA l, stA [32]] [] (fun _ : Unit => []) (fun _ => stA (bare l)) := by
 refine C_ Tryz.func139 rfl Tryz.ntmps139 rfl fun G w =>d_<|a_<|q_ 1 rfl<|g_<|b_<|d_<|d_<|a_<|q_ 1 rfl<|c_ (cq_ rfl rfl) rfl rfl<|q_ 1 rfl<|z_ (t := 9) rfl ?_ ?_
 ·intro hc9
  refine q_ 3 rfl<|g_<|b_<|K_ rfl<|d_<|a_<|q_ 2 rfl<|g_<|b_<|l_<|h_ nofun<|f_ (rs := [.tmp 4]) rfl (RV.tmp rfl RV.nil) (()) sn_ ?_
  rw [show l = [] from is_.1 hc9]
  rfl
 intro hc9
 refine q_ 1 rfl<|c_ (k_ (C := boo false) (cq_ rfl rfl) (congrArg (fun b => Abs.v (Value.bool b)) (decide_eq_false (by decide)))) rfl rfl ?_
 refine q_ 1 rfl<|g_<|b_<|ah_ rfl<|o_<|b_<|d_<|d_<|a_<|q_ 1 rfl<|c_ (k_ (C := int 1) (ag_ rfl Tryz.underlying9) rfl) rfl rfl<|c_ (k_ (C := boo true) (ax_ rfl rfl) (congrArg (fun b => Abs.v (Value.bool b)) (decide_eq_true (rfl)))) rfl rfl<|q_ 2 rfl<|c_ (k_ (C := .v (.int .u8 32)) (aj_ (q := 0) rfl rfl rfl (by decide) Tryz.underlying9) rfl) rfl rfl ?_
 refine c_ (k_ (C := boo true) (aU_ rfl rfl) (congrArg (fun b => Abs.v (Value.bool b)) (decide_eq_true (by decide)))) rfl rfl ?_
 refine q_ 1 rfl<|g_<|b_<|K_ rfl<|d_<|a_<|q_ 2 rfl<|c_ (k_ (C := .v (.int .u8 32)) (aj_ (q := 0) rfl rfl rfl (by decide) Tryz.underlying9) rfl) rfl rfl ?_
 refine r_ (il_ (l := l)) Casts.refl (by kernel_rfl) rfl rfl rfl ?_
 exact ap_<|fun _=>q_ 1 rfl<|g_<|b_<|l_<|h_ nofun<|f_ (rs := [.tmp 4]) rfl (RV.tmp rfl RV.nil) (()) sn_<|rfl
theorem hk_  : Spec Tryz.prog 176 [stA l, stA wd] [] (fun _ : Unit => []) (fun _ => boo (begins l wd)) := by
 refine C_ Tryz.func176 rfl Tryz.ntmps176 rfl fun G w =>d_<|a_<|q_ 1 rfl<|g_<|b_<|d_<|a_<|q_ 1 rfl<|c_ (k_ (C := int ((l.length : Nat) : Int)) (ag_ rfl Tryz.underlying9) rfl) rfl rfl<|q_ 1 rfl<|c_ (k_ (C := int ((wd.length : Nat) : Int)) (ag_ rfl Tryz.underlying9) rfl) rfl rfl<|q_ 2 rfl<|z_ (t := 10) rfl ?_ ?_
 ·intro hc10
  refine q_ 2 rfl<|c_ (k_ (C := int ((wd.length : Nat) : Int)) (ag_ rfl Tryz.underlying9) rfl) rfl rfl<|c_ (k_ (C := stA (l.take wd.length)) (b8_ (q := wd.length) Tryz.underlying9 rfl rfl rfl (by simp only [bd_]; omega)) (st_hi _ _)) rfl rfl ?_
  refine q_ 1 rfl<|c_ (k_ (C := boo (decide (l.take wd.length = wd))) (cq_ rfl rfl) (congrArg (fun b => Abs.v (Value.bool b)) (decide_eq_decide.2 (is_)))) rfl rfl<|q_ 2 rfl<|g_<|b_<|l_<|f_ (rs := [.tmp 4]) rfl (RV.tmp rfl RV.nil) (()) sn_<|congrArg (fun b => Abs.v (Value.bool b)) ?_
  rw [Bool.eq_iff_iff, bZ_]
  (rw [decide_eq_true_iff]; exact ⟨fun h => ⟨by omega, h⟩, fun h => h.2⟩)
 intro hc10
 refine q_ 8 rfl<|g_<|b_<|l_<|f_ (rs := [.tmp 4]) rfl (RV.tmp rfl RV.nil) (()) sn_<|congrArg (fun b => Abs.v (Value.bool b)) ?_
 rw [Bool.eq_iff_iff, bZ_]
 exact ⟨fun h => (by cases h), fun h => absurd h.1 (by omega)⟩
theorem gE_  : Spec Tryz.prog 165 [stA l, stA wd] [] (fun _ : Unit => []) (fun _ => .tup [stA (if begins l wd = true then l.drop wd.length else l), boo (begins l wd)]) := by
 refine C_ Tryz.func165 rfl Tryz.ntmps165 rfl fun G w =>d_<|a_<|q_ 2 rfl<|g_<|b_<|d_<|d_<|a_<|q_ 2 rfl<|r_ (hk_ (l := l) (wd := wd)) Casts.refl (by kernel_rfl) rfl rfl rfl ?_
 refine ap_<|fun _=>c_ (ab_ rfl) rfl rfl<|g_<|b_<|S_ rfl ?_ ?_
 ·intro hc9
  have hbg : begins l wd = false := by simpa using hc9
  refine d_<|a_<|q_ 3 rfl<|g_<|b_<|l_<|h_ nofun<|f_ (rs := [.tmp 4, .tmp 5]) rfl (RV.tmp rfl (RV.tmp rfl RV.nil)) (()) sn_ ?_
  rw [hbg]
  rfl
 intro hc9
 have hbg : begins l wd = true := by simpa using hc9
 have hlw := aT_ hbg
 refine o_<|b_<|d_<|a_<|q_ 2 rfl<|c_ (k_ (C := int ((wd.length : Nat) : Int)) (ag_ rfl Tryz.underlying9) rfl) rfl rfl<|c_ (k_ (C := stA (l.drop wd.length)) (au_ (q := wd.length) Tryz.underlying9 rfl rfl rfl (by simp only [bd_]; omega)) (d0_ _ _)) rfl rfl ?_
 refine q_ 2 rfl<|g_<|b_<|l_<|f_ (rs := [.tmp 4, .tmp 5]) rfl (RV.tmp rfl (RV.tmp rfl RV.nil)) (()) sn_ ?_
 rw [hbg]
 rfl
theorem hq_  : Spec Tryz.prog 151 [stA l, stA wd] [] (fun _ : Unit => []) (fun _ => .tup [stA (if begins l wd = true then l.drop wd.length else l), boo (begins l wd)]) := by
 refine C_ Tryz.func151 rfl Tryz.ntmps151 rfl fun G w =>d_<|a_<|q_ 2 rfl<|g_<|b_<|d_<|a_<|q_ 2 rfl<|r_ (gE_ (l := l) (wd := wd)) Casts.refl (by kernel_rfl) rfl rfl rfl ?_
 exact ap_<|fun _=>q_ 4 rfl<|g_<|b_<|l_<|f_ (rs := [.tmp 4, .tmp 5]) rfl (RV.tmp rfl (RV.tmp rfl RV.nil)) (()) sn_<|rfl
theorem fL_  : Spec Tryz.prog 119 [ptr p] [.blk p 158 (psA (l) odd)] (fun _ : Unit => [.blk p 158 (psA (bare l) odd)]) (fun _ => .tup []) := by
 refine C_ Tryz.func119 rfl Tryz.ntmps119 rfl fun G w =>a_<|q_ 4 rfl<|c_ (i_ tabOk rfl rfl l0_ List.not_mem_nil rfl) rfl rfl<|r_ (ik_ (l := l)) Casts.refl (by kernel_rfl) rfl rfl rfl ?_
 refine ap_<|fun _=>q_ 2 rfl<|e_ (m_ (L' := psA (bare l) odd) tabOk rfl rfl rfl u0_ rfl (Nat.le_of_ble_eq_true rfl) rfl rfl) rfl rfl<|g_<|SE.finN (rs := []) rfl RV.nil (()) sr_ (by simp [It.rids]) ?_
 exact rfl
theorem eJ_  : Spec Tryz.prog 136 [ptr p, stA wd] [.blk p 158 (psA (l) odd)] (fun _ : Unit => [.blk p 158 (psA (takeT l wd) odd)]) (fun _ => boo (begins (bare l) wd)) := by
 refine C_ Tryz.func136 rfl Tryz.ntmps136 rfl fun G w =>d_<|a_<|q_ 1 rfl<|g_<|b_<|d_<|a_<|q_ 1 rfl<|r_ (fL_ (p := p) (l := l) (odd := odd)) Casts.refl (by kernel_rfl) rfl rfl rfl ?_
 refine J_ rfl i0_ (fun _ => rfl)<|fun _=>⟨_, u0_, g_<|b_<|d_<|a_<|q_ 3 rfl<|c_ (i_ tabOk rfl rfl l0_ List.not_mem_nil rfl) rfl rfl<|q_ 1 rfl<|r_ (hq_ (l := bare l) (wd := wd)) Casts.refl (by kernel_rfl) rfl rfl rfl ?_⟩
 refine ap_<|fun _=>q_ 5 rfl<|g_<|b_<|d_<|d_<|a_<|q_ 1 rfl<|g_<|b_<|S_ rfl ?_ ?_
 rotate_left
 ·intro hc18
  refine o_<|b_<|d_<|a_<|q_ 2 rfl<|g_<|b_<|l_<|f_ (rs := [.tmp 4]) rfl (RV.tmp rfl RV.nil) (()) (by unfold takeT; (rw [if_neg (by simp only [*]; decide)]; exact List.Sublist.refl _)) ?_
  exact rfl
 intro hc18
 refine a_<|q_ 4 rfl<|e_ (m_ (L' := psA (if begins (bare l) wd = true then (bare l).drop wd.length else bare l) odd) tabOk rfl rfl rfl u0_ rfl (Nat.le_of_ble_eq_true rfl) rfl rfl) rfl rfl<|g_<|b_<|d_<|a_<|q_ 2 rfl<|g_<|b_<|l_<|f_ (rs := [.tmp 4]) rfl (RV.tmp rfl RV.nil) (()) (by unfold takeT; exact List.Sublist.refl _) ?_
 exact rfl
theorem cT_  : Spec Tryz.prog 108 [stA l] [] (fun _ : Unit => []) (fun _ => stA (bare l)) := by
 refine C_ Tryz.func108 rfl Tryz.ntmps108 rfl fun G w =>d_<|a_<|q_ 1 rfl<|g_<|b_<|d_<|w_<|aa_ (ι := Txt) (fun z => []) (fun z => [(0, stA z)]) (fun z => bare z = bare l) (fun z => z.length) (l) (rfl) (by exact ⟨rfl, trivial⟩) sn_ ?_
 intro z hz
 refine d_<|d_<|a_<|q_ 1 rfl<|c_ (k_ (C := int ((z.length : Nat) : Int)) (ag_ rfl Tryz.underlying9) rfl) rfl rfl<|q_ 2 rfl<|z_ (t := 6) rfl ?_ ?_
 rotate_left
 ·intro hc6
  refine q_ 4 rfl<|g_<|b_<|ah_ rfl<|X_<|h_ nofun<|h_ nofun<|W_<|b_<|d_<|a_<|q_ 2 rfl<|g_<|b_<|l_<|f_ (rs := [.tmp 2]) rfl (RV.tmp rfl RV.nil) (()) sn_ ?_
  (rw [← hz, if_ (by omega)]; rfl)
 intro hc6
 have hq : 0 < z.length := by omega
 refine q_ 1 rfl<|c_ (k_ (C := .v (.int .u8 ((z[0]'hq).toNat : Nat))) (aj_ (s := ⟨z.toArray⟩) (q := 0) rfl rfl rfl hq Tryz.underlying9) rfl) rfl rfl<|q_ 2 rfl<|g_<|b_<|p_ rfl ?_ ?_
 ·intro hc10
  refine o_<|b_<|w_<|a_<|q_ 1 rfl<|c_ (k_ (C := stA (z.drop 1)) (au_ (q := 1) Tryz.underlying9 rfl rfl rfl (by simp only [bd_]; omega)) (d0_ _ _)) rfl rfl ?_
  refine q_ 1 rfl<|g_<|u_<|D_ (z.drop 1) (by rw [List.length_drop]; omega) ((ie_ hq hc10).trans hz) (by exact ⟨rfl, trivial⟩) sn_
 intro hc10
 refine X_<|h_ nofun<|h_ nofun<|W_<|b_<|d_<|a_<|q_ 2 rfl<|g_<|b_<|l_<|f_ (rs := [.tmp 2]) rfl (RV.tmp rfl RV.nil) (()) sn_ ?_
 (rw [← hz, ko_ hq hc10]; rfl)
theorem bz_  : Spec Tryz.prog 127 [stA l, stA wd] [] (fun _ : Unit => []) (fun _ => boo (begins l wd)) := by
 refine C_ Tryz.func127 rfl Tryz.ntmps127 rfl fun G w =>d_<|a_<|q_ 1 rfl<|g_<|b_<|d_<|a_<|q_ 1 rfl<|c_ (k_ (C := int ((l.length : Nat) : Int)) (ag_ rfl Tryz.underlying9) rfl) rfl rfl<|q_ 1 rfl<|c_ (k_ (C := int ((wd.length : Nat) : Int)) (ag_ rfl Tryz.underlying9) rfl) rfl rfl<|q_ 2 rfl<|z_ (t := 10) rfl ?_ ?_
 ·intro hc10
  refine q_ 2 rfl<|c_ (k_ (C := int ((wd.length : Nat) : Int)) (ag_ rfl Tryz.underlying9) rfl) rfl rfl<|c_ (k_ (C := stA (l.take wd.length)) (b8_ (q := wd.length) Tryz.underlying9 rfl rfl rfl (by simp only [bd_]; omega)) (st_hi _ _)) rfl rfl ?_
  refine q_ 1 rfl<|c_ (k_ (C := boo (decide (l.take wd.length = wd))) (cq_ rfl rfl) (congrArg (fun b => Abs.v (Value.bool b)) (decide_eq_decide.2 (is_)))) rfl rfl<|q_ 2 rfl<|g_<|b_<|l_<|f_ (rs := [.tmp 4]) rfl (RV.tmp rfl RV.nil) (()) sn_<|congrArg (fun b => Abs.v (Value.bool b)) ?_
  rw [Bool.eq_iff_iff, bZ_]
  (rw [decide_eq_true_iff]; exact ⟨fun h => ⟨by omega, h⟩, fun h => h.2⟩)
 intro hc10
 refine q_ 8 rfl<|g_<|b_<|l_<|f_ (rs := [.tmp 4]) rfl (RV.tmp rfl RV.nil) (()) sn_<|congrArg (fun b => Abs.v (Value.bool b)) ?_
 rw [Bool.eq_iff_iff, bZ_]
 exact ⟨fun h => (by cases h), fun h => absurd h.1 (by omega)⟩
end
end Go.Proofs.YtickdhjljpnlpaaGreatDoor.A
namespace Go.Proofs.YtickdhjljpnlpaaGreatDoor
open Go.Shelf Go.RowKit
def atoiR : Ren := ⟨fun | 172 => 152 | 244 => 166 | 245 => 167 | 247 => 177 | 279 => 178 | 280 => 179 | 281 => 180 | 282 => 181 | 287 => 186 | 316 => 187 | 171 => 153 | 205 => 188 | 321 => 197 | 322 => 198 | 243 => 168 | 246 => 182 | 283 => 189 | 284 => 190 | 285 => 191 | 286 => 192 | 129 => 200 | 317 => 199 | 318 => 201 | 319 => 202 | 320 => 203 | 337 => 205 | 338 => 206 | n => n, fun | 9 => 9 | 3 => 3 | 75 => 192 | 76 => 193 | 4 => 4 | 5 => 5 | 167 => 213 | 37 => 31 | 0 => 0 | 85 => 214 | 2 => 2 | 168 => 216 | 53 => 79 | 175 => 222 | 46 => 91 | 210 => 225 | 127 => 239 | 145 => 242 | 143 => 240 | 21 => 21 | 171 => 227 | 173 => 230 | 212 => 244 | 51 => 64 | 20 => 20 | 213 => 245 | 232 => 248 | 233 => 249 | 80 => 250 | n => n, fun | 15 => 0 | 16 => 1 | 17 => 4 | 18 => 6 | 19 => 7 | n => n⟩
theorem atoiL : LaysC.n172 Tryz.prog atoiR := {
  mixed := by kernel_rfl,
  f129 := Tryz.func200.trans (congrArg some (by kernel_rfl)),
  f171 := Tryz.func153.trans (congrArg some (by kernel_rfl)),
  f172 := Tryz.func152.trans (congrArg some (by kernel_rfl)),
  f205 := Tryz.func188.trans (congrArg some (by kernel_rfl)),
  f243 := Tryz.func168.trans (congrArg some (by kernel_rfl)),
  f244 := Tryz.func166.trans (congrArg some (by kernel_rfl)),
  f245 := Tryz.func167.trans (congrArg some (by kernel_rfl)),
  f246 := Tryz.func182.trans (congrArg some (by kernel_rfl)),
  f247 := Tryz.func177.trans (congrArg some (by kernel_rfl)),
  f279 := Tryz.func178.trans (congrArg some (by kernel_rfl)),
  f280 := Tryz.func179.trans (congrArg some (by kernel_rfl)),
  f281 := Tryz.func180.trans (congrArg some (by kernel_rfl)),
  f282 := Tryz.func181.trans (congrArg some (by kernel_rfl)),
  f283 := Tryz.func189.trans (congrArg some (by kernel_rfl)),
  f284 := Tryz.func190.trans (congrArg some (by kernel_rfl)),
  f285 := Tryz.func191.trans (congrArg some (by kernel_rfl)),
  f286 := Tryz.func192.trans (congrArg some (by kernel_rfl)),
  f287 := Tryz.func186.trans (congrArg some (by kernel_rfl)),
  f316 := Tryz.func187.trans (congrArg some (by kernel_rfl)),
  f317 := Tryz.func199.trans (congrArg some (by kernel_rfl)),
  f318 := Tryz.func201.trans (congrArg some (by kernel_rfl)),
  f319 := Tryz.func202.trans (congrArg some (by kernel_rfl)),
  f320 := Tryz.func203.trans (congrArg some (by kernel_rfl)),
  f321 := Tryz.func197.trans (congrArg some (by kernel_rfl)),
  f322 := Tryz.func198.trans (congrArg some (by kernel_rfl)),
  f337 := Tryz.func205.trans (congrArg some (by kernel_rfl)),
  f338 := Tryz.func206.trans (congrArg some (by kernel_rfl)),
  t0 := Tryz.underlying0,
  a0 := Tryz.isAgg0,
  z0 := Tryz.sizeOf0,
  v0 := Tryz.zeroValue0,
  t2 := Tryz.underlying2,
  a2 := Tryz.isAgg2,
  z2 := Tryz.sizeOf2,
  v2 := Tryz.zeroValue2,
  t3 := Tryz.underlying3,
  a3 := Tryz.isAgg3,
  z3 := Tryz.sizeOf3,
  v3 := Tryz.zeroValue3,
  t4 := Tryz.underlying4,
  a4 := Tryz.isAgg4,
  z4 := Tryz.sizeOf4,
  v4 := Tryz.zeroValue4,
  t5 := Tryz.underlying5,
  a5 := Tryz.isAgg5,
  z5 := Tryz.sizeOf5,
  v5 := Tryz.zeroValue5,
  t9 := Tryz.underlying9,
  a9 := Tryz.isAgg9,
  z9 := Tryz.sizeOf9,
  v9 := Tryz.zeroValue9,
  t20 := Tryz.underlying20,
  a20 := Tryz.isAgg20,
  z20 := Tryz.sizeOf20,
  v20 := Tryz.zeroValue20,
  t21 := Tryz.underlying21,
  a21 := Tryz.isAgg21,
  z21 := Tryz.sizeOf21,
  v21 := Tryz.zeroValue21,
  t37 := Tryz.underlying31,
  a37 := Tryz.isAgg31,
  z37 := Tryz.sizeOf31,
  v37 := Tryz.zeroValue31,
  t46 := Tryz.underlying91,
  a46 := Tryz.isAgg91,
  z46 := Tryz.sizeOf91,
  v46 := Tryz.zeroValue91,
  t51 := Tryz.underlying64,
  a51 := Tryz.isAgg64,
  z51 := Tryz.sizeOf64,
  v51 := Tryz.zeroValue64,
  t53 := Tryz.underlying79,
  a53 := Tryz.isAgg79,
  z53 := Tryz.sizeOf79,
  v53 := Tryz.zeroValue79,
  t75 := Tryz.underlying192,
  a75 := Tryz.isAgg192,
  z75 := Tryz.sizeOf192,
  v75 := Tryz.zeroValue192,
  t76 := Tryz.underlying193,
  a76 := Tryz.isAgg193,
  z76 := Tryz.sizeOf193,
  v76 := Tryz.zeroValue193,
  t85 := Tryz.underlying214,
  a85 := Tryz.isAgg214,
  z85 := Tryz.sizeOf214,
  v85 := Tryz.zeroValue214,
  t127 := Tryz.underlying239,
  a127 := Tryz.isAgg239,
  z127 := Tryz.sizeOf239,
  v127 := Tryz.zeroValue239,
  t143 := Tryz.underlying240,
  a143 := Tryz.isAgg240,
  z143 := Tryz.sizeOf240,
  v143 := Tryz.zeroValue240,
  t145 := Tryz.underlying242,
  a145 := Tryz.isAgg242,
  z145 := Tryz.sizeOf242,
  v145 := Tryz.zeroValue242,
  t167 := Tryz.underlying213,
  a167 := Tryz.isAgg213,
  z167 := Tryz.sizeOf213,
  v167 := Tryz.zeroValue213,
  t168 := Tryz.underlying216,
  a168 := Tryz.isAgg216,
  z168 := Tryz.sizeOf216,
  v168 := Tryz.zeroValue216,
  t171 := Tryz.underlying227,
  a171 := Tryz.isAgg227,
  z171 := Tryz.sizeOf227,
  v171 := Tryz.zeroValue227,
  t173 := Tryz.underlying230,
  a173 := Tryz.isAgg230,
  z173 := Tryz.sizeOf230,
  v173 := Tryz.zeroValue230,
  t175 := Tryz.underlying222,
  a175 := Tryz.isAgg222,
  z175 := Tryz.sizeOf222,
  v175 := Tryz.zeroValue222,
  t210 := Tryz.underlying225,
  a210 := Tryz.isAgg225,
  z210 := Tryz.sizeOf225,
  v210 := Tryz.zeroValue225,
  t212 := Tryz.underlying244,
  a212 := Tryz.isAgg244,
  z212 := Tryz.sizeOf244,
  v212 := Tryz.zeroValue244,
  t213 := Tryz.underlying245,
  a213 := Tryz.isAgg245,
  z213 := Tryz.sizeOf245,
  t232 := Tryz.underlying248,
  a232 := Tryz.isAgg248,
  z232 := Tryz.sizeOf248,
  v232 := Tryz.zeroValue248,
  t233 := Tryz.underlying249,
  a233 := Tryz.isAgg249,
  z233 := Tryz.sizeOf249,
  v233 := Tryz.zeroValue249,
  g15 := by kernel_rfl,
  g16 := by kernel_rfl,
  g17 := by kernel_rfl,
  g18 := by kernel_rfl,
  g19 := by kernel_rfl,
  t80 := Tryz.underlying250,
  a80 := Tryz.isAgg250,
  z80 := Tryz.sizeOf250,
  v80 := Tryz.zeroValue250,
  i0 := by kernel_rfl,
  i2 := by kernel_rfl,
  i3 := by kernel_rfl,
  i4 := by kernel_rfl,
  i5 := by kernel_rfl,
  i9 := by kernel_rfl,
  i20 := by kernel_rfl,
  i21 := by kernel_rfl,
  i37 := by kernel_rfl,
  i46 := by kernel_rfl,
  i51 := by kernel_rfl,
  i53 := by kernel_rfl,
  i75 := by kernel_rfl,
  i76 := by kernel_rfl,
  i80 := by kernel_rfl,
  i85 := by kernel_rfl,
  i127 := by kernel_rfl,
  i143 := by kernel_rfl,
  i145 := by kernel_rfl,
  i167 := by kernel_rfl,
  i168 := by kernel_rfl,
  i171 := by kernel_rfl,
  i173 := by kernel_rfl,
  i175 := by kernel_rfl,
  i210 := by kernel_rfl,
  i212 := by kernel_rfl,
  i232 := by kernel_rfl,
  i233 := by kernel_rfl,
  m15 := by kernel_rfl,
  m16 := by kernel_rfl,
  m17 := by kernel_rfl,
  m18 := by kernel_rfl,
  m19 := by kernel_rfl,
  c0 := by kernel_rfl,
  c2 := by kernel_rfl,
  c3 := by kernel_rfl,
  c4 := by kernel_rfl,
  c5 := by kernel_rfl,
  c9 := by kernel_rfl,
  c20 := by kernel_rfl,
  c21 := by kernel_rfl,
  c37 := by kernel_rfl,
  c46 := by kernel_rfl,
  c51 := by kernel_rfl,
  c53 := by kernel_rfl,
  c75 := by kernel_rfl,
  c76 := by kernel_rfl,
  c80 := by kernel_rfl,
  c85 := by kernel_rfl,
  c127 := by kernel_rfl,
  c143 := by kernel_rfl,
  c145 := by kernel_rfl,
  c167 := by kernel_rfl,
  c168 := by kernel_rfl,
  c171 := by kernel_rfl,
  c173 := by kernel_rfl,
  c175 := by kernel_rfl,
  c210 := by kernel_rfl,
  c212 := by kernel_rfl,
  c213 := by kernel_rfl,
  c232 := by kernel_rfl,
  c233 := by kernel_rfl }
def itoaR : Ren := ⟨fun | 171 => 153 | 243 => 168 | 246 => 182 | 283 => 189 | 284 => 190 | 285 => 191 | 286 => 192 | 129 => 200 | 317 => 199 | 318 => 201 | 319 => 202 | 320 => 203 | 337 => 205 | 338 => 206 | n => n, fun | 3 => 3 | 9 => 9 | 2 => 2 | 4 => 4 | 171 => 227 | 0 => 0 | 53 => 79 | 37 => 31 | 5 => 5 | 173 => 230 | 212 => 244 | 51 => 64 | 20 => 20 | 213 => 245 | 46 => 91 | 232 => 248 | 233 => 249 | n => n, fun | 17 => 4 | 18 => 6 | 19 => 7 | n => n⟩
theorem itoaL : LaysM.n171 Tryz.prog itoaR := {
  mixed := by kernel_rfl,
  f129 := Tryz.func200.trans (congrArg some (by kernel_rfl)),
  f171 := Tryz.func153.trans (congrArg some (by kernel_rfl)),
  f243 := Tryz.func168.trans (congrArg some (by kernel_rfl)),
  f246 := Tryz.func182.trans (congrArg some (by kernel_rfl)),
  f283 := Tryz.func189.trans (congrArg some (by kernel_rfl)),
  f284 := Tryz.func190.trans (congrArg some (by kernel_rfl)),
  f285 := Tryz.func191.trans (congrArg some (by kernel_rfl)),
  f286 := Tryz.func192.trans (congrArg some (by kernel_rfl)),
  f317 := Tryz.func199.trans (congrArg some (by kernel_rfl)),
  f318 := Tryz.func201.trans (congrArg some (by kernel_rfl)),
  f319 := Tryz.func202.trans (congrArg some (by kernel_rfl)),
  f320 := Tryz.func203.trans (congrArg some (by kernel_rfl)),
  f337 := Tryz.func205.trans (congrArg some (by kernel_rfl)),
  f338 := Tryz.func206.trans (congrArg some (by kernel_rfl)),
  t0 := Tryz.underlying0,
  a0 := Tryz.isAgg0,
  z0 := Tryz.sizeOf0,
  v0 := Tryz.zeroValue0,
  t2 := Tryz.underlying2,
  a2 := Tryz.isAgg2,
  z2 := Tryz.sizeOf2,
  v2 := Tryz.zeroValue2,
  t3 := Tryz.underlying3,
  a3 := Tryz.isAgg3,
  z3 := Tryz.sizeOf3,
  v3 := Tryz.zeroValue3,
  t4 := Tryz.underlying4,
  a4 := Tryz.isAgg4,
  z4 := Tryz.sizeOf4,
  v4 := Tryz.zeroValue4,
  t5 := Tryz.underlying5,
  a5 := Tryz.isAgg5,
  z5 := Tryz.sizeOf5,
  v5 := Tryz.zeroValue5,
  t9 := Tryz.underlying9,
  a9 := Tryz.isAgg9,
  z9 := Tryz.sizeOf9,
  v9 := Tryz.zeroValue9,
  t20 := Tryz.underlying20,
  a20 := Tryz.isAgg20,
  z20 := Tryz.sizeOf20,
  v20 := Tryz.zeroValue20,
  t37 := Tryz.underlying31,
  a37 := Tryz.isAgg31,
  z37 := Tryz.sizeOf31,
  v37 := Tryz.zeroValue31,
  t46 := Tryz.underlying91,
  a46 := Tryz.isAgg91,
  z46 := Tryz.sizeOf91,
  v46 := Tryz.zeroValue91,
  t51 := Tryz.underlying64,
  a51 := Tryz.isAgg64,
  z51 := Tryz.sizeOf64,
  v51 := Tryz.zeroValue64,
  t53 := Tryz.underlying79,
  a53 := Tryz.isAgg79,
  z53 := Tryz.sizeOf79,
  v53 := Tryz.zeroValue79,
  t171 := Tryz.underlying227,
  a171 := Tryz.isAgg227,
  z171 := Tryz.sizeOf227,
  v171 := Tryz.zeroValue227,
  t173 := Tryz.underlying230,
  a173 := Tryz.isAgg230,
  z173 := Tryz.sizeOf230,
  v173 := Tryz.zeroValue230,
  t212 := Tryz.underlying244,
  a212 := Tryz.isAgg244,
  z212 := Tryz.sizeOf244,
  v212 := Tryz.zeroValue244,
  t213 := Tryz.underlying245,
  a213 := Tryz.isAgg245,
  z213 := Tryz.sizeOf245,
  t232 := Tryz.underlying248,
  a232 := Tryz.isAgg248,
  z232 := Tryz.sizeOf248,
  v232 := Tryz.zeroValue248,
  t233 := Tryz.underlying249,
  a233 := Tryz.isAgg249,
  z233 := Tryz.sizeOf249,
  v233 := Tryz.zeroValue249,
  g17 := by kernel_rfl,
  g18 := by kernel_rfl,
  g19 := by kernel_rfl,
  i0 := by kernel_rfl,
  i2 := by kernel_rfl,
  i3 := by kernel_rfl,
  i4 := by kernel_rfl,
  i5 := by kernel_rfl,
  i9 := by kernel_rfl,
  i20 := by kernel_rfl,
  i37 := by kernel_rfl,
  i46 := by kernel_rfl,
  i51 := by kernel_rfl,
  i53 := by kernel_rfl,
  i171 := by kernel_rfl,
  i173 := by kernel_rfl,
  i212 := by kernel_rfl,
  i232 := by kernel_rfl,
  i233 := by kernel_rfl,
  m17 := by kernel_rfl,
  m18 := by kernel_rfl,
  m19 := by kernel_rfl }
end Go.Proofs.YtickdhjljpnlpaaGreatDoor
namespace Go.Proofs.YtickdhjljpnlpaaGreatDoor.A
open Go.RowKit
noncomputable def gvPc (name : String) (cs : Array Value) : Pc where
  ids := [(Tryz.prog.globalNamed name).getD 0]
  p := fun _ w => w.var? Tryz.prog name = some cs
  carry := fun K w K' w' hc hs h => by
    have h1 := hs _ List.mem_cons_self
    unfold World.var? at h ⊢
    cases hg : Tryz.prog.globalNamed name with
    | none => rw [hg] at h; cases h
    | some g =>
      rw [hg] at h h1
      simp only [Option.bind_some, Option.getD_some] at h h1 ⊢
      rw [h1]
      exact h
  lt := fun K w h k hk => by
    rw [List.mem_singleton] at hk
    subst hk
    unfold World.var? at h
    cases hg : Tryz.prog.globalNamed name with
    | none => rw [hg] at h; cases h
    | some g =>
      rw [hg] at h
      simp only [Option.bind_some, Option.getD_some] at h ⊢
      cases hb : w.heap[g]? with
      | none => rw [hb] at h; cases h
      | some o => exact bO_ hb
noncomputable def pow10C : Array Value := (Lib.pow10Tab.map fun z => Value.int .u64 z).toArray
noncomputable abbrev globs (es er : Value) : Blks := [.rdpc (gvPc "strconv.ErrSyntax" #[es]), .rdpc (gvPc "strconv.ErrRange" #[er]), .rdpc (gvPc "internal/strconv.uint64pow10" pow10C)]
def isIf (v : Value) : Prop := ∃ t u, v = .iface t u
section
variable {es er : Value} {l : Txt}
theorem ft_ {w w' : World} {G : List Nat} (hm : Mem w (mids (globs es er)) G (globs es er) w) (hx : Ext [] w w') : Mem w (mids (globs es er)) G [] w' := ((hm.same hx).1.sub (List.nil_sublist _)).1
def AtoiR (l : Txt) (z : Int × Value) : Prop := match Lib.atoiAll l with
  | .ok v => z = (v, .nilIface)
  | _ => isIf z.2
theorem atoi_s (he : isIf es) (hr : isIf er) (hl : l.length ≤ 100000) : Spec Tryz.prog 152 [stA l] (globs es er) (fun _ : {z : Int × Value // AtoiR l z} => []) (fun z => .tup [int z.1.1, .v z.1.2]) := fun G w vals hm hv => by
  obtain ⟨_, _, rfl, h1, h2⟩ := hv
  have h1 : _ = Value.string ⟨l.toArray⟩ := h1
  have h2 : _ = [] := h2
  subst h1 h2
  have hsz : (ByteArray.mk l.toArray).size = l.length := bd_ l
  have hg1 : w.var? Tryz.prog "strconv.ErrSyntax" = some #[es] := hm.hold (.rdpc (gvPc "strconv.ErrSyntax" #[es])) (by simp)
  have hg2 : w.var? Tryz.prog "strconv.ErrRange" = some #[er] := hm.hold (.rdpc (gvPc "strconv.ErrRange" #[er])) (by simp)
  have htx : (ByteArray.mk l.toArray).data.toList = l := fi_ l
  obtain ⟨t1, u1, rfl⟩ := he
  obtain ⟨t2, u2, rfl⟩ := hr
  cases h : Lib.atoiAll l with
  | ok v =>
    refine (Any.strconv_Atoi_ok atoiL ⟨l.toArray⟩ (by rw [hsz]; omega) v (by rw [htx]; exact h) w).mono ?_
    rintro e w' ⟨rfl, hw⟩
    have hx : Ext [] w w' := by
      rcases hw with rfl | ⟨t, rfl⟩
      · exact Ext.refl _
      · exact Ext.of_below (Lib.bytesWorld_below _ _ _)
    exact ⟨⟨(v, .nilIface), by unfold AtoiR; rw [h]⟩, _, rfl, by simp, ft_ hm hx, ⟨[_, _], rfl, _, _, rfl, rfl, _, _, rfl, rfl, rfl⟩⟩
  | range =>
    refine (Any.strconv_Atoi_range_var atoiL ⟨l.toArray⟩ (by rw [hsz]; omega) (by rw [htx]; exact h) t2 u2 w hg2).mono ?_
    rintro e w' ⟨N, rfl, _, _, hb⟩
    exact ⟨⟨(_, _), by unfold AtoiR; rw [h]; exact ⟨_, _, rfl⟩⟩, _, rfl, by simp, ft_ hm (Ext.of_below hb), ⟨[_, _], rfl, _, _, rfl, rfl, _, _, rfl, rfl, rfl⟩⟩
  | _ =>
    refine (Any.strconv_Atoi_syntax_var atoiL ⟨l.toArray⟩ (by rw [hsz]; omega) (by rw [htx]; exact h) t1 u1 w hg1).mono ?_
    rintro e w' ⟨N, rfl, _, _, hb⟩
    exact ⟨⟨(0, _), by unfold AtoiR; rw [h]; exact ⟨_, _, rfl⟩⟩, _, rfl, by simp, ft_ hm (Ext.of_below hb), ⟨[_, _], rfl, _, _, rfl, rfl, _, _, rfl, rfl, rfl⟩⟩
theorem itoa_s {v : Int} (hv0 : InR .i64 v) : Spec Tryz.prog 153 [int v] (globs es er) (fun _ : Unit => []) (fun _ => stA (Lib.itoa v)) := fun G w vals hm hv => by
  obtain ⟨_, _, rfl, h1, h2⟩ := hv
  have h1 : _ = Value.int .i64 v := h1
  have h2 : _ = [] := h2
  subst h1 h2
  have hg3 : w.var? Tryz.prog "internal/strconv.uint64pow10" = some pow10C := hm.hold (.rdpc (gvPc "internal/strconv.uint64pow10" pow10C)) (by simp)
  obtain ⟨b1, b2⟩ := hv0
  simp only [lo, hi] at b1 b2
  refine (Any.strconv_Itoa itoaL v b1 b2 w hg3).mono ?_
  rintro e w' ⟨rfl, k, os, rfl⟩
  have hx : Ext [] w (Sort.grow (w.drewN k) os) := by
    refine ⟨rfl, rfl, rfl, ?_, fun j hj _ => ?_⟩
    · simp [Sort.grow, World.drewN]
    · simp only [Sort.grow, World.drewN]
      rw [Array.getElem?_append_left hj]
  exact ⟨(), _, rfl, by simp, ft_ hm hx, rfl⟩
end
/-! ### Digits -/
theorem gD_ {u : Nat} (h : ¬ u < 10) : Lib.decDigits u = Lib.decDigits (u / 10) ++ [UInt8.ofNat (48 + u % 10)] := by
  rw [Lib.decDigits, dif_neg h]
theorem fI_ {u : Nat} (h : u < 10) : Lib.decDigits u = [UInt8.ofNat (48 + u)] := by
  rw [Lib.decDigits, dif_pos h]
theorem ia_ : ∀ (m u : Nat), 1 ≤ m → u < 10 ^ m → (Lib.decDigits u).length ≤ m
  | 0, _, h, _ => by omega
  | m + 1, u, _, h => by
    by_cases hu : u < 10
    · rw [fI_ hu]; simp
    · rw [gD_ hu, List.length_append]
      rw [Nat.pow_succ] at h
      have hm : 1 ≤ m := by
        rcases m with _ | m
        · simp at h; omega
        · omega
      have := ia_ m (u / 10) hm (by omega)
      simp only [List.length_singleton]
      omega
theorem h9_ {c : UInt8} (h : isDig c = true) : UInt8.ofNat (48 + (c.toNat - 48)) = c := by
  have h1 := of_decide_eq_true h
  rw [show 48 + (c.toNat - 48) = c.toNat by omega]
  simp
theorem decD_own : ∀ (l : Txt), l ≠ [] → (∀ c ∈ l, isDig c = true) → ¬ (1 < l.length ∧ l.head? = some 48) → Lib.decDigits (decV l) = l := fun l => by
  induction hn : l.length generalizing l with
  | zero => intro h; exact absurd (List.length_eq_zero_iff.1 hn) h
  | succ n ih =>
    intro _ hd hz
    rcases List.eq_nil_or_concat l with rfl | ⟨l', c, rfl⟩
    · simp at hn
    · rw [List.concat_eq_append] at hn hd hz ⊢
      have hc : isDig c = true := hd c (by simp)
      have hc1 := of_decide_eq_true hc
      rw [gC_]
      by_cases hl : l' = []
      · subst hl
        rw [show decV [] = 0 from rfl, Nat.zero_mul, Nat.zero_add, fI_ (by omega), h9_ hc]
        rfl
      · have hlen : l'.length = n := by rw [List.length_append] at hn; simpa using hn
        have hpos : 0 < l'.length := List.length_pos_iff.2 hl
        have hh : (l' ++ [c]).head? = l'.head? := by
          cases l' with
          | nil => exact absurd rfl hl
          | cons a r => rfl
        have hz2 : ¬ l'.head? = some 48 := fun e => hz ⟨by omega, by rw [hh]; exact e⟩
        have h1 := ih l' hlen hl (fun d hd' => hd d (by simp [hd'])) (fun e => hz2 e.2)
        have hge : 1 ≤ decV l' := by
          rcases Nat.eq_zero_or_pos (decV l') with h0 | h0
          · rw [h0, fI_ (by omega)] at h1
            rw [← h1] at hz2
            exact absurd rfl hz2
          · exact h0
        rw [gD_ (by omega), show (decV l' * 10 + (c.toNat - 48)) / 10 = decV l' by omega, show (decV l' * 10 + (c.toNat - 48)) % 10 = c.toNat - 48 by omega, h1, h9_ hc]
theorem kg_ {l : Txt} (hd : ∀ c ∈ l, isDig c = true) (h : l.head? = some 48) : decV l < 10 ^ (l.length - 1) := by
  cases l with
  | nil => cases h
  | cons a r =>
    have ha : a = 48 := by simpa using h
    subst ha
    have h1 := ew_ r (fun c hc => hd c (List.mem_cons_of_mem _ hc))
    have e : decV (48 :: r) = decV r := rfl
    rw [e, List.length_cons, Nat.add_sub_cancel]
    exact h1
theorem h1_ {l : Txt} (hd : ∀ c ∈ l, isDig c = true) (hn : l ≠ []) : Lib.itoa (decV l : Nat) = l ↔ ¬ (1 < l.length ∧ l.head? = some 48) := by
  have e : Lib.itoa (decV l : Nat) = Lib.decDigits (decV l) := by
    unfold Lib.itoa
    rw [if_neg (by omega)]
    rfl
  rw [e]
  constructor
  · rintro h ⟨h1, h2⟩
    have h3 := ia_ (l.length - 1) _ (by omega) (kg_ hd h2)
    rw [h] at h3
    omega
  · exact decD_own l hn hd
theorem eT_ : ∀ (l : Txt) (a : Nat), (∀ c ∈ l, isDig c = true) → (a + 1) * 10 ^ l.length ≤ 1000000 → Lib.parseUint10 a l = .ok (l.foldl (fun a c => a * 10 + (c.toNat - 48)) a)
  | [], a, _, _ => rfl
  | c :: l, a, h, hb => by
    have hc := of_decide_eq_true (h c List.mem_cons_self : isDig c = true)
    rw [List.length_cons, Nat.pow_succ] at hb
    have hpos : 0 < 10 ^ l.length := Nat.pow_pos (by omega)
    have hb2 : (a * 10 + (c.toNat - 48) + 1) * 10 ^ l.length ≤ 1000000 := by
      refine Nat.le_trans (Nat.mul_le_mul_right _ (show a * 10 + (c.toNat - 48) + 1 ≤ (a + 1) * 10 by omega)) ?_
      rw [Nat.mul_assoc, Nat.mul_comm 10]
      exact hb
    have hb3 : a * 10 + (c.toNat - 48) + 1 ≤ 1000000 := Nat.le_trans (Nat.le_mul_of_pos_right _ hpos) hb2
    rw [List.foldl_cons]
    show (if 48 ≤ c.toNat ∧ c.toNat ≤ 57 then _ else _) = _
    rw [if_pos hc, if_neg (by omega), if_neg (by omega)]
    exact eT_ l _ (fun d hd => h d (List.mem_cons_of_mem _ hd)) hb2
theorem gM_ {l : Txt} (hd : ∀ c ∈ l, isDig c = true) (hn : l ≠ []) (h4 : l.length ≤ 4) : Lib.atoiAll l = .ok (decV l : Nat) := by
  cases l with
  | nil => exact absurd rfl hn
  | cons c r =>
    have hc := of_decide_eq_true (hd c List.mem_cons_self : isDig c = true)
    have hp : Lib.parseMag (c :: r) = .ok (decV (c :: r)) := by
      unfold Lib.parseMag
      rw [if_neg (by simp)]
      refine eT_ (c :: r) 0 hd ?_
      have h10 : 10 ^ (c :: r).length ≤ 10 ^ 4 := Nat.pow_le_pow_right (by omega) h4
      omega
    have hlt := ew_ (c :: r) hd
    have h10 : 10 ^ (c :: r).length ≤ 10 ^ 4 := Nat.pow_le_pow_right (by omega) h4
    unfold Lib.atoiAll
    simp only [show ¬ (c.toNat = 43 ∨ c.toNat = 45) by omega, if_false, hp]
    rw [if_neg (by omega), if_neg (by omega), if_neg (by omega)]
def atoiBad (l : Txt) : Bool := match Lib.atoiAll l with
  | .ok _ => false
  | _ => true
theorem atoi_bad {l : Txt} {z : Int × Value} (h : AtoiR l z) : (atoiBad l = false ∧ z.2 = .nilIface) ∨ (atoiBad l = true ∧ ∃ t u, z.2 = .iface t u) := by
  unfold AtoiR at h
  unfold atoiBad
  cases ha : Lib.atoiAll l with
  | ok v => rw [ha] at h; exact .inl ⟨rfl, by rw [h]⟩
  | range => rw [ha] at h; exact .inr ⟨rfl, h⟩
  | _ => rw [ha] at h; exact .inr ⟨rfl, h⟩
theorem fF_ {t : Txt} (h : (digs t).length ≠ 0) : digs t ≠ [] := fun e => h (by rw [e]; rfl)
theorem bad_nil : atoiBad [] = true := by decide
theorem good_val {t : Txt} {z : Int × Value} (h : AtoiR (digs t) z) (hb : atoiBad (digs t) = false) (h4 : (digs t).length ≤ 4) : (digs t).length ≠ 0 ∧ z.1 = (decV (digs t) : Nat) := by
  have hn : (digs t).length ≠ 0 := fun h0 => by
    rw [List.length_eq_zero_iff.1 h0, bad_nil] at hb
    cases hb
  refine ⟨hn, ?_⟩
  have h1 := gM_ (cA_ t) (fF_ hn) h4
  unfold AtoiR at h
  rw [h1] at h
  rw [h]
theorem numT_bad {t : Txt} (hb : atoiBad (digs t) = true) : numT t = none := by
  unfold numT
  refine if_pos ?_
  by_cases h : (digs t).length = 0 ∨ 4 < (digs t).length
  · rcases h with h | h
    · exact .inl h
    · exact .inr (.inl h)
  · have h1 := gM_ (cA_ t) (fF_ (by omega)) (by omega)
    unfold atoiBad at hb
    rw [h1] at hb
    cases hb
theorem jI_ {t : Txt} (h : 4 < (digs t).length) : numT t = none := if_pos (.inr (.inl h))
theorem numT_own {t : Txt} (h0 : (digs t).length ≠ 0) (h4 : (digs t).length ≤ 4) (h : Lib.itoa (decV (digs t) : Nat) = digs t) : numT t = some (decV (digs t), t.drop (digs t).length) := by
  have h1 := (h1_ (cA_ t) (fF_ h0)).1 h
  refine if_neg ?_
  rintro (h2 | h2 | h2)
  · exact h0 h2
  · omega
  · exact h1 h2
theorem iC_ {t : Txt} (h0 : (digs t).length ≠ 0) (h : ¬ Lib.itoa (decV (digs t) : Nat) = digs t) : numT t = none := by
  refine if_pos (.inr (.inr ?_))
  exact Classical.byContradiction fun h2 => h ((h1_ (cA_ t) (fF_ h0)).2 h2)
theorem de_ : ∀ {t : Txt} {k : Nat} (hk : k < t.length), (∀ j (hj : j < t.length), j < k → isDig t[j] = true) → ¬ isDig t[k] = true → (digs t).length = k
  | [], k, hk, _, _ => by simp at hk
  | c :: t, 0, _, _, h => by
    unfold digs
    rw [List.takeWhile_cons, if_neg (show ¬ isDig c = true from h)]
    rfl
  | c :: t, k + 1, hk, h, hn => by
    have hc : isDig c = true := h 0 (by simp) (by omega)
    unfold digs
    rw [List.takeWhile_cons, if_pos hc, List.length_cons]
    have := de_ (t := t) (k := k) (by simpa using hk) (fun j hj hjk => h (j + 1) (by simpa using hj) (by omega)) hn
    unfold digs at this
    omega
theorem fH_ : ∀ {t : Txt}, (∀ j (hj : j < t.length), isDig t[j] = true) → (digs t).length = t.length
  | [], _ => rfl
  | c :: t, h => by
    have hc : isDig c = true := h 0 (by simp)
    unfold digs
    rw [List.takeWhile_cons, if_pos hc, List.length_cons, List.length_cons]
    have := fH_ (t := t) (fun j hj => h (j + 1) (by simpa using hj))
    unfold digs at this
    omega
theorem dW_ (t : Txt) : t.take (digs t).length = digs t := by
  unfold digs
  induction t with
  | nil => rfl
  | cons c t ih =>
    rw [List.takeWhile_cons]
    split
    · rw [List.length_cons, List.take_succ_cons, ih]
    · rfl
def numL (l : Txt) : Txt := match numT (bare l) with
  | none => bare l
  | some x => x.2
def numO (l : Txt) (odd : Bool) : Bool := match numT (bare l) with
  | none => true
  | some _ => odd
def numV (l : Txt) : Int := match numT (bare l) with
  | none => 0
  | some x => (x.1 : Nat)
theorem c7_ {l : Txt} (h : numT (bare l) = none) (odd : Bool) : numL l = bare l ∧ numO l odd = true ∧ numV l = 0 := by
  unfold numL numO numV
  rw [h]
  exact ⟨rfl, rfl, rfl⟩
theorem fr_ {l : Txt} {v : Nat} {r : Txt} (h : numT (bare l) = some (v, r)) (odd : Bool) : numL l = r ∧ numO l odd = odd ∧ numV l = (v : Nat) := by
  unfold numL numO numV
  rw [h]
  exact ⟨rfl, rfl, rfl⟩
end Go.Proofs.YtickdhjljpnlpaaGreatDoor.A
namespace Go.Proofs.YtickdhjljpnlpaaGreatDoor
open Go.ChangeShapes Go.WideShapes Go.ChangeAt Go.RowKit
abbrev laidL : List (String × DataW Unit) := [("math/bits.deBruijn32tab", Rows.laid_math_bits_deBruijn32tab), ("math/bits.deBruijn64tab", Rows.laid_math_bits_deBruijn64tab), ("internal/strconv.uint64pow10", Rows.laid_internal_strconv_uint64pow10), ("unicode/utf8.acceptRanges", Rows.laid_unicode_utf8_acceptRanges), ("strconv.ErrRange", Rows.laid_strconv_ErrRange), ("strconv.ErrSyntax", Rows.laid_strconv_ErrSyntax), ("unicode/utf8.first", Rows.laid_unicode_utf8_first)]
/-! ### What the list gives a walk -/
theorem arr_ints {H : Type} {enc : TypeId × Value → H} {w : World} {base : Nat} {sp : Nat → Bool} {held : Bool} {k : IntKind} {t e : TypeId} {n fuel : Nat} {cs : List Value} {zs : List Int} {p : List MemPlace}
    (ht : Tryz.prog.underlying t = some (.array n e)) (he : Tryz.prog.underlying e = some (.int k)) (hc : Tryz.prog.cellsOf e = 1) (hct : Tryz.prog.cellsOf t = n)
    (h : DataW.trod enc Tryz.prog w base sp held fuel t cs = some (.agg (zs.map fun z => .lit (.int k z)), p)) : cs = zs.map (Value.int k) := by
  obtain ⟨xs, m, rfl, hx, hlen, hn, hel⟩ := DataW.trod_array ht h
  rw [hct] at hlen
  rw [hc] at hel
  simp only [Prod.mk.injEq, DataW.agg.injEq] at hx
  have hz : zs.length = n := by have := congrArg List.length hx.1; simpa [hn] using this
  refine List.ext_getElem (by rw [hlen, List.length_map, hz]) fun i h1 h2 => ?_
  have hi : i < n := by rw [← hlen]; exact h1
  have hxi : i < xs.length := by rw [hn]; exact hi
  have h3 := hel i hi
  rw [List.getElem?_eq_getElem hxi, Nat.mul_one, List.drop_eq_getElem_cons h1, List.take_succ_cons, List.take_zero] at h3
  obtain ⟨z, e1, e2, _⟩ := DataW.trod_int he h3
  have h4 : (zs.map fun z => (DataW.lit (.int k z) : DataW H))[i]? = (xs.map (·.1))[i]? := by rw [hx.1]
  rw [List.getElem?_map, List.getElem?_map, List.getElem?_eq_getElem hxi, List.getElem?_eq_getElem (by rw [hz]; exact hi)] at h4
  simp only [Option.map_some, Option.some.injEq] at h4
  rw [e2] at h4
  have h5 : zs[i]'(by rw [hz]; exact hi) = z := by injection h4 with h4; injection h4
  rw [List.getElem_map, h5]
  exact (List.cons.inj e1).1
theorem j7_ : "*" ++ "errors.errorString" = "*errors.errorString" := by decide
theorem es_row (u : TypeId) (h : Tryz.prog.typeName? 3 u = some "*errors.errorString") : u = 240 :=
  typeName_ptr_named (P := Tryz.prog) (nm := "errors.errorString") (by rw [j7_]; kernel_rfl) (by kernel_rfl) (by decide) u (by rw [j7_]; exact h)
theorem pow_sum : ∀ (x : DataW Unit), x = Rows.laid_internal_strconv_uint64pow10 → x = .agg (Lib.pow10Tab.map fun z => .lit (.int .u64 z)) := by
  rintro _ rfl
  kernel_rfl
theorem of_laid {W : World} (h : laidMetH Tryz.prog laidL W) : ∃ es er : Value, A.isIf es ∧ A.isIf er ∧ W.var? Tryz.prog "strconv.ErrSyntax" = some #[es] ∧ W.var? Tryz.prog "strconv.ErrRange" = some #[er] ∧ W.var? Tryz.prog "internal/strconv.uint64pow10" = some A.pow10C := by
  rw [MakeChecks.laidMetH_plain _ _ _ (by kernel_rfl)] at h
  have h2 := h.tail.tail
  have h4 := h2.tail.tail
  obtain ⟨a0, _, hv0, _⟩ := laid_sentinel (g := (Tryz.prog.globalNamed "strconv.ErrRange").getD 0) (ti := 192) (tp := 240) (te := 242) (ts := 9) h4 (by kernel_rfl) (by kernel_rfl) Tryz.underlying192 es_row Tryz.underlying240 Tryz.underlying242 rfl rfl Tryz.underlying9 (by kernel_rfl) (by kernel_rfl)
  obtain ⟨a1, _, hv1, _⟩ := laid_sentinel (g := (Tryz.prog.globalNamed "strconv.ErrSyntax").getD 0) (ti := 192) (tp := 240) (te := 242) (ts := 9) h4.tail (by kernel_rfl) (by kernel_rfl) Tryz.underlying192 es_row Tryz.underlying240 Tryz.underlying242 rfl rfl Tryz.underlying9 (by kernel_rfl) (by kernel_rfl)
  refine ⟨_, _, ⟨_, _, rfl⟩, ⟨_, _, rfl⟩, hv1, hv0, ?_⟩
  obtain ⟨ps, ⟨g, t, cs, f, p, q, hg, ht, hv, hd, _, _⟩, _, _⟩ := h2
  obtain rfl := Option.some.inj ((show Tryz.prog.globalNamed "internal/strconv.uint64pow10" = some ((Tryz.prog.globalNamed "internal/strconv.uint64pow10").getD 0) by kernel_rfl).symm.trans hg)
  obtain rfl := Option.some.inj ((show (Tryz.prog.globals[(Tryz.prog.globalNamed "internal/strconv.uint64pow10").getD 0]?).map (·.type) = some 244 by kernel_rfl).symm.trans ht)
  rw [pow_sum _ rfl] at hd
  have := arr_ints Tryz.underlying244 Tryz.underlying79 (by kernel_rfl) (by kernel_rfl) hd
  rw [hv]
  refine congrArg some (Array.toList_inj.1 ?_)
  rw [this]
  show _ = (List.map _ _).toArray.toList
  rw [List.toList_toArray]
/-! ### A world in which it holds -/
theorem laid_met (os : Os) (args : Array Value) : laidMetH Tryz.prog laidL ((World.laidAll Tryz.prog os laidL).forCall (fun _ _ => 0) ⟨#[], args, []⟩).memory := by
  rw [MakeChecks.laidMetH_plain _ _ _ (by kernel_rfl)]
  exact laidMet_laidAll args (by kernel_rfl) (by kernel_rfl)
/-! ### The walk, as a call -/
namespace A
theorem ja_ {w : World} {n : String} {cs : Array Value} (h : w.var? Tryz.prog n = some cs) : (Tryz.prog.globalNamed n).getD 0 < w.heap.size := by
  unfold World.var? at h
  cases hg : Tryz.prog.globalNamed n with
  | none => rw [hg] at h; cases h
  | some g =>
    rw [hg] at h
    simp only [Option.bind_some, Option.getD_some] at h ⊢
    rcases Nat.lt_or_ge g w.heap.size with h1 | h1
    · exact h1
    · rw [Array.getElem?_eq_none h1] at h; cases h
theorem law_ofG {f : FuncId} {args : List Abs} {es er : Value} (h : Spec Tryz.prog f args (globs es er) (fun _ : Unit => []) (fun _ => boo true)) {w : World} {vals : List Value} (hv : reps (mids (globs es er) ++ [(Tryz.prog.globalNamed "strconv.ErrSyntax").getD 0, (Tryz.prog.globalNamed "strconv.ErrRange").getD 0, (Tryz.prog.globalNamed "internal/strconv.uint64pow10").getD 0]) w args vals)
    (h1 : w.var? Tryz.prog "strconv.ErrSyntax" = some #[es]) (h2 : w.var? Tryz.prog "strconv.ErrRange" = some #[er]) (h3 : w.var? Tryz.prog "internal/strconv.uint64pow10" = some pow10C) : Calls Tryz.prog f vals.toArray w fun e w' => e = .returned (.bool true) ∧ Ext [] w w' := by
  have hm : Mem w (mids (globs es er)) [(Tryz.prog.globalNamed "strconv.ErrSyntax").getD 0, (Tryz.prog.globalNamed "strconv.ErrRange").getD 0, (Tryz.prog.globalNamed "internal/strconv.uint64pow10").getD 0] (globs es er) w := by
    refine ⟨Ext.refl w, by simp [mids, It.mids], by simp [mids, It.mids], ?_, ?_, by simp [mids, It.mids], ?_⟩
    · intro k hk
      simp only [List.mem_cons, List.not_mem_nil, or_false] at hk
      rcases hk with rfl | rfl | rfl
      · exact ja_ h1
      · exact ja_ h2
      · exact ja_ h3
    · intro x hx k hk
      simp only [globs, List.mem_cons, List.not_mem_nil, or_false] at hx
      rcases hx with rfl | rfl | rfl <;> (simp only [It.rids, gvPc, List.mem_singleton] at hk; simp [hk])
    · intro x hx
      simp only [globs, List.mem_cons, List.not_mem_nil, or_false] at hx
      rcases hx with rfl | rfl | rfl
      · exact h1
      · exact h2
      · exact h3
  refine (h _ w vals hm hv).mono fun e w' ⟨z, r, he, _, h1, h2⟩ => ⟨?_, h1.ext⟩
  have h2 : r = .bool true := h2
  rw [he, h2]
end A
/-! ### The lift -/
theorem iE_ {H : Type} {enc : TypeId × Value → H} {os : Os} (started : os.Started) {f : FuncId} {fn : Func} {s : ChangeSpec}
    (noInit : Tryz.prog.inits.idxOf? f = none) (hfn : Tryz.prog.funcs[f]? = some fn) (hvars : s.vars = []) (hres : fn.resultTypes = #[4])
    (hparB : (fn.params.toList.all fun t => Tryz.prog.readableRec t && decide (t < Tryz.prog.types.size)) = true)
    (hspec : ∀ ds : List (DataW H), ds.length = fn.params.size → s.fn H (ds ++ []) = { results := [.lit (.bool true)], args := ds })
    (wit : ∃ (w : World) (tape : Tape) (i : Input), w.os = os ∧ (w.forCall tape i).Shaped Tryz.prog ∧ i.vars = [] ∧ Input.okWide Tryz.prog (w.forCall tape i) .any w.heap.size f i ∧
      ((s.pre enc Tryz.prog fn [] false (w.forCall tape i).memory i.args ∧ laidMetH Tryz.prog laidL (w.forCall tape i).memory) ∧ sizedMet enc Tryz.prog fn (OpenSpec.ofChange s) false (w.forCall tape i).memory i.args) ∧ Assume.holds {} Tryz.prog (lone (Frame.enter Tryz.prog f i.args .normal) [] (w.forCall tape i)))
    (walk : ∀ (W : World) (base : Nat) (args : Array Value) (ds : List (DataW H)) (p : List MemPlace),
      (∀ (j : Nat) t v, fn.params[j]? = some t → args[j]? = some v → Value.okWide Tryz.prog W .any base t v) →
      DataW.TrodAll enc Tryz.prog W 0 (fun _ => true) true fn.params.toList args.toList ds p →
      laidMetH Tryz.prog laidL W →
      (DataW.weightsEach Tryz.prog fn.params.toList ds).all (· ≤ reachBytes) = true →
      Calls Tryz.prog f args W fun e W' => e = .returned (.bool true) ∧ Ext [] W W') :
    ReturnsInHanded {} Tryz.checked os f .any (fun w args => (s.pre enc Tryz.prog fn [] false w args ∧ laidMetH Tryz.prog laidL w) ∧ sizedMet enc Tryz.prog fn (OpenSpec.ofChange s) false w args) (s.post enc Tryz.prog fn false true false false) := by
  have hpar : ∀ t ∈ fn.params.toList, Tryz.prog.readableRec t = true ∧ t < Tryz.prog.types.size := by
    simpa only [List.all_eq_true, Bool.and_eq_true, decide_eq_true_eq] using hparB
  refine returnsInHanded_of_change_and (C := Tryz.checked) (X := fun w _ => laidMetH Tryz.prog laidL w) (fun _ _ _ hh h => h.of_heap hh) law_own started noInit hfn wit ?_
  intro W base args ds gs before hval0 hW hcnd hsz hL _
  have hval : ∀ (j : Nat) t v, fn.params[j]? = some t → args[j]? = some v → Value.okWide Tryz.prog W .any base t v := hval0
  have hW' := hW
  obtain ⟨p, q, hA0, hV, rfl, hfz, hnd⟩ := hW
  have hA : DataW.TrodAll enc Tryz.prog W 0 (fun _ => true) true fn.params.toList args.toList ds p := hA0
  rw [hvars] at hV
  obtain ⟨rfl, rfl⟩ := trodVars_none hV
  have hsz' : (DataW.weightsEach Tryz.prog fn.params.toList ds).all (· ≤ reachBytes) = true := by
    have h2 := hsz
    simp only [OpenSpec.bare, OpenSpec.ofChange, ChangeSpec.plain, DataSpec.varTypes, hvars, List.filterMap_nil, List.append_nil] at h2
    exact h2
  refine (walk W base args ds p hval hA hL hsz').mono fun e W' ⟨he, bel⟩ => ?_
  subst he
  have hlen : ds.length = fn.params.size := by
    have : ∀ (ts : List TypeId) (vs : List Value) (ds : List (DataW H)) (p : List MemPlace), DataW.TrodAll enc Tryz.prog W 0 (fun _ => true) true ts vs ds p → ds.length = ts.length := by
      intro ts
      induction ts with
      | nil => intro vs ds p h; cases vs <;> cases ds <;> first | rfl | exact h.elim
      | cons t ts ih =>
        intro vs ds p h
        cases vs with
        | nil => exact h.elim
        | cons v vs =>
          cases ds with
          | nil => exact h.elim
          | cons d ds => obtain ⟨p0, q0, _, h1, _⟩ := h; simp [ih vs ds q0 h1]
    simpa using this _ _ _ _ hA
  obtain ⟨pa, hpa⟩ := c1_ (enc := enc) bel.below fn.params.toList args.toList ds p hpar hA
  refine ⟨_, rfl, ds, [], p ++ [], [], pa, [], hW', ?_, ?_, ?_, bel.below.frame _, fun h => by cases h⟩
  · rw [hspec ds hlen, hres]
    exact trodAll_mk1 (shut_bool Tryz.underlying4 _)
  · rw [hspec ds hlen]; exact hpa
  · rw [hspec ds hlen, hvars]; rfl
theorem jS_ {H : Type} {enc : TypeId × Value → H} {os : Os} (started : os.Started) {f : FuncId} {fn : Func} {s : ChangeSpec}
    (noInit : Tryz.prog.inits.idxOf? f = none) (hfn : Tryz.prog.funcs[f]? = some fn) (hvars : s.vars = []) (hres : fn.resultTypes = #[4])
    (hparB : (fn.params.toList.all fun t => Tryz.prog.readableRec t && decide (t < Tryz.prog.types.size)) = true)
    (hspec : ∀ ds : List (DataW H), ds.length = fn.params.size → s.fn H (ds ++ []) = { results := [.lit (.bool true)], args := ds })
    (wit : ∃ (w : World) (tape : Tape) (i : Input), w.os = os ∧ (w.forCall tape i).Shaped Tryz.prog ∧ i.vars = [] ∧ Input.okWide Tryz.prog (w.forCall tape i) .any w.heap.size f i ∧
      ((s.pre enc Tryz.prog fn [] false (w.forCall tape i).memory i.args ∧ laidMetH Tryz.prog laidL (w.forCall tape i).memory) ∧ sizedMet enc Tryz.prog fn (OpenSpec.ofChange s) false (w.forCall tape i).memory i.args) ∧ Assume.holds {} Tryz.prog (lone (Frame.enter Tryz.prog f i.args .normal) [] (w.forCall tape i)))
    (walk : ∀ (W : World) (base : Nat) (args : Array Value) (ds : List (DataW H)) (p : List MemPlace),
      (∀ (j : Nat) t v, fn.params[j]? = some t → args[j]? = some v → Value.okWide Tryz.prog W .any base t v) →
      DataW.TrodAll enc Tryz.prog W 0 (fun _ => true) true fn.params.toList args.toList ds p →
      laidMetH Tryz.prog laidL W →
      Calls Tryz.prog f args W fun e W' => e = .returned (.bool true) ∧ Ext [] W W') :
    ReturnsInHanded {} Tryz.checked os f .any (fun w args => (s.pre enc Tryz.prog fn [] false w args ∧ laidMetH Tryz.prog laidL w) ∧ sizedMet enc Tryz.prog fn (OpenSpec.ofChange s) false w args) (s.post enc Tryz.prog fn false true false false) :=
  iE_ started noInit hfn hvars hres hparB hspec wit fun W base args ds p hval hA hL _ => walk W base args ds p hval hA hL
def isAmt (a : Int) : Bool := decide (0 ≤ a ∧ a ≤ 1099511627776)
theorem aB_ {a : Int} (h : isAmt a = true) : 0 ≤ a ∧ a ≤ 1099511627776 := by simpa [isAmt] using h
theorem aK_ {a : Int} (h0 : 0 ≤ a) (h1 : a ≤ 1099511627776) : isAmt a = true := by simp [isAmt]; omega
def amtAdd (a b : Int) : Int × Int := if !isAmt a || !isAmt b then (0, 5) else if isAmt (a + b) then (a + b, 0) else (0, 6)
def amtSub (a b : Int) : Int × Int := if !isAmt a || !isAmt b then (0, 5) else if isAmt (a - b) then (a - b, 0) else (0, 6)
def amtChange (a b : Int) : Int × Int := if b < 0 ∧ -1099511627776 ≤ b then amtSub a (-b) else amtAdd a b
theorem u64_neg {a : Int} (h0 : -9223372036854775808 ≤ a) (h1 : a < 0) : IntKind.u64.wrap a = a + 18446744073709551616 := by
  simp [IntKind.wrap, IntKind.signed, IntKind.bits]; omega
theorem aZ_ (a : Int) (b : Bool) (hb : isAmt a = b) (w : World) (h0 : -9223372036854775808 ≤ a) (h1 : a ≤ 9223372036854775807) :
    Calls Tryz.prog 81 #[.int .i64 a] w fun e w' => e = .returned (.bool b) ∧ w = w' := by
  by_cases h : 0 ≤ a
  · go_enter Tryz.func81, Tryz.ntmps81
    go_wp2
    go_ret
    refine ⟨fk_ ?_, rfl⟩
    rw [← hb, isAmt]; simp [h]
  · go_enter Tryz.func81, Tryz.ntmps81
    go_wp2
    go_ret
    refine ⟨fk_ ?_, rfl⟩
    rw [← hb, isAmt, u64_neg h0 (by omega), decide_eq_decide]; omega
theorem bu_ (a : Int) (b : Bool) (hb : isAmt a = b) (w : World) :
    Calls Tryz.prog 31 #[.int .i64 a] w fun e w' => e = .returned (.bool b) ∧ w = w' := by
  by_cases h : 0 ≤ a
  · by_cases h2 : a ≤ 1099511627776
    · obtain rfl : true = b := by rw [← hb, aK_ h h2]
      go_enter Tryz.func31, Tryz.ntmps31
      go_wp2
      go_ret
      exact ⟨rfl, rfl⟩
    · obtain rfl : false = b := by rw [← hb]; simp [isAmt]; omega
      go_enter Tryz.func31, Tryz.ntmps31
      go_wp2
      go_ret
      exact ⟨rfl, rfl⟩
  · obtain rfl : false = b := by rw [← hb]; simp [isAmt]; omega
    go_enter Tryz.func31, Tryz.ntmps31
    go_wp2
    go_ret
    exact ⟨rfl, rfl⟩
theorem eV_ (a : Int) (w : World) (h0 : -9223372036854775808 ≤ a) (h1 : a ≤ 9223372036854775807) :
    Calls Tryz.prog 125 #[.int .i64 a] w fun e w' => e = .returned (.tuple #[.int .i64 (if isAmt a then a else 0), .int .i64 (if isAmt a then 0 else 6)]) ∧ w = w' := by
  cases h : isAmt a
  all_goals
    have H := Lib.hid h; clear h
    go_enter Tryz.func125, Tryz.ntmps125
    go_wp2_with (go_at_call 81; refine (aZ_ _ _ H.out _ h0 h1).mono ?_; rintro e _ ⟨rfl, rfl⟩)
    go_ret2
    exact ⟨rfl, rfl⟩
theorem eh_ (a b : Int) (w : World) (a0 : -9223372036854775808 ≤ a) (a1 : a ≤ 9223372036854775807) (b0 : -9223372036854775808 ≤ b) (b1 : b ≤ 9223372036854775807) :
    Calls Tryz.prog 104 #[.int .i64 a, .int .i64 b] w fun e w' => e = .returned (.tuple #[.int .i64 (amtAdd a b).1, .int .i64 (amtAdd a b).2]) ∧ w = w' := by
  cases ha : isAmt a
  · have fin : amtAdd a b = (0, 5) := by simp [amtAdd, ha]
    rw [fin]
    have HA := Lib.hid ha; clear ha fin
    go_enter Tryz.func104, Tryz.ntmps104
    go_wp2_with (go_at_call 81; refine (aZ_ _ _ HA.out _ a0 a1).mono ?_; rintro e _ ⟨rfl, rfl⟩)
    go_ret2
    exact ⟨rfl, rfl⟩
  · cases hb : isAmt b
    · have fin : amtAdd a b = (0, 5) := by simp [amtAdd, ha, hb]
      rw [fin]
      have HA := Lib.hid ha; clear ha fin
      have HB := Lib.hid hb; clear hb
      go_enter Tryz.func104, Tryz.ntmps104
      go_wp2_with (first
        | (go_at_call 81; with_reducible refine (aZ_ a _ HA.out _ a0 a1).mono ?_; rintro e _ ⟨rfl, rfl⟩)
        | (go_at_call 81; with_reducible refine (aZ_ b _ HB.out _ b0 b1).mono ?_; rintro e _ ⟨rfl, rfl⟩))
      go_ret2
      exact ⟨rfl, rfl⟩
    · have xa := aB_ ha
      have xb := aB_ hb
      obtain ⟨xa0, xa1⟩ := xa
      obtain ⟨xb0, xb1⟩ := xb
      have fin : amtAdd a b = (if isAmt (a + b) then a + b else 0, if isAmt (a + b) then 0 else 6) := by
        cases hc : isAmt (a + b) <;> simp [amtAdd, ha, hb, hc]
      rw [fin]
      have HA := Lib.hid ha; clear ha fin
      have HB := Lib.hid hb; clear hb
      have KK := eV_ (a + b) w (by omega) (by omega)
      have HK := Lib.hid KK; clear KK
      go_enter Tryz.func104, Tryz.ntmps104
      go_wp2_with (first
        | (go_at_call 81; with_reducible refine (aZ_ a _ HA.out _ a0 a1).mono ?_; rintro e _ ⟨rfl, rfl⟩)
        | (go_at_call 81; with_reducible refine (aZ_ b _ HB.out _ b0 b1).mono ?_; rintro e _ ⟨rfl, rfl⟩)
        | (go_at_call 125; refine HK.out.mono ?_; rintro e _ ⟨rfl, rfl⟩))
      all_goals
        go_ret2
        exact ⟨rfl, rfl⟩
theorem jJ_ (a b : Int) (w : World) (a0 : -9223372036854775808 ≤ a) (a1 : a ≤ 9223372036854775807) (b0 : -9223372036854775808 ≤ b) (b1 : b ≤ 9223372036854775807) :
    Calls Tryz.prog 173 #[.int .i64 a, .int .i64 b] w fun e w' => e = .returned (.tuple #[.int .i64 (amtSub a b).1, .int .i64 (amtSub a b).2]) ∧ w = w' := by
  cases ha : isAmt a
  · have fin : amtSub a b = (0, 5) := by simp [amtSub, ha]
    rw [fin]
    have HA := Lib.hid ha; clear ha fin
    go_enter Tryz.func173, Tryz.ntmps173
    go_wp2_with (go_at_call 81; refine (aZ_ _ _ HA.out _ a0 a1).mono ?_; rintro e _ ⟨rfl, rfl⟩)
    go_ret2
    exact ⟨rfl, rfl⟩
  · cases hb : isAmt b
    · have fin : amtSub a b = (0, 5) := by simp [amtSub, ha, hb]
      rw [fin]
      have HA := Lib.hid ha; clear ha fin
      have HB := Lib.hid hb; clear hb
      go_enter Tryz.func173, Tryz.ntmps173
      go_wp2_with (first
        | (go_at_call 81; with_reducible refine (aZ_ a _ HA.out _ a0 a1).mono ?_; rintro e _ ⟨rfl, rfl⟩)
        | (go_at_call 81; with_reducible refine (aZ_ b _ HB.out _ b0 b1).mono ?_; rintro e _ ⟨rfl, rfl⟩))
      go_ret2
      exact ⟨rfl, rfl⟩
    · have xa := aB_ ha
      have xb := aB_ hb
      obtain ⟨xa0, xa1⟩ := xa
      obtain ⟨xb0, xb1⟩ := xb
      have fin : amtSub a b = (if isAmt (a - b) then a - b else 0, if isAmt (a - b) then 0 else 6) := by
        cases hc : isAmt (a - b) <;> simp [amtSub, ha, hb, hc]
      rw [fin]
      have HA := Lib.hid ha; clear ha fin
      have HB := Lib.hid hb; clear hb
      have KK := eV_ (a - b) w (by omega) (by omega)
      have HK := Lib.hid KK; clear KK
      go_enter Tryz.func173, Tryz.ntmps173
      go_wp2_with (first
        | (go_at_call 81; with_reducible refine (aZ_ a _ HA.out _ a0 a1).mono ?_; rintro e _ ⟨rfl, rfl⟩)
        | (go_at_call 81; with_reducible refine (aZ_ b _ HB.out _ b0 b1).mono ?_; rintro e _ ⟨rfl, rfl⟩)
        | (go_at_call 125; refine HK.out.mono ?_; rintro e _ ⟨rfl, rfl⟩))
      all_goals
        go_ret2
        exact ⟨rfl, rfl⟩
theorem bA_ (a b : Int) (w : World) (a0 : -9223372036854775808 ≤ a) (a1 : a ≤ 9223372036854775807) (b0 : -9223372036854775808 ≤ b) (b1 : b ≤ 9223372036854775807) :
    Calls Tryz.prog 161 #[.int .i64 a, .int .i64 b] w fun e w' => e = .returned (.tuple #[.int .i64 (amtChange a b).1, .int .i64 (amtChange a b).2]) ∧ w = w' := by
  by_cases h0 : b < 0
  · by_cases h1 : -1099511627776 ≤ b
    · have fin : amtChange a b = amtSub a (-b) := by simp [amtChange, h0, h1]
      rw [fin]; clear fin
      go_enter Tryz.func161, Tryz.ntmps161
      go_wp2_with (go_at_call 173; refine (jJ_ _ _ _ (by omega) (by omega) (by omega) (by omega)).mono ?_; rintro e _ ⟨rfl, rfl⟩)
      go_ret2
      exact ⟨rfl, rfl⟩
    · have fin : amtChange a b = amtAdd a b := by simp [amtChange, h1]
      rw [fin]; clear fin
      go_enter Tryz.func161, Tryz.ntmps161
      go_wp2_with (go_at_call 104; refine (eh_ _ _ _ a0 a1 b0 b1).mono ?_; rintro e _ ⟨rfl, rfl⟩)
      go_ret2
      exact ⟨rfl, rfl⟩
  · have fin : amtChange a b = amtAdd a b := by simp [amtChange, h0]
    rw [fin]; clear fin
    go_enter Tryz.func161, Tryz.ntmps161
    go_wp2_with (go_at_call 104; refine (eh_ _ _ _ a0 a1 b0 b1).mono ?_; rintro e _ ⟨rfl, rfl⟩)
    go_ret2
    exact ⟨rfl, rfl⟩
def refChange (a b : Int) : Int × Int := if !isAmt a || decide (b < -1099511627776) || decide (1099511627776 < b) then (0, 5) else if isAmt (a + b) then (a + b, 0) else (0, 6)
theorem c5_ (a b : Int) (h : isAmt b = true) : refChange a b = amtAdd a b := by
  have hb := aB_ h
  have h1 : decide (b < -1099511627776) = false := by simp; omega
  have h2 : decide (1099511627776 < b) = false := by simp; omega
  simp [refChange, amtAdd, h, h1, h2]
theorem fn_ (a b : Int) (h : isAmt b = true) : refChange a (0 - b) = amtSub a b := by
  have hb := aB_ h
  have h1 : decide (0 - b < -1099511627776) = false := by simp; omega
  have h2 : decide (1099511627776 < 0 - b) = false := by simp; omega
  have h3 : a + (0 - b) = a - b := by omega
  simp only [refChange, amtSub, h, h1, h2, h3, Bool.or_false, Bool.not_true]
theorem dH_ (a b : Int) : amtChange a b = refChange a b := by
  unfold amtChange
  by_cases h0 : b < 0
  · by_cases h1 : -1099511627776 ≤ b
    · rw [if_pos ⟨h0, h1⟩, ← fn_ a (-b) (aK_ (by omega) (by omega))]
      congr 1; omega
    · rw [if_neg (by omega)]
      have h2 : isAmt b = false := by simp [isAmt]; omega
      have h3 : decide (b < -1099511627776) = true := by simp; omega
      simp [amtAdd, refChange, h2, h3]
  · rw [if_neg (by omega)]
    by_cases h1 : b ≤ 1099511627776
    · exact (c5_ a b (aK_ (by omega) h1)).symm
    · have h2 : isAmt b = false := by simp [isAmt]; omega
      have h3 : decide (1099511627776 < b) = true := by simp; omega
      simp [amtAdd, refChange, h2, h3]
theorem dC_ (a b : Int) (w : World) (a0 : -9223372036854775808 ≤ a) (a1 : a ≤ 9223372036854775807) (b0 : -9223372036854775808 ≤ b) (b1 : b ≤ 9223372036854775807) :
    Calls Tryz.prog 114 #[.int .i64 a, .int .i64 b] w fun e w' => e = .returned (.tuple #[.int .i64 (refChange a b).1, .int .i64 (refChange a b).2]) ∧ w = w' := by
  cases ha : isAmt a
  · have fin : refChange a b = (0, 5) := by simp [refChange, ha]
    rw [fin]
    have HA := Lib.hid ha; clear ha fin
    go_enter Tryz.func114, Tryz.ntmps114
    go_wp2_with (go_at_call 31; with_reducible refine (bu_ a _ HA.out _).mono ?_; rintro e _ ⟨rfl, rfl⟩)
    go_ret2
    exact ⟨rfl, rfl⟩
  · have xa := aB_ ha
    obtain ⟨xa0, xa1⟩ := xa
    have HA := Lib.hid ha
    by_cases h1 : b < -1099511627776
    · have fin : refChange a b = (0, 5) := by simp [refChange, h1]
      rw [fin]
      clear ha fin
      go_enter Tryz.func114, Tryz.ntmps114
      go_wp2_with (go_at_call 31; with_reducible refine (bu_ a _ HA.out _).mono ?_; rintro e _ ⟨rfl, rfl⟩)
      go_ret2
      exact ⟨rfl, rfl⟩
    · by_cases h2 : 1099511627776 < b
      · have fin : refChange a b = (0, 5) := by simp [refChange, h2]
        rw [fin]
        clear ha fin
        go_enter Tryz.func114, Tryz.ntmps114
        go_wp2_with (go_at_call 31; with_reducible refine (bu_ a _ HA.out _).mono ?_; rintro e _ ⟨rfl, rfl⟩)
        go_ret2
        exact ⟨rfl, rfl⟩
      · cases hc : isAmt (a + b)
        · have fin : refChange a b = (0, 6) := by simp [refChange, ha, h1, h2, hc]
          rw [fin]
          have HC := Lib.hid hc
          clear ha fin hc
          go_enter Tryz.func114, Tryz.ntmps114
          go_wp2_with (first
            | (go_at_call 31; with_reducible refine (bu_ a _ HA.out _).mono ?_; rintro e _ ⟨rfl, rfl⟩)
            | (go_at_call 31; with_reducible refine (bu_ (a + b) _ HC.out _).mono ?_; rintro e _ ⟨rfl, rfl⟩))
          go_ret2
          exact ⟨rfl, rfl⟩
        · have fin : refChange a b = (a + b, 0) := by simp [refChange, ha, h1, h2, hc]
          rw [fin]
          have HC := Lib.hid hc
          clear ha fin hc
          go_enter Tryz.func114, Tryz.ntmps114
          go_wp2_with (first
            | (go_at_call 31; with_reducible refine (bu_ a _ HA.out _).mono ?_; rintro e _ ⟨rfl, rfl⟩)
            | (go_at_call 31; with_reducible refine (bu_ (a + b) _ HC.out _).mono ?_; rintro e _ ⟨rfl, rfl⟩))
          go_ret2
          exact ⟨rfl, rfl⟩
theorem jr_ (a b : Int) (w : World) (a0 : -9223372036854775808 ≤ a) (a1 : a ≤ 9223372036854775807) (b0 : -9223372036854775808 ≤ b) (b1 : b ≤ 9223372036854775807) :
    Calls Tryz.prog 92 #[.int .i64 a, .int .i64 b] w fun e w' => e = .returned (.tuple #[.int .i64 (amtAdd a b).1, .int .i64 (amtAdd a b).2]) ∧ w = w' := by
  cases hb : isAmt b
  · have fin : amtAdd a b = (0, 5) := by simp [amtAdd, hb]
    rw [fin]
    have HB := Lib.hid hb; clear hb fin
    go_enter Tryz.func92, Tryz.ntmps92
    go_wp2_with (go_at_call 31; with_reducible refine (bu_ b _ HB.out _).mono ?_; rintro e _ ⟨rfl, rfl⟩)
    go_ret2
    exact ⟨rfl, rfl⟩
  · have xb := aB_ hb
    obtain ⟨xb0, xb1⟩ := xb
    have HC := dC_ a b w a0 a1 (by omega) (by omega)
    rw [c5_ a b hb] at HC
    have HB := Lib.hid hb; clear hb
    have HD := Lib.hid HC; clear HC
    go_enter Tryz.func92, Tryz.ntmps92
    go_wp2_with (first
      | (go_at_call 31; with_reducible refine (bu_ b _ HB.out _).mono ?_; rintro e _ ⟨rfl, rfl⟩)
      | (go_at_call 114; refine HD.out.mono ?_; rintro e _ ⟨rfl, rfl⟩))
    go_ret2
    exact ⟨rfl, rfl⟩
theorem eA_ (a b : Int) : isAmt (amtAdd a b).1 = true := by
  unfold amtAdd; split
  · exact aK_ (by decide) (by decide)
  · split
    · assumption
    · exact aK_ (by decide) (by decide)
theorem kr_ (a b : Int) : isAmt (amtSub a b).1 = true := by
  unfold amtSub; split
  · exact aK_ (by decide) (by decide)
  · split
    · assumption
    · exact aK_ (by decide) (by decide)
theorem gO_ (a b : Int) : isAmt (amtChange a b).1 = true := by
  unfold amtChange; split
  · exact kr_ _ _
  · exact eA_ _ _
theorem bm_ (a b : Int) (w : World) (a0 : -9223372036854775808 ≤ a) (a1 : a ≤ 9223372036854775807) (b0 : -9223372036854775808 ≤ b) (b1 : b ≤ 9223372036854775807) :
    Calls Tryz.prog 114 #[.int .i64 a, .int .i64 b] w fun e w' => e = .returned (.tuple #[.int .i64 (amtChange a b).1, .int .i64 (amtChange a b).2]) ∧ w = w' := by
  rw [dH_]; exact dC_ a b w a0 a1 b0 b1
end Go.Proofs.YtickdhjljpnlpaaGreatDoor
