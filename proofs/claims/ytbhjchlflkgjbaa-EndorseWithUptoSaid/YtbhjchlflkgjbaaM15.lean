/-
  Packed out of the texts: Y0, A10, A11, A12, A13, Book, BookDo, BookSee, Arr32, BookCheck, BookLaw, BookInv, StrK.
-/
import Derived.Test.YtbhjchlflkgjbaaM14
import Derived.DeepKeys4
import Derived.Laws.BytesArg
import Derived.Laws.CopyOwn
import Derived.DataShut
import Derived.Lib.SlBytesConst
/-
  Tallies, plain: who votes for what, and how many do.
-/
set_option maxRecDepth 100000
set_option linter.unusedSimpArgs false
set_option linter.unusedVariables false
namespace Go.Proofs.Ytbhjchlflkgjbaa.A
open Go.RowKit

section
variable {α : Type} [DecidableEq α] {m : List (Int × α)} {c : List (α × Nat)} {u v k : α} {w who : Int}
def cget (c : List (α × Nat)) (v : α) : Nat := (aget c v).getD 0
def cnt (m : List (Int × α)) (v : α) : Nat := (m.filter fun p => decide (p.2 = v)).length
/-- One vote less for something. -/
def decO (c : List (α × Nat)) : Option α → List (α × Nat)
  | none => c
  | some v => if cget (aput c v (cget c v - 1)) v = 0 then adel (aput c v (cget c v - 1)) v else aput c v (cget c v - 1)
def chgC (m : List (Int × α)) (c : List (α × Nat)) (who : Int) (k : α) : List (α × Nat) := aput (decO c (aget m who)) k (cget (decO c (aget m who)) k + 1)
structure TInv (m : List (Int × α)) (c : List (α × Nat)) : Prop where
  nd : (m.map (·.1)).Nodup
  num : ∀ v, cget c v = cnt m v
theorem cget_aput (c : List (α × Nat)) (k v : α) (n : Nat) : cget (aput c k n) v = if v = k then n else cget c v := by
  unfold cget
  rw [aget_aput]
  split <;> rfl
theorem cget_adel (c : List (α × Nat)) (k v : α) : cget (adel c k) v = if v = k then 0 else cget c v := by
  unfold cget
  rw [aget_adel]
  split <;> rfl
theorem cget_dec (c : List (α × Nat)) (u v : α) : cget (decO c (some u)) v = if v = u then cget c u - 1 else cget c v := by
  show cget (if cget (aput c u (cget c u - 1)) u = 0 then adel (aput c u (cget c u - 1)) u else aput c u (cget c u - 1)) v = _
  split
  · next h =>
    rw [cget_aput, if_pos rfl] at h
    rw [cget_adel, cget_aput]
    split
    · omega
    · rfl
  · rw [cget_aput]
theorem cnt_cons (p : Int × α) (m : List (Int × α)) (v : α) : cnt (p :: m) v = (if p.2 = v then 1 else 0) + cnt m v := by
  unfold cnt
  rw [List.filter_cons]
  by_cases h : p.2 = v
  · simp [h]; omega
  · simp [h]
theorem cnt_append (m l : List (Int × α)) (v : α) : cnt (m ++ l) v = cnt m v + cnt l v := by simp [cnt]
theorem cnt_le (m : List (Int × α)) (v : α) : cnt m v ≤ m.length := List.length_filter_le _ _
omit [DecidableEq α] in
theorem aget_cons (p : Int × α) (m : List (Int × α)) (w : Int) : aget (p :: m) w = if p.1 = w then some p.2 else aget m w := by
  unfold aget
  rw [List.find?_cons]
  by_cases h : p.1 = w <;> simp [h]
theorem cnt_pos : ∀ {m : List (Int × α)} {w : Int} {v : α}, aget m w = some v → 1 ≤ cnt m v
  | [], w, v, h => by cases h
  | p :: m, w, v, h => by
    rw [aget_cons] at h
    rw [cnt_cons]
    split at h
    · have := Option.some.inj h
      rw [if_pos this]
      omega
    · have := cnt_pos h
      omega
omit [DecidableEq α] in
theorem aput_new (h : aget m w = none) (k : α) : aput m w k = m ++ [(w, k)] := by
  unfold aput
  rw [if_neg (by rw [h]; simp)]
theorem cnt_new (h : aget m w = none) (k v : α) : cnt (aput m w k) v = cnt m v + (if k = v then 1 else 0) := by
  rw [aput_new h, cnt_append]
  congr 1
  rw [cnt_cons]
  simp [cnt]
omit [DecidableEq α] in
theorem map_none : ∀ {m : List (Int × α)} {w : Int} {k : α}, w ∉ m.map (·.1) → (m.map fun p => if p.1 = w then (w, k) else p) = m
  | [], _, _, _ => rfl
  | p :: m, w, k, h => by
    rw [List.map_cons, List.mem_cons, not_or] at h
    rw [List.map_cons, if_neg (fun e => h.1 e.symm), map_none h.2]
theorem cnt_old : ∀ {m : List (Int × α)} {w : Int} {u : α}, (m.map (·.1)).Nodup → aget m w = some u → ∀ k v : α, cnt (m.map fun p => if p.1 = w then (w, k) else p) v + (if u = v then 1 else 0) = cnt m v + (if k = v then 1 else 0)
  | [], w, u, _, h, _, _ => by cases h
  | p :: m, w, u, hn, h, k, v => by
    rw [List.map_cons, List.nodup_cons] at hn
    rw [aget_cons] at h
    rw [List.map_cons, cnt_cons, cnt_cons]
    by_cases hp : p.1 = w
    · rw [if_pos hp] at h
      have := Option.some.inj h
      subst this
      subst hp
      rw [if_pos rfl, map_none hn.1]
      dsimp only
      omega
    · rw [if_neg hp] at h
      have := cnt_old hn.2 h k v
      rw [if_neg hp]
      omega
theorem TInv.nil : TInv ([] : List (Int × α)) [] := ⟨by simp, fun v => rfl⟩
theorem TInv.chg (h : TInv m c) (who : Int) (k : α) : TInv (aput m who k) (chgC m c who k) := by
  refine ⟨aput_nodup h.nd who k, fun v => ?_⟩
  unfold chgC
  rw [cget_aput]
  cases hw : aget m who with
  | none =>
    rw [cnt_new hw]
    show (if v = k then cget c k + 1 else cget c v) = _
    rw [h.num, h.num]
    by_cases hv : v = k
    · subst hv; simp
    · rw [if_neg hv, if_neg (fun e => hv e.symm)]; omega
  | some u =>
    have h1 := cnt_old h.nd hw k v
    have h2 := cnt_pos hw
    have e : aput m who k = m.map fun p => if p.1 = who then (who, k) else p := by
      unfold aput
      rw [if_pos (by rw [hw]; rfl)]
    rw [e, cget_dec, cget_dec, h.num, h.num, h.num]
    by_cases hv : v = k
    · subst hv
      have e1 : (if v = v then 1 else 0) = 1 := if_pos rfl
      rw [e1] at h1
      rw [if_pos rfl]
      by_cases hu : v = u
      · subst hu
        rw [if_pos rfl] at h1 ⊢
        omega
      · have e2 : (if u = v then 1 else 0) = 0 := if_neg fun e => hu e.symm
        rw [e2] at h1
        rw [if_neg hu]
        omega
    · have e1 : (if k = v then 1 else 0) = 0 := if_neg fun e => hv e.symm
      rw [e1] at h1
      rw [if_neg hv]
      by_cases hu : v = u
      · subst hu
        rw [if_pos rfl] at h1 ⊢
        omega
      · have e2 : (if u = v then 1 else 0) = 0 := if_neg fun e => hu e.symm
        rw [e2] at h1
        rw [if_neg hu]
        omega
theorem TInv.le (h : TInv m c) (v : α) : cget c v ≤ m.length := by rw [h.num]; exact cnt_le m v
theorem TInv.pos (h : TInv m c) (hw : aget m who = some v) : 1 ≤ cget c v := by rw [h.num]; exact cnt_pos hw
theorem TInv.dec_le (h : TInv m c) (o : Option α) (v : α) : cget (decO c o) v ≤ m.length := by
  cases o with
  | none => exact h.le v
  | some u =>
    rw [cget_dec]
    have h1 := h.le u
    have h2 := h.le v
    split <;> omega
theorem dec_del (h : cget (aput c v (cget c v - 1)) v = 0) : adel (aput c v (cget c v - 1)) v = decO c (some v) := (if_pos h).symm
theorem dec_keep (h : ¬ cget (aput c v (cget c v - 1)) v = 0) : decO c (some v) = aput c v (cget c v - 1) := if_neg h
theorem cget_is (c : List (α × Nat)) (v : α) : (int ((cget c v : Nat) : Int)).is (((aget c v).map cntV).getD (cntV 0)) := by
  unfold cget
  cases aget c v with
  | none => exact is_v
  | some n => exact is_v
omit [DecidableEq α] in
theorem aput_length_le (m : List (Int × α)) (w : Int) (k : α) : (aput m w k).length ≤ m.length + 1 := by
  rw [aput_length]
  split <;> omega
/-- What enough vote for, the lowest voter first. -/
def leastO (m : List (Int × α)) (c : List (α × Nat)) (at_ : Int) : List Int → Option α
  | [] => none
  | w :: ks => match aget m w with
    | some v => if 1 ≤ at_ ∧ at_ ≤ cget c v then some v else leastO m c at_ ks
    | none => leastO m c at_ ks
theorem leastO_cons (m : List (Int × α)) (c : List (α × Nat)) (at_ : Int) (w : Int) (ks : List Int) : leastO m c at_ (w :: ks) = match aget m w with
    | some v => if 1 ≤ at_ ∧ at_ ≤ cget c v then some v else leastO m c at_ ks
    | none => leastO m c at_ ks := rfl
/-- The rest of a row, of which none was enough so far. -/
theorem leastO_drop {m : List (Int × α)} {c : List (α × Nat)} {at_ : Int} : ∀ {ks : List Int} {z : Nat}, (∀ j (h : j < ks.length), j < z → ∀ v, aget m ks[j] = some v → ¬ (1 ≤ at_ ∧ at_ ≤ cget c v)) → leastO m c at_ ks = leastO m c at_ (ks.drop z)
  | ks, 0, _ => rfl
  | [], z + 1, _ => rfl
  | w :: ks, z + 1, h => by
    have h0 := h 0 (by simp) (by omega)
    simp only [List.getElem_cons_zero] at h0
    have h1 := leastO_drop (ks := ks) (z := z) fun j hj hz v hv => h (j + 1) (by simpa using hj) (by omega) v hv
    rw [List.drop_succ_cons, ← h1]
    rw [leastO_cons]
    cases hw : aget m w with
    | none => rfl
    | some v => exact if_neg (h0 v hw)
end
end Go.Proofs.Ytbhjchlflkgjbaa.A
/-
  The second engine: rows of one's own, read; calls that change several pieces.
-/
set_option maxRecDepth 100000
set_option linter.unusedSimpArgs false
set_option linter.unusedVariables false
namespace Go.Proofs.Ytbhjchlflkgjbaa.A
open Go.RowKit

def isOwn (σ : Blks) (e : TypeId) (s : Nat) (v : Value) (xs : List (List Abs)) : Prop := own e s v xs ∈ σ ∨ It.rdpc (ownPc e s v xs) ∈ σ
/-- The address of so many cells behind a row's first one. -/
def eptr : Value → Nat → Value
  | .slice (some ⟨b, off, _⟩) _ _, o => .pointer (some ⟨b, off + o, none⟩)
  | v, _ => v
section
variable {P : Program} {n : Nat} {W : Wd} {σ τ : Blks} {l : Slots} {X : List Nat} {x y z : Operand} {d : Option Nat} {ty t e e' : TypeId} {pos : String} {aft : Array Edge} {g : Option (Nat × Bool)} {v : Value} {k : IntKind} {A : Abs} {tab : List (Nat × TI)} {xs : List (List Abs)} {s q : Nat} {cs : List Abs}
theorem Mem.ownR {w0 w : World} {F G : List Nat} (h : Mem w0 F G σ w) (hb : isOwn σ e s v xs) : ∃ us, IsRow [] w v xs.length us ∧ repss (mids σ ++ G) w s xs us := by
  have hp : (ownPc e s v xs).p (mids σ ++ G) w := by
    rcases hb with hb | hb
    · exact h.hold _ hb
    · exact h.hold _ hb
  obtain ⟨us, h1, h2⟩ := hp
  exact ⟨us, ownsRow.isRow h1 (by simp), h2⟩
theorem Val.lenOwnR {m : Nat} (hx : look l x = some (.v v)) (hb : isOwn σ e' s v xs) (ht : P.underlying t = some (.slice e)) (hm : xs.length = m) : Val P n W σ l X ⟨d, .call { callee := .builtin .len, args := #[x], argTypes := #[t] }, ty, pos, aft, g⟩ (.v (.int .i64 m)) := Val.mk' fun a w hs _ => by
  subst hm
  obtain ⟨us, h1, _⟩ := hs.mem.ownR hb
  obtain ⟨A', c, h2, _⟩ := h1.shape
  exact ⟨_, rfl, fun w' _ => Proofs.Ytbhjchlflkgjbaa.Val.lenSl (by rw [hs.at2 hx, hs.plain hx, h2]) ht⟩
theorem own_at {w : World} {us : List Value} (hr : IsRow [] w v xs.length us) (hp : repss (mids σ ++ W.G) w s xs us) (hpos : 0 < s) (hq : xs[q]? = some cs) : ∃ b off c, v = .slice (some ⟨b, off, none⟩) xs.length c ∧ b < w.heap.size ∧ ∃ vs : List Value, vs.length = s ∧ reps (mids σ ++ W.G) w cs vs ∧ ∀ j u, vs[j]? = some u → w.cell? ⟨b, off + q * s + j, none⟩ = some u := by
  obtain ⟨vs, h3, h4, h5⟩ := repss_get hp hq
  have hlt : q < xs.length := (List.getElem?_eq_some_iff.1 hq).1
  have hlen := repss_length hp
  have hne : us ≠ [] := by
    rintro rfl
    have : xs.length * s = 0 := by simpa using hlen.symm
    rcases Nat.mul_eq_zero.1 this with h | h <;> omega
  obtain ⟨A', c, hsh, h6, h7, h8⟩ := hr.shape
  obtain ⟨b, off, n', c', hv, hb, hc⟩ := hr.cells hne
  have hv2 := hv
  rw [hsh] at hv2
  simp at hv2
  obtain ⟨rfl, rfl, rfl⟩ := hv2
  have hcell : ∀ j u, vs[j]? = some u → w.cell? ⟨b, off + q * s + j, none⟩ = some u := fun j u hu => by rw [Nat.add_assoc]; exact hc _ u (h5 j u hu)
  have hbl : b < w.heap.size := by
    cases vs with
    | nil => simp at h3; omega
    | cons u vs => exact block_lt_of_cell (hcell 0 u rfl)
  exact ⟨b, off, _, hsh, hbl, vs, h3, h4, hcell⟩
/-- The address of an element. -/
theorem Val.indexOwn (hT : TabOk P tab) {j : TI} (hu : P.underlying t = some (.slice e)) (hj : ti tab e = some j) (hx : look l x = some (.v v)) (hb : isOwn σ e' s v xs) {r : Int} (hy : look l y = some (.v (.int k r))) (hr : r = (q : Nat)) (hq : q < xs.length) (hsz : Nat.beq s j.size = true) (hpos : Nat.blt 0 s = true) :
    Val P n W σ l X ⟨d, .indexAddr t x y, ty, pos, aft, g⟩ (.v (eptr v (q * s))) := Val.mk' fun a w hs hX => by
  subst hr
  have hsz := Nat.eq_of_beq_eq_true hsz
  have hpos : 0 < s := by simpa [Nat.blt_eq] using hpos
  obtain ⟨us, h1, h2⟩ := hs.mem.ownR hb
  obtain ⟨b, off, c, hv, _⟩ := own_at h1 h2 hpos (List.getElem?_eq_getElem hq)
  refine ⟨_, rfl, fun w' _ => ?_⟩
  rw [hv]
  show Proofs.Ytbhjchlflkgjbaa.Val _ _ _ _ _ (.pointer (some ⟨b, off + q * s, none⟩))
  rw [hsz]
  exact Proofs.Ytbhjchlflkgjbaa.Val.indexSlN hT hu hj (by rw [hs.at2 hx, hs.plain hx, hv]) (by rw [hs.at2 hy, hs.plain hy]) hq
theorem Val.loadOwn1 (hT : TabOk P tab) {sz : Nat} {zs : List Value} (ht : ti tab t = some ⟨sz, .one, zs⟩) (hx : look l x = some (.v (eptr v (q * s)))) (hb : isOwn σ e' s v xs) (hpos : Nat.blt 0 s = true) (hq : xs[q]? = some cs) (hv : cs[0]? = some A) : Val P n W σ l [] ⟨d, .load t x, ty, pos, aft, g⟩ A := Val.mk' fun a w hs hX => by
  have hpos : 0 < s := by simpa [Nat.blt_eq] using hpos
  obtain ⟨us, h1, h2⟩ := hs.mem.ownR hb
  obtain ⟨b, off, c, hvv, hbl, vs, h3, h4, h5⟩ := own_at h1 h2 hpos hq
  obtain ⟨u, h6, h7⟩ := reps_get h4 hv
  refine ⟨u, h7, fun w' hw' => Proofs.Ytbhjchlflkgjbaa.Val.load1C (b := b) (o := off + q * s) hT ht (by rw [hs.at2 hx, hs.plain hx, hvv]; rfl) fun w1 e => by subst e; exact cell_later hw' (by simp) (h5 0 u h6)⟩
theorem Val.loadOwnA (hT : TabOk P tab) {i : TI} (ht : ti tab t = some i) (hk : (match i.k with | .one => false | _ => true) = true) (hx : look l x = some (.v (eptr v (q * s)))) (hb : isOwn σ e' s v xs) (hpos : Nat.blt 0 s = true) (hq : xs[q]? = some cs) (hs0 : Nat.beq s i.size = true) : Val P n W σ l [] ⟨d, .load t x, ty, pos, aft, g⟩ (.agg cs) := Val.mk' fun a w hs hX => by
  have hpos : 0 < s := by simpa [Nat.blt_eq] using hpos
  have hs0 := Nat.eq_of_beq_eq_true hs0
  obtain ⟨us, h1, h2⟩ := hs.mem.ownR hb
  obtain ⟨b, off, c, hvv, hbl, vs, h3, h4, h5⟩ := own_at h1 h2 hpos hq
  exact ⟨_, ⟨vs, rfl, h4⟩, fun w' hw' => Proofs.Ytbhjchlflkgjbaa.Val.loadAC (b := b) (o := off + q * s) hT ht hk (by rw [hs.at2 hx, hs.plain hx, hvv]; rfl) (by omega) fun w1 e j u hu => by subst e; exact cell_later hw' (by simp) (h5 j u hu)⟩
/-- It changes pieces that lie side by side. -/
theorem After.mid {ι : Type} {σ1 : Blks} {τ' : ι → Blks} {K : Blks → ι → Prop} (α : Blks) {β : Blks} (hσ : σ = α ++ (σ1 ++ β)) (hr : ∀ x ∈ σ1, x.rids = []) (k : ∀ z, K (α ++ (τ' z ++ β)) z) : After σ σ1 τ' K := by
  subst hσ
  refine ⟨α ++ β, ⟨?_, fun x hx => .inl ⟨by simp [hx], hr x hx⟩, fun x hx => ?_⟩, fun z => ⟨_, ?_, k z⟩⟩
  · simp only [mids_append]
    exact List.perm_append_comm_assoc _ _ _
  · rcases List.mem_append.1 hx with h | h <;> simp [h]
  · exact List.perm_append_comm_assoc _ _ _
end
/-- A cut, from a known state. -/
theorem SC.cutS {P : Program} {n : Nat} {W : Wd} {σ : Blks} {l : Slots} {Q : Exit → Act → World → Prop} {x y : Code} {ι : Type} (H : ι → Blks) (L : ι → Slots) (Φ : ι → Prop) (h : SC P x (St n W σ l) (Exit.then (fun a w => ∃ z, Head n W H L Φ z a w) Q)) (k : ∀ z, Φ z → SC P y (St n W (H z) (L z)) Q) : SC P (.seq x y) (St n W σ l) Q := SC.cut H L Φ h k
section
variable {P : Program} {n : Nat} {W : Wd} {ops : Array Oper} {l : Slots} {σ : Blks} {X : List Nat} {Q : Exit → Act → World → Prop} {ix : Plan} {f : FuncId} {args args' : List Abs} {σ1 : Blks} {ι : Type} {τ' : ι → Blks} {res : ι → Abs} {xs : List Operand} {ats : Array TypeId} {d : Option Nat} {ty : TypeId} {pos : String} {aft : Array Edge} {g : Option (Nat × Bool)} {i : Nat}
/-- A call; from then on only the blocks X' may be changed. -/
theorem SX.callX (X' : List Nat) (hi : ops[i]? = some ⟨d, .call { callee := .value (.func f), args := xs.toArray, argTypes := ats }, ty, pos, aft, g⟩) (hs : Spec P f args' σ1 τ' res) (hX : ∀ k ∈ mids σ1, k ∈ X) (hX' : ∀ k ∈ X', k ∈ X) (hca : Casts args args') (hb : goesIn P f = true) (hv : looks l xs = some args)
    (hg : gd ops l ⟨d, .call { callee := .value (.func f), args := xs.toArray, argTypes := ats }, ty, pos, aft, g⟩ = some true) (hd : lt? d n = true)
    (k : After σ σ1 τ' fun ν z => SX P ops ix X' (St n W ν (put? l d (res z))) Q) : SX P ops (.e i ix) X (St n W σ l) Q := fun a w h => by
  unfold planW wpOp
  simp only [hi, h.wanted hg, if_true]
  refine .inl ?_
  unfold Oper.wp
  rw [run_call hb rfl, Oper.upon_enter]
  refine (hs.after h.mem (hca _ _ _ (h.evals hv)) k).mono fun e w' ⟨z, r, ν, he, hx, _, hm, hc, hr, hk⟩ => ?_
  subst he
  exact ⟨fun w2 => Ext X' w' w2, fun w2 h2 => (hx.mono (fun k hk => .inl (hX k hk))).trans h2 fun k hk => .inl (hX' k hk), Ext.refl w', hk _ _ ((h.to hm hc).put hd hr)⟩
end
/-- 'max' of two numbers. -/
theorem Val.maxI {P : Program} {n : Nat} {W : Wd} {σ : Blks} {l : Slots} {X : List Nat} {x y : Operand} {d : Option Nat} {ty t t' : TypeId} {pos : String} {aft : Array Edge} {gq : Option (Nat × Bool)} {k : IntKind} {a b : Int} (hx : look l x = some (.v (.int k a))) (hy : look l y = some (.v (.int k b))) :
    Val P n W σ l X ⟨d, .call { callee := .builtin .max, args := #[x, y], argTypes := #[t, t'] }, ty, pos, aft, gq⟩ (.v (.int k (max a b))) := fun ac w hs _ => ⟨_, rfl, fun w' _ => by
  have hm : (if a < b then b else a) = max a b := by omega
  simp [execOp, resolve, invoke, builtin, Builtin.max_, Builtin.max2, hs.plain hx, hs.plain hy, List.foldlM, hm]⟩
end Go.Proofs.Ytbhjchlflkgjbaa.A
/-
  The second engine: a constant's bytes: a row that was just made, marked as a text's.
-/
set_option maxRecDepth 100000
set_option linter.unusedSimpArgs false
set_option linter.unusedVariables false
namespace Go.Proofs.Ytbhjchlflkgjbaa.A
open Go.RowKit

theorem cells_marked {w : World} {b : Nat} {cur : Array Value} {e : TypeId} {fr fr' : Nat × Nat} (hb : w.heap[b]? = some (.cells cur e fr)) (k : Nat) (o : Nat) : ({ w with heap := w.heap.setIfInBounds b (.cells cur e fr') } : World).cell? ⟨k, o, none⟩ = w.cell? ⟨k, o, none⟩ := by
  have hlt := heap_lt hb
  unfold World.cell?
  by_cases h : b = k
  · subst h
    have h1 : (w.heap.setIfInBounds b (.cells cur e fr'))[b]? = some (.cells cur e fr') := by simp [hlt]
    show (match (w.heap.setIfInBounds b (.cells cur e fr'))[b]? with | some (.cells c _ _) => if (none : Option Nat).isSome then none else c[o]? | _ => none) = _
    rw [h1, hb]
  · simp [Array.getElem?_setIfInBounds_ne h]
theorem Eff.litBytes {P : Program} {n : Nat} {W : Wd} {σ : Blks} {l : Slots} {x : Operand} {d : Option Nat} {ty t e e' : TypeId} {pos : String} {aft : Array Edge} {g : Option (Nat × Bool)} {v : Value} {m : List UInt8} (pre : Blks) {post : Blks}
    (ht : P.underlying t = some (.slice e)) (he : P.underlying e = some (.int .u8)) (hσ : σ = pre ++ own e' 1 v (m.map fun b => [.v (bc b)]) :: post) (hx : look l x = some (.v v)) (hne : m ≠ []) :
    Eff P n W σ l v.ownBlock.toList ⟨d, .convert t t x, ty, pos, aft, g⟩ fun u τ => u = byt m ∧ τ = pre ++ post := fun a w hs => by
  subst hσ
  obtain ⟨us, h1, h2⟩ : (ownPc e' 1 v (m.map fun b => [Abs.v (bc b)])).p _ w := hs.mem.hold (own e' 1 v _) (by simp)
  have h3 := rep_byt.1 (own_sl hs.mem)
  rcases h1.2 with ⟨rfl, h0⟩ | ⟨g', cap, cur, rfl, _, hg, hle, hmx, hsz, htk⟩
  · exact absurd (List.length_eq_zero_iff.1 (by simpa using h0)) hne
  · have hlt := heap_lt hg
    have hfr : w.freeze ⟨g', cur.size, none⟩ 1 = { w with heap := w.heap.setIfInBounds g' (.cells cur e' (cur.size, cur.size + 1)) } := by
      unfold World.freeze
      rw [if_neg (by decide)]
      congr 1
      apply Array.ext_getElem?
      intro i
      rw [Array.getElem?_modify, Array.getElem?_setIfInBounds]
      by_cases h : g' = i
      · subst h
        rw [if_pos rfl, if_pos rfl, if_pos hlt, hg]
        rfl
      · rw [if_neg h, if_neg h]
    have hrun : (convert t t (.slice (some ⟨g', 0, none⟩) (m.map fun b => [Abs.v (bc b)]).length cap)).run P w = .ok (.slice (some ⟨g', 0, none⟩) (m.map fun b => [Abs.v (bc b)]).length cap) { w with heap := w.heap.setIfInBounds g' (.cells cur e' (cur.size, cur.size + 1)) } := by
      have hsh : w.shape? g' = some (e', cur.size) := by unfold World.shape?; rw [hg]
      simp [convert, run_underlying ht, run_underlying he, markStringish, hsh]
      exact hfr
    have hxx : Ext [g'] w { w with heap := w.heap.setIfInBounds g' (.cells cur e' (cur.size, cur.size + 1)) } := ⟨rfl, rfl, rfl, by simp, fun k _ hn => by
      have : g' ≠ k := fun h => hn (by simp [h])
      simp [Array.getElem?_setIfInBounds_ne this]⟩
    have hsub : (pre ++ post).Sublist (pre ++ own e' 1 (.slice (some ⟨g', 0, none⟩) (m.map fun b => [Abs.v (bc b)]).length cap) (m.map fun b => [.v (bc b)]) :: post) := List.Sublist.append (List.Sublist.refl _) (List.sublist_cons_self _ _)
    have hmid : g' ∈ mids (pre ++ own e' 1 (.slice (some ⟨g', 0, none⟩) (m.map fun b => [Abs.v (bc b)]).length cap) (m.map fun b => [.v (bc b)]) :: post) := by simp [mids_append, mids_cons, It.mids, ownPc, Value.ownBlock]
    have hnd := hs.mem.nodup
    simp only [mids_append, mids_cons, List.nodup_append] at hnd
    obtain ⟨n1, ⟨n2, n3, n4⟩, n5⟩ := hnd
    have hself : g' ∈ (own e' 1 (.slice (some ⟨g', 0, none⟩) (m.map fun b => [Abs.v (bc b)]).length cap) (m.map fun b => [.v (bc b)])).mids := by simp [It.mids, ownPc, Value.ownBlock]
    have hst := hs.mem.step (τ := pre ++ post) hxx (by intro k hk; rw [List.mem_singleton.1 hk]; exact hmid) (fun k hk => .inl ((mids_sub hsub).subset hk)) (fun x hx => hs.mem.ro x (hsub.subset hx)) (hs.mem.nodup.sublist (mids_sub hsub)) (fun hc y hy => hs.mem.keep hxx hc (hsub.subset hy) (fun k hk hkg => by
      rw [List.mem_singleton.1 hkg] at hk
      rcases List.mem_append.1 hy with hy | hy
      · exact n5 g' (mids_mem.2 ⟨y, hy, hk⟩) g' (List.mem_append_left _ hself) rfl
      · exact n4 g' hself g' (mids_mem.2 ⟨y, hy, hk⟩) rfl) (by intro k hk; rw [List.mem_singleton.1 hk]; exact hmid))
    refine ⟨_, _, _, _, ⟨rfl, rfl⟩, hxx.mono (by simp [Value.ownBlock]), rep_byt.2 ⟨h3.shape, fun hn => ?_⟩, hst.1, hst.2, .inl (by
      simp only [List.length_map] at hrun
      simp [execOp, hs.plain hx, hrun, Result.andThen])⟩
    obtain ⟨b, off, n', c', hv, hb, hc⟩ := h3.cells hn
    exact ⟨b, off, n', c', hv, hb, fun j u hu => by rw [cells_marked hg]; exact hc j u hu⟩
end Go.Proofs.Ytbhjchlflkgjbaa.A
/-
  The second engine: words of 32 bits; parts of an array of the call's own as an array.
-/
set_option maxRecDepth 100000
set_option linter.unusedSimpArgs false
set_option linter.unusedVariables false
namespace Go.Proofs.Ytbhjchlflkgjbaa
open Go.RowKit
/-! ### Regions that draw, whose last operation comes behind all others -/
section
variable {P : Program} {ops : Array Oper}
def anyZ (P : Program) (ops : Array Oper) (D : World → Prop) (z : Nat) (Q : Act → World → Prop) : Nat → Array Bool → Act → World → Prop
  | 0, listed, a, w => Region.ready .any ops listed = [] ∧ Q a w
  | fuel + 1, listed, a, w => (Region.ready .any ops listed = [] → Q a w) ∧
      ∀ i ∈ Region.ready .any ops listed, wpOp P ops NoExit i (fun a' w' => (i = z ∨ D w') ∧ anyZ P ops D z Q fuel (listed.setIfInBounds i true) a' w') a w
theorem anyZ.wpAny {D : World → Prop} {z : Nat} {Q : Exit → Act → World → Prop} : ∀ (fuel : Nat) (listed : Array Bool) (a : Act) (w : World),
    anyZ P ops D z (Q .normal) fuel listed a w → wpAny P .any ops Q fuel listed a w
  | 0, _, _, _, h => h
  | fuel + 1, _, _, _, h => ⟨h.1, fun i hi => wpOp_of_noExit (wpOp_mono (fun a' w' h3 => anyZ.wpAny fuel _ a' w' h3.2) (h.2 i hi))⟩
theorem anyZ.mono {D D' : World → Prop} {z : Nat} {Q : Act → World → Prop} (hD : ∀ w, D' w → D w) : ∀ (fuel : Nat) (listed : Array Bool) (a : Act) (w : World),
    anyZ P ops D' z Q fuel listed a w → anyZ P ops D z Q fuel listed a w
  | 0, _, _, _, h => h
  | fuel + 1, _, _, _, h => ⟨h.1, fun i hi => wpOp_mono (fun a' w' h3 => ⟨h3.1.imp_right (hD _), anyZ.mono hD fuel _ a' w' h3.2⟩) (h.2 i hi)⟩
/-- What is listed has all that it comes behind listed. -/
def Down (ops : Array Oper) (L : Array Bool) : Prop := ∀ (k : Nat) (o : Oper), ops[k]? = some o → L.getD k false = true → ∀ e ∈ o.after, Region.binds .any e = true → L.getD e.on false = true
theorem Down.set {L : Array Bool} (h : Down ops L) {j : Nat} (hj : j ∈ Region.ready .any ops L) : Down ops (L.setIfInBounds j true) := by
  intro k o hk hl e he hb
  refine getD_set_true ?_
  by_cases hkj : k = j
  · subst hkj
    obtain ⟨_, o', ho', hall⟩ := mem_ready.1 hj
    rw [ho'] at hk
    cases hk
    exact hall e he hb
  · have : (L.setIfInBounds j true).getD k false = L.getD k false := getD_set_ne false (Ne.symm hkj)
    exact h k o hk (this ▸ hl) e he hb
/-- Each but the last comes ahead of a later one. -/
def domOk (ops : Array Oper) : Bool := (List.range (ops.size - 1)).all fun i => (List.range ops.size).any fun j => Nat.blt i j && ((ops[j]?).map fun o => o.after.any fun e => Region.binds .any e && e.on == i).getD false
theorem dom_next (hd : domOk ops = true) {i : Nat} (hi : i + 1 < ops.size) : ∃ j o, i < j ∧ j < ops.size ∧ ops[j]? = some o ∧ ∃ e ∈ o.after, Region.binds .any e = true ∧ e.on = i := by
  unfold domOk at hd
  rw [List.all_eq_true] at hd
  have h1 := hd i (by rw [List.mem_range]; omega)
  rw [List.any_eq_true] at h1
  obtain ⟨j, hj, h2⟩ := h1
  rw [List.mem_range] at hj
  simp only [Bool.and_eq_true, Nat.blt_eq] at h2
  obtain ⟨h2, h3⟩ := h2
  cases ho : ops[j]? with
  | none => rw [ho] at h3; cases h3
  | some o =>
    rw [ho] at h3
    simp only [Option.map_some, Option.getD_some, Array.any_eq_true, Bool.and_eq_true, beq_iff_eq] at h3
    obtain ⟨m, hm, hb, hon⟩ := h3
    exact ⟨j, o, h2, hj, ho, _, Array.getElem_mem hm, hb, hon⟩
theorem dom_all (hd : domOk ops = true) {L : Array Bool} (hL : Down ops L) (hz : ops.size - 1 ∈ Region.ready .any ops L) : ∀ m i, ops.size - 1 - i = m → i + 1 < ops.size → L.getD i false = true := by
  intro m
  induction m using Nat.strongRecOn with
  | _ m ih =>
    intro i hm hi
    obtain ⟨j, o, hij, hj, ho, e, he, hb, hon⟩ := dom_next hd hi
    subst hon
    by_cases hjz : j = ops.size - 1
    · subst hjz
      obtain ⟨_, o', ho', hall⟩ := mem_ready.1 hz
      rw [ho'] at ho
      cases ho
      exact hall e he hb
    · exact hL j o ho (ih _ (by omega) j rfl (by omega)) e he hb
theorem getD_ff {L : Array Bool} {i : Nat} (h : L.getD i true = false) : L.getD i false = false := by
  rw [Array.getD_eq_getD_getElem?] at h ⊢
  cases hq : L[i]? with
  | none => rfl
  | some b => rw [hq] at h; exact h
theorem anyZ_first {D : World → Prop} {Q : Act → World → Prop} {i : Nat} {oi : Oper} {v : Value} (hd : domOk ops = true) (hiz : i + 1 < ops.size) (hi : ops[i]? = some oi) (hsel : ∀ (j : Nat) (o : Oper) cs b, ops[j]? = some o → o.op ≠ .select cs b) :
    ∀ (fuel : Nat) (listed : Array Bool) (a : Act) (w : World), D w → Down ops listed →
      (∀ j oj, ops[j]? = some oj → j ≠ i → listed.getD j true = false → (∀ e ∈ oj.after, Region.binds .any e = true → e.on ≠ i) → oi.apart ops oj = true) →
      i ∈ Region.ready .any ops listed → YieldsD P ops D oi v a →
      anyZ P ops D (ops.size - 1) Q fuel (listed.setIfInBounds i true) (a.put oi.dst v) w → anyZ P ops D (ops.size - 1) Q (fuel + 1) listed a w := by
  intro fuel
  induction fuel with
  | zero =>
    intro listed a w hDw _ _ hr hy H
    refine ⟨fun h => (by rw [h] at hr; cases hr), fun j hj => ?_⟩
    by_cases hji : j = i
    · subst hji; exact hy.wpOp hi hDw ⟨.inr hDw, H⟩
    · have := ready_mono hj hji
      rw [H.1] at this
      cases this
  | succ fuel ih =>
    intro listed a w hDw hdn hfree hr hy H
    refine ⟨fun h => (by rw [h] at hr; cases hr), fun j hj => ?_⟩
    by_cases hji : j = i
    · subst hji; exact hy.wpOp hi hDw ⟨.inr hDw, H⟩
    · have hjz : j ≠ ops.size - 1 := fun h => by
        subst h
        have h1 := dom_all hd hdn hj _ i rfl hiz
        have h0 := getD_ff (mem_ready.1 hr).1
        rw [h1] at h0
        cases h0
      have h1 := H.2 j (ready_mono hj hji)
      obtain ⟨hjun, oj, hoj, hall⟩ := mem_ready.1 hj
      have hnot : ∀ e ∈ oj.after, Region.binds .any e = true → e.on ≠ i := fun e he hb heq => by
        have h1 := hall e he hb
        have h0 := (mem_ready.1 hr).1
        rw [heq] at h1
        rw [getD_ff h0] at h1
        cases h1
      have h2 := wpOp_putD hoj (hfree j oj hoj hji hjun hnot) (fun cs b => hsel i oi cs b hi) (fun cs b => hsel j oj cs b hoj) hy h1
      have hfree' : ∀ k ok, ops[k]? = some ok → k ≠ i → (listed.setIfInBounds j true).getD k true = false →
          (∀ e ∈ ok.after, Region.binds .any e = true → e.on ≠ i) → oi.apart ops ok = true := fun k ok hk hki hun hno => by
        refine hfree k ok hk hki ?_ hno
        by_cases hjk : j = k
        · subst hjk; exact hjun
        · rw [getD_set_ne true hjk] at hun; exact hun
      refine wpOp_mono (fun a' w' h3 => ?_) h2
      have hDw' : D w' := h3.2.1.resolve_left hjz
      refine ⟨.inr hDw', ih (listed.setIfInBounds j true) a' w' hDw' (hdn.set hj) hfree' (ready_mono hr (Ne.symm hji)) h3.1 ?_⟩
      rw [Array.setIfInBounds_comm _ _ hji]
      exact h3.2.2
def planOkZ (ops : Array Oper) : Nat → Array Bool → Plan → Bool
  | _ + 1, listed, .nil => (Region.ready .any ops listed == [ops.size - 1]) && (Region.ready .any ops (listed.setIfInBounds (ops.size - 1) true)).isEmpty
  | n + 1, listed, .q i k => Nat.blt (i + 1) ops.size && Region.free .any ops listed i && (Region.ready .any ops listed).contains i && planOkZ ops n (listed.setIfInBounds i true) k
  | n + 1, listed, .e i k => (Region.ready .any ops listed == [i]) && planOkZ ops n (listed.setIfInBounds i true) k
  | n + 1, listed, .two i j k h => (Region.ready .any ops listed == [i, j]) && planOkZ ops n (listed.setIfInBounds i true) k && planOkZ ops n (listed.setIfInBounds j true) h
  | 0, _, _ => false
theorem planW.anyZ {Q : Act → World → Prop} (hs : Region.noSelect ops = true) (hd : domOk ops = true) : ∀ (n : Nat) (ix : Plan) (D : World → Prop) (listed : Array Bool) (a : Act) (w : World), planOkZ ops n listed ix = true → D w → Down ops listed →
    planW P ops (fun a w => wpOp P ops NoExit (ops.size - 1) Q a w) ix D a w → Proofs.Ytbhjchlflkgjbaa.anyZ P ops D (ops.size - 1) Q n listed a w
  | 0, .nil, _, _, _, _, hok, _, _, _ => by cases hok
  | n + 1, .nil, D, listed, a, w, hok, hD, hdn, h => by
    simp only [planOkZ, Bool.and_eq_true, beq_iff_eq, List.isEmpty_iff] at hok
    refine ⟨fun h0 => (by rw [hok.1] at h0; cases h0), fun j hj => ?_⟩
    rw [hok.1] at hj
    simp only [List.mem_singleton] at hj
    subst hj
    refine wpOp_mono (fun a' w' hq => ⟨.inl rfl, ?_⟩) h
    cases n with
    | zero => exact ⟨hok.2, hq⟩
    | succ n => exact ⟨fun _ => hq, fun i hi => by rw [hok.2] at hi; cases hi⟩
  | n + 1, .q i ix, D, listed, a, w, hok, hD, hdn, ⟨o, v, hi, hy, h⟩ => by
    simp only [planOkZ, Bool.and_eq_true, Nat.blt_eq] at hok
    have hrd : i ∈ Region.ready .any ops listed := by simpa using hok.1.2
    exact anyZ_first hd hok.1.1.1 hi (Region.noSelect_spec hs) n listed a w hD hdn (Region.free_spec hi hok.1.1.2) hrd hy (planW.anyZ hs hd n ix D _ _ _ hok.2 hD (hdn.set hrd) h)
  | n + 1, .e i ix, D, listed, a, w, hok, hD, hdn, h => by
    simp only [planOkZ, Bool.and_eq_true, beq_iff_eq] at hok
    refine ⟨fun h0 => (by rw [hok.1] at h0; cases h0), fun j hj => ?_⟩
    have hj0 := hj
    rw [hok.1] at hj
    simp only [List.mem_singleton] at hj
    subst hj
    exact wpOp_mono (fun a' w' ⟨D', hD', hw', h'⟩ => ⟨.inr (hD' _ hw'), anyZ.mono hD' _ _ _ _ (planW.anyZ hs hd n ix D' _ a' w' hok.2 hw' (hdn.set hj0) h')⟩) h
  | n + 1, .two i j k m, D, listed, a, w, hok, hD, hdn, h => by
    simp only [planOkZ, Bool.and_eq_true, beq_iff_eq] at hok
    refine ⟨fun h0 => (by rw [hok.1.1] at h0; cases h0), fun r hr => ?_⟩
    have hr0 := hr
    rw [hok.1.1] at hr
    simp only [List.mem_cons, List.not_mem_nil, or_false] at hr
    rcases hr with rfl | rfl
    · exact wpOp_mono (fun a' w' ⟨D', hD', hw', h'⟩ => ⟨.inr (hD' _ hw'), anyZ.mono hD' _ _ _ _ (planW.anyZ hs hd n k D' _ a' w' hok.1.2 hw' (hdn.set hr0) h')⟩) h.1
    · exact wpOp_mono (fun a' w' ⟨D', hD', hw', h'⟩ => ⟨.inr (hD' _ hw'), anyZ.mono hD' _ _ _ _ (planW.anyZ hs hd n m D' _ a' w' hok.2 hw' (hdn.set hr0) h')⟩) h.2
theorem down_none (n : Nat) : Down ops (Array.replicate n false) := by
  intro k o _ h
  rw [Array.getD_eq_getD_getElem?, Array.getElem?_replicate] at h
  split at h <;> cases h
theorem wp_region_planZ {id : Nat} {a : Act} {w : World} {Q : Exit → Act → World → Prop} (D : World → Prop) (ix : Plan) (hm : P.follows .mixedOrders = true)
    (hok : (Region.noSelect ops && domOk ops && planOkZ ops ops.size (Array.replicate ops.size false) ix) = true) (hD : D w.drew)
    (h : planW P ops (fun a w => wpOp P ops NoExit (ops.size - 1) (Q .normal) a w) ix D a w.drew) : (Code.region id ops true).wp P Q a w := by
  simp only [Bool.and_eq_true] at hok
  refine wp_region_any hm ?_
  exact anyZ.wpAny _ _ _ _ (planW.anyZ hok.1.1 hok.1.2 _ ix D _ a _ hok.2 hD (down_none _) h)
end
end Go.Proofs.Ytbhjchlflkgjbaa
namespace Go.Proofs.Ytbhjchlflkgjbaa.A
open Go.RowKit
section
variable {P : Program} {n : Nat} {W : Wd} {σ : Blks} {l : Slots} {o : Oper} {ops : Array Oper} {Q : Exit → Act → World → Prop}
/-- What is to be shown ahead of a region's last operation. -/
def LastOp (P : Program) (ops : Array Oper) (Q : Exit → Act → World → Prop) : Exit → Act → World → Prop := fun _ a w => wpOp P ops NoExit (ops.size - 1) (Q .normal) a w
theorem SC.drawZ {id : Nat} (X : List Nat) (ix : Plan) (hm : P.follows .mixedOrders = true)
    (hok : (Region.noSelect ops && domOk ops && planOkZ ops ops.size (Array.replicate ops.size false) ix) = true) (h : SX P ops ix X (St n W σ l) (LastOp P ops Q)) : SC P (.region id ops true) (St n W σ l) Q := fun a w hs =>
  wp_region_planZ (fun w' => Ext X w.drew w') ix hm hok (Ext.refl _) (h a _ hs.drew)
theorem SE.effZ {Y : List Nat} {R : Abs → Blks → Prop} (hi : ops[ops.size - 1]? = some o) (hv : Eff P n W σ l Y o R) (hg : gd ops l o = some true) (hd : lt? o.dst n = true)
    (k : ∀ y τ, R y τ → SE .normal (St n W τ (put? l o.dst y)) Q) : SE .normal (St n W σ l) (LastOp P ops Q) := fun a w hs => by
  unfold LastOp wpOp
  simp only [hi, hs.wanted hg, if_true]
  refine .inl ?_
  unfold Oper.wp
  obtain ⟨v, w', y, τ, hR, hx, hr, hm, hc, hrun | ⟨rfl, hrun⟩⟩ := hv a w hs
  · rw [hrun]; exact k _ _ hR _ _ ((hs.to hm hc).put hd hr)
  · rw [hrun]; exact k _ _ hR _ _ ((hs.to hm hc).put hd hr)
end

abbrev Wo := BitVec 32
/-- A word's value. -/
def u32 (p : Wo) : Abs := .v (.int .u32 (p.toNat : Nat))
def lA (l : List Wo) : List Abs := l.map u32
theorem putL_whole {L ys : List Abs} (h : ys.length = L.length) : putL L 0 ys = ys := by
  rw [putL_eq _ _ _ (Nat.zero_le _), Nat.zero_add, h]
  simp
theorem lA_at {l : List Wo} {q : Nat} (h : q < l.length) : (lA l)[0 + q * 1]? = some (u32 (l.getD q 0)) := by
  simp [lA, List.getD, h]
theorem putL_set (L : List Abs) (q : Nat) (a : Abs) (h : q < L.length) : putL L q [a] = L.set q a := by
  rw [putL_eq _ _ _ (by omega), List.set_eq_take_append_cons_drop, if_pos h]
  simp
theorem lA_put {l : List Wo} {q : Nat} {p : Wo} (h : q < l.length) : putL (lA l) (0 + q * 1) [u32 p] = lA (l.set q p) := by
  rw [putL_set _ _ _ (by simpa [lA] using h)]
  simp [lA, List.map_set]
theorem set_next {l : List Wo} {m : Nat} {p : Wo} (h : 0 < m) : (l ++ List.replicate m 0).set l.length p = l ++ [p] ++ List.replicate (m - 1) 0 := by
  obtain ⟨m, rfl⟩ : ∃ k, m = k + 1 := ⟨m - 1, by omega⟩
  simp [List.replicate_succ, List.set_append]
section
variable {P : Program} {n : Nat} {W : Wd} {σ τ : Blks} {l : Slots} {X : List Nat} {x y z : Operand} {d : Option Nat} {ty t t' e : TypeId} {pos : String} {aft : Array Edge} {g : Option (Nat × Bool)} {k k' : IntKind} {b : Nat} {A B : Abs} {tab : List (Nat × TI)} {ops : Array Oper} {rest : List Oper} {Q : Exit → Act → World → Prop} {p q : Wo}
theorem wrap32 (p : Wo) : IntKind.u32.wrap (p.toNat : Nat) = (p.toNat : Nat) := by
  have := p.isLt
  simp [IntKind.wrap, IntKind.bits, IntKind.signed]
  omega
theorem ofInt32 (p : Wo) : BitVec.ofInt IntKind.u32.bits ((p.toNat : Nat) : Int) = p := by
  show BitVec.ofInt 32 ((p.toNat : Nat) : Int) = p
  rw [BitVec.ofInt_natCast, BitVec.ofNat_toNat, BitVec.setWidth_eq]
theorem Val.xorW (hx : look l x = some (u32 p)) (hy : look l y = some (u32 q)) : Val P n W σ l X ⟨d, .binOp .xor t x y t', ty, pos, aft, g⟩ (u32 (p ^^^ q)) :=
  Val.bitI hx hy (fun w => by
    simp only [Op.intBits, ofInt32]
    exact congrArg (fun r => Result.ok (Value.int .u32 r) w) (wrap32 (p ^^^ q))) rfl
theorem Val.andW (hx : look l x = some (u32 p)) (hy : look l y = some (u32 q)) : Val P n W σ l X ⟨d, .binOp .and t x y t', ty, pos, aft, g⟩ (u32 (p &&& q)) :=
  Val.bitI hx hy (fun w => by
    simp only [Op.intBits, ofInt32]
    exact congrArg (fun r => Result.ok (Value.int .u32 r) w) (wrap32 (p &&& q))) rfl
theorem Val.orW (hx : look l x = some (u32 p)) (hy : look l y = some (u32 q)) : Val P n W σ l X ⟨d, .binOp .or t x y t', ty, pos, aft, g⟩ (u32 (p ||| q)) :=
  Val.bitI hx hy (fun w => by
    simp only [Op.intBits, ofInt32]
    exact congrArg (fun r => Result.ok (Value.int .u32 r) w) (wrap32 (p ||| q))) rfl
theorem Val.sumW (hx : look l x = some (u32 p)) (hy : look l y = some (u32 q)) : Val P n W σ l X ⟨d, .binOp .add t x y t', ty, pos, aft, g⟩ (u32 (p + q)) :=
  Val.to (Val.addW hx hy) (congrArg (fun r => Abs.v (.int .u32 r)) (by
    simp only [IntKind.wrap, IntKind.bits, IntKind.signed, BitVec.toNat_add]
    simp))
theorem Val.shrB {m : Nat} {r : Int} (hx : look l x = some (u32 p)) (hy : look l y = some (.v (.int k' r))) (hr : r = (m : Nat)) : Val P n W σ l X ⟨d, .binOp .shr t x y t', ty, pos, aft, g⟩ (u32 (p >>> m)) :=
  Val.to (Val.shrI hx hy (by omega)) (congrArg (fun r => Abs.v (.int .u32 r)) (by
    subst hr
    have hp := p.isLt
    simp only [IntKind.bits, Int.toNat_natCast, BitVec.toNat_ushiftRight, Nat.shiftRight_eq_div_pow]
    rw [Int.fdiv_eq_ediv_of_nonneg _ (by exact Int.le_of_lt (Int.pow_pos (by decide)))]
    rcases Nat.le_total m 32 with h | h
    · rw [Nat.min_eq_left h]; simp
    · rw [Nat.min_eq_right h, Nat.div_eq_of_lt (Nat.lt_of_lt_of_le hp (Nat.pow_le_pow_right (by decide) h))]
      omega))
theorem Val.shlB {m : Nat} {r : Int} (hx : look l x = some (u32 p)) (hy : look l y = some (.v (.int k' r))) (hr : r = (m : Nat)) : Val P n W σ l X ⟨d, .binOp .shl t x y t', ty, pos, aft, g⟩ (u32 (p <<< m)) :=
  Val.to (Val.shlW hx hy (by omega)) (congrArg (fun r => Abs.v (.int .u32 r)) (by
    subst hr
    have hp := p.isLt
    have e : ∀ v : Int, IntKind.u32.wrap v = v % 4294967296 := fun v => by simp [IntKind.wrap, IntKind.bits, IntKind.signed]
    rw [e, show IntKind.u32.bits = 32 from rfl, Int.toNat_natCast, BitVec.toNat_shiftLeft, Nat.shiftLeft_eq]
    rcases Nat.le_total m 32 with h | h
    · rw [Nat.min_eq_left h]; simp
    · rw [Nat.min_eq_right h]
      obtain ⟨j, rfl⟩ : ∃ j, m = 32 + j := ⟨m - 32, by omega⟩
      rw [Nat.pow_add, show p.toNat * (2 ^ 32 * 2 ^ j) = 2 ^ 32 * (p.toNat * 2 ^ j) by rw [Nat.mul_left_comm], Nat.mul_mod_right]
      simp))
/-- A byte as a word. -/
theorem Val.conv8 {c : UInt8} (hx : look l x = some (.v (bc c))) (ht : P.underlying t' = some (.int .u32)) (hs : (P.underlying t).isSome = true) : Val P n W σ l X ⟨d, .convert t t' x, ty, pos, aft, g⟩ (u32 (BitVec.ofNat 32 c.toNat)) :=
  Val.to (Val.convI (k := .u8) (a := (c.toNat : Nat)) hx ht hs (by have := c.toNat_lt; simp only [InR, lo, hi]; omega)) (congrArg (fun r => Abs.v (.int .u32 r)) (by
    have := c.toNat_lt
    rw [BitVec.toNat_ofNat, Nat.mod_eq_of_lt (by omega)]))
/-- A word as a byte. -/
theorem Val.conv32 (hx : look l x = some (u32 p)) (ht : P.underlying t' = some (.int .u8)) (hs : (P.underlying t).isSome = true) : Val P n W σ l X ⟨d, .convert t t' x, ty, pos, aft, g⟩ (.v (bc (UInt8.ofNat p.toNat))) :=
  Val.to (Val.convW hx ht hs) (congrArg Abs.v (by
    simp [IntKind.wrap, IntKind.bits, IntKind.signed, bc]))
/-- A part of an array in a block of the call's own. -/
theorem Val.sliceArrLo (hT : TabOk P tab) {i : TI} {m off q : Nat} {r : Int} (hu : P.underlying t = some (.array m e)) (hi : ti tab e = some i) (hx : look l x = some (.v (.pointer (some ⟨b, off, none⟩)))) (hy : look l y = some (.v (.int k r))) (hr : r = (q : Nat)) (hq : q < m) :
    Val P n W σ l X ⟨d, .slice t x (some y) none none, ty, pos, aft, g⟩ (.v (.slice (some ⟨b, off + q * i.size, none⟩) (m - q) (m - q))) := fun a w hs _ => ⟨_, rfl, fun w' _ => by
  subst hr
  have h6 := (hT _ _ hi).sizeOf (w := w')
  have h1 : q ≤ m := by omega
  have h2 : ¬ m < q := by omega
  have h3 : ¬ m = q := by omega
  simp [execOp, Instr.sliceAt, Instr.sureAddr, Instr.sliceBounds, Instr.sliceBound, asIntOf, hs.plain hx, hs.plain hy, run_underlying hu, Sem.run_bind, Result.andThen, h6, h1, h2, h3, Addr.add_none]⟩
theorem Val.sliceArrHi (hT : TabOk P tab) {i : TI} {m off q : Nat} {r : Int} (hu : P.underlying t = some (.array m e)) (hi : ti tab e = some i) (hx : look l x = some (.v (.pointer (some ⟨b, off, none⟩)))) (hy : look l y = some (.v (.int k r))) (hr : r = (q : Nat)) (hq : q < m) :
    Val P n W σ l X ⟨d, .slice t x none (some y) none, ty, pos, aft, g⟩ (.v (.slice (some ⟨b, off, none⟩) q m)) := fun a w hs _ => ⟨_, rfl, fun w' _ => by
  subst hr
  have h6 := (hT _ _ hi).sizeOf (w := w')
  have h1 : q ≤ m := by omega
  have h2 : ¬ m < q := by omega
  have h3 : ¬ m = 0 := by omega
  simp [execOp, Instr.sliceAt, Instr.sureAddr, Instr.sliceBounds, Instr.sliceBound, asIntOf, hs.plain hx, hs.plain hy, run_underlying hu, Sem.run_bind, Result.andThen, h6, h1, h2, h3, Addr.add]⟩
/-- A row that is an array's address. -/
theorem Val.arrayAt {m len c : Nat} {A' : Option Addr} (hu : P.underlying t = some (.array m e)) (hx : look l x = some (.v (.slice A' len c))) (hm : m ≤ len) :
    Val P n W σ l X ⟨d, .sliceToArrayPointer t x, ty, pos, aft, g⟩ (.v (.pointer A')) := fun a w hs _ => ⟨_, rfl, fun w' _ => by
  have h1 : ¬ len < m := by omega
  simp [execOp, Instr.arrayAt, hs.plain hx, run_underlying hu, Sem.run_bind, Result.andThen, h1]⟩
/-- A new block in a region that draws: what follows may change it. -/
theorem SX.alloc {ix : Plan} (hT : TabOk P tab) {i : TI} {j : Nat} (ht : ti tab t = some i) (hi : ops[j]? = some ⟨d, .alloc t, ty, pos, aft, g⟩) (hg : gd ops l ⟨d, .alloc t, ty, pos, aft, g⟩ = some true) (hd : lt? d n = true)
    (k : ∀ b, SX P ops ix (b :: X) (St n W (.blk b t (zabs i.zero) :: σ) (put? l d (.v (.pointer (some ⟨b, 0, none⟩))))) Q) : SX P ops (.e j ix) X (St n W σ l) Q := fun a w hs => by
  unfold planW wpOp
  simp only [hi, hs.wanted hg, if_true]
  refine .inl ?_
  unfold Oper.wp
  obtain ⟨zv, hz, hc⟩ := (hT t _ ht).zeroValue (w := w)
  obtain ⟨h1, h2⟩ := hs.mem.alloc t (reps_zabs i.zero)
  have hrun : (execOp a.eval ⟨d, .alloc t, ty, pos, aft, g⟩).run P w = .ok (.value (.pointer (some ⟨w.heap.size, 0, none⟩))) (w.alloc (row t i.zero)) := by
    simp [execOp, Instr.alloc, Sem.run_bind, hz, Result.andThen, newVar, newRow, newObj, Sem.run, hc, row]
  rw [hrun]
  refine ⟨fun w2 => Ext (w.heap.size :: X) (w.alloc (row t i.zero)) w2, fun w2 h3 => ((Ext.refl w).alloc _).trans (h3 : Ext (w.heap.size :: X) _ w2) fun x hx => ?_, Ext.refl _, k _ _ _ ((hs.to h1 h2).put hd (show rep _ _ (.v (.pointer (some ⟨w.heap.size, 0, none⟩))) _ from rfl))⟩
  rcases List.mem_cons.1 hx with rfl | hx
  · exact .inr (Nat.le_refl _)
  · exact .inl hx
/-- A call that takes the two pieces on top. -/
theorem After.two {ι : Type} {x1 x2 : It} {β : Blks} {τ' : ι → Blks} {y1 y2 : ι → It} {K : Blks → ι → Prop} (hr : x1.rids = [] ∧ x2.rids = []) (hτ : ∀ z, τ' z = [y1 z, y2 z]) (k : ∀ z, K (y1 z :: y2 z :: β) z) : After (x1 :: x2 :: β) [x1, x2] τ' K :=
  After.mid [] (β := β) rfl (by intro x hx; simp only [List.mem_cons, List.not_mem_nil, or_false] at hx; rcases hx with rfl | rfl; exact hr.1; exact hr.2) fun z => by rw [hτ z]; exact k z
theorem After.two0 {ι : Type} {x1 x2 : It} {β : Blks} {τ' : ι → Blks} {K : Blks → ι → Prop} (hr : x1.rids = [] ∧ x2.rids = []) (hτ : ∀ z, τ' z = []) (k : ∀ z, K β z) : After (x1 :: x2 :: β) [x1, x2] τ' K :=
  After.mid [] (β := β) rfl (by intro x hx; simp only [List.mem_cons, List.not_mem_nil, or_false] at hx; rcases hx with rfl | rfl; exact hr.1; exact hr.2) fun z => by rw [hτ z]; exact k z
/-- A row is never longer than may be. -/
theorem SC.rowLe {c : Code} {s i : Nat} {xs : List (List Abs)} (hs : slot l i = some (.sl s xs)) (k : xs.length ≤ maxLen → SC P c (St n W σ l) Q) : SC P c (St n W σ l) Q := fun a w h => by
  have h1 : rep (mids σ ++ W.G) w (.sl s xs) (a.eval (.tmp i)) := h.eval (x := .tmp i) hs
  obtain ⟨us, h2, _⟩ := h1
  obtain ⟨_, _, _, h3, h4, _⟩ := h2.shape
  exact k (Nat.le_trans h3 h4) a w h
theorem SE.perm {ex : Exit} (h : τ.Perm σ) (k : SE ex (St n W τ l) Q) : SE ex (St n W σ l) Q := fun a w hs => k a w (hs.perm h)
theorem SE.swap {ex : Exit} {x y : It} (k : SE ex (St n W (y :: x :: σ) l) Q) : SE ex (St n W (x :: y :: σ) l) Q := SE.perm (List.Perm.swap x y σ) k
end
section
variable {P : Program} {n : Nat} {W : Wd} {σ : Blks} {l : Slots} {X : List Nat} {x : Operand} {d : Option Nat} {ty t t' e tp : TypeId} {pos : String} {aft : Array Edge} {gq : Option (Nat × Bool)} {A : Abs} {ms : Array (String × TypeId)} {ops : Array Oper} {rest : List Oper} {Q : Exit → Act → World → Prop} {s : Nat} {xs : List (List Abs)}
/-- Is an interface's value nil? -/
theorem Val.ifaceNil (hi : P.underlying t = some (.interface ms)) (hx : look l x = some (.ifc tp A)) : Val P n W σ l X ⟨d, .binOp .eql t x (.const .nilIface) t', ty, pos, aft, gq⟩ (.v (.bool false)) := fun a w hs _ => by
  obtain ⟨u, h1, h2⟩ := hs.eval hx
  refine ⟨_, rfl, fun w' _ => ?_⟩
  have h : ∀ d : Nat, (Op.equalIn (d + 1) t (.iface tp u) .nilIface).run P w' = .ok false w' := fun d => by simp [Op.equalIn, run_underlying hi]
  have h3 : (binOp .eql t (.iface tp u) .nilIface).run P w' = .ok (.bool false) w' := by
    simp only [binOp]
    simp [Op.equal, Op.maxDepth, h 9999]
  have e : a.eval (.const .nilIface) = .nilIface := rfl
  simp [execOp, h1, e, eqGuard, h3]
theorem Val.nilNil (hi : P.underlying t = some (.interface ms)) (hx : look l x = some (.v .nilIface)) : Val P n W σ l X ⟨d, .binOp .eql t x (.const .nilIface) t', ty, pos, aft, gq⟩ (.v (.bool true)) := fun a w hs _ => by
  refine ⟨_, rfl, fun w' _ => ?_⟩
  have h : ∀ d : Nat, (Op.equalIn (d + 1) t .nilIface .nilIface).run P w' = .ok true w' := fun d => by simp [Op.equalIn, run_underlying hi]
  have h3 : (binOp .eql t .nilIface .nilIface).run P w' = .ok (.bool true) w' := by
    simp only [binOp]
    simp [Op.equal, Op.maxDepth, h 9999]
  have e : a.eval (.const .nilIface) = .nilIface := rfl
  simp [execOp, hs.plain hx, e, eqGuard, h3]
/-- Is a slice nil? Then it is empty. -/
theorem SL.eqNil (ht : P.underlying t = some (.slice e)) (hx : look l x = some (.sl s xs)) (hg : gd ops l ⟨d, .binOp .eql t x (.const (.slice none 0 0)) t', ty, pos, aft, gq⟩ = some true) (hd : lt? d n = true)
    (k : ∀ b : Bool, (b = true → xs = []) → SL P ops rest (St n W σ (put? l d (.v (.bool b)))) Q) : SL P ops (⟨d, .binOp .eql t x (.const (.slice none 0 0)) t', ty, pos, aft, gq⟩ :: rest) (St n W σ l) Q := fun a w hs =>
  wpList_step fun K hK => by
    rw [if_pos (hs.wanted hg)]
    unfold Oper.wp
    obtain ⟨us, hr, h2⟩ := hs.eval hx
    obtain ⟨A', c, h1, h3, h4, h5⟩ := hr.shape
    have e1 : a.eval (.const (.slice none 0 0)) = .slice none 0 0 := rfl
    have hrun : (binOp .eql t (.slice A' xs.length c) (.slice none 0 0)).run P w = .ok (.bool A'.isNone) w := by
      have h : ∀ d : Nat, (Op.equalIn (d + 1) t (.slice A' xs.length c) (.slice none 0 0)).run P w = .ok A'.isNone w := fun d => by cases A' <;> simp [Op.equalIn, run_underlying ht]
      simp only [binOp]
      simp [Op.equal, Op.maxDepth, h 9999]
    have hrun2 : (execOp a.eval ⟨d, .binOp .eql t x (.const (.slice none 0 0)) t', ty, pos, aft, gq⟩).run P w = .ok (.value (.bool A'.isNone)) w := by simp [execOp, h1, e1, eqGuard, hrun]
    rw [hrun2]
    refine hK _ _ (k A'.isNone (fun hb => ?_) _ _ (hs.put hd (show rep _ _ (.v (.bool A'.isNone)) _ from rfl)))
    cases A' with
    | none =>
      have := h5 rfl
      exact List.length_eq_zero_iff.1 (by omega)
    | some A' => cases hb
end
end Go.Proofs.Ytbhjchlflkgjbaa.A
/-
  The second engine: regions that draw, in two parts; an element of a row of the call's own stored; words of 64 bits.
-/
set_option maxRecDepth 100000
set_option linter.unusedSimpArgs false
set_option linter.unusedVariables false
namespace Go.Proofs.Ytbhjchlflkgjbaa
open Go.RowKit
section
variable {P : Program} {ops : Array Oper}
/-- In whatever order; what the operations from m on leave is asked nothing. -/
def anyS (P : Program) (ops : Array Oper) (D : World → Prop) (m : Nat) (Q : Act → World → Prop) : Nat → Array Bool → Act → World → Prop
  | 0, listed, a, w => Region.ready .any ops listed = [] ∧ Q a w
  | fuel + 1, listed, a, w => (Region.ready .any ops listed = [] → Q a w) ∧
      ∀ i ∈ Region.ready .any ops listed, wpOp P ops NoExit i (fun a' w' => (m ≤ i ∨ D w') ∧ anyS P ops D m Q fuel (listed.setIfInBounds i true) a' w') a w
theorem anyS.wpAny {D : World → Prop} {m : Nat} {Q : Exit → Act → World → Prop} : ∀ (fuel : Nat) (listed : Array Bool) (a : Act) (w : World),
    anyS P ops D m (Q .normal) fuel listed a w → wpAny P .any ops Q fuel listed a w
  | 0, _, _, _, h => h
  | fuel + 1, _, _, _, h => ⟨h.1, fun i hi => wpOp_of_noExit (wpOp_mono (fun a' w' h3 => anyS.wpAny fuel _ a' w' h3.2) (h.2 i hi))⟩
theorem anyS.mono {D D' : World → Prop} {m : Nat} {Q : Act → World → Prop} (hD : ∀ w, D' w → D w) : ∀ (fuel : Nat) (listed : Array Bool) (a : Act) (w : World),
    anyS P ops D' m Q fuel listed a w → anyS P ops D m Q fuel listed a w
  | 0, _, _, _, h => h
  | fuel + 1, _, _, _, h => ⟨h.1, fun i hi => wpOp_mono (fun a' w' h3 => ⟨h3.1.imp_right (hD _), anyS.mono hD fuel _ a' w' h3.2⟩) (h.2 i hi)⟩
/-- Those ahead of m are listed. -/
def headIn (m : Nat) (L : Array Bool) : Bool := (List.range m).all fun i => L.getD i false
theorem headIn_set {m : Nat} {L : Array Bool} (h : headIn m L = true) (j : Nat) : headIn m (L.setIfInBounds j true) = true := by
  unfold headIn at *
  rw [List.all_eq_true] at *
  exact fun i hi => getD_set_true (h i hi)
theorem headIn_get {m : Nat} {L : Array Bool} (h : headIn m L = true) {i : Nat} (hi : i < m) : L.getD i false = true := by
  unfold headIn at h
  rw [List.all_eq_true] at h
  exact h i (List.mem_range.2 hi)
theorem anyD.toS {D D2 : World → Prop} {m : Nat} {Q : Act → World → Prop} : ∀ (fuel : Nat) (listed : Array Bool) (a : Act) (w : World), headIn m listed = true →
    anyD P ops D2 Q fuel listed a w → anyS P ops D m Q fuel listed a w
  | 0, _, _, _, _, h => h
  | fuel + 1, L, _, _, hL, h => ⟨h.1, fun i hi => wpOp_mono (fun a' w' h3 => ⟨.inl (by
      rcases Nat.lt_or_ge i m with h1 | h1
      · have h2 := headIn_get hL h1
        rw [getD_ff (mem_ready.1 hi).1] at h2
        cases h2
      · exact h1), anyD.toS fuel _ a' w' (headIn_set hL i) h3.2⟩) (h.2 i hi)⟩
/-- Each ahead of m comes ahead of a later one up to m; each behind m comes behind one from m on. -/
def domOkS (ops : Array Oper) (m : Nat) : Bool :=
  ((List.range m).all fun i => (List.range (m + 1)).any fun j => Nat.blt i j && ((ops[j]?).map fun o => o.after.any fun e => Region.binds .any e && e.on == i).getD false) &&
  ((List.range ops.size).all fun j => Nat.ble j m || ((ops[j]?).map fun o => o.after.any fun e => Region.binds .any e && Nat.ble m e.on && Nat.blt e.on j).getD false)
theorem domS_next {m : Nat} (hd : domOkS ops m = true) {i : Nat} (hi : i < m) : ∃ j o, i < j ∧ j ≤ m ∧ ops[j]? = some o ∧ ∃ e ∈ o.after, Region.binds .any e = true ∧ e.on = i := by
  unfold domOkS at hd
  rw [Bool.and_eq_true, List.all_eq_true] at hd
  have h1 := hd.1 i (by rw [List.mem_range]; omega)
  rw [List.any_eq_true] at h1
  obtain ⟨j, hj, h2⟩ := h1
  rw [List.mem_range] at hj
  simp only [Bool.and_eq_true, Nat.blt_eq] at h2
  obtain ⟨h2, h3⟩ := h2
  cases ho : ops[j]? with
  | none => rw [ho] at h3; cases h3
  | some o =>
    rw [ho] at h3
    simp only [Option.map_some, Option.getD_some, Array.any_eq_true, Bool.and_eq_true, beq_iff_eq] at h3
    obtain ⟨x, hx, hb, hon⟩ := h3
    exact ⟨j, o, h2, by omega, ho, _, Array.getElem_mem hx, hb, hon⟩
theorem domS_back {m : Nat} (hd : domOkS ops m = true) {j : Nat} {o : Oper} (ho : ops[j]? = some o) (hj : m < j) : ∃ e ∈ o.after, Region.binds .any e = true ∧ m ≤ e.on ∧ e.on < j := by
  unfold domOkS at hd
  rw [Bool.and_eq_true, List.all_eq_true, List.all_eq_true] at hd
  have h1 := hd.2 j (by rw [List.mem_range]; exact (Array.getElem?_eq_some_iff.1 ho).1)
  rw [ho] at h1
  simp only [Option.map_some, Option.getD_some, Bool.or_eq_true, Nat.ble_eq, Array.any_eq_true, Bool.and_eq_true, Nat.blt_eq] at h1
  rcases h1 with h1 | ⟨x, hx, ⟨hb, h2⟩, h3⟩
  · omega
  · exact ⟨_, Array.getElem_mem hx, hb, h2, h3⟩
/-- All that one comes behind is listed. -/
def Due (ops : Array Oper) (L : Array Bool) (j : Nat) : Prop := ∃ o, ops[j]? = some o ∧ ∀ e ∈ o.after, Region.binds .any e = true → L.getD e.on false = true
theorem Due.down {m : Nat} (hd : domOkS ops m = true) {L : Array Bool} (hL : Down ops L) (hin : ∀ k, L.getD k false = true → ∃ o, ops[k]? = some o) : ∀ j, m ≤ j → Due ops L j → Due ops L m := by
  intro j
  induction j using Nat.strongRecOn with
  | _ j ih =>
    intro hj h
    by_cases hjm : j = m
    · subst hjm; exact h
    · obtain ⟨o, ho, hall⟩ := h
      obtain ⟨e, he, hb, h1, h2⟩ := domS_back hd ho (by omega)
      have h3 := hall e he hb
      obtain ⟨o2, ho2⟩ := hin _ h3
      exact ih e.on h2 h1 ⟨o2, ho2, hL _ _ ho2 h3⟩
theorem domS_all {m : Nat} (hd : domOkS ops m = true) {L : Array Bool} (hL : Down ops L) (hz : Due ops L m) : ∀ k i, m - i = k → i < m → L.getD i false = true := by
  intro k
  induction k using Nat.strongRecOn with
  | _ k ih =>
    intro i hk hi
    obtain ⟨j, o, hij, hj, ho, e, he, hb, hon⟩ := domS_next hd hi
    subst hon
    by_cases hjz : j = m
    · subst hjz
      obtain ⟨o', ho', hall⟩ := hz
      rw [ho'] at ho
      cases ho
      exact hall e he hb
    · exact hL j o ho (ih _ (by omega) j rfl (by omega)) e he hb
/-- What is listed is there, with all that it comes behind. -/
structure Listed (ops : Array Oper) (L : Array Bool) : Prop where
  down : Down ops L
  there : ∀ k, L.getD k false = true → ∃ o, ops[k]? = some o
theorem Listed.set {L : Array Bool} (h : Listed ops L) {j : Nat} (hj : j ∈ Region.ready .any ops L) : Listed ops (L.setIfInBounds j true) := by
  refine ⟨h.down.set hj, fun k hk => ?_⟩
  by_cases hkj : k = j
  · subst hkj
    obtain ⟨_, o, ho, _⟩ := mem_ready.1 hj
    exact ⟨o, ho⟩
  · have : (L.setIfInBounds j true).getD k false = L.getD k false := getD_set_ne false (Ne.symm hkj)
    exact h.there k (this ▸ hk)
theorem Listed.none (n : Nat) : Listed ops (Array.replicate n false) := by
  refine ⟨down_none n, fun k h => ?_⟩
  rw [Array.getD_eq_getD_getElem?, Array.getElem?_replicate] at h
  split at h <;> cases h
theorem anyS_first {D : World → Prop} {m : Nat} {Q : Act → World → Prop} {i : Nat} {oi : Oper} {v : Value} (hd : domOkS ops m = true) (hiz : i < m) (hi : ops[i]? = some oi) (hsel : ∀ (j : Nat) (o : Oper) cs b, ops[j]? = some o → o.op ≠ .select cs b) :
    ∀ (fuel : Nat) (listed : Array Bool) (a : Act) (w : World), D w → Listed ops listed →
      (∀ j oj, ops[j]? = some oj → j ≠ i → listed.getD j true = false → (∀ e ∈ oj.after, Region.binds .any e = true → e.on ≠ i) → oi.apart ops oj = true) →
      i ∈ Region.ready .any ops listed → YieldsD P ops D oi v a →
      anyS P ops D m Q fuel (listed.setIfInBounds i true) (a.put oi.dst v) w → anyS P ops D m Q (fuel + 1) listed a w := by
  intro fuel
  induction fuel with
  | zero =>
    intro listed a w hDw _ _ hr hy H
    refine ⟨fun h => (by rw [h] at hr; cases hr), fun j hj => ?_⟩
    by_cases hji : j = i
    · subst hji; exact hy.wpOp hi hDw ⟨.inr hDw, H⟩
    · have := ready_mono hj hji
      rw [H.1] at this
      cases this
  | succ fuel ih =>
    intro listed a w hDw hdn hfree hr hy H
    refine ⟨fun h => (by rw [h] at hr; cases hr), fun j hj => ?_⟩
    by_cases hji : j = i
    · subst hji; exact hy.wpOp hi hDw ⟨.inr hDw, H⟩
    · have hjz : ¬ m ≤ j := fun h => by
        have h2 : Due ops listed j := (mem_ready.1 hj).2
        have h1 := domS_all hd hdn.down (h2.down hd hdn.down hdn.there j h) _ i rfl hiz
        have h0 := getD_ff (mem_ready.1 hr).1
        rw [h1] at h0
        cases h0
      have h1 := H.2 j (ready_mono hj hji)
      obtain ⟨hjun, oj, hoj, hall⟩ := mem_ready.1 hj
      have hnot : ∀ e ∈ oj.after, Region.binds .any e = true → e.on ≠ i := fun e he hb heq => by
        have h1 := hall e he hb
        have h0 := (mem_ready.1 hr).1
        rw [heq] at h1
        rw [getD_ff h0] at h1
        cases h1
      have h2 := wpOp_putD hoj (hfree j oj hoj hji hjun hnot) (fun cs b => hsel i oi cs b hi) (fun cs b => hsel j oj cs b hoj) hy h1
      have hfree' : ∀ k ok, ops[k]? = some ok → k ≠ i → (listed.setIfInBounds j true).getD k true = false →
          (∀ e ∈ ok.after, Region.binds .any e = true → e.on ≠ i) → oi.apart ops ok = true := fun k ok hk hki hun hno => by
        refine hfree k ok hk hki ?_ hno
        by_cases hjk : j = k
        · subst hjk; exact hjun
        · rw [getD_set_ne true hjk] at hun; exact hun
      refine wpOp_mono (fun a' w' h3 => ?_) h2
      have hDw' : D w' := h3.2.1.resolve_left hjz
      refine ⟨.inr hDw', ih (listed.setIfInBounds j true) a' w' hDw' (hdn.set hj) hfree' (ready_mono hr (Ne.symm hji)) h3.1 ?_⟩
      rw [Array.setIfInBounds_comm _ _ hji]
      exact h3.2.2
def planOkS (ops : Array Oper) (m : Nat) (k2 : Plan) : Nat → Array Bool → Plan → Bool
  | n, listed, .nil => headIn m listed && planOk ops n listed k2
  | n + 1, listed, .q i k => Nat.blt i m && Region.free .any ops listed i && (Region.ready .any ops listed).contains i && planOkS ops m k2 n (listed.setIfInBounds i true) k
  | n + 1, listed, .e i k => (Region.ready .any ops listed == [i]) && planOkS ops m k2 n (listed.setIfInBounds i true) k
  | n + 1, listed, .two i j k h => (Region.ready .any ops listed == [i, j]) && planOkS ops m k2 n (listed.setIfInBounds i true) k && planOkS ops m k2 n (listed.setIfInBounds j true) h
  | 0, _, _ => false
/-- What is to be shown ahead of a region's other part. -/
def RestOf (P : Program) (ops : Array Oper) (k2 : Plan) (Q : Exit → Act → World → Prop) : Exit → Act → World → Prop := fun _ a w => ∃ D : World → Prop, D w ∧ planW P ops (Q .normal) k2 D a w
theorem planW.anyS {Q : Exit → Act → World → Prop} {m : Nat} {k2 : Plan} (hs : Region.noSelect ops = true) (hd : domOkS ops m = true) : ∀ (n : Nat) (ix : Plan) (D : World → Prop) (listed : Array Bool) (a : Act) (w : World), planOkS ops m k2 n listed ix = true → D w → Listed ops listed →
    planW P ops (RestOf P ops k2 Q .normal) ix D a w → Proofs.Ytbhjchlflkgjbaa.anyS P ops D m (Q .normal) n listed a w
  | n, .nil, D, listed, a, w, hok, hD, hdn, ⟨D2, h1, h2⟩ => by
    unfold planOkS at hok
    simp only [Bool.and_eq_true] at hok
    exact anyD.toS _ _ _ _ hok.1 (planW.anyD hs n k2 D2 _ _ _ hok.2 h1 h2)
  | n + 1, .q i ix, D, listed, a, w, hok, hD, hdn, ⟨o, v, hi, hy, h⟩ => by
    simp only [planOkS, Bool.and_eq_true, Nat.blt_eq] at hok
    have hrd : i ∈ Region.ready .any ops listed := by simpa using hok.1.2
    exact anyS_first hd hok.1.1.1 hi (Region.noSelect_spec hs) n listed a w hD hdn (Region.free_spec hi hok.1.1.2) hrd hy (planW.anyS hs hd n ix D _ _ _ hok.2 hD (hdn.set hrd) h)
  | n + 1, .e i ix, D, listed, a, w, hok, hD, hdn, h => by
    simp only [planOkS, Bool.and_eq_true, beq_iff_eq] at hok
    refine ⟨fun h0 => (by rw [hok.1] at h0; cases h0), fun j hj => ?_⟩
    have hj0 := hj
    rw [hok.1] at hj
    simp only [List.mem_singleton] at hj
    subst hj
    exact wpOp_mono (fun a' w' ⟨D', hD', hw', h'⟩ => ⟨.inr (hD' _ hw'), anyS.mono hD' _ _ _ _ (planW.anyS hs hd n ix D' _ a' w' hok.2 hw' (hdn.set hj0) h')⟩) h
  | n + 1, .two i j k r, D, listed, a, w, hok, hD, hdn, h => by
    simp only [planOkS, Bool.and_eq_true, beq_iff_eq] at hok
    refine ⟨fun h0 => (by rw [hok.1.1] at h0; cases h0), fun q hq => ?_⟩
    have hq0 := hq
    rw [hok.1.1] at hq
    simp only [List.mem_cons, List.not_mem_nil, or_false] at hq
    rcases hq with rfl | rfl
    · exact wpOp_mono (fun a' w' ⟨D', hD', hw', h'⟩ => ⟨.inr (hD' _ hw'), anyS.mono hD' _ _ _ _ (planW.anyS hs hd n k D' _ a' w' hok.1.2 hw' (hdn.set hq0) h')⟩) h.1
    · exact wpOp_mono (fun a' w' ⟨D', hD', hw', h'⟩ => ⟨.inr (hD' _ hw'), anyS.mono hD' _ _ _ _ (planW.anyS hs hd n r D' _ a' w' hok.2 hw' (hdn.set hq0) h')⟩) h.2
theorem wp_region_planS {id m : Nat} {k2 : Plan} {a : Act} {w : World} {Q : Exit → Act → World → Prop} (D : World → Prop) (ix : Plan) (hm : P.follows .mixedOrders = true)
    (hok : (Region.noSelect ops && domOkS ops m && planOkS ops m k2 ops.size (Array.replicate ops.size false) ix) = true) (hD : D w.drew)
    (h : planW P ops (RestOf P ops k2 Q .normal) ix D a w.drew) : (Code.region id ops true).wp P Q a w := by
  simp only [Bool.and_eq_true] at hok
  refine wp_region_any hm ?_
  exact anyS.wpAny _ _ _ _ (planW.anyS hok.1.1 hok.1.2 _ ix D _ a _ hok.2 hD (Listed.none _) h)
end
end Go.Proofs.Ytbhjchlflkgjbaa
namespace Go.Proofs.Ytbhjchlflkgjbaa.A
open Go.RowKit
section
variable {P : Program} {n : Nat} {W : Wd} {σ τ : Blks} {l : Slots} {X : List Nat} {x y : Operand} {d : Option Nat} {ty t t' e : TypeId} {pos : String} {aft : Array Edge} {g : Option (Nat × Bool)} {A : Abs} {tab : List (Nat × TI)} {ops : Array Oper} {Q : Exit → Act → World → Prop} {v : Value} {xs : List (List Abs)} {s q : Nat} {a b : Int}
/-- A region that draws, in two parts: what the second part changes, the first may read. -/
theorem SC.drawS {id : Nat} (m : Nat) (X : List Nat) (ix k2 : Plan) (hm : P.follows .mixedOrders = true)
    (hok : (Region.noSelect ops && domOkS ops m && planOkS ops m k2 ops.size (Array.replicate ops.size false) ix) = true) (h : SX P ops ix X (St n W σ l) (RestOf P ops k2 Q)) : SC P (.region id ops true) (St n W σ l) Q := fun a w hs =>
  wp_region_planS (fun w' => Ext X w.drew w') ix hm hok (Ext.refl _) (h a _ hs.drew)
theorem SE.rest {k2 : Plan} (X : List Nat) (h : SX P ops k2 X (St n W σ l) Q) : SE .normal (St n W σ l) (RestOf P ops k2 Q) := fun a w hs => ⟨fun w' => Ext X w w', Ext.refl w, h a w hs⟩
theorem repss_set {K : List Nat} {w : World} {ys : List Abs} {vs : List Value} (hy : reps K w ys vs) (hv : vs.length = s) : ∀ {xs : List (List Abs)} {us : List Value} {q : Nat}, repss K w s xs us → q < xs.length → repss K w s (xs.set q ys) (us.take (q * s) ++ vs ++ us.drop (q * s + s))
  | [], _, _, _, h => by simp at h
  | c :: xs, _, 0, ⟨u1, u2, h1, h2, h3, h4⟩, _ => by
    subst h1
    refine ⟨vs, u2, ?_, hv, hy, h4⟩
    simp [← h2]
  | c :: xs, _, q + 1, ⟨u1, u2, h1, h2, h3, h4⟩, hq => by
    subst h1
    have h5 := repss_set hy hv h4 (q := q) (by simpa using hq)
    refine ⟨u1, _, ?_, h2, h3, h5⟩
    have e1 : (q + 1) * s = u1.length + q * s := by rw [Nat.succ_mul]; omega
    rw [e1, Nat.add_assoc, List.take_length_add_append, List.drop_length_add_append]
    simp
/-- An element of a row of the call's own is another one then. -/
theorem Eff.setOwn (hT : TabOk P tab) {i : TI} {ys : List Abs} (ht : ti tab t = some i) (hx : look l x = some (.v (eptr v (q * s)))) (hy : look l y = some A) (hu : Upd (own e s v xs) (own e s v (xs.set q ys)) σ τ) (hc : cellsA A = ys) (hs : Nat.beq i.size s = true) (hl : Nat.beq ys.length s = true) (hq : q < xs.length) (h1 : ones ys = true) :
    Eff P n W σ l v.ownBlock.toList ⟨d, .store t x y, ty, pos, aft, g⟩ fun u τ' => u = .v undef ∧ τ' = τ := fun ac w hst => by
  have hs := Nat.eq_of_beq_eq_true hs
  have hl := Nat.eq_of_beq_eq_true hl
  obtain ⟨us, hown, hr⟩ : (ownPc e s v xs).p _ w := hst.mem.hold _ hu.mem
  have hry := cellsA_rep (hst.eval hy)
  rw [hc] at hry
  have hlen := reps_length hry
  have hone := ones_reps hry h1
  rcases hown.2 with ⟨h, h0⟩ | ⟨gb, cap, cur, hv, hbase, hg, hn, hcap, hsz, htk⟩
  · omega
  · subst hv
    have h2 := (hT t _ ht).sizeOf (w := w)
    have hb1 : q * s + s ≤ xs.length * s := by rw [← Nat.succ_mul]; exact Nat.mul_le_mul_right _ hq
    have hb2 : xs.length * s ≤ cap * s := Nat.mul_le_mul_right _ hn
    have hrun := run_storeCells_at (P := P) gb (0 + q * s) e (cellsL (ac.eval y)) 0 cur w hg (by omega) hone
    have e0 : 0 + q * s + 0 = q * s := by omega
    rw [e0] at hrun
    have hcl : cur.toList.length = cur.size := by simp
    have hle : (cellsL (ac.eval y)).length = s := by omega
    have hxx : Ext (Value.ownBlock (.slice (some ⟨gb, 0, none⟩) xs.length cap)).toList w (w.setRow gb (cur.toList.take (q * s) ++ cellsL (ac.eval y) ++ cur.toList.drop (q * s + (cellsL (ac.eval y)).length)).toArray) := (Ext.refl w).setRow (.inl (by simp [Value.ownBlock])) _
    have hnew : (cur.toList.take (q * s) ++ cellsL (ac.eval y) ++ cur.toList.drop (q * s + (cellsL (ac.eval y)).length)).take (xs.length * s) = us.take (q * s) ++ cellsL (ac.eval y) ++ us.drop (q * s + s) := by
      rw [← htk, hle]
      apply List.ext_getElem?
      intro j
      simp only [List.getElem?_take, List.getElem?_append, List.length_append, List.length_take, List.getElem?_drop, hle]
      grind
    have hm := hst.mem.upd hu hxx own_nodup (fun k hk => .inl hk) rfl fun hca => ⟨us.take (q * s) ++ cellsL (ac.eval y) ++ us.drop (q * s + s), ⟨?_, .inr ⟨gb, cap, _, by rw [List.length_set], hbase, setRow_heap w gb cur _ e (0, 0) hg, by rw [List.length_set]; exact hn, hcap, ?_, ?_⟩⟩, repss_carry hca _ _ _ (repss_set hry (by omega) hr hq)⟩
    · refine ⟨undef, _, _, _, ⟨rfl, rfl⟩, hxx, rfl, hm.1, hm.2, .inr ⟨rfl, ?_⟩⟩
      have hcs := cellsL_eq (ac.eval y)
      have hle2 : (cellsL (ac.eval y)).length = i.size := by omega
      have hx2 : ac.eval x = .pointer (some ⟨gb, 0 + q * s, none⟩) := hst.plain hx
      simp [execOp, hx2, Instr.storeAt, Instr.sureAddr, storeVar, Sem.run_bind, hcs, h2, hle2, hrun, Result.andThen]
      first | rfl | (simp only [Nat.zero_add] at hrun; simp [hle2, hrun])
    · have h5 := hown.1
      simp only [List.length_append, List.length_take, List.length_drop, List.length_set]
      omega
    · simp only [List.size_toArray, List.length_append, List.length_take, List.length_drop]
      omega
    · rw [List.length_set]
      simpa using hnew
end
end Go.Proofs.Ytbhjchlflkgjbaa.A
/-
  Layer 5: the book.
-/
set_option maxRecDepth 100000
namespace Go.Proofs.Ytbhjchlflkgjbaa
open Go.RowKit

def txt (l : List UInt8) : Value := .string ⟨l.toArray⟩
/-- What was digested. -/
def hashedV (p : Nat × List UInt8) : Value := .agg #[.int .u8 p.1, txt p.2]
def hashedOk (p : Nat × List UInt8) : Prop := p.1 < 256 ∧ p.2.length ≤ maxLen
/-- What was tagged. -/
def saidV (p : (Int × Int) × List UInt8) : Value := .agg #[.int .i64 p.1.1, .int .i64 p.1.2, txt p.2]
def i64r (n : Int) : Prop := -9223372036854775808 ≤ n ∧ n < 9223372036854775808
def saidOk (p : (Int × Int) × List UInt8) : Prop := i64r p.1.1 ∧ i64r p.1.2 ∧ p.2.length ≤ maxLen
theorem txt_inj {a b : List UInt8} (h : txt a = txt b) : a = b := by
  unfold txt at h
  injection h with h
  injection h with h
  simpa using congrArg Array.toList h
theorem hashed_lit (p : Nat × List UInt8) (h : hashedOk p) : ∃ l, keyOf Try.prog 122 (hashedV p) = some l := by
  obtain ⟨h1, h2⟩ := h
  have hk : (Try.prog.keyType 122 && (hashedV p).formed Try.prog 122) = true := by kernel_rfl
  have hn : Try.prog.cellsOf 122 = 2 := by kernel_rfl
  have hn5 : Try.prog.cellsOf 5 = 1 := by kernel_rfl
  have hn9 : Try.prog.cellsOf 9 = 1 := by kernel_rfl
  obtain ⟨m, hm⟩ := types_pos
  unfold keyOf
  simp only [Try.underlying122, if_pos hk, hm]
  simp [Program.keyLits, Try.underlying122, Try.underlying5, Try.underlying9, hn, hn5, hn9, hashedV, Value.cells, txt, Lit.wf]
  have e1 : IntKind.u8.min ≤ (p.1 : Int) ∧ (p.1 : Int) ≤ IntKind.u8.max := ⟨by show (0 : Int) ≤ _; omega, by show _ ≤ (255 : Int); omega⟩
  have e2 : (⟨p.2.toArray⟩ : ByteArray).size ≤ maxLen := by simpa [ByteArray.size] using h2
  simp [e1, e2]
theorem said_lit (p : (Int × Int) × List UInt8) (h : saidOk p) : ∃ l, keyOf Try.prog 119 (saidV p) = some l := by
  obtain ⟨h1, h2, h3⟩ := h
  have hk : (Try.prog.keyType 119 && (saidV p).formed Try.prog 119) = true := by kernel_rfl
  have hn : Try.prog.cellsOf 119 = 3 := by kernel_rfl
  have hn5 : Try.prog.cellsOf 3 = 1 := by kernel_rfl
  have hn9 : Try.prog.cellsOf 9 = 1 := by kernel_rfl
  obtain ⟨m, hm⟩ := types_pos
  unfold keyOf
  simp only [Try.underlying119, if_pos hk, hm]
  simp [Program.keyLits, Try.underlying119, Try.underlying3, Try.underlying9, hn, hn5, hn9, saidV, Value.cells, txt, Lit.wf]
  obtain ⟨h1a, h1b⟩ := h1
  obtain ⟨h2a, h2b⟩ := h2
  have e1 : IntKind.i64.min ≤ p.1.1 ∧ p.1.1 ≤ 9223372036854775807 := ⟨by show (-9223372036854775808 : Int) ≤ _; omega, by omega⟩
  have e3 : IntKind.i64.min ≤ p.1.2 ∧ p.1.2 ≤ 9223372036854775807 := ⟨by show (-9223372036854775808 : Int) ≤ _; omega, by omega⟩
  have e2 : (⟨p.2.toArray⟩ : ByteArray).size ≤ maxLen := by simpa [ByteArray.size] using h3
  simp [e1, e2, e3]
theorem hashed_fit : KeyFit Try.prog 122 hashedV hashedOk where
  keyed := Maps.Keyed.of_law (deep_law_laid laid (m := 4) (by decide) (of_decide_eq_true (by kernel_rfl)) (by kernel_rfl) (by kernel_rfl))
  lit := hashed_lit
  inj a b _ _ h := by
    unfold hashedV at h
    injection h with h
    simp at h
    obtain ⟨a1, a2⟩ := a
    obtain ⟨b1, b2⟩ := b
    have := txt_inj h.2
    simp only at this
    subst this
    have h1 : a1 = b1 := by have := h.1; omega
    subst h1
    rfl
theorem said_fit : KeyFit Try.prog 119 saidV saidOk where
  keyed := Maps.Keyed.of_law (deep_law_laid laid (m := 4) (by decide) (of_decide_eq_true (by kernel_rfl)) (by kernel_rfl) (by kernel_rfl))
  lit := said_lit
  inj a b _ _ h := by
    unfold saidV at h
    injection h with h
    simp at h
    obtain ⟨⟨a0, a1⟩, a2⟩ := a
    obtain ⟨⟨b0, b1⟩, b2⟩ := b
    have := txt_inj h.2.2
    simp only at this h
    obtain ⟨rfl, rfl, _⟩ := h
    subst this
    rfl

/-- A call of a Go function, as one step of a region that draws. -/
theorem step_go {P : Program} {ops : Array Oper} {o : Oper} {a : Act} {w : World} {K : Act → World → Prop} {Q : Exit → Act → World → Prop} {E : Prop} (hgd : o.guard = none) (f : FuncId) (xs : Array Operand) (ats : Array TypeId)
    (ho : o.op = .call { callee := .value (.func f), args := xs, argTypes := ats }) {R : Ending → World → Prop} (vals : Array Value) (hv : xs.map a.eval = vals) (hcall : (callFunc f (#[] ++ vals ++ #[])).run P w = .ok (.enter f vals) w) (hc : Calls P f vals w R) (h : ∀ e w', R e w' → ∃ v, e = .returned v ∧ K (a.put o.dst v) w') :
    if Region.wanted o (yielded ops a.tmps) = true then Oper.wp P o a w K Q else E := by
  have hw : Region.wanted o (yielded ops a.tmps) = true := by simp [Region.wanted, hgd]
  rw [if_pos hw]
  unfold Oper.wp
  subst hv
  have hr : (execOp a.eval o).run P w = .ok (.enter f (xs.map a.eval)) w := by
    obtain ⟨dst, op, ty, pos, after, guard⟩ := o
    dsimp only at ho
    subst ho
    rw [execOp_call_go]
    exact hcall
  rw [hr, Oper.upon_enter]
  refine hc.mono fun e w' hR => ?_
  obtain ⟨v, rfl, hk⟩ := h e w' hR
  exact hk

/-! ### A number as a digest -/
def numCells (f n : Nat) : List Value := .int .u8 f :: (List.replicate 23 (.int .u8 0) ++ (beBytes n 8).map bc)
def numV (f n : Nat) : Value := .agg (numCells f n).toArray
theorem slice32 (q : Nat) (w : World) : (Instr.sliceAt 67 (.pointer (some ⟨q, 0, none⟩)) (some (.int .i64 24)) none none).run Try.prog w = .ok (.slice (some ⟨q, 24, none⟩) 8 8) w := by
  have ha : Try.prog.arrayLen 67 = 32 := by kernel_rfl
  have hs : ((sizeOf (Try.prog.elem 67)).run Try.prog w) = .ok 1 w := by kernel_rfl
  rw [run_sliceAt_array_l (P := Try.prog) w 67 ⟨q, 0, none⟩ Try.underlying67 .i64 24 (by omega) (by rw [ha]; omega), hs, ha]
  rfl
attribute [local go_sem] slice32
def preCells (f : Nat) : List Value := .int .u8 f :: List.replicate 31 (.int .u8 0)
def zero32 : Array Value := (List.replicate 32 (.int .u8 0)).toArray
theorem run_alloc32 {tmps : Operand → Value} {dst pos after guard ty} {w : World} : (execOp tmps ⟨dst, .alloc 67, ty, pos, after, guard⟩).run Try.prog w = .ok (.value (.pointer (some ⟨w.heap.size, 0, none⟩))) (w.alloc (.cells zero32 67)) := by kernel_rfl
theorem own8 {w : World} {base n : Nat} {r : Value} (h : OwnB w base r ([] ++ beBytes n (Int.toNat 8))) : ∃ b off c, r = .slice (some ⟨b, off, none⟩) 8 c ∧ ∀ j u, ((beBytes n 8).map bc)[j]? = some u → w.cell? ((⟨b, off, none⟩ : Addr).add j) = some u := by
  obtain ⟨A, c, h1, _, _, _, h5⟩ := h.bytes
  obtain ⟨b, off, rfl, hc⟩ := h5 (by simp [beBytes])
  refine ⟨b, off, c, by rw [h1]; simp [beBytes_length], fun j u hu => ?_⟩
  have hadd : (⟨b, off, none⟩ : Addr).add j = ⟨b, off + j, none⟩ := by
    unfold Addr.add
    split
    · rename_i h0; subst h0; rfl
    · rfl
  rw [hadd]
  exact hc j u hu
theorem splice_num (f n : Nat) : splice (preCells f) 24 ((beBytes n 8).map bc) = numCells f n := by
  simp [splice, preCells, numCells, beBytes_length]
theorem num_one (f n : Nat) : (numCells f n).toArray.all (·.oneCell') = true := by
  rw [List.all_toArray, List.all_eq_true]
  intro v hv
  simp only [numCells, List.mem_cons, List.mem_append, List.mem_replicate, List.mem_map] at hv
  rcases hv with rfl | ⟨_, rfl⟩ | ⟨a, _, rfl⟩ <;> rfl
set_option maxHeartbeats 2000000 in
theorem book_number (w : World) (f n : Nat) (hn : n < 9223372036854775808) :
    Calls Try.prog 80 #[.int .u8 f, .int .i64 n] w fun e w' => e = .returned (numV f n) ∧ Ext [] w w' := by
  go_enter Try.func80, Try.ntmps80
  go_wp2_with (first
    | ((with_reducible refine at_op ⟨some 4, _, _, _, _, _⟩ ?_); refine wpList_value rfl _ _ run_alloc32 ?_)
    | ((with_reducible refine at_op ⟨some 5, _, _, _, _, _⟩ ?_); refine wpList_value rfl _ _ run_alloc32 ?_)
    | ((with_reducible refine at_op ⟨some 7, _, _, _, _, _⟩ ?_); refine wpList_value rfl (.agg (preCells f).toArray) (w.alloc (.cells zero32 67)) (by kernel_rfl) ?_)
    | ((with_reducible refine at_op ⟨none, .store _ (.tmp 5) (.tmp 7), _, _, _, _⟩ ?_); refine wpList_store_new rfl _ _ _ rfl (w.alloc (.cells zero32 67)) _ _ (preCells f).toArray rfl rfl rfl (by kernel_rfl) (by kernel_rfl) (by kernel_rfl) ?_))
  have hput := fun (W : World) => octets_Put W (.slice none 0 0) [] n (by omega) 8 (BytesV.nil W) (by simp) (by decide)
  have hcl := fun (W : World) => (by kernel_rfl : (callFunc 39 (#[] ++ #[.slice none 0 0, .int .u64 n, .int .i64 8] ++ #[])).run Try.prog W = .ok (.enter 39 #[.slice none 0 0, .int .u64 n, .int .i64 8]) W)
  have hwr : IntKind.u64.wrap (n : Int) = n := by rw [IntKind.wrap_u64]; omega
  have hx0 : Ext [] w ((w.alloc (.cells zero32 67)).alloc (.cells (preCells f).toArray 67)).drew := (((Ext.refl w).alloc _).alloc _).trans (G := []) (Still.ext (Still.drewN _ 1)) (by simp)
  have hb5 : Blk ((w.alloc (.cells zero32 67)).alloc (.cells (preCells f).toArray 67)).drew (w.heap.size + 1) 67 (preCells f).toArray := by
    have hsz : (w.alloc (.cells zero32 67)).heap.size = w.heap.size + 1 := Array.size_push _
    rw [← hsz]
    exact heap_alloc_new (w.alloc (.cells zero32 67)) (.cells (preCells f).toArray 67)
  have hb4 : Blk ((w.alloc (.cells zero32 67)).alloc (.cells (preCells f).toArray 67)).drew w.heap.size 67 zero32 :=
    (((Blk.new w 67 zero32).ext ((Ext.refl (F := []) _).alloc _) (by simp)).ext (F := []) (Still.ext (Still.drewN _ 1)) (by simp))
  go_region_law (first
    | (refine step_copy_splice rfl _ _ _ _ rfl 5 Try.underlying40 (by kernel_rfl) (some ⟨w.heap.size + 1, 24, none⟩) (some ⟨b, off, none⟩) 8 8 8 c (by simp [Act.eval]) (by simp [Act.eval]) (w.heap.size + 1) 24 (preCells f) 67 hb52 ((beBytes n 8).map bc) (by simp [beBytes_length]) (fun _ => ⟨rfl, _, rfl, hsrc⟩) (by simp [beBytes_length, preCells]) bc_one (w.heap.size + 1) w2 (RowKit.Below.refl _ _) (Nat.le_refl _) ?_; intro w3 hb53 hbel)
    | (refine step_go rfl 39 _ _ rfl _ (by simp [Act.eval, Act.put]) (hcl _) (hput _) ?_; rintro e w2 ⟨r, rfl, hr2, hx2⟩; obtain ⟨b, off, c, rfl, hsrc⟩ := own8 hr2; have hb52 := hb5.ext hx2 (by simp); have hb42 := hb4.ext hx2 (by simp); refine ⟨_, rfl, ?_⟩))
  have hb43 : Blk w3 w.heap.size 67 zero32 := (hbel.block _ (by omega)).trans hb42
  have hb53' : Blk w3 (w.heap.size + 1) 67 (numCells f n).toArray := by
    have := hb53.out
    rw [splice_num] at this
    exact this
  have HX := Lib.hid (show Ext [] w w3 from ⟨hbel.os.trans (hx0.trans hx2 (by simp)).os, hbel.tape.trans (hx0.trans hx2 (by simp)).tape, hbel.output.trans (hx0.trans hx2 (by simp)).output, Nat.le_trans (hx0.trans hx2 (by simp)).size hbel.size, fun k hk hn => (hbel.block k (by omega)).trans ((hx0.trans hx2 (by simp)).block k hk hn)⟩)
  have H4 := Lib.hid hb43
  have H5 := Lib.hid hb53'
  clear hb43 hb53' hb53 hbel hb4 hb5 hb42 hb52 hx0 hx2 hr2 hsrc hput hcl
  go_wp2_with (first
    | ((with_reducible refine at_op ⟨some 13, _, _, _, _, _⟩ ?_); refine wpList_load_row rfl _ _ rfl (w.heap.size + 1) rfl _ _ _ _ H5.out Try.underlying67 rfl (by kernel_rfl) ?_)
    | ((with_reducible refine at_op ⟨none, .store _ (.tmp 4) (.tmp 13), _, _, _, _⟩ ?_); refine wpList_store_row rfl _ _ _ rfl w.heap.size (numCells f n).toArray rfl rfl _ _ H4.out (by kernel_rfl) (by kernel_rfl) (num_one f n) ?_))
  exact bodyPost_ret (v := numV f n) (results_cell_row rfl _ _ w.heap.size _ _ _ _ rfl (H4.out.setRow _) Try.underlying67 rfl (by kernel_rfl)) rfl ⟨rfl, HX.out.setRow (Or.inr (Nat.le_refl _)) _⟩

/-! ### A key's number -/
section
variable {α : Type} [DecidableEq α]
/-- Which number a key gets. -/
def pl (m : List (α × Nat)) (k : α) : Nat := (aget m k).getD (m.length + 1)
/-- What is known then. -/
def pm (m : List (α × Nat)) (k : α) : List (α × Nat) := if (aget m k).isSome then m else aput m k (m.length + 1)
end
def natV (n : Nat) : Value := .int .i64 n
theorem place_said (w : World) (b : Nat) (m : List (((Int × Int) × List UInt8) × Nat)) (x y : Int) (l : List UInt8) (h : MapOf w b saidV natV saidOk m) (hk : saidOk ((x, y), l)) (hm : m.length < 4611686018427387904) :
    Calls Try.prog 81 #[.map (some b), .agg #[.int .i64 x, .int .i64 y, .string ⟨l.toArray⟩]] w fun e w' => e = .returned (natV (pl m ((x, y), l))) ∧ MapOf w' b saidV natV saidOk (pm m ((x, y), l)) ∧ Ext [b] w w' := by
  have H := Lib.hid h; clear h
  have HK := Lib.hid hk; clear hk
  have hz : ∀ W : World, (zeroValue 3).run Try.prog W = .ok (.int .i64 0) W := fun W => by kernel_rfl
  have HZ := Lib.hid hz; clear hz
  have hl1 : (m.length : Int) + 1 < 9223372036854775808 := by omega
  have hl0 : (0 : Int) ≤ m.length := by omega
  rcases hg : aget m ((x, y), l) with _ | v
  · have G := Lib.hid hg; clear hg
    go_enter Try.func81, Try.ntmps81
    go_wp2_with (first
      | ((with_reducible refine at_op ⟨some 10, _, _, _, _, _⟩ ?_); refine wpList_mapGetOk (H.out.alloc _) said_fit _ Try.underlying79 _ (HZ.out _) ((x, y), l) HK.out rfl _ _ rfl rfl rfl ?_; rw [G.out]; dsimp only [Option.map_none, Option.getD_none, Option.isSome_none])
      | ((with_reducible refine at_op ⟨some 16, _, _, _, _, _⟩ ?_); refine wpList_mapLen (H.out.alloc _) _ Try.underlying79 rfl _ rfl rfl ?_)
      | ((with_reducible refine at_op ⟨none, .mapUpdate _ _ _ _, _, _, _, _⟩ ?_); refine wpList_mapPut (H.out.alloc _) said_fit _ Try.underlying79 ((x, y), l) HK.out (m.length + 1) rfl _ _ _ rfl rfl rfl rfl ?_; intro w1 h1 hx1))
    go_ret
    refine ⟨by simp [pl, natV, G.out], ?_, ?_⟩
    · simpa [pm, G.out] using h1
    · exact ((Ext.refl (F := [b]) w).alloc _).trans hx1 (by simp)
  · have G := Lib.hid hg; clear hg
    go_enter Try.func81, Try.ntmps81
    go_wp2_with ((with_reducible refine at_op ⟨some 10, _, _, _, _, _⟩ ?_); refine wpList_mapGetOk (H.out.alloc _) said_fit _ Try.underlying79 _ (HZ.out _) ((x, y), l) HK.out rfl _ _ rfl rfl rfl ?_; rw [G.out]; dsimp only [Option.map_some, Option.getD_some, Option.isSome_some])
    go_ret
    refine ⟨by simp [pl, natV, G.out], ?_, ?_⟩
    · have := H.out.alloc (.cells #[.int .i64 x, .int .i64 y, .string ⟨l.toArray⟩] 119)
      simpa [pm, G.out] using this
    · exact (Ext.refl (F := [b]) _).alloc _
end Go.Proofs.Ytbhjchlflkgjbaa
/-
  Layer 5: what a book tells.
-/
set_option maxRecDepth 100000
namespace Go.Proofs.Ytbhjchlflkgjbaa
open Go.RowKit

/-- A book that has digested D, and tagged T. -/
structure BookAt (w : World) (p bd bt : Nat) (D : List ((Nat × List UInt8) × Nat)) (T : List (((Int × Int) × List UInt8) × Nat)) : Prop where
  blk : Blk w p 81 #[.map (some bd), .map (some bt)]
  md : MapOf w bd hashedV natV hashedOk D
  mt : MapOf w bt saidV natV saidOk T
  ne : bd ≠ bt ∧ p ≠ bd ∧ p ≠ bt
theorem BookAt.ext {w w' : World} {p bd bt : Nat} {D T} {F : List Nat} (h : BookAt w p bd bt D T) (hx : Ext F w w') (h1 : p ∉ F) (h2 : bd ∉ F) (h3 : bt ∉ F) : BookAt w' p bd bt D T :=
  ⟨h.blk.ext hx h1, h.md.ext hx h2, h.mt.ext hx h3, h.ne⟩
theorem BookAt.ext0 {w w' : World} {p bd bt : Nat} {D T} (h : BookAt w p bd bt D T) (hx : Ext [] w w') : BookAt w' p bd bt D T := h.ext hx (by simp) (by simp) (by simp)
theorem conv_txt {w : World} {v : Value} {l : List UInt8} (h : BytesV w v l) : (convert 40 9 v).run Try.prog w = .ok (.string ⟨l.toArray⟩) w := by
  obtain ⟨A, c, rfl, _, _, h4, h5⟩ := h
  rcases A with _ | a
  · have := run_convert_bytes_nil (P := Try.prog) (w := w) 40 5 Try.underlying40 Try.underlying5 l.length c 9 Try.underlying9
    have hl : l = [] := by
      rcases l with _ | ⟨x, l⟩
      · rfl
      · obtain ⟨b, off, h0, _⟩ := h5 (by simp)
        cases h0
    subst hl
    exact this
  · refine run_convert_bytes_back (P := Try.prog) w 40 9 5 a c l Try.underlying40 Try.underlying5 Try.underlying9 (fun j hj => ?_)
    obtain ⟨b, off, h0, hc⟩ := h5 (by intro h0; have := congrArg List.length h0; simp at this; subst this; simp at hj)
    cases h0
    have hadd : (⟨b, off, none⟩ : Addr).add j = ⟨b, off + j, none⟩ := by
      unfold Addr.add
      split
      · rename_i h0; subst h0; rfl
      · rfl
    rw [hadd]
    exact hc j _ (by simp [bc, hj])
theorem run_store_num {w : World} {g f n : Nat} {t : TypeId} {cs : Array Value} (h : Blk w g t cs) (hs : cs.size = 32) : (storeCells ⟨g, 0, none⟩ (numCells f n)).run Try.prog w = .ok () (w.setRow g (numCells f n).toArray) := by
  have := run_storeCells_from (P := Try.prog) g t (numCells f n) 0 cs w h (by rw [hs]; simp [numCells, beBytes_length]) (fun v hv => by
    have := num_one f n
    rw [List.all_toArray, List.all_eq_true] at this
    exact this v hv)
  simpa using this
theorem numCells_length (f n : Nat) : (numCells f n).length = 32 := by simp [numCells, beBytes_length]
attribute [local go_sem] numCells_length
theorem run_allocD {tmps : Operand → Value} {dst pos after guard ty} {w : World} : (execOp tmps ⟨dst, .alloc 124, ty, pos, after, guard⟩).run Try.prog w = .ok (.value (.pointer (some ⟨w.heap.size, 0, none⟩))) (w.alloc (.cells zero32 124)) := by kernel_rfl
theorem run_allocT {tmps : Operand → Value} {dst pos after guard ty} {w : World} : (execOp tmps ⟨dst, .alloc 68, ty, pos, after, guard⟩).run Try.prog w = .ok (.value (.pointer (some ⟨w.heap.size, 0, none⟩))) (w.alloc (.cells zero32 68)) := by kernel_rfl
set_option maxHeartbeats 2000000 in
theorem book_Tag (w : World) (p bd bt : Nat) (D : List ((Nat × List UInt8) × Nat)) (T : List (((Int × Int) × List UInt8) × Nat)) (x y : Int) (v : Value) (l : List UInt8) (h : BookAt w p bd bt D T) (hv : BytesV w v l) (hk : saidOk ((x, y), l)) (hm : T.length < 4611686018427387904) (hpl : pl T ((x, y), l) < 9223372036854775808) :
    Calls Try.prog 78 #[.pointer (some ⟨p, 0, none⟩), .int .i64 x, .int .i64 y, v] w fun e w' => e = .returned (numV 255 (pl T ((x, y), l))) ∧ BookAt w' p bd bt D (pm T ((x, y), l)) ∧ Ext [bt] w w' := by
  have H := Lib.hid h; clear h
  have HK := Lib.hid hk; clear hk
  have HV := Lib.hid hv; clear hv
  go_enter Try.func78, Try.ntmps78
  go_wp2_with ((with_reducible refine at_op ⟨some 8, _, _, _, _, _⟩ ?_); refine wpList_value rfl _ _ run_allocT ?_)
  have hx1 : Ext [] w (w.alloc (.cells zero32 68)).drew := ((Ext.refl w).alloc _).drew
  have hb0 : Blk (w.alloc (.cells zero32 68)).drew w.heap.size 68 zero32 := (Blk.new w 68 zero32).drew
  generalize (w.alloc (.cells zero32 68)) = W at *
  have H1 := H.out.ext0 hx1
  have hlt := H.out.mt.lt
  have hc := Blk.cell H1.blk 1
  have hcv := conv_txt (HV.out.ext0 hx1)
  have hcl := fun (W : World) => (by kernel_rfl : (callFunc 81 (#[] ++ #[.map (some bt), .agg #[.int .i64 x, .int .i64 y, .string ⟨l.toArray⟩]] ++ #[])).run Try.prog W = .ok (.enter 81 #[.map (some bt), .agg #[.int .i64 x, .int .i64 y, .string ⟨l.toArray⟩]]) W)
  have hcl2 := fun (W : World) => (by kernel_rfl : (callFunc 80 (#[] ++ #[.int .u8 255, natV (pl T ((x, y), l))] ++ #[])).run Try.prog W = .ok (.enter 80 #[.int .u8 255, natV (pl T ((x, y), l))]) W)
  have hp := fun (W : World) (h : MapOf W bt saidV natV saidOk T) => place_said W bt T x y l h HK.out hm
  have hn := fun (W : World) => book_number W 255 (pl T ((x, y), l)) hpl
  have HB0 := Lib.hid hb0; have HX1 := Lib.hid hx1; have HH1 := Lib.hid H1
  have HP := Lib.hid hp; have HN := Lib.hid hn; have HC := Lib.hid hcl; have HC2 := Lib.hid hcl2
  clear hb0 hx1 H1 hp hn hcl hcl2
  go_region_law (first
    | (refine step_go rfl 81 _ _ rfl #[.map (some bt), .agg #[.int .i64 x, .int .i64 y, .string ⟨l.toArray⟩]] (by simp [Act.eval, Act.put]) (HC.out _) (HP.out _ (HH1.out.mt)) ?_; rintro e w2 ⟨rfl, hm2, hx2⟩; refine ⟨_, rfl, ?_⟩)
    | (refine step_go rfl 80 _ _ rfl #[.int .u8 255, natV (pl T ((x, y), l))] (by simp [Act.eval]) (HC2.out _) (HN.out _) ?_; rintro e w3 ⟨rfl, hx3⟩; have hst := run_store_num (f := 255) (n := pl T ((x, y), l)) ((HB0.out.ext hx2 (by simp; omega)).ext hx3 (by simp)) rfl; refine ⟨.agg (numCells 255 (pl T ((x, y), l))).toArray, rfl, ?_⟩))
  all_goals
    have H2 := HH1.out
    have hb3 := (HB0.out.ext hx2 (by simp; omega)).ext hx3 (by simp)
    have hbk : BookAt w2 p bd bt D (pm T ((x, y), l)) := ⟨H2.blk.ext hx2 (by simpa using H2.ne.2.2), H2.md.ext hx2 (by simpa using H2.ne.1), hm2, H2.ne⟩
    have hp1 := H.out.blk.lt
    have hp2 := H.out.md.lt
    have hp3 := H.out.mt.lt
    have HK3 := Lib.hid ((hbk.ext0 hx3).ext ((Ext.refl (F := [w.heap.size]) w3).setRow (g := w.heap.size) (by simp) (numCells 255 (pl T ((x, y), l))).toArray) (by simp; omega) (by simp; omega) (by simp; omega))
    have HX3 := Lib.hid ((((HX1.out.mono (G := [bt]) (by simp)).trans hx2 (by simp)).trans hx3 (by simp)).setRow (g := w.heap.size) (Or.inr (Nat.le_refl _)) (numCells 255 (pl T ((x, y), l))).toArray)
    have HB3 := Lib.hid hb3
    clear hb3 hbk hp1 hp2 hp3 hx2 hx3 hm2 hst H2
    go_wp2
    exact bodyPost_ret (v := numV 255 (pl T ((x, y), l))) (results_cell_row rfl _ _ w.heap.size _ _ _ _ rfl (HB3.out.setRow _) Try.underlying68 rfl (by kernel_rfl)) rfl ⟨rfl, HK3.out, HX3.out⟩
end Go.Proofs.Ytbhjchlflkgjbaa
/-
  Layer 5: a new book; what was said; the nil book.
-/
set_option maxRecDepth 100000
namespace Go.Proofs.Ytbhjchlflkgjbaa
open Go.RowKit

section
variable {P : Program} {ops : Array Oper} {rest : List Oper} {o : Oper} {a : Act} {Q : Act → Prop} {C : World → Prop}
/-- A guard, in a region that draws and is walked in the text's order. -/
theorem at_opq (o : Oper) (h : wpQuiet P ops C Q (o :: rest) a) : wpQuiet P ops C Q (o :: rest) a := h
/-- An operation by its run, in whatever world of the class. -/
theorem wpQuiet_value (hg : o.guard = none) (v : Value) (h : ∀ w, C w → (execOp a.eval o).run P w = .ok (.value v) w) (k : wpQuiet P ops C Q rest (a.put o.dst v)) : wpQuiet P ops C Q (o :: rest) a := by
  refine BigFrame.wpQuiet_want (by simp [Region.wanted, hg]) fun K hK => ?_
  exact ⟨v, fun w hw => by unfold Oper.quietAt; rw [h w hw]; exact ⟨rfl, rfl⟩, hK _ k⟩
end
section
variable {α β : Type} [DecidableEq α] {P : Program} {w : World} {b : Nat} {k e : TypeId} {K : α → Value} {V : β → Value} {Good : α → Prop} {m : List (α × β)} {o : Oper} {a : Act}
theorem run_mapGetOk (h : MapOf w b K V Good m) (kf : KeyFit P k K Good) (t : TypeId) (ht : P.underlying t = some (.map k e)) (z : Value) (hz : (zeroValue e).run P w = .ok z w) (c : α) (hc : Good c)
    (x y : Operand) (ho : o.op = .lookup t x y true) (hx : a.eval x = .map (some b)) (hy : a.eval y = K c) :
    (execOp a.eval o).run P w = .ok (.value (.tuple #[((aget m c).map V).getD z, .bool (aget m c).isSome])) w := by
  simp only [execOp, ho, hx, hy, Sem.run_bind, h.look_run kf ht hz hc true, if_true, Result.andThen_ok, Sem.run_pure]
omit [DecidableEq α] in
theorem run_mapLen (h : MapOf w b K V Good m) (t : TypeId) (ht : P.underlying t = some (.map k e)) (x : Operand) (ho : o.op = .call { callee := .builtin .len, args := #[x], argTypes := #[t] }) (hx : a.eval x = .map (some b)) :
    (execOp a.eval o).run P w = .ok (.value (.int .i64 m.length)) w := by
  simp [execOp, ho, resolve, invoke, builtin, hx, h.len_run ht o.type, Result.andThen]
end

theorem alloc_size (w : World) (o : Obj) : (w.alloc o).heap.size = w.heap.size + 1 := Array.size_push _
set_option maxHeartbeats 2000000 in
theorem book_New (w : World) : Calls Try.prog 20 #[] w fun e w' => e = .returned (.pointer (some ⟨w.heap.size + 2, 0, none⟩)) ∧ BookAt w' (w.heap.size + 2) w.heap.size (w.heap.size + 1) [] [] ∧ Ext [] w w' := by
  have h1 := (Ext.refl (F := []) w).alloc (.map #[] 0)
  have m1 := MapOf.new (K := hashedV) (V := natV) (Good := hashedOk) w
  have s1 := alloc_size w (.map #[] 0)
  obtain ⟨W1, hW1⟩ : ∃ W1, W1 = w.alloc (.map #[] 0) := ⟨_, rfl⟩
  rw [← hW1] at h1 m1 s1
  have h2 := h1.alloc (.map #[] 0)
  have m2 := m1.alloc (.map #[] 0)
  have m3 := MapOf.new (K := saidV) (V := natV) (Good := saidOk) W1
  have s2 := alloc_size W1 (.map #[] 0)
  have r1 : ∀ (tmps : Operand → Value) dst pos after guard ty, (execOp tmps ⟨dst, .makeMap 78 none, ty, pos, after, guard⟩).run Try.prog w = .ok (.value (.map (some w.heap.size))) W1 := by intros; rw [hW1]; rfl
  obtain ⟨W2, hW2⟩ : ∃ W2, W2 = W1.alloc (.map #[] 0) := ⟨_, rfl⟩
  rw [← hW2] at h2 m2 m3 s2
  have r2 : ∀ (tmps : Operand → Value) dst pos after guard ty, (execOp tmps ⟨dst, .makeMap 79 none, ty, pos, after, guard⟩).run Try.prog W1 = .ok (.value (.map (some (w.heap.size + 1)))) W2 := by intros; rw [hW2, ← s1]; rfl
  have hb := Blk.new W2 81 #[.map (some w.heap.size), .map (some (w.heap.size + 1))]
  rw [s2, s1] at hb
  rw [s1] at m3
  have R1 := Lib.hid r1
  have R2 := Lib.hid r2
  have hs : W2.heap.size = w.heap.size + 2 := by omega
  have HM := Lib.hid (And.intro (m2.alloc (.cells #[.map (some w.heap.size), .map (some (w.heap.size + 1))] 81)) (And.intro (m3.alloc (.cells #[.map (some w.heap.size), .map (some (w.heap.size + 1))] 81)) (And.intro hb (h2.alloc (.cells #[.map (some w.heap.size), .map (some (w.heap.size + 1))] 81)))))
  clear hb m1 m2 m3 s1 s2 h1 h2 r1 r2 hW1 hW2
  go_enter Try.func20, Try.ntmps20
  go_wp2_with (first
    | ((with_reducible refine at_op ⟨some 1, _, _, _, _, _⟩ ?_); refine wpList_value rfl _ _ (R1.out _ _ _ _ _ _) ?_)
    | ((with_reducible refine at_op ⟨some 2, _, _, _, _, _⟩ ?_); refine wpList_value rfl _ _ (R2.out _ _ _ _ _ _) ?_))
  go_ret
  exact ⟨rfl, ⟨HM.out.2.2.1, HM.out.1, HM.out.2.1, by omega, by omega, by omega⟩, HM.out.2.2.2⟩
theorem book_Said (w : World) (p bd bt : Nat) (D : List ((Nat × List UInt8) × Nat)) (T : List (((Int × Int) × List UInt8) × Nat)) (x y : Int) (v : Value) (l : List UInt8) (h : BookAt w p bd bt D T) (hv : BytesV w v l) (hk : saidOk ((x, y), l)) (b : Bool) (hb : (aget T ((x, y), l)).isSome = b) :
    Calls Try.prog 79 #[.pointer (some ⟨p, 0, none⟩), .int .i64 x, .int .i64 y, v] w fun e w' => e = .returned (.bool b) ∧ Ext [] w w' := by
  have H := Lib.hid h
  have HK := Lib.hid hk; clear hk
  have hc := fun (x : Later w) => Blk.cell (Later.blk x h.blk) 1
  have hcv := fun (x : Later w) => conv_txt (hv.ext0 x.ext)
  have HB := Lib.hid hb
  clear h hv hb
  go_enter Try.func79, Try.ntmps79
  go_wp2
  refine wp_region_later_lit (by kernel_rfl) (by kernel_rfl) ?_
  repeat (first
    | ((with_reducible refine at_opq ⟨some 23, _, _, _, _, _⟩ ?_); refine wpQuiet_value rfl _ (by rintro _ ⟨xq, rfl⟩; exact run_mapGetOk (H.out.ext0 xq.ext).mt said_fit _ Try.underlying79 (.int .i64 0) (by kernel_rfl) ((x, y), l) HK.out _ _ rfl rfl rfl) ?_; go_simp)
    | go_big_quiet_step (fail))
  refine wpQuiet_nil ?_
  intro xq
  have hx := xq.ext
  go_wp2
  go_ret
  exact ⟨ret_bool HB.out, hx⟩
theorem nil_Tag (w : World) (x y v : Value) : Calls Try.prog 78 #[.pointer none, x, y, v] w fun e w' => e = .returned (.agg zero32) ∧ Ext [] w w' := by
  go_enter Try.func78, Try.ntmps78
  go_wp2_with (first
    | ((with_reducible refine at_op ⟨some 8, _, _, _, _, _⟩ ?_); refine wpList_value rfl _ _ run_allocT ?_)
    | ((with_reducible refine at_op ⟨some 11, _, _, _, _, _⟩ ?_); refine wpList_value rfl (.agg zero32) _ (by kernel_rfl) ?_)
    | ((with_reducible refine at_op ⟨none, .store _ (.tmp 8) (.tmp 11), _, _, _, _⟩ ?_); refine wpList_store_new rfl _ _ _ rfl w _ _ zero32 rfl rfl rfl (by kernel_rfl) (by kernel_rfl) (by kernel_rfl) ?_))
  exact bodyPost_ret (v := .agg zero32) (results_cell_row rfl _ _ w.heap.size _ _ _ _ rfl (Blk.new w 68 zero32) Try.underlying68 rfl (by kernel_rfl)) rfl ⟨rfl, (Ext.refl w).alloc _⟩
theorem nil_Said (w : World) (x y v : Value) : Calls Try.prog 79 #[.pointer none, x, y, v] w fun e w' => e = .returned (.bool false) ∧ w = w' := by
  go_enter Try.func79, Try.ntmps79
  go_wp2
  go_ret
  exact ⟨rfl, rfl⟩
end Go.Proofs.Ytbhjchlflkgjbaa
/-
  Arrays of 32 bytes: are two the same?
-/
set_option maxRecDepth 100000
namespace Go.Proofs.Ytbhjchlflkgjbaa
open Go.RowKit

def litB (c : UInt8) : Lit := .int .u8 (c.toNat : Int)
theorem litB_inj {L M : List UInt8} (h : L.map litB = M.map litB) : L = M := by
  have hi : ∀ a b : UInt8, litB a = litB b → a = b := by
    intro a b hab
    unfold litB at hab
    injection hab with _ hab
    exact UInt8.toNat.inj (by omega)
  induction L generalizing M with
  | nil => cases M with
    | nil => rfl
    | cons _ _ => simp at h
  | cons a L ih => cases M with
    | nil => simp at h
    | cons b M =>
      simp only [List.map_cons, List.cons.injEq] at h
      rw [hi _ _ h.1, ih h.2]
theorem lits_bytes {m : Nat} {T : TypeId} (hu : Try.prog.underlying T = some (.array 32 5)) (hc : Try.prog.cellsOf T = 32) (L : List UInt8) (hL : L.length = 32) :
    Try.prog.keyLits (m + 2) T (L.map bc) = some (L.map litB) := by
  have h5 : Try.prog.cellsOf 5 = 1 := by kernel_rfl
  have hone : ∀ c : UInt8, Try.prog.keyLits (m + 1) 5 [bc c] = some [litB c] := by
    intro c
    have hb : c.toNat < 256 := c.toNat_lt
    have e1 : (Lit.int .u8 (c.toNat : Int)).wf = true := by
      simp only [Lit.wf, Bool.and_eq_true, decide_eq_true_eq]
      exact ⟨by show (0 : Int) ≤ _; omega, by show _ ≤ (255 : Int); omega⟩
    simp [Program.keyLits, Try.underlying5, bc, litB, e1]
  have hm : (List.range 32).mapM (fun i => Try.prog.keyLits (m + 1) 5 (((L.map bc).drop (i * 1)).take 1)) = some (L.map fun c => [litB c]) := by
    refine mapM_some_of_get _ _ (by simp [hL]) ?_
    intro i x hx
    have hi : i < 32 := by
      have := (List.getElem?_eq_some_iff.1 hx).1
      simpa using this
    have hxi : x = i := by
      have := (List.getElem?_eq_some_iff.1 hx).2
      simpa using this.symm
    subst hxi
    have hl : x < L.length := by omega
    have hd : ((L.map bc).drop (x * 1)).take 1 = [bc L[x]] := by
      rw [Nat.mul_one, List.drop_eq_getElem_cons (by simpa using hl)]
      simp
    rw [hd, hone]
    simp [hl]
  have hfl : (L.map fun c => [litB c]).flatten = L.map litB := by
    clear hm hL
    induction L with
    | nil => rfl
    | cons c L ih => simp [ih]
  have hlen : (L.map bc).length = Try.prog.cellsOf T := by simp [hL, hc]
  have hcell : (L.map bc).length = 32 := by simp [hL]
  unfold Program.keyLits
  rw [hu]
  split
  · simp_all
  · simp_all
  · simp_all
  · rename_i h1
    injection h1 with h1
    injection h1 with h1 h2
    subst h1
    subst h2
    rw [if_pos hlen, h5, hm, Option.map_some, hfl]
  · simp_all
  · simp_all
def arrB (L : List UInt8) : Value := .agg (L.map bc).toArray
theorem formedB {T : TypeId} (hu : Try.prog.underlying T = some (.array 32 5)) (hc : Try.prog.cellsOf T = 32) (L : List UInt8) (hL : L.length = 32) : (arrB L).formed Try.prog T = true := by
  simp [arrB, Value.formed, hu, hc, hL]
theorem eqlB {T : TypeId} (hu : Try.prog.underlying T = some (.array 32 5)) (hc : Try.prog.cellsOf T = 32) (hk : Try.prog.keyTypeAt 4 T = true) (L M : List UInt8) (hL : L.length = 32) (hM : M.length = 32) (b : Bool) (hb : decide (L = M) = b) (w : World) :
    (binOp .eql T (arrB L) (arrB M)).run Try.prog w = .ok (.bool b) w :=
  run_eql_lits (m := 4) (by decide) hk (formedB hu hc L hL) (formedB hu hc M hM) (lits_bytes (m := 0) hu hc L hL) (lits_bytes (m := 0) hu hc M hM) b (by
    rw [← hb, decide_eq_true_eq]
    exact ⟨fun h => by rw [h], litB_inj⟩) w
theorem neqB {T : TypeId} (hu : Try.prog.underlying T = some (.array 32 5)) (hc : Try.prog.cellsOf T = 32) (hk : Try.prog.keyTypeAt 4 T = true) (L M : List UInt8) (hL : L.length = 32) (hM : M.length = 32) (b : Bool) (hb : decide (L ≠ M) = b) (w : World) :
    (binOp .neq T (arrB L) (arrB M)).run Try.prog w = .ok (.bool b) w :=
  run_neq_lits (m := 4) (by decide) hk (formedB hu hc L hL) (formedB hu hc M hM) (lits_bytes (m := 0) hu hc L hL) (lits_bytes (m := 0) hu hc M hM) b (by
    rw [← hb, decide_eq_true_eq]
    exact ⟨fun h e => h (litB_inj e), fun h e => h (by rw [e])⟩) w
theorem eqlD (L M : List UInt8) (hL : L.length = 32) (hM : M.length = 32) (b : Bool) (hb : decide (L = M) = b) (w : World) : (binOp .eql 124 (arrB L) (arrB M)).run Try.prog w = .ok (.bool b) w :=
  eqlB Try.underlying124 (by kernel_rfl) (by kernel_rfl) L M hL hM b hb w
theorem eqlT (L M : List UInt8) (hL : L.length = 32) (hM : M.length = 32) (b : Bool) (hb : decide (L = M) = b) (w : World) : (binOp .eql 68 (arrB L) (arrB M)).run Try.prog w = .ok (.bool b) w :=
  eqlB Try.underlying68 (by kernel_rfl) (by kernel_rfl) L M hL hM b hb w
theorem neqD (L M : List UInt8) (hL : L.length = 32) (hM : M.length = 32) (b : Bool) (hb : decide (L ≠ M) = b) (w : World) : (binOp .neq 124 (arrB L) (arrB M)).run Try.prog w = .ok (.bool b) w :=
  neqB Try.underlying124 (by kernel_rfl) (by kernel_rfl) L M hL hM b hb w
theorem neqT (L M : List UInt8) (hL : L.length = 32) (hM : M.length = 32) (b : Bool) (hb : decide (L ≠ M) = b) (w : World) : (binOp .neq 68 (arrB L) (arrB M)).run Try.prog w = .ok (.bool b) w :=
  neqB Try.underlying68 (by kernel_rfl) (by kernel_rfl) L M hL hM b hb w
end Go.Proofs.Ytbhjchlflkgjbaa
/-
  Layer 5: is a tag the one that was made? Sizes.
-/
set_option maxRecDepth 100000
namespace Go.Proofs.Ytbhjchlflkgjbaa
open Go.RowKit

/-! ### Rows of 32 bytes -/
def numB (f n : Nat) : List UInt8 := UInt8.ofNat f :: (List.replicate 23 0 ++ beBytes n 8)
theorem numB_length (f n : Nat) : (numB f n).length = 32 := by simp [numB, beBytes_length]
theorem numCells_bytes (f n : Nat) (hf : f < 256) : numCells f n = (numB f n).map bc := by
  simp [numCells, numB, bc]
  omega
theorem numV_arr (f n : Nat) (hf : f < 256) : numV f n = arrB (numB f n) := by
  unfold numV arrB
  rw [numCells_bytes f n hf]
theorem zero_arr : Value.agg zero32 = arrB (List.replicate 32 0) := by
  unfold zero32 arrB
  congr 1
/-- A guarded call of a Go function, as one step of a region that draws. -/
theorem step_gog {P : Program} {ops : Array Oper} {o : Oper} {a : Act} {w : World} {K : Act → World → Prop} {Q : Exit → Act → World → Prop} {E : Prop} (hw : Region.wanted o (yielded ops a.tmps) = true) (f : FuncId) (xs : Array Operand) (ats : Array TypeId)
    (ho : o.op = .call { callee := .value (.func f), args := xs, argTypes := ats }) {R : Ending → World → Prop} (vals : Array Value) (hv : xs.map a.eval = vals) (hcall : (callFunc f (#[] ++ vals ++ #[])).run P w = .ok (.enter f vals) w) (hc : Calls P f vals w R) (h : ∀ e w', R e w' → ∃ v, e = .returned v ∧ K (a.put o.dst v) w') :
    if Region.wanted o (yielded ops a.tmps) = true then Oper.wp P o a w K Q else E := by
  rw [if_pos hw]
  subst hv
  unfold Oper.wp
  have hr : (execOp a.eval o).run P w = .ok (.enter f (xs.map a.eval)) w := by
    obtain ⟨dst, op, ty, pos, after, guard⟩ := o
    dsimp only at ho
    subst ho
    rw [execOp_call_go]
    exact hcall
  rw [hr, Oper.upon_enter]
  refine hc.mono fun e w' hR => ?_
  obtain ⟨v, rfl, hk⟩ := h e w' hR
  exact hk
/-- A load of a whole array, kept whole by the walk. -/
def loadArr (t : TypeId) (v : Value) : Sem Next := execOp (fun _ => v) ⟨none, .load t (.tmp 0), 0, "", #[], none⟩
theorem loadArr_T (a : Act) (dst x ty pos after guard) : execOp a.eval ⟨dst, .load 68 x, ty, pos, after, guard⟩ = loadArr 68 (a.eval x) := rfl
theorem loadArr_D (a : Act) (dst x ty pos after guard) : execOp a.eval ⟨dst, .load 124 x, ty, pos, after, guard⟩ = loadArr 124 (a.eval x) := rfl
theorem run_loadArr_T {w : World} {g : Nat} {L : List UInt8} (h : Blk w g 68 (L.map bc).toArray) (hL : L.length = 32) : (loadArr 68 (.pointer (some ⟨g, 0, none⟩))).run Try.prog w = .ok (.value (.agg (L.map bc).toArray)) w := by
  have h1 : (Try.prog.info? 68).map (·.size) = some 32 := by kernel_rfl
  unfold loadArr execOp
  simp only [Instr.loadAt, Instr.sureAddr, Sem.run_bind, Sem.run_pure, Result.andThen_ok, run_loadVar_row w g 68 68 (L.map bc).toArray (0, 0) _ h Try.underlying68 rfl (by rw [h1]; simp [hL])]
theorem run_loadArr_D {w : World} {g : Nat} {L : List UInt8} (h : Blk w g 124 (L.map bc).toArray) (hL : L.length = 32) : (loadArr 124 (.pointer (some ⟨g, 0, none⟩))).run Try.prog w = .ok (.value (.agg (L.map bc).toArray)) w := by
  have h1 : (Try.prog.info? 124).map (·.size) = some 32 := by kernel_rfl
  unfold loadArr execOp
  simp only [Instr.loadAt, Instr.sureAddr, Sem.run_bind, Sem.run_pure, Result.andThen_ok, run_loadVar_row w g 124 124 (L.map bc).toArray (0, 0) _ h Try.underlying124 rfl (by rw [h1]; simp [hL])]
attribute [local go_sem ↓] loadArr_T
theorem pm_some {α : Type} [DecidableEq α] {m : List (α × Nat)} {k : α} (h : (aget m k).isSome = true) : pm m k = m := if_pos h
set_option maxHeartbeats 2000000 in
theorem book_Check (w : World) (p bd bt : Nat) (D : List ((Nat × List UInt8) × Nat)) (T : List (((Int × Int) × List UInt8) × Nat)) (x y : Int) (v : Value) (l : List UInt8) (M : List UInt8) (h : BookAt w p bd bt D T) (hv : BytesV w v l) (hk : saidOk ((x, y), l)) (hM : M.length = 32) (hm : T.length < 4611686018427387904) (hpl : pl T ((x, y), l) < 9223372036854775808) (b : Bool) (hb : ((aget T ((x, y), l)).isSome && decide (M = numB 255 (pl T ((x, y), l)))) = b) :
    Calls Try.prog 76 #[.pointer (some ⟨p, 0, none⟩), .int .i64 x, .int .i64 y, v, arrB M] w fun e w' => e = .returned (.bool b) ∧ BookAt w' p bd bt D T ∧ Ext [bt] w w' := by
  have H := Lib.hid h; clear h
  have HV := Lib.hid hv; clear hv
  change Calls _ _ #[_, _, _, _, .agg (M.map bc).toArray] _ _
  have hx1 : Ext [] w (w.alloc (.cells (M.map bc).toArray 68)).drew := ((Ext.refl w).alloc _).drew
  have hb9 : Blk (w.alloc (.cells (M.map bc).toArray 68)).drew w.heap.size 68 (M.map bc).toArray := (Blk.new w 68 (M.map bc).toArray).drew
  have hcs := fun (W : World) => (by kernel_rfl : (callFunc 79 (#[] ++ #[.pointer (some ⟨p, 0, none⟩), .int .i64 x, .int .i64 y, v] ++ #[])).run Try.prog W = .ok (.enter 79 #[.pointer (some ⟨p, 0, none⟩), .int .i64 x, .int .i64 y, v]) W)
  have HX1 := Lib.hid hx1
  have HX0 := Lib.hid (Ext.new w (.cells (M.map bc).toArray 68))
  have HB9 := Lib.hid hb9
  have HCS := Lib.hid hcs
  clear hx1 hb9 hcs
  have HM := Lib.hid hM
  have HBT := Lib.hid H.out.mt.lt
  by_cases hs : (aget T ((x, y), l)).isSome = true
  · have hsaid := fun (W : World) (h : BookAt W p bd bt D T) (hv : BytesV W v l) => book_Said W p bd bt D T x y v l h hv hk true hs
    have htag := fun (W : World) (h : BookAt W p bd bt D T) (hv : BytesV W v l) => book_Tag W p bd bt D T x y v l h hv hk hm hpl
    rw [pm_some hs, numV_arr _ _ (by decide), arrB] at htag
    have heq : ∀ W : World, (binOp .eql 68 (.agg (M.map bc).toArray) (.agg ((numB 255 (pl T ((x, y), l))).map bc).toArray)).run Try.prog W = .ok (.bool b) W := fun W => eqlT M (numB 255 (pl T ((x, y), l))) hM (numB_length _ _) b (by rw [← hb, hs]; rfl) W
    have hct := fun (W : World) => (by kernel_rfl : (callFunc 78 (#[] ++ #[.pointer (some ⟨p, 0, none⟩), .int .i64 x, .int .i64 y, v] ++ #[])).run Try.prog W = .ok (.enter 78 #[.pointer (some ⟨p, 0, none⟩), .int .i64 x, .int .i64 y, v]) W)
    have HS := Lib.hid hsaid
    have HT := Lib.hid htag
    have HCT := Lib.hid hct
    clear hs hsaid htag hct hb hk
    go_enter Try.func76, Try.ntmps76
    go_wp2
    first | go_region_law (first
      | (refine step_go rfl 79 _ _ rfl #[.pointer (some ⟨p, 0, none⟩), .int .i64 x, .int .i64 y, v] (by simp [Act.eval, Act.put]) (HCS.out _) (HS.out _ (H.out.ext0 HX1.out) (HV.out.ext0 HX1.out)) ?_; rintro e w2 ⟨rfl, hx2⟩; have hld := run_loadArr_T (HB9.out.ext hx2 (by simp)) HM.out; refine ⟨_, rfl, ?_⟩)
      | (refine step_gog rfl 78 _ _ rfl #[.pointer (some ⟨p, 0, none⟩), .int .i64 x, .int .i64 y, v] (by simp [Act.eval, Act.put]) (HCT.out _) (HT.out _ ((H.out.ext0 HX1.out).ext0 hx2) ((HV.out.ext0 HX1.out).ext0 hx2)) ?_; rintro e w3 ⟨rfl, hbk3, hx3⟩; have hld3 := run_loadArr_T ((HB9.out.ext hx2 (by simp)).ext hx3 (by have := HBT.out; simp; omega)) HM.out; refine ⟨_, rfl, ?_⟩))
    all_goals
      have HX := Lib.hid ((((HX1.out.mono (G := [bt]) (by simp)).trans hx2 (by simp)).trans hx3 (by simp)))
      have HK := Lib.hid hbk3
      clear hx2 hx3 hbk3 hld hld3
      go_wp2
      go_ret
      exact ⟨rfl, HK.out, HX.out⟩
  · have hs' : (aget T ((x, y), l)).isSome = false := by simpa using hs
    have hsaid := fun (W : World) (h : BookAt W p bd bt D T) (hv : BytesV W v l) => book_Said W p bd bt D T x y v l h hv hk false hs'
    obtain rfl : false = b := by rw [← hb, hs']; rfl
    have HS := Lib.hid hsaid
    clear hs hs' hsaid hb
    go_enter Try.func76, Try.ntmps76
    go_wp2
    refine wp_region_later_lit (by kernel_rfl) (by kernel_rfl) ?_
    repeat (go_big_quiet_step ((go_at_call 79; exact Later.call (HS.out _ (H.out.ext0 (HX0.out.tr (Later.ext _))) (HV.out.ext0 (HX0.out.tr (Later.ext _)))))))
    refine wpQuiet_nil ?_
    rintro _ ⟨xq, rfl⟩
    have HX := Lib.hid (HX0.out.trans xq.ext (by simp))
    go_wp2
    go_ret
    exact ⟨rfl, H.out.ext0 HX.out, HX.out.mono (by simp)⟩
end Go.Proofs.Ytbhjchlflkgjbaa
/-
  Layer 5: the statements' walks.
-/
set_option maxRecDepth 100000
namespace Go.Proofs.Ytbhjchlflkgjbaa
open Go.RowKit

section
variable {P : Program} {ops : Array Oper} {rest : List Oper} {o : Oper} {a : Act} {w : World} {Q : Exit → Act → World → Prop}
/-- A guarded operation that is wanted, by its run. -/
theorem wpList_valueg (hw : Region.wanted o (yielded ops a.tmps) = true) (v : Value) (w' : World) (h : (execOp a.eval o).run P w = .ok (.value v) w') (k : wpList P ops Q rest (a.put o.dst v) w') : wpList P ops Q (o :: rest) a w :=
  wpList_step fun K hK => by
    rw [if_pos hw]
    unfold Oper.wp
    rw [h]
    exact hK _ _ k
theorem run_load_whole (ty : TypeId) (x : Operand) (ho : o.op = .load ty x) (g : Nat) (hx : a.eval x = .pointer (some ⟨g, 0, none⟩)) (t : TypeId) (cs : Array Value) (fr : Nat × Nat) (d : TypeDesc) (hg : w.heap[g]? = some (.cells cs t fr))
    (hu : P.underlying ty = some d) (hd : (match d with | .struct _ | .array _ _ => true | _ => false) = true) (hi : (P.info? ty).map (·.size) = some cs.size) : (execOp a.eval o).run P w = .ok (.value (.agg cs)) w := by
  unfold execOp
  simp only [ho, hx, Instr.loadAt, Instr.sureAddr, Sem.run_bind, Sem.run_pure, Result.andThen_ok, run_loadVar_row w g t ty cs fr d hg hu hd hi]
end
theorem bytes_blk {w : World} {g : Nat} {t : TypeId} {l : List UInt8} (h : Blk w g t (l.map bc).toArray) (hl : l.length ≤ maxLen) : BytesV w (.slice (some ⟨g, 0, none⟩) l.length l.length) l := by
  refine ⟨_, _, rfl, Nat.le_refl _, hl, by simp, fun _ => ⟨g, 0, rfl, fun j u hu => ?_⟩⟩
  rw [Nat.zero_add, Blk.cell h, List.getElem?_toArray]
  exact hu
theorem book_New' (w : World) : Calls Try.prog 20 #[] w fun e w' => ∃ p bd bt, e = .returned (.pointer (some ⟨p, 0, none⟩)) ∧ BookAt w' p bd bt [] [] ∧ Ext [] w w' ∧ w.heap.size ≤ p ∧ w.heap.size ≤ bd ∧ w.heap.size ≤ bt :=
  (book_New w).mono fun _ _ ⟨h1, h2, h3⟩ => ⟨_, _, _, h1, h2, h3, by omega, by omega, by omega⟩
def litA (w : World) : World := w.alloc (.cells #[.int .u8 97] 5 (1, 2))
theorem conv_lit {tmps : Operand → Value} {dst pos after guard ty} {w : World} {x : Operand} (hx : tmps x = .slice (some ⟨w.heap.size, 0, none⟩) 1 1) : (execOp tmps ⟨dst, .convert 40 40 x, ty, pos, after, guard⟩).run Try.prog (w.alloc (.cells #[.int .u8 97] 5)) = .ok (.value (.slice (some ⟨w.heap.size, 0, none⟩) 1 1)) (litA w) := by
  have := Lib.run_convert_bytes_const (P := Try.prog) w 40 5 #[.int .u8 97] 1 1 Try.underlying40 Try.underlying5
  simp only [execOp, hx, Sem.run_bind, this, Result.andThen_ok, Sem.run_pure]
  rfl
theorem litA_bytes (w : World) : BytesV (litA w) (.slice (some ⟨w.heap.size, 0, none⟩) 1 1) [97] := by
  refine ⟨_, 1, rfl, by simp, by decide, by simp, fun _ => ⟨w.heap.size, 0, rfl, fun j u hu => ?_⟩⟩
  rw [Nat.zero_add, cell_of_row (litA w) w.heap.size j #[.int .u8 97] 5 (1, 2) (heap_alloc_new w _)]
  simpa [bc] using hu
theorem litA_bytes' (w : World) (n : Nat) (hn : w.heap.size = n) : BytesV (litA w) (.slice (some ⟨n, 0, none⟩) 1 1) [97] := by subst hn; exact litA_bytes w
theorem litA_ext (w : World) : Ext [] w (litA w) := Ext.new w _
def fixD : List ((Nat × List UInt8) × Nat) := [((3, [97]), 1)]
def fixT : List (((Int × Int) × List UInt8) × Nat) := [(((1, 2), [97]), 1)]
theorem run_built {tmps : Operand → Value} {dst pos after guard ty} {w : World} (htm : tmps (.const (.int .u8 97)) = .int .u8 97) : (execOp tmps ⟨dst, .buildSlice 40 1 #[(0, .const (.int .u8 97))], ty, pos, after, guard⟩).run Try.prog w = .ok (.value (.slice (some ⟨w.heap.size, 0, none⟩) 1 1)) (w.alloc (.cells #[.int .u8 97] 5)) := by
  simp [execOp, htm]
  kernel_rfl
end Go.Proofs.Ytbhjchlflkgjbaa
/-
  Layer 5, in plain Lean: whose number is the first one's.
-/
set_option maxRecDepth 100000
namespace Go.Proofs.Ytbhjchlflkgjbaa
open Go.RowKit

section
variable {α : Type} [DecidableEq α] {m : List (α × Nat)} {k c : α}
/-- k has number 1, and no other key has it. -/
structure Inv1 (m : List (α × Nat)) (k : α) : Prop where
  one : aget m k = some 1
  only : ∀ c, aget m c = some 1 → c = k
  pos : 1 ≤ m.length
theorem Inv1.start (k : α) : Inv1 (pm [] k) k := by
  have h : pm [] k = [(k, 1)] := by simp [pm, aget, aput]
  rw [h]
  refine ⟨by simp [aget], fun c hc => ?_, by simp⟩
  unfold aget at hc
  by_cases hk : k = c
  · exact hk.symm
  · simp [hk] at hc
theorem Inv1.step (h : Inv1 m k) (c : α) : Inv1 (pm m c) k := by
  unfold pm
  split
  · exact h
  · rename_i hn
    have hck : ¬ k = c := by
      rintro rfl
      rw [h.one] at hn
      simp at hn
    refine ⟨?_, fun d hd => ?_, ?_⟩
    · rw [aget_aput, if_neg hck]; exact h.one
    · rw [aget_aput] at hd
      split at hd
      · have := h.pos
        have := Option.some.inj hd
        omega
      · exact h.only d hd
    · rw [aput_length, if_neg hn]; omega
theorem Inv1.pl (h : Inv1 m k) (c : α) : pl m c = 1 ↔ c = k := by
  unfold Proofs.Ytbhjchlflkgjbaa.pl
  have hp := h.pos
  constructor
  · intro he
    cases hc : aget m c with
    | none => rw [hc] at he; change m.length + 1 = 1 at he; omega
    | some v =>
      rw [hc] at he
      simp at he
      subst he
      exact h.only c hc
  · rintro rfl
    rw [h.one]
    rfl
theorem pm_length (m : List (α × Nat)) (c : α) : (pm m c).length ≤ m.length + 1 := by
  unfold pm
  split
  · omega
  · rename_i hn; rw [aput_length, if_neg hn]; omega
end
theorem beBytes_inj (n : Nat) : ∀ v v', beBytes v n = beBytes v' n → v % 256 ^ n = v' % 256 ^ n := by
  induction n with
  | zero => intro v v' _; simp [Nat.mod_one]
  | succ n ih =>
    intro v v' h
    simp only [beBytes] at h
    have hl : (beBytes (v / 256) n).length = (beBytes (v' / 256) n).length := by rw [beBytes_length, beBytes_length]
    obtain ⟨h1, h2⟩ := List.append_inj h hl
    have h3 := ih _ _ h1
    have h4 : v % 256 = v' % 256 := by
      have := congrArg (List.map UInt8.toNat) h2
      simpa using this
    rw [Nat.pow_succ, Nat.mul_comm, Nat.mod_mul, Nat.mod_mul, h3, h4]
theorem numB_inj {f n f' n' : Nat} (hf : f < 256) (hf' : f' < 256) (hn : n < 18446744073709551616) (hn' : n' < 18446744073709551616) (h : numB f n = numB f' n') : f = f' ∧ n = n' := by
  unfold numB at h
  rw [List.cons.injEq] at h
  obtain ⟨h1, h2⟩ := h
  have h3 := List.append_cancel_left h2
  have h4 := beBytes_inj 8 _ _ h3
  rw [Nat.mod_eq_of_lt (by omega), Nat.mod_eq_of_lt (by omega)] at h4
  refine ⟨?_, h4⟩
  have := congrArg UInt8.toNat h1
  simp at this
  omega
end Go.Proofs.Ytbhjchlflkgjbaa
/-
  Texts as keys of maps; keys that are numbered as they come.
-/
set_option maxRecDepth 100000
set_option linter.unusedSimpArgs false
set_option linter.unusedVariables false
namespace Go.Proofs.Ytbhjchlflkgjbaa.A
open Go.RowKit

def sOk (s : ByteArray) : Prop := s.size ≤ maxLen
theorem s_fit : KeyFit Try.prog 9 Value.string sOk where
  keyed := Maps.string_keyed Try.underlying9
  lit a h := ⟨_, WideMaps.keyOf_string_mk Try.underlying9 h⟩
  inj a b _ _ h := by injection h
section
variable {α : Type} [DecidableEq α] {T : List (α × Nat)} {k k' : α} {v : Nat}
/-- Each key has a number of its own, from 1 on. -/
structure Num1 (T : List (α × Nat)) : Prop where
  pos : ∀ k v, aget T k = some v → 1 ≤ v ∧ v ≤ T.length
  inj : ∀ k k' v, aget T k = some v → aget T k' = some v → k = k'
theorem Num1.nil : Num1 ([] : List (α × Nat)) := ⟨fun k v h => by simp [aget] at h, fun k k' v h => by simp [aget] at h⟩
theorem Num1.put (h : Num1 T) (k : α) : Num1 (pm T k) := by
  unfold pm
  split
  · exact h
  · rename_i hn
    refine ⟨fun c v hc => ?_, fun c c' v hc hc' => ?_⟩
    · rw [aput_length, if_neg hn]
      rw [aget_aput] at hc
      split at hc
      · have := Option.some.inj hc
        omega
      · have := h.pos c v hc
        omega
    · rw [aget_aput] at hc hc'
      split at hc
      · next e =>
        split at hc'
        · next e' => exact e.trans e'.symm
        · have h1 := Option.some.inj hc
          have := h.pos c' v hc'
          omega
      · split at hc'
        · have h1 := Option.some.inj hc'
          have := h.pos c v hc
          omega
        · exact h.inj c c' v hc hc'
theorem Num1.zero (h : Num1 T) (k : α) : cget T k = 0 ↔ aget T k = none := by
  unfold cget
  cases hk : aget T k with
  | none => simp
  | some v =>
    have := h.pos k v hk
    simp
    omega
theorem Num1.pl_le (h : Num1 T) (k : α) : pl T k ≤ T.length + 1 := by
  unfold pl
  cases hk : aget T k with
  | none => exact Nat.le_refl _
  | some v =>
    have := h.pos k v hk
    show v ≤ _
    omega
theorem pm_new (hk : aget T k = none) : pm T k = aput T k (T.length + 1) := by
  unfold pm
  rw [if_neg (by rw [hk]; decide)]
theorem pm_old (hk : ¬ aget T k = none) : pm T k = T := by
  unfold pm
  rw [if_pos (by cases h : aget T k with | none => exact absurd h hk | some v => rfl)]
theorem cget_pm : cget (pm T k) k = pl T k := by
  unfold cget pl
  by_cases hk : aget T k = none
  · rw [pm_new hk, aget_aput, if_pos rfl, hk]
    rfl
  · rw [pm_old hk]
    cases h : aget T k with
    | none => exact absurd h hk
    | some v => rfl
theorem aget_pm (c : α) : aget (pm T k) c = if c = k then some (pl T k) else aget T c := by
  by_cases hk : aget T k = none
  · rw [pm_new hk, aget_aput]
    unfold pl
    rw [hk]
    rfl
  · rw [pm_old hk]
    split
    · next e =>
      rw [e]
      unfold pl
      cases h : aget T k with
      | none => exact absurd h hk
      | some v => rfl
    · rfl
end
end Go.Proofs.Ytbhjchlflkgjbaa.A
