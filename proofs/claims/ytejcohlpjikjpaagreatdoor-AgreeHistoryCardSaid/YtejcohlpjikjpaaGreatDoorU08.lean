/-
  Packed out of the texts: A20, A24, LedEq, LedF, TOth, LedO, LedK, LedL, LedD, Tml, TmlO, A21, Batch1, Batch2, Batch3, RdCan, Batch4, Batch5, Batch6, BatchTwo, A7, Agr, AOpenW, AgrO, A25.
-/
import Derived.Test.YtejcohlpjikjpaaGreatDoorU07
import Derived.Lib.AppendZerosOnto
import Derived.Lib.Overlaps
import Derived.Sort.Walk0
import Derived.FnData
import Derived.Stop.Joined
/-
  The second engine: what slices.Insert does with a row of the call's own: cut, grown, copied within.
-/
set_option maxRecDepth 100000
set_option linter.unusedSimpArgs false
set_option linter.unusedVariables false
namespace Go.Proofs.YtejcohlpjikjpaaGreatDoor.A
open Go.RowKit

/-- 's[q:]'. -/
def cutS (s : Nat) : Value → Nat → Value
  | .slice (some a) n c, q => .slice (some (if c = q then a else ⟨a.block, a.off + q * s, none⟩)) (n - q) (c - q)
  | .slice none n c, q => .slice none (n - q) (c - q)
  | v, _ => v
def capV : Value → Nat
  | .slice _ _ c => c
  | _ => 0
/-- A row's cells, as elements. -/
def chunks (s : Nat) : Nat → List Value → List (List Abs)
  | 0, _ => []
  | m + 1, l => (l.take s).map .v :: chunks s m (l.drop s)
theorem chunks_len (s : Nat) : ∀ (m : Nat) (l : List Value), (chunks s m l).length = m
  | 0, _ => rfl
  | m + 1, l => by simp [chunks, chunks_len s m]
theorem reps_vals {K : List Nat} {w : World} : ∀ l : List Value, reps K w (l.map .v) l
  | [] => rfl
  | u :: l => ⟨u, l, rfl, rfl, reps_vals l⟩
theorem repss_chunks {K : List Nat} {w : World} {s : Nat} : ∀ (m : Nat) (l : List Value), l.length = m * s → repss K w s (chunks s m l) l
  | 0, l, h => by
    rw [Nat.zero_mul] at h
    exact List.length_eq_zero_iff.1 h
  | m + 1, l, h => by
    rw [Nat.succ_mul] at h
    exact ⟨l.take s, l.drop s, (List.take_append_drop s l).symm, by rw [List.length_take]; omega, reps_vals _, repss_chunks m _ (by rw [List.length_drop]; omega)⟩
theorem repss_cut {K : List Nat} {w : World} {s : Nat} {xs : List (List Abs)} {us : List Value} (h : repss K w s xs us) (q : Nat) (hq : q ≤ xs.length) : repss K w s (xs.take q) (us.take (q * s)) ∧ repss K w s (xs.drop q) (us.drop (q * s)) := by
  have h1 := h
  rw [← List.take_append_drop q xs] at h1
  obtain ⟨u1, u2, e, h2, h3⟩ := repss_split h1
  have hl := repss_length h2
  rw [List.length_take, Nat.min_eq_left hq] at hl
  subst e
  rw [← hl, List.take_left, List.drop_left]
  exact ⟨h2, h3⟩
theorem repss_ones1 {K : List Nat} {w : World} {s : Nat} : ∀ {ys : List (List Abs)} {news : List Value}, (∀ c ∈ ys, ones c = true) → repss K w s ys news → ∀ u ∈ news, u.oneCell' = true
  | [], news, _, h, u, hu => by
    have : news = [] := h
    subst this
    cases hu
  | c :: ys, _, ho, ⟨u1, u2, h1, _, h3, h4⟩, u, hu => by
    subst h1
    rcases List.mem_append.1 hu with hu | hu
    · exact ones_reps h3 (ho c (by simp)) u hu
    · exact repss_ones1 (fun c hc => ho c (by simp [hc])) h4 u hu
/-- 'copy', whatever the elements' size. -/
theorem run_copy_s {P : Program} (w : World) (dT sT ty elem : TypeId) (g o dLen dCap : Nat) (a : Addr) (sLen sCap : Nat) (cur : Array Value) (t : TypeId) (cs : List Value) {I : TypeInfo}
    (hu : P.underlying dT = some (.slice elem)) (hq : P.info? elem = some I) (hg : w.heap[g]? = some (.cells cur t (0, 0))) (hn : cs.length = Nat.min sLen dLen * I.size)
    (hsrc : ∀ j v, cs[j]? = some v → w.cell? (a.add j) = some v) (hfit : o + cs.length ≤ cur.size) (h1 : ∀ v ∈ cs, v.oneCell' = true) :
    (Builtin.copy_ #[dT, sT] ty #[.slice (some ⟨g, o, none⟩) dLen dCap, .slice (some a) sLen sCap]).run P w = .ok (goInt (Nat.min sLen dLen)) (w.setRow g (cur.toList.take o ++ cs ++ cur.toList.drop (o + cs.length)).toArray) := by
  have hl := run_loadCells_list (P := P) w a cs hsrc
  have hst := run_storeCells_at P g o t cs 0 cur w hg (by simpa using hfit) h1
  simp [Builtin.copy_, run_underlying hu, Builtin.lenOf, Builtin.firstCells, sizeOf, typeInfo, hq, ← hn, hl, hst]
section
variable {P : Program} {n : Nat} {W : Wd} {σ τ : Blks} {l : Slots} {X : List Nat} {x y : Operand} {d : Option Nat} {ty t t' e e' : TypeId} {pos : String} {aft : Array Edge} {g : Option (Nat × Bool)} {v u : Value} {k : IntKind} {tab : List (Nat × TI)} {xs ys : List (List Abs)} {s q : Nat} {ops : Array Oper} {rest : List Oper} {Q : Exit → Act → World → Prop}
theorem own_hold {w : World} {a : Act} (hs : St n W σ l a w) (hb : own e s v xs ∈ σ) : ∃ us, w.ownsRow 0 e s v xs.length us ∧ repss (mids σ ++ W.G) w s xs us := hs.mem.hold _ hb
theorem owns_slice {w : World} {m : Nat} {us : List Value} (h : w.ownsRow 0 e s v m us) : ∃ A c, v = .slice A m c ∧ m ≤ c := by
  rcases h.2 with ⟨rfl, h0⟩ | ⟨gb, cap, cur, rfl, _, _, hn, _⟩
  · exact ⟨none, 0, by rw [h0], by omega⟩
  · exact ⟨_, cap, rfl, hn⟩
/-- 's[q:]' of a row of the call's own, whatever the elements' size. -/
theorem Val.cutLo (hT : TabOk P tab) {j : TI} (hu : P.underlying t = some (.slice e)) (hj : ti tab e = some j) (h1 : Nat.beq j.size s = true) (hx : look l x = some (.v v)) (hb : own e' s v xs ∈ σ) {r : Int} (hy : look l y = some (.v (.int k r))) (hr : r = (q : Nat)) (hq : q ≤ xs.length) :
    Val P n W σ l X ⟨d, .slice t x (some y) none none, ty, pos, aft, g⟩ (.v (cutS s v q)) := fun a w hs _ => by
  subst hr
  have h1 := Nat.eq_of_beq_eq_true h1
  obtain ⟨us, hr1, _⟩ := own_hold hs hb
  rcases hr1.2 with ⟨rfl, h0⟩ | ⟨gb, c, cur, rfl, _, _, hn, _⟩
  · have hq0 : q = 0 := by omega
    subst hq0
    refine ⟨_, rfl, fun w' _ => ?_⟩
    have h7 := (hT _ _ hj).sizeOf (w := w')
    have e1 : a.eval x = .slice none 0 0 := hs.plain hx
    have e2 : a.eval y = .int k ((0 : Nat) : Int) := hs.plain hy
    simp [execOp, Instr.sliceAt, Instr.slice, Instr.sliceBounds, Instr.sliceBound, asIntOf, e1, e2, run_underlying hu, Sem.run_bind, Result.andThen, h7, cutS]
  · refine ⟨_, rfl, fun w' _ => ?_⟩
    have h7 := (hT _ _ hj).sizeOf (w := w')
    have e1 : a.eval x = .slice (some ⟨gb, 0, none⟩) xs.length c := hs.plain hx
    have e2 : a.eval y = .int k ((q : Nat) : Int) := hs.plain hy
    by_cases hc : c = q <;> simp [execOp, Instr.sliceAt, Instr.slice, Instr.sliceBounds, Instr.sliceBound, asIntOf, e1, e2, run_underlying hu, Sem.run_bind, Result.andThen, h7, h1, hq, hc, Addr.add, cutS]
    try omega
/-- 's[:q]', beyond its length too, as far as its capacity goes. -/
theorem Val.cutUp (hT : TabOk P tab) {j : TI} (hu : P.underlying t = some (.slice e)) (hj : ti tab e = some j) (hx : look l x = some (.v v)) (hb : own e' s v xs ∈ σ) {r : Int} (hy : look l y = some (.v (.int k r))) (hr : r = (q : Nat)) (hq : q ≤ capV v) :
    Val P n W σ l X ⟨d, .slice t x none (some y) none, ty, pos, aft, g⟩ (.v (cutTo v q)) := fun a w hs _ => by
  subst hr
  obtain ⟨us, hr1, _⟩ := own_hold hs hb
  obtain ⟨A', c, rfl, _⟩ := owns_slice hr1
  refine ⟨_, rfl, fun w' _ => ?_⟩
  have h7 := (hT _ _ hj).sizeOf (w := w')
  have e1 : a.eval x = .slice A' xs.length c := hs.plain hx
  have e2 : a.eval y = .int k ((q : Nat) : Int) := hs.plain hy
  have hq' : q ≤ c := hq
  have h8 : ∀ a : Addr, a.spot = none → a.add 0 = a := fun a ha => by obtain ⟨b, o, r⟩ := a; cases ha; rfl
  rcases Nat.eq_zero_or_pos c with hc | hc
  · subst hc
    obtain rfl : q = 0 := by omega
    cases A' <;> simp [execOp, Instr.sliceAt, Instr.slice, Instr.sliceBounds, Instr.sliceBound, asIntOf, e1, e2, run_underlying hu, Sem.run_bind, Result.andThen, h7, cutTo]
  · have hc : ¬ c = 0 := by omega
    cases A' with
    | none => simp [execOp, Instr.sliceAt, Instr.slice, Instr.sliceBounds, Instr.sliceBound, asIntOf, e1, e2, run_underlying hu, Sem.run_bind, Result.andThen, h7, hq', cutTo, hc]
    | some A =>
      have hA : A.spot = none := by
        rcases hr1.2 with ⟨h, _⟩ | ⟨gb, cap, cur, h, _⟩
        · cases h
        · cases h; rfl
      simp [execOp, Instr.sliceAt, Instr.slice, Instr.sliceBounds, Instr.sliceBound, asIntOf, e1, e2, run_underlying hu, Sem.run_bind, Result.andThen, h7, hq', cutTo, hc, h8 A hA]
theorem Val.capOwn (hx : look l x = some (.v v)) (hb : own e' s v xs ∈ σ) (ht : P.underlying t = some (.slice e)) : Val P n W σ l X ⟨d, .call { callee := .builtin .cap, args := #[x], argTypes := #[t] }, ty, pos, aft, g⟩ (.v (.int .i64 (capV v : Nat))) := fun a w hs _ => by
  obtain ⟨us, hr1, _⟩ := own_hold hs hb
  obtain ⟨A', c, rfl, _⟩ := owns_slice hr1
  refine ⟨_, rfl, fun w' _ => ?_⟩
  have e1 : a.eval x = .slice A' xs.length c := hs.plain hx
  simp [execOp, resolve, invoke, builtin, Builtin.cap_, e1, run_underlying ht, Sem.run_bind, Result.andThen, goInt, capV]
/-- A row of the call's own, longer: what lies behind it belongs to it. -/
theorem St.growOwn {a : Act} {w : World} (h : St n W σ l a w) (hb : own e s v xs ∈ σ) (hq : xs.length ≤ q) (hc : q ≤ capV v) : ∃ js : List (List Abs), js.length + xs.length = q ∧ ∀ τ, Upd (own e s v xs) (own e s (cutTo v q) (xs ++ js)) σ τ → St n W τ l a w := by
  obtain ⟨us, hown, hr⟩ := own_hold h hb
  rcases hown.2 with ⟨rfl, h0⟩ | ⟨gb, cap, cur, rfl, hbase, hg, hn, hcap, hsz, htk⟩
  · have hq0 : q = 0 := by simp only [capV] at hc; omega
    refine ⟨[], by simp; omega, fun τ hu => ?_⟩
    have hx0 : xs = [] := List.length_eq_zero_iff.1 h0
    subst hx0 hq0
    have := upd_self (x := own e s (.slice none 0 0) []) hu
    rw [this]
    exact h
  · simp only [capV] at hc
    have hle : q * s ≤ cap * s := Nat.mul_le_mul_right _ hc
    have hle2 : xs.length * s ≤ q * s := Nat.mul_le_mul_right _ hq
    have hjl : ((cur.toList.take (q * s)).drop (xs.length * s)).length = (q - xs.length) * s := by
      rw [List.length_drop, List.length_take, Nat.min_eq_left (by simp; omega), Nat.sub_mul]
    refine ⟨chunks s (q - xs.length) ((cur.toList.take (q * s)).drop (xs.length * s)), by rw [chunks_len]; omega, fun τ hu => ?_⟩
    have hl : (xs ++ chunks s (q - xs.length) ((cur.toList.take (q * s)).drop (xs.length * s))).length = q := by rw [List.length_append, chunks_len]; omega
    have hm := h.mem.upd hu (Ext.refl w) own_nodup (fun k hk => .inl (by simpa [It.mids, ownPc, cutTo_block] using hk)) rfl fun hca => by
      refine ⟨cur.toList.take (q * s), ⟨?_, .inr ⟨gb, cap, cur, ?_, hbase, hg, by rw [hl]; exact hc, hcap, hsz, by rw [hl]⟩⟩, ?_⟩
      · rw [hl, List.length_take, Nat.min_eq_left (by simp; omega)]
      · rw [hl]; rfl
      · have e1 : cur.toList.take (q * s) = us ++ (cur.toList.take (q * s)).drop (xs.length * s) := by
          rw [← htk]
          have := List.take_append_drop (xs.length * s) (cur.toList.take (q * s))
          rw [List.take_take, Nat.min_eq_left hle2] at this
          exact this.symm
        rw [e1]
        refine repss_append (repss_carry hca _ _ _ hr) ?_
        rw [← e1]
        exact repss_chunks _ _ hjl
    exact h.to hm.1 hm.2
theorem SL.growOwn (hb : own e s v xs ∈ σ) (hq : xs.length ≤ q) (hc : q ≤ capV v) (k : ∀ (js : List (List Abs)), js.length + xs.length = q → ∃ τ, Upd (own e s v xs) (own e s (cutTo v q) (xs ++ js)) σ τ ∧ SL P ops rest (St n W τ l) Q) : SL P ops rest (St n W σ l) Q := fun a w h => by
  obtain ⟨js, h1, h2⟩ := h.growOwn hb hq hc
  obtain ⟨τ, h3, h4⟩ := k js h1
  exact h4 a w (h2 τ h3)
theorem SC.growOwn {c : Code} (hb : own e s v xs ∈ σ) (hq : xs.length ≤ q) (hc : q ≤ capV v) (k : ∀ (js : List (List Abs)), js.length + xs.length = q → ∃ τ, Upd (own e s v xs) (own e s (cutTo v q) (xs ++ js)) σ τ ∧ SC P c (St n W τ l) Q) : SC P c (St n W σ l) Q := fun a w h => by
  obtain ⟨js, h1, h2⟩ := h.growOwn hb hq hc
  obtain ⟨τ, h3, h4⟩ := k js h1
  exact h4 a w (h2 τ h3)
/-- slices.overlaps of two rows of the call's own: they lie apart. -/
theorem Val.overlapsOff {f : FuncId} {fn : Func} {ats : Array TypeId} {tr : TypeId} {α β : Blks} (hf : P.funcs[f]? = some fn) (h1 : (fn.name == "runtime.NumGoroutine") = false) (h2 : fn.body.isNone = true) (h3 : Extern.findNext fn = none) (h4 : Extern.find fn = some (Extern.SlicesOverlaps.overlaps #[t, t] #[tr]))
    (hT : TabOk P tab) {j : TI} (hu : P.underlying t = some (.slice e)) (hj : ti tab e = some j) (hsz : Nat.beq j.size s = true) (hpos : Nat.blt 0 s = true)
    (hx : look l x = some (.v u)) (hy : look l y = some (.v (cutS s v q))) (hσ : σ = α ++ own e s v xs :: β) (hb : own e s u ys ∈ α ++ β) (hys : 0 < ys.length) (hq : q < xs.length) :
    Val P n W σ l [] ⟨d, .call { callee := .value (.func f), args := #[x, y], argTypes := ats }, ty, pos, aft, g⟩ (.v (.bool false)) := fun a w hs _ => by
  have hsz := Nat.eq_of_beq_eq_true hsz
  have hpos : 0 < s := by simpa [Nat.blt_eq] using hpos
  have hbv : own e s v xs ∈ σ := by rw [hσ]; simp
  have hbu : own e s u ys ∈ σ := by
    rw [hσ]
    rcases List.mem_append.1 hb with h | h
    · simp [h]
    · simp [h]
  obtain ⟨us, hv, _⟩ := own_hold hs hbv
  obtain ⟨us2, hu2, _⟩ := own_hold hs hbu
  rcases hv.2 with ⟨_, h0⟩ | ⟨gb, cap, cur, rfl, _, hg, hn, _, hcs, _⟩
  · omega
  rcases hu2.2 with ⟨_, h0⟩ | ⟨gb2, cap2, cur2, rfl, _, hg2, hn2, _, hcs2, _⟩
  · omega
  have hne : gb2 ≠ gb := fun he => by
    have hnd := hs.mem.nodup
    rw [hσ, mids_append, mids_cons, List.nodup_append, List.nodup_append] at hnd
    subst he
    have hk : gb2 ∈ (own e s (.slice (some ⟨gb2, 0, none⟩) xs.length cap) xs).mids := by simp [It.mids, ownPc, Value.ownBlock]
    have hk2 : gb2 ∈ (own e s (.slice (some ⟨gb2, 0, none⟩) ys.length cap2) ys).mids := by simp [It.mids, ownPc, Value.ownBlock]
    rcases List.mem_append.1 hb with h | h
    · exact hnd.2.2 gb2 (mids_mem.2 ⟨_, h, hk2⟩) gb2 (List.mem_append_left _ hk) rfl
    · exact hnd.2.1.2.2 gb2 hk gb2 (mids_mem.2 ⟨_, h, hk2⟩) rfl
  refine ⟨_, rfl, fun w' hw' => ?_⟩
  have hg' : w'.heap[gb]? = some (.cells cur e (0, 0)) := (hw'.block gb (heap_lt hg) (by simp)).trans hg
  have hg2' : w'.heap[gb2]? = some (.cells cur2 e (0, 0)) := (hw'.block gb2 (heap_lt hg2) (by simp)).trans hg2
  have hcq : ¬ cap = q := by omega
  have e1 : a.eval x = .slice (some ⟨gb2, 0, none⟩) ys.length cap2 := hs.plain hx
  have e2 : a.eval y = .slice (some ⟨gb, 0 + q * s, none⟩) (xs.length - q) (cap - q) := by
    have := hs.plain hy
    simp only [cutS, hcq, if_false] at this
    exact this
  have hpos2 : 0 < cur.size := by
    rw [hcs]
    exact Nat.mul_pos (by omega) hpos
  have hrun := Lib.run_overlaps_apart (P := P) w' t tr e hu j.size (fun w => (hT _ _ hj).sizeOf (w := w)) ⟨gb2, 0, none⟩ ⟨gb, 0 + q * s, none⟩ ys.length cap2 (xs.length - q) (cap - q) hne e e cur2.size cur.size
    (by simp [World.shape?, hg2']) (by simp [World.shape?, hg']) (by omega) (by simp [World.frozen?, hg2']) (by simp [World.frozen?, hg2'])
  have hcf := run_callFunc_extern hf h1 h2 h3 h4 #[a.eval x, a.eval y] w'
  rw [e1, e2, hrun] at hcf
  have hfn : a.eval (.func f) = .func (.func f) #[] #[] := rfl
  simp only [Result.andThen, Nat.zero_add] at hcf
  simp [execOp, resolve, hfn, Deferred.ofValue, invoke, e1, e2, hcf, Sem.run_bind, Result.andThen]
/-- What 'copy' reads: a row's first elements. -/
def Src (n : Nat) (W : Wd) (σ : Blks) (l : Slots) (y : Operand) (s m : Nat) (ys : List (List Abs)) : Prop := ∀ a w, St n W σ l a w → ∃ A M c news, a.eval y = .slice (some A) M c ∧ min M m = ys.length ∧ repss (mids σ ++ W.G) w s ys news ∧ ∀ j u, news[j]? = some u → w.cell? (A.add j) = some u
theorem Src.ofOwn {m : Nat} (hy : look l y = some (.v (cutS s v q))) (hb : own e s v xs ∈ σ) (hq : q < xs.length) (hm : min (xs.length - q) m = ys.length) (he : (xs.drop q).take ys.length = ys) : Src n W σ l y s m ys := fun a w hs => by
  obtain ⟨us, hv, hr⟩ := own_hold hs hb
  rcases hv.2 with ⟨_, h0⟩ | ⟨gb, cap, cur, rfl, _, hg, hn, _, hcs, htk⟩
  · omega
  have hcq : ¬ cap = q := by omega
  have e2 : a.eval y = .slice (some ⟨gb, 0 + q * s, none⟩) (xs.length - q) (cap - q) := by
    have := hs.plain hy
    simp only [cutS, hcq, if_false] at this
    exact this
  have hr2 := (repss_cut (repss_cut hr q (by omega)).2 ys.length (by rw [List.length_drop, ← hm]; exact Nat.min_le_left _ _)).1
  rw [he] at hr2
  refine ⟨_, _, _, _, e2, hm, hr2, fun j u hj => ?_⟩
  rw [List.getElem?_take] at hj
  split at hj
  · rw [List.getElem?_drop] at hj
    rw [Addr.add_none, ← htk, List.getElem?_take] at *
    split at hj
    · simp only [World.cell?, hg]
      simpa [Nat.zero_add] using hj
    · cases hj
  · cases hj
theorem Src.ofAll {m : Nat} (hy : look l y = some (.v v)) (hb : own e s v xs ∈ σ) (hq : 0 < xs.length) (hm : min xs.length m = xs.length) : Src n W σ l y s m xs := fun a w hs => by
  obtain ⟨us, hv, hr⟩ := own_hold hs hb
  rcases hv.2 with ⟨_, h0⟩ | ⟨gb, cap, cur, rfl, _, hg, hn, _, hcs, htk⟩
  · omega
  refine ⟨_, _, _, _, hs.plain hy, hm, hr, fun j u hj => ?_⟩
  rw [Addr.add_none, ← htk, List.getElem?_take] at *
  split at hj
  · simp only [World.cell?, hg]
    simpa using hj
  · cases hj
/-- 'copy(s[q:], ..)' into a row of the call's own. -/
theorem Eff.copyRow (hT : TabOk P tab) {j : TI} {zs : List (List Abs)} (hu : P.underlying t = some (.slice e)) (hj : ti tab e = some j) (hsz : Nat.beq j.size s = true) (hx : look l x = some (.v (cutS s v q))) (hq : q < xs.length) (hsrc : Src n W σ l y s (xs.length - q) ys) (h1 : ∀ c ∈ ys, ones c = true) (hz : xs.take q ++ ys ++ xs.drop (q + ys.length) = zs) (hup : Upd (own e s v xs) (own e s v zs) σ τ) :
    Eff P n W σ l v.ownBlock.toList ⟨d, .call { callee := .builtin .copy, args := #[x, y], argTypes := #[t, t'] }, ty, pos, aft, g⟩ fun r τ' => r = .v (.int .i64 (ys.length : Nat)) ∧ τ' = τ := fun a w hs => by
  have hsz := Nat.eq_of_beq_eq_true hsz
  obtain ⟨us, hown, hr⟩ := own_hold hs hup.mem
  obtain ⟨A, M, c, news, e2, hm, hr2, hc2⟩ := hsrc a w hs
  have hm : Nat.min M (xs.length - q) = ys.length := hm
  have hlen2 := repss_length hr2
  have hone := repss_ones1 h1 hr2
  have hfit : q + ys.length ≤ xs.length := by
    have : Nat.min M (xs.length - q) ≤ xs.length - q := Nat.min_le_right _ _
    omega
  obtain ⟨I, hI, hIs, _⟩ := (hT e j hj).info
  rcases hown.2 with ⟨_, h0⟩ | ⟨gb, cap, cur, rfl, hbase, hg, hn, hcap, hcs, htk⟩
  · omega
  have hcq : ¬ cap = q := by omega
  have e1 : a.eval x = .slice (some ⟨gb, 0 + q * s, none⟩) (xs.length - q) (cap - q) := by
    have := hs.plain hx
    simp only [cutS, hcq, if_false] at this
    exact this
  have hb1 : q * s + ys.length * s ≤ xs.length * s := by rw [← Nat.add_mul]; exact Nat.mul_le_mul_right _ hfit
  have hb2 : xs.length * s ≤ cap * s := Nat.mul_le_mul_right _ hn
  have hrun := run_copy_s (P := P) w t t' ty e gb (0 + q * s) (xs.length - q) (cap - q) A M c cur e news hu hI hg (by rw [hm, hIs, hsz, hlen2]) hc2 (by omega) hone
  rw [hm] at hrun
  have hxx : Ext (Value.ownBlock (.slice (some ⟨gb, 0, none⟩) xs.length cap)).toList w (w.setRow gb (cur.toList.take (0 + q * s) ++ news ++ cur.toList.drop (0 + q * s + news.length)).toArray) := (Ext.refl w).setRow (.inl (by simp [Value.ownBlock])) _
  have hzl : zs.length = xs.length := by
    rw [← hz]
    simp only [List.length_append, List.length_take, List.length_drop]
    omega
  have hnew : (cur.toList.take (0 + q * s) ++ news ++ cur.toList.drop (0 + q * s + news.length)).take (xs.length * s) = us.take (q * s) ++ news ++ us.drop ((q + ys.length) * s) := by
    have hcl : cur.toList.length = cap * s := by simp [hcs]
    rw [← htk, Nat.zero_add, Nat.add_mul]
    rw [← hlen2] at hb1 ⊢
    generalize q * s = q' at *
    generalize xs.length * s = n' at *
    generalize cap * s = c' at *
    apply List.ext_getElem?
    intro j
    simp only [List.getElem?_take, List.getElem?_append, List.length_append, List.length_take, List.getElem?_drop]
    grind
  have hm2 := hs.mem.upd hup hxx own_nodup (fun k hk => .inl (by simpa [It.mids, ownPc, Value.ownBlock] using hk)) rfl fun hca => by
    refine ⟨us.take (q * s) ++ news ++ us.drop ((q + ys.length) * s), ⟨?_, .inr ⟨gb, cap, _, by rw [hzl], hbase, setRow_heap w gb cur _ e (0, 0) hg, by rw [hzl]; exact hn, hcap, ?_, ?_⟩⟩, ?_⟩
    · rw [hzl, ← hnew, List.length_take]
      simp only [List.length_append, List.length_take, List.length_drop, Array.length_toList]
      omega
    · simp only [List.size_toArray, List.length_append, List.length_take, List.length_drop, Array.length_toList]
      omega
    · rw [hzl]
      simpa using hnew
    · rw [← hz]
      refine repss_append (repss_append ?_ (repss_carry hca _ _ _ hr2)) ?_
      · exact repss_carry hca _ _ _ (repss_cut hr q (by omega)).1
      · exact repss_carry hca _ _ _ (repss_cut hr (q + ys.length) (by omega)).2
  refine ⟨_, _, _, _, ⟨rfl, rfl⟩, hxx, rfl, hm2.1, hm2.2, .inl ?_⟩
  simp only [Nat.zero_add, List.append_assoc] at hrun e1 ⊢
  simp [execOp, resolve, invoke, builtin, e1, e2, hrun, Result.andThen, goInt]
/-- 'append(s[:q], make(S, m)...)' where there is no room: a new row. -/
theorem Eff.appendZeros (hT : TabOk P tab) {j : TI} {m : Nat} {r : Int} {tn : TypeId} {kn : IntKind} (hu : P.underlying t = some (.slice e)) (htn : P.underlying tn = some (.int kn)) (hj : ti tab e = some j) (hsz : Nat.beq j.size s = true) (hpos : Nat.blt 0 s = true) (hx : look l x = some (.v (cutTo v q))) (hb : own e s v xs ∈ σ) (hy : look l y = some (.v (.int k r))) (hr : r = (m : Nat)) (hq : q < xs.length) (hm : 0 < m) (hroom : capV v < q + m) (hml : q + m ≤ maxLen) (hby : (q + m) * P.bytesOf e ≤ 140737488355328) :
    Eff P n W σ l [] ⟨d, .call { callee := .builtin .append, args := #[x, y], argTypes := #[t, tn] }, ty, pos, aft, g⟩ fun u τ => ∃ v' js, u = .v v' ∧ js.length = m ∧ τ = own e s v' (xs.take q ++ js) :: σ := fun a w hs => by
  subst hr
  have hsz := Nat.eq_of_beq_eq_true hsz
  have hpos : 0 < s := by simpa [Nat.blt_eq] using hpos
  obtain ⟨us, hown, hr⟩ := own_hold hs hb
  obtain ⟨I, hI, hIs, z, hz, hzc⟩ := (hT e j hj).info
  have hzl := (hT e j hj).len
  have hbi := bytes_of hI
  rcases hown.2 with ⟨_, h0⟩ | ⟨gb, cap, cur, rfl, hbase, hg, hn, hcap, hcs, htk⟩
  · omega
  simp only [capV] at hroom
  have hqs : q * s ≤ xs.length * s := Nat.mul_le_mul_right _ (by omega)
  have hnc : xs.length * s ≤ cap * s := Nat.mul_le_mul_right _ hn
  have hul := hown.1
  have hold : (Builtin.firstCells I.size q (.slice (some ⟨gb, 0, none⟩) q cap)).run P w.drew = .ok (us.take (q * s)).toArray w.drew := by
    rw [hIs, hsz]
    refine run_firstCells_some (P := P) w.drew s q ⟨gb, 0, none⟩ q cap (us.take (q * s)) (by rw [List.length_take]; omega) fun i u hi => ?_
    rw [List.getElem?_take] at hi
    split at hi
    · rw [Addr.add_none]
      rw [← htk, List.getElem?_take] at hi
      split at hi
      · show w.cell? _ = _
        simp only [World.cell?, hg]
        simpa using hi
      · cases hi
    · cases hi
  have hrun := Lib.run_append_grow_zeros (P := P) w t tn ty e I z k kn hu htn hI hz (some ⟨gb, 0, none⟩) q cap (us.take (q * s)) hold m hm (by rw [hIs, hsz]; exact hpos) hroom (by unfold maxLen at hml; omega)
    (by rw [← hbi]; have : m * P.bytesOf e ≤ (q + m) * P.bytesOf e := Nat.mul_le_mul_right _ (by omega); omega) (growslice_fits hroom (by rw [← hbi]; exact hby))
  obtain ⟨G, hG⟩ : ∃ G, grownCap w (q + m) cap e = G := ⟨_, rfl⟩
  have hG1 : q + m ≤ G := hG ▸ grownCap_ge w _ _ _
  have hG2 : G ≤ maxLen := hG ▸ grownCap_le_maxLen w _ _ _ hml
  rw [hG] at hrun
  obtain ⟨ROW, hROW⟩ : ∃ ROW, (us.take (q * s)).toArray ++ Builtin.zeroCells z.cells m ++ Builtin.zeroCells z.cells (G - (q + m)) = ROW := ⟨_, rfl⟩
  rw [hROW] at hrun
  have hzs : z.cells.size = s := by rw [hzc, List.size_toArray, hzl, hsz]
  have hz1 : ∀ m, (Builtin.zeroCells z.cells m).size = m * s := fun m => by simp [Builtin.zeroCells, hzs]
  have hz2 : ∀ m, (Builtin.zeroCells z.cells m).toList.length = m * s := fun m => by rw [Array.length_toList, hz1]
  obtain ⟨js, hjs⟩ : ∃ js, chunks s m (Builtin.zeroCells z.cells m).toList = js := ⟨_, rfl⟩
  have hjl : js.length = m := by rw [← hjs, chunks_len]
  have hx0 : Ext [] w (w.drew.alloc (.cells ROW e)) := ((Ext.refl w).drew).alloc _
  have hrs : ROW.size = G * s := by
    rw [← hROW]
    simp only [Array.size_append, hz1, List.size_toArray, List.length_take]
    rw [Nat.min_eq_left (by omega), ← Nat.add_mul, ← Nat.add_mul]
    congr 1
    omega
  have hlen : (xs.take q ++ js).length = q + m := by
    rw [List.length_append, List.length_take, hjl]
    omega
  have hm2 := hs.mem.new (y := own e s (.slice (some ⟨w.heap.size, 0, none⟩) (q + m) G) (xs.take q ++ js)) hx0 own_nodup (by simp [It.mids, ownPc, Value.ownBlock]) rfl fun hca => by
    refine ⟨us.take (q * s) ++ (Builtin.zeroCells z.cells m).toList, ⟨?_, .inr ⟨w.heap.size, G, ROW, by rw [hlen], by omega, ?_, by rw [hlen]; exact hG1, hG2, hrs, ?_⟩⟩, repss_append (repss_carry hca _ _ _ (repss_cut hr q (by omega)).1) (hjs ▸ repss_chunks m _ (by rw [Array.length_toList, hz1]))⟩
    · rw [hlen, List.length_append, List.length_take, hz2, Nat.add_mul]
      omega
    · exact heap_alloc_new w.drew _
    · rw [hlen, ← hROW]
      simp only [Array.toList_append, List.append_assoc]
      rw [← List.append_assoc, List.take_append_of_le_length (by rw [List.length_append, List.length_take, hz2, Nat.add_mul]; omega), List.take_of_length_le (by rw [List.length_append, List.length_take, hz2, Nat.add_mul]; omega)]
  refine ⟨_, _, _, _, ⟨_, js, rfl, hjl, rfl⟩, hx0, rfl, hm2.1, hm2.2, .inl ?_⟩
  have e1 : a.eval x = .slice (some ⟨gb, 0, none⟩) q cap := hs.plain hx
  have e2 : a.eval y = .int k ((m : Nat) : Int) := hs.plain hy
  simp [execOp, resolve, invoke, builtin, e1, e2, hrun, Result.andThen]
end
theorem Casts.of_eq {xs ys : List Abs} (h : xs = ys) : Casts xs ys := h ▸ Casts.refl
section
variable {xs js : List (List Abs)} {y : List Abs} {i : Nat}
theorem ins_a (hi : i < xs.length) (hj : js.length = xs.length + 1 - i) : (xs.take i ++ js).take i ++ [y] ++ (xs.take i ++ js).drop (i + [y].length) = xs.take i ++ y :: js.drop 1 := by
  rw [List.take_append_of_le_length (by rw [List.length_take]; omega), List.take_take, Nat.min_self, List.drop_append, List.drop_of_length_le (by rw [List.length_take]; simp; omega), List.length_take, Nat.min_eq_left (by omega)]
  simp
theorem ins_b (hi : i < xs.length) (hj : js.length = xs.length + 1 - i) : (xs.take i ++ y :: js.drop 1).take (i + 1) ++ xs.drop i ++ (xs.take i ++ y :: js.drop 1).drop (i + 1 + (xs.drop i).length) = xs.take i ++ y :: xs.drop i := by
  have h1 : (xs.take i ++ y :: js.drop 1).drop (i + 1 + (xs.drop i).length) = [] := List.drop_of_length_le (by simp; omega)
  rw [h1, List.append_nil, List.take_append, List.length_take, Nat.min_eq_left (by omega), List.take_take, Nat.min_eq_right (by omega), Nat.add_sub_cancel_left, List.append_assoc]
  rfl
theorem ins_c (hi : i < xs.length) (hj : js.length + xs.length = xs.length + 1) : (xs ++ js).take (i + 1) ++ xs.drop i ++ (xs ++ js).drop (i + 1 + (xs.drop i).length) = (xs ++ js).take (i + 1) ++ xs.drop i := by
  have h1 : (xs ++ js).drop (i + 1 + (xs.drop i).length) = [] := List.drop_of_length_le (by simp; omega)
  rw [h1, List.append_nil]
theorem ins_d (hi : i < xs.length) (hj : js.length + xs.length = xs.length + 1) : ((xs ++ js).take (i + 1) ++ xs.drop i).take i ++ [y] ++ ((xs ++ js).take (i + 1) ++ xs.drop i).drop (i + [y].length) = xs.take i ++ y :: xs.drop i := by
  have h1 : ((xs ++ js).take (i + 1)).length = i + 1 := by rw [List.length_take, List.length_append]; omega
  rw [List.take_append_of_le_length (by omega), List.take_take, Nat.min_eq_left (by omega), List.take_append_of_le_length (by omega), List.drop_append, List.drop_of_length_le (by simp; omega), h1]
  simp
theorem ins_len (hi : i < xs.length) (hj : js.length + xs.length = xs.length + 1) : ((xs ++ js).take (i + 1) ++ xs.drop i).length = xs.length + 1 := by
  simp only [List.length_append, List.length_take, List.length_drop]
  omega
theorem ins_src (hi : i < xs.length) : ((xs ++ js).drop i).take (xs.drop i).length = xs.drop i := by
  rw [List.drop_append_of_le_length (by omega), List.take_left]
theorem ins_all (hi : i = xs.length) : xs ++ [y] = xs.take i ++ y :: xs.drop i := by
  subst hi
  simp
theorem ins_ones (h1 : ∀ c ∈ xs, ones c = true) (q : Nat) : ∀ c ∈ xs.drop q, ones c = true := fun c hc => h1 c (List.mem_of_mem_drop hc)
end
end Go.Proofs.YtejcohlpjikjpaaGreatDoor.A
/-
  The second engine: 'make([]T, n)' as a row of one's own; texts in order.
-/
namespace Go.Proofs.YtejcohlpjikjpaaGreatDoor.A
open Go.RowKit

section
variable {P : Program} {n : Nat} {W : Wd} {σ τ : Blks} {l : Slots} {X : List Nat} {x y : Operand} {d : Option Nat} {ty t e : TypeId} {pos : String} {aft : Array Edge} {g : Option (Nat × Bool)} {tab : List (Nat × TI)} {k k' : IntKind} {r : Int} {m : Nat} {z : Value}
theorem Eff.makeOwn (hT : TabOk P tab) {j : TI} (hu : P.underlying t = some (.slice e)) (hj : ti tab e = some j) (hsz : Nat.beq j.size 1 = true) (hz : j.zero = [z]) (hx : look l x = some (.v (.int k r))) (hy : look l y = some (.v (.int k' r))) (hr : r = (m : Nat)) (hm : m ≤ maxLen) (hby : P.bytesOf e * m ≤ 281474976710656) :
    Eff P n W σ l [] ⟨d, .makeSlice t x y, ty, pos, aft, g⟩ fun u τ => ∃ v, u = .v v ∧ τ = own e 1 v (List.replicate m [.v z]) :: σ := fun a w hs => by
  subst hr
  have hsz := Nat.eq_of_beq_eq_true hsz
  obtain ⟨I, hI, hIs, zv, hzv, hzc⟩ := (hT e j hj).info
  have hbi := bytes_of hI
  obtain ⟨w', hrun, h1, h2⟩ := run_make_full (P := P) w 0 t e I zv 1 hu hI hzv (by rw [hIs, hsz]) k k' m (by rw [← hbi]; exact hby) hm (Nat.zero_le _)
  have hxx : Ext [] w w' := ext_grown h2 (by simp)
  have hcs : (madeCells zv.cells (m * 1)).toList = List.replicate m z := by
    rw [hzc, hz, Nat.mul_one]
    apply List.ext_getElem
    · simp [size_madeCells]
    · intro i h3 h4
      simp [madeCells, Nat.mod_one]
  rw [hcs] at h1
  have hnew := hs.mem.new (y := own e 1 (.slice (some ⟨w.heap.size, 0, none⟩) m m) (List.replicate m [.v z])) hxx own_nodup (by simp [It.mids, ownPc, Value.ownBlock]) rfl fun hc => ⟨List.replicate m z, by rw [List.length_replicate]; exact h1, repss_rep m⟩
  refine ⟨_, w', _, _, ⟨_, rfl, rfl⟩, hxx, rfl, hnew.1, hnew.2, .inl ?_⟩
  simp [execOp, hs.plain hx, hs.plain hy, hrun, Result.andThen]
end
end Go.Proofs.YtejcohlpjikjpaaGreatDoor.A
/-
  Ledgers, plain: '==' on letters and outcomes; what may be.
-/
namespace Go.Proofs.YtejcohlpjikjpaaGreatDoor.A
open Go.RowKit

section
variable {P : Program} {n : Nat} {W : Wd} {σ : Blks} {l : Slots} {X : List Nat} {x y : Operand} {d : Option Nat} {ty t t' : TypeId} {pos : String} {aft : Array Edge} {g : Option (Nat × Bool)} {s r : ByteArray}
end
theorem wfI {a : Int} (h : i64ok a) : (Lit.int .i64 a).wf = true := by
  obtain ⟨h0, h1⟩ := h
  simp [Lit.wf, IntKind.min, IntKind.max, IntKind.signed, IntKind.bits]; omega
/-! ### Letters -/
/-- A letter as it comes in. -/
structure LtIns (x : Ltr) : Prop extends x.Wf where
  name : x.name.size ≤ maxLen
  policy : x.policy.size ≤ maxLen
  papers : x.papers.size ≤ maxLen
def ltrLits (x : Ltr) : List Lit := [.string x.name.data.toList, .int .i64 x.state, .int .i64 x.amount, .int .i64 x.due, .string x.policy.data.toList, .string x.papers.data.toList]
theorem ltr_lits {x : Ltr} (h : LtIns x) : Tryz.prog.keyLits 4 74 x.cells.toList = some (ltrLits x) := by
  have h1 := wfI h.state
  have h2 := wfI h.amount
  have h3 := wfI h.due
  have h4 := h.name
  have h5 := h.policy
  have h6 := h.papers
  have c2 : Tryz.prog.cellsOf 74 = 6 := by kernel_rfl
  have c3 : Tryz.prog.cellsOf 9 = 1 := by kernel_rfl
  have c4 : Tryz.prog.cellsOf 3 = 1 := by kernel_rfl
  have c5 : Tryz.prog.cellsOf 2 = 1 := by kernel_rfl
  simp [Program.keyLits, Tryz.underlying74, Tryz.underlying9, Tryz.underlying3, Tryz.underlying2, c2, c3, c4, c5, Ltr.cells, ltrLits, h1, h2, h3, h4, h5, h6]
theorem ltr_formed (x : Ltr) : (Value.agg x.cells).formed Tryz.prog 74 = true := by kernel_rfl
theorem bytes_inj {a b : ByteArray} (h : a.data.toList = b.data.toList) : a = b := tx_inj h
theorem ltrLits_inj {x y : Ltr} (h : ltrLits x = ltrLits y) : x = y := by
  simp only [ltrLits, List.cons.injEq, Lit.string.injEq, Lit.int.injEq, true_and, and_true] at h
  obtain ⟨h1, h2, h3, h4, h5, h6⟩ := h
  obtain ⟨a1, a2, a3, a4, a5, a6⟩ := x
  obtain ⟨b1, b2, b3, b4, b5, b6⟩ := y
  simp only [Ltr.mk.injEq]
  exact ⟨bytes_inj h1, h2, h3, h4, bytes_inj h5, bytes_inj h6⟩
noncomputable instance : DecidableEq Ltr := fun _ _ => Classical.propDecidable _
noncomputable instance : DecidableEq Oc := fun _ _ => Classical.propDecidable _
noncomputable instance : DecidableEq Lg := fun _ _ => Classical.propDecidable _
theorem neqLtr {x y : Ltr} (hx : LtIns x) (hy : LtIns y) (w : World) : (binOp .neq 74 (.agg x.cells.toList.toArray) (.agg y.cells.toList.toArray)).run Tryz.prog w = .ok (.bool (decide (x ≠ y))) w :=
  run_neq_lits (m := 10) (by decide) (by kernel_rfl) (by simpa using ltr_formed x) (by simpa using ltr_formed y) (by simpa using ltr_lits hx) (by simpa using ltr_lits hy) _ (by
    rw [decide_eq_true_eq]
    exact ⟨fun h h2 => h (ltrLits_inj h2), fun h h2 => h (by rw [h2])⟩) w
theorem ltr_plains (x : Ltr) : plains (ltrA x) = some x.cells.toList := rfl
/-! ### Outcomes -/
structure OcIns (o : Oc) : Prop where
  client : i64ok o.client
  stamp : i64ok o.stamp
  result : i64ok o.result
def ocCells (o : Oc) : List Value := [.int .i64 o.client, .int .i64 o.stamp, .int .i64 o.result]
def ocLits (o : Oc) : List Lit := [.int .i64 o.client, .int .i64 o.stamp, .int .i64 o.result]
theorem oc_lits {o : Oc} (h : OcIns o) : Tryz.prog.keyLits 4 76 (ocCells o) = some (ocLits o) := by
  have h1 := wfI h.client
  have h2 := wfI h.stamp
  have h3 := wfI h.result
  have c2 : Tryz.prog.cellsOf 76 = 3 := by kernel_rfl
  have c4 : Tryz.prog.cellsOf 3 = 1 := by kernel_rfl
  have c5 : Tryz.prog.cellsOf 2 = 1 := by kernel_rfl
  have c6 : Tryz.prog.cellsOf 35 = 1 := by kernel_rfl
  simp [Program.keyLits, Tryz.underlying76, Tryz.underlying3, Tryz.underlying2, Tryz.underlying35, c2, c4, c5, c6, ocCells, ocLits, h1, h2, h3]
theorem oc_formed (o : Oc) : (Value.agg (ocCells o).toArray).formed Tryz.prog 76 = true := by kernel_rfl
theorem ocLits_inj {x y : Oc} (h : ocLits x = ocLits y) : x = y := by
  simp only [ocLits, List.cons.injEq, Lit.int.injEq, true_and, and_true] at h
  obtain ⟨h1, h2, h3⟩ := h
  obtain ⟨a1, a2, a3⟩ := x
  obtain ⟨b1, b2, b3⟩ := y
  simp only [Oc.mk.injEq]
  exact ⟨h1, h2, h3⟩
theorem neqOc {x y : Oc} (hx : OcIns x) (hy : OcIns y) (w : World) : (binOp .neq 76 (.agg (ocCells x).toArray) (.agg (ocCells y).toArray)).run Tryz.prog w = .ok (.bool (decide (x ≠ y))) w :=
  run_neq_lits (m := 10) (by decide) (by kernel_rfl) (oc_formed x) (oc_formed y) (by simpa using oc_lits hx) (by simpa using oc_lits hy) _ (by
    rw [decide_eq_true_eq]
    exact ⟨fun h h2 => h (ocLits_inj h2), fun h h2 => h (by rw [h2])⟩) w
theorem oc_plains (o : Oc) : plains o.abs = some (ocCells o) := rfl
/-! ### Ledgers as they come in -/
structure Lg.Ins (l : Lg) : Prop where
  seq : i64ok l.seq
  total : i64ok l.total
  ls : ∀ x ∈ l.ls, LtIns x
  os : ∀ o ∈ l.os, OcIns o
theorem Lg.Ins.wf {l : Lg} (h : l.Ins) : l.Wf := ⟨h.seq, h.total, fun x hx => (h.ls x hx).toWf⟩
structure EnIns (e : Ent) : Prop where
  client : i64ok e.core.client
  stamp : i64ok e.core.stamp
  op : i64ok e.core.op
  a : i64ok e.core.a
  b : i64ok e.core.b
  letter : e.core.letter.size ≤ maxLen
  text : e.core.text.size ≤ maxLen
  mask : e.mask < 4294967296
theorem none_ins : LtIns Ltr.none := ⟨none_wf, Nat.zero_le _, Nat.zero_le _, Nat.zero_le _⟩
theorem Lg.zero_ins : Lg.zero.Ins := ⟨by show i64ok 0; unfold i64ok; omega, by show i64ok 0; unfold i64ok; omega, fun x hx => (by cases hx), fun x hx => (by cases hx)⟩
section
variable {l : Lg} {x : Ltr} {e : Ent} {c : Core} {n : Int} {op a b : Int} {t : ByteArray}
theorem does_ins (h : LtIns x) (ht : t.size ≤ maxLen) : LtIns (x.does op a b t).1 := by
  refine ⟨does_wf h.toWf, ?_, ?_, ?_⟩
  all_goals
    unfold Ltr.does Ltr.apply Ltr.amend
    repeat' split
    all_goals first | exact h.name | exact h.policy | exact h.papers | exact ht | exact Nat.zero_le _
theorem step_ins (h : LtIns x) (ht : t.size ≤ maxLen) : LtIns (x.step op a b t).1 := by
  have h1 := does_ins (op := op) (a := a) (b := b) h ht
  refine ⟨step_wf h.toWf, ?_, ?_, ?_⟩
  all_goals
    unfold Ltr.step
    repeat' split
    all_goals first | exact h1.name | exact h1.policy | exact h1.papers | exact Nat.zero_le _
theorem Lg.old_ins (h : l.Ins) (s : ByteArray) : LtIns (l.old s) := by
  unfold Lg.old Lg.find
  cases hf : l.ls.find? (eqL s) with
  | none => exact none_ins
  | some x => exact h.ls x (find_some hf).1
theorem stepped_ins (h : l.Ins) (hx : LtIns x) (hc : c.letter.size ≤ maxLen) (ht : c.text.size ≤ maxLen) : (l.stepped x c).1.Ins := by
  unfold Lg.stepped
  split
  · exact h
  · split
    · exact h
    · next h2 =>
      have h1 := (with_ok h2).1
      have hs := step_ins (op := c.op) (a := c.a) (b := c.b) (t := c.text) hx ht
      have hw : (l.with_ (nextL x c)).1.Ins := by
        rw [h1]
        refine ⟨h.seq, h.total, fun y hy => ?_, h.os⟩
        rcases withG_mem hy with rfl | hy
        · exact ⟨⟨hs.state, hs.amount, hs.due⟩, hc, hs.policy, hs.papers⟩
        · exact h.ls y hy
      split
      · exact hw
      · split
        · exact h
        · exact ⟨hw.seq, amt_i64 (amtAdd_is _ _), hw.ls, hw.os⟩
theorem small_i64 {a : Int} (h : 0 ≤ a ∧ a ≤ 99) : i64ok a := by unfold i64ok; omega
theorem amtAdd_err (a b : Int) : 0 ≤ (amtAdd a b).2 ∧ (amtAdd a b).2 ≤ 99 := by
  unfold amtAdd
  split
  · decide
  · split <;> (constructor <;> (dsimp only; omega))
theorem amtSub_err (a b : Int) : 0 ≤ (amtSub a b).2 ∧ (amtSub a b).2 ≤ 99 := by
  unfold amtSub
  split
  · decide
  · split <;> (constructor <;> (dsimp only; omega))
theorem step_err : 0 ≤ (x.step op a b t).2 ∧ (x.step op a b t).2 ≤ 99 := by
  unfold Ltr.step
  split
  · (constructor <;> (dsimp only; omega))
  · split
    · (constructor <;> (dsimp only; omega))
    · split
      · show 0 ≤ (x.does op a b t).2 ∧ (x.does op a b t).2 ≤ 99
        unfold Ltr.does Ltr.apply Ltr.amend Ltr.expire amtChange
        have h1 := amtAdd_err x.amount a
        have h2 := amtSub_err x.amount (-a)
        repeat' split
        all_goals first | exact h1 | exact h2 | (constructor <;> (dsimp only; omega))
      · (constructor <;> (dsimp only; omega))
theorem with_err {y : Ltr} : 0 ≤ (l.with_ y).2 ∧ (l.with_ y).2 ≤ 99 := by
  unfold Lg.with_
  split
  · (constructor <;> (dsimp only; omega))
  · split
    · (constructor <;> (dsimp only; omega))
    · (constructor <;> (dsimp only; omega))
theorem res_err : 0 ≤ (l.res e n).2 ∧ (l.res e n).2 ≤ 99 := by
  unfold Lg.res Lg.known endorsedF Lg.stepped
  repeat' split
  all_goals first | exact step_err | exact with_err | (constructor <;> (dsimp only; omega))
theorem res_ins (h : l.Ins) (he : EnIns e) : (l.res e n).1.Ins := by
  unfold Lg.res
  split
  · exact h
  · split
    · exact h
    · exact stepped_ins h (Lg.old_ins h _) he.letter he.text
theorem doF_ins (h : l.Ins) (he : EnIns e) : (l.doF e n).1.Ins := by
  unfold Lg.doF
  split
  · exact h
  · split
    · exact h
    · have h1 := res_ins (n := n) h he
      refine ⟨h1.seq, h1.total, h1.ls, fun o ho => ?_⟩
      rcases withG_mem ho with rfl | ho
      · exact ⟨he.client, he.stamp, small_i64 res_err⟩
      · exact h1.os o ho
end
/-! ### What may be -/
structure LtR (x : Ltr) : Prop where
  name : nameB x.name = true
  state : 1 ≤ x.state ∧ x.state ≤ 7
  amount : 1 ≤ x.amount ∧ x.amount ≤ 1099511627776
  due : isAmt x.due = true
  policy : x.policy.size ≤ 200
  papers : x.papers.size ≤ 200
structure OcR (o : Oc) : Prop where
  client : 0 ≤ o.client ∧ o.client ≤ 63
  stamp : 1 ≤ o.stamp ∧ o.stamp ≤ 1099511627776
  result : 0 ≤ o.result ∧ o.result ≤ 99
structure LtsR (ls : List Ltr) : Prop where
  each : ∀ j (h : j < ls.length), LtR ls[j]
  rise : ∀ j (h : j < ls.length), 0 < j → ltB (ls[j - 1]'(by omega)).name ls[j].name
structure OcsR (os : List Oc) : Prop where
  each : ∀ j (h : j < os.length), OcR os[j]
  rise : ∀ j (h : j < os.length), 0 < j → (os[j - 1]'(by omega)).client < os[j].client
/-- A ledger that may be. -/
structure Lg.Right (l : Lg) : Prop where
  os : OcsR l.os
  seq : 0 ≤ l.seq ∧ l.seq ≤ 1048576
  total : isAmt l.total = true
  few : l.os.length ≤ 4
  ls : LtsR l.ls
  lsFew : l.ls.length ≤ 16
noncomputable instance (ls : List Ltr) : Decidable (LtsR ls) := Classical.propDecidable _
noncomputable instance (os : List Oc) : Decidable (OcsR os) := Classical.propDecidable _
noncomputable instance (l : Lg) : Decidable l.Right := Classical.propDecidable _
end Go.Proofs.YtejcohlpjikjpaaGreatDoor.A
/-
  Batches of entries, plain.
-/
namespace Go.Proofs.YtejcohlpjikjpaaGreatDoor.A
open Go.RowKit

theorem goes_app (n : Int) : ∀ (l : Lg) (xs ys : List Ent), Lg.goes n l (xs ++ ys) = ((Lg.goes n (Lg.goes n l xs).1 ys).1, (Lg.goes n l xs).2 ++ (Lg.goes n (Lg.goes n l xs).1 ys).2)
  | l, [], ys => rfl
  | l, e :: xs, ys => by
    rw [List.cons_append, Lg.goes, goes_app n _ xs ys, Lg.goes]
    rfl
theorem goes_take {n : Int} {l : Lg} {es : List Ent} {z : Nat} (h : z < es.length) : Lg.goes n l (es.take (z + 1)) = (((Lg.goes n l (es.take z)).1.doF es[z] n).1, (Lg.goes n l (es.take z)).2 ++ [((Lg.goes n l (es.take z)).1.doF es[z] n).2]) := by
  rw [List.take_succ_eq_append_getElem h, goes_app]
  rfl
theorem goes_len (n : Int) : ∀ (l : Lg) (es : List Ent), (Lg.goes n l es).2.length = es.length
  | l, [] => rfl
  | l, e :: es => by rw [Lg.goes, List.length_cons, goes_len n _ es, List.length_cons]
theorem goes_few (n : Int) : ∀ (l : Lg) (es : List Ent), (Lg.goes n l es).1.ls.length ≤ l.ls.length + es.length ∧ (Lg.goes n l es).1.os.length ≤ l.os.length + es.length
  | l, [] => ⟨Nat.le_refl _, Nat.le_refl _⟩
  | l, e :: es => by
    have h1 := goes_few n (l.doF e n).1 es
    have h2 := doF_len (l := l) (e := e) (n := n)
    rw [Lg.goes, List.length_cons]
    dsimp only
    omega
theorem goes_wf (n : Int) : ∀ {l : Lg} {es : List Ent}, l.Wf → (Lg.goes n l es).1.Wf
  | l, [], h => h
  | l, e :: es, h => goes_wf n (es := es) (doF_wf (e := e) (n := n) h)
theorem goes_ins (n : Int) : ∀ {l : Lg} {es : List Ent}, l.Ins → (∀ e ∈ es, EnIns e) → (Lg.goes n l es).1.Ins
  | l, [], h, _ => h
  | l, e :: es, h, he => goes_ins n (es := es) (doF_ins (n := n) h (he e List.mem_cons_self)) fun x hx => he x (List.mem_cons_of_mem _ hx)
theorem goes_seq (n : Int) : ∀ (l : Lg) (es : List Ent), (Lg.goes n l es).1.seq = l.seq
  | l, [] => rfl
  | l, e :: es => (goes_seq n _ es).trans doF_seq
/-- The errors there are so far, and room for the others. -/
def errsA (n : Int) (l : Lg) (es : List Ent) (z : Nat) : List (List Abs) := (Lg.goes n l (es.take z)).2.map (fun x => [int x]) ++ List.replicate (es.length - z) [int 0]
theorem errs_len {n : Int} {l : Lg} {es : List Ent} {z : Nat} (h : z ≤ es.length) : (errsA n l es z).length = es.length := by
  unfold errsA
  rw [List.length_append, List.length_map, goes_len, List.length_take, List.length_replicate]
  omega
theorem errs_set {n : Int} {l : Lg} {es : List Ent} {z : Nat} (h : z < es.length) : (errsA n l es z).set z [int ((Lg.goes n l (es.take z)).1.doF es[z] n).2] = errsA n l es (z + 1) := by
  unfold errsA
  rw [goes_take h]
  have hl : ((Lg.goes n l (es.take z)).2.map (fun x => [int x])).length = z := by rw [List.length_map, goes_len, List.length_take]; omega
  obtain ⟨m, hm⟩ : ∃ m, es.length - z = m + 1 := ⟨es.length - z - 1, by omega⟩
  rw [List.set_append_right _ _ (by omega), hl, Nat.sub_self, hm, List.replicate_succ, List.set_cons_zero, show es.length - (z + 1) = m by omega]
  simp
theorem errs_done {n : Int} {l : Lg} {es : List Ent} : errsA n l es es.length = (l.foldF es n).2.map fun x => [int x] := by
  unfold errsA Lg.foldF
  rw [List.take_length, Nat.sub_self, List.replicate_zero, List.append_nil]
/-- Not too great to be asked about. -/
structure FewC (l : Lg) (es : List Ent) : Prop where
  ls : ∀ j (h : j < l.ls.length), l.ls[j].name.size ≤ 100 ∧ l.ls[j].policy.size ≤ 300 ∧ l.ls[j].papers.size ≤ 300
  en : ∀ j (h : j < es.length), es[j].core.letter.size ≤ 100 ∧ es[j].core.text.size ≤ 300
  nl : l.ls.length ≤ 64
  no : l.os.length ≤ 64
  ne : es.length ≤ 40
noncomputable instance (l : Lg) (es : List Ent) : Decidable (FewC l es) := Classical.propDecidable _
theorem FewC.name {l : Lg} {es : List Ent} (h : FewC l es) : ∀ x ∈ l.ls, x.name.size ≤ lots := fun x hx => by
  obtain ⟨j, hj, rfl⟩ := List.getElem_of_mem hx
  have := (h.ls j hj).1
  unfold lots
  omega
abbrev entsR (es : List Ent) : Abs := .sl 8 (es.map entA)
abbrev errsR (l : List Int) : Abs := .sl 1 (l.map fun x => [int x])
end Go.Proofs.YtejcohlpjikjpaaGreatDoor.A
/-
  What came in lies apart from the program's own tables: their cells are of other kinds.
-/
namespace Go.Proofs.YtejcohlpjikjpaaGreatDoor.A
open Go.RowKit

/-- No cell of these blocks is a number of that kind. -/
def Other (k : IntKind) (G : List Nat) (w : World) : Prop := ∀ g ∈ G, ∀ (off : Nat) (i : Int), w.cell? ⟨g, off, none⟩ ≠ some (.int k i)
section
variable {G : List Nat} {w : World} {k : IntKind}
theorem _root_.Go.Proofs.YtejcohlpjikjpaaGreatDoor.IsRow.into {v : Value} {n : Nat} {cs : List Value} (h : IsRow [] w v n cs) (hG : Other k G w) (h0 : cs ≠ [] → ∃ i, cs[0]? = some (.int k i)) : IsRow G w v n cs := by
  refine ⟨h.shape, fun hn => ?_⟩
  obtain ⟨b, off, n', c, hv, _, hc⟩ := h.cells hn
  obtain ⟨i, hi⟩ := h0 hn
  exact ⟨b, off, n', c, hv, fun hb => hG b hb (off + 0) i (hc 0 _ hi), hc⟩
theorem _root_.Go.Proofs.YtejcohlpjikjpaaGreatDoor.IsRow.intoJ {v : Value} {n j : Nat} {cs : List Value} (h : IsRow [] w v n cs) (hG : Other k G w) (h0 : cs ≠ [] → ∃ i, cs[j]? = some (.int k i)) : IsRow G w v n cs := by
  refine ⟨h.shape, fun hn => ?_⟩
  obtain ⟨b, off, n', c, hv, _, hc⟩ := h.cells hn
  obtain ⟨i, hi⟩ := h0 hn
  exact ⟨b, off, n', c, hv, fun hb => hG b hb (off + j) i (hc j _ hi), hc⟩
/-- Rows of plain cells, one of them a number. -/
theorem flat_keep {α : Type} {c : α → List Value} {s j : Nat} (hs : ∀ a, (c a).length = s) (hj : ∀ a, ∃ i, (c a)[j]? = some (.int k i)) (hG : Other k G w) {xs : List α} {v : Value} (h : rep [] w (flat s c xs) v) : rep G w (flat s c xs) v :=
  (rep_flat hs).2 (((rep_flat hs).1 h).intoJ (j := j) hG fun hn => by
    cases xs with
    | nil => exact absurd rfl hn
    | cons a xs =>
      obtain ⟨i, hi⟩ := hj a
      refine ⟨i, ?_⟩
      rw [List.flatMap_cons, List.getElem?_append_left (List.getElem?_eq_some_iff.1 hi).1]
      exact hi)
theorem other_var {n : String} {cs : Array Value} (h : w.var? Tryz.prog n = some cs) (hc : ∀ (i : Nat) v, cs[i]? = some v → ∀ z, v ≠ .int k z) (off : Nat) (i : Int) : w.cell? ⟨(Tryz.prog.globalNamed n).getD 0, off, none⟩ ≠ some (.int k i) := by
  intro h2
  cases hg : Tryz.prog.globalNamed n with
  | none => unfold World.var? at h; rw [hg] at h; cases h
  | some g =>
    rw [hg] at h2
    have h3 := World.var?_cell hg h off
    have h4 : w.cell? ⟨g, off, none⟩ = some (.int k i) := h2
    rw [h4] at h3
    exact hc off _ h3.symm i rfl
theorem other_one {e : Value} (he : isIf e) (i : Nat) (v : Value) (h : (#[e] : Array Value)[i]? = some v) (z : Int) : v ≠ .int k z := by
  obtain ⟨t, u, rfl⟩ := he
  rintro rfl
  cases i with
  | zero => simp at h
  | succ i => simp at h
theorem other_globs (hk : k ≠ .u64) {es er : Value} (he : isIf es) (hr : isIf er) (h1 : w.var? Tryz.prog "strconv.ErrSyntax" = some #[es]) (h2 : w.var? Tryz.prog "strconv.ErrRange" = some #[er]) (h3 : w.var? Tryz.prog "internal/strconv.uint64pow10" = some pow10C) :
    Other k (mids (globs es er) ++ [(Tryz.prog.globalNamed "strconv.ErrSyntax").getD 0, (Tryz.prog.globalNamed "strconv.ErrRange").getD 0, (Tryz.prog.globalNamed "internal/strconv.uint64pow10").getD 0]) w := by
  intro g hg off i
  have hg : g ∈ [(Tryz.prog.globalNamed "strconv.ErrSyntax").getD 0, (Tryz.prog.globalNamed "strconv.ErrRange").getD 0, (Tryz.prog.globalNamed "internal/strconv.uint64pow10").getD 0] := hg
  simp only [List.mem_cons, List.not_mem_nil, or_false] at hg
  rcases hg with rfl | rfl | rfl
  · exact other_var h1 (fun i v h => other_one he i v h) off i
  · exact other_var h2 (fun i v h => other_one hr i v h) off i
  · refine other_var h3 (fun i v h z => ?_) off i
    rintro rfl
    unfold pow10C at h
    rw [List.getElem?_toArray, List.getElem?_map] at h
    cases hq : Lib.pow10Tab[i]? with
    | none => rw [hq] at h; cases h
    | some x =>
      rw [hq] at h
      simp only [Option.map_some, Option.some.injEq] at h
      injection h with h4
      exact hk h4.symm
end
end Go.Proofs.YtejcohlpjikjpaaGreatDoor.A
/-
  Ledgers and entries that came in, as trees; they lie apart from the program's own tables.
-/
namespace Go.Proofs.YtejcohlpjikjpaaGreatDoor.A
open Go.RowKit Go.ChangeShapes Go.WideShapes Go.ChangeAt

section
variable {H : Type} {enc : TypeId × Value → H} {w : World} {base : Nat} {spare : Nat → Bool} {held : Bool}
theorem wfOk {a : Int} (h : (Lit.int .i64 a).wf = true) : i64ok a := by
  have := bounds_i64 h
  unfold i64ok
  omega
theorem en_leaves : leaves Tryz.prog 4 51 = some [3, 2, 3, 9, 2, 2, 9, 49] := by kernel_rfl
theorem open_enO (cs : List Value) (hl : cs.length = Tryz.prog.cellsOf 51) (h : ∃ m y, DataW.trod enc Tryz.prog w base spare held m 51 cs = some y) : ∃ e : Ent, reps [] w (entA e) cs ∧ EnIns e := by
  obtain ⟨fuel, x, h⟩ := h
  rw [show Tryz.prog.cellsOf 51 = 8 by kernel_rfl] at hl
  have hh := leaves_trod 4 _ _ _ _ _ en_leaves (by simpa using hl.symm) h
  match cs, hl with
  | [v0, v1, v2, v3, v4, v5, v6, v7], _ =>
    obtain ⟨n0, rfl, b0⟩ := (hh 0 v0 _ rfl rfl).int Tryz.underlying3
    obtain ⟨n1, rfl, b1⟩ := (hh 1 v1 _ rfl rfl).int Tryz.underlying2
    obtain ⟨n2, rfl, b2⟩ := (hh 2 v2 _ rfl rfl).int Tryz.underlying3
    obtain ⟨s3, rfl, b3⟩ := (hh 3 v3 _ rfl rfl).string Tryz.underlying9
    obtain ⟨n4, rfl, b4⟩ := (hh 4 v4 _ rfl rfl).int Tryz.underlying2
    obtain ⟨n5, rfl, b5⟩ := (hh 5 v5 _ rfl rfl).int Tryz.underlying2
    obtain ⟨s6, rfl, b6⟩ := (hh 6 v6 _ rfl rfl).string Tryz.underlying9
    obtain ⟨n7, rfl, b7⟩ := (hh 7 v7 _ rfl rfl).int Tryz.underlying49
    simp only [Lit.wf, Bool.and_eq_true, decide_eq_true_eq] at b7
    have c0 : (0 : Int) ≤ n7 := b7.1
    have c1 : n7 ≤ (4294967295 : Int) := b7.2
    obtain ⟨m, rfl⟩ : ∃ m : Nat, n7 = m := ⟨n7.toNat, by omega⟩
    exact ⟨⟨⟨n0, n1, n2, s3, n4, n5, s6⟩, m⟩, reps_plain.2 rfl, ⟨wfOk b0, wfOk b1, wfOk b2, wfOk b4, wfOk b5, b3, b6, by show m < 4294967296; omega⟩⟩
theorem open_ensO {v : Value} (h : LeafAt enc Tryz.prog w base spare held 33 v) : ∃ es : List Ent, rep [] w (entsR es) v ∧ ∀ e ∈ es, EnIns e :=
  open_slA (abs := entA) (Ok := EnIns) (s := 8) Tryz.underlying33 (by kernel_rfl) h open_enO
end
section
variable {G : List Nat} {w : World}
theorem ens_keep (hG : Other .i64 G w) {es : List Ent} {v : Value} (h : rep [] w (entsR es) v) : rep G w (entsR es) v := flat_keep (c := Ent.cells) (s := 8) (j := 0) (fun _ => rfl) (fun e => ⟨e.core.client, rfl⟩) hG h
end
end Go.Proofs.YtejcohlpjikjpaaGreatDoor.A
/-
  Rows with keys in order, plain: what is put in keeps the order; unlike keys may go in any order.
-/
namespace Go.Proofs.YtejcohlpjikjpaaGreatDoor.A
open Go.RowKit

/-- Keys in a strict order. -/
structure KOrd {α κ : Type} (key : α → κ) (lt : κ → κ → Prop) (eq gt : κ → α → Bool) : Prop where
  irr : ∀ k, ¬ lt k k
  trans : ∀ {a b c}, lt a b → lt b c → lt a c
  tri : ∀ a b, lt a b ∨ a = b ∨ lt b a
  eq_ : ∀ k x, eq k x = true ↔ key x = k
  gt_ : ∀ k x, gt k x = true ↔ lt k (key x)
theorem ltrOrd : KOrd (fun x : Ltr => x.name) ltB eqL gtL := ⟨ltB_irr, ltB_trans, ltB_tri, fun _ _ => decide_eq_true_iff, fun _ _ => decide_eq_true_iff⟩
theorem ocOrd : KOrd (fun o : Oc => o.client) (fun a b : Int => a < b) eqO gtO := ⟨fun k => by omega, fun h k => by omega, fun a b => by omega, fun _ _ => decide_eq_true_iff, fun _ _ => decide_eq_true_iff⟩
section
variable {α κ : Type} {key : α → κ} {lt : κ → κ → Prop} {eq gt : κ → α → Bool}
/-- In order. -/
def Asc (key : α → κ) (lt : κ → κ → Prop) (l : List α) : Prop := (l.map key).Pairwise lt
theorem Asc.of_adj (h : KOrd key lt eq gt) {l : List α} (ha : ∀ j (hj : j < l.length), 0 < j → lt (key (l[j - 1]'(by omega))) (key l[j])) : Asc key lt l := by
  unfold Asc
  rw [List.pairwise_iff_getElem]
  intro i j hi hj hij
  simp only [List.length_map] at hi hj
  simp only [List.getElem_map]
  have aux : ∀ d (hd : i + d + 1 < l.length), lt (key (l[i]'hi)) (key (l[i + d + 1]'hd)) := by
    intro d
    induction d with
    | zero => intro hd; exact ha (i + 1) hd (by omega)
    | succ d ih => intro hd; exact h.trans (ih (by omega)) (ha (i + (d + 1) + 1) hd (by omega))
  have h2 := aux (j - i - 1) (by omega)
  simpa only [show i + (j - i - 1) + 1 = j by omega] using h2
theorem Asc.adj {l : List α} (h : Asc key lt l) : ∀ j (hj : j < l.length), 0 < j → lt (key (l[j - 1]'(by omega))) (key l[j]) := fun j hj h0 => by
  unfold Asc at h
  rw [List.pairwise_iff_getElem] at h
  have := h (j - 1) j (by rw [List.length_map]; omega) (by rw [List.length_map]; omega) (by omega)
  simpa only [List.getElem_map] using this
theorem asc_cons {x : α} {l : List α} : Asc key lt (x :: l) ↔ (∀ y ∈ l, lt (key x) (key y)) ∧ Asc key lt l := by
  unfold Asc
  rw [List.map_cons, List.pairwise_cons]
  simp
end
theorem LtsR.asc {ls : List Ltr} (h : LtsR ls) : Asc (fun x : Ltr => x.name) ltB ls := Asc.of_adj ltrOrd h.rise
theorem OcsR.asc {os : List Oc} (h : OcsR os) : Asc (fun o : Oc => o.client) (fun a b : Int => a < b) os := Asc.of_adj ocOrd h.rise
theorem LtsR.mk' {ls : List Ltr} (h : ∀ x ∈ ls, LtR x) (ha : Asc (fun x : Ltr => x.name) ltB ls) : LtsR ls := ⟨fun j hj => h _ (List.getElem_mem hj), ha.adj⟩
theorem OcsR.mk' {os : List Oc} (h : ∀ x ∈ os, OcR x) (ha : Asc (fun o : Oc => o.client) (fun a b : Int => a < b) os) : OcsR os := ⟨fun j hj => h _ (List.getElem_mem hj), ha.adj⟩
/-- So few, if their numbers are so few. -/
theorem asc_few {os : List Oc} : ∀ {lo_ up : Int}, Asc (fun o : Oc => o.client) (fun a b : Int => a < b) os → (∀ o ∈ os, lo_ ≤ o.client ∧ o.client < up) → (os.length : Int) ≤ max (up - lo_) 0 := by
  induction os with
  | nil => intro lo_ up _ _; simp; omega
  | cons o os ih =>
    intro lo_ up ha hb
    obtain ⟨h1, h2⟩ := asc_cons.1 ha
    have h3 := hb o List.mem_cons_self
    have h4 := ih (lo_ := o.client + 1) (up := up) h2 fun p hp => by
      have h5 := h1 p hp
      have h6 := hb p (List.mem_cons_of_mem _ hp)
      omega
    rw [List.length_cons]
    omega
end Go.Proofs.YtejcohlpjikjpaaGreatDoor.A
/-
  What entries do, plain: what is refused leaves letters; never twice; in any order; ledgers that may be stay so.
-/
namespace Go.Proofs.YtejcohlpjikjpaaGreatDoor.A
open Go.RowKit

section
variable {l : Lg} {x : Ltr} {e : Ent} {c : Core} {n : Int} {op a b : Int} {t : ByteArray}
theorem check_ok (h : c.check n = 0) : (1 ≤ n ∧ n ≤ 7) ∧ (n ≤ c.client ∧ c.client < n + 4) ∧ (1 ≤ c.stamp ∧ c.stamp ≤ 1099511627776) ∧ (1 ≤ c.op ∧ c.op ≤ 9) ∧ nameB c.letter = true ∧ c.text.size ≤ 200 := by
  unfold Core.check at h
  split at h
  · cases h
  · split at h
    · cases h
    · split at h
      · cases h
      · split at h
        · cases h
        · next h4 =>
          split at h
          · cases h
          · exact ⟨by omega, by omega, by omega, by omega, by simpa using h4, by omega⟩
/-- What is paid. -/
def paidF (x : Ltr) : Int := if x.state = 5 then x.amount else 0
def paidL (ls : List Ltr) : Int := (ls.map paidF).sum
/-- A ledger of four replicas, from the empty one on. -/
structure Lg.Keep (l : Lg) : Prop where
  each : ∀ x ∈ l.ls, LtR x
  asc : Asc (fun x : Ltr => x.name) ltB l.ls
  few : l.ls.length ≤ 16
  os : ∀ o ∈ l.os, OcR o ∧ 4 ≤ o.client ∧ o.client < 8
  oasc : Asc (fun o : Oc => o.client) (fun a b : Int => a < b) l.os
  total : isAmt l.total = true
  paid : l.total = paidL l.ls
theorem Lg.Keep.right (h : l.Keep) {s : Int} (hs : 0 ≤ s ∧ s ≤ 1048576) : ({ l with seq := s } : Lg).Right := by
  have hf := asc_few (lo_ := 4) (up := 8) h.oasc fun o ho => (h.os o ho).2
  exact ⟨OcsR.mk' (fun o ho => (h.os o ho).1) h.oasc, hs, h.total, by show l.os.length ≤ 4; omega, LtsR.mk' h.each h.asc, h.few⟩
/-! ### In any order -/
end
end Go.Proofs.YtejcohlpjikjpaaGreatDoor.A
/-
  Rows with keys, as the document puts in; ledgers of other numbers, plain.
-/
namespace Go.Proofs.YtejcohlpjikjpaaGreatDoor.A
open Go.RowKit

section
variable {α : Type} {p eq gt : α → Bool} {x y : α} {th : Bool}
/-- A step of the document's. -/
def gStep (p : α → Bool) (th : Bool) (x : α) (s : List α × Bool) (y : α) : List α × Bool :=
  if (!s.2 && p y) = true then (if th = true then s.1 ++ [x] else s.1 ++ [x] ++ [y], true) else (s.1 ++ [y], s.2)
def gFin (x : α) (s : List α × Bool) : List α := if s.2 = true then s.1 else s.1 ++ [x]
theorem gfold_true : ∀ (l acc : List α), l.foldl (gStep p th x) (acc, true) = (acc ++ l, true)
  | [], acc => by simp
  | y :: l, acc => by
    rw [List.foldl_cons, show gStep p th x (acc, true) y = (acc ++ [y], true) by simp [gStep], gfold_true l]
    simp
theorem gfold : ∀ (l acc : List α), gFin x (l.foldl (gStep p th x) (acc, false)) = acc ++ putG p th x l
  | [], acc => by simp [gFin, putG]
  | y :: l, acc => by
    rw [List.foldl_cons]
    by_cases h : p y = true
    · cases th with
      | true =>
        rw [show gStep p true x (acc, false) y = (acc ++ [x], true) by simp [gStep, h], gfold_true]
        simp [gFin, putG, h]
      | false =>
        rw [show gStep p false x (acc, false) y = (acc ++ [x] ++ [y], true) by simp [gStep, h], gfold_true]
        simp [gFin, putG, h]
    · rw [show gStep p th x (acc, false) y = (acc ++ [y], false) by simp [gStep, h], gfold l]
      simp [putG, h]
/-- Where the document puts it. -/
def pickP (th : Bool) (eq gt : α → Bool) (y : α) : Bool := (th && eq y) || (!th && gt y)
theorem putG_pick (l : List α) : putG (pickP th eq gt) th x l = if th = true then putG eq true x l else putG gt false x l := by
  cases th with
  | true => rw [if_pos rfl]; exact congrArg (fun q => putG q true x l) (funext fun y => by simp [pickP])
  | false => rw [if_neg (by decide)]; exact congrArg (fun q => putG q false x l) (funext fun y => by simp [pickP])
/-- The row so far, and whether it was put in. -/
def gAt (eq gt : α → Bool) (th : Bool) (x : α) (l : List α) (z : Nat) : List α × Bool := (l.take z).foldl (gStep (pickP th eq gt) th x) ([], false)
theorem gAt_step {l : List α} {z : Nat} (h : z < l.length) : gAt eq gt th x l (z + 1) = gStep (pickP th eq gt) th x (gAt eq gt th x l z) l[z] := by
  unfold gAt
  rw [List.take_succ_eq_append_getElem h, List.foldl_append]
  rfl
theorem gAt_end {l : List α} {z : Nat} (h : l.length ≤ z) : gFin x (gAt eq gt (l.any eq) x l z) = withG eq gt x l := by
  unfold gAt
  rw [List.take_of_length_le h, gfold, List.nil_append, putG_pick]
  rfl
theorem gStep_len (s : List α × Bool) : (gStep p th x s y).1.length ≤ s.1.length + 2 := by
  unfold gStep
  split
  · split <;> simp
  · simp
theorem gAt_len {l : List α} (z : Nat) : (gAt eq gt th x l z).1.length ≤ 2 * l.length := by
  have aux : ∀ (l : List α) (s : List α × Bool), (l.foldl (gStep (pickP th eq gt) th x) s).1.length ≤ s.1.length + 2 * l.length := by
    intro l
    induction l with
    | nil => intro s; simp
    | cons y l ih =>
      intro s
      have h1 := ih (gStep (pickP th eq gt) th x s y)
      have h2 := gStep_len (p := pickP th eq gt) (th := th) (x := x) (y := y) s
      rw [List.foldl_cons, List.length_cons]
      omega
  have h1 := aux (l.take z) ([], false)
  have h2 : (l.take z).length ≤ l.length := by rw [List.length_take]; exact Nat.min_le_right _ _
  unfold gAt
  simp only [List.length_nil] at h1
  omega
theorem find_isSome {l : List α} : (l.find? p).isSome = l.any p := by
  rw [Bool.eq_iff_iff, List.find?_isSome, List.any_eq_true]
end
section
variable {l : Lg} {x : Ltr} {e : Ent} {c : Core} {n : Int}
/-- A ledger of another number. -/
def Lg.at_ (l : Lg) (s : Int) : Lg := { l with seq := s }
theorem res_a (h : l.known e.core ≠ 0) : l.res e n = (l, l.known e.core) := by
  unfold Lg.res
  rw [if_pos h]
theorem res_b (h : ¬ l.known e.core ≠ 0) (h2 : endorsedF (l.old e.core.letter) e n ≠ 0) : l.res e n = (l, endorsedF (l.old e.core.letter) e n) := by
  unfold Lg.res
  rw [if_neg h, if_pos h2]
theorem res_c (h : ¬ l.known e.core ≠ 0) (h2 : ¬ endorsedF (l.old e.core.letter) e n ≠ 0) : l.res e n = l.stepped (l.old e.core.letter) e.core := by
  unfold Lg.res
  rw [if_neg h, if_neg h2]
/-- The document's ledgers: the first one, and what comes of each batch. -/
def ldgs (n : Int) : Lg → List (List Ent) → List Lg
  | l, [] => [l]
  | l, b :: h => l :: ldgs n (l.foldF b n).1 h
theorem ldgs_len (n : Int) : ∀ (l : Lg) (h : List (List Ent)), (ldgs n l h).length = h.length + 1
  | l, [] => rfl
  | l, b :: h => by rw [ldgs, List.length_cons, ldgs_len n _ h, List.length_cons]
/-- The ledger behind so many batches. -/
def ldgAt (n : Int) (l : Lg) (h : List (List Ent)) : Lg := h.foldl (fun l b => (l.foldF b n).1) l
theorem ldgAt_take {n : Int} {l : Lg} {h : List (List Ent)} {z : Nat} (hz : z < h.length) : ldgAt n l (h.take (z + 1)) = ((ldgAt n l (h.take z)).foldF h[z] n).1 := by
  unfold ldgAt
  rw [List.take_succ_eq_append_getElem hz, List.foldl_append]
  rfl
theorem ldgs_take {n : Int} : ∀ {l : Lg} {h : List (List Ent)} {z : Nat} (hz : z < h.length), ldgs n l (h.take (z + 1)) = ldgs n l (h.take z) ++ [ldgAt n l (h.take (z + 1))]
  | l, [], z, hz => by simp at hz
  | l, b :: h, 0, hz => rfl
  | l, b :: h, z + 1, hz => by
    have h1 := ldgs_take (n := n) (l := (l.foldF b n).1) (h := h) (z := z) (by simpa using hz)
    rw [List.take_succ_cons, ldgs, h1, List.take_succ_cons, ldgs]
    rfl
end
end Go.Proofs.YtejcohlpjikjpaaGreatDoor.A
/-
  Timelines, plain: what became of letters; folds that may stop.
-/
namespace Go.Proofs.YtejcohlpjikjpaaGreatDoor.A
open Go.RowKit

/-- An event. -/
structure Ev where
  seq : Int
  client : Int
  stamp : Int
  op : Int
  result : Int
  state : Int
def Ev.abs (e : Ev) : List Abs := [int e.seq, int e.client, int e.stamp, int e.op, int e.result, int e.state]
structure EvIns (e : Ev) : Prop where
  seq : i64ok e.seq
  client : i64ok e.client
  stamp : i64ok e.stamp
  op : i64ok e.op
  result : i64ok e.result
  state : i64ok e.state
/-- A history. -/
abbrev histA (h : List (List Ent)) : Abs := .sl 1 (h.map fun b => [entsR b])
/-- What an entry comes to, as an event. -/
def evOf (n : Int) (i : Nat) (l : Lg) (x : Ent) : Ev := ⟨(i : Int) + 1, x.core.client, x.core.stamp, x.core.op, (l.doF x n).2, ((l.doF x n).1.old x.core.letter).state⟩
def evsB (n : Int) (i : Nat) : Lg → List Ent → List (Ev × ByteArray)
  | _, [] => []
  | l, x :: xs => (evOf n i l x, x.core.letter) :: evsB n i (l.doF x n).1 xs
abbrev lgB (n : Int) (l : Lg) (b : List Ent) : Lg := (Lg.goes n l b).1
/-- All events, and their letters. -/
def evsH (n : Int) : Nat → Lg → List (List Ent) → List (Ev × ByteArray)
  | _, _, [] => []
  | i, l, b :: h => evsB n i l b ++ evsH n (i + 1) (lgB n l b) h
theorem evsH_step {n : Int} {i : Nat} {l : Lg} {h : List (List Ent)} {z : Nat} (hz : z < h.length) : evsH n i l (h.drop z) = evsB n i l h[z] ++ evsH n (i + 1) (lgB n l h[z]) (h.drop (z + 1)) := by
  rw [List.drop_eq_getElem_cons hz, evsH]
theorem evsB_step {n : Int} {i : Nat} {l : Lg} {b : List Ent} {z : Nat} (hz : z < b.length) : evsB n i l (b.drop z) = (evOf n i l b[z], b[z].core.letter) :: evsB n i (l.doF b[z] n).1 (b.drop (z + 1)) := by
  rw [List.drop_eq_getElem_cons hz, evsB]
/-! ### Folds -/
section
variable {S : Type} {n : Int} {entS : S → Ev → ByteArray → S} {batS : S → Int → Lg → S × Bool}
theorem lgB_step {l : Lg} {b : List Ent} {z : Nat} (h : z < b.length) : lgB n l (b.drop z) = lgB n (l.doF b[z] n).1 (b.drop (z + 1)) := by
  rw [List.drop_eq_getElem_cons h]
  rfl
end
/-- A history that is not too great. -/
structure FewH (h : List (List Ent)) : Prop where
  en : ∀ j (hj : j < h.length), (∀ i (hi : i < h[j].length), h[j][i].core.letter.size ≤ 30 ∧ h[j][i].core.text.size ≤ 210) ∧ h[j].length ≤ 10
  len : h.length ≤ 40
noncomputable instance (h : List (List Ent)) : Decidable (FewH h) := Classical.propDecidable _
theorem FewH.row {h : List (List Ent)} (hf : FewH h) {b : List Ent} (hb : b ∈ h) : b.length ≤ 10 := by
  obtain ⟨j, hj, rfl⟩ := List.getElem_of_mem hb
  exact (hf.en j hj).2
def HisIns (h : List (List Ent)) : Prop := ∀ b ∈ h, ∀ e ∈ b, EnIns e
end Go.Proofs.YtejcohlpjikjpaaGreatDoor.A
/-
  Histories that came in, as trees; they lie apart from the program's own tables.
-/
namespace Go.Proofs.YtejcohlpjikjpaaGreatDoor.A
open Go.RowKit Go.ChangeShapes Go.WideShapes Go.ChangeAt

section
variable {H : Type} {enc : TypeId × Value → H} {w : World} {base : Nat} {spare : Nat → Bool} {held : Bool}
theorem open_hist {v : Value} (h : LeafAt enc Tryz.prog w base spare held 26 v) : ∃ l : List (List Ent), rep [] w (histA l) v ∧ HisIns l :=
  open_slA (abs := fun b : List Ent => [entsR b]) (Ok := fun b => ∀ e ∈ b, EnIns e) (s := 1) Tryz.underlying26 (by kernel_rfl) h fun cs hl h => by
    rw [show Tryz.prog.cellsOf 33 = 1 by kernel_rfl] at hl
    match cs, hl with
    | [v0], _ =>
      obtain ⟨m, y, hy⟩ := h
      obtain ⟨b, hb, ib⟩ := open_ensO (v := v0) ⟨m, y, hy⟩
      exact ⟨b, ⟨v0, [], rfl, hb, rfl⟩, ib⟩
end
/-- No cell of these blocks is a slice. -/
def OtherS (G : List Nat) (w : World) : Prop := ∀ g ∈ G, ∀ (off : Nat) A n c, w.cell? ⟨g, off, none⟩ ≠ some (.slice A n c)
section
variable {G : List Nat} {w : World}
theorem IsRow.intoS {v : Value} {n : Nat} {cs : List Value} (h : IsRow [] w v n cs) (hG : OtherS G w) (h0 : cs ≠ [] → ∃ A m c, cs[0]? = some (.slice A m c)) : IsRow G w v n cs := by
  refine ⟨h.shape, fun hn => ?_⟩
  obtain ⟨b, off, n', c, hv, _, hc⟩ := h.cells hn
  obtain ⟨A, m, c', hi2⟩ := h0 hn
  exact ⟨b, off, n', c, hv, fun hb => hG b hb (off + 0) A m c' (hc 0 _ hi2), hc⟩
theorem otherS_var {n : String} {cs : Array Value} (h : w.var? Tryz.prog n = some cs) (hc : ∀ (i : Nat) v, cs[i]? = some v → ∀ A m c, v ≠ .slice A m c) (off : Nat) (A : Option Addr) (m c : Nat) : w.cell? ⟨(Tryz.prog.globalNamed n).getD 0, off, none⟩ ≠ some (.slice A m c) := by
  intro h2
  cases hg : Tryz.prog.globalNamed n with
  | none => unfold World.var? at h; rw [hg] at h; cases h
  | some g =>
    rw [hg] at h2
    have h3 := World.var?_cell hg h off
    have h4 : w.cell? ⟨g, off, none⟩ = some (.slice A m c) := h2
    rw [h4] at h3
    exact hc off _ h3.symm A m c rfl
theorem otherS_one {e : Value} (he : isIf e) (i : Nat) (v : Value) (h : (#[e] : Array Value)[i]? = some v) (A : Option Addr) (m c : Nat) : v ≠ .slice A m c := by
  obtain ⟨t, u, rfl⟩ := he
  rintro rfl
  cases i with
  | zero => simp at h
  | succ i => simp at h
theorem otherS_globs {es er : Value} (he : isIf es) (hr : isIf er) (h1 : w.var? Tryz.prog "strconv.ErrSyntax" = some #[es]) (h2 : w.var? Tryz.prog "strconv.ErrRange" = some #[er]) (h3 : w.var? Tryz.prog "internal/strconv.uint64pow10" = some pow10C) :
    OtherS (mids (globs es er) ++ [(Tryz.prog.globalNamed "strconv.ErrSyntax").getD 0, (Tryz.prog.globalNamed "strconv.ErrRange").getD 0, (Tryz.prog.globalNamed "internal/strconv.uint64pow10").getD 0]) w := by
  intro g hg off A m c
  have hg : g ∈ [(Tryz.prog.globalNamed "strconv.ErrSyntax").getD 0, (Tryz.prog.globalNamed "strconv.ErrRange").getD 0, (Tryz.prog.globalNamed "internal/strconv.uint64pow10").getD 0] := hg
  simp only [List.mem_cons, List.not_mem_nil, or_false] at hg
  rcases hg with rfl | rfl | rfl
  · exact otherS_var h1 (fun i v h => otherS_one he i v h) off A m c
  · exact otherS_var h2 (fun i v h => otherS_one hr i v h) off A m c
  · refine otherS_var h3 (fun i v h A m c => ?_) off A m c
    rintro rfl
    unfold pow10C at h
    rw [List.getElem?_toArray, List.getElem?_map] at h
    cases hq : Lib.pow10Tab[i]? with
    | none => rw [hq] at h; cases h
    | some x =>
      rw [hq] at h
      simp at h
theorem hist_rows (hG : Other .i64 G w) : ∀ {l : List (List Ent)} {us : List Value}, repss [] w 1 (l.map fun b => [entsR b]) us → repss G w 1 (l.map fun b => [entsR b]) us ∧ (us ≠ [] → ∃ A m c, us[0]? = some (.slice A m c))
  | [], us, h => by
    have h : us = [] := h
    subst h
    exact ⟨rfl, fun hn => absurd rfl hn⟩
  | b :: l, us, h => by
    obtain ⟨u1, u2, rfl, hl, ⟨x, x', rfl, hx, hx'⟩, h2⟩ := h
    have hx' : x' = [] := hx'
    subst hx'
    refine ⟨⟨[x], u2, rfl, hl, ⟨x, [], rfl, ens_keep hG hx, rfl⟩, (hist_rows hG h2).1⟩, fun _ => ?_⟩
    obtain ⟨_, hr, _⟩ := hx
    obtain ⟨A, c, rfl, _⟩ := hr.shape
    exact ⟨A, _, c, rfl⟩
theorem hist_keep (hG : Other .i64 G w) (hS : OtherS G w) {l : List (List Ent)} {v : Value} (h : rep [] w (histA l) v) : rep G w (histA l) v := by
  obtain ⟨us, h1, h2⟩ := h
  obtain ⟨h3, h4⟩ := hist_rows hG h2
  exact ⟨us, IsRow.intoS h1 hS h4, h3⟩
end
end Go.Proofs.YtejcohlpjikjpaaGreatDoor.A
/-
  The second engine: what values are, kept as a piece; calls that change pieces here and there.
-/
namespace Go.Proofs.YtejcohlpjikjpaaGreatDoor.A
open Go.RowKit

/-- These values are these trees. -/
def factsPc (l : List (Value × Abs)) : Pc where
  ids := []
  p := fun K w => ∀ x ∈ l, rep K w x.2 x.1
  carry := fun _ _ _ _ hc _ h x hx => rep_carry hc _ _ (h x hx)
  lt := fun _ _ _ k hk => by cases hk
abbrev facts (l : List (Value × Abs)) : It := .pc (factsPc l)
section
variable {P : Program} {n : Nat} {W : Wd} {σ τ : Blks} {l : Slots} {X : List Nat} {ops : Array Oper} {rest : List Oper} {Q : Exit → Act → World → Prop} {ix : Plan} {L L' : List (Value × Abs)} {t : Nat} {A : Abs} {u : Value}
theorem fact_rep {w0 w : World} {F G : List Nat} (h : Mem w0 F G σ w) (hf : It.pc (factsPc L) ∈ σ ∨ It.rdpc (factsPc L) ∈ σ) (hm : (u, A) ∈ L) : rep (mids σ ++ G) w A u := by
  rcases hf with hf | hf
  · exact (h.hold _ hf : ∀ x ∈ L, rep (mids σ ++ G) w x.2 x.1) (u, A) hm
  · exact (h.hold _ hf : ∀ x ∈ L, rep (mids σ ++ G) w x.2 x.1) (u, A) hm
/-- A value is the tree that was kept. -/
theorem SL.fact (hs : slot l t = some (.v u)) (hf : It.pc (factsPc L) ∈ σ ∨ It.rdpc (factsPc L) ∈ σ) (hm : (u, A) ∈ L) (k : SL P ops rest (St n W σ ((t, A) :: l)) Q) : SL P ops rest (St n W σ l) Q := fun a w h =>
  k a w (h.cast hs fun x hx => by rw [show x = u from hx]; exact fact_rep h.mem hf hm)
theorem SX.fact (hs : slot l t = some (.v u)) (hf : It.pc (factsPc L) ∈ σ ∨ It.rdpc (factsPc L) ∈ σ) (hm : (u, A) ∈ L) (k : SX P ops ix X (St n W σ ((t, A) :: l)) Q) : SX P ops ix X (St n W σ l) Q := fun a w h =>
  k a w (h.cast hs fun x hx => by rw [show x = u from hx]; exact fact_rep h.mem hf hm)
theorem SC.fact {c : Code} (hs : slot l t = some (.v u)) (hf : It.pc (factsPc L) ∈ σ ∨ It.rdpc (factsPc L) ∈ σ) (hm : (u, A) ∈ L) (k : SC P c (St n W σ ((t, A) :: l)) Q) : SC P c (St n W σ l) Q := fun a w h =>
  k a w (h.cast hs fun x hx => by rw [show x = u from hx]; exact fact_rep h.mem hf hm)
/-- What a value yields, said as the tree that was kept. -/
theorem Val.fact {o : Oper} (h : Val P n W σ l X o (.v u)) (hf : It.pc (factsPc L) ∈ σ ∨ It.rdpc (factsPc L) ∈ σ) (hm : (u, A) ∈ L) : Val P n W σ l X o A := fun a w hs hX => by
  obtain ⟨v, h1, h2⟩ := h a w hs hX
  exact ⟨v, by rw [show v = u from h1]; exact fact_rep hs.mem hf hm, h2⟩
end
/-! ### Maps whose values are trees: the map's own values, and what they are -/
section
variable {α β : Type} [DecidableEq α] {tm tm' : List (α × (Value × β))} {a c : α} {u : Value} {x : β}
def rawM (tm : List (α × (Value × β))) : List (α × Value) := tm.map fun e => (e.1, e.2.1)
def facM (enc : β → Abs) (tm : List (α × (Value × β))) : List (Value × Abs) := tm.map fun e => (e.2.1, enc e.2.2)
theorem rawM_get : ∀ (tm : List (α × (Value × β))), aget (rawM tm) a = (aget tm a).map (·.1)
  | [] => rfl
  | e :: tm => by
    have h := rawM_get tm
    unfold rawM aget at h ⊢
    rw [List.map_cons, List.find?_cons, List.find?_cons]
    by_cases he : e.1 = a
    · simp [he]
    · simpa [he] using h
theorem rawM_put (tm : List (α × (Value × β))) (a : α) (u : Value) (x : β) : rawM (aput tm a (u, x)) = aput (rawM tm) a u := by
  have hg := rawM_get tm (a := a)
  unfold aput
  rw [hg, Option.isSome_map]
  split
  · unfold rawM
    rw [List.map_map, List.map_map]
    refine List.map_congr_left fun e _ => ?_
    show ((if e.1 = a then (a, (u, x)) else e).1, (if e.1 = a then (a, (u, x)) else e).2.1) = if e.1 = a then (a, u) else (e.1, e.2.1)
    split <;> rfl
  · unfold rawM
    rw [List.map_append]
    rfl
theorem aget_in {γ : Type} : ∀ {m : List (α × γ)} {v : γ}, aget m a = some v → (a, v) ∈ m
  | [], v, h => by simp [aget] at h
  | e :: m, v, h => by
    unfold aget at h
    rw [List.find?_cons] at h
    by_cases he : e.1 = a
    · simp [he] at h
      obtain ⟨e1, e2⟩ := e
      dsimp only at h he
      subst h he
      exact List.mem_cons_self
    · simp only [he, decide_false] at h
      exact List.mem_cons_of_mem _ (aget_in (by unfold aget; exact h))
end
section
variable {α β : Type} [DecidableEq α] {tm : List (α × (Value × β))} {a : α} {P : Program} {n : Nat} {W : Wd} {σ : Blks} {l : Slots} {X : List Nat} {k e t ty : TypeId} {K : α → Value} {Good : α → Prop} {enc : β → Abs} {z0 : β} {zv : Value} {b : Nat} {A : Abs} {x y : Operand} {d : Option Nat} {pos : String} {aft : Array Edge} {g : Option (Nat × Bool)} {L : List (Value × Abs)}
theorem tree_of {w0 w : World} {F G : List Nat} (h : Mem w0 F G σ w) (hf : It.pc (factsPc L) ∈ σ ∨ It.rdpc (factsPc L) ∈ σ) (hL : ∀ y ∈ facM enc tm, y ∈ L) (hzr : ∀ K w, rep K w (enc z0) zv) : rep (mids σ ++ G) w (enc (((aget tm a).map (·.2)).getD z0)) (((aget (rawM tm) a).map id).getD zv) := by
  rw [rawM_get]
  cases hg : aget tm a with
  | none => exact hzr _ _
  | some e => exact fact_rep h hf (hL _ (List.mem_map.2 ⟨(a, e), aget_in hg, rfl⟩))
theorem Val.mapGetT (kf : KeyFit P k K Good) (ht : P.underlying t = some (.map k e)) (hz : ∀ w, (zeroValue e).run P w = .ok zv w) (hzr : ∀ K w, rep K w (enc z0) zv) (hx : look l x = some (mapV b)) (hb : It.pc (mapPc b K id Good (rawM tm)) ∈ σ ∨ It.rdpc (mapPc b K id Good (rawM tm)) ∈ σ) (hf : It.pc (factsPc L) ∈ σ ∨ It.rdpc (factsPc L) ∈ σ) (hL : ∀ y ∈ facM enc tm, y ∈ L) (hbX : b ∉ X)
    (hy : look l y = some A) (hA : A.is (K a)) (ha : Good a) : Val P n W σ l X ⟨d, .lookup t x y false, ty, pos, aft, g⟩ (enc (((aget tm a).map (·.2)).getD z0)) := fun ac w hs hX => by
  obtain ⟨v, h1, h2⟩ := Val.mapGet (X := X) (d := d) (ty := ty) (pos := pos) (aft := aft) (g := g) (C := .v (((aget (rawM tm) a).map id).getD zv)) kf ht hz hx hb hbX hy hA ha is_v ac w hs hX
  exact ⟨v, by rw [show v = _ from h1]; exact tree_of hs.mem hf hL hzr, h2⟩
end
section
variable {σ σ1 : Blks} {ι : Type} {τ' : ι → Blks} {K : Blks → ι → Prop}
theorem After.sub (φ : Blks) (hσ : σ.Perm (σ1 ++ φ)) (hr : ∀ x ∈ σ1, x.rids = []) (hk : ∀ z, ∃ ν : Blks, ν.Perm (τ' z ++ φ) ∧ K ν z) : After σ σ1 τ' K :=
  ⟨φ, ⟨by rw [← mids_append]; exact mids_perm hσ.symm, fun x hx => .inl ⟨hσ.mem_iff.2 (List.mem_append_left _ hx), hr x hx⟩, fun x hx => hσ.mem_iff.2 (List.mem_append_right _ hx)⟩, hk⟩
theorem After.deep (a b : Blks) (x : It) (hσ : σ = a ++ (b ++ (x :: σ1))) (hr : ∀ y ∈ σ1, y.rids = []) (k : ∀ z, K (a ++ (b ++ (x :: τ' z))) z) : After σ σ1 τ' K := by
  subst hσ
  have e : ∀ c : Blks, (a ++ (b ++ (x :: c))).Perm (c ++ (a ++ (b ++ [x]))) := fun c => by
    have h1 : a ++ (b ++ (x :: c)) = (a ++ (b ++ [x])) ++ c := by simp
    rw [h1]
    exact List.perm_append_comm
  exact After.sub (a ++ (b ++ [x])) (e σ1) hr fun z => ⟨_, e (τ' z), k z⟩
theorem After.last (a b : Blks) (hσ : σ = a ++ (b ++ σ1)) (hr : ∀ y ∈ σ1, y.rids = []) (k : ∀ z, K (a ++ (b ++ τ' z)) z) : After σ σ1 τ' K := by
  subst hσ
  have e : ∀ c : Blks, (a ++ (b ++ c)).Perm (c ++ (a ++ b)) := fun c => by
    have h1 : a ++ (b ++ c) = (a ++ b) ++ c := by simp
    rw [h1]
    exact List.perm_append_comm
  exact After.sub (a ++ b) (e σ1) hr fun z => ⟨_, e (τ' z), k z⟩
end
theorem Spec.keep {P : Program} {f : FuncId} {args : List Abs} {σ σr : Blks} {r : Abs} (h : Spec P f args σr (fun _ : Unit => []) (fun _ => r)) (hr : Reads σ σr) (hro : ∀ x ∈ σ, x.rids = []) : Spec P f args σ (fun _ : Unit => σ) (fun _ => r) := fun G w vals hm hv =>
  (h.after hm hv (After.pure hr (fun _ => rfl) (K := fun ν _ => ν = σ) (fun _ => rfl))).mono fun e w' ⟨z, u, ν, he, hx, ho, hm', hc, hr', hk⟩ => by
    subst hk
    exact ⟨(), u, he, hro, hm', hr'⟩
end Go.Proofs.YtejcohlpjikjpaaGreatDoor.A
/-
  Batches: whether they may be: the program's and the document's, over the engine.
-/
namespace Go.Proofs.YtejcohlpjikjpaaGreatDoor
open Go.RowKit

/-- A row of entries that is read. -/
abbrev entsD (v : Value) (es : List Ent) : Dt := rowD v es.length (es.flatMap Ent.cells)
section
variable {S : List (World × List Nat)} {σ τ : Blks} {ρ : List Dt} {w : World}

end
end Go.Proofs.YtejcohlpjikjpaaGreatDoor
/-
  Batches: their bytes: the program's and the document's, over the engine.
-/
namespace Go.Proofs.YtejcohlpjikjpaaGreatDoor
open Go.RowKit

def Ent.bytes (e : Ent) : List UInt8 := rowB e.core.bytes ++ beBytes e.mask 1
/-- An entry that isn't too great. -/
structure Ent.Few (e : Ent) : Prop where
  mask : e.mask < 4294967296
  letter : e.core.letter.size ≤ 1000
  text : e.core.text.size ≤ 1000
section
variable {S : List (World × List Nat)} {σ τ : Blks} {ρ : List Dt} {w : World}

end
end Go.Proofs.YtejcohlpjikjpaaGreatDoor
/-
  Batches, read: the program's, over the engine.
-/
namespace Go.Proofs.YtejcohlpjikjpaaGreatDoor
open Go.RowKit

def sg (x : Nat) : Int := IntKind.i64.wrap (x : Int)
def txtB (l : List UInt8) : ByteArray := ⟨l.toArray⟩
/-- A core out of a reader, no row longer than so many bytes; and the reader behind it. -/
def Rd.c3 (s : Rd) : Rd := ((s.fixed 1).fixed 8).fixed 1
def Rd.c4 (s : Rd) (most : Int) : Rd := s.c3.row most
def Rd.c6 (s : Rd) (most : Int) : Rd := ((s.c4 most).fixed 8).fixed 8
def Rd.core (s : Rd) (most : Int) : Core where
  client := s.num 1
  stamp := sg ((s.fixed 1).num 8)
  op := ((s.fixed 1).fixed 8).num 1
  letter := txtB (s.c3.rowOut most)
  a := sg ((s.c4 most).num 8)
  b := sg (((s.c4 most).fixed 8).num 8)
  text := txtB ((s.c6 most).rowOut most)
section
variable {S : List (World × List Nat)} {σ τ : Blks} {ρ : List Dt} {w : World}
theorem Core.one (c : Core) : ∀ u ∈ c.cells, u.oneCell' = true := by
  intro u hu
  simp only [Core.cells, List.mem_cons, List.not_mem_nil, or_false] at hu
  rcases hu with rfl | rfl | rfl | rfl | rfl | rfl | rfl <;> rfl
end
end Go.Proofs.YtejcohlpjikjpaaGreatDoor
/-
  What a batch's bytes tell, in plain Lean.
-/
namespace Go.Proofs.YtejcohlpjikjpaaGreatDoor
open Go.RowKit

section
variable {s t : Rd}
theorem Rd.as.c3 (h : s.as t) : s.c3.as t.c3 := ((h.fixed 1).fixed 8).fixed 1
theorem Rd.as.c4 (h : s.as t) (m : Int) : (s.c4 m).as (t.c4 m) := h.c3.row m
theorem Rd.as.c6 (h : s.as t) (m : Int) : (s.c6 m).as (t.c6 m) := ((h.c4 m).fixed 8).fixed 8
theorem Rd.as.core (h : s.as t) (m : Int) : s.core m = t.core m := by
  unfold Rd.core
  rw [h.num, (h.fixed 1).num, ((h.fixed 1).fixed 8).num, h.c3.rowOut, (h.c4 m).num, ((h.c4 m).fixed 8).num, (h.c6 m).rowOut]
end
end Go.Proofs.YtejcohlpjikjpaaGreatDoor
/-
  Batches, read whole: the program's, over the engine.
-/
namespace Go.Proofs.YtejcohlpjikjpaaGreatDoor
open Go.RowKit

section
variable {S : List (World × List Nat)} {σ τ : Blks} {ρ : List Dt} {w : World}
end
end Go.Proofs.YtejcohlpjikjpaaGreatDoor
/-
  Batches, read whole: the document's, over the engine.
-/
namespace Go.Proofs.YtejcohlpjikjpaaGreatDoor
open Go.RowKit

theorem Upd.fn {x y : It} {σ τ : Blks} (h : Upd x y σ τ) : ∃ rep : It → Blks, rep x = σ ∧ rep y = τ ∧ ∀ a b, Upd a b (rep a) (rep b) := by
  induction h with
  | here => exact ⟨fun a => a :: _, rfl, rfl, fun a b => .here⟩
  | @there z σ0 τ0 _ ih =>
    obtain ⟨rep, h1, h2, h3⟩ := ih
    exact ⟨fun a => z :: rep a, by show z :: rep x = _; rw [h1], by show z :: rep y = _; rw [h2], fun a b => .there (h3 a b)⟩
section
variable {S : List (World × List Nat)} {σ τ : Blks} {ρ : List Dt} {w : World} {p : Nat} {s : Rd}
theorem Mem.swap {x y : It} (h : Mem S (x :: y :: σ) ρ w) : Mem S (y :: x :: σ) ρ w := by
  have hp : ((x :: y :: σ).flatMap It.ids).Perm ((y :: x :: σ).flatMap It.ids) := by
    simp only [List.flatMap_cons, ← List.append_assoc]
    exact List.Perm.append_right _ List.perm_append_comm
  refine ⟨h.ext, fun z hz => h.out z ?_, hp.nodup_iff.1 h.nodup, fun z hz => h.hold z ?_, fun z hz => z.grow _ _ w (fun k hk => .inl (hp.mem_iff.2 hk)) (h.dat z hz)⟩
  all_goals
    simp only [List.mem_cons] at hz ⊢
    rcases hz with h1 | h1 | h1 <;> simp [h1]

end
end Go.Proofs.YtejcohlpjikjpaaGreatDoor
/-
  Batches: whether two are the same; the document's Parse, over the engine.
-/
namespace Go.Proofs.YtejcohlpjikjpaaGreatDoor
open Go.RowKit

/-! ### The same -/
structure Ent.Lits (e : Ent) : Prop where
  client : InR .i64 e.core.client
  stamp : InR .i64 e.core.stamp
  op : InR .i64 e.core.op
  a : InR .i64 e.core.a
  b : InR .i64 e.core.b
  letter : e.core.letter.size ≤ maxLen
  text : e.core.text.size ≤ maxLen
  mask : e.mask < 4294967296
noncomputable instance : DecidableEq Ent := fun _ _ => Classical.propDecidable _
theorem wfI {a : Int} (h : InR .i64 a) : (Lit.int .i64 a).wf = true := by
  obtain ⟨h0, h1⟩ := h
  simp only [lo, hi] at h0 h1
  simp [Lit.wf, IntKind.min, IntKind.max, IntKind.signed, IntKind.bits]; omega
theorem wfU {a : Nat} (h : a < 4294967296) : (Lit.int .u32 (a : Nat)).wf = true := by
  simp [Lit.wf, IntKind.min, IntKind.max, IntKind.signed, IntKind.bits]; omega
def Ent.lits (e : Ent) : List Lit := [.int .i64 e.core.client, .int .i64 e.core.stamp, .int .i64 e.core.op, .string e.core.letter.data.toList, .int .i64 e.core.a, .int .i64 e.core.b, .string e.core.text.data.toList, .int .u32 e.mask]
theorem ent_lits (e : Ent) (h : e.Lits) : Tryz.prog.keyLits 4 51 e.cells = some e.lits := by
  have h1 := wfI h.client
  have h2 := wfI h.stamp
  have h3 := wfI h.op
  have h4 := wfI h.a
  have h5 := wfI h.b
  have h6 := h.letter
  have h7 := h.text
  have h8 := wfU h.mask
  have c1 : Tryz.prog.cellsOf 51 = 8 := by kernel_rfl
  have c2 : Tryz.prog.cellsOf 48 = 7 := by kernel_rfl
  have c3 : Tryz.prog.cellsOf 9 = 1 := by kernel_rfl
  have c4 : Tryz.prog.cellsOf 3 = 1 := by kernel_rfl
  have c5 : Tryz.prog.cellsOf 2 = 1 := by kernel_rfl
  have c6 : Tryz.prog.cellsOf 49 = 1 := by kernel_rfl
  simp [Program.keyLits, Tryz.underlying51, Tryz.underlying48, Tryz.underlying9, Tryz.underlying3, Tryz.underlying2, Tryz.underlying49, c1, c2, c3, c4, c5, c6, Ent.cells, Ent.lits, h1, h2, h3, h4, h5, h6, h7, h8]
  rw [if_pos (by decide)]
  rfl
theorem ent_formed (e : Ent) : (Value.agg e.cells.toArray).formed Tryz.prog 51 = true := by kernel_rfl
theorem ByteArray.of_data {a b : ByteArray} (h : a.data.toList = b.data.toList) : a = b := by
  cases a; cases b; simp at h; simp [h]
theorem Ent.lits_inj {e f : Ent} (h : e.lits = f.lits) : e = f := by
  simp only [Ent.lits, List.cons.injEq, Lit.string.injEq, Lit.int.injEq, true_and, and_true] at h
  obtain ⟨h1, h2, h3, h4, h5, h6, h7, h8⟩ := h
  obtain ⟨⟨a1, a2, a3, a4, a5, a6, a7⟩, a8⟩ := e
  obtain ⟨⟨b1, b2, b3, b4, b5, b6, b7⟩, b8⟩ := f
  simp only [Ent.mk.injEq, Core.mk.injEq]
  exact ⟨⟨h1, h2, h3, ByteArray.of_data h4, h5, h6, ByteArray.of_data h7⟩, by dsimp only at h8; omega⟩
theorem neqE {e f : Ent} (he : e.Lits) (hf : f.Lits) (w : World) : (binOp .neq 51 (.agg e.cells.toArray) (.agg f.cells.toArray)).run Tryz.prog w = .ok (.bool (decide (e ≠ f))) w :=
  run_neq_lits (m := 10) (by decide) (by kernel_rfl) (ent_formed e) (ent_formed f) (by simpa using ent_lits e he) (by simpa using ent_lits f hf) _ (by
    rw [decide_eq_true_eq]
    exact ⟨fun h h2 => h (Ent.lits_inj h2), fun h h2 => h (by rw [h2])⟩) w
theorem take_succ_eq {α : Type} {es fs : List α} {k : Nat} (h : es.take k = fs.take k) (h1 : k < es.length) (h2 : k < fs.length) (h3 : es[k] = fs[k]) : es.take (k + 1) = fs.take (k + 1) := by
  rw [List.take_succ_eq_append_getElem h1, List.take_succ_eq_append_getElem h2, h, h3]
section
variable {S : List (World × List Nat)} {σ τ : Blks} {ρ : List Dt} {w : World} {p : Nat} {s : Rd}

set_option maxHeartbeats 1000000 in
theorem equal_c {v u : Value} {es fs : List Ent} (hw : Mem S σ ρ w) (he : entsD v es ∈ ρ) (hf : entsD u fs ∈ ρ) (hl : es.length ≤ 1000000) (h1 : ∀ e ∈ es, e.Lits) (h2 : ∀ e ∈ fs, e.Lits) : Calls Tryz.prog 42 #[v, u] w fun e w' => e = .returned (.bool (decide (es = fs))) ∧ Mem S σ ρ w' := by
  obtain ⟨A, c, rfl, hs1, hs2, hs3⟩ := (hw.data he).shape
  obtain ⟨B, d, rfl, ht1, ht2, ht3⟩ := (hw.data hf).shape
  have hA : es ≠ [] → ∃ b off, A = some ⟨b, off, none⟩ := fun h => row_at (hw.data he) (by cases es with | nil => exact absurd rfl h | cons e es => simp [Ent.cells])
  have hB : fs ≠ [] → ∃ b off, B = some ⟨b, off, none⟩ := fun h => row_at (hw.data hf) (by cases fs with | nil => exact absurd rfl h | cons e es => simp [Ent.cells])
  refine calls_of [.slice A es.length c, .slice B fs.length d] Tryz.func42 rfl Tryz.ntmps42 rfl (Mem S σ ρ) hw ?_
  refine SC.seq (SC.region ?_)
  refine SL.val (Val.assign rfl) rfl rfl ?_
  refine SL.nil (SE.seq ?_)
  refine SC.seq ?_
  refine SC.seq (SC.region ?_)
  refine SL.val (Val.move rfl) rfl rfl ?_
  refine SL.val (Val.lenSl rfl Tryz.underlying33) rfl rfl ?_
  refine SL.val (Val.move rfl) rfl rfl ?_
  refine SL.val (Val.lenSl rfl Tryz.underlying33) rfl rfl ?_
  refine SL.val (Val.neI rfl rfl) rfl rfl ?_
  refine SL.nil (SE.seq ?_)
  refine SC.condP rfl ?_ ?_
  · intro hc10
    refine SC.seq (SC.region ?_)
    refine SL.val (Val.assign rfl) rfl rfl ?_
    refine SL.nil (SE.seq ?_)
    refine SC.ret ?_
    refine SE.then_ (by intro h; cases h) ?_
    refine SE.ret1 rfl rfl ?_
    intro w' hw'
    refine ⟨?_, hw'⟩; congr 2; exact (decide_eq_false (fun h => hc10 (by rw [h]))).symm
  intro hc10
  have hle : es.length = fs.length := by omega
  refine SC.skip ?_
  refine SE.seq ?_
  refine SC.seq ?_
  refine SC.seq (SC.region ?_)
  refine SL.val (Val.move rfl) rfl rfl ?_
  refine SL.val (Val.lenSl rfl Tryz.underlying33) rfl rfl ?_
  refine SL.val (Val.move rfl) rfl rfl ?_
  refine SL.nil (SE.seq ?_)
  refine SC.block ?_
  refine SC.loop (ι := Nat) (fun k => [(0, .slice A es.length c), (1, .slice B fs.length d), (12, .int .i64 (es.length : Nat)), (13, .int .i64 (k : Nat))]) (fun k w' => (k ≤ es.length ∧ es.take k = fs.take k) ∧ Mem S σ ρ w') (fun k => es.length - k) 0 (by exact ⟨rfl, rfl, rfl, rfl, trivial⟩) (fun w' hw' => ⟨⟨Nat.zero_le _, by simp⟩, hw'⟩) ?_
  intro k
  refine SC.facts ?_
  rintro ⟨hk, hk2⟩
  refine SC.seq (SC.region ?_)
  refine SL.val (Val.ltI rfl rfl) rfl rfl ?_
  refine SL.nil (SE.seq ?_)
  refine SC.seq ?_
  refine SC.condP rfl ?_ ?_
  rotate_left
  · intro hc14
    refine SC.exit ?_
    refine SE.then_ (by intro h; cases h) ?_
    refine SE.then_ (by intro h; cases h) ?_
    refine SE.exit ?_
    refine SE.seq ?_
    refine SC.seq (SC.region ?_)
    refine SL.val (Val.assign rfl) rfl rfl ?_
    refine SL.nil (SE.seq ?_)
    refine SC.ret ?_
    refine SE.ret1 rfl rfl ?_
    intro w' hw'
    refine ⟨?_, hw'⟩; congr 2; refine (decide_eq_true ?_).symm; rw [List.take_of_length_le (by omega), List.take_of_length_le (by omega)] at hk2; exact hk2
  intro hc14
  have hlt : k < es.length := by omega
  have hlt2 : k < fs.length := by omega
  obtain ⟨bb, off, rfl⟩ := hA (by intro h0; rw [h0] at hlt; simp at hlt)
  obtain ⟨bb2, off2, rfl⟩ := hB (by intro h0; rw [h0] at hlt2; simp at hlt2)
  refine SC.skip ?_
  refine SE.seq ?_
  refine SC.seq ?_
  refine SC.block ?_
  refine SC.seq (SC.region ?_)
  refine SL.val (Val.move rfl) rfl rfl ?_
  refine SL.val (Val.assign rfl) rfl rfl ?_
  refine SL.nil (SE.seq ?_)
  refine SC.seq ?_
  refine SC.draw _ (.q 0 (.q 1 (.q 2 (.q 3 (.q 4 (.q 5 (.q 6 (.q 7 (.q 8 .nil))))))))) (by kernel_rfl) (by kernel_rfl) (fun _ h => h) (fun _ h => h.drew) ?_
  refine SX.val rfl (Val.move rfl) rfl rfl ?_
  refine SX.val rfl (Val.move rfl) rfl rfl ?_
  first
    | refine SX.val rfl (Val.indexSlN tabOk Tryz.underlying33 rfl rfl rfl (by omega)) rfl rfl ?_
    | refine SX.val rfl (Val.indexSl tabOk Tryz.underlying33 rfl rfl rfl (by omega)) rfl rfl ?_
  refine SX.val rfl (Val.loadAD (f := Ent.cells) tabOk rfl rfl rfl (by repeat (first | assumption | exact List.mem_cons_self | exact hmem _ | apply List.mem_cons_of_mem)) (fun _ => rfl) hlt) rfl rfl ?_
  refine SX.val rfl (Val.move rfl) rfl rfl ?_
  refine SX.val rfl (Val.move rfl) rfl rfl ?_
  first
    | refine SX.val rfl (Val.indexSlN tabOk Tryz.underlying33 rfl rfl rfl (by omega)) rfl rfl ?_
    | refine SX.val rfl (Val.indexSl tabOk Tryz.underlying33 rfl rfl rfl (by omega)) rfl rfl ?_
  refine SX.val rfl (Val.loadAD (f := Ent.cells) tabOk rfl rfl rfl (by repeat (first | assumption | exact List.mem_cons_self | exact hmem _ | apply List.mem_cons_of_mem)) (fun _ => rfl) hlt2) rfl rfl ?_
  refine SX.val rfl (Val.neA rfl rfl (by kernel_rfl) (neqE (h1 _ (List.getElem_mem hlt)) (h2 _ (List.getElem_mem hlt2)))) rfl rfl ?_
  refine SX.nil (SE.seq ?_)
  refine SC.condP rfl ?_ ?_
  rotate_left
  · intro hc24
    refine SC.skip ?_
    refine SE.inBlock ?_
    refine SE.seq ?_
    refine SC.region ?_
    first
      | refine SL.val (Val.addI rfl rfl (by simp only [InR, lo, hi]; omega)) rfl rfl ?_
      | refine SL.val (Val.addW rfl rfl) rfl rfl ?_
    refine SL.val (Val.move rfl) rfl rfl ?_
    refine SL.nil ?_
    exact SE.round (k + 1) (by omega) (by exact ⟨rfl, rfl, rfl, rfl, trivial⟩) (fun w' hw' => ⟨⟨hlt, take_succ_eq hk2 hlt hlt2 (Decidable.not_not.1 hc24)⟩, hw'⟩)
  intro hc24
  refine SC.seq (SC.region ?_)
  refine SL.val (Val.assign rfl) rfl rfl ?_
  refine SL.nil (SE.seq ?_)
  refine SC.ret ?_
  refine SE.ret ?_
  refine SE.then_ (by intro h; cases h) ?_
  refine SE.then_ (by intro h; cases h) ?_
  refine SE.ret ?_
  refine SE.then_ (by intro h; cases h) ?_
  refine SE.ret1 rfl rfl ?_
  intro w' hw'
  refine ⟨?_, hw'⟩; congr 2; refine (decide_eq_false (fun h => hc24 ?_)).symm; subst h; rfl

theorem same_c {v u : Value} {es fs : List Ent} (hw : Mem S σ ρ w) (he : entsD v es ∈ ρ) (hf : entsD u fs ∈ ρ) (hl : es.length ≤ 1000000) (h1 : ∀ e ∈ es, e.Lits) (h2 : ∀ e ∈ fs, e.Lits) : Calls Tryz.prog 37 #[v, u] w fun e w' => e = .returned (.bool (decide (es = fs))) ∧ Mem S σ ρ w' := by
  refine calls_of [v, u] Tryz.func37 rfl Tryz.ntmps37 rfl (Mem S σ ρ) hw ?_
  refine SC.seq (SC.region ?_)
  refine SL.val (Val.assign rfl) rfl rfl ?_
  refine SL.nil (SE.seq ?_)
  refine SC.seq (SC.region ?_)
  iterate 2 refine SL.val (Val.move rfl) rfl rfl ?_
  refine SL.call (by kernel_rfl) rfl rfl rfl ?_
  intro w hw
  refine (equal_c hw he hf hl h1 h2).mono ?_; rintro _ _ ⟨rfl, hm⟩; refine ⟨_, _, rfl, hm, ?_⟩; clear hm hw w
  refine SL.val (Val.assign rfl) rfl rfl ?_
  refine SL.nil (SE.seq ?_)
  refine SC.ret ?_
  refine SE.ret1 rfl rfl ?_
  intro w' hw'
  exact ⟨rfl, hw'⟩

/-! ### The document's Parse -/
end
section
variable {S : List (World × List Nat)} {σ τ : Blks} {ρ : List Dt} {w : World} {P : Program} {n : Nat} {l : Slots} {D : World → Prop} {o : Oper} {v u : Value}
theorem Val.to (h : Val P n l D o v) (e : v = u) : Val P n l D o u := e ▸ h
end
end Go.Proofs.YtejcohlpjikjpaaGreatDoor
/-
  Batches, in plain Lean: the program's Parse answers as the document's.
-/
namespace Go.Proofs.YtejcohlpjikjpaaGreatDoor
open Go.RowKit

theorem Rd.fixed_bad {s : Rd} (h : s.e ≠ 0) (n : Int) : s.fixed n = s := if_pos h
theorem Rd.fixed_ok {s : Rd} {n : Int} (h : (s.fixed n).e = 0) : s.e = 0 ∧ 0 ≤ n ∧ n ≤ s.l.length ∧ s.fixed n = ⟨tailV s.v n.toNat, s.l.drop n.toNat, 0⟩ := by
  by_cases he : s.e = 0
  · by_cases hb : s.bad n
    · rw [Rd.fixed, if_neg (by simpa using he), if_pos hb] at h
      exact absurd h (by show ¬ (2 : Int) = 0; decide)
    · rw [Rd.fixed, if_neg (by simpa using he), if_neg hb]
      unfold Rd.bad at hb
      exact ⟨he, by omega, by omega, rfl⟩
  · rw [Rd.fixed_bad he] at h
    exact absurd h he
theorem row_less {s : Rd} {L : Int} (h : (s.row L).e = 0) : (s.row L).l.length + 4 ≤ s.l.length := by
  unfold Rd.row at h ⊢
  by_cases he : (s.fixed 4).e = 0
  · obtain ⟨_, _, h3, h4⟩ := Rd.fixed_ok he
    rw [if_neg (by simpa using he)] at h ⊢
    split at h
    · exact absurd h (by show ¬ (3 : Int) = 0; decide)
    · rename_i hn
      rw [if_neg hn]
      have h5 := (s.fixed 4).fixed_length (s.num 4)
      have h6 : (s.fixed 4).l.length = s.l.length - 4 := by rw [h4]; simp
      omega
  · rw [if_pos he] at h
    exact absurd h he
end Go.Proofs.YtejcohlpjikjpaaGreatDoor
/-
  The second engine: the contracts of batches, as they stand.
-/
namespace Go.Proofs.YtejcohlpjikjpaaGreatDoor.A
open Go.RowKit

abbrev entsA (es : List Ent) : Abs := flat 8 Ent.cells es
theorem ent8 (e : Ent) : e.cells.length = 8 := rfl
section
variable {K : List Nat} {w : World} {v u : Value} {es fs : List Ent} {n : Int} {l : List UInt8} {p : Nat} {s : Rd}
theorem bsame_s (hl : es.length ≤ 1000000) (h1 : ∀ e ∈ es, e.Lits) (h2 : ∀ e ∈ fs, e.Lits) : Pure Tryz.prog 37 [entsA es, entsA fs] (boo (decide (es = fs))) := Pure.of2 fun K w vals hK hv => by
  obtain ⟨v, us', rfl, g1, u, us2, rfl, g2, g3⟩ := hv
  have g3 : us2 = [] := g3
  subst g3
  refine (same_c (((enter2 w K).add (z := entsD v es) (row2 ((rep_flat ent8).1 g1))).add (z := entsD u fs) (row2 ((rep_flat ent8).1 g2))) (by simp) (by simp) hl h1 h2).mono fun e w' ⟨he, hm⟩ => ⟨_, he, leave2 hm (by simp), rfl⟩
end
end Go.Proofs.YtejcohlpjikjpaaGreatDoor.A
/-
  What histories have in common, plain.
-/
namespace Go.Proofs.YtejcohlpjikjpaaGreatDoor.A
open Go.RowKit

/-- A deed. -/
structure Dd where
  seq : Int
  batch : List Ent
  adopted : Bool
noncomputable instance : DecidableEq Dd := fun _ _ => Classical.propDecidable _
def Dd.abs (d : Dd) : List Abs := [int d.seq, entsR d.batch, boo d.adopted]
abbrev ddsA (l : List Dd) : Abs := .sl 3 (l.map Dd.abs)
structure DdIns (d : Dd) : Prop where
  seq : i64ok d.seq
  batch : ∀ e ∈ d.batch, EnIns e
theorem EnIns.lits {e : Ent} (h : EnIns e) : e.Lits := ⟨h.client, h.stamp, h.op, h.a, h.b, h.letter, h.text, h.mask⟩
theorem dds_ones (l : List Dd) : ∀ c ∈ l.map Dd.abs, ones c = true := by
  intro c hc
  obtain ⟨o, _, rfl⟩ := List.mem_map.1 hc
  rfl
/-- Rows of rows. -/
abbrev ddssA (l : List (List Dd)) : Abs := .sl 1 (l.map fun d => [ddsA d])
/-! ### Gaps -/
def gapB : Int → List Dd → Bool
  | _, [] => true
  | q, x :: l => if x.seq ≤ q ∨ (x.adopted = false ∧ x.seq - q ≠ 1) then false else gapB x.seq l
theorem gapB_step {q : Int} {l : List Dd} {z : Nat} (h : z < l.length) : gapB q (l.drop z) = if l[z].seq ≤ q ∨ (l[z].adopted = false ∧ l[z].seq - q ≠ 1) then false else gapB l[z].seq (l.drop (z + 1)) := by
  rw [List.drop_eq_getElem_cons h, gapB]
/-! ### Rows by numbers -/
/-- The deeds of a number that aren't adopted. -/
def rowOf (D : List Dd) (k : Int) : List Dd := D.filter fun d => !d.adopted && decide (d.seq = k)
theorem rowOf_app (D E : List Dd) (k : Int) : rowOf (D ++ E) k = rowOf D k ++ rowOf E k := List.filter_append ..
theorem rowOf_one (d : Dd) (k : Int) : rowOf [d] k = if d.adopted = false ∧ d.seq = k then [d] else [] := by
  unfold rowOf
  by_cases h : d.adopted = false ∧ d.seq = k
  · rw [if_pos h, List.filter_cons_of_pos (by simp [h.1, h.2])]; rfl
  · rw [if_neg h, List.filter_cons_of_neg (by simpa using h)]; rfl
theorem rowOf_mem {D : List Dd} {k : Int} {d : Dd} : d ∈ rowOf D k ↔ d ∈ D ∧ d.adopted = false ∧ d.seq = k := by
  unfold rowOf
  rw [List.mem_filter]
  simp
theorem flat_succ {α : Type} {l : List (List α)} {z : Nat} (hz : z < l.length) : (l.take (z + 1)).flatten = (l.take z).flatten ++ l[z] := by
  rw [List.take_succ_eq_append_getElem hz, List.flatten_append]
  simp
theorem flat_part {α : Type} {l : List (List α)} {z : Nat} (hz : z < l.length) (y : Nat) : ((l.take z).flatten ++ l[z].take y).length ≤ l.flatten.length := by
  have h1 : l.flatten = (l.take (z + 1)).flatten ++ (l.drop (z + 1)).flatten := by rw [← List.flatten_append, List.take_append_drop]
  rw [h1, flat_succ hz]
  simp only [List.length_append, List.length_take]
  omega
theorem row_le (D : List Dd) (k : Int) : (rowOf D k).length ≤ D.length := List.length_filter_le _ _
/-- What maps of numbers tell. -/
structure Num (D : List Dd) (tm : List (Int × (Value × List Dd))) : Prop where
  nd : (tm.map (·.1)).Nodup
  get : ∀ k, ((aget tm k).map (·.2)).getD [] = rowOf D k
  ok : ∀ e ∈ tm, i64ok e.1
theorem Num.nil : Num [] [] := ⟨List.nodup_nil, fun _ => rfl, fun e he => by cases he⟩
theorem Num.skip {D : List Dd} {tm : List (Int × (Value × List Dd))} (h : Num D tm) {d : Dd} (hd : d.adopted = true) : Num (D ++ [d]) tm := ⟨h.nd, fun k => by
  rw [h.get, rowOf_app, rowOf_one, if_neg (fun h => by rw [hd] at h; cases h.1), List.append_nil], h.ok⟩
theorem Num.put {D : List Dd} {tm : List (Int × (Value × List Dd))} (h : Num D tm) {d : Dd} (hd : d.adopted = false) (hi : i64ok d.seq) (v : Value) : Num (D ++ [d]) (aput tm d.seq (v, ((aget tm d.seq).map (·.2)).getD [] ++ [d])) := ⟨aput_nodup h.nd _ _, fun k => by
  rw [aget_aput, rowOf_app, rowOf_one, h.get]
  by_cases hk : k = d.seq
  · subst hk
    rw [if_pos rfl, if_pos ⟨hd, rfl⟩]
    rfl
  · rw [if_neg hk, if_neg (fun h => hk h.2.symm), List.append_nil]
    exact h.get k, fun e he => by
  unfold aput at he
  split at he
  · obtain ⟨x, hx, rfl⟩ := List.mem_map.1 he
    split
    · exact hi
    · exact h.ok x hx
  · rcases List.mem_append.1 he with he | he
    · exact h.ok e he
    · rw [List.mem_singleton.1 he]; exact hi⟩
theorem Num.entry {D : List Dd} {tm : List (Int × (Value × List Dd))} (h : Num D tm) {e : Int × (Value × List Dd)} (he : e ∈ tm) : e.2.2 = rowOf D e.1 := by
  have h1 : aget tm e.1 = some e.2 := by
    have hn := h.nd
    clear h
    induction tm with
    | nil => cases he
    | cons p tm ih =>
      rw [List.map_cons, List.nodup_cons] at hn
      unfold aget at ih ⊢
      rw [List.find?_cons]
      rcases List.mem_cons.1 he with rfl | he
      · rw [decide_eq_true rfl]; rfl
      · have hne : p.1 ≠ e.1 := fun e' => hn.1 (e' ▸ List.mem_map.2 ⟨e, he, rfl⟩)
        rw [decide_eq_false hne]
        exact ih he hn.2
  rw [← h.get, h1]
  rfl
theorem Num.none {D : List Dd} {tm : List (Int × (Value × List Dd))} (h : Num D tm) {k : Int} (hk : ∀ e ∈ tm, e.1 ≠ k) : rowOf D k = [] := by
  rw [← h.get, (aget_none tm k).2 (fun hm => by
    obtain ⟨e, he, h1⟩ := List.mem_map.1 hm
    exact hk e he h1)]
  rfl
/-! ### Whether they agree -/
def sameD (a b : List Dd) : Prop := ∀ x ∈ a, ∀ y ∈ b, x.adopted = false → y.adopted = false → x.seq = y.seq → x.batch = y.batch
noncomputable instance (a b : List Dd) : Decidable (sameD a b) := Classical.propDecidable _
theorem sameD.symm {a b : List Dd} (h : sameD a b) : sameD b a := fun x hx y hy h1 h2 h3 => (h y hy x hx h2 h1 h3.symm).symm
/-- All of one batch. -/
def oneB (l : List Dd) : Prop := ∀ x ∈ l, ∀ y, l.head? = some y → x.batch = y.batch
noncomputable instance (l : List Dd) : Decidable (oneB l) := Classical.propDecidable _
theorem oneB_cons {x : Dd} {l : List Dd} : oneB (x :: l) ↔ ∀ y ∈ l, y.batch = x.batch := by
  constructor
  · intro h y hy
    exact h y (List.mem_cons_of_mem _ hy) x rfl
  · intro h y hy z hz
    cases hz
    rcases List.mem_cons.1 hy with rfl | hy
    · rfl
    · exact h y hy
theorem sameD_rows {a b : List Dd} : sameD a b ↔ ∀ x ∈ a, x.adopted = false → oneB (x :: rowOf b x.seq) := by
  constructor
  · intro h x hx h1
    rw [oneB_cons]
    intro y hy
    obtain ⟨g1, g2, g3⟩ := rowOf_mem.1 hy
    exact (h x hx y g1 h1 g2 g3.symm).symm
  · intro h x hx y hy h1 h2 h3
    have := h x hx h1
    rw [oneB_cons] at this
    exact (this y (rowOf_mem.2 ⟨hy, h2, h3.symm⟩)).symm
/-- All of them agree with all of them. -/
def allSame (l : List (List Dd)) : Prop := ∀ a ∈ l, ∀ b ∈ l, sameD a b
noncomputable instance (l : List (List Dd)) : Decidable (allSame l) := Classical.propDecidable _
theorem allSame_rows {l : List (List Dd)} : allSame l ↔ ∀ k, oneB (rowOf l.flatten k) := by
  constructor
  · intro h k x hx y hy
    have hy2 : y ∈ rowOf l.flatten k := List.mem_of_mem_head? hy
    obtain ⟨g1, g2, g3⟩ := rowOf_mem.1 hx
    obtain ⟨k1, k2, k3⟩ := rowOf_mem.1 hy2
    obtain ⟨a, ha, hxa⟩ := List.mem_flatten.1 g1
    obtain ⟨b, hb, hyb⟩ := List.mem_flatten.1 k1
    exact h a ha b hb x hxa y hyb g2 k2 (g3.trans k3.symm)
  · intro h a ha b hb x hx y hy h1 h2 h3
    have hx2 : x ∈ rowOf l.flatten y.seq := rowOf_mem.2 ⟨List.mem_flatten.2 ⟨a, ha, hx⟩, h1, h3⟩
    have hy2 : y ∈ rowOf l.flatten y.seq := rowOf_mem.2 ⟨List.mem_flatten.2 ⟨b, hb, hy⟩, h2, rfl⟩
    cases hh : (rowOf l.flatten y.seq).head? with
    | none =>
      rw [List.head?_eq_none_iff] at hh
      rw [hh] at hx2
      cases hx2
    | some z => exact (h _ x hx2 z hh).trans (h _ y hy2 z hh).symm
/-! ### What they tell together -/
/-- A history that is as long as it goes. -/
structure IsHist (D : List Dd) (H : List (List Ent)) : Prop where
  at_ : ∀ i (hi : i < H.length), ∃ d, (rowOf D ((i : Int) + 1)).head? = some d ∧ H[i] = d.batch
  end_ : rowOf D ((H.length : Int) + 1) = []
theorem IsHist.uniq {D : List Dd} {H1 H2 : List (List Ent)} (h1 : IsHist D H1) (h2 : IsHist D H2) : H1 = H2 := by
  have aux : ∀ {A B : List (List Ent)}, IsHist D A → IsHist D B → B.length ≤ A.length := by
    intro A B ha hb
    rcases Nat.lt_or_ge A.length B.length with h | h
    · obtain ⟨d, hd, _⟩ := hb.at_ A.length h
      rw [ha.end_] at hd
      cases hd
    · exact h
  refine List.ext_getElem (Nat.le_antisymm (aux h2 h1) (aux h1 h2)) fun i g1 g2 => ?_
  obtain ⟨d, hd, e1⟩ := h1.at_ i g1
  obtain ⟨d2, hd2, e2⟩ := h2.at_ i g2
  rw [hd] at hd2
  cases hd2
  rw [e1, e2]
/-- So far. -/
def HistUp (D : List Dd) (H : List (List Ent)) : Prop := ∀ i (hi : i < H.length), ∃ d, (rowOf D ((i : Int) + 1)).head? = some d ∧ H[i] = d.batch
theorem HistUp.nil {D : List Dd} : HistUp D [] := fun i hi => by cases hi
theorem HistUp.more {D : List Dd} {H : List (List Ent)} (h : HistUp D H) {d : Dd} (hd : (rowOf D ((H.length : Int) + 1)).head? = some d) : HistUp D (H ++ [d.batch]) := fun i hi => by
  rw [List.length_append, List.length_singleton] at hi
  rcases Nat.lt_or_ge i H.length with h1 | h1
  · obtain ⟨e, he, h2⟩ := h i h1
    exact ⟨e, he, by rw [List.getElem_append_left h1]; exact h2⟩
  · obtain rfl : i = H.length := by omega
    exact ⟨d, hd, by simp⟩
theorem keys_le : ∀ (m : Nat) (D : List Dd), (∀ i, i < m → rowOf D ((i : Int) + 1) ≠ []) → m ≤ D.length
  | 0, _, _ => Nat.zero_le _
  | m + 1, D, h => by
    have h1 := keys_le m (D.filter fun d => !decide (d.seq = (m : Int) + 1)) fun i hi => by
      have h2 := h i (by omega)
      obtain ⟨x, hx⟩ := List.exists_mem_of_ne_nil _ h2
      obtain ⟨g1, g2, g3⟩ := rowOf_mem.1 hx
      intro h3
      have h4 : x ∈ rowOf (D.filter fun d => !decide (d.seq = (m : Int) + 1)) ((i : Int) + 1) := rowOf_mem.2 ⟨List.mem_filter.2 ⟨g1, by simp; omega⟩, g2, g3⟩
      rw [h3] at h4
      cases h4
    obtain ⟨x, hx⟩ := List.exists_mem_of_ne_nil _ (h m (by omega))
    obtain ⟨g1, g2, g3⟩ := rowOf_mem.1 hx
    have h5 : (D.filter fun d => !decide (d.seq = (m : Int) + 1)).length < D.length := List.length_filter_lt_length_iff_exists.2 ⟨x, g1, by simp [g3]⟩
    omega
theorem HistUp.le {D : List Dd} {H : List (List Ent)} (h : HistUp D H) : H.length ≤ D.length := keys_le _ D fun i hi h2 => by
  obtain ⟨d, hd, _⟩ := h i hi
  rw [h2] at hd
  cases hd
theorem hist_ex (D : List Dd) : ∃ H, IsHist D H := by
  have aux : ∀ (f : Nat) (H : List (List Ent)), HistUp D H → D.length ≤ H.length + f → ∃ H, IsHist D H := by
    intro f
    induction f with
    | zero =>
      intro H h hl
      cases hh : (rowOf D ((H.length : Int) + 1)).head? with
      | none => exact ⟨H, h, List.head?_eq_none_iff.1 hh⟩
      | some d =>
        have := (h.more hh).le
        simp at this
        omega
    | succ f ih =>
      intro H h hl
      cases hh : (rowOf D ((H.length : Int) + 1)).head? with
      | none => exact ⟨H, h, List.head?_eq_none_iff.1 hh⟩
      | some d => exact ih _ (h.more hh) (by simp; omega)
  exact aux D.length [] HistUp.nil (by simp)
noncomputable def histF (D : List Dd) : List (List Ent) := (hist_ex D).choose
theorem histF_is (D : List Dd) : IsHist D (histF D) := (hist_ex D).choose_spec
theorem IsHist.eq {D : List Dd} {H : List (List Ent)} (h : IsHist D H) : H = histF D := h.uniq (histF_is D)
theorem HistUp.done {D : List Dd} {H : List (List Ent)} (h : HistUp D H) (he : rowOf D ((H.length : Int) + 1) = []) : H = histF D := IsHist.eq ⟨h, he⟩
noncomputable def mergeF (l : List (List Dd)) : List (List Ent) × Bool := if allSame l then (histF l.flatten, true) else ([], false)
end Go.Proofs.YtejcohlpjikjpaaGreatDoor.A
/-
  Slices that came in, with what they weigh: no row has more bytes than a machine reaches.
-/
namespace Go.Proofs.YtejcohlpjikjpaaGreatDoor
open Go.RowKit Go.ChangeShapes Go.WideShapes Go.ChangeAt

section
variable {H : Type} {enc : TypeId × Value → H} {P : Program} {w : World} {base : Nat} {spare : Nat → Bool} {held : Bool}
/-- What a datum weighs can be reached. -/
def Wt (P : Program) (t : TypeId) (d : DataW H) : Prop := ∀ x ∈ d.weights P t, x ≤ reachBytes
theorem Wt.each : ∀ {ts : List TypeId} {ds : List (DataW H)}, (∀ x ∈ DataW.weightsEach P ts ds, x ≤ reachBytes) → ∀ {i : Nat} {t : TypeId} {d : DataW H}, ts[i]? = some t → ds[i]? = some d → Wt P t d
  | t0 :: ts, d0 :: ds, h, 0, t, d, ht, hd => by
    cases ht
    cases hd
    exact fun x hx => h x (by rw [DataW.weightsEach]; exact List.mem_append_left _ hx)
  | t0 :: ts, d0 :: ds, h, i + 1, t, d, ht, hd => Wt.each (ts := ts) (ds := ds) (fun x hx => h x (by rw [DataW.weightsEach]; exact List.mem_append_right _ hx)) (i := i) (by simpa using ht) (by simpa using hd)
  | [], _, _, i, t, d, ht, _ => by simp at ht
  | _ :: _, [], _, i, t, d, _, hd => by simp at hd
theorem Wt.of {ts : List TypeId} {ds : List (DataW H)} (h : (DataW.weightsEach P ts ds).all (· ≤ reachBytes) = true) {i : Nat} {t : TypeId} {d : DataW H} (ht : ts[i]? = some t) (hd : ds[i]? = some d) : Wt P t d :=
  Wt.each (ts := ts) (fun x hx => of_decide_eq_true (List.all_eq_true.1 h x hx)) ht hd
end
namespace A
section
variable {H : Type} {enc : TypeId × Value → H} {w : World} {base : Nat} {spare : Nat → Bool} {held : Bool}
end
end A
end Go.Proofs.YtejcohlpjikjpaaGreatDoor
/-
  Deeds that came in, as trees; they lie apart from the program's own tables.
-/
namespace Go.Proofs.YtejcohlpjikjpaaGreatDoor.A
open Go.RowKit Go.ChangeShapes Go.WideShapes Go.ChangeAt

section
variable {H : Type} {enc : TypeId × Value → H} {w : World} {base : Nat} {spare : Nat → Bool} {held : Bool}
end
section
variable {G : List Nat} {w : World}
end
end Go.Proofs.YtejcohlpjikjpaaGreatDoor.A
/-
  The second engine: many pieces as one, at once; calls that change pieces in the midst, and read others.
-/
namespace Go.Proofs.YtejcohlpjikjpaaGreatDoor.A
open Go.RowKit

/-- A piece that may be changed, as one of memory. -/
def itPc : It → Pc
  | .blk b t cs => blkP b t cs
  | .pc c => c
  | _ => bigP []
/-- Pieces that may be changed, as one. -/
def bigI (xs : Blks) : Pc := bigP (xs.map itPc)
def isMut : It → Bool
  | .blk .. => true
  | .pc _ => true
  | _ => false
section
variable {xs ys : Blks} {x : It} {K : List Nat} {w : World}
theorem itPc_ids (h : isMut x = true) : (itPc x).ids = x.mids := by
  cases x with
  | blk b t cs => simp [itPc, It.mids, blkP]
  | pc c => rfl
  | _ => cases h
theorem itPc_p (h : isMut x = true) : (itPc x).p K w ↔ x.holds K w := by
  cases x with
  | blk b t cs => exact Iff.rfl
  | pc c => exact Iff.rfl
  | _ => cases h
theorem mut_rids (h : isMut x = true) : x.rids = [] := by
  cases x with
  | blk b t cs => rfl
  | pc c => rfl
  | _ => cases h
theorem bigI_ids : ∀ {xs : Blks}, xs.all isMut = true → (bigI xs).ids = mids xs
  | [], _ => rfl
  | x :: xs, h => by
    rw [List.all_cons, Bool.and_eq_true] at h
    have h1 := bigI_ids h.2
    unfold bigI bigP at h1 ⊢
    simp only [List.map_cons, List.flatMap_cons]
    rw [itPc_ids h.1, mids_cons]
    exact congrArg (x.mids ++ ·) h1
theorem bigI_p (h : xs.all isMut = true) : (bigI xs).p K w ↔ ∀ x ∈ xs, x.holds K w := by
  rw [List.all_eq_true] at h
  show (∀ c ∈ xs.map itPc, c.p K w) ↔ _
  constructor
  · intro h1 x hx
    exact (itPc_p (h x hx)).1 (h1 _ (List.mem_map.2 ⟨x, hx, rfl⟩))
  · intro h1 c hc
    obtain ⟨x, hx, rfl⟩ := List.mem_map.1 hc
    exact (itPc_p (h x hx)).2 (h1 x hx)
theorem mids_big (h : xs.all isMut = true) : mids [.pc (bigI xs)] = mids xs := by
  rw [mids_cons]
  show (bigI xs).ids ++ mids [] = _
  rw [bigI_ids h]
  simp [mids]
theorem all_rids (h : xs.all isMut = true) : ∀ x ∈ xs, x.rids = [] := fun x hx => mut_rids (List.all_eq_true.1 h x hx)
theorem Re.bigIn (h : xs.all isMut = true) : Re xs [.pc (bigI xs)] := ⟨⟨[], by rw [mids_big h, List.append_nil]⟩, by simp [It.rids], fun K w hx y hy => by
  rw [List.mem_singleton.1 hy]
  exact (bigI_p h).2 hx⟩
theorem Re.bigOut (h : xs.all isMut = true) : Re [.pc (bigI xs)] xs := ⟨⟨[], by rw [mids_big h, List.append_nil]⟩, all_rids h, fun K w hx y hy => (bigI_p h).1 (hx _ List.mem_cons_self) y hy⟩
theorem Spec.big {P : Program} {f : FuncId} {args : List Abs} {σ : Blks} {ι : Type} {τ : ι → Blks} {res : ι → Abs} (hs : Spec P f args σ τ res) (h1 : σ.all isMut = true) (h2 : ∀ z, (τ z).all isMut = true) : Spec P f args [.pc (bigI σ)] (fun z => [.pc (bigI (τ z))]) res :=
  Spec.reg (φ := []) hs (all_rids h1) (by rw [List.append_nil]; exact Re.bigOut h1) fun z => by rw [List.append_nil]; exact Re.bigIn (h2 z)
/-- A function that reads, and leaves the pieces. -/
theorem Spec.stay {P : Program} {f : FuncId} {args : List Abs} {c : Pc} {r : Abs} (h : Spec P f args [] (fun _ : Unit => []) (fun _ => r)) : Spec P f args [.pc c] (fun _ : Unit => [.pc c]) (fun _ => r) := fun G w vals hm hv =>
  (h.after hm hv (After.pure Reads.nil (fun _ => rfl) (K := fun ν _ => ν = [.pc c]) (fun _ => rfl))).mono fun e w' ⟨z, u, ν, he, hx, ho, hm', hc, hr', hk⟩ => by
    subst hk
    exact ⟨(), u, he, by simp [It.rids], hm', hr'⟩
end
end Go.Proofs.YtejcohlpjikjpaaGreatDoor.A
