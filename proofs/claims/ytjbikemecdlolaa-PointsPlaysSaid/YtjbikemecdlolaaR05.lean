/-
  Packed out of the texts: A20, A24, A32, PT1, A33, ClB, PT2, PT3.
-/
import Derived.Test.YtjbikemecdlolaaR04
import Derived.Lib.AppendZerosOnto
import Derived.Lib.Overlaps
import Derived.Sort.Walk0
import Derived.Deep.DeepAppendRoom
/-
  The second engine: what slices.Insert does with a row of the call's own: cut, grown, copied within.
-/
set_option maxRecDepth 100000
set_option linter.unusedSimpArgs false
set_option linter.unusedVariables false
namespace Go.Proofs.Ytjbikemecdlolaa.A
open Go.RowKit

/-- 's[q:]'. -/
def cutS (s : Nat) : Value → Nat → Value
  | .slice (some a) n c, q => .slice (some (if c = q then a else ⟨a.block, a.off + q * s, none⟩)) (n - q) (c - q)
  | .slice none n c, q => .slice none (n - q) (c - q)
  | v, _ => v
def capV : Value → Nat
  | .slice _ _ c => c
  | _ => 0
/-- A row's cells, as elements. -/
def chunks (s : Nat) : Nat → List Value → List (List Abs)
  | 0, _ => []
  | m + 1, l => (l.take s).map .v :: chunks s m (l.drop s)
theorem chunks_len (s : Nat) : ∀ (m : Nat) (l : List Value), (chunks s m l).length = m
  | 0, _ => rfl
  | m + 1, l => by simp [chunks, chunks_len s m]
theorem reps_vals {K : List Nat} {w : World} : ∀ l : List Value, reps K w (l.map .v) l
  | [] => rfl
  | u :: l => ⟨u, l, rfl, rfl, reps_vals l⟩
theorem repss_chunks {K : List Nat} {w : World} {s : Nat} : ∀ (m : Nat) (l : List Value), l.length = m * s → repss K w s (chunks s m l) l
  | 0, l, h => by
    rw [Nat.zero_mul] at h
    exact List.length_eq_zero_iff.1 h
  | m + 1, l, h => by
    rw [Nat.succ_mul] at h
    exact ⟨l.take s, l.drop s, (List.take_append_drop s l).symm, by rw [List.length_take]; omega, reps_vals _, repss_chunks m _ (by rw [List.length_drop]; omega)⟩
theorem repss_cut {K : List Nat} {w : World} {s : Nat} {xs : List (List Abs)} {us : List Value} (h : repss K w s xs us) (q : Nat) (hq : q ≤ xs.length) : repss K w s (xs.take q) (us.take (q * s)) ∧ repss K w s (xs.drop q) (us.drop (q * s)) := by
  have h1 := h
  rw [← List.take_append_drop q xs] at h1
  obtain ⟨u1, u2, e, h2, h3⟩ := repss_split h1
  have hl := repss_length h2
  rw [List.length_take, Nat.min_eq_left hq] at hl
  subst e
  rw [← hl, List.take_left, List.drop_left]
  exact ⟨h2, h3⟩
theorem repss_ones1 {K : List Nat} {w : World} {s : Nat} : ∀ {ys : List (List Abs)} {news : List Value}, (∀ c ∈ ys, ones c = true) → repss K w s ys news → ∀ u ∈ news, u.oneCell' = true
  | [], news, _, h, u, hu => by
    have : news = [] := h
    subst this
    cases hu
  | c :: ys, _, ho, ⟨u1, u2, h1, _, h3, h4⟩, u, hu => by
    subst h1
    rcases List.mem_append.1 hu with hu | hu
    · exact ones_reps h3 (ho c (by simp)) u hu
    · exact repss_ones1 (fun c hc => ho c (by simp [hc])) h4 u hu
/-- 'copy', whatever the elements' size. -/
theorem run_copy_s {P : Program} (w : World) (dT sT ty elem : TypeId) (g o dLen dCap : Nat) (a : Addr) (sLen sCap : Nat) (cur : Array Value) (t : TypeId) (cs : List Value) {I : TypeInfo}
    (hu : P.underlying dT = some (.slice elem)) (hq : P.info? elem = some I) (hg : w.heap[g]? = some (.cells cur t (0, 0))) (hn : cs.length = Nat.min sLen dLen * I.size)
    (hsrc : ∀ j v, cs[j]? = some v → w.cell? (a.add j) = some v) (hfit : o + cs.length ≤ cur.size) (h1 : ∀ v ∈ cs, v.oneCell' = true) :
    (Builtin.copy_ #[dT, sT] ty #[.slice (some ⟨g, o, none⟩) dLen dCap, .slice (some a) sLen sCap]).run P w = .ok (goInt (Nat.min sLen dLen)) (w.setRow g (cur.toList.take o ++ cs ++ cur.toList.drop (o + cs.length)).toArray) := by
  have hl := run_loadCells_list (P := P) w a cs hsrc
  have hst := run_storeCells_at P g o t cs 0 cur w hg (by simpa using hfit) h1
  simp [Builtin.copy_, run_underlying hu, Builtin.lenOf, Builtin.firstCells, sizeOf, typeInfo, hq, ← hn, hl, hst]
section
variable {P : Program} {n : Nat} {W : Wd} {σ τ : Blks} {l : Slots} {X : List Nat} {x y : Operand} {d : Option Nat} {ty t t' e e' : TypeId} {pos : String} {aft : Array Edge} {g : Option (Nat × Bool)} {v u : Value} {k : IntKind} {tab : List (Nat × TI)} {xs ys : List (List Abs)} {s q : Nat} {ops : Array Oper} {rest : List Oper} {Q : Exit → Act → World → Prop}
theorem own_hold {w : World} {a : Act} (hs : St n W σ l a w) (hb : own e s v xs ∈ σ) : ∃ us, w.ownsRow 0 e s v xs.length us ∧ repss (mids σ ++ W.G) w s xs us := hs.mem.hold _ hb
theorem owns_slice {w : World} {m : Nat} {us : List Value} (h : w.ownsRow 0 e s v m us) : ∃ A c, v = .slice A m c ∧ m ≤ c := by
  rcases h.2 with ⟨rfl, h0⟩ | ⟨gb, cap, cur, rfl, _, _, hn, _⟩
  · exact ⟨none, 0, by rw [h0], by omega⟩
  · exact ⟨_, cap, rfl, hn⟩
/-- 's[q:]' of a row of the call's own, whatever the elements' size. -/
theorem Val.cutLo (hT : TabOk P tab) {j : TI} (hu : P.underlying t = some (.slice e)) (hj : ti tab e = some j) (h1 : Nat.beq j.size s = true) (hx : look l x = some (.v v)) (hb : own e' s v xs ∈ σ) {r : Int} (hy : look l y = some (.v (.int k r))) (hr : r = (q : Nat)) (hq : q ≤ xs.length) :
    Val P n W σ l X ⟨d, .slice t x (some y) none none, ty, pos, aft, g⟩ (.v (cutS s v q)) := fun a w hs _ => by
  subst hr
  have h1 := Nat.eq_of_beq_eq_true h1
  obtain ⟨us, hr1, _⟩ := own_hold hs hb
  rcases hr1.2 with ⟨rfl, h0⟩ | ⟨gb, c, cur, rfl, _, _, hn, _⟩
  · have hq0 : q = 0 := by omega
    subst hq0
    refine ⟨_, rfl, fun w' _ => ?_⟩
    have h7 := (hT _ _ hj).sizeOf (w := w')
    have e1 : a.eval x = .slice none 0 0 := hs.plain hx
    have e2 : a.eval y = .int k ((0 : Nat) : Int) := hs.plain hy
    simp [execOp, Instr.sliceAt, Instr.slice, Instr.sliceBounds, Instr.sliceBound, asIntOf, e1, e2, run_underlying hu, Sem.run_bind, Result.andThen, h7, cutS]
  · refine ⟨_, rfl, fun w' _ => ?_⟩
    have h7 := (hT _ _ hj).sizeOf (w := w')
    have e1 : a.eval x = .slice (some ⟨gb, 0, none⟩) xs.length c := hs.plain hx
    have e2 : a.eval y = .int k ((q : Nat) : Int) := hs.plain hy
    by_cases hc : c = q <;> simp [execOp, Instr.sliceAt, Instr.slice, Instr.sliceBounds, Instr.sliceBound, asIntOf, e1, e2, run_underlying hu, Sem.run_bind, Result.andThen, h7, h1, hq, hc, Addr.add, cutS]
    try omega
/-- 's[:q]', beyond its length too, as far as its capacity goes. -/
theorem Val.cutUp (hT : TabOk P tab) {j : TI} (hu : P.underlying t = some (.slice e)) (hj : ti tab e = some j) (hx : look l x = some (.v v)) (hb : own e' s v xs ∈ σ) {r : Int} (hy : look l y = some (.v (.int k r))) (hr : r = (q : Nat)) (hq : q ≤ capV v) :
    Val P n W σ l X ⟨d, .slice t x none (some y) none, ty, pos, aft, g⟩ (.v (cutTo v q)) := fun a w hs _ => by
  subst hr
  obtain ⟨us, hr1, _⟩ := own_hold hs hb
  obtain ⟨A', c, rfl, _⟩ := owns_slice hr1
  refine ⟨_, rfl, fun w' _ => ?_⟩
  have h7 := (hT _ _ hj).sizeOf (w := w')
  have e1 : a.eval x = .slice A' xs.length c := hs.plain hx
  have e2 : a.eval y = .int k ((q : Nat) : Int) := hs.plain hy
  have hq' : q ≤ c := hq
  have h8 : ∀ a : Addr, a.spot = none → a.add 0 = a := fun a ha => by obtain ⟨b, o, r⟩ := a; cases ha; rfl
  rcases Nat.eq_zero_or_pos c with hc | hc
  · subst hc
    obtain rfl : q = 0 := by omega
    cases A' <;> simp [execOp, Instr.sliceAt, Instr.slice, Instr.sliceBounds, Instr.sliceBound, asIntOf, e1, e2, run_underlying hu, Sem.run_bind, Result.andThen, h7, cutTo]
  · have hc : ¬ c = 0 := by omega
    cases A' with
    | none => simp [execOp, Instr.sliceAt, Instr.slice, Instr.sliceBounds, Instr.sliceBound, asIntOf, e1, e2, run_underlying hu, Sem.run_bind, Result.andThen, h7, hq', cutTo, hc]
    | some A =>
      have hA : A.spot = none := by
        rcases hr1.2 with ⟨h, _⟩ | ⟨gb, cap, cur, h, _⟩
        · cases h
        · cases h; rfl
      simp [execOp, Instr.sliceAt, Instr.slice, Instr.sliceBounds, Instr.sliceBound, asIntOf, e1, e2, run_underlying hu, Sem.run_bind, Result.andThen, h7, hq', cutTo, hc, h8 A hA]
theorem Val.capOwn (hx : look l x = some (.v v)) (hb : own e' s v xs ∈ σ) (ht : P.underlying t = some (.slice e)) : Val P n W σ l X ⟨d, .call { callee := .builtin .cap, args := #[x], argTypes := #[t] }, ty, pos, aft, g⟩ (.v (.int .i64 (capV v : Nat))) := fun a w hs _ => by
  obtain ⟨us, hr1, _⟩ := own_hold hs hb
  obtain ⟨A', c, rfl, _⟩ := owns_slice hr1
  refine ⟨_, rfl, fun w' _ => ?_⟩
  have e1 : a.eval x = .slice A' xs.length c := hs.plain hx
  simp [execOp, resolve, invoke, builtin, Builtin.cap_, e1, run_underlying ht, Sem.run_bind, Result.andThen, goInt, capV]
/-- A row of the call's own, longer: what lies behind it belongs to it. -/
theorem St.growOwn {a : Act} {w : World} (h : St n W σ l a w) (hb : own e s v xs ∈ σ) (hq : xs.length ≤ q) (hc : q ≤ capV v) : ∃ js : List (List Abs), js.length + xs.length = q ∧ ∀ τ, Upd (own e s v xs) (own e s (cutTo v q) (xs ++ js)) σ τ → St n W τ l a w := by
  obtain ⟨us, hown, hr⟩ := own_hold h hb
  rcases hown.2 with ⟨rfl, h0⟩ | ⟨gb, cap, cur, rfl, hbase, hg, hn, hcap, hsz, htk⟩
  · have hq0 : q = 0 := by simp only [capV] at hc; omega
    refine ⟨[], by simp; omega, fun τ hu => ?_⟩
    have hx0 : xs = [] := List.length_eq_zero_iff.1 h0
    subst hx0 hq0
    have := upd_self (x := own e s (.slice none 0 0) []) hu
    rw [this]
    exact h
  · simp only [capV] at hc
    have hle : q * s ≤ cap * s := Nat.mul_le_mul_right _ hc
    have hle2 : xs.length * s ≤ q * s := Nat.mul_le_mul_right _ hq
    have hjl : ((cur.toList.take (q * s)).drop (xs.length * s)).length = (q - xs.length) * s := by
      rw [List.length_drop, List.length_take, Nat.min_eq_left (by simp; omega), Nat.sub_mul]
    refine ⟨chunks s (q - xs.length) ((cur.toList.take (q * s)).drop (xs.length * s)), by rw [chunks_len]; omega, fun τ hu => ?_⟩
    have hl : (xs ++ chunks s (q - xs.length) ((cur.toList.take (q * s)).drop (xs.length * s))).length = q := by rw [List.length_append, chunks_len]; omega
    have hm := h.mem.upd hu (Ext.refl w) own_nodup (fun k hk => .inl (by simpa [It.mids, ownPc, cutTo_block] using hk)) rfl fun hca => by
      refine ⟨cur.toList.take (q * s), ⟨?_, .inr ⟨gb, cap, cur, ?_, hbase, hg, by rw [hl]; exact hc, hcap, hsz, by rw [hl]⟩⟩, ?_⟩
      · rw [hl, List.length_take, Nat.min_eq_left (by simp; omega)]
      · rw [hl]; rfl
      · have e1 : cur.toList.take (q * s) = us ++ (cur.toList.take (q * s)).drop (xs.length * s) := by
          rw [← htk]
          have := List.take_append_drop (xs.length * s) (cur.toList.take (q * s))
          rw [List.take_take, Nat.min_eq_left hle2] at this
          exact this.symm
        rw [e1]
        refine repss_append (repss_carry hca _ _ _ hr) ?_
        rw [← e1]
        exact repss_chunks _ _ hjl
    exact h.to hm.1 hm.2
theorem SL.growOwn (hb : own e s v xs ∈ σ) (hq : xs.length ≤ q) (hc : q ≤ capV v) (k : ∀ (js : List (List Abs)), js.length + xs.length = q → ∃ τ, Upd (own e s v xs) (own e s (cutTo v q) (xs ++ js)) σ τ ∧ SL P ops rest (St n W τ l) Q) : SL P ops rest (St n W σ l) Q := fun a w h => by
  obtain ⟨js, h1, h2⟩ := h.growOwn hb hq hc
  obtain ⟨τ, h3, h4⟩ := k js h1
  exact h4 a w (h2 τ h3)
theorem SC.growOwn {c : Code} (hb : own e s v xs ∈ σ) (hq : xs.length ≤ q) (hc : q ≤ capV v) (k : ∀ (js : List (List Abs)), js.length + xs.length = q → ∃ τ, Upd (own e s v xs) (own e s (cutTo v q) (xs ++ js)) σ τ ∧ SC P c (St n W τ l) Q) : SC P c (St n W σ l) Q := fun a w h => by
  obtain ⟨js, h1, h2⟩ := h.growOwn hb hq hc
  obtain ⟨τ, h3, h4⟩ := k js h1
  exact h4 a w (h2 τ h3)
/-- slices.overlaps of two rows of the call's own: they lie apart. -/
theorem Val.overlapsOff {f : FuncId} {fn : Func} {ats : Array TypeId} {tr : TypeId} {α β : Blks} (hf : P.funcs[f]? = some fn) (h1 : (fn.name == "runtime.NumGoroutine") = false) (h2 : fn.body.isNone = true) (h3 : Extern.findNext fn = none) (h4 : Extern.find fn = some (Extern.SlicesOverlaps.overlaps #[t, t] #[tr]))
    (hT : TabOk P tab) {j : TI} (hu : P.underlying t = some (.slice e)) (hj : ti tab e = some j) (hsz : Nat.beq j.size s = true) (hpos : Nat.blt 0 s = true)
    (hx : look l x = some (.v u)) (hy : look l y = some (.v (cutS s v q))) (hσ : σ = α ++ own e s v xs :: β) (hb : own e s u ys ∈ α ++ β) (hys : 0 < ys.length) (hq : q < xs.length) :
    Val P n W σ l [] ⟨d, .call { callee := .value (.func f), args := #[x, y], argTypes := ats }, ty, pos, aft, g⟩ (.v (.bool false)) := fun a w hs _ => by
  have hsz := Nat.eq_of_beq_eq_true hsz
  have hpos : 0 < s := by simpa [Nat.blt_eq] using hpos
  have hbv : own e s v xs ∈ σ := by rw [hσ]; simp
  have hbu : own e s u ys ∈ σ := by
    rw [hσ]
    rcases List.mem_append.1 hb with h | h
    · simp [h]
    · simp [h]
  obtain ⟨us, hv, _⟩ := own_hold hs hbv
  obtain ⟨us2, hu2, _⟩ := own_hold hs hbu
  rcases hv.2 with ⟨_, h0⟩ | ⟨gb, cap, cur, rfl, _, hg, hn, _, hcs, _⟩
  · omega
  rcases hu2.2 with ⟨_, h0⟩ | ⟨gb2, cap2, cur2, rfl, _, hg2, hn2, _, hcs2, _⟩
  · omega
  have hne : gb2 ≠ gb := fun he => by
    have hnd := hs.mem.nodup
    rw [hσ, mids_append, mids_cons, List.nodup_append, List.nodup_append] at hnd
    subst he
    have hk : gb2 ∈ (own e s (.slice (some ⟨gb2, 0, none⟩) xs.length cap) xs).mids := by simp [It.mids, ownPc, Value.ownBlock]
    have hk2 : gb2 ∈ (own e s (.slice (some ⟨gb2, 0, none⟩) ys.length cap2) ys).mids := by simp [It.mids, ownPc, Value.ownBlock]
    rcases List.mem_append.1 hb with h | h
    · exact hnd.2.2 gb2 (mids_mem.2 ⟨_, h, hk2⟩) gb2 (List.mem_append_left _ hk) rfl
    · exact hnd.2.1.2.2 gb2 hk gb2 (mids_mem.2 ⟨_, h, hk2⟩) rfl
  refine ⟨_, rfl, fun w' hw' => ?_⟩
  have hg' : w'.heap[gb]? = some (.cells cur e (0, 0)) := (hw'.block gb (heap_lt hg) (by simp)).trans hg
  have hg2' : w'.heap[gb2]? = some (.cells cur2 e (0, 0)) := (hw'.block gb2 (heap_lt hg2) (by simp)).trans hg2
  have hcq : ¬ cap = q := by omega
  have e1 : a.eval x = .slice (some ⟨gb2, 0, none⟩) ys.length cap2 := hs.plain hx
  have e2 : a.eval y = .slice (some ⟨gb, 0 + q * s, none⟩) (xs.length - q) (cap - q) := by
    have := hs.plain hy
    simp only [cutS, hcq, if_false] at this
    exact this
  have hpos2 : 0 < cur.size := by
    rw [hcs]
    exact Nat.mul_pos (by omega) hpos
  have hrun := Lib.run_overlaps_apart (P := P) w' t tr e hu j.size (fun w => (hT _ _ hj).sizeOf (w := w)) ⟨gb2, 0, none⟩ ⟨gb, 0 + q * s, none⟩ ys.length cap2 (xs.length - q) (cap - q) hne e e cur2.size cur.size
    (by simp [World.shape?, hg2']) (by simp [World.shape?, hg']) (by omega) (by simp [World.frozen?, hg2']) (by simp [World.frozen?, hg2'])
  have hcf := run_callFunc_extern hf h1 h2 h3 h4 #[a.eval x, a.eval y] w'
  rw [e1, e2, hrun] at hcf
  have hfn : a.eval (.func f) = .func (.func f) #[] #[] := rfl
  simp only [Result.andThen, Nat.zero_add] at hcf
  simp [execOp, resolve, hfn, Deferred.ofValue, invoke, e1, e2, hcf, Sem.run_bind, Result.andThen]
/-- What 'copy' reads: a row's first elements. -/
def Src (n : Nat) (W : Wd) (σ : Blks) (l : Slots) (y : Operand) (s m : Nat) (ys : List (List Abs)) : Prop := ∀ a w, St n W σ l a w → ∃ A M c news, a.eval y = .slice (some A) M c ∧ min M m = ys.length ∧ repss (mids σ ++ W.G) w s ys news ∧ ∀ j u, news[j]? = some u → w.cell? (A.add j) = some u
theorem Src.ofOwn {m : Nat} (hy : look l y = some (.v (cutS s v q))) (hb : own e s v xs ∈ σ) (hq : q < xs.length) (hm : min (xs.length - q) m = ys.length) (he : (xs.drop q).take ys.length = ys) : Src n W σ l y s m ys := fun a w hs => by
  obtain ⟨us, hv, hr⟩ := own_hold hs hb
  rcases hv.2 with ⟨_, h0⟩ | ⟨gb, cap, cur, rfl, _, hg, hn, _, hcs, htk⟩
  · omega
  have hcq : ¬ cap = q := by omega
  have e2 : a.eval y = .slice (some ⟨gb, 0 + q * s, none⟩) (xs.length - q) (cap - q) := by
    have := hs.plain hy
    simp only [cutS, hcq, if_false] at this
    exact this
  have hr2 := (repss_cut (repss_cut hr q (by omega)).2 ys.length (by rw [List.length_drop, ← hm]; exact Nat.min_le_left _ _)).1
  rw [he] at hr2
  refine ⟨_, _, _, _, e2, hm, hr2, fun j u hj => ?_⟩
  rw [List.getElem?_take] at hj
  split at hj
  · rw [List.getElem?_drop] at hj
    rw [Addr.add_none, ← htk, List.getElem?_take] at *
    split at hj
    · simp only [World.cell?, hg]
      simpa [Nat.zero_add] using hj
    · cases hj
  · cases hj
theorem Src.ofAll {m : Nat} (hy : look l y = some (.v v)) (hb : own e s v xs ∈ σ) (hq : 0 < xs.length) (hm : min xs.length m = xs.length) : Src n W σ l y s m xs := fun a w hs => by
  obtain ⟨us, hv, hr⟩ := own_hold hs hb
  rcases hv.2 with ⟨_, h0⟩ | ⟨gb, cap, cur, rfl, _, hg, hn, _, hcs, htk⟩
  · omega
  refine ⟨_, _, _, _, hs.plain hy, hm, hr, fun j u hj => ?_⟩
  rw [Addr.add_none, ← htk, List.getElem?_take] at *
  split at hj
  · simp only [World.cell?, hg]
    simpa using hj
  · cases hj
/-- 'copy(s[q:], ..)' into a row of the call's own. -/
theorem Eff.copyRow (hT : TabOk P tab) {j : TI} {zs : List (List Abs)} (hu : P.underlying t = some (.slice e)) (hj : ti tab e = some j) (hsz : Nat.beq j.size s = true) (hx : look l x = some (.v (cutS s v q))) (hq : q < xs.length) (hsrc : Src n W σ l y s (xs.length - q) ys) (h1 : ∀ c ∈ ys, ones c = true) (hz : xs.take q ++ ys ++ xs.drop (q + ys.length) = zs) (hup : Upd (own e s v xs) (own e s v zs) σ τ) :
    Eff P n W σ l v.ownBlock.toList ⟨d, .call { callee := .builtin .copy, args := #[x, y], argTypes := #[t, t'] }, ty, pos, aft, g⟩ fun r τ' => r = .v (.int .i64 (ys.length : Nat)) ∧ τ' = τ := fun a w hs => by
  have hsz := Nat.eq_of_beq_eq_true hsz
  obtain ⟨us, hown, hr⟩ := own_hold hs hup.mem
  obtain ⟨A, M, c, news, e2, hm, hr2, hc2⟩ := hsrc a w hs
  have hm : Nat.min M (xs.length - q) = ys.length := hm
  have hlen2 := repss_length hr2
  have hone := repss_ones1 h1 hr2
  have hfit : q + ys.length ≤ xs.length := by
    have : Nat.min M (xs.length - q) ≤ xs.length - q := Nat.min_le_right _ _
    omega
  obtain ⟨I, hI, hIs, _⟩ := (hT e j hj).info
  rcases hown.2 with ⟨_, h0⟩ | ⟨gb, cap, cur, rfl, hbase, hg, hn, hcap, hcs, htk⟩
  · omega
  have hcq : ¬ cap = q := by omega
  have e1 : a.eval x = .slice (some ⟨gb, 0 + q * s, none⟩) (xs.length - q) (cap - q) := by
    have := hs.plain hx
    simp only [cutS, hcq, if_false] at this
    exact this
  have hb1 : q * s + ys.length * s ≤ xs.length * s := by rw [← Nat.add_mul]; exact Nat.mul_le_mul_right _ hfit
  have hb2 : xs.length * s ≤ cap * s := Nat.mul_le_mul_right _ hn
  have hrun := run_copy_s (P := P) w t t' ty e gb (0 + q * s) (xs.length - q) (cap - q) A M c cur e news hu hI hg (by rw [hm, hIs, hsz, hlen2]) hc2 (by omega) hone
  rw [hm] at hrun
  have hxx : Ext (Value.ownBlock (.slice (some ⟨gb, 0, none⟩) xs.length cap)).toList w (w.setRow gb (cur.toList.take (0 + q * s) ++ news ++ cur.toList.drop (0 + q * s + news.length)).toArray) := (Ext.refl w).setRow (.inl (by simp [Value.ownBlock])) _
  have hzl : zs.length = xs.length := by
    rw [← hz]
    simp only [List.length_append, List.length_take, List.length_drop]
    omega
  have hnew : (cur.toList.take (0 + q * s) ++ news ++ cur.toList.drop (0 + q * s + news.length)).take (xs.length * s) = us.take (q * s) ++ news ++ us.drop ((q + ys.length) * s) := by
    have hcl : cur.toList.length = cap * s := by simp [hcs]
    rw [← htk, Nat.zero_add, Nat.add_mul]
    rw [← hlen2] at hb1 ⊢
    generalize q * s = q' at *
    generalize xs.length * s = n' at *
    generalize cap * s = c' at *
    apply List.ext_getElem?
    intro j
    simp only [List.getElem?_take, List.getElem?_append, List.length_append, List.length_take, List.getElem?_drop]
    grind
  have hm2 := hs.mem.upd hup hxx own_nodup (fun k hk => .inl (by simpa [It.mids, ownPc, Value.ownBlock] using hk)) rfl fun hca => by
    refine ⟨us.take (q * s) ++ news ++ us.drop ((q + ys.length) * s), ⟨?_, .inr ⟨gb, cap, _, by rw [hzl], hbase, setRow_heap w gb cur _ e (0, 0) hg, by rw [hzl]; exact hn, hcap, ?_, ?_⟩⟩, ?_⟩
    · rw [hzl, ← hnew, List.length_take]
      simp only [List.length_append, List.length_take, List.length_drop, Array.length_toList]
      omega
    · simp only [List.size_toArray, List.length_append, List.length_take, List.length_drop, Array.length_toList]
      omega
    · rw [hzl]
      simpa using hnew
    · rw [← hz]
      refine repss_append (repss_append ?_ (repss_carry hca _ _ _ hr2)) ?_
      · exact repss_carry hca _ _ _ (repss_cut hr q (by omega)).1
      · exact repss_carry hca _ _ _ (repss_cut hr (q + ys.length) (by omega)).2
  refine ⟨_, _, _, _, ⟨rfl, rfl⟩, hxx, rfl, hm2.1, hm2.2, .inl ?_⟩
  simp only [Nat.zero_add, List.append_assoc] at hrun e1 ⊢
  simp [execOp, resolve, invoke, builtin, e1, e2, hrun, Result.andThen, goInt]
/-- 'append(s[:q], make(S, m)...)' where there is no room: a new row. -/
theorem Eff.appendZeros (hT : TabOk P tab) {j : TI} {m : Nat} {r : Int} {tn : TypeId} {kn : IntKind} (hu : P.underlying t = some (.slice e)) (htn : P.underlying tn = some (.int kn)) (hj : ti tab e = some j) (hsz : Nat.beq j.size s = true) (hpos : Nat.blt 0 s = true) (hx : look l x = some (.v (cutTo v q))) (hb : own e s v xs ∈ σ) (hy : look l y = some (.v (.int k r))) (hr : r = (m : Nat)) (hq : q < xs.length) (hm : 0 < m) (hroom : capV v < q + m) (hml : q + m ≤ maxLen) (hby : (q + m) * P.bytesOf e ≤ 140737488355328) :
    Eff P n W σ l [] ⟨d, .call { callee := .builtin .append, args := #[x, y], argTypes := #[t, tn] }, ty, pos, aft, g⟩ fun u τ => ∃ v' js, u = .v v' ∧ js.length = m ∧ τ = own e s v' (xs.take q ++ js) :: σ := fun a w hs => by
  subst hr
  have hsz := Nat.eq_of_beq_eq_true hsz
  have hpos : 0 < s := by simpa [Nat.blt_eq] using hpos
  obtain ⟨us, hown, hr⟩ := own_hold hs hb
  obtain ⟨I, hI, hIs, z, hz, hzc⟩ := (hT e j hj).info
  have hzl := (hT e j hj).len
  have hbi := bytes_of hI
  rcases hown.2 with ⟨_, h0⟩ | ⟨gb, cap, cur, rfl, hbase, hg, hn, hcap, hcs, htk⟩
  · omega
  simp only [capV] at hroom
  have hqs : q * s ≤ xs.length * s := Nat.mul_le_mul_right _ (by omega)
  have hnc : xs.length * s ≤ cap * s := Nat.mul_le_mul_right _ hn
  have hul := hown.1
  have hold : (Builtin.firstCells I.size q (.slice (some ⟨gb, 0, none⟩) q cap)).run P w.drew = .ok (us.take (q * s)).toArray w.drew := by
    rw [hIs, hsz]
    refine run_firstCells_some (P := P) w.drew s q ⟨gb, 0, none⟩ q cap (us.take (q * s)) (by rw [List.length_take]; omega) fun i u hi => ?_
    rw [List.getElem?_take] at hi
    split at hi
    · rw [Addr.add_none]
      rw [← htk, List.getElem?_take] at hi
      split at hi
      · show w.cell? _ = _
        simp only [World.cell?, hg]
        simpa using hi
      · cases hi
    · cases hi
  have hrun := Lib.run_append_grow_zeros (P := P) w t tn ty e I z k kn hu htn hI hz (some ⟨gb, 0, none⟩) q cap (us.take (q * s)) hold m hm (by rw [hIs, hsz]; exact hpos) hroom (by unfold maxLen at hml; omega)
    (by rw [← hbi]; have : m * P.bytesOf e ≤ (q + m) * P.bytesOf e := Nat.mul_le_mul_right _ (by omega); omega) (growslice_fits hroom (by rw [← hbi]; exact hby))
  obtain ⟨G, hG⟩ : ∃ G, grownCap w (q + m) cap e = G := ⟨_, rfl⟩
  have hG1 : q + m ≤ G := hG ▸ grownCap_ge w _ _ _
  have hG2 : G ≤ maxLen := hG ▸ grownCap_le_maxLen w _ _ _ hml
  rw [hG] at hrun
  obtain ⟨ROW, hROW⟩ : ∃ ROW, (us.take (q * s)).toArray ++ Builtin.zeroCells z.cells m ++ Builtin.zeroCells z.cells (G - (q + m)) = ROW := ⟨_, rfl⟩
  rw [hROW] at hrun
  have hzs : z.cells.size = s := by rw [hzc, List.size_toArray, hzl, hsz]
  have hz1 : ∀ m, (Builtin.zeroCells z.cells m).size = m * s := fun m => by simp [Builtin.zeroCells, hzs]
  have hz2 : ∀ m, (Builtin.zeroCells z.cells m).toList.length = m * s := fun m => by rw [Array.length_toList, hz1]
  obtain ⟨js, hjs⟩ : ∃ js, chunks s m (Builtin.zeroCells z.cells m).toList = js := ⟨_, rfl⟩
  have hjl : js.length = m := by rw [← hjs, chunks_len]
  have hx0 : Ext [] w (w.drew.alloc (.cells ROW e)) := ((Ext.refl w).drew).alloc _
  have hrs : ROW.size = G * s := by
    rw [← hROW]
    simp only [Array.size_append, hz1, List.size_toArray, List.length_take]
    rw [Nat.min_eq_left (by omega), ← Nat.add_mul, ← Nat.add_mul]
    congr 1
    omega
  have hlen : (xs.take q ++ js).length = q + m := by
    rw [List.length_append, List.length_take, hjl]
    omega
  have hm2 := hs.mem.new (y := own e s (.slice (some ⟨w.heap.size, 0, none⟩) (q + m) G) (xs.take q ++ js)) hx0 own_nodup (by simp [It.mids, ownPc, Value.ownBlock]) rfl fun hca => by
    refine ⟨us.take (q * s) ++ (Builtin.zeroCells z.cells m).toList, ⟨?_, .inr ⟨w.heap.size, G, ROW, by rw [hlen], by omega, ?_, by rw [hlen]; exact hG1, hG2, hrs, ?_⟩⟩, repss_append (repss_carry hca _ _ _ (repss_cut hr q (by omega)).1) (hjs ▸ repss_chunks m _ (by rw [Array.length_toList, hz1]))⟩
    · rw [hlen, List.length_append, List.length_take, hz2, Nat.add_mul]
      omega
    · exact heap_alloc_new w.drew _
    · rw [hlen, ← hROW]
      simp only [Array.toList_append, List.append_assoc]
      rw [← List.append_assoc, List.take_append_of_le_length (by rw [List.length_append, List.length_take, hz2, Nat.add_mul]; omega), List.take_of_length_le (by rw [List.length_append, List.length_take, hz2, Nat.add_mul]; omega)]
  refine ⟨_, _, _, _, ⟨_, js, rfl, hjl, rfl⟩, hx0, rfl, hm2.1, hm2.2, .inl ?_⟩
  have e1 : a.eval x = .slice (some ⟨gb, 0, none⟩) q cap := hs.plain hx
  have e2 : a.eval y = .int k ((m : Nat) : Int) := hs.plain hy
  simp [execOp, resolve, invoke, builtin, e1, e2, hrun, Result.andThen]
end
theorem Casts.of_eq {xs ys : List Abs} (h : xs = ys) : Casts xs ys := h ▸ Casts.refl
section
variable {xs js : List (List Abs)} {y : List Abs} {i : Nat}
theorem ins_a (hi : i < xs.length) (hj : js.length = xs.length + 1 - i) : (xs.take i ++ js).take i ++ [y] ++ (xs.take i ++ js).drop (i + [y].length) = xs.take i ++ y :: js.drop 1 := by
  rw [List.take_append_of_le_length (by rw [List.length_take]; omega), List.take_take, Nat.min_self, List.drop_append, List.drop_of_length_le (by rw [List.length_take]; simp; omega), List.length_take, Nat.min_eq_left (by omega)]
  simp
theorem ins_b (hi : i < xs.length) (hj : js.length = xs.length + 1 - i) : (xs.take i ++ y :: js.drop 1).take (i + 1) ++ xs.drop i ++ (xs.take i ++ y :: js.drop 1).drop (i + 1 + (xs.drop i).length) = xs.take i ++ y :: xs.drop i := by
  have h1 : (xs.take i ++ y :: js.drop 1).drop (i + 1 + (xs.drop i).length) = [] := List.drop_of_length_le (by simp; omega)
  rw [h1, List.append_nil, List.take_append, List.length_take, Nat.min_eq_left (by omega), List.take_take, Nat.min_eq_right (by omega), Nat.add_sub_cancel_left, List.append_assoc]
  rfl
theorem ins_c (hi : i < xs.length) (hj : js.length + xs.length = xs.length + 1) : (xs ++ js).take (i + 1) ++ xs.drop i ++ (xs ++ js).drop (i + 1 + (xs.drop i).length) = (xs ++ js).take (i + 1) ++ xs.drop i := by
  have h1 : (xs ++ js).drop (i + 1 + (xs.drop i).length) = [] := List.drop_of_length_le (by simp; omega)
  rw [h1, List.append_nil]
theorem ins_d (hi : i < xs.length) (hj : js.length + xs.length = xs.length + 1) : ((xs ++ js).take (i + 1) ++ xs.drop i).take i ++ [y] ++ ((xs ++ js).take (i + 1) ++ xs.drop i).drop (i + [y].length) = xs.take i ++ y :: xs.drop i := by
  have h1 : ((xs ++ js).take (i + 1)).length = i + 1 := by rw [List.length_take, List.length_append]; omega
  rw [List.take_append_of_le_length (by omega), List.take_take, Nat.min_eq_left (by omega), List.take_append_of_le_length (by omega), List.drop_append, List.drop_of_length_le (by simp; omega), h1]
  simp
theorem ins_len (hi : i < xs.length) (hj : js.length + xs.length = xs.length + 1) : ((xs ++ js).take (i + 1) ++ xs.drop i).length = xs.length + 1 := by
  simp only [List.length_append, List.length_take, List.length_drop]
  omega
theorem ins_src (hi : i < xs.length) : ((xs ++ js).drop i).take (xs.drop i).length = xs.drop i := by
  rw [List.drop_append_of_le_length (by omega), List.take_left]
theorem ins_all (hi : i = xs.length) : xs ++ [y] = xs.take i ++ y :: xs.drop i := by
  subst hi
  simp
theorem ins_ones (h1 : ∀ c ∈ xs, ones c = true) (q : Nat) : ∀ c ∈ xs.drop q, ones c = true := fun c hc => h1 c (List.mem_of_mem_drop hc)
end
end Go.Proofs.Ytjbikemecdlolaa.A
/-
  The second engine: 'make([]T, n)' as a row of one's own; texts in order.
-/
namespace Go.Proofs.Ytjbikemecdlolaa.A
open Go.RowKit

section
variable {P : Program} {n : Nat} {W : Wd} {σ τ : Blks} {l : Slots} {X : List Nat} {x y : Operand} {d : Option Nat} {ty t e : TypeId} {pos : String} {aft : Array Edge} {g : Option (Nat × Bool)} {tab : List (Nat × TI)} {k k' : IntKind} {r : Int} {m : Nat} {z : Value}
theorem Eff.makeOwn (hT : TabOk P tab) {j : TI} (hu : P.underlying t = some (.slice e)) (hj : ti tab e = some j) (hsz : Nat.beq j.size 1 = true) (hz : j.zero = [z]) (hx : look l x = some (.v (.int k r))) (hy : look l y = some (.v (.int k' r))) (hr : r = (m : Nat)) (hm : m ≤ maxLen) (hby : P.bytesOf e * m ≤ 281474976710656) :
    Eff P n W σ l [] ⟨d, .makeSlice t x y, ty, pos, aft, g⟩ fun u τ => ∃ v, u = .v v ∧ τ = own e 1 v (List.replicate m [.v z]) :: σ := fun a w hs => by
  subst hr
  have hsz := Nat.eq_of_beq_eq_true hsz
  obtain ⟨I, hI, hIs, zv, hzv, hzc⟩ := (hT e j hj).info
  have hbi := bytes_of hI
  obtain ⟨w', hrun, h1, h2⟩ := run_make_full (P := P) w 0 t e I zv 1 hu hI hzv (by rw [hIs, hsz]) k k' m (by rw [← hbi]; exact hby) hm (Nat.zero_le _)
  have hxx : Ext [] w w' := ext_grown h2 (by simp)
  have hcs : (madeCells zv.cells (m * 1)).toList = List.replicate m z := by
    rw [hzc, hz, Nat.mul_one]
    apply List.ext_getElem
    · simp [size_madeCells]
    · intro i h3 h4
      simp [madeCells, Nat.mod_one]
  rw [hcs] at h1
  have hnew := hs.mem.new (y := own e 1 (.slice (some ⟨w.heap.size, 0, none⟩) m m) (List.replicate m [.v z])) hxx own_nodup (by simp [It.mids, ownPc, Value.ownBlock]) rfl fun hc => ⟨List.replicate m z, by rw [List.length_replicate]; exact h1, repss_rep m⟩
  refine ⟨_, w', _, _, ⟨_, rfl, rfl⟩, hxx, rfl, hnew.1, hnew.2, .inl ?_⟩
  simp [execOp, hs.plain hx, hs.plain hy, hrun, Result.andThen]
end
end Go.Proofs.Ytjbikemecdlolaa.A
/-
  The second engine: elements struck out of a row of one's own ('append(s[:i], s[j:]...)', 'clear' of what is left behind).
-/
namespace Go.Proofs.Ytjbikemecdlolaa.A
open Go.RowKit

/-- What lies behind a row's end, up to q. -/
def tailV (s : Nat) : Value → Nat → Value
  | .slice (some a) m c, q => .slice (some ⟨a.block, a.off + m * s, none⟩) (q - m) (c - m)
  | v, _ => v
section
variable {P : Program} {n : Nat} {W : Wd} {σ τ : Blks} {l : Slots} {X : List Nat} {x y z : Operand} {d : Option Nat} {ty t t' e e' : TypeId} {pos : String} {aft : Array Edge} {g : Option (Nat × Bool)} {v u : Value} {k k' : IntKind} {tab : List (Nat × TI)} {xs ys : List (List Abs)} {s q r : Nat} {ops : Array Oper} {rest : List Oper} {Q : Exit → Act → World → Prop}
theorem Val.tail (hT : TabOk P tab) {j : TI} (hu : P.underlying t = some (.slice e)) (hj : ti tab e = some j) (h1 : Nat.beq j.size s = true) (hx : look l x = some (.v v)) (hb : own e' s v xs ∈ σ) {r1 r2 : Int} (hy : look l y = some (.v (.int k r1))) (hz : look l z = some (.v (.int k' r2))) (hr1 : r1 = (xs.length : Nat)) (hr2 : r2 = (q : Nat)) (hq : xs.length < q) (hc : q ≤ capV v) :
    Val P n W σ l X ⟨d, .slice t x (some y) (some z) none, ty, pos, aft, g⟩ (.v (tailV s v q)) := fun a w hs _ => by
  subst hr1 hr2
  have h1 := Nat.eq_of_beq_eq_true h1
  obtain ⟨us, hown, _⟩ := own_hold hs hb
  rcases hown.2 with ⟨rfl, h0⟩ | ⟨gb, c, cur, rfl, _, _, hn, _⟩
  · simp [capV] at hc; omega
  · simp only [capV] at hc
    refine ⟨_, rfl, fun w' _ => ?_⟩
    have h7 := (hT _ _ hj).sizeOf (w := w')
    have e1 : a.eval x = .slice (some ⟨gb, 0, none⟩) xs.length c := hs.plain hx
    have e2 : a.eval y = .int k ((xs.length : Nat) : Int) := hs.plain hy
    have e3 : a.eval z = .int k' ((q : Nat) : Int) := hs.plain hz
    have hcm : ¬ c = xs.length := by omega
    have hle : xs.length ≤ q := by omega
    simp [execOp, Instr.sliceAt, Instr.slice, Instr.sliceBounds, Instr.sliceBound, asIntOf, e1, e2, e3, run_underlying hu, Sem.run_bind, Result.andThen, h7, h1, hle, hc, hcm, Addr.add, tailV]
    try (intro h9; exact h9.symm)
/-- 's[i:j:m]'. -/
def cut3 (s : Nat) : Value → Nat → Nat → Nat → Value
  | .slice (some a) _ _, i, j, m => .slice (some (if m = i then a else ⟨a.block, a.off + i * s, none⟩)) (j - i) (m - i)
  | v, _, _, _ => v
theorem Val.cut3 {z3 : Operand} {k3 : IntKind} {i j : Nat} (hT : TabOk P tab) {I : TI} (hu : P.underlying t = some (.slice e)) (hj : ti tab e = some I) (h1 : Nat.beq I.size s = true) (hx : look l x = some (.v v)) (hb : own e' s v xs ∈ σ) {r1 r2 r3 : Int} (hy : look l y = some (.v (.int k r1))) (hz : look l z = some (.v (.int k' r2))) (hz3 : look l z3 = some (.v (.int k3 r3))) (hr1 : r1 = (i : Nat)) (hr2 : r2 = (j : Nat)) (hr3 : r3 = (xs.length : Nat)) (hij : i ≤ j) (hjn : j < xs.length) :
    Val P n W σ l X ⟨d, .slice t x (some y) (some z) (some z3), ty, pos, aft, g⟩ (.v (cut3 s v i j xs.length)) := fun a w hs _ => by
  subst hr1 hr2 hr3
  have h1 := Nat.eq_of_beq_eq_true h1
  obtain ⟨us, hown, _⟩ := own_hold hs hb
  rcases hown.2 with ⟨rfl, h0⟩ | ⟨gb, c, cur, rfl, _, _, hn, _⟩
  · omega
  · refine ⟨_, rfl, fun w' _ => ?_⟩
    have h7 := (hT _ _ hj).sizeOf (w := w')
    have e1 : a.eval x = .slice (some ⟨gb, 0, none⟩) xs.length c := hs.plain hx
    have e2 : a.eval y = .int k ((i : Nat) : Int) := hs.plain hy
    have e3 : a.eval z = .int k' ((j : Nat) : Int) := hs.plain hz
    have e4 : a.eval z3 = .int k3 ((xs.length : Nat) : Int) := hs.plain hz3
    have hcm : ¬ xs.length = i := by omega
    have hle : j ≤ xs.length := by omega
    simp [execOp, Instr.sliceAt, Instr.slice, Instr.sliceBounds, Instr.sliceBound, asIntOf, e1, e2, e3, e4, run_underlying hu, Sem.run_bind, Result.andThen, h7, h1, hle, hij, hn, hcm, Addr.add, A.cut3]
    try (intro h9; exact h9.symm)
theorem SC.ownCap {c : Code} (hb : own e s v xs ∈ σ) (k : xs.length ≤ capV v → SC P c (St n W σ l) Q) : SC P c (St n W σ l) Q := fun a w h => by
  refine k ?_ a w h
  obtain ⟨us, hown, _⟩ := own_hold h hb
  rcases hown.2 with ⟨rfl, h0⟩ | ⟨gb, c, cur, rfl, _, _, hn, _⟩
  · omega
  · exact hn
theorem cutTo_cap (v : Value) (q : Nat) : capV (cutTo v q) = capV v := by cases v <;> rfl
theorem zero_one {zs : List Value} (h : zs.all Value.oneCell' = true) (k : Nat) : ∀ u ∈ (Builtin.zeroCells zs.toArray k).toList, u.oneCell' = true := fun u hu => by
  unfold Builtin.zeroCells at hu
  simp only [Array.toList_map, List.mem_map] at hu
  obtain ⟨i, hi, rfl⟩ := hu
  have hi2 : i < k * zs.toArray.size := by simpa using hi
  have hpos : 0 < zs.toArray.size := by
    rcases Nat.eq_zero_or_pos zs.toArray.size with h0 | h0
    · rw [h0] at hi2; simp at hi2
    · exact h0
  have hlt : i % zs.toArray.size < zs.toArray.size := Nat.mod_lt _ hpos
  rw [getElem!_pos zs.toArray _ hlt]
  exact List.all_eq_true.1 h _ (by simp)
/-- 'clear' of what lies behind a row's end. -/
theorem Eff.clearTail (hT : TabOk P tab) {j : TI} (hu : P.underlying t = some (.slice e)) (hj : ti tab e = some j) (hsz : Nat.beq j.size s = true) (h1 : j.zero.all Value.oneCell' = true) (hx : look l x = some (.v (tailV s v q))) (hq : xs.length < q) (hc : q ≤ capV v) (hup : Upd (own e s v xs) (own e s v xs) σ τ) :
    Eff P n W σ l v.ownBlock.toList ⟨d, .call { callee := .builtin .clear, args := #[x], argTypes := #[t] }, ty, pos, aft, g⟩ fun u τ' => u = .tup [] ∧ τ' = τ := fun ac w hst => by
  have hsz := Nat.eq_of_beq_eq_true hsz
  obtain ⟨us, hown, hr⟩ := own_hold hst hup.mem
  obtain ⟨I, hI, hIs, zv, hzv, hzc⟩ := (hT e j hj).info
  have hzl := (hT e j hj).len
  rcases hown.2 with ⟨rfl, h0⟩ | ⟨gb, cap, cur, rfl, hbase, hg, hn, hcap, hcs, htk⟩
  · simp [capV] at hc; omega
  simp only [capV] at hc
  have hzs : zv.cells.size = s := by rw [hzc, List.size_toArray, hzl, hsz]
  obtain ⟨k, hk⟩ : ∃ k, q - xs.length = k + 1 := ⟨q - xs.length - 1, by omega⟩
  have hzlen : (Builtin.zeroCells zv.cells (k + 1)).toList.length = (k + 1) * s := by
    rw [Array.length_toList]
    simp [Builtin.zeroCells, hzs]
  have hb1 : xs.length * s + (k + 1) * s ≤ cap * s := by rw [← Nat.add_mul]; exact Nat.mul_le_mul_right _ (by omega)
  have hrun := run_storeCells_at (P := P) gb (xs.length * s) e (Builtin.zeroCells zv.cells (k + 1)).toList 0 cur w hg (by rw [hzlen, hcs]; omega) (by rw [hzc]; exact zero_one h1 _)
  have hxx : Ext (Value.ownBlock (.slice (some ⟨gb, 0, none⟩) xs.length cap)).toList w (w.setRow gb (cur.toList.take (xs.length * s + 0) ++ (Builtin.zeroCells zv.cells (k + 1)).toList ++ cur.toList.drop (xs.length * s + 0 + (Builtin.zeroCells zv.cells (k + 1)).toList.length)).toArray) := (Ext.refl w).setRow (.inl (by simp [Value.ownBlock])) _
  have hm := hst.mem.upd hup hxx own_nodup (fun k hk => .inl hk) rfl fun hca => ⟨us, ⟨hown.1, .inr ⟨gb, cap, _, rfl, hbase, setRow_heap w gb cur _ e (0, 0) hg, hn, hcap, ?_, ?_⟩⟩, repss_carry hca _ _ _ hr⟩
  · refine ⟨.tuple #[], _, _, _, ⟨rfl, rfl⟩, hxx, ⟨[], rfl, rfl⟩, hm.1, hm.2, .inl ?_⟩
    have hx2 : ac.eval x = .slice (some ⟨gb, 0 + xs.length * s, none⟩) (q - xs.length) (cap - xs.length) := hst.plain hx
    rw [Nat.zero_add, hk] at hx2
    have hz2 : (zeroValue e).run P w = .ok zv w := by
      simp [zeroValue, typeInfo, hI, hzv, Sem.run_bind, Result.andThen]
    have hcl : (Builtin.clear_ #[t] ty #[.slice (some ⟨gb, xs.length * s, none⟩) (k + 1) (cap - xs.length)]).run P w = .ok (.tuple #[]) (w.setRow gb (cur.toList.take (xs.length * s + 0) ++ (Builtin.zeroCells zv.cells (k + 1)).toList ++ cur.toList.drop (xs.length * s + 0 + (Builtin.zeroCells zv.cells (k + 1)).toList.length)).toArray) := by
      simp [Builtin.clear_, run_underlying hu, hz2, Sem.run_bind, Result.andThen] at hrun ⊢
      try simp_all
    simp [execOp, resolve, invoke, builtin, hx2, hcl, Result.andThen]
  · simp only [List.size_toArray, List.length_append, List.length_take, List.length_drop, Array.length_toList] at hzlen ⊢
    omega
  · rw [← htk]
    have h9 : xs.length * s ≤ cur.toList.length := by rw [Array.length_toList (xs := cur), hcs]; omega
    simp only [Nat.add_zero, List.append_assoc]
    rw [List.take_append_of_le_length (by rw [List.length_take]; omega), List.take_take, Nat.min_self]
/-- 'append(s[:q], s[r:]...)'. -/
theorem Eff.appendSelf (hT : TabOk P tab) {i : TI} (hu : P.underlying t = some (.slice e)) (hi : ti tab e = some i) (hsz : Nat.beq i.size s = true) (hx : look l x = some (.v (cutTo v q))) (hy : look l y = some (.v (cutS s v r))) (hqr : q ≤ r) (hr : r < xs.length) (h1 : ∀ c ∈ xs, ones c = true) (hz : xs.take q ++ xs.drop r = ys) (hup : Upd (own e s v xs) (own e s (cutTo v ys.length) ys) σ τ) :
    Eff P n W σ l v.ownBlock.toList ⟨d, .call { callee := .builtin .append, args := #[x, y], argTypes := #[t, t] }, ty, pos, aft, g⟩ fun u τ' => u = .v (cutTo v ys.length) ∧ τ' = τ := fun a w hs => by
  have hsz := Nat.eq_of_beq_eq_true hsz
  obtain ⟨us, hown, hrp⟩ := own_hold hs hup.mem
  obtain ⟨I, hI, hIs, _⟩ := (hT e i hi).info
  rcases hown.2 with ⟨rfl, h0⟩ | ⟨gb, cap, cur, rfl, hbase, hg, hn, hcap, hcs, htk⟩
  · omega
  have hcr : ¬ cap = r := by omega
  have e1 : a.eval x = .slice (some ⟨gb, 0, none⟩) q cap := hs.plain hx
  have e2 : a.eval y = .slice (some ⟨gb, 0 + r * s, none⟩) (xs.length - r) (cap - r) := by
    have := hs.plain hy
    simp only [cutS, hcr, if_false] at this
    exact this
  have hyl : ys.length = q + (xs.length - r) := by rw [← hz, List.length_append, List.length_take, List.length_drop]; omega
  have hlen := hown.1
  have hone := repss_ones1 h1 hrp
  have hq2 := (repss_cut hrp q (by omega)).1
  have hr2 := (repss_cut hrp r (by omega)).2
  have hqs : q * s ≤ xs.length * s := Nat.mul_le_mul_right _ (by omega)
  have hrs : r * s ≤ xs.length * s := Nat.mul_le_mul_right _ (by omega)
  have hnc : xs.length * s ≤ cap * s := Nat.mul_le_mul_right _ hn
  have hown2 : w.ownsRow 0 e s (.slice (some ⟨gb, 0, none⟩) q cap) q (us.take (q * s)) := by
    refine ⟨by rw [List.length_take, hlen]; omega, .inr ⟨gb, cap, cur, rfl, hbase, hg, by omega, hcap, hcs, ?_⟩⟩
    rw [← htk, List.take_take, Nat.min_eq_left hqs]
  obtain ⟨w', hrun, h2, h3⟩ := run_append_own_spare (P := P) w 0 t ty e I s hu hI (by rw [hIs, hsz]) gb q cap (us.take (q * s)) hown2 ⟨gb, 0 + r * s, none⟩ (xs.length - r) (cap - r) (us.drop (r * s)) (by rw [List.length_drop, hlen, ← Nat.sub_mul]) (fun j u hj => by
      rw [List.getElem?_drop, ← htk, List.getElem?_take] at hj
      split at hj
      · rw [Addr.add_none, Nat.zero_add]
        simp only [World.cell?, hg]
        simpa using hj
      · cases hj) (fun u hu => hone u (List.mem_of_mem_drop hu)) (by omega)
  have hxx : Ext (Value.ownBlock (.slice (some ⟨gb, 0, none⟩) xs.length cap)).toList w w' := ext_grownF h3 fun k hk => .inl (by simpa [Value.ownBlock, eq_comm] using hk)
  have hm2 := hs.mem.upd hup hxx own_nodup (fun k hk => .inl (by simpa [It.mids, ownPc, cutTo_block] using hk)) rfl fun hca => ⟨us.take (q * s) ++ us.drop (r * s), by
      rw [hyl]; exact h2, hz ▸ repss_append (repss_carry hca _ _ _ hq2) (repss_carry hca _ _ _ hr2)⟩
  refine ⟨_, w', _, _, ⟨rfl, rfl⟩, hxx, rfl, hm2.1, hm2.2, .inl ?_⟩
  simp only [cutTo, hyl]
  simp only [Nat.zero_add] at hrun e2 ⊢
  simp [execOp, resolve, invoke, builtin, e1, e2, hrun, Result.andThen]
end
end Go.Proofs.Ytjbikemecdlolaa.A
/-
  Points: what Go's library does with them.
-/
namespace Go.Proofs.Ytjbikemecdlolaa.A
open Go.RowKit

def cmpZ (a b : Int) : Int := if a < b then -1 else if b < a then 1 else 0
theorem cmpZ_lt {a b : Int} : cmpZ a b < 0 ↔ a < b := by
  unfold cmpZ
  split
  · simp_all
  · split <;> simp_all
theorem cmpZ_eq {a b : Int} : cmpZ a b = 0 ↔ a = b := by
  unfold cmpZ
  split
  · simp; omega
  · split
    · simp; omega
    · simp; omega
theorem pnts_ones (ps : List Pnt) : ∀ c ∈ ps.map Pnt.abs, ones c = true := fun c hc => by
  obtain ⟨p, _, rfl⟩ := List.mem_map.1 hc
  exact p.ones
section
variable {x : Pnt} {l : List Pnt} {s : Int}
theorem isnan_s  : Spec Try.prog 46 [int s] [] (fun _ : Unit => []) (fun _ => boo false) := by
 refine spec_of Try.func46 rfl Try.ntmps46 rfl fun G w => ?_
 refine SC.seq (SC.region ?_)
 refine SL.val (Val.assign rfl) rfl rfl ?_
 refine SL.nil (SE.seq ?_)
 refine SC.seq (SC.region ?_)
 iterate 2 refine SL.val (Val.move rfl) rfl rfl ?_
 refine SL.val (Val.neI rfl rfl) rfl rfl ?_
 refine SL.val (Val.assign rfl) rfl rfl ?_
 refine SL.nil (SE.seq ?_)
 refine SC.ret ?_
 refine SE.fin (rs := [.tmp 2]) rfl (RV.tmp rfl RV.nil) (()) (by repeat first|exact s0_ _|exact s1_ _|apply s2_|apply s3_) (by simp [It.rids]) ?_
 refine congrArg (fun b => Abs.v (Value.bool b)) ?_
 exact decide_eq_false (by simp)
theorem cmp_s  : Spec Try.prog 29 [int x.seq, int s] [] (fun _ : Unit => []) (fun _ => int (cmpZ x.seq s)) := by
 refine spec_of Try.func29 rfl Try.ntmps29 rfl fun G w => ?_
 refine SC.seq (SC.region ?_)
 refine SL.val (Val.assign rfl) rfl rfl ?_
 refine SL.nil (SE.seq ?_)
 refine SC.seq (SC.region ?_)
 refine SL.val (Val.move rfl) rfl rfl ?_
 refine SL.call (isnan_s) Casts.refl (by kernel_rfl) rfl rfl rfl ?_
 refine ap_ ?_
 intro _
 refine SL.val (Val.assign rfl) rfl rfl ?_
 refine SL.nil (SE.seq ?_)
 refine SC.seq (SC.region ?_)
 refine SL.val (Val.move rfl) rfl rfl ?_
 refine SL.call (isnan_s) Casts.refl (by kernel_rfl) rfl rfl rfl ?_
 refine ap_ ?_
 intro _
 refine SL.val (Val.assign rfl) rfl rfl ?_
 refine SL.nil (SE.seq ?_)
 refine SC.seq ?_
 refine SC.seq (SC.region ?_)
 refine SL.val (Val.move rfl) rfl rfl ?_
 refine SL.nil (SE.seq ?_)
 refine SC.condF rfl ?_
 refine SC.skip ?_
 refine SE.seq ?_
 refine SC.seq ?_
 refine SC.seq (SC.region ?_)
 refine SL.val (Val.move rfl) rfl rfl ?_
 refine SL.nil (SE.seq ?_)
 refine SC.condF rfl ?_
 refine SC.skip ?_
 refine SE.seq ?_
 refine SC.seq ?_
 refine SC.seq (SC.region ?_)
 iterate 2 refine SL.val (Val.move rfl) rfl rfl ?_
 refine SL.val (Val.ltI rfl rfl) rfl rfl ?_
 refine SL.nil (SE.seq ?_)
 refine SC.condP rfl ?_ ?_
 ·intro hc16
  refine SC.seq (SC.region ?_)
  refine SL.val (Val.assign rfl) rfl rfl ?_
  refine SL.nil (SE.seq ?_)
  refine SC.ret ?_
  refine SE.then_ nofun ?_
  refine SE.fin (rs := [.tmp 4]) rfl (RV.tmp rfl RV.nil) (()) (by repeat first|exact s0_ _|exact s1_ _|apply s2_|apply s3_) (by simp [It.rids]) ?_
  refine congrArg int ?_
  unfold cmpZ
  first
   | (rw [if_pos hc16]; done)
   | (rw [if_neg hc16, if_pos hc19]; done)
   | (rw [if_neg hc16, if_neg hc19]; done)
 intro hc16
 refine SC.skip ?_
 refine SE.seq ?_
 refine SC.seq ?_
 refine SC.seq (SC.region ?_)
 iterate 2 refine SL.val (Val.move rfl) rfl rfl ?_
 refine SL.val (Val.gtI rfl rfl) rfl rfl ?_
 refine SL.nil (SE.seq ?_)
 refine SC.condP rfl ?_ ?_
 ·intro hc19
  refine SC.seq (SC.region ?_)
  refine SL.val (Val.assign rfl) rfl rfl ?_
  refine SL.nil (SE.seq ?_)
  refine SC.ret ?_
  refine SE.then_ nofun ?_
  refine SE.fin (rs := [.tmp 4]) rfl (RV.tmp rfl RV.nil) (()) (by repeat first|exact s0_ _|exact s1_ _|apply s2_|apply s3_) (by simp [It.rids]) ?_
  refine congrArg int ?_
  unfold cmpZ
  first
   | (rw [if_pos hc16]; done)
   | (rw [if_neg hc16, if_pos hc19]; done)
   | (rw [if_neg hc16, if_neg hc19]; done)
 intro hc19
 refine SC.skip ?_
 refine SE.seq ?_
 refine SC.seq (SC.region ?_)
 refine SL.val (Val.assign rfl) rfl rfl ?_
 refine SL.nil (SE.seq ?_)
 refine SC.ret ?_
 refine SE.fin (rs := [.tmp 4]) rfl (RV.tmp rfl RV.nil) (()) (by repeat first|exact s0_ _|exact s1_ _|apply s2_|apply s3_) (by simp [It.rids]) ?_
 refine congrArg int ?_
 unfold cmpZ
 first
  | (rw [if_pos hc16]; done)
  | (rw [if_neg hc16, if_pos hc19]; done)
  | (rw [if_neg hc16, if_neg hc19]; done)
theorem vcmp_s  : Spec Try.prog 28 [.agg x.abs, int s] [] (fun _ : Unit => []) (fun _ => int (cmpZ x.seq s)) := by
 refine spec_of Try.func28 rfl Try.ntmps28 rfl fun G w => ?_
 refine SC.seq (SC.region ?_)
 refine SL.eff (Eff.boxA (cs := x.abs) rfl) rfl rfl ?_
 rintro _ _ ⟨b2, rfl, rfl⟩
 refine SL.val (Val.assign rfl) rfl rfl ?_
 refine SL.nil (SE.seq ?_)
 refine SC.seq (SC.region ?_)
 refine SL.val (Val.fieldAddr tabOk rfl rfl rfl rfl rfl) rfl rfl ?_
 refine SL.val (Val.to (C := int x.seq) (Val.load1 tabOk rfl rfl (by repeat first|assumption|exact o0_|exact o1_|apply o2_) List.not_mem_nil (by rfl)) rfl) rfl rfl ?_
 refine SL.val (Val.move rfl) rfl rfl ?_
 refine SL.call (cmp_s) Casts.refl (by kernel_rfl) rfl rfl rfl ?_
 refine ap_ ?_
 intro _
 refine SL.val (Val.assign rfl) rfl rfl ?_
 refine SL.nil (SE.seq ?_)
 refine SC.ret ?_
 refine SE.fin (rs := [.tmp 4]) rfl (RV.tmp rfl RV.nil) (()) (by repeat first|exact s0_ _|exact s1_ _|apply s2_|apply s3_) (by simp [It.rids]) ?_
 exact rfl
theorem bs_at {z : Nat × Nat} (hl : Rising l) (hz : z.1 ≤ z.2 ∧ z.2 ≤ l.length ∧ (∀ j (hj : j < l.length), j < z.1 → l[j].seq < s) ∧ ∀ j (hj : j < l.length), z.2 ≤ j → ¬ l[j].seq < s) (h : ¬ z.1 < z.2) : lbP l s = z.1 :=
  lbP_eq hl (by omega) hz.2.2.1 fun j hj h2 => hz.2.2.2 j hj (by omega)
theorem bs_there {q : Nat} (hl : Rising l) (h : lbP l s = q) (hq : q < l.length) : thereP l s = decide (cmpZ l[q].seq s = 0) := by
  subst h
  rw [Bool.eq_iff_iff, thereP_at hl, decide_eq_true_eq, cmpZ_eq]
  exact ⟨fun ⟨_, h⟩ => h, fun h => ⟨hq, h⟩⟩
theorem bs_none {q : Nat} (hl : Rising l) (h : lbP l s = q) (hq : ¬ q < l.length) : thereP l s = false := by
  subst h
  rw [Bool.eq_false_iff]
  intro h2
  obtain ⟨h3, _⟩ := (thereP_at hl).1 h2
  exact hq h3
theorem bs_half {a b : Nat} : ((a : Int) + (b : Int)).fdiv (2 ^ (min (1 : Int).toNat IntKind.u64.bits)) = (((a + b) / 2 : Nat) : Int) := by
  have h : (2 : Int) ^ (min (1 : Int).toNat IntKind.u64.bits) = 2 := by decide
  rw [h, Int.fdiv_eq_ediv_of_nonneg _ (by omega)]
  omega
theorem bsearch_s (hl : Rising l) (hn : l.length ≤ 1000000) : Spec Try.prog 27 [pntsA l, int s, .fn (.func 28) [] []] [] (fun _ : Unit => []) (fun _ => .tup [int (lbP l s : Nat), boo (thereP l s)]) := by
 refine spec_of Try.func27 rfl Try.ntmps27 rfl fun G w => ?_
 refine SC.seq (SC.region ?_)
 iterate 2 refine SL.val (Val.assign rfl) rfl rfl ?_
 refine SL.nil (SE.seq ?_)
 refine SC.seq (SC.region ?_)
 refine SL.val (Val.move rfl) rfl rfl ?_
 first
  | refine SL.val (Val.lenSl rfl Try.underlying40 (List.length_map _)) rfl rfl ?_
  | refine SL.val (Val.lenOwn rfl (by repeat first|assumption|exact m0_|apply m1_) Try.underlying40 (List.length_map _)) rfl rfl ?_
  | refine SL.val (Val.lenNil rfl Try.underlying40) rfl rfl ?_
 refine SL.val (Val.assign rfl) rfl rfl ?_
 refine SL.nil (SE.seq ?_)
 refine SC.seq (SC.region ?_)
 refine SL.val (Val.move rfl) rfl rfl ?_
 iterate 2 refine SL.val (Val.assign rfl) rfl rfl ?_
 refine SL.nil (SE.seq ?_)
 refine SC.seq ?_
 refine SC.block ?_
 refine SC.loop (ι := Nat × Nat) (fun z => []) (fun z => [(0, pntsA l), (1, int s), (2, .fn (.func 28) [] []), (8, int (l.length : Nat)), (9, int (z.1 : Nat)), (10, int (z.2 : Nat))]) (fun z => z.1 ≤ z.2 ∧ z.2 ≤ l.length ∧ (∀ j (hj : j < l.length), j < z.1 → l[j].seq < s) ∧ ∀ j (hj : j < l.length), z.2 ≤ j → ¬ l[j].seq < s) (fun z => z.2 - z.1) (0, l.length) (⟨Nat.zero_le _, Nat.le_refl _, fun j hj h => by omega, fun j hj h => by omega⟩) (by exact ⟨rfl, rfl, rfl, rfl, rfl, rfl, trivial⟩) (by repeat first|exact s0_ _|exact s1_ _|apply s2_|apply s3_) ?_
 intro z hz
 refine SC.seq ?_
 refine SC.seq (SC.region ?_)
 iterate 2 refine SL.val (Val.move rfl) rfl rfl ?_
 refine SL.val (Val.ltI rfl rfl) rfl rfl ?_
 refine SL.nil (SE.seq ?_)
 refine SC.condP rfl ?_ ?_
 rotate_left
 ·intro hc17
  refine SC.exit ?_
  refine SE.then_ nofun ?_
  refine SE.then_ nofun ?_
  refine SE.exit ?_
  refine SE.seq ?_
  refine SC.seq (SC.region ?_)
  iterate 3 refine SL.val (Val.move rfl) rfl rfl ?_
  refine SL.val (Val.ltI rfl rfl) rfl rfl ?_
  refine SL.val (Val.move rfl) rfl rfl ?_
  refine SL.bothP (t := 39) rfl ?_ ?_
  rotate_left
  ·intro hc39
   iterate 8 refine SL.skip rfl rfl ?_
   refine SL.val (Val.pickF rfl rfl) rfl rfl ?_
   iterate 2 refine SL.val (Val.assign rfl) rfl rfl ?_
   refine SL.nil (SE.seq ?_)
   refine SC.ret ?_
   refine SE.fin (rs := [.tmp 6, .tmp 7]) rfl (RV.tmp rfl (RV.tmp rfl RV.nil)) (()) (by repeat first|exact s0_ _|exact s1_ _|apply s2_|apply s3_) (by simp [It.rids]) ?_
   have h5 := bs_at hl hz (by omega)
   rw [bs_none hl h5 (by omega), h5]
   rfl
  intro hc39
  iterate 3 refine SL.val (Val.move rfl) rfl rfl ?_
  refine SL.val (Val.indexSl tabOk Try.underlying40 rfl rfl rfl rfl (at_map (by omega)) rfl rfl) rfl rfl ?_
  refine SL.val (Val.loadAR tabOk rfl rfl rfl (Pnt.size _)) rfl rfl ?_
  refine SL.val (Val.move rfl) rfl rfl ?_
  refine SL.callv (vcmp_s (x := l[z.1]'(by omega))) rfl Casts.refl (by kernel_rfl) rfl rfl rfl ?_
  refine ap_ ?_
  intro _
  refine SL.val (Val.eqI rfl rfl) rfl rfl ?_
  refine SL.val (Val.pickT rfl rfl) rfl rfl ?_
  iterate 2 refine SL.val (Val.assign rfl) rfl rfl ?_
  refine SL.nil (SE.seq ?_)
  refine SC.ret ?_
  refine SE.fin (rs := [.tmp 6, .tmp 7]) rfl (RV.tmp rfl (RV.tmp rfl RV.nil)) (()) (by repeat first|exact s0_ _|exact s1_ _|apply s2_|apply s3_) (by simp [It.rids]) ?_
  have h5 := bs_at hl hz (by omega)
  rw [bs_there hl h5 (by omega), h5]
  rfl
 intro hc17
 have hm2 : ((z.1 + z.2) / 2) < l.length := by omega
 refine SC.skip ?_
 refine SE.seq ?_
 refine SC.block ?_
 refine SC.seq (SC.region ?_)
 iterate 2 refine SL.val (Val.move rfl) rfl rfl ?_
 first
  | refine SL.val (Val.addI rfl rfl (by simp only [InR, lo, hi]; omega)) rfl rfl ?_
  | refine SL.val (Val.addW rfl rfl) rfl rfl ?_
 first
  | refine SL.val (Val.convI rfl Try.underlying80 (by kernel_rfl) (by simp only [InR, lo, hi]; omega)) rfl rfl ?_
  | refine SL.val (Val.convU rfl Try.underlying80 (by kernel_rfl)) rfl rfl ?_
 refine SL.val (Val.to (C := .v (.int .u64 ((((z.1 + z.2) / 2) : Nat) : Int))) (Val.shrI rfl rfl (by decide)) (congrArg (fun r => Abs.v (.int .u64 r)) bs_half)) rfl rfl ?_
 first
  | refine SL.val (Val.convI rfl Try.underlying3 (by kernel_rfl) (by simp only [InR, lo, hi]; omega)) rfl rfl ?_
  | refine SL.val (Val.convW rfl Try.underlying3 (by kernel_rfl)) rfl rfl ?_
 refine SL.val (Val.assign rfl) rfl rfl ?_
 refine SL.nil (SE.seq ?_)
 refine SC.seq (SC.region ?_)
 iterate 3 refine SL.val (Val.move rfl) rfl rfl ?_
 refine SL.val (Val.indexSl tabOk Try.underlying40 rfl rfl rfl rfl (at_map (by omega)) rfl rfl) rfl rfl ?_
 refine SL.val (Val.loadAR tabOk rfl rfl rfl (Pnt.size _)) rfl rfl ?_
 refine SL.val (Val.move rfl) rfl rfl ?_
 refine SL.callv (vcmp_s (x := l[((z.1 + z.2) / 2)]'hm2)) rfl Casts.refl (by kernel_rfl) rfl rfl rfl ?_
 refine ap_ ?_
 intro _
 refine SL.val (Val.ltI rfl rfl) rfl rfl ?_
 refine SL.nil (SE.seq ?_)
 refine SC.condP rfl ?_ ?_
 rotate_left
 ·intro hc31
  have hs9 : ¬ (l[((z.1 + z.2) / 2)]'hm2).seq < s := fun h => hc31 (cmpZ_lt.2 h)
  refine SC.region ?_
  refine SL.val (Val.move rfl) rfl rfl ?_
  refine SL.val (Val.assign rfl) rfl rfl ?_
  refine SL.nil ?_
  refine SE.inBlock ?_
  refine SE.round (z.1, ((z.1 + z.2) / 2)) (by first | omega | (dsimp only; omega)) (⟨by dsimp only; omega, by dsimp only; omega, hz.2.2.1, fun j hj h2 => by
   have h3 : l[((z.1 + z.2) / 2)].seq ≤ l[j].seq := by
    rcases Nat.lt_or_ge ((z.1 + z.2) / 2) j with h4 | h4
    ·exact Int.le_of_lt (List.pairwise_iff_getElem.1 hl ((z.1 + z.2) / 2) j hm2 hj h4)
    ·obtain rfl : j = ((z.1 + z.2) / 2) := by omega
     exact Int.le_refl _
   omega⟩) (by exact ⟨rfl, rfl, rfl, rfl, rfl, rfl, trivial⟩) (by repeat first|exact s0_ _|exact s1_ _|apply s2_|apply s3_)
 intro hc31
 have hs9 : (l[((z.1 + z.2) / 2)]'hm2).seq < s := cmpZ_lt.1 hc31
 refine SC.region ?_
 refine SL.val (Val.move rfl) rfl rfl ?_
 first
  | refine SL.val (Val.addI rfl rfl (by simp only [InR, lo, hi]; omega)) rfl rfl ?_
  | refine SL.val (Val.addW rfl rfl) rfl rfl ?_
 refine SL.val (Val.assign rfl) rfl rfl ?_
 refine SL.nil ?_
 refine SE.inBlock ?_
 refine SE.round (((z.1 + z.2) / 2) + 1, z.2) (by first | omega | (dsimp only; omega)) (⟨by dsimp only; omega, hz.2.1, fun j hj h2 => by
  have h3 : l[j].seq ≤ l[((z.1 + z.2) / 2)].seq := by
   rcases Nat.lt_or_ge j ((z.1 + z.2) / 2) with h4 | h4
   ·exact Int.le_of_lt (List.pairwise_iff_getElem.1 hl j ((z.1 + z.2) / 2) hj hm2 h4)
   ·obtain rfl : j = ((z.1 + z.2) / 2) := by omega
    exact Int.le_refl _
  omega, hz.2.2.2⟩) (by exact ⟨rfl, rfl, rfl, rfl, rfl, rfl, trivial⟩) (by repeat first|exact s0_ _|exact s1_ _|apply s2_|apply s3_)
theorem clone_pnt_s {xs : List (List Abs)} (h1 : ∀ c ∈ xs, ones c = true) (hn : xs.length ≤ 1000000) : Spec Try.prog 31 [.sl 33 xs] [] (fun r : Value => [own 27 33 r xs]) (fun r => .v r) := by
 refine spec_of Try.func31 rfl Try.ntmps31 rfl fun G w => ?_
 refine SC.seq (SC.region ?_)
 refine SL.val (Val.assign rfl) rfl rfl ?_
 refine SL.nil (SE.seq ?_)
 refine SC.seq ?_
 refine SC.seq (SC.region ?_)
 refine SL.val (Val.move rfl) rfl rfl ?_
 refine SL.eqNil Try.underlying40 rfl rfl rfl ?_
 intro b hb
 refine SL.nil (SE.seq ?_)
 refine SC.cond rfl ?_ ?_
 ·intro hc4
  have hnil : xs = [] := hb hc4
  subst hnil
  refine SC.seq ?_
  refine SC.own0 27 33 ?_
  refine SC.region ?_
  refine SL.val (Val.assign rfl) rfl rfl ?_
  refine SL.nil (SE.seq ?_)
  refine SC.ret ?_
  refine SE.then_ nofun ?_
  refine SE.fin (rs := [.tmp 2]) rfl (RV.tmp rfl RV.nil) (.slice none 0 0) (by repeat first|exact s0_ _|exact s1_ _|apply s2_|apply s3_) (by simp [It.rids]) ?_
  exact rfl
 intro hc4
 refine SC.skip ?_
 refine SE.seq ?_
 refine SC.seq (SC.region ?_)
 refine SL.eff (Eff.buildOwn tabOk Try.underlying40 rfl rfl rfl rfl rfl rfl rfl) rfl rfl ?_
 rintro _ _ ⟨r5, rfl, rfl⟩
 refine SL.val (Val.move rfl) rfl rfl ?_
 refine SL.eff (Eff.appendE (zs := xs) tabOk [] rfl Try.underlying40 rfl rfl rfl rfl rfl rfl h1 (by unfold maxLen; simp only [List.length_nil]; omega) (by rw [show Try.prog.bytesOf 27 = 40 by kernel_rfl]; simp only [List.length_nil]; omega)) rfl rfl ?_
 rintro _ _ ⟨r7, rfl, rfl⟩
 refine SL.val (Val.assign rfl) rfl rfl ?_
 refine SL.nil (SE.seq ?_)
 refine SC.ret ?_
 refine SE.fin (rs := [.tmp 2]) rfl (RV.tmp rfl RV.nil) (r7) (by repeat first|exact s0_ _|exact s1_ _|apply s2_|apply s3_) (by simp [It.rids]) ?_
 exact rfl
theorem ins_pnt {v u : Value} {xs : List (List Abs)} {y : List Abs} {i : Nat} (hil : i ≤ xs.length) (h1 : ∀ c ∈ xs, ones c = true) (hy : ones y = true) (hn : xs.length ≤ 1000000) : Spec Try.prog 30 [.v v, int (i : Nat), .v u] [own 27 33 u [y], own 27 33 v xs] (fun r : Value => [own 27 33 r (xs.take i ++ y :: xs.drop i)]) (fun r => .v r) := by
 refine spec_of Try.func30 rfl Try.ntmps30 rfl fun G w => ?_
 refine SC.seq (SC.region ?_)
 refine SL.val (Val.assign rfl) rfl rfl ?_
 refine SL.nil (SE.seq ?_)
 refine SC.seq (SC.region ?_)
 iterate 2 refine SL.val (Val.move rfl) rfl rfl ?_
 refine SL.val (Val.cutLo (s := 33) (q := i) tabOk Try.underlying40 rfl rfl rfl (by repeat first|assumption|exact m0_|apply m1_) rfl (by omega) (by first | omega | (simp only [List.length_append, List.length_take, List.length_drop, List.length_cons, List.length_nil]; omega))) rfl rfl ?_
 refine SL.nil (SE.seq ?_)
 refine SC.seq (SC.region ?_)
 refine SL.val (Val.move rfl) rfl rfl ?_
 refine SL.val (Val.lenOwn (m := 1) rfl (by repeat first|assumption|exact m0_|apply m1_) Try.underlying40 rfl) rfl rfl ?_
 refine SL.val (Val.assign rfl) rfl rfl ?_
 refine SL.nil (SE.seq ?_)
 refine SC.seq ?_
 refine SC.seq (SC.region ?_)
 refine SL.val (Val.move rfl) rfl rfl ?_
 refine SL.val (Val.eqI rfl rfl) rfl rfl ?_
 refine SL.nil (SE.seq ?_)
 refine SC.condP rfl (by intro hc16; exfalso; omega) ?_
 intro hc16
 refine SC.skip ?_
 refine SE.seq ?_
 refine SC.seq (SC.region ?_)
 refine SL.val (Val.move rfl) rfl rfl ?_
 refine SL.val (Val.lenOwn (m := xs.length) rfl (by repeat first|assumption|exact m0_|apply m1_) Try.underlying40 rfl) rfl rfl ?_
 refine SL.val (Val.assign rfl) rfl rfl ?_
 refine SL.nil (SE.seq ?_)
 refine SC.seq ?_
 refine SC.seq (SC.region ?_)
 iterate 2 refine SL.val (Val.move rfl) rfl rfl ?_
 refine SL.val (Val.eqI rfl rfl) rfl rfl ?_
 refine SL.nil (SE.seq ?_)
 refine SC.condP rfl ?_ ?_
 ·intro hc22
  refine SC.seq ?_
  refine SC.freeze [] (t := 2) rfl rfl ?_
  refine SC.region ?_
  iterate 2 refine SL.val (Val.move rfl) rfl rfl ?_
  refine SL.eff (Eff.append tabOk [] Try.underlying40 rfl rfl rfl rfl rfl rfl (by intro c hc; rw [List.mem_singleton] at hc; subst hc; exact hy) (by unfold maxLen; simp; omega) (by rw [show Try.prog.bytesOf 27 = 40 by kernel_rfl]; simp; omega)) rfl rfl ?_
  rintro _ _ ⟨r25, rfl, rfl⟩
  refine SL.val (Val.assign rfl) rfl rfl ?_
  refine SL.nil (SE.seq ?_)
  refine SC.ret ?_
  refine SE.then_ nofun ?_
  refine SE.fin (rs := [.tmp 6]) rfl (RV.tmp rfl RV.nil) (r25) (by rw [← ins_all (y := y) (by omega : i = xs.length)]; exact List.Sublist.refl _) (by simp [It.rids]) ?_
  exact rfl
 intro hc22
 have hlt : i < xs.length := by omega
 refine SC.skip ?_
 refine SE.seq ?_
 refine SC.seq ?_
 refine SC.seq (SC.region ?_)
 iterate 2 refine SL.val (Val.move rfl) rfl rfl ?_
 first
  | refine SL.val (Val.addI rfl rfl (by simp only [InR, lo, hi]; omega)) rfl rfl ?_
  | refine SL.val (Val.addW rfl rfl) rfl rfl ?_
 refine SL.val (Val.move rfl) rfl rfl ?_
 refine SL.val (Val.capOwn rfl (by repeat first|assumption|exact m0_|apply m1_) Try.underlying40) rfl rfl ?_
 refine SL.val (Val.gtI rfl rfl) rfl rfl ?_
 refine SL.nil (SE.seq ?_)
 refine SC.condP rfl ?_ ?_
 ·intro hc31
  refine SC.seq (SC.region ?_)
  iterate 2 refine SL.val (Val.move rfl) rfl rfl ?_
  refine SL.val (Val.sliceOwnHi (s := 33) (q := i) tabOk Try.underlying40 rfl rfl (.inl (by repeat first|assumption|exact m0_|apply m1_)) rfl rfl (by omega)) rfl rfl ?_
  iterate 2 refine SL.val (Val.move rfl) rfl rfl ?_
  first
   | refine SL.val (Val.addI rfl rfl (by simp only [InR, lo, hi]; omega)) rfl rfl ?_
   | refine SL.val (Val.addW rfl rfl) rfl rfl ?_
  refine SL.val (Val.move rfl) rfl rfl ?_
  refine SL.val (Val.to (C := int ((xs.length + 1 - i : Nat) : Int)) (Val.subI rfl rfl (by simp only [InR, lo, hi]; omega)) (congrArg int (by omega))) rfl rfl ?_
  refine SL.eff (Eff.appendZeros (s := 33) (q := i) (m := xs.length + 1 - i) tabOk Try.underlying40 Try.underlying3 rfl rfl rfl rfl (by repeat first|assumption|exact m0_|apply m1_) rfl rfl (by omega) (by omega) (by omega) (by unfold maxLen; omega) (by rw [show Try.prog.bytesOf 27 = 40 by kernel_rfl]; omega)) rfl rfl ?_
  rintro _ _ ⟨r40, js, rfl, hjs, rfl⟩
  refine SL.val (Val.assign rfl) rfl rfl ?_
  refine SL.nil (SE.seq ?_)
  refine SC.seq (SC.region ?_)
  iterate 2 refine SL.val (Val.move rfl) rfl rfl ?_
  refine SL.val (Val.cutLo (s := 33) (q := i) tabOk Try.underlying40 rfl rfl rfl (by repeat first|assumption|exact m0_|apply m1_) rfl (by omega) (by first | omega | (simp only [List.length_append, List.length_take, List.length_drop, List.length_cons, List.length_nil]; omega))) rfl rfl ?_
  refine SL.val (Val.move rfl) rfl rfl ?_
  refine SL.eff (Eff.copyRow (s := 33) (q := i) (ys := [y]) (zs := xs.take i ++ y :: js.drop 1) tabOk Try.underlying40 rfl rfl rfl (by first | omega | (simp only [List.length_append, List.length_take, List.length_drop, List.length_cons, List.length_nil]; omega)) (Src.ofAll rfl (by repeat first|assumption|exact m0_|apply m1_) (by simp) (by first | omega | (simp only [List.length_append, List.length_take, List.length_drop, List.length_cons, List.length_nil]; omega))) (by first | exact ins_ones h1 _ | (intro c hc; rw [List.mem_singleton] at hc; subst hc; exact hy)) (ins_a hlt hjs) (by repeat first|assumption|exact Upd.here|apply Upd.there)) rfl rfl ?_
  rintro _ _ ⟨rfl, rfl⟩
  refine SL.nil (SE.seq ?_)
  refine SC.seq ?_
  refine SC.draw r40.ownBlock.toList (.q 0 (.q 1 (.q 2 (.q 3 (.q 4 (.q 5 (.q 6 (.q 7 (.e 8 .nil))))))))) (by kernel_rfl) (by kernel_rfl) ?_
  refine SX.hx (by first|(simp[mids,It.mids,ownPc];done)|(intro k hk;simp[mids,It.mids,ownPc] at hk ⊢;grind)) fun hx9 => ?_
  refine SX.val rfl (Val.move rfl) hx9 rfl rfl ?_
  refine SX.val rfl (Val.move rfl) hx9 rfl rfl ?_
  refine SX.val rfl (Val.move rfl) hx9 rfl rfl ?_
  first
   | refine SX.val rfl (Val.addI rfl rfl (by simp only [InR, lo, hi]; omega)) hx9 rfl rfl ?_
   | refine SX.val rfl (Val.addW rfl rfl) hx9 rfl rfl ?_
  refine SX.val rfl (Val.cutLo (s := 33) (q := i + 1) tabOk Try.underlying40 rfl rfl rfl (by repeat first|assumption|exact m0_|apply m1_) rfl (by omega) (by first | omega | (simp only [List.length_append, List.length_take, List.length_drop, List.length_cons, List.length_nil]; omega))) hx9 rfl rfl ?_
  refine SX.val rfl (Val.move rfl) hx9 rfl rfl ?_
  refine SX.val rfl (Val.move rfl) hx9 rfl rfl ?_
  refine SX.val rfl (Val.cutLo (s := 33) (q := i) tabOk Try.underlying40 rfl rfl rfl (by repeat first|assumption|exact m0_|apply m1_) rfl (by omega) (by first | omega | (simp only [List.length_append, List.length_take, List.length_drop, List.length_cons, List.length_nil]; omega))) hx9 rfl rfl ?_
  refine SX.eff rfl (Eff.copyRow (s := 33) (q := i + 1) (ys := (xs.drop i)) (zs := (xs.take i ++ y :: xs.drop i)) tabOk Try.underlying40 rfl rfl rfl (by first | omega | (simp only [List.length_append, List.length_take, List.length_drop, List.length_cons, List.length_nil]; omega)) (Src.ofOwn (xs := xs) (q := i) rfl (by repeat first|assumption|exact m0_|apply m1_) hlt (by first | omega | (simp only [List.length_append, List.length_take, List.length_drop, List.length_cons, List.length_nil]; omega)) (by rw [List.take_of_length_le (Nat.le_refl _)])) (by first | exact ins_ones h1 _ | (intro c hc; rw [List.mem_singleton] at hc; subst hc; exact hy)) (ins_b hlt hjs) (by repeat first|assumption|exact Upd.here|apply Upd.there)) (by simp) rfl rfl ?_
  rintro _ _ ⟨rfl, rfl⟩
  refine SX.nil (SE.seq ?_)
  refine SC.seq (SC.region ?_)
  refine SL.val (Val.move rfl) rfl rfl ?_
  refine SL.val (Val.assign rfl) rfl rfl ?_
  refine SL.nil (SE.seq ?_)
  refine SC.ret ?_
  refine SE.then_ nofun ?_
  refine SE.fin (rs := [.tmp 6]) rfl (RV.tmp rfl RV.nil) (r40) (by repeat first|exact s0_ _|exact s1_ _|apply s2_|apply s3_) (by simp [It.rids]) ?_
  exact rfl
 intro hc31
 refine SC.skip ?_
 refine SE.seq ?_
 refine SC.seq (SC.region ?_)
 iterate 3 refine SL.val (Val.move rfl) rfl rfl ?_
 first
  | refine SL.val (Val.addI rfl rfl (by simp only [InR, lo, hi]; omega)) rfl rfl ?_
  | refine SL.val (Val.addW rfl rfl) rfl rfl ?_
 refine SL.val (Val.cutUp (s := 33) (q := xs.length + 1) tabOk Try.underlying40 rfl rfl (by repeat first|assumption|exact m0_|apply m1_) rfl (by omega) (by omega)) rfl rfl ?_
 refine SL.val (Val.assign rfl) rfl rfl ?_
 refine SL.nil (SE.seq ?_)
 refine SC.seq ?_
 refine SC.seq ?_
 refine SC.growOwn (v := v) (xs := xs) (q := xs.length + 1) (by repeat first|assumption|exact m0_|apply m1_) (by omega) (by omega) fun js hjs => ⟨_, (by repeat first|assumption|exact Upd.here|apply Upd.there), ?_⟩
 refine SC.region ?_
 iterate 4 refine SL.val (Val.move rfl) rfl rfl ?_
 first
  | refine SL.val (Val.addI rfl rfl (by simp only [InR, lo, hi]; omega)) rfl rfl ?_
  | refine SL.val (Val.addW rfl rfl) rfl rfl ?_
 refine SL.val (Val.cutLo (s := 33) (q := i + 1) tabOk Try.underlying40 rfl rfl rfl (by repeat first|assumption|exact m0_|apply m1_) rfl (by omega) (by first | omega | (simp only [List.length_append, List.length_take, List.length_drop, List.length_cons, List.length_nil]; omega))) rfl rfl ?_
 refine SL.val (Val.overlapsOff (tr := 4) (s := 33) (q := i + 1) (α := [_]) (ys := [y]) Try.func47 (by kernel_rfl) (by kernel_rfl) (by kernel_rfl) (by kernel_rfl) tabOk Try.underlying40 rfl rfl rfl rfl rfl rfl (by repeat first|assumption|exact m0_|apply m1_) (by simp) (by first | omega | (simp only [List.length_append, List.length_take, List.length_drop, List.length_cons, List.length_nil]; omega))) rfl rfl ?_
 refine SL.val (Val.notF rfl) rfl rfl ?_
 refine SL.nil (SE.seq ?_)
 refine SC.condT rfl ?_
 refine SC.seq ?_
 refine SC.draw (cutTo v (xs.length + 1)).ownBlock.toList (.q 0 (.q 1 (.q 2 (.q 3 (.q 4 (.q 5 (.q 6 (.q 7 (.e 8 .nil))))))))) (by kernel_rfl) (by kernel_rfl) ?_
 refine SX.hx (by first|(simp[mids,It.mids,ownPc];done)|(intro k hk;simp[mids,It.mids,ownPc] at hk ⊢;grind)) fun hx9 => ?_
 refine SX.val rfl (Val.move rfl) hx9 rfl rfl ?_
 refine SX.val rfl (Val.move rfl) hx9 rfl rfl ?_
 refine SX.val rfl (Val.move rfl) hx9 rfl rfl ?_
 first
  | refine SX.val rfl (Val.addI rfl rfl (by simp only [InR, lo, hi]; omega)) hx9 rfl rfl ?_
  | refine SX.val rfl (Val.addW rfl rfl) hx9 rfl rfl ?_
 refine SX.val rfl (Val.cutLo (s := 33) (q := i + 1) tabOk Try.underlying40 rfl rfl rfl (by repeat first|assumption|exact m0_|apply m1_) rfl (by omega) (by first | omega | (simp only [List.length_append, List.length_take, List.length_drop, List.length_cons, List.length_nil]; omega))) hx9 rfl rfl ?_
 refine SX.val rfl (Val.move rfl) hx9 rfl rfl ?_
 refine SX.val rfl (Val.move rfl) hx9 rfl rfl ?_
 refine SX.val rfl (Val.cutLo (s := 33) (q := i) tabOk Try.underlying40 rfl rfl rfl (by repeat first|assumption|exact m0_|apply m1_) rfl (by omega) (by first | omega | (simp only [List.length_append, List.length_take, List.length_drop, List.length_cons, List.length_nil]; omega))) hx9 rfl rfl ?_
 refine SX.eff rfl (Eff.copyRow (s := 33) (q := i + 1) (ys := (xs.drop i)) (zs := (xs ++ js).take (i + 1) ++ xs.drop i) tabOk Try.underlying40 rfl rfl rfl (by first | omega | (simp only [List.length_append, List.length_take, List.length_drop, List.length_cons, List.length_nil]; omega)) (Src.ofOwn (xs := xs ++ js) (q := i) rfl (by repeat first|assumption|exact m0_|apply m1_) (by first | omega | (simp only [List.length_append, List.length_take, List.length_drop, List.length_cons, List.length_nil]; omega)) (by first | omega | (simp only [List.length_append, List.length_take, List.length_drop, List.length_cons, List.length_nil]; omega)) (ins_src hlt)) (by first | exact ins_ones h1 _ | (intro c hc; rw [List.mem_singleton] at hc; subst hc; exact hy)) (ins_c hlt hjs) (by repeat first|assumption|exact Upd.here|apply Upd.there)) (by simp) rfl rfl ?_
 rintro _ _ ⟨rfl, rfl⟩
 refine SX.nil (SE.seq ?_)
 refine SC.seq (SC.region ?_)
 iterate 2 refine SL.val (Val.move rfl) rfl rfl ?_
 refine SL.val (Val.cutLo (s := 33) (q := i) tabOk Try.underlying40 rfl rfl rfl (by repeat first|assumption|exact m0_|apply m1_) rfl (by omega) (by first | omega | (simp only [List.length_append, List.length_take, List.length_drop, List.length_cons, List.length_nil]; omega))) rfl rfl ?_
 refine SL.val (Val.move rfl) rfl rfl ?_
 refine SL.eff (Eff.copyRow (s := 33) (q := i) (ys := [y]) (zs := (xs.take i ++ y :: xs.drop i)) tabOk Try.underlying40 rfl rfl rfl (by first | omega | (simp only [List.length_append, List.length_take, List.length_drop, List.length_cons, List.length_nil]; omega)) (Src.ofAll rfl (by repeat first|assumption|exact m0_|apply m1_) (by simp) (by rw [ins_len hlt hjs]; simp only [List.length_cons, List.length_nil]; omega)) (by first | exact ins_ones h1 _ | (intro c hc; rw [List.mem_singleton] at hc; subst hc; exact hy)) (ins_d hlt hjs) (by repeat first|assumption|exact Upd.here|apply Upd.there)) rfl rfl ?_
 rintro _ _ ⟨rfl, rfl⟩
 refine SL.nil (SE.seq ?_)
 refine SC.seq (SC.region ?_)
 refine SL.val (Val.move rfl) rfl rfl ?_
 refine SL.val (Val.assign rfl) rfl rfl ?_
 refine SL.nil (SE.seq ?_)
 refine SC.ret ?_
 refine SE.then_ nofun ?_
 refine SE.fin (rs := [.tmp 6]) rfl (RV.tmp rfl RV.nil) ((cutTo v (xs.length + 1))) (by repeat first|exact s0_ _|exact s1_ _|apply s2_|apply s3_) (by simp [It.rids]) ?_
 exact rfl
theorem del_pnt {v : Value} {xs : List (List Abs)} {i j : Nat} (hij : i < j) (hjn : j < xs.length) (h1 : ∀ c ∈ xs, ones c = true) (hn : xs.length ≤ 1000000) : Spec Try.prog 37 [.v v, int (i : Nat), int (j : Nat)] [own 27 33 v xs] (fun _ : Unit => [own 27 33 (cutTo v (xs.take i ++ xs.drop j).length) (xs.take i ++ xs.drop j)]) (fun _ => .v (cutTo v (xs.take i ++ xs.drop j).length)) := by
 have hml : (xs.take i ++ xs.drop j).length = i + (xs.length - j) := by rw [List.length_append, List.length_take, List.length_drop]; omega
 refine spec_of Try.func37 rfl Try.ntmps37 rfl fun G w => ?_
 refine SC.seq ?_
 refine SC.ownCap (v := v) (xs := xs) (s := 33) (e := 27) (by repeat first|assumption|exact m0_|apply m1_) fun hcap => ?_
 refine SC.region ?_
 refine SL.val (Val.assign rfl) rfl rfl ?_
 refine SL.nil (SE.seq ?_)
 refine SC.seq (SC.region ?_)
 iterate 4 refine SL.val (Val.move rfl) rfl rfl ?_
 refine SL.val (Val.lenOwn (m := xs.length) rfl (by repeat first|assumption|exact m0_|apply m1_) Try.underlying40 rfl) rfl rfl ?_
 refine SL.val (Val.cut3 (s := 33) (i := i) (j := j) tabOk Try.underlying40 rfl rfl rfl (by repeat first|assumption|exact m0_|apply m1_) rfl rfl rfl rfl rfl rfl (by omega) (by omega)) rfl rfl ?_
 refine SL.nil (SE.seq ?_)
 refine SC.seq ?_
 refine SC.seq (SC.region ?_)
 iterate 2 refine SL.val (Val.move rfl) rfl rfl ?_
 refine SL.val (Val.eqI rfl rfl) rfl rfl ?_
 refine SL.nil (SE.seq ?_)
 refine SC.condP rfl (by intro hc16; exfalso; omega) ?_
 intro hc16
 refine SC.skip ?_
 refine SE.seq ?_
 refine SC.seq (SC.region ?_)
 refine SL.val (Val.move rfl) rfl rfl ?_
 refine SL.val (Val.lenOwn (m := xs.length) rfl (by repeat first|assumption|exact m0_|apply m1_) Try.underlying40 rfl) rfl rfl ?_
 refine SL.val (Val.assign rfl) rfl rfl ?_
 refine SL.nil (SE.seq ?_)
 refine SC.seq ?_
 refine SC.draw v.ownBlock.toList (.q 0 (.q 1 (.q 2 (.q 3 (.q 4 (.q 5 (.e 6 (.q 7 .nil)))))))) (by kernel_rfl) (by kernel_rfl) ?_
 refine SX.hx (by intro k hk; simp [mids, It.mids, ownPc, cutTo_block] at hk ⊢; exact hk) fun hx9 => ?_
 refine SX.val rfl (Val.move rfl) hx9 rfl rfl ?_
 refine SX.val rfl (Val.move rfl) hx9 rfl rfl ?_
 refine SX.val rfl (Val.cutUp (s := 33) (q := i) tabOk Try.underlying40 rfl rfl (by repeat first|assumption|exact m0_|apply m1_) rfl rfl (by omega)) hx9 rfl rfl ?_
 refine SX.val rfl (Val.move rfl) hx9 rfl rfl ?_
 refine SX.val rfl (Val.move rfl) hx9 rfl rfl ?_
 refine SX.val rfl (Val.cutLo (s := 33) (q := j) tabOk Try.underlying40 rfl rfl rfl (by repeat first|assumption|exact m0_|apply m1_) rfl rfl (by omega)) hx9 rfl rfl ?_
 refine SX.eff rfl (Eff.appendSelf (s := 33) (q := i) (r := j) (ys := (xs.take i ++ xs.drop j)) tabOk Try.underlying40 rfl rfl rfl rfl (by omega) hjn h1 rfl (by repeat first|assumption|exact Upd.here|apply Upd.there)) (by simp) rfl rfl ?_
 rintro _ _ ⟨rfl, rfl⟩
 refine SX.hx (by intro k hk; simp [mids, It.mids, ownPc, cutTo_block] at hk ⊢; exact hk) fun hx9 => ?_
 refine SX.val rfl (Val.assign rfl) hx9 rfl rfl ?_
 refine SX.nil (SE.seq ?_)
 refine SC.seq (SC.region ?_)
 iterate 2 refine SL.val (Val.move rfl) rfl rfl ?_
 refine SL.val (Val.lenOwn (m := (xs.take i ++ xs.drop j).length) rfl (by repeat first|assumption|exact m0_|apply m1_) Try.underlying40 rfl) rfl rfl ?_
 refine SL.val (Val.move rfl) rfl rfl ?_
 refine SL.val (Val.tail (s := 33) (q := xs.length) tabOk Try.underlying40 rfl rfl rfl (by repeat first|assumption|exact m0_|apply m1_) rfl rfl rfl rfl (by omega) (by rw [cutTo_cap]; exact hcap)) rfl rfl ?_
 refine SL.eff (Eff.clearTail (s := 33) (xs := (xs.take i ++ xs.drop j)) (q := xs.length) tabOk Try.underlying40 rfl rfl rfl rfl (by omega) (by rw [cutTo_cap]; exact hcap) (by repeat first|assumption|exact Upd.here|apply Upd.there)) rfl rfl ?_
 rintro _ _ ⟨rfl, rfl⟩
 refine SL.nil (SE.seq ?_)
 refine SC.seq (SC.region ?_)
 refine SL.val (Val.move rfl) rfl rfl ?_
 refine SL.val (Val.assign rfl) rfl rfl ?_
 refine SL.nil (SE.seq ?_)
 refine SC.ret ?_
 refine SE.fin (rs := [.tmp 6]) rfl (RV.tmp rfl RV.nil) (()) (by repeat first|exact s0_ _|exact s1_ _|apply s2_|apply s3_) (by simp [It.rids]) ?_
 exact rfl
theorem pindex_s (hx : InR .i64 x.seq) (hl : ∀ y ∈ l, InR .i64 y.seq) (hn : l.length ≤ 1000000) : Spec Try.prog 50 [pntsA l, .agg x.abs] [] (fun _ : {q : Int // 0 ≤ q ↔ x ∈ l} => []) (fun q => int q.1) := by
 refine spec_of Try.func50 rfl Try.ntmps50 rfl fun G w => ?_
 refine SC.seq (SC.region ?_)
 refine SL.eff (Eff.boxA (cs := x.abs) rfl) rfl rfl ?_
 rintro _ _ ⟨b3, rfl, rfl⟩
 refine SL.val (Val.assign rfl) rfl rfl ?_
 refine SL.nil (SE.seq ?_)
 refine SC.seq ?_
 refine SC.seq (SC.region ?_)
 refine SL.val (Val.move rfl) rfl rfl ?_
 first
  | refine SL.val (Val.lenSl rfl Try.underlying40 (List.length_map _)) rfl rfl ?_
  | refine SL.val (Val.lenOwn rfl (by repeat first|assumption|exact m0_|apply m1_) Try.underlying40 (List.length_map _)) rfl rfl ?_
  | refine SL.val (Val.lenNil rfl Try.underlying40) rfl rfl ?_
 refine SL.val (Val.move rfl) rfl rfl ?_
 refine SL.nil (SE.seq ?_)
 refine SC.block ?_
 refine SC.loop (ι := Nat) (fun z => [.blk b3 27 x.abs]) (fun z => [(0, pntsA l), (3, ptr b3), (7, int (l.length : Nat)), (8, int (z : Nat))]) (fun z => z ≤ l.length ∧ ∀ j (hj : j < l.length), j < z → ¬ x = l[j]) (fun z => l.length - z) (0) (⟨Nat.zero_le _, fun j hj h => by omega⟩) (by exact ⟨rfl, rfl, rfl, rfl, trivial⟩) (by repeat first|exact s0_ _|exact s1_ _|apply s2_|apply s3_) ?_
 intro z hz
 refine SC.seq (SC.region ?_)
 refine SL.val (Val.ltI rfl rfl) rfl rfl ?_
 refine SL.nil (SE.seq ?_)
 refine SC.seq ?_
 refine SC.condP rfl ?_ ?_
 rotate_left
 ·intro hc9
  refine SC.exit ?_
  refine SE.then_ nofun ?_
  refine SE.then_ nofun ?_
  refine SE.exit ?_
  refine SE.seq ?_
  refine SC.seq (SC.region ?_)
  refine SL.val (Val.assign rfl) rfl rfl ?_
  refine SL.nil (SE.seq ?_)
  refine SC.ret ?_
  refine SE.fin (rs := [.tmp 4]) rfl (RV.tmp rfl RV.nil) (⟨-1, ⟨fun h => by omega, fun h => by obtain ⟨j, hj, h2⟩ := List.getElem_of_mem h; exact absurd h2.symm (hz.2 j hj (by omega))⟩⟩) (by repeat first|exact s0_ _|exact s1_ _|apply s2_|apply s3_) (by simp [It.rids]) ?_
  exact rfl
 intro hc9
 have hlt : z < l.length := by omega
 refine SC.skip ?_
 refine SE.seq ?_
 refine SC.seq ?_
 refine SC.block ?_
 refine SC.seq (SC.region ?_)
 refine SL.val (Val.move rfl) rfl rfl ?_
 refine SL.val (Val.assign rfl) rfl rfl ?_
 refine SL.nil (SE.seq ?_)
 refine SC.seq ?_
 refine SC.draw [] (.q 0 (.q 1 (.q 2 (.q 3 (.q 4 (.q 5 .nil)))))) (by kernel_rfl) (by kernel_rfl) ?_
 refine SX.hx (by first|(simp[mids,It.mids,ownPc];done)|(intro k hk;simp[mids,It.mids,ownPc] at hk ⊢;grind)) fun hx9 => ?_
 refine SX.val rfl (Val.to (C := .agg x.abs) (Val.loadA tabOk rfl rfl rfl (by repeat first|assumption|exact o0_|exact o1_|apply o2_) List.not_mem_nil (Pnt.size _)) rfl) hx9 rfl rfl ?_
 refine SX.val rfl (Val.move rfl) (by simp) rfl rfl ?_
 refine SX.val rfl (Val.move rfl) (by simp) rfl rfl ?_
 refine SX.val rfl (Val.indexSl tabOk Try.underlying40 rfl rfl rfl rfl (at_map (by omega)) rfl rfl) (by simp) rfl rfl ?_
 refine SX.val rfl (Val.loadAR tabOk rfl rfl rfl (Pnt.size _)) hx9 rfl rfl ?_
 refine SX.val rfl (Val.eqA rfl rfl (pnt_plains _) (pnt_plains _) (by kernel_rfl) (eqP hx (hl _ (List.getElem_mem hlt)))) hx9 rfl rfl ?_
 refine SX.nil (SE.seq ?_)
 refine SC.condP rfl ?_ ?_
 ·intro hc16
  refine SC.seq (SC.region ?_)
  refine SL.val (Val.move rfl) rfl rfl ?_
  refine SL.val (Val.assign rfl) rfl rfl ?_
  refine SL.nil (SE.seq ?_)
  refine SC.ret ?_
  refine SE.ret ?_
  refine SE.then_ nofun ?_
  refine SE.then_ nofun ?_
  refine SE.ret ?_
  refine SE.then_ nofun ?_
  refine SE.fin (rs := [.tmp 4]) rfl (RV.tmp rfl RV.nil) (⟨(z : Nat), ⟨fun _ => by rw [hc16]; exact List.getElem_mem hlt, fun _ => by omega⟩⟩) (by repeat first|exact s0_ _|exact s1_ _|apply s2_|apply s3_) (by simp [It.rids]) ?_
  exact rfl
 intro hc16
 refine SC.skip ?_
 refine SE.inBlock ?_
 refine SE.seq ?_
 refine SC.region ?_
 first
  | refine SL.val (Val.addI rfl rfl (by simp only [InR, lo, hi]; omega)) rfl rfl ?_
  | refine SL.val (Val.addW rfl rfl) rfl rfl ?_
 refine SL.val (Val.move rfl) rfl rfl ?_
 refine SL.nil ?_
 refine SE.round (z + 1) (by first | omega | (dsimp only; omega)) (⟨by omega, fun j hj hjz => by
  rcases Nat.lt_or_ge j z with h1 | h1
  ·exact hz.2 j hj h1
  obtain rfl : j = z := (by omega)
  exact hc16⟩) (by exact ⟨rfl, rfl, rfl, rfl, trivial⟩) (by repeat first|exact s0_ _|exact s1_ _|apply s2_|apply s3_)
theorem pcontains_s (hx : InR .i64 x.seq) (hl : ∀ y ∈ l, InR .i64 y.seq) (hn : l.length ≤ 1000000) : Spec Try.prog 35 [pntsA l, .agg x.abs] [] (fun _ : Unit => []) (fun _ => boo (decide (x ∈ l))) := by
 refine spec_of Try.func35 rfl Try.ntmps35 rfl fun G w => ?_
 refine SC.seq (SC.region ?_)
 refine SL.eff (Eff.boxA (cs := x.abs) rfl) rfl rfl ?_
 rintro _ _ ⟨b3, rfl, rfl⟩
 refine SL.val (Val.assign rfl) rfl rfl ?_
 refine SL.nil (SE.seq ?_)
 refine SC.seq (SC.region ?_)
 refine SL.val (Val.move rfl) rfl rfl ?_
 refine SL.val (Val.to (C := .agg x.abs) (Val.loadA tabOk rfl rfl rfl (by repeat first|assumption|exact o0_|exact o1_|apply o2_) List.not_mem_nil (Pnt.size _)) rfl) rfl rfl ?_
 refine SL.call (pindex_s hx hl hn) Casts.refl (by kernel_rfl) rfl rfl rfl ?_
 refine ap_ ?_
 intro q0
 refine SL.val (Val.geI rfl rfl) rfl rfl ?_
 refine SL.val (Val.assign rfl) rfl rfl ?_
 refine SL.nil (SE.seq ?_)
 refine SC.ret ?_
 refine SE.fin (rs := [.tmp 4]) rfl (RV.tmp rfl RV.nil) (()) (by repeat first|exact s0_ _|exact s1_ _|apply s2_|apply s3_) (by simp [It.rids]) ?_
 refine congrArg (fun b => Abs.v (Value.bool b)) ?_
 exact decide_eq_decide.2 q0.2
end
end Go.Proofs.Ytjbikemecdlolaa.A
/-
  The second engine: a field of many cells of a struct's value; a struct of two parts; the elements of a row of one's own said otherwise.
-/
namespace Go.Proofs.Ytjbikemecdlolaa.A
open Go.RowKit

section
variable {P : Program} {n : Nat} {W : Wd} {σ τ : Blks} {l : Slots} {X : List Nat} {x y : Operand} {d : Option Nat} {ty t e : TypeId} {pos : String} {aft : Array Edge} {g : Option (Nat × Bool)} {tab : List (Nat × TI)}
theorem Val.fieldG (hT : TabOk P tab) {sz fo ft f : Nat} {gs : List (Nat × Nat)} {zs : List Value} {cs : List Abs} {j : TI} (ht : ti tab t = some ⟨sz, .struct gs, zs⟩) (hx : look l x = some (.agg cs)) (hfo : gs[f]? = some (fo, ft)) (hj : ti tab ft = some j) (hk : (match j.k with | .one => false | _ => true) = true) (hl : fo + j.size ≤ cs.length) :
    Val P n W σ l X ⟨d, .field t x f, ty, pos, aft, g⟩ (.agg (part cs fo j.size)) := Val.mk' fun a w hs hX => by
  obtain ⟨us, h1, h2⟩ := hs.eval hx
  have hlen := reps_length h2
  refine ⟨.agg ((us.drop fo).take j.size).toArray, ⟨_, rfl, reps_take (reps_drop h2 fo) j.size⟩, fun w' _ => ?_⟩
  obtain ⟨fs, hu, hm⟩ := (hT t _ ht).fields
  rw [← hm, List.getElem?_map] at hfo
  intro A w1 hf hD
  cases hf2 : fs.toList[f]? with
  | none => simp [hf2] at hfo
  | some fd =>
    simp only [hf2, Option.map_some, Option.some.injEq, Prod.mk.injEq] at hfo
    obtain ⟨rfl, rfl⟩ := hfo
    have hf3 : fs[f]? = some fd := by simpa using hf2
    have h3 := (hT _ _ hj).isAgg (w := w1)
    have h4 := (hT _ _ hj).sizeOf (w := w1)
    have e1 : A.eval x = .agg us.toArray := hf.eval (by rw [hs.at2 hx, h1])
    have hle : fd.offset + j.size ≤ us.length := by omega
    have h3 : (isAgg fd.type).run P w1 = .ok true w1 := by
      rw [h3]
      cases hq : j.k <;> simp [hq] at hk ⊢
    simp [execOp, e1, Instr.field, run_underlying hu, Sem.run_bind, hf3, Result.andThen, asAgg, Go.part, h3, h4, hle]
end
/-- Pieces that the region has made stand ahead; X said otherwise. -/
theorem SX.effH (ν : Blks) (X0 : List Nat) {P : Program} {n : Nat} {W : Wd} {σ σ0 : Blks} {l : Slots} {X : List Nat} {ops : Array Oper} {Q : Exit → Act → World → Prop} {ix : Plan} {o : Oper} {i : Nat} {Y : List Nat} {R : Abs → Blks → Prop} (hX : X = mids ν ++ X0) (hi : ops[i]? = some o) (hv : Eff P n W σ l Y o R) (hσ : σ = ν ++ σ0) (hY : ∀ k ∈ Y, k ∈ mids ν ++ X0) (hg : gd ops l o = some true) (hd : lt? o.dst n = true)
    (k : ∀ y τ, R y τ → ∃ ν' : Blks, τ = ν' ++ σ0 ∧ SX P ops ix (mids ν' ++ X0) (St n W τ (put? l o.dst y)) Q) : SX P ops (.e i ix) X (St n W σ l) Q := hX ▸ SX.effN ν X0 hi hv hσ hY hg hd k
/-- A row of one's own is a slice. -/
theorem SL.ownShape {ops : Array Oper} {rest : List Oper} {Q : Exit → Act → World → Prop} {P : Program} {n : Nat} {W : Wd} {σ : Blks} {l : Slots} {e : TypeId} {s : Nat} {v : Value} {xs : List (List Abs)} (hb : own e s v xs ∈ σ) (k : ∀ A m c, v = .slice A m c → SL P ops rest (St n W σ l) Q) : SL P ops rest (St n W σ l) Q := fun a w h => by
  obtain ⟨us, hown, _⟩ := own_hold h hb
  obtain ⟨A, c, hv, _⟩ := owns_slice hown
  exact k A _ c hv a w h
/-- A struct of two parts. -/
theorem fill_two {place : Nat → Option (Nat × Nat)} {Z : List Abs} {x y : Abs} {a b : Nat} (hx : (cellsA x).length = a) (hy : (cellsA y).length = b) (hZ : Z.length = a + b) (h0 : place 0 = some (0, a)) (h1 : place 1 = some (a, b)) : fillA place Z [(0, x), (1, y)] = some (cellsA x ++ cellsA y) := by
  simp only [fillA, h0, h1, hx, hy, Nat.beq_refl, Bool.true_and, putL]
  rw [Nat.ble_eq_true_of_le (by omega)]
  simp only [cond_true]
  rw [Nat.ble_eq_true_of_le (by simp only [List.length_append, List.length_drop]; omega)]
  simp only [cond_true]
  rw [putL_eq _ _ _ (by simp only [List.length_append]; omega)]
  rw [← hx, List.take_left, List.drop_eq_nil_of_le (by simp only [List.length_append, List.length_drop]; omega), List.append_nil]
section
variable {e : TypeId} {s : Nat} {v : Value} {xs ys : List (List Abs)}
theorem Re.ownMap (h : ∀ K w us, repss K w s xs us → repss K w s ys us) (hl : xs.length = ys.length) : Re [own e s v xs] [own e s v ys] := ⟨⟨[], by rw [List.append_nil]; exact List.Perm.refl _⟩, by simp [It.rids], fun K w hx y hy => by
  rw [List.mem_singleton.1 hy]
  obtain ⟨us, h1, h2⟩ : (ownPc e s v xs).p K w := hx _ List.mem_cons_self
  exact ⟨us, by rw [← hl]; exact h1, h _ _ _ h2⟩⟩
theorem repss_map {K : List Nat} {w : World} {ds es : List Abs} (h : ∀ us, reps K w ds us → reps K w es us) : ∀ (m : Nat) (us : List Value), repss K w s (List.replicate m ds) us → repss K w s (List.replicate m es) us
  | 0, _, h2 => h2
  | m + 1, _, ⟨u1, u2, h2, h3, h4, h5⟩ => ⟨u1, u2, h2, h3, h _ h4, repss_map h m u2 h5⟩
end
end Go.Proofs.Ytjbikemecdlolaa.A
/-
  Bytes cloned.
-/
namespace Go.Proofs.Ytjbikemecdlolaa.A
open Go.RowKit

theorem bcloneR_s {xs : List (List Abs)} (h1 : ∀ c ∈ xs, ones c = true) (hn : xs.length ≤ 1000000) : Spec Try.prog 36 [.sl 1 xs] [] (fun _ : Unit => []) (fun _ => .sl 1 xs) := by
 refine spec_of Try.func36 rfl Try.ntmps36 rfl fun G w => ?_
 refine SC.seq (SC.region ?_)
 refine SL.val (Val.assign rfl) rfl rfl ?_
 refine SL.nil (SE.seq ?_)
 refine SC.seq ?_
 refine SC.seq (SC.region ?_)
 refine SL.val (Val.move rfl) rfl rfl ?_
 refine SL.eqNil Try.underlying23 rfl rfl rfl ?_
 intro b hb
 refine SL.nil (SE.seq ?_)
 refine SC.cond rfl ?_ ?_
 ·intro hc4
  have hnil : xs = [] := hb hc4
  subst hnil
  refine SC.seq (SC.region ?_)
  refine SL.val (Val.assign rfl) rfl rfl ?_
  refine SL.nil (SE.seq ?_)
  refine SC.ret ?_
  refine SE.then_ nofun ?_
  refine SE.finC (rs := [.tmp 2]) rfl (RV.tmp rfl RV.nil) (Casts.nils (s := 1) Casts.refl) () (by repeat first|exact s0_ _|exact s1_ _|apply s2_|apply s3_) (by simp [It.rids]) rfl
 intro hc4
 refine SC.skip ?_
 refine SE.seq ?_
 refine SC.seq (SC.region ?_)
 refine SL.eff (Eff.buildOwn tabOk Try.underlying23 rfl rfl rfl rfl rfl rfl rfl) rfl rfl ?_
 rintro _ _ ⟨r5, rfl, rfl⟩
 refine SL.val (Val.move rfl) rfl rfl ?_
 refine SL.eff (Eff.appendE (zs := xs) tabOk [] rfl Try.underlying23 rfl rfl rfl rfl rfl rfl h1 (by unfold maxLen; simp only [List.length_nil]; omega) (by rw [show Try.prog.bytesOf 5 = 1 by kernel_rfl]; simp only [List.length_nil]; omega)) rfl rfl ?_
 rintro _ _ ⟨r7, rfl, rfl⟩
 refine SL.val (Val.assign rfl) rfl rfl ?_
 refine SL.nil (SE.seq ?_)
 refine SC.ret ?_
 refine SE.freeze [] (t := 2) rfl rfl ?_
 refine SE.fin (rs := [.tmp 2]) rfl (RV.tmp rfl RV.nil) (()) (by repeat first|exact s0_ _|exact s1_ _|apply s2_|apply s3_) (by simp [It.rids]) ?_
 exact rfl
theorem bytes_ones (l : List UInt8) : ∀ c ∈ l.map (fun b => [Abs.v (bc b)]), ones c = true := fun c hc => by
  obtain ⟨b, _, rfl⟩ := List.mem_map.1 hc
  rfl
theorem bclone_s {l : List UInt8} (hn : l.length ≤ 1000000) : Pure Try.prog 36 [byt l] (byt l) := bcloneR_s (bytes_ones l) (by rw [List.length_map]; exact hn)
end Go.Proofs.Ytjbikemecdlolaa.A
/-
  Points: made, own ones.
-/
namespace Go.Proofs.Ytjbikemecdlolaa.A
open Go.RowKit

def zow : Value := .agg ((List.replicate 32 (bc 0)) ++ [Value.slice none 0 0]).toArray
theorem zero_ow (w : World) : (zeroValue 67).run Try.prog w = .ok zow w := by kernel_rfl
theorem dig_reps {K : List Nat} {w : World} (d : List UInt8) : reps K w (digA d) (d.map bc) := by
  have h := reps_vals (K := K) (w := w) (d.map bc)
  rw [List.map_map] at h
  exact h
theorem zow_rep (K : List Nat) (w : World) : rep K w Ow.zero.enc zow := by
  refine ⟨_, rfl, reps_append ?_ ⟨_, _, rfl, rep_nil rfl, rfl⟩⟩
  have h := dig_reps (K := K) (w := w) (List.replicate 32 0)
  rw [List.map_replicate] at h
  exact h
theorem own_fill {o : Ow} {place : Nat → Option (Nat × Nat)} {Z : List Abs} (hZ : Z.length = 33) (h0 : place 0 = some (0, 32)) (h1 : place 1 = some (32, 1)) : fillA place Z [(0, .agg (digA o.dig)), (1, byt o.b)] = some o.cells :=
  fill_two (a := 32) (b := 1) (by show (digA o.dig).length = 32; simp [digA, o.len]) rfl hZ h0 h1
theorem digA_len {d : List UInt8} (h : d.length = 32) : (digA d).length = 32 := by simp [digA, h]
/-- A vote: is it taken, and what is voted for then. -/
def voteP (n me : Nat) (vs : List (List Pnt)) (who : Int) (x : Pnt) : Bool × List (List Pnt) :=
  if who = me ∨ who < 0 ∨ (n : Int) ≤ who then (false, vs)
  else if voteOk ((vs[who.toNat]?).getD []) x then (true, vs.set who.toNat (voteL ((vs[who.toNat]?).getD []) x)) else (false, vs)
theorem voteP_out {n me : Nat} {vs : List (List Pnt)} {who : Int} {x : Pnt} (h : who = me ∨ who < 0 ∨ (n : Int) ≤ who) : voteP n me vs who x = (false, vs) := if_pos h
theorem voteP_no {n me : Nat} {vs : List (List Pnt)} {who : Int} {x : Pnt} {l : List Pnt} (h : ¬ (who = me ∨ who < 0 ∨ (n : Int) ≤ who)) (hl : vs[who.toNat]? = some l) (h2 : voteOk l x = false) : voteP n me vs who x = (false, vs) := by
  unfold voteP
  rw [if_neg h, hl, Option.getD_some, h2]
  rfl
theorem voteP_yes {n me : Nat} {vs : List (List Pnt)} {who : Int} {x : Pnt} {l : List Pnt} (h : ¬ (who = me ∨ who < 0 ∨ (n : Int) ≤ who)) (hl : vs[who.toNat]? = some l) (h2 : voteOk l x = true) : voteP n me vs who x = (true, vs.set who.toNat (voteL l x)) := by
  unfold voteP
  rw [if_neg h, hl, Option.getD_some, h2]
  rfl
theorem insP_abs {l : List Pnt} {x : Pnt} : (l.map Pnt.abs).take (lbP l x.seq) ++ x.abs :: (l.map Pnt.abs).drop (lbP l x.seq) = (insP l x).map Pnt.abs := by
  unfold insP
  rw [List.map_append, List.map_cons, List.map_take, List.map_drop]
theorem votes_nil {vv : Value} (n : Nat) : Re [own 40 1 vv (List.replicate n [Abs.v (Value.slice none 0 0)])] [own 40 1 vv ((List.replicate n []).map fun l : List Pnt => [pntsA l])] := by
  refine Re.ownMap (fun K w us h => ?_) (by simp)
  rw [List.map_replicate]
  exact repss_map (ds := [Abs.v (Value.slice none 0 0)]) (es := [pntsA []]) (fun us ⟨u, us', h1, h2, h3⟩ => ⟨u, us', h1, by rw [show u = _ from h2]; exact rep_nil rfl, h3⟩) n us h
section
variable {n me : Nat} {om : List (Int × Ow)} {vs : List (List Pnt)} {bp bm : Nat} {vv : Value} {x : Pnt} {who k : Int} {o : Ow}
theorem pnew_s (h1 : 1 ≤ n) (h7 : n ≤ 7) (hm : me < n) : Spec Try.prog 7 [int (n : Nat), int (me : Nat)] [] (fun z : Nat × Nat × Value => [.blk z.1 57 [int (n : Nat), int (me : Nat), mapV z.2.1, .v z.2.2], own 40 1 z.2.2 ((List.replicate n []).map fun l => [pntsA l]), .pc (tmPc z.2.1 intK intOk Ow.enc [])]) (fun z => ptr z.1) := by
 refine spec_of Try.func7 rfl Try.ntmps7 rfl fun G w => ?_
 refine SC.seq (SC.region ?_)
 refine SL.val (Val.assign rfl) rfl rfl ?_
 refine SL.nil (SE.seq ?_)
 refine SC.seq ?_
 refine SC.seq (SC.region ?_)
 refine SL.val (Val.move rfl) rfl rfl ?_
 refine SL.val (Val.ltI rfl rfl) rfl rfl ?_
 refine SL.val (Val.move rfl) rfl rfl ?_
 refine SL.bothP (t := 7) rfl (by intro hc7; exfalso; omega) ?_
 intro hc7
 refine SL.val (Val.move rfl) rfl rfl ?_
 refine SL.val (Val.gtI rfl rfl) rfl rfl ?_
 refine SL.val (Val.pickF rfl rfl) rfl rfl ?_
 refine SL.val (Val.move rfl) rfl rfl ?_
 refine SL.bothP (t := 11) rfl (by intro hc11; exfalso; omega) ?_
 intro hc11
 refine SL.val (Val.move rfl) rfl rfl ?_
 refine SL.val (Val.ltI rfl rfl) rfl rfl ?_
 refine SL.val (Val.pickF rfl rfl) rfl rfl ?_
 refine SL.val (Val.move rfl) rfl rfl ?_
 refine SL.bothP (t := 15) rfl (by intro hc15; exfalso; omega) ?_
 intro hc15
 iterate 2 refine SL.val (Val.move rfl) rfl rfl ?_
 refine SL.val (Val.geI rfl rfl) rfl rfl ?_
 refine SL.val (Val.pickF rfl rfl) rfl rfl ?_
 refine SL.nil (SE.seq ?_)
 refine SC.condP rfl (by intro hc19; exfalso; omega) ?_
 intro hc19
 refine SC.skip ?_
 refine SE.seq ?_
 refine SC.seq (SC.region ?_)
 iterate 2 refine SL.val (Val.move rfl) rfl rfl ?_
 refine SL.eff (Eff.makeTm intK intOk Ow.enc (fun ac w => by simp [execOp, Instr.makeMap, newObj, Sem.run, Sem.run_bind, Result.andThen])) rfl rfl ?_
 rintro _ _ ⟨m22, rfl, rfl⟩
 refine SL.val (Val.move rfl) rfl rfl ?_
 refine SL.eff (Eff.makeOwn (m := n) tabOk Try.underlying50 rfl rfl rfl rfl rfl rfl (by unfold maxLen; omega) (by rw [show Try.prog.bytesOf 40 = 24 by kernel_rfl]; omega)) rfl rfl ?_
 rintro _ _ ⟨v24, rfl, rfl⟩
 refine SL.ownShape (v := v24) (e := 40) (s := 1) (xs := List.replicate n [Abs.v (Value.slice none 0 0)]) (by repeat first|assumption|exact m0_|apply m1_) ?_
 rintro A24 m24 c24 rfl
 refine SL.val (Val.buildS tabOk rfl rfl rfl rfl) rfl rfl ?_
 refine SL.eff (Eff.boxA (cs := [int (n : Nat), int (me : Nat), mapV m22, .v (.slice A24 m24 c24)]) rfl) rfl rfl ?_
 rintro _ _ ⟨b26, rfl, rfl⟩
 refine SL.val (Val.assign rfl) rfl rfl ?_
 refine SL.nil (SE.seq ?_)
 refine SC.ret ?_
 refine SE.re [_] (votes_nil n) rfl ?_
 refine SE.fin (rs := [.tmp 4]) rfl (RV.tmp rfl RV.nil) ((b26, m22, .slice A24 m24 c24)) (by repeat first|exact s0_ _|exact s1_ _|apply s2_|apply s3_) (by simp [It.rids]) ?_
 exact rfl
theorem pnewno_s (h : ¬ (1 ≤ who ∧ who ≤ 7 ∧ 0 ≤ k ∧ k < who)) : Spec Try.prog 7 [int who, int k] [] (fun _ : Unit => []) (fun _ => .v (.pointer none)) := by
 refine spec_of Try.func7 rfl Try.ntmps7 rfl fun G w => ?_
 refine SC.seq (SC.region ?_)
 refine SL.val (Val.assign rfl) rfl rfl ?_
 refine SL.nil (SE.seq ?_)
 refine SC.seq ?_
 refine SC.seq (SC.region ?_)
 refine SL.val (Val.move rfl) rfl rfl ?_
 refine SL.val (Val.ltI rfl rfl) rfl rfl ?_
 refine SL.val (Val.move rfl) rfl rfl ?_
 refine SL.bothP (t := 7) rfl ?_ ?_
 ·intro hc7
  iterate 2 refine SL.skip rfl rfl ?_
  refine SL.val (Val.pickT rfl rfl) rfl rfl ?_
  refine SL.val (Val.move rfl) rfl rfl ?_
  iterate 2 refine SL.skip rfl rfl ?_
  refine SL.val (Val.pickT rfl rfl) rfl rfl ?_
  refine SL.val (Val.move rfl) rfl rfl ?_
  iterate 3 refine SL.skip rfl rfl ?_
  refine SL.val (Val.pickT rfl rfl) rfl rfl ?_
  refine SL.nil (SE.seq ?_)
  refine SC.condT rfl ?_
  refine SC.seq (SC.region ?_)
  refine SL.val (Val.assign rfl) rfl rfl ?_
  refine SL.nil (SE.seq ?_)
  refine SC.ret ?_
  refine SE.then_ nofun ?_
  refine SE.fin (rs := [.tmp 4]) rfl (RV.tmp rfl RV.nil) (()) (by repeat first|exact s0_ _|exact s1_ _|apply s2_|apply s3_) (by simp [It.rids]) ?_
  exact rfl
 intro hc7
 refine SL.val (Val.move rfl) rfl rfl ?_
 refine SL.val (Val.gtI rfl rfl) rfl rfl ?_
 refine SL.val (Val.pickF rfl rfl) rfl rfl ?_
 refine SL.val (Val.move rfl) rfl rfl ?_
 refine SL.bothP (t := 11) rfl ?_ ?_
 ·intro hc11
  iterate 2 refine SL.skip rfl rfl ?_
  refine SL.val (Val.pickT rfl rfl) rfl rfl ?_
  refine SL.val (Val.move rfl) rfl rfl ?_
  iterate 3 refine SL.skip rfl rfl ?_
  refine SL.val (Val.pickT rfl rfl) rfl rfl ?_
  refine SL.nil (SE.seq ?_)
  refine SC.condT rfl ?_
  refine SC.seq (SC.region ?_)
  refine SL.val (Val.assign rfl) rfl rfl ?_
  refine SL.nil (SE.seq ?_)
  refine SC.ret ?_
  refine SE.then_ nofun ?_
  refine SE.fin (rs := [.tmp 4]) rfl (RV.tmp rfl RV.nil) (()) (by repeat first|exact s0_ _|exact s1_ _|apply s2_|apply s3_) (by simp [It.rids]) ?_
  exact rfl
 intro hc11
 refine SL.val (Val.move rfl) rfl rfl ?_
 refine SL.val (Val.ltI rfl rfl) rfl rfl ?_
 refine SL.val (Val.pickF rfl rfl) rfl rfl ?_
 refine SL.val (Val.move rfl) rfl rfl ?_
 refine SL.bothP (t := 15) rfl ?_ ?_
 ·intro hc15
  iterate 3 refine SL.skip rfl rfl ?_
  refine SL.val (Val.pickT rfl rfl) rfl rfl ?_
  refine SL.nil (SE.seq ?_)
  refine SC.condT rfl ?_
  refine SC.seq (SC.region ?_)
  refine SL.val (Val.assign rfl) rfl rfl ?_
  refine SL.nil (SE.seq ?_)
  refine SC.ret ?_
  refine SE.then_ nofun ?_
  refine SE.fin (rs := [.tmp 4]) rfl (RV.tmp rfl RV.nil) (()) (by repeat first|exact s0_ _|exact s1_ _|apply s2_|apply s3_) (by simp [It.rids]) ?_
  exact rfl
 intro hc15
 iterate 2 refine SL.val (Val.move rfl) rfl rfl ?_
 refine SL.val (Val.geI rfl rfl) rfl rfl ?_
 refine SL.val (Val.pickF rfl rfl) rfl rfl ?_
 refine SL.nil (SE.seq ?_)
 refine SC.condP rfl ?_ (by intro hc19; exfalso; omega)
 intro hc19
 refine SC.seq (SC.region ?_)
 refine SL.val (Val.assign rfl) rfl rfl ?_
 refine SL.nil (SE.seq ?_)
 refine SC.ret ?_
 refine SE.then_ nofun ?_
 refine SE.fin (rs := [.tmp 4]) rfl (RV.tmp rfl RV.nil) (()) (by repeat first|exact s0_ _|exact s1_ _|apply s2_|apply s3_) (by simp [It.rids]) ?_
 exact rfl
theorem pown_s (hk : InR .i64 k) (hb : o.b.length ≤ 1000000) : Spec Try.prog 12 [ptr bp, int k, .agg (digA o.dig), byt o.b] [.blk bp 57 [int (n : Nat), int (me : Nat), mapV bm, .v vv], own 40 1 vv ((vs).map fun l => [pntsA l]), .pc (tmPc bm intK intOk Ow.enc om)] (fun _ : Unit => [.blk bp 57 [int (n : Nat), int (me : Nat), mapV bm, .v vv], own 40 1 vv ((vs).map fun l => [pntsA l]), .pc (tmPc bm intK intOk Ow.enc (aput om k o))]) (fun _ => .tup []) := by
 refine spec_of Try.func12 rfl Try.ntmps12 rfl fun G w => ?_
 refine SC.seq (SC.region ?_)
 refine SL.eff (Eff.boxA (cs := digA o.dig) rfl) rfl rfl ?_
 rintro _ _ ⟨b6, rfl, rfl⟩
 refine SL.nil (SE.seq ?_)
 refine SC.seq (SC.region ?_)
 refine SL.val (Val.move rfl) rfl rfl ?_
 refine SL.val (Val.neP rfl rfl (by kernel_rfl)) rfl rfl ?_
 refine SL.nil (SE.seq ?_)
 refine SC.condT rfl ?_
 refine SC.drawZ [] (.q 0 (.q 1 (.q 2 (.q 3 (.q 4 (.q 5 (.q 6 (.e 7 (.q 8 .nil))))))))) (by kernel_rfl) (by kernel_rfl) ?_
 refine SX.val rfl (Val.move rfl) (by simp) rfl rfl ?_
 refine SX.val rfl (Val.nilCheck rfl) (by simp) rfl rfl ?_
 refine SX.val rfl (Val.fieldAddr tabOk rfl rfl rfl rfl rfl) (by simp) rfl rfl ?_
 refine SX.val rfl (Val.load1 tabOk rfl rfl (by repeat first|assumption|exact o0_|exact o1_|apply o2_) List.not_mem_nil (by rfl)) (by simp) rfl rfl ?_
 refine SX.val rfl (Val.move rfl) (by simp) rfl rfl ?_
 refine SX.hx (by first|(simp[mids,It.mids,ownPc];done)|(intro k hk;simp[mids,It.mids,ownPc] at hk ⊢;grind)) fun hx9 => ?_
 refine SX.val rfl (Val.loadA tabOk rfl rfl rfl (by repeat first|assumption|exact o0_|exact o1_|apply o2_) List.not_mem_nil (digA_len o.len)) hx9 rfl rfl ?_
 refine SX.val rfl (Val.move rfl) (by simp) rfl rfl ?_
 refine SX.call rfl (bclone_s hb) (by simp [mids, It.mids]) Casts.refl (by kernel_rfl) rfl rfl rfl ?_
 refine ap_ ?_
 intro _
 refine SX.hx (by first|(simp[mids,It.mids,ownPc];done)|(intro k hk;simp[mids,It.mids,ownPc] at hk ⊢;grind)) fun hx9 => ?_
 refine SX.val rfl (Val.to (C := o.enc) (Val.buildS tabOk rfl rfl rfl (own_fill rfl rfl rfl)) rfl) hx9 rfl rfl ?_
 refine SX.nil ?_
 refine SE.effZ rfl (Eff.tmPut (a := k) (v := o) (m' := aput om k o) (int_fit Try.underlying2) Try.underlying55 rfl (by repeat first|assumption|exact Upd.here|apply Upd.there) rfl is_v hk rfl rfl) rfl rfl ?_
 rintro _ _ ⟨rfl, rfl⟩
 refine SE.finN (rs := []) rfl RV.nil (()) (by repeat first|exact s0_ _|exact s1_ _|apply s2_|apply s3_) (by simp [It.rids]) ?_
 exact rfl
theorem pownno_s  : Spec Try.prog 12 [.v (.pointer none), int k, .agg (digA o.dig), byt o.b] [] (fun _ : Unit => []) (fun _ => .tup []) := by
 refine spec_of Try.func12 rfl Try.ntmps12 rfl fun G w => ?_
 refine SC.seq (SC.region ?_)
 refine SL.eff (Eff.boxA (cs := digA o.dig) rfl) rfl rfl ?_
 rintro _ _ ⟨b6, rfl, rfl⟩
 refine SL.nil (SE.seq ?_)
 refine SC.seq (SC.region ?_)
 refine SL.val (Val.move rfl) rfl rfl ?_
 refine SL.val (Val.neP rfl rfl (by kernel_rfl)) rfl rfl ?_
 refine SL.nil (SE.seq ?_)
 refine SC.condF rfl ?_
 refine SC.skip ?_
 refine SE.finN (rs := []) rfl RV.nil (()) (by repeat first|exact s0_ _|exact s1_ _|apply s2_|apply s3_) (by simp [It.rids]) ?_
 exact rfl
end
end Go.Proofs.Ytjbikemecdlolaa.A
/-
  Points: votes taken.
-/
namespace Go.Proofs.Ytjbikemecdlolaa.A
open Go.RowKit

section
variable {n me : Nat} {om : List (Int × Ow)} {vs : List (List Pnt)} {bp bm : Nat} {vv : Value} {x : Pnt} {who k : Int} {o : Ow} {l : List Pnt}
set_option maxHeartbeats 2000000 in
theorem pvote_s (hok : PtsOk n me om vs) (hx : InR .i64 x.seq) : Spec Try.prog 8 [ptr bp, int who, .agg x.abs] [.blk bp 57 [int (n : Nat), int (me : Nat), mapV bm, .v vv], own 40 1 vv ((vs).map fun l => [pntsA l]), .pc (tmPc bm intK intOk Ow.enc om)] (fun _ : Unit => [.blk bp 57 [int (n : Nat), int (me : Nat), mapV bm, .v vv], own 40 1 vv (((voteP n me vs who x).2).map fun l => [pntsA l]), .pc (tmPc bm intK intOk Ow.enc om)]) (fun _ => boo (voteP n me vs who x).1) := by
 refine spec_of Try.func8 rfl Try.ntmps8 rfl fun G w => ?_
 refine SC.seq (SC.region ?_)
 refine SL.eff (Eff.boxA (cs := x.abs) rfl) rfl rfl ?_
 rintro _ _ ⟨b5, rfl, rfl⟩
 refine SL.val (Val.assign rfl) rfl rfl ?_
 refine SL.nil (SE.seq ?_)
 refine SC.seq ?_
 refine SC.seq (SC.region ?_)
 refine SL.val (Val.move rfl) rfl rfl ?_
 refine SL.val (Val.eqP rfl rfl (by kernel_rfl)) rfl rfl ?_
 iterate 3 refine SL.val (Val.move rfl) rfl rfl ?_
 refine SL.val (Val.nilCheck rfl) rfl rfl ?_
 refine SL.val (Val.fieldAddr tabOk rfl rfl rfl rfl rfl) rfl rfl ?_
 refine SL.val (Val.load1 tabOk rfl rfl (by repeat first|assumption|exact o0_|exact o1_|apply o2_) List.not_mem_nil (by rfl)) rfl rfl ?_
 refine SL.val (Val.eqI rfl rfl) rfl rfl ?_
 refine SL.val (Val.pickF rfl rfl) rfl rfl ?_
 refine SL.val (Val.move rfl) rfl rfl ?_
 refine SL.bothP (t := 21) rfl ?_ ?_
 ·intro hc21
  iterate 2 refine SL.skip rfl rfl ?_
  refine SL.val (Val.pickT rfl rfl) rfl rfl ?_
  refine SL.val (Val.move rfl) rfl rfl ?_
  iterate 6 refine SL.skip rfl rfl ?_
  refine SL.val (Val.pickT rfl rfl) rfl rfl ?_
  refine SL.nil (SE.seq ?_)
  refine SC.condT rfl ?_
  refine SC.seq (SC.region ?_)
  refine SL.val (Val.assign rfl) rfl rfl ?_
  refine SL.nil (SE.seq ?_)
  refine SC.ret ?_
  refine SE.then_ nofun ?_
  have e9 : voteP n me vs who x = (false, vs) := voteP_out (by omega)
  refine SE.fin (rs := [.tmp 6]) rfl (RV.tmp rfl RV.nil) (()) (by rw [e9]; repeat (first | exact List.nil_sublist _ | exact List.Sublist.refl _ | apply List.Sublist.cons_cons | apply List.Sublist.cons)) (by simp [It.rids]) ?_
  rw [e9]
  rfl
 intro hc21
 refine SL.val (Val.move rfl) rfl rfl ?_
 refine SL.val (Val.ltI rfl rfl) rfl rfl ?_
 refine SL.val (Val.pickF rfl rfl) rfl rfl ?_
 refine SL.val (Val.move rfl) rfl rfl ?_
 refine SL.bothP (t := 25) rfl ?_ ?_
 ·intro hc25
  iterate 6 refine SL.skip rfl rfl ?_
  refine SL.val (Val.pickT rfl rfl) rfl rfl ?_
  refine SL.nil (SE.seq ?_)
  refine SC.condT rfl ?_
  refine SC.seq (SC.region ?_)
  refine SL.val (Val.assign rfl) rfl rfl ?_
  refine SL.nil (SE.seq ?_)
  refine SC.ret ?_
  refine SE.then_ nofun ?_
  have e9 : voteP n me vs who x = (false, vs) := voteP_out (by omega)
  refine SE.fin (rs := [.tmp 6]) rfl (RV.tmp rfl RV.nil) (()) (by rw [e9]; repeat (first | exact List.nil_sublist _ | exact List.Sublist.refl _ | apply List.Sublist.cons_cons | apply List.Sublist.cons)) (by simp [It.rids]) ?_
  rw [e9]
  rfl
 intro hc25
 iterate 2 refine SL.val (Val.move rfl) rfl rfl ?_
 refine SL.val (Val.nilCheck rfl) rfl rfl ?_
 refine SL.val (Val.fieldAddr tabOk rfl rfl rfl rfl rfl) rfl rfl ?_
 refine SL.val (Val.load1 tabOk rfl rfl (by repeat first|assumption|exact o0_|exact o1_|apply o2_) List.not_mem_nil (by rfl)) rfl rfl ?_
 refine SL.val (Val.geI rfl rfl) rfl rfl ?_
 refine SL.val (Val.pickF rfl rfl) rfl rfl ?_
 refine SL.nil (SE.seq ?_)
 refine SC.condP rfl ?_ ?_
 ·intro hc32
  refine SC.seq (SC.region ?_)
  refine SL.val (Val.assign rfl) rfl rfl ?_
  refine SL.nil (SE.seq ?_)
  refine SC.ret ?_
  refine SE.then_ nofun ?_
  have e9 : voteP n me vs who x = (false, vs) := voteP_out (by omega)
  refine SE.fin (rs := [.tmp 6]) rfl (RV.tmp rfl RV.nil) (()) (by rw [e9]; repeat (first | exact List.nil_sublist _ | exact List.Sublist.refl _ | apply List.Sublist.cons_cons | apply List.Sublist.cons)) (by simp [It.rids]) ?_
  rw [e9]
  rfl
 intro hc32
 obtain ⟨l, hvl⟩ : ∃ l, vs[who.toNat]? = some l := ⟨_, List.getElem?_eq_getElem (by rw [hok.len]; omega)⟩
 have hlm := List.mem_of_getElem? hvl
 have hl3 := hok.few l hlm
 refine SC.skip ?_
 refine SE.seq ?_
 refine SC.seq (SC.region ?_)
 refine SL.val (Val.move rfl) rfl rfl ?_
 refine SL.val (Val.nilCheck rfl) rfl rfl ?_
 refine SL.val (Val.fieldAddr tabOk rfl rfl rfl rfl rfl) rfl rfl ?_
 refine SL.val (Val.load1 tabOk rfl rfl (by repeat first|assumption|exact o0_|exact o1_|apply o2_) List.not_mem_nil (by rfl)) rfl rfl ?_
 refine SL.val (Val.move rfl) rfl rfl ?_
 refine SL.val (Val.indexOwn (q := who.toNat) tabOk Try.underlying50 rfl rfl (by repeat first|assumption|exact o0_|exact o1_|apply o2_) rfl (by omega) (by rw [List.length_map, hok.len]; omega) rfl rfl) rfl rfl ?_
 refine SL.val (Val.to (C := pntsA l) (Val.loadOwn1 (q := who.toNat) (s := 1) (cs := [pntsA l]) tabOk rfl rfl (by repeat first|assumption|exact o0_|exact o1_|apply o2_) rfl (by rw [List.getElem?_map, hvl]; rfl) rfl) rfl) rfl rfl ?_
 refine SL.val (Val.assign rfl) rfl rfl ?_
 refine SL.nil (SE.seq ?_)
 refine SC.seq (SC.region ?_)
 refine SL.val (Val.move rfl) rfl rfl ?_
 refine SL.val (Val.fieldAddr tabOk rfl rfl rfl rfl rfl) rfl rfl ?_
 refine SL.val (Val.to (C := int x.seq) (Val.load1 tabOk rfl rfl (by repeat first|assumption|exact o0_|exact o1_|apply o2_) List.not_mem_nil (by rfl)) rfl) rfl rfl ?_
 refine SL.call (bsearch_s (l := l) (s := x.seq) (hok.rise l hlm) (by omega)) Casts.refl (by kernel_rfl) rfl rfl rfl ?_
 refine ap_ ?_
 intro _
 refine SL.val (Val.move rfl) rfl rfl ?_
 refine SL.val (Val.extract rfl rfl) rfl rfl ?_
 refine SL.val (Val.extract rfl rfl) rfl rfl ?_
 iterate 2 refine SL.val (Val.assign rfl) rfl rfl ?_
 refine SL.nil (SE.seq ?_)
 refine SC.seq (SC.region ?_)
 refine SL.val (Val.move rfl) rfl rfl ?_
 first
  | refine SL.val (Val.lenSl rfl Try.underlying40 (List.length_map _)) rfl rfl ?_
  | refine SL.val (Val.lenOwn rfl (by repeat first|assumption|exact m0_|apply m1_) Try.underlying40 (List.length_map _)) rfl rfl ?_
  | refine SL.val (Val.lenNil rfl Try.underlying40) rfl rfl ?_
 refine SL.val (Val.eqI rfl rfl) rfl rfl ?_
 refine SL.val (Val.assign rfl) rfl rfl ?_
 refine SL.nil (SE.seq ?_)
 refine SC.cutS (ι := Unit) (fun z => [.blk b5 27 x.abs, .blk bp 57 [int (n : Nat), int (me : Nat), mapV bm, .v vv], own 40 1 vv ((vs).map fun l => [pntsA l]), .pc (tmPc bm intK intOk Ow.enc om)]) (fun z => [(0, ptr bp), (1, int who), (5, ptr b5), (7, pntsA l), (8, int (lbP l x.seq : Nat)), (10, boo (decide ((l.length : Int) = 3)))]) (fun z => voteOk l x = true) ?_ ?_
 ·skip
  refine SC.seq (SC.region ?_)
  iterate 2 refine SL.val (Val.move rfl) rfl rfl ?_
  refine SL.both (t := 51) rfl ?_ ?_
  ·intro hc51
   iterate 5 refine SL.skip rfl rfl ?_
   refine SL.val (Val.pickT rfl rfl) rfl rfl ?_
   refine SL.nil (SE.seq ?_)
   refine SC.condT rfl ?_
   refine SC.seq (SC.region ?_)
   refine SL.val (Val.assign rfl) rfl rfl ?_
   refine SL.nil (SE.seq ?_)
   refine SC.ret ?_
   refine SE.then_ nofun ?_
   have e9 : voteP n me vs who x = (false, vs) := voteP_no (by omega) hvl (by unfold voteOk; simp_all <;> omega)
   refine SE.fin (rs := [.tmp 6]) rfl (RV.tmp rfl RV.nil) (()) (by rw [e9]; repeat (first | exact List.nil_sublist _ | exact List.Sublist.refl _ | apply List.Sublist.cons_cons | apply List.Sublist.cons)) (by simp [It.rids]) ?_
   rw [e9]
   rfl
  intro hc51
  iterate 2 refine SL.val (Val.move rfl) rfl rfl ?_
  refine SL.bothP (t := 53) rfl ?_ ?_
  rotate_left
  ·intro hc53
   iterate 2 refine SL.skip rfl rfl ?_
   refine SL.val (Val.pickF rfl rfl) rfl rfl ?_
   refine SL.val (Val.pickF rfl rfl) rfl rfl ?_
   refine SL.nil (SE.seq ?_)
   refine SC.condF rfl ?_
   refine SC.skip ?_
   refine SE.meet (()) (by unfold voteOk; simp_all <;> omega) (by exact ⟨rfl, rfl, rfl, rfl, rfl, rfl, trivial⟩) (by repeat first|exact s0_ _|exact s1_ _|apply s2_|apply s3_)
  intro hc53
  refine SL.val (Val.move rfl) rfl rfl ?_
  refine SL.val (Val.eqI rfl rfl) rfl rfl ?_
  refine SL.val (Val.pickT rfl rfl) rfl rfl ?_
  refine SL.val (Val.pickF rfl rfl) rfl rfl ?_
  refine SL.nil (SE.seq ?_)
  refine SC.condP rfl ?_ ?_
  rotate_left
  ·intro hc57
   refine SC.skip ?_
   refine SE.meet (()) (by unfold voteOk; simp_all <;> omega) (by exact ⟨rfl, rfl, rfl, rfl, rfl, rfl, trivial⟩) (by repeat first|exact s0_ _|exact s1_ _|apply s2_|apply s3_)
  intro hc57
  refine SC.seq (SC.region ?_)
  refine SL.val (Val.assign rfl) rfl rfl ?_
  refine SL.nil (SE.seq ?_)
  refine SC.ret ?_
  refine SE.then_ nofun ?_
  have e9 : voteP n me vs who x = (false, vs) := voteP_no (by omega) hvl (by unfold voteOk; simp_all <;> omega)
  refine SE.fin (rs := [.tmp 6]) rfl (RV.tmp rfl RV.nil) (()) (by rw [e9]; repeat (first | exact List.nil_sublist _ | exact List.Sublist.refl _ | apply List.Sublist.cons_cons | apply List.Sublist.cons)) (by simp [It.rids]) ?_
  rw [e9]
  rfl
 ·intro z9 hvo
  refine SC.cutS (ι := Value) (fun z => [own 27 33 z ((insP l x).map Pnt.abs), .blk bp 57 [int (n : Nat), int (me : Nat), mapV bm, .v vv], own 40 1 vv ((vs).map fun l => [pntsA l]), .pc (tmPc bm intK intOk Ow.enc om)]) (fun z => [(0, ptr bp), (1, int who), (7, .v z), (10, boo (decide ((l.length : Int) = 3)))]) (fun z => True) ?_ ?_
  ·skip
   refine SC.draw [] (.q 0 (.q 2 (.q 3 (.two 1 4 (.e 4 (.e 5 (.q 6 .nil))) (.e 1 (.e 5 (.q 6 .nil))))))) (by kernel_rfl) (by kernel_rfl) ?_
   refine SX.val rfl (Val.move rfl) (by simp) rfl rfl ?_
   refine SX.val rfl (Val.move rfl) (by simp) rfl rfl ?_
   refine SX.hx (by first|(simp[mids,It.mids,ownPc];done)|(intro k hk;simp[mids,It.mids,ownPc] at hk ⊢;grind)) fun hx9 => ?_
   refine SX.val rfl (Val.to (C := .agg x.abs) (Val.loadA tabOk rfl rfl rfl (by repeat first|assumption|exact o0_|exact o1_|apply o2_) List.not_mem_nil (Pnt.size _)) rfl) hx9 rfl rfl ?_
   refine SX.two ?_ ?_
   ·skip
    refine SX.callM rfl (clone_pnt_s (pnts_ones l) (by rw [List.length_map]; omega)) (by simp [mids, It.mids]) Casts.refl (by kernel_rfl) rfl rfl rfl ?_
    refine After.make (by repeat (first | exact Reads.nil | (refine Reads.blk ?_ ?_; focus ((repeat first|assumption|exact m0_|apply m1_); done)) | (refine Reads.rd ?_ ?_; focus ((repeat first|assumption|exact m0_|apply m1_); done)) | (refine Reads.pc ?_ ?_; focus ((repeat first|assumption|exact m0_|apply m1_); done)) | (refine Reads.rdpc ?_ ?_; focus ((repeat first|assumption|exact m0_|apply m1_); done)))) (fun _ => rfl) ?_
    intro z59
    refine SX.effH [] (mids [own 27 33 z59 (l.map Pnt.abs)] ++ []) rfl rfl (Eff.buildOwn tabOk Try.underlying40 rfl rfl rfl (elems_one x.size) rfl rfl rfl) rfl (by simp) rfl rfl ?_
    rintro _ _ ⟨r62, rfl, rfl⟩
    refine ⟨[own 27 33 r62 [x.abs]], rfl, ?_⟩
    refine SX.callX ([]) rfl (ins_pnt (u := r62) (v := z59) (xs := l.map Pnt.abs) (y := x.abs) (i := lbP l x.seq) (by rw [List.length_map]; exact lbP_le) (pnts_ones l) x.ones (by rw [List.length_map]; omega)) (by intro k hk; simp [mids, It.mids] at hk ⊢; grind) (by simp) Casts.refl (by kernel_rfl) rfl rfl rfl ?_
    refine After.sub _ (by first | exact List.Perm.refl _ | exact List.Perm.swap _ _ _) (by intro x hx; simp only [List.mem_cons, List.not_mem_nil, or_false] at hx; rcases hx with rfl | rfl <;> rfl) ?_
    intro z63
    refine ⟨_, List.Perm.refl _, ?_⟩
    rw [insP_abs]
    refine SX.val rfl (Val.assign rfl) (by simp) rfl rfl ?_
    refine SX.nil ?_
    refine SE.meet (z63) (trivial) (by exact ⟨rfl, rfl, rfl, rfl, trivial⟩) (by repeat first|exact s0_ _|exact s1_ _|apply s2_|apply s3_)
   ·skip
    refine SX.effH [] [] rfl rfl (Eff.buildOwn tabOk Try.underlying40 rfl rfl rfl (elems_one x.size) rfl rfl rfl) rfl (by simp) rfl rfl ?_
    rintro _ _ ⟨r62, rfl, rfl⟩
    refine ⟨[own 27 33 r62 [x.abs]], rfl, ?_⟩
    refine SX.callM rfl (clone_pnt_s (pnts_ones l) (by rw [List.length_map]; omega)) (by simp [mids, It.mids]) Casts.refl (by kernel_rfl) rfl rfl rfl ?_
    refine After.make (by repeat (first | exact Reads.nil | (refine Reads.blk ?_ ?_; focus ((repeat first|assumption|exact m0_|apply m1_); done)) | (refine Reads.rd ?_ ?_; focus ((repeat first|assumption|exact m0_|apply m1_); done)) | (refine Reads.pc ?_ ?_; focus ((repeat first|assumption|exact m0_|apply m1_); done)) | (refine Reads.rdpc ?_ ?_; focus ((repeat first|assumption|exact m0_|apply m1_); done)))) (fun _ => rfl) ?_
    intro z59
    refine SX.callX ([]) rfl (ins_pnt (u := r62) (v := z59) (xs := l.map Pnt.abs) (y := x.abs) (i := lbP l x.seq) (by rw [List.length_map]; exact lbP_le) (pnts_ones l) x.ones (by rw [List.length_map]; omega)) (by intro k hk; simp [mids, It.mids] at hk ⊢; grind) (by simp) Casts.refl (by kernel_rfl) rfl rfl rfl ?_
    refine After.sub _ (by first | exact List.Perm.refl _ | exact List.Perm.swap _ _ _) (by intro x hx; simp only [List.mem_cons, List.not_mem_nil, or_false] at hx; rcases hx with rfl | rfl <;> rfl) ?_
    intro z63
    refine ⟨_, List.Perm.refl _, ?_⟩
    rw [insP_abs]
    refine SX.val rfl (Val.assign rfl) (by simp) rfl rfl ?_
    refine SX.nil ?_
    refine SE.meet (z63) (trivial) (by exact ⟨rfl, rfl, rfl, rfl, trivial⟩) (by repeat first|exact s0_ _|exact s1_ _|apply s2_|apply s3_)
  ·intro z hZ
   refine SC.freeze [] (t := 7) rfl rfl ?_
   refine SC.seq ?_
   refine SC.seq (SC.region ?_)
   refine SL.val (Val.move rfl) rfl rfl ?_
   refine SL.nil (SE.seq ?_)
   refine SC.condP rfl ?_ ?_
   rotate_left
   ·intro hc64
    have e7 : voteL l x = insP l x := if_neg (by omega)
    refine SC.skip ?_
    refine SE.seq ?_
    refine SC.seq (SC.region ?_)
    refine SL.val (Val.move rfl) rfl rfl ?_
    refine SL.val (Val.nilCheck rfl) rfl rfl ?_
    refine SL.val (Val.fieldAddr tabOk rfl rfl rfl rfl rfl) rfl rfl ?_
    refine SL.val (Val.load1 tabOk rfl rfl (by repeat first|assumption|exact o0_|exact o1_|apply o2_) List.not_mem_nil (by rfl)) rfl rfl ?_
    iterate 2 refine SL.val (Val.move rfl) rfl rfl ?_
    refine SL.val (Val.indexOwn (q := who.toNat) tabOk Try.underlying50 rfl rfl (by repeat first|assumption|exact o0_|exact o1_|apply o2_) rfl (by omega) (by rw [List.length_map, hok.len]; omega) rfl rfl) rfl rfl ?_
    refine SL.eff (Eff.setOwn (q := who.toNat) (ys := [pntsA (voteL l x)]) tabOk rfl rfl rfl (by repeat first|assumption|exact Upd.here|apply Upd.there) (by rw [e7]; rfl) rfl rfl (by rw [List.length_map, hok.len]; omega) rfl) rfl rfl ?_
    rintro _ _ ⟨rfl, rfl⟩
    rw [show List.set (List.map (fun l => [pntsA l]) vs) who.toNat [pntsA (voteL l x)] = (vs.set who.toNat (voteL l x)).map (fun l => [pntsA l]) from (List.map_set ..).symm]
    refine SL.nil (SE.seq ?_)
    refine SC.seq (SC.region ?_)
    refine SL.val (Val.assign rfl) rfl rfl ?_
    refine SL.nil (SE.seq ?_)
    refine SC.ret ?_
    have e9 : voteP n me vs who x = (true, vs.set who.toNat (voteL l x)) := voteP_yes (by omega) hvl hvo
    refine SE.fin (rs := [.tmp 6]) rfl (RV.tmp rfl RV.nil) (()) (by rw [e9]; repeat (first | exact List.nil_sublist _ | exact List.Sublist.refl _ | apply List.Sublist.cons_cons | apply List.Sublist.cons)) (by simp [It.rids]) ?_
    rw [e9]
    rfl
   intro hc64
   have e7 : voteL l x = (insP l x).drop 1 := if_pos (by omega)
   refine SC.region ?_
   refine SL.val (Val.move rfl) rfl rfl ?_
   refine SL.val (Val.to (C := pntsA ((insP l x).drop 1)) (Val.sliceLo (q := 1) tabOk Try.underlying40 rfl rfl rfl rfl rfl (by rw [List.length_map, insP_length]; omega)) (congrArg (Abs.sl 33) List.map_drop.symm)) rfl rfl ?_
   refine SL.val (Val.assign rfl) rfl rfl ?_
   refine SL.nil (SE.seq ?_)
   refine SC.seq (SC.region ?_)
   refine SL.val (Val.move rfl) rfl rfl ?_
   refine SL.val (Val.nilCheck rfl) rfl rfl ?_
   refine SL.val (Val.fieldAddr tabOk rfl rfl rfl rfl rfl) rfl rfl ?_
   refine SL.val (Val.load1 tabOk rfl rfl (by repeat first|assumption|exact o0_|exact o1_|apply o2_) List.not_mem_nil (by rfl)) rfl rfl ?_
   iterate 2 refine SL.val (Val.move rfl) rfl rfl ?_
   refine SL.val (Val.indexOwn (q := who.toNat) tabOk Try.underlying50 rfl rfl (by repeat first|assumption|exact o0_|exact o1_|apply o2_) rfl (by omega) (by rw [List.length_map, hok.len]; omega) rfl rfl) rfl rfl ?_
   refine SL.eff (Eff.setOwn (q := who.toNat) (ys := [pntsA (voteL l x)]) tabOk rfl rfl rfl (by repeat first|assumption|exact Upd.here|apply Upd.there) (by rw [e7]; rfl) rfl rfl (by rw [List.length_map, hok.len]; omega) rfl) rfl rfl ?_
   rintro _ _ ⟨rfl, rfl⟩
   rw [show List.set (List.map (fun l => [pntsA l]) vs) who.toNat [pntsA (voteL l x)] = (vs.set who.toNat (voteL l x)).map (fun l => [pntsA l]) from (List.map_set ..).symm]
   refine SL.nil (SE.seq ?_)
   refine SC.seq (SC.region ?_)
   refine SL.val (Val.assign rfl) rfl rfl ?_
   refine SL.nil (SE.seq ?_)
   refine SC.ret ?_
   have e9 : voteP n me vs who x = (true, vs.set who.toNat (voteL l x)) := voteP_yes (by omega) hvl hvo
   refine SE.fin (rs := [.tmp 6]) rfl (RV.tmp rfl RV.nil) (()) (by rw [e9]; repeat (first | exact List.nil_sublist _ | exact List.Sublist.refl _ | apply List.Sublist.cons_cons | apply List.Sublist.cons)) (by simp [It.rids]) ?_
   rw [e9]
   rfl
end
end Go.Proofs.Ytjbikemecdlolaa.A
