/-
  Packed out of the texts: A20, A24, A25, AWb, AQz, A30, A21, A26, AN1, AN4, A29, A32, AN5, A17, A31, Names.
-/
import Derived.Test.YtjclgkddfjbdiaaGreatDoorR05
import Derived.Lib.AppendZerosOnto
import Derived.Lib.Overlaps
import Derived.Sort.Walk0
import Derived.Deep.DeepAppendRoom
import Derived.Maps.RangeRun
set_option maxRecDepth 100000
set_option linter.unusedSimpArgs false
set_option linter.unusedVariables false
namespace Go.Proofs.YtjclgkddfjbdiaaGreatDoor.A
open Go.RowKit
def cutS (s : Nat) : Value → Nat → Value
  | .slice (some a) n c, q => .slice (some (if c = q then a else ⟨a.block, a.off + q * s, none⟩)) (n - q) (c - q)
  | .slice none n c, q => .slice none (n - q) (c - q)
  | v, _ => v
def capV : Value → Nat
  | .slice _ _ c => c
  | _ => 0
def chunks (s : Nat) : Nat → List Value → List (List Abs)
  | 0, _ => []
  | m + 1, l => (l.take s).map .v :: chunks s m (l.drop s)
theorem cW_ (s : Nat) : ∀ (m : Nat) (l : List Value), (chunks s m l).length = m
  | 0, _ => rfl
  | m + 1, l => by simp [chunks, cW_ s m]
theorem eF_ {K : List Nat} {w : World} : ∀ l : List Value, reps K w (l.map .v) l
  | [] => rfl
  | u :: l => ⟨u, l, rfl, rfl, eF_ l⟩
theorem cE_ {K : List Nat} {w : World} {s : Nat} : ∀ (m : Nat) (l : List Value), l.length = m * s → repss K w s (chunks s m l) l
  | 0, l, h => by
    rw [Nat.zero_mul] at h
    exact List.length_eq_zero_iff.1 h
  | m + 1, l, h => by
    rw [Nat.succ_mul] at h
    exact ⟨l.take s, l.drop s, (List.take_append_drop s l).symm, by rw [List.length_take]; omega, eF_ _, cE_ m _ (by rw [List.length_drop]; omega)⟩
theorem bG_ {K : List Nat} {w : World} {s : Nat} {xs : List (List Abs)} {us : List Value} (h : repss K w s xs us) (q : Nat) (hq : q ≤ xs.length) : repss K w s (xs.take q) (us.take (q * s)) ∧ repss K w s (xs.drop q) (us.drop (q * s)) := by
  have h1 := h
  rw [← List.take_append_drop q xs] at h1
  obtain ⟨u1, u2, e, h2, h3⟩ := c8_ h1
  have hl := aI_ h2
  rw [List.length_take, Nat.min_eq_left hq] at hl
  subst e
  rw [← hl, List.take_left, List.drop_left]
  exact ⟨h2, h3⟩
theorem c9_ {K : List Nat} {w : World} {s : Nat} : ∀ {ys : List (List Abs)} {news : List Value}, (∀ c ∈ ys, ones c = true) → repss K w s ys news → ∀ u ∈ news, u.oneCell' = true
  | [], news, _, h, u, hu => by
    have : news = [] := h
    subst this
    cases hu
  | c :: ys, _, ho, ⟨u1, u2, h1, _, h3, h4⟩, u, hu => by
    subst h1
    rcases List.mem_append.1 hu with hu | hu
    · exact b9_ h3 (ho c (by simp)) u hu
    · exact c9_ (fun c hc => ho c (by simp [hc])) h4 u hu
theorem je_ {P : Program} (w : World) (dT sT ty elem : TypeId) (g o dLen dCap : Nat) (a : Addr) (sLen sCap : Nat) (cur : Array Value) (t : TypeId) (cs : List Value) {I : TypeInfo}
    (hu : P.underlying dT = some (.slice elem)) (hq : P.info? elem = some I) (hg : w.heap[g]? = some (.cells cur t (0, 0))) (hn : cs.length = Nat.min sLen dLen * I.size)
    (hsrc : ∀ j v, cs[j]? = some v → w.cell? (a.add j) = some v) (hfit : o + cs.length ≤ cur.size) (h1 : ∀ v ∈ cs, v.oneCell' = true) :
    (Builtin.copy_ #[dT, sT] ty #[.slice (some ⟨g, o, none⟩) dLen dCap, .slice (some a) sLen sCap]).run P w = .ok (goInt (Nat.min sLen dLen)) (w.setRow g (cur.toList.take o ++ cs ++ cur.toList.drop (o + cs.length)).toArray) := by
  have hl := run_loadCells_list (P := P) w a cs hsrc
  have hst := run_storeCells_at P g o t cs 0 cur w hg (by simpa using hfit) h1
  simp [Builtin.copy_, run_underlying hu, Builtin.lenOf, Builtin.firstCells, sizeOf, typeInfo, hq, ← hn, hl, hst]
section
variable {P : Program} {n : Nat} {W : Wd} {σ τ : Blks} {l : Slots} {X : List Nat} {x y : Operand} {d : Option Nat} {ty t t' e e' : TypeId} {pos : String} {aft : Array Edge} {g : Option (Nat × Bool)} {v u : Value} {k : IntKind} {tab : List (Nat × TI)} {xs ys : List (List Abs)} {s q : Nat} {ops : Array Oper} {rest : List Oper} {Q : Exit → Act → World → Prop}
theorem aN_ {w : World} {a : Act} (hs : St n W σ l a w) (hb : own e s v xs ∈ σ) : ∃ us, w.ownsRow 0 e s v xs.length us ∧ repss (mids σ ++ W.G) w s xs us := hs.mem.hold _ hb
theorem dP_ {w : World} {m : Nat} {us : List Value} (h : w.ownsRow 0 e s v m us) : ∃ A c, v = .slice A m c ∧ m ≤ c := by
  rcases h.2 with ⟨rfl, h0⟩ | ⟨gb, cap, cur, rfl, _, _, hn, _⟩
  · exact ⟨none, 0, by rw [h0], by omega⟩
  · exact ⟨_, cap, rfl, hn⟩
theorem bg_ (hT : TabOk P tab) {j : TI} (hu : P.underlying t = some (.slice e)) (hj : ti tab e = some j) (h1 : Nat.beq j.size s = true) (hx : look l x = some (.v v)) (hb : own e' s v xs ∈ σ) {r : Int} (hy : look l y = some (.v (.int k r))) (hr : r = (q : Nat)) (hq : q ≤ xs.length) :
    Val P n W σ l X ⟨d, .slice t x (some y) none none, ty, pos, aft, g⟩ (.v (cutS s v q)) := fun a w hs _ => by
  subst hr
  have h1 := Nat.eq_of_beq_eq_true h1
  obtain ⟨us, hr1, _⟩ := aN_ hs hb
  rcases hr1.2 with ⟨rfl, h0⟩ | ⟨gb, c, cur, rfl, _, _, hn, _⟩
  · have hq0 : q = 0 := by omega
    subst hq0
    refine ⟨_, rfl, fun w' _ => ?_⟩
    have h7 := (hT _ _ hj).sizeOf (w := w')
    have e1 : a.eval x = .slice none 0 0 := hs.plain hx
    have e2 : a.eval y = .int k ((0 : Nat) : Int) := hs.plain hy
    simp [execOp, Instr.sliceAt, Instr.slice, Instr.sliceBounds, Instr.sliceBound, asIntOf, e1, e2, run_underlying hu, Sem.run_bind, Result.andThen, h7, cutS]
  · refine ⟨_, rfl, fun w' _ => ?_⟩
    have h7 := (hT _ _ hj).sizeOf (w := w')
    have e1 : a.eval x = .slice (some ⟨gb, 0, none⟩) xs.length c := hs.plain hx
    have e2 : a.eval y = .int k ((q : Nat) : Int) := hs.plain hy
    by_cases hc : c = q <;> simp [execOp, Instr.sliceAt, Instr.slice, Instr.sliceBounds, Instr.sliceBound, asIntOf, e1, e2, run_underlying hu, Sem.run_bind, Result.andThen, h7, h1, hq, hc, Addr.add, cutS]
    try omega
theorem g8_ (hT : TabOk P tab) {j : TI} (hu : P.underlying t = some (.slice e)) (hj : ti tab e = some j) (hx : look l x = some (.v v)) (hb : own e' s v xs ∈ σ) {r : Int} (hy : look l y = some (.v (.int k r))) (hr : r = (q : Nat)) (hq : q ≤ capV v) :
    Val P n W σ l X ⟨d, .slice t x none (some y) none, ty, pos, aft, g⟩ (.v (cutTo v q)) := fun a w hs _ => by
  subst hr
  obtain ⟨us, hr1, _⟩ := aN_ hs hb
  obtain ⟨A', c, rfl, _⟩ := dP_ hr1
  refine ⟨_, rfl, fun w' _ => ?_⟩
  have h7 := (hT _ _ hj).sizeOf (w := w')
  have e1 : a.eval x = .slice A' xs.length c := hs.plain hx
  have e2 : a.eval y = .int k ((q : Nat) : Int) := hs.plain hy
  have hq' : q ≤ c := hq
  have h8 : ∀ a : Addr, a.spot = none → a.add 0 = a := fun a ha => by obtain ⟨b, o, r⟩ := a; cases ha; rfl
  rcases Nat.eq_zero_or_pos c with hc | hc
  · subst hc
    obtain rfl : q = 0 := by omega
    cases A' <;> simp [execOp, Instr.sliceAt, Instr.slice, Instr.sliceBounds, Instr.sliceBound, asIntOf, e1, e2, run_underlying hu, Sem.run_bind, Result.andThen, h7, cutTo]
  · have hc : ¬ c = 0 := by omega
    cases A' with
    | none => simp [execOp, Instr.sliceAt, Instr.slice, Instr.sliceBounds, Instr.sliceBound, asIntOf, e1, e2, run_underlying hu, Sem.run_bind, Result.andThen, h7, hq', cutTo, hc]
    | some A =>
      have hA : A.spot = none := by
        rcases hr1.2 with ⟨h, _⟩ | ⟨gb, cap, cur, h, _⟩
        · cases h
        · cases h; rfl
      simp [execOp, Instr.sliceAt, Instr.slice, Instr.sliceBounds, Instr.sliceBound, asIntOf, e1, e2, run_underlying hu, Sem.run_bind, Result.andThen, h7, hq', cutTo, hc, h8 A hA]
theorem jD_ (hx : look l x = some (.v v)) (hb : own e' s v xs ∈ σ) (ht : P.underlying t = some (.slice e)) : Val P n W σ l X ⟨d, .call { callee := .builtin .cap, args := #[x], argTypes := #[t] }, ty, pos, aft, g⟩ (.v (.int .i64 (capV v : Nat))) := fun a w hs _ => by
  obtain ⟨us, hr1, _⟩ := aN_ hs hb
  obtain ⟨A', c, rfl, _⟩ := dP_ hr1
  refine ⟨_, rfl, fun w' _ => ?_⟩
  have e1 : a.eval x = .slice A' xs.length c := hs.plain hx
  simp [execOp, resolve, invoke, builtin, Builtin.cap_, e1, run_underlying ht, Sem.run_bind, Result.andThen, goInt, capV]
theorem St.growOwn {a : Act} {w : World} (h : St n W σ l a w) (hb : own e s v xs ∈ σ) (hq : xs.length ≤ q) (hc : q ≤ capV v) : ∃ js : List (List Abs), js.length + xs.length = q ∧ ∀ τ, Upd (own e s v xs) (own e s (cutTo v q) (xs ++ js)) σ τ → St n W τ l a w := by
  obtain ⟨us, hown, hr⟩ := aN_ h hb
  rcases hown.2 with ⟨rfl, h0⟩ | ⟨gb, cap, cur, rfl, hbase, hg, hn, hcap, hsz, htk⟩
  · have hq0 : q = 0 := by simp only [capV] at hc; omega
    refine ⟨[], by simp; omega, fun τ hu => ?_⟩
    have hx0 : xs = [] := List.length_eq_zero_iff.1 h0
    subst hx0 hq0
    have := ef_ (x := own e s (.slice none 0 0) []) hu
    rw [this]
    exact h
  · simp only [capV] at hc
    have hle : q * s ≤ cap * s := Nat.mul_le_mul_right _ hc
    have hle2 : xs.length * s ≤ q * s := Nat.mul_le_mul_right _ hq
    have hjl : ((cur.toList.take (q * s)).drop (xs.length * s)).length = (q - xs.length) * s := by
      rw [List.length_drop, List.length_take, Nat.min_eq_left (by simp; omega), Nat.sub_mul]
    refine ⟨chunks s (q - xs.length) ((cur.toList.take (q * s)).drop (xs.length * s)), by rw [cW_]; omega, fun τ hu => ?_⟩
    have hl : (xs ++ chunks s (q - xs.length) ((cur.toList.take (q * s)).drop (xs.length * s))).length = q := by rw [List.length_append, cW_]; omega
    have hm := h.mem.upd hu (Ext.refl w) aQ_ (fun k hk => .inl (by simpa [It.mids, ownPc, cl_] using hk)) rfl fun hca => by
      refine ⟨cur.toList.take (q * s), ⟨?_, .inr ⟨gb, cap, cur, ?_, hbase, hg, by rw [hl]; exact hc, hcap, hsz, by rw [hl]⟩⟩, ?_⟩
      · rw [hl, List.length_take, Nat.min_eq_left (by simp; omega)]
      · rw [hl]; rfl
      · have e1 : cur.toList.take (q * s) = us ++ (cur.toList.take (q * s)).drop (xs.length * s) := by
          rw [← htk]
          have := List.take_append_drop (xs.length * s) (cur.toList.take (q * s))
          rw [List.take_take, Nat.min_eq_left hle2] at this
          exact this.symm
        rw [e1]
        refine a6_ (am_ hca _ _ _ hr) ?_
        rw [← e1]
        exact cE_ _ _ hjl
    exact h.to hm.1 hm.2
theorem jF_ {c : Code} (hb : own e s v xs ∈ σ) (hq : xs.length ≤ q) (hc : q ≤ capV v) (k : ∀ (js : List (List Abs)), js.length + xs.length = q → ∃ τ, Upd (own e s v xs) (own e s (cutTo v q) (xs ++ js)) σ τ ∧ SC P c (St n W τ l) Q) : SC P c (St n W σ l) Q := fun a w h => by
  obtain ⟨js, h1, h2⟩ := h.growOwn hb hq hc
  obtain ⟨τ, h3, h4⟩ := k js h1
  exact h4 a w (h2 τ h3)
theorem e6_ {f : FuncId} {fn : Func} {ats : Array TypeId} {tr : TypeId} {α β : Blks} (hf : P.funcs[f]? = some fn) (h1 : (fn.name == "runtime.NumGoroutine") = false) (h2 : fn.body.isNone = true) (h3 : Extern.findNext fn = none) (h4 : Extern.find fn = some (Extern.SlicesOverlaps.overlaps #[t, t] #[tr]))
    (hT : TabOk P tab) {j : TI} (hu : P.underlying t = some (.slice e)) (hj : ti tab e = some j) (hsz : Nat.beq j.size s = true) (hpos : Nat.blt 0 s = true)
    (hx : look l x = some (.v u)) (hy : look l y = some (.v (cutS s v q))) (hσ : σ = α ++ own e s v xs :: β) (hb : own e s u ys ∈ α ++ β) (hys : 0 < ys.length) (hq : q < xs.length) :
    Val P n W σ l [] ⟨d, .call { callee := .value (.func f), args := #[x, y], argTypes := ats }, ty, pos, aft, g⟩ (.v (.bool false)) := fun a w hs _ => by
  have hsz := Nat.eq_of_beq_eq_true hsz
  have hpos : 0 < s := by simpa [Nat.blt_eq] using hpos
  have hbv : own e s v xs ∈ σ := by rw [hσ]; simp
  have hbu : own e s u ys ∈ σ := by
    rw [hσ]
    rcases List.mem_append.1 hb with h | h
    · simp [h]
    · simp [h]
  obtain ⟨us, hv, _⟩ := aN_ hs hbv
  obtain ⟨us2, hu2, _⟩ := aN_ hs hbu
  rcases hv.2 with ⟨_, h0⟩ | ⟨gb, cap, cur, rfl, _, hg, hn, _, hcs, _⟩
  · omega
  rcases hu2.2 with ⟨_, h0⟩ | ⟨gb2, cap2, cur2, rfl, _, hg2, hn2, _, hcs2, _⟩
  · omega
  have hne : gb2 ≠ gb := fun he => by
    have hnd := hs.mem.nodup
    rw [hσ, T_, af_, List.nodup_append, List.nodup_append] at hnd
    subst he
    have hk : gb2 ∈ (own e s (.slice (some ⟨gb2, 0, none⟩) xs.length cap) xs).mids := by simp [It.mids, ownPc, Value.ownBlock]
    have hk2 : gb2 ∈ (own e s (.slice (some ⟨gb2, 0, none⟩) ys.length cap2) ys).mids := by simp [It.mids, ownPc, Value.ownBlock]
    rcases List.mem_append.1 hb with h | h
    · exact hnd.2.2 gb2 (bP_.2 ⟨_, h, hk2⟩) gb2 (List.mem_append_left _ hk) rfl
    · exact hnd.2.1.2.2 gb2 hk gb2 (bP_.2 ⟨_, h, hk2⟩) rfl
  refine ⟨_, rfl, fun w' hw' => ?_⟩
  have hg' : w'.heap[gb]? = some (.cells cur e (0, 0)) := (hw'.block gb (aR_ hg) (by simp)).trans hg
  have hg2' : w'.heap[gb2]? = some (.cells cur2 e (0, 0)) := (hw'.block gb2 (aR_ hg2) (by simp)).trans hg2
  have hcq : ¬ cap = q := by omega
  have e1 : a.eval x = .slice (some ⟨gb2, 0, none⟩) ys.length cap2 := hs.plain hx
  have e2 : a.eval y = .slice (some ⟨gb, 0 + q * s, none⟩) (xs.length - q) (cap - q) := by
    have := hs.plain hy
    simp only [cutS, hcq, if_false] at this
    exact this
  have hpos2 : 0 < cur.size := by
    rw [hcs]
    exact Nat.mul_pos (by omega) hpos
  have hrun := Lib.run_overlaps_apart (P := P) w' t tr e hu j.size (fun w => (hT _ _ hj).sizeOf (w := w)) ⟨gb2, 0, none⟩ ⟨gb, 0 + q * s, none⟩ ys.length cap2 (xs.length - q) (cap - q) hne e e cur2.size cur.size
    (by simp [World.shape?, hg2']) (by simp [World.shape?, hg']) (by omega) (by simp [World.frozen?, hg2']) (by simp [World.frozen?, hg2'])
  have hcf := run_callFunc_extern hf h1 h2 h3 h4 #[a.eval x, a.eval y] w'
  rw [e1, e2, hrun] at hcf
  have hfn : a.eval (.func f) = .func (.func f) #[] #[] := rfl
  simp only [Result.andThen, Nat.zero_add] at hcf
  simp [execOp, resolve, hfn, Deferred.ofValue, invoke, e1, e2, hcf, Sem.run_bind, Result.andThen]
def Src (n : Nat) (W : Wd) (σ : Blks) (l : Slots) (y : Operand) (s m : Nat) (ys : List (List Abs)) : Prop := ∀ a w, St n W σ l a w → ∃ A M c news, a.eval y = .slice (some A) M c ∧ min M m = ys.length ∧ repss (mids σ ++ W.G) w s ys news ∧ ∀ j u, news[j]? = some u → w.cell? (A.add j) = some u
theorem Src.ofOwn {m : Nat} (hy : look l y = some (.v (cutS s v q))) (hb : own e s v xs ∈ σ) (hq : q < xs.length) (hm : min (xs.length - q) m = ys.length) (he : (xs.drop q).take ys.length = ys) : Src n W σ l y s m ys := fun a w hs => by
  obtain ⟨us, hv, hr⟩ := aN_ hs hb
  rcases hv.2 with ⟨_, h0⟩ | ⟨gb, cap, cur, rfl, _, hg, hn, _, hcs, htk⟩
  · omega
  have hcq : ¬ cap = q := by omega
  have e2 : a.eval y = .slice (some ⟨gb, 0 + q * s, none⟩) (xs.length - q) (cap - q) := by
    have := hs.plain hy
    simp only [cutS, hcq, if_false] at this
    exact this
  have hr2 := (bG_ (bG_ hr q (by omega)).2 ys.length (by rw [List.length_drop, ← hm]; exact Nat.min_le_left _ _)).1
  rw [he] at hr2
  refine ⟨_, _, _, _, e2, hm, hr2, fun j u hj => ?_⟩
  rw [List.getElem?_take] at hj
  split at hj
  · rw [List.getElem?_drop] at hj
    rw [Addr.add_none, ← htk, List.getElem?_take] at *
    split at hj
    · simp only [World.cell?, hg]
      simpa [Nat.zero_add] using hj
    · cases hj
  · cases hj
theorem Src.ofAll {m : Nat} (hy : look l y = some (.v v)) (hb : own e s v xs ∈ σ) (hq : 0 < xs.length) (hm : min xs.length m = xs.length) : Src n W σ l y s m xs := fun a w hs => by
  obtain ⟨us, hv, hr⟩ := aN_ hs hb
  rcases hv.2 with ⟨_, h0⟩ | ⟨gb, cap, cur, rfl, _, hg, hn, _, hcs, htk⟩
  · omega
  refine ⟨_, _, _, _, hs.plain hy, hm, hr, fun j u hj => ?_⟩
  rw [Addr.add_none, ← htk, List.getElem?_take] at *
  split at hj
  · simp only [World.cell?, hg]
    simpa using hj
  · cases hj
theorem cv_ (hT : TabOk P tab) {j : TI} {zs : List (List Abs)} (hu : P.underlying t = some (.slice e)) (hj : ti tab e = some j) (hsz : Nat.beq j.size s = true) (hx : look l x = some (.v (cutS s v q))) (hq : q < xs.length) (hsrc : Src n W σ l y s (xs.length - q) ys) (h1 : ∀ c ∈ ys, ones c = true) (hz : xs.take q ++ ys ++ xs.drop (q + ys.length) = zs) (hup : Upd (own e s v xs) (own e s v zs) σ τ) :
    Eff P n W σ l v.ownBlock.toList ⟨d, .call { callee := .builtin .copy, args := #[x, y], argTypes := #[t, t'] }, ty, pos, aft, g⟩ fun r τ' => r = .v (.int .i64 (ys.length : Nat)) ∧ τ' = τ := fun a w hs => by
  have hsz := Nat.eq_of_beq_eq_true hsz
  obtain ⟨us, hown, hr⟩ := aN_ hs hup.mem
  obtain ⟨A, M, c, news, e2, hm, hr2, hc2⟩ := hsrc a w hs
  have hm : Nat.min M (xs.length - q) = ys.length := hm
  have hlen2 := aI_ hr2
  have hone := c9_ h1 hr2
  have hfit : q + ys.length ≤ xs.length := by
    have : Nat.min M (xs.length - q) ≤ xs.length - q := Nat.min_le_right _ _
    omega
  obtain ⟨I, hI, hIs, _⟩ := (hT e j hj).info
  rcases hown.2 with ⟨_, h0⟩ | ⟨gb, cap, cur, rfl, hbase, hg, hn, hcap, hcs, htk⟩
  · omega
  have hcq : ¬ cap = q := by omega
  have e1 : a.eval x = .slice (some ⟨gb, 0 + q * s, none⟩) (xs.length - q) (cap - q) := by
    have := hs.plain hx
    simp only [cutS, hcq, if_false] at this
    exact this
  have hb1 : q * s + ys.length * s ≤ xs.length * s := by rw [← Nat.add_mul]; exact Nat.mul_le_mul_right _ hfit
  have hb2 : xs.length * s ≤ cap * s := Nat.mul_le_mul_right _ hn
  have hrun := je_ (P := P) w t t' ty e gb (0 + q * s) (xs.length - q) (cap - q) A M c cur e news hu hI hg (by rw [hm, hIs, hsz, hlen2]) hc2 (by omega) hone
  rw [hm] at hrun
  have hxx : Ext (Value.ownBlock (.slice (some ⟨gb, 0, none⟩) xs.length cap)).toList w (w.setRow gb (cur.toList.take (0 + q * s) ++ news ++ cur.toList.drop (0 + q * s + news.length)).toArray) := (Ext.refl w).setRow (.inl (by simp [Value.ownBlock])) _
  have hzl : zs.length = xs.length := by
    rw [← hz]
    simp only [List.length_append, List.length_take, List.length_drop]
    omega
  have hnew : (cur.toList.take (0 + q * s) ++ news ++ cur.toList.drop (0 + q * s + news.length)).take (xs.length * s) = us.take (q * s) ++ news ++ us.drop ((q + ys.length) * s) := by
    have hcl : cur.toList.length = cap * s := by simp [hcs]
    rw [← htk, Nat.zero_add, Nat.add_mul]
    rw [← hlen2] at hb1 ⊢
    generalize q * s = q' at *
    generalize xs.length * s = n' at *
    generalize cap * s = c' at *
    apply List.ext_getElem?
    intro j
    simp only [List.getElem?_take, List.getElem?_append, List.length_append, List.length_take, List.getElem?_drop]
    grind
  have hm2 := hs.mem.upd hup hxx aQ_ (fun k hk => .inl (by simpa [It.mids, ownPc, Value.ownBlock] using hk)) rfl fun hca => by
    refine ⟨us.take (q * s) ++ news ++ us.drop ((q + ys.length) * s), ⟨?_, .inr ⟨gb, cap, _, by rw [hzl], hbase, setRow_heap w gb cur _ e (0, 0) hg, by rw [hzl]; exact hn, hcap, ?_, ?_⟩⟩, ?_⟩
    · rw [hzl, ← hnew, List.length_take]
      simp only [List.length_append, List.length_take, List.length_drop, Array.length_toList]
      omega
    · simp only [List.size_toArray, List.length_append, List.length_take, List.length_drop, Array.length_toList]
      omega
    · rw [hzl]
      simpa using hnew
    · rw [← hz]
      refine a6_ (a6_ ?_ (am_ hca _ _ _ hr2)) ?_
      · exact am_ hca _ _ _ (bG_ hr q (by omega)).1
      · exact am_ hca _ _ _ (bG_ hr (q + ys.length) (by omega)).2
  refine ⟨_, _, _, _, ⟨rfl, rfl⟩, hxx, rfl, hm2.1, hm2.2, .inl ?_⟩
  simp only [Nat.zero_add, List.append_assoc] at hrun e1 ⊢
  simp [execOp, resolve, invoke, builtin, e1, e2, hrun, Result.andThen, goInt]
theorem e9_ (hT : TabOk P tab) {j : TI} {m : Nat} {r : Int} {tn : TypeId} {kn : IntKind} (hu : P.underlying t = some (.slice e)) (htn : P.underlying tn = some (.int kn)) (hj : ti tab e = some j) (hsz : Nat.beq j.size s = true) (hpos : Nat.blt 0 s = true) (hx : look l x = some (.v (cutTo v q))) (hb : own e s v xs ∈ σ) (hy : look l y = some (.v (.int k r))) (hr : r = (m : Nat)) (hq : q < xs.length) (hm : 0 < m) (hroom : capV v < q + m) (hml : q + m ≤ maxLen) (hby : (q + m) * P.bytesOf e ≤ 140737488355328) :
    Eff P n W σ l [] ⟨d, .call { callee := .builtin .append, args := #[x, y], argTypes := #[t, tn] }, ty, pos, aft, g⟩ fun u τ => ∃ v' js, u = .v v' ∧ js.length = m ∧ τ = own e s v' (xs.take q ++ js) :: σ := fun a w hs => by
  subst hr
  have hsz := Nat.eq_of_beq_eq_true hsz
  have hpos : 0 < s := by simpa [Nat.blt_eq] using hpos
  obtain ⟨us, hown, hr⟩ := aN_ hs hb
  obtain ⟨I, hI, hIs, z, hz, hzc⟩ := (hT e j hj).info
  have hzl := (hT e j hj).len
  have hbi := f4_ hI
  rcases hown.2 with ⟨_, h0⟩ | ⟨gb, cap, cur, rfl, hbase, hg, hn, hcap, hcs, htk⟩
  · omega
  simp only [capV] at hroom
  have hqs : q * s ≤ xs.length * s := Nat.mul_le_mul_right _ (by omega)
  have hnc : xs.length * s ≤ cap * s := Nat.mul_le_mul_right _ hn
  have hul := hown.1
  have hold : (Builtin.firstCells I.size q (.slice (some ⟨gb, 0, none⟩) q cap)).run P w.drew = .ok (us.take (q * s)).toArray w.drew := by
    rw [hIs, hsz]
    refine run_firstCells_some (P := P) w.drew s q ⟨gb, 0, none⟩ q cap (us.take (q * s)) (by rw [List.length_take]; omega) fun i u hi => ?_
    rw [List.getElem?_take] at hi
    split at hi
    · rw [Addr.add_none]
      rw [← htk, List.getElem?_take] at hi
      split at hi
      · show w.cell? _ = _
        simp only [World.cell?, hg]
        simpa using hi
      · cases hi
    · cases hi
  have hrun := Lib.run_append_grow_zeros (P := P) w t tn ty e I z k kn hu htn hI hz (some ⟨gb, 0, none⟩) q cap (us.take (q * s)) hold m hm (by rw [hIs, hsz]; exact hpos) hroom (by unfold maxLen at hml; omega)
    (by rw [← hbi]; have : m * P.bytesOf e ≤ (q + m) * P.bytesOf e := Nat.mul_le_mul_right _ (by omega); omega) (growslice_fits hroom (by rw [← hbi]; exact hby))
  obtain ⟨G, hG⟩ : ∃ G, grownCap w (q + m) cap e = G := ⟨_, rfl⟩
  have hG1 : q + m ≤ G := hG ▸ grownCap_ge w _ _ _
  have hG2 : G ≤ maxLen := hG ▸ grownCap_le_maxLen w _ _ _ hml
  rw [hG] at hrun
  obtain ⟨ROW, hROW⟩ : ∃ ROW, (us.take (q * s)).toArray ++ Builtin.zeroCells z.cells m ++ Builtin.zeroCells z.cells (G - (q + m)) = ROW := ⟨_, rfl⟩
  rw [hROW] at hrun
  have hzs : z.cells.size = s := by rw [hzc, List.size_toArray, hzl, hsz]
  have hz1 : ∀ m, (Builtin.zeroCells z.cells m).size = m * s := fun m => by simp [Builtin.zeroCells, hzs]
  have hz2 : ∀ m, (Builtin.zeroCells z.cells m).toList.length = m * s := fun m => by rw [Array.length_toList, hz1]
  obtain ⟨js, hjs⟩ : ∃ js, chunks s m (Builtin.zeroCells z.cells m).toList = js := ⟨_, rfl⟩
  have hjl : js.length = m := by rw [← hjs, cW_]
  have hx0 : Ext [] w (w.drew.alloc (.cells ROW e)) := ((Ext.refl w).drew).alloc _
  have hrs : ROW.size = G * s := by
    rw [← hROW]
    simp only [Array.size_append, hz1, List.size_toArray, List.length_take]
    rw [Nat.min_eq_left (by omega), ← Nat.add_mul, ← Nat.add_mul]
    congr 1
    omega
  have hlen : (xs.take q ++ js).length = q + m := by
    rw [List.length_append, List.length_take, hjl]
    omega
  have hm2 := hs.mem.new (y := own e s (.slice (some ⟨w.heap.size, 0, none⟩) (q + m) G) (xs.take q ++ js)) hx0 aQ_ (by simp [It.mids, ownPc, Value.ownBlock]) rfl fun hca => by
    refine ⟨us.take (q * s) ++ (Builtin.zeroCells z.cells m).toList, ⟨?_, .inr ⟨w.heap.size, G, ROW, by rw [hlen], by omega, ?_, by rw [hlen]; exact hG1, hG2, hrs, ?_⟩⟩, a6_ (am_ hca _ _ _ (bG_ hr q (by omega)).1) (hjs ▸ cE_ m _ (by rw [Array.length_toList, hz1]))⟩
    · rw [hlen, List.length_append, List.length_take, hz2, Nat.add_mul]
      omega
    · exact heap_alloc_new w.drew _
    · rw [hlen, ← hROW]
      simp only [Array.toList_append, List.append_assoc]
      rw [← List.append_assoc, List.take_append_of_le_length (by rw [List.length_append, List.length_take, hz2, Nat.add_mul]; omega), List.take_of_length_le (by rw [List.length_append, List.length_take, hz2, Nat.add_mul]; omega)]
  refine ⟨_, _, _, _, ⟨_, js, rfl, hjl, rfl⟩, hx0, rfl, hm2.1, hm2.2, .inl ?_⟩
  have e1 : a.eval x = .slice (some ⟨gb, 0, none⟩) q cap := hs.plain hx
  have e2 : a.eval y = .int k ((m : Nat) : Int) := hs.plain hy
  simp [execOp, resolve, invoke, builtin, e1, e2, hrun, Result.andThen]
end
theorem Casts.of_eq {xs ys : List Abs} (h : xs = ys) : Casts xs ys := h ▸ Casts.refl
section
variable {xs js : List (List Abs)} {y : List Abs} {i : Nat}
theorem ins_a (hi : i < xs.length) (hj : js.length = xs.length + 1 - i) : (xs.take i ++ js).take i ++ [y] ++ (xs.take i ++ js).drop (i + [y].length) = xs.take i ++ y :: js.drop 1 := by
  rw [List.take_append_of_le_length (by rw [List.length_take]; omega), List.take_take, Nat.min_self, List.drop_append, List.drop_of_length_le (by rw [List.length_take]; simp; omega), List.length_take, Nat.min_eq_left (by omega)]
  simp
theorem ins_b (hi : i < xs.length) (hj : js.length = xs.length + 1 - i) : (xs.take i ++ y :: js.drop 1).take (i + 1) ++ xs.drop i ++ (xs.take i ++ y :: js.drop 1).drop (i + 1 + (xs.drop i).length) = xs.take i ++ y :: xs.drop i := by
  have h1 : (xs.take i ++ y :: js.drop 1).drop (i + 1 + (xs.drop i).length) = [] := List.drop_of_length_le (by simp; omega)
  rw [h1, List.append_nil, List.take_append, List.length_take, Nat.min_eq_left (by omega), List.take_take, Nat.min_eq_right (by omega), Nat.add_sub_cancel_left, List.append_assoc]
  rfl
theorem ins_c (hi : i < xs.length) (hj : js.length + xs.length = xs.length + 1) : (xs ++ js).take (i + 1) ++ xs.drop i ++ (xs ++ js).drop (i + 1 + (xs.drop i).length) = (xs ++ js).take (i + 1) ++ xs.drop i := by
  have h1 : (xs ++ js).drop (i + 1 + (xs.drop i).length) = [] := List.drop_of_length_le (by simp; omega)
  rw [h1, List.append_nil]
theorem ins_d (hi : i < xs.length) (hj : js.length + xs.length = xs.length + 1) : ((xs ++ js).take (i + 1) ++ xs.drop i).take i ++ [y] ++ ((xs ++ js).take (i + 1) ++ xs.drop i).drop (i + [y].length) = xs.take i ++ y :: xs.drop i := by
  have h1 : ((xs ++ js).take (i + 1)).length = i + 1 := by rw [List.length_take, List.length_append]; omega
  rw [List.take_append_of_le_length (by omega), List.take_take, Nat.min_eq_left (by omega), List.take_append_of_le_length (by omega), List.drop_append, List.drop_of_length_le (by simp; omega), h1]
  simp
theorem ins_len (hi : i < xs.length) (hj : js.length + xs.length = xs.length + 1) : ((xs ++ js).take (i + 1) ++ xs.drop i).length = xs.length + 1 := by
  simp only [List.length_append, List.length_take, List.length_drop]
  omega
theorem ins_src (hi : i < xs.length) : ((xs ++ js).drop i).take (xs.drop i).length = xs.drop i := by
  rw [List.drop_append_of_le_length (by omega), List.take_left]
theorem ins_all (hi : i = xs.length) : xs ++ [y] = xs.take i ++ y :: xs.drop i := by
  subst hi
  simp
theorem iy_ (h1 : ∀ c ∈ xs, ones c = true) (q : Nat) : ∀ c ∈ xs.drop q, ones c = true := fun c hc => h1 c (List.mem_of_mem_drop hc)
end
section
variable {P : Program} {n : Nat} {W : Wd} {σ τ : Blks} {l : Slots} {X : List Nat} {x y : Operand} {d : Option Nat} {ty t e : TypeId} {pos : String} {aft : Array Edge} {g : Option (Nat × Bool)} {tab : List (Nat × TI)} {k k' : IntKind} {r : Int} {m : Nat} {z : Value}
theorem hZ_ (hT : TabOk P tab) {j : TI} (hu : P.underlying t = some (.slice e)) (hj : ti tab e = some j) (hsz : Nat.beq j.size 1 = true) (hz : j.zero = [z]) (hx : look l x = some (.v (.int k r))) (hy : look l y = some (.v (.int k' r))) (hr : r = (m : Nat)) (hm : m ≤ maxLen) (hby : P.bytesOf e * m ≤ 281474976710656) :
    Eff P n W σ l [] ⟨d, .makeSlice t x y, ty, pos, aft, g⟩ fun u τ => ∃ v, u = .v v ∧ τ = own e 1 v (List.replicate m [.v z]) :: σ := fun a w hs => by
  subst hr
  have hsz := Nat.eq_of_beq_eq_true hsz
  obtain ⟨I, hI, hIs, zv, hzv, hzc⟩ := (hT e j hj).info
  have hbi := f4_ hI
  obtain ⟨w', hrun, h1, h2⟩ := run_make_full (P := P) w 0 t e I zv 1 hu hI hzv (by rw [hIs, hsz]) k k' m (by rw [← hbi]; exact hby) hm (Nat.zero_le _)
  have hxx : Ext [] w w' := gN_ h2 (by simp)
  have hcs : (madeCells zv.cells (m * 1)).toList = List.replicate m z := by
    rw [hzc, hz, Nat.mul_one]
    apply List.ext_getElem
    · simp [size_madeCells]
    · intro i h3 h4
      simp [madeCells, Nat.mod_one]
  rw [hcs] at h1
  have hnew := hs.mem.new (y := own e 1 (.slice (some ⟨w.heap.size, 0, none⟩) m m) (List.replicate m [.v z])) hxx aQ_ (by simp [It.mids, ownPc, Value.ownBlock]) rfl fun hc => ⟨List.replicate m z, by rw [List.length_replicate]; exact h1, gy_ m⟩
  refine ⟨_, w', _, _, ⟨_, rfl, rfl⟩, hxx, rfl, hnew.1, hnew.2, .inl ?_⟩
  simp [execOp, hs.plain hx, hs.plain hy, hrun, Result.andThen]
end
def itPc : It → Pc
  | .blk b t cs => blkP b t cs
  | .pc c => c
  | _ => bigP []
def bigI (xs : Blks) : Pc := bigP (xs.map itPc)
def isMut : It → Bool
  | .blk .. => true
  | .pc _ => true
  | _ => false
section
variable {xs ys : Blks} {x : It} {K : List Nat} {w : World}
theorem itPc_ids (h : isMut x = true) : (itPc x).ids = x.mids := by
  cases x with
  | blk b t cs => simp [itPc, It.mids, blkP]
  | pc c => rfl
  | _ => cases h
theorem itPc_p (h : isMut x = true) : (itPc x).p K w ↔ x.holds K w := by
  cases x with
  | blk b t cs => exact Iff.rfl
  | pc c => exact Iff.rfl
  | _ => cases h
theorem it_ (h : isMut x = true) : x.rids = [] := by
  cases x with
  | blk b t cs => rfl
  | pc c => rfl
  | _ => cases h
theorem iN_ : ∀ {xs : Blks}, xs.all isMut = true → (bigI xs).ids = mids xs
  | [], _ => rfl
  | x :: xs, h => by
    rw [List.all_cons, Bool.and_eq_true] at h
    have h1 := iN_ h.2
    unfold bigI bigP at h1 ⊢
    simp only [List.map_cons, List.flatMap_cons]
    rw [itPc_ids h.1, af_]
    exact congrArg (x.mids ++ ·) h1
theorem fx_ (h : xs.all isMut = true) : (bigI xs).p K w ↔ ∀ x ∈ xs, x.holds K w := by
  rw [List.all_eq_true] at h
  show (∀ c ∈ xs.map itPc, c.p K w) ↔ _
  constructor
  · intro h1 x hx
    exact (itPc_p (h x hx)).1 (h1 _ (List.mem_map.2 ⟨x, hx, rfl⟩))
  · intro h1 c hc
    obtain ⟨x, hx, rfl⟩ := List.mem_map.1 hc
    exact (itPc_p (h x hx)).2 (h1 x hx)
theorem cR_ (h : xs.all isMut = true) : mids [.pc (bigI xs)] = mids xs := by
  rw [af_]
  show (bigI xs).ids ++ mids [] = _
  rw [iN_ h]
  simp [mids]
theorem J_ (h : xs.all isMut = true) : ∀ x ∈ xs, x.rids = [] := fun x hx => it_ (List.all_eq_true.1 h x hx)
theorem Re.bigIn (h : xs.all isMut = true) : Re xs [.pc (bigI xs)] := ⟨⟨[], by rw [cR_ h, List.append_nil]⟩, by simp [It.rids], fun K w hx y hy => by
  rw [List.mem_singleton.1 hy]
  exact (fx_ h).2 hx⟩
theorem Re.bigOut (h : xs.all isMut = true) : Re [.pc (bigI xs)] xs := ⟨⟨[], by rw [cR_ h, List.append_nil]⟩, J_ h, fun K w hx y hy => (fx_ h).1 (hx _ List.mem_cons_self) y hy⟩
theorem Spec.big {P : Program} {f : FuncId} {args : List Abs} {σ : Blks} {ι : Type} {τ : ι → Blks} {res : ι → Abs} (hs : Spec P f args σ τ res) (h1 : σ.all isMut = true) (h2 : ∀ z, (τ z).all isMut = true) : Spec P f args [.pc (bigI σ)] (fun z => [.pc (bigI (τ z))]) res :=
  Spec.reg (φ := []) hs (J_ h1) (by rw [List.append_nil]; exact Re.bigOut h1) fun z => by rw [List.append_nil]; exact Re.bigIn (h2 z)
theorem Spec.mapI {P : Program} {f : FuncId} {args : List Abs} {σ : Blks} {ι κ : Type} {τ : ι → Blks} {τ2 : κ → Blks} {res : ι → Abs} {res2 : κ → Abs} (g : ι → κ) (h : Spec P f args σ τ res) (h1 : ∀ z, τ z = τ2 (g z)) (h2 : ∀ z, res z = res2 (g z)) : Spec P f args σ τ2 res2 := fun G w vals hm hv =>
  (h G w vals hm hv).mono fun e w' ⟨z, r, he, h3, h4, h5⟩ => ⟨g z, r, he, by rw [← h1]; exact h3, by rw [← h1]; exact h4, by rw [← h1, ← h2]; exact h5⟩
end
section
variable {ι : Type} {c : ι → Pc} {ids : List Nat} {h : ∀ i, (c i).ids = ids} {ok ok' : ι → Prop} {i : ι}
def exP (ids : List Nat) (c : ι → Pc) (h : ∀ i, (c i).ids = ids) (ok : ι → Prop) : Pc where
  ids := ids
  p := fun K w => ∃ i, ok i ∧ (c i).p K w
  carry := fun K w K' w' hc hs ⟨i, h1, h2⟩ => ⟨i, h1, (c i).carry K w K' w' hc (by rw [h i]; exact hs) h2⟩
  lt := fun K w ⟨i, _, h2⟩ k hk => (c i).lt K w h2 k (by rw [h i]; exact hk)
theorem f2_ : mids [It.pc (exP ids c h ok)] = mids [It.pc (c i)] := by
  rw [af_, af_]
  exact congrArg (· ++ mids []) (h i).symm
theorem Re.exIn (hi : ok i) : Re [.pc (c i)] [.pc (exP ids c h ok)] := ⟨⟨[], by rw [List.append_nil, f2_ (i := i)]⟩, by simp [It.rids], fun K w hx y hy => by
  rw [List.mem_singleton.1 hy]
  exact ⟨i, hi, hx (.pc (c i)) (by simp)⟩⟩
theorem Re.exUp (hk : ∀ i, ok i → ok' i) : Re [.pc (exP ids c h ok)] [.pc (exP ids c h ok')] := ⟨⟨[], by rw [List.append_nil]; exact List.Perm.refl _⟩, by simp [It.rids], fun K w hx y hy => by
  rw [List.mem_singleton.1 hy]
  obtain ⟨i, h1, h2⟩ : (exP ids c h ok).p K w := hx (.pc (exP ids c h ok)) (by simp)
  exact ⟨i, hk i h1, h2⟩⟩
theorem Spec.exOpen {f : FuncId} {args : List Abs} {κ : Type} {τ : κ → Blks} {res : κ → Abs} (hs : ∀ i, ok i → Spec Tryz.prog f args [.pc (c i)] τ res) : Spec Tryz.prog f args [.pc (exP ids c h ok)] τ res := fun G w vals hm hv => by
  obtain ⟨i, h1, h2⟩ : (exP ids c h ok).p _ w := hm.hold (.pc (exP ids c h ok)) (by simp)
  have hn : (It.mids (.pc (c i))).Nodup := by
    have := hm.nodup
    rw [f2_ (i := i)] at this
    simpa [mids] using this
  have h6 := hm.upd (x := .pc (exP ids c h ok)) (y := .pc (c i)) .here (Ext.refl w) hn (fun k hk => .inl (by show k ∈ ids; rw [← h i]; exact hk)) rfl (fun hc => by
    refine Pc.carry (c i) _ w _ w hc (fun k hk => rfl) ?_
    exact h2)
  rw [f2_ (i := i)] at h6 hv
  have h7 := hs i h1 G w vals h6.1 (aj_ h6.2 _ _ hv)
  rw [f2_ (i := i)]
  exact h7
theorem Spec.ex {f : FuncId} {args : List Abs} {j : ι} {r : Abs} {κ : Type} {ok : ι → Prop} (κr : κ → Abs) (u : κ) (hr : r = κr u) (hs : Spec Tryz.prog f args [.pc (c i)] (fun _ : Unit => [.pc (c j)]) (fun _ => r)) (hj : ok j) : Spec Tryz.prog f args [.pc (c i)] (fun _ : κ => [.pc (exP ids c h ok)]) κr :=
  Spec.mapI (fun _ : Unit => u) (τ := fun _ => [.pc (exP ids c h ok)]) (Spec.reg (φ := []) hs (fun x h => by rw [List.mem_singleton.1 h]; rfl) (by rw [List.append_nil]; exact Re.refl (J_ rfl)) fun z => Re.exIn hj) (fun _ => rfl) (fun _ => hr)
end
section
variable {α : Type} [DecidableEq α] {m : List (α × Nat)} {N M : Nat}
def AllLe (m : List (α × Nat)) (N : Nat) : Prop := m.length ≤ N ∧ Num1 m
theorem AllLe.pl (h : AllLe m N) (k : α) : Proofs.YtjclgkddfjbdiaaGreatDoor.pl m k ≤ N + 1 := by
  unfold Proofs.YtjclgkddfjbdiaaGreatDoor.pl
  cases e : aget m k with
  | none => have := h.1; simp; omega
  | some v => have := (h.2.pos k v e).2; have := h.1; simp; omega
theorem AllLe.pm (h : AllLe m N) (k : α) : AllLe (Proofs.YtjclgkddfjbdiaaGreatDoor.pm m k) (N + 1) := ⟨Nat.le_trans (gB_ m k) (Nat.succ_le_succ h.1), h.2.put k⟩
theorem AllLe.mono (h : AllLe m N) (hM : N ≤ M) : AllLe m M := ⟨Nat.le_trans h.1 hM, h.2⟩
theorem AllLe.nil (N : Nat) : AllLe ([] : List (α × Nat)) N := ⟨Nat.zero_le _, Num1.nil⟩
theorem AllLe.tm (h : AllLe m N) (g : Int → α) (l : List Int) (hM : N + l.length ≤ M) : AllLe (tmG g m l) M := ⟨by have := j7_ g m l; have := h.1; omega, j6_ h.2 g l⟩
end
section
variable {p bd bt N M : Nat} {k x y : Int} {l : List UInt8} {t : Tg}
def wbP (p bd bt N : Nat) : Pc := exP [p, bd, bt] (fun z : DMap × TMap => bkPc p bd bt z.1 z.2) (fun _ => rfl) (fun z => AllLe z.1 N ∧ AllLe z.2 N)
abbrev bkI (p : Nat) : Abs := .ifc 54 (ptr p)
abbrev wb (p bd bt N : Nat) : It := .pc (wbP p bd bt N)
theorem Re.wbUp (h : N ≤ M) : Re [wb p bd bt N] [wb p bd bt M] := Re.exUp fun _ h1 => ⟨h1.1.mono h, h1.2.mono h⟩
theorem Spec.wbOpen {f : FuncId} {args : List Abs} {ι : Type} {τ : ι → Blks} {res : ι → Abs} (h : ∀ D T, AllLe D N → AllLe T N → Spec Tryz.prog f args [.pc (bkPc p bd bt D T)] τ res) : Spec Tryz.prog f args [wb p bd bt N] τ res := Spec.exOpen fun i hi => h i.1 i.2 hi.1 hi.2
theorem Spec.wbIn {f : FuncId} {args : List Abs} {D D' : DMap} {T T' : TMap} {r : Abs} {κ : Type} (κr : κ → Abs) (u : κ) (hr : r = κr u) (hs : Spec Tryz.prog f args [.pc (bkPc p bd bt D T)] (fun _ : Unit => [.pc (bkPc p bd bt D' T')]) (fun _ => r)) (h1 : AllLe D' N) (h2 : AllLe T' N) : Spec Tryz.prog f args [.pc (bkPc p bd bt D T)] (fun _ : κ => [wb p bd bt N]) κr :=
  Spec.ex (c := fun z : DMap × TMap => bkPc p bd bt z.1 z.2) (i := (D, T)) (j := (D', T')) κr u hr hs ⟨h1, h2⟩
theorem jR_ : Spec Tryz.prog 15 [] [] (fun z : Nat × Nat × Nat => [wb z.1 z.2.1 z.2.2 0]) (fun z => ptr z.1) :=
  Spec.reg (φ := []) bknew_s (fun x h => by cases h) (by rw [List.append_nil]; exact Re.refl (J_ rfl)) fun z => Re.exIn (i := (([], []) : DMap × TMap)) (c := fun y : DMap × TMap => bkPc z.1 z.2.1 z.2.2 y.1 y.2) ⟨AllLe.nil _, AllLe.nil _⟩
theorem jS_ (hN : N < 900000) (hl : l.length ≤ maxLen) : Spec Tryz.prog 553 [ptr p, int k, byt l] [wb p bd bt N] (fun _ : Tg => [wb p bd bt (N + 1)]) (fun t => .agg t.abs) :=
  Spec.wbOpen fun D T h1 h2 => Spec.wbIn (fun t : Tg => .agg t.abs) ⟨numB (k8 k) (pl D (k8 k, l)), bq_ _ _⟩ rfl (jt_ (p := p) (bd := bd) (bt := bt) (D := D) (T := T) (k := k) hl (by have := h1.1; omega) (by have := h1.pl (k8 k, l); omega)) (h1.pm _) (h2.mono (by omega))
end
end Go.Proofs.YtjclgkddfjbdiaaGreatDoor.A
namespace Go.Proofs.YtjclgkddfjbdiaaGreatDoor.A
theorem hxA {P : Program} {n : Nat} {W : Wd} {ops : Array Oper} {X : List Nat} {Q : Exit → Act → World → Prop} {ix : Plan} {σ : Blks} {l : Slots} (k : (∀ k ∈ X, k ∈ mids σ) → SX P ops ix X (St n W σ l) Q) (h : ∀ k ∈ X, k ∈ mids σ := by first | (simp [mids, It.mids, ownPc, mapPc, tmPc, wbP, exP]; done) | (intro k hk; simp [mids, It.mids, ownPc, mapPc, tmPc, wbP, exP] at hk ⊢; grind)) : SX P ops ix X (St n W σ l) Q := k h
def factsPc (l : List (Value × Abs)) : Pc where
  ids := []
  p := fun K w => ∀ x ∈ l, rep K w x.2 x.1
  carry := fun _ _ _ _ hc _ h x hx => a7_ hc _ _ (h x hx)
  lt := fun _ _ _ k hk => by cases hk
abbrev facts (l : List (Value × Abs)) : It := .pc (factsPc l)
/-! ### Maps whose values are trees: the map's own values, and what they are -/
section
variable {α β : Type} [DecidableEq α] {tm tm' : List (α × (Value × β))} {a c : α} {u : Value} {x : β}
def rawM (tm : List (α × (Value × β))) : List (α × Value) := tm.map fun e => (e.1, e.2.1)
def facM (enc : β → Abs) (tm : List (α × (Value × β))) : List (Value × Abs) := tm.map fun e => (e.2.1, enc e.2.2)
theorem el_ : ∀ (tm : List (α × (Value × β))), aget (rawM tm) a = (aget tm a).map (·.1)
  | [] => rfl
  | e :: tm => by
    have h := el_ tm
    unfold rawM aget at h ⊢
    rw [List.map_cons, List.find?_cons, List.find?_cons]
    by_cases he : e.1 = a
    · simp [he]
    · simpa [he] using h
omit [DecidableEq α] in
theorem eG_ (tm : List (α × (Value × β))) : (rawM tm).map (·.1) = tm.map (·.1) := by
  unfold rawM
  rw [List.map_map]
  rfl
theorem rawM_put (tm : List (α × (Value × β))) (a : α) (u : Value) (x : β) : rawM (aput tm a (u, x)) = aput (rawM tm) a u := by
  have hg := el_ tm (a := a)
  unfold aput
  rw [hg, Option.isSome_map]
  split
  · unfold rawM
    rw [List.map_map, List.map_map]
    refine List.map_congr_left fun e _ => ?_
    show ((if e.1 = a then (a, (u, x)) else e).1, (if e.1 = a then (a, (u, x)) else e).2.1) = if e.1 = a then (a, u) else (e.1, e.2.1)
    split <;> rfl
  · unfold rawM
    rw [List.map_append]
    rfl
theorem facM_put {enc : β → Abs} (tm : List (α × (Value × β))) (a : α) (u : Value) (x : β) : ∀ y ∈ facM enc (aput tm a (u, x)), y ∈ (u, enc x) :: facM enc tm := by
  intro y hy
  obtain ⟨e, he, rfl⟩ := List.mem_map.1 hy
  unfold aput at he
  split at he
  · obtain ⟨d, hd, rfl⟩ := List.mem_map.1 he
    split
    · exact List.mem_cons_self
    · exact List.mem_cons_of_mem _ (List.mem_map.2 ⟨d, hd, rfl⟩)
  · rcases List.mem_append.1 he with he | he
    · exact List.mem_cons_of_mem _ (List.mem_map.2 ⟨e, he, rfl⟩)
    · rw [List.mem_singleton.1 he]; exact List.mem_cons_self
theorem lj_ {γ : Type} : ∀ {m : List (α × γ)} {v : γ}, aget m a = some v → (a, v) ∈ m
  | [], v, h => by simp [aget] at h
  | e :: m, v, h => by
    unfold aget at h
    rw [List.find?_cons] at h
    by_cases he : e.1 = a
    · simp [he] at h
      obtain ⟨e1, e2⟩ := e
      dsimp only at h he
      subst h he
      exact List.mem_cons_self
    · simp only [he, decide_false] at h
      exact List.mem_cons_of_mem _ (lj_ (by unfold aget; exact h))
end
section
variable {xs ys zs : Blks} {x : It}
theorem Re.bigPerm (hp : xs.Perm ys) (hx : xs.all isMut = true) : Re [.pc (bigI xs)] [.pc (bigI ys)] := by
  have hy : ys.all isMut = true := List.all_eq_true.2 fun y hy => List.all_eq_true.1 hx y (hp.mem_iff.2 hy)
  refine ⟨⟨[], ?_⟩, by simp [It.rids], fun K w h y hy2 => ?_⟩
  · rw [cR_ hx, cR_ hy, List.append_nil]
    exact cG_ hp
  · rw [List.mem_singleton.1 hy2]
    exact (fx_ hy).2 fun z hz => (fx_ hx).1 (h _ List.mem_cons_self) z (hp.mem_iff.2 hz)
theorem mids_two (h : xs.all isMut = true) : mids [x, .pc (bigI xs)] = mids (x :: xs) := by
  rw [af_, cR_ h, af_]
theorem Re.bigCons (h : (x :: xs).all isMut = true) : Re [.pc (bigI (x :: xs))] [x, .pc (bigI xs)] := by
  have h1 : isMut x = true ∧ xs.all isMut = true := by rw [List.all_cons, Bool.and_eq_true] at h; exact h
  refine ⟨⟨[], ?_⟩, fun y hy => ?_, fun K w hh y hy => ?_⟩
  · rw [cR_ h, mids_two h1.2, List.append_nil]
  · rcases List.mem_cons.1 hy with rfl | hy
    · exact it_ h1.1
    · rw [List.mem_singleton.1 hy]; rfl
  · have h2 := (fx_ h).1 (hh _ List.mem_cons_self)
    rcases List.mem_cons.1 hy with rfl | hy
    · exact h2 _ List.mem_cons_self
    · rw [List.mem_singleton.1 hy]
      exact (fx_ h1.2).2 fun z hz => h2 z (List.mem_cons_of_mem _ hz)
end
/-! ### Maps as lists of pairs -/
section
variable {α γ : Type} [DecidableEq α] {m : List (α × γ)} {a : α} {u : γ}
theorem li_ (hn : (m.map (·.1)).Nodup) (h : aget m a = some u) : m.Perm ((a, u) :: adel m a) := by
  induction m with
  | nil => cases h
  | cons p m ih =>
    rw [List.map_cons, List.nodup_cons] at hn
    by_cases hp : p.1 = a
    · have hu : p.2 = u := by
        unfold aget at h
        rw [List.find?_cons, decide_eq_true hp] at h
        exact Option.some.inj h
      have hd : adel (p :: m) a = m := by
        have h1 : adel (p :: m) a = adel m a := List.filter_cons_of_neg (by simpa using hp)
        rw [h1]
        exact g3_ ((e3_ m a).2 (hp ▸ hn.1))
      rw [hd, ← hp, ← hu]
    · have h1 : aget m a = some u := by
        unfold aget at h ⊢
        rw [List.find?_cons, decide_eq_false hp] at h
        exact h
      have h2 : adel (p :: m) a = p :: adel m a := List.filter_cons_of_pos (by simpa using hp)
      rw [h2]
      exact ((ih hn.2 h1).cons p).trans (List.Perm.swap _ _ _)
end
/-! ### The rows -/
section
variable {α β : Type} [DecidableEq α] {tm : List (α × (Value × β))} {a : α} {v : Value} {x z0 : β} {f : β → List (List Abs)} {T : TypeId} {s : Nat}
def rowsB {α : Type} (T : TypeId) (s : Nat) (f : β → List (List Abs)) (tm : List (α × (Value × β))) : Blks := tm.map fun e => own T s e.2.1 (f e.2.2)
abbrev rowsPc {α : Type} (T : TypeId) (s : Nat) (f : β → List (List Abs)) (tm : List (α × (Value × β))) : Pc := bigI (rowsB T s f tm)
def rowV (tm : List (α × (Value × β))) (a : α) : Value := ((aget tm a).map (·.1)).getD (.slice none 0 0)
def rowD (tm : List (α × (Value × β))) (a : α) (z0 : β) : β := ((aget tm a).map (·.2)).getD z0
omit [DecidableEq α] in
theorem gu_ : (rowsB T s f tm).all isMut = true := by
  unfold rowsB
  rw [List.all_map]
  exact List.all_eq_true.2 fun _ _ => rfl
omit [DecidableEq α] in
theorem jh_ {tm' : List (α × (Value × β))} (h : tm.Perm tm') : (rowsB T s f tm).Perm (rowsB T s f tm') := h.map _
theorem Re.rowOut (hn : (tm.map (·.1)).Nodup) (hz : f z0 = []) : Re [.pc (rowsPc T s f tm)] [own T s (rowV tm a) (f (rowD tm a z0)), .pc (rowsPc T s f (adel tm a))] := by
  cases h : aget tm a with
  | none =>
    have h1 : rowV tm a = .slice none 0 0 := by unfold rowV; rw [h]; rfl
    have h2 : f (rowD tm a z0) = [] := by unfold rowD; rw [h]; exact hz
    rw [h1, h2, g3_ h]
    refine ⟨⟨[], by simp [mids, It.mids, ownPc, Value.ownBlock]⟩, fun y hy => ?_, fun K w hh y hy => ?_⟩
    · rcases List.mem_cons.1 hy with rfl | hy
      · rfl
      · rw [List.mem_singleton.1 hy]; rfl
    · rcases List.mem_cons.1 hy with rfl | hy
      · exact ⟨[], ⟨by simp, .inl ⟨rfl, rfl⟩⟩, rfl⟩
      · rw [List.mem_singleton.1 hy]
        exact hh _ List.mem_cons_self
  | some u =>
    have h1 : rowV tm a = u.1 := by unfold rowV; rw [h]; rfl
    have h2 : rowD tm a z0 = u.2 := by unfold rowD; rw [h]; rfl
    rw [h1, h2]
    have h3 := jh_ (T := T) (s := s) (f := f) (li_ hn h)
    exact (Re.bigPerm h3 gu_).trans (Re.bigCons (gu_ (tm := (a, u) :: adel tm a)))
variable {P : Program} {n : Nat} {W : Wd} {σ : Blks} {l : Slots} {ops : Array Oper} {rest : List Oper} {Q : Exit → Act → World → Prop} {ix : Plan} {X : List Nat}
omit [DecidableEq α] in
theorem hc_ {c : Code} (k : (mids σ).Nodup → SC P c (St n W σ l) Q) : SC P c (St n W σ l) Q := fun a w h => k h.mem.nodup a w h
end
def core0 : List Abs := [int 0, int 0, int 1, .v (.string ⟨#[97]⟩), int 5, int 0, .v (.string ⟨#[48]⟩)]
def set0 : List Abs := [int 1, .v (.slice none 0 0), int 1]
def hon0 : Abs := .sl 1 [[int 0], [int 1], [int 2], [int 3]]
def stepL (k w : Int) (c : List Abs) (o : Abs) : List Abs := [int k, int w, int 0, int 0] ++ c ++ [o, .v (.int .u32 0), int 0, int 0, .sl 1 [], .v (.slice none 0 0)]
def coreZ : List Abs := [int 0, int 0, int 0, .v (.string ⟨#[]⟩), int 0, int 0, .v (.string ⟨#[]⟩)]
def deliver0 : List Abs := stepL 3 0 coreZ (.sl 1 [])
def ask0 : List Abs := stepL 1 4 core0 hon0
def rng (k : Nat) : List (List Abs) := (List.range k).map fun i : Nat => [int (i : Nat)]
theorem rng_len (k : Nat) : (rng k).length = k := by unfold rng; rw [List.length_map, List.length_range]
section
variable {p : Nat} {x : Int} {xs : List Int}
theorem indexN_s  : Spec Tryz.prog 39 [.v (.slice none 0 0), int x] [] (fun _ : Unit => []) (fun _ => int (-1)) := by
 refine t_ Tryz.func39 rfl Tryz.ntmps39 rfl fun G w =>c_<|a_<|q_ 1 rfl<|d_<|b_<|c_<|c_<|a_<|q_ 1 rfl<|slvA (ae_ (m := 0) rfl Tryz.underlying22)<|q_ 1 rfl<|d_<|b_<|u_<|P_ (ι := Nat) (fun z => []) (fun z => [(7, int (0 : Nat)), (8, int (z : Nat))]) (fun z => z = 0) (fun z => 0) (0) (rfl) (by exact ⟨rfl, rfl, trivial⟩) sn_ ?_
 intro z hz
 refine c_<|a_<|q_ 1 rfl<|d_<|b_<|c_<|l_ rfl (by intro hc9; exfalso; omega) ?_
 intro hc9
 exact N_<|j_ nofun<|j_ nofun<|M_<|b_<|c_<|a_<|q_ 1 rfl<|d_<|b_<|k_<|f_ (rs := [.tmp 4]) rfl (RV.tmp rfl RV.nil) (()) sn_<|rfl
theorem hJ_  : Spec Tryz.prog 25 [.v (.slice none 0 0), int x] [] (fun _ : Unit => []) (fun _ => boo false) := by
 refine t_ Tryz.func25 rfl Tryz.ntmps25 rfl fun G w =>c_<|a_<|q_ 1 rfl<|d_<|b_<|c_<|a_<|q_ 2 rfl<|slcA (indexN_s) ?_
 exact ap_<|fun _=>q_ 2 rfl<|d_<|b_<|k_<|f_ (rs := [.tmp 4]) rfl (RV.tmp rfl RV.nil) (()) sn_<|rfl
end
theorem kh_ {f : Int} {m Z : List Abs} {place : Nat → Option (Nat × Nat)} (hm : m.length = 5) (hZ : Z.length = 6) (h0 : place 0 = some (0, 1)) (h1 : place 1 = some (1, 5)) : fillA place Z [(0, int f), (1, .agg m)] = some (int f :: m) := by
  match Z, hZ with
  | z0 :: Z, hZ =>
    have hZ2 : Z.length = 5 := by simpa using hZ
    have p1 : putL (z0 :: Z) 0 [int f] = int f :: Z := rfl
    have p2 : putL (int f :: Z) 1 m = int f :: m := by
      rw [ck_ _ _ _ (by simp), List.drop_eq_nil_of_le (by simp only [List.length_cons]; omega), List.append_nil]
      rfl
    simp only [fillA, h0, h1, cellsA, p1, p2, hm, hZ2, List.length_cons, List.length_nil]
    rfl
theorem go_ {a : Abs} {m : List Abs} (h : a.one = true) (hm : ones m = true) : ones (a :: m) = true := by
  rw [bN_] at hm ⊢
  intro x hx
  rcases List.mem_cons.1 hx with rfl | hx
  · exact h
  · exact hm x hx
section
variable {c : Nat} {v : Value} {rows ps : List (List Abs)} {r0 : List Abs} {from_ : Int}
theorem kX_  : Spec Tryz.prog 24 [] [] (fun c : Nat => [.blk c 97 [.v (.slice none 0 0)], own 143 6 (.slice none 0 0) []]) (fun c => ptr c) := by
 refine t_ Tryz.func24 rfl Tryz.ntmps24 rfl fun G w =>c_<|a_<|q_ 1 rfl<|d_<|b_<|c_<|aF_ 143 6<|a_<|slvA (h_ (C := .agg [.v (.slice none 0 0)]) (z_ tabOk rfl rfl rfl rfl) rfl)<|eb_ (B_ (cs := [.v (.slice none 0 0)]) rfl) rfl rfl fun b2=>?_
 exact q_ 1 rfl<|d_<|b_<|k_<|f_ (rs := [.tmp 0]) rfl (RV.tmp rfl RV.nil) (b2) sr_<|rfl
theorem hI_  : Spec Tryz.prog 60 [ptr c] [.rd c 97 [.v v], .rdpc (ownPc 143 6 v rows)] (fun _ : Unit => []) (fun _ => int (rows.length : Nat)) := by
 refine t_ Tryz.func60 rfl Tryz.ntmps60 rfl fun G w =>c_<|a_<|q_ 1 rfl<|d_<|b_<|c_<|c_<|a_<|q_ 1 rfl<|slvA (aD_ rfl rfl (by kernel_rfl)) ?_
 exact d_<|b_<|O_ rfl<|o_<|b_<|c_<|a_<|q_ 3 rfl<|slvA (h_ (C := .v v) (g_ tabOk rfl rfl r0_ List.not_mem_nil rfl) rfl)<|slvA (df_ (m := rows.length) rfl (.inr i1_) Tryz.underlying95 rfl)<|q_ 1 rfl<|d_<|b_<|k_<|f_ (rs := [.tmp 2]) rfl (RV.tmp rfl RV.nil) (()) sn_<|rfl
set_option maxHeartbeats 1000000 in
theorem kW_ (hp : ∀ m ∈ ps, m.length = 5 ∧ ones m = true) (hl : rows.length + ps.length ≤ 16384) : Spec Tryz.prog 58 [ptr c, int from_, .sl 5 ps] [.blk c 97 [.v v], own 143 6 v rows] (fun v : Value => [.blk c 97 [.v v], own 143 6 v (rows ++ ps.map fun m => int from_ :: m)]) (fun _ => int (ps.length : Nat)) := by
 refine t_ Tryz.func58 rfl Tryz.ntmps58 rfl fun G w =>c_<|a_<|q_ 1 rfl<|d_<|b_<|c_<|c_<|a_<|q_ 1 rfl<|slvA (aD_ rfl rfl (by kernel_rfl)) ?_
 refine d_<|b_<|O_ rfl<|o_<|b_<|c_<|a_<|q_ 2 rfl<|slvA (H_ (m := ps.length) rfl Tryz.underlying116 rfl)<|q_ 3 rfl<|slvA (h_ (C := .v v) (g_ tabOk rfl rfl l0_ List.not_mem_nil rfl) rfl)<|slvA (aJ_ (m := rows.length) rfl i1_ Tryz.underlying95 rfl)<|slvA (cp_ rfl rfl (by simp only [InR, lo, hi]; omega)) ?_
 refine slvA (h_ (C := int (ps.length : Nat)) (ep_ rfl rfl) (congrArg int (by omega))) ?_
 refine slvA (h_ (C := .sl 5 ps) (de_ (q := ps.length) tabOk Tryz.underlying116 rfl rfl rfl rfl rfl (Nat.le_refl _)) (congrArg (Abs.sl 5) (List.take_length)))<|q_ 1 rfl<|d_<|b_<|c_<|c_<|a_<|q_ 1 rfl<|slvA (H_ (m := ps.length) rfl Tryz.underlying116 rfl)<|q_ 1 rfl<|d_<|b_<|u_<|ct_ [] (Re.perm (xs := [.blk c 97 [.v v], own 143 6 v rows]) (ys := [own 143 6 v rows, .blk c 97 [.v v]]) (List.Perm.swap _ _ _) (by intro x hx; simp only [List.mem_cons, List.not_mem_nil, or_false] at hx; rcases hx with rfl | rfl <;> rfl)) rfl ?_
 refine P_ (ι := Nat × Value) (fun z => [own 143 6 z.2 (rows ++ (ps.take z.1).map fun m => int from_ :: m), .blk c 97 [.v z.2]]) (fun z => [(0, ptr c), (1, int from_), (2, .sl 5 ps), (22, .sl 5 ps), (23, int (ps.length : Nat)), (24, int (z.1 : Nat))]) (fun z => z.1 ≤ ps.length) (fun z => ps.length - z.1) (0, v) (Nat.zero_le _) (by exact ⟨rfl, rfl, rfl, rfl, rfl, rfl, trivial⟩) (by dsimp only; rw [List.take_zero, List.map_nil, List.append_nil]; repeat (first | exact List.nil_sublist _ | exact List.Sublist.refl _ | apply List.Sublist.cons_cons | apply List.Sublist.cons)) ?_
 intro z hz
 refine c_<|a_<|q_ 1 rfl<|d_<|b_<|c_<|l_ rfl ?_ ?_
 rotate_left
 ·intro hc25
  have hte : ps.take z.1 = ps := List.take_of_length_le (by omega)
  refine N_<|j_ nofun<|j_ nofun<|M_<|b_<|c_<|a_<|q_ 1 rfl<|slvA (H_ (m := ps.length) rfl Tryz.underlying116 rfl)<|q_ 1 rfl<|d_<|b_<|k_<|e8_ (List.Perm.swap _ _ _)<|f_ (rs := [.tmp 6]) rfl (RV.tmp rfl RV.nil) (z.2) (by rw [hte]; repeat (first | exact List.nil_sublist _ | exact List.Sublist.refl _ | apply List.Sublist.cons_cons | apply List.Sublist.cons)) ?_
  exact rfl
 intro hc25
 have hlt : z.1 < ps.length := by omega
 have hpm := hp _ (List.getElem_mem hlt)
 refine o_<|b_<|c_<|u_<|c_<|a_<|slvA (L_ (q := z.1) tabOk Tryz.underlying116 rfl rfl rfl rfl (List.getElem?_eq_getElem hlt) rfl rfl) ?_
 refine slvA (av_ tabOk rfl rfl rfl hpm.1)<|eb_ (C_ tabOk rfl) rfl rfl fun b8=>?_
 refine e_ (m_ (L' := (ps[z.1]'hlt)) tabOk rfl rfl rfl u0_ hpm.1 (Nat.le_of_ble_eq_true rfl) hpm.2 (by exact p_ hpm.1)) rfl rfl ?_
 refine d_<|b_<|ct_ [] (Re.perm (xs := [.blk b8 141 (ps[z.1]'hlt), own 143 6 z.2 (rows ++ (ps.take z.1).map fun m => int from_ :: m)]) (ys := [own 143 6 z.2 (rows ++ (ps.take z.1).map fun m => int from_ :: m), .blk b8 141 (ps[z.1]'hlt)]) (List.Perm.swap _ _ _) (by intro x hx; simp only [List.mem_cons, List.not_mem_nil, or_false] at hx; rcases hx with rfl | rfl <;> rfl)) rfl ?_
 refine hc_ fun hnod => ?_
 have hbx : b8 ∉ mids [own 143 6 z.2 (rows ++ (ps.take z.1).map fun m => int from_ :: m)] ++ [] ∧ c ∉ mids [own 143 6 z.2 (rows ++ (ps.take z.1).map fun m => int from_ :: m)] ++ [] := by
  have h9 : (z.2.ownBlock.toList ++ [b8, c]).Nodup := hnod
  have h8 := (List.nodup_append.1 h9).2.2
  exact ⟨fun hm => h8 b8 (by simpa [mids, It.mids, ownPc] using hm) b8 (by simp) rfl, fun hm => h8 c (by simpa [mids, It.mids, ownPc] using hm) c (by simp) rfl⟩
 refine as_ (mids [own 143 6 z.2 (rows ++ (ps.take z.1).map fun m => int from_ :: m)] ++ []) (.q 0 (.q 1 (.q 2 (.q 3 (.q 4 (.q 5 (.q 6 (.q 7 (.e 8 (.e 9 (.q 10 (.q 11 .nil)))))))))))) (by kernel_rfl) (by kernel_rfl) ?_
 refine hx_ fun hx9 =>qx_ 4 hx9 rfl<|sxvA rfl (h_ (C := .v z.2) (g_ tabOk rfl rfl l2_ (by exact hbx.2) rfl) rfl) hx9 ?_
 refine qx_ 1 hx9 rfl<|sxvA rfl (h_ (C := .agg (ps[z.1]'hlt)) (r_ tabOk rfl rfl rfl l1_ (by exact hbx.1) hpm.1) rfl) hx9 ?_
 refine sxvA rfl (h_ (C := .agg (int from_ :: (ps[z.1]'hlt))) (z_ tabOk rfl rfl rfl (kh_ (f := from_) hpm.1 rfl rfl rfl)) rfl) hx9<|ex_ rfl (G_ tabOk Tryz.underlying95 rfl rfl rfl (ah_ (by rw [List.length_cons, hpm.1])) rfl rfl rfl) (by simp) rfl rfl ?_
 refine cs_ [own 143 6 z.2 (rows ++ (ps.take z.1).map fun m => int from_ :: m)] [] rfl (K_ (zs := (rows ++ (ps.take (z.1 + 1)).map fun m => int from_ :: m)) tabOk [] (by rw [List.take_succ_eq_append_getElem hlt, List.map_append, ← List.append_assoc]; rfl) Tryz.underlying95 rfl rfl rfl rfl rfl rfl (by intro c hc; rw [List.mem_singleton] at hc; subst hc; exact go_ rfl hpm.2) (by unfold maxLen; simp only [List.length_append, List.length_map, List.length_take, List.length_cons, List.length_nil]; omega) (by rw [show Tryz.prog.bytesOf 143 = 80 by kernel_rfl]; simp only [List.length_append, List.length_map, List.length_take, List.length_cons, List.length_nil]; omega)) rfl (by intro k hk; simp [mids, It.mids, ownPc] at hk ⊢; simp [hk]) rfl rfl ?_
 rintro _ _ ⟨r37, rfl, rfl⟩
 refine ⟨[own 143 6 r37 (rows ++ (ps.take (z.1 + 1)).map fun m => int from_ :: m)], rfl, hx_ fun hx9 =>qx_ 2 hx9 rfl<|F_<|aq_ rfl (az_ (L' := [.v r37]) tabOk rfl rfl rfl rfl i0_ u2_ rfl (by rfl)) rfl rfl ?_⟩
 rintro _ _ ⟨rfl, rfl⟩
 refine w_<|b_<|a_<|slvA (y_ rfl rfl (by simp only [InR, lo, hi]; omega)) ?_
 refine q_ 1 rfl<|d_<|I_ (z.1 + 1, r37) (by omega) ((by dsimp only; omega)) (by exact ⟨rfl, rfl, rfl, rfl, rfl, rfl, trivial⟩) (sc_ (sk_ sr_))
end
section
variable {P : Program} {n : Nat} {W : Wd} {σ τ : Blks} {l : Slots} {X : List Nat} {x y : Operand} {d : Option Nat} {ty t e e' : TypeId} {pos : String} {aft : Array Edge} {g : Option (Nat × Bool)} {v : Value} {A : Abs} {tab : List (Nat × TI)} {xs : List (List Abs)} {s q jj : Nat} {cs : List Abs} {K : List Nat} {w : World}
theorem g7_ (hT : TabOk P tab) {sz fo ft f : Nat} {gs : List (Nat × Nat)} {zs : List Value} {j : TI} (ht : ti tab t = some ⟨sz, .struct gs, zs⟩) (hx : look l x = some (.v (eptr v (q * s)))) (hb : isOwn σ e' s v xs) (hpos : Nat.blt 0 s = true) (hq : xs[q]? = some cs) (hfo : gs[f]? = some (fo, ft)) (hj : ti tab ft = some j) (hs0 : Nat.beq j.size 0 = false) :
    Val P n W σ l X ⟨d, .fieldAddr t x f, ty, pos, aft, g⟩ (.v (eptr v (q * s + fo))) := aB_ fun a w hs _ => by
  obtain ⟨us, h1, h2⟩ := hs.mem.ownR hb
  obtain ⟨b, off, c, hvv, hbl, vs, h3, h4, h5⟩ := gD_ h1 h2 (by simpa [Nat.blt_eq] using hpos) hq
  refine ⟨_, rfl, fun w' _ => ?_⟩
  rw [hvv]
  show Proofs.YtjclgkddfjbdiaaGreatDoor.Val _ _ _ _ _ (.pointer (some ⟨b, off + (q * s + fo), none⟩))
  rw [← Nat.add_assoc]
  exact Proofs.YtjclgkddfjbdiaaGreatDoor.E_ hT ht (by rw [hs.at2 hx, hs.plain hx, hvv]; rfl) hfo hj hs0
theorem cI_ (hT : TabOk P tab) {sz : Nat} {zs : List Value} (ht : ti tab t = some ⟨sz, .one, zs⟩) (hx : look l x = some (.v (eptr v (q * s + jj)))) (hb : isOwn σ e' s v xs) (hpos : Nat.blt 0 s = true) (hq : xs[q]? = some cs) (hv : cs[jj]? = some A) : Val P n W σ l [] ⟨d, .load t x, ty, pos, aft, g⟩ A := aB_ fun a w hs hX => by
  obtain ⟨us, h1, h2⟩ := hs.mem.ownR hb
  obtain ⟨b, off, c, hvv, hbl, vs, h3, h4, h5⟩ := gD_ h1 h2 (by simpa [Nat.blt_eq] using hpos) hq
  obtain ⟨u, h6, h7⟩ := a2_ h4 hv
  refine ⟨u, h7, fun w' hw' => Proofs.YtjclgkddfjbdiaaGreatDoor.fA_ (b := b) (o := off + (q * s + jj)) hT ht (by rw [hs.at2 hx, hs.plain hx, hvv]; rfl) fun w1 e => by subst e; exact ca_ hw' (by simp) (by rw [← Nat.add_assoc]; exact h5 jj u h6)⟩
end
def tailV (s : Nat) : Value → Nat → Value
  | .slice (some a) m c, q => .slice (some ⟨a.block, a.off + m * s, none⟩) (q - m) (c - m)
  | v, _ => v
section
variable {P : Program} {n : Nat} {W : Wd} {σ τ : Blks} {l : Slots} {X : List Nat} {x y z : Operand} {d : Option Nat} {ty t t' e e' : TypeId} {pos : String} {aft : Array Edge} {g : Option (Nat × Bool)} {v u : Value} {k k' : IntKind} {tab : List (Nat × TI)} {xs ys : List (List Abs)} {s q r : Nat} {ops : Array Oper} {rest : List Oper} {Q : Exit → Act → World → Prop}
theorem Val.tail (hT : TabOk P tab) {j : TI} (hu : P.underlying t = some (.slice e)) (hj : ti tab e = some j) (h1 : Nat.beq j.size s = true) (hx : look l x = some (.v v)) (hb : own e' s v xs ∈ σ) {r1 r2 : Int} (hy : look l y = some (.v (.int k r1))) (hz : look l z = some (.v (.int k' r2))) (hr1 : r1 = (xs.length : Nat)) (hr2 : r2 = (q : Nat)) (hq : xs.length < q) (hc : q ≤ capV v) :
    Val P n W σ l X ⟨d, .slice t x (some y) (some z) none, ty, pos, aft, g⟩ (.v (tailV s v q)) := fun a w hs _ => by
  subst hr1 hr2
  have h1 := Nat.eq_of_beq_eq_true h1
  obtain ⟨us, hown, _⟩ := aN_ hs hb
  rcases hown.2 with ⟨rfl, h0⟩ | ⟨gb, c, cur, rfl, _, _, hn, _⟩
  · simp [capV] at hc; omega
  · simp only [capV] at hc
    refine ⟨_, rfl, fun w' _ => ?_⟩
    have h7 := (hT _ _ hj).sizeOf (w := w')
    have e1 : a.eval x = .slice (some ⟨gb, 0, none⟩) xs.length c := hs.plain hx
    have e2 : a.eval y = .int k ((xs.length : Nat) : Int) := hs.plain hy
    have e3 : a.eval z = .int k' ((q : Nat) : Int) := hs.plain hz
    have hcm : ¬ c = xs.length := by omega
    have hle : xs.length ≤ q := by omega
    simp [execOp, Instr.sliceAt, Instr.slice, Instr.sliceBounds, Instr.sliceBound, asIntOf, e1, e2, e3, run_underlying hu, Sem.run_bind, Result.andThen, h7, h1, hle, hc, hcm, Addr.add, tailV]
    try (intro h9; exact h9.symm)
def cut3 (s : Nat) : Value → Nat → Nat → Nat → Value
  | .slice (some a) _ _, i, j, m => .slice (some (if m = i then a else ⟨a.block, a.off + i * s, none⟩)) (j - i) (m - i)
  | v, _, _, _ => v
theorem Val.cut3 {z3 : Operand} {k3 : IntKind} {i j : Nat} (hT : TabOk P tab) {I : TI} (hu : P.underlying t = some (.slice e)) (hj : ti tab e = some I) (h1 : Nat.beq I.size s = true) (hx : look l x = some (.v v)) (hb : own e' s v xs ∈ σ) {r1 r2 r3 : Int} (hy : look l y = some (.v (.int k r1))) (hz : look l z = some (.v (.int k' r2))) (hz3 : look l z3 = some (.v (.int k3 r3))) (hr1 : r1 = (i : Nat)) (hr2 : r2 = (j : Nat)) (hr3 : r3 = (xs.length : Nat)) (hij : i ≤ j) (hjn : j < xs.length) :
    Val P n W σ l X ⟨d, .slice t x (some y) (some z) (some z3), ty, pos, aft, g⟩ (.v (cut3 s v i j xs.length)) := fun a w hs _ => by
  subst hr1 hr2 hr3
  have h1 := Nat.eq_of_beq_eq_true h1
  obtain ⟨us, hown, _⟩ := aN_ hs hb
  rcases hown.2 with ⟨rfl, h0⟩ | ⟨gb, c, cur, rfl, _, _, hn, _⟩
  · omega
  · refine ⟨_, rfl, fun w' _ => ?_⟩
    have h7 := (hT _ _ hj).sizeOf (w := w')
    have e1 : a.eval x = .slice (some ⟨gb, 0, none⟩) xs.length c := hs.plain hx
    have e2 : a.eval y = .int k ((i : Nat) : Int) := hs.plain hy
    have e3 : a.eval z = .int k' ((j : Nat) : Int) := hs.plain hz
    have e4 : a.eval z3 = .int k3 ((xs.length : Nat) : Int) := hs.plain hz3
    have hcm : ¬ xs.length = i := by omega
    have hle : j ≤ xs.length := by omega
    simp [execOp, Instr.sliceAt, Instr.slice, Instr.sliceBounds, Instr.sliceBound, asIntOf, e1, e2, e3, e4, run_underlying hu, Sem.run_bind, Result.andThen, h7, h1, hle, hij, hn, hcm, Addr.add, A.cut3]
    try (intro h9; exact h9.symm)
theorem lu_ {c : Code} (hb : own e s v xs ∈ σ) (k : xs.length ≤ capV v → SC P c (St n W σ l) Q) : SC P c (St n W σ l) Q := fun a w h => by
  refine k ?_ a w h
  obtain ⟨us, hown, _⟩ := aN_ h hb
  rcases hown.2 with ⟨rfl, h0⟩ | ⟨gb, c, cur, rfl, _, _, hn, _⟩
  · omega
  · exact hn
theorem gQ_ (v : Value) (q : Nat) : capV (cutTo v q) = capV v := by cases v <;> rfl
theorem zero_one {zs : List Value} (h : zs.all Value.oneCell' = true) (k : Nat) : ∀ u ∈ (Builtin.zeroCells zs.toArray k).toList, u.oneCell' = true := fun u hu => by
  unfold Builtin.zeroCells at hu
  simp only [Array.toList_map, List.mem_map] at hu
  obtain ⟨i, hi, rfl⟩ := hu
  have hi2 : i < k * zs.toArray.size := by simpa using hi
  have hpos : 0 < zs.toArray.size := by
    rcases Nat.eq_zero_or_pos zs.toArray.size with h0 | h0
    · rw [h0] at hi2; simp at hi2
    · exact h0
  have hlt : i % zs.toArray.size < zs.toArray.size := Nat.mod_lt _ hpos
  rw [getElem!_pos zs.toArray _ hlt]
  exact List.all_eq_true.1 h _ (by simp)
theorem gf_ (hT : TabOk P tab) {j : TI} (hu : P.underlying t = some (.slice e)) (hj : ti tab e = some j) (hsz : Nat.beq j.size s = true) (h1 : j.zero.all Value.oneCell' = true) (hx : look l x = some (.v (tailV s v q))) (hq : xs.length < q) (hc : q ≤ capV v) (hup : Upd (own e s v xs) (own e s v xs) σ τ) :
    Eff P n W σ l v.ownBlock.toList ⟨d, .call { callee := .builtin .clear, args := #[x], argTypes := #[t] }, ty, pos, aft, g⟩ fun u τ' => u = .tup [] ∧ τ' = τ := fun ac w hst => by
  have hsz := Nat.eq_of_beq_eq_true hsz
  obtain ⟨us, hown, hr⟩ := aN_ hst hup.mem
  obtain ⟨I, hI, hIs, zv, hzv, hzc⟩ := (hT e j hj).info
  have hzl := (hT e j hj).len
  rcases hown.2 with ⟨rfl, h0⟩ | ⟨gb, cap, cur, rfl, hbase, hg, hn, hcap, hcs, htk⟩
  · simp [capV] at hc; omega
  simp only [capV] at hc
  have hzs : zv.cells.size = s := by rw [hzc, List.size_toArray, hzl, hsz]
  obtain ⟨k, hk⟩ : ∃ k, q - xs.length = k + 1 := ⟨q - xs.length - 1, by omega⟩
  have hzlen : (Builtin.zeroCells zv.cells (k + 1)).toList.length = (k + 1) * s := by
    rw [Array.length_toList]
    simp [Builtin.zeroCells, hzs]
  have hb1 : xs.length * s + (k + 1) * s ≤ cap * s := by rw [← Nat.add_mul]; exact Nat.mul_le_mul_right _ (by omega)
  have hrun := run_storeCells_at (P := P) gb (xs.length * s) e (Builtin.zeroCells zv.cells (k + 1)).toList 0 cur w hg (by rw [hzlen, hcs]; omega) (by rw [hzc]; exact zero_one h1 _)
  have hxx : Ext (Value.ownBlock (.slice (some ⟨gb, 0, none⟩) xs.length cap)).toList w (w.setRow gb (cur.toList.take (xs.length * s + 0) ++ (Builtin.zeroCells zv.cells (k + 1)).toList ++ cur.toList.drop (xs.length * s + 0 + (Builtin.zeroCells zv.cells (k + 1)).toList.length)).toArray) := (Ext.refl w).setRow (.inl (by simp [Value.ownBlock])) _
  have hm := hst.mem.upd hup hxx aQ_ (fun k hk => .inl hk) rfl fun hca => ⟨us, ⟨hown.1, .inr ⟨gb, cap, _, rfl, hbase, setRow_heap w gb cur _ e (0, 0) hg, hn, hcap, ?_, ?_⟩⟩, am_ hca _ _ _ hr⟩
  · refine ⟨.tuple #[], _, _, _, ⟨rfl, rfl⟩, hxx, ⟨[], rfl, rfl⟩, hm.1, hm.2, .inl ?_⟩
    have hx2 : ac.eval x = .slice (some ⟨gb, 0 + xs.length * s, none⟩) (q - xs.length) (cap - xs.length) := hst.plain hx
    rw [Nat.zero_add, hk] at hx2
    have hz2 : (zeroValue e).run P w = .ok zv w := by
      simp [zeroValue, typeInfo, hI, hzv, Sem.run_bind, Result.andThen]
    have hcl : (Builtin.clear_ #[t] ty #[.slice (some ⟨gb, xs.length * s, none⟩) (k + 1) (cap - xs.length)]).run P w = .ok (.tuple #[]) (w.setRow gb (cur.toList.take (xs.length * s + 0) ++ (Builtin.zeroCells zv.cells (k + 1)).toList ++ cur.toList.drop (xs.length * s + 0 + (Builtin.zeroCells zv.cells (k + 1)).toList.length)).toArray) := by
      simp [Builtin.clear_, run_underlying hu, hz2, Sem.run_bind, Result.andThen] at hrun ⊢
      try simp_all
    simp [execOp, resolve, invoke, builtin, hx2, hcl, Result.andThen]
  · simp only [List.size_toArray, List.length_append, List.length_take, List.length_drop, Array.length_toList] at hzlen ⊢
    omega
  · rw [← htk]
    have h9 : xs.length * s ≤ cur.toList.length := by rw [Array.length_toList (xs := cur), hcs]; omega
    simp only [Nat.add_zero, List.append_assoc]
    rw [List.take_append_of_le_length (by rw [List.length_take]; omega), List.take_take, Nat.min_self]
theorem fh_ (hT : TabOk P tab) {i : TI} (hu : P.underlying t = some (.slice e)) (hi : ti tab e = some i) (hsz : Nat.beq i.size s = true) (hx : look l x = some (.v (cutTo v q))) (hy : look l y = some (.v (cutS s v r))) (hqr : q ≤ r) (hr : r < xs.length) (h1 : ∀ c ∈ xs, ones c = true) (hz : xs.take q ++ xs.drop r = ys) (hup : Upd (own e s v xs) (own e s (cutTo v ys.length) ys) σ τ) :
    Eff P n W σ l v.ownBlock.toList ⟨d, .call { callee := .builtin .append, args := #[x, y], argTypes := #[t, t] }, ty, pos, aft, g⟩ fun u τ' => u = .v (cutTo v ys.length) ∧ τ' = τ := fun a w hs => by
  have hsz := Nat.eq_of_beq_eq_true hsz
  obtain ⟨us, hown, hrp⟩ := aN_ hs hup.mem
  obtain ⟨I, hI, hIs, _⟩ := (hT e i hi).info
  rcases hown.2 with ⟨rfl, h0⟩ | ⟨gb, cap, cur, rfl, hbase, hg, hn, hcap, hcs, htk⟩
  · omega
  have hcr : ¬ cap = r := by omega
  have e1 : a.eval x = .slice (some ⟨gb, 0, none⟩) q cap := hs.plain hx
  have e2 : a.eval y = .slice (some ⟨gb, 0 + r * s, none⟩) (xs.length - r) (cap - r) := by
    have := hs.plain hy
    simp only [cutS, hcr, if_false] at this
    exact this
  have hyl : ys.length = q + (xs.length - r) := by rw [← hz, List.length_append, List.length_take, List.length_drop]; omega
  have hlen := hown.1
  have hone := c9_ h1 hrp
  have hq2 := (bG_ hrp q (by omega)).1
  have hr2 := (bG_ hrp r (by omega)).2
  have hqs : q * s ≤ xs.length * s := Nat.mul_le_mul_right _ (by omega)
  have hrs : r * s ≤ xs.length * s := Nat.mul_le_mul_right _ (by omega)
  have hnc : xs.length * s ≤ cap * s := Nat.mul_le_mul_right _ hn
  have hown2 : w.ownsRow 0 e s (.slice (some ⟨gb, 0, none⟩) q cap) q (us.take (q * s)) := by
    refine ⟨by rw [List.length_take, hlen]; omega, .inr ⟨gb, cap, cur, rfl, hbase, hg, by omega, hcap, hcs, ?_⟩⟩
    rw [← htk, List.take_take, Nat.min_eq_left hqs]
  obtain ⟨w', hrun, h2, h3⟩ := run_append_own_spare (P := P) w 0 t ty e I s hu hI (by rw [hIs, hsz]) gb q cap (us.take (q * s)) hown2 ⟨gb, 0 + r * s, none⟩ (xs.length - r) (cap - r) (us.drop (r * s)) (by rw [List.length_drop, hlen, ← Nat.sub_mul]) (fun j u hj => by
      rw [List.getElem?_drop, ← htk, List.getElem?_take] at hj
      split at hj
      · rw [Addr.add_none, Nat.zero_add]
        simp only [World.cell?, hg]
        simpa using hj
      · cases hj) (fun u hu => hone u (List.mem_of_mem_drop hu)) (by omega)
  have hxx : Ext (Value.ownBlock (.slice (some ⟨gb, 0, none⟩) xs.length cap)).toList w w' := cT_ h3 fun k hk => .inl (by simpa [Value.ownBlock, eq_comm] using hk)
  have hm2 := hs.mem.upd hup hxx aQ_ (fun k hk => .inl (by simpa [It.mids, ownPc, cl_] using hk)) rfl fun hca => ⟨us.take (q * s) ++ us.drop (r * s), by
      rw [hyl]; exact h2, hz ▸ a6_ (am_ hca _ _ _ hq2) (am_ hca _ _ _ hr2)⟩
  refine ⟨_, w', _, _, ⟨rfl, rfl⟩, hxx, rfl, hm2.1, hm2.2, .inl ?_⟩
  simp only [cutTo, hyl]
  simp only [Nat.zero_add] at hrun e2 ⊢
  simp [execOp, resolve, invoke, builtin, e1, e2, hrun, Result.andThen]
end
section
variable {c : Nat} {v : Value} {rows : List (List Abs)} {r0 : List Abs}
theorem del_snt {v : Value} {xs : List (List Abs)} {i j : Nat} (hij : i < j) (hjn : j < xs.length) (h1 : ∀ c ∈ xs, ones c = true) (hn : xs.length ≤ 1000000) : Spec Tryz.prog 87 [.v v, int (i : Nat), int (j : Nat)] [own 143 6 v xs] (fun _ : Unit => [own 143 6 (cutTo v (xs.take i ++ xs.drop j).length) (xs.take i ++ xs.drop j)]) (fun _ => .v (cutTo v (xs.take i ++ xs.drop j).length)) := by
 have hml : (xs.take i ++ xs.drop j).length = i + (xs.length - j) := by rw [List.length_append, List.length_take, List.length_drop]; omega
 refine t_ Tryz.func87 rfl Tryz.ntmps87 rfl fun G w =>c_<|lu_ (v := v) (xs := xs) (s := 6) (e := 143) i0_ fun hcap =>a_<|q_ 1 rfl<|d_<|b_<|c_<|a_<|q_ 4 rfl<|slvA (aJ_ (m := xs.length) rfl i0_ Tryz.underlying95 rfl)<|slvA (Val.cut3 (s := 6) (i := i) (j := j) tabOk Tryz.underlying95 rfl rfl rfl i0_ rfl rfl rfl rfl rfl rfl (by omega) (by omega)) ?_
 refine d_<|b_<|c_<|c_<|a_<|q_ 3 rfl<|d_<|b_<|l_ rfl (by intro hc16; exfalso; omega) ?_
 intro hc16
 refine o_<|b_<|c_<|a_<|q_ 1 rfl<|slvA (aJ_ (m := xs.length) rfl i0_ Tryz.underlying95 rfl)<|q_ 1 rfl<|d_<|b_<|c_<|Q_ v.ownBlock.toList (.q 0 (.q 1 (.q 2 (.q 3 (.q 4 (.q 5 (.e 6 (.q 7 .nil)))))))) (by kernel_rfl) (by kernel_rfl) ?_
 refine cr_ (by intro k hk; simp [mids, It.mids, ownPc, cl_] at hk ⊢; exact hk) fun hx9 => ?_
 refine qx_ 2 hx9 rfl<|sxvA rfl (g8_ (s := 6) (q := i) tabOk Tryz.underlying95 rfl rfl i0_ rfl rfl (by omega)) hx9 ?_
 refine qx_ 2 hx9 rfl<|sxvA rfl (bg_ (s := 6) (q := j) tabOk Tryz.underlying95 rfl rfl rfl i0_ rfl rfl (by omega)) hx9 ?_
 refine ex_ rfl (fh_ (s := 6) (q := i) (r := j) (ys := (xs.take i ++ xs.drop j)) tabOk Tryz.underlying95 rfl rfl rfl rfl (by omega) hjn h1 rfl u0_) (by simp) rfl rfl ?_
 refine cr_ (by intro k hk; simp [mids, It.mids, ownPc, cl_] at hk ⊢; exact hk) fun hx9 => ?_
 refine qx_ 1 hx9 rfl<|F_<|b_<|c_<|a_<|q_ 2 rfl<|slvA (aJ_ (m := (xs.take i ++ xs.drop j).length) rfl i0_ Tryz.underlying95 rfl)<|q_ 1 rfl<|slvA (Val.tail (s := 6) (q := xs.length) tabOk Tryz.underlying95 rfl rfl rfl i0_ rfl rfl rfl rfl (by omega) (by rw [gQ_]; exact hcap)) ?_
 refine e_ (gf_ (s := 6) (xs := (xs.take i ++ xs.drop j)) (q := xs.length) tabOk Tryz.underlying95 rfl rfl rfl rfl (by omega) (by rw [gQ_]; exact hcap) u0_) rfl rfl ?_
 exact d_<|b_<|c_<|a_<|q_ 2 rfl<|d_<|b_<|k_<|f_ (rs := [.tmp 6]) rfl (RV.tmp rfl RV.nil) (()) sr_<|rfl
theorem crat_s (h0 : r0.length = 6 ∧ ones r0 = true) : Spec Tryz.prog 62 [ptr c, int 0] [.rd c 97 [.v v], .rdpc (ownPc 143 6 v (r0 :: rows))] (fun _ : Unit => []) (fun _ => .tup [.agg r0, boo true]) := by
 refine t_ Tryz.func62 rfl Tryz.ntmps62 rfl fun G w =>c_<|a_<|eb_ (C_ tabOk rfl) rfl rfl fun b4=>?_
 refine q_ 1 rfl<|d_<|b_<|c_<|c_<|a_<|q_ 3 rfl<|A_ (t := 8) rfl (by intro hc8; exfalso; omega) ?_
 intro hc8
 refine q_ 2 rfl<|slcA (hI_ (v := v) (rows := r0 :: rows)) ?_
 refine ap_<|fun _=>q_ 2 rfl<|d_<|b_<|l_ rfl (by intro hc13; exfalso; rw [List.length_cons] at hc13; omega) ?_
 intro hc13
 refine o_<|b_<|c_<|a_<|q_ 3 rfl<|slvA (h_ (C := .v v) (g_ tabOk rfl rfl r1_ List.not_mem_nil rfl) rfl)<|q_ 1 rfl<|slvA (aU_ (q := 0) tabOk Tryz.underlying95 rfl rfl r2_ rfl rfl (by simp) rfl rfl) ?_
 refine slvA (ea_ (q := 0) (s := 6) (cs := r0) tabOk rfl rfl rfl r2_ rfl rfl rfl)<|e_ (m_ (L' := r0) tabOk rfl rfl rfl u0_ h0.1 (Nat.le_of_ble_eq_true rfl) h0.2 (by exact p_ h0.1)) rfl rfl ?_
 exact q_ 1 rfl<|d_<|b_<|k_<|f_ (rs := [.cell 4 143, .tmp 5]) rfl (RV.cell rfl (RV.cellA tabOk rfl rfl l0_ (h0.1)) (RV.tmp rfl RV.nil)) (()) sn_<|rfl
set_option maxHeartbeats 1000000 in
theorem crtake_s (h0 : r0.length = 6 ∧ ones r0 = true) (hr : ∀ r ∈ rows, ones r = true) (h1 : 1 ≤ rows.length) (hl : rows.length ≤ 20000) : Spec Tryz.prog 61 [ptr c, int 0] [.blk c 97 [.v v], own 143 6 v (r0 :: rows)] (fun _ : Unit => [.blk c 97 [.v (cutTo v rows.length)], own 143 6 (cutTo v rows.length) rows]) (fun _ => .tup [.agg r0, boo true]) := by
 refine t_ Tryz.func61 rfl Tryz.ntmps61 rfl fun G w =>c_<|a_<|eb_ (C_ tabOk rfl) rfl rfl fun b4=>?_
 refine q_ 1 rfl<|d_<|b_<|c_<|a_<|q_ 2 rfl<|slcA (crat_s (v := v) (rows := rows) (r0 := r0) h0) ?_
 refine ap_<|fun _=>q_ 3 rfl<|eb_ (C_ tabOk rfl) rfl rfl fun b6=>?_
 refine e_ (m_ (L' := r0) tabOk rfl rfl rfl u0_ h0.1 (Nat.le_of_ble_eq_true rfl) h0.2 (by exact p_ h0.1)) rfl rfl ?_
 refine q_ 1 rfl<|d_<|b_<|c_<|c_<|a_<|q_ 1 rfl<|d_<|b_<|ar_ rfl ?_ (by intro hc14; exfalso; cases hc14)
 intro hc14
 refine a_<|q_ 4 rfl<|slvA (h_ (C := .v v) (g_ tabOk rfl rfl l2_ List.not_mem_nil rfl) rfl)<|q_ 2 rfl<|slvA (h_ (C := int ((1 : Nat) : Int)) (y_ rfl rfl (by simp only [InR, lo, hi]; omega)) rfl) ?_
 refine slcA (del_snt (v := v) (xs := r0 :: rows) (i := 0) (j := 1) (by omega) (by rw [List.length_cons]; omega) (by intro x hx; rcases List.mem_cons.1 hx with rfl | hx; exact h0.2; exact hr x hx) (by rw [List.length_cons]; omega)) ?_
 refine W_ [_, _, _] (β := []) rfl (J_ rfl) ?_
 intro _
 refine q_ 2 rfl<|e_ (az_ (L' := [.v (cutTo v rows.length)]) tabOk rfl rfl rfl rfl i3_ u2_ rfl rfl) rfl rfl<|d_<|b_<|c_<|a_<|slvA (h_ (C := .agg r0) (r_ tabOk rfl rfl rfl l0_ List.not_mem_nil h0.1) rfl)<|q_ 1 rfl<|e_ (m_ (L' := r0) tabOk rfl rfl rfl u1_ h0.1 (Nat.le_of_ble_eq_true rfl) h0.2 (by exact p_ h0.1)) rfl rfl ?_
 exact q_ 1 rfl<|d_<|b_<|k_<|f_ (rs := [.cell 4 143, .tmp 5]) rfl (RV.cell rfl (RV.cellA tabOk rfl rfl l1_ (h0.1)) (RV.tmp rfl RV.nil)) (()) (sk_ (sk_ sr_))<|rfl
end
structure Rng {α β : Type} (w : World) (b r : Nat) (K : α → Value) (V : β → Value) (Good : α → Prop) (m rest : List (α × β)) (cur : Option (α × β)) (es : Array MapEntry) (clock since : Nat) (seen : Array Nat) (c0 : Nat) : Prop where
  hb : w.heap[b]? = some (.map es clock)
  he : es.toList.map (fun e => (e.key, e.val)) = m.map (fun p => (K p.1, V p.2))
  nd : (m.map (·.1)).Nodup
  good : ∀ p ∈ m, Good p.1
  born : ∀ e ∈ es.toList, e.born < clock
  bnd : (es.toList.map (·.born)).Nodup
  hr : w.heap[r]? = some (.mapIter (some b) since seen c0)
  old : ∀ e ∈ es.toList, e.born < since
  le : since ≤ c0
  le2 : since ≤ clock
  left : ∀ p, p ∈ rest ↔ ∃ (j : Nat) (e : MapEntry), m[j]? = some p ∧ es.toList[j]? = some e ∧ seen.contains e.born = false
  last : ∀ p, cur = some p → c0 = clock ∧ ∃ (e : MapEntry) (s' : Array Nat), e ∈ es.toList ∧ e.key = K p.1 ∧ e.val = V p.2 ∧ seen = s'.push e.born
def rngPc {α β : Type} (b r : Nat) (K : α → Value) (V : β → Value) (Good : α → Prop) (m rest : List (α × β)) (cur : Option (α × β)) : Pc where
  ids := [b, r]
  p := fun _ w => r ≠ b ∧ ∃ es clock since seen c0, Rng w b r K V Good m rest cur es clock since seen c0
  carry := fun _ _ _ _ _ hs ⟨hn, es, clock, since, seen, c0, h⟩ => ⟨hn, es, clock, since, seen, c0, { h with hb := (hs b (by simp)).trans h.hb, hr := (hs r (by simp)).trans h.hr }⟩
  lt := fun _ w ⟨_, es, clock, since, seen, c0, h⟩ k hk => by
    simp at hk
    rcases hk with rfl | rfl
    · exact aR_ h.hb
    · exact aR_ h.hr
theorem gO_ {w : World} {b : Nat} {o : Obj} (hb : b < w.heap.size) : Ext [b] w (Go.ChangeMaps.setBlock w b o) :=
  ⟨rfl, rfl, rfl, by simp [Go.ChangeMaps.setBlock], fun k _ hn => by
    have : b ≠ k := fun h => hn (by simp [h])
    simp [Go.ChangeMaps.setBlock, Array.getElem?_setIfInBounds_ne this]⟩
theorem sb_same {w : World} {b : Nat} {o : Obj} (hb : b < w.heap.size) : (Go.ChangeMaps.setBlock w b o).heap[b]? = some o := by
  simp [Go.ChangeMaps.setBlock, Array.getElem?_setIfInBounds_self, hb]
theorem sb_other {w : World} {b k : Nat} {o : Obj} (h : b ≠ k) : (Go.ChangeMaps.setBlock w b o).heap[k]? = w.heap[k]? := by
  simp [Go.ChangeMaps.setBlock, Array.getElem?_setIfInBounds_ne h]
section
variable {α β : Type} {w : World} {b r : Nat} {K : α → Value} {V : β → Value} {Good : α → Prop} {m rest : List (α × β)} {cur : Option (α × β)} {es : Array MapEntry} {clock since : Nat} {seen : Array Nat} {c0 : Nat}
theorem kR_ {es : List MapEntry} (h : es.map (fun e => (e.key, e.val)) = m.map (fun p => (K p.1, V p.2))) : es.length = m.length := by
  have h3 := congrArg List.length h
  simpa using h3
theorem enc_at {es : List MapEntry} (h : es.map (fun e => (e.key, e.val)) = m.map (fun p => (K p.1, V p.2))) {j : Nat} {e : MapEntry} {p : α × β} (he : es[j]? = some e) (hp : m[j]? = some p) : e.key = K p.1 ∧ e.val = V p.2 := by
  have h1 : (es.map (fun e => (e.key, e.val)))[j]? = (m.map (fun p => (K p.1, V p.2)))[j]? := by rw [h]
  rw [List.getElem?_map, List.getElem?_map, he, hp] at h1
  simpa using h1
theorem nd_at {l : List (α × β)} (h : (l.map (·.1)).Nodup) {i j : Nat} {p q : α × β} (hi : l[i]? = some p) (hj : l[j]? = some q) : p.1 = q.1 ↔ i = j := by
  have hi2 : (l.map (·.1))[i]? = some p.1 := by rw [List.getElem?_map, hi]; rfl
  have hj2 : (l.map (·.1))[j]? = some q.1 := by rw [List.getElem?_map, hj]; rfl
  constructor
  · intro e
    have hlt : i < (l.map (·.1)).length := (List.getElem?_eq_some_iff.1 hi2).1
    exact (List.getElem?_inj hlt h).1 (by rw [hi2, hj2, e])
  · rintro rfl
    rw [hi] at hj
    cases hj
    rfl
theorem bn_at {l : List MapEntry} (h : (l.map (·.born)).Nodup) {i j : Nat} {p q : MapEntry} (hi : l[i]? = some p) (hj : l[j]? = some q) : p.born = q.born ↔ i = j := by
  have hi2 : (l.map (·.born))[i]? = some p.born := by rw [List.getElem?_map, hi]; rfl
  have hj2 : (l.map (·.born))[j]? = some q.born := by rw [List.getElem?_map, hj]; rfl
  constructor
  · intro e
    have hlt : i < (l.map (·.born)).length := (List.getElem?_eq_some_iff.1 hi2).1
    exact (List.getElem?_inj hlt h).1 (by rw [hi2, hj2, e])
  · rintro rfl
    rw [hi] at hj
    cases hj
    rfl
theorem Rng.map (h : Rng w b r K V Good m rest cur es clock since seen c0) : MapOf w b K V Good m := ⟨es, clock, h.hb, h.he, h.nd, h.good, h.born, h.bnd⟩
theorem Rng.next [DecidableEq α] {P : Program} (hne : r ≠ b) (h : Rng w b r K V Good m rest cur es clock since seen c0) (ty : TypeId) :
    (rest = [] ∧ (Instr.next (.pointer (some ⟨r, 0, none⟩)) false ty).run P w = .ok (.tuple #[.bool false]) w) ∨
    ∃ p ∈ rest, ∃ w', (Instr.next (.pointer (some ⟨r, 0, none⟩)) false ty).run P w = .ok (.tuple #[.bool true, K p.1, V p.2]) w' ∧ Ext [b, r] w w' ∧
      ∃ seen' c0', Rng w' b r K V Good m (rest.filter fun q => decide (q.1 ≠ p.1)) (some p) es clock since seen' c0' := by
  have hmem : ∀ e, e ∈ (leftOf es seen).toList ↔ e ∈ es.toList ∧ seen.contains e.born = false := fun e => by
    unfold leftOf
    rw [Array.toList_filter, List.mem_filter]
    cases seen.contains e.born <;> simp
  rcases run_next_at (P := P) w ty r b since c0 seen es clock h.hr h.hb h.old h.le with ⟨h0, hrun⟩ | ⟨e, he, w1, hw1, hrun⟩
  · refine .inl ⟨?_, hrun⟩
    rw [List.eq_nil_iff_forall_not_mem]
    intro p hp
    obtain ⟨j, e, _, h2, h3⟩ := (h.left p).1 hp
    have h4 := (hmem e).2 ⟨List.mem_of_getElem? h2, h3⟩
    have h5 : (leftOf es seen).toList = [] := List.length_eq_zero_iff.1 (by simpa using h0)
    rw [h5] at h4
    cases h4
  · obtain ⟨h1, h2⟩ := (hmem e).1 he
    obtain ⟨j, hj⟩ := List.getElem?_of_mem h1
    have hjl : j < es.toList.length := (List.getElem?_eq_some_iff.1 hj).1
    have hjm : j < m.length := by rw [← kR_ h.he]; exact hjl
    obtain ⟨p, hp⟩ : ∃ p, m[j]? = some p := ⟨_, List.getElem?_eq_getElem hjm⟩
    obtain ⟨hk, hv⟩ := enc_at h.he hj hp
    have hheap : w1.heap = w.heap := by rcases hw1 with rfl | rfl <;> rfl
    have hx1 : Ext [] w w1 := by
      rcases hw1 with rfl | rfl
      · exact Ext.refl _
      · exact (Ext.refl _).drew
    have hrl : r < w1.heap.size := by rw [hheap]; exact aR_ h.hr
    refine .inr ⟨p, (h.left p).2 ⟨j, e, hp, hj, h2⟩, _, by rw [← hk, ← hv]; exact hrun, ?_, _, _, ⟨?_, h.he, h.nd, h.good, h.born, h.bnd, sb_same hrl, h.old, ?_, ?_, ?_, ?_⟩⟩
    · refine ⟨(gO_ hrl).os.trans hx1.os, (gO_ hrl).tape.trans hx1.tape, (gO_ hrl).output.trans hx1.output, Nat.le_trans hx1.size (gO_ hrl).size, fun k hk2 hn => ?_⟩
      rw [(gO_ hrl).block k (by rw [hheap]; exact hk2) (fun hk3 => hn (by simp at hk3; simp [hk3])), hheap]
    · rw [sb_other hne, hheap]
      exact h.hb
    · exact h.le2
    · exact h.le2
    · intro q
      rw [List.mem_filter, h.left q, decide_eq_true_eq]
      constructor
      · rintro ⟨⟨i, e', h3, h4, h5⟩, h6⟩
        refine ⟨i, e', h3, h4, ?_⟩
        rw [Array.contains_push, h5, Bool.false_or, beq_eq_false_iff_ne]
        intro e6
        exact h6 ((nd_at h.nd h3 hp).2 ((bn_at h.bnd h4 hj).1 e6))
      · rintro ⟨i, e', h3, h4, h5⟩
        rw [Array.contains_push, Bool.or_eq_false_iff, beq_eq_false_iff_ne] at h5
        refine ⟨⟨i, e', h3, h4, h5.1⟩, fun e6 => h5.2 ?_⟩
        exact (bn_at h.bnd h4 hj).2 ((nd_at h.nd h3 hp).1 e6)
    · intro p' hp'
      cases hp'
      exact ⟨rfl, e, seen, h1, hk, hv, rfl⟩
end
section
variable {P : Program} {n : Nat} {W : Wd} {σ τ : Blks} {l : Slots} {X : List Nat} {x y z : Operand} {d : Option Nat} {ty t k e : TypeId} {pos : String} {aft : Array Edge} {g : Option (Nat × Bool)} {b r : Nat} {A B C : Abs}
variable {α β : Type} [DecidableEq α] {K : α → Value} {V : β → Value} {Good : α → Prop} {m rest : List (α × β)} {cur : Option (α × β)} {a : α} {p : α × β} {Q : Exit → Act → World → Prop}
omit [DecidableEq α] in
theorem hd_ {τ : Nat → Blks} (ht : P.underlying t = some (.map k e)) (hx : look l x = some (mapV b)) (hu : ∀ r, Upd (.pc (mapPc b K V Good m)) (.pc (rngPc b r K V Good m m none)) σ (τ r)) :
    Eff P n W σ l [b] ⟨d, .range t x, ty, pos, aft, g⟩ fun u τ' => ∃ r : Nat, u = .v (.pointer (some ⟨r, 0, none⟩)) ∧ τ' = τ r := fun ac w hs => by
  have h1 : MapOf w b K V Good m := hs.mem.hold _ (hu 0).mem
  obtain ⟨es, clock, hb, he, hnd, hg, hborn, hbnd⟩ := h1
  have hbl := aR_ hb
  have hne : w.heap.size ≠ b := by omega
  have hx2 : Ext [b] w (w.alloc (.mapIter (some b) clock #[] clock)) := (Ext.new w _).mono (by simp)
  have hal : ∀ k, k < w.heap.size → (w.alloc (.mapIter (some b) clock #[] clock)).heap[k]? = w.heap[k]? := fun k hk => (Ext.new w _).block k hk (by simp)
  have h4 := hs.mem.upd (hu w.heap.size) (hx2.mono (by simp [It.mids, mapPc])) (by simp [It.mids, rngPc, Ne.symm hne]) (fun k hk => by
      simp [It.mids, rngPc] at hk
      rcases hk with rfl | rfl
      · exact .inl (by simp [It.mids, mapPc])
      · exact .inr (Nat.le_refl _)) rfl (fun _ => ⟨hne, es, clock, clock, #[], clock, (hal b hbl).trans hb, he, hnd, hg, hborn, hbnd, heap_alloc_new w _, hborn, Nat.le_refl _, Nat.le_refl _, fun p => ?_, fun p hp => by cases hp⟩)
  · refine ⟨.pointer (some ⟨w.heap.size, 0, none⟩), _, _, _, ⟨_, rfl, rfl⟩, hx2, rfl, h4.1, h4.2, .inl ?_⟩
    simp [execOp, hs.plain hx, run_range_map w t k e b es clock ht hb, Sem.run_bind, Result.andThen]
  · constructor
    · intro hp
      obtain ⟨j, hj⟩ := List.getElem?_of_mem hp
      have hjl : j < es.toList.length := by rw [kR_ he]; exact (List.getElem?_eq_some_iff.1 hj).1
      exact ⟨j, _, hj, List.getElem?_eq_getElem hjl, by simp⟩
    · rintro ⟨j, e, h1, _⟩
      exact List.mem_of_getElem? h1
theorem hY_ {τ : List (α × β) → Option (α × β) → Blks} (hx : look l x = some (.v (.pointer (some ⟨r, 0, none⟩)))) (hu : ∀ rest' cur', Upd (.pc (rngPc b r K V Good m rest cur)) (.pc (rngPc b r K V Good m rest' cur')) σ (τ rest' cur')) :
    Eff P n W σ l [b, r] ⟨d, .next x false, ty, pos, aft, g⟩ fun u τ' => ∃ (o : Option (α × β)) (rest' : List (α × β)), (o = none → rest = []) ∧ (∀ p, o = some p → p ∈ rest ∧ rest' = rest.filter fun q => decide (q.1 ≠ p.1)) ∧
      u = .tup (.v (.bool o.isSome) :: (match o with | none => [] | some p => [.v (K p.1), .v (V p.2)])) ∧ τ' = τ rest' o := fun ac w hs => by
  obtain ⟨hne, es, clock, since, seen, c0, h⟩ : (rngPc b r K V Good m rest cur).p _ w := hs.mem.hold _ (hu [] none).mem
  have hnd : (It.pc (rngPc b r K V Good m rest cur)).mids.Nodup := by simp [It.mids, rngPc, Ne.symm hne]
  rcases h.next (P := P) hne ty with ⟨h0, hrun⟩ | ⟨p, hp, w', hrun, hx2, seen', c0', h'⟩
  · have h4 := hs.mem.upd (hu rest none) (Ext.refl w) hnd (fun k hk => .inl hk) rfl (fun hc => (rngPc b r K V Good m rest none).carry _ _ _ _ hc (fun _ _ => rfl) ⟨hne, es, clock, since, seen, c0, { h with last := fun p hp => by cases hp }⟩)
    refine ⟨.tuple #[.bool false], w, _, _, ⟨none, rest, fun _ => h0, fun p hp => (by cases hp), rfl, rfl⟩, Ext.refl w, ⟨[.bool false], rfl, _, _, rfl, rfl, rfl⟩, h4.1, h4.2, .inl ?_⟩
    simp [execOp, hs.plain hx, hrun, Sem.run_bind, Result.andThen]
  · have h4 := hs.mem.upd (hu _ (some p)) (hx2.mono (by simp [It.mids, rngPc])) hnd (fun k hk => .inl hk) rfl (fun hc => ⟨hne, es, clock, since, seen', c0', h'⟩)
    refine ⟨.tuple #[.bool true, K p.1, V p.2], w', _, _, ⟨some p, _, fun h => (by cases h), fun q hq => (by cases hq; exact ⟨hp, rfl⟩), rfl, rfl⟩, hx2, ⟨[.bool true, K p.1, V p.2], rfl, _, _, rfl, rfl, _, _, rfl, rfl, _, _, rfl, rfl, rfl⟩, h4.1, h4.2, .inl ?_⟩
    simp [execOp, hs.plain hx, hrun, Sem.run_bind, Result.andThen]
omit [DecidableEq α] in
theorem jE_ {c : Code} (hu : Upd (.pc (rngPc b r K V Good m rest cur)) (.pc (mapPc b K V Good m)) σ τ) (q : SC P c (St n W τ l) Q) : SC P c (St n W σ l) Q := fun ac w hs => by
  obtain ⟨hne, es, clock, since, seen, c0, h⟩ : (rngPc b r K V Good m rest cur).p _ w := hs.mem.hold _ hu.mem
  have h4 := hs.mem.upd hu (Ext.refl w) (by simp [It.mids, mapPc]) (fun k hk => .inl (by simp [It.mids, mapPc, rngPc] at hk ⊢; exact .inl hk)) rfl (fun _ => h.map)
  exact q ac w (hs.to h4.1 h4.2)
end
section
variable {α β : Type} [DecidableEq α] {tm tm' : List (α × (Value × β))} {a c : α} {u : Value} {x : β}
def plM (tm : List (α × (Value × β))) : List (α × β) := tm.map fun e => (e.1, e.2.2)
theorem fQ_ : ∀ (tm : List (α × (Value × β))), aget (plM tm) a = (aget tm a).map (·.2)
  | [] => rfl
  | e :: tm => by
    have h := fQ_ tm
    unfold plM aget at h ⊢
    rw [List.map_cons, List.find?_cons, List.find?_cons]
    by_cases he : e.1 = a
    · simp [he]
    · simpa [he] using h
omit [DecidableEq α] in
theorem fP_ (tm : List (α × (Value × β))) : (plM tm).map (·.1) = tm.map (·.1) := by
  unfold plM
  rw [List.map_map]
  rfl
theorem plM_put (tm : List (α × (Value × β))) (a : α) (u : Value) (x : β) : plM (aput tm a (u, x)) = aput (plM tm) a x := by
  have hg := fQ_ tm (a := a)
  unfold aput
  rw [hg, Option.isSome_map]
  split
  · unfold plM
    rw [List.map_map, List.map_map]
    refine List.map_congr_left fun e _ => ?_
    show ((if e.1 = a then (a, (u, x)) else e).1, (if e.1 = a then (a, (u, x)) else e).2.2) = if e.1 = a then (a, x) else (e.1, e.2.2)
    split <;> rfl
  · unfold plM
    rw [List.map_append]
    rfl
end
def tmPc {α β : Type} (b : Nat) (K : α → Value) (Good : α → Prop) (enc : β → Abs) (m : List (α × β)) : Pc where
  ids := [b]
  p := fun K' w => ∃ tm : List (α × (Value × β)), plM tm = m ∧ MapOf w b K id Good (rawM tm) ∧ ∀ y ∈ facM enc tm, rep K' w y.2 y.1
  carry := fun _ _ _ _ hc hs ⟨tm, h1, h2, h3⟩ => ⟨tm, h1, iv_ h2 (hs b (by simp)), fun y hy => a7_ hc _ _ (h3 y hy)⟩
  lt := fun _ _ ⟨_, _, h2, _⟩ k hk => by simp at hk; subst hk; exact h2.lt
section
variable {P : Program} {n : Nat} {W : Wd} {σ τ : Blks} {l : Slots} {X : List Nat} {x y z : Operand} {d : Option Nat} {ty t k e : TypeId} {pos : String} {aft : Array Edge} {g : Option (Nat × Bool)} {b : Nat} {A B C : Abs} {ops : Array Oper} {rest : List Oper} {Q : Exit → Act → World → Prop}
variable {α β : Type} [DecidableEq α] {K : α → Value} {Good : α → Prop} {enc : β → Abs} {m : List (α × β)} {a : α} {v z0 : β} {zv : Value}
abbrev isTm (σ : Blks) (b : Nat) (K : α → Value) (Good : α → Prop) (enc : β → Abs) (m : List (α × β)) : Prop := It.pc (tmPc b K Good enc m) ∈ σ ∨ It.rdpc (tmPc b K Good enc m) ∈ σ
omit [DecidableEq α] in
theorem gF_ {w0 w : World} {F G : List Nat} {σ : Blks} (h : Mem w0 F G σ w) (hb : isTm σ b K Good enc m) : ∃ tm : List (α × (Value × β)), plM tm = m ∧ MapOf w b K id Good (rawM tm) ∧ ∀ y ∈ facM enc tm, rep (mids σ ++ G) w y.2 y.1 := by
  rcases hb with hb | hb
  · exact h.hold _ hb
  · exact h.hold _ hb
theorem tm_rep {tm : List (α × (Value × β))} {K' : List Nat} {w : World} (h : ∀ y ∈ facM enc tm, rep K' w y.2 y.1) (hz : rep K' w (enc z0) zv) : rep K' w (enc ((aget (plM tm) a).getD z0)) (((aget (rawM tm) a).map id).getD zv) := by
  rw [el_, fQ_]
  cases hg : aget tm a with
  | none => exact hz
  | some e => exact h _ (List.mem_map.2 ⟨(a, e), lj_ hg, rfl⟩)
theorem e4_ (kf : KeyFit P k K Good) (ht : P.underlying t = some (.map k e)) (hz : ∀ w, (zeroValue e).run P w = .ok zv w) (hzr : ∀ K w, rep K w (enc z0) zv) (hx : look l x = some (mapV b)) (hb : isTm σ b K Good enc m) (hbX : b ∉ X)
    (hy : look l y = some A) (hA : A.is (K a)) (ha : Good a) : Val P n W σ l X ⟨d, .lookup t x y true, ty, pos, aft, g⟩ (.tup [enc ((aget m a).getD z0), boo (aget m a).isSome]) := fun ac w hs _ => by
  obtain ⟨tm, rfl, h1, h2⟩ := gF_ hs.mem hb
  have e1 := hs.plain hx
  have e2 := hA.1 _ _ _ (hs.eval hy)
  refine ⟨.tuple #[((aget (rawM tm) a).map id).getD zv, .bool (aget (rawM tm) a).isSome], ⟨_, rfl, _, _, rfl, tm_rep h2 (hzr _ _), _, _, rfl, ?_, rfl⟩, fun w' hw' => ?_⟩
  · rw [fQ_, el_, Option.isSome_map, Option.isSome_map]; exact rfl
  · simp only [execOp, e1, e2, Sem.run_bind, (h1.ext hw' hbX).look_run kf ht (hz w') ha true, if_true, Result.andThen_ok, Sem.run_pure]
theorem aX_ (kf : KeyFit P k K Good) (ht : P.underlying t = some (.map k e)) (hz : ∀ w, (zeroValue e).run P w = .ok zv w) (hzr : ∀ K w, rep K w (enc z0) zv) (hx : look l x = some (mapV b)) (hb : isTm σ b K Good enc m) (hbX : b ∉ X)
    (hy : look l y = some A) (hA : A.is (K a)) (ha : Good a) : Val P n W σ l X ⟨d, .lookup t x y false, ty, pos, aft, g⟩ (enc ((aget m a).getD z0)) := fun ac w hs _ => by
  obtain ⟨tm, rfl, h1, h2⟩ := gF_ hs.mem hb
  have e1 := hs.plain hx
  have e2 := hA.1 _ _ _ (hs.eval hy)
  refine ⟨((aget (rawM tm) a).map id).getD zv, tm_rep h2 (hzr _ _), fun w' hw' => ?_⟩
  simp only [execOp, e1, e2, Sem.run_bind, (h1.ext hw' hbX).look_run kf ht (hz w') ha false, Bool.false_eq_true, if_false, Result.andThen_ok, Sem.run_pure]
theorem bh_ {m' : List (α × β)} (kf : KeyFit P k K Good) (ht : P.underlying t = some (.map k e)) (hx : look l x = some (mapV b)) (hu : Upd (.pc (tmPc b K Good enc m)) (.pc (tmPc b K Good enc m')) σ τ) (hy : look l y = some A) (hA : A.is (K a)) (ha : Good a) (hz : look l z = some (enc v)) (hm : aput m a v = m') :
    Eff P n W σ l [b] ⟨d, .mapUpdate t x y z, ty, pos, aft, g⟩ fun u τ' => u = .v undef ∧ τ' = τ := fun ac w hs => by
  subst hm
  obtain ⟨tm, rfl, h1, h2⟩ := gF_ hs.mem (.inl hu.mem)
  have h5 := hs.eval hz
  obtain ⟨w', hr, h6, h3⟩ := h1.put_run kf ht ha (ac.eval z)
  have h4 := hs.mem.upd hu (h3.mono (by simp [It.mids, tmPc])) (by simp [It.mids, tmPc]) (fun k hk => .inl hk) rfl (fun hc => ⟨aput tm a (ac.eval z, v), plM_put _ _ _ _, by rw [rawM_put]; exact h6, fun y hy => by
    rcases List.mem_cons.1 (facM_put tm a (ac.eval z) v y hy) with rfl | hy
    · exact a7_ hc _ _ h5
    · exact a7_ hc _ _ (h2 y hy)⟩)
  refine ⟨_, w', _, _, ⟨rfl, rfl⟩, h3, rfl, h4.1, h4.2, .inr ⟨rfl, ?_⟩⟩
  simp only [id] at hr
  simp only [execOp, hs.plain hx, hA.1 _ _ _ (hs.eval hy), Sem.run_bind, hr, Result.andThen_ok, Sem.run_pure]
omit [DecidableEq α] in
theorem ak_ {o : Op} (K : α → Value) (Good : α → Prop) (enc : β → Abs) (hrun : ∀ (ac : Act) (w : World), (execOp ac.eval ⟨d, o, ty, pos, aft, g⟩).run P w = .ok (.value (.map (some w.heap.size))) (w.alloc (.map #[] 0))) :
    Eff P n W σ l [] ⟨d, o, ty, pos, aft, g⟩ fun u τ' => ∃ b, u = mapV b ∧ τ' = .pc (tmPc b K Good enc []) :: σ := fun ac w hs => by
  have hx : Ext [] w (w.alloc (.map #[] 0)) := (Ext.refl w).alloc _
  have h4 := hs.mem.new (y := .pc (tmPc w.heap.size K Good enc [])) hx (by simp [It.mids, tmPc]) (by simp [It.mids, tmPc]) rfl (fun _ => ⟨[], rfl, MapOf.new w, fun y hy => by cases hy⟩)
  exact ⟨_, _, _, _, ⟨w.heap.size, rfl, rfl⟩, hx, rfl, h4.1, h4.2, .inl (hrun ac w)⟩
/-! ### Opened: the map's own values, and what they are -/
omit [DecidableEq α] in
theorem Re.tmIn {tm : List (α × (Value × β))} (hm : plM tm = m) : Re [facts (facM enc tm), .pc (mapPc b K id Good (rawM tm))] [.pc (tmPc b K Good enc m)] := ⟨⟨[], by simp [mids, It.mids, mapPc, tmPc, factsPc]⟩, by simp [It.rids], fun K' w h y hy => by
  rw [List.mem_singleton.1 hy]
  exact ⟨tm, hm, h (.pc (mapPc b K id Good (rawM tm))) (by simp), fun y hy => (h (facts (facM enc tm)) (by simp) : ∀ x ∈ facM enc tm, rep K' w x.2 x.1) y hy⟩⟩
omit [DecidableEq α] in
theorem St.tmOpen {ac : Act} {w : World} {pre post : Blks} (h : St n W (pre ++ .pc (tmPc b K Good enc m) :: post) l ac w) : ∃ tm : List (α × (Value × β)), plM tm = m ∧ St n W (pre ++ facts (facM enc tm) :: .pc (mapPc b K id Good (rawM tm)) :: post) l ac w := by
  obtain ⟨tm, rfl, h1, h2⟩ := gF_ (b := b) (K := K) (Good := Good) (enc := enc) (m := m) h.mem (.inl (by simp))
  have hids : mids (pre ++ facts (facM enc tm) :: .pc (mapPc b K id Good (rawM tm)) :: post) = mids (pre ++ .pc (tmPc b K Good enc (plM tm)) :: post) := by
    simp [T_, af_, It.mids, mapPc, tmPc, factsPc]
  have h3 := h.mem.step (τ := pre ++ facts (facM enc tm) :: .pc (mapPc b K id Good (rawM tm)) :: post) (Y := []) (Ext.refl w) (by simp) (fun k hk => .inl (by rw [← hids]; exact hk)) (fun y hy => ?_) (by rw [hids]; exact h.mem.nodup) fun hc y hy => ?_
  · exact ⟨tm, rfl, h.to h3.1 h3.2⟩
  · simp only [List.mem_append, List.mem_cons] at hy
    rcases hy with hy | rfl | rfl | hy
    · exact h.mem.ro y (by simp [hy])
    · simp [It.rids]
    · simp [It.rids]
    · exact h.mem.ro y (by simp [hy])
  · simp only [List.mem_append, List.mem_cons] at hy
    rcases hy with hy | rfl | rfl | hy
    · exact h.mem.keep (Y := []) (Ext.refl w) hc (by simp [hy]) (by simp) (by simp)
    · exact fun y hy => a7_ hc _ _ (h2 y hy)
    · exact h1
    · exact h.mem.keep (Y := []) (Ext.refl w) hc (by simp [hy]) (by simp) (by simp)
omit [DecidableEq α] in
theorem lr_ (pre : Blks) {post : Blks} (hσ : σ = pre ++ .pc (tmPc b K Good enc m) :: post) (k : ∀ tm : List (α × (Value × β)), plM tm = m → SL P ops rest (St n W (pre ++ facts (facM enc tm) :: .pc (mapPc b K id Good (rawM tm)) :: post) l) Q) : SL P ops rest (St n W σ l) Q := by
  subst hσ
  intro a w h
  obtain ⟨tm, h1, h2⟩ := h.tmOpen
  exact k tm h1 a w h2
omit [DecidableEq α] in
theorem Spec.tmRead {f : FuncId} {args : List Abs} {σ1 : Blks} {ι : Type} {τ : ι → Blks} {res : ι → Abs} (h : ∀ tm : List (α × (Value × β)), plM tm = m → Spec P f args (σ1 ++ [.rdpc (mapPc b K id Good (rawM tm))]) τ res) : Spec P f args (σ1 ++ [.rdpc (tmPc b K Good enc m)]) τ res := fun G w vals hm hv => by
  obtain ⟨tm, rfl, h1, h2⟩ := gF_ (b := b) (K := K) (Good := Good) (enc := enc) (m := m) hm (.inr (by simp))
  have hids : mids (σ1 ++ [.rdpc (mapPc b K id Good (rawM tm))]) = mids (σ1 ++ [.rdpc (tmPc b K Good enc (plM tm))]) := by
    simp [T_, af_, It.mids]
  have hc : Carry (mids (σ1 ++ [.rdpc (tmPc b K Good enc (plM tm))]) ++ G) w (mids (σ1 ++ [.rdpc (mapPc b K id Good (rawM tm))]) ++ G) w := by rw [hids]; exact Carry.refl
  have hm2 : Mem w (mids (σ1 ++ [.rdpc (mapPc b K id Good (rawM tm))])) G (σ1 ++ [.rdpc (mapPc b K id Good (rawM tm))]) w := by
    refine ⟨Ext.refl w, fun k hk => .inl hk, by rw [hids]; exact hm.sep, hm.old, fun x hx => ?_, by rw [hids]; exact hm.nodup, fun x hx => ?_⟩
    · rcases List.mem_append.1 hx with hx | hx
      · exact hm.ro x (by simp [hx])
      · rw [List.mem_singleton.1 hx]; exact hm.ro (.rdpc (tmPc b K Good enc (plM tm))) (by simp)
    · rcases List.mem_append.1 hx with hx | hx
      · exact It.carry (hm.hold x (by simp [hx])) hc fun _ _ => rfl
      · rw [List.mem_singleton.1 hx]; exact h1
  have hmid : mids (σ1 ++ [.rdpc (tmPc b K Good enc (plM tm))]) = mids (σ1 ++ [.rdpc (mapPc b K id Good (rawM tm))]) := hids.symm
  have hr := h tm rfl G w vals hm2 (aj_ hc _ _ hv)
  rw [hmid]
  exact hr
end
end Go.Proofs.YtjclgkddfjbdiaaGreatDoor.A
namespace Go.Proofs.YtjclgkddfjbdiaaGreatDoor
open Go.RowKit
def nameC (c : Nat) : Bool := (decide (97 ≤ c) && decide (c ≤ 122)) || (decide (48 ≤ c) && decide (c ≤ 57)) || decide (c = 45)
def nameB (s : ByteArray) : Bool := s.data.toList.all (fun c => nameC c.toNat) && decide (1 ≤ s.size) && decide (s.size ≤ 16)
section
variable {S : List (World × List Nat)} {σ τ : Blks} {ρ : List Dt} {w : World}
theorem all_at {s : ByteArray} {k : Nat} (h : k < s.size) (hb : nameC (s[k]'h).toNat = false) : s.data.toList.all (fun c => nameC c.toNat) = false := by
  rw [List.all_eq_false]
  refine ⟨s[k]'h, ?_, by rw [hb]; decide⟩
  have : s[k]'h = s.data.toList[k]'(by simpa using h) := rfl
  rw [this]
  exact List.getElem_mem _
theorem all_all {s : ByteArray} (hp : ∀ j (hj : j < s.size), nameC (s[j]'hj).toNat = true) : s.data.toList.all (fun c => nameC c.toNat) = true := by
  rw [List.all_eq_true]
  intro c hc
  obtain ⟨j, hj, rfl⟩ := List.getElem_of_mem hc
  exact hp j (by simpa using hj)
theorem odd_c {r : Nat} (hw : Mem S σ ρ w) : Calls Tryz.prog 153 #[.int .i32 r] w fun e w' => e = .returned (.bool (!nameC r)) ∧ Mem S σ ρ w' := by
  refine au_ [.int .i32 r] Tryz.func153 rfl Tryz.ntmps153 rfl (Mem S σ ρ) hw ?_
  refine c_ (a_ ?_)
  refine i_ (n_ rfl) rfl rfl ?_
  refine d_ (b_ ?_)
  refine c_ (a_ ?_)
  refine i_ (s_ rfl) rfl rfl ?_
  refine i_ (a9_ rfl rfl) rfl rfl ?_
  refine i_ (s_ rfl) rfl rfl ?_
  refine A_ (t := 5) rfl ?_ ?_
  · intro hc5
    iterate 2 refine aH_ rfl rfl ?_
    refine i_ (ab_ rfl rfl) rfl rfl ?_
    iterate 2 refine i_ (s_ rfl) rfl rfl ?_
    refine i_ (a9_ rfl rfl) rfl rfl ?_
    refine i_ (s_ rfl) rfl rfl ?_
    refine A_ (t := 12) rfl ?_ ?_
    · intro hc12
      iterate 2 refine aH_ rfl rfl ?_
      refine i_ (ab_ rfl rfl) rfl rfl ?_
      refine i_ (ab_ rfl rfl) rfl rfl ?_
      iterate 2 refine i_ (s_ rfl) rfl rfl ?_
      refine i_ (dY_ rfl rfl) rfl rfl ?_
      refine i_ (ab_ rfl rfl) rfl rfl ?_
      refine i_ (n_ rfl) rfl rfl ?_
      refine d_ (b_ ?_)
      refine k_ ?_
      refine Z_ rfl rfl ?_
      intro w' hw'
      refine ⟨?_, hw'⟩
      congr 2
      rw [Bool.eq_iff_iff]
      simp [nameC]
      omega
    intro hc12
    refine i_ (s_ rfl) rfl rfl ?_
    refine i_ (ba_ rfl rfl) rfl rfl ?_
    refine i_ (an_ rfl rfl) rfl rfl ?_
    refine i_ (ab_ rfl rfl) rfl rfl ?_
    refine i_ (s_ rfl) rfl rfl ?_
    refine A_ (t := 17) rfl ?_ ?_
    · intro hc17
      refine i_ (s_ rfl) rfl rfl ?_
      refine i_ (dY_ rfl rfl) rfl rfl ?_
      refine i_ (ab_ rfl rfl) rfl rfl ?_
      refine i_ (n_ rfl) rfl rfl ?_
      refine d_ (b_ ?_)
      refine k_ ?_
      refine Z_ rfl rfl ?_
      intro w' hw'
      refine ⟨?_, hw'⟩
      congr 2
      rw [Bool.eq_iff_iff]
      simp [nameC]
      omega
    intro hc17
    iterate 2 refine aH_ rfl rfl ?_
    refine i_ (an_ rfl rfl) rfl rfl ?_
    refine i_ (n_ rfl) rfl rfl ?_
    refine d_ (b_ ?_)
    refine k_ ?_
    refine Z_ rfl rfl ?_
    intro w' hw'
    refine ⟨?_, hw'⟩
    congr 2
    rw [Bool.eq_iff_iff]
    simp [nameC]
    omega
  intro hc5
  refine i_ (s_ rfl) rfl rfl ?_
  refine i_ (ba_ rfl rfl) rfl rfl ?_
  refine i_ (an_ rfl rfl) rfl rfl ?_
  refine i_ (s_ rfl) rfl rfl ?_
  refine A_ (t := 9) rfl ?_ ?_
  rotate_left
  · intro hc9
    iterate 6 refine aH_ rfl rfl ?_
    refine i_ (an_ rfl rfl) rfl rfl ?_
    refine i_ (s_ rfl) rfl rfl ?_
    iterate 2 refine aH_ rfl rfl ?_
    refine i_ (an_ rfl rfl) rfl rfl ?_
    refine i_ (n_ rfl) rfl rfl ?_
    refine d_ (b_ ?_)
    refine k_ ?_
    refine Z_ rfl rfl ?_
    intro w' hw'
    refine ⟨?_, hw'⟩
    congr 2
    rw [Bool.eq_iff_iff]
    simp [nameC]
    omega
  intro hc9
  refine i_ (s_ rfl) rfl rfl ?_
  refine i_ (a9_ rfl rfl) rfl rfl ?_
  refine i_ (s_ rfl) rfl rfl ?_
  refine A_ (t := 12) rfl ?_ ?_
  · intro hc12
    iterate 2 refine aH_ rfl rfl ?_
    refine i_ (ab_ rfl rfl) rfl rfl ?_
    refine i_ (ab_ rfl rfl) rfl rfl ?_
    iterate 2 refine i_ (s_ rfl) rfl rfl ?_
    refine i_ (dY_ rfl rfl) rfl rfl ?_
    refine i_ (ab_ rfl rfl) rfl rfl ?_
    refine i_ (n_ rfl) rfl rfl ?_
    refine d_ (b_ ?_)
    refine k_ ?_
    refine Z_ rfl rfl ?_
    intro w' hw'
    refine ⟨?_, hw'⟩
    congr 2
    rw [Bool.eq_iff_iff]
    simp [nameC]
    omega
  intro hc12
  refine i_ (s_ rfl) rfl rfl ?_
  refine i_ (ba_ rfl rfl) rfl rfl ?_
  refine i_ (an_ rfl rfl) rfl rfl ?_
  refine i_ (ab_ rfl rfl) rfl rfl ?_
  refine i_ (s_ rfl) rfl rfl ?_
  refine A_ (t := 17) rfl ?_ ?_
  · intro hc17
    refine i_ (s_ rfl) rfl rfl ?_
    refine i_ (dY_ rfl rfl) rfl rfl ?_
    refine i_ (ab_ rfl rfl) rfl rfl ?_
    refine i_ (n_ rfl) rfl rfl ?_
    refine d_ (b_ ?_)
    refine k_ ?_
    refine Z_ rfl rfl ?_
    intro w' hw'
    refine ⟨?_, hw'⟩
    congr 2
    rw [Bool.eq_iff_iff]
    simp [nameC]
    omega
  intro hc17
  iterate 2 refine aH_ rfl rfl ?_
  refine i_ (an_ rfl rfl) rfl rfl ?_
  refine i_ (n_ rfl) rfl rfl ?_
  refine d_ (b_ ?_)
  refine k_ ?_
  refine Z_ rfl rfl ?_
  intro w' hw'
  refine ⟨?_, hw'⟩
  congr 2
  rw [Bool.eq_iff_iff]
  simp [nameC]
  omega
set_option maxHeartbeats 400000 in
theorem jm_ {s : ByteArray} (hw : Mem S σ ρ w) (_hs : s.size ≤ 16) : Calls Tryz.prog 291 #[.string s, .func (.func 153) #[] #[], .bool true] w fun e w' => ∃ r : Int, e = .returned (.int .i64 r) ∧ (0 ≤ r ↔ s.data.toList.all (fun c => nameC c.toNat) = false) ∧ Mem S σ ρ w' := by
  refine au_ [.string s, .func (.func 153) #[] #[], .bool true] Tryz.func291 rfl Tryz.ntmps291 rfl (Mem S σ ρ) hw ?_
  refine c_ (a_ ?_)
  refine i_ (n_ rfl) rfl rfl ?_
  refine d_ (b_ ?_)
  refine c_ ?_
  refine c_ (a_ ?_)
  refine i_ (s_ rfl) rfl rfl ?_
  refine by_ (hX_ rfl Tryz.underlying9) rfl rfl ?_
  rintro _ _ ⟨b10, rfl, rfl⟩
  refine d_ (b_ ?_)
  refine u_ ?_
  refine P_ (ι := Nat) (fun k => [(1, .func (.func 153) #[] #[]), (2, .bool true), (10, .pointer (some ⟨b10, 0, none⟩))]) (fun k w' => (k ≤ s.size ∧ ∀ j (hj : j < s.size), j < k → nameC (s[j]'hj).toNat = true) ∧ Mem S (.blk b10 (.stringIter s k) :: σ) ρ w') (fun k => s.size - k) 0 (by exact ⟨rfl, rfl, rfl, trivial⟩) (fun w' hw' => ⟨⟨Nat.zero_le _, fun j hj h => by omega⟩, hw'⟩) ?_
  intro k
  refine cu_ ?_
  rintro ⟨hk, hp⟩
  by_cases hlt : k < s.size
  · have hd := hH_ s k hlt
    have hc := (s[k]'hlt).toNat_lt
    skip
    refine c_ (a_ ?_)
    refine by_ (jI_ rfl .here hlt) rfl rfl ?_
    rintro _ _ ⟨rfl, rfl⟩
    refine i_ (br_ rfl rfl) rfl rfl ?_
    refine d_ (b_ ?_)
    refine c_ ?_
    refine U_ rfl ?_
    refine o_ ?_
    refine b_ ?_
    refine u_ ?_
    refine c_ (a_ ?_)
    refine i_ (br_ rfl rfl) rfl rfl ?_
    refine i_ (br_ rfl rfl) rfl rfl ?_
    iterate 2 refine i_ (n_ rfl) rfl rfl ?_
    refine d_ (b_ ?_)
    refine c_ (a_ ?_)
    iterate 2 refine i_ (s_ rfl) rfl rfl ?_
    refine bX_ rfl (by kernel_rfl) rfl rfl rfl ?_
    intro w hw
    refine (odd_c hw).mono ?_
    rintro _ _ ⟨rfl, hm⟩
    refine ⟨_, _, rfl, hm, ?_⟩
    clear hm hw w
    refine i_ (s_ rfl) rfl rfl ?_
    refine i_ (lq_ rfl rfl (by kernel_rfl)) rfl rfl ?_
    refine d_ (b_ ?_)
    refine ar_ rfl ?_ ?_
    rotate_left
    · intro hodd
      refine o_ ?_
      refine w_ ?_
      simp only [beq_true, Bool.not_eq_false'] at hodd
      have h128 : (s[k]'hlt).toNat < 128 := by
        rcases Nat.lt_or_ge (s[k]'hlt).toNat 128 with h | h
        · exact h
        · have h2 := hd (by omega)
          simp only [nameC, Bool.or_eq_true, Bool.and_eq_true, decide_eq_true_eq] at hodd
          omega
      have e1 := decode_ascii s k hlt h128
      exact I_ (k + 1) (by omega) (by exact ⟨rfl, rfl, rfl, trivial⟩) (fun w' hw' => ⟨⟨hlt, fun j hj h => by
        rcases Nat.lt_or_ge j k with h2 | h2
        · exact hp j hj h2
        · obtain rfl : j = k := by omega
          rw [e1] at hodd; exact hodd⟩, by rw [e1] at hw'; exact hw'⟩)
    intro hodd
    refine c_ (a_ ?_)
    refine i_ (s_ rfl) rfl rfl ?_
    refine i_ (n_ rfl) rfl rfl ?_
    refine d_ (b_ ?_)
    refine k_ ?_
    refine S_ ?_
    refine j_ (by intro h; cases h) ?_
    refine S_ ?_
    refine j_ (by intro h; cases h) ?_
    refine Z_ rfl rfl ?_
    intro w' hw'
    refine ⟨_, rfl, ?_, hw'.sub (fun _ h => h) (List.sublist_cons_self _ _)⟩
    rw [all_at hlt (by
  simp only [beq_true, Bool.not_eq_true'] at hodd
  rcases Nat.lt_or_ge (s[k]'hlt).toNat 128 with h | h
  · rw [decode_ascii s k hlt h] at hodd; exact hodd
  · simp only [nameC, Bool.or_eq_false_iff, Bool.and_eq_false_iff, decide_eq_false_iff_not]; omega)]
    simp
  · skip
    refine c_ (a_ ?_)
    refine i_ (hS_ rfl List.mem_cons_self hlt) rfl rfl ?_
    refine i_ (br_ rfl rfl) rfl rfl ?_
    refine d_ (b_ ?_)
    refine c_ ?_
    refine O_ rfl ?_
    refine N_ ?_
    refine j_ (by intro h; cases h) ?_
    refine j_ (by intro h; cases h) ?_
    refine M_ ?_
    refine b_ ?_
    refine c_ (a_ ?_)
    refine i_ (n_ rfl) rfl rfl ?_
    refine d_ (b_ ?_)
    refine k_ ?_
    refine Z_ rfl rfl ?_
    intro w' hw'
    refine ⟨_, rfl, ?_, hw'.sub (fun _ h => h) (List.sublist_cons_self _ _)⟩
    rw [all_all fun j hj => hp j hj (by omega)]
    simp
theorem index_c {s : ByteArray} (hw : Mem S σ ρ w) (hs : s.size ≤ 16) : Calls Tryz.prog 210 #[.string s, .func (.func 153) #[] #[]] w fun e w' => ∃ r : Int, e = .returned (.int .i64 r) ∧ (0 ≤ r ↔ s.data.toList.all (fun c => nameC c.toNat) = false) ∧ Mem S σ ρ w' := by
  refine au_ [.string s, .func (.func 153) #[] #[]] Tryz.func210 rfl Tryz.ntmps210 rfl (Mem S σ ρ) hw ?_
  refine c_ (a_ ?_)
  refine i_ (n_ rfl) rfl rfl ?_
  refine d_ (b_ ?_)
  refine c_ (a_ ?_)
  iterate 2 refine i_ (s_ rfl) rfl rfl ?_
  refine Y_ (by kernel_rfl) rfl rfl rfl ?_
  intro w hw
  refine (jm_ hw hs).mono ?_; rintro _ _ ⟨r, rfl, hr, hm⟩; refine ⟨_, _, rfl, hm, ?_⟩; clear hm hw w
  refine i_ (n_ rfl) rfl rfl ?_
  refine d_ (b_ ?_)
  refine k_ ?_
  refine Z_ rfl rfl ?_
  intro w' hw'
  exact ⟨_, rfl, hr, hw'⟩
theorem jq_ {s : ByteArray} (hw : Mem S σ ρ w) (hs : s.size ≤ 16) : Calls Tryz.prog 154 #[.string s, .func (.func 153) #[] #[]] w fun e w' => e = .returned (.bool (!s.data.toList.all (fun c => nameC c.toNat))) ∧ Mem S σ ρ w' := by
  refine au_ [.string s, .func (.func 153) #[] #[]] Tryz.func154 rfl Tryz.ntmps154 rfl (Mem S σ ρ) hw ?_
  refine c_ (a_ ?_)
  refine i_ (n_ rfl) rfl rfl ?_
  refine d_ (b_ ?_)
  refine c_ (a_ ?_)
  iterate 2 refine i_ (s_ rfl) rfl rfl ?_
  refine Y_ (by kernel_rfl) rfl rfl rfl ?_
  intro w hw
  refine (index_c hw hs).mono ?_; rintro _ _ ⟨r, rfl, hr, hm⟩; refine ⟨_, _, rfl, hm, ?_⟩; clear hm hw w
  refine i_ (d1_ rfl rfl) rfl rfl ?_
  refine i_ (n_ rfl) rfl rfl ?_
  refine d_ (b_ ?_)
  refine k_ ?_
  refine Z_ rfl rfl ?_
  intro w' hw'
  refine ⟨?_, hw'⟩
  congr 2
  rw [Bool.eq_iff_iff, decide_eq_true_eq, hr]
  simp
theorem isName_c {s : ByteArray} (hw : Mem S σ ρ w) : Calls Tryz.prog 105 #[.string s] w fun e w' => e = .returned (.bool (nameB s)) ∧ Mem S σ ρ w' := by
  have h0 : (s = ⟨#[]⟩) ↔ s.size = 0 := by
    constructor
    · rintro rfl; rfl
    · intro h
      obtain ⟨a⟩ := s
      congr 1
      exact Array.eq_empty_of_size_eq_zero h
  refine au_ [.string s] Tryz.func105 rfl Tryz.ntmps105 rfl (Mem S σ ρ) hw ?_
  refine c_ (a_ ?_)
  refine i_ (n_ rfl) rfl rfl ?_
  refine d_ (b_ ?_)
  refine c_ (a_ ?_)
  refine i_ (n_ rfl) rfl rfl ?_
  refine d_ (b_ ?_)
  refine c_ (a_ ?_)
  refine i_ (s_ rfl) rfl rfl ?_
  refine i_ (f9_ rfl rfl) rfl rfl ?_
  refine i_ (s_ rfl) rfl rfl ?_
  refine A_ (t := 6) rfl ?_ ?_
  rotate_left
  · intro hc6
    iterate 3 refine aH_ rfl rfl ?_
    refine i_ (an_ rfl rfl) rfl rfl ?_
    refine i_ (s_ rfl) rfl rfl ?_
    iterate 4 refine aH_ rfl rfl ?_
    refine i_ (an_ rfl rfl) rfl rfl ?_
    refine i_ (n_ rfl) rfl rfl ?_
    refine d_ (b_ ?_)
    refine k_ ?_
    refine Z_ rfl rfl ?_
    intro w' hw'
    refine ⟨?_, hw'⟩
    congr 2
    unfold nameB
    rw [Ne, h0] at hc6
    rw [Bool.eq_iff_iff]
    (simp; omega)
  intro hc6
  refine i_ (s_ rfl) rfl rfl ?_
  refine i_ (cJ_ rfl Tryz.underlying9) rfl rfl ?_
  refine i_ (hU_ rfl rfl) rfl rfl ?_
  refine i_ (ab_ rfl rfl) rfl rfl ?_
  refine i_ (s_ rfl) rfl rfl ?_
  refine A_ (t := 11) rfl ?_ ?_
  rotate_left
  · intro hc11
    iterate 4 refine aH_ rfl rfl ?_
    refine i_ (an_ rfl rfl) rfl rfl ?_
    refine i_ (n_ rfl) rfl rfl ?_
    refine d_ (b_ ?_)
    refine k_ ?_
    refine Z_ rfl rfl ?_
    intro w' hw'
    refine ⟨?_, hw'⟩
    congr 2
    unfold nameB
    rw [Ne, h0] at hc6
    rw [Bool.eq_iff_iff]
    (simp; omega)
  intro hc11
  iterate 2 refine i_ (s_ rfl) rfl rfl ?_
  refine Y_ (by kernel_rfl) rfl rfl rfl ?_
  intro w hw
  refine (jq_ hw (by omega)).mono ?_; rintro _ _ ⟨rfl, hm⟩; refine ⟨_, _, rfl, hm, ?_⟩; clear hm hw w
  refine i_ (aL_ rfl) rfl rfl ?_
  refine i_ (ab_ rfl rfl) rfl rfl ?_
  refine i_ (n_ rfl) rfl rfl ?_
  refine d_ (b_ ?_)
  refine k_ ?_
  refine Z_ rfl rfl ?_
  intro w' hw'
  refine ⟨?_, hw'⟩
  congr 2
  unfold nameB
  rw [Ne, h0] at hc6
  rw [Bool.eq_iff_iff]
  first
    | (simp; omega)
    | (have h1 : 1 ≤ s.size := by omega
       have h2 : s.size ≤ 16 := by omega
       simp [h1, h2])
end
end Go.Proofs.YtjclgkddfjbdiaaGreatDoor
