/-
  Packed out of the texts: LedS, A20, A24, LedEq, LedF, TOth, LedO, Batch1, Batch2, Batch3, RdCan, Batch4, Batch5, Batch6, BatchTwo, BatchBack, A28, LedB, LedK, LedL.
-/
import Derived.Test.YtickdhjljpnlpaaGreatDoorP06
import Derived.Lib.AppendZerosOnto
import Derived.Lib.Overlaps
import Derived.Sort.Walk0
import Derived.FnData
/-
  What an entry does, plain: step by step.
-/
set_option maxRecDepth 100000
set_option linter.unusedSimpArgs false
set_option linter.unusedVariables false
namespace Go.Proofs.YtickdhjljpnlpaaGreatDoor.A
open Go.RowKit

theorem parseF_ok {t : Txt} {n : Int} (h : (parseF t n).2 = 0) : (parseF t n).1.check n = 0 := by
  unfold parseF at h ⊢
  split at h
  · cases h
  · next h1 =>
    rw [if_neg h1]
    cases hp : polT 10 t with
    | none => rw [hp] at h; cases h
    | some y =>
      obtain ⟨f, r⟩ := y
      rw [hp] at h
      dsimp only at h ⊢
      split at h
      · cases h
      · next h2 =>
        split at h
        · next h3 => exact absurd h h3
        · next h3 =>
          rw [if_neg h2, if_neg h3]
          exact Classical.byContradiction h3
theorem st_tx (s : ByteArray) : st s = .v (.string ⟨(tx s).toArray⟩) := congrArg (fun s => Abs.v (.string s)) (tx_inj (tx_mk _).symm)
theorem mask_u32 {m : Nat} (h : m < 4294967296) : Abs.v (.int .u32 (m : Nat)) = u32 (BitVec.ofNat 32 m) := by
  unfold u32
  rw [BitVec.toNat_ofNat, Nat.mod_eq_of_lt (by simpa using h)]
section
variable {l : Lg} {x : Ltr} {e : Ent} {c : Core} {n : Int} {op a b : Int} {t : ByteArray}
theorem amt_i64 {a : Int} (h : isAmt a = true) : i64ok a := by
  have := isAmt_true h
  unfold i64ok
  omega
theorem next_le (s op : Int) : i64ok (ltrNext s op) := by
  unfold ltrNext
  split
  · unfold i64ok; omega
  · have : ∀ y ∈ ltrRow op, 0 ≤ y ∧ y ≤ 7 := by
      unfold ltrRow
      repeat' split
      all_goals decide
    rw [List.getD_eq_getElem?_getD]
    rcases Nat.lt_or_ge s.toNat (ltrRow op).length with h | h
    · rw [List.getElem?_eq_getElem h, Option.getD_some]
      have := this _ (List.getElem_mem h)
      unfold i64ok; omega
    · rw [List.getElem?_eq_none h, Option.getD_none]
      unfold i64ok; omega
theorem does_wf (h : x.Wf) : (x.does op a b t).1.Wf := by
  unfold Ltr.does
  split
  · exact h
  · split
    · unfold Ltr.apply
      split
      · exact h
      · split
        · exact h
        · split
          · exact h
          · next h1 h2 h3 => exact ⟨show i64ok 0 by unfold i64ok; omega, amt_i64 (by simpa using h2), amt_i64 (by simpa using h3)⟩
    · split
      · unfold Ltr.amend
        split
        · exact h
        · split
          · exact h
          · next h1 h2 =>
            refine ⟨h.state, amt_i64 (amtChange_is _ _), ?_⟩
            show i64ok (if b ≠ 0 then b else x.due)
            split
            · exact amt_i64 (by simpa using (not_or.1 h2).2)
            · exact h.due
      · split
        · exact ⟨h.state, h.amount, h.due⟩
        · split
          · exact ⟨h.state, h.amount, h.due⟩
          · split <;> exact h
theorem step_wf (h : x.Wf) : (x.step op a b t).1.Wf := by
  unfold Ltr.step
  split
  · exact none_wf
  · split
    · exact none_wf
    · split
      · exact none_wf
      · have := does_wf (op := op) (a := a) (b := b) (t := t) h
        exact ⟨next_le _ _, this.amount, this.due⟩
/-- The letter that a step makes. -/
abbrev nextL (x : Ltr) (c : Core) : Ltr := { (x.step c.op c.a c.b c.text).1 with name := c.letter }
theorem stepped_a (h : (x.step c.op c.a c.b c.text).2 ≠ 0) : l.stepped x c = (l, (x.step c.op c.a c.b c.text).2) := if_pos h
theorem stepped_b (h : ¬ (x.step c.op c.a c.b c.text).2 ≠ 0) (h2 : (l.with_ (nextL x c)).2 ≠ 0) : l.stepped x c = (l, (l.with_ (nextL x c)).2) := by
  unfold Lg.stepped
  rw [if_neg h, if_pos h2]
theorem stepped_c (h : ¬ (x.step c.op c.a c.b c.text).2 ≠ 0) (h2 : ¬ (l.with_ (nextL x c)).2 ≠ 0) (h3 : ¬ c.op = 7) : l.stepped x c = ((l.with_ (nextL x c)).1, 0) := by
  unfold Lg.stepped
  rw [if_neg h, if_neg h2, if_pos h3]
theorem stepped_d (h : ¬ (x.step c.op c.a c.b c.text).2 ≠ 0) (h2 : ¬ (l.with_ (nextL x c)).2 ≠ 0) (h3 : c.op = 7) (h4 : (amtAdd l.total (nextL x c).amount).2 ≠ 0) : l.stepped x c = (l, 6) := by
  unfold Lg.stepped
  rw [if_neg h, if_neg h2, if_neg (fun k => k h3), if_pos h4]
theorem stepped_e (h : ¬ (x.step c.op c.a c.b c.text).2 ≠ 0) (h2 : ¬ (l.with_ (nextL x c)).2 ≠ 0) (h3 : c.op = 7) (h4 : ¬ (amtAdd l.total (nextL x c).amount).2 ≠ 0) : l.stepped x c = ({ (l.with_ (nextL x c)).1 with total := (amtAdd l.total (nextL x c).amount).1 }, 0) := by
  unfold Lg.stepped
  rw [if_neg h, if_neg h2, if_neg (fun k => k h3), if_neg h4]
theorem with_ok {y : Ltr} (h : ¬ (l.with_ y).2 ≠ 0) : (l.with_ y).1 = l.putL y ∧ nameB y.name = true ∧ (l.putL y).ls.length ≤ 16 := by
  unfold Lg.with_ at h ⊢
  split at h
  · exact absurd (by decide) h
  · next h1 =>
    split at h
    · exact absurd (by decide) h
    · next h2 =>
      rw [if_neg h1, if_neg h2]
      exact ⟨rfl, by simpa using h1, by omega⟩
theorem with_total {y : Ltr} (h : ¬ (l.with_ y).2 ≠ 0) : (l.with_ y).1.total = l.total := by rw [(with_ok h).1]; rfl
theorem stepped_os : (l.stepped x c).1.os = l.os := by
  unfold Lg.stepped
  split
  · rfl
  · split
    · rfl
    · next h =>
      have h1 := (with_ok h).1
      split
      · (show (l.with_ (nextL x c)).1.os = l.os; rw [h1]; rfl)
      · split
        · rfl
        · (show (l.with_ (nextL x c)).1.os = l.os; rw [h1]; rfl)
theorem stepped_ls : (l.stepped x c).1.ls.length ≤ l.ls.length + 1 := by
  have hw : ∀ y : Ltr, (l.putL y).ls.length ≤ l.ls.length + 1 := fun y => withG_length _
  unfold Lg.stepped
  split
  · exact Nat.le_succ _
  · split
    · exact Nat.le_succ _
    · next h =>
      have h1 := (with_ok h).1
      split
      · rw [h1]; exact hw _
      · split
        · exact Nat.le_succ _
        · show (l.with_ (nextL x c)).1.ls.length ≤ _
          rw [h1]; exact hw _
theorem res_len : (l.res e n).1.ls.length ≤ l.ls.length + 1 ∧ (l.res e n).1.os = l.os := by
  unfold Lg.res
  split
  · exact ⟨Nat.le_succ _, rfl⟩
  · split
    · exact ⟨Nat.le_succ _, rfl⟩
    · exact ⟨stepped_ls, stepped_os⟩
theorem doF_len : (l.doF e n).1.ls.length ≤ l.ls.length + 1 ∧ (l.doF e n).1.os.length ≤ l.os.length + 1 := by
  unfold Lg.doF
  split
  · exact ⟨Nat.le_succ _, Nat.le_succ _⟩
  · split
    · exact ⟨Nat.le_succ _, Nat.le_succ _⟩
    · refine ⟨(res_len (e := e) (n := n)).1, ?_⟩
      show (withG _ _ _ (l.res e n).1.os).length ≤ _
      rw [(res_len (e := e) (n := n)).2]
      exact withG_length _
theorem stepped_seq : (l.stepped x c).1.seq = l.seq := by
  unfold Lg.stepped
  split
  · rfl
  · split
    · rfl
    · next h =>
      have h1 := (with_ok h).1
      split
      · (show (l.with_ (nextL x c)).1.seq = l.seq; rw [h1]; rfl)
      · split
        · rfl
        · (show (l.with_ (nextL x c)).1.seq = l.seq; rw [h1]; rfl)
theorem doF_seq : (l.doF e n).1.seq = l.seq := by
  unfold Lg.doF
  split
  · rfl
  · split
    · rfl
    · show (l.res e n).1.seq = _
      unfold Lg.res
      split
      · rfl
      · split
        · rfl
        · exact stepped_seq
theorem putL_wf {y : Ltr} (h : l.Wf) (hy : y.Wf) : (l.putL y).Wf := ⟨h.seq, h.total, fun z hz => by
  rcases withG_mem hz with rfl | hz
  · exact hy
  · exact h.ls z hz⟩
theorem stepped_wf (h : l.Wf) (hx : x.Wf) : (l.stepped x c).1.Wf := by
  unfold Lg.stepped
  split
  · exact h
  · split
    · exact h
    · next h2 =>
      have h1 := (with_ok h2).1
      have hs := step_wf (op := c.op) (a := c.a) (b := c.b) (t := c.text) hx
      have hw : (l.with_ (nextL x c)).1.Wf := by
        rw [h1]
        exact putL_wf h ⟨hs.state, hs.amount, hs.due⟩
      split
      · exact hw
      · split
        · exact h
        · exact ⟨hw.seq, amt_i64 (amtAdd_is _ _), hw.ls⟩
theorem doF_wf (h : l.Wf) : (l.doF e n).1.Wf := by
  unfold Lg.doF
  split
  · exact h
  · split
    · exact h
    · have : (l.res e n).1.Wf := by
        unfold Lg.res
        split
        · exact h
        · split
          · exact h
          · exact stepped_wf h (Lg.old_wf h _)
      exact ⟨this.seq, this.total, this.ls⟩
/-- The letter ahead of a step. -/
def oldAt (l : Lg) (e : Ent) : Nat → Ltr
  | 0 => Ltr.none
  | _ => l.old e.core.letter
def lgAt (l : Lg) (e : Ent) : Nat → Lg
  | 3 => (l.stepped (l.old e.core.letter) e.core).1
  | _ => l
/-- What a step comes to. -/
def erAt (l : Lg) (e : Ent) (n : Int) : Nat → Int
  | 0 => l.known e.core
  | 1 => endorsedF (l.old e.core.letter) e n
  | _ => (l.stepped (l.old e.core.letter) e.core).2
theorem stepped_same {l : Lg} {x : Ltr} {c : Core} (h : (l.stepped x c).2 ≠ 0) : (l.stepped x c).1 = l := by
  unfold Lg.stepped at h ⊢
  split
  · rfl
  · next h1 =>
    rw [if_neg h1] at h
    split
    · rfl
    · next h2 =>
      rw [if_neg h2] at h
      split
      · next h3 => rw [if_pos h3] at h; exact absurd rfl h
      · next h3 =>
        rw [if_neg h3] at h
        split
        · rfl
        · next h4 => rw [if_neg h4] at h; exact absurd rfl h
theorem res_stop {z : Nat} (hz : z < 3) (h : ∀ j, j < z → erAt l e n j = 0) (h2 : erAt l e n z ≠ 0) : l.res e n = (l, erAt l e n z) := by
  unfold Lg.res
  rcases (by omega : z = 0 ∨ z = 1 ∨ z = 2) with rfl | rfl | rfl
  · rw [if_pos (show l.known e.core ≠ 0 from h2)]; rfl
  · rw [if_neg (fun k : l.known e.core ≠ 0 => k (h 0 (by omega))), if_pos (show endorsedF _ e n ≠ 0 from h2)]; rfl
  · rw [if_neg (fun k : l.known e.core ≠ 0 => k (h 0 (by omega))), if_neg (fun k : endorsedF _ e n ≠ 0 => k (h 1 (by omega)))]
    exact Prod.ext (stepped_same h2) rfl
theorem res_end (h : ∀ j, j < 3 → erAt l e n j = 0) : l.res e n = (lgAt l e 3, 0) := by
  unfold Lg.res
  rw [if_neg (fun k : l.known e.core ≠ 0 => k (h 0 (by omega))), if_neg (fun k : endorsedF _ e n ≠ 0 => k (h 1 (by omega)))]
  exact Prod.ext rfl (h 2 (by omega))
theorem lgAt_stop {z : Nat} (hz : z < 3) (h2 : erAt l e n z ≠ 0) : lgAt l e (z + 1) = l := by
  rcases (by omega : z = 0 ∨ z = 1 ∨ z = 2) with rfl | rfl | rfl
  · rfl
  · rfl
  · exact stepped_same h2
end
end Go.Proofs.YtickdhjljpnlpaaGreatDoor.A
/-
  The second engine: what slices.Insert does with a row of the call's own: cut, grown, copied within.
-/
namespace Go.Proofs.YtickdhjljpnlpaaGreatDoor.A
open Go.RowKit

/-- 's[q:]'. -/
def cutS (s : Nat) : Value → Nat → Value
  | .slice (some a) n c, q => .slice (some (if c = q then a else ⟨a.block, a.off + q * s, none⟩)) (n - q) (c - q)
  | .slice none n c, q => .slice none (n - q) (c - q)
  | v, _ => v
def capV : Value → Nat
  | .slice _ _ c => c
  | _ => 0
/-- A row's cells, as elements. -/
def chunks (s : Nat) : Nat → List Value → List (List Abs)
  | 0, _ => []
  | m + 1, l => (l.take s).map .v :: chunks s m (l.drop s)
theorem chunks_len (s : Nat) : ∀ (m : Nat) (l : List Value), (chunks s m l).length = m
  | 0, _ => rfl
  | m + 1, l => by simp [chunks, chunks_len s m]
theorem reps_vals {K : List Nat} {w : World} : ∀ l : List Value, reps K w (l.map .v) l
  | [] => rfl
  | u :: l => ⟨u, l, rfl, rfl, reps_vals l⟩
theorem repss_chunks {K : List Nat} {w : World} {s : Nat} : ∀ (m : Nat) (l : List Value), l.length = m * s → repss K w s (chunks s m l) l
  | 0, l, h => by
    rw [Nat.zero_mul] at h
    exact List.length_eq_zero_iff.1 h
  | m + 1, l, h => by
    rw [Nat.succ_mul] at h
    exact ⟨l.take s, l.drop s, (List.take_append_drop s l).symm, by rw [List.length_take]; omega, reps_vals _, repss_chunks m _ (by rw [List.length_drop]; omega)⟩
theorem repss_cut {K : List Nat} {w : World} {s : Nat} {xs : List (List Abs)} {us : List Value} (h : repss K w s xs us) (q : Nat) (hq : q ≤ xs.length) : repss K w s (xs.take q) (us.take (q * s)) ∧ repss K w s (xs.drop q) (us.drop (q * s)) := by
  have h1 := h
  rw [← List.take_append_drop q xs] at h1
  obtain ⟨u1, u2, e, h2, h3⟩ := repss_split h1
  have hl := repss_length h2
  rw [List.length_take, Nat.min_eq_left hq] at hl
  subst e
  rw [← hl, List.take_left, List.drop_left]
  exact ⟨h2, h3⟩
theorem repss_ones1 {K : List Nat} {w : World} {s : Nat} : ∀ {ys : List (List Abs)} {news : List Value}, (∀ c ∈ ys, ones c = true) → repss K w s ys news → ∀ u ∈ news, u.oneCell' = true
  | [], news, _, h, u, hu => by
    have : news = [] := h
    subst this
    cases hu
  | c :: ys, _, ho, ⟨u1, u2, h1, _, h3, h4⟩, u, hu => by
    subst h1
    rcases List.mem_append.1 hu with hu | hu
    · exact ones_reps h3 (ho c (by simp)) u hu
    · exact repss_ones1 (fun c hc => ho c (by simp [hc])) h4 u hu
/-- 'copy', whatever the elements' size. -/
theorem run_copy_s {P : Program} (w : World) (dT sT ty elem : TypeId) (g o dLen dCap : Nat) (a : Addr) (sLen sCap : Nat) (cur : Array Value) (t : TypeId) (cs : List Value) {I : TypeInfo}
    (hu : P.underlying dT = some (.slice elem)) (hq : P.info? elem = some I) (hg : w.heap[g]? = some (.cells cur t (0, 0))) (hn : cs.length = Nat.min sLen dLen * I.size)
    (hsrc : ∀ j v, cs[j]? = some v → w.cell? (a.add j) = some v) (hfit : o + cs.length ≤ cur.size) (h1 : ∀ v ∈ cs, v.oneCell' = true) :
    (Builtin.copy_ #[dT, sT] ty #[.slice (some ⟨g, o, none⟩) dLen dCap, .slice (some a) sLen sCap]).run P w = .ok (goInt (Nat.min sLen dLen)) (w.setRow g (cur.toList.take o ++ cs ++ cur.toList.drop (o + cs.length)).toArray) := by
  have hl := run_loadCells_list (P := P) w a cs hsrc
  have hst := run_storeCells_at P g o t cs 0 cur w hg (by simpa using hfit) h1
  simp [Builtin.copy_, run_underlying hu, Builtin.lenOf, Builtin.firstCells, sizeOf, typeInfo, hq, ← hn, hl, hst]
section
variable {P : Program} {n : Nat} {W : Wd} {σ τ : Blks} {l : Slots} {X : List Nat} {x y : Operand} {d : Option Nat} {ty t t' e e' : TypeId} {pos : String} {aft : Array Edge} {g : Option (Nat × Bool)} {v u : Value} {k : IntKind} {tab : List (Nat × TI)} {xs ys : List (List Abs)} {s q : Nat} {ops : Array Oper} {rest : List Oper} {Q : Exit → Act → World → Prop}
theorem own_hold {w : World} {a : Act} (hs : St n W σ l a w) (hb : own e s v xs ∈ σ) : ∃ us, w.ownsRow 0 e s v xs.length us ∧ repss (mids σ ++ W.G) w s xs us := hs.mem.hold _ hb
theorem owns_slice {w : World} {m : Nat} {us : List Value} (h : w.ownsRow 0 e s v m us) : ∃ A c, v = .slice A m c ∧ m ≤ c := by
  rcases h.2 with ⟨rfl, h0⟩ | ⟨gb, cap, cur, rfl, _, _, hn, _⟩
  · exact ⟨none, 0, by rw [h0], by omega⟩
  · exact ⟨_, cap, rfl, hn⟩
/-- 's[q:]' of a row of the call's own, whatever the elements' size. -/
theorem Val.cutLo (hT : TabOk P tab) {j : TI} (hu : P.underlying t = some (.slice e)) (hj : ti tab e = some j) (h1 : Nat.beq j.size s = true) (hx : look l x = some (.v v)) (hb : own e' s v xs ∈ σ) {r : Int} (hy : look l y = some (.v (.int k r))) (hr : r = (q : Nat)) (hq : q ≤ xs.length) :
    Val P n W σ l X ⟨d, .slice t x (some y) none none, ty, pos, aft, g⟩ (.v (cutS s v q)) := fun a w hs _ => by
  subst hr
  have h1 := Nat.eq_of_beq_eq_true h1
  obtain ⟨us, hr1, _⟩ := own_hold hs hb
  rcases hr1.2 with ⟨rfl, h0⟩ | ⟨gb, c, cur, rfl, _, _, hn, _⟩
  · have hq0 : q = 0 := by omega
    subst hq0
    refine ⟨_, rfl, fun w' _ => ?_⟩
    have h7 := (hT _ _ hj).sizeOf (w := w')
    have e1 : a.eval x = .slice none 0 0 := hs.plain hx
    have e2 : a.eval y = .int k ((0 : Nat) : Int) := hs.plain hy
    simp [execOp, Instr.sliceAt, Instr.slice, Instr.sliceBounds, Instr.sliceBound, asIntOf, e1, e2, run_underlying hu, Sem.run_bind, Result.andThen, h7, cutS]
  · refine ⟨_, rfl, fun w' _ => ?_⟩
    have h7 := (hT _ _ hj).sizeOf (w := w')
    have e1 : a.eval x = .slice (some ⟨gb, 0, none⟩) xs.length c := hs.plain hx
    have e2 : a.eval y = .int k ((q : Nat) : Int) := hs.plain hy
    by_cases hc : c = q <;> simp [execOp, Instr.sliceAt, Instr.slice, Instr.sliceBounds, Instr.sliceBound, asIntOf, e1, e2, run_underlying hu, Sem.run_bind, Result.andThen, h7, h1, hq, hc, Addr.add, cutS]
    try omega
/-- 's[:q]', beyond its length too, as far as its capacity goes. -/
theorem Val.cutUp (hT : TabOk P tab) {j : TI} (hu : P.underlying t = some (.slice e)) (hj : ti tab e = some j) (hx : look l x = some (.v v)) (hb : own e' s v xs ∈ σ) {r : Int} (hy : look l y = some (.v (.int k r))) (hr : r = (q : Nat)) (hq : q ≤ capV v) :
    Val P n W σ l X ⟨d, .slice t x none (some y) none, ty, pos, aft, g⟩ (.v (cutTo v q)) := fun a w hs _ => by
  subst hr
  obtain ⟨us, hr1, _⟩ := own_hold hs hb
  obtain ⟨A', c, rfl, _⟩ := owns_slice hr1
  refine ⟨_, rfl, fun w' _ => ?_⟩
  have h7 := (hT _ _ hj).sizeOf (w := w')
  have e1 : a.eval x = .slice A' xs.length c := hs.plain hx
  have e2 : a.eval y = .int k ((q : Nat) : Int) := hs.plain hy
  have hq' : q ≤ c := hq
  have h8 : ∀ a : Addr, a.spot = none → a.add 0 = a := fun a ha => by obtain ⟨b, o, r⟩ := a; cases ha; rfl
  rcases Nat.eq_zero_or_pos c with hc | hc
  · subst hc
    obtain rfl : q = 0 := by omega
    cases A' <;> simp [execOp, Instr.sliceAt, Instr.slice, Instr.sliceBounds, Instr.sliceBound, asIntOf, e1, e2, run_underlying hu, Sem.run_bind, Result.andThen, h7, cutTo]
  · have hc : ¬ c = 0 := by omega
    cases A' with
    | none => simp [execOp, Instr.sliceAt, Instr.slice, Instr.sliceBounds, Instr.sliceBound, asIntOf, e1, e2, run_underlying hu, Sem.run_bind, Result.andThen, h7, hq', cutTo, hc]
    | some A =>
      have hA : A.spot = none := by
        rcases hr1.2 with ⟨h, _⟩ | ⟨gb, cap, cur, h, _⟩
        · cases h
        · cases h; rfl
      simp [execOp, Instr.sliceAt, Instr.slice, Instr.sliceBounds, Instr.sliceBound, asIntOf, e1, e2, run_underlying hu, Sem.run_bind, Result.andThen, h7, hq', cutTo, hc, h8 A hA]
theorem Val.capOwn (hx : look l x = some (.v v)) (hb : own e' s v xs ∈ σ) (ht : P.underlying t = some (.slice e)) : Val P n W σ l X ⟨d, .call { callee := .builtin .cap, args := #[x], argTypes := #[t] }, ty, pos, aft, g⟩ (.v (.int .i64 (capV v : Nat))) := fun a w hs _ => by
  obtain ⟨us, hr1, _⟩ := own_hold hs hb
  obtain ⟨A', c, rfl, _⟩ := owns_slice hr1
  refine ⟨_, rfl, fun w' _ => ?_⟩
  have e1 : a.eval x = .slice A' xs.length c := hs.plain hx
  simp [execOp, resolve, invoke, builtin, Builtin.cap_, e1, run_underlying ht, Sem.run_bind, Result.andThen, goInt, capV]
/-- A row of the call's own, longer: what lies behind it belongs to it. -/
theorem St.growOwn {a : Act} {w : World} (h : St n W σ l a w) (hb : own e s v xs ∈ σ) (hq : xs.length ≤ q) (hc : q ≤ capV v) : ∃ js : List (List Abs), js.length + xs.length = q ∧ ∀ τ, Upd (own e s v xs) (own e s (cutTo v q) (xs ++ js)) σ τ → St n W τ l a w := by
  obtain ⟨us, hown, hr⟩ := own_hold h hb
  rcases hown.2 with ⟨rfl, h0⟩ | ⟨gb, cap, cur, rfl, hbase, hg, hn, hcap, hsz, htk⟩
  · have hq0 : q = 0 := by simp only [capV] at hc; omega
    refine ⟨[], by simp; omega, fun τ hu => ?_⟩
    have hx0 : xs = [] := List.length_eq_zero_iff.1 h0
    subst hx0 hq0
    have := upd_self (x := own e s (.slice none 0 0) []) hu
    rw [this]
    exact h
  · simp only [capV] at hc
    have hle : q * s ≤ cap * s := Nat.mul_le_mul_right _ hc
    have hle2 : xs.length * s ≤ q * s := Nat.mul_le_mul_right _ hq
    have hjl : ((cur.toList.take (q * s)).drop (xs.length * s)).length = (q - xs.length) * s := by
      rw [List.length_drop, List.length_take, Nat.min_eq_left (by simp; omega), Nat.sub_mul]
    refine ⟨chunks s (q - xs.length) ((cur.toList.take (q * s)).drop (xs.length * s)), by rw [chunks_len]; omega, fun τ hu => ?_⟩
    have hl : (xs ++ chunks s (q - xs.length) ((cur.toList.take (q * s)).drop (xs.length * s))).length = q := by rw [List.length_append, chunks_len]; omega
    have hm := h.mem.upd hu (Ext.refl w) own_nodup (fun k hk => .inl (by simpa [It.mids, ownPc, cutTo_block] using hk)) rfl fun hca => by
      refine ⟨cur.toList.take (q * s), ⟨?_, .inr ⟨gb, cap, cur, ?_, hbase, hg, by rw [hl]; exact hc, hcap, hsz, by rw [hl]⟩⟩, ?_⟩
      · rw [hl, List.length_take, Nat.min_eq_left (by simp; omega)]
      · rw [hl]; rfl
      · have e1 : cur.toList.take (q * s) = us ++ (cur.toList.take (q * s)).drop (xs.length * s) := by
          rw [← htk]
          have := List.take_append_drop (xs.length * s) (cur.toList.take (q * s))
          rw [List.take_take, Nat.min_eq_left hle2] at this
          exact this.symm
        rw [e1]
        refine repss_append (repss_carry hca _ _ _ hr) ?_
        rw [← e1]
        exact repss_chunks _ _ hjl
    exact h.to hm.1 hm.2
theorem SL.growOwn (hb : own e s v xs ∈ σ) (hq : xs.length ≤ q) (hc : q ≤ capV v) (k : ∀ (js : List (List Abs)), js.length + xs.length = q → ∃ τ, Upd (own e s v xs) (own e s (cutTo v q) (xs ++ js)) σ τ ∧ SL P ops rest (St n W τ l) Q) : SL P ops rest (St n W σ l) Q := fun a w h => by
  obtain ⟨js, h1, h2⟩ := h.growOwn hb hq hc
  obtain ⟨τ, h3, h4⟩ := k js h1
  exact h4 a w (h2 τ h3)
theorem SC.growOwn {c : Code} (hb : own e s v xs ∈ σ) (hq : xs.length ≤ q) (hc : q ≤ capV v) (k : ∀ (js : List (List Abs)), js.length + xs.length = q → ∃ τ, Upd (own e s v xs) (own e s (cutTo v q) (xs ++ js)) σ τ ∧ SC P c (St n W τ l) Q) : SC P c (St n W σ l) Q := fun a w h => by
  obtain ⟨js, h1, h2⟩ := h.growOwn hb hq hc
  obtain ⟨τ, h3, h4⟩ := k js h1
  exact h4 a w (h2 τ h3)
/-- slices.overlaps of two rows of the call's own: they lie apart. -/
theorem Val.overlapsOff {f : FuncId} {fn : Func} {ats : Array TypeId} {tr : TypeId} {α β : Blks} (hf : P.funcs[f]? = some fn) (h1 : (fn.name == "runtime.NumGoroutine") = false) (h2 : fn.body.isNone = true) (h3 : Extern.findNext fn = none) (h4 : Extern.find fn = some (Extern.SlicesOverlaps.overlaps #[t, t] #[tr]))
    (hT : TabOk P tab) {j : TI} (hu : P.underlying t = some (.slice e)) (hj : ti tab e = some j) (hsz : Nat.beq j.size s = true) (hpos : Nat.blt 0 s = true)
    (hx : look l x = some (.v u)) (hy : look l y = some (.v (cutS s v q))) (hσ : σ = α ++ own e s v xs :: β) (hb : own e s u ys ∈ α ++ β) (hys : 0 < ys.length) (hq : q < xs.length) :
    Val P n W σ l [] ⟨d, .call { callee := .value (.func f), args := #[x, y], argTypes := ats }, ty, pos, aft, g⟩ (.v (.bool false)) := fun a w hs _ => by
  have hsz := Nat.eq_of_beq_eq_true hsz
  have hpos : 0 < s := by simpa [Nat.blt_eq] using hpos
  have hbv : own e s v xs ∈ σ := by rw [hσ]; simp
  have hbu : own e s u ys ∈ σ := by
    rw [hσ]
    rcases List.mem_append.1 hb with h | h
    · simp [h]
    · simp [h]
  obtain ⟨us, hv, _⟩ := own_hold hs hbv
  obtain ⟨us2, hu2, _⟩ := own_hold hs hbu
  rcases hv.2 with ⟨_, h0⟩ | ⟨gb, cap, cur, rfl, _, hg, hn, _, hcs, _⟩
  · omega
  rcases hu2.2 with ⟨_, h0⟩ | ⟨gb2, cap2, cur2, rfl, _, hg2, hn2, _, hcs2, _⟩
  · omega
  have hne : gb2 ≠ gb := fun he => by
    have hnd := hs.mem.nodup
    rw [hσ, mids_append, mids_cons, List.nodup_append, List.nodup_append] at hnd
    subst he
    have hk : gb2 ∈ (own e s (.slice (some ⟨gb2, 0, none⟩) xs.length cap) xs).mids := by simp [It.mids, ownPc, Value.ownBlock]
    have hk2 : gb2 ∈ (own e s (.slice (some ⟨gb2, 0, none⟩) ys.length cap2) ys).mids := by simp [It.mids, ownPc, Value.ownBlock]
    rcases List.mem_append.1 hb with h | h
    · exact hnd.2.2 gb2 (mids_mem.2 ⟨_, h, hk2⟩) gb2 (List.mem_append_left _ hk) rfl
    · exact hnd.2.1.2.2 gb2 hk gb2 (mids_mem.2 ⟨_, h, hk2⟩) rfl
  refine ⟨_, rfl, fun w' hw' => ?_⟩
  have hg' : w'.heap[gb]? = some (.cells cur e (0, 0)) := (hw'.block gb (heap_lt hg) (by simp)).trans hg
  have hg2' : w'.heap[gb2]? = some (.cells cur2 e (0, 0)) := (hw'.block gb2 (heap_lt hg2) (by simp)).trans hg2
  have hcq : ¬ cap = q := by omega
  have e1 : a.eval x = .slice (some ⟨gb2, 0, none⟩) ys.length cap2 := hs.plain hx
  have e2 : a.eval y = .slice (some ⟨gb, 0 + q * s, none⟩) (xs.length - q) (cap - q) := by
    have := hs.plain hy
    simp only [cutS, hcq, if_false] at this
    exact this
  have hpos2 : 0 < cur.size := by
    rw [hcs]
    exact Nat.mul_pos (by omega) hpos
  have hrun := Lib.run_overlaps_apart (P := P) w' t tr e hu j.size (fun w => (hT _ _ hj).sizeOf (w := w)) ⟨gb2, 0, none⟩ ⟨gb, 0 + q * s, none⟩ ys.length cap2 (xs.length - q) (cap - q) hne e e cur2.size cur.size
    (by simp [World.shape?, hg2']) (by simp [World.shape?, hg']) (by omega) (by simp [World.frozen?, hg2']) (by simp [World.frozen?, hg2'])
  have hcf := run_callFunc_extern hf h1 h2 h3 h4 #[a.eval x, a.eval y] w'
  rw [e1, e2, hrun] at hcf
  have hfn : a.eval (.func f) = .func (.func f) #[] #[] := rfl
  simp only [Result.andThen, Nat.zero_add] at hcf
  simp [execOp, resolve, hfn, Deferred.ofValue, invoke, e1, e2, hcf, Sem.run_bind, Result.andThen]
/-- What 'copy' reads: a row's first elements. -/
def Src (n : Nat) (W : Wd) (σ : Blks) (l : Slots) (y : Operand) (s m : Nat) (ys : List (List Abs)) : Prop := ∀ a w, St n W σ l a w → ∃ A M c news, a.eval y = .slice (some A) M c ∧ min M m = ys.length ∧ repss (mids σ ++ W.G) w s ys news ∧ ∀ j u, news[j]? = some u → w.cell? (A.add j) = some u
theorem Src.ofOwn {m : Nat} (hy : look l y = some (.v (cutS s v q))) (hb : own e s v xs ∈ σ) (hq : q < xs.length) (hm : min (xs.length - q) m = ys.length) (he : (xs.drop q).take ys.length = ys) : Src n W σ l y s m ys := fun a w hs => by
  obtain ⟨us, hv, hr⟩ := own_hold hs hb
  rcases hv.2 with ⟨_, h0⟩ | ⟨gb, cap, cur, rfl, _, hg, hn, _, hcs, htk⟩
  · omega
  have hcq : ¬ cap = q := by omega
  have e2 : a.eval y = .slice (some ⟨gb, 0 + q * s, none⟩) (xs.length - q) (cap - q) := by
    have := hs.plain hy
    simp only [cutS, hcq, if_false] at this
    exact this
  have hr2 := (repss_cut (repss_cut hr q (by omega)).2 ys.length (by rw [List.length_drop, ← hm]; exact Nat.min_le_left _ _)).1
  rw [he] at hr2
  refine ⟨_, _, _, _, e2, hm, hr2, fun j u hj => ?_⟩
  rw [List.getElem?_take] at hj
  split at hj
  · rw [List.getElem?_drop] at hj
    rw [Addr.add_none, ← htk, List.getElem?_take] at *
    split at hj
    · simp only [World.cell?, hg]
      simpa [Nat.zero_add] using hj
    · cases hj
  · cases hj
theorem Src.ofAll {m : Nat} (hy : look l y = some (.v v)) (hb : own e s v xs ∈ σ) (hq : 0 < xs.length) (hm : min xs.length m = xs.length) : Src n W σ l y s m xs := fun a w hs => by
  obtain ⟨us, hv, hr⟩ := own_hold hs hb
  rcases hv.2 with ⟨_, h0⟩ | ⟨gb, cap, cur, rfl, _, hg, hn, _, hcs, htk⟩
  · omega
  refine ⟨_, _, _, _, hs.plain hy, hm, hr, fun j u hj => ?_⟩
  rw [Addr.add_none, ← htk, List.getElem?_take] at *
  split at hj
  · simp only [World.cell?, hg]
    simpa using hj
  · cases hj
/-- 'copy(s[q:], ..)' into a row of the call's own. -/
theorem Eff.copyRow (hT : TabOk P tab) {j : TI} {zs : List (List Abs)} (hu : P.underlying t = some (.slice e)) (hj : ti tab e = some j) (hsz : Nat.beq j.size s = true) (hx : look l x = some (.v (cutS s v q))) (hq : q < xs.length) (hsrc : Src n W σ l y s (xs.length - q) ys) (h1 : ∀ c ∈ ys, ones c = true) (hz : xs.take q ++ ys ++ xs.drop (q + ys.length) = zs) (hup : Upd (own e s v xs) (own e s v zs) σ τ) :
    Eff P n W σ l v.ownBlock.toList ⟨d, .call { callee := .builtin .copy, args := #[x, y], argTypes := #[t, t'] }, ty, pos, aft, g⟩ fun r τ' => r = .v (.int .i64 (ys.length : Nat)) ∧ τ' = τ := fun a w hs => by
  have hsz := Nat.eq_of_beq_eq_true hsz
  obtain ⟨us, hown, hr⟩ := own_hold hs hup.mem
  obtain ⟨A, M, c, news, e2, hm, hr2, hc2⟩ := hsrc a w hs
  have hm : Nat.min M (xs.length - q) = ys.length := hm
  have hlen2 := repss_length hr2
  have hone := repss_ones1 h1 hr2
  have hfit : q + ys.length ≤ xs.length := by
    have : Nat.min M (xs.length - q) ≤ xs.length - q := Nat.min_le_right _ _
    omega
  obtain ⟨I, hI, hIs, _⟩ := (hT e j hj).info
  rcases hown.2 with ⟨_, h0⟩ | ⟨gb, cap, cur, rfl, hbase, hg, hn, hcap, hcs, htk⟩
  · omega
  have hcq : ¬ cap = q := by omega
  have e1 : a.eval x = .slice (some ⟨gb, 0 + q * s, none⟩) (xs.length - q) (cap - q) := by
    have := hs.plain hx
    simp only [cutS, hcq, if_false] at this
    exact this
  have hb1 : q * s + ys.length * s ≤ xs.length * s := by rw [← Nat.add_mul]; exact Nat.mul_le_mul_right _ hfit
  have hb2 : xs.length * s ≤ cap * s := Nat.mul_le_mul_right _ hn
  have hrun := run_copy_s (P := P) w t t' ty e gb (0 + q * s) (xs.length - q) (cap - q) A M c cur e news hu hI hg (by rw [hm, hIs, hsz, hlen2]) hc2 (by omega) hone
  rw [hm] at hrun
  have hxx : Ext (Value.ownBlock (.slice (some ⟨gb, 0, none⟩) xs.length cap)).toList w (w.setRow gb (cur.toList.take (0 + q * s) ++ news ++ cur.toList.drop (0 + q * s + news.length)).toArray) := (Ext.refl w).setRow (.inl (by simp [Value.ownBlock])) _
  have hzl : zs.length = xs.length := by
    rw [← hz]
    simp only [List.length_append, List.length_take, List.length_drop]
    omega
  have hnew : (cur.toList.take (0 + q * s) ++ news ++ cur.toList.drop (0 + q * s + news.length)).take (xs.length * s) = us.take (q * s) ++ news ++ us.drop ((q + ys.length) * s) := by
    have hcl : cur.toList.length = cap * s := by simp [hcs]
    rw [← htk, Nat.zero_add, Nat.add_mul]
    rw [← hlen2] at hb1 ⊢
    generalize q * s = q' at *
    generalize xs.length * s = n' at *
    generalize cap * s = c' at *
    apply List.ext_getElem?
    intro j
    simp only [List.getElem?_take, List.getElem?_append, List.length_append, List.length_take, List.getElem?_drop]
    grind
  have hm2 := hs.mem.upd hup hxx own_nodup (fun k hk => .inl (by simpa [It.mids, ownPc, Value.ownBlock] using hk)) rfl fun hca => by
    refine ⟨us.take (q * s) ++ news ++ us.drop ((q + ys.length) * s), ⟨?_, .inr ⟨gb, cap, _, by rw [hzl], hbase, setRow_heap w gb cur _ e (0, 0) hg, by rw [hzl]; exact hn, hcap, ?_, ?_⟩⟩, ?_⟩
    · rw [hzl, ← hnew, List.length_take]
      simp only [List.length_append, List.length_take, List.length_drop, Array.length_toList]
      omega
    · simp only [List.size_toArray, List.length_append, List.length_take, List.length_drop, Array.length_toList]
      omega
    · rw [hzl]
      simpa using hnew
    · rw [← hz]
      refine repss_append (repss_append ?_ (repss_carry hca _ _ _ hr2)) ?_
      · exact repss_carry hca _ _ _ (repss_cut hr q (by omega)).1
      · exact repss_carry hca _ _ _ (repss_cut hr (q + ys.length) (by omega)).2
  refine ⟨_, _, _, _, ⟨rfl, rfl⟩, hxx, rfl, hm2.1, hm2.2, .inl ?_⟩
  simp only [Nat.zero_add, List.append_assoc] at hrun e1 ⊢
  simp [execOp, resolve, invoke, builtin, e1, e2, hrun, Result.andThen, goInt]
/-- 'append(s[:q], make(S, m)...)' where there is no room: a new row. -/
theorem Eff.appendZeros (hT : TabOk P tab) {j : TI} {m : Nat} {r : Int} {tn : TypeId} {kn : IntKind} (hu : P.underlying t = some (.slice e)) (htn : P.underlying tn = some (.int kn)) (hj : ti tab e = some j) (hsz : Nat.beq j.size s = true) (hpos : Nat.blt 0 s = true) (hx : look l x = some (.v (cutTo v q))) (hb : own e s v xs ∈ σ) (hy : look l y = some (.v (.int k r))) (hr : r = (m : Nat)) (hq : q < xs.length) (hm : 0 < m) (hroom : capV v < q + m) (hml : q + m ≤ maxLen) (hby : (q + m) * P.bytesOf e ≤ 140737488355328) :
    Eff P n W σ l [] ⟨d, .call { callee := .builtin .append, args := #[x, y], argTypes := #[t, tn] }, ty, pos, aft, g⟩ fun u τ => ∃ v' js, u = .v v' ∧ js.length = m ∧ τ = own e s v' (xs.take q ++ js) :: σ := fun a w hs => by
  subst hr
  have hsz := Nat.eq_of_beq_eq_true hsz
  have hpos : 0 < s := by simpa [Nat.blt_eq] using hpos
  obtain ⟨us, hown, hr⟩ := own_hold hs hb
  obtain ⟨I, hI, hIs, z, hz, hzc⟩ := (hT e j hj).info
  have hzl := (hT e j hj).len
  have hbi := bytes_of hI
  rcases hown.2 with ⟨_, h0⟩ | ⟨gb, cap, cur, rfl, hbase, hg, hn, hcap, hcs, htk⟩
  · omega
  simp only [capV] at hroom
  have hqs : q * s ≤ xs.length * s := Nat.mul_le_mul_right _ (by omega)
  have hnc : xs.length * s ≤ cap * s := Nat.mul_le_mul_right _ hn
  have hul := hown.1
  have hold : (Builtin.firstCells I.size q (.slice (some ⟨gb, 0, none⟩) q cap)).run P w.drew = .ok (us.take (q * s)).toArray w.drew := by
    rw [hIs, hsz]
    refine run_firstCells_some (P := P) w.drew s q ⟨gb, 0, none⟩ q cap (us.take (q * s)) (by rw [List.length_take]; omega) fun i u hi => ?_
    rw [List.getElem?_take] at hi
    split at hi
    · rw [Addr.add_none]
      rw [← htk, List.getElem?_take] at hi
      split at hi
      · show w.cell? _ = _
        simp only [World.cell?, hg]
        simpa using hi
      · cases hi
    · cases hi
  have hrun := Lib.run_append_grow_zeros (P := P) w t tn ty e I z k kn hu htn hI hz (some ⟨gb, 0, none⟩) q cap (us.take (q * s)) hold m hm (by rw [hIs, hsz]; exact hpos) hroom (by unfold maxLen at hml; omega)
    (by rw [← hbi]; have : m * P.bytesOf e ≤ (q + m) * P.bytesOf e := Nat.mul_le_mul_right _ (by omega); omega) (growslice_fits hroom (by rw [← hbi]; exact hby))
  obtain ⟨G, hG⟩ : ∃ G, grownCap w (q + m) cap e = G := ⟨_, rfl⟩
  have hG1 : q + m ≤ G := hG ▸ grownCap_ge w _ _ _
  have hG2 : G ≤ maxLen := hG ▸ grownCap_le_maxLen w _ _ _ hml
  rw [hG] at hrun
  obtain ⟨ROW, hROW⟩ : ∃ ROW, (us.take (q * s)).toArray ++ Builtin.zeroCells z.cells m ++ Builtin.zeroCells z.cells (G - (q + m)) = ROW := ⟨_, rfl⟩
  rw [hROW] at hrun
  have hzs : z.cells.size = s := by rw [hzc, List.size_toArray, hzl, hsz]
  have hz1 : ∀ m, (Builtin.zeroCells z.cells m).size = m * s := fun m => by simp [Builtin.zeroCells, hzs]
  have hz2 : ∀ m, (Builtin.zeroCells z.cells m).toList.length = m * s := fun m => by rw [Array.length_toList, hz1]
  obtain ⟨js, hjs⟩ : ∃ js, chunks s m (Builtin.zeroCells z.cells m).toList = js := ⟨_, rfl⟩
  have hjl : js.length = m := by rw [← hjs, chunks_len]
  have hx0 : Ext [] w (w.drew.alloc (.cells ROW e)) := ((Ext.refl w).drew).alloc _
  have hrs : ROW.size = G * s := by
    rw [← hROW]
    simp only [Array.size_append, hz1, List.size_toArray, List.length_take]
    rw [Nat.min_eq_left (by omega), ← Nat.add_mul, ← Nat.add_mul]
    congr 1
    omega
  have hlen : (xs.take q ++ js).length = q + m := by
    rw [List.length_append, List.length_take, hjl]
    omega
  have hm2 := hs.mem.new (y := own e s (.slice (some ⟨w.heap.size, 0, none⟩) (q + m) G) (xs.take q ++ js)) hx0 own_nodup (by simp [It.mids, ownPc, Value.ownBlock]) rfl fun hca => by
    refine ⟨us.take (q * s) ++ (Builtin.zeroCells z.cells m).toList, ⟨?_, .inr ⟨w.heap.size, G, ROW, by rw [hlen], by omega, ?_, by rw [hlen]; exact hG1, hG2, hrs, ?_⟩⟩, repss_append (repss_carry hca _ _ _ (repss_cut hr q (by omega)).1) (hjs ▸ repss_chunks m _ (by rw [Array.length_toList, hz1]))⟩
    · rw [hlen, List.length_append, List.length_take, hz2, Nat.add_mul]
      omega
    · exact heap_alloc_new w.drew _
    · rw [hlen, ← hROW]
      simp only [Array.toList_append, List.append_assoc]
      rw [← List.append_assoc, List.take_append_of_le_length (by rw [List.length_append, List.length_take, hz2, Nat.add_mul]; omega), List.take_of_length_le (by rw [List.length_append, List.length_take, hz2, Nat.add_mul]; omega)]
  refine ⟨_, _, _, _, ⟨_, js, rfl, hjl, rfl⟩, hx0, rfl, hm2.1, hm2.2, .inl ?_⟩
  have e1 : a.eval x = .slice (some ⟨gb, 0, none⟩) q cap := hs.plain hx
  have e2 : a.eval y = .int k ((m : Nat) : Int) := hs.plain hy
  simp [execOp, resolve, invoke, builtin, e1, e2, hrun, Result.andThen]
end
theorem Casts.of_eq {xs ys : List Abs} (h : xs = ys) : Casts xs ys := h ▸ Casts.refl
section
variable {xs js : List (List Abs)} {y : List Abs} {i : Nat}
theorem ins_a (hi : i < xs.length) (hj : js.length = xs.length + 1 - i) : (xs.take i ++ js).take i ++ [y] ++ (xs.take i ++ js).drop (i + [y].length) = xs.take i ++ y :: js.drop 1 := by
  rw [List.take_append_of_le_length (by rw [List.length_take]; omega), List.take_take, Nat.min_self, List.drop_append, List.drop_of_length_le (by rw [List.length_take]; simp; omega), List.length_take, Nat.min_eq_left (by omega)]
  simp
theorem ins_b (hi : i < xs.length) (hj : js.length = xs.length + 1 - i) : (xs.take i ++ y :: js.drop 1).take (i + 1) ++ xs.drop i ++ (xs.take i ++ y :: js.drop 1).drop (i + 1 + (xs.drop i).length) = xs.take i ++ y :: xs.drop i := by
  have h1 : (xs.take i ++ y :: js.drop 1).drop (i + 1 + (xs.drop i).length) = [] := List.drop_of_length_le (by simp; omega)
  rw [h1, List.append_nil, List.take_append, List.length_take, Nat.min_eq_left (by omega), List.take_take, Nat.min_eq_right (by omega), Nat.add_sub_cancel_left, List.append_assoc]
  rfl
theorem ins_c (hi : i < xs.length) (hj : js.length + xs.length = xs.length + 1) : (xs ++ js).take (i + 1) ++ xs.drop i ++ (xs ++ js).drop (i + 1 + (xs.drop i).length) = (xs ++ js).take (i + 1) ++ xs.drop i := by
  have h1 : (xs ++ js).drop (i + 1 + (xs.drop i).length) = [] := List.drop_of_length_le (by simp; omega)
  rw [h1, List.append_nil]
theorem ins_d (hi : i < xs.length) (hj : js.length + xs.length = xs.length + 1) : ((xs ++ js).take (i + 1) ++ xs.drop i).take i ++ [y] ++ ((xs ++ js).take (i + 1) ++ xs.drop i).drop (i + [y].length) = xs.take i ++ y :: xs.drop i := by
  have h1 : ((xs ++ js).take (i + 1)).length = i + 1 := by rw [List.length_take, List.length_append]; omega
  rw [List.take_append_of_le_length (by omega), List.take_take, Nat.min_eq_left (by omega), List.take_append_of_le_length (by omega), List.drop_append, List.drop_of_length_le (by simp; omega), h1]
  simp
theorem ins_len (hi : i < xs.length) (hj : js.length + xs.length = xs.length + 1) : ((xs ++ js).take (i + 1) ++ xs.drop i).length = xs.length + 1 := by
  simp only [List.length_append, List.length_take, List.length_drop]
  omega
theorem ins_src (hi : i < xs.length) : ((xs ++ js).drop i).take (xs.drop i).length = xs.drop i := by
  rw [List.drop_append_of_le_length (by omega), List.take_left]
theorem ins_all (hi : i = xs.length) : xs ++ [y] = xs.take i ++ y :: xs.drop i := by
  subst hi
  simp
theorem ins_ones (h1 : ∀ c ∈ xs, ones c = true) (q : Nat) : ∀ c ∈ xs.drop q, ones c = true := fun c hc => h1 c (List.mem_of_mem_drop hc)
end
end Go.Proofs.YtickdhjljpnlpaaGreatDoor.A
/-
  The second engine: 'make([]T, n)' as a row of one's own; texts in order.
-/
namespace Go.Proofs.YtickdhjljpnlpaaGreatDoor.A
open Go.RowKit

section
variable {P : Program} {n : Nat} {W : Wd} {σ τ : Blks} {l : Slots} {X : List Nat} {x y : Operand} {d : Option Nat} {ty t e : TypeId} {pos : String} {aft : Array Edge} {g : Option (Nat × Bool)} {tab : List (Nat × TI)} {k k' : IntKind} {r : Int} {m : Nat} {z : Value}
theorem Eff.makeOwn (hT : TabOk P tab) {j : TI} (hu : P.underlying t = some (.slice e)) (hj : ti tab e = some j) (hsz : Nat.beq j.size 1 = true) (hz : j.zero = [z]) (hx : look l x = some (.v (.int k r))) (hy : look l y = some (.v (.int k' r))) (hr : r = (m : Nat)) (hm : m ≤ maxLen) (hby : P.bytesOf e * m ≤ 281474976710656) :
    Eff P n W σ l [] ⟨d, .makeSlice t x y, ty, pos, aft, g⟩ fun u τ => ∃ v, u = .v v ∧ τ = own e 1 v (List.replicate m [.v z]) :: σ := fun a w hs => by
  subst hr
  have hsz := Nat.eq_of_beq_eq_true hsz
  obtain ⟨I, hI, hIs, zv, hzv, hzc⟩ := (hT e j hj).info
  have hbi := bytes_of hI
  obtain ⟨w', hrun, h1, h2⟩ := run_make_full (P := P) w 0 t e I zv 1 hu hI hzv (by rw [hIs, hsz]) k k' m (by rw [← hbi]; exact hby) hm (Nat.zero_le _)
  have hxx : Ext [] w w' := ext_grown h2 (by simp)
  have hcs : (madeCells zv.cells (m * 1)).toList = List.replicate m z := by
    rw [hzc, hz, Nat.mul_one]
    apply List.ext_getElem
    · simp [size_madeCells]
    · intro i h3 h4
      simp [madeCells, Nat.mod_one]
  rw [hcs] at h1
  have hnew := hs.mem.new (y := own e 1 (.slice (some ⟨w.heap.size, 0, none⟩) m m) (List.replicate m [.v z])) hxx own_nodup (by simp [It.mids, ownPc, Value.ownBlock]) rfl fun hc => ⟨List.replicate m z, by rw [List.length_replicate]; exact h1, repss_rep m⟩
  refine ⟨_, w', _, _, ⟨_, rfl, rfl⟩, hxx, rfl, hnew.1, hnew.2, .inl ?_⟩
  simp [execOp, hs.plain hx, hs.plain hy, hrun, Result.andThen]
end
end Go.Proofs.YtickdhjljpnlpaaGreatDoor.A
/-
  Ledgers, plain: '==' on letters and outcomes; what may be.
-/
namespace Go.Proofs.YtickdhjljpnlpaaGreatDoor.A
open Go.RowKit

section
variable {P : Program} {n : Nat} {W : Wd} {σ : Blks} {l : Slots} {X : List Nat} {x y : Operand} {d : Option Nat} {ty t t' : TypeId} {pos : String} {aft : Array Edge} {g : Option (Nat × Bool)} {s r : ByteArray}
end
theorem wfI {a : Int} (h : i64ok a) : (Lit.int .i64 a).wf = true := by
  obtain ⟨h0, h1⟩ := h
  simp [Lit.wf, IntKind.min, IntKind.max, IntKind.signed, IntKind.bits]; omega
/-! ### Letters -/
/-- A letter as it comes in. -/
structure LtIns (x : Ltr) : Prop extends x.Wf where
  name : x.name.size ≤ maxLen
  policy : x.policy.size ≤ maxLen
  papers : x.papers.size ≤ maxLen
noncomputable instance : DecidableEq Ltr := fun _ _ => Classical.propDecidable _
noncomputable instance : DecidableEq Oc := fun _ _ => Classical.propDecidable _
noncomputable instance : DecidableEq Lg := fun _ _ => Classical.propDecidable _
structure OcIns (o : Oc) : Prop where
  client : i64ok o.client
  stamp : i64ok o.stamp
  result : i64ok o.result
def ocCells (o : Oc) : List Value := [.int .i64 o.client, .int .i64 o.stamp, .int .i64 o.result]
def ocLits (o : Oc) : List Lit := [.int .i64 o.client, .int .i64 o.stamp, .int .i64 o.result]
theorem oc_lits {o : Oc} (h : OcIns o) : Tryz.prog.keyLits 4 40 (ocCells o) = some (ocLits o) := by
  have h1 := wfI h.client
  have h2 := wfI h.stamp
  have h3 := wfI h.result
  have c2 : Tryz.prog.cellsOf 40 = 3 := by kernel_rfl
  have c4 : Tryz.prog.cellsOf 3 = 1 := by kernel_rfl
  have c5 : Tryz.prog.cellsOf 2 = 1 := by kernel_rfl
  have c6 : Tryz.prog.cellsOf 35 = 1 := by kernel_rfl
  simp [Program.keyLits, Tryz.underlying40, Tryz.underlying3, Tryz.underlying2, Tryz.underlying35, c2, c4, c5, c6, ocCells, ocLits, h1, h2, h3]
theorem oc_formed (o : Oc) : (Value.agg (ocCells o).toArray).formed Tryz.prog 40 = true := by kernel_rfl
theorem ocLits_inj {x y : Oc} (h : ocLits x = ocLits y) : x = y := by
  simp only [ocLits, List.cons.injEq, Lit.int.injEq, true_and, and_true] at h
  obtain ⟨h1, h2, h3⟩ := h
  obtain ⟨a1, a2, a3⟩ := x
  obtain ⟨b1, b2, b3⟩ := y
  simp only [Oc.mk.injEq]
  exact ⟨h1, h2, h3⟩
theorem neqOc {x y : Oc} (hx : OcIns x) (hy : OcIns y) (w : World) : (binOp .neq 40 (.agg (ocCells x).toArray) (.agg (ocCells y).toArray)).run Tryz.prog w = .ok (.bool (decide (x ≠ y))) w :=
  run_neq_lits (m := 10) (by decide) (by kernel_rfl) (oc_formed x) (oc_formed y) (by simpa using oc_lits hx) (by simpa using oc_lits hy) _ (by
    rw [decide_eq_true_eq]
    exact ⟨fun h h2 => h (ocLits_inj h2), fun h h2 => h (by rw [h2])⟩) w
theorem oc_plains (o : Oc) : plains o.abs = some (ocCells o) := rfl
/-! ### Ledgers as they come in -/
structure Lg.Ins (l : Lg) : Prop where
  seq : i64ok l.seq
  total : i64ok l.total
  ls : ∀ x ∈ l.ls, LtIns x
  os : ∀ o ∈ l.os, OcIns o
theorem Lg.Ins.wf {l : Lg} (h : l.Ins) : l.Wf := ⟨h.seq, h.total, fun x hx => (h.ls x hx).toWf⟩
structure EnIns (e : Ent) : Prop where
  client : i64ok e.core.client
  stamp : i64ok e.core.stamp
  op : i64ok e.core.op
  a : i64ok e.core.a
  b : i64ok e.core.b
  letter : e.core.letter.size ≤ maxLen
  text : e.core.text.size ≤ maxLen
  mask : e.mask < 4294967296
theorem none_ins : LtIns Ltr.none := ⟨none_wf, Nat.zero_le _, Nat.zero_le _, Nat.zero_le _⟩
theorem Lg.zero_ins : Lg.zero.Ins := ⟨by show i64ok 0; unfold i64ok; omega, by show i64ok 0; unfold i64ok; omega, fun x hx => (by cases hx), fun x hx => (by cases hx)⟩
section
variable {l : Lg} {x : Ltr} {e : Ent} {c : Core} {n : Int} {op a b : Int} {t : ByteArray}
theorem does_ins (h : LtIns x) (ht : t.size ≤ maxLen) : LtIns (x.does op a b t).1 := by
  refine ⟨does_wf h.toWf, ?_, ?_, ?_⟩
  all_goals
    unfold Ltr.does Ltr.apply Ltr.amend
    repeat' split
    all_goals first | exact h.name | exact h.policy | exact h.papers | exact ht | exact Nat.zero_le _
theorem step_ins (h : LtIns x) (ht : t.size ≤ maxLen) : LtIns (x.step op a b t).1 := by
  have h1 := does_ins (op := op) (a := a) (b := b) h ht
  refine ⟨step_wf h.toWf, ?_, ?_, ?_⟩
  all_goals
    unfold Ltr.step
    repeat' split
    all_goals first | exact h1.name | exact h1.policy | exact h1.papers | exact Nat.zero_le _
theorem Lg.old_ins (h : l.Ins) (s : ByteArray) : LtIns (l.old s) := by
  unfold Lg.old Lg.find
  cases hf : l.ls.find? (eqL s) with
  | none => exact none_ins
  | some x => exact h.ls x (find_some hf).1
theorem stepped_ins (h : l.Ins) (hx : LtIns x) (hc : c.letter.size ≤ maxLen) (ht : c.text.size ≤ maxLen) : (l.stepped x c).1.Ins := by
  unfold Lg.stepped
  split
  · exact h
  · split
    · exact h
    · next h2 =>
      have h1 := (with_ok h2).1
      have hs := step_ins (op := c.op) (a := c.a) (b := c.b) (t := c.text) hx ht
      have hw : (l.with_ (nextL x c)).1.Ins := by
        rw [h1]
        refine ⟨h.seq, h.total, fun y hy => ?_, h.os⟩
        rcases withG_mem hy with rfl | hy
        · exact ⟨⟨hs.state, hs.amount, hs.due⟩, hc, hs.policy, hs.papers⟩
        · exact h.ls y hy
      split
      · exact hw
      · split
        · exact h
        · exact ⟨hw.seq, amt_i64 (amtAdd_is _ _), hw.ls, hw.os⟩
theorem small_i64 {a : Int} (h : 0 ≤ a ∧ a ≤ 99) : i64ok a := by unfold i64ok; omega
theorem amtAdd_err (a b : Int) : 0 ≤ (amtAdd a b).2 ∧ (amtAdd a b).2 ≤ 99 := by
  unfold amtAdd
  split
  · decide
  · split <;> (constructor <;> (dsimp only; omega))
theorem amtSub_err (a b : Int) : 0 ≤ (amtSub a b).2 ∧ (amtSub a b).2 ≤ 99 := by
  unfold amtSub
  split
  · decide
  · split <;> (constructor <;> (dsimp only; omega))
theorem step_err : 0 ≤ (x.step op a b t).2 ∧ (x.step op a b t).2 ≤ 99 := by
  unfold Ltr.step
  split
  · (constructor <;> (dsimp only; omega))
  · split
    · (constructor <;> (dsimp only; omega))
    · split
      · show 0 ≤ (x.does op a b t).2 ∧ (x.does op a b t).2 ≤ 99
        unfold Ltr.does Ltr.apply Ltr.amend Ltr.expire amtChange
        have h1 := amtAdd_err x.amount a
        have h2 := amtSub_err x.amount (-a)
        repeat' split
        all_goals first | exact h1 | exact h2 | (constructor <;> (dsimp only; omega))
      · (constructor <;> (dsimp only; omega))
theorem with_err {y : Ltr} : 0 ≤ (l.with_ y).2 ∧ (l.with_ y).2 ≤ 99 := by
  unfold Lg.with_
  split
  · (constructor <;> (dsimp only; omega))
  · split
    · (constructor <;> (dsimp only; omega))
    · (constructor <;> (dsimp only; omega))
theorem res_err : 0 ≤ (l.res e n).2 ∧ (l.res e n).2 ≤ 99 := by
  unfold Lg.res Lg.known endorsedF Lg.stepped
  repeat' split
  all_goals first | exact step_err | exact with_err | (constructor <;> (dsimp only; omega))
theorem res_ins (h : l.Ins) (he : EnIns e) : (l.res e n).1.Ins := by
  unfold Lg.res
  split
  · exact h
  · split
    · exact h
    · exact stepped_ins h (Lg.old_ins h _) he.letter he.text
theorem doF_ins (h : l.Ins) (he : EnIns e) : (l.doF e n).1.Ins := by
  unfold Lg.doF
  split
  · exact h
  · split
    · exact h
    · have h1 := res_ins (n := n) h he
      refine ⟨h1.seq, h1.total, h1.ls, fun o ho => ?_⟩
      rcases withG_mem ho with rfl | ho
      · exact ⟨he.client, he.stamp, small_i64 res_err⟩
      · exact h1.os o ho
end
/-! ### What may be -/
structure LtR (x : Ltr) : Prop where
  name : nameB x.name = true
  state : 1 ≤ x.state ∧ x.state ≤ 7
  amount : 1 ≤ x.amount ∧ x.amount ≤ 1099511627776
  due : isAmt x.due = true
  policy : x.policy.size ≤ 200
  papers : x.papers.size ≤ 200
structure OcR (o : Oc) : Prop where
  client : 0 ≤ o.client ∧ o.client ≤ 63
  stamp : 1 ≤ o.stamp ∧ o.stamp ≤ 1099511627776
  result : 0 ≤ o.result ∧ o.result ≤ 99
structure LtsR (ls : List Ltr) : Prop where
  each : ∀ j (h : j < ls.length), LtR ls[j]
  rise : ∀ j (h : j < ls.length), 0 < j → ltB (ls[j - 1]'(by omega)).name ls[j].name
structure OcsR (os : List Oc) : Prop where
  each : ∀ j (h : j < os.length), OcR os[j]
  rise : ∀ j (h : j < os.length), 0 < j → (os[j - 1]'(by omega)).client < os[j].client
/-- A ledger that may be. -/
structure Lg.Right (l : Lg) : Prop where
  os : OcsR l.os
  seq : 0 ≤ l.seq ∧ l.seq ≤ 1048576
  total : isAmt l.total = true
  few : l.os.length ≤ 4
  ls : LtsR l.ls
  lsFew : l.ls.length ≤ 16
noncomputable instance (ls : List Ltr) : Decidable (LtsR ls) := Classical.propDecidable _
noncomputable instance (os : List Oc) : Decidable (OcsR os) := Classical.propDecidable _
noncomputable instance (l : Lg) : Decidable l.Right := Classical.propDecidable _
end Go.Proofs.YtickdhjljpnlpaaGreatDoor.A
/-
  Batches of entries, plain.
-/
namespace Go.Proofs.YtickdhjljpnlpaaGreatDoor.A
open Go.RowKit

theorem goes_app (n : Int) : ∀ (l : Lg) (xs ys : List Ent), Lg.goes n l (xs ++ ys) = ((Lg.goes n (Lg.goes n l xs).1 ys).1, (Lg.goes n l xs).2 ++ (Lg.goes n (Lg.goes n l xs).1 ys).2)
  | l, [], ys => rfl
  | l, e :: xs, ys => by
    rw [List.cons_append, Lg.goes, goes_app n _ xs ys, Lg.goes]
    rfl
theorem goes_take {n : Int} {l : Lg} {es : List Ent} {z : Nat} (h : z < es.length) : Lg.goes n l (es.take (z + 1)) = (((Lg.goes n l (es.take z)).1.doF es[z] n).1, (Lg.goes n l (es.take z)).2 ++ [((Lg.goes n l (es.take z)).1.doF es[z] n).2]) := by
  rw [List.take_succ_eq_append_getElem h, goes_app]
  rfl
theorem goes_len (n : Int) : ∀ (l : Lg) (es : List Ent), (Lg.goes n l es).2.length = es.length
  | l, [] => rfl
  | l, e :: es => by rw [Lg.goes, List.length_cons, goes_len n _ es, List.length_cons]
theorem goes_few (n : Int) : ∀ (l : Lg) (es : List Ent), (Lg.goes n l es).1.ls.length ≤ l.ls.length + es.length ∧ (Lg.goes n l es).1.os.length ≤ l.os.length + es.length
  | l, [] => ⟨Nat.le_refl _, Nat.le_refl _⟩
  | l, e :: es => by
    have h1 := goes_few n (l.doF e n).1 es
    have h2 := doF_len (l := l) (e := e) (n := n)
    rw [Lg.goes, List.length_cons]
    dsimp only
    omega
theorem goes_wf (n : Int) : ∀ {l : Lg} {es : List Ent}, l.Wf → (Lg.goes n l es).1.Wf
  | l, [], h => h
  | l, e :: es, h => goes_wf n (es := es) (doF_wf (e := e) (n := n) h)
theorem goes_ins (n : Int) : ∀ {l : Lg} {es : List Ent}, l.Ins → (∀ e ∈ es, EnIns e) → (Lg.goes n l es).1.Ins
  | l, [], h, _ => h
  | l, e :: es, h, he => goes_ins n (es := es) (doF_ins (n := n) h (he e List.mem_cons_self)) fun x hx => he x (List.mem_cons_of_mem _ hx)
theorem goes_seq (n : Int) : ∀ (l : Lg) (es : List Ent), (Lg.goes n l es).1.seq = l.seq
  | l, [] => rfl
  | l, e :: es => (goes_seq n _ es).trans doF_seq
/-- The errors there are so far, and room for the others. -/
def errsA (n : Int) (l : Lg) (es : List Ent) (z : Nat) : List (List Abs) := (Lg.goes n l (es.take z)).2.map (fun x => [int x]) ++ List.replicate (es.length - z) [int 0]
theorem errs_len {n : Int} {l : Lg} {es : List Ent} {z : Nat} (h : z ≤ es.length) : (errsA n l es z).length = es.length := by
  unfold errsA
  rw [List.length_append, List.length_map, goes_len, List.length_take, List.length_replicate]
  omega
theorem errs_set {n : Int} {l : Lg} {es : List Ent} {z : Nat} (h : z < es.length) : (errsA n l es z).set z [int ((Lg.goes n l (es.take z)).1.doF es[z] n).2] = errsA n l es (z + 1) := by
  unfold errsA
  rw [goes_take h]
  have hl : ((Lg.goes n l (es.take z)).2.map (fun x => [int x])).length = z := by rw [List.length_map, goes_len, List.length_take]; omega
  obtain ⟨m, hm⟩ : ∃ m, es.length - z = m + 1 := ⟨es.length - z - 1, by omega⟩
  rw [List.set_append_right _ _ (by omega), hl, Nat.sub_self, hm, List.replicate_succ, List.set_cons_zero, show es.length - (z + 1) = m by omega]
  simp
theorem errs_done {n : Int} {l : Lg} {es : List Ent} : errsA n l es es.length = (l.foldF es n).2.map fun x => [int x] := by
  unfold errsA Lg.foldF
  rw [List.take_length, Nat.sub_self, List.replicate_zero, List.append_nil]
/-- Not too great to be asked about. -/
structure FewC (l : Lg) (es : List Ent) : Prop where
  ls : ∀ j (h : j < l.ls.length), l.ls[j].name.size ≤ 100 ∧ l.ls[j].policy.size ≤ 300 ∧ l.ls[j].papers.size ≤ 300
  en : ∀ j (h : j < es.length), es[j].core.letter.size ≤ 100 ∧ es[j].core.text.size ≤ 300
  nl : l.ls.length ≤ 64
  no : l.os.length ≤ 64
  ne : es.length ≤ 40
noncomputable instance (l : Lg) (es : List Ent) : Decidable (FewC l es) := Classical.propDecidable _
theorem FewC.name {l : Lg} {es : List Ent} (h : FewC l es) : ∀ x ∈ l.ls, x.name.size ≤ lots := fun x hx => by
  obtain ⟨j, hj, rfl⟩ := List.getElem_of_mem hx
  have := (h.ls j hj).1
  unfold lots
  omega
abbrev entsR (es : List Ent) : Abs := .sl 8 (es.map entA)
abbrev errsR (l : List Int) : Abs := .sl 1 (l.map fun x => [int x])
end Go.Proofs.YtickdhjljpnlpaaGreatDoor.A
/-
  What came in lies apart from the program's own tables: their cells are of other kinds.
-/
namespace Go.Proofs.YtickdhjljpnlpaaGreatDoor.A
open Go.RowKit

/-- No cell of these blocks is a number of that kind. -/
def Other (k : IntKind) (G : List Nat) (w : World) : Prop := ∀ g ∈ G, ∀ (off : Nat) (i : Int), w.cell? ⟨g, off, none⟩ ≠ some (.int k i)
section
variable {G : List Nat} {w : World} {k : IntKind}
theorem _root_.Go.Proofs.YtickdhjljpnlpaaGreatDoor.IsRow.into {v : Value} {n : Nat} {cs : List Value} (h : IsRow [] w v n cs) (hG : Other k G w) (h0 : cs ≠ [] → ∃ i, cs[0]? = some (.int k i)) : IsRow G w v n cs := by
  refine ⟨h.shape, fun hn => ?_⟩
  obtain ⟨b, off, n', c, hv, _, hc⟩ := h.cells hn
  obtain ⟨i, hi⟩ := h0 hn
  exact ⟨b, off, n', c, hv, fun hb => hG b hb (off + 0) i (hc 0 _ hi), hc⟩
theorem _root_.Go.Proofs.YtickdhjljpnlpaaGreatDoor.IsRow.intoJ {v : Value} {n j : Nat} {cs : List Value} (h : IsRow [] w v n cs) (hG : Other k G w) (h0 : cs ≠ [] → ∃ i, cs[j]? = some (.int k i)) : IsRow G w v n cs := by
  refine ⟨h.shape, fun hn => ?_⟩
  obtain ⟨b, off, n', c, hv, _, hc⟩ := h.cells hn
  obtain ⟨i, hi⟩ := h0 hn
  exact ⟨b, off, n', c, hv, fun hb => hG b hb (off + j) i (hc j _ hi), hc⟩
/-- Rows of plain cells, one of them a number. -/
theorem flat_keep {α : Type} {c : α → List Value} {s j : Nat} (hs : ∀ a, (c a).length = s) (hj : ∀ a, ∃ i, (c a)[j]? = some (.int k i)) (hG : Other k G w) {xs : List α} {v : Value} (h : rep [] w (flat s c xs) v) : rep G w (flat s c xs) v :=
  (rep_flat hs).2 (((rep_flat hs).1 h).intoJ (j := j) hG fun hn => by
    cases xs with
    | nil => exact absurd rfl hn
    | cons a xs =>
      obtain ⟨i, hi⟩ := hj a
      refine ⟨i, ?_⟩
      rw [List.flatMap_cons, List.getElem?_append_left (List.getElem?_eq_some_iff.1 hi).1]
      exact hi)
theorem other_var {n : String} {cs : Array Value} (h : w.var? Tryz.prog n = some cs) (hc : ∀ (i : Nat) v, cs[i]? = some v → ∀ z, v ≠ .int k z) (off : Nat) (i : Int) : w.cell? ⟨(Tryz.prog.globalNamed n).getD 0, off, none⟩ ≠ some (.int k i) := by
  intro h2
  cases hg : Tryz.prog.globalNamed n with
  | none => unfold World.var? at h; rw [hg] at h; cases h
  | some g =>
    rw [hg] at h2
    have h3 := World.var?_cell hg h off
    have h4 : w.cell? ⟨g, off, none⟩ = some (.int k i) := h2
    rw [h4] at h3
    exact hc off _ h3.symm i rfl
theorem other_one {e : Value} (he : isIf e) (i : Nat) (v : Value) (h : (#[e] : Array Value)[i]? = some v) (z : Int) : v ≠ .int k z := by
  obtain ⟨t, u, rfl⟩ := he
  rintro rfl
  cases i with
  | zero => simp at h
  | succ i => simp at h
theorem other_globs (hk : k ≠ .u64) {es er : Value} (he : isIf es) (hr : isIf er) (h1 : w.var? Tryz.prog "strconv.ErrSyntax" = some #[es]) (h2 : w.var? Tryz.prog "strconv.ErrRange" = some #[er]) (h3 : w.var? Tryz.prog "internal/strconv.uint64pow10" = some pow10C) :
    Other k (mids (globs es er) ++ [(Tryz.prog.globalNamed "strconv.ErrSyntax").getD 0, (Tryz.prog.globalNamed "strconv.ErrRange").getD 0, (Tryz.prog.globalNamed "internal/strconv.uint64pow10").getD 0]) w := by
  intro g hg off i
  have hg : g ∈ [(Tryz.prog.globalNamed "strconv.ErrSyntax").getD 0, (Tryz.prog.globalNamed "strconv.ErrRange").getD 0, (Tryz.prog.globalNamed "internal/strconv.uint64pow10").getD 0] := hg
  simp only [List.mem_cons, List.not_mem_nil, or_false] at hg
  rcases hg with rfl | rfl | rfl
  · exact other_var h1 (fun i v h => other_one he i v h) off i
  · exact other_var h2 (fun i v h => other_one hr i v h) off i
  · refine other_var h3 (fun i v h z => ?_) off i
    rintro rfl
    unfold pow10C at h
    rw [List.getElem?_toArray, List.getElem?_map] at h
    cases hq : Lib.pow10Tab[i]? with
    | none => rw [hq] at h; cases h
    | some x =>
      rw [hq] at h
      simp only [Option.map_some, Option.some.injEq] at h
      injection h with h4
      exact hk h4.symm
end
end Go.Proofs.YtickdhjljpnlpaaGreatDoor.A
/-
  Ledgers and entries that came in, as trees; they lie apart from the program's own tables.
-/
namespace Go.Proofs.YtickdhjljpnlpaaGreatDoor.A
open Go.RowKit Go.ChangeShapes Go.WideShapes Go.ChangeAt

section
variable {H : Type} {enc : TypeId × Value → H} {w : World} {base : Nat} {spare : Nat → Bool} {held : Bool}
theorem wfOk {a : Int} (h : (Lit.int .i64 a).wf = true) : i64ok a := by
  have := bounds_i64 h
  unfold i64ok
  omega
theorem oc_leaves : leaves Tryz.prog 4 40 = some [3, 2, 35] := by kernel_rfl
theorem open_ocO (cs : List Value) (hl : cs.length = Tryz.prog.cellsOf 40) (h : ∃ m y, DataW.trod enc Tryz.prog w base spare held m 40 cs = some y) : ∃ o : Oc, reps [] w o.abs cs ∧ OcIns o := by
  obtain ⟨fuel, x, h⟩ := h
  rw [show Tryz.prog.cellsOf 40 = 3 by kernel_rfl] at hl
  have hh := leaves_trod 4 _ _ _ _ _ oc_leaves (by simpa using hl.symm) h
  match cs, hl with
  | [v0, v1, v2], _ =>
    obtain ⟨n0, rfl, b0⟩ := (hh 0 v0 _ rfl rfl).int Tryz.underlying3
    obtain ⟨n1, rfl, b1⟩ := (hh 1 v1 _ rfl rfl).int Tryz.underlying2
    obtain ⟨n2, rfl, b2⟩ := (hh 2 v2 _ rfl rfl).int Tryz.underlying35
    exact ⟨⟨n0, n1, n2⟩, (reps_plain (us := [.int .i64 n0, .int .i64 n1, .int .i64 n2])).2 rfl, ⟨wfOk b0, wfOk b1, wfOk b2⟩⟩
theorem ltr_leaves : leaves Tryz.prog 4 81 = some [9, 3, 2, 2, 9, 9] := by kernel_rfl
theorem open_ltr (cs : List Value) (hl : cs.length = Tryz.prog.cellsOf 81) (h : ∃ m y, DataW.trod enc Tryz.prog w base spare held m 81 cs = some y) : ∃ x : Ltr, reps [] w (ltrA x) cs ∧ LtIns x := by
  obtain ⟨fuel, x, h⟩ := h
  rw [show Tryz.prog.cellsOf 81 = 6 by kernel_rfl] at hl
  have hh := leaves_trod 4 _ _ _ _ _ ltr_leaves (by simpa using hl.symm) h
  match cs, hl with
  | [v0, v1, v2, v3, v4, v5], _ =>
    obtain ⟨s0, rfl, b0⟩ := (hh 0 v0 _ rfl rfl).string Tryz.underlying9
    obtain ⟨n1, rfl, b1⟩ := (hh 1 v1 _ rfl rfl).int Tryz.underlying3
    obtain ⟨n2, rfl, b2⟩ := (hh 2 v2 _ rfl rfl).int Tryz.underlying2
    obtain ⟨n3, rfl, b3⟩ := (hh 3 v3 _ rfl rfl).int Tryz.underlying2
    obtain ⟨s4, rfl, b4⟩ := (hh 4 v4 _ rfl rfl).string Tryz.underlying9
    obtain ⟨s5, rfl, b5⟩ := (hh 5 v5 _ rfl rfl).string Tryz.underlying9
    exact ⟨⟨s0, n1, n2, n3, s4, s5⟩, (reps_plain (us := [.string s0, .int .i64 n1, .int .i64 n2, .int .i64 n3, .string s4, .string s5])).2 rfl, ⟨⟨wfOk b1, wfOk b2, wfOk b3⟩, b0, b4, b5⟩⟩
theorem en_leaves : leaves Tryz.prog 4 66 = some [3, 2, 3, 9, 2, 2, 9, 64] := by kernel_rfl
theorem open_enO (cs : List Value) (hl : cs.length = Tryz.prog.cellsOf 66) (h : ∃ m y, DataW.trod enc Tryz.prog w base spare held m 66 cs = some y) : ∃ e : Ent, reps [] w (entA e) cs ∧ EnIns e := by
  obtain ⟨fuel, x, h⟩ := h
  rw [show Tryz.prog.cellsOf 66 = 8 by kernel_rfl] at hl
  have hh := leaves_trod 4 _ _ _ _ _ en_leaves (by simpa using hl.symm) h
  match cs, hl with
  | [v0, v1, v2, v3, v4, v5, v6, v7], _ =>
    obtain ⟨n0, rfl, b0⟩ := (hh 0 v0 _ rfl rfl).int Tryz.underlying3
    obtain ⟨n1, rfl, b1⟩ := (hh 1 v1 _ rfl rfl).int Tryz.underlying2
    obtain ⟨n2, rfl, b2⟩ := (hh 2 v2 _ rfl rfl).int Tryz.underlying3
    obtain ⟨s3, rfl, b3⟩ := (hh 3 v3 _ rfl rfl).string Tryz.underlying9
    obtain ⟨n4, rfl, b4⟩ := (hh 4 v4 _ rfl rfl).int Tryz.underlying2
    obtain ⟨n5, rfl, b5⟩ := (hh 5 v5 _ rfl rfl).int Tryz.underlying2
    obtain ⟨s6, rfl, b6⟩ := (hh 6 v6 _ rfl rfl).string Tryz.underlying9
    obtain ⟨n7, rfl, b7⟩ := (hh 7 v7 _ rfl rfl).int Tryz.underlying64
    simp only [Lit.wf, Bool.and_eq_true, decide_eq_true_eq] at b7
    have c0 : (0 : Int) ≤ n7 := b7.1
    have c1 : n7 ≤ (4294967295 : Int) := b7.2
    obtain ⟨m, rfl⟩ : ∃ m : Nat, n7 = m := ⟨n7.toNat, by omega⟩
    exact ⟨⟨⟨n0, n1, n2, s3, n4, n5, s6⟩, m⟩, reps_plain.2 rfl, ⟨wfOk b0, wfOk b1, wfOk b2, wfOk b4, wfOk b5, b3, b6, by show m < 4294967296; omega⟩⟩
theorem open_ensO {v : Value} (h : LeafAt enc Tryz.prog w base spare held 26 v) : ∃ es : List Ent, rep [] w (entsR es) v ∧ ∀ e ∈ es, EnIns e :=
  open_slA (abs := entA) (Ok := EnIns) (s := 8) Tryz.underlying26 (by kernel_rfl) h open_enO
end
section
variable {G : List Nat} {w : World}
theorem ens_keep (hG : Other .i64 G w) {es : List Ent} {v : Value} (h : rep [] w (entsR es) v) : rep G w (entsR es) v := flat_keep (c := Ent.cells) (s := 8) (j := 0) (fun _ => rfl) (fun e => ⟨e.core.client, rfl⟩) hG h
end
end Go.Proofs.YtickdhjljpnlpaaGreatDoor.A
/-
  Batches: whether they may be: the program's and the document's, over the engine.
-/
namespace Go.Proofs.YtickdhjljpnlpaaGreatDoor
open Go.RowKit

/-- A row of entries that is read. -/
abbrev entsD (v : Value) (es : List Ent) : Dt := rowD v es.length (es.flatMap Ent.cells)
/-- Whether entries may be, behind a client. -/
def chkL (n : Int) : Option Int → List Ent → Int
  | _, [] => 0
  | p, e :: es => if e.core.check n ≠ 0 then e.core.check n else if 2 ^ n.toNat ≤ e.mask then 5 else if (match p with | some c => decide (e.core.client ≤ c) | none => false) = true then 15 else chkL n (some e.core.client) es
def chkB (es : List Ent) (n : Int) : Int := if n < 1 ∨ 7 < n then 1 else if 4 < es.length then 4 else chkL n none es
/-- The client ahead. -/
def ahead (es : List Ent) (k : Nat) : Option Int := if k = 0 then none else (es[k - 1]?).map (·.core.client)
theorem chkL_at {n : Int} {es : List Ent} {k : Nat} (h : k < es.length) : chkL n (ahead es k) (es.drop k) = if es[k].core.check n ≠ 0 then es[k].core.check n else if 2 ^ n.toNat ≤ es[k].mask then 5 else if 0 < k ∧ es[k].core.client ≤ (es[k - 1]'(by omega)).core.client then 15 else chkL n (ahead es (k + 1)) (es.drop (k + 1)) := by
  rw [List.drop_eq_getElem_cons h]
  simp only [chkL]
  have e1 : ahead es (k + 1) = some es[k].core.client := by simp [ahead, h]
  rw [e1]
  congr 2
  by_cases hk : k = 0
  · subst hk; simp [ahead]
  · have h0 : 0 < k := by omega
    have e2 : ahead es k = some (es[k - 1]'(by omega)).core.client := by
      simp only [ahead, if_neg hk]
      rw [List.getElem?_eq_getElem (by omega)]
      rfl
    rw [e2]
    simp [h0]
theorem shr_mask {m : Nat} {n : Int} (h1 : 1 ≤ n) (h7 : n ≤ 7) : ((m : Int).fdiv (2 ^ (min n.toNat 32)) ≠ 0) ↔ 2 ^ n.toNat ≤ m := by
  obtain ⟨k, rfl⟩ : ∃ k : Nat, n = k := ⟨n.toNat, by omega⟩
  rw [Int.toNat_natCast, Nat.min_eq_left (by omega), Int.fdiv_eq_ediv_of_nonneg _ (Int.pow_nonneg (by decide))]
  rw [show (2 : Int) ^ k = ((2 ^ k : Nat) : Int) by simp, ← Int.natCast_ediv]
  have h0 : 0 < 2 ^ k := Nat.pow_pos (by omega)
  have h2 : m / 2 ^ k = 0 ↔ m < 2 ^ k := by rw [Nat.div_eq_zero_iff]; omega
  omega
section
variable {S : List (World × List Nat)} {σ τ : Blks} {ρ : List Dt} {w : World}

set_option maxHeartbeats 1000000 in
theorem batchCheck_c {v : Value} {es : List Ent} {n : Int} (hw : Mem S σ ρ w) (he : entsD v es ∈ ρ) (hl : es.length ≤ 1000000) : Calls Tryz.prog 26 #[v, .int .i64 n] w fun e w' => e = .returned (.int .i64 (chkB es n)) ∧ Mem S σ ρ w' := by
  obtain ⟨A, c, rfl, hs1, hs2, hs3⟩ := (hw.data he).shape
  have hA : es ≠ [] → ∃ b off, A = some ⟨b, off, none⟩ := fun h => row_at (hw.data he) (by cases es with | nil => exact absurd rfl h | cons e es => simp [Ent.cells])
  refine calls_of [.slice A es.length c, .int .i64 n] Tryz.func26 rfl Tryz.ntmps26 rfl (Mem S σ ρ) hw ?_
  refine SC.seq (SC.region ?_)
  refine SL.val (Val.assign rfl) rfl rfl ?_
  refine SL.nil (SE.seq ?_)
  refine SC.seq ?_
  refine SC.block ?_
  refine SC.seq (SC.region ?_)
  refine SL.val (Val.move rfl) rfl rfl ?_
  refine SL.val (Val.ltI rfl rfl) rfl rfl ?_
  refine SL.val (Val.move rfl) rfl rfl ?_
  refine SL.bothP (t := 11) rfl ?_ ?_
  · intro hc11
    iterate 2 refine SL.skip rfl rfl ?_
    refine SL.val (Val.pickT rfl rfl) rfl rfl ?_
    refine SL.val (Val.assign rfl) rfl rfl ?_
    refine SL.nil (SE.seq ?_)
    refine SC.condT rfl ?_
    refine SC.seq (SC.region ?_)
    refine SL.val (Val.assign rfl) rfl rfl ?_
    refine SL.nil (SE.seq ?_)
    refine SC.ret ?_
    refine SE.ret ?_
    refine SE.then_ (by intro h; cases h) ?_
    refine SE.ret1 rfl rfl ?_
    intro w' hw'
    refine ⟨?_, hw'⟩; congr 2; unfold chkB; rw [if_pos (by omega)]
  intro hc11
  refine SL.val (Val.move rfl) rfl rfl ?_
  refine SL.val (Val.gtI rfl rfl) rfl rfl ?_
  refine SL.val (Val.pickF rfl rfl) rfl rfl ?_
  refine SL.val (Val.assign rfl) rfl rfl ?_
  refine SL.nil (SE.seq ?_)
  refine SC.condP rfl ?_ ?_
  · intro hc8
    refine SC.seq (SC.region ?_)
    refine SL.val (Val.assign rfl) rfl rfl ?_
    refine SL.nil (SE.seq ?_)
    refine SC.ret ?_
    refine SE.ret ?_
    refine SE.then_ (by intro h; cases h) ?_
    refine SE.ret1 rfl rfl ?_
    intro w' hw'
    refine ⟨?_, hw'⟩; congr 2; unfold chkB; rw [if_pos (by omega)]
  intro hc8
  refine SC.seq (SC.region ?_)
  refine SL.val (Val.move rfl) rfl rfl ?_
  refine SL.val (Val.lenSl rfl Tryz.underlying26) rfl rfl ?_
  refine SL.val (Val.gtI rfl rfl) rfl rfl ?_
  refine SL.val (Val.assign rfl) rfl rfl ?_
  refine SL.nil (SE.seq ?_)
  refine SC.condP rfl ?_ ?_
  · intro hc15
    refine SC.seq (SC.region ?_)
    refine SL.val (Val.assign rfl) rfl rfl ?_
    refine SL.nil (SE.seq ?_)
    refine SC.ret ?_
    refine SE.ret ?_
    refine SE.then_ (by intro h; cases h) ?_
    refine SE.ret1 rfl rfl ?_
    intro w' hw'
    refine ⟨?_, hw'⟩; congr 2; unfold chkB; rw [if_neg (by omega), if_pos (by omega)]
  intro hc15
  refine SC.skip ?_
  refine SE.inBlock ?_
  refine SE.seq ?_
  refine SC.seq ?_
  refine SC.seq (SC.region ?_)
  refine SL.val (Val.move rfl) rfl rfl ?_
  refine SL.val (Val.lenSl rfl Tryz.underlying26) rfl rfl ?_
  refine SL.val (Val.move rfl) rfl rfl ?_
  refine SL.nil (SE.seq ?_)
  refine SC.block ?_
  refine SC.loop (ι := Nat) (fun k => [(0, .slice A es.length c), (1, .int .i64 n), (19, .slice A es.length c), (20, .int .i64 (es.length : Nat)), (21, .int .i64 (k : Nat))]) (fun k w' => (k ≤ es.length ∧ chkL n none es = chkL n (ahead es k) (es.drop k)) ∧ Mem S σ ρ w') (fun k => es.length - k) 0 (by exact ⟨rfl, rfl, rfl, rfl, rfl, trivial⟩) (fun w' hw' => ⟨⟨Nat.zero_le _, rfl⟩, hw'⟩) ?_
  intro k
  refine SC.facts ?_
  rintro ⟨hk, hk2⟩
  refine SC.seq (SC.region ?_)
  refine SL.val (Val.ltI rfl rfl) rfl rfl ?_
  refine SL.nil (SE.seq ?_)
  refine SC.seq ?_
  refine SC.condP rfl ?_ ?_
  rotate_left
  · intro hc22
    refine SC.exit ?_
    refine SE.then_ (by intro h; cases h) ?_
    refine SE.then_ (by intro h; cases h) ?_
    refine SE.exit ?_
    refine SE.seq ?_
    refine SC.seq (SC.region ?_)
    refine SL.val (Val.assign rfl) rfl rfl ?_
    refine SL.nil (SE.seq ?_)
    refine SC.ret ?_
    refine SE.ret1 rfl rfl ?_
    intro w' hw'
    refine ⟨?_, hw'⟩; congr 2; unfold chkB; rw [if_neg (by omega), if_neg (by omega), hk2, List.drop_eq_nil_of_le (by omega)]; rfl
  intro hc22
  have hlt : k < es.length := by omega
  have hat := chkL_at (n := n) hlt
  obtain ⟨bb, off, rfl⟩ := hA (by intro h0; rw [h0] at hlt; simp at hlt)
  refine SC.skip ?_
  refine SE.seq ?_
  refine SC.seq ?_
  refine SC.block ?_
  refine SC.seq (SC.region ?_)
  refine SL.val (Val.move rfl) rfl rfl ?_
  first
    | refine SL.val (Val.indexSlN tabOk Tryz.underlying26 rfl rfl rfl (by omega)) rfl rfl ?_
    | refine SL.val (Val.indexSl tabOk Tryz.underlying26 rfl rfl rfl (by omega)) rfl rfl ?_
  refine SL.val (Val.loadAD (f := Ent.cells) tabOk rfl rfl rfl (by repeat (first | assumption | exact List.mem_cons_self | exact hmem _ | apply List.mem_cons_of_mem)) (fun _ => rfl) hlt) rfl rfl ?_
  refine SL.eff (Eff.alloc tabOk rfl) rfl rfl ?_
  rintro _ _ ⟨b6, rfl, rfl⟩
  refine SL.val (Val.assign rfl) rfl rfl ?_
  refine SL.eff (Eff.storeA (L' := (es[k]'hlt).cells) (vs := (es[k]'hlt).cells) tabOk rfl rfl rfl (by repeat (first | assumption | exact Upd.here | exact hrep _ _ | apply Upd.there)) (by rfl) (Nat.le_of_ble_eq_true (by rfl)) (Ent.one _) (by rfl)) rfl rfl ?_; rintro _ _ ⟨rfl, rfl⟩
  refine SL.nil (SE.seq ?_)
  refine SC.seq ?_
  refine SC.seq (SC.region ?_)
  refine SL.val (Val.fieldAddr tabOk rfl rfl rfl rfl rfl) rfl rfl ?_
  first
    | refine SL.val (Val.loadA tabOk rfl rfl rfl (by repeat (first | assumption | exact List.mem_cons_self | exact hmem _ | apply List.mem_cons_of_mem)) (by rfl)) rfl rfl ?_
    | refine SL.val (Val.loadAC tabOk rfl rfl rfl (by assumption) (by assumption)) rfl rfl ?_
    | refine SL.val (Val.loadP tabOk rfl rfl rfl (by repeat (first | assumption | exact List.mem_cons_self | exact hmem _ | apply List.mem_cons_of_mem)) (Nat.le_of_ble_eq_true (by rfl))) rfl rfl ?_
  refine SL.val (Val.move rfl) rfl rfl ?_
  refine SL.call (by kernel_rfl) rfl rfl rfl ?_
  intro w hw
  refine (check_c (c := (es[k]'hlt).core) hw).mono ?_; rintro _ _ ⟨rfl, hm⟩; refine ⟨_, _, rfl, hm, ?_⟩; clear hm hw w
  refine SL.val (Val.assign rfl) rfl rfl ?_
  refine SL.nil (SE.seq ?_)
  refine SC.seq (SC.region ?_)
  refine SL.val (Val.move rfl) rfl rfl ?_
  refine SL.val (Val.neI rfl rfl) rfl rfl ?_
  refine SL.nil (SE.seq ?_)
  refine SC.condP rfl ?_ ?_
  · intro hc31
    refine SC.seq (SC.region ?_)
    refine SL.val (Val.move rfl) rfl rfl ?_
    refine SL.val (Val.assign rfl) rfl rfl ?_
    refine SL.nil (SE.seq ?_)
    refine SC.ret ?_
    refine SE.then_ (by intro h; cases h) ?_
    refine SE.ret ?_
    refine SE.then_ (by intro h; cases h) ?_
    refine SE.then_ (by intro h; cases h) ?_
    refine SE.ret ?_
    refine SE.then_ (by intro h; cases h) ?_
    refine SE.ret1 rfl rfl ?_
    intro w' hw'
    refine ⟨?_, hw'.sub (fun _ h => h) (List.sublist_cons_self _ _)⟩; congr 2; unfold chkB; rw [if_neg (by omega), if_neg (by omega), hk2, hat, if_pos hc31]
  intro hc31
  refine SC.skip ?_
  refine SE.seq ?_
  refine SC.block ?_
  refine SC.seq (SC.region ?_)
  refine SL.val (Val.fieldAddr tabOk rfl rfl rfl rfl rfl) rfl rfl ?_
  first
    | refine SL.val (Val.load1 tabOk rfl rfl (by repeat (first | assumption | exact List.mem_cons_self | exact hmem _ | apply List.mem_cons_of_mem)) (by rfl)) rfl rfl ?_
    | refine SL.val (Val.load1C tabOk rfl rfl (by assumption)) rfl rfl ?_
  refine SL.val (Val.move rfl) rfl rfl ?_
  first
    | refine SL.val (Val.convI rfl Tryz.underlying91 (by kernel_rfl) (by simp only [InR, lo, hi]; omega)) rfl rfl ?_
    | refine SL.val (Val.convU rfl Tryz.underlying91 (by kernel_rfl)) rfl rfl ?_
  refine SL.val (Val.shrI rfl rfl (by omega)) rfl rfl ?_
  refine SL.val (Val.neI rfl rfl) rfl rfl ?_
  refine SL.val (Val.assign rfl) rfl rfl ?_
  refine SL.nil (SE.seq ?_)
  refine SC.condP rfl ?_ ?_
  · intro hc33
    refine SC.seq (SC.region ?_)
    refine SL.val (Val.assign rfl) rfl rfl ?_
    refine SL.nil (SE.seq ?_)
    refine SC.ret ?_
    refine SE.ret ?_
    refine SE.ret ?_
    refine SE.then_ (by intro h; cases h) ?_
    refine SE.then_ (by intro h; cases h) ?_
    refine SE.ret ?_
    refine SE.then_ (by intro h; cases h) ?_
    refine SE.ret1 rfl rfl ?_
    intro w' hw'
    refine ⟨?_, hw'.sub (fun _ h => h) (List.sublist_cons_self _ _)⟩; congr 2; unfold chkB; rw [if_neg (by omega), if_neg (by omega), hk2, hat, if_neg hc31, if_pos ((shr_mask (by omega) (by omega)).1 hc33)]
  intro hc33
  refine SC.seq ?_
  refine SC.draw _ (.q 0 (.q 1 (.q 2 (.q 3 (.q 4 (.q 5 (.q 6 (.q 7 (.q 8 (.q 9 (.q 10 (.q 11 (.q 12 (.q 13 (.q 14 (.q 15 .nil)))))))))))))))) (by kernel_rfl) (by kernel_rfl) (fun _ h => h) (fun _ h => h.drew) ?_
  refine SX.val rfl (Val.move rfl) rfl rfl ?_
  refine SX.val rfl (Val.gtI rfl rfl) rfl rfl ?_
  refine SX.val rfl (Val.move rfl) rfl rfl ?_
  refine SX.bothP (t := 43) rfl ?_ ?_
  rotate_left
  · intro hc43
    iterate 11 refine SX.skip rfl rfl rfl ?_
    refine SX.val rfl (Val.pickF rfl rfl) rfl rfl ?_
    refine SX.val rfl (Val.assign rfl) rfl rfl ?_
    refine SX.nil (SE.seq ?_)
    refine SC.condF rfl ?_
    refine SC.skip ?_
    refine SE.inBlock ?_
    refine SE.inBlock ?_
    refine SE.seq ?_
    refine SC.region ?_
    first
      | refine SL.val (Val.addI rfl rfl (by simp only [InR, lo, hi]; omega)) rfl rfl ?_
      | refine SL.val (Val.addW rfl rfl) rfl rfl ?_
    refine SL.val (Val.move rfl) rfl rfl ?_
    refine SL.nil ?_
    have hnext : chkL n none es = chkL n (ahead es (k + 1)) (es.drop (k + 1)) := by
      rw [hk2, hat, if_neg hc31, if_neg (fun h => hc33 ((shr_mask (by omega) (by omega)).2 h)), if_neg (fun h => hc43 (by omega))]
    exact SE.round (k + 1) (by omega) (by exact ⟨rfl, rfl, rfl, rfl, rfl, trivial⟩) (fun w' hw' => ⟨⟨hlt, hnext⟩, hw'.sub (fun _ h => h) (List.sublist_cons_self _ _)⟩)
  intro hc43
  refine SX.val rfl (Val.move rfl) rfl rfl ?_
  refine SX.val rfl (Val.move rfl) rfl rfl ?_
  refine SX.val rfl (Val.subNat (i := k) (j := 1) rfl rfl rfl (by omega) (by simp only [InR, lo, hi]; omega)) rfl rfl ?_
  first
    | refine SX.val rfl (Val.indexSlN tabOk Tryz.underlying26 rfl rfl rfl (by omega)) rfl rfl ?_
    | refine SX.val rfl (Val.indexSl tabOk Tryz.underlying26 rfl rfl rfl (by omega)) rfl rfl ?_
  refine SX.val rfl (Val.fieldAddr tabOk rfl rfl rfl rfl rfl) rfl rfl ?_
  refine SX.val rfl (Val.fieldAddr tabOk rfl rfl rfl rfl rfl) rfl rfl ?_
  refine SX.val rfl (Val.load1F (f := Ent.cells) (s := 8) (q := k - 1) (fo := 0) tabOk rfl rfl (by repeat (first | assumption | exact List.mem_cons_self | exact hmem _ | apply List.mem_cons_of_mem)) (fun _ => rfl) (by omega) (by rfl)) rfl rfl ?_
  refine SX.val rfl (Val.fieldAddr tabOk rfl rfl rfl rfl rfl) rfl rfl ?_
  refine SX.val rfl (Val.fieldAddr tabOk rfl rfl rfl rfl rfl) rfl rfl ?_
  first
    | refine SX.val rfl (Val.load1 tabOk rfl rfl (by repeat (first | assumption | exact List.mem_cons_self | exact hmem _ | apply List.mem_cons_of_mem)) (by rfl)) rfl rfl ?_
    | refine SX.val rfl (Val.load1C tabOk rfl rfl (by assumption)) rfl rfl ?_
  refine SX.val rfl (Val.geI rfl rfl) rfl rfl ?_
  refine SX.val rfl (Val.pickT rfl rfl) rfl rfl ?_
  refine SX.val rfl (Val.assign rfl) rfl rfl ?_
  refine SX.nil (SE.seq ?_)
  refine SC.condP rfl ?_ ?_
  rotate_left
  · intro hc40
    refine SC.skip ?_
    refine SE.inBlock ?_
    refine SE.inBlock ?_
    refine SE.seq ?_
    refine SC.region ?_
    first
      | refine SL.val (Val.addI rfl rfl (by simp only [InR, lo, hi]; omega)) rfl rfl ?_
      | refine SL.val (Val.addW rfl rfl) rfl rfl ?_
    refine SL.val (Val.move rfl) rfl rfl ?_
    refine SL.nil ?_
    have hnext : chkL n none es = chkL n (ahead es (k + 1)) (es.drop (k + 1)) := by
      rw [hk2, hat, if_neg hc31, if_neg (fun h => hc33 ((shr_mask (by omega) (by omega)).2 h)), if_neg (fun h => hc40 h.2)]
    exact SE.round (k + 1) (by omega) (by exact ⟨rfl, rfl, rfl, rfl, rfl, trivial⟩) (fun w' hw' => ⟨⟨hlt, hnext⟩, hw'.sub (fun _ h => h) (List.sublist_cons_self _ _)⟩)
  intro hc40
  refine SC.seq (SC.region ?_)
  refine SL.val (Val.assign rfl) rfl rfl ?_
  refine SL.nil (SE.seq ?_)
  refine SC.ret ?_
  refine SE.ret ?_
  refine SE.ret ?_
  refine SE.then_ (by intro h; cases h) ?_
  refine SE.then_ (by intro h; cases h) ?_
  refine SE.ret ?_
  refine SE.then_ (by intro h; cases h) ?_
  refine SE.ret1 rfl rfl ?_
  intro w' hw'
  refine ⟨?_, hw'.sub (fun _ h => h) (List.sublist_cons_self _ _)⟩; congr 2; unfold chkB; rw [if_neg (by omega), if_neg (by omega), hk2, hat, if_neg hc31, if_neg (fun h => hc33 ((shr_mask (by omega) (by omega)).2 h)), if_pos ⟨by omega, hc40⟩]

end
end Go.Proofs.YtickdhjljpnlpaaGreatDoor
/-
  Batches: their bytes: the program's and the document's, over the engine.
-/
namespace Go.Proofs.YtickdhjljpnlpaaGreatDoor
open Go.RowKit

def Ent.bytes (e : Ent) : List UInt8 := rowB e.core.bytes ++ beBytes e.mask 1
/-- An entry that isn't too great. -/
structure Ent.Few (e : Ent) : Prop where
  mask : e.mask < 4294967296
  letter : e.core.letter.size ≤ 1000
  text : e.core.text.size ≤ 1000
theorem Core.bytes_length (c : Core) : c.bytes.length = 34 + c.letter.size + c.text.size := by
  have h1 : c.letter.data.toList.length = c.letter.size := by simp
  have h2 : c.text.data.toList.length = c.text.size := by simp
  simp only [Core.bytes, rowB, List.length_append, beBytes_length, h1, h2]
  omega
theorem Ent.bytes_length (e : Ent) : e.bytes.length = 39 + e.core.letter.size + e.core.text.size := by
  simp only [Ent.bytes, rowB, List.length_append, beBytes_length, Core.bytes_length]
  omega
section
variable {S : List (World × List Nat)} {σ τ : Blks} {ρ : List Dt} {w : World}

end
end Go.Proofs.YtickdhjljpnlpaaGreatDoor
/-
  Batches, read: the program's, over the engine.
-/
namespace Go.Proofs.YtickdhjljpnlpaaGreatDoor
open Go.RowKit

def sg (x : Nat) : Int := IntKind.i64.wrap (x : Int)
def txtB (l : List UInt8) : ByteArray := ⟨l.toArray⟩
/-- A core out of a reader, no row longer than so many bytes; and the reader behind it. -/
def Rd.c3 (s : Rd) : Rd := ((s.fixed 1).fixed 8).fixed 1
def Rd.c4 (s : Rd) (most : Int) : Rd := s.c3.row most
def Rd.c6 (s : Rd) (most : Int) : Rd := ((s.c4 most).fixed 8).fixed 8
def Rd.core (s : Rd) (most : Int) : Core where
  client := s.num 1
  stamp := sg ((s.fixed 1).num 8)
  op := ((s.fixed 1).fixed 8).num 1
  letter := txtB (s.c3.rowOut most)
  a := sg ((s.c4 most).num 8)
  b := sg (((s.c4 most).fixed 8).num 8)
  text := txtB ((s.c6 most).rowOut most)
theorem Rd.row_length (s : Rd) (most : Int) : (s.row most).l.length ≤ s.l.length := by
  have h1 := s.fixed_length 4
  have h2 := (s.fixed 4).fixed_length (s.num 4)
  unfold Rd.row
  split
  · exact h1
  · split
    · exact h1
    · omega
section
variable {S : List (World × List Nat)} {σ τ : Blks} {ρ : List Dt} {w : World}
theorem Core.one (c : Core) : ∀ u ∈ c.cells, u.oneCell' = true := by
  intro u hu
  simp only [Core.cells, List.mem_cons, List.not_mem_nil, or_false] at hu
  rcases hu with rfl | rfl | rfl | rfl | rfl | rfl | rfl <;> rfl
end
end Go.Proofs.YtickdhjljpnlpaaGreatDoor
/-
  What a batch's bytes tell, in plain Lean.
-/
namespace Go.Proofs.YtickdhjljpnlpaaGreatDoor
open Go.RowKit

section
variable {s t : Rd}
theorem Rd.as.c3 (h : s.as t) : s.c3.as t.c3 := ((h.fixed 1).fixed 8).fixed 1
theorem Rd.as.c4 (h : s.as t) (m : Int) : (s.c4 m).as (t.c4 m) := h.c3.row m
theorem Rd.as.c6 (h : s.as t) (m : Int) : (s.c6 m).as (t.c6 m) := ((h.c4 m).fixed 8).fixed 8
theorem Rd.as.core (h : s.as t) (m : Int) : s.core m = t.core m := by
  unfold Rd.core
  rw [h.num, (h.fixed 1).num, ((h.fixed 1).fixed 8).num, h.c3.rowOut, (h.c4 m).num, ((h.c4 m).fixed 8).num, (h.c6 m).rowOut]
end
end Go.Proofs.YtickdhjljpnlpaaGreatDoor
/-
  Batches, read whole: the program's, over the engine.
-/
namespace Go.Proofs.YtickdhjljpnlpaaGreatDoor
open Go.RowKit

section
variable {S : List (World × List Nat)} {σ τ : Blks} {ρ : List Dt} {w : World}
end
end Go.Proofs.YtickdhjljpnlpaaGreatDoor
/-
  Batches, read whole: the document's, over the engine.
-/
namespace Go.Proofs.YtickdhjljpnlpaaGreatDoor
open Go.RowKit

theorem Upd.fn {x y : It} {σ τ : Blks} (h : Upd x y σ τ) : ∃ rep : It → Blks, rep x = σ ∧ rep y = τ ∧ ∀ a b, Upd a b (rep a) (rep b) := by
  induction h with
  | here => exact ⟨fun a => a :: _, rfl, rfl, fun a b => .here⟩
  | @there z σ0 τ0 _ ih =>
    obtain ⟨rep, h1, h2, h3⟩ := ih
    exact ⟨fun a => z :: rep a, by show z :: rep x = _; rw [h1], by show z :: rep y = _; rw [h2], fun a b => .there (h3 a b)⟩
section
variable {S : List (World × List Nat)} {σ τ : Blks} {ρ : List Dt} {w : World} {p : Nat} {s : Rd}
theorem Mem.swap {x y : It} (h : Mem S (x :: y :: σ) ρ w) : Mem S (y :: x :: σ) ρ w := by
  have hp : ((x :: y :: σ).flatMap It.ids).Perm ((y :: x :: σ).flatMap It.ids) := by
    simp only [List.flatMap_cons, ← List.append_assoc]
    exact List.Perm.append_right _ List.perm_append_comm
  refine ⟨h.ext, fun z hz => h.out z ?_, hp.nodup_iff.1 h.nodup, fun z hz => h.hold z ?_, fun z hz => z.grow _ _ w (fun k hk => .inl (hp.mem_iff.2 hk)) (h.dat z hz)⟩
  all_goals
    simp only [List.mem_cons] at hz ⊢
    rcases hz with h1 | h1 | h1 <;> simp [h1]

end
end Go.Proofs.YtickdhjljpnlpaaGreatDoor
/-
  Batches: whether two are the same; the document's Parse, over the engine.
-/
namespace Go.Proofs.YtickdhjljpnlpaaGreatDoor
open Go.RowKit

/-! ### The same -/
structure Ent.Lits (e : Ent) : Prop where
  client : InR .i64 e.core.client
  stamp : InR .i64 e.core.stamp
  op : InR .i64 e.core.op
  a : InR .i64 e.core.a
  b : InR .i64 e.core.b
  letter : e.core.letter.size ≤ maxLen
  text : e.core.text.size ≤ maxLen
  mask : e.mask < 4294967296
noncomputable instance : DecidableEq Ent := fun _ _ => Classical.propDecidable _
theorem wfI {a : Int} (h : InR .i64 a) : (Lit.int .i64 a).wf = true := by
  obtain ⟨h0, h1⟩ := h
  simp only [lo, hi] at h0 h1
  simp [Lit.wf, IntKind.min, IntKind.max, IntKind.signed, IntKind.bits]; omega
section
variable {S : List (World × List Nat)} {σ τ : Blks} {ρ : List Dt} {w : World} {p : Nat} {s : Rd}

end
section
variable {S : List (World × List Nat)} {σ τ : Blks} {ρ : List Dt} {w : World} {P : Program} {n : Nat} {l : Slots} {D : World → Prop} {o : Oper} {v u : Value}
theorem Val.to (h : Val P n l D o v) (e : v = u) : Val P n l D o u := e ▸ h
end
end Go.Proofs.YtickdhjljpnlpaaGreatDoor
/-
  Batches, in plain Lean: the program's Parse answers as the document's.
-/
namespace Go.Proofs.YtickdhjljpnlpaaGreatDoor
open Go.RowKit

theorem Rd.fixed_bad {s : Rd} (h : s.e ≠ 0) (n : Int) : s.fixed n = s := if_pos h
theorem Rd.fixed_ok {s : Rd} {n : Int} (h : (s.fixed n).e = 0) : s.e = 0 ∧ 0 ≤ n ∧ n ≤ s.l.length ∧ s.fixed n = ⟨tailV s.v n.toNat, s.l.drop n.toNat, 0⟩ := by
  by_cases he : s.e = 0
  · by_cases hb : s.bad n
    · rw [Rd.fixed, if_neg (by simpa using he), if_pos hb] at h
      exact absurd h (by show ¬ (2 : Int) = 0; decide)
    · rw [Rd.fixed, if_neg (by simpa using he), if_neg hb]
      unfold Rd.bad at hb
      exact ⟨he, by omega, by omega, rfl⟩
  · rw [Rd.fixed_bad he] at h
    exact absurd h he
theorem row_less {s : Rd} {L : Int} (h : (s.row L).e = 0) : (s.row L).l.length + 4 ≤ s.l.length := by
  unfold Rd.row at h ⊢
  by_cases he : (s.fixed 4).e = 0
  · obtain ⟨_, _, h3, h4⟩ := Rd.fixed_ok he
    rw [if_neg (by simpa using he)] at h ⊢
    split at h
    · exact absurd h (by show ¬ (3 : Int) = 0; decide)
    · rename_i hn
      rw [if_neg hn]
      have h5 := (s.fixed 4).fixed_length (s.num 4)
      have h6 : (s.fixed 4).l.length = s.l.length - 4 := by rw [h4]; simp
      omega
  · rw [if_pos he] at h
    exact absurd h he
end Go.Proofs.YtickdhjljpnlpaaGreatDoor
/-
  Batches, in plain Lean: what is written reads back.
-/
namespace Go.Proofs.YtickdhjljpnlpaaGreatDoor
open Go.RowKit

/-- A reader that has not failed, ahead of these bytes. -/
def Rd.At (s : Rd) (l : List UInt8) : Prop := s.e = 0 ∧ s.l = l
theorem at_fixed {s : Rd} {x r : List UInt8} (h : s.At (x ++ r)) {n : Int} (hn : n = x.length) : (s.fixed n).At r ∧ s.out n = x := by
  obtain ⟨h1, h2⟩ := h
  have hb : ¬ s.bad n := by
    unfold Rd.bad
    rw [h2, List.length_append]
    omega
  have ht : n.toNat = x.length := by omega
  unfold Rd.At Rd.fixed Rd.out
  simp only [h1, ne_eq, not_true_eq_false, if_false, hb, h2, ht]
  simp
theorem at_num {s : Rd} {r : List UInt8} {v k : Nat} (h : s.At (beBytes v k ++ r)) (hv : v < 256 ^ k) {n : Int} (hn : n = k) : (s.fixed n).At r ∧ s.num n = v := by
  obtain ⟨h1, h2⟩ := at_fixed h (n := n) (by rw [beBytes_length]; exact hn)
  exact ⟨h1, by rw [Rd.num, h2, beVal_be v k hv]⟩
theorem at_row {s : Rd} {x r : List UInt8} {most : Int} (h : s.At (rowB x ++ r)) (hx : x.length ≤ most) (hx2 : x.length < 4294967296) : (s.row most).At r ∧ s.rowOut most = x := by
  unfold rowB at h
  rw [List.append_assoc] at h
  obtain ⟨h1, h2⟩ := at_num h (by omega) (n := 4) rfl
  obtain ⟨h3, h4⟩ := at_fixed h1 (n := s.num 4) (by rw [h2])
  have hm : ¬ most < s.num 4 := by rw [h2]; omega
  unfold Rd.row Rd.rowOut
  simp only [h1.1, ne_eq, not_true_eq_false, if_false, hm]
  exact ⟨h3, h4⟩
theorem sg_u64 {a : Int} (h : InR .i64 a) : sg (u64 a) = a := by
  obtain ⟨h1, h2⟩ := h
  simp only [lo, hi] at h1 h2
  unfold sg u64
  simp [IntKind.wrap, IntKind.bits, IntKind.signed]
  split <;> omega
/-- A core that may be written and read. -/
structure Core.Back (c : Core) : Prop where
  client : 0 ≤ c.client ∧ c.client < 256
  stamp : InR .i64 c.stamp
  op : 0 ≤ c.op ∧ c.op < 256
  a : InR .i64 c.a
  b : InR .i64 c.b
/-- An entry that may be written and read. -/
structure Ent.Back (e : Ent) : Prop where
  core : e.core.Back
  mask : e.mask < 256
  len : e.core.bytes.length ≤ 100000
theorem check_ok {c : Core} {n : Int} (h : c.check n = 0) : 1 ≤ n ∧ n ≤ 7 ∧ n ≤ c.client ∧ c.client < n + 4 ∧ 1 ≤ c.stamp ∧ c.stamp ≤ 1099511627776 ∧ 1 ≤ c.op ∧ c.op ≤ 9 ∧ nameB c.letter = true ∧ c.text.size ≤ 200 := by
  unfold Core.check at h
  split at h
  · exact absurd h (by decide)
  · split at h
    · exact absurd h (by decide)
    · split at h
      · exact absurd h (by decide)
      · split at h
        · exact absurd h (by decide)
        · split at h
          · exact absurd h (by decide)
          · rename_i h4 _
            rw [Bool.not_eq_false] at h4
            exact ⟨by omega, by omega, by omega, by omega, by omega, by omega, by omega, by omega, h4, by omega⟩
end Go.Proofs.YtickdhjljpnlpaaGreatDoor
/-
  The second engine: a text as a row of bytes.
-/
namespace Go.Proofs.YtickdhjljpnlpaaGreatDoor.A
open Go.RowKit

section
variable {n : Nat} {W : Wd} {σ : Blks} {l : Slots} {x : Operand} {d : Option Nat} {ty t e : TypeId} {pos : String} {aft : Array Edge} {g : Option (Nat × Bool)} {s : ByteArray}
/-- '[]byte(s)'. -/
theorem Eff.strBytes (hx : look l x = some (.v (.string s))) (ht : Tryz.prog.underlying t = some .string) (hd : Tryz.prog.underlying e = some (.slice 5)) (hs : s.size ≤ lots) : Eff Tryz.prog n W σ l [] ⟨d, .convert t e x, ty, pos, aft, g⟩ fun y τ => y = byt (tx s) ∧ τ = σ := fun a w h => by
  have hrun := Lib.run_convert_string_bytes (P := Tryz.prog) w t e 5 s ht hd Tryz.underlying5
  have hc := grownCap_le w s.size 0 5 (by unfold lots at hs; unfold maxLen; omega)
  have hx1 : Ext [] w (Lib.bytesWorld w 5 s) := ⟨rfl, rfl, rfl, by rw [Lib.bytesWorld_size]; omega, fun k hk _ => Lib.bytesWorld_at_old w _ s k hk⟩
  obtain ⟨hm, hcar⟩ := h.mem.same hx1
  refine ⟨.slice (some ⟨w.heap.size, 0, none⟩) s.size (grownCap w s.size 0 5), _, _, _, ⟨rfl, rfl⟩, hx1, rep_byt.2 ⟨⟨some ⟨w.heap.size, 0, none⟩, _, by simp [tx], by simpa [tx] using hc.1, hc.2, by simp⟩, fun _ => ⟨w.heap.size, 0, s.size, _, rfl, fun hk => ?_, fun j u hu => ?_⟩⟩, hm, hcar, .inl ?_⟩
  · have := h.mem.lt _ hk; omega
  · rw [Nat.zero_add]
    rw [List.getElem?_map] at hu
    have hj : j < s.size := by
      rcases Nat.lt_or_ge j s.size with h | h
      · exact h
      · rw [List.getElem?_eq_none (by simpa [tx] using h)] at hu; cases hu
    rw [Lib.bytesWorld_cell w _ s j hj, ← hu, List.getElem?_eq_getElem (by simpa [tx] using hj), List.getD_eq_getElem?_getD, List.getElem?_eq_getElem (by simpa using hj)]
    rfl
  · simp only [execOp, h.plain hx, hrun, Sem.run_bind, Result.andThen_ok, Sem.run_pure]
end
end Go.Proofs.YtickdhjljpnlpaaGreatDoor.A
/-
  Ledgers, plain: what they are as bytes, and read out of bytes; what is written reads back; both ways to read tell the same.
-/
namespace Go.Proofs.YtickdhjljpnlpaaGreatDoor.A
open Go.RowKit

section
variable {P : Program} {n : Nat} {W : Wd} {σ : Blks} {l : Slots} {X : List Nat} {x y : Operand} {d : Option Nat} {ty t t' : TypeId} {pos : String} {aft : Array Edge} {g : Option (Nat × Bool)} {s r : ByteArray}
/-- 's < r' of texts. -/
theorem Val.ltS (hx : look l x = some (.v (.string s))) (hy : look l y = some (.v (.string r))) : Val P n W σ l X ⟨d, .binOp .lss t x y t', ty, pos, aft, g⟩ (.v (.bool (decide (ltB s r)))) := fun a w hs _ => by
  refine ⟨_, rfl, fun w' _ => ?_⟩
  simp [execOp, hs.plain hx, hs.plain hy, eqGuard, binOp, Op.stringOp, Proofs.bytesLess_eq, Lib.toList_data, ltB]
end
noncomputable instance (x : Ltr) : Decidable (LtR x) := Classical.propDecidable _
noncomputable instance (o : Oc) : Decidable (OcR o) := Classical.propDecidable _
/-- Whether a ledger may be, as an error. -/
noncomputable def Lg.chk (l : Lg) : Int := if l.Right then 0 else 2
/-! ### Written -/
def ltrByt (x : Ltr) : List UInt8 := beBytes (tx x.name).length 4 ++ tx x.name ++ beBytes (u64 x.state) 1 ++ beBytes (u64 x.amount) 8 ++ beBytes (u64 x.due) 8 ++ beBytes (tx x.policy).length 4 ++ tx x.policy ++ beBytes (tx x.papers).length 4 ++ tx x.papers
def Oc.bytes (o : Oc) : List UInt8 := beBytes (u64 o.client) 1 ++ beBytes (u64 o.stamp) 8 ++ beBytes (u64 o.result) 1
def ltrsB (ls : List Ltr) : List UInt8 := ls.flatMap ltrByt
def ocsB (os : List Oc) : List UInt8 := os.flatMap Oc.bytes
def Lg.head (l : Lg) : List UInt8 := [] ++ beBytes (u64 l.seq) 8 ++ beBytes (u64 l.total) 8 ++ beBytes l.ls.length 2
def Lg.bytes (l : Lg) : List UInt8 := l.head ++ ltrsB l.ls ++ beBytes l.os.length 2 ++ ocsB l.os
theorem Lg.head_length (l : Lg) : l.head.length = 18 := by
  unfold Lg.head
  simp only [List.length_append, beBytes_length, List.length_nil]
theorem ltrByt_length (x : Ltr) : (ltrByt x).length = 29 + x.name.size + x.policy.size + x.papers.size := by
  unfold ltrByt
  simp only [List.length_append, beBytes_length, tx_len]
  omega
theorem Oc.bytes_length (o : Oc) : o.bytes.length = 10 := by
  unfold Oc.bytes
  simp only [List.length_append, beBytes_length]
theorem ltrsB_length : ∀ {ls : List Ltr}, (∀ x ∈ ls, LtR x) → (ltrsB ls).length ≤ 500 * ls.length
  | [], _ => Nat.le_refl _
  | x :: ls, h => by
    have h1 := h x List.mem_cons_self
    have h2 := ltrsB_length (ls := ls) fun y hy => h y (List.mem_cons_of_mem _ hy)
    have h3 := h1.policy
    have h4 := h1.papers
    have h5 : x.name.size ≤ 16 := by
      have := h1.name
      unfold nameB at this
      simp only [Bool.and_eq_true, decide_eq_true_eq] at this
      omega
    show ((ltrByt x) ++ ltrsB ls).length ≤ _
    rw [List.length_append, ltrByt_length, List.length_cons]
    omega
theorem ocsB_length (os : List Oc) : (ocsB os).length = 10 * os.length := by
  induction os with
  | nil => rfl
  | cons o os ih =>
    show (o.bytes ++ ocsB os).length = _
    rw [List.length_append, ih, Oc.bytes_length, List.length_cons]
    omega
theorem LtsR.all {ls : List Ltr} (h : LtsR ls) : ∀ x ∈ ls, LtR x := fun x hx => by
  obtain ⟨j, hj, rfl⟩ := List.getElem_of_mem hx
  exact h.each j hj
theorem OcsR.all {os : List Oc} (h : OcsR os) : ∀ x ∈ os, OcR x := fun x hx => by
  obtain ⟨j, hj, rfl⟩ := List.getElem_of_mem hx
  exact h.each j hj
theorem Lg.Right.bytes {l : Lg} (h : l.Right) : l.bytes.length ≤ 9000 := by
  have h1 := ltrsB_length h.ls.all
  have h2 := h.lsFew
  have h3 := h.few
  unfold Lg.bytes
  simp only [List.length_append, beBytes_length, Lg.head_length, ocsB_length]
  omega
/-! ### Read -/
def mkS (m : List UInt8) : ByteArray := ⟨m.toArray⟩
theorem mkS_tx (s : ByteArray) : mkS (tx s) = s := tx_inj (tx_mk _)
def Rd.l1 (s : Rd) : Rd := s.row 16
def Rd.l2 (s : Rd) : Rd := (Rd.l1 s).fixed 1
def Rd.l3 (s : Rd) : Rd := (Rd.l2 s).fixed 8
def Rd.l4 (s : Rd) : Rd := (Rd.l3 s).fixed 8
def Rd.l5 (s : Rd) : Rd := (Rd.l4 s).row 200
def Rd.l6 (s : Rd) : Rd := (Rd.l5 s).row 200
def Rd.ltr (s : Rd) : Ltr := ⟨mkS (s.rowOut 16), IntKind.i64.wrap ((Rd.l1 s).num 1 : Nat), IntKind.i64.wrap ((Rd.l2 s).num 8 : Nat), IntKind.i64.wrap ((Rd.l3 s).num 8 : Nat), mkS ((Rd.l4 s).rowOut 200), mkS ((Rd.l5 s).rowOut 200)⟩
def Rd.o3 (s : Rd) : Rd := ((s.fixed 1).fixed 8).fixed 1
def Rd.oc (s : Rd) : Oc := ⟨IntKind.i64.wrap (s.num 1 : Nat), IntKind.i64.wrap ((s.fixed 1).num 8 : Nat), IntKind.i64.wrap (((s.fixed 1).fixed 8).num 1 : Nat)⟩
/-- So many, whether it fails or not. -/
def Rd.allG {α : Type} (one : Rd → α) (nx : Rd → Rd) : Nat → Rd → List α → List α × Rd
  | 0, s, acc => (acc, s)
  | k + 1, s, acc => Rd.allG one nx k (nx s) (acc ++ [one s])
def Rd.lgH (m : List UInt8) : Rd := ((Rd.of m).fixed 8).fixed 8
noncomputable def Rd.lgL (m : List UInt8) : List Ltr × Rd := Rd.allG Rd.ltr Rd.l6 ((Rd.lgH m).countN 16) ((Rd.lgH m).count 16) []
noncomputable def Rd.lgO (m : List UInt8) : List Oc × Rd := Rd.allG Rd.oc Rd.o3 ((Rd.lgL m).2.countN 4) ((Rd.lgL m).2.count 4) []
noncomputable def Rd.lg (m : List UInt8) : Lg := ⟨IntKind.i64.wrap ((Rd.of m).num 8 : Nat), IntKind.i64.wrap (((Rd.of m).fixed 8).num 8 : Nat), (Rd.lgL m).1, (Rd.lgO m).1⟩
noncomputable def parseL (m : List UInt8) : Lg × Int := if (Rd.lgO m).2.end_ ≠ 0 ∨ ¬ (Rd.lg m).Right then (Lg.zero, 2) else (Rd.lg m, 0)
theorem countL_length (s : Rd) (most : Int) : (s.count most).l.length ≤ s.l.length := by
  unfold Rd.count
  have := s.fixed_length 2
  split
  · exact this
  · exact this
theorem countNL_lt (s : Rd) (most : Int) : s.countN most < 65536 := by
  unfold Rd.countN
  split
  · omega
  · exact s.num_lt (n := 2) (k := 2) (Nat.le_refl _)
theorem l6_length (s : Rd) : (Rd.l6 s).l.length ≤ s.l.length := by
  have h1 := Rd.row_length s 16
  have h2 := (Rd.l1 s).fixed_length 1
  have h3 := (Rd.l2 s).fixed_length 8
  have h4 := (Rd.l3 s).fixed_length 8
  have h5 := Rd.row_length (Rd.l4 s) 200
  have h6 := Rd.row_length (Rd.l5 s) 200
  unfold Rd.l6
  unfold Rd.l1 at h2
  unfold Rd.l2 at h3
  unfold Rd.l3 at h4
  unfold Rd.l4 at h5
  unfold Rd.l5 at h6
  unfold Rd.l5 Rd.l4 Rd.l3 Rd.l2 Rd.l1 at *
  omega
theorem o3_length (s : Rd) : (Rd.o3 s).l.length ≤ s.l.length := by
  have h2 := s.fixed_length 1
  have h3 := (s.fixed 1).fixed_length 8
  have h4 := ((s.fixed 1).fixed 8).fixed_length 1
  unfold Rd.o3
  omega
theorem all_left {α : Type} {one : Rd → α} {nx : Rd → Rd} (hn : ∀ s : Rd, (nx s).l.length ≤ s.l.length) : ∀ (k : Nat) (s : Rd) (acc : List α), (Rd.allG one nx k s acc).1.length = acc.length + k ∧ (Rd.allG one nx k s acc).2.l.length ≤ s.l.length
  | 0, s, acc => ⟨rfl, Nat.le_refl _⟩
  | k + 1, s, acc => by
    have h1 := all_left (one := one) hn k (nx s) (acc ++ [one s])
    have h2 := hn s
    rw [List.length_append, List.length_singleton] at h1
    unfold Rd.allG
    omega
theorem wrap_i64 (a : Int) : i64ok (IntKind.i64.wrap a) := by
  unfold i64ok
  simp [IntKind.wrap, IntKind.bits, IntKind.signed]
  split <;> omega
/-! ### Both tell the same -/
theorem at_countL {s : Rd} {r : List UInt8} {k : Nat} {most : Int} (h : s.At (beBytes k 2 ++ r)) (hk : k < 65536) (hm : (k : Int) ≤ most) : (s.count most).At r ∧ s.countN most = k := by
  obtain ⟨h1, h2⟩ := at_num h (by omega) (n := 2) rfl
  have h3 : ¬ ((s.fixed 2).e = 0 ∧ most < s.num 2) := by rw [h2]; omega
  unfold Rd.count Rd.countN
  rw [if_neg h3, if_neg h3]
  exact ⟨h1, h2⟩
theorem wrap_u64 {a : Int} (h : i64ok a) : IntKind.i64.wrap (u64 a : Nat) = a := sg_u64 (show InR .i64 a by unfold i64ok at h; simp only [InR, lo, hi]; omega)
theorem u64_small {a : Int} (h : 0 ≤ a ∧ a < 256) : u64 a < 256 ^ 1 := by
  unfold u64
  rw [Int.emod_eq_of_lt h.1 (by omega)]
  omega
theorem u64_lt8L (a : Int) : u64 a < 256 ^ 8 := by
  have := u64_lt a
  omega
theorem all_back {α : Type} {one : Rd → α} {nx : Rd → Rd} {enc : α → List UInt8} {Ok : α → Prop} (hone : ∀ (a : α) (s : Rd) (r : List UInt8), Ok a → s.At (enc a ++ r) → one s = a ∧ (nx s).At r) {r : List UInt8} : ∀ (xs : List α) (s : Rd) (acc : List α), (∀ a ∈ xs, Ok a) → s.At (xs.flatMap enc ++ r) → ∃ t : Rd, t.At r ∧ Rd.allG one nx xs.length s acc = (acc ++ xs, t)
  | [], s, acc, _, h => ⟨s, h, by simp [Rd.allG]⟩
  | a :: xs, s, acc, hok, h => by
    have e1 : (a :: xs).flatMap enc ++ r = enc a ++ (xs.flatMap enc ++ r) := by simp
    rw [e1] at h
    obtain ⟨h1, h2⟩ := hone a s _ (hok a List.mem_cons_self) h
    obtain ⟨t, ht, hr⟩ := all_back hone xs (nx s) (acc ++ [a]) (fun y hy => hok y (List.mem_cons_of_mem _ hy)) h2
    refine ⟨t, ht, ?_⟩
    rw [List.length_cons]
    unfold Rd.allG
    rw [h1, hr]
    simp
theorem ltr_back (x : Ltr) (s : Rd) (r : List UInt8) (hx : LtR x) (h : s.At ((ltrByt x) ++ r)) : Rd.ltr s = x ∧ (Rd.l6 s).At r := by
  have hn : x.name.size ≤ 16 := by
    have := hx.name
    unfold nameB at this
    simp only [Bool.and_eq_true, decide_eq_true_eq] at this
    omega
  have h3 := hx.policy
  have h4 := hx.papers
  have e1 : (ltrByt x) ++ r = rowB (tx x.name) ++ (beBytes (u64 x.state) 1 ++ (beBytes (u64 x.amount) 8 ++ (beBytes (u64 x.due) 8 ++ (rowB (tx x.policy) ++ (rowB (tx x.papers) ++ r))))) := by
    simp [ltrByt, rowB]
  rw [e1] at h
  obtain ⟨a1, b1⟩ := at_row (most := 16) h (by rw [tx_len]; omega) (by rw [tx_len]; omega)
  have ha := hx.amount
  have hs := hx.state
  have hd := amt_i64 hx.due
  obtain ⟨a2, b2⟩ := at_num a1 (u64_small (by omega)) (n := 1) rfl
  obtain ⟨a3, b3⟩ := at_num a2 (u64_lt8L _) (n := 8) rfl
  obtain ⟨a4, b4⟩ := at_num a3 (u64_lt8L _) (n := 8) rfl
  obtain ⟨a5, b5⟩ := at_row (most := 200) a4 (by rw [tx_len]; omega) (by rw [tx_len]; omega)
  obtain ⟨a6, b6⟩ := at_row (most := 200) a5 (by rw [tx_len]; omega) (by rw [tx_len]; omega)
  refine ⟨?_, a6⟩
  unfold Rd.ltr Rd.l5 Rd.l4 Rd.l3 Rd.l2 Rd.l1
  rw [b1, b2, b3, b4, b5, b6, mkS_tx, mkS_tx, mkS_tx, wrap_u64 (by unfold i64ok; omega), wrap_u64 (by unfold i64ok; omega), wrap_u64 hd]
theorem oc_back (o : Oc) (s : Rd) (r : List UInt8) (ho : OcR o) (h : s.At (o.bytes ++ r)) : Rd.oc s = o ∧ (Rd.o3 s).At r := by
  have h1 := ho.client
  have h2 := ho.stamp
  have h3 := ho.result
  have e1 : o.bytes ++ r = beBytes (u64 o.client) 1 ++ (beBytes (u64 o.stamp) 8 ++ (beBytes (u64 o.result) 1 ++ r)) := by
    simp [Oc.bytes]
  rw [e1] at h
  obtain ⟨a1, b1⟩ := at_num h (u64_small (by omega)) (n := 1) rfl
  obtain ⟨a2, b2⟩ := at_num a1 (u64_lt8L _) (n := 8) rfl
  obtain ⟨a3, b3⟩ := at_num a2 (u64_small (by omega)) (n := 1) rfl
  refine ⟨?_, a3⟩
  unfold Rd.oc
  rw [b1, b2, b3, wrap_u64 (by unfold i64ok; omega), wrap_u64 (by unfold i64ok; omega), wrap_u64 (by unfold i64ok; omega)]
/-- A ledger that may be reads back. -/
theorem lg_back {l : Lg} (h : l.Right) : parseL l.bytes = (l, 0) := by
  have e0 : l.bytes = beBytes (u64 l.seq) 8 ++ (beBytes (u64 l.total) 8 ++ (beBytes l.ls.length 2 ++ (l.ls.flatMap ltrByt ++ (beBytes l.os.length 2 ++ (l.os.flatMap Oc.bytes ++ []))))) := by
    simp [Lg.bytes, Lg.head, ltrsB, ocsB]
  have hs := h.seq
  have ht := amt_i64 h.total
  have h1 := h.few
  have h2 := h.lsFew
  have hat : (Rd.of l.bytes).At _ := ⟨rfl, e0⟩
  obtain ⟨a1, b1⟩ := at_num hat (u64_lt8L _) (n := 8) rfl
  obtain ⟨a2, b2⟩ := at_num a1 (u64_lt8L _) (n := 8) rfl
  have a2' : (Rd.lgH l.bytes).At _ := a2
  obtain ⟨a3, b3⟩ := at_countL (most := 16) a2' (by omega) (by omega)
  obtain ⟨t1, a4, b4⟩ := all_back ltr_back l.ls _ [] h.ls.all a3
  have hp1 : Rd.lgL l.bytes = (l.ls, t1) := by unfold Rd.lgL; rw [b3, b4]; rfl
  obtain ⟨a5, b5⟩ := at_countL (most := 4) a4 (by omega) (by omega)
  obtain ⟨t2, a6, b6⟩ := all_back oc_back l.os _ [] h.os.all a5
  have hp2 : Rd.lgO l.bytes = (l.os, t2) := by unfold Rd.lgO; rw [hp1]; dsimp only; rw [b5, b6]; rfl
  have hend : t2.end_ = 0 := by
    unfold Rd.end_
    rw [a6.1, a6.2]
    simp
  have hc : Rd.lg l.bytes = l := by
    unfold Rd.lg
    rw [hp1, hp2, b1, b2, wrap_u64 (by unfold i64ok; omega), wrap_u64 ht]
  unfold parseL
  rw [hc, hp2, if_neg (by
    rintro (h9 | h9)
    · exact h9 hend
    · exact h9 h)]
theorem parseL_right {m : List UInt8} (h : (parseL m).2 = 0) : (parseL m).1.Right := by
  unfold parseL at h ⊢
  split
  · next hc => rw [if_pos hc] at h; cases h
  · next hc => exact Classical.byContradiction fun h9 => hc (.inr h9)
end Go.Proofs.YtickdhjljpnlpaaGreatDoor.A
/-
  Rows with keys in order, plain: what is put in keeps the order; unlike keys may go in any order.
-/
namespace Go.Proofs.YtickdhjljpnlpaaGreatDoor.A
open Go.RowKit

/-- Keys in a strict order. -/
structure KOrd {α κ : Type} (key : α → κ) (lt : κ → κ → Prop) (eq gt : κ → α → Bool) : Prop where
  irr : ∀ k, ¬ lt k k
  trans : ∀ {a b c}, lt a b → lt b c → lt a c
  tri : ∀ a b, lt a b ∨ a = b ∨ lt b a
  eq_ : ∀ k x, eq k x = true ↔ key x = k
  gt_ : ∀ k x, gt k x = true ↔ lt k (key x)
theorem ltrOrd : KOrd (fun x : Ltr => x.name) ltB eqL gtL := ⟨ltB_irr, ltB_trans, ltB_tri, fun _ _ => decide_eq_true_iff, fun _ _ => decide_eq_true_iff⟩
theorem ocOrd : KOrd (fun o : Oc => o.client) (fun a b : Int => a < b) eqO gtO := ⟨fun k => by omega, fun h k => by omega, fun a b => by omega, fun _ _ => decide_eq_true_iff, fun _ _ => decide_eq_true_iff⟩
section
variable {α κ : Type} {key : α → κ} {lt : κ → κ → Prop} {eq gt : κ → α → Bool}
/-- In order. -/
def Asc (key : α → κ) (lt : κ → κ → Prop) (l : List α) : Prop := (l.map key).Pairwise lt
theorem Asc.of_adj (h : KOrd key lt eq gt) {l : List α} (ha : ∀ j (hj : j < l.length), 0 < j → lt (key (l[j - 1]'(by omega))) (key l[j])) : Asc key lt l := by
  unfold Asc
  rw [List.pairwise_iff_getElem]
  intro i j hi hj hij
  simp only [List.length_map] at hi hj
  simp only [List.getElem_map]
  have aux : ∀ d (hd : i + d + 1 < l.length), lt (key (l[i]'hi)) (key (l[i + d + 1]'hd)) := by
    intro d
    induction d with
    | zero => intro hd; exact ha (i + 1) hd (by omega)
    | succ d ih => intro hd; exact h.trans (ih (by omega)) (ha (i + (d + 1) + 1) hd (by omega))
  have h2 := aux (j - i - 1) (by omega)
  simpa only [show i + (j - i - 1) + 1 = j by omega] using h2
theorem Asc.adj {l : List α} (h : Asc key lt l) : ∀ j (hj : j < l.length), 0 < j → lt (key (l[j - 1]'(by omega))) (key l[j]) := fun j hj h0 => by
  unfold Asc at h
  rw [List.pairwise_iff_getElem] at h
  have := h (j - 1) j (by rw [List.length_map]; omega) (by rw [List.length_map]; omega) (by omega)
  simpa only [List.getElem_map] using this
theorem asc_cons {x : α} {l : List α} : Asc key lt (x :: l) ↔ (∀ y ∈ l, lt (key x) (key y)) ∧ Asc key lt l := by
  unfold Asc
  rw [List.map_cons, List.pairwise_cons]
  simp
theorem putG_keys {x : α} (h : KOrd key lt eq gt) : ∀ {l : List α}, l.any (eq (key x)) = true → (putG (eq (key x)) true x l).map key = l.map key
  | [], hl => by simp at hl
  | y :: l, hl => by
    unfold putG
    by_cases hy : eq (key x) y = true
    · rw [if_pos hy, if_pos rfl, List.map_cons, List.map_cons, (h.eq_ _ _).1 hy]
    · have h1 : l.any (eq (key x)) = true := by simpa [hy] using hl
      rw [if_neg hy, List.map_cons, List.map_cons, putG_keys h h1]
theorem putG_asc {x : α} (h : KOrd key lt eq gt) : ∀ {l : List α}, l.any (eq (key x)) = false → Asc key lt l → Asc key lt (putG (gt (key x)) false x l)
  | [], _, _ => by simp [putG, Asc]
  | y :: l, hn, ha => by
    obtain ⟨h1, h2⟩ := asc_cons.1 ha
    simp only [List.any_cons, Bool.or_eq_false_iff] at hn
    unfold putG
    by_cases hy : gt (key x) y = true
    · rw [if_pos hy, if_neg (by decide)]
      have hxy := (h.gt_ _ _).1 hy
      refine asc_cons.2 ⟨fun z hz => ?_, ha⟩
      rcases List.mem_cons.1 hz with rfl | hz
      · exact hxy
      · exact h.trans hxy (h1 z hz)
    · rw [if_neg hy]
      refine asc_cons.2 ⟨fun z hz => ?_, putG_asc h hn.2 h2⟩
      rcases putG_mem hz with rfl | hz
      · rcases h.tri (key y) (key z) with h3 | h3 | h3
        · exact h3
        · have := (h.eq_ (key z) y).2 h3
          rw [hn.1] at this; cases this
        · exact absurd ((h.gt_ _ _).2 h3) hy
      · exact h1 z hz
theorem withG_asc {x : α} (h : KOrd key lt eq gt) {l : List α} (ha : Asc key lt l) : Asc key lt (withG (eq (key x)) (gt (key x)) x l) := by
  unfold withG
  split
  · next hl => unfold Asc; rw [putG_keys h hl]; exact ha
  · next hl => exact putG_asc h (by simpa using hl) ha
/-- Sums. -/
theorem putG_sum {p : α → Bool} {x : α} (f : α → Int) : ∀ {l : List α}, ((putG p false x l).map f).sum = (l.map f).sum + f x
  | [] => by simp [putG]
  | y :: l => by
    unfold putG
    by_cases hy : p y = true
    · rw [if_pos hy, if_neg (by decide)]
      simp only [List.map_cons, List.sum_cons]
      omega
    · rw [if_neg hy]
      simp only [List.map_cons, List.sum_cons]
      rw [putG_sum f]
      omega
theorem putG_sum1 {p : α → Bool} {x y : α} (f : α → Int) : ∀ {l : List α}, l.find? p = some y → ((putG p true x l).map f).sum = (l.map f).sum + f x - f y
  | [], h => by cases h
  | z :: l, h => by
    unfold putG
    by_cases hz : p z = true
    · rw [List.find?_cons, hz] at h
      cases h
      rw [if_pos hz, if_pos rfl]
      simp only [List.map_cons, List.sum_cons]
      omega
    · rw [List.find?_cons, show p z = false by simpa using hz] at h
      rw [if_neg hz]
      simp only [List.map_cons, List.sum_cons]
      rw [putG_sum1 f h]
      omega
end
theorem LtsR.asc {ls : List Ltr} (h : LtsR ls) : Asc (fun x : Ltr => x.name) ltB ls := Asc.of_adj ltrOrd h.rise
theorem OcsR.asc {os : List Oc} (h : OcsR os) : Asc (fun o : Oc => o.client) (fun a b : Int => a < b) os := Asc.of_adj ocOrd h.rise
theorem LtsR.mk' {ls : List Ltr} (h : ∀ x ∈ ls, LtR x) (ha : Asc (fun x : Ltr => x.name) ltB ls) : LtsR ls := ⟨fun j hj => h _ (List.getElem_mem hj), ha.adj⟩
theorem OcsR.mk' {os : List Oc} (h : ∀ x ∈ os, OcR x) (ha : Asc (fun o : Oc => o.client) (fun a b : Int => a < b) os) : OcsR os := ⟨fun j hj => h _ (List.getElem_mem hj), ha.adj⟩
/-- So few, if their numbers are so few. -/
theorem asc_few {os : List Oc} : ∀ {lo_ up : Int}, Asc (fun o : Oc => o.client) (fun a b : Int => a < b) os → (∀ o ∈ os, lo_ ≤ o.client ∧ o.client < up) → (os.length : Int) ≤ max (up - lo_) 0 := by
  induction os with
  | nil => intro lo_ up _ _; simp; omega
  | cons o os ih =>
    intro lo_ up ha hb
    obtain ⟨h1, h2⟩ := asc_cons.1 ha
    have h3 := hb o List.mem_cons_self
    have h4 := ih (lo_ := o.client + 1) (up := up) h2 fun p hp => by
      have h5 := h1 p hp
      have h6 := hb p (List.mem_cons_of_mem _ hp)
      omega
    rw [List.length_cons]
    omega
end Go.Proofs.YtickdhjljpnlpaaGreatDoor.A
/-
  What entries do, plain: what is refused leaves letters; never twice; in any order; ledgers that may be stay so.
-/
namespace Go.Proofs.YtickdhjljpnlpaaGreatDoor.A
open Go.RowKit

section
variable {l : Lg} {x : Ltr} {e : Ent} {c : Core} {n : Int} {op a b : Int} {t : ByteArray}
theorem stepped_ok (h : (l.stepped x c).2 = 0) : (x.step c.op c.a c.b c.text).2 = 0 ∧ (l.with_ (nextL x c)).2 = 0 ∧ (l.stepped x c).1 = (if c.op = 7 then { l.putL (nextL x c) with total := (amtAdd l.total (nextL x c).amount).1 } else l.putL (nextL x c)) ∧ (c.op = 7 → (amtAdd l.total (nextL x c).amount).2 = 0) := by
  by_cases h1 : (x.step c.op c.a c.b c.text).2 ≠ 0
  · rw [stepped_a h1] at h; exact absurd h h1
  · by_cases h2 : (l.with_ (nextL x c)).2 ≠ 0
    · rw [stepped_b h1 h2] at h; exact absurd h h2
    · have h0 := (with_ok h2).1
      by_cases h3 : c.op = 7
      · by_cases h4 : (amtAdd l.total (nextL x c).amount).2 ≠ 0
        · rw [stepped_d h1 h2 h3 h4] at h; cases h
        · rw [stepped_e h1 h2 h3 h4, if_pos h3, h0]
          exact ⟨Classical.byContradiction h1, Classical.byContradiction h2, rfl, fun _ => Classical.byContradiction h4⟩
      · rw [stepped_c h1 h2 h3, if_neg h3, h0]
        exact ⟨Classical.byContradiction h1, Classical.byContradiction h2, rfl, fun h => absurd h h3⟩
theorem step_ok (h : (x.step op a b t).2 = 0) : (1 ≤ op ∧ op ≤ 9) ∧ ltrNext x.state op ≠ 0 ∧ (x.does op a b t).2 = 0 ∧ (x.step op a b t).1 = { (x.does op a b t).1 with state := ltrNext x.state op } := by
  unfold Ltr.step at h ⊢
  split at h
  · cases h
  · next h1 =>
    split at h
    · cases h
    · next h2 =>
      split at h
      · next h3 => exact absurd h h3
      · next h3 =>
        rw [if_neg h1, if_neg h2, if_neg h3]
        exact ⟨by omega, h2, Classical.byContradiction h3, rfl⟩
theorem next_from {s op : Int} (h : ltrNext s op ≠ 0) : (0 ≤ s ∧ s ≤ 3 ∨ s = 4 ∧ op = 7) ∧ (op = 1 ↔ s = 0) ∧ (1 ≤ ltrNext s op ∧ ltrNext s op ≤ 7) ∧ (ltrNext s op = 5 ↔ op = 7) ∧ (op = 7 → s = 4) := by
  unfold ltrNext at h ⊢
  by_cases hs : s < 0
  · rw [if_pos hs] at h; exact absurd rfl h
  · rw [if_neg hs] at h ⊢
    obtain ⟨m, rfl⟩ : ∃ m : Nat, s = (m : Int) := ⟨s.toNat, by omega⟩
    rw [Int.toNat_natCast] at h ⊢
    have hm : m < 8 := by
      rcases Nat.lt_or_ge m 8 with h1 | h1
      · exact h1
      · exfalso
        apply h
        rw [List.getD_eq_getElem?_getD, List.getElem?_eq_none, Option.getD_none]
        have : (ltrRow op).length = 8 := by
          unfold ltrRow
          repeat' split
          all_goals rfl
        omega
    have hcase : m = 0 ∨ m = 1 ∨ m = 2 ∨ m = 3 ∨ m = 4 ∨ m = 5 ∨ m = 6 ∨ m = 7 := by omega
    rcases (by omega : op = 1 ∨ op = 2 ∨ op = 3 ∨ op = 4 ∨ op = 5 ∨ op = 6 ∨ op = 7 ∨ op = 8 ∨ op = 9 ∨ (op < 1 ∨ 9 < op)) with rfl | rfl | rfl | rfl | rfl | rfl | rfl | rfl | rfl | ho
    all_goals try (rcases hcase with rfl | rfl | rfl | rfl | rfl | rfl | rfl | rfl <;> revert h <;> decide)
    exfalso
    have h0 : ltrRow op = [0, 0, 0, 0, 0, 0, 0, 0] := by
      unfold ltrRow
      repeat rw [if_neg (by omega)]
    rw [h0] at h
    rcases hcase with rfl | rfl | rfl | rfl | rfl | rfl | rfl | rfl <;> exact h rfl
/-- An amount that is there, and a state: a letter's beginnings. -/
theorem does_r (hx : op ≠ 1 → LtR x) (h : (x.does op a b t).2 = 0) : (1 ≤ (x.does op a b t).1.amount ∧ (x.does op a b t).1.amount ≤ 1099511627776) ∧ isAmt (x.does op a b t).1.due = true ∧ (x.does op a b t).1.policy.size ≤ 200 ∧ (x.does op a b t).1.papers.size ≤ 200 ∧ (op = 7 → (x.does op a b t).1.amount = x.amount) := by
  unfold Ltr.does at h ⊢
  split at h
  · cases h
  · next h1 =>
    rw [if_neg h1]
    split at h
    · next h2 =>
      subst h2
      rw [if_pos rfl]
      unfold Ltr.apply at h ⊢
      split at h
      · cases h
      · next h3 =>
        split at h
        · cases h
        · next h4 =>
          split at h
          · cases h
          · next h5 =>
            rw [if_neg h3, if_neg h4, if_neg h5]
            have h6 : isAmt a = true := by simpa using h4
            exact ⟨⟨by dsimp only; omega, (isAmt_true h6).2⟩, by simpa using h5, by dsimp only; omega, Nat.zero_le _, fun h => by cases h⟩
    · next h2 =>
      have hr := hx h2
      rw [if_neg h2]
      split at h
      · next h3 =>
        subst h3
        rw [if_pos rfl]
        unfold Ltr.amend at h ⊢
        split at h
        · next h4 => exact absurd h h4
        · next h4 =>
          split at h
          · cases h
          · next h5 =>
            rw [if_neg h4, if_neg h5]
            have h6 := isAmt_true (amtChange_is x.amount a)
            have h7 := not_or.1 h5
            refine ⟨⟨?_, h6.2⟩, ?_, hr.policy, hr.papers, fun h => by cases h⟩
            · dsimp only
              have := h7.1
              omega
            · dsimp only
              split
              · simpa using h7.2
              · exact hr.due
      · next h3 =>
        rw [if_neg h3]
        split at h
        · next h4 => rw [if_pos h4]; exact ⟨hr.amount, hr.due, hr.policy, by dsimp only; omega, fun h => by omega⟩
        · next h4 =>
          rw [if_neg h4]
          split at h
          · next h5 => rw [if_pos h5]; exact ⟨hr.amount, hr.due, hr.policy, Nat.zero_le _, fun h => by omega⟩
          · next h5 =>
            rw [if_neg h5]
            split at h
            · next h6 => rw [if_pos h6]; exact ⟨hr.amount, hr.due, hr.policy, hr.papers, fun h => rfl⟩
            · next h6 => rw [if_neg h6]; exact ⟨hr.amount, hr.due, hr.policy, hr.papers, fun h => rfl⟩
theorem check_ok (h : c.check n = 0) : (1 ≤ n ∧ n ≤ 7) ∧ (n ≤ c.client ∧ c.client < n + 4) ∧ (1 ≤ c.stamp ∧ c.stamp ≤ 1099511627776) ∧ (1 ≤ c.op ∧ c.op ≤ 9) ∧ nameB c.letter = true ∧ c.text.size ≤ 200 := by
  unfold Core.check at h
  split at h
  · cases h
  · split at h
    · cases h
    · split at h
      · cases h
      · split at h
        · cases h
        · next h4 =>
          split at h
          · cases h
          · exact ⟨by omega, by omega, by omega, by omega, by simpa using h4, by omega⟩
/-- What is paid. -/
def paidF (x : Ltr) : Int := if x.state = 5 then x.amount else 0
def paidL (ls : List Ltr) : Int := (ls.map paidF).sum
theorem putL_sum (y : Ltr) : paidL (l.putL y).ls = paidL l.ls + paidF y - paidF (l.old y.name) := by
  show paidL (withG (eqL y.name) (gtL y.name) y l.ls) = _
  unfold withG paidL Lg.old Lg.find
  split
  · next h =>
    rw [find_at h, putG_sum1 paidF (find_at h)]
    rfl
  · next h =>
    rw [find_none h, putG_sum paidF]
    show _ = _ + _ - paidF Ltr.none
    rw [show paidF Ltr.none = 0 from rfl]
    omega
/-- A ledger of four replicas, from the empty one on. -/
structure Lg.Keep (l : Lg) : Prop where
  each : ∀ x ∈ l.ls, LtR x
  asc : Asc (fun x : Ltr => x.name) ltB l.ls
  few : l.ls.length ≤ 16
  os : ∀ o ∈ l.os, OcR o ∧ 4 ≤ o.client ∧ o.client < 8
  oasc : Asc (fun o : Oc => o.client) (fun a b : Int => a < b) l.os
  total : isAmt l.total = true
  paid : l.total = paidL l.ls
theorem Lg.zero_keep : Lg.zero.Keep := ⟨fun x hx => (by cases hx), by simp [Lg.zero, Asc], Nat.zero_le _, fun x hx => (by cases hx), by simp [Lg.zero, Asc], by decide, rfl⟩
theorem stepped_keep (h : l.Keep) (hc : c.check 4 = 0) (hk : l.known c = 0) : (l.stepped (l.old c.letter) c).1.Keep := by
  by_cases h0 : (l.stepped (l.old c.letter) c).2 ≠ 0
  · rw [stepped_same h0]; exact h
  · have h0 := Classical.byContradiction h0
    obtain ⟨g1, g2, g3, g4⟩ := stepped_ok h0
    obtain ⟨k1, k2, k3, k4⟩ := step_ok g1
    obtain ⟨n1, n2, n3, n4, n5⟩ := next_from k2
    obtain ⟨c1, c2, c3, c4, c5, c6⟩ := check_ok hc
    have hx : c.op ≠ 1 → LtR (l.old c.letter) := fun hop => by
      unfold Lg.known at hk
      split at hk
      · cases hk
      · next hk2 =>
        unfold Lg.old
        cases hf : l.find c.letter with
        | none => rw [hf] at hk2; exact absurd ⟨rfl, hop⟩ hk2
        | some y => exact h.each y (find_some hf).1
    obtain ⟨d1, d2, d3, d4, d5⟩ := does_r hx k3
    have hy : LtR (nextL (l.old c.letter) c) := by
      unfold nextL
      rw [k4]
      exact ⟨c5, n3, d1, d2, d3, d4⟩
    have hw := with_ok (l := l) (y := nextL (l.old c.letter) c) (fun h => h g2)
    have hput : ∀ y ∈ (l.putL (nextL (l.old c.letter) c)).ls, LtR y := fun y hm => by
      rcases withG_mem hm with rfl | hm
      · exact hy
      · exact h.each y hm
    have hasc : Asc (fun x : Ltr => x.name) ltB (l.putL (nextL (l.old c.letter) c)).ls := withG_asc ltrOrd h.asc
    have hsum := putL_sum (l := l) (nextL (l.old c.letter) c)
    have hst : (nextL (l.old c.letter) c).state = ltrNext (l.old c.letter).state c.op := by
      show (Ltr.step _ _ _ _ _).1.state = _
      rw [k4]
    have hold : paidF (l.old c.letter) = 0 := by
      unfold paidF
      rw [if_neg (by omega)]
    have hname : (nextL (l.old c.letter) c).name = c.letter := rfl
    rw [hname, hold] at hsum
    by_cases h7 : c.op = 7
    · rw [if_pos h7] at g3
      rw [g3]
      have hpf : paidF (nextL (l.old c.letter) c) = (nextL (l.old c.letter) c).amount := by
        unfold paidF
        rw [if_pos (by rw [hst]; exact n4.2 h7)]
      have hadd : (amtAdd l.total (nextL (l.old c.letter) c).amount).1 = l.total + (nextL (l.old c.letter) c).amount := by
        have h9 := g4 h7
        unfold amtAdd at h9 ⊢
        split at h9
        · cases h9
        · next h10 =>
          rw [if_neg h10]
          split at h9
          · next h11 => rw [if_pos h11]
          · cases h9
      refine ⟨hput, hasc, hw.2.2, h.os, h.oasc, amtAdd_is _ _, ?_⟩
      show (amtAdd l.total _).1 = paidL (l.putL _).ls
      rw [hadd, hsum, hpf, h.paid]
      omega
    · rw [if_neg h7] at g3
      rw [g3]
      have hpf : paidF (nextL (l.old c.letter) c) = 0 := by
        unfold paidF
        rw [if_neg (fun h9 => h7 (n4.1 (hst.symm.trans h9)))]
      refine ⟨hput, hasc, hw.2.2, h.os, h.oasc, h.total, ?_⟩
      show l.total = paidL (l.putL _).ls
      rw [hsum, hpf, h.paid]
      omega
theorem doF_keep (h : l.Keep) : (l.doF e 4).1.Keep := by
  unfold Lg.doF
  split
  · exact h
  · split
    · exact h
    · next h1 h2 =>
      have hc := Classical.byContradiction h2
      obtain ⟨c1, c2, c3, c4, c5, c6⟩ := check_ok hc
      have hr : (l.res e 4).1.Keep := by
        unfold Lg.res
        split
        · exact h
        · next h3 =>
          split
          · exact h
          · exact stepped_keep h hc (Classical.byContradiction h3)
      refine ⟨hr.each, hr.asc, hr.few, fun o ho => ?_, withG_asc ocOrd hr.oasc, hr.total, hr.paid⟩
      rcases withG_mem ho with rfl | ho
      · exact ⟨⟨by dsimp only; omega, c3, res_err⟩, by dsimp only; omega, by dsimp only; omega⟩
      · exact hr.os o ho
theorem goes_keep : ∀ {l : Lg} {es : List Ent}, l.Keep → (Lg.goes 4 l es).1.Keep
  | l, [], h => h
  | l, e :: es, h => goes_keep (es := es) (doF_keep (e := e) h)
theorem Lg.Keep.right (h : l.Keep) {s : Int} (hs : 0 ≤ s ∧ s ≤ 1048576) : ({ l with seq := s } : Lg).Right := by
  have hf := asc_few (lo_ := 4) (up := 8) h.oasc fun o ho => (h.os o ho).2
  exact ⟨OcsR.mk' (fun o ho => (h.os o ho).1) h.oasc, hs, h.total, by show l.os.length ≤ 4; omega, LtsR.mk' h.each h.asc, h.few⟩
/-! ### In any order -/
end
end Go.Proofs.YtickdhjljpnlpaaGreatDoor.A
