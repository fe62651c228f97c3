/-
  Packed out of the texts: A8, Chg1, Chg2, Chg3, C5, C6.
-/
import Derived.Test.YtdbeinbgekdnmaaQ9
/-
  The second engine: arrays, copies, blocks that are only read from then on.
-/
set_option maxRecDepth 100000
set_option linter.unusedSimpArgs false
set_option linter.unusedVariables false
namespace Go.Proofs.Ytdbeinbgekdnmaa.A
open Go.RowKit

section
variable {P : Program} {n : Nat} {W : Wd} {σ τ : Blks} {l : Slots} {X : List Nat} {x y z : Operand} {d : Option Nat} {ty t t' e : TypeId} {pos : String} {aft : Array Edge} {g : Option (Nat × Bool)} {v u : Value} {k k' : IntKind} {a b : Nat} {o : Oper} {A B : Abs} {tab : List (Nat × TI)} {ops : Array Oper} {rest : List Oper} {Q : Exit → Act → World → Prop} {ix : Plan} {xs ys : List (List Abs)} {s q : Nat} {cs : List Abs}
theorem upd_self {x : It} {σ τ : Blks} (h : Upd x x σ τ) : τ = σ := by
  induction h with
  | here => rfl
  | there _ ih => rw [ih]
/-- A block is only read from then on: its address is one of cells that are read. -/
theorem St.freezeB {a : Act} {w : World} {pre post : Blks} {i : Nat} (h : St n W (pre ++ .blk b t cs :: post) l a w) (hs : slot l i = some (.v (.pointer (some ⟨b, 0, none⟩)))) : St n W (pre ++ post) ((i, .rp cs) :: l) a w := by
  have hsub : (pre ++ post).Sublist (pre ++ .blk b t cs :: post) := List.Sublist.append (List.Sublist.refl _) (List.sublist_cons_self _ _)
  obtain ⟨us, hb, hr⟩ := h.mem.hold (.blk b t cs) (by simp)
  have hc := (h.mem.sub hsub).2
  refine (h.less hsub).cast hs fun u hu => ?_
  have : u = .pointer (some ⟨b, 0, none⟩) := hu
  subst this
  refine ⟨b, 0, us, rfl, fun hm => ?_, heap_lt hb, fun j u hu => by rw [Nat.zero_add, mem_cell hb]; exact hu, reps_carry hc _ _ hr⟩
  have hnd := h.mem.nodup
  simp only [mids_append, mids_cons, List.nodup_append, It.mids] at hnd hm
  obtain ⟨n1, ⟨n2, n3, n4⟩, n5⟩ := hnd
  rcases List.mem_append.1 hm with hm | hm
  · rcases List.mem_append.1 hm with hm | hm
    · exact n5 b hm b (by simp) rfl
    · exact n4 b (by simp) b hm rfl
  · exact h.mem.sep b (by simp [mids_append, mids_cons, It.mids]) hm
theorem SC.freezeB {c : Code} (pre : Blks) {post : Blks} (i : Nat) (hσ : σ = pre ++ .blk b t cs :: post) (hs : slot l i = some (.v (.pointer (some ⟨b, 0, none⟩)))) (k : SC P c (St n W (pre ++ post) ((i, .rp cs) :: l)) Q) : SC P c (St n W σ l) Q := by
  subst hσ; exact fun a w h => k a w (h.freezeB hs)
theorem SL.freezeB (pre : Blks) {post : Blks} (i : Nat) (hσ : σ = pre ++ .blk b t cs :: post) (hs : slot l i = some (.v (.pointer (some ⟨b, 0, none⟩)))) (k : SL P ops rest (St n W (pre ++ post) ((i, .rp cs) :: l)) Q) : SL P ops rest (St n W σ l) Q := by
  subst hσ; exact fun a w h => k a w (h.freezeB hs)
theorem SC.known {c : Code} {p : Prop} {T : Act → World → Prop} (h : ∀ a w, T a w → p) (k : p → SC P c T Q) : SC P c T Q := fun a w ha => k (h a w ha) a w ha
theorem SL.known {p : Prop} {T : Act → World → Prop} (h : ∀ a w, T a w → p) (k : p → SL P ops rest T Q) : SL P ops rest T Q := fun a w ha => k (h a w ha) a w ha
theorem reps_set {K : List Nat} {w : World} {z : Abs} : ∀ {ps : List Abs} {us : List Value} {o : Nat} {u : Value}, reps K w ps us → us[o]? = some u → rep K w z u → reps K w (putL ps o [z]) us
  | [], us, o, u, h, hu, _ => by have : us = [] := h; subst this; simp at hu
  | a :: ps, _, 0, u, ⟨x, us', h1, h2, h3⟩, hu, hz => by
    subst h1
    simp at hu
    subst hu
    exact ⟨x, us', rfl, hz, h3⟩
  | a :: ps, _, o + 1, u, ⟨x, us', h1, h2, h3⟩, hu, hz => by
    subst h1
    exact ⟨x, us', rfl, h2, reps_set h3 (by simpa using hu) hz⟩
/-- A row of the call's own, that a block's cell holds, is only read from then on. -/
theorem St.freezeC {a : Act} {w : World} {pre post : Blks} {o : Nat} (h : St n W (pre ++ own e s v xs :: post) l a w) (hu : Upd (.blk b t cs) (.blk b t (putL cs o [.sl s xs])) (pre ++ post) τ) (hv : cs[o]? = some (.v v)) : St n W τ l a w := by
  have hsub : (pre ++ post).Sublist (pre ++ own e s v xs :: post) := List.Sublist.append (List.Sublist.refl _) (List.sublist_cons_self _ _)
  have h1 := own_sl h.mem
  have h2 := h.less hsub
  obtain ⟨us, hb, hr⟩ := h2.mem.hold _ hu.mem
  obtain ⟨u, h3, h4⟩ := reps_get hr hv
  have h4 : u = v := h4
  subst h4
  have hm := h2.mem.upd hu (Ext.refl w) (by simp [It.mids]) (by simp [It.mids]) rfl fun hc => ⟨us, hb, reps_carry hc _ _ (reps_set hr h3 h1)⟩
  exact h2.to hm.1 hm.2
theorem SC.freezeC {c : Code} (pre : Blks) {post : Blks} (o : Nat) (hσ : σ = pre ++ own e s v xs :: post) (hu : Upd (.blk b t cs) (.blk b t (putL cs o [.sl s xs])) (pre ++ post) τ) (hv : cs[o]? = some (.v v)) (k : SC P c (St n W τ l) Q) : SC P c (St n W σ l) Q := by
  subst hσ; exact fun a w h => k a w (h.freezeC hu hv)
theorem SL.freezeC (pre : Blks) {post : Blks} (o : Nat) (hσ : σ = pre ++ own e s v xs :: post) (hu : Upd (.blk b t cs) (.blk b t (putL cs o [.sl s xs])) (pre ++ post) τ) (hv : cs[o]? = some (.v v)) (k : SL P ops rest (St n W τ l) Q) : SL P ops rest (St n W σ l) Q := by
  subst hσ; exact fun a w h => k a w (h.freezeC hu hv)
theorem repss_cells {K : List Nat} {w : World} : ∀ {ys : List Abs} {us : List Value}, reps K w ys us → repss K w 1 (ys.map fun a => [a]) us
  | [], us, h => h
  | a :: ys, _, ⟨u, us', h1, h2, h3⟩ => ⟨[u], us', h1, rfl, ⟨u, [], rfl, h2, rfl⟩, repss_cells h3⟩
/-- 's[:]' of an array that is read, of single cells. -/
theorem Val.sliceArrR (hT : TabOk P tab) {i : TI} {m : Nat} (hu : P.underlying t = some (.array m e)) (hi : ti tab e = some i) (_h1 : Nat.beq i.size 1 = true) (hx : look l x = some (.rp cs)) (hm : Nat.ble m maxLen = true) (hxs : (cs.take m).map (fun a => [a]) = xs) (hl : m ≤ cs.length) :
    Val P n W σ l X ⟨d, .slice t x none none none, ty, pos, aft, g⟩ (.sl 1 xs) := fun a w hs hX => by
  obtain ⟨b, off, us, h1, h2, h3, h4, h5⟩ := hs.eval hx
  have hlen := reps_length h5
  subst hxs
  have hl2 : ((cs.take m).map fun a => [a]).length = m := by simp; omega
  refine ⟨.slice (some ⟨b, off, none⟩) m m, ⟨us.take m, ⟨⟨_, m, by rw [hl2], by omega, Nat.le_of_ble_eq_true hm, by simp⟩, fun hn => ⟨b, off, m, m, rfl, h2, fun j u hu => ?_⟩⟩, repss_cells (reps_take h5 m)⟩, fun w' _ => ?_⟩
  · rw [List.getElem?_take] at hu
    split at hu
    · exact h4 j u hu
    · cases hu
  · have h6 := (hT _ _ hi).sizeOf (w := w')
    simp [execOp, Instr.sliceAt, Instr.sureAddr, Instr.sliceBounds, h1, run_underlying hu, Sem.run_bind, Result.andThen, h6, Addr.add]
/-- 's[:]' of an array in a block of the call's own. -/
theorem Val.sliceArr (hT : TabOk P tab) {i : TI} {m off : Nat} (hu : P.underlying t = some (.array m e)) (hi : ti tab e = some i) (hx : look l x = some (.v (.pointer (some ⟨b, off, none⟩)))) :
    Val P n W σ l X ⟨d, .slice t x none none none, ty, pos, aft, g⟩ (.v (.slice (some ⟨b, off, none⟩) m m)) := fun a w hs _ => ⟨_, rfl, fun w' _ => by
  have h6 := (hT _ _ hi).sizeOf (w := w')
  simp [execOp, Instr.sliceAt, Instr.sureAddr, Instr.sliceBounds, hs.plain hx, run_underlying hu, Sem.run_bind, Result.andThen, h6, Addr.add]⟩
/-- The address of an element of an array in a block. -/
theorem Val.indexArP (hT : TabOk P tab) {i : TI} {m off : Nat} {r : Int} (hu : P.underlying t = some (.array m e)) (hi : ti tab e = some i) (hx : look l x = some (.v (.pointer (some ⟨b, off, none⟩)))) (hy : look l y = some (.v (.int k r))) (hr : r = (q : Nat)) (hq : q < m) (hm : Nat.ble m 1 = false) :
    Val P n W σ l X ⟨d, .indexAddr t x y, ty, pos, aft, g⟩ (.v (.pointer (some ⟨b, off + q * i.size, none⟩))) := fun a w hs _ => ⟨_, rfl, fun w' _ => by
  subst hr
  have h6 := (hT _ _ hi).sizeOf (w := w')
  have hq' : (q : Int) < (m : Nat) := by omega
  simp [execOp, Instr.indexAt, Instr.sureAddr, asIntOf, hs.plain hx, hs.plain hy, run_underlying hu, Sem.run_bind, Result.andThen, h6, hq, Addr.add_none]⟩
/-- An element of an array's value, of one cell. -/
theorem Val.indexAr (hT : TabOk P tab) {sz m : Nat} {zs : List Value} {r : Int} (hu : P.underlying t = some (.array m e)) (hj : ti tab e = some ⟨sz, .one, zs⟩) (hs1 : Nat.beq sz 1 = true) (hx : look l x = some (.agg cs)) (hy : look l y = some (.v (.int k r))) (hr : r = (q : Nat)) (hq : q < m) (hv : cs[q]? = some A) :
    Val P n W σ l X ⟨d, .index t x y, ty, pos, aft, g⟩ A := Val.mk' fun a w hs _ => by
  subst hr
  obtain ⟨us, h1, h2⟩ := hs.eval hx
  obtain ⟨u, h3, h4⟩ := reps_get h2 hv
  refine ⟨u, h4, fun w' _ => fun A2 w2 hf e => ?_⟩
  subst e
  have h5 := (hT _ _ hj).sizeOf (w := w2)
  have h6 := (hT _ _ hj).isAgg (w := w2)
  have hs1 := Nat.eq_of_beq_eq_true hs1
  subst hs1
  have hq' : (q : Int) < (m : Nat) := by omega
  have e1 : A2.eval x = .agg us.toArray := by rw [hf.eval (hs.at2 hx), h1]
  have e2 : A2.eval y = .int k (q : Nat) := by rw [hf.eval (hs.at2 hy), hs.plain hy]
  simp [execOp, Instr.index, asIntOf, e1, e2, run_underlying hu, Sem.run_bind, Result.andThen, h5, Go.part, h6, h3, hq]
/-- 'copy(dst, src)' into a block of the call's own, of single cells. -/
theorem Eff.copy {off m c : Nat} {L' : List Abs} (hu : P.underlying t = some (.slice e)) (hi : (P.info? e).map (·.size) = some 1) (hx : look l x = some (.v (.slice (some ⟨b, off, none⟩) m c))) (hy : look l y = some (.sl 1 xs)) (hup : Upd (.blk b t' cs) (.blk b t' L') σ τ) (hl : off + min xs.length m ≤ cs.length) (h1 : ∀ c ∈ xs, ones c = true) (hL : putL cs off (xs.take m).flatten = L') :
    Eff P n W σ l [b] ⟨d, .call { callee := .builtin .copy, args := #[x, y], argTypes := #[t, t] }, ty, pos, aft, g⟩ fun r τ' => r = .v (.int .i64 (min xs.length m : Nat)) ∧ τ' = τ := fun a w hs => by
  obtain ⟨us, hb, hr⟩ := hs.mem.hold _ hup.mem
  obtain ⟨news, hrow, hr2⟩ := hs.eval hy
  obtain ⟨A', c', hsh, _⟩ := hrow.shape
  have hlen := reps_length hr
  have hlen2 := repss_length hr2
  rw [Nat.mul_one] at hlen2
  have hreps : ∀ (xs : List (List Abs)) (news : List Value), repss (mids σ ++ W.G) w 1 xs news → reps (mids σ ++ W.G) w xs.flatten news := by
    intro xs
    induction xs with
    | nil => intro news h; exact h
    | cons y ys ih =>
      rintro news ⟨u1, u2, rfl, _, h3, h4⟩
      rw [List.flatten_cons]; exact reps_append h3 (ih u2 h4)
  have htk : ∀ (m : Nat), repss (mids σ ++ W.G) w 1 (xs.take m) (news.take m) := fun m => by
    rcases Nat.le_total m xs.length with h | h
    · have := (repss_drop hr2 m h).2; rwa [Nat.mul_one] at this
    · rw [List.take_of_length_le h, List.take_of_length_le (by omega)]; exact hr2
  have hone : ∀ u ∈ news.take m, u.oneCell' = true := ones_reps (hreps _ _ (htk m)) (by
    rw [ones_iff]; intro a ha
    obtain ⟨c, hc, hac⟩ := List.mem_flatten.1 ha
    exact ones_iff.1 (h1 c (List.mem_of_mem_take hc)) a hac)
  have htl : (news.take m).length = Nat.min xs.length m := by rw [List.length_take, hlen2]; exact Nat.min_comm _ _
  have hmn : (news.take m).length = min xs.length m := htl
  by_cases hn : news = []
  · subst hn
    have h0 : xs.length = 0 := by simpa using hlen2.symm
    have hxn : xs = [] := List.length_eq_zero_iff.1 h0
    subst hxn
    have hLc : L' = cs := by rw [← hL, putL_eq _ _ _ (by omega)]; simp
    subst hLc
    have hτ := upd_self hup
    subst hτ
    refine ⟨_, w, _, _, ⟨rfl, rfl⟩, Ext.refl w, rfl, hs.mem, Carry.refl, .inl ?_⟩
    obtain ⟨I, hI, hIs⟩ : ∃ I, P.info? e = some I ∧ I.size = 1 := by
      cases hq : P.info? e with
      | none => simp [hq] at hi
      | some i => exact ⟨i, rfl, by simpa [hq] using hi⟩
    cases A' <;> simp [execOp, resolve, invoke, builtin, Builtin.copy_, hs.plain hx, hsh, run_underlying hu, Builtin.lenOf, Builtin.firstCells, sizeOf, typeInfo, hI, hIs, storeCells, Sem.run_bind, Result.andThen, loadCells, loadCellsFrom, goInt]
  · obtain ⟨bb, o2, n2, c2, hv, hbb, hcc⟩ := hrow.cells hn
    rw [hsh] at hv
    simp at hv
    obtain ⟨rfl, rfl, rfl⟩ := hv
    have hrun := run_copy_row (P := P) w t t ty e b off m c ⟨bb, o2, none⟩ xs.length c' us.toArray t' (news.take m) hu hi hb htl (fun j u hu => by
      rw [Addr.add_none]
      rw [List.getElem?_take] at hu
      split at hu
      · exact hcc j u hu
      · cases hu) (by simp; omega) hone
    have hE : (us.toArray.toList.take off ++ news.take m ++ us.toArray.toList.drop (off + (news.take m).length)).toArray = (putAt us off (news.take m)).toArray := by
      rw [putAt_eq us off _ (by omega)]
    rw [hE, hmn] at hrun
    have hxx : Ext [b] w (w.setRow b (putAt us off (news.take m)).toArray) := (Ext.refl w).setRow (.inl (by simp)) _
    have hm := hs.mem.upd hup hxx (by simp [It.mids]) (by simp [It.mids]) rfl fun hc => ⟨_, heap_setRow hb, reps_carry hc _ _ (hL ▸ reps_put hr (hreps _ _ (htk m)) (by omega))⟩
    refine ⟨_, _, _, _, ⟨rfl, rfl⟩, hxx, rfl, hm.1, hm.2, .inl ?_⟩
    simp [execOp, resolve, invoke, builtin, hs.plain hx, hsh, hrun, Result.andThen, goInt]
/-- A function that makes a row of bytes of its own. -/
theorem Spec.ofOwnB {f : FuncId} {args : List Abs} {out : List UInt8} {e : TypeId} (h : ∀ (K : List Nat) (w : World) (vals : List Value), (∀ k ∈ K, k < w.heap.size) → reps K w args vals →
    Calls P f vals.toArray w fun en w' => ∃ r ρ, en = .returned r ∧ Proofs.Ytdbeinbgekdnmaa.Mem [(w, K)] [.pc (Proofs.Ytdbeinbgekdnmaa.ownPc e 1 r out.length (out.map bc)), old2 w K] ρ w') : Spec P f args [] (fun r : Value => [own e 1 r (out.map fun b => [.v (bc b)])]) (fun r => .v r) := fun G w vals hm hv =>
  (h G w vals hm.old hv).mono fun en w' ⟨r, ρ, he, hm2⟩ => by
    have hx := leave2 hm2 (by simp)
    have how : w'.ownsRow 0 e 1 r out.length (out.map bc) := hm2.hold (.pc (Proofs.Ytdbeinbgekdnmaa.ownPc e 1 r out.length (out.map bc))) (by simp)
    have hnew : ∀ k ∈ r.ownBlock.toList, w.heap.size ≤ k := fun k hk => by
      have h3 := hm2.out _ (List.mem_cons_self) k (by simpa [Proofs.Ytdbeinbgekdnmaa.It.ids, Proofs.Ytdbeinbgekdnmaa.ownPc] using hk) (w, G) (by simp)
      rcases h3 with h3 | h3
      · have h4 := hm2.nodup
        simp only [List.flatMap_cons, List.flatMap_nil, List.append_nil, List.nodup_append] at h4
        exact absurd rfl (h4.2.2 k (by simpa [Proofs.Ytdbeinbgekdnmaa.It.ids, Proofs.Ytdbeinbgekdnmaa.ownPc] using hk) k (old2_ids.2 ⟨hm.old k h3, h3⟩))
      · exact h3
    refine ⟨r, r, he, by simp [It.rids], ⟨hx, fun k hk => .inr (hnew k ?_), fun k hk hg => ?_, fun k hk => Nat.lt_of_lt_of_le (hm.old k hk) hx.size, by simp [It.rids], ?_, fun x hxm => ?_⟩, rfl⟩
    · simpa [mids, It.mids, ownPc] using hk
    · have := hnew k (by simpa [mids, It.mids, ownPc] using hk)
      have := hm.old k hg
      omega
    · simp only [mids, List.flatMap_cons, List.flatMap_nil, List.append_nil]; exact own_nodup
    · rw [List.mem_singleton] at hxm; subst hxm
      refine ⟨out.map bc, by simpa using how, ?_⟩
      rw [byt_map]; exact repss_ones
end
end Go.Proofs.Ytdbeinbgekdnmaa.A
/-
  Changes: rows of numbers as bytes, over the engine.
-/
set_option maxRecDepth 100000
namespace Go.Proofs.Ytdbeinbgekdnmaa
open Go.RowKit

/-- A row of numbers of eight bytes that is read. -/
abbrev intsD (v : Value) (xs : List Int) : Dt := rowD v xs.length (xs.map fun x => Value.int .i64 x)
def long8 (xs : List Int) : List UInt8 := xs.flatMap fun x => beBytes (u64 x) 8
theorem long8_length (xs : List Int) : (long8 xs).length = xs.length * 8 := by
  unfold long8
  induction xs with
  | nil => rfl
  | cons x xs ih => rw [List.flatMap_cons, List.length_append, ih, beBytes_length, List.length_cons]; omega
theorem long8_snoc {xs : List Int} {k : Nat} (h : k < xs.length) : long8 (xs.take (k + 1)) = long8 (xs.take k) ++ beBytes (u64 xs[k]) 8 := by
  unfold long8
  rw [List.take_succ_eq_append_getElem h, List.flatMap_append]
  simp
section
variable {S : List (World × List Nat)} {σ τ : Blks} {ρ : List Dt} {w : World}
set_option maxHeartbeats 1000000 in
theorem long_c {v u : Value} {l : List UInt8} {xs : List Int} (hw : Mem S σ ρ w) (hb : bytesD v l ∈ ρ) (hx : intsD u xs ∈ ρ) (hl : l.length + xs.length * 8 ≤ lots) : Calls Try.prog 89 #[v, u] w fun e w' => ∃ r, e = .returned r ∧ Mem S σ (bytesD r (l ++ long8 xs) :: ρ) w' := by
  have hL : lots = 100000000000 := rfl
  obtain ⟨A, c, rfl, hs1, hs2, hs3⟩ := (hw.data hx).shape
  have hA : xs ≠ [] → ∃ b off, A = some ⟨b, off, none⟩ := fun h => row_at (hw.data hx) (by cases xs with | nil => exact absurd rfl h | cons e es => simp)
  refine calls_of [v, .slice A xs.length c] Try.func89 rfl Try.ntmps89 rfl (Mem S σ ρ) hw ?_
  refine SC.seq ?_
  refine SC.region ?_
  refine SL.val (Val.assign rfl) rfl rfl ?_
  refine SL.nil ?_
  refine SE.seq ?_
  refine SC.seq ?_
  refine SC.seq ?_
  refine SC.region ?_
  refine SL.val (Val.move rfl) rfl rfl ?_
  refine SL.val (Val.lenSl rfl Try.underlying31) rfl rfl ?_
  refine SL.val (Val.move rfl) rfl rfl ?_
  refine SL.nil ?_
  refine SE.seq ?_
  refine SC.block ?_
  refine SC.loop (ι := Nat × Value) (fun z => [(0, z.2), (7, .slice A xs.length c), (8, .int .i64 (xs.length : Nat)), (9, .int .i64 (z.1 : Nat))]) (fun z w' => z.1 ≤ xs.length ∧ Mem S σ (bytesD z.2 (l ++ long8 (xs.take z.1)) :: ρ) w') (fun z => xs.length - z.1) (0, v) (by exact ⟨rfl, rfl, rfl, rfl, trivial⟩) (fun w' hw' => ⟨Nat.zero_le _, hw'.less (by intro x hx; simp only [List.take_zero, long8, List.flatMap_nil, List.append_nil] at hx; rcases List.mem_cons.1 hx with rfl | hx <;> simp [*])⟩) ?_
  intro z
  refine SC.facts ?_
  intro hz
  refine SC.seq ?_
  refine SC.region ?_
  refine SL.val (Val.ltI rfl rfl) rfl rfl ?_
  refine SL.nil ?_
  refine SE.seq ?_
  refine SC.seq ?_
  refine SC.condP rfl ?_ ?_
  · intro hc10
    have hlt : z.1 < xs.length := by omega
    obtain ⟨bb, off, rfl⟩ := hA (by intro h0; rw [h0] at hlt; simp at hlt)
    refine SC.skip ?_
    refine SE.seq ?_
    refine SC.seq ?_
    refine SC.block ?_
    refine SC.seq ?_
    refine SC.region ?_
    first
      | refine SL.val (Val.indexSlN tabOk Try.underlying31 rfl rfl rfl (by omega)) rfl rfl ?_
      | refine SL.val (Val.indexSl tabOk Try.underlying31 rfl rfl rfl (by omega)) rfl rfl ?_
    refine SL.val (Val.load1D (u := .int .i64 (xs[z.1]'hlt)) (j := z.1 * 1) tabOk rfl rfl (by repeat (first | assumption | exact List.mem_cons_self | exact hmem _ | apply List.mem_cons_of_mem)) (by simp [hlt])) rfl rfl ?_
    refine SL.val (Val.assign rfl) rfl rfl ?_
    refine SL.nil ?_
    refine SE.seq ?_
    refine SC.region ?_
    refine SL.val (Val.move rfl) rfl rfl ?_
    refine SL.val (Val.move rfl) rfl rfl ?_
    refine SL.val (Val.convU rfl Try.underlying101 (by kernel_rfl)) rfl rfl ?_
    refine SL.call (by kernel_rfl) rfl rfl rfl ?_
    intro w hw
    refine (put_c (l := l ++ long8 (xs.take z.1)) (x := u64 (xs[z.1]'hlt)) (n := 8) hw (hw.bytes (by repeat (first | assumption | exact List.mem_cons_self | exact hmem _ | apply List.mem_cons_of_mem))) (by rw [List.length_append, long8_length, List.length_take]; omega) (u64_lt _) rfl).mono ?_; rintro _ _ ⟨r, rfl, hm⟩; refine ⟨_, _, rfl, hm, ?_⟩; clear hm hw w
    refine SL.val (Val.assign rfl) rfl rfl ?_
    refine SL.nil ?_
    refine SE.inBlock ?_
    refine SE.seq ?_
    refine SC.region ?_
    first
      | refine SL.val (Val.addI rfl rfl (by simp only [InR, lo, hi]; omega)) rfl rfl ?_
      | refine SL.val (Val.addW rfl rfl) rfl rfl ?_
    refine SL.val (Val.move rfl) rfl rfl ?_
    refine SL.nil ?_
    refine SE.round (z.1 + 1, r) (by show xs.length - (z.1 + 1) < xs.length - z.1; omega) (by exact ⟨rfl, rfl, rfl, rfl, trivial⟩) (fun w' hw' => ⟨hlt, ?_⟩)
    show Mem S σ (bytesD r (l ++ long8 (xs.take (z.1 + 1))) :: ρ) w'
    rw [long8_snoc hlt, ← List.append_assoc]
    exact hw'.less (fun x hx => by rcases List.mem_cons.1 hx with rfl | hx <;> simp [*])
  · intro hc10
    refine SC.exit ?_
    refine SE.then_ (by intro h; cases h) ?_
    refine SE.then_ (by intro h; cases h) ?_
    refine SE.exit ?_
    refine SE.seq ?_
    refine SC.seq ?_
    refine SC.region ?_
    refine SL.val (Val.move rfl) rfl rfl ?_
    refine SL.val (Val.assign rfl) rfl rfl ?_
    refine SL.nil ?_
    refine SE.seq ?_
    refine SC.ret ?_
    refine SE.ret1 rfl rfl ?_
    intro w' hw'
    rw [List.take_of_length_le (by omega)] at hw'
    exact ⟨_, rfl, hw'⟩
end
end Go.Proofs.Ytdbeinbgekdnmaa
/-
  Changes: rows of proofs as bytes, over the engine.
-/
set_option maxRecDepth 100000
set_option linter.unusedSimpArgs false
namespace Go.Proofs.Ytdbeinbgekdnmaa
open Go.RowKit

/-- A proof; its batch is the row at A, with room for c. -/
structure Prf where
  seq : Int
  view : Int
  A : Option Addr
  c : Nat
  batch : List Ent
def Prf.cells (p : Prf) : List Value := [.int .i64 p.seq, .int .i64 p.view, .slice p.A p.batch.length p.c]
theorem Prf.one (p : Prf) : ∀ u ∈ p.cells, u.oneCell' = true := by
  intro u hu
  simp only [Prf.cells, List.mem_cons, List.not_mem_nil, or_false] at hu
  rcases hu with rfl | rfl | rfl <;> rfl
/-- A row of proofs that is read; and what they hold. -/
abbrev prfsD (v : Value) (ps : List Prf) : Dt := rowD v ps.length (ps.flatMap Prf.cells)
abbrev heldD (ps : List Prf) : Dt := allD ps fun p => entsD (.slice p.A p.batch.length p.c) p.batch
def Prf.bytes (p : Prf) : List UInt8 := long8 [p.seq, p.view] ++ rowB (batchB p.batch)
def prfsB (ps : List Prf) : List UInt8 := beBytes ps.length 2 ++ ps.flatMap Prf.bytes
structure Prf.Few (p : Prf) : Prop where
  len : p.batch.length ≤ 10
  all : ∀ e ∈ p.batch, e.Few
theorem Prf.Few.bytes {p : Prf} (h : p.Few) : (batchB p.batch).length ≤ 30000 := by
  have h1 := ents_length h.all
  have h2 := h.len
  unfold batchB
  rw [List.length_append, beBytes_length]
  omega
theorem prfs_length {ps : List Prf} (h : ∀ p ∈ ps, p.Few) : (ps.flatMap Prf.bytes).length ≤ ps.length * 40000 := by
  induction ps with
  | nil => simp
  | cons p ps ih =>
    have h1 := (h p (by simp)).bytes
    have h2 := ih (fun x hx => h x (by simp [hx]))
    have h3 := long8_length [p.seq, p.view]
    rw [List.flatMap_cons, List.length_append, Prf.bytes, rowB, List.length_append, List.length_append, beBytes_length, h3, List.length_cons, Nat.succ_mul]
    simp only [List.length_cons, List.length_nil]
    omega
section
variable {S : List (World × List Nat)} {σ τ : Blks} {ρ : List Dt} {w : World}
set_option maxHeartbeats 2000000 in
theorem write_c {v u : Value} {l : List UInt8} {ps : List Prf} (hw : Mem S σ ρ w) (hb : bytesD v l ∈ ρ) (hp : prfsD u ps ∈ ρ) (hh : heldD ps ∈ ρ) (hl : l.length ≤ 100000000) (hn : ps.length ≤ 1000) (hf : ∀ p ∈ ps, p.Few) : Calls Try.prog 90 #[v, u] w fun e w' => ∃ r, e = .returned r ∧ Mem S σ (bytesD r (l ++ prfsB ps) :: ρ) w' := by
  have hL : lots = 100000000000 := rfl
  obtain ⟨A, c, rfl, hs1, hs2, hs3⟩ := (hw.data hp).shape
  have hA : ps ≠ [] → ∃ b off, A = some ⟨b, off, none⟩ := fun h => row_at (hw.data hp) (by cases ps with | nil => exact absurd rfl h | cons e es => simp [Prf.cells])
  refine calls_of [v, .slice A ps.length c] Try.func90 rfl Try.ntmps90 rfl (Mem S σ ρ) hw ?_
  refine SC.seq ?_
  refine SC.region ?_
  refine SL.val (Val.assign rfl) rfl rfl ?_
  refine SL.nil ?_
  refine SE.seq ?_
  refine SC.seq ?_
  refine SC.region ?_
  refine SL.val (Val.move rfl) rfl rfl ?_
  refine SL.val (Val.move rfl) rfl rfl ?_
  refine SL.val (Val.lenSl rfl Try.underlying78) rfl rfl ?_
  first
    | refine SL.val (Val.convI rfl Try.underlying101 (by kernel_rfl) (by simp only [InR, lo, hi]; omega)) rfl rfl ?_
    | refine SL.val (Val.convU rfl Try.underlying101 (by kernel_rfl)) rfl rfl ?_
  refine SL.call (by kernel_rfl) rfl rfl rfl ?_
  intro w hw
  refine (put_c (l := l) (x := ps.length) (n := 2) hw (hw.bytes (by repeat (first | assumption | exact List.mem_cons_self | exact hmem _ | apply List.mem_cons_of_mem))) (by omega) (by omega) rfl).mono ?_; rintro _ _ ⟨r, rfl, hm⟩; refine ⟨_, _, rfl, hm, ?_⟩; clear hm hw w
  refine SL.val (Val.assign rfl) rfl rfl ?_
  refine SL.nil ?_
  refine SE.seq ?_
  refine SC.seq ?_
  refine SC.seq ?_
  refine SC.region ?_
  refine SL.val (Val.move rfl) rfl rfl ?_
  refine SL.val (Val.lenSl rfl Try.underlying78) rfl rfl ?_
  refine SL.val (Val.move rfl) rfl rfl ?_
  refine SL.nil ?_
  refine SE.seq ?_
  refine SC.block ?_
  refine SC.loop (ι := Nat × Value) (fun z => [(0, z.2), (12, .slice A ps.length c), (13, .int .i64 (ps.length : Nat)), (14, .int .i64 (z.1 : Nat))]) (fun z w' => z.1 ≤ ps.length ∧ Mem S σ (bytesD z.2 (l ++ beBytes ps.length 2 ++ (ps.take z.1).flatMap Prf.bytes) :: ρ) w') (fun z => ps.length - z.1) (0, _) (by exact ⟨rfl, rfl, rfl, rfl, trivial⟩) (fun w' hw' => ⟨Nat.zero_le _, hw'.less (by intro x hx; simp only [List.take_zero, List.flatMap_nil, List.append_nil] at hx; rcases List.mem_cons.1 hx with rfl | hx <;> simp [*])⟩) ?_
  intro z
  refine SC.facts ?_
  intro hz
  have hlen : (l ++ beBytes ps.length 2 ++ (ps.take z.1).flatMap Prf.bytes).length ≤ 100000000 + 2 + 1000 * 40000 := by
    have h0 := prfs_length (ps := ps.take z.1) (fun p hp' => hf p (List.mem_of_mem_take hp'))
    have h9 : (ps.take z.1).length ≤ ps.length := by simp; omega
    have h8 : (ps.take z.1).length * 40000 ≤ 1000 * 40000 := Nat.mul_le_mul_right _ (by omega)
    simp only [List.length_append, beBytes_length]
    omega
  refine SC.seq ?_
  refine SC.region ?_
  refine SL.val (Val.ltI rfl rfl) rfl rfl ?_
  refine SL.nil ?_
  refine SE.seq ?_
  refine SC.seq ?_
  refine SC.condP rfl ?_ ?_
  · intro hc15
    have hlt : z.1 < ps.length := by omega
    have hfp := hf _ (List.getElem_mem hlt)
    have hbl := hfp.bytes
    obtain ⟨bb, off, rfl⟩ := hA (by intro h0; rw [h0] at hlt; simp at hlt)
    refine SC.skip ?_
    refine SE.seq ?_
    refine SC.seq ?_
    refine SC.block ?_
    refine SC.seq ?_
    refine SC.region ?_
    first
      | refine SL.val (Val.indexSlN tabOk Try.underlying78 rfl rfl rfl (by omega)) rfl rfl ?_
      | refine SL.val (Val.indexSl tabOk Try.underlying78 rfl rfl rfl (by omega)) rfl rfl ?_
    refine SL.val (Val.loadAD (f := Prf.cells) tabOk rfl rfl rfl (by repeat (first | assumption | exact List.mem_cons_self | exact hmem _ | apply List.mem_cons_of_mem)) (fun _ => rfl) hlt) rfl rfl ?_
    refine SL.eff (Eff.alloc tabOk rfl) rfl rfl ?_
    rintro _ _ ⟨b6, rfl, rfl⟩
    refine SL.eff (Eff.storeA (L' := (ps[z.1]'hlt).cells) (vs := (ps[z.1]'hlt).cells) tabOk rfl rfl rfl (by repeat (first | assumption | exact Upd.here | exact hrep _ _ | apply Upd.there)) (by rfl) (Nat.le_of_ble_eq_true (by rfl)) (Prf.one _) (by rfl)) rfl rfl ?_
    rintro _ _ ⟨rfl, rfl⟩
    refine SL.nil ?_
    refine SE.seq ?_
    refine SC.draw (Mem S [.blk b6 (row 133 (ps[z.1]'hlt).cells)] []) (.q 0 (.q 1 (.q 2 (.q 3 (.q 4 (.q 7 (.q 8 (.e 5 (.e 6 (.e 9 (.e 10 (.q 11 .nil)))))))))))) (by kernel_rfl) (by kernel_rfl) (fun _ h => (h.sub (fun _ h => h) (by first | exact List.sublist_append_left [_] _ | exact List.Sublist.cons _ (List.sublist_append_left [_] _))).less (by simp)) (fun _ h => h.drew) ?_
    refine SX.val rfl (Val.move rfl) rfl rfl ?_
    refine SX.val rfl (Val.fieldAddr tabOk rfl rfl rfl rfl rfl) rfl rfl ?_
    first
      | refine SX.val rfl (Val.load1 tabOk rfl rfl (by repeat (first | assumption | exact List.mem_cons_self | exact hmem _ | apply List.mem_cons_of_mem)) (by rfl)) rfl rfl ?_
      | refine SX.val rfl (Val.load1C tabOk rfl rfl (by assumption)) rfl rfl ?_
    refine SX.val rfl (Val.fieldAddr tabOk rfl rfl rfl rfl rfl) rfl rfl ?_
    first
      | refine SX.val rfl (Val.load1 tabOk rfl rfl (by repeat (first | assumption | exact List.mem_cons_self | exact hmem _ | apply List.mem_cons_of_mem)) (by rfl)) rfl rfl ?_
      | refine SX.val rfl (Val.load1C tabOk rfl rfl (by assumption)) rfl rfl ?_
    refine SX.val rfl (Val.fieldAddr tabOk rfl rfl rfl rfl rfl) rfl rfl ?_
    first
      | refine SX.val rfl (Val.load1 tabOk rfl rfl (by repeat (first | assumption | exact List.mem_cons_self | exact hmem _ | apply List.mem_cons_of_mem)) (by rfl)) rfl rfl ?_
      | refine SX.val rfl (Val.load1C tabOk rfl rfl (by assumption)) rfl rfl ?_
    refine SX.eff rfl (Eff.buildSlice (L := [.int .i64 (ps[z.1]'hlt).seq, .int .i64 (ps[z.1]'hlt).view]) tabOk Try.underlying31 rfl rfl (fun L0 h => by match L0, h with | [_, _], _ => rfl) rfl) rfl rfl ?_
    rintro _ _ ⟨b23, rfl, rfl⟩
    refine ⟨_, fun _ h => h, fun _ h => (h.sub (fun _ h => h) (by first | exact List.sublist_append_left [_] _ | exact List.Sublist.cons _ (List.sublist_append_left [_] _))).less (by simp), ?_⟩
    refine SX.call rfl (by kernel_rfl) rfl rfl rfl ?_
    intro w hw
    refine (long_c (l := (l ++ beBytes ps.length 2 ++ (ps.take z.1).flatMap Prf.bytes)) (xs := [(ps[z.1]'hlt).seq, (ps[z.1]'hlt).view]) (hw.blkData (k := 2) (c := 2) (by decide) (by decide)) (by repeat (first | assumption | exact List.mem_cons_self | exact hmem _ | apply List.mem_cons_of_mem)) (by repeat (first | assumption | exact List.mem_cons_self | exact hmem _ | apply List.mem_cons_of_mem)) (by simp only [List.length_append, beBytes_length, long8_length, List.length_cons, List.length_nil] at *; omega)).mono ?_; rintro _ _ ⟨r24, rfl, hm⟩; refine ⟨_, _, rfl, hm, _, fun _ h => h, fun _ h => (h.sub (fun _ h => h) (by first | exact List.sublist_append_left [_] _ | exact List.Sublist.cons _ (List.sublist_append_left [_] _))).less (by simp), ?_⟩; clear hm hw w
    refine SX.call rfl (by kernel_rfl) rfl rfl rfl ?_
    intro w hw
    refine (batchBytes_c (es := (ps[z.1]'hlt).batch) (hw.add (z := entsD (.slice (ps[z.1]'hlt).A (ps[z.1]'hlt).batch.length (ps[z.1]'hlt).c) (ps[z.1]'hlt).batch) ((hw.data (z := heldD ps) (by repeat (first | assumption | exact List.mem_cons_self | exact hmem _ | apply List.mem_cons_of_mem))) _ (List.getElem_mem hlt))) List.mem_cons_self (by have := hfp.len; omega) hfp.all).mono ?_; rintro _ _ ⟨r27, rfl, hm⟩; refine ⟨_, _, rfl, hm, _, fun _ h => h, fun _ h => (h.sub (fun _ h => h) (by first | exact List.sublist_append_left [_] _ | exact List.Sublist.cons _ (List.sublist_append_left [_] _))).less (by simp), ?_⟩; clear hm hw w
    refine SX.call rfl (by kernel_rfl) rfl rfl rfl ?_
    intro w hw
    refine (oct_Row (l := (l ++ beBytes ps.length 2 ++ (ps.take z.1).flatMap Prf.bytes) ++ long8 [(ps[z.1]'hlt).seq, (ps[z.1]'hlt).view]) (m := batchB (ps[z.1]'hlt).batch) hw (by repeat (first | assumption | exact List.mem_cons_self | exact hmem _ | apply List.mem_cons_of_mem)) (by repeat (first | assumption | exact List.mem_cons_self | exact hmem _ | apply List.mem_cons_of_mem)) (by simp only [List.length_append, beBytes_length, long8_length, List.length_cons, List.length_nil] at *; omega) (by omega)).mono ?_; rintro _ _ ⟨r28, rfl, hm⟩; refine ⟨_, _, rfl, hm, _, fun _ h => h, fun _ h => (h.sub (fun _ h => h) (by first | exact List.sublist_append_left [_] _ | exact List.Sublist.cons _ (List.sublist_append_left [_] _))).less (by simp), ?_⟩; clear hm hw w
    refine SX.val rfl (Val.assign rfl) rfl rfl ?_
    refine SX.nil ?_
    refine SE.inBlock ?_
    refine SE.seq ?_
    refine SC.region ?_
    first
      | refine SL.val (Val.addI rfl rfl (by simp only [InR, lo, hi]; omega)) rfl rfl ?_
      | refine SL.val (Val.addW rfl rfl) rfl rfl ?_
    refine SL.val (Val.move rfl) rfl rfl ?_
    refine SL.nil ?_
    refine SE.round (z.1 + 1, r28) (by show ps.length - (z.1 + 1) < ps.length - z.1; omega) (by exact ⟨rfl, rfl, rfl, rfl, trivial⟩) (fun w' hw' => ⟨hlt, ?_⟩)
    have e1 : (l ++ beBytes ps.length 2 ++ (ps.take (z.1 + 1)).flatMap Prf.bytes) = (l ++ beBytes ps.length 2 ++ (ps.take z.1).flatMap Prf.bytes) ++ long8 [(ps[z.1]'hlt).seq, (ps[z.1]'hlt).view] ++ beBytes (batchB (ps[z.1]'hlt).batch).length 4 ++ batchB (ps[z.1]'hlt).batch := by
      rw [List.take_succ_eq_append_getElem hlt, List.flatMap_append]
      simp [Prf.bytes, rowB]
    show Mem S σ (bytesD r28 (l ++ beBytes ps.length 2 ++ (ps.take (z.1 + 1)).flatMap Prf.bytes) :: ρ) w'
    rw [e1]
    exact (hw'.sub (fun _ h => h) (List.sublist_cons_self _ _)).less (fun x hx => by rcases List.mem_cons.1 hx with rfl | hx <;> simp [*])
  · intro hc15
    refine SC.exit ?_
    refine SE.then_ (by intro h; cases h) ?_
    refine SE.then_ (by intro h; cases h) ?_
    refine SE.exit ?_
    refine SE.seq ?_
    refine SC.seq ?_
    refine SC.region ?_
    refine SL.val (Val.move rfl) rfl rfl ?_
    refine SL.val (Val.assign rfl) rfl rfl ?_
    refine SL.nil ?_
    refine SE.seq ?_
    refine SC.ret ?_
    refine SE.ret1 rfl rfl ?_
    intro w' hw'
    have e2 : (l ++ beBytes ps.length 2 ++ (ps.take z.1).flatMap Prf.bytes) = l ++ prfsB ps := by
      rw [List.take_of_length_le (by omega)]
      simp [prfsB]
    rw [e2] at hw'
    exact ⟨_, rfl, hw'⟩
end
end Go.Proofs.Ytdbeinbgekdnmaa
/-
  Changes: rows of numbers as bytes, the result as a piece of its own.
-/
set_option maxRecDepth 100000
set_option linter.unusedSimpArgs false
namespace Go.Proofs.Ytdbeinbgekdnmaa
open Go.RowKit

/-- Bytes in a block of their own, as a piece. -/
abbrev ownB (v : Value) (l : List UInt8) : It := .pc (ownPc 5 1 v l.length (l.map bc))
/-- The pieces behind k numbers. -/
def accS (σ : Blks) (l : List UInt8) (xs : List Int) (z : Nat × Value) : Blks := if z.1 = 0 then σ else ownB z.2 (l ++ long8 (xs.take z.1)) :: σ
section
variable {S : List (World × List Nat)} {σ τ : Blks} {ρ : List Dt} {w : World} {v : Value} {l : List UInt8} {xs : List Int}
theorem acc_bytes {z : Nat × Value} (hz : z.1 = 0 → z.2 = v) (hb : bytesD v l ∈ ρ) (hw : Mem S (accS σ l xs z) ρ w) : BytesV w z.2 (l ++ long8 (xs.take z.1)) := by
  by_cases h0 : z.1 = 0
  · rw [h0, hz h0]
    simpa [long8] using hw.bytes hb
  · unfold accS at hw
    rw [if_neg h0] at hw
    exact isRow_bytes (hw.ownRow (e := 5) (size := 1) List.mem_cons_self)
theorem acc_drop {z : Nat × Value} {x : It} (hw : Mem S (x :: accS σ l xs z) ρ w) : Mem S (x :: σ) ρ w := by
  unfold accS at hw
  split at hw
  · exact hw
  · exact hw.sub (fun _ h => h) (List.Sublist.cons_cons _ (List.sublist_cons_self _ _))
set_option maxHeartbeats 1000000 in
theorem long_own {u : Value} (hw : Mem S σ ρ w) (hb : bytesD v l ∈ ρ) (hx : intsD u xs ∈ ρ) (hl : l.length + xs.length * 8 ≤ lots) (hn : xs ≠ []) : Calls Try.prog 89 #[v, u] w fun e w' => ∃ r, e = .returned r ∧ Mem S (ownB r (l ++ long8 xs) :: σ) ρ w' := by
  have hL : lots = 100000000000 := rfl
  obtain ⟨A, c, rfl, hs1, hs2, hs3⟩ := (hw.data hx).shape
  have hA : xs ≠ [] → ∃ b off, A = some ⟨b, off, none⟩ := fun h => row_at (hw.data hx) (by cases xs with | nil => exact absurd rfl h | cons e es => simp)
  have hpos : 0 < xs.length := List.length_pos_iff.2 hn
  refine calls_of [v, .slice A xs.length c] Try.func89 rfl Try.ntmps89 rfl (Mem S σ ρ) hw ?_
  refine SC.seq ?_
  refine SC.region ?_
  refine SL.val (Val.assign rfl) rfl rfl ?_
  refine SL.nil ?_
  refine SE.seq ?_
  refine SC.seq ?_
  refine SC.seq ?_
  refine SC.region ?_
  refine SL.val (Val.move rfl) rfl rfl ?_
  refine SL.val (Val.lenSl rfl Try.underlying31) rfl rfl ?_
  refine SL.val (Val.move rfl) rfl rfl ?_
  refine SL.nil ?_
  refine SE.seq ?_
  refine SC.block ?_
  refine SC.loop (ι := Nat × Value) (fun z => [(0, z.2), (7, .slice A xs.length c), (8, .int .i64 (xs.length : Nat)), (9, .int .i64 (z.1 : Nat))]) (fun z w' => (z.1 ≤ xs.length ∧ (z.1 = 0 → z.2 = v)) ∧ Mem S (accS σ l xs z) ρ w') (fun z => xs.length - z.1) (0, v) (by exact ⟨rfl, rfl, rfl, rfl, trivial⟩) (fun w' hw' => ⟨⟨Nat.zero_le _, fun _ => rfl⟩, hw'⟩) ?_
  intro z
  refine SC.facts ?_
  rintro ⟨hz, hz1⟩
  refine SC.seq ?_
  refine SC.region ?_
  refine SL.val (Val.ltI rfl rfl) rfl rfl ?_
  refine SL.nil ?_
  refine SE.seq ?_
  refine SC.seq ?_
  refine SC.condP rfl ?_ ?_
  · intro hc10
    have hlt : z.1 < xs.length := by omega
    obtain ⟨bb, off, rfl⟩ := hA (by intro h0; rw [h0] at hlt; simp at hlt)
    refine SC.skip ?_
    refine SE.seq ?_
    refine SC.seq ?_
    refine SC.block ?_
    refine SC.seq ?_
    refine SC.region ?_
    first
      | refine SL.val (Val.indexSlN tabOk Try.underlying31 rfl rfl rfl (by omega)) rfl rfl ?_
      | refine SL.val (Val.indexSl tabOk Try.underlying31 rfl rfl rfl (by omega)) rfl rfl ?_
    refine SL.val (Val.load1D (u := .int .i64 (xs[z.1]'hlt)) (j := z.1 * 1) tabOk rfl rfl (by repeat (first | assumption | exact List.mem_cons_self | exact hmem _ | apply List.mem_cons_of_mem)) (by simp [hlt])) rfl rfl ?_
    refine SL.val (Val.assign rfl) rfl rfl ?_
    refine SL.nil ?_
    refine SE.seq ?_
    refine SC.region ?_
    refine SL.val (Val.move rfl) rfl rfl ?_
    refine SL.val (Val.move rfl) rfl rfl ?_
    refine SL.val (Val.convU rfl Try.underlying101 (by kernel_rfl)) rfl rfl ?_
    refine SL.call (by kernel_rfl) rfl rfl rfl ?_
    intro w hw
    refine (put_own (l := l ++ long8 (xs.take z.1)) (x := u64 (xs[z.1]'hlt)) (n := 8) hw (acc_bytes hz1 hb hw) (by rw [List.length_append, long8_length, List.length_take]; omega) (u64_lt _) rfl).mono ?_; rintro _ _ ⟨r, rfl, hm⟩; refine ⟨_, _, rfl, hm, ?_⟩; clear hm hw w
    refine SL.val (Val.assign rfl) rfl rfl ?_
    refine SL.nil ?_
    refine SE.inBlock ?_
    refine SE.seq ?_
    refine SC.region ?_
    first
      | refine SL.val (Val.addI rfl rfl (by simp only [InR, lo, hi]; omega)) rfl rfl ?_
      | refine SL.val (Val.addW rfl rfl) rfl rfl ?_
    refine SL.val (Val.move rfl) rfl rfl ?_
    refine SL.nil ?_
    refine SE.round (z.1 + 1, r) (by show xs.length - (z.1 + 1) < xs.length - z.1; omega) (by exact ⟨rfl, rfl, rfl, rfl, trivial⟩) (fun w' hw' => ⟨⟨hlt, fun h => absurd h (by simp)⟩, ?_⟩)
    show Mem S (accS σ l xs (z.1 + 1, r)) ρ w'
    unfold accS
    rw [if_neg (by simp)]
    show Mem S (ownB r (l ++ long8 (xs.take (z.1 + 1))) :: σ) ρ w'
    rw [long8_snoc hlt, ← List.append_assoc]
    exact acc_drop hw'
  · intro hc10
    refine SC.exit ?_
    refine SE.then_ (by intro h; cases h) ?_
    refine SE.then_ (by intro h; cases h) ?_
    refine SE.exit ?_
    refine SE.seq ?_
    refine SC.seq ?_
    refine SC.region ?_
    refine SL.val (Val.move rfl) rfl rfl ?_
    refine SL.val (Val.assign rfl) rfl rfl ?_
    refine SL.nil ?_
    refine SE.seq ?_
    refine SC.ret ?_
    refine SE.ret1 rfl rfl ?_
    intro w' hw'
    unfold accS at hw'
    rw [if_neg (by omega), List.take_of_length_le (by omega)] at hw'
    exact ⟨_, rfl, hw'⟩
end
end Go.Proofs.Ytdbeinbgekdnmaa
/-
  Changes as bytes, over the second engine.
-/
set_option maxRecDepth 100000
set_option linter.unusedSimpArgs false
set_option linter.unusedVariables false
namespace Go.Proofs.Ytdbeinbgekdnmaa.A
open Go.RowKit

structure Prf.Few (p : Prf) : Prop where
  len : p.batch.length ≤ 10
  all : ∀ e ∈ p.batch, e.Few
theorem Prf.Few.bytes {p : Prf} (h : p.Few) : (batchB p.batch).length ≤ 30000 := by
  have h1 := ents_length h.all
  have h2 := h.len
  unfold batchB
  rw [List.length_append, beBytes_length]
  omega
def Prf.bytes (p : Prf) : List UInt8 := long8 [p.seq, p.view] ++ rowB (batchB p.batch)
def prfsB (ps : List Prf) : List UInt8 := beBytes ps.length 2 ++ ps.flatMap Prf.bytes
theorem prfs_length {ps : List Prf} (h : ∀ p ∈ ps, p.Few) : (ps.flatMap Prf.bytes).length ≤ ps.length * 40000 := by
  induction ps with
  | nil => simp
  | cons p ps ih =>
    have h1 := (h p (by simp)).bytes
    have h2 := ih (fun x hx => h x (by simp [hx]))
    have h3 := long8_length [p.seq, p.view]
    rw [List.flatMap_cons, List.length_append, Prf.bytes, rowB, List.length_append, List.length_append, beBytes_length, h3, List.length_cons, Nat.succ_mul]
    simp only [List.length_cons, List.length_nil]
    omega
def Pnt.bytes (p : Pnt) : List UInt8 := long8 [p.seq] ++ p.dig
theorem pnts_length (ps : List Pnt) : (ps.flatMap Pnt.bytes).length = ps.length * 40 := by
  induction ps with
  | nil => rfl
  | cons p ps ih =>
    have h := p.len
    rw [List.flatMap_cons, List.length_append, ih, Pnt.bytes, List.length_append, long8_length, List.length_cons]
    simp only [List.length_cons, List.length_nil]
    omega
structure Chg.Few (x : Chg) : Prop where
  pts : x.points.length ≤ 1000
  prep : x.prepared.length ≤ 1000
  prop : x.proposed.length ≤ 1000
  fprep : ∀ p ∈ x.prepared, p.Few
  fprop : ∀ p ∈ x.proposed, p.Few
def Chg.head (x : Chg) (k : Nat) : List UInt8 := [] ++ long8 [x.view, x.low] ++ beBytes x.points.length 2 ++ (x.points.take k).flatMap Pnt.bytes
def Chg.bytes (x : Chg) : List UInt8 := x.head x.points.length ++ prfsB x.prepared ++ prfsB x.proposed
theorem Chg.head_length (x : Chg) (k : Nat) (h : x.points.length ≤ 1000) : (x.head k).length ≤ 50000 := by
  unfold Chg.head
  have h1 : (x.points.take k).length ≤ x.points.length := by rw [List.length_take]; omega
  simp only [List.length_append, long8_length, beBytes_length, pnts_length, List.length_cons, List.length_nil]
  omega
theorem prfsB_length {ps : List Prf} (h : ∀ p ∈ ps, p.Few) (hn : ps.length ≤ 1000) : (prfsB ps).length ≤ 40000002 := by
  have := prfs_length h
  unfold prfsB
  rw [List.length_append, beBytes_length]
  omega
abbrev ints (xs : List Int) : Abs := .sl 1 (xs.map fun x => [int x])
theorem rep_ints {K : List Nat} {w : World} {x : Value} {xs : List Int} : rep K w (ints xs) x ↔ IsRow K w x xs.length (xs.map fun y => .int .i64 y) := by
  have e : (xs.map fun x => [int x]) = (xs.map fun y : Int => (.int .i64 y : Value)).map fun u => [.v u] := by rw [List.map_map]; rfl
  constructor
  · rintro ⟨us, h1, h2⟩
    rw [e] at h2
    have := repss_ones_eq h2
    subst this
    simpa using h1
  · intro h
    refine ⟨_, by simpa using h, ?_⟩
    rw [e]; exact repss_ones
section
variable {l : List UInt8} {xs : List Int} {ps : List Prf}
theorem long_s (hl : l.length + xs.length * 8 ≤ lots) : Pure Try.prog 89 [byt l, ints xs] (byt (l ++ long8 xs)) := Pure.of2 fun K w vals hK hv => by
  obtain ⟨v, us', rfl, h1, u, us2, rfl, h2, h3⟩ := hv
  have h3 : us2 = [] := h3
  subst h3
  refine (long_c (((enter2 w K).add (z := bytesD v l) (row2 (rep_byt.1 h1))).add (z := intsD u xs) (row2 (rep_ints.1 h2))) (by simp) (by simp) hl).mono fun e w' ⟨r, he, hm⟩ => ⟨r, he, leave2 hm (by simp), rep_byt.2 (row3 hK (ent2 hm) (hm.data (z := bytesD r _) (by simp)))⟩
theorem long_o (hl : l.length + xs.length * 8 ≤ lots) (hn : xs ≠ []) : Spec Try.prog 89 [byt l, ints xs] [] (fun r : Value => [own 5 1 r ((l ++ long8 xs).map fun b => [.v (bc b)])]) (fun r => .v r) := Spec.ofOwnB fun K w vals hK hv => by
  obtain ⟨v, us', rfl, h1, u, us2, rfl, h2, h3⟩ := hv
  have h3 : us2 = [] := h3
  subst h3
  refine (long_own (((enter2 w K).add (z := bytesD v l) (row2 (rep_byt.1 h1))).add (z := intsD u xs) (row2 (rep_ints.1 h2))) (by simp) (by simp) hl hn).mono fun e w' ⟨r, he, hm⟩ => ⟨r, _, he, hm⟩
set_option maxHeartbeats 2000000 in
theorem write_s (hl : l.length ≤ 100000000) (hn : ps.length ≤ 1000) (hf : ∀ p ∈ ps, p.Few) : Spec Try.prog 90 [byt l, prfsA ps] [] (fun _ : Unit => []) (fun _ => byt (l ++ prfsB ps)) := by
  have hL : lots = 100000000000 := rfl
  refine spec_of Try.func90 rfl Try.ntmps90 rfl fun G w => ?_
  refine SC.seq ?_
  refine SC.region ?_
  refine SL.val (Val.assign rfl) rfl rfl ?_
  refine SL.nil ?_
  refine SE.seq ?_
  refine SC.seq ?_
  refine SC.region ?_
  refine SL.val (Val.move rfl) rfl rfl ?_
  refine SL.val (Val.move rfl) rfl rfl ?_
  first
    | refine SL.val (Val.lenSl rfl Try.underlying78 (List.length_map _)) rfl rfl ?_
    | refine SL.val (Val.lenOwn rfl (by repeat (first | assumption | exact List.mem_cons_self | apply List.mem_cons_of_mem)) Try.underlying78 (List.length_map _)) rfl rfl ?_
    | refine SL.val (Val.lenNil rfl Try.underlying78) rfl rfl ?_
  first
    | refine SL.val (Val.convI rfl Try.underlying101 (by kernel_rfl) (by simp only [InR, lo, hi]; omega)) rfl rfl ?_
    | refine SL.val (Val.convU rfl Try.underlying101 (by kernel_rfl)) rfl rfl ?_
  refine SL.call (put_s (l := l) (x := ps.length) (n := 2) (by omega) (by omega) rfl) Casts.refl (by kernel_rfl) rfl rfl rfl ?_
  refine After.pure (by repeat (first | exact Reads.nil | refine Reads.blk (by repeat (first | assumption | exact List.mem_cons_self | apply List.mem_cons_of_mem)) ?_ | refine Reads.rd (by repeat (first | assumption | exact List.mem_cons_self | apply List.mem_cons_of_mem)) ?_ | refine Reads.pc (by repeat (first | assumption | exact List.mem_cons_self | apply List.mem_cons_of_mem)) ?_ | refine Reads.rdpc (by repeat (first | assumption | exact List.mem_cons_self | apply List.mem_cons_of_mem)) ?_)) (fun _ => rfl) ?_
  intro _
  refine SL.val (Val.assign rfl) rfl rfl ?_
  refine SL.nil ?_
  refine SE.seq ?_
  refine SC.seq ?_
  refine SC.seq ?_
  refine SC.region ?_
  refine SL.val (Val.move rfl) rfl rfl ?_
  first
    | refine SL.val (Val.lenSl rfl Try.underlying78 (List.length_map _)) rfl rfl ?_
    | refine SL.val (Val.lenOwn rfl (by repeat (first | assumption | exact List.mem_cons_self | apply List.mem_cons_of_mem)) Try.underlying78 (List.length_map _)) rfl rfl ?_
    | refine SL.val (Val.lenNil rfl Try.underlying78) rfl rfl ?_
  refine SL.val (Val.move rfl) rfl rfl ?_
  refine SL.nil ?_
  refine SE.seq ?_
  refine SC.block ?_
  refine SC.loop (ι := Nat) (fun z => []) (fun z => [(0, byt (l ++ beBytes ps.length 2 ++ (ps.take z).flatMap Prf.bytes)), (12, prfsA ps), (13, int (ps.length : Nat)), (14, int (z : Nat))]) (fun z => z ≤ ps.length) (fun z => ps.length - z) (0) (Nat.zero_le _) ⟨congrArg (fun m => some (byt m)) (by simp), rfl, rfl, rfl, trivial⟩ (by repeat (first | exact List.nil_sublist _ | exact List.Sublist.refl _ | apply List.Sublist.cons_cons | apply List.Sublist.cons)) ?_
  intro z hz
  have hlen : (l ++ beBytes ps.length 2 ++ (ps.take z).flatMap Prf.bytes).length ≤ 100000000 + 2 + 1000 * 40000 := by
    have h0 := prfs_length (ps := ps.take z) (fun p hp' => hf p (List.mem_of_mem_take hp'))
    have h9 : (ps.take z).length ≤ ps.length := by simp; omega
    have h8 : (ps.take z).length * 40000 ≤ 1000 * 40000 := Nat.mul_le_mul_right _ (by omega)
    simp only [List.length_append, beBytes_length]
    omega
  refine SC.seq ?_
  refine SC.region ?_
  refine SL.val (Val.ltI rfl rfl) rfl rfl ?_
  refine SL.nil ?_
  refine SE.seq ?_
  refine SC.seq ?_
  refine SC.condP rfl ?_ ?_
  · intro hc15
    have hlt : z < ps.length := by omega
    have hfp := hf _ (List.getElem_mem hlt)
    have hbl := hfp.bytes
    refine SC.skip ?_
    refine SE.seq ?_
    refine SC.seq ?_
    refine SC.block ?_
    refine SC.seq ?_
    refine SC.region ?_
    refine SL.val (Val.indexSl tabOk Try.underlying78 rfl rfl rfl rfl (at_map (by omega)) rfl rfl) rfl rfl ?_
    first
      | refine SL.val (Val.loadAR tabOk rfl rfl rfl (by rfl)) rfl rfl ?_
      | refine SL.val (Val.loadPR tabOk rfl rfl rfl (Nat.le_of_ble_eq_true (by rfl))) rfl rfl ?_
    refine SL.eff (Eff.alloc tabOk rfl) rfl rfl ?_
    rintro _ _ ⟨b6, rfl, rfl⟩
    refine SL.eff (Eff.store tabOk rfl rfl rfl (by repeat (first | assumption | exact Upd.here | apply Upd.there)) (by rfl) (Nat.le_of_ble_eq_true (by rfl)) (by rfl) (by rfl)) rfl rfl ?_
    rintro _ _ ⟨rfl, rfl⟩
    refine SL.nil ?_
    refine SE.seq ?_
    refine SC.draw [] (.q 0 (.q 1 (.q 2 (.q 3 (.q 4 (.q 7 (.q 8 (.e 5 (.e 6 (.e 9 (.e 10 (.q 11 .nil)))))))))))) (by kernel_rfl) (by kernel_rfl) ?_
    refine SX.val rfl (Val.move rfl) (by first | (simp [mids, It.mids, ownPc]; done) | (intro k hk; simp [mids, It.mids, ownPc] at hk ⊢; grind)) rfl rfl ?_
    refine SX.val rfl (Val.fieldAddr tabOk rfl rfl rfl rfl rfl) (by first | (simp [mids, It.mids, ownPc]; done) | (intro k hk; simp [mids, It.mids, ownPc] at hk ⊢; grind)) rfl rfl ?_
    refine SX.val rfl (Val.load1 tabOk rfl rfl (by first | (apply Or.inl; (repeat (first | assumption | exact List.mem_cons_self | apply List.mem_cons_of_mem)); done) | (apply Or.inr; (repeat (first | assumption | exact List.mem_cons_self | apply List.mem_cons_of_mem)); done)) List.not_mem_nil (by rfl)) (by first | (simp [mids, It.mids, ownPc]; done) | (intro k hk; simp [mids, It.mids, ownPc] at hk ⊢; grind)) rfl rfl ?_
    refine SX.val rfl (Val.fieldAddr tabOk rfl rfl rfl rfl rfl) (by first | (simp [mids, It.mids, ownPc]; done) | (intro k hk; simp [mids, It.mids, ownPc] at hk ⊢; grind)) rfl rfl ?_
    refine SX.val rfl (Val.load1 tabOk rfl rfl (by first | (apply Or.inl; (repeat (first | assumption | exact List.mem_cons_self | apply List.mem_cons_of_mem)); done) | (apply Or.inr; (repeat (first | assumption | exact List.mem_cons_self | apply List.mem_cons_of_mem)); done)) List.not_mem_nil (by rfl)) (by first | (simp [mids, It.mids, ownPc]; done) | (intro k hk; simp [mids, It.mids, ownPc] at hk ⊢; grind)) rfl rfl ?_
    refine SX.val rfl (Val.fieldAddr tabOk rfl rfl rfl rfl rfl) (by first | (simp [mids, It.mids, ownPc]; done) | (intro k hk; simp [mids, It.mids, ownPc] at hk ⊢; grind)) rfl rfl ?_
    refine SX.val rfl (Val.load1 tabOk rfl rfl (by first | (apply Or.inl; (repeat (first | assumption | exact List.mem_cons_self | apply List.mem_cons_of_mem)); done) | (apply Or.inr; (repeat (first | assumption | exact List.mem_cons_self | apply List.mem_cons_of_mem)); done)) List.not_mem_nil (by rfl)) (by first | (simp [mids, It.mids, ownPc]; done) | (intro k hk; simp [mids, It.mids, ownPc] at hk ⊢; grind)) rfl rfl ?_
    refine SX.eff rfl (Eff.buildSl tabOk Try.underlying31 rfl rfl rfl rfl rfl rfl rfl) (by simp) rfl rfl ?_
    rintro _ _ ⟨rfl, rfl⟩
    refine SX.call rfl (long_s (l := (l ++ beBytes ps.length 2 ++ (ps.take z).flatMap Prf.bytes)) (xs := [(ps[z]'hlt).seq, (ps[z]'hlt).view]) (by simp only [List.length_append, beBytes_length, long8_length, List.length_cons, List.length_nil] at *; omega)) (by simp [mids, It.mids]) Casts.refl (by kernel_rfl) rfl rfl rfl ?_
    refine After.pure (by repeat (first | exact Reads.nil | refine Reads.blk (by repeat (first | assumption | exact List.mem_cons_self | apply List.mem_cons_of_mem)) ?_ | refine Reads.rd (by repeat (first | assumption | exact List.mem_cons_self | apply List.mem_cons_of_mem)) ?_ | refine Reads.pc (by repeat (first | assumption | exact List.mem_cons_self | apply List.mem_cons_of_mem)) ?_ | refine Reads.rdpc (by repeat (first | assumption | exact List.mem_cons_self | apply List.mem_cons_of_mem)) ?_)) (fun _ => rfl) ?_
    intro _
    refine SX.call rfl (bbytes_s (es := (ps[z]'hlt).batch) (by have := hfp.len; omega) hfp.all) (by simp [mids, It.mids]) Casts.refl (by kernel_rfl) rfl rfl rfl ?_
    refine After.pure (by repeat (first | exact Reads.nil | refine Reads.blk (by repeat (first | assumption | exact List.mem_cons_self | apply List.mem_cons_of_mem)) ?_ | refine Reads.rd (by repeat (first | assumption | exact List.mem_cons_self | apply List.mem_cons_of_mem)) ?_ | refine Reads.pc (by repeat (first | assumption | exact List.mem_cons_self | apply List.mem_cons_of_mem)) ?_ | refine Reads.rdpc (by repeat (first | assumption | exact List.mem_cons_self | apply List.mem_cons_of_mem)) ?_)) (fun _ => rfl) ?_
    intro _
    refine SX.call rfl (row_s (l := (l ++ beBytes ps.length 2 ++ (ps.take z).flatMap Prf.bytes) ++ long8 [(ps[z]'hlt).seq, (ps[z]'hlt).view]) (m := batchB (ps[z]'hlt).batch) (by simp only [List.length_append, beBytes_length, long8_length, List.length_cons, List.length_nil] at *; omega) (by omega)) (by simp [mids, It.mids]) Casts.refl (by kernel_rfl) rfl rfl rfl ?_
    refine After.pure (by repeat (first | exact Reads.nil | refine Reads.blk (by repeat (first | assumption | exact List.mem_cons_self | apply List.mem_cons_of_mem)) ?_ | refine Reads.rd (by repeat (first | assumption | exact List.mem_cons_self | apply List.mem_cons_of_mem)) ?_ | refine Reads.pc (by repeat (first | assumption | exact List.mem_cons_self | apply List.mem_cons_of_mem)) ?_ | refine Reads.rdpc (by repeat (first | assumption | exact List.mem_cons_self | apply List.mem_cons_of_mem)) ?_)) (fun _ => rfl) ?_
    intro _
    refine SX.val rfl (Val.assign rfl) (by first | (simp [mids, It.mids, ownPc]; done) | (intro k hk; simp [mids, It.mids, ownPc] at hk ⊢; grind)) rfl rfl ?_
    refine SX.nil ?_
    refine SE.inBlock ?_
    refine SE.seq ?_
    refine SC.region ?_
    first
      | refine SL.val (Val.addI rfl rfl (by simp only [InR, lo, hi]; omega)) rfl rfl ?_
      | refine SL.val (Val.addW rfl rfl) rfl rfl ?_
    refine SL.val (Val.move rfl) rfl rfl ?_
    refine SL.nil ?_
    have e1 : (l ++ beBytes ps.length 2 ++ (ps.take z).flatMap Prf.bytes) ++ long8 [(ps[z]'hlt).seq, (ps[z]'hlt).view] ++ beBytes (batchB (ps[z]'hlt).batch).length 4 ++ batchB (ps[z]'hlt).batch = (l ++ beBytes ps.length 2 ++ (ps.take (z + 1)).flatMap Prf.bytes) := by
      rw [List.take_succ_eq_append_getElem hlt, List.flatMap_append]
      simp [Prf.bytes, rowB, long8]
    refine SE.round (z + 1) (by first | omega | (dsimp only; omega)) (by first | omega | (dsimp only; omega)) ⟨congrArg (fun m => some (byt m)) e1, rfl, rfl, rfl, trivial⟩ (by repeat (first | exact List.nil_sublist _ | exact List.Sublist.refl _ | apply List.Sublist.cons_cons | apply List.Sublist.cons))
  · intro hc15
    refine SC.exit ?_
    refine SE.then_ (by intro h; cases h) ?_
    refine SE.then_ (by intro h; cases h) ?_
    refine SE.exit ?_
    refine SE.seq ?_
    refine SC.seq ?_
    refine SC.region ?_
    refine SL.val (Val.move rfl) rfl rfl ?_
    refine SL.val (Val.assign rfl) rfl rfl ?_
    refine SL.nil ?_
    refine SE.seq ?_
    refine SC.ret ?_
    refine SE.fin (rs := [.tmp 4]) rfl (RV.tmp rfl RV.nil) (()) (by repeat (first | exact List.nil_sublist _ | exact List.Sublist.refl _ | apply List.Sublist.cons_cons | apply List.Sublist.cons)) (by simp [It.rids]) ?_
    have e2 : (l ++ beBytes ps.length 2 ++ (ps.take z).flatMap Prf.bytes) = l ++ prfsB ps := by
      rw [List.take_of_length_le (by omega)]
      simp [prfsB]
    exact congrArg byt e2
abbrev bys (l : List UInt8) : List (List Abs) := l.map fun b => [Abs.v (bc b)]
theorem bys_app (a b : List UInt8) : bys a ++ bys b = bys (a ++ b) := by simp [bys]
theorem bys_ones (l : List UInt8) : ∀ c ∈ bys l, ones c = true := by
  intro c hc
  obtain ⟨b, _, rfl⟩ := List.mem_map.1 hc
  rfl
theorem Pnt.tail (p : Pnt) : ((p.abs.drop 1).take 32).map (fun a => [a]) = bys p.dig := by
  show ((digA p.dig).take 32).map _ = _
  rw [List.take_of_length_le (by simp [digA, p.len])]
  simp [digA, bys]
theorem Pnt.tail_length (p : Pnt) : (p.abs.drop 1).length = 32 := by simp [Pnt.size]
variable {c : Chg}
set_option maxHeartbeats 2000000 in
theorem bytes_s (hf : c.Few) : Spec Try.prog 59 [.agg c.abs] [] (fun _ : Unit => []) (fun _ => byt c.bytes) := by
  have hL : lots = 100000000000 := rfl
  have hn0 := hf.pts
  refine spec_of Try.func59 rfl Try.ntmps59 rfl fun G w => ?_
  refine SC.seq ?_
  refine SC.region ?_
  refine SL.eff (Eff.boxA rfl) rfl rfl ?_
  rintro _ _ ⟨b1, rfl, rfl⟩
  refine SL.val (Val.assign rfl) rfl rfl ?_
  refine SL.nil ?_
  refine SE.seq ?_
  refine SC.seq ?_
  refine SC.draw [] (.q 0 (.q 1 (.q 2 (.q 3 (.q 6 (.q 7 (.q 8 (.q 9 (.e 4 (.e 5 (.e 10 (.q 11 .nil)))))))))))) (by kernel_rfl) (by kernel_rfl) ?_
  refine SX.val rfl (Val.fieldAddr tabOk rfl rfl rfl rfl rfl) (by first | (simp [mids, It.mids, ownPc]; done) | (intro k hk; simp [mids, It.mids, ownPc] at hk ⊢; grind)) rfl rfl ?_
  refine SX.val rfl (Val.load1 tabOk rfl rfl (by first | (apply Or.inl; (repeat (first | assumption | exact List.mem_cons_self | apply List.mem_cons_of_mem)); done) | (apply Or.inr; (repeat (first | assumption | exact List.mem_cons_self | apply List.mem_cons_of_mem)); done)) List.not_mem_nil (by rfl)) (by first | (simp [mids, It.mids, ownPc]; done) | (intro k hk; simp [mids, It.mids, ownPc] at hk ⊢; grind)) rfl rfl ?_
  refine SX.val rfl (Val.fieldAddr tabOk rfl rfl rfl rfl rfl) (by first | (simp [mids, It.mids, ownPc]; done) | (intro k hk; simp [mids, It.mids, ownPc] at hk ⊢; grind)) rfl rfl ?_
  refine SX.val rfl (Val.load1 tabOk rfl rfl (by first | (apply Or.inl; (repeat (first | assumption | exact List.mem_cons_self | apply List.mem_cons_of_mem)); done) | (apply Or.inr; (repeat (first | assumption | exact List.mem_cons_self | apply List.mem_cons_of_mem)); done)) List.not_mem_nil (by rfl)) (by first | (simp [mids, It.mids, ownPc]; done) | (intro k hk; simp [mids, It.mids, ownPc] at hk ⊢; grind)) rfl rfl ?_
  refine SX.val rfl (Val.fieldAddr tabOk rfl rfl rfl rfl rfl) (by first | (simp [mids, It.mids, ownPc]; done) | (intro k hk; simp [mids, It.mids, ownPc] at hk ⊢; grind)) rfl rfl ?_
  refine SX.val rfl (Val.load1 tabOk rfl rfl (by first | (apply Or.inl; (repeat (first | assumption | exact List.mem_cons_self | apply List.mem_cons_of_mem)); done) | (apply Or.inr; (repeat (first | assumption | exact List.mem_cons_self | apply List.mem_cons_of_mem)); done)) List.not_mem_nil (by rfl)) (by first | (simp [mids, It.mids, ownPc]; done) | (intro k hk; simp [mids, It.mids, ownPc] at hk ⊢; grind)) rfl rfl ?_
  first
    | refine SX.val rfl (Val.lenSl rfl Try.underlying77 (List.length_map _)) (by first | (simp [mids, It.mids, ownPc]; done) | (intro k hk; simp [mids, It.mids, ownPc] at hk ⊢; grind)) rfl rfl ?_
    | refine SX.val rfl (Val.lenOwn rfl (by repeat (first | assumption | exact List.mem_cons_self | apply List.mem_cons_of_mem)) Try.underlying77 (List.length_map _)) (by first | (simp [mids, It.mids, ownPc]; done) | (intro k hk; simp [mids, It.mids, ownPc] at hk ⊢; grind)) rfl rfl ?_
    | refine SX.val rfl (Val.lenNil rfl Try.underlying77) (by first | (simp [mids, It.mids, ownPc]; done) | (intro k hk; simp [mids, It.mids, ownPc] at hk ⊢; grind)) rfl rfl ?_
  first
    | refine SX.val rfl (Val.convI rfl Try.underlying101 (by kernel_rfl) (by simp only [InR, lo, hi]; omega)) (by first | (simp [mids, It.mids, ownPc]; done) | (intro k hk; simp [mids, It.mids, ownPc] at hk ⊢; grind)) rfl rfl ?_
    | refine SX.val rfl (Val.convU rfl Try.underlying101 (by kernel_rfl)) (by first | (simp [mids, It.mids, ownPc]; done) | (intro k hk; simp [mids, It.mids, ownPc] at hk ⊢; grind)) rfl rfl ?_
  refine SX.eff rfl (Eff.buildSl tabOk Try.underlying31 rfl rfl rfl rfl rfl rfl rfl) (by simp) rfl rfl ?_
  rintro _ _ ⟨rfl, rfl⟩
  refine SX.call rfl (long_s (l := []) (xs := [c.view, c.low]) (by simp; omega)) (by simp [mids, It.mids]) (Casts.cons (fun _ _ _ h => rep_nil h) Casts.refl) (by kernel_rfl) rfl rfl rfl ?_
  refine After.pure (by repeat (first | exact Reads.nil | refine Reads.blk (by repeat (first | assumption | exact List.mem_cons_self | apply List.mem_cons_of_mem)) ?_ | refine Reads.rd (by repeat (first | assumption | exact List.mem_cons_self | apply List.mem_cons_of_mem)) ?_ | refine Reads.pc (by repeat (first | assumption | exact List.mem_cons_self | apply List.mem_cons_of_mem)) ?_ | refine Reads.rdpc (by repeat (first | assumption | exact List.mem_cons_self | apply List.mem_cons_of_mem)) ?_)) (fun _ => rfl) ?_
  intro _
  refine SX.call rfl (put_s (l := [] ++ long8 [c.view, c.low]) (x := c.points.length) (n := 2) (by simp only [List.nil_append, long8_length, List.length_cons, List.length_nil]; omega) (by omega) rfl) (by simp [mids, It.mids]) Casts.refl (by kernel_rfl) rfl rfl rfl ?_
  refine After.pure (by repeat (first | exact Reads.nil | refine Reads.blk (by repeat (first | assumption | exact List.mem_cons_self | apply List.mem_cons_of_mem)) ?_ | refine Reads.rd (by repeat (first | assumption | exact List.mem_cons_self | apply List.mem_cons_of_mem)) ?_ | refine Reads.pc (by repeat (first | assumption | exact List.mem_cons_self | apply List.mem_cons_of_mem)) ?_ | refine Reads.rdpc (by repeat (first | assumption | exact List.mem_cons_self | apply List.mem_cons_of_mem)) ?_)) (fun _ => rfl) ?_
  intro _
  refine SX.val rfl (Val.assign rfl) (by first | (simp [mids, It.mids, ownPc]; done) | (intro k hk; simp [mids, It.mids, ownPc] at hk ⊢; grind)) rfl rfl ?_
  refine SX.nil ?_
  refine SE.seq ?_
  refine SC.seq ?_
  refine SC.seq ?_
  refine SC.region ?_
  refine SL.val (Val.fieldAddr tabOk rfl rfl rfl rfl rfl) rfl rfl ?_
  refine SL.val (Val.load1 tabOk rfl rfl (by first | (apply Or.inl; (repeat (first | assumption | exact List.mem_cons_self | apply List.mem_cons_of_mem)); done) | (apply Or.inr; (repeat (first | assumption | exact List.mem_cons_self | apply List.mem_cons_of_mem)); done)) List.not_mem_nil (by rfl)) rfl rfl ?_
  first
    | refine SL.val (Val.lenSl rfl Try.underlying77 (List.length_map _)) rfl rfl ?_
    | refine SL.val (Val.lenOwn rfl (by repeat (first | assumption | exact List.mem_cons_self | apply List.mem_cons_of_mem)) Try.underlying77 (List.length_map _)) rfl rfl ?_
    | refine SL.val (Val.lenNil rfl Try.underlying77) rfl rfl ?_
  refine SL.val (Val.move rfl) rfl rfl ?_
  refine SL.nil ?_
  refine SE.seq ?_
  refine SC.block ?_
  refine SC.loop (ι := Nat) (fun z => [.blk b1 80 c.abs]) (fun z => [(1, ptr b1), (3, byt (c.head z)), (18, pntsA c.points), (19, int (c.points.length : Nat)), (20, int (z : Nat))]) (fun z => z ≤ c.points.length) (fun z => c.points.length - z) (0) (Nat.zero_le _) ⟨rfl, congrArg (fun m => some (byt m)) (by simp [Chg.head, long8]), rfl, rfl, rfl, trivial⟩ (by repeat (first | exact List.nil_sublist _ | exact List.Sublist.refl _ | apply List.Sublist.cons_cons | apply List.Sublist.cons)) ?_
  intro z hz
  have hlen := c.head_length z hf.pts
  have hpp := prfsB_length hf.fprep hf.prep
  refine SC.seq ?_
  refine SC.region ?_
  refine SL.val (Val.ltI rfl rfl) rfl rfl ?_
  refine SL.nil ?_
  refine SE.seq ?_
  refine SC.seq ?_
  refine SC.condP rfl ?_ ?_
  · intro hc21
    have hlt : z < c.points.length := by omega
    have hd9 := (c.points[z]'hlt).len
    have hl8 := long8_length [(c.points[z]'hlt).seq]
    simp only [List.length_cons, List.length_nil] at hl8
    refine SC.skip ?_
    refine SE.seq ?_
    refine SC.seq ?_
    refine SC.block ?_
    refine SC.seq ?_
    refine SC.region ?_
    refine SL.val (Val.indexSl tabOk Try.underlying77 rfl rfl rfl rfl (at_map (by omega)) rfl rfl) rfl rfl ?_
    refine SL.val (Val.loadAR tabOk rfl rfl rfl (Pnt.size _)) rfl rfl ?_
    refine SL.eff (Eff.alloc tabOk rfl) rfl rfl ?_
    rintro _ _ ⟨b5, rfl, rfl⟩
    refine SL.eff (Eff.store (L' := (c.points[z]'hlt).abs) tabOk rfl rfl rfl (by repeat (first | assumption | exact Upd.here | apply Upd.there)) (Pnt.size _) (Nat.le_of_ble_eq_true (by rfl)) (Pnt.ones _) (by exact putL_all (Pnt.size _))) rfl rfl ?_
    rintro _ _ ⟨rfl, rfl⟩
    refine SL.nil ?_
    refine SE.seq ?_
    refine SC.freezeB [] 5 rfl rfl ?_
    refine SC.draw [] (.q 0 (.q 1 (.q 2 (.q 5 (.q 6 (.e 3 (.e 4 (.e 7 (.q 8 .nil))))))))) (by kernel_rfl) (by kernel_rfl) ?_
    refine SX.val rfl (Val.move rfl) (by first | (simp [mids, It.mids, ownPc]; done) | (intro k hk; simp [mids, It.mids, ownPc] at hk ⊢; grind)) rfl rfl ?_
    refine SX.val rfl (Val.fieldAddrR tabOk rfl rfl rfl rfl rfl) (by first | (simp [mids, It.mids, ownPc]; done) | (intro k hk; simp [mids, It.mids, ownPc] at hk ⊢; grind)) rfl rfl ?_
    refine SX.val rfl (Val.load1R tabOk rfl rfl rfl) (by first | (simp [mids, It.mids, ownPc]; done) | (intro k hk; simp [mids, It.mids, ownPc] at hk ⊢; grind)) rfl rfl ?_
    refine SX.val rfl (Val.fieldAddrR tabOk rfl rfl rfl rfl rfl) (by first | (simp [mids, It.mids, ownPc]; done) | (intro k hk; simp [mids, It.mids, ownPc] at hk ⊢; grind)) rfl rfl ?_
    refine SX.val rfl (Val.sliceArrR tabOk Try.underlying46 rfl rfl rfl rfl (Pnt.tail _) (by rw [Pnt.tail_length]; exact Nat.le_refl _)) (by first | (simp [mids, It.mids, ownPc]; done) | (intro k hk; simp [mids, It.mids, ownPc] at hk ⊢; grind)) rfl rfl ?_
    refine SX.eff rfl (Eff.buildSl tabOk Try.underlying31 rfl rfl rfl rfl rfl rfl rfl) (by simp) rfl rfl ?_
    rintro _ _ ⟨rfl, rfl⟩
    refine SX.callM rfl (long_o (l := c.head z) (xs := [(c.points[z]'hlt).seq]) (by simp; omega) (by simp)) (by simp [mids, It.mids]) Casts.refl (by kernel_rfl) rfl rfl rfl ?_
    refine After.make (by repeat (first | exact Reads.nil | refine Reads.blk (by repeat (first | assumption | exact List.mem_cons_self | apply List.mem_cons_of_mem)) ?_ | refine Reads.rd (by repeat (first | assumption | exact List.mem_cons_self | apply List.mem_cons_of_mem)) ?_ | refine Reads.pc (by repeat (first | assumption | exact List.mem_cons_self | apply List.mem_cons_of_mem)) ?_ | refine Reads.rdpc (by repeat (first | assumption | exact List.mem_cons_self | apply List.mem_cons_of_mem)) ?_)) (fun _ => rfl) ?_
    intro r28
    refine SX.effX [] rfl (Eff.append tabOk [] Try.underlying34 rfl rfl rfl rfl rfl rfl (bys_ones _) (by unfold maxLen; simp only [bys, List.length_map, List.length_append, List.length_take, List.length_cons, List.length_nil]; omega) (by rw [show Try.prog.bytesOf 5 = 1 by kernel_rfl]; simp only [bys, List.length_map, List.length_append, List.length_take, List.length_cons, List.length_nil]; omega)) (by simp [mids, It.mids, ownPc]) (by simp) rfl rfl ?_
    rintro _ _ ⟨r31, rfl, rfl⟩
    refine SX.val rfl (Val.assign rfl) (by first | (simp [mids, It.mids, ownPc]; done) | (intro k hk; simp [mids, It.mids, ownPc] at hk ⊢; grind)) rfl rfl ?_
    refine SX.nil ?_
    refine SE.inBlock ?_
    refine SE.seq ?_
    refine SC.region ?_
    first
      | refine SL.val (Val.addI rfl rfl (by simp only [InR, lo, hi]; omega)) rfl rfl ?_
      | refine SL.val (Val.addW rfl rfl) rfl rfl ?_
    refine SL.val (Val.move rfl) rfl rfl ?_
    refine SL.nil ?_
    have e1 : c.head z ++ long8 [(c.points[z]'hlt).seq] ++ (c.points[z]'hlt).dig = c.head (z + 1) := by
      unfold Chg.head
      rw [List.take_succ_eq_append_getElem hlt, List.flatMap_append]
      simp [Pnt.bytes]
    refine SE.freeze [] (t := 3) rfl rfl ?_
    refine SE.round (z + 1) (by first | omega | (dsimp only; omega)) (by first | omega | (dsimp only; omega)) ⟨rfl, congrArg (fun m => some (Abs.sl 1 m)) ((bys_app _ _).trans (congrArg bys e1)), rfl, rfl, rfl, trivial⟩ (by repeat (first | exact List.nil_sublist _ | exact List.Sublist.refl _ | apply List.Sublist.cons_cons | apply List.Sublist.cons))
  · intro hc21
    refine SC.exit ?_
    refine SE.then_ (by intro h; cases h) ?_
    refine SE.then_ (by intro h; cases h) ?_
    refine SE.exit ?_
    refine SE.seq ?_
    refine SC.seq ?_
    refine SC.draw [] (.q 0 (.q 1 (.q 2 (.q 4 (.q 5 (.e 3 (.e 6 (.q 7 .nil)))))))) (by kernel_rfl) (by kernel_rfl) ?_
    refine SX.val rfl (Val.move rfl) (by first | (simp [mids, It.mids, ownPc]; done) | (intro k hk; simp [mids, It.mids, ownPc] at hk ⊢; grind)) rfl rfl ?_
    refine SX.val rfl (Val.fieldAddr tabOk rfl rfl rfl rfl rfl) (by first | (simp [mids, It.mids, ownPc]; done) | (intro k hk; simp [mids, It.mids, ownPc] at hk ⊢; grind)) rfl rfl ?_
    refine SX.val rfl (Val.load1 tabOk rfl rfl (by first | (apply Or.inl; (repeat (first | assumption | exact List.mem_cons_self | apply List.mem_cons_of_mem)); done) | (apply Or.inr; (repeat (first | assumption | exact List.mem_cons_self | apply List.mem_cons_of_mem)); done)) List.not_mem_nil (by rfl)) (by first | (simp [mids, It.mids, ownPc]; done) | (intro k hk; simp [mids, It.mids, ownPc] at hk ⊢; grind)) rfl rfl ?_
    refine SX.val rfl (Val.fieldAddr tabOk rfl rfl rfl rfl rfl) (by first | (simp [mids, It.mids, ownPc]; done) | (intro k hk; simp [mids, It.mids, ownPc] at hk ⊢; grind)) rfl rfl ?_
    refine SX.val rfl (Val.load1 tabOk rfl rfl (by first | (apply Or.inl; (repeat (first | assumption | exact List.mem_cons_self | apply List.mem_cons_of_mem)); done) | (apply Or.inr; (repeat (first | assumption | exact List.mem_cons_self | apply List.mem_cons_of_mem)); done)) List.not_mem_nil (by rfl)) (by first | (simp [mids, It.mids, ownPc]; done) | (intro k hk; simp [mids, It.mids, ownPc] at hk ⊢; grind)) rfl rfl ?_
    refine SX.call rfl (write_s (l := c.head z) (ps := c.prepared) (by omega) hf.prep hf.fprep) (by simp [mids, It.mids]) Casts.refl (by kernel_rfl) rfl rfl rfl ?_
    refine After.pure (by repeat (first | exact Reads.nil | refine Reads.blk (by repeat (first | assumption | exact List.mem_cons_self | apply List.mem_cons_of_mem)) ?_ | refine Reads.rd (by repeat (first | assumption | exact List.mem_cons_self | apply List.mem_cons_of_mem)) ?_ | refine Reads.pc (by repeat (first | assumption | exact List.mem_cons_self | apply List.mem_cons_of_mem)) ?_ | refine Reads.rdpc (by repeat (first | assumption | exact List.mem_cons_self | apply List.mem_cons_of_mem)) ?_)) (fun _ => rfl) ?_
    intro _
    refine SX.call rfl (write_s (l := c.head z ++ prfsB c.prepared) (ps := c.proposed) (by rw [List.length_append]; omega) hf.prop hf.fprop) (by simp [mids, It.mids]) Casts.refl (by kernel_rfl) rfl rfl rfl ?_
    refine After.pure (by repeat (first | exact Reads.nil | refine Reads.blk (by repeat (first | assumption | exact List.mem_cons_self | apply List.mem_cons_of_mem)) ?_ | refine Reads.rd (by repeat (first | assumption | exact List.mem_cons_self | apply List.mem_cons_of_mem)) ?_ | refine Reads.pc (by repeat (first | assumption | exact List.mem_cons_self | apply List.mem_cons_of_mem)) ?_ | refine Reads.rdpc (by repeat (first | assumption | exact List.mem_cons_self | apply List.mem_cons_of_mem)) ?_)) (fun _ => rfl) ?_
    intro _
    refine SX.val rfl (Val.assign rfl) (by first | (simp [mids, It.mids, ownPc]; done) | (intro k hk; simp [mids, It.mids, ownPc] at hk ⊢; grind)) rfl rfl ?_
    refine SX.nil ?_
    refine SE.seq ?_
    refine SC.ret ?_
    refine SE.fin (rs := [.tmp 2]) rfl (RV.tmp rfl RV.nil) (()) (by repeat (first | exact List.nil_sublist _ | exact List.Sublist.refl _ | apply List.Sublist.cons_cons | apply List.Sublist.cons)) (by simp [It.rids]) ?_
    have e2 : z = c.points.length := by omega
    subst e2
    exact congrArg byt (by simp [Chg.bytes])
end
end Go.Proofs.Ytdbeinbgekdnmaa.A
/-
  Changes as bytes: the document's, over the second engine.
-/
set_option maxRecDepth 100000
set_option linter.unusedSimpArgs false
set_option linter.unusedVariables false
namespace Go.Proofs.Ytdbeinbgekdnmaa.A
open Go.RowKit

section
variable {l m : List UInt8} {ps : List Prf} {c : Chg}
theorem rdig_s (hl : l.length + 32 ≤ lots) (hm : m.length = 32) : Spec Try.prog 98 [byt l, .agg (digA m)] [] (fun _ : Unit => []) (fun _ => byt (l ++ m)) := by
  have hL : lots = 100000000000 := rfl
  refine spec_of Try.func98 rfl Try.ntmps98 rfl fun G w => ?_
  refine SC.seq ?_
  refine SC.region ?_
  refine SL.eff (Eff.boxA rfl) rfl rfl ?_
  rintro _ _ ⟨b3, rfl, rfl⟩
  refine SL.val (Val.assign rfl) rfl rfl ?_
  refine SL.nil ?_
  refine SE.seq ?_
  refine SC.seq ?_
  refine SC.region ?_
  refine SL.eff (Eff.buildOwn tabOk Try.underlying34 rfl rfl rfl rfl rfl rfl rfl) rfl rfl ?_
  rintro _ _ ⟨r8, rfl, rfl⟩
  refine SL.val (Val.move rfl) rfl rfl ?_
  refine SL.eff (Eff.append tabOk [] Try.underlying34 rfl rfl rfl rfl rfl rfl (bys_ones _) (by unfold maxLen; simp only [bys, List.length_map, List.length_append, List.length_take, List.length_cons, List.length_nil]; omega) (by rw [show Try.prog.bytesOf 5 = 1 by kernel_rfl]; simp only [bys, List.length_map, List.length_append, List.length_take, List.length_cons, List.length_nil]; omega)) rfl rfl ?_
  rintro _ _ ⟨r10, rfl, rfl⟩
  rw [show ([] : List (List Abs)) ++ (l.map fun b => [Abs.v (bc b)]) = bys (l ++ m.take 0) by simp]
  refine SL.val (Val.assign rfl) rfl rfl ?_
  refine SL.nil ?_
  refine SE.seq ?_
  refine SC.seq ?_
  refine SC.seq ?_
  refine SC.region ?_
  refine SL.val (Val.loadA tabOk rfl rfl rfl (by first | (apply Or.inl; (repeat (first | assumption | exact List.mem_cons_self | apply List.mem_cons_of_mem)); done) | (apply Or.inr; (repeat (first | assumption | exact List.mem_cons_self | apply List.mem_cons_of_mem)); done)) List.not_mem_nil (by simp [digA, hm])) rfl rfl ?_
  refine SL.val (Val.move rfl) rfl rfl ?_
  refine SL.nil ?_
  refine SE.seq ?_
  refine SC.block ?_
  refine SC.loop (ι := Nat × Value) (fun z => [own 5 1 z.2 (bys (l ++ m.take z.1))]) (fun z => [(5, .v z.2), (11, .agg (digA m)), (12, int (z.1 : Nat))]) (fun z => z.1 ≤ 32) (fun z => 32 - z.1) ((0, r10)) (Nat.zero_le _) (by exact ⟨rfl, rfl, rfl, trivial⟩) (by repeat (first | exact List.nil_sublist _ | exact List.Sublist.refl _ | apply List.Sublist.cons_cons | apply List.Sublist.cons)) ?_
  intro z hz
  refine SC.seq ?_
  refine SC.region ?_
  refine SL.val (Val.ltI rfl rfl) rfl rfl ?_
  refine SL.nil ?_
  refine SE.seq ?_
  refine SC.seq ?_
  refine SC.condP rfl ?_ ?_
  · intro hc13
    have hlt : z.1 < 32 := by omega
    refine SC.skip ?_
    refine SE.seq ?_
    refine SC.seq ?_
    refine SC.block ?_
    refine SC.seq ?_
    refine SC.region ?_
    refine SL.val (Val.indexAr (q := z.1) tabOk Try.underlying46 rfl rfl rfl rfl rfl (by omega) (at_map1 (by omega))) rfl rfl ?_
    refine SL.val (Val.assign rfl) rfl rfl ?_
    refine SL.nil ?_
    refine SE.seq ?_
    refine SC.region ?_
    refine SL.val (Val.move rfl) rfl rfl ?_
    refine SL.val (Val.move rfl) rfl rfl ?_
    refine SL.eff (Eff.buildSl tabOk Try.underlying34 rfl rfl rfl rfl rfl rfl rfl) rfl rfl ?_
    rintro _ _ ⟨rfl, rfl⟩
    refine SL.eff (Eff.append tabOk [] Try.underlying34 rfl rfl rfl rfl rfl rfl (bys_ones [m[z.1]'(by omega)]) (by unfold maxLen; simp only [bys, List.length_map, List.length_append, List.length_take, List.length_cons, List.length_nil]; omega) (by rw [show Try.prog.bytesOf 5 = 1 by kernel_rfl]; simp only [bys, List.length_map, List.length_append, List.length_take, List.length_cons, List.length_nil]; omega)) rfl rfl ?_
    rintro _ _ ⟨r18, rfl, rfl⟩
    have e9 : bys (l ++ m.take z.1) ++ [cellsA (Abs.v (bc (m[z.1]'(by omega))))] = bys (l ++ m.take (z.1 + 1)) := by
      show bys (l ++ m.take z.1) ++ bys [m[z.1]'(by omega)] = _
      rw [bys_app, List.append_assoc, ← List.take_succ_eq_append_getElem]
    rw [e9]
    refine SL.val (Val.assign rfl) rfl rfl ?_
    refine SL.nil ?_
    refine SE.inBlock ?_
    refine SE.seq ?_
    refine SC.region ?_
    first
      | refine SL.val (Val.addI rfl rfl (by simp only [InR, lo, hi]; omega)) rfl rfl ?_
      | refine SL.val (Val.addW rfl rfl) rfl rfl ?_
    refine SL.val (Val.move rfl) rfl rfl ?_
    refine SL.nil ?_
    refine SE.round ((z.1 + 1, r18)) (by first | omega | (dsimp only; omega)) (by first | omega | (dsimp only; omega)) (by exact ⟨rfl, rfl, rfl, trivial⟩) (by repeat (first | exact List.nil_sublist _ | exact List.Sublist.refl _ | apply List.Sublist.cons_cons | apply List.Sublist.cons))
  · intro hc13
    refine SC.exit ?_
    refine SE.then_ (by intro h; cases h) ?_
    refine SE.then_ (by intro h; cases h) ?_
    refine SE.exit ?_
    refine SE.seq ?_
    refine SC.seq ?_
    refine SC.region ?_
    refine SL.val (Val.move rfl) rfl rfl ?_
    refine SL.val (Val.assign rfl) rfl rfl ?_
    refine SL.nil ?_
    refine SE.seq ?_
    refine SC.ret ?_
    refine SE.freeze [] (t := 4) rfl rfl ?_
    refine SE.fin (rs := [.tmp 4]) rfl (RV.tmp rfl RV.nil) (()) (by repeat (first | exact List.nil_sublist _ | exact List.Sublist.refl _ | apply List.Sublist.cons_cons | apply List.Sublist.cons)) (by simp [It.rids]) ?_
    exact congrArg byt (by rw [List.take_of_length_le (by omega)])
set_option maxHeartbeats 2000000 in
theorem rproofs_s (hl : l.length ≤ 100000000) (hn : ps.length ≤ 1000) (hf : ∀ p ∈ ps, p.Few) : Spec Try.prog 99 [byt l, prfsA ps] [] (fun _ : Unit => []) (fun _ => byt (l ++ prfsB ps)) := by
  have hL : lots = 100000000000 := rfl
  refine spec_of Try.func99 rfl Try.ntmps99 rfl fun G w => ?_
  refine SC.seq ?_
  refine SC.region ?_
  refine SL.val (Val.assign rfl) rfl rfl ?_
  refine SL.nil ?_
  refine SE.seq ?_
  refine SC.seq ?_
  refine SC.region ?_
  refine SL.val (Val.move rfl) rfl rfl ?_
  refine SL.val (Val.move rfl) rfl rfl ?_
  first
    | refine SL.val (Val.lenSl rfl Try.underlying78 (List.length_map _)) rfl rfl ?_
    | refine SL.val (Val.lenOwn rfl (by repeat (first | assumption | exact List.mem_cons_self | apply List.mem_cons_of_mem)) Try.underlying78 (List.length_map _)) rfl rfl ?_
    | refine SL.val (Val.lenNil rfl Try.underlying78) rfl rfl ?_
  first
    | refine SL.val (Val.convI rfl Try.underlying101 (by kernel_rfl) (by simp only [InR, lo, hi]; omega)) rfl rfl ?_
    | refine SL.val (Val.convU rfl Try.underlying101 (by kernel_rfl)) rfl rfl ?_
  refine SL.call (rput_s (l := l) (x := ps.length) (n := 2) (by omega) rfl) Casts.refl (by kernel_rfl) rfl rfl rfl ?_
  refine After.pure (by repeat (first | exact Reads.nil | refine Reads.blk (by repeat (first | assumption | exact List.mem_cons_self | apply List.mem_cons_of_mem)) ?_ | refine Reads.rd (by repeat (first | assumption | exact List.mem_cons_self | apply List.mem_cons_of_mem)) ?_ | refine Reads.pc (by repeat (first | assumption | exact List.mem_cons_self | apply List.mem_cons_of_mem)) ?_ | refine Reads.rdpc (by repeat (first | assumption | exact List.mem_cons_self | apply List.mem_cons_of_mem)) ?_)) (fun _ => rfl) ?_
  intro _
  refine SL.val (Val.assign rfl) rfl rfl ?_
  refine SL.nil ?_
  refine SE.seq ?_
  refine SC.seq ?_
  refine SC.seq ?_
  refine SC.region ?_
  refine SL.val (Val.move rfl) rfl rfl ?_
  first
    | refine SL.val (Val.lenSl rfl Try.underlying78 (List.length_map _)) rfl rfl ?_
    | refine SL.val (Val.lenOwn rfl (by repeat (first | assumption | exact List.mem_cons_self | apply List.mem_cons_of_mem)) Try.underlying78 (List.length_map _)) rfl rfl ?_
    | refine SL.val (Val.lenNil rfl Try.underlying78) rfl rfl ?_
  refine SL.val (Val.move rfl) rfl rfl ?_
  refine SL.nil ?_
  refine SE.seq ?_
  refine SC.block ?_
  refine SC.loop (ι := Nat) (fun z => []) (fun z => [(0, byt (l ++ beBytes ps.length 2 ++ (ps.take z).flatMap Prf.bytes)), (12, prfsA ps), (13, int (ps.length : Nat)), (14, int (z : Nat))]) (fun z => z ≤ ps.length) (fun z => ps.length - z) (0) (Nat.zero_le _) ⟨congrArg (fun m => some (byt m)) (by simp), rfl, rfl, rfl, trivial⟩ (by repeat (first | exact List.nil_sublist _ | exact List.Sublist.refl _ | apply List.Sublist.cons_cons | apply List.Sublist.cons)) ?_
  intro z hz
  have hlen : (l ++ beBytes ps.length 2 ++ (ps.take z).flatMap Prf.bytes).length ≤ 100000000 + 2 + 1000 * 40000 := by
    have h0 := prfs_length (ps := ps.take z) (fun p hp' => hf p (List.mem_of_mem_take hp'))
    have h9 : (ps.take z).length ≤ ps.length := by simp; omega
    have h8 : (ps.take z).length * 40000 ≤ 1000 * 40000 := Nat.mul_le_mul_right _ (by omega)
    simp only [List.length_append, beBytes_length]
    omega
  refine SC.seq ?_
  refine SC.region ?_
  refine SL.val (Val.ltI rfl rfl) rfl rfl ?_
  refine SL.nil ?_
  refine SE.seq ?_
  refine SC.seq ?_
  refine SC.condP rfl ?_ ?_
  · intro hc15
    have hlt : z < ps.length := by omega
    have hfp := hf _ (List.getElem_mem hlt)
    have hbl := hfp.bytes
    refine SC.skip ?_
    refine SE.seq ?_
    refine SC.seq ?_
    refine SC.block ?_
    refine SC.seq ?_
    refine SC.region ?_
    refine SL.val (Val.indexSl tabOk Try.underlying78 rfl rfl rfl rfl (at_map (by omega)) rfl rfl) rfl rfl ?_
    first
      | refine SL.val (Val.loadAR tabOk rfl rfl rfl (by rfl)) rfl rfl ?_
      | refine SL.val (Val.loadPR tabOk rfl rfl rfl (Nat.le_of_ble_eq_true (by rfl))) rfl rfl ?_
    refine SL.eff (Eff.alloc tabOk rfl) rfl rfl ?_
    rintro _ _ ⟨b6, rfl, rfl⟩
    refine SL.eff (Eff.store tabOk rfl rfl rfl (by repeat (first | assumption | exact Upd.here | apply Upd.there)) (by rfl) (Nat.le_of_ble_eq_true (by rfl)) (by rfl) (by rfl)) rfl rfl ?_
    rintro _ _ ⟨rfl, rfl⟩
    refine SL.nil ?_
    refine SE.seq ?_
    refine SC.seq ?_
    refine SC.draw [] (.q 0 (.q 1 (.q 2 (.q 3 (.q 5 (.q 6 (.q 7 (.e 4 (.e 8 (.q 9 .nil)))))))))) (by kernel_rfl) (by kernel_rfl) ?_
    refine SX.val rfl (Val.move rfl) (by first | (simp [mids, It.mids, ownPc]; done) | (intro k hk; simp [mids, It.mids, ownPc] at hk ⊢; grind)) rfl rfl ?_
    refine SX.val rfl (Val.fieldAddr tabOk rfl rfl rfl rfl rfl) (by first | (simp [mids, It.mids, ownPc]; done) | (intro k hk; simp [mids, It.mids, ownPc] at hk ⊢; grind)) rfl rfl ?_
    refine SX.val rfl (Val.load1 tabOk rfl rfl (by first | (apply Or.inl; (repeat (first | assumption | exact List.mem_cons_self | apply List.mem_cons_of_mem)); done) | (apply Or.inr; (repeat (first | assumption | exact List.mem_cons_self | apply List.mem_cons_of_mem)); done)) List.not_mem_nil (by rfl)) (by first | (simp [mids, It.mids, ownPc]; done) | (intro k hk; simp [mids, It.mids, ownPc] at hk ⊢; grind)) rfl rfl ?_
    refine SX.val rfl (Val.convU rfl Try.underlying101 (by kernel_rfl)) (by first | (simp [mids, It.mids, ownPc]; done) | (intro k hk; simp [mids, It.mids, ownPc] at hk ⊢; grind)) rfl rfl ?_
    refine SX.val rfl (Val.fieldAddr tabOk rfl rfl rfl rfl rfl) (by first | (simp [mids, It.mids, ownPc]; done) | (intro k hk; simp [mids, It.mids, ownPc] at hk ⊢; grind)) rfl rfl ?_
    refine SX.val rfl (Val.load1 tabOk rfl rfl (by first | (apply Or.inl; (repeat (first | assumption | exact List.mem_cons_self | apply List.mem_cons_of_mem)); done) | (apply Or.inr; (repeat (first | assumption | exact List.mem_cons_self | apply List.mem_cons_of_mem)); done)) List.not_mem_nil (by rfl)) (by first | (simp [mids, It.mids, ownPc]; done) | (intro k hk; simp [mids, It.mids, ownPc] at hk ⊢; grind)) rfl rfl ?_
    refine SX.val rfl (Val.convU rfl Try.underlying101 (by kernel_rfl)) (by first | (simp [mids, It.mids, ownPc]; done) | (intro k hk; simp [mids, It.mids, ownPc] at hk ⊢; grind)) rfl rfl ?_
    refine SX.call rfl (rput_s (l := (l ++ beBytes ps.length 2 ++ (ps.take z).flatMap Prf.bytes)) (x := u64 (ps[z]'hlt).seq) (n := 8) (by omega) rfl) (by simp [mids, It.mids]) Casts.refl (by kernel_rfl) rfl rfl rfl ?_
    refine After.pure (by repeat (first | exact Reads.nil | refine Reads.blk (by repeat (first | assumption | exact List.mem_cons_self | apply List.mem_cons_of_mem)) ?_ | refine Reads.rd (by repeat (first | assumption | exact List.mem_cons_self | apply List.mem_cons_of_mem)) ?_ | refine Reads.pc (by repeat (first | assumption | exact List.mem_cons_self | apply List.mem_cons_of_mem)) ?_ | refine Reads.rdpc (by repeat (first | assumption | exact List.mem_cons_self | apply List.mem_cons_of_mem)) ?_)) (fun _ => rfl) ?_
    intro _
    refine SX.call rfl (rput_s (l := (l ++ beBytes ps.length 2 ++ (ps.take z).flatMap Prf.bytes) ++ beBytes (u64 (ps[z]'hlt).seq) 8) (x := u64 (ps[z]'hlt).view) (n := 8) (by simp only [List.length_append, beBytes_length, long8_length, List.length_cons, List.length_nil] at *; omega) rfl) (by simp [mids, It.mids]) Casts.refl (by kernel_rfl) rfl rfl rfl ?_
    refine After.pure (by repeat (first | exact Reads.nil | refine Reads.blk (by repeat (first | assumption | exact List.mem_cons_self | apply List.mem_cons_of_mem)) ?_ | refine Reads.rd (by repeat (first | assumption | exact List.mem_cons_self | apply List.mem_cons_of_mem)) ?_ | refine Reads.pc (by repeat (first | assumption | exact List.mem_cons_self | apply List.mem_cons_of_mem)) ?_ | refine Reads.rdpc (by repeat (first | assumption | exact List.mem_cons_self | apply List.mem_cons_of_mem)) ?_)) (fun _ => rfl) ?_
    intro _
    refine SX.val rfl (Val.assign rfl) (by first | (simp [mids, It.mids, ownPc]; done) | (intro k hk; simp [mids, It.mids, ownPc] at hk ⊢; grind)) rfl rfl ?_
    refine SX.nil ?_
    refine SE.seq ?_
    refine SC.region ?_
    refine SL.val (Val.move rfl) rfl rfl ?_
    refine SL.val (Val.fieldAddr tabOk rfl rfl rfl rfl rfl) rfl rfl ?_
    refine SL.val (Val.load1 tabOk rfl rfl (by first | (apply Or.inl; (repeat (first | assumption | exact List.mem_cons_self | apply List.mem_cons_of_mem)); done) | (apply Or.inr; (repeat (first | assumption | exact List.mem_cons_self | apply List.mem_cons_of_mem)); done)) List.not_mem_nil (by rfl)) rfl rfl ?_
    refine SL.call (rbbytes_s (es := (ps[z]'hlt).batch) (by have := hfp.len; omega) hfp.all) Casts.refl (by kernel_rfl) rfl rfl rfl ?_
    refine After.pure (by repeat (first | exact Reads.nil | refine Reads.blk (by repeat (first | assumption | exact List.mem_cons_self | apply List.mem_cons_of_mem)) ?_ | refine Reads.rd (by repeat (first | assumption | exact List.mem_cons_self | apply List.mem_cons_of_mem)) ?_ | refine Reads.pc (by repeat (first | assumption | exact List.mem_cons_self | apply List.mem_cons_of_mem)) ?_ | refine Reads.rdpc (by repeat (first | assumption | exact List.mem_cons_self | apply List.mem_cons_of_mem)) ?_)) (fun _ => rfl) ?_
    intro _
    refine SL.call (rrow_s (l := (l ++ beBytes ps.length 2 ++ (ps.take z).flatMap Prf.bytes) ++ beBytes (u64 (ps[z]'hlt).seq) 8 ++ beBytes (u64 (ps[z]'hlt).view) 8) (m := batchB (ps[z]'hlt).batch) (by simp only [List.length_append, beBytes_length, long8_length, List.length_cons, List.length_nil] at *; omega) (by omega)) Casts.refl (by kernel_rfl) rfl rfl rfl ?_
    refine After.pure (by repeat (first | exact Reads.nil | refine Reads.blk (by repeat (first | assumption | exact List.mem_cons_self | apply List.mem_cons_of_mem)) ?_ | refine Reads.rd (by repeat (first | assumption | exact List.mem_cons_self | apply List.mem_cons_of_mem)) ?_ | refine Reads.pc (by repeat (first | assumption | exact List.mem_cons_self | apply List.mem_cons_of_mem)) ?_ | refine Reads.rdpc (by repeat (first | assumption | exact List.mem_cons_self | apply List.mem_cons_of_mem)) ?_)) (fun _ => rfl) ?_
    intro _
    refine SL.val (Val.assign rfl) rfl rfl ?_
    refine SL.nil ?_
    refine SE.inBlock ?_
    refine SE.seq ?_
    refine SC.region ?_
    first
      | refine SL.val (Val.addI rfl rfl (by simp only [InR, lo, hi]; omega)) rfl rfl ?_
      | refine SL.val (Val.addW rfl rfl) rfl rfl ?_
    refine SL.val (Val.move rfl) rfl rfl ?_
    refine SL.nil ?_
    have e1 : (l ++ beBytes ps.length 2 ++ (ps.take z).flatMap Prf.bytes) ++ beBytes (u64 (ps[z]'hlt).seq) 8 ++ beBytes (u64 (ps[z]'hlt).view) 8 ++ beBytes (batchB (ps[z]'hlt).batch).length 4 ++ batchB (ps[z]'hlt).batch = (l ++ beBytes ps.length 2 ++ (ps.take (z + 1)).flatMap Prf.bytes) := by
      rw [List.take_succ_eq_append_getElem hlt, List.flatMap_append]
      simp [Prf.bytes, rowB, long8]
    refine SE.round (z + 1) (by first | omega | (dsimp only; omega)) (by first | omega | (dsimp only; omega)) ⟨congrArg (fun m => some (byt m)) e1, rfl, rfl, rfl, trivial⟩ (by repeat (first | exact List.nil_sublist _ | exact List.Sublist.refl _ | apply List.Sublist.cons_cons | apply List.Sublist.cons))
  · intro hc15
    refine SC.exit ?_
    refine SE.then_ (by intro h; cases h) ?_
    refine SE.then_ (by intro h; cases h) ?_
    refine SE.exit ?_
    refine SE.seq ?_
    refine SC.seq ?_
    refine SC.region ?_
    refine SL.val (Val.move rfl) rfl rfl ?_
    refine SL.val (Val.assign rfl) rfl rfl ?_
    refine SL.nil ?_
    refine SE.seq ?_
    refine SC.ret ?_
    refine SE.fin (rs := [.tmp 4]) rfl (RV.tmp rfl RV.nil) (()) (by repeat (first | exact List.nil_sublist _ | exact List.Sublist.refl _ | apply List.Sublist.cons_cons | apply List.Sublist.cons)) (by simp [It.rids]) ?_
    have e2 : (l ++ beBytes ps.length 2 ++ (ps.take z).flatMap Prf.bytes) = l ++ prfsB ps := by
      rw [List.take_of_length_le (by omega)]
      simp [prfsB]
    exact congrArg byt e2
set_option maxHeartbeats 2000000 in
theorem rbytes_s (hf : c.Few) : Spec Try.prog 62 [.agg c.abs] [] (fun _ : Unit => []) (fun _ => byt c.bytes) := by
  have hL : lots = 100000000000 := rfl
  have hn0 := hf.pts
  refine spec_of Try.func62 rfl Try.ntmps62 rfl fun G w => ?_
  refine SC.seq ?_
  refine SC.region ?_
  refine SL.eff (Eff.boxA rfl) rfl rfl ?_
  rintro _ _ ⟨b1, rfl, rfl⟩
  refine SL.val (Val.assign rfl) rfl rfl ?_
  refine SL.nil ?_
  refine SE.seq ?_
  refine SC.seq ?_
  refine SC.draw [] (.q 0 (.q 1 (.q 2 (.q 4 (.q 5 (.q 6 (.e 3 (.e 7 (.q 8 .nil))))))))) (by kernel_rfl) (by kernel_rfl) ?_
  refine SX.val rfl (Val.fieldAddr tabOk rfl rfl rfl rfl rfl) (by first | (simp [mids, It.mids, ownPc]; done) | (intro k hk; simp [mids, It.mids, ownPc] at hk ⊢; grind)) rfl rfl ?_
  refine SX.val rfl (Val.load1 tabOk rfl rfl (by first | (apply Or.inl; (repeat (first | assumption | exact List.mem_cons_self | apply List.mem_cons_of_mem)); done) | (apply Or.inr; (repeat (first | assumption | exact List.mem_cons_self | apply List.mem_cons_of_mem)); done)) List.not_mem_nil (by rfl)) (by first | (simp [mids, It.mids, ownPc]; done) | (intro k hk; simp [mids, It.mids, ownPc] at hk ⊢; grind)) rfl rfl ?_
  refine SX.val rfl (Val.convU rfl Try.underlying101 (by kernel_rfl)) (by first | (simp [mids, It.mids, ownPc]; done) | (intro k hk; simp [mids, It.mids, ownPc] at hk ⊢; grind)) rfl rfl ?_
  refine SX.val rfl (Val.fieldAddr tabOk rfl rfl rfl rfl rfl) (by first | (simp [mids, It.mids, ownPc]; done) | (intro k hk; simp [mids, It.mids, ownPc] at hk ⊢; grind)) rfl rfl ?_
  refine SX.val rfl (Val.load1 tabOk rfl rfl (by first | (apply Or.inl; (repeat (first | assumption | exact List.mem_cons_self | apply List.mem_cons_of_mem)); done) | (apply Or.inr; (repeat (first | assumption | exact List.mem_cons_self | apply List.mem_cons_of_mem)); done)) List.not_mem_nil (by rfl)) (by first | (simp [mids, It.mids, ownPc]; done) | (intro k hk; simp [mids, It.mids, ownPc] at hk ⊢; grind)) rfl rfl ?_
  refine SX.val rfl (Val.convU rfl Try.underlying101 (by kernel_rfl)) (by first | (simp [mids, It.mids, ownPc]; done) | (intro k hk; simp [mids, It.mids, ownPc] at hk ⊢; grind)) rfl rfl ?_
  refine SX.call rfl (rput_s (l := []) (x := u64 c.view) (n := 8) (by simp; omega) rfl) (by simp [mids, It.mids]) (Casts.cons (fun _ _ _ h => rep_nil h) Casts.refl) (by kernel_rfl) rfl rfl rfl ?_
  refine After.pure (by repeat (first | exact Reads.nil | refine Reads.blk (by repeat (first | assumption | exact List.mem_cons_self | apply List.mem_cons_of_mem)) ?_ | refine Reads.rd (by repeat (first | assumption | exact List.mem_cons_self | apply List.mem_cons_of_mem)) ?_ | refine Reads.pc (by repeat (first | assumption | exact List.mem_cons_self | apply List.mem_cons_of_mem)) ?_ | refine Reads.rdpc (by repeat (first | assumption | exact List.mem_cons_self | apply List.mem_cons_of_mem)) ?_)) (fun _ => rfl) ?_
  intro _
  refine SX.call rfl (rput_s (l := [] ++ beBytes (u64 c.view) 8) (x := u64 c.low) (n := 8) (by simp [beBytes_length]; omega) rfl) (by simp [mids, It.mids]) Casts.refl (by kernel_rfl) rfl rfl rfl ?_
  refine After.pure (by repeat (first | exact Reads.nil | refine Reads.blk (by repeat (first | assumption | exact List.mem_cons_self | apply List.mem_cons_of_mem)) ?_ | refine Reads.rd (by repeat (first | assumption | exact List.mem_cons_self | apply List.mem_cons_of_mem)) ?_ | refine Reads.pc (by repeat (first | assumption | exact List.mem_cons_self | apply List.mem_cons_of_mem)) ?_ | refine Reads.rdpc (by repeat (first | assumption | exact List.mem_cons_self | apply List.mem_cons_of_mem)) ?_)) (fun _ => rfl) ?_
  intro _
  refine SX.val rfl (Val.assign rfl) (by first | (simp [mids, It.mids, ownPc]; done) | (intro k hk; simp [mids, It.mids, ownPc] at hk ⊢; grind)) rfl rfl ?_
  refine SX.nil ?_
  refine SE.seq ?_
  refine SC.seq ?_
  refine SC.region ?_
  refine SL.val (Val.move rfl) rfl rfl ?_
  refine SL.val (Val.fieldAddr tabOk rfl rfl rfl rfl rfl) rfl rfl ?_
  refine SL.val (Val.load1 tabOk rfl rfl (by first | (apply Or.inl; (repeat (first | assumption | exact List.mem_cons_self | apply List.mem_cons_of_mem)); done) | (apply Or.inr; (repeat (first | assumption | exact List.mem_cons_self | apply List.mem_cons_of_mem)); done)) List.not_mem_nil (by rfl)) rfl rfl ?_
  first
    | refine SL.val (Val.lenSl rfl Try.underlying77 (List.length_map _)) rfl rfl ?_
    | refine SL.val (Val.lenOwn rfl (by repeat (first | assumption | exact List.mem_cons_self | apply List.mem_cons_of_mem)) Try.underlying77 (List.length_map _)) rfl rfl ?_
    | refine SL.val (Val.lenNil rfl Try.underlying77) rfl rfl ?_
  first
    | refine SL.val (Val.convI rfl Try.underlying101 (by kernel_rfl) (by simp only [InR, lo, hi]; omega)) rfl rfl ?_
    | refine SL.val (Val.convU rfl Try.underlying101 (by kernel_rfl)) rfl rfl ?_
  refine SL.call (rput_s (l := [] ++ beBytes (u64 c.view) 8 ++ beBytes (u64 c.low) 8) (x := c.points.length) (n := 2) (by simp [beBytes_length]; omega) rfl) Casts.refl (by kernel_rfl) rfl rfl rfl ?_
  refine After.pure (by repeat (first | exact Reads.nil | refine Reads.blk (by repeat (first | assumption | exact List.mem_cons_self | apply List.mem_cons_of_mem)) ?_ | refine Reads.rd (by repeat (first | assumption | exact List.mem_cons_self | apply List.mem_cons_of_mem)) ?_ | refine Reads.pc (by repeat (first | assumption | exact List.mem_cons_self | apply List.mem_cons_of_mem)) ?_ | refine Reads.rdpc (by repeat (first | assumption | exact List.mem_cons_self | apply List.mem_cons_of_mem)) ?_)) (fun _ => rfl) ?_
  intro _
  refine SL.val (Val.assign rfl) rfl rfl ?_
  refine SL.nil ?_
  refine SE.seq ?_
  refine SC.seq ?_
  refine SC.seq ?_
  refine SC.region ?_
  refine SL.val (Val.fieldAddr tabOk rfl rfl rfl rfl rfl) rfl rfl ?_
  refine SL.val (Val.load1 tabOk rfl rfl (by first | (apply Or.inl; (repeat (first | assumption | exact List.mem_cons_self | apply List.mem_cons_of_mem)); done) | (apply Or.inr; (repeat (first | assumption | exact List.mem_cons_self | apply List.mem_cons_of_mem)); done)) List.not_mem_nil (by rfl)) rfl rfl ?_
  first
    | refine SL.val (Val.lenSl rfl Try.underlying77 (List.length_map _)) rfl rfl ?_
    | refine SL.val (Val.lenOwn rfl (by repeat (first | assumption | exact List.mem_cons_self | apply List.mem_cons_of_mem)) Try.underlying77 (List.length_map _)) rfl rfl ?_
    | refine SL.val (Val.lenNil rfl Try.underlying77) rfl rfl ?_
  refine SL.val (Val.move rfl) rfl rfl ?_
  refine SL.nil ?_
  refine SE.seq ?_
  refine SC.block ?_
  refine SC.loop (ι := Nat) (fun z => [.blk b1 80 c.abs]) (fun z => [(1, ptr b1), (3, byt (c.head z)), (21, pntsA c.points), (22, int (c.points.length : Nat)), (23, int (z : Nat))]) (fun z => z ≤ c.points.length) (fun z => c.points.length - z) (0) (Nat.zero_le _) ⟨rfl, congrArg (fun m => some (byt m)) (by simp [Chg.head, long8]), rfl, rfl, rfl, trivial⟩ (by repeat (first | exact List.nil_sublist _ | exact List.Sublist.refl _ | apply List.Sublist.cons_cons | apply List.Sublist.cons)) ?_
  intro z hz
  have hlen := c.head_length z hf.pts
  have hpp := prfsB_length hf.fprep hf.prep
  refine SC.seq ?_
  refine SC.region ?_
  refine SL.val (Val.ltI rfl rfl) rfl rfl ?_
  refine SL.nil ?_
  refine SE.seq ?_
  refine SC.seq ?_
  refine SC.condP rfl ?_ ?_
  · intro hc24
    have hlt : z < c.points.length := by omega
    refine SC.skip ?_
    refine SE.seq ?_
    refine SC.seq ?_
    refine SC.block ?_
    refine SC.seq ?_
    refine SC.region ?_
    refine SL.val (Val.indexSl tabOk Try.underlying77 rfl rfl rfl rfl (at_map (by omega)) rfl rfl) rfl rfl ?_
    refine SL.val (Val.loadAR tabOk rfl rfl rfl (Pnt.size _)) rfl rfl ?_
    refine SL.eff (Eff.alloc tabOk rfl) rfl rfl ?_
    rintro _ _ ⟨b5, rfl, rfl⟩
    refine SL.eff (Eff.store (L' := (c.points[z]'hlt).abs) tabOk rfl rfl rfl (by repeat (first | assumption | exact Upd.here | apply Upd.there)) (Pnt.size _) (Nat.le_of_ble_eq_true (by rfl)) (Pnt.ones _) (by exact putL_all (Pnt.size _))) rfl rfl ?_
    rintro _ _ ⟨rfl, rfl⟩
    refine SL.nil ?_
    refine SE.seq ?_
    refine SC.freezeB [] 5 rfl rfl ?_
    refine SC.draw [] (.q 0 (.q 1 (.q 2 (.q 3 (.q 5 (.q 6 (.e 4 (.e 7 (.q 8 .nil))))))))) (by kernel_rfl) (by kernel_rfl) ?_
    refine SX.val rfl (Val.move rfl) (by first | (simp [mids, It.mids, ownPc]; done) | (intro k hk; simp [mids, It.mids, ownPc] at hk ⊢; grind)) rfl rfl ?_
    refine SX.val rfl (Val.fieldAddrR tabOk rfl rfl rfl rfl rfl) (by first | (simp [mids, It.mids, ownPc]; done) | (intro k hk; simp [mids, It.mids, ownPc] at hk ⊢; grind)) rfl rfl ?_
    refine SX.val rfl (Val.load1R tabOk rfl rfl rfl) (by first | (simp [mids, It.mids, ownPc]; done) | (intro k hk; simp [mids, It.mids, ownPc] at hk ⊢; grind)) rfl rfl ?_
    refine SX.val rfl (Val.convU rfl Try.underlying101 (by kernel_rfl)) (by first | (simp [mids, It.mids, ownPc]; done) | (intro k hk; simp [mids, It.mids, ownPc] at hk ⊢; grind)) rfl rfl ?_
    refine SX.val rfl (Val.fieldAddrR tabOk rfl rfl rfl rfl rfl) (by first | (simp [mids, It.mids, ownPc]; done) | (intro k hk; simp [mids, It.mids, ownPc] at hk ⊢; grind)) rfl rfl ?_
    refine SX.val rfl (Val.loadAR tabOk rfl rfl rfl (Pnt.tail_length _)) (by first | (simp [mids, It.mids, ownPc]; done) | (intro k hk; simp [mids, It.mids, ownPc] at hk ⊢; grind)) rfl rfl ?_
    refine SX.call rfl (rput_s (l := c.head z) (x := u64 (c.points[z]'hlt).seq) (n := 8) (by omega) rfl) (by simp [mids, It.mids]) Casts.refl (by kernel_rfl) rfl rfl rfl ?_
    refine After.pure (by repeat (first | exact Reads.nil | refine Reads.blk (by repeat (first | assumption | exact List.mem_cons_self | apply List.mem_cons_of_mem)) ?_ | refine Reads.rd (by repeat (first | assumption | exact List.mem_cons_self | apply List.mem_cons_of_mem)) ?_ | refine Reads.pc (by repeat (first | assumption | exact List.mem_cons_self | apply List.mem_cons_of_mem)) ?_ | refine Reads.rdpc (by repeat (first | assumption | exact List.mem_cons_self | apply List.mem_cons_of_mem)) ?_)) (fun _ => rfl) ?_
    intro _
    refine SX.call rfl (rdig_s (l := c.head z ++ beBytes (u64 (c.points[z]'hlt).seq) 8) (m := (c.points[z]'hlt).dig) (by rw [List.length_append, beBytes_length]; omega) (c.points[z]'hlt).len) (by simp [mids, It.mids]) Casts.refl (by kernel_rfl) rfl rfl rfl ?_
    refine After.pure (by repeat (first | exact Reads.nil | refine Reads.blk (by repeat (first | assumption | exact List.mem_cons_self | apply List.mem_cons_of_mem)) ?_ | refine Reads.rd (by repeat (first | assumption | exact List.mem_cons_self | apply List.mem_cons_of_mem)) ?_ | refine Reads.pc (by repeat (first | assumption | exact List.mem_cons_self | apply List.mem_cons_of_mem)) ?_ | refine Reads.rdpc (by repeat (first | assumption | exact List.mem_cons_self | apply List.mem_cons_of_mem)) ?_)) (fun _ => rfl) ?_
    intro _
    refine SX.val rfl (Val.assign rfl) (by first | (simp [mids, It.mids, ownPc]; done) | (intro k hk; simp [mids, It.mids, ownPc] at hk ⊢; grind)) rfl rfl ?_
    refine SX.nil ?_
    refine SE.inBlock ?_
    refine SE.seq ?_
    refine SC.region ?_
    first
      | refine SL.val (Val.addI rfl rfl (by simp only [InR, lo, hi]; omega)) rfl rfl ?_
      | refine SL.val (Val.addW rfl rfl) rfl rfl ?_
    refine SL.val (Val.move rfl) rfl rfl ?_
    refine SL.nil ?_
    have e1 : c.head z ++ beBytes (u64 (c.points[z]'hlt).seq) 8 ++ (c.points[z]'hlt).dig = c.head (z + 1) := by
      unfold Chg.head
      rw [List.take_succ_eq_append_getElem hlt, List.flatMap_append]
      simp [Pnt.bytes, long8]
    refine SE.round (z + 1) (by first | omega | (dsimp only; omega)) (by first | omega | (dsimp only; omega)) ⟨rfl, congrArg (fun m => some (byt m)) e1, rfl, rfl, rfl, trivial⟩ (by repeat (first | exact List.nil_sublist _ | exact List.Sublist.refl _ | apply List.Sublist.cons_cons | apply List.Sublist.cons))
  · intro hc24
    refine SC.exit ?_
    refine SE.then_ (by intro h; cases h) ?_
    refine SE.then_ (by intro h; cases h) ?_
    refine SE.exit ?_
    refine SE.seq ?_
    refine SC.seq ?_
    refine SC.draw [] (.q 0 (.q 1 (.q 2 (.q 4 (.q 5 (.e 3 (.e 6 (.q 7 .nil)))))))) (by kernel_rfl) (by kernel_rfl) ?_
    refine SX.val rfl (Val.move rfl) (by first | (simp [mids, It.mids, ownPc]; done) | (intro k hk; simp [mids, It.mids, ownPc] at hk ⊢; grind)) rfl rfl ?_
    refine SX.val rfl (Val.fieldAddr tabOk rfl rfl rfl rfl rfl) (by first | (simp [mids, It.mids, ownPc]; done) | (intro k hk; simp [mids, It.mids, ownPc] at hk ⊢; grind)) rfl rfl ?_
    refine SX.val rfl (Val.load1 tabOk rfl rfl (by first | (apply Or.inl; (repeat (first | assumption | exact List.mem_cons_self | apply List.mem_cons_of_mem)); done) | (apply Or.inr; (repeat (first | assumption | exact List.mem_cons_self | apply List.mem_cons_of_mem)); done)) List.not_mem_nil (by rfl)) (by first | (simp [mids, It.mids, ownPc]; done) | (intro k hk; simp [mids, It.mids, ownPc] at hk ⊢; grind)) rfl rfl ?_
    refine SX.val rfl (Val.fieldAddr tabOk rfl rfl rfl rfl rfl) (by first | (simp [mids, It.mids, ownPc]; done) | (intro k hk; simp [mids, It.mids, ownPc] at hk ⊢; grind)) rfl rfl ?_
    refine SX.val rfl (Val.load1 tabOk rfl rfl (by first | (apply Or.inl; (repeat (first | assumption | exact List.mem_cons_self | apply List.mem_cons_of_mem)); done) | (apply Or.inr; (repeat (first | assumption | exact List.mem_cons_self | apply List.mem_cons_of_mem)); done)) List.not_mem_nil (by rfl)) (by first | (simp [mids, It.mids, ownPc]; done) | (intro k hk; simp [mids, It.mids, ownPc] at hk ⊢; grind)) rfl rfl ?_
    refine SX.call rfl (rproofs_s (l := c.head z) (ps := c.prepared) (by omega) hf.prep hf.fprep) (by simp [mids, It.mids]) Casts.refl (by kernel_rfl) rfl rfl rfl ?_
    refine After.pure (by repeat (first | exact Reads.nil | refine Reads.blk (by repeat (first | assumption | exact List.mem_cons_self | apply List.mem_cons_of_mem)) ?_ | refine Reads.rd (by repeat (first | assumption | exact List.mem_cons_self | apply List.mem_cons_of_mem)) ?_ | refine Reads.pc (by repeat (first | assumption | exact List.mem_cons_self | apply List.mem_cons_of_mem)) ?_ | refine Reads.rdpc (by repeat (first | assumption | exact List.mem_cons_self | apply List.mem_cons_of_mem)) ?_)) (fun _ => rfl) ?_
    intro _
    refine SX.call rfl (rproofs_s (l := c.head z ++ prfsB c.prepared) (ps := c.proposed) (by rw [List.length_append]; omega) hf.prop hf.fprop) (by simp [mids, It.mids]) Casts.refl (by kernel_rfl) rfl rfl rfl ?_
    refine After.pure (by repeat (first | exact Reads.nil | refine Reads.blk (by repeat (first | assumption | exact List.mem_cons_self | apply List.mem_cons_of_mem)) ?_ | refine Reads.rd (by repeat (first | assumption | exact List.mem_cons_self | apply List.mem_cons_of_mem)) ?_ | refine Reads.pc (by repeat (first | assumption | exact List.mem_cons_self | apply List.mem_cons_of_mem)) ?_ | refine Reads.rdpc (by repeat (first | assumption | exact List.mem_cons_self | apply List.mem_cons_of_mem)) ?_)) (fun _ => rfl) ?_
    intro _
    refine SX.val rfl (Val.assign rfl) (by first | (simp [mids, It.mids, ownPc]; done) | (intro k hk; simp [mids, It.mids, ownPc] at hk ⊢; grind)) rfl rfl ?_
    refine SX.nil ?_
    refine SE.seq ?_
    refine SC.ret ?_
    refine SE.fin (rs := [.tmp 2]) rfl (RV.tmp rfl RV.nil) (()) (by repeat (first | exact List.nil_sublist _ | exact List.Sublist.refl _ | apply List.Sublist.cons_cons | apply List.Sublist.cons)) (by simp [It.rids]) ?_
    have e2 : z = c.points.length := by omega
    subst e2
    exact congrArg byt (by simp [Chg.bytes])
end
end Go.Proofs.Ytdbeinbgekdnmaa.A
