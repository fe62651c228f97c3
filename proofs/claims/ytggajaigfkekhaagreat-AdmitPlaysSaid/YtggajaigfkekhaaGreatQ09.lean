/-
  Packed out of the texts: A16, A19, Id, Y1, Lay, Iter, Y2, Y3, Y4, AD1, A21, AD4, AD2, K1, A20, A24, A25, A26, AD5, A33, A17, A31, AD6.
-/
import Derived.Test.YtggajaigfkekhaaGreatQ08
import Derived.DataShut
import Derived.Shelf.SlIterI.Nil
import Derived.Shelf.SlIterI.Sorted
import Derived.Shelf.SortM.Plain
import Derived.Shelf.SortM.SortNone
import Derived.Test.YtggajaigfkekhaaGreatProg
import Derived.Lib.AppendZerosOnto
import Derived.Lib.Overlaps
import Derived.Sort.Walk0
import Derived.Maps.RangeRun
set_option maxRecDepth 100000
set_option linter.unusedSimpArgs false
set_option linter.unusedVariables false
namespace Go.Proofs.YtggajaigfkekhaaGreat.A
open Go.RowKit
def cutTo : Value → Nat → Value
  | .slice a _ c, q => .slice a q c
  | v, _ => v
def cutFrom : Value → Nat → Value
  | .slice (some ⟨b, off, _⟩) n c, q => .slice (some ⟨b, off + q, none⟩) (n - q) (c - q)
  | v, _ => v
theorem h8_ (v : Value) (q : Nat) : (cutTo v q).ownBlock = v.ownBlock := by
  unfold cutTo
  split
  · next a n c => cases a <;> rfl
  · rfl
section
variable {P : Program} {n : Nat} {W : Wd} {σ τ : Blks} {l : Slots} {X : List Nat} {x y z : Operand} {d : Option Nat} {ty t e e' : TypeId} {pos : String} {aft : Array Edge} {g : Option (Nat × Bool)} {v u : Value} {k : IntKind} {tab : List (Nat × TI)} {xs ys : List (List Abs)} {s q : Nat} {ops : Array Oper} {rest : List Oper} {Q : Exit → Act → World → Prop}
theorem fy_ (hT : TabOk P tab) {j : TI} (hu : P.underlying t = some (.slice e)) (hj : ti tab e = some j) (h1 : Nat.beq j.size 1 = true) (hx : look l x = some (.v v)) (hb : isOwn σ e' 1 v xs) {r : Int} (hy : look l y = some (.v (.int k r))) (hr : r = (q : Nat)) (hq : q < xs.length) :
    Val P n W σ l X ⟨d, .slice t x (some y) none none, ty, pos, aft, g⟩ (.v (cutFrom v q)) := fun a w hs _ => by
  subst hr
  have h1 := Nat.eq_of_beq_eq_true h1
  obtain ⟨us, hr1, hr2⟩ := hs.mem.ownR hb
  obtain ⟨b, off, c, hv, _⟩ := kK_ hr1 hr2 (by omega) (List.getElem?_eq_getElem hq)
  obtain ⟨A', c', hsh, h3, _⟩ := hr1.shape
  have hc : c = c' := by
    have := hv.symm.trans hsh
    injection this
  subst hc
  refine ⟨_, rfl, fun w' _ => ?_⟩
  have h7 := (hT _ _ hj).sizeOf (w := w')
  have e1 : a.eval x = .slice (some ⟨b, off, none⟩) xs.length c := (hs.plain hx).trans hv
  have e2 : a.eval y = .int k ((q : Nat) : Int) := hs.plain hy
  rw [hv]
  have hne : ¬ c = q := by omega
  simp [execOp, Instr.sliceAt, Instr.slice, Instr.sliceBounds, Instr.sliceBound, asIntOf, e1, e2, run_underlying hu, Sem.run_bind, Result.andThen, h7, h1, hne, Nat.le_of_lt hq, Addr.add, cutFrom]
theorem fz_ (hT : TabOk P tab) {j : TI} (hu : P.underlying t = some (.slice e)) (hj : ti tab e = some j) (hx : look l x = some (.v v)) (hb : isOwn σ e' s v xs) {r : Int} (hy : look l y = some (.v (.int k r))) (hr : r = (q : Nat)) (hq : q ≤ xs.length) :
    Val P n W σ l X ⟨d, .slice t x none (some y) none, ty, pos, aft, g⟩ (.v (cutTo v q)) := fun a w hs _ => by
  subst hr
  obtain ⟨us, hr1, hr2⟩ := hs.mem.ownR hb
  obtain ⟨A', c, hsh, h3, _⟩ := hr1.shape
  refine ⟨_, rfl, fun w' _ => ?_⟩
  have h7 := (hT _ _ hj).sizeOf (w := w')
  have e1 : a.eval x = .slice A' xs.length c := (hs.plain hx).trans hsh
  have e2 : a.eval y = .int k ((q : Nat) : Int) := hs.plain hy
  rw [hsh]
  have hqc : q ≤ c := by omega
  simp [execOp, Instr.sliceAt, Instr.slice, Instr.sliceBounds, Instr.sliceBound, asIntOf, e1, e2, run_underlying hu, Sem.run_bind, Result.andThen, h7, hqc, Addr.add, cutTo]
  try (cases A' <;> simp)
theorem St.cutOwn {a : Act} {w : World} (h : St n W σ l a w) (hu : Upd (own e s v xs) (own e s (cutTo v q) (xs.take q)) σ τ) (hq : q ≤ xs.length) : St n W τ l a w := by
  obtain ⟨us, hown, hr⟩ : (ownPc e s v xs).p _ w := h.mem.hold _ hu.mem
  have hm := h.mem.upd hu (Ext.refl w) bT_ (fun k hk => .inl (by simpa [It.mids, ownPc, h8_] using hk)) rfl fun hc => by
    refine ⟨us.take (q * s), ⟨?_, ?_⟩, aP_ hc s _ _ (c0_ hr q hq).2⟩
    · rw [List.length_take, List.length_take, hown.1, Nat.min_eq_left hq, Nat.min_eq_left (Nat.mul_le_mul_right _ hq)]
    · rcases hown.2 with ⟨rfl, h0⟩ | ⟨gb, cap, cur, rfl, hbase, hg, hn, hcap, hsz, htk⟩
      · refine .inl ⟨?_, ?_⟩
        · have : q = 0 := by omega
          rw [this]; rfl
        · rw [List.length_take]; omega
      · refine .inr ⟨gb, cap, cur, ?_, hbase, hg, by rw [List.length_take]; omega, hcap, hsz, ?_⟩
        · rw [List.length_take, Nat.min_eq_left hq]; rfl
        · rw [List.length_take, Nat.min_eq_left hq, ← htk, List.take_take, Nat.min_eq_left (Nat.mul_le_mul_right _ hq)]
  exact h.to hm.1 hm.2
theorem lJ_ (hy : xs.take q = ys) (hu : Upd (own e s v xs) (own e s (cutTo v q) ys) σ τ) (hq : q ≤ xs.length) (k : SL P ops rest (St n W τ l) Q) : SL P ops rest (St n W σ l) Q := by subst hy; exact fun a w h => k a w (h.cutOwn hu hq)
theorem gX_ {K : List Nat} {w : World} {z : Value} : ∀ m : Nat, repss K w 1 (List.replicate m [.v z]) (List.replicate m z)
  | 0 => rfl
  | m + 1 => ⟨[z], List.replicate m z, rfl, rfl, ⟨z, [], rfl, rfl, rfl⟩, gX_ m⟩
theorem hE_ {z : Value} (hu : P.underlying t = some (.slice e')) (hz : ∀ w, (zeroValue e').run P w = .ok z w) (hc : z.cells = #[z]) (h1 : z.oneCell' = true) (hx : look l x = some (.v (cutFrom v q))) (hq : q < xs.length) (hup : Upd (own e 1 v xs) (own e 1 v (xs.take q ++ List.replicate (xs.length - q) [.v z])) σ τ) :
    Eff P n W σ l v.ownBlock.toList ⟨d, .call { callee := .builtin .clear, args := #[x], argTypes := #[t] }, ty, pos, aft, g⟩ fun u τ' => u = .tup [] ∧ τ' = τ := fun ac w hst => by
  obtain ⟨us, hown, hr⟩ : (ownPc e 1 v xs).p _ w := hst.mem.hold _ hup.mem
  have hul := hown.1
  rw [Nat.mul_one] at hul
  rcases hown.2 with ⟨h, h0⟩ | ⟨gb, cap, cur, hv, hbase, hg, hn, hcap, hsz, htk⟩
  · omega
  · subst hv
    rw [Nat.mul_one] at hsz htk
    have hrun := run_storeCells_at (P := P) gb (0 + q) e (List.replicate (xs.length - q) z) 0 cur w hg (by rw [List.length_replicate]; omega) (fun v hv => by rw [List.eq_of_mem_replicate hv]; exact h1)
    have e0 : 0 + q + 0 = q := by omega
    rw [e0, List.length_replicate] at hrun
    have hcl : cur.toList.length = cur.size := by simp
    have hxx : Ext (Value.ownBlock (.slice (some ⟨gb, 0, none⟩) xs.length cap)).toList w (w.setRow gb (cur.toList.take q ++ List.replicate (xs.length - q) z ++ cur.toList.drop (q + (xs.length - q))).toArray) := (Ext.refl w).setRow (.inl (by simp [Value.ownBlock])) _
    have hnew : (cur.toList.take q ++ List.replicate (xs.length - q) z ++ cur.toList.drop (q + (xs.length - q))).take xs.length = us.take q ++ List.replicate (xs.length - q) z := by
      rw [← htk]
      apply List.ext_getElem?
      intro j
      simp only [List.getElem?_take, List.getElem?_append, List.length_append, List.length_take, List.getElem?_drop, List.length_replicate, List.getElem?_replicate]
      grind
    have hlen : (xs.take q ++ List.replicate (xs.length - q) [Abs.v z]).length = xs.length := by simp; omega
    have hm := hst.mem.upd hup hxx bT_ (fun k hk => .inl hk) rfl fun hca => ⟨us.take q ++ List.replicate (xs.length - q) z, ⟨?_, .inr ⟨gb, cap, _, by rw [hlen], hbase, setRow_heap w gb cur _ e (0, 0) hg, by rw [hlen]; exact hn, hcap, ?_, ?_⟩⟩, cN_ (aP_ hca 1 _ _ (by simpa using (c0_ hr q (by omega)).2)) (gX_ _)⟩
    · refine ⟨.tuple #[], _, _, _, ⟨rfl, rfl⟩, hxx, ⟨[], rfl, rfl⟩, hm.1, hm.2, .inl ?_⟩
      have hx2 : ac.eval x = .slice (some ⟨gb, 0 + q, none⟩) (xs.length - q) (cap - q) := hst.plain hx
      have hzc : (Builtin.zeroCells z.cells (xs.length - q)).toList = List.replicate (xs.length - q) z := by
        rw [hc]
        simp [Builtin.zeroCells]
        apply List.ext_getElem
        · simp
        · intro i h1 h2
          simp [Nat.mod_one]
      have hcl : (Builtin.clear_ #[t] ty #[.slice (some ⟨gb, 0 + q, none⟩) (xs.length - q) (cap - q)]).run P w = .ok (.tuple #[]) (w.setRow gb (cur.toList.take q ++ List.replicate (xs.length - q) z ++ cur.toList.drop (q + (xs.length - q))).toArray) := by
        obtain ⟨m, hm⟩ : ∃ m, xs.length - q = m + 1 := ⟨xs.length - q - 1, by omega⟩
        rw [hm] at hzc hrun ⊢
        simp [Builtin.clear_, run_underlying hu, hz, hzc, hrun, Sem.run_bind, Result.andThen]
        try simp_all
      rw [Nat.zero_add] at hx2 hcl
      rw [List.append_assoc] at hcl ⊢
      simp [execOp, resolve, invoke, builtin, hx2, hcl, Result.andThen]
    · simp only [List.length_append, List.length_take, List.length_replicate]
      omega
    · simp only [List.size_toArray, List.length_append, List.length_take, List.length_drop, List.length_replicate]
      omega
    · rw [hlen, Nat.mul_one]
      simpa using hnew
end
def RdAll (σ : Blks) : Prop := ∀ x ∈ σ, (∃ b t cs, x = .rd b t cs) ∨ ∃ c, x = .rdpc c
theorem RdAll.reads {σ τ : Blks} (h : RdAll τ) (hs : ∀ x ∈ τ, x ∈ σ) : Reads σ τ := by
  induction τ with
  | nil => exact .nil
  | cons x τ ih =>
    have h1 := ih (fun y hy => h y (List.mem_cons_of_mem _ hy)) (fun y hy => hs y (List.mem_cons_of_mem _ hy))
    have hx := hs x List.mem_cons_self
    rcases h x List.mem_cons_self with ⟨b, t, cs, rfl⟩ | ⟨c, rfl⟩
    · exact .rd hx h1
    · exact .rdpc hx h1
section
variable {P : Program} {n : Nat} {W : Wd} {σ σ0 : Blks} {l : Slots} {X0 : List Nat} {ops : Array Oper} {Q : Exit → Act → World → Prop} {ix : Plan} {o : Oper}
theorem gE_ (ν : Blks) (X0 : List Nat) {i : Nat} {Y : List Nat} {R : Abs → Blks → Prop} (hi : ops[i]? = some o) (hv : Eff P n W σ l Y o R) (hσ : σ = ν ++ σ0) (hY : ∀ k ∈ Y, k ∈ mids ν ++ X0) (hg : gd ops l o = some true) (hd : lt? o.dst n = true)
    (k : ∀ y τ, R y τ → ∃ ν' : Blks, τ = ν' ++ σ0 ∧ SX P ops ix (mids ν' ++ X0) (St n W τ (put? l o.dst y)) Q) : SX P ops (.e i ix) (mids ν ++ X0) (St n W σ l) Q := fun a w hs => by
  unfold planW wpOp
  simp only [hi, hs.wanted hg, if_true]
  refine .inl ?_
  unfold Oper.wp
  obtain ⟨v, w', y, τ, hR, hx, hr, hm, hc, hrun⟩ := hv a w hs
  obtain ⟨ν', hτ, hk⟩ := k y τ hR
  have hnew : ∀ k ∈ mids ν' ++ X0, k ∈ mids ν ++ X0 ∨ w.heap.size ≤ k := fun k hk => by
    rcases List.mem_append.1 hk with hk | hk
    · have hkt : k ∈ mids τ := by rw [hτ, ab_]; exact List.mem_append_left _ hk
      rcases Nat.lt_or_ge k w.heap.size with h1 | h1
      · have h2 : k ∈ mids σ ++ W.G := Classical.byContradiction fun hn => hc.out k hn h1 (List.mem_append_left _ hkt)
        rcases List.mem_append.1 h2 with h2 | h2
        · rw [hσ, ab_] at h2
          rcases List.mem_append.1 h2 with h2 | h2
          · exact .inl (List.mem_append_left _ h2)
          · have hnd := hm.nodup
            rw [hτ, ab_, List.nodup_append] at hnd
            exact absurd rfl (hnd.2.2 k hk k h2)
        · exact absurd h2 (hm.sep k hkt)
      · exact .inr h1
    · exact .inl (List.mem_append_right _ hk)
  have hinv : ∀ w2, Ext (mids ν' ++ X0) w' w2 → Ext (mids ν ++ X0) w w2 := fun w2 h2 => (hx.mono (fun k hk => .inl (hY k hk))).trans h2 hnew
  rcases hrun with hrun | ⟨rfl, hrun⟩
  · rw [hrun]; exact ⟨fun w2 => Ext (mids ν' ++ X0) w' w2, hinv, Ext.refl w', hk _ _ ((hs.to hm hc).put hd hr)⟩
  · rw [hrun]; exact ⟨fun w2 => Ext (mids ν' ++ X0) w' w2, hinv, Ext.refl w', hk _ _ ((hs.to hm hc).put hd hr)⟩
end
theorem Re.cons {xs ys : Blks} {x : It} (hx : x.rids = []) (h : Re xs ys) : Re (x :: xs) (x :: ys) where
  ids := by
    obtain ⟨a, ha⟩ := h.ids
    refine ⟨a, ?_⟩
    rw [aB_, aB_, List.append_assoc]
    exact List.Perm.append_left _ ha
  rd := fun y hy => by
    rcases List.mem_cons.1 hy with rfl | hy
    · exact hx
    · exact h.rd y hy
  hh := fun K w hk y hy => by
    rcases List.mem_cons.1 hy with rfl | hy
    · exact hk _ List.mem_cons_self
    · exact h.hh K w (fun z hz => hk z (List.mem_cons_of_mem _ hz)) y hy
theorem Re.perm {xs ys : Blks} (h : xs.Perm ys) (hr : ∀ x ∈ xs, x.rids = []) : Re xs ys := ⟨⟨[], by rw [List.append_nil]; exact dD_ h⟩, fun y hy => hr y (h.mem_iff.2 hy), fun K w hx y hy => hx y (h.mem_iff.2 hy)⟩
theorem g9_ : ∀ w, (zeroValue 3).run Tryz.prog w = .ok (cntV 0) w := fun w => by
  kernel_rfl
def num6 (f n z : Nat) : List UInt8 := UInt8.ofNat f :: (List.replicate 23 0 ++ (beBytes n 8).take z ++ List.replicate (8 - z) 0)
theorem num6_len {f n z : Nat} (hz : z ≤ 8) : (num6 f n z).length = 32 := by
  simp [num6, v_]
  omega
theorem cu_ {f n z : Nat} (hz : z ≤ 8) : (digA (num6 f n z)).length = 32 := by rw [digA, List.length_map, num6_len hz]
theorem num6_end {f n : Nat} : num6 f n 8 = numB f n := by
  unfold num6 numB
  rw [List.take_of_length_le (by rw [v_]; exact Nat.le_refl _)]
  simp
theorem num6_put {f n z : Nat} (hz : z < (beBytes n 8).length) : putL (digA (num6 f n z)) (24 + z) [.v (bc (beBytes n 8)[z])] = digA (num6 f n (z + 1)) := by
  have h8 : (beBytes n 8).length = 8 := v_ _ _
  rw [b9_ _ _ _ (by rw [cu_ (by omega)]; omega)]
  have e1 : num6 f n z = (UInt8.ofNat f :: (List.replicate 23 0 ++ (beBytes n 8).take z)) ++ (0 :: List.replicate (8 - (z + 1)) 0) := by
    unfold num6
    rw [show 8 - z = (8 - (z + 1)) + 1 by omega, List.replicate_succ (n := 8 - (z + 1)), ← List.cons_append]
  have e2 : num6 f n (z + 1) = (UInt8.ofNat f :: (List.replicate 23 0 ++ (beBytes n 8).take z)) ++ ((beBytes n 8)[z] :: List.replicate (8 - (z + 1)) 0) := by
    unfold num6
    rw [List.take_succ_eq_append_getElem hz, List.cons_append, List.append_assoc, List.append_assoc, List.append_assoc, List.singleton_append]
  have hl : (UInt8.ofNat f :: (List.replicate 23 0 ++ (beBytes n 8).take z)).length = 24 + z := by
    simp [h8]
    omega
  rw [e1, e2]
  unfold digA
  rw [List.map_append, List.map_append, List.take_append_of_le_length (by rw [List.length_map, hl]; exact Nat.le_refl _), List.take_of_length_le (by rw [List.length_map, hl]; exact Nat.le_refl _), List.drop_append, List.drop_of_length_le (by rw [List.length_map, hl]; simp), List.length_map, hl, List.map_cons, List.map_cons]
  simp
theorem eJ_ (d : List UInt8) : ones (digA d) = true := bE_.2 fun a ha => by
  obtain ⟨b, _, rfl⟩ := List.mem_map.1 ha
  rfl
section
variable {f n : Nat} {l : List UInt8} {x : UInt8} {a b : Int}
set_option maxHeartbeats 2000000 in
theorem inum_s (hf : f < 256) (hn : n < 9223372036854775808) : Spec Tryz.prog 79 [.v (.int .u8 (f : Nat)), int (n : Nat)] [] (fun _ : Unit => []) (fun _ => .agg (digA (numB f n))) := by
 refine G_ Tryz.func79 rfl Tryz.ntmps79 rfl fun G w =>d_<|a_<|eb_ (B_ tabOk rfl) rfl rfl fun b4=>?_
 refine g_<|c_<|d_<|a_<|eb_ (B_ tabOk rfl) rfl rfl fun b5=>?_
 refine g_<|c_<|d_<|a_<|q_ 1 rfl<|b_ (eq_ (q := 0) tabOk Tryz.underlying39 rfl rfl rfl rfl (by decide) rfl) rfl rfl ?_
 refine e_ (w_ (L' := digA (num6 f n 0)) tabOk rfl rfl rfl u0_ rfl (Nat.le_of_ble_eq_true rfl) rfl (by simp [num6, zabs, putL, digA, beBytes, cellsA, bc]; omega)) rfl rfl ?_
 refine g_<|c_<|d_<|d_<|a_<|q_ 1 rfl<|b_ (al_ rfl Tryz.underlying134 (by kernel_rfl) (by simp only [InR, lo, hi]; omega)) rfl rfl ?_
 refine u_ (em_ (l := []) (x := n) (n := 8) (by decide) rfl) (Casts.nils (s := 1) Casts.refl) (by kernel_rfl) rfl rfl rfl ?_
 refine ap_<|fun _=>b_ (z_ rfl Tryz.underlying27 (List.length_map _)) rfl rfl<|q_ 1 rfl<|g_<|c_<|t_<|S_ (ι := Nat) (fun z => [.blk b5 39 (digA (num6 f n z)), .blk b4 39 (zabs (List.replicate 32 (.int .u8 0)))]) (fun z => [(4, ptr b4), (5, ptr b5), (12, byt (beBytes n 8)), (13, int (8 : Nat)), (14, int (z : Nat))]) (fun z => z ≤ 8) (fun z => 8 - z) (0) (Nat.zero_le _) (by exact ⟨rfl, rfl, rfl, congrArg (fun x : Nat => some (int (x : Nat))) (show ([] ++ beBytes n 8).length = 8 by simp [v_]), rfl, trivial⟩) sr_ ?_
 intro z hz
 refine d_<|a_<|q_ 1 rfl<|g_<|c_<|d_<|r_ rfl ?_ ?_
 rotate_left
 ·intro hc15
  have h8 : ([] ++ beBytes n 8).length = 8 := by simp [v_]
  have hz8 : z = 8 := by omega
  refine Q_<|i_ nofun<|i_ nofun<|P_<|c_<|d_<|a_<|b_ (F_ tabOk rfl rfl rfl l0_ List.not_mem_nil (cu_ (by omega))) rfl rfl ?_
  refine e_ (w_ (L' := digA (num6 f n z)) tabOk rfl rfl rfl u1_ (by simp only [cellsA]; rw [cu_ (by omega)]) (Nat.le_of_ble_eq_true rfl) (eJ_ _) (by exact A_ (by simp only [cellsA]; rw [cu_ (by omega)]; rfl))) rfl rfl ?_
  refine g_<|c_<|n_<|f_ (rs := [.cell 4 39]) rfl (RV.cell rfl (RV.cellA tabOk rfl rfl l1_ (cu_ (by omega))) RV.nil) () sn_ ?_
  show Abs.agg (digA (num6 f n z)) = _
  rw [hz8, num6_end]
 intro hc15
 have h8 : ([] ++ beBytes n 8).length = 8 := by simp [v_]
 have hlt : z < (beBytes n 8).length := by rw [v_]; omega
 refine p_<|c_<|d_<|t_<|d_<|a_<|q_ 1 rfl<|b_ (D_ (q := z) tabOk Tryz.underlying27 rfl rfl rfl rfl (aa_ hlt) rfl rfl) rfl rfl<|b_ (m_ (C := .v (bc ((beBytes n 8)[z]'hlt))) (au_ tabOk rfl rfl rfl) rfl) rfl rfl<|q_ 2 rfl<|g_<|c_<|a_<|q_ 1 rfl<|b_ (m_ (C := int ((24 + z : Nat) : Int)) (s_ rfl rfl (by simp only [InR, lo, hi]; omega)) (congrArg int (by omega))) rfl rfl ?_
 refine q_ 1 rfl<|b_ (eq_ (q := 24 + z) tabOk Tryz.underlying39 rfl rfl rfl rfl (by omega) rfl) rfl rfl ?_
 refine e_ (w_ (L' := digA (num6 f n (z + 1))) tabOk rfl rfl rfl u0_ rfl (by rw [cu_ (by omega)]; show 0 + (24 + z) * 1 + 1 ≤ 32; omega) rfl (by rw [show 0 + (24 + z) * 1 = 24 + z by omega]; exact num6_put hlt)) rfl rfl ?_
 refine g_<|o_<|c_<|a_<|b_ (s_ rfl rfl (by simp only [InR, lo, hi]; omega)) rfl rfl ?_
 refine q_ 1 rfl<|g_<|x_ (z + 1) (by omega) (by omega) (by exact ⟨rfl, rfl, rfl, rfl, rfl, trivial⟩) sr_
end
section
variable {q bd bt : Nat} {D T : List (ByteArray × Nat)} {a b : Int} {l M : List UInt8}
theorem cg_is (c : List (ByteArray × Nat)) (v : ByteArray) : (int ((cget c v : Nat) : Int)).is (((aget c v).map cntV).getD (cntV 0)) := aR_ c v
theorem k1_  : Spec Tryz.prog 8 [] [] (fun z : Nat × Nat × Nat => [.blk z.1 86 [mapV z.2.1, mapV z.2.2], .pc (mapPc z.2.1 Value.string cntV sOk []), .pc (mapPc z.2.2 Value.string cntV sOk [])]) (fun z => ptr z.1) := by
 refine G_ Tryz.func8 rfl Tryz.ntmps8 rfl fun G w =>d_<|a_<|q_ 1 rfl<|g_<|c_<|d_<|a_<|eb_ (cK_ Value.string cntV sOk (fun ac w => by simp [execOp, Instr.makeMap, newObj, Sem.run, Sem.run_bind, Result.andThen])) rfl rfl fun m1=>?_
 refine eb_ (cK_ Value.string cntV sOk (fun ac w => by simp [execOp, Instr.makeMap, newObj, Sem.run, Sem.run_bind, Result.andThen])) rfl rfl fun m2=>?_
 refine b_ (J_ tabOk rfl rfl rfl rfl) rfl rfl<|eb_ (L_ rfl) rfl rfl fun b4=>?_
 exact q_ 1 rfl<|g_<|c_<|n_<|iw_ (List.Perm.cons _ (List.Perm.swap _ _ _))<|f_ (rs := [.tmp 0]) rfl (RV.tmp rfl RV.nil) (b4, m1, m2) sr_<|rfl
end
end Go.Proofs.YtggajaigfkekhaaGreat.A
namespace Go.Proofs.YtggajaigfkekhaaGreat
open Go.Shelf Go.RowKit
def hH_ : Ren := ⟨fun | 5 => 88 | 8 => 119 | 7 => 118 | 19 => 145 | 20 => 146 | 10 => 136 | 11 => 137 | 12 => 138 | 13 => 139 | 14 => 140 | 15 => 141 | 16 => 142 | 17 => 143 | 18 => 144 | 30 => 156 | 31 => 157 | 32 => 158 | 33 => 159 | 34 => 160 | 35 => 161 | 40 => 164 | n => n, fun | 23 => 113 | 25 => 2 | 3 => 3 | 32 => 172 | 22 => 113 | 0 => 0 | 44 => 80 | 46 => 134 | 4 => 4 | 36 => 193 | 35 => 192 | 41 => 198 | 5 => 5 | 9 => 9 | 53 => 206 | 57 => 210 | 63 => 214 | 64 => 215 | n => n, fun n => n⟩
theorem eW_ : SlLaysM.n5 Tryz.prog hH_ := {
  mixed := by kernel_rfl,
  f5 := ⟨Tryz.f88.name, by decide, Tryz.func88.trans (congrArg some (by kernel_rfl))⟩,
  f7 := ⟨Tryz.f118.name, by decide, Tryz.func118.trans (congrArg some (by kernel_rfl))⟩,
  f8 := Tryz.func119.trans (congrArg some (by kernel_rfl)),
  f10 := ⟨Tryz.f136.name, by decide, Tryz.func136.trans (congrArg some (by kernel_rfl))⟩,
  f11 := ⟨Tryz.f137.name, by decide, Tryz.func137.trans (congrArg some (by kernel_rfl))⟩,
  f12 := ⟨Tryz.f138.name, by decide, Tryz.func138.trans (congrArg some (by kernel_rfl))⟩,
  f13 := ⟨Tryz.f139.name, by decide, Tryz.func139.trans (congrArg some (by kernel_rfl))⟩,
  f14 := ⟨Tryz.f140.name, by decide, Tryz.func140.trans (congrArg some (by kernel_rfl))⟩,
  f15 := ⟨Tryz.f141.name, by decide, Tryz.func141.trans (congrArg some (by kernel_rfl))⟩,
  f16 := ⟨Tryz.f142.name, by decide, Tryz.func142.trans (congrArg some (by kernel_rfl))⟩,
  f17 := ⟨Tryz.f143.name, by decide, Tryz.func143.trans (congrArg some (by kernel_rfl))⟩,
  f18 := ⟨Tryz.f144.name, by decide, Tryz.func144.trans (congrArg some (by kernel_rfl))⟩,
  f19 := Tryz.func145.trans (congrArg some (by kernel_rfl)),
  f20 := Tryz.func146.trans (congrArg some (by kernel_rfl)),
  f30 := ⟨Tryz.f156.name, by decide, Tryz.func156.trans (congrArg some (by kernel_rfl))⟩,
  f31 := Tryz.func157.trans (congrArg some (by kernel_rfl)),
  f32 := Tryz.func158.trans (congrArg some (by kernel_rfl)),
  f33 := ⟨Tryz.f159.name, by decide, Tryz.func159.trans (congrArg some (by kernel_rfl))⟩,
  f34 := ⟨Tryz.f160.name, by decide, Tryz.func160.trans (congrArg some (by kernel_rfl))⟩,
  f35 := ⟨Tryz.f161.name, by decide, Tryz.func161.trans (congrArg some (by kernel_rfl))⟩,
  f40 := ⟨Tryz.f164.name, by decide, Tryz.func164.trans (congrArg some (by kernel_rfl))⟩,
  t0 := Tryz.underlying0,
  a0 := Tryz.isAgg0,
  z0 := Tryz.sizeOf0,
  v0 := Tryz.zeroValue0,
  t3 := Tryz.underlying3,
  a3 := Tryz.isAgg3,
  z3 := Tryz.sizeOf3,
  v3 := Tryz.zeroValue3,
  t4 := Tryz.underlying4,
  a4 := Tryz.isAgg4,
  z4 := Tryz.sizeOf4,
  v4 := Tryz.zeroValue4,
  t5 := Tryz.underlying5,
  a5 := Tryz.isAgg5,
  z5 := Tryz.sizeOf5,
  v5 := Tryz.zeroValue5,
  t9 := Tryz.underlying9,
  a9 := Tryz.isAgg9,
  z9 := Tryz.sizeOf9,
  v9 := Tryz.zeroValue9,
  t22 := Tryz.underlying113,
  a22 := Tryz.isAgg113,
  z22 := Tryz.sizeOf113,
  v22 := Tryz.zeroValue113,
  t23 := Tryz.underlying113,
  a23 := Tryz.isAgg113,
  z23 := Tryz.sizeOf113,
  v23 := Tryz.zeroValue113,
  t25 := Tryz.underlying2,
  a25 := Tryz.isAgg2,
  z25 := Tryz.sizeOf2,
  v25 := Tryz.zeroValue2,
  t32 := Tryz.underlying172,
  a32 := Tryz.isAgg172,
  z32 := Tryz.sizeOf172,
  v32 := Tryz.zeroValue172,
  t35 := Tryz.underlying192,
  a35 := Tryz.isAgg192,
  z35 := Tryz.sizeOf192,
  v35 := Tryz.zeroValue192,
  t36 := Tryz.underlying193,
  a36 := Tryz.isAgg193,
  z36 := Tryz.sizeOf193,
  v36 := Tryz.zeroValue193,
  t41 := Tryz.underlying198,
  a41 := Tryz.isAgg198,
  z41 := Tryz.sizeOf198,
  v41 := Tryz.zeroValue198,
  t44 := Tryz.underlying80,
  a44 := Tryz.isAgg80,
  z44 := Tryz.sizeOf80,
  v44 := Tryz.zeroValue80,
  t46 := Tryz.underlying134,
  a46 := Tryz.isAgg134,
  z46 := Tryz.sizeOf134,
  v46 := Tryz.zeroValue134,
  t53 := Tryz.underlying206,
  a53 := Tryz.isAgg206,
  z53 := Tryz.sizeOf206,
  v53 := Tryz.zeroValue206,
  t57 := Tryz.underlying210,
  a57 := Tryz.isAgg210,
  z57 := Tryz.sizeOf210,
  v57 := Tryz.zeroValue210,
  t63 := Tryz.underlying214,
  a63 := Tryz.isAgg214,
  z63 := Tryz.sizeOf214,
  v63 := Tryz.zeroValue214,
  t64 := Tryz.underlying215,
  a64 := Tryz.isAgg215,
  z64 := Tryz.sizeOf215,
  v64 := Tryz.zeroValue215 }
end Go.Proofs.YtggajaigfkekhaaGreat
namespace Go.Proofs.YtggajaigfkekhaaGreat.A
open Go.RowKit Go.Maps Go.Sort Go.Shelf
theorem fG_ {K : List Nat} {w : World} : ∀ {xs : List Int}, repss K w 1 (xs.map fun x => [int x]) (xs.map encZ)
  | [] => rfl
  | x :: xs => ⟨[encZ x], _, rfl, rfl, ⟨_, _, rfl, rfl, rfl⟩, fG_⟩
end Go.Proofs.YtggajaigfkekhaaGreat.A
namespace Go.Proofs.YtggajaigfkekhaaGreat.A
open Go.RowKit Go.Maps Go.Sort Go.Shelf
theorem getD_is {α : Type} {enc : α → Abs} {V : α → Value} {z : Abs} {zv : Value} (h : ∀ a, (enc a).is (V a)) (hz : z.is zv) (o : Option α) : ((o.map enc).getD z).is ((o.map V).getD zv) := by
  cases o with
  | none => exact hz
  | some a => exact h a
theorem dl_ {α : Type} {o : Option α} (h : o.isSome = true) : ∃ v, o = some v := Option.isSome_iff_exists.1 h
theorem dm_ {α : Type} {o : Option α} (h : o.isSome = false) : o = none := by simpa using h
section
variable {t bv bn : Nat} {m : List (Int × UInt8)} {c : List (UInt8 × Nat)} {k : UInt8} {who at_ : Int}
theorem ax_ : ∀ w, (zeroValue 3).run Tryz.prog w = .ok (cntV 0) w := fun w => by
  kernel_rfl
end
end Go.Proofs.YtggajaigfkekhaaGreat.A
namespace Go.Proofs.YtggajaigfkekhaaGreat.A
open Go.RowKit Go.Maps Go.Sort Go.Shelf
end Go.Proofs.YtggajaigfkekhaaGreat.A
namespace Go.Proofs.YtggajaigfkekhaaGreat.A
open Go.RowKit Go.Maps Go.Sort Go.Shelf
section
variable {α : Type} [DecidableEq α] {m : List (Int × α)} {c : List (α × Nat)} {who : Int} {k v : α}
theorem jd_ (hv : aget m who = none) : chgC m c who k = aput c k (cget c k + 1) := by
  unfold chgC
  rw [hv]
  rfl
theorem ch_ (hv : aget m who = some v) : chgC m c who k = aput (decO c (some v)) k (cget (decO c (some v)) k + 1) := by
  unfold chgC
  rw [hv]
theorem bM_ (c : List (α × Nat)) (v : α) : (int ((cget c v : Nat) : Int)).is (((aget (aent c v 0) v).map cntV).getD (cntV 0)) := by
  have h := aR_ (aent c v 0) v
  have e : cget (aent c v 0) v = cget c v := by
    unfold aent
    split
    · rfl
    · next hn =>
      rw [cP_, if_pos rfl]
      have : aget c v = none := by simpa using hn
      unfold cget
      rw [this]
      rfl
  rw [e] at h
  exact h
end
section
variable {P : Program} {n : Nat} {W : Wd} {σ : Blks} {l : Slots} {X : List Nat} {x y : Operand} {d : Option Nat} {ty t k e : TypeId} {pos : String} {aft : Array Edge} {g : Option (Nat × Bool)} {b s : Nat} {A C : Abs}
variable {α β : Type} [DecidableEq α] {K : α → Value} {V : β → Value} {Good : α → Prop} {m : List (α × β)} {a a' : α} {zv : Value}
theorem bz_ (kf : KeyFit P k K Good) (ht : P.underlying t = some (.map k e)) (hz : ∀ w, (zeroValue e).run P w = .ok zv w) (hx : look l x = some (mapV b)) (hb : It.pc (mapAtPc b K V Good m a' s) ∈ σ)
    (hy : look l y = some A) (hA : A.is (K a)) (ha : Good a) (hC : C.is (((aget m a).map V).getD zv)) : Val P n W σ l [] ⟨d, .lookup t x y false, ty, pos, aft, g⟩ C := fun ac w hs _ => by
  have h0 : MapAt w b K V Good m a' s := hs.mem.hold _ hb
  have h1 : MapOf w b K V Good m := by
    obtain ⟨es, clock, h1, h2, h3, h4, h5, h6, _⟩ := h0
    exact ⟨es, clock, h1, h2, h3, h4, h5, h6⟩
  have e1 := hs.plain hx
  have e2 := hA.1 _ _ _ (hs.eval hy)
  refine ⟨((aget m a).map V).getD zv, hC.2 _ _, fun w' hw' => ?_⟩
  simp only [execOp, e1, e2, Sem.run_bind, (h1.ext hw' (by simp)).look_run kf ht (hz w') ha false, Bool.false_eq_true, if_false, Result.andThen_ok, Sem.run_pure]
end
structure Sd where
  view : Int
  dig : List UInt8
  len : dig.length = 32
theorem Sd.same {p q : Sd} (h0 : p.view = q.view) (h2 : p.dig = q.dig) : p = q := by
  obtain ⟨a, c, _⟩ := p
  obtain ⟨d, f, _⟩ := q
  dsimp only at h0 h2
  subst h0 h2
  rfl
instance : DecidableEq Sd := fun p q => if h : p.view = q.view ∧ p.dig = q.dig then isTrue (Sd.same h.1 h.2) else isFalse fun e => h (by rw [e]; exact ⟨rfl, rfl⟩)
def sd0 : Sd := ⟨0, List.replicate 32 0, rfl⟩
def sdOk (v : Sd) : Prop := intOk v.view
def sdU (v : Sd) : List Value := .int .i64 v.view :: v.dig.map bc
def sdV (v : Sd) : Value := .agg (sdU v).toArray
def sdC (v : Sd) : List Abs := (sdU v).map .v
abbrev sdZ : List Abs := sdC sd0
theorem kp_ (v : Sd) : (sdU v).length = 33 := by simp [sdU, v.len]
theorem aM_ (v : Sd) : (sdC v).length = 33 := by simp [sdC, kp_]
theorem sd_ones (l : List Value) (h : ∀ u ∈ l, (Abs.v u).one = true) : ones (l.map .v) = true := bE_.2 fun a ha => by
  obtain ⟨u, hu, rfl⟩ := List.mem_map.1 ha
  exact h u hu
theorem ey_ (v : Sd) : ones (sdC v) = true := sd_ones _ fun u hu => by
  simp only [sdU, List.mem_cons, List.mem_map] at hu
  rcases hu with rfl | ⟨b, _, rfl⟩ <;> rfl
def sdL (v : Sd) : List Lit := .int .i64 v.view :: v.dig.map litB
theorem sd_lits {m : Nat} (v : Sd) (h : sdOk v) : Tryz.prog.keyLits (m + 3) 96 (sdU v) = some (sdL v) := by
  have h1 := int_wf h
  have c1 : Tryz.prog.cellsOf 96 = 33 := by kernel_rfl
  have c2 : Tryz.prog.cellsOf 40 = 32 := by kernel_rfl
  have c3 : Tryz.prog.cellsOf 2 = 1 := by kernel_rfl
  have h3 := c3_ (m := m) Tryz.underlying40 c2 v.dig v.len
  have h4 : ∀ x : Int, (Lit.int .i64 x).wf = true → Tryz.prog.keyLits (m + 2) 2 [.int .i64 x] = some [.int .i64 x] := fun x hx => by
    simp [Program.keyLits, Tryz.underlying2, hx]
  have hl : (v.dig.map bc).length = 32 := by simp [v.len]
  have h5 : (v.dig.map bc).take 32 = v.dig.map bc := List.take_of_length_le (by omega)
  unfold Program.keyLits sdU sdL
  rw [Tryz.underlying96]
  simp [c1, c2, c3, h4 _ h1, h3, h5, v.len]
theorem kn_ (v : Sd) : (sdV v).formed Tryz.prog 96 = true := by
  have c1 : Tryz.prog.cellsOf 96 = 33 := by kernel_rfl
  simp [Value.formed, sdV, Tryz.underlying96, c1, kp_]
theorem sd_lit (v : Sd) (h : sdOk v) : ∃ l, keyOf Tryz.prog 96 (sdV v) = some l := by
  have hk : Tryz.prog.keyType 96 = true := by kernel_rfl
  have hd : ∃ k, Tryz.prog.types.size + 1 = k + 3 := ⟨_, (rfl : Tryz.prog.types.size + 1 = (Tryz.prog.types.size - 2) + 3)⟩
  obtain ⟨k, hd⟩ := hd
  have hl := sd_lits (m := k) v h
  unfold keyOf
  simp only [Tryz.underlying96, hk, kn_, Bool.and_self, if_true, hd]
  rw [show (sdV v).cells.toList = sdU v from rfl, hl]
  exact ⟨_, rfl⟩
theorem aY_ : KeyFit Tryz.prog 96 sdV sdOk where
  keyed := Maps.Keyed.of_law (deep_law_laid laid (m := 4) (by decide) (of_decide_eq_true (by kernel_rfl)) (by kernel_rfl) (by kernel_rfl))
  lit a h := sd_lit a h
  inj a b _ _ h := by
    unfold sdV at h
    injection h with h
    have h := congrArg Array.toList h
    simp only [sdU, List.cons.injEq, Value.int.injEq, true_and] at h
    refine Sd.same h.1 (eG_ ?_)
    have e : ∀ l : List UInt8, l.map litB = (l.map bc).map fun v => match v with | .int q n => Lit.int q n | _ => litB 0 := fun l => by
      rw [List.map_map]
      exact List.map_congr_left fun x _ => rfl
    rw [e, e, h.2]
def factsPc (l : List (Value × Abs)) : Pc where
  ids := []
  p := fun K w => ∀ x ∈ l, rep K w x.2 x.1
  carry := fun _ _ _ _ hc _ h x hx => br_ hc _ _ (h x hx)
  lt := fun _ _ _ k hk => by cases hk
abbrev facts (l : List (Value × Abs)) : It := .pc (factsPc l)
section
variable {P : Program} {n : Nat} {W : Wd} {σ τ : Blks} {l : Slots} {X : List Nat} {ops : Array Oper} {rest : List Oper} {Q : Exit → Act → World → Prop} {ix : Plan} {L L' : List (Value × Abs)} {t : Nat} {A : Abs} {u : Value}
theorem fact_rep {w0 w : World} {F G : List Nat} (h : Mem w0 F G σ w) (hf : It.pc (factsPc L) ∈ σ ∨ It.rdpc (factsPc L) ∈ σ) (hm : (u, A) ∈ L) : rep (mids σ ++ G) w A u := by
  rcases hf with hf | hf
  · exact (h.hold _ hf : ∀ x ∈ L, rep (mids σ ++ G) w x.2 x.1) (u, A) hm
  · exact (h.hold _ hf : ∀ x ∈ L, rep (mids σ ++ G) w x.2 x.1) (u, A) hm
theorem SL.fact (hs : slot l t = some (.v u)) (hf : It.pc (factsPc L) ∈ σ ∨ It.rdpc (factsPc L) ∈ σ) (hm : (u, A) ∈ L) (k : SL P ops rest (St n W σ ((t, A) :: l)) Q) : SL P ops rest (St n W σ l) Q := fun a w h =>
  k a w (h.cast hs fun x hx => by rw [show x = u from hx]; exact fact_rep h.mem hf hm)
end
/-! ### Maps whose values are trees: the map's own values, and what they are -/
section
variable {α β : Type} [DecidableEq α] {tm tm' : List (α × (Value × β))} {a c : α} {u : Value} {x : β}
def rawM (tm : List (α × (Value × β))) : List (α × Value) := tm.map fun e => (e.1, e.2.1)
def facM (enc : β → Abs) (tm : List (α × (Value × β))) : List (Value × Abs) := tm.map fun e => (e.2.1, enc e.2.2)
theorem eC_ : ∀ (tm : List (α × (Value × β))), aget (rawM tm) a = (aget tm a).map (·.1)
  | [] => rfl
  | e :: tm => by
    have h := eC_ tm
    unfold rawM aget at h ⊢
    rw [List.map_cons, List.find?_cons, List.find?_cons]
    by_cases he : e.1 = a
    · simp [he]
    · simpa [he] using h
omit [DecidableEq α] in
theorem kC_ (tm : List (α × (Value × β))) : (rawM tm).map (·.1) = tm.map (·.1) := by
  unfold rawM
  rw [List.map_map]
  rfl
theorem rawM_put (tm : List (α × (Value × β))) (a : α) (u : Value) (x : β) : rawM (aput tm a (u, x)) = aput (rawM tm) a u := by
  have hg := eC_ tm (a := a)
  unfold aput
  rw [hg, Option.isSome_map]
  split
  · unfold rawM
    rw [List.map_map, List.map_map]
    refine List.map_congr_left fun e _ => ?_
    show ((if e.1 = a then (a, (u, x)) else e).1, (if e.1 = a then (a, (u, x)) else e).2.1) = if e.1 = a then (a, u) else (e.1, e.2.1)
    split <;> rfl
  · unfold rawM
    rw [List.map_append]
    rfl
theorem facM_put {enc : β → Abs} (tm : List (α × (Value × β))) (a : α) (u : Value) (x : β) : ∀ y ∈ facM enc (aput tm a (u, x)), y ∈ (u, enc x) :: facM enc tm := by
  intro y hy
  obtain ⟨e, he, rfl⟩ := List.mem_map.1 hy
  unfold aput at he
  split at he
  · obtain ⟨d, hd, rfl⟩ := List.mem_map.1 he
    split
    · exact List.mem_cons_self
    · exact List.mem_cons_of_mem _ (List.mem_map.2 ⟨d, hd, rfl⟩)
  · rcases List.mem_append.1 he with he | he
    · exact List.mem_cons_of_mem _ (List.mem_map.2 ⟨e, he, rfl⟩)
    · rw [List.mem_singleton.1 he]; exact List.mem_cons_self
theorem gu_ {γ : Type} : ∀ {m : List (α × γ)} {v : γ}, aget m a = some v → (a, v) ∈ m
  | [], v, h => by simp [aget] at h
  | e :: m, v, h => by
    unfold aget at h
    rw [List.find?_cons] at h
    by_cases he : e.1 = a
    · simp [he] at h
      obtain ⟨e1, e2⟩ := e
      dsimp only at h he
      subst h he
      exact List.mem_cons_self
    · simp only [he, decide_false] at h
      exact List.mem_cons_of_mem _ (gu_ (by unfold aget; exact h))
end
section
variable {σ σ1 : Blks} {ι : Type} {τ' : ι → Blks} {K : Blks → ι → Prop}
theorem cB_ (φ : Blks) (hσ : σ.Perm (σ1 ++ φ)) (hr : ∀ x ∈ σ1, x.rids = []) (hk : ∀ z, ∃ ν : Blks, ν.Perm (τ' z ++ φ) ∧ K ν z) : After σ σ1 τ' K :=
  ⟨φ, ⟨by rw [← ab_]; exact dD_ hσ.symm, fun x hx => .inl ⟨hσ.mem_iff.2 (List.mem_append_left _ hx), hr x hx⟩, fun x hx => hσ.mem_iff.2 (List.mem_append_right _ hx)⟩, hk⟩
end
def dKey (l : List UInt8) : ByteArray := ⟨((102 : UInt8) :: l).toArray⟩
theorem h7_ {l : List UInt8} (h : l.length ≤ 1000000) : sOk (dKey l) := by
  unfold sOk dKey maxLen
  simp [ByteArray.size]
  omega
section
variable {q bd bt : Nat} {D : List (ByteArray × Nat)} {l : List UInt8} {c : Chg}
set_option maxHeartbeats 1000000 in
theorem hc_ (hl : l.length ≤ 1000000) (hn : Num1 D) (hT : D.length < 1000000) : Spec Tryz.prog 40 [ptr q, int 102, byt l] [.blk q 86 [mapV bd, mapV bt], .pc (mapPc bd Value.string cntV sOk D)] (fun _ : Unit => [.blk q 86 [mapV bd, mapV bt], .pc (mapPc bd Value.string cntV sOk (pm D (dKey l)))]) (fun _ => .agg (digA (numB 102 (pl D (dKey l))))) := by
 have hp := hn.pl_le (dKey l)
 refine G_ Tryz.func40 rfl Tryz.ntmps40 rfl fun G w =>d_<|a_<|eb_ (B_ tabOk rfl) rfl rfl fun b6=>?_
 refine g_<|c_<|d_<|a_<|q_ 1 rfl<|b_ (m_ (C := .v (.int .u8 (102 : Nat))) (a4_ rfl Tryz.underlying5 (by kernel_rfl)) rfl) rfl rfl ?_
 refine eb_ (cm_ tabOk Tryz.underlying27 rfl rfl rfl rfl rfl rfl rfl) rfl rfl fun r10=>?_
 refine q_ 1 rfl<|eb_ (ak_ (zs := ((102 : UInt8) :: l).map fun b => [Abs.v (bc b)]) tabOk [] rfl Tryz.underlying27 rfl rfl rfl rfl rfl rfl (bs_ones _) (by unfold maxLen; simp only [List.length_map, List.length_cons, List.length_nil]; omega) (by rw [show Tryz.prog.bytesOf 5 = 1 by kernel_rfl]; simp only [List.length_map, List.length_cons, List.length_nil]; omega)) rfl rfl fun r12=>?_
 refine hB_ [] (t := 12) rfl rfl<|b_ (m_ (C := .v (.string (dKey l))) (dN_ rfl) rfl) rfl rfl<|q_ 1 rfl<|g_<|c_<|ed_ (ι := Unit) (fun z => [.blk b6 40 (zabs (List.replicate 32 (.int .u8 0))), .blk q 86 [mapV bd, mapV bt], .pc (mapPc bd Value.string cntV sOk (pm D (dKey l)))]) (fun z => [(0, ptr q), (1, int 102), (6, ptr b6), (7, .v (.string (dKey l)))]) (fun z => True) ?_ ?_
 ·skip
  refine d_<|a_<|q_ 3 rfl<|b_ (h_ tabOk rfl rfl l1_ List.not_mem_nil rfl) rfl rfl<|q_ 1 rfl<|b_ (a3_ (a := (dKey l)) (zv := cntV 0) (C := int ((cget D (dKey l) : Nat) : Int)) s_fit Tryz.underlying84 g9_ rfl l2_ List.not_mem_nil rfl is_v (h7_ hl) (cg_is _ _)) rfl rfl<|q_ 1 rfl<|g_<|c_<|r_ rfl ?_ ?_
  rotate_left
  ·intro hc20
   have hz0 : ¬ aget D (dKey l) = none := fun h => hc20 (by have := (hn.zero _).2 h; omega)
   refine p_<|bx_ (()) (trivial) (by exact ⟨rfl, rfl, rfl, rfl, trivial⟩) (by rw [kG_ hz0]; exact List.Sublist.refl _)
  intro hc20
  have hz0 : aget D (dKey l) = none := (hn.zero _).1 (by omega)
  refine bg_ [] (.q 0 (.q 1 (.q 2 (.q 3 (.q 4 (.q 5 (.q 6 (.q 7 (.q 8 (.q 9 (.q 10 .nil))))))))))) (by kernel_rfl) (by kernel_rfl) ?_
  refine qs_ 3 rfl<|l_ rfl (h_ tabOk rfl rfl l1_ List.not_mem_nil rfl) (by simp) rfl rfl ?_
  refine qs_ 4 rfl<|l_ rfl (h_ tabOk rfl rfl l1_ List.not_mem_nil rfl) (by simp) rfl rfl ?_
  refine ag_ (by (simp [mids, It.mids, ownPc, mapPc]; done)) fun hx9 => ?_
  refine l_ rfl (j4_ Tryz.underlying84 rfl l2_ List.not_mem_nil) hx9 rfl rfl<|l_ rfl (m_ (C := int ((D.length + 1 : Nat) : Int)) (s_ rfl rfl (by simp only [InR, lo, hi]; omega)) rfl) hx9 rfl rfl ?_
  refine N_<|bI_ rfl (b7_ (a := (dKey l)) (v := D.length + 1) (m' := pm D (dKey l)) s_fit Tryz.underlying84 rfl u2_ rfl is_v (h7_ hl) rfl is_v (kH_ hz0).symm) rfl rfl ?_
  rintro _ _ ⟨rfl, rfl⟩
  refine bx_ (()) (trivial) (by exact ⟨rfl, rfl, rfl, rfl, trivial⟩) sr_
 intro z hz
 refine d_<|a_<|q_ 1 rfl<|b_ (m_ (C := .v (.int .u8 (102 : Nat))) (a4_ rfl Tryz.underlying5 (by kernel_rfl)) rfl) rfl rfl ?_
 refine q_ 3 rfl<|b_ (h_ tabOk rfl rfl l1_ List.not_mem_nil rfl) rfl rfl<|q_ 1 rfl<|b_ (a3_ (a := (dKey l)) (zv := cntV 0) (C := int ((pl D (dKey l) : Nat) : Int)) s_fit Tryz.underlying84 g9_ rfl l2_ List.not_mem_nil rfl is_v (h7_ hl) (by rw [← cget_pm]; exact cg_is _ _)) rfl rfl ?_
 refine u_ (inum_s (f := 102) (n := pl D (dKey l)) (by omega) (by omega)) Casts.refl (by kernel_rfl) rfl rfl rfl ?_
 refine ap_<|fun _=>e_ (w_ (L' := digA (numB 102 (pl D (dKey l)))) tabOk rfl rfl rfl u0_ (by simp only [cellsA, digA, List.length_map]; rw [aQ_]) (Nat.le_of_ble_eq_true rfl) (eJ_ _) (by exact A_ (by simp only [cellsA, digA, List.length_map]; rw [aQ_]; rfl))) rfl rfl ?_
 refine g_<|c_<|n_<|f_ (rs := [.cell 6 40]) rfl (RV.cell rfl (RV.cellA tabOk rfl rfl l0_ (by simp only [digA, List.length_map]; rw [aQ_])) RV.nil) (()) (sk_ sr_) ?_
 exact rfl
theorem hR_ (hf : c.Few) (hl : c.bytes.length ≤ 1000000) (hn : Num1 D) (hT : D.length < 1000000) : Spec Tryz.prog 11 [ptr q, .agg c.abs] [.blk q 86 [mapV bd, mapV bt], .pc (mapPc bd Value.string cntV sOk D)] (fun _ : Unit => [.blk q 86 [mapV bd, mapV bt], .pc (mapPc bd Value.string cntV sOk (pm D (dKey c.bytes)))]) (fun _ => .agg (digA (numB 102 (pl D (dKey c.bytes))))) := by
 refine G_ Tryz.func11 rfl Tryz.ntmps11 rfl fun G w =>d_<|a_<|eb_ (L_ (cs := c.abs) rfl) rfl rfl fun b3=>?_
 refine eb_ (B_ tabOk rfl) rfl rfl fun b4=>?_
 refine g_<|c_<|d_<|a_<|q_ 1 rfl<|b_ (F_ tabOk rfl rfl rfl l1_ List.not_mem_nil rfl) rfl rfl<|u_ (rbytes_s (c := c) hf) Casts.refl (by kernel_rfl) rfl rfl rfl ?_
 refine ap_<|fun _=>u_ (hc_ (q := q) (bd := bd) (bt := bt) (D := D) (l := c.bytes) hl hn hT) Casts.refl (by kernel_rfl) rfl rfl rfl ?_
 refine aW_ [_, _] (β := []) rfl (by intro x hx; simp only [List.mem_cons, List.not_mem_nil, or_false] at hx; rcases hx with rfl | rfl <;> rfl) ?_
 intro _
 refine e_ (w_ (L' := digA (numB 102 (pl D (dKey c.bytes)))) tabOk rfl rfl rfl u0_ (by simp only [cellsA, digA, List.length_map]; rw [aQ_]) (Nat.le_of_ble_eq_true rfl) (eJ_ _) (by exact A_ (by simp only [cellsA, digA, List.length_map]; rw [aQ_]; rfl))) rfl rfl ?_
 refine g_<|c_<|n_<|f_ (rs := [.cell 4 40]) rfl (RV.cell rfl (RV.cellA tabOk rfl rfl l0_ (by simp only [digA, List.length_map]; rw [aQ_])) RV.nil) (()) (sk_ (sk_ sr_)) ?_
 exact rfl
end
end Go.Proofs.YtggajaigfkekhaaGreat.A
namespace Go.Proofs.YtggajaigfkekhaaGreat.A
open Go.RowKit Go.Maps Go.Sort Go.Shelf
def sdE (x : Sd) : Abs := .agg (sdC x)
theorem bi_ (x : Sd) : (sdE x).is (sdV x) := i5_ (us := sdU x)
abbrev sdA (o : Option Sd) : Abs := (o.map sdE).getD (.agg sdZ)
theorem hK_ : ∀ w, (zeroValue 96).run Tryz.prog w = .ok (sdV sd0) w := fun w => by
  kernel_rfl
theorem sdA_is (o : Option Sd) : (sdA o).is ((o.map sdV).getD (sdV sd0)) := getD_is bi_ (i5_ (us := sdU sd0)) o
section
variable {t bv bn : Nat} {m : List (Int × Sd)} {c : List (Sd × Nat)} {k : Sd} {who at_ : Int}
theorem sd_new_s  : Spec Tryz.prog 33 [] [] (fun z : Nat × Nat × Nat => [.blk z.1 128 [mapV z.2.1, mapV z.2.2], .pc (mapPc z.2.1 intK sdV intOk []), .pc (mapPc z.2.2 sdV cntV sdOk [])]) (fun z => ptr z.1) := by
 refine G_ Tryz.func33 rfl Tryz.ntmps33 rfl fun G w =>d_<|a_<|q_ 1 rfl<|g_<|c_<|d_<|a_<|eb_ (cK_ intK sdV intOk (fun ac w => by simp [execOp, Instr.makeMap, newObj, Sem.run, Sem.run_bind, Result.andThen])) rfl rfl fun m1=>?_
 refine eb_ (cK_ sdV cntV sdOk (fun ac w => by simp [execOp, Instr.makeMap, newObj, Sem.run, Sem.run_bind, Result.andThen])) rfl rfl fun m2=>?_
 refine b_ (J_ tabOk rfl rfl rfl rfl) rfl rfl<|eb_ (L_ rfl) rfl rfl fun b4=>?_
 exact q_ 1 rfl<|g_<|c_<|n_<|iw_ (List.Perm.cons _ (List.Perm.swap _ _ _))<|f_ (rs := [.tmp 0]) rfl (RV.tmp rfl RV.nil) (b4, m1, m2) sr_<|rfl
end
section
variable {t bv bn : Nat} {m : List (Int × Sd)} {c : List (Sd × Nat)} {k v : Sd} {who at_ : Int}
set_option maxHeartbeats 2000000 in
theorem gQ_ (hw : intOk who) (hti : TInv m c) (hl : m.length ≤ 1000)  (hk : sdOk k) (hok : ∀ w v, aget m w = some v → sdOk v) (hv : aget m who = none) : Spec Tryz.prog 43 [ptr t, int who, sdE k] [.blk t 128 [mapV bv, mapV bn], .pc (mapPc bv intK sdV intOk m), .pc (mapPc bn sdV cntV sdOk c)] (fun _ : Unit => [.blk t 128 [mapV bv, mapV bn], .pc (mapPc bv intK sdV intOk (aput m who k)), .pc (mapPc bn sdV cntV sdOk (chgC m c who k))]) (fun _ => .tup []) := by
 refine G_ Tryz.func43 rfl Tryz.ntmps43 rfl fun G w =>d_<|a_<|eb_ (L_ (cs := sdC k) rfl) rfl rfl fun b5=>?_
 refine g_<|c_<|d_<|d_<|a_<|q_ 1 rfl<|b_ (aJ_ rfl rfl (by kernel_rfl)) rfl rfl ?_
 refine g_<|c_<|V_ rfl<|p_<|c_<|d_<|d_<|a_<|q_ 3 rfl<|b_ (h_ tabOk rfl rfl l1_ List.not_mem_nil rfl) rfl rfl<|q_ 1 rfl<|b_ (m_ (C := .tup [.agg sdZ, boo false]) (cS_ (a := who) (zv := (sdV sd0)) (C := sdA (aget m who)) (bv_ Tryz.underlying3) Tryz.underlying125 hK_ rfl l2_ List.not_mem_nil rfl is_v hw (sdA_is _)) (by rw [hv]; rfl)) rfl rfl ?_
 refine q_ 3 rfl<|eb_ (B_ tabOk rfl) rfl rfl fun b6=>?_
 refine e_ (w_ (L' := sdZ) tabOk rfl rfl rfl u0_ (by exact rfl) (Nat.le_of_ble_eq_true rfl) (by exact rfl) (A_ (by exact rfl))) rfl rfl ?_
 refine q_ 1 rfl<|g_<|c_<|d_<|a_<|q_ 1 rfl<|g_<|c_<|V_ rfl<|p_<|c_<|d_<|bg_ [] (.q 0 (.q 1 (.q 2 (.q 3 (.q 4 (.q 5 .nil)))))) (by kernel_rfl) (by kernel_rfl) ?_
 refine qs_ 3 rfl<|ag_ (by (simp [mids, It.mids, ownPc, mapPc]; done)) fun hx9 => ?_
 refine l_ rfl (h_ tabOk rfl rfl l2_ List.not_mem_nil rfl) hx9 rfl rfl<|qs_ 1 rfl<|l_ rfl (F_ tabOk rfl rfl rfl l1_ List.not_mem_nil (aM_ _)) hx9 rfl rfl<|N_<|bI_ rfl (b7_ (a := who) (v := k) (m' := aput m who k) (bv_ Tryz.underlying3) Tryz.underlying125 rfl u3_ rfl is_v hw rfl (bi_ _) rfl) rfl rfl ?_
 rintro _ _ ⟨rfl, rfl⟩
 refine c_<|aH_ (p := t ∉ [bn] ∧ b5 ∉ [bn]) (fun _ _ h => by
   have h1 := h.mem.nodup
   simp [mids, It.mids, mapPc, ownPc] at h1 ⊢
   grind) fun hX => ?_
 refine Y_ [bn] (.q 0 (.q 1 (.q 2 (.q 3 (.q 4 (.two 5 7 (.q 6 (.e 7 (.q 8 (.e 9 .nil)))) (.q 8 (.e 5 (.q 6 (.e 9 .nil)))))))))) (by kernel_rfl) (by kernel_rfl) ?_
 refine ag_ (by (simp [mids, It.mids, ownPc, mapPc]; done)) fun hx9 => ?_
 refine qx_ 3 hx9 rfl<|l_ rfl (h_ tabOk rfl rfl l2_ (by exact hX.1) rfl) hx9 rfl rfl ?_
 refine l_ rfl (F_ tabOk rfl rfl rfl l1_ (by exact hX.2) (aM_ _)) hx9 rfl rfl ?_
 refine cT_ ?_ ?_
 ·skip
  (refine b0_ rfl (a3_ (a := k) (zv := cntV 0) (C := int ((cget c k : Nat) : Int)) aY_ Tryz.underlying126 ax_ rfl ?_ List.not_mem_nil rfl (bi_ _) hk (aR_ _ _)) rfl rfl ?_; focus (apply Or.inl; (repeat first|assumption|exact m0_|apply m1_); done))
  refine l_ rfl (m_ (C := int ((cget c k + 1 : Nat) : Int)) (s_ rfl rfl (by have := hti.dec_le (aget m who) k; rw [hv] at this; have e : cget c k ≤ m.length := this; simp only [InR, lo, hi]; omega)) (congrArg int (by omega))) hx9 rfl rfl ?_
  refine exb_ rfl (aG_ (a := k) (zv := 0) (V := cntV) (C := int ((cget c k : Nat) : Int)) aY_ Tryz.underlying126 ax_ rfl (fun s => u4_) rfl (bi_ _) hk (aR_ _ _)) (by simp) rfl rfl fun s54=>?_
  refine ag_ (by (intro k hk; simp [mids, It.mids, ownPc, mapPc, mapAtPc] at hk ⊢; grind)) fun hx9 => ?_
  refine qx_ 1 hx9 rfl<|ex_ rfl (ar_ (v := cget c k + 1) (m' := aput c k (cget c k + 1)) rfl u4_ rfl rfl is_v (a9_ _ _ _ _)) (by simp) rfl rfl ?_
  refine N_<|cp_ (rs := []) rfl RV.nil (()) (by rw [jd_ hv]; repeat (first | exact List.nil_sublist _ | exact List.Sublist.refl _ | apply List.Sublist.cons_cons | apply List.Sublist.cons)) (by simp [It.rids]) ?_
  exact rfl
 skip
 refine exb_ rfl (aG_ (a := k) (zv := 0) (V := cntV) (C := int ((cget c k : Nat) : Int)) aY_ Tryz.underlying126 ax_ rfl (fun s => u4_) rfl (bi_ _) hk (aR_ _ _)) (by simp) rfl rfl fun s54=>?_
 refine ag_ (by (intro k hk; simp [mids, It.mids, ownPc, mapPc, mapAtPc] at hk ⊢; grind)) fun hx9 => ?_
 refine qx_ 1 hx9 rfl ?_
 (refine b0_ rfl (bz_ (a := k) (a' := k) (s := s54) (zv := cntV 0) (C := int ((cget c k : Nat) : Int)) aY_ Tryz.underlying126 ax_ rfl ?_ rfl (bi_ _) hk (bM_ _ _)) rfl rfl ?_; focus ((repeat first|assumption|exact m0_|apply m1_); done))
 refine l_ rfl (m_ (C := int ((cget c k + 1 : Nat) : Int)) (s_ rfl rfl (by have := hti.dec_le (aget m who) k; rw [hv] at this; have e : cget c k ≤ m.length := this; simp only [InR, lo, hi]; omega)) (congrArg int (by omega))) hx9 rfl rfl ?_
 refine ex_ rfl (ar_ (v := cget c k + 1) (m' := aput c k (cget c k + 1)) rfl u4_ rfl rfl is_v (a9_ _ _ _ _)) (by simp) rfl rfl ?_
 refine N_<|cp_ (rs := []) rfl RV.nil (()) (by rw [jd_ hv]; repeat (first | exact List.nil_sublist _ | exact List.Sublist.refl _ | apply List.Sublist.cons_cons | apply List.Sublist.cons)) (by simp [It.rids]) ?_
 exact rfl
set_option maxHeartbeats 4000000 in
theorem gP_ (hw : intOk who) (hti : TInv m c) (hl : m.length ≤ 1000)  (hk : sdOk k) (hok : ∀ w v, aget m w = some v → sdOk v) (hv : aget m who = some v) : Spec Tryz.prog 43 [ptr t, int who, sdE k] [.blk t 128 [mapV bv, mapV bn], .pc (mapPc bv intK sdV intOk m), .pc (mapPc bn sdV cntV sdOk c)] (fun _ : Unit => [.blk t 128 [mapV bv, mapV bn], .pc (mapPc bv intK sdV intOk (aput m who k)), .pc (mapPc bn sdV cntV sdOk (chgC m c who k))]) (fun _ => .tup []) := by
 refine G_ Tryz.func43 rfl Tryz.ntmps43 rfl fun G w =>d_<|a_<|eb_ (L_ (cs := sdC k) rfl) rfl rfl fun b5=>?_
 refine g_<|c_<|d_<|d_<|a_<|q_ 1 rfl<|b_ (aJ_ rfl rfl (by kernel_rfl)) rfl rfl ?_
 refine g_<|c_<|V_ rfl<|p_<|c_<|d_<|d_<|a_<|q_ 3 rfl<|b_ (h_ tabOk rfl rfl l1_ List.not_mem_nil rfl) rfl rfl<|q_ 1 rfl<|b_ (m_ (C := .tup [.agg (sdC v), boo true]) (cS_ (a := who) (zv := (sdV sd0)) (C := sdA (aget m who)) (bv_ Tryz.underlying3) Tryz.underlying125 hK_ rfl l2_ List.not_mem_nil rfl is_v hw (sdA_is _)) (by rw [hv]; rfl)) rfl rfl ?_
 refine q_ 3 rfl<|eb_ (B_ tabOk rfl) rfl rfl fun b6=>?_
 refine e_ (w_ (L' := (sdC v)) tabOk rfl rfl rfl u0_ (by exact (aM_ _)) (Nat.le_of_ble_eq_true rfl) (by exact (ey_ _)) (A_ (by exact (aM_ _)))) rfl rfl ?_
 refine q_ 1 rfl<|g_<|c_<|d_<|a_<|q_ 1 rfl<|g_<|c_<|O_ rfl<|d_<|aH_ (p := t ∉ [bn] ∧ b6 ∉ [bn]) (fun _ _ h => by
   have h1 := h.mem.nodup
   simp [mids, It.mids, mapPc, ownPc] at h1 ⊢
   grind) fun hX => ?_
 refine Y_ [bn] (.q 0 (.q 1 (.q 2 (.q 3 (.q 4 (.two 5 7 (.q 6 (.e 7 (.q 8 (.e 9 .nil)))) (.q 8 (.e 5 (.q 6 (.e 9 .nil)))))))))) (by kernel_rfl) (by kernel_rfl) ?_
 refine ag_ (by (simp [mids, It.mids, ownPc, mapPc]; done)) fun hx9 => ?_
 refine qx_ 3 hx9 rfl<|l_ rfl (h_ tabOk rfl rfl l2_ (by exact hX.1) rfl) hx9 rfl rfl ?_
 refine l_ rfl (F_ tabOk rfl rfl rfl l0_ (by exact hX.2) (aM_ _)) hx9 rfl rfl ?_
 refine cT_ ?_ ?_
 ·skip
  (refine b0_ rfl (a3_ (a := v) (zv := cntV 0) (C := int ((cget c v : Nat) : Int)) aY_ Tryz.underlying126 ax_ rfl ?_ List.not_mem_nil rfl (bi_ _) (hok _ _ hv) (aR_ _ _)) rfl rfl ?_; focus (apply Or.inl; (repeat first|assumption|exact m0_|apply m1_); done))
  refine l_ rfl (m_ (C := int ((cget c v - 1 : Nat) : Int)) (bf_ rfl rfl (by have := hti.le v; simp only [InR, lo, hi]; omega)) (congrArg int (by have := hti.pos hv; omega))) hx9 rfl rfl ?_
  refine exb_ rfl (aG_ (a := v) (zv := 0) (V := cntV) (C := int ((cget c v : Nat) : Int)) aY_ Tryz.underlying126 ax_ rfl (fun s => u4_) rfl (bi_ _) (hok _ _ hv) (aR_ _ _)) (by simp) rfl rfl fun s27=>?_
  refine ag_ (by (intro k hk; simp [mids, It.mids, ownPc, mapPc, mapAtPc] at hk ⊢; grind)) fun hx9 => ?_
  refine qx_ 1 hx9 rfl<|ex_ rfl (ar_ (v := cget c v - 1) (m' := aput c v (cget c v - 1)) rfl u4_ rfl rfl is_v (a9_ _ _ _ _)) (by simp) rfl rfl ?_
  refine N_<|c_<|d_<|Y_ [] (.q 0 (.q 1 (.q 2 (.q 3 (.q 4 (.q 5 (.q 6 .nil))))))) (by kernel_rfl) (by kernel_rfl) ?_
  refine qs_ 3 rfl<|l_ rfl (h_ tabOk rfl rfl l2_ List.not_mem_nil rfl) (by simp) rfl rfl ?_
  refine ag_ (by (simp [mids, It.mids, ownPc, mapPc]; done)) fun hx9 => ?_
  refine l_ rfl (F_ tabOk rfl rfl rfl l0_ List.not_mem_nil (aM_ _)) hx9 rfl rfl<|l_ rfl (a3_ (a := v) (zv := cntV 0) (C := int ((cget (aput c v (cget c v - 1)) v : Nat) : Int)) aY_ Tryz.underlying126 ax_ rfl l4_ List.not_mem_nil rfl (bi_ _) (hok _ _ hv) (aR_ _ _)) hx9 rfl rfl<|qs_ 1 rfl<|N_<|c_<|r_ rfl ?_ ?_
  rotate_left
  ·intro hc35
   rw [show (aput c v (cget c v - 1)) = (decO c (some v)) from (jb_ (by omega)).symm]
   refine p_<|c_<|d_<|bg_ [] (.q 0 (.q 1 (.q 2 (.q 3 (.q 4 (.q 5 .nil)))))) (by kernel_rfl) (by kernel_rfl) ?_
   refine qs_ 3 rfl<|ag_ (by (simp [mids, It.mids, ownPc, mapPc]; done)) fun hx9 => ?_
   refine l_ rfl (h_ tabOk rfl rfl l2_ List.not_mem_nil rfl) hx9 rfl rfl<|qs_ 1 rfl<|l_ rfl (F_ tabOk rfl rfl rfl l1_ List.not_mem_nil (aM_ _)) hx9 rfl rfl<|N_<|bI_ rfl (b7_ (a := who) (v := k) (m' := aput m who k) (bv_ Tryz.underlying3) Tryz.underlying125 rfl u3_ rfl is_v hw rfl (bi_ _) rfl) rfl rfl ?_
   rintro _ _ ⟨rfl, rfl⟩
   refine c_<|aH_ (p := t ∉ [bn] ∧ b5 ∉ [bn]) (fun _ _ h => by
     have h1 := h.mem.nodup
     simp [mids, It.mids, mapPc, ownPc] at h1 ⊢
     grind) fun hX => ?_
   refine Y_ [bn] (.q 0 (.q 1 (.q 2 (.q 3 (.q 4 (.two 5 7 (.q 6 (.e 7 (.q 8 (.e 9 .nil)))) (.q 8 (.e 5 (.q 6 (.e 9 .nil)))))))))) (by kernel_rfl) (by kernel_rfl) ?_
   refine ag_ (by (simp [mids, It.mids, ownPc, mapPc]; done)) fun hx9 => ?_
   refine qx_ 3 hx9 rfl<|l_ rfl (h_ tabOk rfl rfl l2_ (by exact hX.1) rfl) hx9 rfl rfl ?_
   refine l_ rfl (F_ tabOk rfl rfl rfl l1_ (by exact hX.2) (aM_ _)) hx9 rfl rfl ?_
   refine cT_ ?_ ?_
   ·skip
    (refine b0_ rfl (a3_ (a := k) (zv := cntV 0) (C := int ((cget (decO c (some v)) k : Nat) : Int)) aY_ Tryz.underlying126 ax_ rfl ?_ List.not_mem_nil rfl (bi_ _) hk (aR_ _ _)) rfl rfl ?_; focus (apply Or.inl; (repeat first|assumption|exact m0_|apply m1_); done))
    refine l_ rfl (m_ (C := int ((cget (decO c (some v)) k + 1 : Nat) : Int)) (s_ rfl rfl (by have := hti.dec_le (aget m who) k; rw [hv] at this; have e : cget (decO c (some v)) k ≤ m.length := this; simp only [InR, lo, hi]; omega)) (congrArg int (by omega))) hx9 rfl rfl ?_
    refine exb_ rfl (aG_ (a := k) (zv := 0) (V := cntV) (C := int ((cget (decO c (some v)) k : Nat) : Int)) aY_ Tryz.underlying126 ax_ rfl (fun s => u4_) rfl (bi_ _) hk (aR_ _ _)) (by simp) rfl rfl fun s54=>?_
    refine ag_ (by (intro k hk; simp [mids, It.mids, ownPc, mapPc, mapAtPc] at hk ⊢; grind)) fun hx9 => ?_
    refine qx_ 1 hx9 rfl<|ex_ rfl (ar_ (v := cget (decO c (some v)) k + 1) (m' := aput (decO c (some v)) k (cget (decO c (some v)) k + 1)) rfl u4_ rfl rfl is_v (a9_ _ _ _ _)) (by simp) rfl rfl ?_
    refine N_<|cp_ (rs := []) rfl RV.nil (()) (by rw [ch_ hv]; repeat (first | exact List.nil_sublist _ | exact List.Sublist.refl _ | apply List.Sublist.cons_cons | apply List.Sublist.cons)) (by simp [It.rids]) ?_
    exact rfl
   skip
   refine exb_ rfl (aG_ (a := k) (zv := 0) (V := cntV) (C := int ((cget (decO c (some v)) k : Nat) : Int)) aY_ Tryz.underlying126 ax_ rfl (fun s => u4_) rfl (bi_ _) hk (aR_ _ _)) (by simp) rfl rfl fun s54=>?_
   refine ag_ (by (intro k hk; simp [mids, It.mids, ownPc, mapPc, mapAtPc] at hk ⊢; grind)) fun hx9 => ?_
   refine qx_ 1 hx9 rfl ?_
   (refine b0_ rfl (bz_ (a := k) (a' := k) (s := s54) (zv := cntV 0) (C := int ((cget (decO c (some v)) k : Nat) : Int)) aY_ Tryz.underlying126 ax_ rfl ?_ rfl (bi_ _) hk (bM_ _ _)) rfl rfl ?_; focus ((repeat first|assumption|exact m0_|apply m1_); done))
   refine l_ rfl (m_ (C := int ((cget (decO c (some v)) k + 1 : Nat) : Int)) (s_ rfl rfl (by have := hti.dec_le (aget m who) k; rw [hv] at this; have e : cget (decO c (some v)) k ≤ m.length := this; simp only [InR, lo, hi]; omega)) (congrArg int (by omega))) hx9 rfl rfl ?_
   refine ex_ rfl (ar_ (v := cget (decO c (some v)) k + 1) (m' := aput (decO c (some v)) k (cget (decO c (some v)) k + 1)) rfl u4_ rfl rfl is_v (a9_ _ _ _ _)) (by simp) rfl rfl ?_
   refine N_<|cp_ (rs := []) rfl RV.nil (()) (by rw [ch_ hv]; repeat (first | exact List.nil_sublist _ | exact List.Sublist.refl _ | apply List.Sublist.cons_cons | apply List.Sublist.cons)) (by simp [It.rids]) ?_
   exact rfl
  intro hc35
  refine bg_ [] (.q 0 (.q 1 (.q 2 (.q 3 (.q 4 .nil))))) (by kernel_rfl) (by kernel_rfl) ?_
  refine qs_ 3 rfl<|l_ rfl (h_ tabOk rfl rfl l2_ List.not_mem_nil rfl) (by simp) rfl rfl ?_
  refine ag_ (by (simp [mids, It.mids, ownPc, mapPc]; done)) fun hx9 => ?_
  refine l_ rfl (F_ tabOk rfl rfl rfl l0_ List.not_mem_nil (aM_ _)) hx9 rfl rfl<|N_<|bI_ rfl (fY_ (a := v) (m' := (decO c (some v))) aY_ Tryz.underlying126 rfl u4_ rfl (bi_ _) (hok _ _ hv) (la_ (by omega))) rfl rfl ?_
  rintro _ _ ⟨rfl, rfl⟩
  refine c_<|d_<|bg_ [] (.q 0 (.q 1 (.q 2 (.q 3 (.q 4 (.q 5 .nil)))))) (by kernel_rfl) (by kernel_rfl) ?_
  refine qs_ 3 rfl<|ag_ (by (simp [mids, It.mids, ownPc, mapPc]; done)) fun hx9 => ?_
  refine l_ rfl (h_ tabOk rfl rfl l2_ List.not_mem_nil rfl) hx9 rfl rfl<|qs_ 1 rfl<|l_ rfl (F_ tabOk rfl rfl rfl l1_ List.not_mem_nil (aM_ _)) hx9 rfl rfl<|N_<|bI_ rfl (b7_ (a := who) (v := k) (m' := aput m who k) (bv_ Tryz.underlying3) Tryz.underlying125 rfl u3_ rfl is_v hw rfl (bi_ _) rfl) rfl rfl ?_
  rintro _ _ ⟨rfl, rfl⟩
  refine c_<|aH_ (p := t ∉ [bn] ∧ b5 ∉ [bn]) (fun _ _ h => by
    have h1 := h.mem.nodup
    simp [mids, It.mids, mapPc, ownPc] at h1 ⊢
    grind) fun hX => ?_
  refine Y_ [bn] (.q 0 (.q 1 (.q 2 (.q 3 (.q 4 (.two 5 7 (.q 6 (.e 7 (.q 8 (.e 9 .nil)))) (.q 8 (.e 5 (.q 6 (.e 9 .nil)))))))))) (by kernel_rfl) (by kernel_rfl) ?_
  refine ag_ (by (simp [mids, It.mids, ownPc, mapPc]; done)) fun hx9 => ?_
  refine qx_ 3 hx9 rfl<|l_ rfl (h_ tabOk rfl rfl l2_ (by exact hX.1) rfl) hx9 rfl rfl ?_
  refine l_ rfl (F_ tabOk rfl rfl rfl l1_ (by exact hX.2) (aM_ _)) hx9 rfl rfl ?_
  refine cT_ ?_ ?_
  ·skip
   (refine b0_ rfl (a3_ (a := k) (zv := cntV 0) (C := int ((cget (decO c (some v)) k : Nat) : Int)) aY_ Tryz.underlying126 ax_ rfl ?_ List.not_mem_nil rfl (bi_ _) hk (aR_ _ _)) rfl rfl ?_; focus (apply Or.inl; (repeat first|assumption|exact m0_|apply m1_); done))
   refine l_ rfl (m_ (C := int ((cget (decO c (some v)) k + 1 : Nat) : Int)) (s_ rfl rfl (by have := hti.dec_le (aget m who) k; rw [hv] at this; have e : cget (decO c (some v)) k ≤ m.length := this; simp only [InR, lo, hi]; omega)) (congrArg int (by omega))) hx9 rfl rfl ?_
   refine exb_ rfl (aG_ (a := k) (zv := 0) (V := cntV) (C := int ((cget (decO c (some v)) k : Nat) : Int)) aY_ Tryz.underlying126 ax_ rfl (fun s => u4_) rfl (bi_ _) hk (aR_ _ _)) (by simp) rfl rfl fun s54=>?_
   refine ag_ (by (intro k hk; simp [mids, It.mids, ownPc, mapPc, mapAtPc] at hk ⊢; grind)) fun hx9 => ?_
   refine qx_ 1 hx9 rfl<|ex_ rfl (ar_ (v := cget (decO c (some v)) k + 1) (m' := aput (decO c (some v)) k (cget (decO c (some v)) k + 1)) rfl u4_ rfl rfl is_v (a9_ _ _ _ _)) (by simp) rfl rfl ?_
   refine N_<|cp_ (rs := []) rfl RV.nil (()) (by rw [ch_ hv]; repeat (first | exact List.nil_sublist _ | exact List.Sublist.refl _ | apply List.Sublist.cons_cons | apply List.Sublist.cons)) (by simp [It.rids]) ?_
   exact rfl
  skip
  refine exb_ rfl (aG_ (a := k) (zv := 0) (V := cntV) (C := int ((cget (decO c (some v)) k : Nat) : Int)) aY_ Tryz.underlying126 ax_ rfl (fun s => u4_) rfl (bi_ _) hk (aR_ _ _)) (by simp) rfl rfl fun s54=>?_
  refine ag_ (by (intro k hk; simp [mids, It.mids, ownPc, mapPc, mapAtPc] at hk ⊢; grind)) fun hx9 => ?_
  refine qx_ 1 hx9 rfl ?_
  (refine b0_ rfl (bz_ (a := k) (a' := k) (s := s54) (zv := cntV 0) (C := int ((cget (decO c (some v)) k : Nat) : Int)) aY_ Tryz.underlying126 ax_ rfl ?_ rfl (bi_ _) hk (bM_ _ _)) rfl rfl ?_; focus ((repeat first|assumption|exact m0_|apply m1_); done))
  refine l_ rfl (m_ (C := int ((cget (decO c (some v)) k + 1 : Nat) : Int)) (s_ rfl rfl (by have := hti.dec_le (aget m who) k; rw [hv] at this; have e : cget (decO c (some v)) k ≤ m.length := this; simp only [InR, lo, hi]; omega)) (congrArg int (by omega))) hx9 rfl rfl ?_
  refine ex_ rfl (ar_ (v := cget (decO c (some v)) k + 1) (m' := aput (decO c (some v)) k (cget (decO c (some v)) k + 1)) rfl u4_ rfl rfl is_v (a9_ _ _ _ _)) (by simp) rfl rfl ?_
  refine N_<|cp_ (rs := []) rfl RV.nil (()) (by rw [ch_ hv]; repeat (first | exact List.nil_sublist _ | exact List.Sublist.refl _ | apply List.Sublist.cons_cons | apply List.Sublist.cons)) (by simp [It.rids]) ?_
  exact rfl
 skip
 refine exb_ rfl (aG_ (a := v) (zv := 0) (V := cntV) (C := int ((cget c v : Nat) : Int)) aY_ Tryz.underlying126 ax_ rfl (fun s => u4_) rfl (bi_ _) (hok _ _ hv) (aR_ _ _)) (by simp) rfl rfl fun s27=>?_
 refine ag_ (by (intro k hk; simp [mids, It.mids, ownPc, mapPc, mapAtPc] at hk ⊢; grind)) fun hx9 => ?_
 refine qx_ 1 hx9 rfl ?_
 (refine b0_ rfl (bz_ (a := v) (a' := v) (s := s27) (zv := cntV 0) (C := int ((cget c v : Nat) : Int)) aY_ Tryz.underlying126 ax_ rfl ?_ rfl (bi_ _) (hok _ _ hv) (bM_ _ _)) rfl rfl ?_; focus ((repeat first|assumption|exact m0_|apply m1_); done))
 refine l_ rfl (m_ (C := int ((cget c v - 1 : Nat) : Int)) (bf_ rfl rfl (by have := hti.le v; simp only [InR, lo, hi]; omega)) (congrArg int (by have := hti.pos hv; omega))) hx9 rfl rfl ?_
 refine ex_ rfl (ar_ (v := cget c v - 1) (m' := aput c v (cget c v - 1)) rfl u4_ rfl rfl is_v (a9_ _ _ _ _)) (by simp) rfl rfl ?_
 refine N_<|c_<|d_<|Y_ [] (.q 0 (.q 1 (.q 2 (.q 3 (.q 4 (.q 5 (.q 6 .nil))))))) (by kernel_rfl) (by kernel_rfl) ?_
 refine qs_ 3 rfl<|l_ rfl (h_ tabOk rfl rfl l2_ List.not_mem_nil rfl) (by simp) rfl rfl ?_
 refine ag_ (by (simp [mids, It.mids, ownPc, mapPc]; done)) fun hx9 => ?_
 refine l_ rfl (F_ tabOk rfl rfl rfl l0_ List.not_mem_nil (aM_ _)) hx9 rfl rfl<|l_ rfl (a3_ (a := v) (zv := cntV 0) (C := int ((cget (aput c v (cget c v - 1)) v : Nat) : Int)) aY_ Tryz.underlying126 ax_ rfl l4_ List.not_mem_nil rfl (bi_ _) (hok _ _ hv) (aR_ _ _)) hx9 rfl rfl<|qs_ 1 rfl<|N_<|c_<|r_ rfl ?_ ?_
 rotate_left
 ·intro hc35
  rw [show (aput c v (cget c v - 1)) = (decO c (some v)) from (jb_ (by omega)).symm]
  refine p_<|c_<|d_<|bg_ [] (.q 0 (.q 1 (.q 2 (.q 3 (.q 4 (.q 5 .nil)))))) (by kernel_rfl) (by kernel_rfl) ?_
  refine qs_ 3 rfl<|ag_ (by (simp [mids, It.mids, ownPc, mapPc]; done)) fun hx9 => ?_
  refine l_ rfl (h_ tabOk rfl rfl l2_ List.not_mem_nil rfl) hx9 rfl rfl<|qs_ 1 rfl<|l_ rfl (F_ tabOk rfl rfl rfl l1_ List.not_mem_nil (aM_ _)) hx9 rfl rfl<|N_<|bI_ rfl (b7_ (a := who) (v := k) (m' := aput m who k) (bv_ Tryz.underlying3) Tryz.underlying125 rfl u3_ rfl is_v hw rfl (bi_ _) rfl) rfl rfl ?_
  rintro _ _ ⟨rfl, rfl⟩
  refine c_<|aH_ (p := t ∉ [bn] ∧ b5 ∉ [bn]) (fun _ _ h => by
    have h1 := h.mem.nodup
    simp [mids, It.mids, mapPc, ownPc] at h1 ⊢
    grind) fun hX => ?_
  refine Y_ [bn] (.q 0 (.q 1 (.q 2 (.q 3 (.q 4 (.two 5 7 (.q 6 (.e 7 (.q 8 (.e 9 .nil)))) (.q 8 (.e 5 (.q 6 (.e 9 .nil)))))))))) (by kernel_rfl) (by kernel_rfl) ?_
  refine ag_ (by (simp [mids, It.mids, ownPc, mapPc]; done)) fun hx9 => ?_
  refine qx_ 3 hx9 rfl<|l_ rfl (h_ tabOk rfl rfl l2_ (by exact hX.1) rfl) hx9 rfl rfl ?_
  refine l_ rfl (F_ tabOk rfl rfl rfl l1_ (by exact hX.2) (aM_ _)) hx9 rfl rfl ?_
  refine cT_ ?_ ?_
  ·skip
   (refine b0_ rfl (a3_ (a := k) (zv := cntV 0) (C := int ((cget (decO c (some v)) k : Nat) : Int)) aY_ Tryz.underlying126 ax_ rfl ?_ List.not_mem_nil rfl (bi_ _) hk (aR_ _ _)) rfl rfl ?_; focus (apply Or.inl; (repeat first|assumption|exact m0_|apply m1_); done))
   refine l_ rfl (m_ (C := int ((cget (decO c (some v)) k + 1 : Nat) : Int)) (s_ rfl rfl (by have := hti.dec_le (aget m who) k; rw [hv] at this; have e : cget (decO c (some v)) k ≤ m.length := this; simp only [InR, lo, hi]; omega)) (congrArg int (by omega))) hx9 rfl rfl ?_
   refine exb_ rfl (aG_ (a := k) (zv := 0) (V := cntV) (C := int ((cget (decO c (some v)) k : Nat) : Int)) aY_ Tryz.underlying126 ax_ rfl (fun s => u4_) rfl (bi_ _) hk (aR_ _ _)) (by simp) rfl rfl fun s54=>?_
   refine ag_ (by (intro k hk; simp [mids, It.mids, ownPc, mapPc, mapAtPc] at hk ⊢; grind)) fun hx9 => ?_
   refine qx_ 1 hx9 rfl<|ex_ rfl (ar_ (v := cget (decO c (some v)) k + 1) (m' := aput (decO c (some v)) k (cget (decO c (some v)) k + 1)) rfl u4_ rfl rfl is_v (a9_ _ _ _ _)) (by simp) rfl rfl ?_
   refine N_<|cp_ (rs := []) rfl RV.nil (()) (by rw [ch_ hv]; repeat (first | exact List.nil_sublist _ | exact List.Sublist.refl _ | apply List.Sublist.cons_cons | apply List.Sublist.cons)) (by simp [It.rids]) ?_
   exact rfl
  skip
  refine exb_ rfl (aG_ (a := k) (zv := 0) (V := cntV) (C := int ((cget (decO c (some v)) k : Nat) : Int)) aY_ Tryz.underlying126 ax_ rfl (fun s => u4_) rfl (bi_ _) hk (aR_ _ _)) (by simp) rfl rfl fun s54=>?_
  refine ag_ (by (intro k hk; simp [mids, It.mids, ownPc, mapPc, mapAtPc] at hk ⊢; grind)) fun hx9 => ?_
  refine qx_ 1 hx9 rfl ?_
  (refine b0_ rfl (bz_ (a := k) (a' := k) (s := s54) (zv := cntV 0) (C := int ((cget (decO c (some v)) k : Nat) : Int)) aY_ Tryz.underlying126 ax_ rfl ?_ rfl (bi_ _) hk (bM_ _ _)) rfl rfl ?_; focus ((repeat first|assumption|exact m0_|apply m1_); done))
  refine l_ rfl (m_ (C := int ((cget (decO c (some v)) k + 1 : Nat) : Int)) (s_ rfl rfl (by have := hti.dec_le (aget m who) k; rw [hv] at this; have e : cget (decO c (some v)) k ≤ m.length := this; simp only [InR, lo, hi]; omega)) (congrArg int (by omega))) hx9 rfl rfl ?_
  refine ex_ rfl (ar_ (v := cget (decO c (some v)) k + 1) (m' := aput (decO c (some v)) k (cget (decO c (some v)) k + 1)) rfl u4_ rfl rfl is_v (a9_ _ _ _ _)) (by simp) rfl rfl ?_
  refine N_<|cp_ (rs := []) rfl RV.nil (()) (by rw [ch_ hv]; repeat (first | exact List.nil_sublist _ | exact List.Sublist.refl _ | apply List.Sublist.cons_cons | apply List.Sublist.cons)) (by simp [It.rids]) ?_
  exact rfl
 intro hc35
 refine bg_ [] (.q 0 (.q 1 (.q 2 (.q 3 (.q 4 .nil))))) (by kernel_rfl) (by kernel_rfl) ?_
 refine qs_ 3 rfl<|l_ rfl (h_ tabOk rfl rfl l2_ List.not_mem_nil rfl) (by simp) rfl rfl ?_
 refine ag_ (by (simp [mids, It.mids, ownPc, mapPc]; done)) fun hx9 => ?_
 refine l_ rfl (F_ tabOk rfl rfl rfl l0_ List.not_mem_nil (aM_ _)) hx9 rfl rfl<|N_<|bI_ rfl (fY_ (a := v) (m' := (decO c (some v))) aY_ Tryz.underlying126 rfl u4_ rfl (bi_ _) (hok _ _ hv) (la_ (by omega))) rfl rfl ?_
 rintro _ _ ⟨rfl, rfl⟩
 refine c_<|d_<|bg_ [] (.q 0 (.q 1 (.q 2 (.q 3 (.q 4 (.q 5 .nil)))))) (by kernel_rfl) (by kernel_rfl) ?_
 refine qs_ 3 rfl<|ag_ (by (simp [mids, It.mids, ownPc, mapPc]; done)) fun hx9 => ?_
 refine l_ rfl (h_ tabOk rfl rfl l2_ List.not_mem_nil rfl) hx9 rfl rfl<|qs_ 1 rfl<|l_ rfl (F_ tabOk rfl rfl rfl l1_ List.not_mem_nil (aM_ _)) hx9 rfl rfl<|N_<|bI_ rfl (b7_ (a := who) (v := k) (m' := aput m who k) (bv_ Tryz.underlying3) Tryz.underlying125 rfl u3_ rfl is_v hw rfl (bi_ _) rfl) rfl rfl ?_
 rintro _ _ ⟨rfl, rfl⟩
 refine c_<|aH_ (p := t ∉ [bn] ∧ b5 ∉ [bn]) (fun _ _ h => by
   have h1 := h.mem.nodup
   simp [mids, It.mids, mapPc, ownPc] at h1 ⊢
   grind) fun hX => ?_
 refine Y_ [bn] (.q 0 (.q 1 (.q 2 (.q 3 (.q 4 (.two 5 7 (.q 6 (.e 7 (.q 8 (.e 9 .nil)))) (.q 8 (.e 5 (.q 6 (.e 9 .nil)))))))))) (by kernel_rfl) (by kernel_rfl) ?_
 refine ag_ (by (simp [mids, It.mids, ownPc, mapPc]; done)) fun hx9 => ?_
 refine qx_ 3 hx9 rfl<|l_ rfl (h_ tabOk rfl rfl l2_ (by exact hX.1) rfl) hx9 rfl rfl ?_
 refine l_ rfl (F_ tabOk rfl rfl rfl l1_ (by exact hX.2) (aM_ _)) hx9 rfl rfl ?_
 refine cT_ ?_ ?_
 ·skip
  (refine b0_ rfl (a3_ (a := k) (zv := cntV 0) (C := int ((cget (decO c (some v)) k : Nat) : Int)) aY_ Tryz.underlying126 ax_ rfl ?_ List.not_mem_nil rfl (bi_ _) hk (aR_ _ _)) rfl rfl ?_; focus (apply Or.inl; (repeat first|assumption|exact m0_|apply m1_); done))
  refine l_ rfl (m_ (C := int ((cget (decO c (some v)) k + 1 : Nat) : Int)) (s_ rfl rfl (by have := hti.dec_le (aget m who) k; rw [hv] at this; have e : cget (decO c (some v)) k ≤ m.length := this; simp only [InR, lo, hi]; omega)) (congrArg int (by omega))) hx9 rfl rfl ?_
  refine exb_ rfl (aG_ (a := k) (zv := 0) (V := cntV) (C := int ((cget (decO c (some v)) k : Nat) : Int)) aY_ Tryz.underlying126 ax_ rfl (fun s => u4_) rfl (bi_ _) hk (aR_ _ _)) (by simp) rfl rfl fun s54=>?_
  refine ag_ (by (intro k hk; simp [mids, It.mids, ownPc, mapPc, mapAtPc] at hk ⊢; grind)) fun hx9 => ?_
  refine qx_ 1 hx9 rfl<|ex_ rfl (ar_ (v := cget (decO c (some v)) k + 1) (m' := aput (decO c (some v)) k (cget (decO c (some v)) k + 1)) rfl u4_ rfl rfl is_v (a9_ _ _ _ _)) (by simp) rfl rfl ?_
  refine N_<|cp_ (rs := []) rfl RV.nil (()) (by rw [ch_ hv]; repeat (first | exact List.nil_sublist _ | exact List.Sublist.refl _ | apply List.Sublist.cons_cons | apply List.Sublist.cons)) (by simp [It.rids]) ?_
  exact rfl
 skip
 refine exb_ rfl (aG_ (a := k) (zv := 0) (V := cntV) (C := int ((cget (decO c (some v)) k : Nat) : Int)) aY_ Tryz.underlying126 ax_ rfl (fun s => u4_) rfl (bi_ _) hk (aR_ _ _)) (by simp) rfl rfl fun s54=>?_
 refine ag_ (by (intro k hk; simp [mids, It.mids, ownPc, mapPc, mapAtPc] at hk ⊢; grind)) fun hx9 => ?_
 refine qx_ 1 hx9 rfl ?_
 (refine b0_ rfl (bz_ (a := k) (a' := k) (s := s54) (zv := cntV 0) (C := int ((cget (decO c (some v)) k : Nat) : Int)) aY_ Tryz.underlying126 ax_ rfl ?_ rfl (bi_ _) hk (bM_ _ _)) rfl rfl ?_; focus ((repeat first|assumption|exact m0_|apply m1_); done))
 refine l_ rfl (m_ (C := int ((cget (decO c (some v)) k + 1 : Nat) : Int)) (s_ rfl rfl (by have := hti.dec_le (aget m who) k; rw [hv] at this; have e : cget (decO c (some v)) k ≤ m.length := this; simp only [InR, lo, hi]; omega)) (congrArg int (by omega))) hx9 rfl rfl ?_
 refine ex_ rfl (ar_ (v := cget (decO c (some v)) k + 1) (m' := aput (decO c (some v)) k (cget (decO c (some v)) k + 1)) rfl u4_ rfl rfl is_v (a9_ _ _ _ _)) (by simp) rfl rfl ?_
 refine N_<|cp_ (rs := []) rfl RV.nil (()) (by rw [ch_ hv]; repeat (first | exact List.nil_sublist _ | exact List.Sublist.refl _ | apply List.Sublist.cons_cons | apply List.Sublist.cons)) (by simp [It.rids]) ?_
 exact rfl
end
section
variable {ps qs : List Pnt} {fs gs : List Prf} {p q : Prf} {c d : Chg}
set_option maxHeartbeats 2000000 in
theorem pequal_s (hn : ps.length < 9223372036854775807) (h1 : ∀ p ∈ ps, InR .i64 p.seq) (h2 : ∀ p ∈ qs, InR .i64 p.seq) : Spec Tryz.prog 85 [pntsA ps, pntsA qs] [] (fun _ : Unit => []) (fun _ => boo (yes (ps = qs))) := by
 refine G_ Tryz.func85 rfl Tryz.ntmps85 rfl fun G w =>d_<|a_<|q_ 1 rfl<|g_<|c_<|d_<|d_<|a_<|q_ 1 rfl<|b_ (z_ rfl Tryz.underlying23 (List.length_map _)) rfl rfl<|q_ 1 rfl<|b_ (z_ rfl Tryz.underlying23 (List.length_map _)) rfl rfl<|q_ 1 rfl<|g_<|c_<|r_ rfl ?_ ?_
 ·intro hc10
  refine d_<|a_<|q_ 1 rfl<|g_<|c_<|n_<|i_ nofun<|f_ (rs := [.tmp 4]) rfl (RV.tmp rfl RV.nil) (()) sn_<|av_ fun h => ?_
  subst h
  exact hc10 rfl
 intro hc10
 have hle : ps.length = qs.length := by omega
 refine p_<|c_<|d_<|d_<|a_<|q_ 1 rfl<|b_ (z_ rfl Tryz.underlying23 (List.length_map _)) rfl rfl<|q_ 1 rfl<|g_<|c_<|t_<|S_ (ι := Nat) (fun z => []) (fun z => [(0, pntsA ps), (1, pntsA qs), (12, int (ps.length : Nat)), (13, int (z : Nat))]) (fun z => z ≤ ps.length ∧ ps.take z = qs.take z) (fun z => ps.length - z) (0) (⟨Nat.zero_le _, by simp⟩) (by exact ⟨rfl, rfl, rfl, rfl, trivial⟩) sn_ ?_
 intro z hz
 refine d_<|a_<|q_ 1 rfl<|g_<|c_<|d_<|r_ rfl ?_ ?_
 rotate_left
 ·intro hc14
  refine Q_<|i_ nofun<|i_ nofun<|P_<|c_<|d_<|a_<|q_ 1 rfl<|g_<|c_<|n_<|f_ (rs := [.tmp 4]) rfl (RV.tmp rfl RV.nil) (()) sn_<|bl_ ⟨fun _ => ?_, fun _ => rfl⟩
  have h9 := hz.2
  rw [List.take_of_length_le (by omega), List.take_of_length_le (by omega)] at h9
  exact h9
 intro hc14
 have hlt : z < ps.length := by omega
 have hlt2 : z < qs.length := by omega
 refine p_<|c_<|d_<|t_<|d_<|a_<|q_ 2 rfl<|g_<|c_<|d_<|Y_ [] (.q 0 (.q 1 (.q 2 (.q 3 (.q 4 (.q 5 (.q 6 (.q 7 (.q 8 .nil))))))))) (by kernel_rfl) (by kernel_rfl) ?_
 refine qs_ 2 rfl<|l_ rfl (D_ tabOk Tryz.underlying23 rfl rfl rfl rfl (aa_ (by omega)) rfl rfl) (by simp) rfl rfl ?_
 refine hx_ fun hx9 =>l_ rfl (K_ tabOk rfl rfl rfl (Pnt.size _)) hx9 rfl rfl<|qs_ 2 rfl<|l_ rfl (D_ tabOk Tryz.underlying23 rfl rfl rfl rfl (aa_ (by omega)) rfl rfl) (by simp) rfl rfl ?_
 refine l_ rfl (K_ tabOk rfl rfl rfl (Pnt.size _)) hx9 rfl rfl<|l_ rfl (d8_ rfl rfl (bc_ _) (bc_ _) (by kernel_rfl) (neqP (h1 _ (List.getElem_mem hlt)) (h2 _ (List.getElem_mem hlt2)))) hx9 rfl rfl ?_
 refine N_<|c_<|r_ rfl ?_ ?_
 rotate_left
 ·intro hc24
  refine p_<|o_<|c_<|a_<|b_ (s_ rfl rfl (by simp only [InR, lo, hi]; omega)) rfl rfl ?_
  refine q_ 1 rfl<|g_<|x_ (z + 1) (by omega) (⟨hlt, bh_ hz.2 hlt hlt2 (by simpa using hc24)⟩) (by exact ⟨rfl, rfl, rfl, rfl, trivial⟩) sn_
 intro hc24
 refine d_<|a_<|q_ 1 rfl<|g_<|c_<|n_<|E_<|i_ nofun<|i_ nofun<|E_<|i_ nofun<|f_ (rs := [.tmp 4]) rfl (RV.tmp rfl RV.nil) (()) sn_<|av_ fun h => ?_
 subst h
 exact hc24 rfl
theorem psame1_s (hl : p.batch.length ≤ 1000000) (h1 : p.Lits) (h2 : q.Lits) : Spec Tryz.prog 83 [.agg p.abs, .agg q.abs] [] (fun _ : Unit => []) (fun _ => boo (yes (p = q))) := by
 refine G_ Tryz.func83 rfl Tryz.ntmps83 rfl fun G w =>d_<|a_<|eb_ (L_ rfl) rfl rfl fun b2=>?_
 refine eb_ (L_ rfl) rfl rfl fun b3=>?_
 refine q_ 1 rfl<|g_<|c_<|d_<|a_<|q_ 1 rfl<|b_ (h_ tabOk rfl rfl l1_ List.not_mem_nil rfl) rfl rfl<|q_ 1 rfl<|b_ (h_ tabOk rfl rfl l0_ List.not_mem_nil rfl) rfl rfl<|q_ 2 rfl<|C_ (t := 10) rfl ?_ ?_
 rotate_left
 ·intro hc10
  refine q_ 14 rfl<|g_<|c_<|n_<|f_ (rs := [.tmp 4]) rfl (RV.tmp rfl RV.nil) (()) sn_ ?_
  (refine av_ fun h => ?_; subst h; exact hc10 rfl)
 intro hc10
 refine q_ 1 rfl<|b_ (h_ tabOk rfl rfl l1_ List.not_mem_nil rfl) rfl rfl<|q_ 1 rfl<|b_ (h_ tabOk rfl rfl l0_ List.not_mem_nil rfl) rfl rfl<|q_ 3 rfl<|C_ (t := 17) rfl ?_ ?_
 rotate_left
 ·intro hc17
  refine q_ 7 rfl<|g_<|c_<|n_<|f_ (rs := [.tmp 4]) rfl (RV.tmp rfl RV.nil) (()) sn_ ?_
  (refine av_ fun h => ?_; subst h; exact hc17 rfl)
 intro hc17
 refine q_ 1 rfl<|b_ (h_ tabOk rfl rfl l1_ List.not_mem_nil rfl) rfl rfl<|q_ 1 rfl<|b_ (h_ tabOk rfl rfl l0_ List.not_mem_nil rfl) rfl rfl<|u_ (ig_ (es := p.batch) (fs := q.batch) hl h1.all h2.all) Casts.refl (by kernel_rfl) rfl rfl rfl ?_
 refine ap_<|fun _=>q_ 2 rfl<|g_<|c_<|n_<|f_ (rs := [.tmp 4]) rfl (RV.tmp rfl RV.nil) (()) sn_ ?_
 (refine bl_ ⟨fun h => Prf.same hc10 hc17 (of_decide_eq_true h), fun h => ?_⟩; subst h; exact decide_eq_true rfl)
set_option maxHeartbeats 2000000 in
theorem jo_ (hl : Long fs) (h1 : ∀ p ∈ fs, p.Lits) (h2 : ∀ p ∈ gs, p.Lits) : Spec Tryz.prog 86 [prfsA fs, prfsA gs, .fn (.func 83) [] []] [] (fun _ : Unit => []) (fun _ => boo (yes (fs = gs))) := by
 have hn := hl.1
 refine G_ Tryz.func86 rfl Tryz.ntmps86 rfl fun G w =>d_<|a_<|q_ 1 rfl<|g_<|c_<|d_<|d_<|a_<|q_ 1 rfl<|b_ (z_ rfl Tryz.underlying24 (List.length_map _)) rfl rfl<|q_ 1 rfl<|b_ (z_ rfl Tryz.underlying24 (List.length_map _)) rfl rfl<|q_ 1 rfl<|g_<|c_<|r_ rfl ?_ ?_
 ·intro hc14
  refine d_<|a_<|q_ 1 rfl<|g_<|c_<|n_<|i_ nofun<|f_ (rs := [.tmp 6]) rfl (RV.tmp rfl RV.nil) (()) sn_<|av_ fun h => ?_
  subst h
  exact hc14 rfl
 intro hc14
 have hle : fs.length = gs.length := by omega
 refine p_<|c_<|d_<|d_<|a_<|q_ 1 rfl<|b_ (z_ rfl Tryz.underlying24 (List.length_map _)) rfl rfl<|q_ 1 rfl<|g_<|c_<|t_<|S_ (ι := Nat) (fun z => []) (fun z => [(0, prfsA fs), (1, prfsA gs), (2, .fn (.func 83) [] []), (15, prfsA fs), (16, int (fs.length : Nat)), (17, int (z : Nat))]) (fun z => z ≤ fs.length ∧ fs.take z = gs.take z) (fun z => fs.length - z) (0) (⟨Nat.zero_le _, by simp⟩) (by exact ⟨rfl, rfl, rfl, rfl, rfl, rfl, trivial⟩) sn_ ?_
 intro z hz
 refine d_<|a_<|q_ 1 rfl<|g_<|c_<|d_<|r_ rfl ?_ ?_
 rotate_left
 ·intro hc18
  refine Q_<|i_ nofun<|i_ nofun<|P_<|c_<|d_<|a_<|q_ 1 rfl<|g_<|c_<|n_<|f_ (rs := [.tmp 6]) rfl (RV.tmp rfl RV.nil) (()) sn_<|bl_ ⟨fun _ => ?_, fun _ => rfl⟩
  have h9 := hz.2
  rw [List.take_of_length_le (by omega), List.take_of_length_le (by omega)] at h9
  exact h9
 intro hc18
 have hlt : z < fs.length := by omega
 have hlt2 : z < gs.length := by omega
 refine p_<|c_<|d_<|t_<|d_<|a_<|q_ 1 rfl<|b_ (D_ tabOk Tryz.underlying24 rfl rfl rfl rfl (aa_ (by omega)) rfl rfl) rfl rfl ?_
 refine b_ (K_ tabOk rfl rfl rfl rfl) rfl rfl<|eb_ (B_ tabOk rfl) rfl rfl fun b8=>?_
 refine q_ 1 rfl<|e_ (w_ tabOk rfl rfl rfl u0_ rfl (Nat.le_of_ble_eq_true rfl) rfl rfl) rfl rfl<|g_<|c_<|d_<|a_<|q_ 2 rfl<|b_ (D_ tabOk Tryz.underlying24 rfl rfl rfl rfl (aa_ (by omega)) rfl rfl) rfl rfl ?_
 refine b_ (K_ tabOk rfl rfl rfl rfl) rfl rfl<|eb_ (B_ tabOk rfl) rfl rfl fun b9=>?_
 refine e_ (w_ tabOk rfl rfl rfl u0_ rfl (Nat.le_of_ble_eq_true rfl) rfl rfl) rfl rfl<|g_<|c_<|d_<|a_<|q_ 1 rfl<|b_ (F_ tabOk rfl rfl rfl l1_ List.not_mem_nil rfl) rfl rfl<|b_ (F_ tabOk rfl rfl rfl l0_ List.not_mem_nil rfl) rfl rfl<|b5_ (psame1_s (p := (fs[z]'hlt)) (q := (gs[z]'hlt2)) (hl.2 _ (List.getElem_mem hlt)) (h1 _ (List.getElem_mem hlt)) (h2 _ (List.getElem_mem hlt2))) rfl Casts.refl (by kernel_rfl) rfl rfl rfl ?_
 refine ap_<|fun _=>b_ (ai_ rfl) rfl rfl<|g_<|c_<|ac_ rfl ?_ ?_
 rotate_left
 ·intro hc30
  refine p_<|o_<|c_<|a_<|b_ (s_ rfl rfl (by simp only [InR, lo, hi]; omega)) rfl rfl ?_
  refine q_ 1 rfl<|g_<|x_ (z + 1) (by omega) (⟨hlt, bh_ hz.2 hlt hlt2 (X_.1 (by simpa using hc30))⟩) (by exact ⟨rfl, rfl, rfl, rfl, rfl, rfl, trivial⟩) sn_
 intro hc30
 refine d_<|a_<|q_ 1 rfl<|g_<|c_<|n_<|E_<|i_ nofun<|i_ nofun<|E_<|i_ nofun<|f_ (rs := [.tmp 6]) rfl (RV.tmp rfl RV.nil) (()) sn_<|av_ fun h => ?_
 subst h
 exact absurd rfl (bs_.1 (by simpa using hc30 : yes ((fs[z]'hlt) = (fs[z]'hlt)) = false))
set_option maxHeartbeats 2000000 in
theorem psame_s (hp : c.points.length < 9223372036854775807) (ha : Long c.prepared) (hb : Long c.proposed) (h1 : c.Lits) (h2 : d.Lits) : Spec Tryz.prog 46 [.agg c.abs, .agg d.abs] [] (fun _ : Unit => []) (fun _ => boo (yes (c = d))) := by
 refine G_ Tryz.func46 rfl Tryz.ntmps46 rfl fun G w =>d_<|a_<|eb_ (L_ rfl) rfl rfl fun b2=>?_
 refine eb_ (L_ rfl) rfl rfl fun b3=>?_
 refine q_ 1 rfl<|g_<|c_<|d_<|a_<|q_ 1 rfl<|g_<|c_<|d_<|a_<|q_ 1 rfl<|b_ (h_ tabOk rfl rfl l1_ List.not_mem_nil rfl) rfl rfl<|q_ 1 rfl<|b_ (h_ tabOk rfl rfl l0_ List.not_mem_nil rfl) rfl rfl<|q_ 2 rfl<|C_ (t := 11) rfl ?_ ?_
 rotate_left
 ·intro hc11
  refine q_ 30 rfl<|g_<|c_<|n_<|f_ (rs := [.tmp 4]) rfl (RV.tmp rfl RV.nil) (()) sn_ ?_
  (refine av_ fun h => ?_; subst h; exact hc11 rfl)
 intro hc11
 refine q_ 1 rfl<|b_ (h_ tabOk rfl rfl l1_ List.not_mem_nil rfl) rfl rfl<|q_ 1 rfl<|b_ (h_ tabOk rfl rfl l0_ List.not_mem_nil rfl) rfl rfl<|q_ 3 rfl<|C_ (t := 18) rfl ?_ ?_
 rotate_left
 ·intro hc18
  refine q_ 23 rfl<|g_<|c_<|n_<|f_ (rs := [.tmp 4]) rfl (RV.tmp rfl RV.nil) (()) sn_ ?_
  (refine av_ fun h => ?_; subst h; exact hc18 rfl)
 intro hc18
 refine q_ 1 rfl<|b_ (h_ tabOk rfl rfl l1_ List.not_mem_nil rfl) rfl rfl<|q_ 1 rfl<|b_ (h_ tabOk rfl rfl l0_ List.not_mem_nil rfl) rfl rfl<|u_ (pequal_s (ps := c.points) (qs := d.points) hp h1.pts h2.pts) Casts.refl (by kernel_rfl) rfl rfl rfl ?_
 refine ap_<|fun _=>q_ 2 rfl<|aZ_ (t := 25) rfl ?_ ?_
 rotate_left
 ·intro hc25
  refine q_ 16 rfl<|g_<|c_<|n_<|f_ (rs := [.tmp 4]) rfl (RV.tmp rfl RV.nil) (()) sn_ ?_
  (refine av_ fun h => ?_; subst h; exact absurd rfl (bs_.1 hc25))
 intro hc25
 refine q_ 1 rfl<|b_ (h_ tabOk rfl rfl l1_ List.not_mem_nil rfl) rfl rfl<|q_ 1 rfl<|b_ (h_ tabOk rfl rfl l0_ List.not_mem_nil rfl) rfl rfl<|q_ 1 rfl<|u_ (jo_ (fs := c.prepared) (gs := d.prepared) ha h1.prep h2.prep) Casts.refl (by kernel_rfl) rfl rfl rfl ?_
 refine ap_<|fun _=>q_ 2 rfl<|aZ_ (t := 33) rfl ?_ ?_
 rotate_left
 ·intro hc33
  refine q_ 8 rfl<|g_<|c_<|n_<|f_ (rs := [.tmp 4]) rfl (RV.tmp rfl RV.nil) (()) sn_ ?_
  (refine av_ fun h => ?_; subst h; exact absurd rfl (bs_.1 hc33))
 intro hc33
 refine q_ 1 rfl<|b_ (h_ tabOk rfl rfl l1_ List.not_mem_nil rfl) rfl rfl<|q_ 1 rfl<|b_ (h_ tabOk rfl rfl l0_ List.not_mem_nil rfl) rfl rfl<|q_ 1 rfl<|u_ (jo_ (fs := c.proposed) (gs := d.proposed) hb h1.prop h2.prop) Casts.refl (by kernel_rfl) rfl rfl rfl ?_
 refine ap_<|fun _=>q_ 2 rfl<|g_<|c_<|n_<|f_ (rs := [.tmp 4]) rfl (RV.tmp rfl RV.nil) (()) sn_ ?_
 (refine bl_ ⟨fun h => Chg.same hc11 hc18 (X_.1 hc25) (X_.1 hc33) (X_.1 h), fun h => ?_⟩; subst h; exact X_.2 rfl)
variable {bp bd bt : Nat} {Dm : DMap} {Tm : TMap}
end
def cutS (s : Nat) : Value → Nat → Value
  | .slice (some a) n c, q => .slice (some (if c = q then a else ⟨a.block, a.off + q * s, none⟩)) (n - q) (c - q)
  | .slice none n c, q => .slice none (n - q) (c - q)
  | v, _ => v
theorem gY_ {K : List Nat} {w : World} : ∀ l : List Value, reps K w (l.map .v) l
  | [] => rfl
  | u :: l => ⟨u, l, rfl, rfl, gY_ l⟩
/-! ### Maps as lists of pairs -/
/-! ### The rows -/
section
variable {α β : Type} [DecidableEq α] {tm : List (α × (Value × β))} {a : α} {v : Value} {x z0 : β} {f : β → List (List Abs)} {T : TypeId} {s : Nat}
def rowD (tm : List (α × (Value × β))) (a : α) (z0 : β) : β := ((aget tm a).map (·.2)).getD z0
variable {P : Program} {n : Nat} {W : Wd} {σ : Blks} {l : Slots} {ops : Array Oper} {rest : List Oper} {Q : Exit → Act → World → Prop} {ix : Plan} {X : List Nat}
omit [DecidableEq α] in
theorem lN_ {c : Code} (k : (mids σ).Nodup → SC P c (St n W σ l) Q) : SC P c (St n W σ l) Q := fun a w h => k h.mem.nodup a w h
end
def laterE (a b : Int) : Int := if a < b then 13 else if a = b then 15 else 0
def sOf (m : List (Int × Sd)) (w : Int) : Sd := (aget m w).getD sd0
theorem sOf_is (m : List (Int × Sd)) (w : Int) : (Abs.agg (sdC (sOf m w))).is (((aget m w).map sdV).getD (sdV sd0)) := by
  unfold sOf
  cases aget m w with
  | none => exact i5_ (us := sdU sd0)
  | some v => exact i5_ (us := sdU v)
theorem lj_ : ∀ w, (zeroValue 3).run Tryz.prog w = .ok (cntV 0) w := fun w => by
  kernel_rfl
noncomputable def copyC (c : Chg) (n : Nat) : Chg := (parseC c.bytes n).1
section
variable {h q bd bt bm t bv bn n : Nat} {av : Value} {D : List (ByteArray × Nat)} {m : List (Int × Sd)} {c : List (Sd × Nat)} {k : Sd} {who x y : Int} {g : Chg}
theorem c8_  : Spec Tryz.prog 34 [ptr h, int who] [.rd h 92 [.ifc 34 (ptr q), int (n : Nat), mapV bm, .v av]] (fun _ : Unit => []) (fun _ => boo (decide (0 ≤ who ∧ who < n))) := by
 refine G_ Tryz.func34 rfl Tryz.ntmps34 rfl fun G w =>d_<|a_<|q_ 1 rfl<|g_<|c_<|d_<|a_<|q_ 3 rfl<|C_ (t := 7) rfl ?_ ?_
 ·intro hc7
  refine q_ 4 rfl<|b_ (h_ tabOk rfl rfl r0_ List.not_mem_nil rfl) rfl rfl<|q_ 3 rfl<|g_<|c_<|n_<|f_ (rs := [.tmp 4]) rfl (RV.tmp rfl RV.nil) (()) sn_<|congrArg (fun b => Abs.v (Value.bool b)) ?_
  (rw [decide_eq_decide]; omega)
 intro hc7
 refine q_ 8 rfl<|g_<|c_<|n_<|f_ (rs := [.tmp 4]) rfl (RV.tmp rfl RV.nil) (()) sn_<|congrArg (fun b => Abs.v (Value.bool b)) ?_
 (symm; rw [decide_eq_false_iff_not]; omega)
theorem jm_  : Spec Tryz.prog 36 [int x, int y] [] (fun _ : Unit => []) (fun _ => int (laterE x y)) := by
 refine G_ Tryz.func36 rfl Tryz.ntmps36 rfl fun G w =>d_<|a_<|q_ 1 rfl<|g_<|c_<|d_<|t_<|d_<|a_<|q_ 4 rfl<|g_<|c_<|r_ rfl ?_ ?_
 ·intro hc5
  refine d_<|a_<|q_ 1 rfl<|g_<|c_<|n_<|E_<|i_ nofun<|f_ (rs := [.tmp 4]) rfl (RV.tmp rfl RV.nil) (()) sn_ ?_
  unfold laterE
  (rw [if_pos (by omega)]; rfl)
 intro hc5
 refine d_<|a_<|q_ 4 rfl<|g_<|c_<|r_ rfl ?_ ?_
 ·intro hc9
  refine d_<|a_<|q_ 1 rfl<|g_<|c_<|n_<|E_<|i_ nofun<|f_ (rs := [.tmp 4]) rfl (RV.tmp rfl RV.nil) (()) sn_ ?_
  unfold laterE
  (rw [if_neg (by omega), if_pos (by omega)]; rfl)
 intro hc9
 refine p_<|o_<|c_<|d_<|a_<|q_ 1 rfl<|g_<|c_<|n_<|f_ (rs := [.tmp 4]) rfl (RV.tmp rfl RV.nil) (()) sn_ ?_
 unfold laterE
 (rw [if_neg (by omega), if_neg (by omega)]; rfl)
theorem hw_ (hf : g.Few) (hl : g.bytes.length ≤ 10000000) : Spec Tryz.prog 44 [.agg g.abs, int (n : Nat)] [] (fun _ : Unit => []) (fun _ => .agg (copyC g n).abs) := by
 refine G_ Tryz.func44 rfl Tryz.ntmps44 rfl fun G w =>d_<|a_<|eb_ (L_ (cs := g.abs) rfl) rfl rfl fun b2=>?_
 refine eb_ (B_ tabOk rfl) rfl rfl fun b4=>?_
 refine g_<|c_<|d_<|a_<|b_ (m_ (C := .agg g.abs) (F_ tabOk rfl rfl rfl l1_ List.not_mem_nil rfl) rfl) rfl rfl<|u_ (gq_ (c := g) hf) Casts.refl (by kernel_rfl) rfl rfl rfl ?_
 refine ap_<|fun _=>q_ 1 rfl<|u_ (ge_ (l := g.bytes) (n := (n : Int)) hl) Casts.refl (by kernel_rfl) rfl rfl rfl ?_
 refine ap_<|fun _=>q_ 3 rfl<|eb_ (B_ tabOk rfl) rfl rfl fun b5=>?_
 refine e_ (w_ (L' := (copyC g n).abs) tabOk rfl rfl rfl u0_ rfl (Nat.le_of_ble_eq_true rfl) rfl (by exact A_ rfl)) rfl rfl ?_
 refine q_ 1 rfl<|g_<|c_<|d_<|a_<|b_ (m_ (C := .agg (copyC g n).abs) (F_ tabOk rfl rfl rfl l0_ List.not_mem_nil rfl) rfl) rfl rfl<|e_ (w_ (L' := (copyC g n).abs) tabOk rfl rfl rfl u1_ rfl (Nat.le_of_ble_eq_true rfl) rfl (by exact A_ rfl)) rfl rfl ?_
 exact g_<|c_<|n_<|f_ (rs := [.cell 4 26]) rfl (RV.cell rfl (RV.cellA tabOk rfl rfl l1_ (rfl)) RV.nil) (()) sn_<|rfl
theorem hL_ (hk : sdOk k) : Spec Tryz.prog 56 [ptr t, .agg (sdC k)] [.rd t 128 [mapV bv, mapV bn], .rdpc (mapPc bv intK sdV intOk m), .rdpc (mapPc bn sdV cntV sdOk c)] (fun _ : Unit => []) (fun _ => int ((cget c k : Nat) : Int)) := by
 refine G_ Tryz.func56 rfl Tryz.ntmps56 rfl fun G w =>d_<|a_<|eb_ (L_ (cs := sdC k) rfl) rfl rfl fun b3=>?_
 refine q_ 1 rfl<|g_<|c_<|d_<|d_<|a_<|q_ 1 rfl<|b_ (aJ_ rfl rfl (by kernel_rfl)) rfl rfl ?_
 refine g_<|c_<|V_ rfl<|p_<|c_<|d_<|Y_ [] (.q 0 (.q 1 (.q 2 (.q 3 (.q 4 (.q 5 (.q 6 .nil))))))) (by kernel_rfl) (by kernel_rfl) ?_
 refine qs_ 3 rfl<|l_ rfl (h_ tabOk rfl rfl r1_ List.not_mem_nil rfl) (by simp) rfl rfl ?_
 refine ag_ (by (simp [mids, It.mids, ownPc, mapPc]; done)) fun hx9 => ?_
 exact l_ rfl (F_ tabOk rfl rfl rfl l0_ List.not_mem_nil (aM_ _)) hx9 rfl rfl<|l_ rfl (a3_ (a := k) (zv := cntV 0) (C := int ((cget c k : Nat) : Int)) aY_ Tryz.underlying126 lj_ rfl r3_ List.not_mem_nil rfl (bi_ _) hk (aR_ _ _)) hx9 rfl rfl<|qs_ 1 rfl<|N_<|c_<|n_<|f_ (rs := [.tmp 4]) rfl (RV.tmp rfl RV.nil) (()) sn_<|rfl
theorem sd_ofR_s (hw : intOk who) : Spec Tryz.prog 42 [ptr t, int who] [.rd t 128 [mapV bv, mapV bn], .rdpc (mapPc bv intK sdV intOk m), .rdpc (mapPc bn sdV cntV sdOk c)] (fun _ : Unit => []) (fun _ => .tup [.agg (sdC (sOf m who)), boo (aget m who).isSome]) := by
 refine G_ Tryz.func42 rfl Tryz.ntmps42 rfl fun G w =>d_<|a_<|eb_ (B_ tabOk rfl) rfl rfl fun b4=>?_
 refine q_ 1 rfl<|g_<|c_<|d_<|d_<|a_<|q_ 1 rfl<|b_ (aJ_ rfl rfl (by kernel_rfl)) rfl rfl ?_
 refine g_<|c_<|V_ rfl<|p_<|c_<|d_<|a_<|q_ 3 rfl<|b_ (h_ tabOk rfl rfl r1_ List.not_mem_nil rfl) rfl rfl<|q_ 1 rfl<|b_ (cS_ (a := who) (zv := sdV sd0) (C := .agg (sdC (sOf m who))) (bv_ Tryz.underlying3) Tryz.underlying125 hK_ rfl r2_ List.not_mem_nil rfl is_v hw (sOf_is _ _)) rfl rfl<|q_ 3 rfl<|eb_ (B_ tabOk rfl) rfl rfl fun b7=>?_
 refine e_ (w_ (L' := (sdC (sOf m who))) tabOk rfl rfl rfl u0_ (by exact aM_ _) (Nat.le_of_ble_eq_true rfl) (by exact ey_ _) (A_ (by exact aM_ _))) rfl rfl ?_
 refine q_ 1 rfl<|g_<|c_<|d_<|a_<|b_ (F_ tabOk rfl rfl rfl l0_ List.not_mem_nil (aM_ _)) rfl rfl<|q_ 1 rfl<|e_ (w_ (L' := (sdC (sOf m who))) tabOk rfl rfl rfl u1_ (by exact aM_ _) (Nat.le_of_ble_eq_true rfl) (by exact ey_ _) (A_ (by exact aM_ _))) rfl rfl ?_
 exact q_ 1 rfl<|g_<|c_<|n_<|f_ (rs := [.cell 4 96, .tmp 5]) rfl (RV.cell rfl (RV.cellA tabOk rfl rfl l1_ (aM_ _)) (RV.tmp rfl RV.nil)) (()) sn_<|rfl
set_option maxHeartbeats 1000000 in
theorem fc_ (hf : g.Few) (hl : g.bytes.length ≤ 1000000) (hn : Num1 D) (hT : D.length < 1000000) : Spec Tryz.prog 39 [.ifc 34 (ptr q), .agg g.abs] [.blk q 86 [mapV bd, mapV bt], .pc (mapPc bd Value.string cntV sOk D)] (fun _ : Unit => [.blk q 86 [mapV bd, mapV bt], .pc (mapPc bd Value.string cntV sOk (pm D (dKey g.bytes)))]) (fun _ => .agg (digA (numB 102 (pl D (dKey g.bytes))))) := by
 refine G_ Tryz.func39 rfl Tryz.ntmps39 rfl fun G w =>d_<|a_<|eb_ (L_ (cs := g.abs) rfl) rfl rfl fun b3=>?_
 refine eb_ (B_ tabOk rfl) rfl rfl fun b4=>?_
 refine g_<|c_<|d_<|lN_ fun hnod => ?_
 have hbx : b3 ∉ mids [.blk q 86 [mapV bd, mapV bt], .pc (mapPc bd Value.string cntV sOk D)] := (List.nodup_cons.1 (List.nodup_cons.1 hnod).2).1
 refine bg_ (mids [.blk q 86 [mapV bd, mapV bt], .pc (mapPc bd Value.string cntV sOk D)]) (.q 0 (.q 1 (.q 3 (.q 4 (.q 5 (.e 2 (.e 6 .nil))))))) (by kernel_rfl) (by kernel_rfl) ?_
 refine ag_ (by (simp [mids, It.mids, ownPc, mapPc]; done)) fun hx9 => ?_
 refine qx_ 1 hx9 rfl<|l_ rfl (m_ (C := .agg g.abs) (F_ tabOk rfl rfl rfl l1_ hbx rfl) rfl) hx9 rfl rfl<|l_ rfl (ao_ rfl rfl) hx9 rfl rfl<|l_ rfl (dO_ rfl (fun w => by kernel_rfl)) hx9 rfl rfl ?_
 refine qx_ 1 hx9 rfl<|I_ rfl (gq_ (c := g) hf) (by simp [mids, It.mids]) Casts.refl (by kernel_rfl) rfl rfl rfl ?_
 refine ap_<|fun _=>j5_ rfl (hc_ (q := q) (bd := bd) (bt := bt) (D := D) (l := g.bytes) hl hn hT) (fun k hk => hk) rfl Casts.refl (fun _ _ _ => by kernel_rfl) rfl rfl rfl ?_
 refine aW_ [_, _] (β := []) rfl (by intro x hx; simp only [List.mem_cons, List.not_mem_nil, or_false] at hx; rcases hx with rfl | rfl <;> rfl) ?_
 intro _
 refine N_<|bI_ rfl (w_ (L' := digA (numB 102 (pl D (dKey g.bytes)))) tabOk rfl rfl rfl u0_ (by simp only [cellsA, digA, List.length_map]; rw [aQ_]) (lb_ (by rfl)) (eJ_ _) (by exact A_ (by simp only [cellsA, digA, List.length_map]; rw [aQ_]; rfl))) rfl rfl ?_
 rintro _ _ ⟨rfl, rfl⟩
 refine c_<|n_<|f_ (rs := [.cell 4 40]) rfl (RV.cell rfl (RV.cellA tabOk rfl rfl l0_ (by simp only [digA, List.length_map]; rw [aQ_])) RV.nil) (()) (sk_ (sk_ sr_)) ?_
 exact rfl
end
theorem i7_ {place : Nat → Option (Nat × Nat)} {Z : List Abs} {x y : Abs} {a b : Nat} (hx : (cellsA x).length = a) (hy : (cellsA y).length = b) (hZ : Z.length = a + b) (h0 : place 0 = some (0, a)) (h1 : place 1 = some (a, b)) : fillA place Z [(0, x), (1, y)] = some (cellsA x ++ cellsA y) := by
  simp only [fillA, h0, h1, hx, hy, Nat.beq_refl, Bool.true_and, putL]
  rw [Nat.ble_eq_true_of_le (by omega)]
  simp only [cond_true]
  rw [Nat.ble_eq_true_of_le (by simp only [List.length_append, List.length_drop]; omega)]
  simp only [cond_true]
  rw [b9_ _ _ _ (by simp only [List.length_append]; omega)]
  rw [← hx, List.take_left, List.drop_eq_nil_of_le (by simp only [List.length_append, List.length_drop]; omega), List.append_nil]
structure Rng {α β : Type} (w : World) (b r : Nat) (K : α → Value) (V : β → Value) (Good : α → Prop) (m rest : List (α × β)) (cur : Option (α × β)) (es : Array MapEntry) (clock since : Nat) (seen : Array Nat) (c0 : Nat) : Prop where
  hb : w.heap[b]? = some (.map es clock)
  he : es.toList.map (fun e => (e.key, e.val)) = m.map (fun p => (K p.1, V p.2))
  nd : (m.map (·.1)).Nodup
  good : ∀ p ∈ m, Good p.1
  born : ∀ e ∈ es.toList, e.born < clock
  bnd : (es.toList.map (·.born)).Nodup
  hr : w.heap[r]? = some (.mapIter (some b) since seen c0)
  old : ∀ e ∈ es.toList, e.born < since
  le : since ≤ c0
  le2 : since ≤ clock
  left : ∀ p, p ∈ rest ↔ ∃ (j : Nat) (e : MapEntry), m[j]? = some p ∧ es.toList[j]? = some e ∧ seen.contains e.born = false
  last : ∀ p, cur = some p → c0 = clock ∧ ∃ (e : MapEntry) (s' : Array Nat), e ∈ es.toList ∧ e.key = K p.1 ∧ e.val = V p.2 ∧ seen = s'.push e.born
def rngPc {α β : Type} (b r : Nat) (K : α → Value) (V : β → Value) (Good : α → Prop) (m rest : List (α × β)) (cur : Option (α × β)) : Pc where
  ids := [b, r]
  p := fun _ w => r ≠ b ∧ ∃ es clock since seen c0, Rng w b r K V Good m rest cur es clock since seen c0
  carry := fun _ _ _ _ _ hs ⟨hn, es, clock, since, seen, c0, h⟩ => ⟨hn, es, clock, since, seen, c0, { h with hb := (hs b (by simp)).trans h.hb, hr := (hs r (by simp)).trans h.hr }⟩
  lt := fun _ w ⟨_, es, clock, since, seen, c0, h⟩ k hk => by
    simp at hk
    rcases hk with rfl | rfl
    · exact bL_ h.hb
    · exact bL_ h.hr
theorem he_ {w : World} {b : Nat} {o : Obj} (hb : b < w.heap.size) : Ext [b] w (Go.ChangeMaps.setBlock w b o) :=
  ⟨rfl, rfl, rfl, by simp [Go.ChangeMaps.setBlock], fun k _ hn => by
    have : b ≠ k := fun h => hn (by simp [h])
    simp [Go.ChangeMaps.setBlock, Array.getElem?_setIfInBounds_ne this]⟩
theorem sb_same {w : World} {b : Nat} {o : Obj} (hb : b < w.heap.size) : (Go.ChangeMaps.setBlock w b o).heap[b]? = some o := by
  simp [Go.ChangeMaps.setBlock, Array.getElem?_setIfInBounds_self, hb]
theorem sb_other {w : World} {b k : Nat} {o : Obj} (h : b ≠ k) : (Go.ChangeMaps.setBlock w b o).heap[k]? = w.heap[k]? := by
  simp [Go.ChangeMaps.setBlock, Array.getElem?_setIfInBounds_ne h]
section
variable {α β : Type} {w : World} {b r : Nat} {K : α → Value} {V : β → Value} {Good : α → Prop} {m rest : List (α × β)} {cur : Option (α × β)} {es : Array MapEntry} {clock since : Nat} {seen : Array Nat} {c0 : Nat}
theorem k7_ {es : List MapEntry} (h : es.map (fun e => (e.key, e.val)) = m.map (fun p => (K p.1, V p.2))) : es.length = m.length := by
  have h3 := congrArg List.length h
  simpa using h3
theorem enc_at {es : List MapEntry} (h : es.map (fun e => (e.key, e.val)) = m.map (fun p => (K p.1, V p.2))) {j : Nat} {e : MapEntry} {p : α × β} (he : es[j]? = some e) (hp : m[j]? = some p) : e.key = K p.1 ∧ e.val = V p.2 := by
  have h1 : (es.map (fun e => (e.key, e.val)))[j]? = (m.map (fun p => (K p.1, V p.2)))[j]? := by rw [h]
  rw [List.getElem?_map, List.getElem?_map, he, hp] at h1
  simpa using h1
theorem nd_at {l : List (α × β)} (h : (l.map (·.1)).Nodup) {i j : Nat} {p q : α × β} (hi : l[i]? = some p) (hj : l[j]? = some q) : p.1 = q.1 ↔ i = j := by
  have hi2 : (l.map (·.1))[i]? = some p.1 := by rw [List.getElem?_map, hi]; rfl
  have hj2 : (l.map (·.1))[j]? = some q.1 := by rw [List.getElem?_map, hj]; rfl
  constructor
  · intro e
    have hlt : i < (l.map (·.1)).length := (List.getElem?_eq_some_iff.1 hi2).1
    exact (List.getElem?_inj hlt h).1 (by rw [hi2, hj2, e])
  · rintro rfl
    rw [hi] at hj
    cases hj
    rfl
theorem bn_at {l : List MapEntry} (h : (l.map (·.born)).Nodup) {i j : Nat} {p q : MapEntry} (hi : l[i]? = some p) (hj : l[j]? = some q) : p.born = q.born ↔ i = j := by
  have hi2 : (l.map (·.born))[i]? = some p.born := by rw [List.getElem?_map, hi]; rfl
  have hj2 : (l.map (·.born))[j]? = some q.born := by rw [List.getElem?_map, hj]; rfl
  constructor
  · intro e
    have hlt : i < (l.map (·.born)).length := (List.getElem?_eq_some_iff.1 hi2).1
    exact (List.getElem?_inj hlt h).1 (by rw [hi2, hj2, e])
  · rintro rfl
    rw [hi] at hj
    cases hj
    rfl
theorem Rng.sub (h : Rng w b r K V Good m rest cur es clock since seen c0) : ∀ p ∈ rest, p ∈ m := fun p hp => by
  obtain ⟨j, e, h1, _⟩ := (h.left p).1 hp
  exact List.mem_of_getElem? h1
theorem Rng.map (h : Rng w b r K V Good m rest cur es clock since seen c0) : MapOf w b K V Good m := ⟨es, clock, h.hb, h.he, h.nd, h.good, h.born, h.bnd⟩
theorem Rng.next [DecidableEq α] {P : Program} (hne : r ≠ b) (h : Rng w b r K V Good m rest cur es clock since seen c0) (ty : TypeId) :
    (rest = [] ∧ (Instr.next (.pointer (some ⟨r, 0, none⟩)) false ty).run P w = .ok (.tuple #[.bool false]) w) ∨
    ∃ p ∈ rest, ∃ w', (Instr.next (.pointer (some ⟨r, 0, none⟩)) false ty).run P w = .ok (.tuple #[.bool true, K p.1, V p.2]) w' ∧ Ext [b, r] w w' ∧
      ∃ seen' c0', Rng w' b r K V Good m (rest.filter fun q => decide (q.1 ≠ p.1)) (some p) es clock since seen' c0' := by
  have hmem : ∀ e, e ∈ (leftOf es seen).toList ↔ e ∈ es.toList ∧ seen.contains e.born = false := fun e => by
    unfold leftOf
    rw [Array.toList_filter, List.mem_filter]
    cases seen.contains e.born <;> simp
  rcases run_next_at (P := P) w ty r b since c0 seen es clock h.hr h.hb h.old h.le with ⟨h0, hrun⟩ | ⟨e, he, w1, hw1, hrun⟩
  · refine .inl ⟨?_, hrun⟩
    rw [List.eq_nil_iff_forall_not_mem]
    intro p hp
    obtain ⟨j, e, _, h2, h3⟩ := (h.left p).1 hp
    have h4 := (hmem e).2 ⟨List.mem_of_getElem? h2, h3⟩
    have h5 : (leftOf es seen).toList = [] := List.length_eq_zero_iff.1 (by simpa using h0)
    rw [h5] at h4
    cases h4
  · obtain ⟨h1, h2⟩ := (hmem e).1 he
    obtain ⟨j, hj⟩ := List.getElem?_of_mem h1
    have hjl : j < es.toList.length := (List.getElem?_eq_some_iff.1 hj).1
    have hjm : j < m.length := by rw [← k7_ h.he]; exact hjl
    obtain ⟨p, hp⟩ : ∃ p, m[j]? = some p := ⟨_, List.getElem?_eq_getElem hjm⟩
    obtain ⟨hk, hv⟩ := enc_at h.he hj hp
    have hheap : w1.heap = w.heap := by rcases hw1 with rfl | rfl <;> rfl
    have hx1 : Ext [] w w1 := by
      rcases hw1 with rfl | rfl
      · exact Ext.refl _
      · exact (Ext.refl _).drew
    have hrl : r < w1.heap.size := by rw [hheap]; exact bL_ h.hr
    refine .inr ⟨p, (h.left p).2 ⟨j, e, hp, hj, h2⟩, _, by rw [← hk, ← hv]; exact hrun, ?_, _, _, ⟨?_, h.he, h.nd, h.good, h.born, h.bnd, sb_same hrl, h.old, ?_, ?_, ?_, ?_⟩⟩
    · refine ⟨(he_ hrl).os.trans hx1.os, (he_ hrl).tape.trans hx1.tape, (he_ hrl).output.trans hx1.output, Nat.le_trans hx1.size (he_ hrl).size, fun k hk2 hn => ?_⟩
      rw [(he_ hrl).block k (by rw [hheap]; exact hk2) (fun hk3 => hn (by simp at hk3; simp [hk3])), hheap]
    · rw [sb_other hne, hheap]
      exact h.hb
    · exact h.le2
    · exact h.le2
    · intro q
      rw [List.mem_filter, h.left q, decide_eq_true_eq]
      constructor
      · rintro ⟨⟨i, e', h3, h4, h5⟩, h6⟩
        refine ⟨i, e', h3, h4, ?_⟩
        rw [Array.contains_push, h5, Bool.false_or, beq_eq_false_iff_ne]
        intro e6
        exact h6 ((nd_at h.nd h3 hp).2 ((bn_at h.bnd h4 hj).1 e6))
      · rintro ⟨i, e', h3, h4, h5⟩
        rw [Array.contains_push, Bool.or_eq_false_iff, beq_eq_false_iff_ne] at h5
        refine ⟨⟨i, e', h3, h4, h5.1⟩, fun e6 => h5.2 ?_⟩
        exact (bn_at h.bnd h4 hj).2 ((nd_at h.nd h3 hp).1 e6)
    · intro p' hp'
      cases hp'
      exact ⟨rfl, e, seen, h1, hk, hv, rfl⟩
end
section
variable {P : Program} {n : Nat} {W : Wd} {σ τ : Blks} {l : Slots} {X : List Nat} {x y z : Operand} {d : Option Nat} {ty t k e : TypeId} {pos : String} {aft : Array Edge} {g : Option (Nat × Bool)} {b r : Nat} {A B C : Abs}
variable {α β : Type} [DecidableEq α] {K : α → Value} {V : β → Value} {Good : α → Prop} {m rest : List (α × β)} {cur : Option (α × β)} {a : α} {p : α × β} {Q : Exit → Act → World → Prop}
omit [DecidableEq α] in
theorem hD_ {τ : Nat → Blks} (ht : P.underlying t = some (.map k e)) (hx : look l x = some (mapV b)) (hu : ∀ r, Upd (.pc (mapPc b K V Good m)) (.pc (rngPc b r K V Good m m none)) σ (τ r)) :
    Eff P n W σ l [b] ⟨d, .range t x, ty, pos, aft, g⟩ fun u τ' => ∃ r : Nat, u = .v (.pointer (some ⟨r, 0, none⟩)) ∧ τ' = τ r := fun ac w hs => by
  have h1 : MapOf w b K V Good m := hs.mem.hold _ (hu 0).mem
  obtain ⟨es, clock, hb, he, hnd, hg, hborn, hbnd⟩ := h1
  have hbl := bL_ hb
  have hne : w.heap.size ≠ b := by omega
  have hx2 : Ext [b] w (w.alloc (.mapIter (some b) clock #[] clock)) := (Ext.new w _).mono (by simp)
  have hal : ∀ k, k < w.heap.size → (w.alloc (.mapIter (some b) clock #[] clock)).heap[k]? = w.heap[k]? := fun k hk => (Ext.new w _).block k hk (by simp)
  have h4 := hs.mem.upd (hu w.heap.size) (hx2.mono (by simp [It.mids, mapPc])) (by simp [It.mids, rngPc, Ne.symm hne]) (fun k hk => by
      simp [It.mids, rngPc] at hk
      rcases hk with rfl | rfl
      · exact .inl (by simp [It.mids, mapPc])
      · exact .inr (Nat.le_refl _)) rfl (fun _ => ⟨hne, es, clock, clock, #[], clock, (hal b hbl).trans hb, he, hnd, hg, hborn, hbnd, heap_alloc_new w _, hborn, Nat.le_refl _, Nat.le_refl _, fun p => ?_, fun p hp => by cases hp⟩)
  · refine ⟨.pointer (some ⟨w.heap.size, 0, none⟩), _, _, _, ⟨_, rfl, rfl⟩, hx2, rfl, h4.1, h4.2, .inl ?_⟩
    simp [execOp, hs.plain hx, run_range_map w t k e b es clock ht hb, Sem.run_bind, Result.andThen]
  · constructor
    · intro hp
      obtain ⟨j, hj⟩ := List.getElem?_of_mem hp
      have hjl : j < es.toList.length := by rw [k7_ he]; exact (List.getElem?_eq_some_iff.1 hj).1
      exact ⟨j, _, hj, List.getElem?_eq_getElem hjl, by simp⟩
    · rintro ⟨j, e, h1, _⟩
      exact List.mem_of_getElem? h1
theorem iy_ {τ : List (α × β) → Option (α × β) → Blks} (hx : look l x = some (.v (.pointer (some ⟨r, 0, none⟩)))) (hu : ∀ rest' cur', Upd (.pc (rngPc b r K V Good m rest cur)) (.pc (rngPc b r K V Good m rest' cur')) σ (τ rest' cur')) :
    Eff P n W σ l [b, r] ⟨d, .next x false, ty, pos, aft, g⟩ fun u τ' => ∃ (o : Option (α × β)) (rest' : List (α × β)), (o = none → rest = []) ∧ (∀ p, o = some p → p ∈ rest ∧ rest' = rest.filter fun q => decide (q.1 ≠ p.1)) ∧
      u = .tup (.v (.bool o.isSome) :: (match o with | none => [] | some p => [.v (K p.1), .v (V p.2)])) ∧ τ' = τ rest' o := fun ac w hs => by
  obtain ⟨hne, es, clock, since, seen, c0, h⟩ : (rngPc b r K V Good m rest cur).p _ w := hs.mem.hold _ (hu [] none).mem
  have hnd : (It.pc (rngPc b r K V Good m rest cur)).mids.Nodup := by simp [It.mids, rngPc, Ne.symm hne]
  rcases h.next (P := P) hne ty with ⟨h0, hrun⟩ | ⟨p, hp, w', hrun, hx2, seen', c0', h'⟩
  · have h4 := hs.mem.upd (hu rest none) (Ext.refl w) hnd (fun k hk => .inl hk) rfl (fun hc => (rngPc b r K V Good m rest none).carry _ _ _ _ hc (fun _ _ => rfl) ⟨hne, es, clock, since, seen, c0, { h with last := fun p hp => by cases hp }⟩)
    refine ⟨.tuple #[.bool false], w, _, _, ⟨none, rest, fun _ => h0, fun p hp => (by cases hp), rfl, rfl⟩, Ext.refl w, ⟨[.bool false], rfl, _, _, rfl, rfl, rfl⟩, h4.1, h4.2, .inl ?_⟩
    simp [execOp, hs.plain hx, hrun, Sem.run_bind, Result.andThen]
  · have h4 := hs.mem.upd (hu _ (some p)) (hx2.mono (by simp [It.mids, rngPc])) hnd (fun k hk => .inl hk) rfl (fun hc => ⟨hne, es, clock, since, seen', c0', h'⟩)
    refine ⟨.tuple #[.bool true, K p.1, V p.2], w', _, _, ⟨some p, _, fun h => (by cases h), fun q hq => (by cases hq; exact ⟨hp, rfl⟩), rfl, rfl⟩, hx2, ⟨[.bool true, K p.1, V p.2], rfl, _, _, rfl, rfl, _, _, rfl, rfl, _, _, rfl, rfl, rfl⟩, h4.1, h4.2, .inl ?_⟩
    simp [execOp, hs.plain hx, hrun, Sem.run_bind, Result.andThen]
omit [DecidableEq α] in
theorem hz_ (hx : look l x = some (.v (.pointer (some ⟨r, 0, none⟩)))) (hb : It.pc (rngPc b r K V Good m rest (some p)) ∈ σ) (hX : b ∉ X ∧ r ∉ X) : Val P n W σ l X ⟨d, .entry x, ty, pos, aft, g⟩ (.tup [.v (K p.1), .v (V p.2)]) := fun ac w hs _ => by
  obtain ⟨hne, es, clock, since, seen, c0, h⟩ : (rngPc b r K V Good m rest (some p)).p _ w := hs.mem.hold _ hb
  obtain ⟨rfl, e, s', he, hk, hv, rfl⟩ := h.last p rfl
  refine ⟨.tuple #[K p.1, V p.2], ⟨[K p.1, V p.2], rfl, _, _, rfl, rfl, _, _, rfl, rfl, rfl⟩, fun w' hw' => ?_⟩
  have h1 := run_entry_at (P := P) w' r b since s' es c0 e ((hw'.block r (bL_ h.hr) hX.2).trans h.hr) ((hw'.block b (bL_ h.hb) hX.1).trans h.hb) he h.bnd
  rw [hk, hv] at h1
  simp [execOp, hs.plain hx, h1, Sem.run_bind, Result.andThen]
omit [DecidableEq α] in
theorem j6_ {c : Code} (hu : Upd (.pc (rngPc b r K V Good m rest cur)) (.pc (mapPc b K V Good m)) σ τ) (q : SC P c (St n W τ l) Q) : SC P c (St n W σ l) Q := fun ac w hs => by
  obtain ⟨hne, es, clock, since, seen, c0, h⟩ : (rngPc b r K V Good m rest cur).p _ w := hs.mem.hold _ hu.mem
  have h4 := hs.mem.upd hu (Ext.refl w) (by simp [It.mids, mapPc]) (fun k hk => .inl (by simp [It.mids, mapPc, rngPc] at hk ⊢; exact .inl hk)) rfl (fun _ => h.map)
  exact q ac w (hs.to h4.1 h4.2)
theorem kw_ (h : p ∈ rest) : (rest.filter fun q => decide (q.1 ≠ p.1)).length < rest.length := List.length_filter_lt_length_iff_exists.2 ⟨p, h, by simp⟩
end
section
variable {α β : Type} [DecidableEq α] {tm tm' : List (α × (Value × β))} {a c : α} {u : Value} {x : β}
def plM (tm : List (α × (Value × β))) : List (α × β) := tm.map fun e => (e.1, e.2.2)
theorem gd_ : ∀ (tm : List (α × (Value × β))), aget (plM tm) a = (aget tm a).map (·.2)
  | [] => rfl
  | e :: tm => by
    have h := gd_ tm
    unfold plM aget at h ⊢
    rw [List.map_cons, List.find?_cons, List.find?_cons]
    by_cases he : e.1 = a
    · simp [he]
    · simpa [he] using h
omit [DecidableEq α] in
theorem plM_keys (tm : List (α × (Value × β))) : (plM tm).map (·.1) = tm.map (·.1) := by
  unfold plM
  rw [List.map_map]
  rfl
theorem plM_put (tm : List (α × (Value × β))) (a : α) (u : Value) (x : β) : plM (aput tm a (u, x)) = aput (plM tm) a x := by
  have hg := gd_ tm (a := a)
  unfold aput
  rw [hg, Option.isSome_map]
  split
  · unfold plM
    rw [List.map_map, List.map_map]
    refine List.map_congr_left fun e _ => ?_
    show ((if e.1 = a then (a, (u, x)) else e).1, (if e.1 = a then (a, (u, x)) else e).2.2) = if e.1 = a then (a, x) else (e.1, e.2.2)
    split <;> rfl
  · unfold plM
    rw [List.map_append]
    rfl
end
def tmPc {α β : Type} (b : Nat) (K : α → Value) (Good : α → Prop) (enc : β → Abs) (m : List (α × β)) : Pc where
  ids := [b]
  p := fun K' w => ∃ tm : List (α × (Value × β)), plM tm = m ∧ MapOf w b K id Good (rawM tm) ∧ ∀ y ∈ facM enc tm, rep K' w y.2 y.1
  carry := fun _ _ _ _ hc hs ⟨tm, h1, h2, h3⟩ => ⟨tm, h1, iU_ h2 (hs b (by simp)), fun y hy => br_ hc _ _ (h3 y hy)⟩
  lt := fun _ _ ⟨_, _, h2, _⟩ k hk => by simp at hk; subst hk; exact h2.lt
section
variable {P : Program} {n : Nat} {W : Wd} {σ τ : Blks} {l : Slots} {X : List Nat} {x y z : Operand} {d : Option Nat} {ty t k e : TypeId} {pos : String} {aft : Array Edge} {g : Option (Nat × Bool)} {b : Nat} {A B C : Abs} {ops : Array Oper} {rest : List Oper} {Q : Exit → Act → World → Prop}
variable {α β : Type} [DecidableEq α] {K : α → Value} {Good : α → Prop} {enc : β → Abs} {m : List (α × β)} {a : α} {v z0 : β} {zv : Value}
abbrev isTm (σ : Blks) (b : Nat) (K : α → Value) (Good : α → Prop) (enc : β → Abs) (m : List (α × β)) : Prop := It.pc (tmPc b K Good enc m) ∈ σ ∨ It.rdpc (tmPc b K Good enc m) ∈ σ
omit [DecidableEq α] in
theorem kS_ {w0 w : World} {F G : List Nat} {σ : Blks} (h : Mem w0 F G σ w) (hb : isTm σ b K Good enc m) : ∃ tm : List (α × (Value × β)), plM tm = m ∧ MapOf w b K id Good (rawM tm) ∧ ∀ y ∈ facM enc tm, rep (mids σ ++ G) w y.2 y.1 := by
  rcases hb with hb | hb
  · exact h.hold _ hb
  · exact h.hold _ hb
theorem tm_rep {tm : List (α × (Value × β))} {K' : List Nat} {w : World} (h : ∀ y ∈ facM enc tm, rep K' w y.2 y.1) (hz : rep K' w (enc z0) zv) : rep K' w (enc ((aget (plM tm) a).getD z0)) (((aget (rawM tm) a).map id).getD zv) := by
  rw [eC_, gd_]
  cases hg : aget tm a with
  | none => exact hz
  | some e => exact h _ (List.mem_map.2 ⟨(a, e), gu_ hg, rfl⟩)
theorem cJ_ (kf : KeyFit P k K Good) (ht : P.underlying t = some (.map k e)) (hz : ∀ w, (zeroValue e).run P w = .ok zv w) (hzr : ∀ K w, rep K w (enc z0) zv) (hx : look l x = some (mapV b)) (hb : isTm σ b K Good enc m) (hbX : b ∉ X)
    (hy : look l y = some A) (hA : A.is (K a)) (ha : Good a) : Val P n W σ l X ⟨d, .lookup t x y true, ty, pos, aft, g⟩ (.tup [enc ((aget m a).getD z0), boo (aget m a).isSome]) := fun ac w hs _ => by
  obtain ⟨tm, rfl, h1, h2⟩ := kS_ hs.mem hb
  have e1 := hs.plain hx
  have e2 := hA.1 _ _ _ (hs.eval hy)
  refine ⟨.tuple #[((aget (rawM tm) a).map id).getD zv, .bool (aget (rawM tm) a).isSome], ⟨_, rfl, _, _, rfl, tm_rep h2 (hzr _ _), _, _, rfl, ?_, rfl⟩, fun w' hw' => ?_⟩
  · rw [gd_, eC_, Option.isSome_map, Option.isSome_map]; exact rfl
  · simp only [execOp, e1, e2, Sem.run_bind, (h1.ext hw' hbX).look_run kf ht (hz w') ha true, if_true, Result.andThen_ok, Sem.run_pure]
theorem fu_ {m' : List (α × β)} (kf : KeyFit P k K Good) (ht : P.underlying t = some (.map k e)) (hx : look l x = some (mapV b)) (hu : Upd (.pc (tmPc b K Good enc m)) (.pc (tmPc b K Good enc m')) σ τ) (hy : look l y = some A) (hA : A.is (K a)) (ha : Good a) (hz : look l z = some (enc v)) (hm : aput m a v = m') :
    Eff P n W σ l [b] ⟨d, .mapUpdate t x y z, ty, pos, aft, g⟩ fun u τ' => u = .v undef ∧ τ' = τ := fun ac w hs => by
  subst hm
  obtain ⟨tm, rfl, h1, h2⟩ := kS_ hs.mem (.inl hu.mem)
  have h5 := hs.eval hz
  obtain ⟨w', hr, h6, h3⟩ := h1.put_run kf ht ha (ac.eval z)
  have h4 := hs.mem.upd hu (h3.mono (by simp [It.mids, tmPc])) (by simp [It.mids, tmPc]) (fun k hk => .inl hk) rfl (fun hc => ⟨aput tm a (ac.eval z, v), plM_put _ _ _ _, by rw [rawM_put]; exact h6, fun y hy => by
    rcases List.mem_cons.1 (facM_put tm a (ac.eval z) v y hy) with rfl | hy
    · exact br_ hc _ _ h5
    · exact br_ hc _ _ (h2 y hy)⟩)
  refine ⟨_, w', _, _, ⟨rfl, rfl⟩, h3, rfl, h4.1, h4.2, .inr ⟨rfl, ?_⟩⟩
  simp only [id] at hr
  simp only [execOp, hs.plain hx, hA.1 _ _ _ (hs.eval hy), Sem.run_bind, hr, Result.andThen_ok, Sem.run_pure]
omit [DecidableEq α] in
theorem j9_ {o : Op} (K : α → Value) (Good : α → Prop) (enc : β → Abs) (hrun : ∀ (ac : Act) (w : World), (execOp ac.eval ⟨d, o, ty, pos, aft, g⟩).run P w = .ok (.value (.map (some w.heap.size))) (w.alloc (.map #[] 0))) :
    Eff P n W σ l [] ⟨d, o, ty, pos, aft, g⟩ fun u τ' => ∃ b, u = mapV b ∧ τ' = .pc (tmPc b K Good enc []) :: σ := fun ac w hs => by
  have hx : Ext [] w (w.alloc (.map #[] 0)) := (Ext.refl w).alloc _
  have h4 := hs.mem.new (y := .pc (tmPc w.heap.size K Good enc [])) hx (by simp [It.mids, tmPc]) (by simp [It.mids, tmPc]) rfl (fun _ => ⟨[], rfl, MapOf.new w, fun y hy => by cases hy⟩)
  exact ⟨_, _, _, _, ⟨w.heap.size, rfl, rfl⟩, hx, rfl, h4.1, h4.2, .inl (hrun ac w)⟩
/-! ### Opened: the map's own values, and what they are -/
omit [DecidableEq α] in
theorem Re.tmIn {tm : List (α × (Value × β))} (hm : plM tm = m) : Re [facts (facM enc tm), .pc (mapPc b K id Good (rawM tm))] [.pc (tmPc b K Good enc m)] := ⟨⟨[], by simp [mids, It.mids, mapPc, tmPc, factsPc]⟩, by simp [It.rids], fun K' w h y hy => by
  rw [List.mem_singleton.1 hy]
  exact ⟨tm, hm, h (.pc (mapPc b K id Good (rawM tm))) (by simp), fun y hy => (h (facts (facM enc tm)) (by simp) : ∀ x ∈ facM enc tm, rep K' w x.2 x.1) y hy⟩⟩
omit [DecidableEq α] in
theorem St.tmOpen {ac : Act} {w : World} {pre post : Blks} (h : St n W (pre ++ .pc (tmPc b K Good enc m) :: post) l ac w) : ∃ tm : List (α × (Value × β)), plM tm = m ∧ St n W (pre ++ facts (facM enc tm) :: .pc (mapPc b K id Good (rawM tm)) :: post) l ac w := by
  obtain ⟨tm, rfl, h1, h2⟩ := kS_ (b := b) (K := K) (Good := Good) (enc := enc) (m := m) h.mem (.inl (by simp))
  have hids : mids (pre ++ facts (facM enc tm) :: .pc (mapPc b K id Good (rawM tm)) :: post) = mids (pre ++ .pc (tmPc b K Good enc (plM tm)) :: post) := by
    simp [ab_, aB_, It.mids, mapPc, tmPc, factsPc]
  have h3 := h.mem.step (τ := pre ++ facts (facM enc tm) :: .pc (mapPc b K id Good (rawM tm)) :: post) (Y := []) (Ext.refl w) (by simp) (fun k hk => .inl (by rw [← hids]; exact hk)) (fun y hy => ?_) (by rw [hids]; exact h.mem.nodup) fun hc y hy => ?_
  · exact ⟨tm, rfl, h.to h3.1 h3.2⟩
  · simp only [List.mem_append, List.mem_cons] at hy
    rcases hy with hy | rfl | rfl | hy
    · exact h.mem.ro y (by simp [hy])
    · simp [It.rids]
    · simp [It.rids]
    · exact h.mem.ro y (by simp [hy])
  · simp only [List.mem_append, List.mem_cons] at hy
    rcases hy with hy | rfl | rfl | hy
    · exact h.mem.keep (Y := []) (Ext.refl w) hc (by simp [hy]) (by simp) (by simp)
    · exact fun y hy => br_ hc _ _ (h2 y hy)
    · exact h1
    · exact h.mem.keep (Y := []) (Ext.refl w) hc (by simp [hy]) (by simp) (by simp)
omit [DecidableEq α] in
theorem lI_ (pre : Blks) {post : Blks} (hσ : σ = pre ++ .pc (tmPc b K Good enc m) :: post) (k : ∀ tm : List (α × (Value × β)), plM tm = m → SL P ops rest (St n W (pre ++ facts (facM enc tm) :: .pc (mapPc b K id Good (rawM tm)) :: post) l) Q) : SL P ops rest (St n W σ l) Q := by
  subst hσ
  intro a w h
  obtain ⟨tm, h1, h2⟩ := h.tmOpen
  exact k tm h1 a w h2
end
structure Tl where
  t : Nat
  bv : Nat
  bn : Nat
  m : List (Int × Sd)
  c : List (Sd × Nat)
def tlP (x : Tl) : Pc := bigP [blkP x.t 128 [mapV x.bv, mapV x.bn], mapPc x.bv intK sdV intOk x.m, mapPc x.bn sdV cntV sdOk x.c]
def tlsP (L : List Tl) : Pc := bigP (L.map tlP)
theorem Re.newTl {L : List Tl} {t bv bn : Nat} : Re [.blk t 128 [mapV bv, mapV bn], .pc (mapPc bv intK sdV intOk []), .pc (mapPc bn sdV cntV sdOk []), .pc (tlsP L)] [.pc (tlsP (L ++ [⟨t, bv, bn, [], []⟩]))] where
  ids := ⟨[], by
    rw [List.perm_iff_count]
    intro a
    simp [mids, It.mids, tlsP, tlP, bigP, blkP, mapPc, List.count_append, List.count_cons]
    omega⟩
  rd := by simp [It.rids]
  hh := fun K w h y hy => by
    rw [List.mem_singleton] at hy
    subst hy
    intro d hd
    have h0 : (tlsP L).p K w := h (.pc (tlsP L)) (by simp)
    rw [List.map_append, List.mem_append] at hd
    rcases hd with hd | hd
    · exact h0 d hd
    · rw [List.map_cons, List.map_nil, List.mem_singleton] at hd
      subst hd
      intro e he
      simp only [List.mem_cons, List.not_mem_nil, or_false] at he
      rcases he with rfl | rfl | rfl
      · exact h (.blk t 128 [mapV bv, mapV bn]) (by simp)
      · exact h (.pc (mapPc bv intK sdV intOk [])) (by simp)
      · exact h (.pc (mapPc bn sdV cntV sdOk [])) (by simp)
theorem Re.tlOut {x : Tl} : Re [.pc (tlP x)] [.blk x.t 128 [mapV x.bv, mapV x.bn], .pc (mapPc x.bv intK sdV intOk x.m), .pc (mapPc x.bn sdV cntV sdOk x.c)] := ⟨⟨[], by simp [mids, It.mids, tlP, bigP, blkP, mapPc]⟩, by simp [It.rids], fun K w h y hy => by
  have h1 : ∀ d ∈ [blkP x.t 128 [mapV x.bv, mapV x.bn], mapPc x.bv intK sdV intOk x.m, mapPc x.bn sdV cntV sdOk x.c], d.p K w := h _ (List.mem_singleton.2 rfl)
  simp only [List.mem_cons, List.not_mem_nil, or_false] at hy
  rcases hy with rfl | rfl | rfl
  · exact h1 (blkP x.t 128 [mapV x.bv, mapV x.bn]) (by simp)
  · exact h1 (mapPc x.bv intK sdV intOk x.m) (by simp)
  · exact h1 (mapPc x.bn sdV cntV sdOk x.c) (by simp)⟩
theorem Re.tlIn {x : Tl} : Re [.blk x.t 128 [mapV x.bv, mapV x.bn], .pc (mapPc x.bv intK sdV intOk x.m), .pc (mapPc x.bn sdV cntV sdOk x.c)] [.pc (tlP x)] := ⟨⟨[], by simp [mids, It.mids, tlP, bigP, blkP, mapPc]⟩, by simp [It.rids], fun K w h y hy => by
  rw [List.mem_singleton.1 hy]
  intro e he
  simp only [List.mem_cons, List.not_mem_nil, or_false] at he
  rcases he with rfl | rfl | rfl
  · exact h (.blk x.t 128 [mapV x.bv, mapV x.bn]) (by simp)
  · exact h (.pc (mapPc x.bv intK sdV intOk x.m)) (by simp)
  · exact h (.pc (mapPc x.bn sdV cntV sdOk x.c)) (by simp)⟩
abbrev tlR (x : Tl) : Blks := [.rd x.t 128 [mapV x.bv, mapV x.bn], .rdpc (mapPc x.bv intK sdV intOk x.m), .rdpc (mapPc x.bn sdV cntV sdOk x.c)]
theorem St.tl {n : Nat} {W : Wd} {σ : Blks} {l : Slots} {L : List Tl} {x : Tl} {a : Act} {w : World} (hm : It.rdpc (tlsP L) ∈ σ) (hx : x ∈ L) (h : St n W σ l a w) : St n W (tlR x ++ σ) l a w := by
  have hp : (tlsP L).p (mids σ ++ W.G) w := h.mem.hold _ hm
  have hx1 : (tlP x).p (mids σ ++ W.G) w := hp _ (List.mem_map.2 ⟨x, hx, rfl⟩)
  have hid : ∀ k ∈ (tlP x).ids, k ∈ W.G := fun k hk => h.mem.ro _ hm k (List.mem_flatMap.2 ⟨tlP x, List.mem_map.2 ⟨x, hx, rfl⟩, hk⟩)
  have hmid : mids (tlR x ++ σ) = mids σ := by simp [mids, It.mids]
  have h2 : Mem W.w0 W.F W.G (tlR x ++ σ) w := by
    refine ⟨h.mem.ext, by rw [hmid]; exact h.mem.out, by rw [hmid]; exact h.mem.sep, h.mem.old, fun y hy k hk => ?_, by rw [hmid]; exact h.mem.nodup, fun y hy => ?_⟩
    · rcases List.mem_append.1 hy with hy | hy
      · refine hid k ?_
        simp only [List.mem_cons, List.not_mem_nil, or_false] at hy
        rcases hy with rfl | rfl | rfl
        · simp [tlP, bigP, blkP, mapPc, It.rids] at hk ⊢; simp [hk]
        · simp [tlP, bigP, blkP, mapPc, It.rids] at hk ⊢; simp [hk]
        · simp [tlP, bigP, blkP, mapPc, It.rids] at hk ⊢; simp [hk]
      · exact h.mem.ro y hy k hk
    · rw [hmid]
      rcases List.mem_append.1 hy with hy | hy
      · simp only [List.mem_cons, List.not_mem_nil, or_false] at hy
        rcases hy with rfl | rfl | rfl
        · exact hx1 (blkP x.t 128 [mapV x.bv, mapV x.bn]) (by simp)
        · exact hx1 (mapPc x.bv intK sdV intOk x.m) (by simp)
        · exact hx1 (mapPc x.bn sdV cntV sdOk x.c) (by simp)
      · exact h.mem.hold y hy
  exact h.to h2 (by rw [hmid]; exact Carry.refl)
section
variable {P : Program} {n : Nat} {W : Wd} {σ : Blks} {l : Slots} {X : List Nat} {Q : Exit → Act → World → Prop} {ops : Array Oper} {rest : List Oper} {ix : Plan} {L : List Tl} {x : Tl}
theorem SX.tl (hm : It.rdpc (tlsP L) ∈ σ) (hx : x ∈ L) (k : SX P ops ix X (St n W (tlR x ++ σ) l) Q) : SX P ops ix X (St n W σ l) Q := fun a w h => k a w (h.tl hm hx)
end
theorem sdC_eq (k : Sd) : sdC k = int k.view :: digA k.dig := by simp [sdC, sdU, digA]
theorem ko_ {k : Sd} {place : Nat → Option (Nat × Nat)} {Z : List Abs} (hZ : Z.length = 33) (h0 : place 0 = some (0, 1)) (h1 : place 1 = some (1, 32)) : fillA place Z [(0, int k.view), (1, .agg (digA k.dig))] = some (sdC k) := by
  rw [sdC_eq]
  exact i7_ (a := 1) (b := 32) rfl (by show (digA k.dig).length = 32; simp [digA, k.len]) hZ h0 h1
def votesN (n : Nat) (L : List Tl) (of_ : Int) (k : Sd) : Nat := if 0 ≤ of_ ∧ of_ < n then cget ((L[of_.toNat]?).map (·.c) |>.getD []) k else 0
section
variable {h q bd bt bm n : Nat} {av : Value} {L : List Tl} {k : Sd} {who of_ : Int}
theorem dJ_ (hn : L.length = n) (hk : sdOk k) : Spec Tryz.prog 20 [ptr h, int of_, int k.view, .agg (digA k.dig)] [.rd h 92 [.ifc 34 (ptr q), int (n : Nat), mapV bm, .v av], .rdpc (ownPc 93 1 av (L.map fun x => [ptr x.t])), .rdpc (tlsP L)] (fun _ : Unit => []) (fun _ => int (votesN n L of_ k : Nat)) := by
 refine G_ Tryz.func20 rfl Tryz.ntmps20 rfl fun G w =>d_<|a_<|eb_ (L_ (cs := digA k.dig) rfl) rfl rfl fun b7=>?_
 refine q_ 1 rfl<|g_<|c_<|d_<|d_<|a_<|q_ 1 rfl<|b_ (aJ_ rfl rfl (by kernel_rfl)) rfl rfl ?_
 refine q_ 3 rfl<|u_ (c8_ (q := q) (bm := bm) (av := av) (n := n)) Casts.refl (by kernel_rfl) rfl rfl rfl ?_
 refine ap_<|fun _=>b_ (aL_ rfl) rfl rfl<|q_ 1 rfl<|g_<|c_<|r_ rfl ?_ ?_
 ·intro hc16
  refine d_<|a_<|q_ 1 rfl<|g_<|c_<|n_<|i_ nofun<|f_ (rs := [.tmp 8]) rfl (RV.tmp rfl RV.nil) (()) sn_ ?_
  rw [show votesN n L of_ k = 0 from if_neg (by omega)]
  rfl
 intro hc16
 obtain ⟨x, hx⟩ : ∃ x, L[of_.toNat]? = some x := ⟨_, List.getElem?_eq_getElem (by omega)⟩
 have hxm := List.mem_of_getElem? hx
 refine p_<|c_<|d_<|Y_ [] (.q 0 (.q 1 (.q 2 (.q 3 (.q 4 (.q 5 (.q 6 (.q 7 (.q 8 (.q 9 (.e 10 (.q 11 .nil)))))))))))) (by kernel_rfl) (by kernel_rfl) ?_
 refine qs_ 3 rfl<|l_ rfl (h_ tabOk rfl rfl r1_ List.not_mem_nil rfl) (by simp) rfl rfl ?_
 refine qs_ 1 rfl<|ag_ (by (simp [mids, It.mids, ownPc, mapPc]; done)) fun hx9 => ?_
 refine l_ rfl (bB_ (q := of_.toNat) tabOk Tryz.underlying90 rfl rfl r2_ rfl (by omega) (by rw [List.length_map]; omega) rfl rfl) hx9 rfl rfl ?_
 refine l_ rfl (m_ (C := ptr x.t) (bW_ (q := of_.toNat) (s := 1) (cs := [ptr x.t]) tabOk rfl rfl r2_ rfl (by rw [List.getElem?_map, hx]; rfl) rfl) rfl) hx9 rfl rfl ?_
 refine qs_ 1 rfl<|l_ rfl (F_ tabOk rfl rfl rfl l0_ List.not_mem_nil (by simp [digA, k.len])) hx9 rfl rfl ?_
 refine l_ rfl (m_ (C := .agg (sdC k)) (J_ tabOk rfl rfl rfl (ko_ rfl rfl rfl)) rfl) hx9 rfl rfl<|SX.tl (x := x) i3_ hxm<|I_ rfl (hL_ (t := x.t) (bv := x.bv) (bn := x.bn) (m := x.m) (c := x.c) (k := k) hk) (by simp [mids, It.mids]) Casts.refl (by kernel_rfl) rfl rfl rfl ?_
 refine ap_<|fun _=>qs_ 1 rfl<|N_<|c_<|n_<|f_ (rs := [.tmp 8]) rfl (RV.tmp rfl RV.nil) (()) sn_ ?_
 rw [show votesN n L of_ k = cget x.c k by unfold votesN; rw [if_pos (by omega), hx]; rfl]
 rfl
end
end Go.Proofs.YtggajaigfkekhaaGreat.A
