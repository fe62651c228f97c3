/-
  Packed out of the texts: TPri, A23, TM6, TM7, TM8, TPad, TM9, TBlk, TM10.
-/
import Derived.Test.YthaahcdfnmfihaaDoorU05
import Derived.Lib.AppendStr
/-
  Policies' texts, plain: how a policy is printed.
-/
set_option maxRecDepth 100000
set_option linter.unusedSimpArgs false
set_option linter.unusedVariables false
namespace Go.Proofs.YthaahcdfnmfihaaDoor.A
open Go.RowKit

def dg (n : Nat) : UInt8 := UInt8.ofNat (48 + n)
/-- A number below 100. -/
def digT (n : Nat) : Txt := if n < 10 then [dg n] else [dg (n / 10), dg (n % 10)]
theorem dg_nat {n : Nat} (h : n < 10) : (dg n).toNat = 48 + n := by
  unfold dg
  rw [UInt8.toNat_ofNat']
  exact Nat.mod_eq_of_lt (by omega)
theorem digT_len (n : Nat) : (digT n).length ≤ 2 := by unfold digT; split <;> simp
theorem digT_one {n : Nat} (h : n < 10) : digT n = [dg n] := if_pos h
theorem digT_two {n : Nat} (h : ¬ n < 10) : digT n = [dg (n / 10), dg (n % 10)] := if_neg h
/-- Which of a policy's kids. -/
def headT (a : Int) (n : Nat) : Txt := if a = (n : Nat) then [97, 108, 108] else if a = 1 then [97, 110, 121] else digT a.toNat ++ [111, 102]
theorem headT_len (a : Int) (n : Nat) : (headT a n).length ≤ 4 := by
  unfold headT
  split
  · simp
  · split
    · simp
    · have := digT_len a.toNat
      simp only [List.length_append, List.length_cons, List.length_nil]
      omega
mutual
def Frm.text : Frm → Txt
  | .mk o a ks => match ks with
    | [] => digT o.toNat
    | k :: l => headT a (l.length + 1) ++ (40 :: (Frm.text k ++ Frm.texts l)) ++ [41]
def Frm.texts : List Frm → Txt
  | [] => []
  | k :: l => 44 :: (Frm.text k ++ Frm.texts l)
end
/-- Policies, with ',' between each two. -/
def joinT : List Frm → Txt
  | [] => []
  | k :: l => k.text ++ Frm.texts l
theorem Frm.texts_app : ∀ (l m : List Frm), Frm.texts (l ++ m) = Frm.texts l ++ Frm.texts m
  | [], m => rfl
  | k :: l, m => by rw [List.cons_append, Frm.texts, Frm.texts, Frm.texts_app l m, List.cons_append, List.append_assoc]
theorem joinT_snoc (l : List Frm) (k : Frm) : joinT (l ++ [k]) = joinT l ++ (if l = [] then [] else [44]) ++ k.text := by
  cases l with
  | nil => simp [joinT, Frm.texts]
  | cons x l => simp [joinT, Frm.texts_app, Frm.texts, List.append_assoc]
theorem Frm.text_leaf (o a : Int) : (Frm.mk o a []).text = digT o.toNat := by rw [Frm.text]
theorem Frm.text_node (o a : Int) {ks : List Frm} (h : ks ≠ []) : (Frm.mk o a ks).text = headT a ks.length ++ (40 :: joinT ks) ++ [41] := by
  cases ks with
  | nil => exact absurd rfl h
  | cons k l => rw [Frm.text, List.length_cons]; rfl
/-- How long a text gets. -/
theorem Frm.texts_len {ks : List Frm} (h : ∀ k ∈ ks, k.text.length + 1 ≤ 8 * k.nodes) : (Frm.texts ks).length ≤ 8 * Frm.nodess ks := by
  induction ks with
  | nil => simp [Frm.texts]
  | cons k l ih =>
    have h1 := h k List.mem_cons_self
    have h2 := ih fun x hx => h x (List.mem_cons_of_mem _ hx)
    rw [Frm.texts, Frm.nodess, List.length_cons, List.length_append]
    omega
theorem joinT_len {ks : List Frm} (h : ∀ k ∈ ks, k.text.length + 1 ≤ 8 * k.nodes) : (joinT ks).length ≤ 8 * Frm.nodess ks := by
  cases ks with
  | nil => simp [joinT]
  | cons k l =>
    have h1 := h k List.mem_cons_self
    have h2 := Frm.texts_len fun x hx => h x (List.mem_cons_of_mem _ hx)
    rw [joinT, Frm.nodess, List.length_append]
    omega
theorem Frm.text_len (f : Frm) : f.text.length + 1 ≤ 8 * f.nodes := Frm.ind (p := fun f => f.text.length + 1 ≤ 8 * f.nodes) (fun o a ks ih => by
  by_cases hk : ks = []
  · subst hk
    have := digT_len o.toNat
    rw [Frm.text_leaf, Frm.nodes_mk]
    omega
  · have h1 := joinT_len ih
    have h2 := headT_len a ks.length
    rw [Frm.text_node o a hk, Frm.nodes_mk]
    simp only [List.length_append, List.length_cons, List.length_nil]
    omega) f
/-- What stands behind so many kids. -/
def sepT (z : Nat) : UInt8 := if z = 0 then 40 else 44
def rowZ (ks : List Frm) (z : Nat) : Txt := if z = 0 then [] else 40 :: joinT (ks.take z)
theorem rowZ_len (ks : List Frm) (z : Nat) : (rowZ ks z).length ≤ 8 * Frm.nodess (ks.take z) + 1 := by
  unfold rowZ
  split
  · simp
  · have := joinT_len (ks := ks.take z) fun k _ => Frm.text_len k
    rw [List.length_cons]
    omega
theorem rowZ_next {ks : List Frm} {z : Nat} (h : z < ks.length) : rowZ ks (z + 1) = rowZ ks z ++ [sepT z] ++ (ks[z]'h).text := by
  have e : ks.take (z + 1) = ks.take z ++ [ks[z]'h] := List.take_succ_eq_append_getElem h
  unfold rowZ sepT
  rw [if_neg (by omega), e, joinT_snoc]
  rcases Nat.eq_zero_or_pos z with h0 | h0
  · subst h0
    simp [joinT]
  · have hne : ks.take z ≠ [] := by
      intro h1
      have := congrArg List.length h1
      rw [List.length_take, List.length_nil] at this
      omega
    simp [hne, show z ≠ 0 by omega, List.append_assoc]
theorem rowZ_all {ks : List Frm} (h : ks ≠ []) : rowZ ks ks.length = 40 :: joinT ks := by
  have : ks.length ≠ 0 := fun h0 => h (List.length_eq_zero_iff.1 h0)
  unfold rowZ
  rw [if_neg this, List.take_length]
/-- What is printed. -/
def printF (f : Frm) : Txt := if f.check 7 = 0 then f.text else []
theorem printF_len (f : Frm) : (printF f).length ≤ 256 := by
  unfold printF
  split
  · next h =>
    have h1 := (Frm.check_ok.1 h).2.1
    have h2 := Frm.text_len f
    omega
  · simp
end Go.Proofs.YthaahcdfnmfihaaDoor.A
/-
  The second engine: a text's bytes put behind a row of the call's own.
-/
set_option maxRecDepth 100000
set_option linter.unusedSimpArgs false
set_option linter.unusedVariables false
namespace Go.Proofs.YthaahcdfnmfihaaDoor.A
open Go.RowKit

theorem run_append_str_at {P : Program} (w : World) (t u ty e : TypeId) (i : TypeInfo) (ht : P.underlying t = some (.slice e)) (hu : P.underlying u = some .string) (hi : P.info? e = some i) (hz : i.zero = some (.int .u8 0))
    (hsize : i.size = 1) (hby : i.bytes = 1) (v : Value) (n : Nat) (xs : List Value) (hown : w.ownsRow 0 e 1 v n xs) (s : ByteArray) (h63 : n + s.size ≤ maxLen) (hbytes : n + s.size ≤ 140737488355328) :
    ∃ v' w', (Builtin.append_ #[t, u] ty #[v, .string s]).run P w = .ok v' w' ∧ w'.ownsRow 0 e 1 v' (n + s.size) (xs ++ Lib.strCells s) ∧ w.grownBy w' v.ownBlock ∧ (v'.ownBlock = v.ownBlock ∨ ∀ k, v'.ownBlock = some k → w.heap.size ≤ k) := by
  rcases hown.2 with ⟨rfl, rfl⟩ | ⟨g, cap, cur, rfl, hbg, hg, hnc, hcm, hcs, htake⟩
  · obtain ⟨v', w', h1, h2, h3, _⟩ := Lib.run_append_own_string (P := P) w w.heap.size t u ty e i ht hu hi hz hsize hby _ 0 xs ⟨hown.1, .inl ⟨rfl, rfl⟩⟩ s h63 hbytes (Nat.le_refl _)
    refine ⟨v', w', h1, ⟨h2.1, ?_⟩, h3, .inr fun k hk => ?_⟩
    · rcases h2.2 with h | ⟨g, cap, cur, q1, _, q3⟩
      · exact .inl h
      · exact .inr ⟨g, cap, cur, q1, Nat.zero_le _, q3⟩
    · rcases h2.2 with ⟨h, _⟩ | ⟨g, cap, cur, q1, q2, _⟩
      · rw [h] at hk; cases hk
      · rw [q1] at hk; cases hk; exact q2
  · obtain ⟨v', w', h1, h2, h3, _⟩ := Lib.run_append_own_string (P := P) w 0 t u ty e i ht hu hi hz hsize hby _ n xs hown s h63 hbytes (Nat.zero_le _)
    refine ⟨v', w', h1, h2, h3, ?_⟩
    have hxl : xs.length = n := by simpa using hown.1
    by_cases hroom : n + s.size ≤ cap
    · have hcs' : cur.size = cap := by simpa using hcs
      have hr := Lib.run_append_room_string (P := P) w t u ty e i ht hu hi hsize g n cap cur hg s hroom (by omega)
      rw [hr] at h1
      injection h1 with h4 h5
      exact .inl (by rw [← h4]; rfl)
    · have holds : ∀ j u, xs[j]? = some u → w.cell? ((⟨g, 0, none⟩ : Addr).add j) = some u := hown.cells (g := g) rfl
      have hr := Lib.run_append_grow_string (P := P) w t u ty e i (.int .u8 0) ht hu hi hz ⟨g, 0, none⟩ n cap xs (by rw [hsize]; simpa using hxl) holds s (by omega) (by unfold maxLen at h63; omega) (by rw [hby]; exact growslice_fits (by omega) (by omega))
      rw [hr] at h1
      injection h1 with h4 h5
      exact .inr fun k hk => by rw [← h4] at hk; cases hk; exact Nat.le_refl _
theorem strCells_tx (m : List UInt8) : Lib.strCells ⟨m.toArray⟩ = m.map bc := by
  simp [Lib.strCells]
  intro a _
  rfl
section
variable {P : Program} {n : Nat} {W : Wd} {σ τ : Blks} {l : Slots} {X : List Nat} {x y : Operand} {d : Option Nat} {ty t tu e : TypeId} {pos : String} {aft : Array Edge} {g : Option (Nat × Bool)} {v : Value} {m r : List UInt8}
/-- 'append(dst, s...)': dst the call's own bytes, s a text. -/
theorem Eff.appendSt (pre : Blks) {post : Blks} (hu : P.underlying t = some (.slice e)) (hus : P.underlying tu = some .string) (hi : (P.info? e).map (fun i => (i.zero, i.size, i.bytes)) = some (some (.int .u8 0), 1, 1))
    (hx : look l x = some (.v v)) (hy : look l y = some (.v (.string ⟨m.toArray⟩))) (hσ : σ = pre ++ own e 1 v (bs r) :: post) (hm : r.length + m.length ≤ 100000000000) :
    Eff P n W σ l v.ownBlock.toList ⟨d, .call { callee := .builtin .append, args := #[x, y], argTypes := #[t, tu] }, ty, pos, aft, g⟩ fun q τ => ∃ u, q = .v u ∧ τ = pre ++ own e 1 u (bs (r ++ m)) :: post := fun a w hs => by
  subst hσ
  obtain ⟨i, hi, hz, hsz, hby⟩ := info_parts hi
  obtain ⟨us, own1, hr1⟩ : (ownPc e 1 v (bs r)).p _ w := hs.mem.hold (own e 1 v (bs r)) (by simp)
  rw [show bs r = (r.map bc).map fun u => [Abs.v u] from byt_map r] at hr1
  have hus1 : us = r.map bc := repss_ones_eq hr1
  subst hus1
  rw [show (bs r).length = r.length from List.length_map _] at own1
  have hsm : (ByteArray.mk m.toArray).size = m.length := by simp [ByteArray.size]
  obtain ⟨v', w', hrun, h2, h3, h4⟩ := run_append_str_at (P := P) w t tu ty e i hu hus hi hz hsz hby v r.length (r.map bc) own1 ⟨m.toArray⟩ (by rw [hsm]; unfold maxLen; omega) (by rw [hsm]; omega)
  rw [hsm, strCells_tx, ← List.map_append] at h2
  have hlt := World.ownsRow.lt own1
  have hxx : Ext v.ownBlock.toList w w' := ext_grownF h3 fun k hk => .inl (by simpa using hk)
  have hup : Upd (own e 1 v (bs r)) (own e 1 v' (bs (r ++ m))) (pre ++ own e 1 v (bs r) :: post) (pre ++ own e 1 v' (bs (r ++ m)) :: post) := by
    clear hs own1 hr1
    induction pre with
    | nil => exact .here
    | cons p pre ih => exact .there ih
  have hm2 := hs.mem.upd hup hxx own_nodup (fun k hk => ?_) rfl fun hc => ⟨_, by rw [show (bs (r ++ m)).length = r.length + m.length by rw [List.length_map, List.length_append]]; exact h2, by rw [show bs (r ++ m) = ((r ++ m).map bc).map fun u => [Abs.v u] from byt_map _]; exact repss_ones⟩
  · refine ⟨v', w', _, _, ⟨v', rfl, rfl⟩, hxx, rfl, hm2.1, hm2.2, .inl ?_⟩
    simp [execOp, resolve, invoke, builtin, hs.plain hx, hs.plain hy, hrun, Result.andThen]
  · have hk' : v'.ownBlock = some k := by simpa [It.mids, ownPc] using hk
    rcases h4 with h4 | h4
    · exact .inl (by simp [It.mids, ownPc, ← h4, hk'])
    · exact .inr (h4 k hk')
end
end Go.Proofs.YthaahcdfnmfihaaDoor.A
/-
  Policies' texts: how the program prints.
-/
set_option maxRecDepth 100000
set_option linter.unusedSimpArgs false
set_option linter.unusedVariables false
namespace Go.Proofs.YthaahcdfnmfihaaDoor.A
open Go.RowKit

theorem SC.perm {P : Program} {n : Nat} {W : Wd} {σ τ : Blks} {l : Slots} {Q : Exit → Act → World → Prop} {c : Code} (h : τ.Perm σ) (k : SC P c (St n W τ l) Q) : SC P c (St n W σ l) Q := fun a w hs => k a w (hs.perm h)
theorem SL.perm {P : Program} {n : Nat} {W : Wd} {σ τ : Blks} {l : Slots} {Q : Exit → Act → World → Prop} {ops : Array Oper} {rest : List Oper} (h : τ.Perm σ) (k : SL P ops rest (St n W τ l) Q) : SL P ops rest (St n W σ l) Q := fun a w hs => k a w (hs.perm h)
theorem tx_add (a b : ByteArray) : tx (a ++ b) = tx a ++ tx b := by simp [tx]
theorem st_add (l m : Txt) : Abs.v (.string ((ByteArray.mk l.toArray) ++ (ByteArray.mk m.toArray))) = stA (l ++ m) :=
  congrArg (fun s => Abs.v (.string s)) (tx_inj (by rw [tx_add, tx_mk, tx_mk, tx_mk]))
theorem tx_cut (s : ByteArray) (q q' : Nat) : tx (s.extract q q') = ((tx s).take q').drop q := by
  unfold tx
  rw [ByteArray.data_extract, Array.toList_extract]
  rw [List.extract_eq_take_drop]
  rw [List.take_drop]
  rcases Nat.lt_or_ge q' q with h | h
  · rw [show q' - q = 0 by omega, Nat.add_zero, List.drop_of_length_le (by rw [List.length_take]; omega), List.drop_of_length_le (by rw [List.length_take]; omega)]
  · rw [show q + (q' - q) = q' by omega]
theorem small_one {s : ByteArray} {i : Nat} (h : (List.range 10).all (fun i => decide (((tx s).take (i + 1)).drop i = digT i)) = true) (hi : i < 10) : Abs.v (.string (s.extract i (i + 1))) = stA (digT i) :=
  congrArg (fun s => Abs.v (.string s)) (tx_inj (by rw [tx_cut, tx_mk]; exact of_decide_eq_true (List.all_eq_true.1 h i (List.mem_range.2 hi))))
theorem small_two {s : ByteArray} {i : Nat} (h : (List.range 100).all (fun i => decide (i < 10 ∨ ((tx s).take (i * 2 + 2)).drop (i * 2) = digT i)) = true) (hi : i < 100) (h10 : ¬ i < 10) : Abs.v (.string (s.extract (i * 2) (i * 2 + 2))) = stA (digT i) :=
  congrArg (fun s => Abs.v (.string s)) (tx_inj (by
    rw [tx_cut, tx_mk]
    rcases of_decide_eq_true (List.all_eq_true.1 h i (List.mem_range.2 hi)) with h1 | h1
    · exact absurd h1 h10
    · exact h1))
section
variable {l r wd : Txt} {i : Nat} {v : Value} {n o a : Int} {ks : List Frm} {f : Frm}
theorem small_s (h9 : i < 100) : Spec Tryd.prog 63 [int (i : Nat)] [] (fun _ : Unit => []) (fun _ => stA (digT i)) := by
  refine spec_of Tryd.func63 rfl Tryd.ntmps63 rfl fun G w => ?_
  refine SC.seq (SC.region ?_)
  refine SL.val (Val.assign rfl) rfl rfl ?_
  refine SL.nil (SE.seq ?_)
  refine SC.seq ?_
  refine SC.seq (SC.region ?_)
  refine SL.val (Val.move rfl) rfl rfl ?_
  refine SL.val (Val.ltI rfl rfl) rfl rfl ?_
  refine SL.nil (SE.seq ?_)
  refine SC.condP rfl ?_ ?_
  · intro hc4
    refine SC.seq (SC.region ?_)
    refine SL.val (Val.move rfl) rfl rfl ?_
    refine SL.val (Val.move rfl) rfl rfl ?_
    first
      | refine SL.val (Val.addI rfl rfl (by simp only [InR, lo, hi]; omega)) rfl rfl ?_
      | refine SL.val (Val.addW rfl rfl) rfl rfl ?_
    refine SL.val (Val.to (C := stA (digT i)) (Val.sliceStAt (q := i) (q' := i + 1) Tryd.underlying9 rfl rfl rfl rfl (by omega) (by omega) (by show _ ≤ 36; omega)) (small_one (by kernel_rfl) (by omega))) rfl rfl ?_
    refine SL.val (Val.assign rfl) rfl rfl ?_
    refine SL.nil (SE.seq ?_)
    refine SC.ret ?_
    refine SE.then_ (by intro h; cases h) ?_
    refine SE.fin (rs := [.tmp 2]) rfl (RV.tmp rfl RV.nil) (()) (by repeat first|exact s0 _|exact s1 _|apply s2|apply s3) (by simp [It.rids]) ?_
    exact rfl
  intro hc4
  refine SC.skip ?_
  refine SE.seq ?_
  refine SC.seq (SC.region ?_)
  refine SL.val (Val.move rfl) rfl rfl ?_
  first
    | refine SL.val (Val.mulI rfl rfl (by simp only [InR, lo, hi]; omega)) rfl rfl ?_
    | refine SL.val (Val.mulW rfl rfl) rfl rfl ?_
  refine SL.val (Val.move rfl) rfl rfl ?_
  first
    | refine SL.val (Val.mulI rfl rfl (by simp only [InR, lo, hi]; omega)) rfl rfl ?_
    | refine SL.val (Val.mulW rfl rfl) rfl rfl ?_
  first
    | refine SL.val (Val.addI rfl rfl (by simp only [InR, lo, hi]; omega)) rfl rfl ?_
    | refine SL.val (Val.addW rfl rfl) rfl rfl ?_
  refine SL.val (Val.to (C := stA (digT i)) (Val.sliceStAt (q := i * 2) (q' := i * 2 + 2) Tryd.underlying9 rfl rfl rfl (by omega) (by omega) (by omega) (by show _ ≤ 200; omega)) (small_two (by kernel_rfl) h9 (by omega))) rfl rfl ?_
  refine SL.val (Val.assign rfl) rfl rfl ?_
  refine SL.nil (SE.seq ?_)
  refine SC.ret ?_
  refine SE.fin (rs := [.tmp 2]) rfl (RV.tmp rfl RV.nil) (()) (by repeat first|exact s0 _|exact s1 _|apply s2|apply s3) (by simp [It.rids]) ?_
  exact rfl
theorem appu_s (h9 : i < 100) (hr : r.length ≤ 1000000) : Spec Tryd.prog 53 [.v v, .v (.int .u64 (i : Nat)), int 10] [own 5 1 v (bs (r))] (fun z : Value => [own 5 1 z (bs (r ++ digT i))]) (fun z => .v z) := by
  have hdl := digT_len i
  refine spec_of Tryd.func53 rfl Tryd.ntmps53 rfl fun G w => ?_
  refine SC.seq (SC.region ?_)
  refine SL.val (Val.assign rfl) rfl rfl ?_
  refine SL.nil (SE.seq ?_)
  refine SC.seq ?_
  refine SC.seq (SC.region ?_)
  refine SL.val (Val.move rfl) rfl rfl ?_
  refine SL.val (Val.eqI rfl rfl) rfl rfl ?_
  refine SL.nil (SE.seq ?_)
  refine SC.condP rfl ?_ (by intro hc10; exfalso; omega)
  intro hc10
  refine SC.seq ?_
  refine SC.seq (SC.region ?_)
  refine SL.val (Val.move rfl) rfl rfl ?_
  refine SL.val (Val.ltI rfl rfl) rfl rfl ?_
  refine SL.nil (SE.seq ?_)
  refine SC.condP rfl ?_ (by intro hc12; exfalso; omega)
  intro hc12
  refine SC.seq (SC.region ?_)
  refine SL.val (Val.move rfl) rfl rfl ?_
  refine SL.val (Val.move rfl) rfl rfl ?_
  first
    | refine SL.val (Val.convI rfl Tryd.underlying3 (by kernel_rfl) (by simp only [InR, lo, hi]; omega)) rfl rfl ?_
    | refine SL.val (Val.convW rfl Tryd.underlying3 (by kernel_rfl)) rfl rfl ?_
  refine SL.call (small_s (i := i) h9) Casts.refl (by kernel_rfl) rfl rfl rfl ?_
  refine After.pure (by repeat first|exact .nil|refine .blk (by repeat first|assumption|exact m0|apply m1) ?_|refine .rd (by repeat first|assumption|exact m0|apply m1) ?_|refine .pc (by repeat first|assumption|exact m0|apply m1) ?_|refine .rdpc (by repeat first|assumption|exact m0|apply m1) ?_) (fun _ => rfl) ?_
  intro _
  refine SL.eff (Eff.appendSt (m := digT i) (r := r) [] Tryd.underlying36 Tryd.underlying9 info_u8 rfl rfl rfl (by omega)) rfl rfl ?_
  rintro _ _ ⟨r17, rfl, rfl⟩
  refine SL.val (Val.assign rfl) rfl rfl ?_
  refine SL.nil (SE.seq ?_)
  refine SC.ret ?_
  refine SE.then_ (by intro h; cases h) ?_
  refine SE.then_ (by intro h; cases h) ?_
  refine SE.fin (rs := [.tmp 6]) rfl (RV.tmp rfl RV.nil) (r17) (by repeat first|exact s0 _|exact s1 _|apply s2|apply s3) (by simp [It.rids]) ?_
  exact rfl
theorem appi0_s (h9 : i < 100) (hr : r.length ≤ 1000000) : Spec Tryd.prog 44 [.v v, .v (.int .i64 (i : Nat)), int 10] [own 5 1 v (bs (r))] (fun z : Value => [own 5 1 z (bs (r ++ digT i))]) (fun z => .v z) := by
  refine spec_of Tryd.func44 rfl Tryd.ntmps44 rfl fun G w => ?_
  refine SC.seq (SC.region ?_)
  refine SL.val (Val.assign rfl) rfl rfl ?_
  refine SL.nil (SE.seq ?_)
  refine SC.seq (SC.region ?_)
  refine SL.val (Val.move rfl) rfl rfl ?_
  first
    | refine SL.val (Val.convI rfl Tryd.underlying82 (by kernel_rfl) (by simp only [InR, lo, hi]; omega)) rfl rfl ?_
    | refine SL.val (Val.convU rfl Tryd.underlying82 (by kernel_rfl)) rfl rfl ?_
  refine SL.val (Val.assign rfl) rfl rfl ?_
  refine SL.nil (SE.seq ?_)
  refine SC.seq ?_
  refine SC.seq (SC.region ?_)
  refine SL.val (Val.move rfl) rfl rfl ?_
  refine SL.val (Val.ltI rfl rfl) rfl rfl ?_
  refine SL.nil (SE.seq ?_)
  refine SC.condP rfl (by intro hc11; exfalso; omega) ?_
  intro hc11
  refine SC.skip ?_
  refine SE.seq ?_
  refine SC.seq (SC.region ?_)
  refine SL.val (Val.move rfl) rfl rfl ?_
  refine SL.val (Val.move rfl) rfl rfl ?_
  refine SL.val (Val.move rfl) rfl rfl ?_
  refine SL.call (appu_s (v := v) (r := r) (i := i) h9 hr) Casts.refl (by kernel_rfl) rfl rfl rfl ?_
  refine After.mid [] (β := []) rfl (by intro x hx; simp only [List.mem_cons, List.not_mem_nil, or_false] at hx; rcases hx with rfl; rfl) ?_
  intro r20
  refine SL.val (Val.assign rfl) rfl rfl ?_
  refine SL.nil (SE.seq ?_)
  refine SC.ret ?_
  refine SE.fin (rs := [.tmp 6]) rfl (RV.tmp rfl RV.nil) (r20) (by repeat first|exact s0 _|exact s1 _|apply s2|apply s3) (by simp [It.rids]) ?_
  exact rfl
theorem appi_s (h9 : i < 100) (hr : r.length ≤ 1000000) : Spec Tryd.prog 33 [.v v, .v (.int .i64 (i : Nat)), int 10] [own 5 1 v (bs (r))] (fun z : Value => [own 5 1 z (bs (r ++ digT i))]) (fun z => .v z) := by
  refine spec_of Tryd.func33 rfl Tryd.ntmps33 rfl fun G w => ?_
  refine SC.seq (SC.region ?_)
  refine SL.val (Val.assign rfl) rfl rfl ?_
  refine SL.nil (SE.seq ?_)
  refine SC.seq (SC.region ?_)
  refine SL.val (Val.move rfl) rfl rfl ?_
  refine SL.val (Val.move rfl) rfl rfl ?_
  refine SL.val (Val.move rfl) rfl rfl ?_
  refine SL.call (appi0_s (v := v) (r := r) (i := i) h9 hr) Casts.refl (by kernel_rfl) rfl rfl rfl ?_
  refine After.mid [] (β := []) rfl (by intro x hx; simp only [List.mem_cons, List.not_mem_nil, or_false] at hx; rcases hx with rfl; rfl) ?_
  intro r10
  refine SL.val (Val.assign rfl) rfl rfl ?_
  refine SL.nil (SE.seq ?_)
  refine SC.ret ?_
  refine SE.fin (rs := [.tmp 6]) rfl (RV.tmp rfl RV.nil) (r10) (by repeat first|exact s0 _|exact s1 _|apply s2|apply s3) (by simp [It.rids]) ?_
  exact rfl
set_option maxHeartbeats 4000000 in
theorem write_step (ih : ∀ k ∈ ks, ∀ (v : Value) (r : Txt), k.nodes ≤ 32 → k.ranges 7 = true → r.length + 8 * k.nodes ≤ 100000 → Spec Tryd.prog 19 [.v v, .agg k.abs] [own 5 1 v (bs (r))] (fun z : Value => [own 5 1 z (bs (r ++ k.text))]) (fun z => .v z)) (hn : (Frm.mk o a ks).nodes ≤ 32) (hrg : (Frm.mk o a ks).ranges 7 = true) (hr : r.length + 8 * (Frm.mk o a ks).nodes ≤ 100000) : Spec Tryd.prog 19 [.v v, .agg (Frm.mk o a ks).abs] [own 5 1 v (bs (r))] (fun z : Value => [own 5 1 z (bs (r ++ (Frm.mk o a ks).text))]) (fun z => .v z) := by
  rw [Frm.abs_mk]
  have hkr := Frm.kids_range hrg
  have hlen := Frm.length_le ks
  rw [Frm.nodes_mk] at hn hr
  have hhl := headT_len a ks.length
  refine spec_of Tryd.func19 rfl Tryd.ntmps19 rfl fun G w => ?_
  refine SC.seq (SC.region ?_)
  refine SL.eff (Eff.boxA (cs := [int o, int a, .sl 3 (ks.map Frm.abs)]) rfl) rfl rfl ?_
  rintro _ _ ⟨b3, rfl, rfl⟩
  refine SL.perm (List.Perm.swap _ _ _) ?_
  refine SL.val (Val.assign rfl) rfl rfl ?_
  refine SL.nil (SE.seq ?_)
  refine SC.cutS (ι := Value) (fun z => [own 5 1 z (bs (r ++ headT a ks.length)), .blk b3 25 [int o, int a, .sl 3 (ks.map Frm.abs)]]) (fun z => [(0, .v z), (3, ptr b3)]) (fun z => ks ≠ []) ?_ ?_
  · skip
    refine SC.seq (SC.region ?_)
    refine SL.val (Val.fieldAddr tabOk rfl rfl rfl rfl rfl) rfl rfl ?_
    refine SL.val (Val.load1 tabOk rfl rfl (by first|(apply Or.inl;(repeat first|assumption|exact m0|apply m1);done)|(apply Or.inr;(repeat first|assumption|exact m0|apply m1);done)) List.not_mem_nil (by rfl)) rfl rfl ?_
    first
      | refine SL.val (Val.lenSl rfl Tryd.underlying23 (List.length_map _)) rfl rfl ?_
      | refine SL.val (Val.lenOwn rfl (by repeat first|assumption|exact m0|apply m1) Tryd.underlying23 (List.length_map _)) rfl rfl ?_
      | refine SL.val (Val.lenNil rfl Tryd.underlying23) rfl rfl ?_
    refine SL.val (Val.assign rfl) rfl rfl ?_
    refine SL.nil (SE.seq ?_)
    refine SC.block ?_
    refine SC.seq (SC.region ?_)
    refine SL.val (Val.move rfl) rfl rfl ?_
    refine SL.val (Val.eqI rfl rfl) rfl rfl ?_
    refine SL.val (Val.assign rfl) rfl rfl ?_
    refine SL.nil (SE.seq ?_)
    refine SC.condP rfl ?_ ?_
    · intro hc17
      have hk0 : ks = [] := List.eq_nil_of_length_eq_zero (by omega)
      subst hk0
      have hro := hrg
      rw [Frm.ranges_leaf, decide_eq_true_iff] at hro
      obtain ⟨m, rfl⟩ : ∃ m : Nat, o = (m : Nat) := ⟨o.toNat, by omega⟩
      refine SC.seq (SC.region ?_)
      refine SL.val (Val.move rfl) rfl rfl ?_
      refine SL.val (Val.fieldAddr tabOk rfl rfl rfl rfl rfl) rfl rfl ?_
      refine SL.val (Val.load1 tabOk rfl rfl (by first|(apply Or.inl;(repeat first|assumption|exact m0|apply m1);done)|(apply Or.inr;(repeat first|assumption|exact m0|apply m1);done)) List.not_mem_nil (by rfl)) rfl rfl ?_
      refine SL.call (appi_s (v := v) (r := r) (i := m) (by omega) (by omega)) Casts.refl (by kernel_rfl) rfl rfl rfl ?_
      refine After.mid [] (β := [_]) rfl (by intro x hx; simp only [List.mem_cons, List.not_mem_nil, or_false] at hx; rcases hx with rfl; rfl) ?_
      intro r23
      refine SL.val (Val.assign rfl) rfl rfl ?_
      refine SL.nil (SE.seq ?_)
      refine SC.ret ?_
      refine SE.ret ?_
      refine SE.then_ (by intro h; cases h) ?_
      refine SE.fin (rs := [.tmp 4]) rfl (RV.tmp rfl RV.nil) (r23) (by rw [Frm.text_leaf]; exact List.Sublist.cons_cons _ (List.nil_sublist _)) (by simp [It.rids]) ?_
      exact rfl
    intro hc17
    have hk0 : ks ≠ [] := by rintro rfl; simp at hc17
    have hro := hrg
    rw [Frm.ranges_node 7 o a hk0, Bool.and_eq_true, decide_eq_true_iff] at hro
    obtain ⟨m, rfl⟩ : ∃ m : Nat, a = (m : Nat) := ⟨a.toNat, by omega⟩
    refine SC.seq (SC.region ?_)
    refine SL.val (Val.fieldAddr tabOk rfl rfl rfl rfl rfl) rfl rfl ?_
    refine SL.val (Val.load1 tabOk rfl rfl (by first|(apply Or.inl;(repeat first|assumption|exact m0|apply m1);done)|(apply Or.inr;(repeat first|assumption|exact m0|apply m1);done)) List.not_mem_nil (by rfl)) rfl rfl ?_
    refine SL.val (Val.move rfl) rfl rfl ?_
    refine SL.val (Val.eqI rfl rfl) rfl rfl ?_
    refine SL.val (Val.assign rfl) rfl rfl ?_
    refine SL.nil (SE.seq ?_)
    refine SC.condP rfl ?_ ?_
    · intro hc24
      refine SC.region ?_
      refine SL.val (Val.move rfl) rfl rfl ?_
      refine SL.eff (Eff.appendSt (m := [97, 108, 108]) (r := r) [] Tryd.underlying36 Tryd.underlying9 info_u8 rfl rfl rfl (by simp only [List.length_cons, List.length_nil]; omega)) rfl rfl ?_
      rintro _ _ ⟨r30, rfl, rfl⟩
      refine SL.val (Val.assign rfl) rfl rfl ?_
      refine SL.nil ?_
      refine SE.inBlock ?_
      refine SE.meet (r30) (hk0) (by exact ⟨rfl, rfl, trivial⟩) (by rw [show headT (m : Nat) ks.length = [97, 108, 108] from if_pos hc24]; exact List.Sublist.refl _)
    intro hc24
    refine SC.seq (SC.region ?_)
    refine SL.val (Val.fieldAddr tabOk rfl rfl rfl rfl rfl) rfl rfl ?_
    refine SL.val (Val.load1 tabOk rfl rfl (by first|(apply Or.inl;(repeat first|assumption|exact m0|apply m1);done)|(apply Or.inr;(repeat first|assumption|exact m0|apply m1);done)) List.not_mem_nil (by rfl)) rfl rfl ?_
    refine SL.val (Val.eqI rfl rfl) rfl rfl ?_
    refine SL.val (Val.assign rfl) rfl rfl ?_
    refine SL.nil (SE.seq ?_)
    refine SC.condP rfl ?_ ?_
    · intro hc31
      refine SC.region ?_
      refine SL.val (Val.move rfl) rfl rfl ?_
      refine SL.eff (Eff.appendSt (m := [97, 110, 121]) (r := r) [] Tryd.underlying36 Tryd.underlying9 info_u8 rfl rfl rfl (by simp only [List.length_cons, List.length_nil]; omega)) rfl rfl ?_
      rintro _ _ ⟨r36, rfl, rfl⟩
      refine SL.val (Val.assign rfl) rfl rfl ?_
      refine SL.nil ?_
      refine SE.inBlock ?_
      refine SE.meet (r36) (hk0) (by exact ⟨rfl, rfl, trivial⟩) (by rw [show headT (m : Nat) ks.length = [97, 110, 121] from (if_neg hc24).trans (if_pos hc31)]; exact List.Sublist.refl _)
    intro hc31
    refine SC.region ?_
    refine SL.val (Val.move rfl) rfl rfl ?_
    refine SL.val (Val.fieldAddr tabOk rfl rfl rfl rfl rfl) rfl rfl ?_
    refine SL.val (Val.load1 tabOk rfl rfl (by first|(apply Or.inl;(repeat first|assumption|exact m0|apply m1);done)|(apply Or.inr;(repeat first|assumption|exact m0|apply m1);done)) List.not_mem_nil (by rfl)) rfl rfl ?_
    refine SL.call (appi_s (v := v) (r := r) (i := m) (by omega) (by omega)) Casts.refl (by kernel_rfl) rfl rfl rfl ?_
    refine After.mid [] (β := [_]) rfl (by intro x hx; simp only [List.mem_cons, List.not_mem_nil, or_false] at hx; rcases hx with rfl; rfl) ?_
    intro r15
    refine SL.eff (Eff.appendSt (m := [111, 102]) (r := r ++ digT m) [] Tryd.underlying36 Tryd.underlying9 info_u8 rfl rfl rfl (by have := digT_len m; simp only [List.length_append, List.length_cons, List.length_nil]; omega)) rfl rfl ?_
    rintro _ _ ⟨r16, rfl, rfl⟩
    refine SL.val (Val.assign rfl) rfl rfl ?_
    refine SL.nil ?_
    refine SE.inBlock ?_
    refine SE.meet (r16) (hk0) (by exact ⟨rfl, rfl, trivial⟩) (by rw [show headT (m : Nat) ks.length = digT m ++ [111, 102] from (if_neg hc24).trans (if_neg hc31), ← List.append_assoc]; exact List.Sublist.refl _)
  · intro z hz
    have hk0 : ks ≠ [] := hz
    refine SC.seq (SC.region ?_)
    refine SL.val (Val.assign rfl) rfl rfl ?_
    refine SL.nil (SE.seq ?_)
    refine SC.seq ?_
    refine SC.seq (SC.region ?_)
    refine SL.val (Val.fieldAddr tabOk rfl rfl rfl rfl rfl) rfl rfl ?_
    refine SL.val (Val.load1 tabOk rfl rfl (by first|(apply Or.inl;(repeat first|assumption|exact m0|apply m1);done)|(apply Or.inr;(repeat first|assumption|exact m0|apply m1);done)) List.not_mem_nil (by rfl)) rfl rfl ?_
    first
      | refine SL.val (Val.lenSl rfl Tryd.underlying23 (List.length_map _)) rfl rfl ?_
      | refine SL.val (Val.lenOwn rfl (by repeat first|assumption|exact m0|apply m1) Tryd.underlying23 (List.length_map _)) rfl rfl ?_
      | refine SL.val (Val.lenNil rfl Tryd.underlying23) rfl rfl ?_
    refine SL.val (Val.move rfl) rfl rfl ?_
    refine SL.nil (SE.seq ?_)
    refine SC.block ?_
    refine SC.loop (ι := Nat × Value) (fun z => [own 5 1 z.2 (bs (r ++ headT a ks.length ++ rowZ ks z.1)), .blk b3 25 [int o, int a, .sl 3 (ks.map Frm.abs)]]) (fun z => [(0, .v z.2), (3, ptr b3), (6, .v (.int .u8 ((sepT z.1).toNat : Nat))), (38, .sl 3 (ks.map Frm.abs)), (39, int (ks.length : Nat)), (40, int (z.1 : Nat))]) (fun z => z.1 ≤ ks.length) (fun z => ks.length - z.1) (0, z) (Nat.zero_le _) (by exact ⟨rfl, rfl, rfl, rfl, rfl, rfl, trivial⟩) (by rw [show rowZ ks 0 = [] from rfl, List.append_nil]; exact List.Sublist.refl _) ?_
    intro z hz
    refine SC.seq (SC.region ?_)
    refine SL.val (Val.ltI rfl rfl) rfl rfl ?_
    refine SL.nil (SE.seq ?_)
    refine SC.seq ?_
    refine SC.condP rfl ?_ ?_
    rotate_left
    · intro hc41
      have hz2 : z.1 = ks.length := by omega
      have hrl := rowZ_len ks z.1
      have htl := Frm.take_nodes (ks := ks) z.1
      refine SC.exit ?_
      refine SE.then_ (by intro h; cases h) ?_
      refine SE.then_ (by intro h; cases h) ?_
      refine SE.exit ?_
      refine SE.seq ?_
      refine SC.seq (SC.region ?_)
      refine SL.val (Val.move rfl) rfl rfl ?_
      refine SL.eff (Eff.buildSl tabOk Tryd.underlying36 rfl rfl rfl rfl rfl rfl rfl) rfl rfl ?_
      rintro _ _ ⟨rfl, rfl⟩
      refine SL.eff (Eff.appendE (zs := bs (r ++ headT a ks.length ++ rowZ ks z.1 ++ [41])) tabOk [] (by rw [show bs (r ++ headT a ks.length ++ rowZ ks z.1 ++ [41]) = bs (r ++ headT a ks.length ++ rowZ ks z.1) ++ bs [41] from List.map_append]; rfl) Tryd.underlying36 rfl rfl rfl rfl rfl rfl (by intro c hc; rw [List.mem_singleton] at hc; subst hc; rfl) (by unfold maxLen; simp only [bs, List.length_map, List.length_append, List.length_cons, List.length_nil]; omega) (by rw [show Tryd.prog.bytesOf 5 = 1 by kernel_rfl]; simp only [bs, List.length_map, List.length_append, List.length_cons, List.length_nil]; omega)) rfl rfl ?_
      rintro _ _ ⟨r53, rfl, rfl⟩
      refine SL.val (Val.assign rfl) rfl rfl ?_
      refine SL.nil (SE.seq ?_)
      refine SC.ret ?_
      refine SE.fin (rs := [.tmp 4]) rfl (RV.tmp rfl RV.nil) (r53) (by rw [show r ++ (Frm.mk o a ks).text = r ++ headT a ks.length ++ rowZ ks z.1 ++ [41] by rw [Frm.text_node o _ hk0, hz2, rowZ_all hk0]; simp only [List.append_assoc]]; exact List.Sublist.cons_cons _ (List.nil_sublist _)) (by simp [It.rids]) ?_
      exact rfl
    intro hc41
    have hlt : z.1 < ks.length := by omega
    have hkz := Frm.nodes_mem (List.getElem_mem hlt)
    have htn := Frm.take_nodes1 hlt
    have htl := Frm.take_nodes (ks := ks) (z.1 + 1)
    have hrl := rowZ_len ks z.1
    refine SC.skip ?_
    refine SE.seq ?_
    refine SC.seq ?_
    refine SC.block ?_
    refine SC.seq (SC.region ?_)
    refine SL.val (Val.indexSl tabOk Tryd.underlying23 rfl rfl rfl rfl (at_map (by omega)) rfl rfl) rfl rfl ?_
    refine SL.val (Val.loadAR tabOk rfl rfl rfl (Frm.abs_len _)) rfl rfl ?_
    refine SL.eff (Eff.alloc tabOk rfl) rfl rfl ?_
    rintro _ _ ⟨b8, rfl, rfl⟩
    refine SL.eff (Eff.store (L' := (ks[z.1]'hlt).abs) tabOk rfl rfl rfl (by repeat first|assumption|exact Upd.here|apply Upd.there) (by exact Frm.abs_len _) (Nat.le_of_ble_eq_true (by rfl)) (by exact Frm.abs_ones _) (putL_whole (by exact Frm.abs_len _))) rfl rfl ?_
    rintro _ _ ⟨rfl, rfl⟩
    refine SL.nil (SE.seq ?_)
    refine SC.seq ?_
    refine SC.perm (List.Perm.swap _ _ _) ?_
    refine SC.known (p := b8 ∉ (mids [own 5 1 z.2 (bs (r ++ headT a ks.length ++ rowZ ks z.1))] ++ [])) (fun _ _ h => by
        have h1 := h.mem.nodup
        simp [mids, It.mids, ownPc] at h1 ⊢
        grind) fun hX => ?_
    refine SC.draw (mids [own 5 1 z.2 (bs (r ++ headT a ks.length ++ rowZ ks z.1))] ++ []) (.q 0 (.q 1 (.q 4 (.e 2 (.e 3 (.e 5 (.q 6 .nil))))))) (by kernel_rfl) (by kernel_rfl) ?_
    refine SX.hx (by first|(simp[mids,It.mids,ownPc];done)|(intro k hk;simp[mids,It.mids,ownPc] at hk ⊢;grind)) fun hx9 => ?_
    refine SX.val rfl (Val.move rfl) hx9 rfl rfl ?_
    refine SX.val rfl (Val.move rfl) hx9 rfl rfl ?_
    refine SX.val rfl (Val.loadA tabOk rfl rfl rfl (by first|(apply Or.inl;(repeat first|assumption|exact m0|apply m1);done)|(apply Or.inr;(repeat first|assumption|exact m0|apply m1);done)) hX (Frm.abs_len _)) hx9 rfl rfl ?_
    refine SX.eff rfl (Eff.buildSl tabOk Tryd.underlying36 rfl rfl rfl rfl rfl rfl rfl) (by simp) rfl rfl ?_
    rintro _ _ ⟨rfl, rfl⟩
    refine SX.effN [own 5 1 z.2 (bs (r ++ headT a ks.length ++ rowZ ks z.1))] [] rfl (Eff.appendE (zs := bs (r ++ headT a ks.length ++ rowZ ks z.1 ++ [sepT z.1])) tabOk [] (by rw [show bs (r ++ headT a ks.length ++ rowZ ks z.1 ++ [sepT z.1]) = bs (r ++ headT a ks.length ++ rowZ ks z.1) ++ bs [sepT z.1] from List.map_append]; rfl) Tryd.underlying36 rfl rfl rfl rfl rfl rfl (by intro c hc; rw [List.mem_singleton] at hc; subst hc; rfl) (by unfold maxLen; simp only [bs, List.length_map, List.length_append, List.length_cons, List.length_nil]; omega) (by rw [show Tryd.prog.bytesOf 5 = 1 by kernel_rfl]; simp only [bs, List.length_map, List.length_append, List.length_cons, List.length_nil]; omega)) rfl (by first | exact own_mid List.mem_cons_self | (simp; done) | (intro k hk; simp [mids, It.mids, ownPc] at hk ⊢; exact hk)) rfl rfl ?_
    rintro _ _ ⟨r47, rfl, rfl⟩
    refine ⟨[own 5 1 r47 (bs (r ++ headT a ks.length ++ rowZ ks z.1 ++ [sepT z.1]))], rfl, ?_⟩
    refine SX.callX ([]) rfl (ih (ks[z.1]'hlt) (List.getElem_mem hlt) r47 (r ++ headT a ks.length ++ rowZ ks z.1 ++ [sepT z.1]) (by omega) (hkr _ (List.getElem_mem hlt)) (by simp only [List.length_append, List.length_cons, List.length_nil]; omega)) (by simp [mids, It.mids, ownPc]) (by simp) Casts.refl (by kernel_rfl) rfl rfl rfl ?_
    refine After.mid [] (β := [_, _]) rfl (by intro x hx; simp only [List.mem_cons, List.not_mem_nil, or_false] at hx; rcases hx with rfl; rfl) ?_
    intro z49
    refine SX.val rfl (Val.assign rfl) (by simp) rfl rfl ?_
    refine SX.nil (SE.seq ?_)
    refine SC.region ?_
    refine SL.val (Val.assign rfl) rfl rfl ?_
    refine SL.nil ?_
    refine SE.inBlock ?_
    refine SE.seq ?_
    refine SC.region ?_
    first
      | refine SL.val (Val.addI rfl rfl (by simp only [InR, lo, hi]; omega)) rfl rfl ?_
      | refine SL.val (Val.addW rfl rfl) rfl rfl ?_
    refine SL.val (Val.move rfl) rfl rfl ?_
    refine SL.nil ?_
    refine SE.round (z.1 + 1, z49) (by first | omega | (dsimp only; omega)) (by first | omega | (dsimp only; omega)) (by exact ⟨rfl, rfl, congrArg (fun k : UInt8 => some (Abs.v (.int .u8 (k.toNat : Nat)))) (show (44 : UInt8) = sepT (z.1 + 1) from (if_neg (by omega)).symm), rfl, rfl, rfl, trivial⟩) (by rw [rowZ_next hlt]; simp only [List.append_assoc]; repeat (first | exact List.nil_sublist _ | exact List.Sublist.refl _ | apply List.Sublist.cons_cons | apply List.Sublist.cons))
theorem write_s (f : Frm) : ∀ (v : Value) (r : Txt), f.nodes ≤ 32 → f.ranges 7 = true → r.length + 8 * f.nodes ≤ 100000 → Spec Tryd.prog 19 [.v v, .agg f.abs] [own 5 1 v (bs (r))] (fun z : Value => [own 5 1 z (bs (r ++ f.text))]) (fun z => .v z) := Frm.ind (p := fun f => ∀ (v : Value) (r : Txt), f.nodes ≤ 32 → f.ranges 7 = true → r.length + 8 * f.nodes ≤ 100000 → Spec Tryd.prog 19 [.v v, .agg f.abs] [own 5 1 v (bs (r))] (fun z : Value => [own 5 1 z (bs (r ++ f.text))]) (fun z => .v z)) (fun o a ks ih v r hn hrg hr => write_step ih hn hrg hr) f
end
end Go.Proofs.YthaahcdfnmfihaaDoor.A
/-
  Policies' texts: Print, the document's, and whether policies are alike.
-/
set_option maxRecDepth 100000
set_option linter.unusedSimpArgs false
set_option linter.unusedVariables false
namespace Go.Proofs.YthaahcdfnmfihaaDoor.A
open Go.RowKit

section
variable {l r wd : Txt} {i : Nat} {n o a : Int} {ks : List Frm} {f : Frm} {es er : Value}
theorem print_s (hn : f.nodes ≤ 1099511627000) : Spec Tryd.prog 11 [.agg f.abs] [] (fun _ : Unit => []) (fun _ => stA (printF f)) := by
  refine spec_of Tryd.func11 rfl Tryd.ntmps11 rfl fun G w => ?_
  refine SC.seq (SC.region ?_)
  refine SL.eff (Eff.boxA (cs := f.abs) rfl) rfl rfl ?_
  rintro _ _ ⟨b1, rfl, rfl⟩
  refine SL.val (Val.assign rfl) rfl rfl ?_
  refine SL.nil (SE.seq ?_)
  refine SC.seq ?_
  refine SC.seq (SC.region ?_)
  refine SL.val (Val.loadA tabOk rfl rfl rfl (by first|(apply Or.inl;(repeat first|assumption|exact m0|apply m1);done)|(apply Or.inr;(repeat first|assumption|exact m0|apply m1);done)) List.not_mem_nil (Frm.abs_len _)) rfl rfl ?_
  refine SL.call (fcheck_s (f := f) (n := 7) hn) Casts.refl (by kernel_rfl) rfl rfl rfl ?_
  refine After.pure (by repeat first|exact .nil|refine .blk (by repeat first|assumption|exact m0|apply m1) ?_|refine .rd (by repeat first|assumption|exact m0|apply m1) ?_|refine .pc (by repeat first|assumption|exact m0|apply m1) ?_|refine .rdpc (by repeat first|assumption|exact m0|apply m1) ?_) (fun _ => rfl) ?_
  intro _
  refine SL.val (Val.neI rfl rfl) rfl rfl ?_
  refine SL.nil (SE.seq ?_)
  refine SC.condP rfl ?_ ?_
  · intro hc5
    refine SC.seq (SC.region ?_)
    refine SL.val (Val.assign rfl) rfl rfl ?_
    refine SL.nil (SE.seq ?_)
    refine SC.ret ?_
    refine SE.then_ (by intro h; cases h) ?_
    refine SE.fin (rs := [.tmp 2]) rfl (RV.tmp rfl RV.nil) (()) (by repeat first|exact s0 _|exact s1 _|apply s2|apply s3) (by simp [It.rids]) ?_
    rw [show printF f = [] from if_neg hc5]
    rfl
  intro hc5
  refine SC.skip ?_
  refine SE.seq ?_
  refine SC.seq (SC.region ?_)
  refine SL.val (Val.loadA tabOk rfl rfl rfl (by first|(apply Or.inl;(repeat first|assumption|exact m0|apply m1);done)|(apply Or.inr;(repeat first|assumption|exact m0|apply m1);done)) List.not_mem_nil (Frm.abs_len _)) rfl rfl ?_
  refine SL.own0 5 1 ?_
  have hck := Frm.check_ok.1 (Classical.byContradiction hc5)
  refine SL.call (write_s f (.slice none 0 0) [] (by omega) hck.2.2.2 (by simp only [List.length_nil]; omega)) Casts.refl (by kernel_rfl) rfl rfl rfl ?_
  refine After.mid [] (β := [_]) rfl (by intro x hx; simp only [List.mem_cons, List.not_mem_nil, or_false] at hx; rcases hx with rfl; rfl) ?_
  intro z7
  refine SL.freeze [] (t := 7) rfl rfl ?_
  refine SL.val (Val.strOf (m := [] ++ f.text) rfl) rfl rfl ?_
  refine SL.val (Val.assign rfl) rfl rfl ?_
  refine SL.nil (SE.seq ?_)
  refine SC.ret ?_
  refine SE.fin (rs := [.tmp 2]) rfl (RV.tmp rfl RV.nil) (()) (by repeat first|exact s0 _|exact s1 _|apply s2|apply s3) (by simp [It.rids]) ?_
  rw [show printF f = f.text from if_pos (Classical.byContradiction hc5)]
  rfl
set_option maxHeartbeats 1000000 in
theorem same_step (ih : ∀ k ∈ ks, k.nodes ≤ 1099511627776 → Spec Tryd.prog 9 [.agg k.abs, .agg k.abs] [] (fun _ : Unit => []) (fun _ => boo true)) (hn : (Frm.mk o a ks).nodes ≤ 1099511627776) : Spec Tryd.prog 9 [.agg (Frm.mk o a ks).abs, .agg (Frm.mk o a ks).abs] [] (fun _ : Unit => []) (fun _ => boo true) := by
  rw [Frm.abs_mk]
  have hlen := Frm.length_le ks
  rw [Frm.nodes_mk] at hn
  refine spec_of Tryd.func9 rfl Tryd.ntmps9 rfl fun G w => ?_
  refine SC.seq (SC.region ?_)
  refine SL.eff (Eff.boxA (cs := [int o, int a, .sl 3 (ks.map Frm.abs)]) rfl) rfl rfl ?_
  rintro _ _ ⟨b2, rfl, rfl⟩
  refine SL.eff (Eff.boxA (cs := [int o, int a, .sl 3 (ks.map Frm.abs)]) rfl) rfl rfl ?_
  rintro _ _ ⟨b3, rfl, rfl⟩
  refine SL.val (Val.assign rfl) rfl rfl ?_
  refine SL.nil (SE.seq ?_)
  refine SC.seq ?_
  refine SC.seq (SC.region ?_)
  refine SL.val (Val.fieldAddr tabOk rfl rfl rfl rfl rfl) rfl rfl ?_
  refine SL.val (Val.load1 tabOk rfl rfl (by first|(apply Or.inl;(repeat first|assumption|exact m0|apply m1);done)|(apply Or.inr;(repeat first|assumption|exact m0|apply m1);done)) List.not_mem_nil (by rfl)) rfl rfl ?_
  refine SL.val (Val.fieldAddr tabOk rfl rfl rfl rfl rfl) rfl rfl ?_
  refine SL.val (Val.load1 tabOk rfl rfl (by first|(apply Or.inl;(repeat first|assumption|exact m0|apply m1);done)|(apply Or.inr;(repeat first|assumption|exact m0|apply m1);done)) List.not_mem_nil (by rfl)) rfl rfl ?_
  refine SL.val (Val.neI rfl rfl) rfl rfl ?_
  refine SL.val (Val.move rfl) rfl rfl ?_
  refine SL.bothP (t := 11) rfl (by intro hc11; exfalso; omega) ?_
  intro hc11
  refine SL.val (Val.fieldAddr tabOk rfl rfl rfl rfl rfl) rfl rfl ?_
  refine SL.val (Val.load1 tabOk rfl rfl (by first|(apply Or.inl;(repeat first|assumption|exact m0|apply m1);done)|(apply Or.inr;(repeat first|assumption|exact m0|apply m1);done)) List.not_mem_nil (by rfl)) rfl rfl ?_
  refine SL.val (Val.fieldAddr tabOk rfl rfl rfl rfl rfl) rfl rfl ?_
  refine SL.val (Val.load1 tabOk rfl rfl (by first|(apply Or.inl;(repeat first|assumption|exact m0|apply m1);done)|(apply Or.inr;(repeat first|assumption|exact m0|apply m1);done)) List.not_mem_nil (by rfl)) rfl rfl ?_
  refine SL.val (Val.neI rfl rfl) rfl rfl ?_
  refine SL.val (Val.pickF rfl rfl) rfl rfl ?_
  refine SL.val (Val.move rfl) rfl rfl ?_
  refine SL.bothP (t := 18) rfl (by intro hc18; exfalso; omega) ?_
  intro hc18
  refine SL.val (Val.fieldAddr tabOk rfl rfl rfl rfl rfl) rfl rfl ?_
  refine SL.val (Val.load1 tabOk rfl rfl (by first|(apply Or.inl;(repeat first|assumption|exact m0|apply m1);done)|(apply Or.inr;(repeat first|assumption|exact m0|apply m1);done)) List.not_mem_nil (by rfl)) rfl rfl ?_
  first
    | refine SL.val (Val.lenSl rfl Tryd.underlying23 (List.length_map _)) rfl rfl ?_
    | refine SL.val (Val.lenOwn rfl (by repeat first|assumption|exact m0|apply m1) Tryd.underlying23 (List.length_map _)) rfl rfl ?_
    | refine SL.val (Val.lenNil rfl Tryd.underlying23) rfl rfl ?_
  refine SL.val (Val.fieldAddr tabOk rfl rfl rfl rfl rfl) rfl rfl ?_
  refine SL.val (Val.load1 tabOk rfl rfl (by first|(apply Or.inl;(repeat first|assumption|exact m0|apply m1);done)|(apply Or.inr;(repeat first|assumption|exact m0|apply m1);done)) List.not_mem_nil (by rfl)) rfl rfl ?_
  first
    | refine SL.val (Val.lenSl rfl Tryd.underlying23 (List.length_map _)) rfl rfl ?_
    | refine SL.val (Val.lenOwn rfl (by repeat first|assumption|exact m0|apply m1) Tryd.underlying23 (List.length_map _)) rfl rfl ?_
    | refine SL.val (Val.lenNil rfl Tryd.underlying23) rfl rfl ?_
  refine SL.val (Val.neI rfl rfl) rfl rfl ?_
  refine SL.val (Val.pickF rfl rfl) rfl rfl ?_
  refine SL.nil (SE.seq ?_)
  refine SC.condP rfl (by intro hc26; exfalso; omega) ?_
  intro hc26
  refine SC.skip ?_
  refine SE.seq ?_
  refine SC.seq ?_
  refine SC.seq (SC.region ?_)
  refine SL.val (Val.fieldAddr tabOk rfl rfl rfl rfl rfl) rfl rfl ?_
  refine SL.val (Val.load1 tabOk rfl rfl (by first|(apply Or.inl;(repeat first|assumption|exact m0|apply m1);done)|(apply Or.inr;(repeat first|assumption|exact m0|apply m1);done)) List.not_mem_nil (by rfl)) rfl rfl ?_
  first
    | refine SL.val (Val.lenSl rfl Tryd.underlying23 (List.length_map _)) rfl rfl ?_
    | refine SL.val (Val.lenOwn rfl (by repeat first|assumption|exact m0|apply m1) Tryd.underlying23 (List.length_map _)) rfl rfl ?_
    | refine SL.val (Val.lenNil rfl Tryd.underlying23) rfl rfl ?_
  refine SL.val (Val.move rfl) rfl rfl ?_
  refine SL.nil (SE.seq ?_)
  refine SC.block ?_
  refine SC.loop (ι := Nat) (fun z => [.blk b3 25 [int o, int a, .sl 3 (ks.map Frm.abs)], .blk b2 25 [int o, int a, .sl 3 (ks.map Frm.abs)]]) (fun z => [(2, ptr b2), (3, ptr b3), (29, int (ks.length : Nat)), (30, int (z : Nat))]) (fun z => z ≤ ks.length) (fun z => ks.length - z) (0) (Nat.zero_le _) (by exact ⟨rfl, rfl, rfl, rfl, trivial⟩) (by repeat first|exact s0 _|exact s1 _|apply s2|apply s3) ?_
  intro z hz
  refine SC.seq (SC.region ?_)
  refine SL.val (Val.ltI rfl rfl) rfl rfl ?_
  refine SL.nil (SE.seq ?_)
  refine SC.seq ?_
  refine SC.condP rfl ?_ ?_
  rotate_left
  · intro hc31
    refine SC.exit ?_
    refine SE.then_ (by intro h; cases h) ?_
    refine SE.then_ (by intro h; cases h) ?_
    refine SE.exit ?_
    refine SE.seq ?_
    refine SC.seq (SC.region ?_)
    refine SL.val (Val.assign rfl) rfl rfl ?_
    refine SL.nil (SE.seq ?_)
    refine SC.ret ?_
    refine SE.fin (rs := [.tmp 4]) rfl (RV.tmp rfl RV.nil) (()) (by repeat first|exact s0 _|exact s1 _|apply s2|apply s3) (by simp [It.rids]) ?_
    exact rfl
  intro hc31
  have hlt : z < ks.length := by omega
  have hkz := Frm.nodes_mem (List.getElem_mem hlt)
  refine SC.skip ?_
  refine SE.seq ?_
  refine SC.seq ?_
  refine SC.block ?_
  refine SC.seq (SC.region ?_)
  refine SL.val (Val.move rfl) rfl rfl ?_
  refine SL.val (Val.assign rfl) rfl rfl ?_
  refine SL.nil (SE.seq ?_)
  refine SC.seq ?_
  refine SC.draw [] (.q 0 (.q 1 (.q 2 (.q 3 (.q 4 (.q 5 (.q 6 (.q 7 (.q 8 (.q 9 (.e 10 (.q 11 .nil)))))))))))) (by kernel_rfl) (by kernel_rfl) ?_
  refine SX.val rfl (Val.fieldAddr tabOk rfl rfl rfl rfl rfl) (by simp) rfl rfl ?_
  refine SX.val rfl (Val.load1 tabOk rfl rfl (by first|(apply Or.inl;(repeat first|assumption|exact m0|apply m1);done)|(apply Or.inr;(repeat first|assumption|exact m0|apply m1);done)) List.not_mem_nil (by rfl)) (by simp) rfl rfl ?_
  refine SX.val rfl (Val.move rfl) (by simp) rfl rfl ?_
  refine SX.val rfl (Val.indexSl tabOk Tryd.underlying23 rfl rfl rfl rfl (at_map (by omega)) rfl rfl) (by simp) rfl rfl ?_
  refine SX.hx (by first|(simp[mids,It.mids,ownPc];done)|(intro k hk;simp[mids,It.mids,ownPc] at hk ⊢;grind)) fun hx9 => ?_
  refine SX.val rfl (Val.loadAR tabOk rfl rfl rfl (Frm.abs_len _)) hx9 rfl rfl ?_
  refine SX.val rfl (Val.fieldAddr tabOk rfl rfl rfl rfl rfl) (by simp) rfl rfl ?_
  refine SX.val rfl (Val.load1 tabOk rfl rfl (by first|(apply Or.inl;(repeat first|assumption|exact m0|apply m1);done)|(apply Or.inr;(repeat first|assumption|exact m0|apply m1);done)) List.not_mem_nil (by rfl)) (by simp) rfl rfl ?_
  refine SX.val rfl (Val.move rfl) (by simp) rfl rfl ?_
  refine SX.val rfl (Val.indexSl tabOk Tryd.underlying23 rfl rfl rfl rfl (at_map (by omega)) rfl rfl) (by simp) rfl rfl ?_
  refine SX.val rfl (Val.loadAR tabOk rfl rfl rfl (Frm.abs_len _)) hx9 rfl rfl ?_
  refine SX.call rfl (ih (ks[z]'hlt) (List.getElem_mem hlt) (by omega)) (by simp [mids, It.mids]) Casts.refl (by kernel_rfl) rfl rfl rfl ?_
  refine After.pure (by repeat first|exact .nil|refine .blk (by repeat first|assumption|exact m0|apply m1) ?_|refine .rd (by repeat first|assumption|exact m0|apply m1) ?_|refine .pc (by repeat first|assumption|exact m0|apply m1) ?_|refine .rdpc (by repeat first|assumption|exact m0|apply m1) ?_) (fun _ => rfl) ?_
  intro _
  refine SX.val rfl (Val.notB rfl) (by simp) rfl rfl ?_
  refine SX.nil (SE.seq ?_)
  refine SC.cond rfl (by intro hc44; exfalso; cases hc44) ?_
  intro hc44
  refine SC.skip ?_
  refine SE.inBlock ?_
  refine SE.seq ?_
  refine SC.region ?_
  first
    | refine SL.val (Val.addI rfl rfl (by simp only [InR, lo, hi]; omega)) rfl rfl ?_
    | refine SL.val (Val.addW rfl rfl) rfl rfl ?_
  refine SL.val (Val.move rfl) rfl rfl ?_
  refine SL.nil ?_
  refine SE.round (z + 1) (by first | omega | (dsimp only; omega)) (by first | omega | (dsimp only; omega)) (by exact ⟨rfl, rfl, rfl, rfl, trivial⟩) (by repeat first|exact s0 _|exact s1 _|apply s2|apply s3)
theorem same_s (f : Frm) : f.nodes ≤ 1099511627776 → Spec Tryd.prog 9 [.agg f.abs, .agg f.abs] [] (fun _ : Unit => []) (fun _ => boo true) := Frm.ind (p := fun f => f.nodes ≤ 1099511627776 → Spec Tryd.prog 9 [.agg f.abs, .agg f.abs] [] (fun _ : Unit => []) (fun _ => boo true)) (fun o a ks ih hn => same_step ih hn) f
end
end Go.Proofs.YthaahcdfnmfihaaDoor.A
/-
  Policies' texts: the law TermsReads, walked.
-/
set_option maxRecDepth 100000
set_option linter.unusedSimpArgs false
set_option linter.unusedVariables false
namespace Go.Proofs.YthaahcdfnmfihaaDoor.A
open Go.RowKit

section
variable {l r wd : Txt} {i : Nat} {n o a : Int} {ks : List Frm} {f : Frm} {es er : Value}
theorem casts_eq {xs ys : List Abs} (h : xs = ys) : Casts xs ys := h ▸ Casts.refl
theorem fixed1 : parseF [50, 32, 111, 102, 32, 40, 48, 44, 49, 44, 32, 50, 41] 3 = ((Frm.mk 0 2 [.mk 0 0 [], .mk 1 0 [], .mk 2 0 []]), 0) := by kernel_rfl
theorem fixed2 : parseF [97, 110, 121, 40, 41] 3 = (.mk 0 0 [], 2) := by kernel_rfl
theorem fixed3 : printF (Frm.mk 0 2 [.mk 0 0 [], .mk 1 0 [], .mk 2 0 []]) = [50, 111, 102, 40, 48, 44, 49, 44, 50, 41] := by kernel_rfl
theorem fixed1a : (parseF [50, 32, 111, 102, 32, 40, 48, 44, 49, 44, 32, 50, 41] 3).1.abs = [int 0, int 2, .sl 3 (List.map Frm.abs [.mk 0 0 [], .mk 1 0 [], .mk 2 0 []])] := by rw [fixed1, Frm.abs_mk]
theorem fixed1b : (parseF [50, 32, 111, 102, 32, 40, 48, 44, 49, 44, 32, 50, 41] 3).2 = 0 := by rw [fixed1]
theorem fixed2a : (parseF [97, 110, 121, 40, 41] 3).1.abs = [int 0, int 0, .sl 3 []] := by rw [fixed2, Frm.abs_mk]; rfl
theorem fixed2b : (parseF [97, 110, 121, 40, 41] 3).2 = 2 := by rw [fixed2]
theorem fixed_s (he : isIf es) (hr : isIf er) : Spec Tryd.prog 6 [] (globs es er) (fun _ : Unit => []) (fun _ => boo true) := by
  refine spec_of Tryd.func6 rfl Tryd.ntmps6 rfl fun G w => ?_
  refine SC.seq (SC.region ?_)
  refine SL.val (Val.assign rfl) rfl rfl ?_
  refine SL.nil (SE.seq ?_)
  refine SC.seq (SC.region ?_)
  refine SL.call (parse_s (l := [50, 32, 111, 102, 32, 40, 48, 44, 49, 44, 32, 50, 41]) (n := 3) he hr) Casts.refl (by kernel_rfl) rfl rfl rfl ?_
  refine After.pure (by repeat (first | exact Reads.nil | (refine Reads.blk ?_ ?_; focus ((repeat first|assumption|exact m0|apply m1); done)) | (refine Reads.rd ?_ ?_; focus ((repeat first|assumption|exact m0|apply m1); done)) | (refine Reads.pc ?_ ?_; focus ((repeat first|assumption|exact m0|apply m1); done)) | (refine Reads.rdpc ?_ ?_; focus ((repeat first|assumption|exact m0|apply m1); done)))) (fun _ => rfl) ?_
  intro _
  rw [fixed1a, fixed1b]
  refine SL.val (Val.move rfl) rfl rfl ?_
  refine SL.val (Val.extract rfl rfl) rfl rfl ?_
  refine SL.val (Val.extract rfl rfl) rfl rfl ?_
  refine SL.eff (Eff.alloc tabOk rfl) rfl rfl ?_
  rintro _ _ ⟨b1, rfl, rfl⟩
  refine SL.eff (Eff.store (L' := [int 0, int 2, .sl 3 (List.map Frm.abs [.mk 0 0 [], .mk 1 0 [], .mk 2 0 []])]) tabOk rfl rfl rfl (by repeat first|assumption|exact Upd.here|apply Upd.there) rfl (Nat.le_of_ble_eq_true (by rfl)) rfl (by rfl)) rfl rfl ?_
  rintro _ _ ⟨rfl, rfl⟩
  refine SL.val (Val.assign rfl) rfl rfl ?_
  refine SL.nil (SE.seq ?_)
  refine SC.seq (SC.region ?_)
  refine SL.call (parse_s (l := [97, 110, 121, 40, 41]) (n := 3) he hr) Casts.refl (by kernel_rfl) rfl rfl rfl ?_
  refine After.pure (by repeat (first | exact Reads.nil | (refine Reads.blk ?_ ?_; focus ((repeat first|assumption|exact m0|apply m1); done)) | (refine Reads.rd ?_ ?_; focus ((repeat first|assumption|exact m0|apply m1); done)) | (refine Reads.pc ?_ ?_; focus ((repeat first|assumption|exact m0|apply m1); done)) | (refine Reads.rdpc ?_ ?_; focus ((repeat first|assumption|exact m0|apply m1); done)))) (fun _ => rfl) ?_
  intro _
  rw [fixed2a, fixed2b]
  refine SL.val (Val.move rfl) rfl rfl ?_
  refine SL.val (Val.extract rfl rfl) rfl rfl ?_
  refine SL.val (Val.extract rfl rfl) rfl rfl ?_
  refine SL.eff (Eff.alloc tabOk rfl) rfl rfl ?_
  rintro _ _ ⟨b3, rfl, rfl⟩
  refine SL.eff (Eff.store (L' := [int 0, int 0, .sl 3 []]) tabOk rfl rfl rfl (by repeat first|assumption|exact Upd.here|apply Upd.there) rfl (Nat.le_of_ble_eq_true (by rfl)) rfl (by rfl)) rfl rfl ?_
  rintro _ _ ⟨rfl, rfl⟩
  refine SL.val (Val.assign rfl) rfl rfl ?_
  refine SL.nil (SE.seq ?_)
  refine SC.seq (SC.region ?_)
  refine SL.val (Val.move rfl) rfl rfl ?_
  refine SL.val (Val.eqI rfl rfl) rfl rfl ?_
  refine SL.val (Val.move rfl) rfl rfl ?_
  refine SL.bothP (t := 15) rfl ?_ (by intro hc15; exfalso; exact hc15 rfl)
  intro hc15
  refine SL.val (Val.move rfl) rfl rfl ?_
  refine SL.val (Val.eqI rfl rfl) rfl rfl ?_
  refine SL.val (Val.pickT rfl rfl) rfl rfl ?_
  refine SL.val (Val.move rfl) rfl rfl ?_
  refine SL.bothP (t := 19) rfl ?_ (by intro hc19; exfalso; exact hc19 rfl)
  intro hc19
  refine SL.val (Val.fieldAddr tabOk rfl rfl rfl rfl rfl) rfl rfl ?_
  refine SL.val (Val.load1 tabOk rfl rfl (by first|(apply Or.inl;(repeat first|assumption|exact m0|apply m1);done)|(apply Or.inr;(repeat first|assumption|exact m0|apply m1);done)) List.not_mem_nil (by rfl)) rfl rfl ?_
  refine SL.val (Val.eqI rfl rfl) rfl rfl ?_
  refine SL.val (Val.pickT rfl rfl) rfl rfl ?_
  refine SL.val (Val.move rfl) rfl rfl ?_
  refine SL.bothP (t := 24) rfl ?_ (by intro hc24; exfalso; exact hc24 rfl)
  intro hc24
  refine SL.val (Val.fieldAddr tabOk rfl rfl rfl rfl rfl) rfl rfl ?_
  refine SL.val (Val.load1 tabOk rfl rfl (by first|(apply Or.inl;(repeat first|assumption|exact m0|apply m1);done)|(apply Or.inr;(repeat first|assumption|exact m0|apply m1);done)) List.not_mem_nil (by rfl)) rfl rfl ?_
  first
    | refine SL.val (Val.lenSl rfl Tryd.underlying23 (List.length_map _)) rfl rfl ?_
    | refine SL.val (Val.lenOwn rfl (by repeat first|assumption|exact m0|apply m1) Tryd.underlying23 (List.length_map _)) rfl rfl ?_
    | refine SL.val (Val.lenNil rfl Tryd.underlying23) rfl rfl ?_
  refine SL.val (Val.eqI rfl rfl) rfl rfl ?_
  refine SL.val (Val.pickT rfl rfl) rfl rfl ?_
  refine SL.val (Val.move rfl) rfl rfl ?_
  refine SL.bothP (t := 30) rfl ?_ (by intro hc30; exfalso; exact hc30 rfl)
  intro hc30
  first
    | refine SL.val (Val.loadA tabOk rfl rfl rfl (by first|(apply Or.inl;(repeat first|assumption|exact m0|apply m1);done)|(apply Or.inr;(repeat first|assumption|exact m0|apply m1);done)) List.not_mem_nil (by rfl)) rfl rfl ?_
    | refine SL.val (Val.loadP tabOk rfl rfl rfl (by first|(apply Or.inl;(repeat first|assumption|exact m0|apply m1);done)|(apply Or.inr;(repeat first|assumption|exact m0|apply m1);done)) List.not_mem_nil (Nat.le_of_ble_eq_true (by rfl))) rfl rfl ?_
  refine SL.call (print_s (f := (Frm.mk 0 2 [.mk 0 0 [], .mk 1 0 [], .mk 2 0 []])) (by rw [show (Frm.mk 0 2 [.mk 0 0 [], .mk 1 0 [], .mk 2 0 []]).nodes = 4 by kernel_rfl]; decide)) (casts_eq (by rw [Frm.abs_mk])) (by kernel_rfl) rfl rfl rfl ?_
  refine After.pure Reads.nil (fun _ => rfl) ?_
  intro _
  refine SL.val (Val.to (C := boo true) (Val.eqS rfl rfl) (congrArg (fun b => Abs.v (Value.bool b)) (decide_eq_true (congrArg (fun l : Txt => ByteArray.mk l.toArray) fixed3)))) rfl rfl ?_
  refine SL.val (Val.pickT rfl rfl) rfl rfl ?_
  refine SL.val (Val.assign rfl) rfl rfl ?_
  refine SL.nil (SE.seq ?_)
  refine SC.ret ?_
  refine SE.fin (rs := [.tmp 0]) rfl (RV.tmp rfl RV.nil) (()) (by repeat first|exact s0 _|exact s1 _|apply s2|apply s3) (by simp [It.rids]) ?_
  exact rfl
end
end Go.Proofs.YthaahcdfnmfihaaDoor.A
/-
  Policies' texts, plain: what is printed reads back, blanks or none between its parts.
-/
set_option maxRecDepth 100000
set_option linter.unusedSimpArgs false
set_option linter.unusedVariables false
namespace Go.Proofs.YthaahcdfnmfihaaDoor.A
open Go.RowKit

/-- Behind these blanks may stand; ahead of those. -/
def opn (c : UInt8) : Bool := decide (c = 40 ∨ c = 44)
def spc (c : UInt8) : Bool := decide (c = 40 ∨ c = 44 ∨ c = 41)
/-- A text, with blanks where they may stand; what stands ahead of it. -/
inductive Pad : UInt8 → Txt → Txt → Prop
  | nil {p : UInt8} : Pad p [] []
  | cons {p c : UInt8} {t u : Txt} (m : Nat) (h : m = 0 ∨ opn p = true ∨ spc c = true) (k : Pad c t u) : Pad p (c :: t) (List.replicate m 32 ++ c :: u)
theorem Pad.refl : ∀ (p : UInt8) (t : Txt), Pad p t t
  | _, [] => .nil
  | _, c :: t => .cons 0 (.inl rfl) (Pad.refl c t)
theorem Pad.len {p : UInt8} {t u : Txt} (h : Pad p t u) : t.length ≤ u.length := by
  induction h with
  | nil => exact Nat.le_refl _
  | cons m h k ih => simp only [List.length_append, List.length_cons, List.length_replicate]; omega
theorem Pad.end_ {p : UInt8} {u : Txt} (h : Pad p [] u) : u = [] := by cases h; rfl
theorem Pad.mark {p c : UInt8} {t u : Txt} (h : Pad p (c :: t) u) : ∃ m v, u = List.replicate m 32 ++ c :: v ∧ Pad c t v := by
  cases h with
  | cons m h k => exact ⟨m, _, rfl, k⟩
theorem bare_rep (m : Nat) (t : Txt) : bare (List.replicate m 32 ++ t) = bare t := by
  induction m with
  | zero => rfl
  | succ m ih => rw [List.replicate_succ, List.cons_append]; exact (if_pos rfl).trans ih
theorem bare_own {c : UInt8} {t : Txt} (h : c ≠ 32) : bare (c :: t) = c :: t := if_neg h
theorem spc_opn {c : UInt8} (h : spc c = false) : opn c = false := by
  unfold spc at h
  unfold opn
  simp at h ⊢
  exact ⟨h.1, h.2.1⟩
/-- A word's end: no blanks in it. -/
theorem Pad.tail : ∀ {s : Txt} {p : UInt8} {t u : Txt}, opn p = false → (∀ d ∈ s, spc d = false) → Pad p (s ++ t) u → ∃ q v, u = s ++ v ∧ Pad q t v
  | [], p, t, u, hp, hs, h => ⟨p, u, rfl, h⟩
  | c :: s, p, t, u, hp, hs, h => by
    have h : Pad p (c :: (s ++ t)) u := h
    cases h with
    | cons m h3 k =>
      have hc := hs c List.mem_cons_self
      have h0 : m = 0 := by
        rcases h3 with h3 | h3 | h3
        · exact h3
        · rw [hp] at h3; cases h3
        · rw [hc] at h3; cases h3
      subst h0
      obtain ⟨q, v, rfl, h4⟩ := Pad.tail (spc_opn hc) (fun d hd => hs d (List.mem_cons_of_mem _ hd)) k
      exact ⟨q, v, rfl, h4⟩
/-- A word: blanks ahead of it at most. -/
theorem Pad.word {s : Txt} {p c : UInt8} {t u : Txt} (hs : ∀ d ∈ c :: s, spc d = false) (h : Pad p (c :: s ++ t) u) : ∃ m q v, u = List.replicate m 32 ++ (c :: (s ++ v)) ∧ Pad q t v := by
  obtain ⟨m, v, rfl, h2⟩ := Pad.mark (show Pad p (c :: (s ++ t)) u from h)
  obtain ⟨q, v2, rfl, h3⟩ := Pad.tail (spc_opn (hs c List.mem_cons_self)) (fun d hd => hs d (List.mem_cons_of_mem _ hd)) h2
  exact ⟨m, q, v2, rfl, h3⟩
/-! ### Numbers -/
theorem dg_dig {n : Nat} (h : n < 10) : isDig (dg n) = true := by
  unfold isDig
  rw [dg_nat h, decide_eq_true_iff]
  omega
theorem dg_ne {n : Nat} (h : n < 10) {c : UInt8} (hc : c.toNat < 48 ∨ 57 < c.toNat) : dg n ≠ c := fun e => by
  have := dg_nat h
  rw [e] at this
  omega
theorem spc_dg {n : Nat} (h : n < 10) : spc (dg n) = false := by
  unfold spc
  rw [decide_eq_false_iff_not]
  rintro (e | e | e)
  · exact dg_ne h (by decide) e
  · exact dg_ne h (by decide) e
  · exact dg_ne h (by decide) e
theorem digT_mem {i : Nat} (h : i < 100) : ∀ c ∈ digT i, ∃ n, n < 10 ∧ c = dg n := by
  intro c hc
  unfold digT at hc
  split at hc
  · rw [List.mem_singleton] at hc
    exact ⟨i, (by assumption), hc⟩
  · simp only [List.mem_cons, List.not_mem_nil, or_false] at hc
    rcases hc with e | e
    · exact ⟨i / 10, (by omega), e⟩
    · exact ⟨i % 10, (by omega), e⟩
/-- A number that is printed reads back. -/
theorem num_text {i : Nat} (h : i < 100) {v : Txt} (hv : digs v = []) : numT (digT i ++ v) = some (i, v) := by
  have hd : digs (digT i ++ v) = digT i := by
    have h1 : (digT i ++ v).takeWhile isDig = digT i ++ v.takeWhile isDig := List.takeWhile_append_of_pos fun c hc => by
      obtain ⟨n, hn, rfl⟩ := digT_mem h c hc
      exact dg_dig hn
    show (digT i ++ v).takeWhile isDig = _
    rw [h1, show v.takeWhile isDig = [] from hv, List.append_nil]
  unfold numT
  rw [hd, List.drop_left]
  by_cases h10 : i < 10
  · have e := dg_nat h10
    rw [digT_one h10, if_neg (by simp)]
    show some (0 * 10 + ((dg i).toNat - 48), v) = _
    rw [e]
    congr 2
    omega
  · have e1 := dg_nat (show i / 10 < 10 by omega)
    have e2 := dg_nat (show i % 10 < 10 by omega)
    rw [digT_two h10, if_neg (by
      simp only [List.length_cons, List.length_nil, List.head?_cons, Option.some.injEq]
      rintro (h1 | h1 | ⟨_, h1⟩)
      · omega
      · omega
      · rw [h1] at e1
        have : (48 : UInt8).toNat = 48 := rfl
        omega)]
    show some ((0 * 10 + ((dg (i / 10)).toNat - 48)) * 10 + ((dg (i % 10)).toNat - 48), v) = _
    rw [e1, e2]
    congr 2
    omega
theorem begins_own (c : UInt8) (v : Txt) : begins (c :: v) [c] = true := by unfold begins; simp [List.isPrefixOf]
theorem begins_not {c d : UInt8} (h : d ≠ c) (v : Txt) : ¬ begins (c :: v) [d] = true := by unfold begins; simp [List.isPrefixOf]; exact h
/-- What may stand behind a policy. -/
def Stop (r : Txt) : Prop := r = [] ∨ ∃ t, r = 41 :: t ∨ r = 44 :: t
theorem stop_pad {p : UInt8} {r v : Txt} (h : Stop r) (hp : Pad p r v) : digs v = [] ∧ begins (bare v) [111, 102] = false := by
  rcases h with rfl | ⟨t, rfl | rfl⟩
  · rw [hp.end_]; exact ⟨rfl, rfl⟩
  · obtain ⟨m, u, rfl, _⟩ := hp.mark
    refine ⟨?_, ?_⟩
    · cases m with
      | zero => rfl
      | succ m => rw [List.replicate_succ]; rfl
    · rw [bare_rep, bare_own (by decide)]; rfl
  · obtain ⟨m, u, rfl, _⟩ := hp.mark
    refine ⟨?_, ?_⟩
    · cases m with
      | zero => rfl
      | succ m => rw [List.replicate_succ]; rfl
    · rw [bare_rep, bare_own (by decide)]; rfl
/-! ### Policies -/
def ReadsT (k : Nat) (f : Frm) : Prop := ∀ (p : UInt8) (rest u : Txt), Stop rest → Pad p (f.text ++ rest) u → ∃ c v, polT k u = some (f, v) ∧ Pad c rest v
theorem rowL_pad {k : Nat} : ∀ (ks : List Frm) (k0 : Frm) (F : Nat) (acc : List Frm) (p : UInt8) (rest u : Txt), ReadsT k k0 → (∀ x ∈ ks, ReadsT k x) → ks.length + 1 ≤ F → Pad p (k0.text ++ (Frm.texts ks ++ 41 :: rest)) u → ∃ v, rowL (polT k) F u acc = some (acc ++ k0 :: ks, v) ∧ Pad 41 rest v
  | [], k0, F, acc, p, rest, u, h0, hk, hF, hp => by
    obtain ⟨c, v, e, h1⟩ := h0 p _ u (.inr ⟨rest, .inl rfl⟩) hp
    obtain ⟨m, v2, rfl, h2⟩ := Pad.mark (show Pad c (41 :: rest) v from h1)
    obtain ⟨F, rfl⟩ : ∃ n, F = n + 1 := ⟨F - 1, (by simp at hF; omega)⟩
    refine ⟨v2, ?_, h2⟩
    unfold rowL
    rw [e]
    dsimp only
    rw [bare_rep, bare_own (by decide), if_pos (begins_own 41 v2)]
    rfl
  | k1 :: ks, k0, F, acc, p, rest, u, h0, hk, hF, hp => by
    obtain ⟨c, v, e, h1⟩ := h0 p _ u (.inr ⟨_, .inr rfl⟩) (show Pad p (k0.text ++ (44 :: (k1.text ++ Frm.texts ks ++ 41 :: rest))) u by rw [Frm.texts] at hp; exact hp)
    obtain ⟨m, v2, rfl, h2⟩ := Pad.mark h1
    obtain ⟨F, rfl⟩ : ∃ n, F = n + 1 := ⟨F - 1, (by simp at hF; omega)⟩
    obtain ⟨v3, e3, h3⟩ := rowL_pad ks k1 F (acc ++ [k0]) 44 rest v2 (hk _ List.mem_cons_self) (fun x hx => hk x (List.mem_cons_of_mem _ hx)) (by simp only [List.length_cons] at hF; omega) (by rw [← List.append_assoc]; exact h2)
    refine ⟨v3, ?_, h3⟩
    unfold rowL
    rw [e]
    dsimp only
    rw [bare_rep, bare_own (by decide), if_neg (begins_not (by decide) v2), if_pos (begins_own 44 v2)]
    show rowL (polT k) F v2 (acc ++ [k0]) = _
    rw [e3, List.append_assoc]
    rfl
theorem row_pad {k : Nat} {ks : List Frm} (hk : ∀ x ∈ ks, ReadsT k x) (hn : ks ≠ []) {p : UInt8} {rest u : Txt} (hp : Pad p (40 :: (joinT ks ++ 41 :: rest)) u) : ∃ v, rowT (polT k) u = some (ks, v) ∧ Pad 41 rest v := by
  obtain ⟨m, v, rfl, h1⟩ := hp.mark
  cases ks with
  | nil => exact absurd rfl hn
  | cons k0 ks =>
    have hl := h1.len
    have ht : ks.length ≤ (Frm.texts ks).length := by
      clear hp h1 hl hk hn
      induction ks with
      | nil => simp
      | cons x l ih => rw [Frm.texts, List.length_cons, List.length_cons, List.length_append]; omega
    rw [joinT, List.append_assoc] at h1 hl
    simp only [List.length_append, List.length_cons] at hl
    obtain ⟨v2, e, h2⟩ := rowL_pad ks k0 ((List.replicate m 32 ++ 40 :: v).length + 1) [] 40 rest v (hk _ List.mem_cons_self) (fun x hx => hk x (List.mem_cons_of_mem _ hx)) (by simp only [List.length_append, List.length_cons, List.length_replicate]; omega) h1
    refine ⟨v2, ?_, h2⟩
    unfold rowT
    rw [bare_rep, bare_own (by decide), if_pos (by rfl)]
    exact e
theorem pol_pad (f : Frm) : ∀ k : Nat, f.ranges 7 = true → f.nodes ≤ 32 → f.depth ≤ k → ReadsT k f := Frm.ind (p := fun f => ∀ k : Nat, f.ranges 7 = true → f.nodes ≤ 32 → f.depth ≤ k → ReadsT k f) (fun o a ks ih k hr hn hd => by
  rw [Frm.depth_mk] at hd
  obtain ⟨k, rfl⟩ : ∃ m, k = m + 1 := ⟨k - 1, (by omega)⟩
  intro p rest u hst hp
  by_cases hk : ks = []
  · subst hk
    rw [Frm.ranges_leaf, decide_eq_true_iff] at hr
    obtain ⟨m, rfl⟩ : ∃ m : Nat, o = (m : Nat) := ⟨o.toNat, (by omega)⟩
    have hm : m < 10 := by omega
    obtain ⟨ha0⟩ : a = 0 := hr.2.2
    rw [Frm.text_leaf, show digT (Int.toNat (m : Nat)) = [dg m] from digT_one hm] at hp
    obtain ⟨j, q, v, rfl, h1⟩ := Pad.word (s := []) (fun d hd => by rw [List.mem_singleton] at hd; subst hd; exact spc_dg hm) hp
    obtain ⟨s1, s2⟩ := stop_pad hst h1
    have hb : bare (List.replicate j 32 ++ (dg m :: ([] ++ v))) = dg m :: v := by rw [bare_rep]; exact bare_own (dg_ne hm (by decide))
    have h97 : (dg m == 97) = false := by rw [beq_eq_false_iff_ne]; exact dg_ne hm (by decide)
    refine ⟨q, v, ?_, h1⟩
    rw [pol_num (by rw [hb]; unfold begins; simp [List.isPrefixOf]; intro h; exact absurd h.symm (dg_ne hm (by decide))) (by rw [hb]; unfold begins; simp [List.isPrefixOf]; intro h; exact absurd h.symm (dg_ne hm (by decide))), hb,
      show dg m :: v = digT m ++ v by rw [digT_one hm]; rfl, num_text (by omega) s1]
    dsimp only
    rw [if_neg (by rw [s2]; decide)]
  · rw [Frm.ranges_node 7 o a hk, Bool.and_eq_true, decide_eq_true_iff, Frm.rangess_iff] at hr
    rw [Frm.nodes_mk] at hn
    have hlen := Frm.length_le ks
    have hks : ∀ x ∈ ks, ReadsT k x := fun x hx => ih x hx k (hr.1 x hx) (by have := Frm.nodes_mem hx; omega) (by have := Frm.depths_mem hx; omega)
    obtain ⟨m, rfl⟩ : ∃ m : Nat, a = (m : Nat) := ⟨a.toNat, (by omega)⟩
    rw [Frm.text_node o _ hk, List.append_assoc, List.append_assoc] at hp
    have hp : Pad p (headT (m : Nat) ks.length ++ (40 :: (joinT ks ++ 41 :: rest))) u := hp
    have ho : o = 0 := hr.2.2.2
    unfold headT at hp
    by_cases hall : (m : Int) = (ks.length : Nat)
    · rw [if_pos hall] at hp
      obtain ⟨j, q, v, rfl, h1⟩ := Pad.word (s := [108, 108]) (c := 97) (by decide) hp
      obtain ⟨v2, e, h2⟩ := row_pad hks hk h1
      refine ⟨41, v2, ?_, h2⟩
      unfold polT
      rw [bare_rep, bare_own (by decide), if_pos (by rfl)]
      show (rowT (polT k) v).map _ = _
      rw [e, ho, hall]
      rfl
    · rw [if_neg hall] at hp
      by_cases hany : (m : Int) = 1
      · rw [if_pos hany] at hp
        obtain ⟨j, q, v, rfl, h1⟩ := Pad.word (s := [110, 121]) (c := 97) (by decide) hp
        obtain ⟨v2, e, h2⟩ := row_pad hks hk h1
        refine ⟨41, v2, ?_, h2⟩
        unfold polT
        rw [bare_rep, bare_own (by decide), if_neg (by simp [begins, List.isPrefixOf]), if_pos (by rfl)]
        show (rowT (polT k) v).map _ = _
        rw [e, ho, hany]
        rfl
      · rw [if_neg hany] at hp
        have hp : Pad p ((digT m ++ [111, 102]) ++ (40 :: (joinT ks ++ 41 :: rest))) u := hp
        obtain ⟨c, s, hcs⟩ : ∃ c s, digT m ++ [111, 102] = c :: s := by unfold digT; split <;> exact ⟨_, _, rfl⟩
        obtain ⟨n, hn10, hc⟩ : ∃ n, n < 10 ∧ c = dg n := by
          have hm : ∃ d r, digT m = d :: r := by unfold digT; split <;> exact ⟨_, _, rfl⟩
          obtain ⟨d, r, hdr⟩ := hm
          rw [hdr] at hcs
          have e : d = c := (List.cons.inj hcs).1
          have := digT_mem (i := m) (by omega) d (by rw [hdr]; exact List.mem_cons_self)
          rw [e] at this
          exact this
        rw [hcs] at hp
        obtain ⟨j, q, v, rfl, h1⟩ := Pad.word (fun d hd => by
          rw [← hcs] at hd
          rcases List.mem_append.1 hd with hd | hd
          · obtain ⟨n2, h2, rfl⟩ := digT_mem (i := m) (by omega) d hd
            exact spc_dg h2
          · simp only [List.mem_cons, List.not_mem_nil, or_false] at hd
            rcases hd with rfl | rfl <;> decide) hp
        obtain ⟨v2, e, h2⟩ := row_pad hks hk h1
        have hb : bare (List.replicate j 32 ++ (c :: (s ++ v))) = digT m ++ ([111, 102] ++ v) := by
          rw [bare_rep, bare_own (by rw [hc]; exact dg_ne hn10 (by decide)), ← List.cons_append, ← hcs, List.append_assoc]
        have hne : ∀ w : Txt, begins (digT m ++ ([111, 102] ++ v)) (97 :: w) = false := fun w => by
          rw [← List.append_assoc, hcs, hc]
          unfold begins
          rw [List.cons_append, List.isPrefixOf]
          have : ((97 : UInt8) == dg n) = false := by rw [beq_eq_false_iff_ne]; exact fun h => dg_ne hn10 (by decide) h.symm
          rw [this, Bool.false_and]
        refine ⟨41, v2, ?_, h2⟩
        rw [pol_num (by rw [hb, hne]; decide) (by rw [hb, hne]; decide), hb, num_text (by omega) (by rfl)]
        dsimp only
        rw [show bare ([111, 102] ++ v) = 111 :: 102 :: v from bare_own (by decide), if_pos (by rfl), if_pos (by omega)]
        show (rowT (polT k) v).map _ = _
        rw [e, ho]
        rfl) f
/-- What is printed, blanks or none in it, reads back. -/
theorem parse_back {f : Frm} {n : Int} {u : Txt} (hc : f.check n = 0) (hu : u.length ≤ 200) (hp : Pad 0 (printF f) u) : parseF u n = (f, 0) := by
  obtain ⟨h1, h2, h3, h4⟩ := Frm.check_ok.1 hc
  have h7 := Frm.ranges_mono h1.2 f h4
  have hc7 : f.check 7 = 0 := Frm.check_ok.2 ⟨by omega, h2, h3, h7⟩
  rw [show printF f = f.text from if_pos hc7, ← List.append_nil f.text] at hp
  obtain ⟨c, v, e, h5⟩ := pol_pad f 10 h7 h2 (by omega) 0 [] u (.inl rfl) hp
  unfold parseF
  rw [if_neg (by omega), e]
  dsimp only
  rw [h5.end_, if_neg (by decide), if_neg (by rw [hc]; decide)]
end Go.Proofs.YthaahcdfnmfihaaDoor.A
/-
  Policies' texts: few, and the law TermsPrints, walked.
-/
set_option maxRecDepth 100000
set_option linter.unusedSimpArgs false
set_option linter.unusedVariables false
namespace Go.Proofs.YthaahcdfnmfihaaDoor.A
open Go.RowKit

section
variable {l r wd : Txt} {i : Nat} {n o a d : Int} {ks : List Frm} {f : Frm} {es er : Value}
set_option maxHeartbeats 2000000 in
theorem few_step (ih : ∀ k ∈ ks, ∀ d : Int, Spec Tryd.prog 10 [.agg k.abs, int d] [] (fun _ : {z : Int × Bool // z.2 = true → z.1 = k.nodes ∧ k.nodes ≤ 201} => []) (fun z => .tup [int z.1.1, boo z.1.2])) : Spec Tryd.prog 10 [.agg (Frm.mk o a ks).abs, int d] [] (fun _ : {z : Int × Bool // z.2 = true → z.1 = (Frm.mk o a ks).nodes ∧ (Frm.mk o a ks).nodes ≤ 201} => []) (fun z => .tup [int z.1.1, boo z.1.2]) := by
  rw [Frm.abs_mk]
  refine spec_of Tryd.func10 rfl Tryd.ntmps10 rfl fun G w => ?_
  refine SC.seq (SC.region ?_)
  refine SL.eff (Eff.boxA (cs := [int o, int a, .sl 3 (ks.map Frm.abs)]) rfl) rfl rfl ?_
  rintro _ _ ⟨b2, rfl, rfl⟩
  refine SL.val (Val.assign rfl) rfl rfl ?_
  refine SL.val (Val.assign rfl) rfl rfl ?_
  refine SL.nil (SE.seq ?_)
  refine SC.seq (SC.region ?_)
  refine SL.val (Val.assign rfl) rfl rfl ?_
  refine SL.nil (SE.seq ?_)
  refine SC.seq ?_
  refine SC.seq (SC.region ?_)
  refine SL.val (Val.fieldAddr tabOk rfl rfl rfl rfl rfl) rfl rfl ?_
  refine SL.val (Val.load1 tabOk rfl rfl (by first|(apply Or.inl;(repeat first|assumption|exact m0|apply m1);done)|(apply Or.inr;(repeat first|assumption|exact m0|apply m1);done)) List.not_mem_nil (by rfl)) rfl rfl ?_
  first
    | refine SL.val (Val.lenSl rfl Tryd.underlying23 (List.length_map _)) rfl rfl ?_
    | refine SL.val (Val.lenOwn rfl (by repeat first|assumption|exact m0|apply m1) Tryd.underlying23 (List.length_map _)) rfl rfl ?_
    | refine SL.val (Val.lenNil rfl Tryd.underlying23) rfl rfl ?_
  refine SL.val (Val.move rfl) rfl rfl ?_
  refine SL.nil (SE.seq ?_)
  refine SC.block ?_
  refine SC.rowLe (i := 12) rfl fun hml => ?_
  have hml2 : ks.length ≤ 9223372036854775807 := by rw [List.length_map] at hml; exact hml
  refine SC.loop (ι := Nat × Int) (fun z => [.blk b2 25 [int o, int a, .sl 3 (ks.map Frm.abs)]]) (fun z => [(1, int d), (2, ptr b2), (6, int z.2), (12, .sl 3 (ks.map Frm.abs)), (13, int (ks.length : Nat)), (14, int (z.1 : Nat))]) (fun z => z.1 ≤ ks.length ∧ z.2 = 1 + Frm.nodess (ks.take z.1) ∧ z.2 ≤ 200) (fun z => ks.length - z.1) (0, 1) (⟨Nat.zero_le _, rfl, by decide⟩) (by exact ⟨rfl, rfl, rfl, rfl, rfl, rfl, trivial⟩) (by repeat first|exact s0 _|exact s1 _|apply s2|apply s3) ?_
  intro z hz
  refine SC.seq (SC.region ?_)
  refine SL.val (Val.ltI rfl rfl) rfl rfl ?_
  refine SL.nil (SE.seq ?_)
  refine SC.seq ?_
  refine SC.condP rfl ?_ ?_
  rotate_left
  · intro hc15
    have hz2 : z.1 = ks.length := by omega
    have htk : ks.take z.1 = ks := by rw [hz2]; exact List.take_length
    refine SC.exit ?_
    refine SE.then_ (by intro h; cases h) ?_
    refine SE.then_ (by intro h; cases h) ?_
    refine SE.exit ?_
    refine SE.seq ?_
    refine SC.seq (SC.region ?_)
    refine SL.val (Val.move rfl) rfl rfl ?_
    refine SL.val (Val.move rfl) rfl rfl ?_
    refine SL.val (Val.leI rfl rfl) rfl rfl ?_
    refine SL.val (Val.assign rfl) rfl rfl ?_
    refine SL.val (Val.assign rfl) rfl rfl ?_
    refine SL.nil (SE.seq ?_)
    refine SC.ret ?_
    refine SE.fin (rs := [.tmp 4, .tmp 5]) rfl (RV.tmp rfl (RV.tmp rfl RV.nil)) (⟨(z.2, decide (d ≤ 50)), fun _ => by
      rw [Frm.nodes_mk]
      rw [htk] at hz
      dsimp only
      omega⟩) (by repeat first|exact s0 _|exact s1 _|apply s2|apply s3) (by simp [It.rids]) ?_
    exact rfl
  intro hc15
  have hlt : z.1 < ks.length := by omega
  have htn := Frm.take_nodes1 hlt
  refine SC.skip ?_
  refine SE.seq ?_
  refine SC.seq ?_
  refine SC.block ?_
  refine SC.seq (SC.region ?_)
  refine SL.val (Val.indexSl tabOk Tryd.underlying23 rfl rfl rfl rfl (at_map (by omega)) rfl rfl) rfl rfl ?_
  refine SL.val (Val.loadAR tabOk rfl rfl rfl (Frm.abs_len _)) rfl rfl ?_
  refine SL.eff (Eff.alloc tabOk rfl) rfl rfl ?_
  rintro _ _ ⟨b8, rfl, rfl⟩
  refine SL.eff (Eff.store (L' := (ks[z.1]'hlt).abs) tabOk rfl rfl rfl (by repeat first|assumption|exact Upd.here|apply Upd.there) (by exact Frm.abs_len _) (Nat.le_of_ble_eq_true (by rfl)) (by exact Frm.abs_ones _) (putL_whole (by exact Frm.abs_len _))) rfl rfl ?_
  rintro _ _ ⟨rfl, rfl⟩
  refine SL.nil (SE.seq ?_)
  refine SC.seq (SC.region ?_)
  refine SL.val (Val.loadA tabOk rfl rfl rfl (by first|(apply Or.inl;(repeat first|assumption|exact m0|apply m1);done)|(apply Or.inr;(repeat first|assumption|exact m0|apply m1);done)) List.not_mem_nil (Frm.abs_len _)) rfl rfl ?_
  refine SL.val (Val.move rfl) rfl rfl ?_
  refine SL.val (Val.addW rfl rfl) rfl rfl ?_
  refine SL.call (ih (ks[z.1]'hlt) (List.getElem_mem hlt) _) Casts.refl (by kernel_rfl) rfl rfl rfl ?_
  refine After.pure (by repeat first|exact .nil|refine .blk (by repeat first|assumption|exact m0|apply m1) ?_|refine .rd (by repeat first|assumption|exact m0|apply m1) ?_|refine .pc (by repeat first|assumption|exact m0|apply m1) ?_|refine .rdpc (by repeat first|assumption|exact m0|apply m1) ?_) (fun _ => rfl) ?_
  intro y
  refine SL.val (Val.move rfl) rfl rfl ?_
  refine SL.val (Val.extract rfl rfl) rfl rfl ?_
  refine SL.val (Val.extract rfl rfl) rfl rfl ?_
  refine SL.val (Val.assign rfl) rfl rfl ?_
  refine SL.val (Val.assign rfl) rfl rfl ?_
  refine SL.nil (SE.seq ?_)
  refine SC.seq (SC.region ?_)
  refine SL.val (Val.move rfl) rfl rfl ?_
  refine SL.val (Val.move rfl) rfl rfl ?_
  refine SL.val (Val.addW rfl rfl) rfl rfl ?_
  refine SL.val (Val.assign rfl) rfl rfl ?_
  refine SL.nil (SE.seq ?_)
  refine SC.seq (SC.region ?_)
  refine SL.val (Val.move rfl) rfl rfl ?_
  refine SL.val (Val.notB rfl) rfl rfl ?_
  refine SL.val (Val.move rfl) rfl rfl ?_
  refine SL.both (t := 30) rfl ?_ ?_
  · intro hc30
    iterate 2 refine SL.skip rfl rfl ?_
    refine SL.val (Val.pickT rfl rfl) rfl rfl ?_
    refine SL.nil (SE.seq ?_)
    refine SC.condT rfl ?_
    refine SC.seq (SC.region ?_)
    refine SL.val (Val.move rfl) rfl rfl ?_
    refine SL.val (Val.assign rfl) rfl rfl ?_
    refine SL.val (Val.assign rfl) rfl rfl ?_
    refine SL.nil (SE.seq ?_)
    refine SC.ret ?_
    refine SE.ret ?_
    refine SE.then_ (by intro h; cases h) ?_
    refine SE.then_ (by intro h; cases h) ?_
    refine SE.ret ?_
    refine SE.then_ (by intro h; cases h) ?_
    refine SE.fin (rs := [.tmp 4, .tmp 5]) rfl (RV.tmp rfl (RV.tmp rfl RV.nil)) (⟨(IntKind.i64.wrap (z.2 + y.1.1), false), fun h => (by cases h)⟩) (by repeat first|exact s0 _|exact s1 _|apply s2|apply s3) (by simp [It.rids]) ?_
    exact rfl
  intro hc30
  have hok : y.1.2 = true := by simpa using hc30
  obtain ⟨hy1, hy2⟩ := y.2 hok
  have hw : IntKind.i64.wrap (z.2 + y.1.1) = z.2 + y.1.1 := wrap_id (by simp only [InR, lo, hi]; omega)
  refine SL.val (Val.move rfl) rfl rfl ?_
  refine SL.val (Val.gtI rfl rfl) rfl rfl ?_
  refine SL.val (Val.pickF rfl rfl) rfl rfl ?_
  refine SL.nil (SE.seq ?_)
  refine SC.condP rfl ?_ ?_
  rotate_left
  · intro hc33
    refine SC.skip ?_
    refine SE.inBlock ?_
    refine SE.seq ?_
    refine SC.region ?_
    first
      | refine SL.val (Val.addI rfl rfl (by simp only [InR, lo, hi]; omega)) rfl rfl ?_
      | refine SL.val (Val.addW rfl rfl) rfl rfl ?_
    refine SL.val (Val.move rfl) rfl rfl ?_
    refine SL.nil ?_
    refine SE.round (z.1 + 1, IntKind.i64.wrap (z.2 + y.1.1)) (by first | omega | (dsimp only; omega)) (⟨by dsimp only; omega, by dsimp only; rw [hw]; omega, by dsimp only; omega⟩) (by exact ⟨rfl, rfl, rfl, rfl, rfl, rfl, trivial⟩) (by repeat first|exact s0 _|exact s1 _|apply s2|apply s3)
  intro hc33
  refine SC.seq (SC.region ?_)
  refine SL.val (Val.move rfl) rfl rfl ?_
  refine SL.val (Val.assign rfl) rfl rfl ?_
  refine SL.val (Val.assign rfl) rfl rfl ?_
  refine SL.nil (SE.seq ?_)
  refine SC.ret ?_
  refine SE.ret ?_
  refine SE.then_ (by intro h; cases h) ?_
  refine SE.then_ (by intro h; cases h) ?_
  refine SE.ret ?_
  refine SE.then_ (by intro h; cases h) ?_
  refine SE.fin (rs := [.tmp 4, .tmp 5]) rfl (RV.tmp rfl (RV.tmp rfl RV.nil)) (⟨(IntKind.i64.wrap (z.2 + y.1.1), false), fun h => (by cases h)⟩) (by repeat first|exact s0 _|exact s1 _|apply s2|apply s3) (by simp [It.rids]) ?_
  exact rfl
theorem few_s (f : Frm) : ∀ d : Int, Spec Tryd.prog 10 [.agg f.abs, int d] [] (fun _ : {z : Int × Bool // z.2 = true → z.1 = f.nodes ∧ f.nodes ≤ 201} => []) (fun z => .tup [int z.1.1, boo z.1.2]) := Frm.ind (p := fun f => ∀ d : Int, Spec Tryd.prog 10 [.agg f.abs, int d] [] (fun _ : {z : Int × Bool // z.2 = true → z.1 = f.nodes ∧ f.nodes ≤ 201} => []) (fun z => .tup [int z.1.1, boo z.1.2])) (fun o a ks ih d => few_step ih) f
end
end Go.Proofs.YthaahcdfnmfihaaDoor.A
/-
  Policies' texts, plain: blanks put in letter by letter.
-/
set_option maxRecDepth 100000
set_option linter.unusedSimpArgs false
set_option linter.unusedVariables false
namespace Go.Proofs.YthaahcdfnmfihaaDoor.A
open Go.RowKit

/-- The last letter, p if there is none. -/
def la : UInt8 → Txt → UInt8
  | p, [] => p
  | _, c :: t => la c t
theorem la_snoc : ∀ (t : Txt) (p c : UInt8), la p (t ++ [c]) = c
  | [], _, _ => rfl
  | d :: t, _, c => la_snoc t d c
theorem Pad.snoc {p c : UInt8} {t u : Txt} {m : Nat} (h : Pad p t u) (hm : m = 0 ∨ opn (la p t) = true ∨ spc c = true) : Pad p (t ++ [c]) (u ++ List.replicate m 32 ++ [c]) := by
  induction h with
  | nil => exact .cons m hm .nil
  | cons k hk _ ih =>
    have := Pad.cons k hk (ih hm)
    simpa only [List.append_assoc, List.cons_append] using this
/-- Blanks may stand ahead of this letter. -/
def OkB (s : Txt) (i m : Nat) : Prop := m = 0 ∨ (∃ h : i < s.length, spc s[i] = true) ∨ (∃ h : i - 1 < s.length, 0 < i ∧ opn s[i - 1] = true)
theorem pad_next {s u : Txt} {i m : Nat} (h : i < s.length) (hp : Pad 0 (s.take i) u) (hm : OkB s i m) : Pad 0 (s.take (i + 1)) (u ++ List.replicate m 32 ++ [s[i]]) := by
  rw [List.take_succ_eq_append_getElem h]
  refine hp.snoc ?_
  rcases hm with hm | ⟨_, hm⟩ | ⟨h1, h0, hm⟩
  · exact .inl hm
  · exact .inr (.inr hm)
  · refine .inr (.inl ?_)
    obtain ⟨j, rfl⟩ : ∃ j, i = j + 1 := ⟨i - 1, (by omega)⟩
    rw [List.take_succ_eq_append_getElem (by omega), la_snoc]
    exact hm
theorem spc_of {c : UInt8} (h : c.toNat = 40 ∨ c.toNat = 44 ∨ c.toNat = 41) : spc c = true := by
  unfold spc
  rw [decide_eq_true_iff]
  rcases h with h | h | h
  · exact .inl (UInt8.toNat_inj.1 h)
  · exact .inr (.inl (UInt8.toNat_inj.1 h))
  · exact .inr (.inr (UInt8.toNat_inj.1 h))
theorem opn_of {c : UInt8} (h : c.toNat = 40 ∨ c.toNat = 44) : opn c = true := by
  unfold opn
  rw [decide_eq_true_iff]
  rcases h with h | h
  · exact .inl (UInt8.toNat_inj.1 h)
  · exact .inr (UInt8.toNat_inj.1 h)
theorem cut_one {s : Txt} {i : Nat} (h : i < s.length) : (s.take (i + 1)).drop i = [s[i]] := by
  rw [List.take_succ_eq_append_getElem h, List.drop_append_of_le_length (by rw [List.length_take]; omega), List.drop_of_length_le (by rw [List.length_take]; omega)]
  rfl
end Go.Proofs.YthaahcdfnmfihaaDoor.A
/-
  Policies' texts: the law TermsBlanks, walked.
-/
set_option maxRecDepth 100000
set_option linter.unusedSimpArgs false
set_option linter.unusedVariables false
namespace Go.Proofs.YthaahcdfnmfihaaDoor.A
open Go.RowKit

section
variable {l r wd : Txt} {i : Nat} {n o a d : Int} {ks : List Frm} {f : Frm} {es er : Value}
theorem st_one {s : Txt} (h : i < s.length) : Abs.v (.string ((ByteArray.mk s.toArray).extract i (i + 1))) = stA [s[i]] :=
  congrArg (fun s => Abs.v (.string s)) (tx_inj (by rw [tx_cut, tx_mk, tx_mk, cut_one h]))
set_option maxHeartbeats 4000000 in
theorem blanks_law (he : isIf es) (hr : isIf er) : Spec Tryd.prog 5 [.agg f.abs, byt l] (globs es er) (fun _ : Unit => []) (fun _ => boo true) := by
  have hsl := printF_len f
  refine spec_of Tryd.func5 rfl Tryd.ntmps5 rfl fun G w => ?_
  refine SC.seq (SC.region ?_)
  refine SL.eff (Eff.boxA (cs := f.abs) rfl) rfl rfl ?_
  rintro _ _ ⟨b2, rfl, rfl⟩
  refine SL.val (Val.assign rfl) rfl rfl ?_
  refine SL.nil (SE.seq ?_)
  refine SC.seq ?_
  refine SC.seq (SC.region ?_)
  refine SL.call (fixed_s he hr) Casts.refl (by kernel_rfl) rfl rfl rfl ?_
  refine After.pure (by repeat (first | exact Reads.nil | (refine Reads.blk ?_ ?_; focus ((repeat first|assumption|exact m0|apply m1); done)) | (refine Reads.rd ?_ ?_; focus ((repeat first|assumption|exact m0|apply m1); done)) | (refine Reads.pc ?_ ?_; focus ((repeat first|assumption|exact m0|apply m1); done)) | (refine Reads.rdpc ?_ ?_; focus ((repeat first|assumption|exact m0|apply m1); done)))) (fun _ => rfl) ?_
  intro _
  refine SL.val (Val.notB rfl) rfl rfl ?_
  refine SL.nil (SE.seq ?_)
  refine SC.cond rfl (by intro hc13; exfalso; cases hc13) ?_
  intro hc13
  refine SC.skip ?_
  refine SE.seq ?_
  refine SC.seq ?_
  refine SC.seq (SC.region ?_)
  refine SL.val (Val.loadA tabOk rfl rfl rfl (by first|(apply Or.inl;(repeat first|assumption|exact m0|apply m1);done)|(apply Or.inr;(repeat first|assumption|exact m0|apply m1);done)) List.not_mem_nil (Frm.abs_len _)) rfl rfl ?_
  refine SL.call (few_s f 1) Casts.refl (by kernel_rfl) rfl rfl rfl ?_
  refine After.pure Reads.nil (fun _ => rfl) ?_
  intro y
  refine SL.val (Val.move rfl) rfl rfl ?_
  refine SL.val (Val.extract rfl rfl) rfl rfl ?_
  refine SL.val (Val.extract rfl rfl) rfl rfl ?_
  refine SL.val (Val.assign rfl) rfl rfl ?_
  refine SL.val (Val.assign rfl) rfl rfl ?_
  refine SL.nil (SE.seq ?_)
  refine SC.seq (SC.region ?_)
  refine SL.val (Val.move rfl) rfl rfl ?_
  refine SL.val (Val.notB rfl) rfl rfl ?_
  refine SL.val (Val.move rfl) rfl rfl ?_
  refine SL.both (t := 21) rfl ?_ ?_
  · intro hc21
    iterate 3 refine SL.skip rfl rfl ?_
    refine SL.val (Val.pickT rfl rfl) rfl rfl ?_
    refine SL.val (Val.move rfl) rfl rfl ?_
    iterate 3 refine SL.skip rfl rfl ?_
    refine SL.val (Val.pickT rfl rfl) rfl rfl ?_
    refine SL.nil (SE.seq ?_)
    refine SC.condT rfl ?_
    refine SC.seq (SC.region ?_)
    refine SL.val (Val.assign rfl) rfl rfl ?_
    refine SL.nil (SE.seq ?_)
    refine SC.ret ?_
    refine SE.then_ (by intro h; cases h) ?_
    refine SE.fin (rs := [.tmp 4]) rfl (RV.tmp rfl RV.nil) (()) (by repeat first|exact s0 _|exact s1 _|apply s2|apply s3) (by simp [It.rids]) ?_
    exact rfl
  intro hc21
  have hnn := (y.2 (by simpa using hc21)).2
  refine SL.val (Val.loadA tabOk rfl rfl rfl (by first|(apply Or.inl;(repeat first|assumption|exact m0|apply m1);done)|(apply Or.inr;(repeat first|assumption|exact m0|apply m1);done)) List.not_mem_nil (Frm.abs_len _)) rfl rfl ?_
  refine SL.call (rfcheck_s (f := f) (n := 7) (by omega)) Casts.refl (by kernel_rfl) rfl rfl rfl ?_
  refine After.pure Reads.nil (fun _ => rfl) ?_
  intro _
  refine SL.val (Val.neI rfl rfl) rfl rfl ?_
  refine SL.val (Val.pickF rfl rfl) rfl rfl ?_
  refine SL.val (Val.move rfl) rfl rfl ?_
  refine SL.bothP (t := 26) rfl ?_ ?_
  · intro hc26
    iterate 3 refine SL.skip rfl rfl ?_
    refine SL.val (Val.pickT rfl rfl) rfl rfl ?_
    refine SL.nil (SE.seq ?_)
    refine SC.condT rfl ?_
    refine SC.seq (SC.region ?_)
    refine SL.val (Val.assign rfl) rfl rfl ?_
    refine SL.nil (SE.seq ?_)
    refine SC.ret ?_
    refine SE.then_ (by intro h; cases h) ?_
    refine SE.fin (rs := [.tmp 4]) rfl (RV.tmp rfl RV.nil) (()) (by repeat first|exact s0 _|exact s1 _|apply s2|apply s3) (by simp [It.rids]) ?_
    exact rfl
  intro hc26
  have hck : f.check 7 = 0 := Classical.byContradiction hc26
  refine SL.val (Val.move rfl) rfl rfl ?_
  first
    | refine SL.val (Val.lenSl rfl Tryd.underlying36 (List.length_map _)) rfl rfl ?_
    | refine SL.val (Val.lenOwn rfl (by repeat first|assumption|exact m0|apply m1) Tryd.underlying36 (List.length_map _)) rfl rfl ?_
    | refine SL.val (Val.lenNil rfl Tryd.underlying36) rfl rfl ?_
  refine SL.val (Val.gtI rfl rfl) rfl rfl ?_
  refine SL.val (Val.pickF rfl rfl) rfl rfl ?_
  refine SL.nil (SE.seq ?_)
  refine SC.condP rfl ?_ ?_
  · intro hc30
    refine SC.seq (SC.region ?_)
    refine SL.val (Val.assign rfl) rfl rfl ?_
    refine SL.nil (SE.seq ?_)
    refine SC.ret ?_
    refine SE.then_ (by intro h; cases h) ?_
    refine SE.fin (rs := [.tmp 4]) rfl (RV.tmp rfl RV.nil) (()) (by repeat first|exact s0 _|exact s1 _|apply s2|apply s3) (by simp [It.rids]) ?_
    exact rfl
  intro hc30
  refine SC.skip ?_
  refine SE.seq ?_
  refine SC.seq (SC.region ?_)
  refine SL.val (Val.loadA tabOk rfl rfl rfl (by first|(apply Or.inl;(repeat first|assumption|exact m0|apply m1);done)|(apply Or.inr;(repeat first|assumption|exact m0|apply m1);done)) List.not_mem_nil (Frm.abs_len _)) rfl rfl ?_
  refine SL.call (print_s (f := f) (by omega)) Casts.refl (by kernel_rfl) rfl rfl rfl ?_
  refine After.pure Reads.nil (fun _ => rfl) ?_
  intro _
  refine SL.val (Val.assign rfl) rfl rfl ?_
  refine SL.nil (SE.seq ?_)
  refine SC.seq (SC.region ?_)
  refine SL.val (Val.assign rfl) rfl rfl ?_
  refine SL.nil (SE.seq ?_)
  refine SC.seq ?_
  refine SC.seq (SC.region ?_)
  refine SL.val (Val.assign rfl) rfl rfl ?_
  refine SL.nil (SE.seq ?_)
  refine SC.block ?_
  refine SC.loop (ι := Nat × Txt) (fun j => (.blk b2 25 f.abs :: globs es er)) (fun j => [(1, byt l), (2, ptr b2), (7, stA (printF f)), (8, stA j.2), (9, int (j.1 : Nat))]) (fun j => j.1 ≤ (printF f).length ∧ Pad 0 ((printF f).take j.1) j.2 ∧ j.2.length ≤ 4 * j.1) (fun j => (printF f).length - j.1) (0, []) (⟨Nat.zero_le _, .nil, Nat.le_refl _⟩) (by exact ⟨rfl, rfl, rfl, rfl, rfl, trivial⟩) (by repeat first|exact s0 _|exact s1 _|apply s2|apply s3) ?_
  intro j hj
  refine SC.seq ?_
  refine SC.seq (SC.region ?_)
  refine SL.val (Val.move rfl) rfl rfl ?_
  refine SL.val (Val.move rfl) rfl rfl ?_
  refine SL.val (Val.to (C := int (((printF f).length : Nat) : Int)) (Val.lenSt rfl Tryd.underlying9) rfl) rfl rfl ?_
  refine SL.val (Val.ltI rfl rfl) rfl rfl ?_
  refine SL.nil (SE.seq ?_)
  refine SC.condP rfl ?_ ?_
  rotate_left
  · intro hc36
    have hje : j.1 = (printF f).length := by omega
    refine SC.exit ?_
    refine SE.then_ (by intro h; cases h) ?_
    refine SE.then_ (by intro h; cases h) ?_
    refine SE.exit ?_
    refine SE.seq ?_
    refine SC.seq ?_
    refine SC.seq (SC.region ?_)
    refine SL.val (Val.move rfl) rfl rfl ?_
    refine SL.val (Val.to (C := int ((j.2.length : Nat) : Int)) (Val.lenSt rfl Tryd.underlying9) rfl) rfl rfl ?_
    refine SL.val (Val.gtI rfl rfl) rfl rfl ?_
    refine SL.nil (SE.seq ?_)
    refine SC.condP rfl ?_ ?_
    · intro hc98
      refine SC.seq (SC.region ?_)
      refine SL.val (Val.assign rfl) rfl rfl ?_
      refine SL.nil (SE.seq ?_)
      refine SC.ret ?_
      refine SE.then_ (by intro h; cases h) ?_
      refine SE.fin (rs := [.tmp 4]) rfl (RV.tmp rfl RV.nil) (()) (by repeat first|exact s0 _|exact s1 _|apply s2|apply s3) (by simp [It.rids]) ?_
      exact rfl
    intro hc98
    have hpb := parse_back (f := f) (n := 7) (u := j.2) hck (by omega) (by have h9 := hj.2.1; rw [hje, List.take_length] at h9; exact h9)
    refine SC.skip ?_
    refine SE.seq ?_
    refine SC.seq (SC.region ?_)
    refine SL.val (Val.move rfl) rfl rfl ?_
    refine SL.call (parse_s (l := j.2) (n := 7) he hr) Casts.refl (by kernel_rfl) rfl rfl rfl ?_
    refine After.pure (by repeat (first | exact Reads.nil | (refine Reads.blk ?_ ?_; focus ((repeat first|assumption|exact m0|apply m1); done)) | (refine Reads.rd ?_ ?_; focus ((repeat first|assumption|exact m0|apply m1); done)) | (refine Reads.pc ?_ ?_; focus ((repeat first|assumption|exact m0|apply m1); done)) | (refine Reads.rdpc ?_ ?_; focus ((repeat first|assumption|exact m0|apply m1); done)))) (fun _ => rfl) ?_
    intro _
    rw [hpb]
    refine SL.val (Val.move rfl) rfl rfl ?_
    refine SL.val (Val.extract rfl rfl) rfl rfl ?_
    refine SL.val (Val.extract rfl rfl) rfl rfl ?_
    refine SL.eff (Eff.alloc tabOk rfl) rfl rfl ?_
    rintro _ _ ⟨b10, rfl, rfl⟩
    refine SL.eff (Eff.store (L' := f.abs) tabOk rfl rfl rfl (by repeat first|assumption|exact Upd.here|apply Upd.there) (by exact Frm.abs_len _) (Nat.le_of_ble_eq_true (by rfl)) (by exact Frm.abs_ones _) (putL_whole (by exact Frm.abs_len _))) rfl rfl ?_
    rintro _ _ ⟨rfl, rfl⟩
    refine SL.val (Val.assign rfl) rfl rfl ?_
    refine SL.nil (SE.seq ?_)
    refine SC.seq (SC.region ?_)
    refine SL.val (Val.move rfl) rfl rfl ?_
    refine SL.val (Val.eqI rfl rfl) rfl rfl ?_
    refine SL.val (Val.move rfl) rfl rfl ?_
    refine SL.bothP (t := 106) rfl ?_ (by intro hc106; exfalso; exact hc106 rfl)
    intro hc106
    refine SL.val (Val.loadA tabOk rfl rfl rfl (by first|(apply Or.inl;(repeat first|assumption|exact m0|apply m1);done)|(apply Or.inr;(repeat first|assumption|exact m0|apply m1);done)) List.not_mem_nil (Frm.abs_len _)) rfl rfl ?_
    refine SL.val (Val.loadA tabOk rfl rfl rfl (by first|(apply Or.inl;(repeat first|assumption|exact m0|apply m1);done)|(apply Or.inr;(repeat first|assumption|exact m0|apply m1);done)) List.not_mem_nil (Frm.abs_len _)) rfl rfl ?_
    refine SL.call (same_s f (by omega)) Casts.refl (by kernel_rfl) rfl rfl rfl ?_
    refine After.pure Reads.nil (fun _ => rfl) ?_
    intro _
    refine SL.val (Val.pickT rfl rfl) rfl rfl ?_
    refine SL.val (Val.assign rfl) rfl rfl ?_
    refine SL.nil (SE.seq ?_)
    refine SC.ret ?_
    refine SE.fin (rs := [.tmp 4]) rfl (RV.tmp rfl RV.nil) (()) (by repeat first|exact s0 _|exact s1 _|apply s2|apply s3) (by simp [It.rids]) ?_
    exact rfl
  intro hc36
  have hq : j.1 < (printF f).length := by omega
  refine SC.skip ?_
  refine SE.seq ?_
  refine SC.seq ?_
  refine SC.block ?_
  refine SC.cutS (ι := Nat) (fun z => (.blk b2 25 f.abs :: globs es er)) (fun z => [(1, byt l), (2, ptr b2), (7, stA (printF f)), (8, stA (j.2 ++ List.replicate z 32)), (9, int (j.1 : Nat))]) (fun z => z ≤ 3 ∧ OkB (printF f) j.1 z) ?_ ?_
  · skip
    refine SC.seq (SC.region ?_)
    refine SL.val (Val.move rfl) rfl rfl ?_
    refine SL.val (Val.move rfl) rfl rfl ?_
    first
      | refine SL.val (Val.lenSl rfl Tryd.underlying36 (List.length_map _)) rfl rfl ?_
      | refine SL.val (Val.lenOwn rfl (by repeat first|assumption|exact m0|apply m1) Tryd.underlying36 (List.length_map _)) rfl rfl ?_
      | refine SL.val (Val.lenNil rfl Tryd.underlying36) rfl rfl ?_
    refine SL.val (Val.ltI rfl rfl) rfl rfl ?_
    refine SL.val (Val.move rfl) rfl rfl ?_
    refine SL.bothP (t := 43) rfl ?_ ?_
    rotate_left
    · intro hc43
      iterate 34 refine SL.skip rfl rfl ?_
      refine SL.val (Val.pickF rfl rfl) rfl rfl ?_
      refine SL.nil (SE.seq ?_)
      refine SC.condF rfl ?_
      refine SC.skip ?_
      refine SE.meet (0) (⟨by omega, .inl rfl⟩) (by exact ⟨rfl, rfl, rfl, congrArg (fun l : Txt => some (stA l)) (List.append_nil _).symm, rfl, trivial⟩) (by repeat first|exact s0 _|exact s1 _|apply s2|apply s3)
    intro hc43
    have hjl : j.1 < l.length := by omega
    have hm4 := Nat.mod_lt (l[j.1]'hjl).toNat (show 0 < 4 by omega)
    refine SL.val (Val.move rfl) rfl rfl ?_
    refine SL.val (Val.move rfl) rfl rfl ?_
    refine SL.val (Val.to (C := .v (.int .u8 ((((printF f)[j.1]'hq).toNat : Nat)))) (Val.indexSt (s := ⟨(printF f).toArray⟩) (q := j.1) rfl rfl (by first | rfl | omega) hq Tryd.underlying9) rfl) rfl rfl ?_
    refine SL.val (Val.eqI rfl rfl) rfl rfl ?_
    refine SL.val (Val.move rfl) rfl rfl ?_
    refine SL.bothP (t := 48) rfl ?_ ?_
    · intro hc48
      iterate 4 refine SL.skip rfl rfl ?_
      refine SL.val (Val.pickT rfl rfl) rfl rfl ?_
      refine SL.val (Val.move rfl) rfl rfl ?_
      iterate 4 refine SL.skip rfl rfl ?_
      refine SL.val (Val.pickT rfl rfl) rfl rfl ?_
      refine SL.val (Val.move rfl) rfl rfl ?_
      iterate 16 refine SL.skip rfl rfl ?_
      refine SL.val (Val.pickT rfl rfl) rfl rfl ?_
      refine SL.val (Val.pickT rfl rfl) rfl rfl ?_
      refine SL.nil (SE.seq ?_)
      refine SC.condT rfl ?_
      refine SC.seq (SC.region ?_)
      refine SL.val (Val.move rfl) rfl rfl ?_
      refine SL.val (Val.move rfl) rfl rfl ?_
      refine SL.val (Val.indexSl tabOk Tryd.underlying36 rfl rfl rfl rfl (at_map (by omega)) rfl rfl) rfl rfl ?_
      refine SL.val (Val.load1R tabOk rfl rfl rfl) rfl rfl ?_
      refine SL.val (Val.to (C := .v (.int .u8 (((l[j.1]'hjl).toNat % 4 : Nat) : Int))) (Val.remI rfl rfl (by omega)) (congrArg (fun x : Int => Abs.v (.int .u8 x)) (by omega))) rfl rfl ?_
      refine SL.val (Val.move rfl) rfl rfl ?_
      refine SL.nil (SE.seq ?_)
      refine SC.block ?_
      refine SC.loop (ι := Nat) (fun x => (.blk b2 25 f.abs :: globs es er)) (fun x => [(1, byt l), (2, ptr b2), (7, stA (printF f)), (8, stA (j.2 ++ List.replicate x 32)), (9, int (j.1 : Nat)), (83, .v (.int .u8 (((l[j.1]'hjl).toNat % 4 : Nat) : Int))), (84, .v (.int .u8 (x : Nat)))]) (fun x => x ≤ (l[j.1]'hjl).toNat % 4) (fun x => (l[j.1]'hjl).toNat % 4 - x) (0) (Nat.zero_le _) (by exact ⟨rfl, rfl, rfl, congrArg (fun l : Txt => some (stA l)) (List.append_nil _).symm, rfl, rfl, rfl, trivial⟩) (by repeat first|exact s0 _|exact s1 _|apply s2|apply s3) ?_
      intro x hx
      refine SC.seq (SC.region ?_)
      refine SL.val (Val.ltI rfl rfl) rfl rfl ?_
      refine SL.nil (SE.seq ?_)
      refine SC.seq ?_
      refine SC.condP rfl ?_ ?_
      rotate_left
      · intro hc85
        refine SC.exit ?_
        refine SE.then_ (by intro h; cases h) ?_
        refine SE.then_ (by intro h; cases h) ?_
        refine SE.exit ?_
        refine SE.meet (x) (⟨by have h4 := Nat.mod_lt (l[j.1]'hjl).toNat (show 0 < 4 by omega); omega, .inr (.inl ⟨hq, spc_of (by omega)⟩)⟩) (by exact ⟨rfl, rfl, rfl, rfl, rfl, trivial⟩) (by repeat first|exact s0 _|exact s1 _|apply s2|apply s3)
      intro hc85
      refine SC.skip ?_
      refine SE.seq ?_
      refine SC.seq ?_
      refine SC.block ?_
      refine SC.region ?_
      refine SL.val (Val.move rfl) rfl rfl ?_
      refine SL.val (Val.to (C := stA ((j.2 ++ List.replicate x 32) ++ [32])) (Val.addS rfl rfl (by simp only [tx_size, List.length_append, List.length_cons, List.length_nil, List.length_replicate]; omega)) (st_add _ _)) rfl rfl ?_
      refine SL.val (Val.assign rfl) rfl rfl ?_
      refine SL.nil ?_
      refine SE.inBlock ?_
      refine SE.seq ?_
      refine SC.region ?_
      refine SL.val (Val.addI rfl rfl (by simp only [InR, lo, hi]; omega)) rfl rfl ?_
      refine SL.val (Val.move rfl) rfl rfl ?_
      refine SL.nil ?_
      refine SE.round (x + 1) (by first | omega | (dsimp only; omega)) (by first | omega | (dsimp only; omega)) (by exact ⟨rfl, rfl, rfl, congrArg (fun l : Txt => some (stA l)) (by rw [List.replicate_succ', List.append_assoc]), rfl, rfl, rfl, trivial⟩) (by repeat first|exact s0 _|exact s1 _|apply s2|apply s3)
    intro hc48
    refine SL.val (Val.move rfl) rfl rfl ?_
    refine SL.val (Val.move rfl) rfl rfl ?_
    refine SL.val (Val.to (C := .v (.int .u8 ((((printF f)[j.1]'hq).toNat : Nat)))) (Val.indexSt (s := ⟨(printF f).toArray⟩) (q := j.1) rfl rfl (by first | rfl | omega) hq Tryd.underlying9) rfl) rfl rfl ?_
    refine SL.val (Val.eqI rfl rfl) rfl rfl ?_
    refine SL.val (Val.pickF rfl rfl) rfl rfl ?_
    refine SL.val (Val.move rfl) rfl rfl ?_
    refine SL.bothP (t := 54) rfl ?_ ?_
    · intro hc54
      iterate 4 refine SL.skip rfl rfl ?_
      refine SL.val (Val.pickT rfl rfl) rfl rfl ?_
      refine SL.val (Val.move rfl) rfl rfl ?_
      iterate 16 refine SL.skip rfl rfl ?_
      refine SL.val (Val.pickT rfl rfl) rfl rfl ?_
      refine SL.val (Val.pickT rfl rfl) rfl rfl ?_
      refine SL.nil (SE.seq ?_)
      refine SC.condT rfl ?_
      refine SC.seq (SC.region ?_)
      refine SL.val (Val.move rfl) rfl rfl ?_
      refine SL.val (Val.move rfl) rfl rfl ?_
      refine SL.val (Val.indexSl tabOk Tryd.underlying36 rfl rfl rfl rfl (at_map (by omega)) rfl rfl) rfl rfl ?_
      refine SL.val (Val.load1R tabOk rfl rfl rfl) rfl rfl ?_
      refine SL.val (Val.to (C := .v (.int .u8 (((l[j.1]'hjl).toNat % 4 : Nat) : Int))) (Val.remI rfl rfl (by omega)) (congrArg (fun x : Int => Abs.v (.int .u8 x)) (by omega))) rfl rfl ?_
      refine SL.val (Val.move rfl) rfl rfl ?_
      refine SL.nil (SE.seq ?_)
      refine SC.block ?_
      refine SC.loop (ι := Nat) (fun x => (.blk b2 25 f.abs :: globs es er)) (fun x => [(1, byt l), (2, ptr b2), (7, stA (printF f)), (8, stA (j.2 ++ List.replicate x 32)), (9, int (j.1 : Nat)), (83, .v (.int .u8 (((l[j.1]'hjl).toNat % 4 : Nat) : Int))), (84, .v (.int .u8 (x : Nat)))]) (fun x => x ≤ (l[j.1]'hjl).toNat % 4) (fun x => (l[j.1]'hjl).toNat % 4 - x) (0) (Nat.zero_le _) (by exact ⟨rfl, rfl, rfl, congrArg (fun l : Txt => some (stA l)) (List.append_nil _).symm, rfl, rfl, rfl, trivial⟩) (by repeat first|exact s0 _|exact s1 _|apply s2|apply s3) ?_
      intro x hx
      refine SC.seq (SC.region ?_)
      refine SL.val (Val.ltI rfl rfl) rfl rfl ?_
      refine SL.nil (SE.seq ?_)
      refine SC.seq ?_
      refine SC.condP rfl ?_ ?_
      rotate_left
      · intro hc85
        refine SC.exit ?_
        refine SE.then_ (by intro h; cases h) ?_
        refine SE.then_ (by intro h; cases h) ?_
        refine SE.exit ?_
        refine SE.meet (x) (⟨by have h4 := Nat.mod_lt (l[j.1]'hjl).toNat (show 0 < 4 by omega); omega, .inr (.inl ⟨hq, spc_of (by omega)⟩)⟩) (by exact ⟨rfl, rfl, rfl, rfl, rfl, trivial⟩) (by repeat first|exact s0 _|exact s1 _|apply s2|apply s3)
      intro hc85
      refine SC.skip ?_
      refine SE.seq ?_
      refine SC.seq ?_
      refine SC.block ?_
      refine SC.region ?_
      refine SL.val (Val.move rfl) rfl rfl ?_
      refine SL.val (Val.to (C := stA ((j.2 ++ List.replicate x 32) ++ [32])) (Val.addS rfl rfl (by simp only [tx_size, List.length_append, List.length_cons, List.length_nil, List.length_replicate]; omega)) (st_add _ _)) rfl rfl ?_
      refine SL.val (Val.assign rfl) rfl rfl ?_
      refine SL.nil ?_
      refine SE.inBlock ?_
      refine SE.seq ?_
      refine SC.region ?_
      refine SL.val (Val.addI rfl rfl (by simp only [InR, lo, hi]; omega)) rfl rfl ?_
      refine SL.val (Val.move rfl) rfl rfl ?_
      refine SL.nil ?_
      refine SE.round (x + 1) (by first | omega | (dsimp only; omega)) (by first | omega | (dsimp only; omega)) (by exact ⟨rfl, rfl, rfl, congrArg (fun l : Txt => some (stA l)) (by rw [List.replicate_succ', List.append_assoc]), rfl, rfl, rfl, trivial⟩) (by repeat first|exact s0 _|exact s1 _|apply s2|apply s3)
    intro hc54
    refine SL.val (Val.move rfl) rfl rfl ?_
    refine SL.val (Val.move rfl) rfl rfl ?_
    refine SL.val (Val.to (C := .v (.int .u8 ((((printF f)[j.1]'hq).toNat : Nat)))) (Val.indexSt (s := ⟨(printF f).toArray⟩) (q := j.1) rfl rfl (by first | rfl | omega) hq Tryd.underlying9) rfl) rfl rfl ?_
    refine SL.val (Val.eqI rfl rfl) rfl rfl ?_
    refine SL.val (Val.pickF rfl rfl) rfl rfl ?_
    refine SL.val (Val.move rfl) rfl rfl ?_
    refine SL.bothP (t := 60) rfl ?_ ?_
    · intro hc60
      iterate 16 refine SL.skip rfl rfl ?_
      refine SL.val (Val.pickT rfl rfl) rfl rfl ?_
      refine SL.val (Val.pickT rfl rfl) rfl rfl ?_
      refine SL.nil (SE.seq ?_)
      refine SC.condT rfl ?_
      refine SC.seq (SC.region ?_)
      refine SL.val (Val.move rfl) rfl rfl ?_
      refine SL.val (Val.move rfl) rfl rfl ?_
      refine SL.val (Val.indexSl tabOk Tryd.underlying36 rfl rfl rfl rfl (at_map (by omega)) rfl rfl) rfl rfl ?_
      refine SL.val (Val.load1R tabOk rfl rfl rfl) rfl rfl ?_
      refine SL.val (Val.to (C := .v (.int .u8 (((l[j.1]'hjl).toNat % 4 : Nat) : Int))) (Val.remI rfl rfl (by omega)) (congrArg (fun x : Int => Abs.v (.int .u8 x)) (by omega))) rfl rfl ?_
      refine SL.val (Val.move rfl) rfl rfl ?_
      refine SL.nil (SE.seq ?_)
      refine SC.block ?_
      refine SC.loop (ι := Nat) (fun x => (.blk b2 25 f.abs :: globs es er)) (fun x => [(1, byt l), (2, ptr b2), (7, stA (printF f)), (8, stA (j.2 ++ List.replicate x 32)), (9, int (j.1 : Nat)), (83, .v (.int .u8 (((l[j.1]'hjl).toNat % 4 : Nat) : Int))), (84, .v (.int .u8 (x : Nat)))]) (fun x => x ≤ (l[j.1]'hjl).toNat % 4) (fun x => (l[j.1]'hjl).toNat % 4 - x) (0) (Nat.zero_le _) (by exact ⟨rfl, rfl, rfl, congrArg (fun l : Txt => some (stA l)) (List.append_nil _).symm, rfl, rfl, rfl, trivial⟩) (by repeat first|exact s0 _|exact s1 _|apply s2|apply s3) ?_
      intro x hx
      refine SC.seq (SC.region ?_)
      refine SL.val (Val.ltI rfl rfl) rfl rfl ?_
      refine SL.nil (SE.seq ?_)
      refine SC.seq ?_
      refine SC.condP rfl ?_ ?_
      rotate_left
      · intro hc85
        refine SC.exit ?_
        refine SE.then_ (by intro h; cases h) ?_
        refine SE.then_ (by intro h; cases h) ?_
        refine SE.exit ?_
        refine SE.meet (x) (⟨by have h4 := Nat.mod_lt (l[j.1]'hjl).toNat (show 0 < 4 by omega); omega, .inr (.inl ⟨hq, spc_of (by omega)⟩)⟩) (by exact ⟨rfl, rfl, rfl, rfl, rfl, trivial⟩) (by repeat first|exact s0 _|exact s1 _|apply s2|apply s3)
      intro hc85
      refine SC.skip ?_
      refine SE.seq ?_
      refine SC.seq ?_
      refine SC.block ?_
      refine SC.region ?_
      refine SL.val (Val.move rfl) rfl rfl ?_
      refine SL.val (Val.to (C := stA ((j.2 ++ List.replicate x 32) ++ [32])) (Val.addS rfl rfl (by simp only [tx_size, List.length_append, List.length_cons, List.length_nil, List.length_replicate]; omega)) (st_add _ _)) rfl rfl ?_
      refine SL.val (Val.assign rfl) rfl rfl ?_
      refine SL.nil ?_
      refine SE.inBlock ?_
      refine SE.seq ?_
      refine SC.region ?_
      refine SL.val (Val.addI rfl rfl (by simp only [InR, lo, hi]; omega)) rfl rfl ?_
      refine SL.val (Val.move rfl) rfl rfl ?_
      refine SL.nil ?_
      refine SE.round (x + 1) (by first | omega | (dsimp only; omega)) (by first | omega | (dsimp only; omega)) (by exact ⟨rfl, rfl, rfl, congrArg (fun l : Txt => some (stA l)) (by rw [List.replicate_succ', List.append_assoc]), rfl, rfl, rfl, trivial⟩) (by repeat first|exact s0 _|exact s1 _|apply s2|apply s3)
    intro hc60
    refine SL.val (Val.move rfl) rfl rfl ?_
    refine SL.val (Val.gtI rfl rfl) rfl rfl ?_
    refine SL.val (Val.move rfl) rfl rfl ?_
    refine SL.bothP (t := 63) rfl ?_ ?_
    rotate_left
    · intro hc63
      iterate 12 refine SL.skip rfl rfl ?_
      refine SL.val (Val.pickF rfl rfl) rfl rfl ?_
      refine SL.val (Val.pickF rfl rfl) rfl rfl ?_
      refine SL.val (Val.pickT rfl rfl) rfl rfl ?_
      refine SL.nil (SE.seq ?_)
      refine SC.condF rfl ?_
      refine SC.skip ?_
      refine SE.meet (0) (⟨by omega, .inl rfl⟩) (by exact ⟨rfl, rfl, rfl, congrArg (fun l : Txt => some (stA l)) (List.append_nil _).symm, rfl, trivial⟩) (by repeat first|exact s0 _|exact s1 _|apply s2|apply s3)
    intro hc63
    have hq1 : j.1 - 1 < (printF f).length := by omega
    refine SL.val (Val.move rfl) rfl rfl ?_
    refine SL.val (Val.move rfl) rfl rfl ?_
    first
      | refine SL.val (Val.subI rfl rfl (by simp only [InR, lo, hi]; omega)) rfl rfl ?_
      | refine SL.val (Val.subW rfl rfl) rfl rfl ?_
    refine SL.val (Val.to (C := .v (.int .u8 ((((printF f)[(j.1 - 1)]'hq1).toNat : Nat)))) (Val.indexSt (s := ⟨(printF f).toArray⟩) (q := (j.1 - 1)) rfl rfl (by first | rfl | omega) hq1 Tryd.underlying9) rfl) rfl rfl ?_
    refine SL.val (Val.eqI rfl rfl) rfl rfl ?_
    refine SL.val (Val.move rfl) rfl rfl ?_
    refine SL.bothP (t := 69) rfl ?_ ?_
    · intro hc69
      iterate 5 refine SL.skip rfl rfl ?_
      refine SL.val (Val.pickT rfl rfl) rfl rfl ?_
      refine SL.val (Val.pickT rfl rfl) rfl rfl ?_
      refine SL.val (Val.pickF rfl rfl) rfl rfl ?_
      refine SL.val (Val.pickT rfl rfl) rfl rfl ?_
      refine SL.nil (SE.seq ?_)
      refine SC.condT rfl ?_
      refine SC.seq (SC.region ?_)
      refine SL.val (Val.move rfl) rfl rfl ?_
      refine SL.val (Val.move rfl) rfl rfl ?_
      refine SL.val (Val.indexSl tabOk Tryd.underlying36 rfl rfl rfl rfl (at_map (by omega)) rfl rfl) rfl rfl ?_
      refine SL.val (Val.load1R tabOk rfl rfl rfl) rfl rfl ?_
      refine SL.val (Val.to (C := .v (.int .u8 (((l[j.1]'hjl).toNat % 4 : Nat) : Int))) (Val.remI rfl rfl (by omega)) (congrArg (fun x : Int => Abs.v (.int .u8 x)) (by omega))) rfl rfl ?_
      refine SL.val (Val.move rfl) rfl rfl ?_
      refine SL.nil (SE.seq ?_)
      refine SC.block ?_
      refine SC.loop (ι := Nat) (fun x => (.blk b2 25 f.abs :: globs es er)) (fun x => [(1, byt l), (2, ptr b2), (7, stA (printF f)), (8, stA (j.2 ++ List.replicate x 32)), (9, int (j.1 : Nat)), (83, .v (.int .u8 (((l[j.1]'hjl).toNat % 4 : Nat) : Int))), (84, .v (.int .u8 (x : Nat)))]) (fun x => x ≤ (l[j.1]'hjl).toNat % 4) (fun x => (l[j.1]'hjl).toNat % 4 - x) (0) (Nat.zero_le _) (by exact ⟨rfl, rfl, rfl, congrArg (fun l : Txt => some (stA l)) (List.append_nil _).symm, rfl, rfl, rfl, trivial⟩) (by repeat first|exact s0 _|exact s1 _|apply s2|apply s3) ?_
      intro x hx
      refine SC.seq (SC.region ?_)
      refine SL.val (Val.ltI rfl rfl) rfl rfl ?_
      refine SL.nil (SE.seq ?_)
      refine SC.seq ?_
      refine SC.condP rfl ?_ ?_
      rotate_left
      · intro hc85
        refine SC.exit ?_
        refine SE.then_ (by intro h; cases h) ?_
        refine SE.then_ (by intro h; cases h) ?_
        refine SE.exit ?_
        refine SE.meet (x) (⟨by have h4 := Nat.mod_lt (l[j.1]'hjl).toNat (show 0 < 4 by omega); omega, .inr (.inr ⟨hq1, by omega, opn_of (by omega)⟩)⟩) (by exact ⟨rfl, rfl, rfl, rfl, rfl, trivial⟩) (by repeat first|exact s0 _|exact s1 _|apply s2|apply s3)
      intro hc85
      refine SC.skip ?_
      refine SE.seq ?_
      refine SC.seq ?_
      refine SC.block ?_
      refine SC.region ?_
      refine SL.val (Val.move rfl) rfl rfl ?_
      refine SL.val (Val.to (C := stA ((j.2 ++ List.replicate x 32) ++ [32])) (Val.addS rfl rfl (by simp only [tx_size, List.length_append, List.length_cons, List.length_nil, List.length_replicate]; omega)) (st_add _ _)) rfl rfl ?_
      refine SL.val (Val.assign rfl) rfl rfl ?_
      refine SL.nil ?_
      refine SE.inBlock ?_
      refine SE.seq ?_
      refine SC.region ?_
      refine SL.val (Val.addI rfl rfl (by simp only [InR, lo, hi]; omega)) rfl rfl ?_
      refine SL.val (Val.move rfl) rfl rfl ?_
      refine SL.nil ?_
      refine SE.round (x + 1) (by first | omega | (dsimp only; omega)) (by first | omega | (dsimp only; omega)) (by exact ⟨rfl, rfl, rfl, congrArg (fun l : Txt => some (stA l)) (by rw [List.replicate_succ', List.append_assoc]), rfl, rfl, rfl, trivial⟩) (by repeat first|exact s0 _|exact s1 _|apply s2|apply s3)
    intro hc69
    refine SL.val (Val.move rfl) rfl rfl ?_
    refine SL.val (Val.move rfl) rfl rfl ?_
    first
      | refine SL.val (Val.subI rfl rfl (by simp only [InR, lo, hi]; omega)) rfl rfl ?_
      | refine SL.val (Val.subW rfl rfl) rfl rfl ?_
    refine SL.val (Val.to (C := .v (.int .u8 ((((printF f)[(j.1 - 1)]'hq1).toNat : Nat)))) (Val.indexSt (s := ⟨(printF f).toArray⟩) (q := (j.1 - 1)) rfl rfl (by first | rfl | omega) hq1 Tryd.underlying9) rfl) rfl rfl ?_
    refine SL.val (Val.eqI rfl rfl) rfl rfl ?_
    refine SL.val (Val.pickF rfl rfl) rfl rfl ?_
    refine SL.val (Val.pickT rfl rfl) rfl rfl ?_
    refine SL.val (Val.pickF rfl rfl) rfl rfl ?_
    refine SL.val (Val.pickT rfl rfl) rfl rfl ?_
    refine SL.nil (SE.seq ?_)
    refine SC.condP rfl ?_ ?_
    rotate_left
    · intro hc78
      refine SC.skip ?_
      refine SE.meet (0) (⟨by omega, .inl rfl⟩) (by exact ⟨rfl, rfl, rfl, congrArg (fun l : Txt => some (stA l)) (List.append_nil _).symm, rfl, trivial⟩) (by repeat first|exact s0 _|exact s1 _|apply s2|apply s3)
    intro hc78
    refine SC.seq (SC.region ?_)
    refine SL.val (Val.move rfl) rfl rfl ?_
    refine SL.val (Val.move rfl) rfl rfl ?_
    refine SL.val (Val.indexSl tabOk Tryd.underlying36 rfl rfl rfl rfl (at_map (by omega)) rfl rfl) rfl rfl ?_
    refine SL.val (Val.load1R tabOk rfl rfl rfl) rfl rfl ?_
    refine SL.val (Val.to (C := .v (.int .u8 (((l[j.1]'hjl).toNat % 4 : Nat) : Int))) (Val.remI rfl rfl (by omega)) (congrArg (fun x : Int => Abs.v (.int .u8 x)) (by omega))) rfl rfl ?_
    refine SL.val (Val.move rfl) rfl rfl ?_
    refine SL.nil (SE.seq ?_)
    refine SC.block ?_
    refine SC.loop (ι := Nat) (fun x => (.blk b2 25 f.abs :: globs es er)) (fun x => [(1, byt l), (2, ptr b2), (7, stA (printF f)), (8, stA (j.2 ++ List.replicate x 32)), (9, int (j.1 : Nat)), (83, .v (.int .u8 (((l[j.1]'hjl).toNat % 4 : Nat) : Int))), (84, .v (.int .u8 (x : Nat)))]) (fun x => x ≤ (l[j.1]'hjl).toNat % 4) (fun x => (l[j.1]'hjl).toNat % 4 - x) (0) (Nat.zero_le _) (by exact ⟨rfl, rfl, rfl, congrArg (fun l : Txt => some (stA l)) (List.append_nil _).symm, rfl, rfl, rfl, trivial⟩) (by repeat first|exact s0 _|exact s1 _|apply s2|apply s3) ?_
    intro x hx
    refine SC.seq (SC.region ?_)
    refine SL.val (Val.ltI rfl rfl) rfl rfl ?_
    refine SL.nil (SE.seq ?_)
    refine SC.seq ?_
    refine SC.condP rfl ?_ ?_
    rotate_left
    · intro hc85
      refine SC.exit ?_
      refine SE.then_ (by intro h; cases h) ?_
      refine SE.then_ (by intro h; cases h) ?_
      refine SE.exit ?_
      refine SE.meet (x) (⟨by have h4 := Nat.mod_lt (l[j.1]'hjl).toNat (show 0 < 4 by omega); omega, .inr (.inr ⟨hq1, by omega, opn_of (by omega)⟩)⟩) (by exact ⟨rfl, rfl, rfl, rfl, rfl, trivial⟩) (by repeat first|exact s0 _|exact s1 _|apply s2|apply s3)
    intro hc85
    refine SC.skip ?_
    refine SE.seq ?_
    refine SC.seq ?_
    refine SC.block ?_
    refine SC.region ?_
    refine SL.val (Val.move rfl) rfl rfl ?_
    refine SL.val (Val.to (C := stA ((j.2 ++ List.replicate x 32) ++ [32])) (Val.addS rfl rfl (by simp only [tx_size, List.length_append, List.length_cons, List.length_nil, List.length_replicate]; omega)) (st_add _ _)) rfl rfl ?_
    refine SL.val (Val.assign rfl) rfl rfl ?_
    refine SL.nil ?_
    refine SE.inBlock ?_
    refine SE.seq ?_
    refine SC.region ?_
    refine SL.val (Val.addI rfl rfl (by simp only [InR, lo, hi]; omega)) rfl rfl ?_
    refine SL.val (Val.move rfl) rfl rfl ?_
    refine SL.nil ?_
    refine SE.round (x + 1) (by first | omega | (dsimp only; omega)) (by first | omega | (dsimp only; omega)) (by exact ⟨rfl, rfl, rfl, congrArg (fun l : Txt => some (stA l)) (by rw [List.replicate_succ', List.append_assoc]), rfl, rfl, rfl, trivial⟩) (by repeat first|exact s0 _|exact s1 _|apply s2|apply s3)
  · intro z hz
    refine SC.region ?_
    refine SL.val (Val.move rfl) rfl rfl ?_
    refine SL.val (Val.move rfl) rfl rfl ?_
    refine SL.val (Val.move rfl) rfl rfl ?_
    refine SL.val (Val.move rfl) rfl rfl ?_
    first
      | refine SL.val (Val.addI rfl rfl (by simp only [InR, lo, hi]; omega)) rfl rfl ?_
      | refine SL.val (Val.addW rfl rfl) rfl rfl ?_
    refine SL.val (Val.to (C := stA [(printF f)[j.1]'hq]) (Val.sliceStAt (q := j.1) (q' := j.1 + 1) Tryd.underlying9 rfl rfl rfl rfl (by omega) (by omega) (by simp only [tx_size]; omega)) (st_one hq)) rfl rfl ?_
    refine SL.val (Val.to (C := stA ((j.2 ++ List.replicate z 32) ++ [(printF f)[j.1]'hq])) (Val.addS rfl rfl (by simp only [tx_size, List.length_append, List.length_cons, List.length_nil, List.length_replicate]; omega)) (st_add _ _)) rfl rfl ?_
    refine SL.val (Val.assign rfl) rfl rfl ?_
    refine SL.nil ?_
    refine SE.inBlock ?_
    refine SE.seq ?_
    refine SC.region ?_
    refine SL.val (Val.move rfl) rfl rfl ?_
    first
      | refine SL.val (Val.addI rfl rfl (by simp only [InR, lo, hi]; omega)) rfl rfl ?_
      | refine SL.val (Val.addW rfl rfl) rfl rfl ?_
    refine SL.val (Val.assign rfl) rfl rfl ?_
    refine SL.nil ?_
    refine SE.round (j.1 + 1, j.2 ++ List.replicate z 32 ++ [(printF f)[j.1]'hq]) (by first | omega | (dsimp only; omega)) (⟨hq, pad_next hq hj.2.1 hz.2, by simp only [List.length_append, List.length_cons, List.length_nil, List.length_replicate]; omega⟩) (by exact ⟨rfl, rfl, rfl, rfl, rfl, trivial⟩) (by repeat first|exact s0 _|exact s1 _|apply s2|apply s3)
end
end Go.Proofs.YthaahcdfnmfihaaDoor.A
