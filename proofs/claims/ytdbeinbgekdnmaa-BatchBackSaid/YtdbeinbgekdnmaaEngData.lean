/-
  An engine for walks: rows that are read, and rows of the call's own.
-/
import Derived.Test.YtdbeinbgekdnmaaTab
import Derived.Test.YtdbeinbgekdnmaaBytes
import Derived.Test.YtdbeinbgekdnmaaElems
import Derived.Maps.AppendAt
set_option maxRecDepth 100000
namespace Go.Proofs.Ytdbeinbgekdnmaa
open Go.RowKit

/-- A slice of n elements whose cells are cs, outside the blocks K. -/
structure IsRow (K : List Nat) (w : World) (v : Value) (n : Nat) (cs : List Value) : Prop where
  shape : ∃ A c, v = .slice A n c ∧ n ≤ c ∧ c ≤ maxLen ∧ (A = none → c = 0)
  cells : cs ≠ [] → ∃ b off n' c, v = .slice (some ⟨b, off, none⟩) n' c ∧ b ∉ K ∧ ∀ j u, cs[j]? = some u → w.cell? ⟨b, off + j, none⟩ = some u
section
variable {K K' F : List Nat} {w w' : World} {v : Value} {n : Nat} {cs : List Value}
theorem IsRow.lt (h : IsRow K w v n cs) (hn : cs ≠ []) : ∃ b off n' c, v = .slice (some ⟨b, off, none⟩) n' c ∧ b < w.heap.size := by
  obtain ⟨b, off, n', c, hv, _, hc⟩ := h.cells hn
  refine ⟨b, off, n', c, hv, ?_⟩
  cases cs with
  | nil => exact absurd rfl hn
  | cons u cs =>
    have := hc 0 u rfl
    exact block_lt_of_cell this
theorem IsRow.grow (hK : ∀ k ∈ K', k ∈ K ∨ w.heap.size ≤ k) (h : IsRow K w v n cs) : IsRow K' w v n cs := by
  refine ⟨h.shape, fun hn => ?_⟩
  obtain ⟨b, off, n', c, hv, hb, hc⟩ := h.cells hn
  obtain ⟨b', off', m, c', hv', hlt⟩ := h.lt hn
  rw [hv] at hv'
  simp at hv'
  refine ⟨b, off, n', c, hv, fun hk => ?_, hc⟩
  rcases hK b hk with h1 | h1
  · exact hb h1
  · omega
theorem IsRow.st (hx : Ext F w w') (hF : ∀ k ∈ F, k ∈ K ∨ w.heap.size ≤ k) (h : IsRow K w v n cs) : IsRow K w' v n cs := by
  refine ⟨h.shape, fun hn => ?_⟩
  obtain ⟨b, off, n', c, hv, hb, hc⟩ := h.cells hn
  refine ⟨b, off, n', c, hv, hb, fun j u hu => hx.cell (hc j u hu) fun hk => ?_⟩
  have hlt := block_lt_of_cell (hc j u hu)
  rcases hF b hk with h1 | h1
  · exact hb h1
  · simp at hlt; omega
theorem IsRow.nil (hv : v = .slice none 0 0) : IsRow K w v 0 [] := ⟨⟨none, 0, hv, Nat.le_refl _, Nat.zero_le _, fun _ => rfl⟩, fun h => absurd rfl h⟩
end
/-- A row that is read. -/
def rowD (v : Value) (n : Nat) (cs : List Value) : Dt where
  d := fun K w => IsRow K w v n cs
  grow := fun _ _ _ hK h => h.grow hK
  st := fun _ _ _ _ hx hF h => h.st hx hF
/-- Something of each. -/
def allD {α : Type} (l : List α) (f : α → Dt) : Dt where
  d := fun K w => ∀ x ∈ l, (f x).d K w
  grow := fun K K' w hK h x hx => (f x).grow K K' w hK (h x hx)
  st := fun F K w w' hx hF h x hm => (f x).st F K w w' hx hF (h x hm)
/-- A row of bytes that is read. -/
abbrev bytesD (v : Value) (l : List UInt8) : Dt := rowD v l.length (l.map bc)
theorem isRow_bytes {K : List Nat} {w : World} {v : Value} {l : List UInt8} (h : IsRow K w v l.length (l.map bc)) : BytesV w v l := by
  obtain ⟨A, c, hv, h1, h2, h3⟩ := h.shape
  refine ⟨A, c, hv, h1, h2, h3, fun hn => ?_⟩
  obtain ⟨b, off, n', c', hv', _, hc⟩ := h.cells hn
  rw [hv] at hv'
  simp at hv'
  exact ⟨b, off, hv'.1, hc⟩
/-- Rows of bytes that lie in the memory of before, or are new. -/
theorem bytes_isRow {K : List Nat} {w : World} {v : Value} {l : List UInt8} (h : BytesV w v l) (hK : ∀ b off n c, v = .slice (some ⟨b, off, none⟩) n c → l ≠ [] → b ∉ K) : IsRow K w v l.length (l.map bc) := by
  obtain ⟨A, c, hv, h1, h2, h3, h4⟩ := h
  refine ⟨⟨A, c, hv, h1, h2, h3⟩, fun hn => ?_⟩
  obtain ⟨b, off, rfl, hc⟩ := h4 hn
  exact ⟨b, off, _, c, hv, hK b off _ c hv (by intro h0; subst h0; exact hn rfl), hc⟩

/-- A row of the call's own: n elements of type e, of size cells each. -/
def ownPc (e : TypeId) (size : Nat) (v : Value) (n : Nat) (cs : List Value) : Pc where
  ids := v.ownBlock.toList
  p := fun w => w.ownsRow 0 e size v n cs
  st := fun F w w' hx hF h => by
    have hlt := World.ownsRow.lt h
    refine ⟨h.1, ?_⟩
    rcases h.2 with h2 | ⟨g, cap, cur, rfl, hg, hh, hr⟩
    · exact .inl h2
    · exact .inr ⟨g, cap, cur, rfl, hg, (hx.block g (hlt g rfl).2 (hF g (by simp [Value.ownBlock]))).trans hh, hr⟩
  lt := fun w h k hk => by
    have := World.ownsRow.lt h k (by simpa using hk)
    omega
theorem own_ids {e : TypeId} {size : Nat} {v : Value} {n : Nat} {cs : List Value} : (It.ids (.pc (ownPc e size v n cs))).Nodup := by
  simp only [It.ids, ownPc]
  cases v.ownBlock <;> simp
section
variable {P : Program} {n N : Nat} {l : Slots} {S : List (World × List Nat)} {σ τ : Blks} {ρ : List Dt} {C C' D : World → Prop} {x y z : Operand} {d : Option Nat} {ty t e : TypeId} {pos : String} {aft : Array Edge} {g : Option (Nat × Bool)} {v u : Value} {cs news : List Value} {Q : Exit → Act → World → Prop} {ops : Array Oper} {rest : List Oper} {ix : Plan} {w : World} {b off : Nat} {c : Code}

/-! ### From class to class -/
theorem SC.to (h : ∀ w, C w → C' w) (k : SC P n c l C' Q) : SC P n c l C Q := fun a w hf hw => k a w hf (h w hw)
theorem SL.to (h : ∀ w, C w → C' w) (k : SL P n ops rest l C' Q) : SL P n ops rest l C Q := fun a w hf hw => k a w hf (h w hw)
theorem SC.open_ {α : Type} {K : α → World → Prop} (h : ∀ w, C w → ∃ z, K z w) (k : ∀ z, SC P n c l (K z) Q) : SC P n c l C Q := fun a w hf hw => let ⟨z, hz⟩ := h w hw; k z a w hf hz
theorem SL.open_ {α : Type} {K : α → World → Prop} (h : ∀ w, C w → ∃ z, K z w) (k : ∀ z, SL P n ops rest l (K z) Q) : SL P n ops rest l C Q := fun a w hf hw => let ⟨z, hz⟩ := h w hw; k z a w hf hz
/-- More data out of what is known. -/
theorem SL.more {z : Dt} (h : ∀ w, Mem S σ ρ w → z.d (σ.flatMap It.ids) w) (k : SL P n ops rest l (Mem S σ (z :: ρ)) Q) : SL P n ops rest l (Mem S σ ρ) Q := SL.to (fun w hw => hw.add (h w hw)) k
theorem SC.more {z : Dt} (h : ∀ w, Mem S σ ρ w → z.d (σ.flatMap It.ids) w) (k : SC P n c l (Mem S σ (z :: ρ)) Q) : SC P n c l (Mem S σ ρ) Q := SC.to (fun w hw => hw.add (h w hw)) k
theorem ownsRow.isRow {K : List Nat} {size : Nat} (h : w.ownsRow 0 e size v n cs) (hK : ∀ k, v.ownBlock = some k → k ∉ K) : IsRow K w v n cs := by
  rcases h.2 with ⟨rfl, rfl⟩ | ⟨gb, cap, cur, rfl, _, hh, h1, h2, _, h3⟩
  · have : cs = [] := by have := h.1; simpa using this
    subst this
    exact IsRow.nil rfl
  · refine ⟨⟨_, cap, rfl, h1, h2, by simp⟩, fun _ => ⟨gb, 0, n, cap, rfl, hK gb rfl, fun j u hu => ?_⟩⟩
    rw [Nat.zero_add, cell_of_row w gb j cur e (0, 0) hh]
    rw [← h3, List.getElem?_take] at hu
    split at hu
    · rw [← Array.getElem?_toList]; exact hu
    · cases hu
/-- A row of the call's own becomes data. -/
theorem Mem.freeze {size : Nat} (h : Mem S (.pc (ownPc e size v n cs) :: σ) ρ w) : Mem S σ (rowD v n cs :: ρ) w := by
  have h1 : w.ownsRow 0 e size v n cs := h.hold _ List.mem_cons_self
  refine (h.sub (fun _ h => h) (List.sublist_cons_self _ _)).add (ownsRow.isRow h1 fun k hk hm => ?_)
  have := h.nodup
  simp only [List.flatMap_cons, List.nodup_append] at this
  exact this.2.2 k (by simp [It.ids, ownPc, hk]) k hm rfl
/-- A row of the call's own, nothing in it yet. -/
theorem Mem.own0 (h : Mem S σ ρ w) (e : TypeId) (size : Nat) : Mem S (.pc (ownPc e size (.slice none 0 0) 0 []) :: σ) ρ w :=
  h.new (Ext.refl w) ⟨by simp, .inl ⟨rfl, rfl⟩⟩ own_ids (by simp [It.ids, ownPc, Value.ownBlock])

/-! ### Reading rows -/
theorem row_at {K : List Nat} {A : Option Addr} {m c : Nat} (h : IsRow K w (.slice A m c) n cs) (hn : cs ≠ []) : ∃ b off, A = some ⟨b, off, none⟩ := by
  obtain ⟨b, off, n', c', hv, _⟩ := h.cells hn
  simp at hv
  exact ⟨b, off, hv.1⟩
theorem row_cell {K : List Nat} {m c j : Nat} (h : IsRow K w (.slice (some ⟨b, off, none⟩) m c) n cs) (hu : cs[j]? = some u) : w.cell? ⟨b, off + j, none⟩ = some u := by
  have hn : cs ≠ [] := by rintro rfl; simp at hu
  obtain ⟨b', off', n', c', hv, _, hc⟩ := h.cells hn
  simp at hv
  obtain ⟨⟨rfl, rfl⟩, _⟩ := hv
  exact hc j u hu
/-- A load of one cell of a row that is read. -/
theorem Val.load1D {tab : List (Nat × TI)} (hT : TabOk P tab) {sz m c' j : Nat} {zs : List Value} (ht : ti tab t = some ⟨sz, .one, zs⟩) (hx : look l x = some (.pointer (some ⟨b, off + j, none⟩))) (hr : rowD (.slice (some ⟨b, off, none⟩) m c') N cs ∈ ρ) (hu : cs[j]? = some u) : Val P n l (Mem S σ ρ) ⟨d, .load t x, ty, pos, aft, g⟩ u :=
  Val.load1C hT ht hx fun _ hw => row_cell (hw.data hr) hu
/-- A load of a whole element of a row that is read. -/
theorem Val.loadAD {α : Type} {f : α → List Value} {tab : List (Nat × TI)} (hT : TabOk P tab) {i : TI} {m c' q : Nat} {xs : List α} (ht : ti tab t = some i) (hk : (match i.k with | .one => false | _ => true) = true) (hx : look l x = some (.pointer (some ⟨b, off + q * i.size, none⟩)))
    (hr : rowD (.slice (some ⟨b, off, none⟩) m c') N (xs.flatMap f) ∈ ρ) (hf : ∀ a, (f a).length = i.size) (hq : q < xs.length) : Val P n l (Mem S σ ρ) ⟨d, .load t x, ty, pos, aft, g⟩ (.agg (f xs[q]).toArray) :=
  Val.loadAC hT ht hk hx (hf _) fun _ hw j u hu => by
    have hj : j < i.size := by rw [← hf xs[q]]; exact (List.getElem?_eq_some_iff.1 hu).1
    rw [Nat.add_assoc]
    exact row_cell (hw.data hr) (by rw [flatMap_get hf xs q j hq hj]; exact hu)
/-- A load of one field of an element of a row that is read. -/
theorem Val.load1F {α : Type} {f : α → List Value} {tab : List (Nat × TI)} (hT : TabOk P tab) {sz s m c' q fo : Nat} {zs : List Value} {xs : List α} (ht : ti tab t = some ⟨sz, .one, zs⟩) (hx : look l x = some (.pointer (some ⟨b, off + q * s + fo, none⟩)))
    (hr : rowD (.slice (some ⟨b, off, none⟩) m c') N (xs.flatMap f) ∈ ρ) (hf : ∀ a, (f a).length = s) (hq : q < xs.length) (hu : (f xs[q])[fo]? = some u) : Val P n l (Mem S σ ρ) ⟨d, .load t x, ty, pos, aft, g⟩ u :=
  Val.load1C hT ht hx fun _ hw => by
    have hj : fo < s := by rw [← hf xs[q]]; exact (List.getElem?_eq_some_iff.1 hu).1
    rw [Nat.add_assoc]
    exact row_cell (hw.data hr) (by rw [flatMap_get hf xs q fo hq hj]; exact hu)

/-! ### append -/
theorem upd_mid {x y : It} {post : Blks} : ∀ pre : Blks, Upd x y (pre ++ x :: post) (pre ++ y :: post)
  | [] => .here
  | _ :: pre => .there (upd_mid pre)
theorem bytes_of {t : TypeId} {I : TypeInfo} (h : P.info? t = some I) : P.bytesOf t = I.bytes := by simp [Program.bytesOf, h]
theorem run_appendRow {tab : List (Nat × TI)} (hT : TabOk P tab) {i : TI} {m k c' : Nat} {A : Option Addr} (hu : P.underlying t = some (.slice e)) (hi : ti tab e = some i) (hby : (k + m) * P.bytesOf e ≤ 140737488355328) (hpos : Nat.blt 0 i.size = true)
    (own : w.ownsRow 0 e i.size v k cs) {K : List Nat} (hr : IsRow K w (.slice A m c') m news) (hl : news.length = m * i.size) (h1 : ∀ u ∈ news, u.oneCell' = true) (hm : k + m ≤ maxLen) :
    ∃ v' w', (Builtin.append_ #[t, t] ty #[v, .slice A m c']).run P w = .ok v' w' ∧ w'.ownsRow 0 e i.size v' (k + m) (cs ++ news) ∧ w.grownBy w' v.ownBlock ∧ (v'.ownBlock = v.ownBlock ∨ v'.ownBlock = some w.heap.size) := by
  obtain ⟨I, hI, hs, z, hz, hzc⟩ := (hT e i hi).info
  have hlen := (hT e i hi).len
  have hb := bytes_of hI
  have hp : 0 < i.size := by simpa [Nat.blt_eq] using hpos
  by_cases hm0 : m = 0
  · subst hm0
    have hn : news = [] := by simpa using hl
    subst hn
    refine ⟨v, w, ?_, by simpa using own, World.grownBy.refl w _, .inl rfl⟩
    rcases A with _ | ad
    · obtain ⟨A', c2, he, _, _, h0⟩ := hr.shape
      simp at he
      obtain ⟨rfl, rfl⟩ := he
      have := h0 rfl
      subst this
      rcases own.2 with ⟨rfl, h0⟩ | ⟨g, cap, cur, rfl, _, _, hnc, _⟩
      · simp [Builtin.append_, run_underlying hu, sizeOf, typeInfo, hI, Builtin.lenOf, Builtin.firstCells]
      · simp [Builtin.append_, run_underlying hu, sizeOf, typeInfo, hI, Builtin.lenOf, Builtin.firstCells, hnc, storeCells]
    · rcases own.2 with ⟨rfl, h0⟩ | ⟨g, cap, cur, rfl, _, _, hnc, _⟩
      · simp [Builtin.append_, run_underlying hu, sizeOf, typeInfo, hI, Builtin.lenOf, Builtin.firstCells, loadCells, loadCellsFrom]
      · simp [Builtin.append_, run_underlying hu, sizeOf, typeInfo, hI, Builtin.lenOf, Builtin.firstCells, hnc, storeCells, loadCells, loadCellsFrom]
  · have hn : news ≠ [] := by
      rintro rfl
      have h0 : m * i.size = 0 := by simpa using hl.symm
      rcases Nat.mul_eq_zero.1 h0 with h0 | h0 <;> omega
    obtain ⟨b, off, rfl⟩ := row_at hr hn
    obtain ⟨v', w', hrun, h2, h3, _, h5⟩ := run_append_own_at (P := P) w 0 t ty e I z i.size I.bytes hu hI hz hs rfl (by rw [hzc]; simpa using hlen) hp v k cs own ⟨b, off, none⟩ m c' news hl
      (fun j u hu => by rw [Addr.add_none]; exact row_cell hr hu) h1 hm (by rw [← hb]; exact hby) (Nat.zero_le _)
    exact ⟨v', w', hrun, h2, h3, h5⟩
/-- 'append(dst, src...)': dst the call's own, src a row that is known. -/
theorem Eff.append {tab : List (Nat × TI)} (hT : TabOk P tab) {i : TI} {m k c' : Nat} {A : Option Addr} {pre post : Blks} (hu : P.underlying t = some (.slice e)) (hi : ti tab e = some i) (hpos : Nat.blt 0 i.size = true)
    (hx : look l x = some v) (hy : look l y = some (.slice A m c')) (hσ : σ = pre ++ .pc (ownPc e i.size v k cs) :: post) (hs : ∀ w, Mem S σ ρ w → ∃ K, IsRow K w (.slice A m c') m news) (hl : news.length = m * i.size) (h1 : ∀ u ∈ news, u.oneCell' = true) (hm : k + m ≤ maxLen) (hby : (k + m) * P.bytesOf e ≤ 140737488355328) :
    Eff P n l (Mem S σ ρ) ⟨d, .call { callee := .builtin .append, args := #[x, y], argTypes := #[t, t] }, ty, pos, aft, g⟩ fun u C' => C' = Mem S (pre ++ .pc (ownPc e i.size u (k + m) (cs ++ news)) :: post) ρ := fun Ac w hf hw => by
  obtain ⟨K, hr⟩ := hs w hw
  subst hσ
  have hmem : It.pc (ownPc e i.size v k cs) ∈ pre ++ It.pc (ownPc e i.size v k cs) :: post := by simp
  have own : w.ownsRow 0 e i.size v k cs := hw.hold _ hmem
  obtain ⟨v', w', hrun, h2, h3, h4⟩ := run_appendRow (ty := ty) hT hu hi hby hpos own hr hl h1 hm
  have hlt := World.ownsRow.lt own
  refine ⟨v', w', _, rfl, hw.upd (upd_mid pre) (ext_grownF h3 fun k hk => .inl (by simp [It.ids, ownPc, hk])) h2 own_ids fun k hk => ?_, .inl ?_⟩
  · have hk' : v'.ownBlock = some k := by simpa [It.ids, ownPc] using hk
    rcases h4 with h4 | h4
    · exact .inl (by simp [It.ids, ownPc, ← h4, hk'])
    · rw [h4] at hk'; simp at hk'; exact .inr (by omega)
  · simp [execOp, resolve, invoke, builtin, hf.eval hx, hf.eval hy, hrun, Result.andThen]
/-- A slice's literal: a new block. -/
theorem Eff.buildSlice {tab : List (Nat × TI)} (hT : TabOk P tab) {i : TI} {len : Nat} {ps : List (Nat × Operand)} {vs : List (Nat × Value)} {L : List Value} (hu : P.underlying t = some (.slice e)) (hi : ti tab e = some i) (hps : evalParts l ps = some vs)
    (hL : ∀ L0 : List Value, L0.length = len * i.size → fillL (fun j => some (j * i.size, i.size)) L0 vs = some L) (hsz : Nat.ble (len * i.size) 16777216 = true) :
    Eff P n l (Mem S σ ρ) ⟨d, .buildSlice t len ps.toArray, ty, pos, aft, g⟩ fun u C' => ∃ b, u = .slice (some ⟨b, 0, none⟩) len len ∧ C' = Mem S (.blk b (row e L) :: σ) ρ := fun Ac w hf hw => by
  obtain ⟨zv, hz, hc⟩ := (hT e i hi).zeroValue (w := w)
  have h2 := (hT _ _ hi).sizeOf (w := w)
  have he : (ps.toArray.map fun (p : Nat × Operand) => (p.1, Ac.eval p.2)) = vs.toArray := by rw [List.map_toArray, evalParts_eq hf hps]
  have hno : ¬ (16777216 < len * i.size) := by have := Nat.le_of_ble_eq_true hsz; omega
  refine ⟨_, _, _, ⟨w.heap.size, rfl, rfl⟩, hw.alloc (row e L), .inl ?_⟩
  have key : ∀ (Z : Array Value), Z.size = len * i.size → Instr.fill (fun j => some (j * i.size, i.size)) Z vs = some L.toArray := fun Z hZ => by
    have h3 := fill_eq (fun j => some (j * i.size, i.size)) vs Z.toList L (hL Z.toList (by simpa using hZ))
    simpa using h3
  have hrun : (Instr.buildSlice t len vs.toArray).run P w = .ok (.slice (some ⟨w.heap.size, 0, none⟩) len len) (w.alloc (row e L)) := by
    have hno' : ¬ (len * i.size > 2 ^ 24) := by simpa using hno
    unfold Instr.buildSlice
    rw [Sem.run_bind, run_underlying hu, Result.andThen_ok]
    dsimp only
    rw [Sem.run_bind, h2, Result.andThen_ok, if_neg hno']
    by_cases h0 : len * i.size = 0
    · rw [if_pos h0, Sem.run_bind, Sem.run_pure, Result.andThen_ok]
      have hk := key ((Array.range (len * i.size)).map fun x => (#[] : Array Value)[x % (#[] : Array Value).size]!) (by simp)
      rw [hk]
      rfl
    · rw [if_neg h0, Sem.run_bind, hz, Result.andThen_ok, Sem.run_bind, Sem.run_pure, Result.andThen_ok]
      have hk := key ((Array.range (len * i.size)).map fun x => zv.cells[x % zv.cells.size]!) (by simp)
      rw [hk]
      rfl
  unfold execOp
  dsimp only
  rw [he, Sem.run_bind, hrun]
  rfl
/-- A block that is known, as a row. -/
theorem Mem.blkRow {L : List Value} {k c : Nat} (h : Mem S σ ρ w) (hb : It.blk b (row e L) ∈ σ) (hk : k ≤ c) (hc : c ≤ maxLen) : IsRow [] w (.slice (some ⟨b, 0, none⟩) k c) k L :=
  ⟨⟨_, c, rfl, hk, hc, by simp⟩, fun _ => ⟨b, 0, k, c, rfl, by simp, fun j u hu => by rw [Nat.zero_add, mem_cell (h.holds hb)]; exact hu⟩⟩
theorem Mem.dataRow {k : Nat} (h : Mem S σ ρ w) (hr : rowD v k cs ∈ ρ) : IsRow (σ.flatMap It.ids) w v k cs := h.data hr
end
end Go.Proofs.Ytdbeinbgekdnmaa
