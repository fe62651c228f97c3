/-
  Packed out of the texts: EngData, Octets, OctBase, OctDo, OctPut, EngStr, EngFace, A1, A2.
-/
import Derived.Test.YtejcohlpjikjpaaGreatDoorU01
import Derived.Maps.AppendAt
import Derived.Lib.ConvBytes
import Derived.Laws.BytesArg
import Derived.DeepKeys4
import Derived.Laws.CopyOwn
import Derived.Laws.RangeString
/-
  An engine for walks: rows that are read, and rows of the call's own.
-/
set_option maxRecDepth 100000
namespace Go.Proofs.YtejcohlpjikjpaaGreatDoor
open Go.RowKit

/-- A slice of n elements whose cells are cs, outside the blocks K. -/
structure IsRow (K : List Nat) (w : World) (v : Value) (n : Nat) (cs : List Value) : Prop where
  shape : ∃ A c, v = .slice A n c ∧ n ≤ c ∧ c ≤ maxLen ∧ (A = none → c = 0)
  cells : cs ≠ [] → ∃ b off n' c, v = .slice (some ⟨b, off, none⟩) n' c ∧ b ∉ K ∧ ∀ j u, cs[j]? = some u → w.cell? ⟨b, off + j, none⟩ = some u
section
variable {K K' F : List Nat} {w w' : World} {v : Value} {n : Nat} {cs : List Value}
theorem IsRow.lt (h : IsRow K w v n cs) (hn : cs ≠ []) : ∃ b off n' c, v = .slice (some ⟨b, off, none⟩) n' c ∧ b < w.heap.size := by
  obtain ⟨b, off, n', c, hv, _, hc⟩ := h.cells hn
  refine ⟨b, off, n', c, hv, ?_⟩
  cases cs with
  | nil => exact absurd rfl hn
  | cons u cs =>
    have := hc 0 u rfl
    exact block_lt_of_cell this
theorem IsRow.grow (hK : ∀ k ∈ K', k ∈ K ∨ w.heap.size ≤ k) (h : IsRow K w v n cs) : IsRow K' w v n cs := by
  refine ⟨h.shape, fun hn => ?_⟩
  obtain ⟨b, off, n', c, hv, hb, hc⟩ := h.cells hn
  obtain ⟨b', off', m, c', hv', hlt⟩ := h.lt hn
  rw [hv] at hv'
  simp at hv'
  refine ⟨b, off, n', c, hv, fun hk => ?_, hc⟩
  rcases hK b hk with h1 | h1
  · exact hb h1
  · omega
theorem IsRow.st (hx : Ext F w w') (hF : ∀ k ∈ F, k ∈ K ∨ w.heap.size ≤ k) (h : IsRow K w v n cs) : IsRow K w' v n cs := by
  refine ⟨h.shape, fun hn => ?_⟩
  obtain ⟨b, off, n', c, hv, hb, hc⟩ := h.cells hn
  refine ⟨b, off, n', c, hv, hb, fun j u hu => hx.cell (hc j u hu) fun hk => ?_⟩
  have hlt := block_lt_of_cell (hc j u hu)
  rcases hF b hk with h1 | h1
  · exact hb h1
  · simp at hlt; omega
theorem IsRow.nil (hv : v = .slice none 0 0) : IsRow K w v 0 [] := ⟨⟨none, 0, hv, Nat.le_refl _, Nat.zero_le _, fun _ => rfl⟩, fun h => absurd rfl h⟩
end
/-- A row that is read. -/
def rowD (v : Value) (n : Nat) (cs : List Value) : Dt where
  d := fun K w => IsRow K w v n cs
  grow := fun _ _ _ hK h => h.grow hK
  st := fun _ _ _ _ hx hF h => h.st hx hF
/-- A row of bytes that is read. -/
abbrev bytesD (v : Value) (l : List UInt8) : Dt := rowD v l.length (l.map bc)
theorem isRow_bytes {K : List Nat} {w : World} {v : Value} {l : List UInt8} (h : IsRow K w v l.length (l.map bc)) : BytesV w v l := by
  obtain ⟨A, c, hv, h1, h2, h3⟩ := h.shape
  refine ⟨A, c, hv, h1, h2, h3, fun hn => ?_⟩
  obtain ⟨b, off, n', c', hv', _, hc⟩ := h.cells hn
  rw [hv] at hv'
  simp at hv'
  exact ⟨b, off, hv'.1, hc⟩
/-- A row of the call's own: n elements of type e, of size cells each. -/
def ownPc (e : TypeId) (size : Nat) (v : Value) (n : Nat) (cs : List Value) : Pc where
  ids := v.ownBlock.toList
  p := fun w => w.ownsRow 0 e size v n cs
  st := fun F w w' hx hF h => by
    have hlt := World.ownsRow.lt h
    refine ⟨h.1, ?_⟩
    rcases h.2 with h2 | ⟨g, cap, cur, rfl, hg, hh, hr⟩
    · exact .inl h2
    · exact .inr ⟨g, cap, cur, rfl, hg, (hx.block g (hlt g rfl).2 (hF g (by simp [Value.ownBlock]))).trans hh, hr⟩
  lt := fun w h k hk => by
    have := World.ownsRow.lt h k (by simpa using hk)
    omega
theorem own_ids {e : TypeId} {size : Nat} {v : Value} {n : Nat} {cs : List Value} : (It.ids (.pc (ownPc e size v n cs))).Nodup := by
  simp only [It.ids, ownPc]
  cases v.ownBlock <;> simp
section
variable {P : Program} {n N : Nat} {l : Slots} {S : List (World × List Nat)} {σ τ : Blks} {ρ : List Dt} {C C' D : World → Prop} {x y z : Operand} {d : Option Nat} {ty t e : TypeId} {pos : String} {aft : Array Edge} {g : Option (Nat × Bool)} {v u : Value} {cs news : List Value} {Q : Exit → Act → World → Prop} {ops : Array Oper} {rest : List Oper} {ix : Plan} {w : World} {b off : Nat} {c : Code}

/-! ### From class to class -/
theorem SC.to (h : ∀ w, C w → C' w) (k : SC P n c l C' Q) : SC P n c l C Q := fun a w hf hw => k a w hf (h w hw)
theorem SL.to (h : ∀ w, C w → C' w) (k : SL P n ops rest l C' Q) : SL P n ops rest l C Q := fun a w hf hw => k a w hf (h w hw)
/-- More data out of what is known. -/
theorem SL.more {z : Dt} (h : ∀ w, Mem S σ ρ w → z.d (σ.flatMap It.ids) w) (k : SL P n ops rest l (Mem S σ (z :: ρ)) Q) : SL P n ops rest l (Mem S σ ρ) Q := SL.to (fun w hw => hw.add (h w hw)) k
theorem SC.more {z : Dt} (h : ∀ w, Mem S σ ρ w → z.d (σ.flatMap It.ids) w) (k : SC P n c l (Mem S σ (z :: ρ)) Q) : SC P n c l (Mem S σ ρ) Q := SC.to (fun w hw => hw.add (h w hw)) k
theorem ownsRow.isRow {K : List Nat} {size : Nat} (h : w.ownsRow 0 e size v n cs) (hK : ∀ k, v.ownBlock = some k → k ∉ K) : IsRow K w v n cs := by
  rcases h.2 with ⟨rfl, rfl⟩ | ⟨gb, cap, cur, rfl, _, hh, h1, h2, _, h3⟩
  · have : cs = [] := by have := h.1; simpa using this
    subst this
    exact IsRow.nil rfl
  · refine ⟨⟨_, cap, rfl, h1, h2, by simp⟩, fun _ => ⟨gb, 0, n, cap, rfl, hK gb rfl, fun j u hu => ?_⟩⟩
    rw [Nat.zero_add, cell_of_row w gb j cur e (0, 0) hh]
    rw [← h3, List.getElem?_take] at hu
    split at hu
    · rw [← Array.getElem?_toList]; exact hu
    · cases hu
/-- A row of the call's own becomes data. -/
theorem Mem.freeze {size : Nat} (h : Mem S (.pc (ownPc e size v n cs) :: σ) ρ w) : Mem S σ (rowD v n cs :: ρ) w := by
  have h1 : w.ownsRow 0 e size v n cs := h.hold _ List.mem_cons_self
  refine (h.sub (fun _ h => h) (List.sublist_cons_self _ _)).add (ownsRow.isRow h1 fun k hk hm => ?_)
  have := h.nodup
  simp only [List.flatMap_cons, List.nodup_append] at this
  exact this.2.2 k (by simp [It.ids, ownPc, hk]) k hm rfl
/-- A row of the call's own, nothing in it yet. -/
theorem Mem.own0 (h : Mem S σ ρ w) (e : TypeId) (size : Nat) : Mem S (.pc (ownPc e size (.slice none 0 0) 0 []) :: σ) ρ w :=
  h.new (Ext.refl w) ⟨by simp, .inl ⟨rfl, rfl⟩⟩ own_ids (by simp [It.ids, ownPc, Value.ownBlock])

/-! ### Reading rows -/
theorem row_at {K : List Nat} {A : Option Addr} {m c : Nat} (h : IsRow K w (.slice A m c) n cs) (hn : cs ≠ []) : ∃ b off, A = some ⟨b, off, none⟩ := by
  obtain ⟨b, off, n', c', hv, _⟩ := h.cells hn
  simp at hv
  exact ⟨b, off, hv.1⟩
theorem row_cell {K : List Nat} {m c j : Nat} (h : IsRow K w (.slice (some ⟨b, off, none⟩) m c) n cs) (hu : cs[j]? = some u) : w.cell? ⟨b, off + j, none⟩ = some u := by
  have hn : cs ≠ [] := by rintro rfl; simp at hu
  obtain ⟨b', off', n', c', hv, _, hc⟩ := h.cells hn
  simp at hv
  obtain ⟨⟨rfl, rfl⟩, _⟩ := hv
  exact hc j u hu
/-- A load of a whole element of a row that is read. -/
theorem Val.loadAD {α : Type} {f : α → List Value} {tab : List (Nat × TI)} (hT : TabOk P tab) {i : TI} {m c' q : Nat} {xs : List α} (ht : ti tab t = some i) (hk : (match i.k with | .one => false | _ => true) = true) (hx : look l x = some (.pointer (some ⟨b, off + q * i.size, none⟩)))
    (hr : rowD (.slice (some ⟨b, off, none⟩) m c') N (xs.flatMap f) ∈ ρ) (hf : ∀ a, (f a).length = i.size) (hq : q < xs.length) : Val P n l (Mem S σ ρ) ⟨d, .load t x, ty, pos, aft, g⟩ (.agg (f xs[q]).toArray) :=
  Val.loadAC hT ht hk hx (hf _) fun _ hw j u hu => by
    have hj : j < i.size := by rw [← hf xs[q]]; exact (List.getElem?_eq_some_iff.1 hu).1
    rw [Nat.add_assoc]
    exact row_cell (hw.data hr) (by rw [flatMap_get hf xs q j hq hj]; exact hu)
theorem upd_mid {x y : It} {post : Blks} : ∀ pre : Blks, Upd x y (pre ++ x :: post) (pre ++ y :: post)
  | [] => .here
  | _ :: pre => .there (upd_mid pre)
theorem bytes_of {t : TypeId} {I : TypeInfo} (h : P.info? t = some I) : P.bytesOf t = I.bytes := by simp [Program.bytesOf, h]
theorem run_appendRow {tab : List (Nat × TI)} (hT : TabOk P tab) {i : TI} {m k c' : Nat} {A : Option Addr} (hu : P.underlying t = some (.slice e)) (hi : ti tab e = some i) (hby : (k + m) * P.bytesOf e ≤ 140737488355328) (hpos : Nat.blt 0 i.size = true)
    (own : w.ownsRow 0 e i.size v k cs) {K : List Nat} (hr : IsRow K w (.slice A m c') m news) (hl : news.length = m * i.size) (h1 : ∀ u ∈ news, u.oneCell' = true) (hm : k + m ≤ maxLen) :
    ∃ v' w', (Builtin.append_ #[t, t] ty #[v, .slice A m c']).run P w = .ok v' w' ∧ w'.ownsRow 0 e i.size v' (k + m) (cs ++ news) ∧ w.grownBy w' v.ownBlock ∧ (v'.ownBlock = v.ownBlock ∨ v'.ownBlock = some w.heap.size) := by
  obtain ⟨I, hI, hs, z, hz, hzc⟩ := (hT e i hi).info
  have hlen := (hT e i hi).len
  have hb := bytes_of hI
  have hp : 0 < i.size := by simpa [Nat.blt_eq] using hpos
  by_cases hm0 : m = 0
  · subst hm0
    have hn : news = [] := by simpa using hl
    subst hn
    refine ⟨v, w, ?_, by simpa using own, World.grownBy.refl w _, .inl rfl⟩
    rcases A with _ | ad
    · obtain ⟨A', c2, he, _, _, h0⟩ := hr.shape
      simp at he
      obtain ⟨rfl, rfl⟩ := he
      have := h0 rfl
      subst this
      rcases own.2 with ⟨rfl, h0⟩ | ⟨g, cap, cur, rfl, _, _, hnc, _⟩
      · simp [Builtin.append_, run_underlying hu, sizeOf, typeInfo, hI, Builtin.lenOf, Builtin.firstCells]
      · simp [Builtin.append_, run_underlying hu, sizeOf, typeInfo, hI, Builtin.lenOf, Builtin.firstCells, hnc, storeCells]
    · rcases own.2 with ⟨rfl, h0⟩ | ⟨g, cap, cur, rfl, _, _, hnc, _⟩
      · simp [Builtin.append_, run_underlying hu, sizeOf, typeInfo, hI, Builtin.lenOf, Builtin.firstCells, loadCells, loadCellsFrom]
      · simp [Builtin.append_, run_underlying hu, sizeOf, typeInfo, hI, Builtin.lenOf, Builtin.firstCells, hnc, storeCells, loadCells, loadCellsFrom]
  · have hn : news ≠ [] := by
      rintro rfl
      have h0 : m * i.size = 0 := by simpa using hl.symm
      rcases Nat.mul_eq_zero.1 h0 with h0 | h0 <;> omega
    obtain ⟨b, off, rfl⟩ := row_at hr hn
    obtain ⟨v', w', hrun, h2, h3, _, h5⟩ := run_append_own_at (P := P) w 0 t ty e I z i.size I.bytes hu hI hz hs rfl (by rw [hzc]; simpa using hlen) hp v k cs own ⟨b, off, none⟩ m c' news hl
      (fun j u hu => by rw [Addr.add_none]; exact row_cell hr hu) h1 hm (by rw [← hb]; exact hby) (Nat.zero_le _)
    exact ⟨v', w', hrun, h2, h3, h5⟩
/-- 'append(dst, src...)': dst the call's own, src a row that is known. -/
theorem Eff.append {tab : List (Nat × TI)} (hT : TabOk P tab) {i : TI} {m k c' : Nat} {A : Option Addr} {pre post : Blks} (hu : P.underlying t = some (.slice e)) (hi : ti tab e = some i) (hpos : Nat.blt 0 i.size = true)
    (hx : look l x = some v) (hy : look l y = some (.slice A m c')) (hσ : σ = pre ++ .pc (ownPc e i.size v k cs) :: post) (hs : ∀ w, Mem S σ ρ w → ∃ K, IsRow K w (.slice A m c') m news) (hl : news.length = m * i.size) (h1 : ∀ u ∈ news, u.oneCell' = true) (hm : k + m ≤ maxLen) (hby : (k + m) * P.bytesOf e ≤ 140737488355328) :
    Eff P n l (Mem S σ ρ) ⟨d, .call { callee := .builtin .append, args := #[x, y], argTypes := #[t, t] }, ty, pos, aft, g⟩ fun u C' => C' = Mem S (pre ++ .pc (ownPc e i.size u (k + m) (cs ++ news)) :: post) ρ := fun Ac w hf hw => by
  obtain ⟨K, hr⟩ := hs w hw
  subst hσ
  have hmem : It.pc (ownPc e i.size v k cs) ∈ pre ++ It.pc (ownPc e i.size v k cs) :: post := by simp
  have own : w.ownsRow 0 e i.size v k cs := hw.hold _ hmem
  obtain ⟨v', w', hrun, h2, h3, h4⟩ := run_appendRow (ty := ty) hT hu hi hby hpos own hr hl h1 hm
  have hlt := World.ownsRow.lt own
  refine ⟨v', w', _, rfl, hw.upd (upd_mid pre) (ext_grownF h3 fun k hk => .inl (by simp [It.ids, ownPc, hk])) h2 own_ids fun k hk => ?_, .inl ?_⟩
  · have hk' : v'.ownBlock = some k := by simpa [It.ids, ownPc] using hk
    rcases h4 with h4 | h4
    · exact .inl (by simp [It.ids, ownPc, ← h4, hk'])
    · rw [h4] at hk'; simp at hk'; exact .inr (by omega)
  · simp [execOp, resolve, invoke, builtin, hf.eval hx, hf.eval hy, hrun, Result.andThen]
/-- A slice's literal: a new block. -/
theorem Eff.buildSlice {tab : List (Nat × TI)} (hT : TabOk P tab) {i : TI} {len : Nat} {ps : List (Nat × Operand)} {vs : List (Nat × Value)} {L : List Value} (hu : P.underlying t = some (.slice e)) (hi : ti tab e = some i) (hps : evalParts l ps = some vs)
    (hL : ∀ L0 : List Value, L0.length = len * i.size → fillL (fun j => some (j * i.size, i.size)) L0 vs = some L) (hsz : Nat.ble (len * i.size) 16777216 = true) :
    Eff P n l (Mem S σ ρ) ⟨d, .buildSlice t len ps.toArray, ty, pos, aft, g⟩ fun u C' => ∃ b, u = .slice (some ⟨b, 0, none⟩) len len ∧ C' = Mem S (.blk b (row e L) :: σ) ρ := fun Ac w hf hw => by
  obtain ⟨zv, hz, hc⟩ := (hT e i hi).zeroValue (w := w)
  have h2 := (hT _ _ hi).sizeOf (w := w)
  have he : (ps.toArray.map fun (p : Nat × Operand) => (p.1, Ac.eval p.2)) = vs.toArray := by rw [List.map_toArray, evalParts_eq hf hps]
  have hno : ¬ (16777216 < len * i.size) := by have := Nat.le_of_ble_eq_true hsz; omega
  refine ⟨_, _, _, ⟨w.heap.size, rfl, rfl⟩, hw.alloc (row e L), .inl ?_⟩
  have key : ∀ (Z : Array Value), Z.size = len * i.size → Instr.fill (fun j => some (j * i.size, i.size)) Z vs = some L.toArray := fun Z hZ => by
    have h3 := fill_eq (fun j => some (j * i.size, i.size)) vs Z.toList L (hL Z.toList (by simpa using hZ))
    simpa using h3
  have hrun : (Instr.buildSlice t len vs.toArray).run P w = .ok (.slice (some ⟨w.heap.size, 0, none⟩) len len) (w.alloc (row e L)) := by
    have hno' : ¬ (len * i.size > 2 ^ 24) := by simpa using hno
    unfold Instr.buildSlice
    rw [Sem.run_bind, run_underlying hu, Result.andThen_ok]
    dsimp only
    rw [Sem.run_bind, h2, Result.andThen_ok, if_neg hno']
    by_cases h0 : len * i.size = 0
    · rw [if_pos h0, Sem.run_bind, Sem.run_pure, Result.andThen_ok]
      have hk := key ((Array.range (len * i.size)).map fun x => (#[] : Array Value)[x % (#[] : Array Value).size]!) (by simp)
      rw [hk]
      rfl
    · rw [if_neg h0, Sem.run_bind, hz, Result.andThen_ok, Sem.run_bind, Sem.run_pure, Result.andThen_ok]
      have hk := key ((Array.range (len * i.size)).map fun x => zv.cells[x % zv.cells.size]!) (by simp)
      rw [hk]
      rfl
  unfold execOp
  dsimp only
  rw [he, Sem.run_bind, hrun]
  rfl
end
end Go.Proofs.YtejcohlpjikjpaaGreatDoor
/-
  Layer 1: numbers as bytes, rows of bytes: the program.
-/
namespace Go.Proofs.YtejcohlpjikjpaaGreatDoor
open Go.RowKit

theorem BytesV.row {w : World} {A : Option Addr} {n c : Nat} {l : List UInt8} (h : BytesV w (.slice A n c) l) : Row w A (l.map bc) := by
  obtain ⟨A', c', h1, _, _, _, h5⟩ := h
  cases h1
  exact h5
end Go.Proofs.YtejcohlpjikjpaaGreatDoor
/-
  Layer 1 over the engine, in plain Lean: readers of bytes.
-/
namespace Go.Proofs.YtejcohlpjikjpaaGreatDoor
open Go.RowKit

/-- A reader: its slice, the bytes that are left, the first failure. -/
structure Rd where
  v : Value
  l : List UInt8
  e : Int
/-- A slice from its element n on. -/
def tailV : Value → Nat → Value
  | .slice A m c, n => .slice (if c = n then A else A.map (·.add (n * 1))) (m - n) (c - n)
  | v, _ => v
def Rd.bad (s : Rd) (n : Int) : Prop := n < 0 ∨ (s.l.length : Int) < n
instance (s : Rd) (n : Int) : Decidable (s.bad n) := inferInstanceAs (Decidable (_ ∨ _))
def Rd.fixed (s : Rd) (n : Int) : Rd := if s.e ≠ 0 then s else if s.bad n then ⟨s.v, s.l, 2⟩ else ⟨tailV s.v n.toNat, s.l.drop n.toNat, 0⟩
def Rd.out (s : Rd) (n : Int) : List UInt8 := if s.e ≠ 0 then [] else if s.bad n then [] else s.l.take n.toNat
def beVal (l : List UInt8) : Nat := l.foldl (fun a c => a * 256 + c.toNat) 0
def Rd.num (s : Rd) (n : Int) : Nat := beVal (s.out n)
def Rd.fail (s : Rd) (x : Int) : Rd := ⟨s.v, s.l, x⟩
def Rd.row (s : Rd) (most : Int) : Rd := if (s.fixed 4).e ≠ 0 then s.fixed 4 else if most < s.num 4 then (s.fixed 4).fail 3 else (s.fixed 4).fixed (s.num 4)
def Rd.rowOut (s : Rd) (most : Int) : List UInt8 := if (s.fixed 4).e ≠ 0 then [] else if most < s.num 4 then [] else (s.fixed 4).out (s.num 4)
def Rd.end_ (s : Rd) : Int := if s.e = 0 ∧ s.l ≠ [] then 2 else s.e
/-- How many bytes there may be. -/
def lots : Nat := 100000000000
theorem upd_self {x : It} {σ τ : Blks} (h : Upd x x σ τ) : τ = σ := by
  induction h with
  | here => rfl
  | there _ ih => rw [ih]
theorem IsRow.tail {K : List Nat} {w : World} {v : Value} {l : List UInt8} (h : IsRow K w v l.length (l.map bc)) {n : Nat} (hn : n ≤ l.length) : IsRow K w (tailV v n) (l.drop n).length ((l.drop n).map bc) := by
  obtain ⟨A, c, rfl, h1, h2, h3⟩ := h.shape
  refine ⟨⟨if c = n then A else A.map (·.add (n * 1)), c - n, by simp only [tailV, List.length_drop], by simp; omega, by omega, fun hA => ?_⟩, fun hne => ?_⟩
  · split at hA
    · omega
    · simp at hA; have := h3 hA; omega
  · have hl : n < l.length := by
      rcases Nat.lt_or_ge n l.length with h4 | h4
      · exact h4
      · exact absurd (by rw [List.drop_eq_nil_of_le h4]; rfl) hne
    obtain ⟨b, off, n', c', hv, hb, hc⟩ := h.cells (by intro h0; have := congrArg List.length h0; rw [List.length_map, List.length_nil] at this; omega)
    simp at hv
    obtain ⟨rfl, rfl, rfl⟩ := hv
    refine ⟨b, off + n, l.length - n, c - n, by simp only [tailV]; rw [if_neg (by omega)]; simp only [Option.map_some, Addr.add_none, Nat.mul_one], hb, fun j u hu => ?_⟩
    rw [Nat.add_assoc]
    refine hc (n + j) u ?_
    rw [List.map_drop, List.getElem?_drop] at hu
    exact hu
theorem IsRow.head {K : List Nat} {w : World} {A : Option Addr} {l : List UInt8} {m c : Nat} (h : IsRow K w (.slice A m c) l.length (l.map bc)) {n : Nat} (hn : n ≤ l.length) (k : Nat) (hk : n ≤ k) (hkc : k ≤ c) : IsRow K w (.slice A n k) (l.take n).length ((l.take n).map bc) := by
  obtain ⟨A', c', hv, h1, h2, h3⟩ := h.shape
  simp at hv
  obtain ⟨rfl, rfl, rfl⟩ := hv
  have hlen : (l.take n).length = n := by simp; omega
  refine ⟨⟨A, k, by rw [hlen], by omega, by omega, fun hA => by have := h3 hA; omega⟩, fun hne => ?_⟩
  obtain ⟨b, off, n', c'', hv, hb, hc⟩ := h.cells (by intro h0; have := congrArg List.length h0; simp at this; subst this; simp at hne)
  simp at hv
  obtain ⟨rfl, rfl, rfl⟩ := hv
  refine ⟨b, off, _, _, rfl, hb, fun j u hu => hc j u ?_⟩
  rw [List.map_take, List.getElem?_take] at hu
  split at hu
  · exact hu
  · cases hu
theorem Rd.fixed_length (s : Rd) (n : Int) : (s.fixed n).l.length ≤ s.l.length := by
  unfold Rd.fixed
  split
  · exact Nat.le_refl _
  · split
    · exact Nat.le_refl _
    · simp
section
variable {P : Program} {n : Nat} {l : Slots} {D : World → Prop} {x y z : Operand} {d : Option Nat} {ty t e : TypeId} {pos : String} {aft : Array Edge} {g : Option (Nat × Bool)} {A : Option Addr} {m c q : Nat}
end
end Go.Proofs.YtejcohlpjikjpaaGreatDoor
/-
  Layer 1 over the engine: readers of bytes, the program's and the document's.
-/
namespace Go.Proofs.YtejcohlpjikjpaaGreatDoor
open Go.RowKit

section
variable {S : List (World × List Nat)} {σ τ : Blks} {ρ : List Dt} {w : World} {p : Nat} {s : Rd}
theorem Mem.bytes {v : Value} {l : List UInt8} (h : Mem S σ ρ w) (hb : bytesD v l ∈ ρ) : BytesV w v l := isRow_bytes (h.data hb)
end
end Go.Proofs.YtejcohlpjikjpaaGreatDoor
/-
  Layer 1 over the engine: what is put, and the document's readers.
-/
namespace Go.Proofs.YtejcohlpjikjpaaGreatDoor
open Go.RowKit

section
variable {S : List (World × List Nat)} {σ τ : Blks} {ρ : List Dt} {w : World} {p : Nat} {s : Rd}
end
end Go.Proofs.YtejcohlpjikjpaaGreatDoor
/-
  An engine for walks: texts, and function values.
-/
namespace Go.Proofs.YtejcohlpjikjpaaGreatDoor
open Go.RowKit

section
variable {P : Program} {n : Nat} {l : Slots} {S : List (World × List Nat)} {σ τ : Blks} {ρ : List Dt} {C D : World → Prop} {x y z : Operand} {d : Option Nat} {ty t e : TypeId} {pos : String} {aft : Array Edge} {g : Option (Nat × Bool)} {v u : Value} {Q : Exit → Act → World → Prop} {ops : Array Oper} {rest : List Oper} {ix : Plan} {w : World} {b q : Nat} {s : ByteArray}
/-- A whole number as a word. -/
def u64 (x : Int) : Nat := (x % 18446744073709551616).toNat
/-- A byte of a text. -/
theorem Val.indexSt {k : IntKind} {r : Int} (hx : look l x = some (.string s)) (hy : look l y = some (.int k r)) (hr : r = (q : Nat)) (hq : q < s.size) (hu : P.underlying t = some .string) : Val P n l D ⟨d, .index t x y, ty, pos, aft, g⟩ (.int .u8 ((s[q]'hq).toNat : Nat)) := fun Ac w hf _ => by
  subst hr
  have h1 : (if (0 : Int) ≤ (q : Int) then s[(q : Int).toNat]? else none) = some (s[q]'hq) := by
    rw [if_pos (by omega)]
    simp [getElem?_pos s q hq]
  simp only [execOp, Instr.index, asIntOf, hf.eval hx, hf.eval hy, Sem.run_bind, Sem.run_pure, Result.andThen_ok, run_underlying hu, h1]
/-- A text is gone through, letter by letter. -/
theorem Eff.rangeSt (hx : look l x = some (.string s)) (hu : P.underlying t = some .string) : Eff P n l (Mem S σ ρ) ⟨d, .range t x, ty, pos, aft, g⟩ fun u C' => ∃ b, u = .pointer (some ⟨b, 0, none⟩) ∧ C' = Mem S (.blk b (.stringIter s 0) :: σ) ρ := fun Ac w hf hw => by
  refine ⟨_, _, _, ⟨w.heap.size, rfl, rfl⟩, hw.alloc (.stringIter s 0), .inl ?_⟩
  simp only [execOp, Instr.range, hf.eval hx, Sem.run_bind, Sem.run_pure, Result.andThen_ok, run_underlying hu, newObj]
  rfl
theorem run_getIter {p : Nat} (hb : w.heap[b]? = some (.stringIter s p)) : (getObj b).run P w = .ok (.stringIter s p) w := by simp [getObj, Sem.run, hb]
theorem run_setIter {p p' : Nat} (hb : w.heap[b]? = some (.stringIter s p)) : (setObj b (.stringIter s p')).run P w = .ok () { w with heap := w.heap.setIfInBounds b (.stringIter s p') } := by simp [setObj, Sem.run, hb]
theorem Ext.setObj_ (w : World) (b : Nat) (o : Obj) : Ext [b] w { w with heap := w.heap.setIfInBounds b o } :=
  ⟨rfl, rfl, rfl, by simp, fun k _ hk => by
    have hne : b ≠ k := fun h => hk (by simp [h])
    simp [Array.getElem?_setIfInBounds_ne hne]⟩
theorem Eff.nextSt {p : Nat} (hx : look l x = some (.pointer (some ⟨b, 0, none⟩))) (hu : Upd (.blk b (.stringIter s p)) (.blk b (.stringIter s (p + (Utf8.decode s p).2))) σ τ) (hp : p < s.size) :
    Eff P n l (Mem S σ ρ) ⟨d, .next x true, ty, pos, aft, g⟩ fun u C' => u = .tuple #[.bool true, .int .i64 p, .int .i32 ((Utf8.decode s p).1 : Nat)] ∧ C' = Mem S τ ρ := fun Ac w hf hw => by
  have hb := hw.holds hu.mem
  have hlt : b < w.heap.size := hw.lt hu.mem b (by simp [It.ids])
  refine ⟨_, { w with heap := w.heap.setIfInBounds b (.stringIter s (p + (Utf8.decode s p).2)) }, _, ⟨rfl, rfl⟩, hw.updB hu (Ext.setObj_ w b _) (by simp [hlt]), .inl ?_⟩
  simp only [execOp, Instr.next, hf.eval hx, Sem.run_bind, Sem.run_pure, Result.andThen_ok, run_getIter hb, if_pos hp, run_setIter hb, goInt]
theorem Val.nextEnd {p : Nat} (hx : look l x = some (.pointer (some ⟨b, 0, none⟩))) (hb : It.blk b (.stringIter s p) ∈ σ) (hp : ¬ p < s.size) :
    Val P n l (Mem S σ ρ) ⟨d, .next x true, ty, pos, aft, g⟩ (.tuple #[.bool false]) := fun Ac w hf hw => by
  have hb := hw.holds hb
  simp only [execOp, Instr.next, hf.eval hx, Sem.run_bind, Sem.run_pure, Result.andThen_ok, run_getIter hb, if_neg hp]
theorem decode_high (s : ByteArray) (p : Nat) (h : p < s.size) (ha : ¬ (s[p]'h).toNat < 128) : 128 ≤ (Utf8.decode s p).1 := by
  have h0 : (s.get! (p + 0)).toNat = (s[p]'h).toNat := by
    have e : s.get! p = s[p]'h := by
      simp [ByteArray.get!, getElem!_pos, h]
      rfl
    rw [Nat.add_zero, e]
  unfold Utf8.decode
  simp only [h0]
  rw [if_neg (by omega)]
  repeat' split
  all_goals (try simp only [Bool.and_eq_true, decide_eq_true_eq, ge_iff_le] at *)
  all_goals (try dsimp only [Utf8.runeError] at *)
  all_goals omega
theorem RV.loadA {tab : List (Nat × TI)} (hT : TabOk P tab) {i : TI} {t' : TypeId} {L : List Value} (ht : ti tab t = some i) (hk : (match i.k with | .one => false | _ => true) = true) (hw : Mem S σ ρ w) (hb : It.blk b (row t' L) ∈ σ) (hl : L.length = i.size) : (loadVar t ⟨b, 0, none⟩).run P w = .ok (.agg L.toArray) w :=
  run_loadAgg hT ht hk hl fun j u hu => by rw [Nat.zero_add, mem_cell (hw.holds hb)]; exact hu
/-- Data to come, out of what is known. -/
theorem SX.to (h : ∀ w, C w → D w) (k : SX P n ops ix D l D Q) : SX P n ops ix D l C Q := fun a w hf hw => k a w hf (h w hw)
/-- A call of a function value. -/
theorem run_callv {f : FuncId} {fs cs : Array Value} {xs : List Operand} {ats : Array TypeId} {vals : List Value} {ρ : Operand → Value} (hb : goesIn P f = true) (hv : xs.map ρ = vals) (hf : ρ x = .func (.func f) fs cs) :
    (execOp ρ ⟨d, .call { callee := .value x, args := xs.toArray, argTypes := ats }, ty, pos, aft, g⟩).run P w = .ok (.enter f (fs ++ vals.toArray ++ cs)) w := by
  unfold goesIn at hb
  cases hfn : P.funcs[f]? with
  | none => simp [hfn] at hb
  | some fn =>
    simp only [hfn, Bool.and_eq_true, Bool.not_eq_true', beq_eq_false_iff_ne, Option.isSome_iff_ne_none] at hb
    obtain ⟨c, hn⟩ := Option.ne_none_iff_exists'.1 hb.1
    simp [execOp, resolve, hf, Deferred.ofValue, invoke, callFunc, program, Sem.run_bind, Sem.run, hfn, hb.2, hn, hv, Result.andThen]
theorem SL.callv {f : FuncId} {fs cs : Array Value} {xs : List Operand} {ats : Array TypeId} {vals : List Value} (hx : look l x = some (.func (.func f) fs cs)) (hb : goesIn P f = true) (hv : looks l xs = some vals)
    (hg : gd ops l ⟨d, .call { callee := .value x, args := xs.toArray, argTypes := ats }, ty, pos, aft, g⟩ = some true) (hd : lt? d n = true)
    (hc : ∀ w, C w → Calls P f (fs ++ vals.toArray ++ cs) w fun e w' => ∃ v C', e = .returned v ∧ C' w' ∧ SL P n ops rest (put? l d v) C' Q) :
    SL P n ops (⟨d, .call { callee := .value x, args := xs.toArray, argTypes := ats }, ty, pos, aft, g⟩ :: rest) l C Q := fun a w hf hw =>
  wpList_step fun K hK => by
    rw [if_pos (hf.wanted hg)]
    unfold Oper.wp
    rw [run_callv hb (hf.evals hv) (hf.eval hx), Oper.upon_enter]
    refine (hc w hw).mono fun e w' ⟨v, C', he, hC', hk⟩ => ?_
    subst he
    exact hK _ _ (hk _ _ (hf.put? hd v) hC')
theorem SX.callv {i : Nat} {f : FuncId} {fs cs : Array Value} {xs : List Operand} {ats : Array TypeId} {vals : List Value} (hi : ops[i]? = some ⟨d, .call { callee := .value x, args := xs.toArray, argTypes := ats }, ty, pos, aft, g⟩)
    (hx : look l x = some (.func (.func f) fs cs)) (hb : goesIn P f = true) (hv : looks l xs = some vals)
    (hg : gd ops l ⟨d, .call { callee := .value x, args := xs.toArray, argTypes := ats }, ty, pos, aft, g⟩ = some true) (hd : lt? d n = true)
    (hc : ∀ w, C w → Calls P f (fs ++ vals.toArray ++ cs) w fun e w' => ∃ v C', e = .returned v ∧ C' w' ∧ ∃ D' : World → Prop, (∀ w, D' w → D w) ∧ (∀ w, C' w → D' w) ∧ SX P n ops ix D' (put? l d v) C' Q) :
    SX P n ops (.e i ix) D l C Q := fun a w hf hw => by
  unfold planW wpOp
  simp only [hi, hf.wanted hg, if_true]
  refine .inl ?_
  unfold Oper.wp
  rw [run_callv hb (hf.evals hv) (hf.eval hx), Oper.upon_enter]
  refine (hc w hw).mono fun e w' ⟨v, C', he, hC', D', h1, h2, h3⟩ => ?_
  subst he
  exact ⟨D', h1, h2 _ hC', h3 _ _ (hf.put? hd v) hC'⟩
end
end Go.Proofs.YtejcohlpjikjpaaGreatDoor
/-
  The engine: interfaces, and calls of methods through them.
-/
namespace Go.Proofs.YtejcohlpjikjpaaGreatDoor
open Go.RowKit

section
variable {P : Program} {n : Nat} {l : Slots} {C D : World → Prop} {ops : Array Oper} {rest : List Oper} {ix : Plan} {Q : Exit → Act → World → Prop} {t : TypeId} {x : Operand} {v : Value} {m : String} {d : Option Nat} {ty : TypeId} {pos : String} {aft : Array Edge} {g : Option (Nat × Bool)}
theorem run_invoke {f : FuncId} {xs : List Operand} {ats : Array TypeId} {vals : List Value} {ρ : Operand → Value} {w : World} (hv : xs.map ρ = vals) (hf : ρ x = .iface t v)
    (hm : ∀ w, (invoke (.fn (.method m) #[]) (#[.iface t v] ++ vals.toArray)).run P w = .ok (.enter f (#[v] ++ vals.toArray)) w) :
    (execOp ρ ⟨d, .call { callee := .invoke x m, args := xs.toArray, argTypes := ats }, ty, pos, aft, g⟩).run P w = .ok (.enter f (#[v] ++ vals.toArray)) w := by
  have h0 := hm w
  simp only [execOp, resolve, Sem.run_bind, Sem.run_pure, Result.andThen_ok, hf]
  rw [show (xs.toArray.map ρ) = vals.toArray by rw [← hv]; simp]
  exact h0
/-- A call of a method through an interface. -/
theorem SL.invoke {f : FuncId} {xs : List Operand} {ats : Array TypeId} {vals : List Value} (hx : look l x = some (.iface t v)) (hv : looks l xs = some vals)
    (hm : ∀ w, (Go.invoke (.fn (.method m) #[]) (#[.iface t v] ++ vals.toArray)).run P w = .ok (.enter f (#[v] ++ vals.toArray)) w)
    (hg : gd ops l ⟨d, .call { callee := .invoke x m, args := xs.toArray, argTypes := ats }, ty, pos, aft, g⟩ = some true) (hd : lt? d n = true)
    (hc : ∀ w, C w → Calls P f (#[v] ++ vals.toArray) w fun e w' => ∃ v C', e = .returned v ∧ C' w' ∧ SL P n ops rest (put? l d v) C' Q) :
    SL P n ops (⟨d, .call { callee := .invoke x m, args := xs.toArray, argTypes := ats }, ty, pos, aft, g⟩ :: rest) l C Q := fun a w hf hw =>
  wpList_step fun K hK => by
    rw [if_pos (hf.wanted hg)]
    unfold Oper.wp
    rw [run_invoke (hf.evals hv) (hf.eval hx) hm, Oper.upon_enter]
    refine (hc w hw).mono fun e w' ⟨v, C', he, hC', hk⟩ => ?_
    subst he
    exact hK _ _ (hk _ _ (hf.put? hd v) hC')
theorem SX.invoke {i : Nat} {f : FuncId} {xs : List Operand} {ats : Array TypeId} {vals : List Value} (hi : ops[i]? = some ⟨d, .call { callee := .invoke x m, args := xs.toArray, argTypes := ats }, ty, pos, aft, g⟩)
    (hx : look l x = some (.iface t v)) (hv : looks l xs = some vals)
    (hm : ∀ w, (Go.invoke (.fn (.method m) #[]) (#[.iface t v] ++ vals.toArray)).run P w = .ok (.enter f (#[v] ++ vals.toArray)) w)
    (hg : gd ops l ⟨d, .call { callee := .invoke x m, args := xs.toArray, argTypes := ats }, ty, pos, aft, g⟩ = some true) (hd : lt? d n = true)
    (hc : ∀ w, C w → Calls P f (#[v] ++ vals.toArray) w fun e w' => ∃ v C', e = .returned v ∧ C' w' ∧ ∃ D' : World → Prop, (∀ w, D' w → D w) ∧ (∀ w, C' w → D' w) ∧ SX P n ops ix D' (put? l d v) C' Q) :
    SX P n ops (.e i ix) D l C Q := fun a w hf hw => by
  unfold planW wpOp
  simp only [hi, hf.wanted hg, if_true]
  refine .inl ?_
  unfold Oper.wp
  rw [run_invoke (hf.evals hv) (hf.eval hx) hm, Oper.upon_enter]
  refine (hc w hw).mono fun e w' ⟨v, C', he, hC', D', h1, h2, h3⟩ => ?_
  subst he
  exact ⟨D', h1, h2 _ hC', h3 _ _ (hf.put? hd v) hC'⟩
end
end Go.Proofs.YtejcohlpjikjpaaGreatDoor
/-
  The second engine: values ps trees, and what a tree is in a world; pieces of memory; the state of a walk.
-/
set_option linter.unusedSimpArgs false
set_option linter.unusedVariables false
namespace Go.Proofs.YtejcohlpjikjpaaGreatDoor.A
open Go.RowKit

inductive Abs where
  | v (u : Value)
  | sl (s : Nat) (xs : List (List Abs))
  | agg (cs : List Abs)
  | rp (cs : List Abs)
  | tup (cs : List Abs)
  | fn (f : Fn) (bs cs : List Abs)
  | ifc (t : TypeId) (a : Abs)
mutual
/-- The value x is what the tree says, in the world w, apart from the blocks K. -/
def rep (K : List Nat) (w : World) : Abs → Value → Prop
  | .v u, x => x = u
  | .sl s xs, x => ∃ us, IsRow K w x xs.length us ∧ repss K w s xs us
  | .agg cs, x => ∃ us : List Value, x = .agg us.toArray ∧ reps K w cs us
  | .rp cs, x => ∃ b off, ∃ us : List Value, x = .pointer (some ⟨b, off, none⟩) ∧ b ∉ K ∧ b < w.heap.size ∧ (∀ j u, us[j]? = some u → w.cell? ⟨b, off + j, none⟩ = some u) ∧ reps K w cs us
  | .tup cs, x => ∃ us : List Value, x = .tuple us.toArray ∧ reps K w cs us
  | .fn f bs cs, x => ∃ us vs : List Value, x = .func f us.toArray vs.toArray ∧ reps K w bs us ∧ reps K w cs vs
  | .ifc t a, x => ∃ u, x = .iface t u ∧ rep K w a u
def reps (K : List Nat) (w : World) : List Abs → List Value → Prop
  | [], us => us = []
  | a :: ps, us => ∃ u us', us = u :: us' ∧ rep K w a u ∧ reps K w ps us'
def repss (K : List Nat) (w : World) (s : Nat) : List (List Abs) → List Value → Prop
  | [], us => us = []
  | x :: xs, us => ∃ us1 us2, us = us1 ++ us2 ∧ us1.length = s ∧ reps K w x us1 ∧ repss K w s xs us2
end
/-- What lies apart from K in w lies apart from K' in w', ps it was. -/
structure Carry (K : List Nat) (w : World) (K' : List Nat) (w' : World) : Prop where
  size : w.heap.size ≤ w'.heap.size
  out : ∀ b, b ∉ K → b < w.heap.size → b ∉ K'
  at_ : ∀ b, b ∉ K → b < w.heap.size → w'.heap[b]? = w.heap[b]?
section
variable {K K' K'' F : List Nat} {w w' w'' : World}
theorem Carry.cell (h : Carry K w K' w') {b o : Nat} {u : Value} (hb : b ∉ K) (hc : w.cell? ⟨b, o, none⟩ = some u) : w'.cell? ⟨b, o, none⟩ = some u := by
  have hlt := block_lt_of_cell hc
  rw [← hc]
  exact World.cell?_of_block (w := w) (h.at_ b hb hlt)
theorem Carry.refl : Carry K w K w := ⟨Nat.le_refl _, fun _ h _ => h, fun _ _ _ => rfl⟩
theorem Carry.trans (h : Carry K w K' w') (k : Carry K' w' K'' w'') : Carry K w K'' w'' :=
  ⟨Nat.le_trans h.size k.size, fun b hb hl => k.out b (h.out b hb hl) (Nat.lt_of_lt_of_le hl h.size), fun b hb hl => (k.at_ b (h.out b hb hl) (Nat.lt_of_lt_of_le hl h.size)).trans (h.at_ b hb hl)⟩
theorem Carry.of_ext (hx : Ext F w w') (hF : ∀ k ∈ F, k ∈ K ∨ w.heap.size ≤ k) (hK : ∀ k ∈ K', k ∈ K ∨ w.heap.size ≤ k) : Carry K w K' w' :=
  ⟨hx.size, fun b hb hl hm => by rcases hK b hm with h | h <;> first | exact hb h | omega,
   fun b hb hl => hx.block b hl fun hm => by rcases hF b hm with h | h <;> first | exact hb h | omega⟩
theorem Carry.less (hK : ∀ k ∈ K', k ∈ K) : Carry K w K' w := Carry.of_ext (Ext.refl w) (F := []) (by simp) fun k hk => .inl (hK k hk)
theorem Carry.row (h : Carry K w K' w') {x : Value} {n : Nat} {cs : List Value} (hr : IsRow K w x n cs) : IsRow K' w' x n cs := by
  refine ⟨hr.shape, fun hn => ?_⟩
  obtain ⟨b, off, n', c, hv, hb, hc⟩ := hr.cells hn
  have hlt : b < w.heap.size := by
    cases cs with
    | nil => exact absurd rfl hn
    | cons u cs => exact block_lt_of_cell (hc 0 u rfl)
  exact ⟨b, off, n', c, hv, h.out b hb hlt, fun j u hu => h.cell hb (hc j u hu)⟩
end
mutual
theorem rep_carry {K K' : List Nat} {w w' : World} (h : Carry K w K' w') : ∀ (a : Abs) (x : Value), rep K w a x → rep K' w' a x
  | .v _, _, hx => hx
  | .sl s xs, _, ⟨us, h1, h2⟩ => ⟨us, h.row h1, repss_carry h s xs us h2⟩
  | .agg cs, _, ⟨us, h1, h2⟩ => ⟨us, h1, reps_carry h cs us h2⟩
  | .rp cs, _, ⟨b, off, us, h1, h2, h3, h4, h5⟩ => ⟨b, off, us, h1, h.out b h2 h3, Nat.lt_of_lt_of_le h3 h.size, fun j u hu => h.cell h2 (h4 j u hu), reps_carry h cs us h5⟩
  | .tup cs, _, ⟨us, h1, h2⟩ => ⟨us, h1, reps_carry h cs us h2⟩
  | .fn _ bs cs, _, ⟨us, vs, h1, h2, h3⟩ => ⟨us, vs, h1, reps_carry h bs us h2, reps_carry h cs vs h3⟩
  | .ifc _ a, _, ⟨u, h1, h2⟩ => ⟨u, h1, rep_carry h a u h2⟩
theorem reps_carry {K K' : List Nat} {w w' : World} (h : Carry K w K' w') : ∀ (ps : List Abs) (us : List Value), reps K w ps us → reps K' w' ps us
  | [], _, hx => hx
  | a :: ps, _, ⟨u, us', h1, h2, h3⟩ => ⟨u, us', h1, rep_carry h a u h2, reps_carry h ps us' h3⟩
theorem repss_carry {K K' : List Nat} {w w' : World} (h : Carry K w K' w') (s : Nat) : ∀ (xs : List (List Abs)) (us : List Value), repss K w s xs us → repss K' w' s xs us
  | [], _, hx => hx
  | x :: xs, _, ⟨us1, us2, h1, h2, h3, h4⟩ => ⟨us1, us2, h1, h2, reps_carry h x us1 h3, repss_carry h s xs us2 h4⟩
end
section
variable {K : List Nat} {w : World} {s : Nat}
theorem reps_length : ∀ {ps : List Abs} {us : List Value}, reps K w ps us → us.length = ps.length
  | [], _, h => by simp [reps] at h; simp [h]
  | a :: ps, _, ⟨u, us', h1, h2, h3⟩ => by subst h1; simp [reps_length h3]
theorem reps_get : ∀ {ps : List Abs} {us : List Value} {j : Nat} {a : Abs}, reps K w ps us → ps[j]? = some a → ∃ u, us[j]? = some u ∧ rep K w a u
  | [], _, _, _, _, hj => by simp at hj
  | b :: ps, _, 0, a, ⟨u, us', h1, h2, h3⟩, hj => by simp at hj; subst hj h1; exact ⟨u, rfl, h2⟩
  | b :: ps, _, j + 1, a, ⟨u, us', h1, h2, h3⟩, hj => by
    subst h1
    simp only [List.getElem?_cons_succ] at hj ⊢
    exact reps_get h3 hj
theorem reps_append : ∀ {ps bs : List Abs} {us vs : List Value}, reps K w ps us → reps K w bs vs → reps K w (ps ++ bs) (us ++ vs)
  | [], _, _, _, h, k => by simp [reps] at h; subst h; exact k
  | a :: ps, _, _, _, ⟨u, us', h1, h2, h3⟩, k => by subst h1; exact ⟨u, _, rfl, h2, reps_append h3 k⟩
theorem reps_split : ∀ {ps bs : List Abs} {us : List Value}, reps K w (ps ++ bs) us → ∃ us1 us2, us = us1 ++ us2 ∧ us1.length = ps.length ∧ reps K w ps us1 ∧ reps K w bs us2
  | [], bs, us, h => ⟨[], us, rfl, rfl, rfl, h⟩
  | a :: ps, bs, _, ⟨u, us', h1, h2, h3⟩ => by
    subst h1
    obtain ⟨us1, us2, h4, h5, h6, h7⟩ := reps_split h3
    exact ⟨u :: us1, us2, by simp [h4], by simp [h5], ⟨u, us1, rfl, h2, h6⟩, h7⟩
theorem reps_take {ps : List Abs} {us : List Value} (h : reps K w ps us) (n : Nat) : reps K w (ps.take n) (us.take n) := by
  have h1 := h
  rw [← List.take_append_drop n ps] at h1
  obtain ⟨us1, us2, h4, h5, h6, h7⟩ := reps_split h1
  have hl := reps_length h
  have : us.take n = us1 := by
    subst h4
    rw [List.length_take] at h5
    rcases Nat.le_total n ps.length with hn | hn
    · rw [List.take_append_of_le_length (by omega), List.take_of_length_le (by omega)]
    · have h8 := reps_length h7
      rw [List.length_drop] at h8
      have h9 : us2 = [] := List.length_eq_zero_iff.1 (by omega)
      subst h9
      rw [List.append_nil, List.take_of_length_le (by omega)]
  rw [this]; exact h6
theorem reps_drop {ps : List Abs} {us : List Value} (h : reps K w ps us) (n : Nat) : reps K w (ps.drop n) (us.drop n) := by
  have h1 := h
  rw [← List.take_append_drop n ps] at h1
  obtain ⟨us1, us2, h4, h5, h6, h7⟩ := reps_split h1
  have hl := reps_length h
  have h8 := reps_length h7
  rw [List.length_drop] at h8
  have : us.drop n = us2 := by
    subst h4
    rw [List.length_take] at h5
    rcases Nat.le_total n ps.length with hn | hn
    · have : us1.length = n := by omega
      subst this; simp
    · have h9 : us2 = [] := List.length_eq_zero_iff.1 (by omega)
      subst h9
      simp; omega
  rw [this]; exact h7
theorem repss_length : ∀ {xs : List (List Abs)} {us : List Value}, repss K w s xs us → us.length = xs.length * s
  | [], _, h => by simp [repss] at h; simp [h]
  | x :: xs, _, ⟨us1, us2, h1, h2, h3, h4⟩ => by subst h1; simp [repss_length h4, h2, Nat.succ_mul]; omega
theorem repss_get : ∀ {xs : List (List Abs)} {us : List Value} {q : Nat} {x : List Abs}, repss K w s xs us → xs[q]? = some x → ∃ vs : List Value, vs.length = s ∧ reps K w x vs ∧ ∀ j u, vs[j]? = some u → us[q * s + j]? = some u
  | [], _, _, _, _, hj => by simp at hj
  | y :: xs, _, 0, x, ⟨us1, us2, h1, h2, h3, h4⟩, hj => by
    simp at hj; subst hj h1
    refine ⟨us1, h2, h3, fun j u hu => ?_⟩
    rw [Nat.zero_mul, Nat.zero_add, List.getElem?_append_left (List.getElem?_eq_some_iff.1 hu).1]; exact hu
  | y :: xs, _, q + 1, x, ⟨us1, us2, h1, h2, h3, h4⟩, hj => by
    subst h1
    simp only [List.getElem?_cons_succ] at hj
    obtain ⟨vs, h5, h6, h7⟩ := repss_get h4 hj
    refine ⟨vs, h5, h6, fun j u hu => ?_⟩
    have : (q + 1) * s + j = us1.length + (q * s + j) := by rw [Nat.succ_mul]; omega
    rw [this, List.getElem?_append_right (by omega), Nat.add_sub_cancel_left]; exact h7 j u hu
theorem repss_append : ∀ {xs ys : List (List Abs)} {us vs : List Value}, repss K w s xs us → repss K w s ys vs → repss K w s (xs ++ ys) (us ++ vs)
  | [], _, _, _, h, k => by simp [repss] at h; subst h; exact k
  | x :: xs, _, _, _, ⟨us1, us2, h1, h2, h3, h4⟩, k => by subst h1; exact ⟨us1, _, by simp, h2, h3, repss_append h4 k⟩
theorem repss_split : ∀ {xs ys : List (List Abs)} {us : List Value}, repss K w s (xs ++ ys) us → ∃ us1 us2, us = us1 ++ us2 ∧ repss K w s xs us1 ∧ repss K w s ys us2
  | [], ys, us, h => ⟨[], us, rfl, rfl, h⟩
  | x :: xs, ys, _, ⟨us1, us2, h1, h2, h3, h4⟩ => by
    subst h1
    obtain ⟨a, b, h5, h6, h7⟩ := repss_split h4
    exact ⟨us1 ++ a, b, by simp [h5], ⟨us1, a, rfl, h2, h3, h6⟩, h7⟩
end
/-- One cell takes it. -/
def Abs.one : Abs → Bool
  | .v u => u.oneCell'
  | .agg _ => false
  | .tup _ => false
  | _ => true
theorem Abs.one_rep {K : List Nat} {w : World} {a : Abs} {x : Value} (h : rep K w a x) (h1 : a.one = true) : x.oneCell' = true := by
  cases a with
  | v u => have : x = u := h; subst this; exact h1
  | sl s xs => obtain ⟨us, hr, _⟩ := h; obtain ⟨A, c, rfl, _⟩ := hr.shape; rfl
  | rp cs => obtain ⟨b, o, us, rfl, _⟩ := h; rfl
  | fn f bs cs => obtain ⟨us, vs, rfl, _⟩ := h; rfl
  | ifc t a => obtain ⟨u, rfl, _⟩ := h; rfl
  | agg cs => cases h1
  | tup cs => cases h1
def ones : List Abs → Bool
  | [] => true
  | a :: ps => a.one && ones ps
theorem ones_reps {K : List Nat} {w : World} : ∀ {ps : List Abs} {us : List Value}, reps K w ps us → ones ps = true → ∀ u ∈ us, u.oneCell' = true
  | [], _, h, _, u, hu => by simp [reps] at h; subst h; cases hu
  | a :: ps, _, ⟨x, us', h1, h2, h3⟩, ho, u, hu => by
    subst h1
    simp only [ones, Bool.and_eq_true] at ho
    rcases List.mem_cons.1 hu with rfl | hu
    · exact Abs.one_rep h2 ho.1
    · exact ones_reps h3 ho.2 u hu
theorem ones_iff {ps : List Abs} : ones ps = true ↔ ∀ a ∈ ps, a.one = true := by
  induction ps with
  | nil => simp [ones]
  | cons a ps ih => simp [ones, ih]

/-! ### Pieces of memory -/
structure Pc where
  ids : List Nat
  p : List Nat → World → Prop
  carry : ∀ K w K' w', Carry K w K' w' → (∀ k ∈ ids, w'.heap[k]? = w.heap[k]?) → p K w → p K' w'
  lt : ∀ K w, p K w → ∀ k ∈ ids, k < w.heap.size
inductive It where
  | blk (b : Nat) (t : TypeId) (cs : List Abs)
  | pc (c : Pc)
  | rd (b : Nat) (t : TypeId) (cs : List Abs)
  | rdpc (c : Pc)
abbrev Blks := List It
def It.mids : It → List Nat
  | .blk b _ _ => [b]
  | .pc c => c.ids
  | _ => []
def It.rids : It → List Nat
  | .rd b _ _ => [b]
  | .rdpc c => c.ids
  | _ => []
def It.holds (K : List Nat) (w : World) : It → Prop
  | .blk b t cs => ∃ us, w.heap[b]? = some (row t us) ∧ reps K w cs us
  | .rd b t cs => ∃ us, w.heap[b]? = some (row t us) ∧ reps K w cs us
  | .pc c => c.p K w
  | .rdpc c => c.p K w
def It.toRd : It → It
  | .blk b t cs => .rd b t cs
  | .pc c => .rdpc c
  | x => x
def mids (σ : Blks) : List Nat := σ.flatMap It.mids
theorem heap_lt {w : World} {b : Nat} {o : Obj} (h : w.heap[b]? = some o) : b < w.heap.size := by
  rcases Nat.lt_or_ge b w.heap.size with h1 | h1
  · exact h1
  · rw [Array.getElem?_eq_none h1] at h; cases h
section
variable {K K' : List Nat} {w w' : World} {x : It} {σ τ : Blks}
theorem It.lt (h : x.holds K w) : ∀ k ∈ x.mids ++ x.rids, k < w.heap.size := by
  intro k hk
  cases x with
  | blk b t cs => obtain ⟨us, hb, _⟩ := h; simp [It.mids, It.rids] at hk; subst hk; exact heap_lt hb
  | rd b t cs => obtain ⟨us, hb, _⟩ := h; simp [It.mids, It.rids] at hk; subst hk; exact heap_lt hb
  | pc c => exact c.lt _ _ h k (by simpa [It.mids, It.rids] using hk)
  | rdpc c => exact c.lt _ _ h k (by simpa [It.mids, It.rids] using hk)
theorem It.carry (h : x.holds K w) (hc : Carry K w K' w') (hs : ∀ k ∈ x.mids ++ x.rids, w'.heap[k]? = w.heap[k]?) : x.holds K' w' := by
  cases x with
  | blk b t cs => obtain ⟨us, hb, hr⟩ := h; exact ⟨us, (hs b (by simp [It.mids])).trans hb, reps_carry hc _ _ hr⟩
  | rd b t cs => obtain ⟨us, hb, hr⟩ := h; exact ⟨us, (hs b (by simp [It.rids])).trans hb, reps_carry hc _ _ hr⟩
  | pc c => exact c.carry _ _ _ _ hc (fun k hk => hs k (by simp [It.mids, hk])) h
  | rdpc c => exact c.carry _ _ _ _ hc (fun k hk => hs k (by simp [It.rids, hk])) h
theorem mids_mem {k : Nat} : k ∈ mids σ ↔ ∃ x ∈ σ, k ∈ x.mids := by simp [mids]
theorem mids_append : mids (σ ++ τ) = mids σ ++ mids τ := by simp [mids]
theorem mids_cons : mids (x :: σ) = x.mids ++ mids σ := by simp [mids]
theorem mids_sub (h : τ.Sublist σ) : (mids τ).Sublist (mids σ) := by
  unfold mids
  induction h with
  | slnil => simp
  | cons a _ ih => simp only [List.flatMap_cons]; exact ih.trans (List.sublist_append_right _ _)
  | cons_cons a _ ih => simp only [List.flatMap_cons]; exact (List.Sublist.refl _).append ih
theorem mids_perm (h : τ.Perm σ) : (mids τ).Perm (mids σ) := by unfold mids; exact h.flatMap_right _
end
/-- The worlds that come of w0 by changes of the blocks F alone, and hold these pieces, apart from each other and from G. -/
structure Mem (w0 : World) (F G : List Nat) (σ : Blks) (w : World) : Prop where
  ext : Ext F w0 w
  out : ∀ k ∈ mids σ, k ∈ F ∨ w0.heap.size ≤ k
  sep : ∀ k ∈ mids σ, k ∉ G
  old : ∀ k ∈ G, k < w.heap.size
  ro : ∀ x ∈ σ, ∀ k ∈ x.rids, k ∈ G
  nodup : (mids σ).Nodup
  hold : ∀ x ∈ σ, x.holds (mids σ ++ G) w
/-- One piece is another one then. -/
inductive Upd (x y : It) : Blks → Blks → Prop
  | here {σ : Blks} : Upd x y (x :: σ) (y :: σ)
  | there {z : It} {σ τ : Blks} (h : Upd x y σ τ) : Upd x y (z :: σ) (z :: τ)
section
variable {w0 w w' : World} {F G Y : List Nat} {σ τ : Blks} {x y : It}
theorem Upd.split (h : Upd x y σ τ) : ∃ α β, σ = α ++ x :: β ∧ τ = α ++ y :: β := by
  induction h with
  | here => exact ⟨[], _, rfl, rfl⟩
  | there _ ih => obtain ⟨α, β, h1, h2⟩ := ih; exact ⟨_ :: α, β, by rw [h1]; rfl, by rw [h2]; rfl⟩
theorem Upd.mem (h : Upd x y σ τ) : x ∈ σ := by obtain ⟨α, β, rfl, rfl⟩ := h.split; simp
theorem Mem.lt (h : Mem w0 F G σ w) : ∀ k ∈ mids σ ++ G, k < w.heap.size := fun k hk => by
  rcases List.mem_append.1 hk with hk | hk
  · obtain ⟨x, hx, hk⟩ := mids_mem.1 hk; exact It.lt (h.hold x hx) k (List.mem_append_left _ hk)
  · exact h.old k hk
/-- What a step must show. -/
theorem Mem.step (h : Mem w0 F G σ w) (hx : Ext Y w w') (hY : ∀ k ∈ Y, k ∈ mids σ) (hτ : ∀ k ∈ mids τ, k ∈ mids σ ∨ w.heap.size ≤ k) (hro : ∀ x ∈ τ, ∀ k ∈ x.rids, k ∈ G) (hn : (mids τ).Nodup)
    (hh : Carry (mids σ ++ G) w (mids τ ++ G) w' → ∀ x ∈ τ, x.holds (mids τ ++ G) w') : Mem w0 F G τ w' ∧ Carry (mids σ ++ G) w (mids τ ++ G) w' := by
  have hc : Carry (mids σ ++ G) w (mids τ ++ G) w' := Carry.of_ext hx (fun k hk => .inl (List.mem_append_left _ (hY k hk))) fun k hk => by
    rcases List.mem_append.1 hk with hk | hk
    · rcases hτ k hk with h1 | h1
      · exact .inl (List.mem_append_left _ h1)
      · exact .inr h1
    · exact .inl (List.mem_append_right _ hk)
  refine ⟨⟨h.ext.trans hx fun k hk => h.out k (hY k hk), fun k hk => ?_, fun k hk hg => ?_, fun k hk => Nat.lt_of_lt_of_le (h.old k hk) hx.size, hro, hn, hh hc⟩, hc⟩
  · rcases hτ k hk with h1 | h1
    · exact h.out k h1
    · exact .inr (Nat.le_trans h.ext.size h1)
  · rcases hτ k hk with h1 | h1
    · exact h.sep k h1 hg
    · have := h.old k hg; omega
/-- Pieces that a change does not touch. -/
theorem Mem.keep (h : Mem w0 F G σ w) (hx : Ext Y w w') {K' : List Nat} (hc : Carry (mids σ ++ G) w K' w') (hz : y ∈ σ) (hY : ∀ k ∈ y.mids, k ∉ Y) (hY2 : ∀ k ∈ Y, k ∈ mids σ) : y.holds K' w' :=
  It.carry (h.hold y hz) hc fun k hk => hx.block k (It.lt (h.hold y hz) k hk) fun hm => by
    rcases List.mem_append.1 hk with hk | hk
    · exact hY k hk hm
    · exact h.sep k (hY2 k hm) (h.ro y hz k hk)
theorem Mem.same (h : Mem w0 F G σ w) (hx : Ext [] w w') : Mem w0 F G σ w' ∧ Carry (mids σ ++ G) w (mids σ ++ G) w' :=
  h.step hx (by simp) (fun k hk => .inl hk) h.ro h.nodup fun hc x hm => h.keep hx hc hm (by simp) (by simp)
/-- A new piece. -/
theorem Mem.new (h : Mem w0 F G σ w) (hx : Ext [] w w') (hn : y.mids.Nodup) (hid : ∀ k ∈ y.mids, w.heap.size ≤ k) (hr : y.rids = []) (hy : Carry (mids σ ++ G) w (mids (y :: σ) ++ G) w' → y.holds (mids (y :: σ) ++ G) w') : Mem w0 F G (y :: σ) w' ∧ Carry (mids σ ++ G) w (mids (y :: σ) ++ G) w' := by
  refine h.step hx (by simp) (fun k hk => ?_) (fun x hm => ?_) ?_ fun hc x hm => ?_
  · rw [mids_cons] at hk
    rcases List.mem_append.1 hk with hk | hk
    · exact .inr (hid k hk)
    · exact .inl hk
  · rcases List.mem_cons.1 hm with rfl | hm
    · simp [hr]
    · exact h.ro x hm
  · rw [mids_cons, List.nodup_append]
    refine ⟨hn, h.nodup, fun a ha b hb he => ?_⟩
    subst he
    have := h.lt a (List.mem_append_left _ hb)
    have := hid a ha
    omega
  · rcases List.mem_cons.1 hm with rfl | hm
    · exact hy hc
    · exact h.keep hx hc hm (by simp) (by simp)
theorem Mem.alloc (h : Mem w0 F G σ w) (t : TypeId) {cs : List Abs} {us : List Value} (hr : reps (mids σ ++ G) w cs us) : Mem w0 F G (.blk w.heap.size t cs :: σ) (w.alloc (row t us)) ∧ Carry (mids σ ++ G) w (mids (.blk w.heap.size t cs :: σ) ++ G) (w.alloc (row t us)) :=
  h.new ((Ext.refl w).alloc _) (by simp [It.mids]) (by simp [It.mids]) rfl fun hc => ⟨us, heap_alloc_new w _, reps_carry hc _ _ hr⟩
/-- A change of one piece. -/
theorem Mem.upd (h : Mem w0 F G σ w) (u : Upd x y σ τ) (hx : Ext x.mids w w') (hn : y.mids.Nodup) (hid : ∀ k ∈ y.mids, k ∈ x.mids ∨ w.heap.size ≤ k) (hr : y.rids = []) (hy : Carry (mids σ ++ G) w (mids τ ++ G) w' → y.holds (mids τ ++ G) w') : Mem w0 F G τ w' ∧ Carry (mids σ ++ G) w (mids τ ++ G) w' := by
  obtain ⟨α, β, rfl, rfl⟩ := u.split
  have hnd := h.nodup
  simp only [mids_append, mids_cons, List.nodup_append] at hnd
  obtain ⟨n1, ⟨n2, n3, n4⟩, n5⟩ := hnd
  have hlt := h.lt
  refine h.step hx (fun k hk => ?_) (fun k hk => ?_) (fun z hm => ?_) ?_ fun hc z hm => ?_
  · simp [mids_append, mids_cons, hk]
  · simp only [mids_append, mids_cons, List.mem_append] at hk ⊢
    rcases hk with hk | hk | hk
    · simp [hk]
    · rcases hid k hk with h1 | h1
      · simp [h1]
      · exact .inr h1
    · simp [hk]
  · simp only [List.mem_append, List.mem_cons] at hm
    rcases hm with hm | rfl | hm
    · exact h.ro z (by simp [hm])
    · simp [hr]
    · exact h.ro z (by simp [hm])
  · have hout : ∀ k ∈ y.mids, (k ∉ mids α) ∧ k ∉ mids β := fun k hk => by
      rcases hid k hk with h1 | h1
      · exact ⟨fun h2 => n5 k h2 k (List.mem_append_left _ h1) rfl, fun h2 => n4 k h1 k h2 rfl⟩
      · refine ⟨fun h2 => ?_, fun h2 => ?_⟩
        · have := hlt k (by simp [mids_append, mids_cons, h2]); omega
        · have := hlt k (by simp [mids_append, mids_cons, h2]); omega
    simp only [mids_append, mids_cons, List.nodup_append]
    refine ⟨n1, ⟨hn, n3, fun a ha b hb he => ?_⟩, fun a ha b hb he => ?_⟩
    · subst he; exact (hout a ha).2 hb
    · subst he
      rcases List.mem_append.1 hb with hb | hb
      · exact (hout a hb).1 ha
      · exact n5 a ha a (List.mem_append_right _ hb) rfl
  · simp only [List.mem_append, List.mem_cons] at hm
    have hY2 : ∀ k ∈ x.mids, k ∈ mids (α ++ x :: β) := fun k hk => by simp [mids_append, mids_cons, hk]
    rcases hm with hm | rfl | hm
    · exact h.keep hx hc (by simp [hm]) (fun k hk hx => n5 k (mids_mem.2 ⟨z, hm, hk⟩) k (List.mem_append_left _ hx) rfl) hY2
    · exact hy hc
    · exact h.keep hx hc (by simp [hm]) (fun k hk hx => n4 k hx k (mids_mem.2 ⟨z, hm, hk⟩) rfl) hY2
theorem Mem.sub (h : Mem w0 F G σ w) (hs : τ.Sublist σ) : Mem w0 F G τ w ∧ Carry (mids σ ++ G) w (mids τ ++ G) w :=
  h.step (Ext.refl w) (Y := []) (by simp) (fun k hk => .inl ((mids_sub hs).subset hk)) (fun x hx => h.ro x (hs.subset hx)) (h.nodup.sublist (mids_sub hs)) fun hc x hm => h.keep (Ext.refl w) (Y := []) hc (hs.subset hm) (by simp) (by simp)
theorem Mem.perm (h : Mem w0 F G σ w) (hs : τ.Perm σ) : Mem w0 F G τ w ∧ Carry (mids σ ++ G) w (mids τ ++ G) w :=
  h.step (Ext.refl w) (Y := []) (by simp) (fun k hk => .inl ((mids_perm hs).subset hk)) (fun x hx => h.ro x (hs.subset hx)) ((mids_perm hs).nodup_iff.2 h.nodup) fun hc x hm => h.keep (Ext.refl w) (Y := []) hc (hs.subset hm) (by simp) (by simp)
end
end Go.Proofs.YtejcohlpjikjpaaGreatDoor.A
/-
  The second engine: the state of a walk, its judgements, and the operations on plain values.
-/
namespace Go.Proofs.YtejcohlpjikjpaaGreatDoor.A
open Go.RowKit

abbrev Slots := List (Nat × Abs)
def slot : Slots → Nat → Option Abs
  | [], _ => none
  | (i, v) :: l, t => bif Nat.beq i t then some v else slot l t
def look (l : Slots) : Operand → Option Abs
  | .tmp t => slot l t
  | .const v => some (.v v)
  | .global g => some (.v (.pointer (some ⟨g, 0, none⟩)))
  | .func f => some (.fn (.func f) [] [])
def looks (l : Slots) : List Operand → Option (List Abs)
  | [] => some []
  | x :: xs => match look l x, looks l xs with
    | some v, some vs => some (v :: vs)
    | _, _ => none
def put? (l : Slots) (d : Option Nat) (v : Abs) : Slots := match d with
  | some d => (d, v) :: l
  | none => l
def Subs (l : Slots) : Slots → Prop
  | [] => True
  | (t, v) :: r => slot l t = some v ∧ Subs l r
theorem Subs.slot {l : Slots} : ∀ {r : Slots}, Subs l r → ∀ t v, slot r t = some v → A.slot l t = some v
  | [], _, t, v, h => by simp [A.slot] at h
  | (i, u) :: r, hs, t, v, h => by
    unfold A.slot at h
    by_cases hit : i = t
    · subst hit
      simp at h
      subst h
      exact hs.1
    · have : Nat.beq i t = false := beq_ne hit
      rw [this] at h
      exact hs.2.slot t v h
structure Wd where
  w0 : World
  F : List Nat
  G : List Nat
structure St (n : Nat) (W : Wd) (σ : Blks) (l : Slots) (a : Act) (w : World) : Prop where
  defers : a.defers = []
  size : a.tmps.size = n
  slots : ∀ t x, slot l t = some x → ∃ u, a.tmps[t]? = some u ∧ rep (mids σ ++ W.G) w x u
  mem : Mem W.w0 W.F W.G σ w
section
variable {n : Nat} {W : Wd} {σ τ : Blks} {l l' : Slots} {a : Act} {w w' : World} {x : Operand} {y : Abs} {v u : Value}
theorem rep_fn0 {K : List Nat} {f : Fn} {x : Value} : rep K w (.fn f [] []) x ↔ x = .func f #[] #[] := by
  simp only [rep, reps]
  constructor
  · rintro ⟨us, vs, h, h1, h2⟩; subst h1 h2; exact h
  · rintro rfl; exact ⟨[], [], rfl, rfl, rfl⟩
theorem St.eval (h : St n W σ l a w) (hx : look l x = some y) : rep (mids σ ++ W.G) w y (a.eval x) := by
  cases x with
  | tmp t =>
    obtain ⟨u, h1, h2⟩ := h.slots t y hx
    have : a.eval (.tmp t) = u := by simp [Act.eval, h1]
    rw [this]; exact h2
  | const c => simp only [look, Option.some.injEq] at hx; subst hx; exact rfl
  | global g => simp only [look, Option.some.injEq] at hx; subst hx; exact rfl
  | func f => simp only [look, Option.some.injEq] at hx; subst hx; exact rep_fn0.2 rfl
theorem St.plain (h : St n W σ l a w) (hx : look l x = some (.v u)) : a.eval x = u := h.eval hx
theorem St.evals (h : St n W σ l a w) : ∀ {xs : List Operand} {ys : List Abs}, looks l xs = some ys → reps (mids σ ++ W.G) w ys (xs.map a.eval)
  | [], ys, hx => by simp [looks] at hx; subst hx; rfl
  | x :: xs, ys, hx => by
    unfold looks at hx
    cases h1 : look l x with
    | none => simp [h1] at hx
    | some v =>
      cases h2 : looks l xs with
      | none => simp [h1, h2] at hx
      | some us =>
        simp [h1, h2] at hx
        subst hx
        exact ⟨_, _, rfl, h.eval h1, h.evals h2⟩
theorem St.to (h : St n W σ l a w) (hm : Mem W.w0 W.F W.G τ w') (hc : Carry (mids σ ++ W.G) w (mids τ ++ W.G) w') : St n W τ l a w' :=
  ⟨h.defers, h.size, fun t x hx => by obtain ⟨u, h1, h2⟩ := h.slots t x hx; exact ⟨u, h1, rep_carry hc _ _ h2⟩, hm⟩
theorem St.put (h : St n W σ l a w) {d : Option Nat} (hd : lt? d n = true) (hr : rep (mids σ ++ W.G) w y v) : St n W σ (put? l d y) (a.put d v) w := by
  cases d with
  | none => exact h
  | some d =>
    have hd : d < n := by simpa [lt?, Nat.blt_eq] using hd
    refine ⟨h.defers, by simp [Act.put, h.size], fun t x hx => ?_, h.mem⟩
    simp only [A.put?] at hx
    unfold slot at hx
    by_cases hdt : d = t
    · subst hdt
      simp at hx
      subst hx
      exact ⟨v, by simp [Act.put, h.size, hd], hr⟩
    · rw [beq_ne hdt] at hx
      obtain ⟨u, h1, h2⟩ := h.slots t x hx
      refine ⟨u, ?_, h2⟩
      simp only [Act.put]
      rw [Array.getElem?_setIfInBounds_ne hdt]; exact h1
theorem St.sub (h : St n W σ l a w) {r : Slots} (hs : Subs l r) : St n W σ r a w := ⟨h.defers, h.size, fun t v hv => h.slots t v (hs.slot t v hv), h.mem⟩
theorem St.less (h : St n W σ l a w) (hs : τ.Sublist σ) : St n W τ l a w := let ⟨h1, h2⟩ := h.mem.sub hs; h.to h1 h2
theorem St.perm (h : St n W σ l a w) (hs : τ.Perm σ) : St n W τ l a w := let ⟨h1, h2⟩ := h.mem.perm hs; h.to h1 h2
theorem St.drew (h : St n W σ l a w) : St n W σ l a w.drew := let ⟨h1, h2⟩ := h.mem.same (Still.ext (Still.drewN w 1)); h.to h1 h2
/-- A slot said otherwise. -/
theorem St.cast (h : St n W σ l a w) {t : Nat} {z : Abs} (hs : slot l t = some y) (hz : ∀ u, rep (mids σ ++ W.G) w y u → rep (mids σ ++ W.G) w z u) : St n W σ ((t, z) :: l) a w := by
  refine ⟨h.defers, h.size, fun i x hx => ?_, h.mem⟩
  unfold slot at hx
  by_cases hti : t = i
  · subst hti
    simp at hx
    subst hx
    obtain ⟨u, h1, h2⟩ := h.slots _ _ hs
    exact ⟨u, h1, hz u h2⟩
  · rw [beq_ne hti] at hx
    exact h.slots i x hx
def gd (ops : Array Oper) (l : Slots) (o : Oper) : Option Bool := match o.guard with
  | none => some true
  | some (j, want) => match (ops[j]?).bind (·.dst) with
    | some d => match slot l d with
      | some (.v (.bool b)) => some (b == want)
      | some (.v (.tuple _)) => some false
      | _ => none
    | none => none
theorem St.wanted (h : St n W σ l a w) {ops : Array Oper} {o : Oper} {r : Bool} (hg : gd ops l o = some r) : Region.wanted o (yielded ops a.tmps) = r := by
  unfold gd at hg
  unfold Region.wanted
  cases hgd : o.guard with
  | none => simp [hgd] at hg; show true = r; exact hg.symm
  | some p =>
    obtain ⟨j, want⟩ := p
    simp only [hgd] at hg
    dsimp only
    unfold yielded
    cases hd : (ops[j]?).bind (·.dst) with
    | none => simp [hd] at hg
    | some d =>
      simp only [hd] at hg
      cases hs : slot l d with
      | none => simp [hs] at hg
      | some y =>
        simp only [hs] at hg
        obtain ⟨u, h1, h2⟩ := h.slots d y hs
        simp only [Option.bind_some, h1]
        cases y with
        | v c =>
          have : u = c := h2
          subst this
          cases u <;> simp at hg
          · rename_i b
            rw [← hg]
            cases b <;> cases want <;> rfl
          · rw [hg]
            cases want <;> rfl
        | _ => simp at hg
end

/-! ### Judgements -/
section
variable {P : Program} {n : Nat} {W : Wd} {ops : Array Oper} {l : Slots} {σ τ : Blks} {X : List Nat} {Q : Exit → Act → World → Prop} {o : Oper} {rest : List Oper} {ix : Plan} {T : Act → World → Prop}
def SL (P : Program) (ops : Array Oper) (rest : List Oper) (T : Act → World → Prop) (Q : Exit → Act → World → Prop) : Prop := ∀ a w, T a w → wpList P ops Q rest a w
def SC (P : Program) (c : Code) (T : Act → World → Prop) (Q : Exit → Act → World → Prop) : Prop := ∀ a w, T a w → c.wp P Q a w
def SE (e : Exit) (T : Act → World → Prop) (Q : Exit → Act → World → Prop) : Prop := ∀ a w, T a w → Q e a w
def SX (P : Program) (ops : Array Oper) (ix : Plan) (X : List Nat) (T : Act → World → Prop) (Q : Exit → Act → World → Prop) : Prop := ∀ a w, T a w → planW P ops (Q .normal) ix (fun w' => Ext X w w') a w
/-- An operation that yields a value and leaves the world: in all worlds that differ by X and new blocks alone, the same. -/
def Val (P : Program) (n : Nat) (W : Wd) (σ : Blks) (l : Slots) (X : List Nat) (o : Oper) (y : Abs) : Prop := ∀ a w, St n W σ l a w → (∀ k ∈ X, k ∈ mids σ) →
  ∃ v, rep (mids σ ++ W.G) w y v ∧ ∀ w', Ext X w w' → (execOp a.eval o).run P w' = .ok (.value v) w'
/-- An operation that changes the world: of the blocks of before those of Y alone. -/
def Eff (P : Program) (n : Nat) (W : Wd) (σ : Blks) (l : Slots) (Y : List Nat) (o : Oper) (R : Abs → Blks → Prop) : Prop := ∀ a w, St n W σ l a w →
  ∃ v w' y τ, R y τ ∧ Ext Y w w' ∧ rep (mids τ ++ W.G) w' y v ∧ Mem W.w0 W.F W.G τ w' ∧ Carry (mids σ ++ W.G) w (mids τ ++ W.G) w' ∧
  ((execOp a.eval o).run P w = .ok (.value v) w' ∨ (v = undef ∧ (execOp a.eval o).run P w = .ok .skip w'))

theorem SL.nil (h : SE .normal T Q) : SL P ops [] T Q := h
theorem SL.to {T' : Act → World → Prop} (h : ∀ a w, T a w → T' a w) (k : SL P ops rest T' Q) : SL P ops rest T Q := fun a w ha => k a w (h a w ha)
theorem SX.to {T' : Act → World → Prop} (h : ∀ a w, T a w → T' a w) (k : SX P ops ix X T' Q) : SX P ops ix X T Q := fun a w ha => k a w (h a w ha)
theorem SC.to {c : Code} {T' : Act → World → Prop} (h : ∀ a w, T a w → T' a w) (k : SC P c T' Q) : SC P c T Q := fun a w ha => k a w (h a w ha)
theorem SL.val {y : Abs} (hv : Val P n W σ l [] o y) (hg : gd ops l o = some true) (hd : lt? o.dst n = true) (k : SL P ops rest (St n W σ (put? l o.dst y)) Q) : SL P ops (o :: rest) (St n W σ l) Q := fun a w hs =>
  wpList_step fun K hK => by
    rw [if_pos (hs.wanted hg)]
    obtain ⟨v, hr, hrun⟩ := hv a w hs (by simp)
    unfold Oper.wp
    rw [hrun w (Ext.refl w)]
    exact hK _ _ (k _ _ (hs.put hd hr))
theorem SL.eff {Y : List Nat} {R : Abs → Blks → Prop} (hv : Eff P n W σ l Y o R) (hg : gd ops l o = some true) (hd : lt? o.dst n = true) (k : ∀ y τ, R y τ → SL P ops rest (St n W τ (put? l o.dst y)) Q) : SL P ops (o :: rest) (St n W σ l) Q := fun a w hs =>
  wpList_step fun K hK => by
    rw [if_pos (hs.wanted hg)]
    unfold Oper.wp
    obtain ⟨v, w', y, τ, hR, _, hr, hm, hc, hrun | ⟨rfl, hrun⟩⟩ := hv a w hs
    · rw [hrun]; exact hK _ _ (k _ _ hR _ _ ((hs.to hm hc).put hd hr))
    · rw [hrun]; exact hK _ _ (k _ _ hR _ _ ((hs.to hm hc).put hd hr))
theorem SL.skip (hg : gd ops l o = some false) (hd : lt? o.dst n = true) (k : SL P ops rest (St n W σ (put? l o.dst (.v undef))) Q) : SL P ops (o :: rest) (St n W σ l) Q := fun a w hs =>
  wpList_step fun K hK => by
    rw [if_neg (by rw [hs.wanted hg]; simp)]
    exact hK _ _ (k _ _ (hs.put hd (show rep _ _ (.v undef) undef from rfl)))
theorem SL.both {t : Nat} {b : Bool} (hs : slot l t = some (.v (.bool b))) (ht : b = true → SL P ops rest (St n W σ ((t, .v (.bool true)) :: l)) Q) (hf : b = false → SL P ops rest (St n W σ ((t, .v (.bool false)) :: l)) Q) : SL P ops rest (St n W σ l) Q := fun a w h => by
  cases b with
  | true => exact ht rfl a w (h.cast hs fun _ h => h)
  | false => exact hf rfl a w (h.cast hs fun _ h => h)
theorem SL.bothP {t : Nat} {p : Prop} [hp : Decidable p] (hs : slot l t = some (.v (.bool (decide p)))) (ht : p → SL P ops rest (St n W σ ((t, .v (.bool true)) :: l)) Q) (hf : ¬p → SL P ops rest (St n W σ ((t, .v (.bool false)) :: l)) Q) : SL P ops rest (St n W σ l) Q :=
  SL.both hs (fun h => ht (of_decide_eq_true h)) (fun h => hf (of_decide_eq_false h))
theorem SL.cast {t : Nat} {y : Abs} (z : Abs) (hs : slot l t = some y) (hz : ∀ K w u, rep K w y u → rep K w z u) (k : SL P ops rest (St n W σ ((t, z) :: l)) Q) : SL P ops rest (St n W σ l) Q := fun a w h => k a w (h.cast hs (hz _ _))
theorem SX.cast {t : Nat} {y : Abs} (z : Abs) (hs : slot l t = some y) (hz : ∀ K w u, rep K w y u → rep K w z u) (k : SX P ops ix X (St n W σ ((t, z) :: l)) Q) : SX P ops ix X (St n W σ l) Q := fun a w h => k a w (h.cast hs (hz _ _))
theorem SC.cast {c : Code} {t : Nat} {y : Abs} (z : Abs) (hs : slot l t = some y) (hz : ∀ K w u, rep K w y u → rep K w z u) (k : SC P c (St n W σ ((t, z) :: l)) Q) : SC P c (St n W σ l) Q := fun a w h => k a w (h.cast hs (hz _ _))

/-! ### Plans -/
theorem SX.nil (h : SE .normal T Q) : SX P ops .nil X T Q := fun a w hs => h a w hs
theorem SX.val {i : Nat} {y : Abs} (hi : ops[i]? = some o) (hv : Val P n W σ l X o y) (hX : ∀ k ∈ X, k ∈ mids σ) (hg : gd ops l o = some true) (hd : lt? o.dst n = true) (k : SX P ops ix X (St n W σ (put? l o.dst y)) Q) : SX P ops (.q i ix) X (St n W σ l) Q := fun a w hs => by
  obtain ⟨v, hr, hrun⟩ := hv a w hs hX
  exact ⟨o, v, hi, .inl ⟨hs.wanted hg, fun w' hw' => hrun w' hw'⟩, k _ _ (hs.put hd hr)⟩
/-- The blocks that may be changed are among the pieces: said once. -/
theorem SX.hx (h : ∀ k ∈ X, k ∈ mids σ) (k : (∀ k ∈ X, k ∈ mids σ) → SX P ops ix X (St n W σ l) Q) : SX P ops ix X (St n W σ l) Q := k h
theorem SX.skip {i : Nat} (hi : ops[i]? = some o) (hg : gd ops l o = some false) (hd : lt? o.dst n = true) (k : SX P ops ix X (St n W σ (put? l o.dst (.v undef))) Q) : SX P ops (.q i ix) X (St n W σ l) Q := fun _ _ hs =>
  ⟨o, undef, hi, .inr ⟨hs.wanted hg, rfl⟩, k _ _ (hs.put hd (show rep _ _ (.v undef) undef from rfl))⟩
theorem SX.eff {i : Nat} {Y : List Nat} {R : Abs → Blks → Prop} (hi : ops[i]? = some o) (hv : Eff P n W σ l Y o R) (hY : ∀ k ∈ Y, k ∈ X) (hg : gd ops l o = some true) (hd : lt? o.dst n = true)
    (k : ∀ y τ, R y τ → SX P ops ix X (St n W τ (put? l o.dst y)) Q) : SX P ops (.e i ix) X (St n W σ l) Q := fun a w hs => by
  unfold planW wpOp
  simp only [hi, hs.wanted hg, if_true]
  refine .inl ?_
  unfold Oper.wp
  obtain ⟨v, w', y, τ, hR, hx, hr, hm, hc, hrun | ⟨rfl, hrun⟩⟩ := hv a w hs
  · rw [hrun]; exact ⟨fun w2 => Ext X w' w2, fun w2 h2 => (hx.mono (fun k hk => .inl (hY k hk))).trans h2 fun k hk => .inl hk, Ext.refl w', k _ _ hR _ _ ((hs.to hm hc).put hd hr)⟩
  · rw [hrun]; exact ⟨fun w2 => Ext X w' w2, fun w2 h2 => (hx.mono (fun k hk => .inl (hY k hk))).trans h2 fun k hk => .inl hk, Ext.refl w', k _ _ hR _ _ ((hs.to hm hc).put hd hr)⟩
/-- An operation that yields a value, when its turn comes. -/
theorem SX.valE {i : Nat} {y : Abs} (hi : ops[i]? = some o) (hv : Val P n W σ l [] o y) (hg : gd ops l o = some true) (hd : lt? o.dst n = true) (k : SX P ops ix X (St n W σ (put? l o.dst y)) Q) : SX P ops (.e i ix) X (St n W σ l) Q := fun a w hs => by
  unfold planW wpOp
  simp only [hi, hs.wanted hg, if_true]
  refine .inl ?_
  unfold Oper.wp
  obtain ⟨v, hr, hrun⟩ := hv a w hs (by simp)
  rw [hrun w (Ext.refl w)]
  exact ⟨fun w2 => Ext X w w2, fun w2 h2 => h2, Ext.refl w, k _ _ (hs.put hd hr)⟩
theorem SX.two {i j : Nat} {k h : Plan} (h1 : SX P ops (.e i k) X T Q) (h2 : SX P ops (.e j h) X T Q) : SX P ops (.two i j k h) X T Q := fun a w hs => ⟨h1 a w hs, h2 a w hs⟩
theorem SX.both {t : Nat} {b : Bool} (hs : slot l t = some (.v (.bool b))) (ht : b = true → SX P ops ix X (St n W σ ((t, .v (.bool true)) :: l)) Q) (hf : b = false → SX P ops ix X (St n W σ ((t, .v (.bool false)) :: l)) Q) : SX P ops ix X (St n W σ l) Q := fun a w h => by
  cases b with
  | true => exact ht rfl a w (h.cast hs fun _ h => h)
  | false => exact hf rfl a w (h.cast hs fun _ h => h)
theorem SX.bothP {t : Nat} {p : Prop} [hp : Decidable p] (hs : slot l t = some (.v (.bool (decide p)))) (ht : p → SX P ops ix X (St n W σ ((t, .v (.bool true)) :: l)) Q) (hf : ¬p → SX P ops ix X (St n W σ ((t, .v (.bool false)) :: l)) Q) : SX P ops ix X (St n W σ l) Q :=
  SX.both hs (fun h => ht (of_decide_eq_true h)) (fun h => hf (of_decide_eq_false h))
/-- A region that draws its order, by a plan. Its calls may change the blocks X. -/
theorem SC.draw {id : Nat} (X : List Nat) (ix : Plan) (hm : P.follows .mixedOrders = true)
    (hok : (Region.noSelect ops && planOk ops ops.size (Array.replicate ops.size false) ix) = true) (h : SX P ops ix X (St n W σ l) Q) : SC P (.region id ops true) (St n W σ l) Q := fun a w hs =>
  wp_region_plan (fun w' => Ext X w.drew w') ix hm hok (Ext.refl _) (h a _ hs.drew)

/-! ### Codes -/
section
variable {x y : Code} {id : Nat} {F : Exit → Act → World → Prop}
theorem SC.seq (h : SC P x T (Exit.then (y.wp P Q) Q)) : SC P (.seq x y) T Q := fun a w hs => wp_seq (h a w hs)
theorem SC.region {os : List Oper} (h : SL P os.toArray os T Q) : SC P (.region id os.toArray false) T Q := fun a w hs => wp_region_lit (h a w hs)
theorem SC.skip (h : SE .normal T Q) : SC P .skip T Q := fun a w hs => wp_skip (h a w hs)
theorem SC.exit (h : SE (.exit id) T Q) : SC P (.exit id) T Q := fun a w hs => wp_exit (h a w hs)
theorem SC.ret (h : SE .ret T Q) : SC P .ret T Q := fun a w hs => wp_ret (h a w hs)
theorem SC.block (h : SC P x T (Exit.inBlock id Q)) : SC P (.block id x) T Q := fun a w hs => wp_block (h a w hs)
theorem SC.cond {c : Operand} {b : Bool} (hc : look l c = some (.v (.bool b))) (ht : b = true → SC P x (St n W σ l) Q) (hf : b = false → SC P y (St n W σ l) Q) : SC P (.cond c x y) (St n W σ l) Q := fun a w hs =>
  wp_cond_split (hs.plain hc) (fun h => ht h a w hs) (fun h => hf h a w hs)
theorem SC.condP {c : Operand} {p : Prop} [Decidable p] (hc : look l c = some (.v (.bool (decide p)))) (ht : p → SC P x (St n W σ l) Q) (hf : ¬p → SC P y (St n W σ l) Q) : SC P (.cond c x y) (St n W σ l) Q :=
  SC.cond hc (fun h => ht (of_decide_eq_true h)) (fun h => hf (of_decide_eq_false h))
theorem SC.condT {c : Operand} (hc : look l c = some (.v (.bool true))) (ht : SC P x (St n W σ l) Q) : SC P (.cond c x y) (St n W σ l) Q := SC.cond hc (fun _ => ht) (fun h => by cases h)
theorem SC.condF {c : Operand} (hc : look l c = some (.v (.bool false))) (hf : SC P y (St n W σ l) Q) : SC P (.cond c x y) (St n W σ l) Q := SC.cond hc (fun h => by cases h) (fun _ => hf)
theorem SE.seq (h : SC P y T Q) : SE .normal T (Exit.then (y.wp P Q) Q) := h
theorem SE.then_ {e : Exit} {G : Act → World → Prop} (he : e ≠ .normal) (h : SE e T Q) : SE e T (Exit.then G Q) := fun a w hs => by
  cases e <;> first | exact h a w hs | exact absurd rfl he
theorem SE.inBlock (h : SE .normal T Q) : SE .normal T (Exit.inBlock id Q) := h
theorem SE.exit (h : SE .normal T Q) : SE (.exit id) T (Exit.inBlock id Q) := fun a w hs => by
  show if id = id then _ else _
  rw [if_pos rfl]; exact h a w hs
theorem SE.exit_ {j : Nat} (hj : Nat.beq j id = false) (h : SE (.exit j) T Q) : SE (.exit j) T (Exit.inBlock id Q) := fun a w hs => by
  show if j = id then _ else _
  rw [if_neg (by intro he; subst he; simp at hj)]; exact h a w hs
theorem SE.ret (h : SE .ret T Q) : SE .ret T (Exit.inBlock id Q) := h
/-- A loop: what holds at each round's head, by a state that goes down. -/
theorem SC.loop0 {ι : Type} (K : ι → Act → World → Prop) (m : ι → Nat) (x₀ : ι) (hs : ∀ a w, T a w → K x₀ a w)
    (round : ∀ z, SC P x (K z) (Exit.then (fun a w => ∃ u, m u < m z ∧ K u a w) Q)) : SC P (.loop x) T Q := by
  intro a0 w0 hf0 b kk cs
  have key : ∀ k z, m z = k → ∀ a w, K z a w →
      ∃ e a' w', Q e a' w' ∧ Arrives P (lone (b.at a (.code x :: .inLoop x :: kk)) cs w) b kk cs e a' w' := by
    intro k
    induction k using Nat.strongRecOn with
    | _ k ih =>
      intro z hz a w hw
      obtain ⟨e, a₁, w₁, hq, harr⟩ := round z a w hw b (.inLoop x :: kk) cs
      cases e with
      | normal =>
        obtain ⟨u, hu, hw₁⟩ := hq
        obtain ⟨e₂, a₂, w₂, hq₂, harr₂⟩ := ih (m u) (hz ▸ hu) u rfl a₁ w₁ hw₁
        exact ⟨e₂, a₂, w₂, hq₂, .of_steps (Steps.trans harr (.one step_inLoop)) harr₂⟩
      | exit id => exact ⟨_, a₁, w₁, hq, .pass (x := .inLoop x) rfl (fun _ _ => .inl (by simp)) harr⟩
      | goto l => exact ⟨_, a₁, w₁, hq, .pass (x := .inLoop x) rfl (fun _ _ => .inl (by simp)) harr⟩
      | ret => exact ⟨_, a₁, w₁, hq, .pass (x := .inLoop x) rfl (fun _ _ => .inl (by simp)) harr⟩
      | panic ch => exact ⟨_, a₁, w₁, hq, .pass (x := .inLoop x) rfl (fun _ _ => .inl (by simp)) harr⟩
      | outgrown => exact ⟨_, a₁, w₁, hq, .pass (x := .inLoop x) rfl (fun _ _ => .inl (by simp)) harr⟩
  obtain ⟨e, a', w', hq, harr⟩ := key _ x₀ rfl a0 w0 (hs a0 w0 hf0)
  exact ⟨e, a', w', hq, .of_steps (.one step_loop) harr⟩
/-- The state at a loop's head. -/
def Head {ι : Type} (n : Nat) (W : Wd) (H : ι → Blks) (L : ι → Slots) (Φ : ι → Prop) (z : ι) (a : Act) (w : World) : Prop := Φ z ∧ St n W (H z) (L z) a w
theorem SC.loop {ι : Type} (H : ι → Blks) (L : ι → Slots) (Φ : ι → Prop) (m : ι → Nat) (x₀ : ι) (hΦ : Φ x₀) (hs : Subs l (L x₀)) (hH : (H x₀).Sublist σ)
    (round : ∀ z, Φ z → SC P x (St n W (H z) (L z)) (Exit.then (fun a w => ∃ u, m u < m z ∧ Head n W H L Φ u a w) Q)) : SC P (.loop x) (St n W σ l) Q :=
  SC.loop0 (Head n W H L Φ) m x₀ (fun _ _ h => ⟨hΦ, (h.less hH).sub hs⟩) fun z a w h => round z h.1 a w h.2
theorem SE.round {ι : Type} {H : ι → Blks} {L : ι → Slots} {Φ : ι → Prop} {m : ι → Nat} {z : ι} (u : ι) (hm : m u < m z) (hΦ : Φ u) (hs : Subs l (L u)) (hH : (H u).Sublist σ) :
    SE .normal (St n W σ l) (Exit.then (fun a w => ∃ u, m u < m z ∧ Head n W H L Φ u a w) Q) := fun _ _ h => ⟨u, hm, hΦ, (h.less hH).sub hs⟩
/-- A cut: where ways meet again. -/
theorem SC.cut {ι : Type} (H : ι → Blks) (L : ι → Slots) (Φ : ι → Prop) (h : SC P x T (Exit.then (fun a w => ∃ z, Head n W H L Φ z a w) Q)) (k : ∀ z, Φ z → SC P y (St n W (H z) (L z)) Q) : SC P (.seq x y) T Q := fun a w hs =>
  wp_seq (wp_mono (h a w hs) fun e a' w' he => by
    cases e with
    | normal => obtain ⟨z, h1, h2⟩ := he; exact k z h1 a' w' h2
    | _ => exact he)
theorem SE.meet {ι : Type} {H : ι → Blks} {L : ι → Slots} {Φ : ι → Prop} (z : ι) (hΦ : Φ z) (hs : Subs l (L z)) (hH : (H z).Sublist σ) : SE .normal (St n W σ l) (Exit.then (fun a w => ∃ z, Head n W H L Φ z a w) Q) := fun _ _ h => ⟨z, hΦ, (h.less hH).sub hs⟩
end

/-! ### Calls -/
/-- What a function makes of arguments and pieces: pieces τ z, and a value. -/
def Spec (P : Program) (f : FuncId) (args : List Abs) (σ : Blks) {ι : Type} (τ : ι → Blks) (res : ι → Abs) : Prop :=
  ∀ (G : List Nat) (w : World) (vals : List Value), Mem w (mids σ) G σ w → reps (mids σ ++ G) w args vals →
    Calls P f vals.toArray w fun e w' => ∃ z r, e = .returned r ∧ (∀ x ∈ τ z, x.rids = []) ∧ Mem w (mids σ) G (τ z) w' ∧ rep (mids (τ z) ++ G) w' (res z) r
/-- A function that leaves all pieces alone. -/
abbrev Pure (P : Program) (f : FuncId) (args : List Abs) (res : Abs) : Prop := Spec P f args [] (fun _ : Unit => []) (fun _ => res)
/-- The pieces σ1 out of σ; φ is left. -/
structure Split (σ σ1 φ : Blks) : Prop where
  perm : (mids σ1 ++ mids φ).Perm (mids σ)
  sub : ∀ x ∈ σ1, (x ∈ σ ∧ x.rids = []) ∨ ∃ y ∈ φ, x = y.toRd
  rest : ∀ x ∈ φ, x ∈ σ
theorem toRd_holds {K : List Nat} {w : World} {y : It} (h : y.holds K w) : y.toRd.holds K w := by cases y <;> exact h
theorem toRd_rids (y : It) : ∀ k ∈ y.toRd.rids, k ∈ y.mids ++ y.rids := by cases y <;> simp [It.toRd, It.rids, It.mids]
theorem toRd_mids (y : It) : y.toRd.mids = [] := by cases y <;> rfl
theorem Spec.run {f : FuncId} {args : List Abs} {σ1 φ : Blks} {ι : Type} {τ : ι → Blks} {res : ι → Abs} (hs : Spec P f args σ1 τ res) {w0 w : World} {F G : List Nat} (hm : Mem w0 F G σ w) (hp : Split σ σ1 φ)
    {vals : List Value} (hv : reps (mids σ ++ G) w args vals) :
    Calls P f vals.toArray w fun e w' => ∃ z r, e = .returned r ∧ Ext (mids σ1) w w' ∧ (∀ k ∈ mids (τ z), k ∈ mids σ1 ∨ w.heap.size ≤ k) ∧ Mem w0 F G (τ z ++ φ) w' ∧ Carry (mids σ ++ G) w (mids (τ z ++ φ) ++ G) w' ∧ rep (mids (τ z ++ φ) ++ G) w' (res z) r := by
  have hmem : ∀ k, k ∈ mids σ ↔ k ∈ mids σ1 ∨ k ∈ mids φ := fun k => by rw [← hp.perm.mem_iff, List.mem_append]
  have hnd : (mids σ1 ++ mids φ).Nodup := hp.perm.nodup_iff.2 hm.nodup
  obtain ⟨n1, n2, n3⟩ := List.nodup_append.1 hnd
  have hc1 : Carry (mids σ ++ G) w (mids σ1 ++ (mids φ ++ G)) w := Carry.less fun k hk => by
    simp only [List.mem_append] at hk ⊢
    rw [hmem]
    rcases hk with h | h | h
    · exact .inl (.inl h)
    · exact .inl (.inr h)
    · exact .inr h
  have hm1 : Mem w (mids σ1) (mids φ ++ G) σ1 w := by
    refine ⟨Ext.refl w, fun k hk => .inl hk, fun k hk hg => ?_, fun k hk => ?_, fun x hx k hk => ?_, n1, fun x hx => ?_⟩
    · rcases List.mem_append.1 hg with h | h
      · exact n3 k hk k h rfl
      · exact hm.sep k ((hmem k).2 (.inl hk)) h
    · rcases List.mem_append.1 hk with h | h
      · exact hm.lt k (List.mem_append_left _ ((hmem k).2 (.inr h)))
      · exact hm.old k h
    · rcases hp.sub x hx with ⟨_, h⟩ | ⟨y, hy, rfl⟩
      · rw [h] at hk; cases hk
      · rcases List.mem_append.1 (toRd_rids y k hk) with h | h
        · exact List.mem_append_left _ (mids_mem.2 ⟨y, hy, h⟩)
        · exact List.mem_append_right _ (hm.ro y (hp.rest y hy) k h)
    · rcases hp.sub x hx with ⟨h, _⟩ | ⟨y, hy, rfl⟩
      · exact It.carry (hm.hold x h) hc1 fun _ _ => rfl
      · exact toRd_holds (It.carry (hm.hold y (hp.rest y hy)) hc1 fun _ _ => rfl)
  refine (hs _ w vals hm1 (reps_carry hc1 _ _ hv)).mono fun e w' ⟨z, r, he, h0, h1, h2⟩ => ⟨z, r, he, h1.ext, h1.out, ?_⟩
  have hK : Carry (mids (τ z) ++ (mids φ ++ G)) w' (mids (τ z ++ φ) ++ G) w' := Carry.less fun k hk => by
    rw [mids_append] at hk
    simpa [List.append_assoc] using hk
  have hst := hm.step (τ := τ z ++ φ) h1.ext (fun k hk => (hmem k).2 (.inl hk)) (fun k hk => ?_) (fun x hx k hk => ?_) ?_ (fun hc x hx => ?_)
  · exact ⟨hst.1, hst.2, rep_carry hK _ _ h2⟩
  · rw [mids_append] at hk
    rcases List.mem_append.1 hk with h | h
    · rcases h1.out k h with h | h
      · exact .inl ((hmem k).2 (.inl h))
      · exact .inr h
    · exact .inl ((hmem k).2 (.inr h))
  · rcases List.mem_append.1 hx with h | h
    · rw [h0 x h] at hk; cases hk
    · exact hm.ro x (hp.rest x h) k hk
  · rw [mids_append, List.nodup_append]
    refine ⟨h1.nodup, n2, fun a ha b hb he => ?_⟩
    subst he
    exact h1.sep a ha (List.mem_append_left _ hb)
  · rcases List.mem_append.1 hx with h | h
    · exact It.carry (h1.hold x h) hK fun _ _ => rfl
    · exact hm.keep h1.ext hc (hp.rest x h) (fun k hk hk1 => n3 k hk1 k (mids_mem.2 ⟨x, h, hk⟩) rfl) fun k hk => (hmem k).2 (.inl hk)
theorem Split.none : Split σ [] σ := ⟨by simp [mids], by simp, fun _ h => h⟩
/-- Pieces that are read alone. -/
theorem Split.rds {ys : Blks} (h : ∀ y ∈ ys, y ∈ σ) : Split σ (ys.map It.toRd) σ := by
  refine ⟨?_, fun x hx => ?_, fun _ h => h⟩
  · have : mids (ys.map It.toRd) = [] := by
      unfold mids
      simp [List.flatMap_map, toRd_mids]
    rw [this]; exact List.Perm.refl _
  · obtain ⟨y, hy, rfl⟩ := List.mem_map.1 hx; exact .inr ⟨y, h y hy, rfl⟩
/-- One piece that may be changed, and others that are read. -/
theorem Split.one {x : It} {α β : Blks} (hx : x.rids = []) {ys : Blks} (h : ∀ y ∈ ys, y ∈ α ++ β) : Split (α ++ x :: β) (x :: ys.map It.toRd) (α ++ β) := by
  refine ⟨?_, fun z hz => ?_, fun z hz => ?_⟩
  · have : mids (ys.map It.toRd) = [] := by
      unfold mids
      simp [List.flatMap_map, toRd_mids]
    rw [mids_cons, this, List.append_nil, mids_append, mids_append, mids_cons]
    exact List.perm_append_comm_assoc _ _ _
  · rcases List.mem_cons.1 hz with rfl | hz
    · exact .inl ⟨by simp, hx⟩
    · obtain ⟨y, hy, rfl⟩ := List.mem_map.1 hz; exact .inr ⟨y, h y hy, rfl⟩
  · rcases List.mem_append.1 hz with h | h <;> simp [h]
/-- Values said otherwise. -/
def Casts (xs ys : List Abs) : Prop := ∀ K w us, reps K w xs us → reps K w ys us
theorem Casts.refl {xs : List Abs} : Casts xs xs := fun _ _ _ h => h
theorem Casts.cons {x y : Abs} {xs ys : List Abs} (h : ∀ K w u, rep K w x u → rep K w y u) (k : Casts xs ys) : Casts (x :: xs) (y :: ys) := fun K w _ ⟨u, us', h1, h2, h3⟩ => ⟨u, us', h1, h K w u h2, k K w us' h3⟩
theorem Casts.keep {x : Abs} {xs ys : List Abs} (k : Casts xs ys) : Casts (x :: xs) (x :: ys) := k.cons fun _ _ _ h => h
section
variable {f : FuncId} {args args' : List Abs} {σ1 φ : Blks} {ι : Type} {τ' : ι → Blks} {res : ι → Abs} {xs : List Operand} {ats : Array TypeId} {d : Option Nat} {ty : TypeId} {pos : String} {aft : Array Edge} {g : Option (Nat × Bool)} {i : Nat} {x : Operand} {m : String} {t : TypeId} {y : Abs} {bs cs : List Abs}
/-- Pieces that are read, out of those there are. -/
inductive Reads (σ : Blks) : Blks → Prop
  | nil : Reads σ []
  | blk {b : Nat} {t : TypeId} {cs : List Abs} {τ : Blks} (h : It.blk b t cs ∈ σ) (k : Reads σ τ) : Reads σ (.rd b t cs :: τ)
  | rd {b : Nat} {t : TypeId} {cs : List Abs} {τ : Blks} (h : It.rd b t cs ∈ σ) (k : Reads σ τ) : Reads σ (.rd b t cs :: τ)
  | pc {c : Pc} {τ : Blks} (h : It.pc c ∈ σ) (k : Reads σ τ) : Reads σ (.rdpc c :: τ)
  | rdpc {c : Pc} {τ : Blks} (h : It.rdpc c ∈ σ) (k : Reads σ τ) : Reads σ (.rdpc c :: τ)
theorem Reads.ys (h : Reads σ τ) : ∃ ys : Blks, (∀ y ∈ ys, y ∈ σ) ∧ τ = ys.map It.toRd := by
  induction h with
  | nil => exact ⟨[], by simp, rfl⟩
  | blk h _ ih => obtain ⟨ys, h1, rfl⟩ := ih; exact ⟨_ :: ys, List.forall_mem_cons.2 ⟨h, h1⟩, rfl⟩
  | rd h _ ih => obtain ⟨ys, h1, rfl⟩ := ih; exact ⟨_ :: ys, List.forall_mem_cons.2 ⟨h, h1⟩, rfl⟩
  | pc h _ ih => obtain ⟨ys, h1, rfl⟩ := ih; exact ⟨_ :: ys, List.forall_mem_cons.2 ⟨h, h1⟩, rfl⟩
  | rdpc h _ ih => obtain ⟨ys, h1, rfl⟩ := ih; exact ⟨_ :: ys, List.forall_mem_cons.2 ⟨h, h1⟩, rfl⟩
theorem Reads.split (h : Reads σ τ) : Split σ τ σ := by obtain ⟨ys, h1, rfl⟩ := h.ys; exact Split.rds h1
/-- What is to be shown behind a call that takes the pieces σ1 and leaves τ' z. -/
def After (σ σ1 : Blks) (τ' : ι → Blks) (K : Blks → ι → Prop) : Prop := ∃ φ, Split σ σ1 φ ∧ ∀ z, ∃ ν : Blks, ν.Perm (τ' z ++ φ) ∧ K ν z
section
variable {K : Blks → ι → Prop} {u : It} {uy : ι → It}
theorem After.pure (h : Reads σ σ1) (hτ : ∀ z, τ' z = []) (k : ∀ z, K σ z) : After σ σ1 τ' K := ⟨σ, h.split, fun z => ⟨σ, by rw [hτ z]; exact List.Perm.refl _, k z⟩⟩
/-- It makes a new piece. -/
theorem After.make (h : Reads σ σ1) (hτ : ∀ z, τ' z = [uy z]) (k : ∀ z, K (uy z :: σ) z) : After σ σ1 τ' K := ⟨σ, h.split, fun z => ⟨_, by rw [hτ z]; exact List.Perm.refl _, k z⟩⟩
theorem After.make2 {uz : ι → It} (h : Reads σ σ1) (hτ : ∀ z, τ' z = [uy z, uz z]) (k : ∀ z, K (uy z :: uz z :: σ) z) : After σ σ1 τ' K := ⟨σ, h.split, fun z => ⟨_, by rw [hτ z]; exact List.Perm.refl _, k z⟩⟩
theorem upd_perm {x y : It} {α β ν : Blks} (h : Upd x y (α ++ x :: β) ν) : ν.Perm (y :: (α ++ β)) := by
  obtain ⟨α', β', h1, rfl⟩ := h.split
  have h2 : (x :: (α ++ β)).Perm (x :: (α' ++ β')) := (List.perm_middle (a := x) (l₁ := α) (l₂ := β)).symm.trans ((h1 ▸ List.Perm.refl _ : (α ++ x :: β).Perm (α' ++ x :: β')).trans List.perm_middle)
  exact List.perm_middle.trans (List.Perm.cons y h2.cons_inv.symm)
/-- It changes one piece. -/
theorem After.one (hx : u.rids = []) (hm : u ∈ σ) (hτ : ∀ z, τ' z = [uy z]) (k : ∀ z, ∃ ν, Upd u (uy z) σ ν ∧ K ν z) : After σ [u] τ' K := by
  obtain ⟨α, β, rfl⟩ := List.append_of_mem hm
  refine ⟨α ++ β, Split.one hx (ys := []) (by simp), fun z => ?_⟩
  obtain ⟨ν, h1, h2⟩ := k z
  exact ⟨ν, by rw [hτ z]; exact upd_perm (α := α) (β := β) (x := u) h1, h2⟩
/-- It changes one piece, and reads others. -/
theorem After.oneR {ys : Blks} (hx : u.rids = []) (hm : u ∈ σ) (hr : ∀ y ∈ ys, y ∈ σ ∧ y ≠ u) (h1 : σ1 = u :: ys.map It.toRd) (hτ : ∀ z, τ' z = [uy z]) (k : ∀ z, ∃ ν, Upd u (uy z) σ ν ∧ K ν z) : After σ σ1 τ' K := by
  subst h1
  obtain ⟨α, β, rfl⟩ := List.append_of_mem hm
  refine ⟨α ++ β, Split.one hx fun y hy => ?_, fun z => ?_⟩
  · obtain ⟨h2, h3⟩ := hr y hy
    simp only [List.mem_append, List.mem_cons] at h2 ⊢
    rcases h2 with h2 | h2 | h2
    · exact .inl h2
    · exact absurd h2 h3
    · exact .inr h2
  · obtain ⟨ν, h1, h2⟩ := k z
    exact ⟨ν, by rw [hτ z]; exact upd_perm (α := α) (β := β) (x := u) h1, h2⟩
end
theorem Spec.after {w0 w : World} {F G : List Nat} {K : Blks → ι → Prop} (hs : Spec P f args' σ1 τ' res) (hm : Mem w0 F G σ w) {vals : List Value} (hv : reps (mids σ ++ G) w args' vals) (k : After σ σ1 τ' K) :
    Calls P f vals.toArray w fun e w' => ∃ z r ν, e = .returned r ∧ Ext (mids σ1) w w' ∧ (∀ k ∈ mids (τ' z), k ∈ mids σ1 ∨ w.heap.size ≤ k) ∧ Mem w0 F G ν w' ∧ Carry (mids σ ++ G) w (mids ν ++ G) w' ∧ rep (mids ν ++ G) w' (res z) r ∧ K ν z := by
  obtain ⟨φ, hp, hk⟩ := k
  refine (hs.run hm hp hv).mono fun e w' ⟨z, r, he, hx, ho, hm', hc, hr⟩ => ?_
  obtain ⟨ν, h1, h2⟩ := hk z
  obtain ⟨h3, h4⟩ := hm'.perm h1
  exact ⟨z, r, ν, he, hx, ho, h3, hc.trans h4, rep_carry h4 _ _ hr, h2⟩
/-- A call of a Go function. -/
theorem SL.call (hs : Spec P f args' σ1 τ' res) (hca : Casts args args') (hb : goesIn P f = true) (hv : looks l xs = some args)
    (hg : gd ops l ⟨d, .call { callee := .value (.func f), args := xs.toArray, argTypes := ats }, ty, pos, aft, g⟩ = some true) (hd : lt? d n = true)
    (k : After σ σ1 τ' fun ν z => SL P ops rest (St n W ν (put? l d (res z))) Q) :
    SL P ops (⟨d, .call { callee := .value (.func f), args := xs.toArray, argTypes := ats }, ty, pos, aft, g⟩ :: rest) (St n W σ l) Q := fun a w h =>
  wpList_step fun K hK => by
    rw [if_pos (h.wanted hg)]
    unfold Oper.wp
    rw [run_call hb rfl, Oper.upon_enter]
    refine (hs.after h.mem (hca _ _ _ (h.evals hv)) k).mono fun e w' ⟨z, r, ν, he, _, _, hm, hc, hr, hk⟩ => ?_
    subst he
    exact hK _ _ (hk _ _ ((h.to hm hc).put hd hr))
theorem SX.call (hi : ops[i]? = some ⟨d, .call { callee := .value (.func f), args := xs.toArray, argTypes := ats }, ty, pos, aft, g⟩) (hs : Spec P f args' σ1 τ' res) (hX : ∀ k ∈ mids σ1, k ∈ X) (hca : Casts args args') (hb : goesIn P f = true) (hv : looks l xs = some args)
    (hg : gd ops l ⟨d, .call { callee := .value (.func f), args := xs.toArray, argTypes := ats }, ty, pos, aft, g⟩ = some true) (hd : lt? d n = true)
    (k : After σ σ1 τ' fun ν z => SX P ops ix X (St n W ν (put? l d (res z))) Q) : SX P ops (.e i ix) X (St n W σ l) Q := fun a w h => by
  unfold planW wpOp
  simp only [hi, h.wanted hg, if_true]
  refine .inl ?_
  unfold Oper.wp
  rw [run_call hb rfl, Oper.upon_enter]
  refine (hs.after h.mem (hca _ _ _ (h.evals hv)) k).mono fun e w' ⟨z, r, ν, he, hx, _, hm, hc, hr, hk⟩ => ?_
  subst he
  exact ⟨fun w2 => Ext X w' w2, fun w2 h2 => (hx.mono (fun k hk => .inl (hX k hk))).trans h2 fun k hk => .inl hk, Ext.refl w', hk _ _ ((h.to hm hc).put hd hr)⟩
/-- A call of a function value. -/
theorem SL.callv (hs : Spec P f args' σ1 τ' res) (hx : look l x = some (.fn (.func f) bs cs)) (hca : Casts (bs ++ args ++ cs) args') (hb : goesIn P f = true) (hv : looks l xs = some args)
    (hg : gd ops l ⟨d, .call { callee := .value x, args := xs.toArray, argTypes := ats }, ty, pos, aft, g⟩ = some true) (hd : lt? d n = true)
    (k : After σ σ1 τ' fun ν z => SL P ops rest (St n W ν (put? l d (res z))) Q) :
    SL P ops (⟨d, .call { callee := .value x, args := xs.toArray, argTypes := ats }, ty, pos, aft, g⟩ :: rest) (St n W σ l) Q := fun a w h =>
  wpList_step fun K hK => by
    rw [if_pos (h.wanted hg)]
    unfold Oper.wp
    obtain ⟨us, vs, h1, h2, h3⟩ := h.eval hx
    rw [run_callv hb rfl h1, Oper.upon_enter]
    have := hca _ _ _ (reps_append (reps_append h2 (h.evals hv)) h3)
    rw [show us.toArray ++ (xs.map a.eval).toArray ++ vs.toArray = (us ++ xs.map a.eval ++ vs).toArray by simp]
    refine (hs.after h.mem this k).mono fun e w' ⟨z, r, ν, he, _, _, hm, hc, hr, hk⟩ => ?_
    subst he
    exact hK _ _ (hk _ _ ((h.to hm hc).put hd hr))
theorem SX.callv (hi : ops[i]? = some ⟨d, .call { callee := .value x, args := xs.toArray, argTypes := ats }, ty, pos, aft, g⟩) (hs : Spec P f args' σ1 τ' res) (hX : ∀ k ∈ mids σ1, k ∈ X) (hx : look l x = some (.fn (.func f) bs cs)) (hca : Casts (bs ++ args ++ cs) args') (hb : goesIn P f = true) (hv : looks l xs = some args)
    (hg : gd ops l ⟨d, .call { callee := .value x, args := xs.toArray, argTypes := ats }, ty, pos, aft, g⟩ = some true) (hd : lt? d n = true)
    (k : After σ σ1 τ' fun ν z => SX P ops ix X (St n W ν (put? l d (res z))) Q) : SX P ops (.e i ix) X (St n W σ l) Q := fun a w h => by
  unfold planW wpOp
  simp only [hi, h.wanted hg, if_true]
  refine .inl ?_
  unfold Oper.wp
  obtain ⟨us, vs, h1, h2, h3⟩ := h.eval hx
  rw [run_callv hb rfl h1, Oper.upon_enter]
  have := hca _ _ _ (reps_append (reps_append h2 (h.evals hv)) h3)
  rw [show us.toArray ++ (xs.map a.eval).toArray ++ vs.toArray = (us ++ xs.map a.eval ++ vs).toArray by simp]
  refine (hs.after h.mem this k).mono fun e w' ⟨z, r, ν, he, hx, _, hm, hc, hr, hk⟩ => ?_
  subst he
  exact ⟨fun w2 => Ext X w' w2, fun w2 h2 => (hx.mono (fun k hk => .inl (hX k hk))).trans h2 fun k hk => .inl hk, Ext.refl w', hk _ _ ((h.to hm hc).put hd hr)⟩
/-- A call of a method through an interface. -/
theorem SL.invoke (hs : Spec P f args' σ1 τ' res) (hx : look l x = some (.ifc t y)) (hca : Casts (y :: args) args')
    (hmm : ∀ u vals w, (Go.invoke (.fn (.method m) #[]) (#[.iface t u] ++ vals)).run P w = .ok (.enter f (#[u] ++ vals)) w) (hv : looks l xs = some args)
    (hg : gd ops l ⟨d, .call { callee := .invoke x m, args := xs.toArray, argTypes := ats }, ty, pos, aft, g⟩ = some true) (hd : lt? d n = true)
    (k : After σ σ1 τ' fun ν z => SL P ops rest (St n W ν (put? l d (res z))) Q) :
    SL P ops (⟨d, .call { callee := .invoke x m, args := xs.toArray, argTypes := ats }, ty, pos, aft, g⟩ :: rest) (St n W σ l) Q := fun a w h =>
  wpList_step fun K hK => by
    rw [if_pos (h.wanted hg)]
    unfold Oper.wp
    obtain ⟨u, h1, h2⟩ := h.eval hx
    rw [run_invoke rfl h1 (hmm u _), Oper.upon_enter]
    have : reps (mids σ ++ W.G) w (y :: args) (u :: xs.map a.eval) := ⟨u, _, rfl, h2, h.evals hv⟩
    rw [show #[u] ++ (xs.map a.eval).toArray = (u :: xs.map a.eval).toArray by simp]
    refine (hs.after h.mem (hca _ _ _ this) k).mono fun e w' ⟨z, r, ν, he, _, _, hm, hc, hr, hk⟩ => ?_
    subst he
    exact hK _ _ (hk _ _ ((h.to hm hc).put hd hr))
end
end
theorem ap_ {σ σ1 : Blks} {ι : Type} {τ' : ι → Blks} {K : Blks → ι → Prop} (k : ∀ z, K σ z) (h : Reads σ σ1 := by repeat (first | exact Reads.nil | (refine Reads.blk ?_ ?_; focus ((repeat first|assumption|exact m0|apply m1); done)) | (refine Reads.rd ?_ ?_; focus ((repeat first|assumption|exact m0|apply m1); done)) | (refine Reads.pc ?_ ?_; focus ((repeat first|assumption|exact m0|apply m1); done)) | (refine Reads.rdpc ?_ ?_; focus ((repeat first|assumption|exact m0|apply m1); done)))) (hτ : ∀ z, τ' z = [] := by exact fun _ => rfl) : After σ σ1 τ' K := After.pure h hτ k
end Go.Proofs.YtejcohlpjikjpaaGreatDoor.A
