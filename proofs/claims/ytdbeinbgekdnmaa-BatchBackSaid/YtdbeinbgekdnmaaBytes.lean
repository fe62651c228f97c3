/-
  Rows of bytes: what comes in, what the call owns; Clip, Clone, and the numbers of layer 1.
-/
import Derived.Test.YtdbeinbgekdnmaaElems
import Derived.ArgAppend
import Derived.Maps.AppendAt
import Derived.Deep.AppendLies
import Derived.Laws.IdiomStrings
set_option maxRecDepth 100000
namespace Go.Proofs.Ytdbeinbgekdnmaa
open Go.RowKit

def bc (c : UInt8) : Value := .int .u8 (c.toNat : Int)
/-- v is a slice of the bytes l. -/
def BytesV (w : World) (v : Value) (l : List UInt8) : Prop := ∃ A c, v = .slice A l.length c ∧ l.length ≤ c ∧ c ≤ maxLen ∧ (A = none → c = 0) ∧ Row w A (l.map bc)
/-- v is a slice of the bytes l, in a block of its own from 'base' on. -/
def OwnB (w : World) (base : Nat) (v : Value) (l : List UInt8) : Prop := w.ownsRow base 5 1 v l.length (l.map bc)
theorem bc_one {l : List UInt8} : ∀ u ∈ l.map bc, u.oneCell' = true := by
  intro u hu
  simp only [List.mem_map] at hu
  obtain ⟨c, _, rfl⟩ := hu
  rfl
theorem info_u8 : (Try.prog.info? 5).map (fun i => (i.zero, i.size, i.bytes)) = some (some (.int .u8 0), 1, 1) := by kernel_rfl
section
variable {w w' : World} {v : Value} {l : List UInt8} {base : Nat}
theorem BytesV.ext0 (h : BytesV w v l) (hx : Ext [] w w') : BytesV w' v l := by
  obtain ⟨A, c, h1, h2, h3, h4, h5⟩ := h
  exact ⟨A, c, h1, h2, h3, h4, h5.ext0 hx⟩
theorem BytesV.nil (w : World) : BytesV w (.slice none 0 0) [] := ⟨none, 0, rfl, by simp, by simp, fun _ => rfl, Row.nil_ _ _⟩
theorem OwnB.bytes (h : OwnB w base v l) : BytesV w v l := by
  obtain ⟨h1, h2 | ⟨g, cap, cur, rfl, hg, hh, hc, hm, hs, ht⟩⟩ := h
  · obtain ⟨rfl, h0⟩ := h2
    have : l = [] := List.eq_nil_of_length_eq_zero h0
    subst this
    exact BytesV.nil w
  · refine ⟨_, _, rfl, hc, hm, (fun h => by cases h), fun _ => ⟨g, 0, rfl, fun j u hu => ?_⟩⟩
    rw [Nat.zero_add, cell_of_row w g j cur _ _ hh]
    rw [← ht, List.getElem?_take] at hu
    split at hu
    · rw [← Array.getElem?_toList]; exact hu
    · cases hu
theorem ext_grown {w w' : World} {row : Option Nat} (hg : w.grownBy w' row) (hr : ∀ k, row = some k → w.heap.size ≤ k) : Ext [] w w' :=
  ⟨hg.os, hg.tape, hg.output, hg.size, fun k hk _ => hg.block k hk (fun e => by have := hr k e.symm; omega)⟩
theorem ext_grownF {w w' : World} {F : List Nat} {row : Option Nat} (hg : w.grownBy w' row) (hr : ∀ k, row = some k → k ∈ F ∨ w.heap.size ≤ k) : Ext F w w' :=
  ⟨hg.os, hg.tape, hg.output, hg.size, fun k hk hn => hg.block k hk (fun e => by rcases hr k e.symm with h | h <;> first | exact hn h | omega)⟩
theorem OwnB.block (h : OwnB w base v l) : ∀ k, v.ownBlock = some k → base ≤ k ∧ k < w.heap.size := World.ownsRow.lt h
theorem OwnB.ext (h : OwnB w base v l) {F : List Nat} (hx : Ext F w w') (hF : ∀ k, v.ownBlock = some k → k ∉ F) : OwnB w' base v l := by
  have hlt := h.block
  refine ⟨h.1, ?_⟩
  rcases h.2 with h2 | ⟨g, cap, cur, rfl, hg, hh, hr⟩
  · exact .inl h2
  · exact .inr ⟨g, cap, cur, rfl, hg, (hx.block g (hlt g rfl).2 (hF g rfl)).trans hh, hr⟩
theorem OwnB.mono (h : OwnB w base v l) {base' : Nat} (hb : base' ≤ base) : OwnB w base' v l := by
  refine ⟨h.1, ?_⟩
  rcases h.2 with h2 | ⟨g, cap, cur, rfl, hg, hr⟩
  · exact .inl h2
  · exact .inr ⟨g, cap, cur, rfl, Nat.le_trans hb hg, hr⟩
end

section
variable {P : Program} {ops : Array Oper} {rest : List Oper} {o : Oper} {a : Act} {w : World} {Q : Exit → Act → World → Prop}
/-- 'append(dst, src...)', dst the call's own. -/
theorem wpList_appendOwnB {base : Nat} {v : Value} {l : List UInt8} (hown : OwnB w base v l) (hbase : base ≤ w.heap.size) {r : Value} {m : List UInt8} (hr : BytesV w r m) (hlen : l.length + m.length ≤ 140737488355328)
    (hg : o.guard = none) (s x : Operand) (ho : o.op = .call { callee := .builtin .append, args := #[s, x], argTypes := #[34, 34] }) (hs : a.eval s = v) (hx : a.eval x = r)
    (hk : ∀ v' w', OwnB w' base v' (l ++ m) → w.grownBy w' v.ownBlock → (v'.ownBlock = v.ownBlock ∨ v'.ownBlock = some w.heap.size) → wpList Try.prog ops Q rest (a.put o.dst v') w') : wpList Try.prog ops Q (o :: rest) a w := by
  obtain ⟨i, hi, hz, hsz, hby⟩ := info_parts info_u8
  refine wpList_plain hg fun K hK => ?_
  obtain ⟨A, c, rfl, hmc, hcm, hnone, hrow⟩ := hr
  have key : ∃ v' w', (Builtin.append_ #[34, 34] o.type #[v, .slice A m.length c]).run Try.prog w = .ok v' w' ∧ OwnB w' base v' (l ++ m) ∧ w.grownBy w' v.ownBlock ∧ (v'.ownBlock = v.ownBlock ∨ v'.ownBlock = some w.heap.size) := by
    by_cases hm : m = []
    · subst hm
      refine ⟨v, w, ?_, by simpa using hown, World.grownBy.refl w _, .inl rfl⟩
      rcases A with _ | ad
      · have hc0 := hnone rfl
        subst hc0
        rcases hown.2 with ⟨rfl, h0⟩ | ⟨g, cap, cur, rfl, _, _, hnc, _⟩
        · simp [Builtin.append_, run_underlying Try.underlying34, sizeOf, typeInfo, hi, Builtin.lenOf, Builtin.firstCells]
        · simp [Builtin.append_, run_underlying Try.underlying34, sizeOf, typeInfo, hi, Builtin.lenOf, Builtin.firstCells, hnc, storeCells]
      · rcases hown.2 with ⟨rfl, h0⟩ | ⟨g, cap, cur, rfl, _, _, hnc, _⟩
        · simp [Builtin.append_, run_underlying Try.underlying34, sizeOf, typeInfo, hi, Builtin.lenOf, Builtin.firstCells, loadCells, loadCellsFrom]
        · simp [Builtin.append_, run_underlying Try.underlying34, sizeOf, typeInfo, hi, Builtin.lenOf, Builtin.firstCells, hnc, storeCells, loadCells, loadCellsFrom]
    · obtain ⟨b, off, rfl, hcell⟩ := hrow (by simpa using hm)
      obtain ⟨v', w', hrun, h2, h3, _, h5⟩ := run_append_own_at (P := Try.prog) w base 34 o.type 5 i (.int .u8 0) 1 1 Try.underlying34 hi hz hsz hby rfl (by decide) v l.length (l.map bc) hown
        ⟨b, off, none⟩ m.length c (m.map bc) (by simp) (fun j u hu => by
          have hadd : (⟨b, off, none⟩ : Addr).add j = ⟨b, off + j, none⟩ := by
            unfold Addr.add
            split
            · rename_i h0; subst h0; rfl
            · rfl
          rw [hadd]
          exact hcell j u hu) bc_one (by unfold maxLen; omega) (by omega) hbase
      exact ⟨v', w', hrun, by unfold OwnB; rw [List.length_append, List.map_append]; exact h2, h3, h5⟩
  obtain ⟨v', w', hrun, h2, h3, h4⟩ := key
  unfold Oper.wp execOp
  simp only [ho, resolve, invoke, builtin, Sem.run_bind, Sem.run_pure, Result.andThen_ok, List.map_toArray, List.map_cons, List.map_nil, hs, hx, hrun]
  exact hK _ _ (hk v' w' h2 h3 h4)
/-- 'append(dst, src...)', dst full, src not empty: a new row. -/
theorem wpList_appendFullB {A : Option Addr} {l m : List UInt8} (hrow : Row w A (l.map bc)) (hA : A = none → l = []) {r : Value} (hr : BytesV w r m) (hm : m ≠ []) (hlen : l.length + m.length ≤ 140737488355328)
    (hg : o.guard = none) (s x : Operand) (ho : o.op = .call { callee := .builtin .append, args := #[s, x], argTypes := #[34, 34] }) (hs : a.eval s = .slice A l.length l.length) (hx : a.eval x = r)
    (hk : ∀ v' w', OwnB w' w.heap.size v' (l ++ m) → Ext [] w w' → wpList Try.prog ops Q rest (a.put o.dst v') w') : wpList Try.prog ops Q (o :: rest) a w := by
  obtain ⟨i, hi, hz, hsz, hby⟩ := info_parts info_u8
  obtain ⟨A', c, rfl, hmc, hcm, hnone, hrow'⟩ := hr
  obtain ⟨b, off, rfl, hcell⟩ := hrow' (by simpa using hm)
  have hpos : 0 < m.length := List.length_pos_iff.2 hm
  refine wpList_append_grows w hg s x 34 ho 5 i (.int .u8 0) 1 1 Try.underlying34 hi hz hsz hby rfl (by decide) A l.length l.length (l.map bc) hs
    (fun h => by rw [hA h]; exact ⟨rfl, rfl⟩) (by simp) ?_ ⟨b, off, none⟩ m.length c (m.map bc) hx (by simp) ?_ bc_one (by omega) (by unfold maxLen; omega) (by omega) ?_
  · rintro bb rfl j u hu
    have hl0 : l.map bc ≠ [] := by intro h0; rw [h0] at hu; simp at hu
    obtain ⟨b2, off2, hb2, hc2⟩ := hrow hl0
    injection hb2 with hb2
    subst hb2
    have hadd : (⟨b2, off2, none⟩ : Addr).add j = ⟨b2, off2 + j, none⟩ := by
      unfold Addr.add
      split
      · rename_i h0; subst h0; rfl
      · rfl
    rw [hadd]
    exact hc2 j u hu
  · intro j u hu
    have hadd : (⟨b, off, none⟩ : Addr).add j = ⟨b, off + j, none⟩ := by
      unfold Addr.add
      split
      · rename_i h0; subst h0; rfl
      · rfl
    rw [hadd]
    exact hcell j u hu
  · intro v' w' hown hgr
    exact hk v' w' (by unfold OwnB; rw [List.length_append, List.map_append]; exact hown) (ext_grown hgr (by simp))
end

/-! ### Clip, Clone -/
theorem slices_Clip (w : World) (A : Option Addr) (n c : Nat) (hc : n ≤ c) (hm : c ≤ maxLen) (hA : A = none → c = 0) :
    Calls Try.prog 137 #[.slice A n c] w fun e w' => e = .returned (.slice A n n) ∧ w = w' := by
  unfold maxLen at hm
  rcases A with _ | a
  · have hc0 := hA rfl
    subst hc0
    obtain rfl : n = 0 := by omega
    go_enter Try.func137, Try.ntmps137
    go_wp2
    go_ret
    exact ⟨rfl, rfl⟩
  · go_enter Try.func137, Try.ntmps137
    go_wp2
    go_ret
    exact ⟨rfl, rfl⟩
theorem eql_nil_u8 (A : Option Addr) (n c : Nat) (w : World) : (binOp .eql 34 (.slice A n c) (.slice none 0 0)).run Try.prog w = .ok (.bool A.isNone) w :=
  Lib.run_eql_slice_nil w 34 5 A n c 0 0 Try.underlying34
theorem slices_Clone (w : World) (v : Value) (l : List UInt8) (h : BytesV w v l) (hlen : l.length ≤ 140737488355328) :
    Calls Try.prog 139 #[v] w fun e w' => ∃ r, e = .returned r ∧ OwnB w' w.heap.size r l ∧ Ext [] w w' := by
  have h' := h
  obtain ⟨A, c, rfl, h2, h3, h4, h5⟩ := h'
  have H := Lib.hid h; clear h h5
  have he := eql_nil_u8 A l.length c
  rcases A with _ | a
  · have hc0 := h4 rfl
    subst hc0
    have hl : l = [] := List.eq_nil_of_length_eq_zero (by omega)
    subst hl
    have he0 := eql_nil_u8 none 0 0
    clear he
    go_enter Try.func139, Try.ntmps139
    go_wp2
    go_ret
    exact ⟨_, rfl, World.ownsRow_nil _ _ _ _, Ext.refl _⟩
  · have ho := Lib.hid (World.ownsRow_made (base := w.heap.size) (e := 5) (size := 1) w #[] 0 (Nat.le_refl _) (Nat.zero_le _) rfl)
    go_enter Try.func139, Try.ntmps139
    go_wp2_with (at_builtin; refine wpList_appendOwnB (base := w.heap.size) (l := []) (m := l) ho.out (by simp) (H.out.ext0 ((Ext.refl _).alloc _)) (by simpa using hlen) rfl _ _ rfl rfl rfl ?_; intro v1 w1 hv1 hg1 hb1)
    go_ret
    refine ⟨_, rfl, hv1, ?_⟩
    exact (Ext.new w _).trans (ext_grownF (F := [w.heap.size]) hg1 (by simp [Value.ownBlock])) (by simp)

/-! ### Numbers -/
/-- May a number have n bytes? -/
def sizeB (n : Int) : Bool := decide (n = 1 ∨ n = 2 ∨ n = 4 ∨ n = 8)
theorem octets_size (n : Int) (b : Bool) (hb : sizeB n = b) (w : World) : Calls Try.prog 138 #[.int .i64 n] w fun e w' => e = .returned (.bool b) ∧ w = w' := by
  by_cases h0 : 0 < n
  · by_cases h8 : n ≤ 8
    · have : n = 1 ∨ n = 2 ∨ n = 3 ∨ n = 4 ∨ n = 5 ∨ n = 6 ∨ n = 7 ∨ n = 8 := by omega
      clear h0 h8
      rcases this with rfl | rfl | rfl | rfl | rfl | rfl | rfl | rfl
      all_goals
        subst hb
        go_enter Try.func138, Try.ntmps138
        go_wp2
        go_ret
        exact ⟨ret_bool (by decide), rfl⟩
    · obtain rfl : false = b := by rw [← hb]; simp [sizeB]; omega
      clear hb
      go_enter Try.func138, Try.ntmps138
      go_wp2
      go_ret
      exact ⟨rfl, rfl⟩
  · obtain rfl : false = b := by rw [← hb]; simp [sizeB]; omega
    clear hb
    go_enter Try.func138, Try.ntmps138
    go_wp2
    go_ret
    exact ⟨rfl, rfl⟩

/-- The lowest n bytes of a number, the highest first. -/
def beBytes (v : Nat) : Nat → List UInt8
  | 0 => []
  | n + 1 => beBytes (v / 256) n ++ [UInt8.ofNat v]
theorem beBytes_length (n : Nat) : ∀ v, (beBytes v n).length = n := by
  induction n with
  | zero => intro v; rfl
  | succ n ih => intro v; simp [beBytes, ih]
end Go.Proofs.Ytdbeinbgekdnmaa
