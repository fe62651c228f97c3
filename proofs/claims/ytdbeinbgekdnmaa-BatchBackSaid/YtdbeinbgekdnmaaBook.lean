/-
  Layer 5: the book.
-/
import Derived.Test.YtdbeinbgekdnmaaOctets
import Derived.Test.YtdbeinbgekdnmaaMaps
import Derived.DeepKeys4
import Derived.Laws.BytesArg
import Derived.Laws.CopyOwn
set_option maxRecDepth 100000
namespace Go.Proofs.Ytdbeinbgekdnmaa
open Go.RowKit

theorem laid : laidOutB Try.prog = true := by kernel_rfl
def txt (l : List UInt8) : Value := .string ⟨l.toArray⟩
/-- What was digested. -/
def hashedV (p : Nat × List UInt8) : Value := .agg #[.int .u8 p.1, txt p.2]
def hashedOk (p : Nat × List UInt8) : Prop := p.1 < 256 ∧ p.2.length ≤ maxLen
/-- What was tagged. -/
def saidV (p : (Int × Int) × List UInt8) : Value := .agg #[.int .i64 p.1.1, .int .i64 p.1.2, txt p.2]
def i64r (n : Int) : Prop := -9223372036854775808 ≤ n ∧ n < 9223372036854775808
def saidOk (p : (Int × Int) × List UInt8) : Prop := i64r p.1.1 ∧ i64r p.1.2 ∧ p.2.length ≤ maxLen
theorem txt_inj {a b : List UInt8} (h : txt a = txt b) : a = b := by
  unfold txt at h
  injection h with h
  injection h with h
  simpa using congrArg Array.toList h
theorem types_pos : ∃ m, Try.prog.types.size = m + 1 := by
  exact Nat.exists_eq_succ_of_ne_zero (by simp)
theorem hashed_lit (p : Nat × List UInt8) (h : hashedOk p) : ∃ l, keyOf Try.prog 109 (hashedV p) = some l := by
  obtain ⟨h1, h2⟩ := h
  have hk : (Try.prog.keyType 109 && (hashedV p).formed Try.prog 109) = true := by kernel_rfl
  have hn : Try.prog.cellsOf 109 = 2 := by kernel_rfl
  have hn5 : Try.prog.cellsOf 5 = 1 := by kernel_rfl
  have hn9 : Try.prog.cellsOf 9 = 1 := by kernel_rfl
  obtain ⟨m, hm⟩ := types_pos
  unfold keyOf
  simp only [Try.underlying109, if_pos hk, hm]
  simp [Program.keyLits, Try.underlying109, Try.underlying5, Try.underlying9, hn, hn5, hn9, hashedV, Value.cells, txt, Lit.wf]
  have e1 : IntKind.u8.min ≤ (p.1 : Int) ∧ (p.1 : Int) ≤ IntKind.u8.max := ⟨by show (0 : Int) ≤ _; omega, by show _ ≤ (255 : Int); omega⟩
  have e2 : (⟨p.2.toArray⟩ : ByteArray).size ≤ maxLen := by simpa [ByteArray.size] using h2
  simp [e1, e2]
theorem said_lit (p : (Int × Int) × List UInt8) (h : saidOk p) : ∃ l, keyOf Try.prog 112 (saidV p) = some l := by
  obtain ⟨h1, h2, h3⟩ := h
  have hk : (Try.prog.keyType 112 && (saidV p).formed Try.prog 112) = true := by kernel_rfl
  have hn : Try.prog.cellsOf 112 = 3 := by kernel_rfl
  have hn5 : Try.prog.cellsOf 3 = 1 := by kernel_rfl
  have hn9 : Try.prog.cellsOf 9 = 1 := by kernel_rfl
  obtain ⟨m, hm⟩ := types_pos
  unfold keyOf
  simp only [Try.underlying112, if_pos hk, hm]
  simp [Program.keyLits, Try.underlying112, Try.underlying3, Try.underlying9, hn, hn5, hn9, saidV, Value.cells, txt, Lit.wf]
  obtain ⟨h1a, h1b⟩ := h1
  obtain ⟨h2a, h2b⟩ := h2
  have e1 : IntKind.i64.min ≤ p.1.1 ∧ p.1.1 ≤ 9223372036854775807 := ⟨by show (-9223372036854775808 : Int) ≤ _; omega, by omega⟩
  have e3 : IntKind.i64.min ≤ p.1.2 ∧ p.1.2 ≤ 9223372036854775807 := ⟨by show (-9223372036854775808 : Int) ≤ _; omega, by omega⟩
  have e2 : (⟨p.2.toArray⟩ : ByteArray).size ≤ maxLen := by simpa [ByteArray.size] using h3
  simp [e1, e2, e3]
theorem hashed_fit : KeyFit Try.prog 109 hashedV hashedOk where
  keyed := Maps.Keyed.of_law (deep_law_laid laid (m := 4) (by decide) (of_decide_eq_true (by kernel_rfl)) (by kernel_rfl) (by kernel_rfl))
  lit := hashed_lit
  inj a b _ _ h := by
    unfold hashedV at h
    injection h with h
    simp at h
    obtain ⟨a1, a2⟩ := a
    obtain ⟨b1, b2⟩ := b
    have := txt_inj h.2
    simp only at this
    subst this
    have h1 : a1 = b1 := by have := h.1; omega
    subst h1
    rfl
theorem said_fit : KeyFit Try.prog 112 saidV saidOk where
  keyed := Maps.Keyed.of_law (deep_law_laid laid (m := 4) (by decide) (of_decide_eq_true (by kernel_rfl)) (by kernel_rfl) (by kernel_rfl))
  lit := said_lit
  inj a b _ _ h := by
    unfold saidV at h
    injection h with h
    simp at h
    obtain ⟨⟨a0, a1⟩, a2⟩ := a
    obtain ⟨⟨b0, b1⟩, b2⟩ := b
    have := txt_inj h.2.2
    simp only at this h
    obtain ⟨rfl, rfl, _⟩ := h
    subst this
    rfl

/-- A call of a Go function, as one step of a region that draws. -/
theorem step_go {P : Program} {ops : Array Oper} {o : Oper} {a : Act} {w : World} {K : Act → World → Prop} {Q : Exit → Act → World → Prop} {E : Prop} (hgd : o.guard = none) (f : FuncId) (xs : Array Operand) (ats : Array TypeId)
    (ho : o.op = .call { callee := .value (.func f), args := xs, argTypes := ats }) {R : Ending → World → Prop} (vals : Array Value) (hv : xs.map a.eval = vals) (hcall : (callFunc f (#[] ++ vals ++ #[])).run P w = .ok (.enter f vals) w) (hc : Calls P f vals w R) (h : ∀ e w', R e w' → ∃ v, e = .returned v ∧ K (a.put o.dst v) w') :
    if Region.wanted o (yielded ops a.tmps) = true then Oper.wp P o a w K Q else E := by
  have hw : Region.wanted o (yielded ops a.tmps) = true := by simp [Region.wanted, hgd]
  rw [if_pos hw]
  unfold Oper.wp
  subst hv
  have hr : (execOp a.eval o).run P w = .ok (.enter f (xs.map a.eval)) w := by
    obtain ⟨dst, op, ty, pos, after, guard⟩ := o
    dsimp only at ho
    subst ho
    rw [execOp_call_go]
    exact hcall
  rw [hr, Oper.upon_enter]
  refine hc.mono fun e w' hR => ?_
  obtain ⟨v, rfl, hk⟩ := h e w' hR
  exact hk

/-! ### A number as a digest -/
def numCells (f n : Nat) : List Value := .int .u8 f :: (List.replicate 23 (.int .u8 0) ++ (beBytes n 8).map bc)
def numV (f n : Nat) : Value := .agg (numCells f n).toArray
theorem slice32 (q : Nat) (w : World) : (Instr.sliceAt 45 (.pointer (some ⟨q, 0, none⟩)) (some (.int .i64 24)) none none).run Try.prog w = .ok (.slice (some ⟨q, 24, none⟩) 8 8) w := by
  have ha : Try.prog.arrayLen 45 = 32 := by kernel_rfl
  have hs : ((sizeOf (Try.prog.elem 45)).run Try.prog w) = .ok 1 w := by kernel_rfl
  rw [run_sliceAt_array_l (P := Try.prog) w 45 ⟨q, 0, none⟩ Try.underlying45 .i64 24 (by omega) (by rw [ha]; omega), hs, ha]
  rfl
attribute [local go_sem] slice32
def preCells (f : Nat) : List Value := .int .u8 f :: List.replicate 31 (.int .u8 0)
def zero32 : Array Value := (List.replicate 32 (.int .u8 0)).toArray
theorem run_alloc32 {tmps : Operand → Value} {dst pos after guard ty} {w : World} : (execOp tmps ⟨dst, .alloc 45, ty, pos, after, guard⟩).run Try.prog w = .ok (.value (.pointer (some ⟨w.heap.size, 0, none⟩))) (w.alloc (.cells zero32 45)) := by kernel_rfl
theorem own8 {w : World} {base n : Nat} {r : Value} (h : OwnB w base r ([] ++ beBytes n (Int.toNat 8))) : ∃ b off c, r = .slice (some ⟨b, off, none⟩) 8 c ∧ ∀ j u, ((beBytes n 8).map bc)[j]? = some u → w.cell? ((⟨b, off, none⟩ : Addr).add j) = some u := by
  obtain ⟨A, c, h1, _, _, _, h5⟩ := h.bytes
  obtain ⟨b, off, rfl, hc⟩ := h5 (by simp [beBytes])
  refine ⟨b, off, c, by rw [h1]; simp [beBytes_length], fun j u hu => ?_⟩
  have hadd : (⟨b, off, none⟩ : Addr).add j = ⟨b, off + j, none⟩ := by
    unfold Addr.add
    split
    · rename_i h0; subst h0; rfl
    · rfl
  rw [hadd]
  exact hc j u hu
theorem splice_num (f n : Nat) : splice (preCells f) 24 ((beBytes n 8).map bc) = numCells f n := by
  simp [splice, preCells, numCells, beBytes_length]
theorem num_one (f n : Nat) : (numCells f n).toArray.all (·.oneCell') = true := by
  rw [List.all_toArray, List.all_eq_true]
  intro v hv
  simp only [numCells, List.mem_cons, List.mem_append, List.mem_replicate, List.mem_map] at hv
  rcases hv with rfl | ⟨_, rfl⟩ | ⟨a, _, rfl⟩ <;> rfl
set_option maxHeartbeats 2000000 in
theorem book_number (w : World) (f n : Nat) (hn : n < 9223372036854775808) :
    Calls Try.prog 76 #[.int .u8 f, .int .i64 n] w fun e w' => e = .returned (numV f n) ∧ Ext [] w w' := by
  go_enter Try.func76, Try.ntmps76
  go_wp2_with (first
    | ((with_reducible refine at_op ⟨some 4, _, _, _, _, _⟩ ?_); refine wpList_value rfl _ _ run_alloc32 ?_)
    | ((with_reducible refine at_op ⟨some 5, _, _, _, _, _⟩ ?_); refine wpList_value rfl _ _ run_alloc32 ?_)
    | ((with_reducible refine at_op ⟨some 7, _, _, _, _, _⟩ ?_); refine wpList_value rfl (.agg (preCells f).toArray) (w.alloc (.cells zero32 45)) (by kernel_rfl) ?_)
    | ((with_reducible refine at_op ⟨none, .store _ (.tmp 5) (.tmp 7), _, _, _, _⟩ ?_); refine wpList_store_new rfl _ _ _ rfl (w.alloc (.cells zero32 45)) _ _ (preCells f).toArray rfl rfl rfl (by kernel_rfl) (by kernel_rfl) (by kernel_rfl) ?_))
  have hput := fun (W : World) => octets_Put W (.slice none 0 0) [] n (by omega) 8 (BytesV.nil W) (by simp) (by decide)
  have hcl := fun (W : World) => (by kernel_rfl : (callFunc 88 (#[] ++ #[.slice none 0 0, .int .u64 n, .int .i64 8] ++ #[])).run Try.prog W = .ok (.enter 88 #[.slice none 0 0, .int .u64 n, .int .i64 8]) W)
  have hwr : IntKind.u64.wrap (n : Int) = n := by rw [IntKind.wrap_u64]; omega
  have hx0 : Ext [] w ((w.alloc (.cells zero32 45)).alloc (.cells (preCells f).toArray 45)).drew := (((Ext.refl w).alloc _).alloc _).trans (G := []) (Still.ext (Still.drewN _ 1)) (by simp)
  have hb5 : Blk ((w.alloc (.cells zero32 45)).alloc (.cells (preCells f).toArray 45)).drew (w.heap.size + 1) 45 (preCells f).toArray := by
    have hsz : (w.alloc (.cells zero32 45)).heap.size = w.heap.size + 1 := Array.size_push _
    rw [← hsz]
    exact heap_alloc_new (w.alloc (.cells zero32 45)) (.cells (preCells f).toArray 45)
  have hb4 : Blk ((w.alloc (.cells zero32 45)).alloc (.cells (preCells f).toArray 45)).drew w.heap.size 45 zero32 :=
    (((Blk.new w 45 zero32).ext ((Ext.refl (F := []) _).alloc _) (by simp)).ext (F := []) (Still.ext (Still.drewN _ 1)) (by simp))
  go_region_law (first
    | (refine step_copy_splice rfl _ _ _ _ rfl 5 Try.underlying34 (by kernel_rfl) (some ⟨w.heap.size + 1, 24, none⟩) (some ⟨b, off, none⟩) 8 8 8 c (by simp [Act.eval]) (by simp [Act.eval]) (w.heap.size + 1) 24 (preCells f) 45 hb52 ((beBytes n 8).map bc) (by simp [beBytes_length]) (fun _ => ⟨rfl, _, rfl, hsrc⟩) (by simp [beBytes_length, preCells]) bc_one (w.heap.size + 1) w2 (RowKit.Below.refl _ _) (Nat.le_refl _) ?_; intro w3 hb53 hbel)
    | (refine step_go rfl 88 _ _ rfl _ (by simp [Act.eval, Act.put]) (hcl _) (hput _) ?_; rintro e w2 ⟨r, rfl, hr2, hx2⟩; obtain ⟨b, off, c, rfl, hsrc⟩ := own8 hr2; have hb52 := hb5.ext hx2 (by simp); have hb42 := hb4.ext hx2 (by simp); refine ⟨_, rfl, ?_⟩))
  have hb43 : Blk w3 w.heap.size 45 zero32 := (hbel.block _ (by omega)).trans hb42
  have hb53' : Blk w3 (w.heap.size + 1) 45 (numCells f n).toArray := by
    have := hb53.out
    rw [splice_num] at this
    exact this
  have HX := Lib.hid (show Ext [] w w3 from ⟨hbel.os.trans (hx0.trans hx2 (by simp)).os, hbel.tape.trans (hx0.trans hx2 (by simp)).tape, hbel.output.trans (hx0.trans hx2 (by simp)).output, Nat.le_trans (hx0.trans hx2 (by simp)).size hbel.size, fun k hk hn => (hbel.block k (by omega)).trans ((hx0.trans hx2 (by simp)).block k hk hn)⟩)
  have H4 := Lib.hid hb43
  have H5 := Lib.hid hb53'
  clear hb43 hb53' hb53 hbel hb4 hb5 hb42 hb52 hx0 hx2 hr2 hsrc hput hcl
  go_wp2_with (first
    | ((with_reducible refine at_op ⟨some 13, _, _, _, _, _⟩ ?_); refine wpList_load_row rfl _ _ rfl (w.heap.size + 1) rfl _ _ _ _ H5.out Try.underlying45 rfl (by kernel_rfl) ?_)
    | ((with_reducible refine at_op ⟨none, .store _ (.tmp 4) (.tmp 13), _, _, _, _⟩ ?_); refine wpList_store_row rfl _ _ _ rfl w.heap.size (numCells f n).toArray rfl rfl _ _ H4.out (by kernel_rfl) (by kernel_rfl) (num_one f n) ?_))
  exact bodyPost_ret (v := numV f n) (results_cell_row rfl _ _ w.heap.size _ _ _ _ rfl (H4.out.setRow _) Try.underlying45 rfl (by kernel_rfl)) rfl ⟨rfl, HX.out.setRow (Or.inr (Nat.le_refl _)) _⟩

/-! ### A key's number -/
section
variable {α : Type} [DecidableEq α]
/-- Which number a key gets. -/
def pl (m : List (α × Nat)) (k : α) : Nat := (aget m k).getD (m.length + 1)
/-- What is known then. -/
def pm (m : List (α × Nat)) (k : α) : List (α × Nat) := if (aget m k).isSome then m else aput m k (m.length + 1)
end
def natV (n : Nat) : Value := .int .i64 n
theorem place_hashed (w : World) (b : Nat) (m : List ((Nat × List UInt8) × Nat)) (k : Nat) (l : List UInt8) (h : MapOf w b hashedV natV hashedOk m) (hk : hashedOk (k, l)) (hm : m.length < 4611686018427387904) :
    Calls Try.prog 77 #[.map (some b), .agg #[.int .u8 k, .string ⟨l.toArray⟩]] w fun e w' => e = .returned (natV (pl m (k, l))) ∧ MapOf w' b hashedV natV hashedOk (pm m (k, l)) ∧ Ext [b] w w' := by
  have H := Lib.hid h; clear h
  have HK := Lib.hid hk; clear hk
  have hz : ∀ W : World, (zeroValue 3).run Try.prog W = .ok (.int .i64 0) W := fun W => by kernel_rfl
  have HZ := Lib.hid hz; clear hz
  have hl1 : (m.length : Int) + 1 < 9223372036854775808 := by omega
  have hl0 : (0 : Int) ≤ m.length := by omega
  rcases hg : aget m (k, l) with _ | v
  · have G := Lib.hid hg; clear hg
    go_enter Try.func77, Try.ntmps77
    go_wp2_with (first
      | ((with_reducible refine at_op ⟨some 10, _, _, _, _, _⟩ ?_); refine wpList_mapGetOk (H.out.alloc _) hashed_fit _ Try.underlying102 _ (HZ.out _) (k, l) HK.out rfl _ _ rfl rfl rfl ?_; rw [G.out]; dsimp only [Option.map_none, Option.getD_none, Option.isSome_none])
      | ((with_reducible refine at_op ⟨some 16, _, _, _, _, _⟩ ?_); refine wpList_mapLen (H.out.alloc _) _ Try.underlying102 rfl _ rfl rfl ?_)
      | ((with_reducible refine at_op ⟨none, .mapUpdate _ _ _ _, _, _, _, _⟩ ?_); refine wpList_mapPut (H.out.alloc _) hashed_fit _ Try.underlying102 (k, l) HK.out (m.length + 1) rfl _ _ _ rfl rfl rfl rfl ?_; intro w1 h1 hx1))
    go_ret
    refine ⟨by simp [pl, natV, G.out], ?_, ?_⟩
    · simpa [pm, G.out] using h1
    · exact ((Ext.refl (F := [b]) w).alloc _).trans hx1 (by simp)
  · have G := Lib.hid hg; clear hg
    go_enter Try.func77, Try.ntmps77
    go_wp2_with ((with_reducible refine at_op ⟨some 10, _, _, _, _, _⟩ ?_); refine wpList_mapGetOk (H.out.alloc _) hashed_fit _ Try.underlying102 _ (HZ.out _) (k, l) HK.out rfl _ _ rfl rfl rfl ?_; rw [G.out]; dsimp only [Option.map_some, Option.getD_some, Option.isSome_some])
    go_ret
    refine ⟨by simp [pl, natV, G.out], ?_, ?_⟩
    · have := H.out.alloc (.cells #[.int .u8 k, .string ⟨l.toArray⟩] 109)
      simpa [pm, G.out] using this
    · exact (Ext.refl (F := [b]) _).alloc _
theorem place_said (w : World) (b : Nat) (m : List (((Int × Int) × List UInt8) × Nat)) (x y : Int) (l : List UInt8) (h : MapOf w b saidV natV saidOk m) (hk : saidOk ((x, y), l)) (hm : m.length < 4611686018427387904) :
    Calls Try.prog 78 #[.map (some b), .agg #[.int .i64 x, .int .i64 y, .string ⟨l.toArray⟩]] w fun e w' => e = .returned (natV (pl m ((x, y), l))) ∧ MapOf w' b saidV natV saidOk (pm m ((x, y), l)) ∧ Ext [b] w w' := by
  have H := Lib.hid h; clear h
  have HK := Lib.hid hk; clear hk
  have hz : ∀ W : World, (zeroValue 3).run Try.prog W = .ok (.int .i64 0) W := fun W => by kernel_rfl
  have HZ := Lib.hid hz; clear hz
  have hl1 : (m.length : Int) + 1 < 9223372036854775808 := by omega
  have hl0 : (0 : Int) ≤ m.length := by omega
  rcases hg : aget m ((x, y), l) with _ | v
  · have G := Lib.hid hg; clear hg
    go_enter Try.func78, Try.ntmps78
    go_wp2_with (first
      | ((with_reducible refine at_op ⟨some 10, _, _, _, _, _⟩ ?_); refine wpList_mapGetOk (H.out.alloc _) said_fit _ Try.underlying103 _ (HZ.out _) ((x, y), l) HK.out rfl _ _ rfl rfl rfl ?_; rw [G.out]; dsimp only [Option.map_none, Option.getD_none, Option.isSome_none])
      | ((with_reducible refine at_op ⟨some 16, _, _, _, _, _⟩ ?_); refine wpList_mapLen (H.out.alloc _) _ Try.underlying103 rfl _ rfl rfl ?_)
      | ((with_reducible refine at_op ⟨none, .mapUpdate _ _ _ _, _, _, _, _⟩ ?_); refine wpList_mapPut (H.out.alloc _) said_fit _ Try.underlying103 ((x, y), l) HK.out (m.length + 1) rfl _ _ _ rfl rfl rfl rfl ?_; intro w1 h1 hx1))
    go_ret
    refine ⟨by simp [pl, natV, G.out], ?_, ?_⟩
    · simpa [pm, G.out] using h1
    · exact ((Ext.refl (F := [b]) w).alloc _).trans hx1 (by simp)
  · have G := Lib.hid hg; clear hg
    go_enter Try.func78, Try.ntmps78
    go_wp2_with ((with_reducible refine at_op ⟨some 10, _, _, _, _, _⟩ ?_); refine wpList_mapGetOk (H.out.alloc _) said_fit _ Try.underlying103 _ (HZ.out _) ((x, y), l) HK.out rfl _ _ rfl rfl rfl ?_; rw [G.out]; dsimp only [Option.map_some, Option.getD_some, Option.isSome_some])
    go_ret
    refine ⟨by simp [pl, natV, G.out], ?_, ?_⟩
    · have := H.out.alloc (.cells #[.int .i64 x, .int .i64 y, .string ⟨l.toArray⟩] 112)
      simpa [pm, G.out] using this
    · exact (Ext.refl (F := [b]) _).alloc _
end Go.Proofs.Ytdbeinbgekdnmaa
