/-
  Layer 5: a new book; what was said; the nil book.
-/
import Derived.Test.YtdbeinbgekdnmaaBookDo
set_option maxRecDepth 100000
namespace Go.Proofs.Ytdbeinbgekdnmaa
open Go.RowKit

section
variable {P : Program} {ops : Array Oper} {rest : List Oper} {o : Oper} {a : Act} {Q : Act → Prop} {C : World → Prop}
/-- A guard, in a region that draws and is walked in the text's order. -/
theorem at_opq (o : Oper) (h : wpQuiet P ops C Q (o :: rest) a) : wpQuiet P ops C Q (o :: rest) a := h
/-- An operation by its run, in whatever world of the class. -/
theorem wpQuiet_value (hg : o.guard = none) (v : Value) (h : ∀ w, C w → (execOp a.eval o).run P w = .ok (.value v) w) (k : wpQuiet P ops C Q rest (a.put o.dst v)) : wpQuiet P ops C Q (o :: rest) a := by
  refine BigFrame.wpQuiet_want (by simp [Region.wanted, hg]) fun K hK => ?_
  exact ⟨v, fun w hw => by unfold Oper.quietAt; rw [h w hw]; exact ⟨rfl, rfl⟩, hK _ k⟩
end
section
variable {α β : Type} [DecidableEq α] {P : Program} {w : World} {b : Nat} {k e : TypeId} {K : α → Value} {V : β → Value} {Good : α → Prop} {m : List (α × β)} {o : Oper} {a : Act}
theorem run_mapGetOk (h : MapOf w b K V Good m) (kf : KeyFit P k K Good) (t : TypeId) (ht : P.underlying t = some (.map k e)) (z : Value) (hz : (zeroValue e).run P w = .ok z w) (c : α) (hc : Good c)
    (x y : Operand) (ho : o.op = .lookup t x y true) (hx : a.eval x = .map (some b)) (hy : a.eval y = K c) :
    (execOp a.eval o).run P w = .ok (.value (.tuple #[((aget m c).map V).getD z, .bool (aget m c).isSome])) w := by
  simp only [execOp, ho, hx, hy, Sem.run_bind, h.look_run kf ht hz hc true, if_true, Result.andThen_ok, Sem.run_pure]
omit [DecidableEq α] in
theorem run_mapLen (h : MapOf w b K V Good m) (t : TypeId) (ht : P.underlying t = some (.map k e)) (x : Operand) (ho : o.op = .call { callee := .builtin .len, args := #[x], argTypes := #[t] }) (hx : a.eval x = .map (some b)) :
    (execOp a.eval o).run P w = .ok (.value (.int .i64 m.length)) w := by
  simp [execOp, ho, resolve, invoke, builtin, hx, h.len_run ht o.type, Result.andThen]
end

theorem alloc_size (w : World) (o : Obj) : (w.alloc o).heap.size = w.heap.size + 1 := Array.size_push _
set_option maxHeartbeats 2000000 in
theorem book_New (w : World) : Calls Try.prog 38 #[] w fun e w' => e = .returned (.pointer (some ⟨w.heap.size + 2, 0, none⟩)) ∧ BookAt w' (w.heap.size + 2) w.heap.size (w.heap.size + 1) [] [] ∧ Ext [] w w' := by
  have h1 := (Ext.refl (F := []) w).alloc (.map #[] 0)
  have m1 := MapOf.new (K := hashedV) (V := natV) (Good := hashedOk) w
  have s1 := alloc_size w (.map #[] 0)
  obtain ⟨W1, hW1⟩ : ∃ W1, W1 = w.alloc (.map #[] 0) := ⟨_, rfl⟩
  rw [← hW1] at h1 m1 s1
  have h2 := h1.alloc (.map #[] 0)
  have m2 := m1.alloc (.map #[] 0)
  have m3 := MapOf.new (K := saidV) (V := natV) (Good := saidOk) W1
  have s2 := alloc_size W1 (.map #[] 0)
  have r1 : ∀ (tmps : Operand → Value) dst pos after guard ty, (execOp tmps ⟨dst, .makeMap 102 none, ty, pos, after, guard⟩).run Try.prog w = .ok (.value (.map (some w.heap.size))) W1 := by intros; rw [hW1]; rfl
  obtain ⟨W2, hW2⟩ : ∃ W2, W2 = W1.alloc (.map #[] 0) := ⟨_, rfl⟩
  rw [← hW2] at h2 m2 m3 s2
  have r2 : ∀ (tmps : Operand → Value) dst pos after guard ty, (execOp tmps ⟨dst, .makeMap 103 none, ty, pos, after, guard⟩).run Try.prog W1 = .ok (.value (.map (some (w.heap.size + 1)))) W2 := by intros; rw [hW2, ← s1]; rfl
  have hb := Blk.new W2 105 #[.map (some w.heap.size), .map (some (w.heap.size + 1))]
  rw [s2, s1] at hb
  rw [s1] at m3
  have R1 := Lib.hid r1
  have R2 := Lib.hid r2
  have hs : W2.heap.size = w.heap.size + 2 := by omega
  have HM := Lib.hid (And.intro (m2.alloc (.cells #[.map (some w.heap.size), .map (some (w.heap.size + 1))] 105)) (And.intro (m3.alloc (.cells #[.map (some w.heap.size), .map (some (w.heap.size + 1))] 105)) (And.intro hb (h2.alloc (.cells #[.map (some w.heap.size), .map (some (w.heap.size + 1))] 105)))))
  clear hb m1 m2 m3 s1 s2 h1 h2 r1 r2 hW1 hW2
  go_enter Try.func38, Try.ntmps38
  go_wp2_with (first
    | ((with_reducible refine at_op ⟨some 1, _, _, _, _, _⟩ ?_); refine wpList_value rfl _ _ (R1.out _ _ _ _ _ _) ?_)
    | ((with_reducible refine at_op ⟨some 2, _, _, _, _, _⟩ ?_); refine wpList_value rfl _ _ (R2.out _ _ _ _ _ _) ?_))
  go_ret
  exact ⟨rfl, ⟨HM.out.2.2.1, HM.out.1, HM.out.2.1, by omega, by omega, by omega⟩, HM.out.2.2.2⟩
theorem book_Said (w : World) (p bd bt : Nat) (D : List ((Nat × List UInt8) × Nat)) (T : List (((Int × Int) × List UInt8) × Nat)) (x y : Int) (v : Value) (l : List UInt8) (h : BookAt w p bd bt D T) (hv : BytesV w v l) (hk : saidOk ((x, y), l)) (b : Bool) (hb : (aget T ((x, y), l)).isSome = b) :
    Calls Try.prog 43 #[.pointer (some ⟨p, 0, none⟩), .int .i64 x, .int .i64 y, v] w fun e w' => e = .returned (.bool b) ∧ Ext [] w w' := by
  have H := Lib.hid h
  have HK := Lib.hid hk; clear hk
  have hc := fun (x : Later w) => Blk.cell (Later.blk x h.blk) 1
  have hcv := fun (x : Later w) => conv_txt (hv.ext0 x.ext)
  have HB := Lib.hid hb
  clear h hv hb
  go_enter Try.func43, Try.ntmps43
  go_wp2
  refine wp_region_later_lit (by kernel_rfl) (by kernel_rfl) ?_
  repeat (first
    | ((with_reducible refine at_opq ⟨some 23, _, _, _, _, _⟩ ?_); refine wpQuiet_value rfl _ (by rintro _ ⟨xq, rfl⟩; exact run_mapGetOk (H.out.ext0 xq.ext).mt said_fit _ Try.underlying103 (.int .i64 0) (by kernel_rfl) ((x, y), l) HK.out _ _ rfl rfl rfl) ?_; go_simp)
    | go_big_quiet_step (fail))
  refine wpQuiet_nil ?_
  intro xq
  have hx := xq.ext
  go_wp2
  go_ret
  exact ⟨ret_bool HB.out, hx⟩
theorem nil_Digest (w : World) (k v : Value) : Calls Try.prog 39 #[.pointer none, k, v] w fun e w' => e = .returned (.agg zero32) ∧ Ext [] w w' := by
  go_enter Try.func39, Try.ntmps39
  go_wp2_with (first
    | ((with_reducible refine at_op ⟨some 6, _, _, _, _, _⟩ ?_); refine wpList_value rfl _ _ run_allocD ?_)
    | ((with_reducible refine at_op ⟨some 9, _, _, _, _, _⟩ ?_); refine wpList_value rfl (.agg zero32) _ (by kernel_rfl) ?_)
    | ((with_reducible refine at_op ⟨none, .store _ (.tmp 6) (.tmp 9), _, _, _, _⟩ ?_); refine wpList_store_new rfl _ _ _ rfl w _ _ zero32 rfl rfl rfl (by kernel_rfl) (by kernel_rfl) (by kernel_rfl) ?_))
  exact bodyPost_ret (v := .agg zero32) (results_cell_row rfl _ _ w.heap.size _ _ _ _ rfl (Blk.new w 46 zero32) Try.underlying46 rfl (by kernel_rfl)) rfl ⟨rfl, (Ext.refl w).alloc _⟩
theorem nil_Tag (w : World) (x y v : Value) : Calls Try.prog 40 #[.pointer none, x, y, v] w fun e w' => e = .returned (.agg zero32) ∧ Ext [] w w' := by
  go_enter Try.func40, Try.ntmps40
  go_wp2_with (first
    | ((with_reducible refine at_op ⟨some 8, _, _, _, _, _⟩ ?_); refine wpList_value rfl _ _ run_allocT ?_)
    | ((with_reducible refine at_op ⟨some 11, _, _, _, _, _⟩ ?_); refine wpList_value rfl (.agg zero32) _ (by kernel_rfl) ?_)
    | ((with_reducible refine at_op ⟨none, .store _ (.tmp 8) (.tmp 11), _, _, _, _⟩ ?_); refine wpList_store_new rfl _ _ _ rfl w _ _ zero32 rfl rfl rfl (by kernel_rfl) (by kernel_rfl) (by kernel_rfl) ?_))
  exact bodyPost_ret (v := .agg zero32) (results_cell_row rfl _ _ w.heap.size _ _ _ _ rfl (Blk.new w 48 zero32) Try.underlying48 rfl (by kernel_rfl)) rfl ⟨rfl, (Ext.refl w).alloc _⟩
theorem nil_Said (w : World) (x y v : Value) : Calls Try.prog 43 #[.pointer none, x, y, v] w fun e w' => e = .returned (.bool false) ∧ w = w' := by
  go_enter Try.func43, Try.ntmps43
  go_wp2
  go_ret
  exact ⟨rfl, rfl⟩
theorem nil_Sizes (w : World) : Calls Try.prog 42 #[.pointer none] w fun e w' => e = .returned (.tuple #[.int .i64 0, .int .i64 0]) ∧ w = w' := by
  go_enter Try.func42, Try.ntmps42
  go_wp2
  go_ret2
  exact ⟨rfl, rfl⟩
end Go.Proofs.Ytdbeinbgekdnmaa
