/-
  Layer 5: the statements' walks.
-/
import Derived.Test.YtdbeinbgekdnmaaBookCheck
import Derived.Lib.SlBytesConst
set_option maxRecDepth 100000
namespace Go.Proofs.Ytdbeinbgekdnmaa
open Go.RowKit

section
variable {P : Program} {ops : Array Oper} {rest : List Oper} {o : Oper} {a : Act} {w : World} {Q : Exit → Act → World → Prop}
/-- A guarded operation that is wanted, by its run. -/
theorem wpList_valueg (hw : Region.wanted o (yielded ops a.tmps) = true) (v : Value) (w' : World) (h : (execOp a.eval o).run P w = .ok (.value v) w') (k : wpList P ops Q rest (a.put o.dst v) w') : wpList P ops Q (o :: rest) a w :=
  wpList_step fun K hK => by
    rw [if_pos hw]
    unfold Oper.wp
    rw [h]
    exact hK _ _ k
theorem run_load_whole (ty : TypeId) (x : Operand) (ho : o.op = .load ty x) (g : Nat) (hx : a.eval x = .pointer (some ⟨g, 0, none⟩)) (t : TypeId) (cs : Array Value) (fr : Nat × Nat) (d : TypeDesc) (hg : w.heap[g]? = some (.cells cs t fr))
    (hu : P.underlying ty = some d) (hd : (match d with | .struct _ | .array _ _ => true | _ => false) = true) (hi : (P.info? ty).map (·.size) = some cs.size) : (execOp a.eval o).run P w = .ok (.value (.agg cs)) w := by
  unfold execOp
  simp only [ho, hx, Instr.loadAt, Instr.sureAddr, Sem.run_bind, Sem.run_pure, Result.andThen_ok, run_loadVar_row w g t ty cs fr d hg hu hd hi]
end
theorem bytes_blk {w : World} {g : Nat} {t : TypeId} {l : List UInt8} (h : Blk w g t (l.map bc).toArray) (hl : l.length ≤ maxLen) : BytesV w (.slice (some ⟨g, 0, none⟩) l.length l.length) l := by
  refine ⟨_, _, rfl, Nat.le_refl _, hl, by simp, fun _ => ⟨g, 0, rfl, fun j u hu => ?_⟩⟩
  rw [Nat.zero_add, Blk.cell h, List.getElem?_toArray]
  exact hu
theorem book_New' (w : World) : Calls Try.prog 38 #[] w fun e w' => ∃ p bd bt, e = .returned (.pointer (some ⟨p, 0, none⟩)) ∧ BookAt w' p bd bt [] [] ∧ Ext [] w w' ∧ w.heap.size ≤ p ∧ w.heap.size ≤ bd ∧ w.heap.size ≤ bt :=
  (book_New w).mono fun _ _ ⟨h1, h2, h3⟩ => ⟨_, _, _, h1, h2, h3, by omega, by omega, by omega⟩
def litA (w : World) : World := w.alloc (.cells #[.int .u8 97] 5 (1, 2))
theorem conv_lit {tmps : Operand → Value} {dst pos after guard ty} {w : World} {x : Operand} (hx : tmps x = .slice (some ⟨w.heap.size, 0, none⟩) 1 1) : (execOp tmps ⟨dst, .convert 34 34 x, ty, pos, after, guard⟩).run Try.prog (w.alloc (.cells #[.int .u8 97] 5)) = .ok (.value (.slice (some ⟨w.heap.size, 0, none⟩) 1 1)) (litA w) := by
  have := Lib.run_convert_bytes_const (P := Try.prog) w 34 5 #[.int .u8 97] 1 1 Try.underlying34 Try.underlying5
  simp only [execOp, hx, Sem.run_bind, this, Result.andThen_ok, Sem.run_pure]
  rfl
theorem litA_bytes (w : World) : BytesV (litA w) (.slice (some ⟨w.heap.size, 0, none⟩) 1 1) [97] := by
  refine ⟨_, 1, rfl, by simp, by decide, by simp, fun _ => ⟨w.heap.size, 0, rfl, fun j u hu => ?_⟩⟩
  rw [Nat.zero_add, cell_of_row (litA w) w.heap.size j #[.int .u8 97] 5 (1, 2) (heap_alloc_new w _)]
  simpa [bc] using hu
theorem litA_bytes' (w : World) (n : Nat) (hn : w.heap.size = n) : BytesV (litA w) (.slice (some ⟨n, 0, none⟩) 1 1) [97] := by subst hn; exact litA_bytes w
theorem litA_ext (w : World) : Ext [] w (litA w) := Ext.new w _
def fixD : List ((Nat × List UInt8) × Nat) := [((3, [97]), 1)]
def fixT : List (((Int × Int) × List UInt8) × Nat) := [(((1, 2), [97]), 1)]
theorem run_built {tmps : Operand → Value} {dst pos after guard ty} {w : World} (htm : tmps (.const (.int .u8 97)) = .int .u8 97) : (execOp tmps ⟨dst, .buildSlice 34 1 #[(0, .const (.int .u8 97))], ty, pos, after, guard⟩).run Try.prog w = .ok (.value (.slice (some ⟨w.heap.size, 0, none⟩) 1 1)) (w.alloc (.cells #[.int .u8 97] 5)) := by
  simp [execOp, htm]
  kernel_rfl
set_option maxHeartbeats 4000000 in
theorem fixed05 (w : World) : Calls Try.prog 37 #[] w fun e w' => e = .returned (.bool true) ∧ Ext [] w w' := by
  have hD : ∀ (W : World) (p bd bt : Nat) (v : Value) (h : BookAt W p bd bt [] []) (hv : BytesV W v [97]), Calls Try.prog 39 #[.pointer (some ⟨p, 0, none⟩), .int .i64 3, v] W fun e w' => e = .returned (.agg (numCells 3 1).toArray) ∧ BookAt w' p bd bt fixD [] ∧ Ext [bd] W w' :=
    fun W p bd bt v h hv => book_Digest W p bd bt [] [] 3 v [97] h hv ⟨by decide, by decide⟩ (by decide) (by decide)
  have hT : ∀ (W : World) (p bd bt : Nat) (v : Value) (h : BookAt W p bd bt fixD []) (hv : BytesV W v [97]), Calls Try.prog 40 #[.pointer (some ⟨p, 0, none⟩), .int .i64 1, .int .i64 2, v] W fun e w' => e = .returned (.agg (numCells 255 1).toArray) ∧ BookAt w' p bd bt fixD fixT ∧ Ext [bt] W w' :=
    fun W p bd bt v h hv => book_Tag W p bd bt fixD [] 1 2 v [97] h hv ⟨⟨by decide, by decide⟩, ⟨by decide, by decide⟩, by decide⟩ (by decide) (by decide)
  have hC1 : ∀ (W : World) (p bd bt : Nat) (v : Value) (h : BookAt W p bd bt fixD fixT) (hv : BytesV W v [97]), Calls Try.prog 41 #[.pointer (some ⟨p, 0, none⟩), .int .i64 1, .int .i64 2, v, .agg (numCells 255 1).toArray] W fun e w' => e = .returned (.bool true) ∧ BookAt w' p bd bt fixD fixT ∧ Ext [bt] W w' := by
    intro W p bd bt v h hv
    have := book_Check W p bd bt fixD fixT 1 2 v [97] (numB 255 1) h hv ⟨⟨by decide, by decide⟩, ⟨by decide, by decide⟩, by decide⟩ (numB_length _ _) (by decide) (by decide) true (by decide)
    rw [← numV_arr 255 1 (by decide)] at this
    exact this
  have hC2 : ∀ (W : World) (p bd bt : Nat) (v : Value) (h : BookAt W p bd bt fixD fixT) (hv : BytesV W v [97]), Calls Try.prog 41 #[.pointer (some ⟨p, 0, none⟩), .int .i64 2, .int .i64 1, v, .agg (numCells 255 1).toArray] W fun e w' => e = .returned (.bool false) ∧ BookAt w' p bd bt fixD fixT ∧ Ext [bt] W w' := by
    intro W p bd bt v h hv
    have := book_Check W p bd bt fixD fixT 2 1 v [97] (numB 255 1) h hv ⟨⟨by decide, by decide⟩, ⟨by decide, by decide⟩, by decide⟩ (numB_length _ _) (by decide) (by decide) false (by decide)
    rw [← numV_arr 255 1 (by decide)] at this
    exact this
  have hS : ∀ (W : World) (p bd bt : Nat) (h : BookAt W p bd bt fixD fixT), Calls Try.prog 43 #[.pointer (some ⟨p, 0, none⟩), .int .i64 1, .int .i64 2, .slice none 0 0] W fun e w' => e = .returned (.bool false) ∧ Ext [] W w' :=
    fun W p bd bt h => book_Said W p bd bt fixD fixT 1 2 _ [] h (BytesV.nil W) ⟨⟨by decide, by decide⟩, ⟨by decide, by decide⟩, by decide⟩ false (by decide)
  have he1 : ∀ W : World, (binOp .eql 46 (.agg (numCells 3 1).toArray) (.agg (numCells 3 1).toArray)).run Try.prog W = .ok (.bool true) W := by
    intro W
    have := eqlD (numB 3 1) (numB 3 1) (numB_length _ _) (numB_length _ _) true (by simp) W
    rw [← numV_arr 3 1 (by decide)] at this
    exact this
  have he2 : ∀ W : World, (binOp .eql 48 (.agg (numCells 255 1).toArray) (.agg (numCells 255 1).toArray)).run Try.prog W = .ok (.bool true) W := by
    intro W
    have := eqlT (numB 255 1) (numB 255 1) (numB_length _ _) (numB_length _ _) true (by simp) W
    rw [← numV_arr 255 1 (by decide)] at this
    exact this
  have hZ : ∀ (W : World) (p bd bt : Nat) (h : BookAt W p bd bt fixD fixT), Calls Try.prog 42 #[.pointer (some ⟨p, 0, none⟩)] W fun e w' => e = .returned (.tuple #[.int .i64 1, .int .i64 1]) ∧ Ext [] W w' :=
    fun W p bd bt h => book_Sizes W p bd bt fixD fixT h
  have HZ := Lib.hid hZ; clear hZ
  have HD := Lib.hid hD; have HT := Lib.hid hT; have HC1 := Lib.hid hC1; have HC2 := Lib.hid hC2; have HS := Lib.hid hS
  clear hD hT hC1 hC2 hS
  go_enter Try.func37, Try.ntmps37
  go_wp2_with (first
    | (go_at_call 38; refine (book_New' _).mono ?_; rintro e w1 ⟨p, bd, bt, rfl, hbk, x1, f1, f2, f3⟩; have K1 := Lib.hid hbk; have E1 := Lib.hid x1; have F2 := Lib.hid (show ∀ x ∈ [bd], x ∈ ([] : List Nat) ∨ w.heap.size ≤ x by simpa using f2); have F3 := Lib.hid (show ∀ x ∈ [bt], x ∈ ([] : List Nat) ∨ w.heap.size ≤ x by simpa using f3); clear hbk x1 f1 f2 f3)
    | ((with_reducible refine at_op ⟨some 8, _, _, _, _, _⟩ ?_); refine wpList_value rfl _ _ (run_built rfl) ?_)
    | ((with_reducible refine at_op ⟨some 12, _, _, _, _, _⟩ ?_); refine wpList_value rfl _ _ (run_built rfl) ?_)
    | ((with_reducible refine at_op ⟨some 38, _, _, _, _, _⟩ ?_); refine wpList_valueg rfl _ _ (run_built rfl) ?_)
    | ((with_reducible refine at_op ⟨some 45, _, _, _, _, _⟩ ?_); refine wpList_valueg rfl _ _ (run_built rfl) ?_)
    | ((with_reducible refine at_op ⟨some 9, _, _, _, _, _⟩ ?_); refine wpList_value rfl _ _ (conv_lit rfl) ?_)
    | ((with_reducible refine at_op ⟨some 13, _, _, _, _, _⟩ ?_); refine wpList_value rfl _ _ (conv_lit rfl) ?_)
    | ((with_reducible refine at_op ⟨some 39, _, _, _, _, _⟩ ?_); refine wpList_valueg rfl _ _ (conv_lit rfl) ?_)
    | ((with_reducible refine at_op ⟨some 46, _, _, _, _, _⟩ ?_); refine wpList_valueg rfl _ _ (conv_lit rfl) ?_)
    | (go_at_call 39; refine (HD.out _ p bd bt _ (K1.out.ext0 (litA_ext _)) (litA_bytes _)).mono ?_; rintro e w2 ⟨rfl, hbk, x2⟩; have K2 := Lib.hid hbk; have E2 := Lib.hid ((E1.out.tr (litA_ext _)).trans x2 F2.out); clear hbk x2)
    | ((with_reducible refine at_op ⟨some 2, _, _, _, _, _⟩ ?_); refine wpList_value rfl _ _ run_allocD ?_)
    | ((with_reducible refine at_op ⟨some 3, _, _, _, _, _⟩ ?_); refine wpList_value rfl _ _ run_allocT ?_)
    | ((with_reducible refine at_op ⟨none, .store _ (.tmp 2) (.tmp 10), _, _, _, _⟩ ?_); refine wpList_store_new rfl _ _ _ rfl w2 _ _ (numCells 3 1).toArray rfl rfl rfl (by kernel_rfl) (by kernel_rfl) (num_one _ _) ?_)
    | (go_at_call 40; refine (HT.out _ p bd bt _ (K2.out.ext0 ((Ext.new _ _).tr (litA_ext _))) (litA_bytes' _ _ (alloc_size _ _))).mono ?_; rintro e w3 ⟨rfl, hbk, x3⟩; have K3 := Lib.hid hbk; have E3 := Lib.hid (((E2.out.alloc _).tr (litA_ext _)).trans x3 F3.out); have Q3 := Lib.hid (((Blk.new w2 46 (numCells 3 1).toArray).ext (litA_ext _) (by simp)).ext x3 (by have := K2.out.mt.lt; simp; omega)); clear hbk x3)
    | ((with_reducible refine at_op ⟨none, .store _ (.tmp 3) (.tmp 14), _, _, _, _⟩ ?_); refine wpList_store_new rfl _ _ _ rfl w3 _ _ (numCells 255 1).toArray rfl rfl rfl (by kernel_rfl) (by kernel_rfl) (num_one _ _) ?_)
    | (go_at_call 42; refine (HZ.out _ p bd bt (K3.out.ext0 ((Ext.refl _).alloc _))).mono ?_; rintro e w4 ⟨rfl, x4⟩; have K4 := Lib.hid (K3.out.ext0 (((Ext.refl _).alloc _).tr x4)); have E4 := Lib.hid ((E3.out.alloc _).tr x4); have Q4 := Lib.hid ((Q3.out.alloc _).ext x4 (by simp)); have R4 := Lib.hid ((Blk.new w3 48 (numCells 255 1).toArray).ext x4 (by simp)); clear x4)
    | ((with_reducible refine at_op ⟨some 20, _, _, _, _, _⟩ ?_); refine wpList_load_row rfl _ _ rfl w2.heap.size rfl _ _ _ _ Q4.out Try.underlying46 rfl (by kernel_rfl) ?_)
    | ((with_reducible refine at_op ⟨some 21, _, _, _, _, _⟩ ?_); refine wpList_value rfl (.agg (numCells 3 1).toArray) w4 (by kernel_rfl) ?_)
    | ((with_reducible refine at_op ⟨some 24, _, _, _, _, _⟩ ?_); refine wpList_valueg rfl _ _ (run_load_whole _ _ rfl w3.heap.size rfl _ _ _ _ R4.out Try.underlying48 rfl (by kernel_rfl)) ?_)
    | ((with_reducible refine at_op ⟨some 25, _, _, _, _, _⟩ ?_); refine wpList_valueg rfl (.agg (numCells 255 1).toArray) w4 (by kernel_rfl) ?_)
    | ((with_reducible refine at_op ⟨some 40, _, _, _, _, _⟩ ?_); refine wpList_valueg rfl _ _ (run_load_whole _ _ rfl w3.heap.size rfl _ _ _ _ (R4.out.ext (litA_ext _) (by simp)) Try.underlying48 rfl (by kernel_rfl)) ?_)
    | (go_at_call 41; (with_reducible refine (HC1.out _ p bd bt _ (K4.out.ext0 (litA_ext _)) (litA_bytes _)).mono ?_); rintro e w5 ⟨rfl, hbk, x5⟩; have K5 := Lib.hid hbk; have E5 := Lib.hid ((E4.out.tr (litA_ext _)).trans x5 F3.out); have R5 := Lib.hid ((R4.out.ext (litA_ext _) (by simp)).ext x5 (by have := K3.out.mt.lt; simp; omega)); clear hbk x5)
    | ((with_reducible refine at_op ⟨some 47, _, _, _, _, _⟩ ?_); refine wpList_valueg rfl _ _ (run_load_whole _ _ rfl w3.heap.size rfl _ _ _ _ (R5.out.ext (litA_ext _) (by simp)) Try.underlying48 rfl (by kernel_rfl)) ?_)
    | (go_at_call 41; refine (HC2.out _ p bd bt _ (K5.out.ext0 (litA_ext _)) (litA_bytes _)).mono ?_; rintro e w6 ⟨rfl, hbk, x6⟩; have K6 := Lib.hid hbk; have E6 := Lib.hid ((E5.out.tr (litA_ext _)).trans x6 F3.out); clear hbk x6)
    | (go_at_call 43; refine (HS.out _ p bd bt K6.out).mono ?_; rintro e w7 ⟨rfl, x7⟩; have E7 := Lib.hid (E6.out.tr x7); clear x7))
  go_ret
  exact ⟨rfl, E7.out⟩
end Go.Proofs.Ytdbeinbgekdnmaa
