/-
  Layer 5: what a book tells.
-/
import Derived.Test.YtdbeinbgekdnmaaBook
set_option maxRecDepth 100000
namespace Go.Proofs.Ytdbeinbgekdnmaa
open Go.RowKit

/-- A book that has digested D, and tagged T. -/
structure BookAt (w : World) (p bd bt : Nat) (D : List ((Nat × List UInt8) × Nat)) (T : List (((Int × Int) × List UInt8) × Nat)) : Prop where
  blk : Blk w p 105 #[.map (some bd), .map (some bt)]
  md : MapOf w bd hashedV natV hashedOk D
  mt : MapOf w bt saidV natV saidOk T
  ne : bd ≠ bt ∧ p ≠ bd ∧ p ≠ bt
theorem BookAt.ext {w w' : World} {p bd bt : Nat} {D T} {F : List Nat} (h : BookAt w p bd bt D T) (hx : Ext F w w') (h1 : p ∉ F) (h2 : bd ∉ F) (h3 : bt ∉ F) : BookAt w' p bd bt D T :=
  ⟨h.blk.ext hx h1, h.md.ext hx h2, h.mt.ext hx h3, h.ne⟩
theorem BookAt.ext0 {w w' : World} {p bd bt : Nat} {D T} (h : BookAt w p bd bt D T) (hx : Ext [] w w') : BookAt w' p bd bt D T := h.ext hx (by simp) (by simp) (by simp)
theorem conv_txt {w : World} {v : Value} {l : List UInt8} (h : BytesV w v l) : (convert 34 9 v).run Try.prog w = .ok (.string ⟨l.toArray⟩) w := by
  obtain ⟨A, c, rfl, _, _, h4, h5⟩ := h
  rcases A with _ | a
  · have := run_convert_bytes_nil (P := Try.prog) (w := w) 34 5 Try.underlying34 Try.underlying5 l.length c 9 Try.underlying9
    have hl : l = [] := by
      rcases l with _ | ⟨x, l⟩
      · rfl
      · obtain ⟨b, off, h0, _⟩ := h5 (by simp)
        cases h0
    subst hl
    exact this
  · refine run_convert_bytes_back (P := Try.prog) w 34 9 5 a c l Try.underlying34 Try.underlying5 Try.underlying9 (fun j hj => ?_)
    obtain ⟨b, off, h0, hc⟩ := h5 (by intro h0; have := congrArg List.length h0; simp at this; subst this; simp at hj)
    cases h0
    have hadd : (⟨b, off, none⟩ : Addr).add j = ⟨b, off + j, none⟩ := by
      unfold Addr.add
      split
      · rename_i h0; subst h0; rfl
      · rfl
    rw [hadd]
    exact hc j _ (by simp [bc, hj])
theorem run_store_num {w : World} {g f n : Nat} {t : TypeId} {cs : Array Value} (h : Blk w g t cs) (hs : cs.size = 32) : (storeCells ⟨g, 0, none⟩ (numCells f n)).run Try.prog w = .ok () (w.setRow g (numCells f n).toArray) := by
  have := run_storeCells_from (P := Try.prog) g t (numCells f n) 0 cs w h (by rw [hs]; simp [numCells, beBytes_length]) (fun v hv => by
    have := num_one f n
    rw [List.all_toArray, List.all_eq_true] at this
    exact this v hv)
  simpa using this
theorem numCells_length (f n : Nat) : (numCells f n).length = 32 := by simp [numCells, beBytes_length]
attribute [local go_sem] numCells_length
def k8 (k : Int) : Nat := (k % 256).toNat
theorem run_allocD {tmps : Operand → Value} {dst pos after guard ty} {w : World} : (execOp tmps ⟨dst, .alloc 46, ty, pos, after, guard⟩).run Try.prog w = .ok (.value (.pointer (some ⟨w.heap.size, 0, none⟩))) (w.alloc (.cells zero32 46)) := by kernel_rfl
theorem run_allocT {tmps : Operand → Value} {dst pos after guard ty} {w : World} : (execOp tmps ⟨dst, .alloc 48, ty, pos, after, guard⟩).run Try.prog w = .ok (.value (.pointer (some ⟨w.heap.size, 0, none⟩))) (w.alloc (.cells zero32 48)) := by kernel_rfl
set_option maxHeartbeats 2000000 in
theorem book_Digest (w : World) (p bd bt : Nat) (D : List ((Nat × List UInt8) × Nat)) (T : List (((Int × Int) × List UInt8) × Nat)) (k : Int) (v : Value) (l : List UInt8) (h : BookAt w p bd bt D T) (hv : BytesV w v l) (hk : hashedOk (k8 k, l)) (hm : D.length < 4611686018427387904) (hpl : pl D (k8 k, l) < 9223372036854775808) :
    Calls Try.prog 39 #[.pointer (some ⟨p, 0, none⟩), .int .i64 k, v] w fun e w' => e = .returned (numV (k8 k) (pl D (k8 k, l))) ∧ BookAt w' p bd bt (pm D (k8 k, l)) T ∧ Ext [bd] w w' := by
  have H := Lib.hid h; clear h
  have HK := Lib.hid hk; clear hk
  have HV := Lib.hid hv; clear hv
  go_enter Try.func39, Try.ntmps39
  go_wp2_with ((with_reducible refine at_op ⟨some 6, _, _, _, _, _⟩ ?_); refine wpList_value rfl _ _ run_allocD ?_)
  have hx1 : Ext [] w (w.alloc (.cells zero32 46)).drew := ((Ext.refl w).alloc _).drew
  have hb0 : Blk (w.alloc (.cells zero32 46)).drew w.heap.size 46 zero32 := (Blk.new w 46 zero32).drew
  generalize (w.alloc (.cells zero32 46)) = W at *
  have H1 := H.out.ext0 hx1
  have hlt := H.out.md.lt
  have hc := Blk.cell H1.blk 0
  have hcv := conv_txt (HV.out.ext0 hx1)
  have hw8 : IntKind.u8.wrap k = (k8 k : Int) := by rw [IntKind.wrap_u8]; unfold k8; omega
  have hcl := fun (W : World) => (by kernel_rfl : (callFunc 77 (#[] ++ #[.map (some bd), .agg #[.int .u8 (k8 k), .string ⟨l.toArray⟩]] ++ #[])).run Try.prog W = .ok (.enter 77 #[.map (some bd), .agg #[.int .u8 (k8 k), .string ⟨l.toArray⟩]]) W)
  have hcl2 := fun (W : World) => (by kernel_rfl : (callFunc 76 (#[] ++ #[.int .u8 (k8 k), natV (pl D (k8 k, l))] ++ #[])).run Try.prog W = .ok (.enter 76 #[.int .u8 (k8 k), natV (pl D (k8 k, l))]) W)
  have hp := fun (W : World) (h : MapOf W bd hashedV natV hashedOk D) => place_hashed W bd D (k8 k) l h HK.out hm
  have hn := fun (W : World) => book_number W (k8 k) (pl D (k8 k, l)) hpl
  have HB0 := Lib.hid hb0; have HX1 := Lib.hid hx1; have HH1 := Lib.hid H1
  have HP := Lib.hid hp; have HN := Lib.hid hn; have HC := Lib.hid hcl; have HC2 := Lib.hid hcl2
  clear hb0 hx1 H1 hp hn hcl hcl2
  go_region_law (first
    | (refine step_go rfl 77 _ _ rfl #[.map (some bd), .agg #[.int .u8 (k8 k), .string ⟨l.toArray⟩]] (by simp [Act.eval, Act.put]) (HC.out _) (HP.out _ (HH1.out.md)) ?_; rintro e w2 ⟨rfl, hm2, hx2⟩; refine ⟨_, rfl, ?_⟩)
    | (refine step_go rfl 76 _ _ rfl #[.int .u8 (k8 k), natV (pl D (k8 k, l))] (by simp [Act.eval]) (HC2.out _) (HN.out _) ?_; rintro e w3 ⟨rfl, hx3⟩; have hst := run_store_num (f := (k8 k)) (n := pl D (k8 k, l)) ((HB0.out.ext hx2 (by simp; omega)).ext hx3 (by simp)) rfl; refine ⟨.agg (numCells (k8 k) (pl D (k8 k, l))).toArray, rfl, ?_⟩))
  all_goals
    have H2 := HH1.out
    have hb3 := (HB0.out.ext hx2 (by simp; omega)).ext hx3 (by simp)
    have hbk : BookAt w2 p bd bt (pm D (k8 k, l)) T := ⟨H2.blk.ext hx2 (by simpa using H2.ne.2.1), hm2, H2.mt.ext hx2 (by simpa using fun e => H2.ne.1 e.symm), H2.ne⟩
    have hp1 := H.out.blk.lt
    have hp2 := H.out.md.lt
    have hp3 := H.out.mt.lt
    have HK3 := Lib.hid ((hbk.ext0 hx3).ext ((Ext.refl (F := [w.heap.size]) w3).setRow (g := w.heap.size) (by simp) (numCells (k8 k) (pl D (k8 k, l))).toArray) (by simp; omega) (by simp; omega) (by simp; omega))
    have HX3 := Lib.hid ((((HX1.out.mono (G := [bd]) (by simp)).trans hx2 (by simp)).trans hx3 (by simp)).setRow (g := w.heap.size) (Or.inr (Nat.le_refl _)) (numCells (k8 k) (pl D (k8 k, l))).toArray)
    have HB3 := Lib.hid hb3
    clear hb3 hbk hp1 hp2 hp3 hx2 hx3 hm2 hst H2
    go_wp2
    exact bodyPost_ret (v := numV (k8 k) (pl D (k8 k, l))) (results_cell_row rfl _ _ w.heap.size _ _ _ _ rfl (HB3.out.setRow _) Try.underlying46 rfl (by kernel_rfl)) rfl ⟨rfl, HK3.out, HX3.out⟩
set_option maxHeartbeats 2000000 in
theorem book_Tag (w : World) (p bd bt : Nat) (D : List ((Nat × List UInt8) × Nat)) (T : List (((Int × Int) × List UInt8) × Nat)) (x y : Int) (v : Value) (l : List UInt8) (h : BookAt w p bd bt D T) (hv : BytesV w v l) (hk : saidOk ((x, y), l)) (hm : T.length < 4611686018427387904) (hpl : pl T ((x, y), l) < 9223372036854775808) :
    Calls Try.prog 40 #[.pointer (some ⟨p, 0, none⟩), .int .i64 x, .int .i64 y, v] w fun e w' => e = .returned (numV 255 (pl T ((x, y), l))) ∧ BookAt w' p bd bt D (pm T ((x, y), l)) ∧ Ext [bt] w w' := by
  have H := Lib.hid h; clear h
  have HK := Lib.hid hk; clear hk
  have HV := Lib.hid hv; clear hv
  go_enter Try.func40, Try.ntmps40
  go_wp2_with ((with_reducible refine at_op ⟨some 8, _, _, _, _, _⟩ ?_); refine wpList_value rfl _ _ run_allocT ?_)
  have hx1 : Ext [] w (w.alloc (.cells zero32 48)).drew := ((Ext.refl w).alloc _).drew
  have hb0 : Blk (w.alloc (.cells zero32 48)).drew w.heap.size 48 zero32 := (Blk.new w 48 zero32).drew
  generalize (w.alloc (.cells zero32 48)) = W at *
  have H1 := H.out.ext0 hx1
  have hlt := H.out.mt.lt
  have hc := Blk.cell H1.blk 1
  have hcv := conv_txt (HV.out.ext0 hx1)
  have hcl := fun (W : World) => (by kernel_rfl : (callFunc 78 (#[] ++ #[.map (some bt), .agg #[.int .i64 x, .int .i64 y, .string ⟨l.toArray⟩]] ++ #[])).run Try.prog W = .ok (.enter 78 #[.map (some bt), .agg #[.int .i64 x, .int .i64 y, .string ⟨l.toArray⟩]]) W)
  have hcl2 := fun (W : World) => (by kernel_rfl : (callFunc 76 (#[] ++ #[.int .u8 255, natV (pl T ((x, y), l))] ++ #[])).run Try.prog W = .ok (.enter 76 #[.int .u8 255, natV (pl T ((x, y), l))]) W)
  have hp := fun (W : World) (h : MapOf W bt saidV natV saidOk T) => place_said W bt T x y l h HK.out hm
  have hn := fun (W : World) => book_number W 255 (pl T ((x, y), l)) hpl
  have HB0 := Lib.hid hb0; have HX1 := Lib.hid hx1; have HH1 := Lib.hid H1
  have HP := Lib.hid hp; have HN := Lib.hid hn; have HC := Lib.hid hcl; have HC2 := Lib.hid hcl2
  clear hb0 hx1 H1 hp hn hcl hcl2
  go_region_law (first
    | (refine step_go rfl 78 _ _ rfl #[.map (some bt), .agg #[.int .i64 x, .int .i64 y, .string ⟨l.toArray⟩]] (by simp [Act.eval, Act.put]) (HC.out _) (HP.out _ (HH1.out.mt)) ?_; rintro e w2 ⟨rfl, hm2, hx2⟩; refine ⟨_, rfl, ?_⟩)
    | (refine step_go rfl 76 _ _ rfl #[.int .u8 255, natV (pl T ((x, y), l))] (by simp [Act.eval]) (HC2.out _) (HN.out _) ?_; rintro e w3 ⟨rfl, hx3⟩; have hst := run_store_num (f := 255) (n := pl T ((x, y), l)) ((HB0.out.ext hx2 (by simp; omega)).ext hx3 (by simp)) rfl; refine ⟨.agg (numCells 255 (pl T ((x, y), l))).toArray, rfl, ?_⟩))
  all_goals
    have H2 := HH1.out
    have hb3 := (HB0.out.ext hx2 (by simp; omega)).ext hx3 (by simp)
    have hbk : BookAt w2 p bd bt D (pm T ((x, y), l)) := ⟨H2.blk.ext hx2 (by simpa using H2.ne.2.2), H2.md.ext hx2 (by simpa using H2.ne.1), hm2, H2.ne⟩
    have hp1 := H.out.blk.lt
    have hp2 := H.out.md.lt
    have hp3 := H.out.mt.lt
    have HK3 := Lib.hid ((hbk.ext0 hx3).ext ((Ext.refl (F := [w.heap.size]) w3).setRow (g := w.heap.size) (by simp) (numCells 255 (pl T ((x, y), l))).toArray) (by simp; omega) (by simp; omega) (by simp; omega))
    have HX3 := Lib.hid ((((HX1.out.mono (G := [bt]) (by simp)).trans hx2 (by simp)).trans hx3 (by simp)).setRow (g := w.heap.size) (Or.inr (Nat.le_refl _)) (numCells 255 (pl T ((x, y), l))).toArray)
    have HB3 := Lib.hid hb3
    clear hb3 hbk hp1 hp2 hp3 hx2 hx3 hm2 hst H2
    go_wp2
    exact bodyPost_ret (v := numV 255 (pl T ((x, y), l))) (results_cell_row rfl _ _ w.heap.size _ _ _ _ rfl (HB3.out.setRow _) Try.underlying48 rfl (by kernel_rfl)) rfl ⟨rfl, HK3.out, HX3.out⟩
end Go.Proofs.Ytdbeinbgekdnmaa
