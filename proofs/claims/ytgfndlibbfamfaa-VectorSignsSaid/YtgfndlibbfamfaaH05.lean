/-
  Packed out of the texts: BookDo, BookSee, Arr32, BookCheck, BookLaw, BookInv, Law, Open, OpenBytes, AOpen, AFace, ABook, V1, ABk2.
-/
import Derived.Test.YtgfndlibbfamfaaH04
import Derived.DataShut
import Derived.Lib.SlBytesConst
import Derived.Test.YtgfndlibbfamfaaRows
import Derived.OpenShut
import Derived.SizedLaws
import Derived.Deep.Slices
/-
  Layer 5: what a book tells.
-/
set_option maxRecDepth 100000
namespace Go.Proofs.Ytgfndlibbfamfaa
open Go.RowKit

/-- A book that has digested D, and tagged T. -/
structure BookAt (w : World) (p bd bt : Nat) (D : List ((Nat × List UInt8) × Nat)) (T : List (((Int × Int) × List UInt8) × Nat)) : Prop where
  blk : Blk w p 48 #[.map (some bd), .map (some bt)]
  md : MapOf w bd hashedV natV hashedOk D
  mt : MapOf w bt saidV natV saidOk T
  ne : bd ≠ bt ∧ p ≠ bd ∧ p ≠ bt
theorem BookAt.ext {w w' : World} {p bd bt : Nat} {D T} {F : List Nat} (h : BookAt w p bd bt D T) (hx : Ext F w w') (h1 : p ∉ F) (h2 : bd ∉ F) (h3 : bt ∉ F) : BookAt w' p bd bt D T :=
  ⟨h.blk.ext hx h1, h.md.ext hx h2, h.mt.ext hx h3, h.ne⟩
theorem BookAt.ext0 {w w' : World} {p bd bt : Nat} {D T} (h : BookAt w p bd bt D T) (hx : Ext [] w w') : BookAt w' p bd bt D T := h.ext hx (by simp) (by simp) (by simp)
theorem conv_txt {w : World} {v : Value} {l : List UInt8} (h : BytesV w v l) : (convert 22 9 v).run Try.prog w = .ok (.string ⟨l.toArray⟩) w := by
  obtain ⟨A, c, rfl, _, _, h4, h5⟩ := h
  rcases A with _ | a
  · have := run_convert_bytes_nil (P := Try.prog) (w := w) 22 5 Try.underlying22 Try.underlying5 l.length c 9 Try.underlying9
    have hl : l = [] := by
      rcases l with _ | ⟨x, l⟩
      · rfl
      · obtain ⟨b, off, h0, _⟩ := h5 (by simp)
        cases h0
    subst hl
    exact this
  · refine run_convert_bytes_back (P := Try.prog) w 22 9 5 a c l Try.underlying22 Try.underlying5 Try.underlying9 (fun j hj => ?_)
    obtain ⟨b, off, h0, hc⟩ := h5 (by intro h0; have := congrArg List.length h0; simp at this; subst this; simp at hj)
    cases h0
    have hadd : (⟨b, off, none⟩ : Addr).add j = ⟨b, off + j, none⟩ := by
      unfold Addr.add
      split
      · rename_i h0; subst h0; rfl
      · rfl
    rw [hadd]
    exact hc j _ (by simp [bc, hj])
theorem run_store_num {w : World} {g f n : Nat} {t : TypeId} {cs : Array Value} (h : Blk w g t cs) (hs : cs.size = 32) : (storeCells ⟨g, 0, none⟩ (numCells f n)).run Try.prog w = .ok () (w.setRow g (numCells f n).toArray) := by
  have := run_storeCells_from (P := Try.prog) g t (numCells f n) 0 cs w h (by rw [hs]; simp [numCells, beBytes_length]) (fun v hv => by
    have := num_one f n
    rw [List.all_toArray, List.all_eq_true] at this
    exact this v hv)
  simpa using this
theorem numCells_length (f n : Nat) : (numCells f n).length = 32 := by simp [numCells, beBytes_length]
attribute [local go_sem] numCells_length
theorem run_allocD {tmps : Operand → Value} {dst pos after guard ty} {w : World} : (execOp tmps ⟨dst, .alloc 64, ty, pos, after, guard⟩).run Try.prog w = .ok (.value (.pointer (some ⟨w.heap.size, 0, none⟩))) (w.alloc (.cells zero32 64)) := by kernel_rfl
theorem run_allocT {tmps : Operand → Value} {dst pos after guard ty} {w : World} : (execOp tmps ⟨dst, .alloc 37, ty, pos, after, guard⟩).run Try.prog w = .ok (.value (.pointer (some ⟨w.heap.size, 0, none⟩))) (w.alloc (.cells zero32 37)) := by kernel_rfl
set_option maxHeartbeats 2000000 in
theorem book_Tag (w : World) (p bd bt : Nat) (D : List ((Nat × List UInt8) × Nat)) (T : List (((Int × Int) × List UInt8) × Nat)) (x y : Int) (v : Value) (l : List UInt8) (h : BookAt w p bd bt D T) (hv : BytesV w v l) (hk : saidOk ((x, y), l)) (hm : T.length < 4611686018427387904) (hpl : pl T ((x, y), l) < 9223372036854775808) :
    Calls Try.prog 71 #[.pointer (some ⟨p, 0, none⟩), .int .i64 x, .int .i64 y, v] w fun e w' => e = .returned (numV 255 (pl T ((x, y), l))) ∧ BookAt w' p bd bt D (pm T ((x, y), l)) ∧ Ext [bt] w w' := by
  have H := Lib.hid h; clear h
  have HK := Lib.hid hk; clear hk
  have HV := Lib.hid hv; clear hv
  go_enter Try.func71, Try.ntmps71
  go_wp2_with ((with_reducible refine at_op ⟨some 8, _, _, _, _, _⟩ ?_); refine wpList_value rfl _ _ run_allocT ?_)
  have hx1 : Ext [] w (w.alloc (.cells zero32 37)).drew := ((Ext.refl w).alloc _).drew
  have hb0 : Blk (w.alloc (.cells zero32 37)).drew w.heap.size 37 zero32 := (Blk.new w 37 zero32).drew
  generalize (w.alloc (.cells zero32 37)) = W at *
  have H1 := H.out.ext0 hx1
  have hlt := H.out.mt.lt
  have hc := Blk.cell H1.blk 1
  have hcv := conv_txt (HV.out.ext0 hx1)
  have hcl := fun (W : World) => (by kernel_rfl : (callFunc 74 (#[] ++ #[.map (some bt), .agg #[.int .i64 x, .int .i64 y, .string ⟨l.toArray⟩]] ++ #[])).run Try.prog W = .ok (.enter 74 #[.map (some bt), .agg #[.int .i64 x, .int .i64 y, .string ⟨l.toArray⟩]]) W)
  have hcl2 := fun (W : World) => (by kernel_rfl : (callFunc 73 (#[] ++ #[.int .u8 255, natV (pl T ((x, y), l))] ++ #[])).run Try.prog W = .ok (.enter 73 #[.int .u8 255, natV (pl T ((x, y), l))]) W)
  have hp := fun (W : World) (h : MapOf W bt saidV natV saidOk T) => place_said W bt T x y l h HK.out hm
  have hn := fun (W : World) => book_number W 255 (pl T ((x, y), l)) hpl
  have HB0 := Lib.hid hb0; have HX1 := Lib.hid hx1; have HH1 := Lib.hid H1
  have HP := Lib.hid hp; have HN := Lib.hid hn; have HC := Lib.hid hcl; have HC2 := Lib.hid hcl2
  clear hb0 hx1 H1 hp hn hcl hcl2
  go_region_law (first
    | (refine step_go rfl 74 _ _ rfl #[.map (some bt), .agg #[.int .i64 x, .int .i64 y, .string ⟨l.toArray⟩]] (by simp [Act.eval, Act.put]) (HC.out _) (HP.out _ (HH1.out.mt)) ?_; rintro e w2 ⟨rfl, hm2, hx2⟩; refine ⟨_, rfl, ?_⟩)
    | (refine step_go rfl 73 _ _ rfl #[.int .u8 255, natV (pl T ((x, y), l))] (by simp [Act.eval]) (HC2.out _) (HN.out _) ?_; rintro e w3 ⟨rfl, hx3⟩; have hst := run_store_num (f := 255) (n := pl T ((x, y), l)) ((HB0.out.ext hx2 (by simp; omega)).ext hx3 (by simp)) rfl; refine ⟨.agg (numCells 255 (pl T ((x, y), l))).toArray, rfl, ?_⟩))
  all_goals
    have H2 := HH1.out
    have hb3 := (HB0.out.ext hx2 (by simp; omega)).ext hx3 (by simp)
    have hbk : BookAt w2 p bd bt D (pm T ((x, y), l)) := ⟨H2.blk.ext hx2 (by simpa using H2.ne.2.2), H2.md.ext hx2 (by simpa using H2.ne.1), hm2, H2.ne⟩
    have hp1 := H.out.blk.lt
    have hp2 := H.out.md.lt
    have hp3 := H.out.mt.lt
    have HK3 := Lib.hid ((hbk.ext0 hx3).ext ((Ext.refl (F := [w.heap.size]) w3).setRow (g := w.heap.size) (by simp) (numCells 255 (pl T ((x, y), l))).toArray) (by simp; omega) (by simp; omega) (by simp; omega))
    have HX3 := Lib.hid ((((HX1.out.mono (G := [bt]) (by simp)).trans hx2 (by simp)).trans hx3 (by simp)).setRow (g := w.heap.size) (Or.inr (Nat.le_refl _)) (numCells 255 (pl T ((x, y), l))).toArray)
    have HB3 := Lib.hid hb3
    clear hb3 hbk hp1 hp2 hp3 hx2 hx3 hm2 hst H2
    go_wp2
    exact bodyPost_ret (v := numV 255 (pl T ((x, y), l))) (results_cell_row rfl _ _ w.heap.size _ _ _ _ rfl (HB3.out.setRow _) Try.underlying37 rfl (by kernel_rfl)) rfl ⟨rfl, HK3.out, HX3.out⟩
end Go.Proofs.Ytgfndlibbfamfaa
/-
  Layer 5: a new book; what was said; the nil book.
-/
set_option maxRecDepth 100000
namespace Go.Proofs.Ytgfndlibbfamfaa
open Go.RowKit

section
variable {P : Program} {ops : Array Oper} {rest : List Oper} {o : Oper} {a : Act} {Q : Act → Prop} {C : World → Prop}
/-- A guard, in a region that draws and is walked in the text's order. -/
theorem at_opq (o : Oper) (h : wpQuiet P ops C Q (o :: rest) a) : wpQuiet P ops C Q (o :: rest) a := h
/-- An operation by its run, in whatever world of the class. -/
theorem wpQuiet_value (hg : o.guard = none) (v : Value) (h : ∀ w, C w → (execOp a.eval o).run P w = .ok (.value v) w) (k : wpQuiet P ops C Q rest (a.put o.dst v)) : wpQuiet P ops C Q (o :: rest) a := by
  refine BigFrame.wpQuiet_want (by simp [Region.wanted, hg]) fun K hK => ?_
  exact ⟨v, fun w hw => by unfold Oper.quietAt; rw [h w hw]; exact ⟨rfl, rfl⟩, hK _ k⟩
end
section
variable {α β : Type} [DecidableEq α] {P : Program} {w : World} {b : Nat} {k e : TypeId} {K : α → Value} {V : β → Value} {Good : α → Prop} {m : List (α × β)} {o : Oper} {a : Act}
theorem run_mapGetOk (h : MapOf w b K V Good m) (kf : KeyFit P k K Good) (t : TypeId) (ht : P.underlying t = some (.map k e)) (z : Value) (hz : (zeroValue e).run P w = .ok z w) (c : α) (hc : Good c)
    (x y : Operand) (ho : o.op = .lookup t x y true) (hx : a.eval x = .map (some b)) (hy : a.eval y = K c) :
    (execOp a.eval o).run P w = .ok (.value (.tuple #[((aget m c).map V).getD z, .bool (aget m c).isSome])) w := by
  simp only [execOp, ho, hx, hy, Sem.run_bind, h.look_run kf ht hz hc true, if_true, Result.andThen_ok, Sem.run_pure]
omit [DecidableEq α] in
theorem run_mapLen (h : MapOf w b K V Good m) (t : TypeId) (ht : P.underlying t = some (.map k e)) (x : Operand) (ho : o.op = .call { callee := .builtin .len, args := #[x], argTypes := #[t] }) (hx : a.eval x = .map (some b)) :
    (execOp a.eval o).run P w = .ok (.value (.int .i64 m.length)) w := by
  simp [execOp, ho, resolve, invoke, builtin, hx, h.len_run ht o.type, Result.andThen]
end

theorem alloc_size (w : World) (o : Obj) : (w.alloc o).heap.size = w.heap.size + 1 := Array.size_push _
set_option maxHeartbeats 2000000 in
theorem book_New (w : World) : Calls Try.prog 6 #[] w fun e w' => e = .returned (.pointer (some ⟨w.heap.size + 2, 0, none⟩)) ∧ BookAt w' (w.heap.size + 2) w.heap.size (w.heap.size + 1) [] [] ∧ Ext [] w w' := by
  have h1 := (Ext.refl (F := []) w).alloc (.map #[] 0)
  have m1 := MapOf.new (K := hashedV) (V := natV) (Good := hashedOk) w
  have s1 := alloc_size w (.map #[] 0)
  obtain ⟨W1, hW1⟩ : ∃ W1, W1 = w.alloc (.map #[] 0) := ⟨_, rfl⟩
  rw [← hW1] at h1 m1 s1
  have h2 := h1.alloc (.map #[] 0)
  have m2 := m1.alloc (.map #[] 0)
  have m3 := MapOf.new (K := saidV) (V := natV) (Good := saidOk) W1
  have s2 := alloc_size W1 (.map #[] 0)
  have r1 : ∀ (tmps : Operand → Value) dst pos after guard ty, (execOp tmps ⟨dst, .makeMap 45 none, ty, pos, after, guard⟩).run Try.prog w = .ok (.value (.map (some w.heap.size))) W1 := by intros; rw [hW1]; rfl
  obtain ⟨W2, hW2⟩ : ∃ W2, W2 = W1.alloc (.map #[] 0) := ⟨_, rfl⟩
  rw [← hW2] at h2 m2 m3 s2
  have r2 : ∀ (tmps : Operand → Value) dst pos after guard ty, (execOp tmps ⟨dst, .makeMap 46 none, ty, pos, after, guard⟩).run Try.prog W1 = .ok (.value (.map (some (w.heap.size + 1)))) W2 := by intros; rw [hW2, ← s1]; rfl
  have hb := Blk.new W2 48 #[.map (some w.heap.size), .map (some (w.heap.size + 1))]
  rw [s2, s1] at hb
  rw [s1] at m3
  have R1 := Lib.hid r1
  have R2 := Lib.hid r2
  have hs : W2.heap.size = w.heap.size + 2 := by omega
  have HM := Lib.hid (And.intro (m2.alloc (.cells #[.map (some w.heap.size), .map (some (w.heap.size + 1))] 48)) (And.intro (m3.alloc (.cells #[.map (some w.heap.size), .map (some (w.heap.size + 1))] 48)) (And.intro hb (h2.alloc (.cells #[.map (some w.heap.size), .map (some (w.heap.size + 1))] 48)))))
  clear hb m1 m2 m3 s1 s2 h1 h2 r1 r2 hW1 hW2
  go_enter Try.func6, Try.ntmps6
  go_wp2_with (first
    | ((with_reducible refine at_op ⟨some 1, _, _, _, _, _⟩ ?_); refine wpList_value rfl _ _ (R1.out _ _ _ _ _ _) ?_)
    | ((with_reducible refine at_op ⟨some 2, _, _, _, _, _⟩ ?_); refine wpList_value rfl _ _ (R2.out _ _ _ _ _ _) ?_))
  go_ret
  exact ⟨rfl, ⟨HM.out.2.2.1, HM.out.1, HM.out.2.1, by omega, by omega, by omega⟩, HM.out.2.2.2⟩
theorem book_Said (w : World) (p bd bt : Nat) (D : List ((Nat × List UInt8) × Nat)) (T : List (((Int × Int) × List UInt8) × Nat)) (x y : Int) (v : Value) (l : List UInt8) (h : BookAt w p bd bt D T) (hv : BytesV w v l) (hk : saidOk ((x, y), l)) (b : Bool) (hb : (aget T ((x, y), l)).isSome = b) :
    Calls Try.prog 72 #[.pointer (some ⟨p, 0, none⟩), .int .i64 x, .int .i64 y, v] w fun e w' => e = .returned (.bool b) ∧ Ext [] w w' := by
  have H := Lib.hid h
  have HK := Lib.hid hk; clear hk
  have hc := fun (x : Later w) => Blk.cell (Later.blk x h.blk) 1
  have hcv := fun (x : Later w) => conv_txt (hv.ext0 x.ext)
  have HB := Lib.hid hb
  clear h hv hb
  go_enter Try.func72, Try.ntmps72
  go_wp2
  refine wp_region_later_lit (by kernel_rfl) (by kernel_rfl) ?_
  repeat (first
    | ((with_reducible refine at_opq ⟨some 23, _, _, _, _, _⟩ ?_); refine wpQuiet_value rfl _ (by rintro _ ⟨xq, rfl⟩; exact run_mapGetOk (H.out.ext0 xq.ext).mt said_fit _ Try.underlying46 (.int .i64 0) (by kernel_rfl) ((x, y), l) HK.out _ _ rfl rfl rfl) ?_; go_simp)
    | go_big_quiet_step (fail))
  refine wpQuiet_nil ?_
  intro xq
  have hx := xq.ext
  go_wp2
  go_ret
  exact ⟨ret_bool HB.out, hx⟩
theorem nil_Tag (w : World) (x y v : Value) : Calls Try.prog 71 #[.pointer none, x, y, v] w fun e w' => e = .returned (.agg zero32) ∧ Ext [] w w' := by
  go_enter Try.func71, Try.ntmps71
  go_wp2_with (first
    | ((with_reducible refine at_op ⟨some 8, _, _, _, _, _⟩ ?_); refine wpList_value rfl _ _ run_allocT ?_)
    | ((with_reducible refine at_op ⟨some 11, _, _, _, _, _⟩ ?_); refine wpList_value rfl (.agg zero32) _ (by kernel_rfl) ?_)
    | ((with_reducible refine at_op ⟨none, .store _ (.tmp 8) (.tmp 11), _, _, _, _⟩ ?_); refine wpList_store_new rfl _ _ _ rfl w _ _ zero32 rfl rfl rfl (by kernel_rfl) (by kernel_rfl) (by kernel_rfl) ?_))
  exact bodyPost_ret (v := .agg zero32) (results_cell_row rfl _ _ w.heap.size _ _ _ _ rfl (Blk.new w 37 zero32) Try.underlying37 rfl (by kernel_rfl)) rfl ⟨rfl, (Ext.refl w).alloc _⟩
theorem nil_Said (w : World) (x y v : Value) : Calls Try.prog 72 #[.pointer none, x, y, v] w fun e w' => e = .returned (.bool false) ∧ w = w' := by
  go_enter Try.func72, Try.ntmps72
  go_wp2
  go_ret
  exact ⟨rfl, rfl⟩
end Go.Proofs.Ytgfndlibbfamfaa
/-
  Arrays of 32 bytes: are two the same?
-/
set_option maxRecDepth 100000
namespace Go.Proofs.Ytgfndlibbfamfaa
open Go.RowKit

def litB (c : UInt8) : Lit := .int .u8 (c.toNat : Int)
theorem litB_inj {L M : List UInt8} (h : L.map litB = M.map litB) : L = M := by
  have hi : ∀ a b : UInt8, litB a = litB b → a = b := by
    intro a b hab
    unfold litB at hab
    injection hab with _ hab
    exact UInt8.toNat.inj (by omega)
  induction L generalizing M with
  | nil => cases M with
    | nil => rfl
    | cons _ _ => simp at h
  | cons a L ih => cases M with
    | nil => simp at h
    | cons b M =>
      simp only [List.map_cons, List.cons.injEq] at h
      rw [hi _ _ h.1, ih h.2]
theorem lits_bytes {m : Nat} {T : TypeId} (hu : Try.prog.underlying T = some (.array 32 5)) (hc : Try.prog.cellsOf T = 32) (L : List UInt8) (hL : L.length = 32) :
    Try.prog.keyLits (m + 2) T (L.map bc) = some (L.map litB) := by
  have h5 : Try.prog.cellsOf 5 = 1 := by kernel_rfl
  have hone : ∀ c : UInt8, Try.prog.keyLits (m + 1) 5 [bc c] = some [litB c] := by
    intro c
    have hb : c.toNat < 256 := c.toNat_lt
    have e1 : (Lit.int .u8 (c.toNat : Int)).wf = true := by
      simp only [Lit.wf, Bool.and_eq_true, decide_eq_true_eq]
      exact ⟨by show (0 : Int) ≤ _; omega, by show _ ≤ (255 : Int); omega⟩
    simp [Program.keyLits, Try.underlying5, bc, litB, e1]
  have hm : (List.range 32).mapM (fun i => Try.prog.keyLits (m + 1) 5 (((L.map bc).drop (i * 1)).take 1)) = some (L.map fun c => [litB c]) := by
    refine mapM_some_of_get _ _ (by simp [hL]) ?_
    intro i x hx
    have hi : i < 32 := by
      have := (List.getElem?_eq_some_iff.1 hx).1
      simpa using this
    have hxi : x = i := by
      have := (List.getElem?_eq_some_iff.1 hx).2
      simpa using this.symm
    subst hxi
    have hl : x < L.length := by omega
    have hd : ((L.map bc).drop (x * 1)).take 1 = [bc L[x]] := by
      rw [Nat.mul_one, List.drop_eq_getElem_cons (by simpa using hl)]
      simp
    rw [hd, hone]
    simp [hl]
  have hfl : (L.map fun c => [litB c]).flatten = L.map litB := by
    clear hm hL
    induction L with
    | nil => rfl
    | cons c L ih => simp [ih]
  have hlen : (L.map bc).length = Try.prog.cellsOf T := by simp [hL, hc]
  have hcell : (L.map bc).length = 32 := by simp [hL]
  unfold Program.keyLits
  rw [hu]
  split
  · simp_all
  · simp_all
  · simp_all
  · rename_i h1
    injection h1 with h1
    injection h1 with h1 h2
    subst h1
    subst h2
    rw [if_pos hlen, h5, hm, Option.map_some, hfl]
  · simp_all
  · simp_all
def arrB (L : List UInt8) : Value := .agg (L.map bc).toArray
theorem formedB {T : TypeId} (hu : Try.prog.underlying T = some (.array 32 5)) (hc : Try.prog.cellsOf T = 32) (L : List UInt8) (hL : L.length = 32) : (arrB L).formed Try.prog T = true := by
  simp [arrB, Value.formed, hu, hc, hL]
theorem eqlB {T : TypeId} (hu : Try.prog.underlying T = some (.array 32 5)) (hc : Try.prog.cellsOf T = 32) (hk : Try.prog.keyTypeAt 4 T = true) (L M : List UInt8) (hL : L.length = 32) (hM : M.length = 32) (b : Bool) (hb : decide (L = M) = b) (w : World) :
    (binOp .eql T (arrB L) (arrB M)).run Try.prog w = .ok (.bool b) w :=
  run_eql_lits (m := 4) (by decide) hk (formedB hu hc L hL) (formedB hu hc M hM) (lits_bytes (m := 0) hu hc L hL) (lits_bytes (m := 0) hu hc M hM) b (by
    rw [← hb, decide_eq_true_eq]
    exact ⟨fun h => by rw [h], litB_inj⟩) w
theorem neqB {T : TypeId} (hu : Try.prog.underlying T = some (.array 32 5)) (hc : Try.prog.cellsOf T = 32) (hk : Try.prog.keyTypeAt 4 T = true) (L M : List UInt8) (hL : L.length = 32) (hM : M.length = 32) (b : Bool) (hb : decide (L ≠ M) = b) (w : World) :
    (binOp .neq T (arrB L) (arrB M)).run Try.prog w = .ok (.bool b) w :=
  run_neq_lits (m := 4) (by decide) hk (formedB hu hc L hL) (formedB hu hc M hM) (lits_bytes (m := 0) hu hc L hL) (lits_bytes (m := 0) hu hc M hM) b (by
    rw [← hb, decide_eq_true_eq]
    exact ⟨fun h e => h (litB_inj e), fun h e => h (by rw [e])⟩) w
theorem eqlD (L M : List UInt8) (hL : L.length = 32) (hM : M.length = 32) (b : Bool) (hb : decide (L = M) = b) (w : World) : (binOp .eql 64 (arrB L) (arrB M)).run Try.prog w = .ok (.bool b) w :=
  eqlB Try.underlying64 (by kernel_rfl) (by kernel_rfl) L M hL hM b hb w
theorem eqlT (L M : List UInt8) (hL : L.length = 32) (hM : M.length = 32) (b : Bool) (hb : decide (L = M) = b) (w : World) : (binOp .eql 37 (arrB L) (arrB M)).run Try.prog w = .ok (.bool b) w :=
  eqlB Try.underlying37 (by kernel_rfl) (by kernel_rfl) L M hL hM b hb w
theorem neqD (L M : List UInt8) (hL : L.length = 32) (hM : M.length = 32) (b : Bool) (hb : decide (L ≠ M) = b) (w : World) : (binOp .neq 64 (arrB L) (arrB M)).run Try.prog w = .ok (.bool b) w :=
  neqB Try.underlying64 (by kernel_rfl) (by kernel_rfl) L M hL hM b hb w
theorem neqT (L M : List UInt8) (hL : L.length = 32) (hM : M.length = 32) (b : Bool) (hb : decide (L ≠ M) = b) (w : World) : (binOp .neq 37 (arrB L) (arrB M)).run Try.prog w = .ok (.bool b) w :=
  neqB Try.underlying37 (by kernel_rfl) (by kernel_rfl) L M hL hM b hb w
end Go.Proofs.Ytgfndlibbfamfaa
/-
  Layer 5: is a tag the one that was made? Sizes.
-/
set_option maxRecDepth 100000
namespace Go.Proofs.Ytgfndlibbfamfaa
open Go.RowKit

/-! ### Rows of 32 bytes -/
def numB (f n : Nat) : List UInt8 := UInt8.ofNat f :: (List.replicate 23 0 ++ beBytes n 8)
theorem numB_length (f n : Nat) : (numB f n).length = 32 := by simp [numB, beBytes_length]
theorem numCells_bytes (f n : Nat) (hf : f < 256) : numCells f n = (numB f n).map bc := by
  simp [numCells, numB, bc]
  omega
theorem numV_arr (f n : Nat) (hf : f < 256) : numV f n = arrB (numB f n) := by
  unfold numV arrB
  rw [numCells_bytes f n hf]
theorem zero_arr : Value.agg zero32 = arrB (List.replicate 32 0) := by
  unfold zero32 arrB
  congr 1
/-- A guarded call of a Go function, as one step of a region that draws. -/
theorem step_gog {P : Program} {ops : Array Oper} {o : Oper} {a : Act} {w : World} {K : Act → World → Prop} {Q : Exit → Act → World → Prop} {E : Prop} (hw : Region.wanted o (yielded ops a.tmps) = true) (f : FuncId) (xs : Array Operand) (ats : Array TypeId)
    (ho : o.op = .call { callee := .value (.func f), args := xs, argTypes := ats }) {R : Ending → World → Prop} (vals : Array Value) (hv : xs.map a.eval = vals) (hcall : (callFunc f (#[] ++ vals ++ #[])).run P w = .ok (.enter f vals) w) (hc : Calls P f vals w R) (h : ∀ e w', R e w' → ∃ v, e = .returned v ∧ K (a.put o.dst v) w') :
    if Region.wanted o (yielded ops a.tmps) = true then Oper.wp P o a w K Q else E := by
  rw [if_pos hw]
  subst hv
  unfold Oper.wp
  have hr : (execOp a.eval o).run P w = .ok (.enter f (xs.map a.eval)) w := by
    obtain ⟨dst, op, ty, pos, after, guard⟩ := o
    dsimp only at ho
    subst ho
    rw [execOp_call_go]
    exact hcall
  rw [hr, Oper.upon_enter]
  refine hc.mono fun e w' hR => ?_
  obtain ⟨v, rfl, hk⟩ := h e w' hR
  exact hk
/-- A load of a whole array, kept whole by the walk. -/
def loadArr (t : TypeId) (v : Value) : Sem Next := execOp (fun _ => v) ⟨none, .load t (.tmp 0), 0, "", #[], none⟩
theorem loadArr_T (a : Act) (dst x ty pos after guard) : execOp a.eval ⟨dst, .load 37 x, ty, pos, after, guard⟩ = loadArr 37 (a.eval x) := rfl
theorem loadArr_D (a : Act) (dst x ty pos after guard) : execOp a.eval ⟨dst, .load 64 x, ty, pos, after, guard⟩ = loadArr 64 (a.eval x) := rfl
theorem run_loadArr_T {w : World} {g : Nat} {L : List UInt8} (h : Blk w g 37 (L.map bc).toArray) (hL : L.length = 32) : (loadArr 37 (.pointer (some ⟨g, 0, none⟩))).run Try.prog w = .ok (.value (.agg (L.map bc).toArray)) w := by
  have h1 : (Try.prog.info? 37).map (·.size) = some 32 := by kernel_rfl
  unfold loadArr execOp
  simp only [Instr.loadAt, Instr.sureAddr, Sem.run_bind, Sem.run_pure, Result.andThen_ok, run_loadVar_row w g 37 37 (L.map bc).toArray (0, 0) _ h Try.underlying37 rfl (by rw [h1]; simp [hL])]
theorem run_loadArr_D {w : World} {g : Nat} {L : List UInt8} (h : Blk w g 64 (L.map bc).toArray) (hL : L.length = 32) : (loadArr 64 (.pointer (some ⟨g, 0, none⟩))).run Try.prog w = .ok (.value (.agg (L.map bc).toArray)) w := by
  have h1 : (Try.prog.info? 64).map (·.size) = some 32 := by kernel_rfl
  unfold loadArr execOp
  simp only [Instr.loadAt, Instr.sureAddr, Sem.run_bind, Sem.run_pure, Result.andThen_ok, run_loadVar_row w g 64 64 (L.map bc).toArray (0, 0) _ h Try.underlying64 rfl (by rw [h1]; simp [hL])]
attribute [local go_sem ↓] loadArr_T
theorem pm_some {α : Type} [DecidableEq α] {m : List (α × Nat)} {k : α} (h : (aget m k).isSome = true) : pm m k = m := if_pos h
set_option maxHeartbeats 2000000 in
theorem book_Check (w : World) (p bd bt : Nat) (D : List ((Nat × List UInt8) × Nat)) (T : List (((Int × Int) × List UInt8) × Nat)) (x y : Int) (v : Value) (l : List UInt8) (M : List UInt8) (h : BookAt w p bd bt D T) (hv : BytesV w v l) (hk : saidOk ((x, y), l)) (hM : M.length = 32) (hm : T.length < 4611686018427387904) (hpl : pl T ((x, y), l) < 9223372036854775808) (b : Bool) (hb : ((aget T ((x, y), l)).isSome && decide (M = numB 255 (pl T ((x, y), l)))) = b) :
    Calls Try.prog 69 #[.pointer (some ⟨p, 0, none⟩), .int .i64 x, .int .i64 y, v, arrB M] w fun e w' => e = .returned (.bool b) ∧ BookAt w' p bd bt D T ∧ Ext [bt] w w' := by
  have H := Lib.hid h; clear h
  have HV := Lib.hid hv; clear hv
  change Calls _ _ #[_, _, _, _, .agg (M.map bc).toArray] _ _
  have hx1 : Ext [] w (w.alloc (.cells (M.map bc).toArray 37)).drew := ((Ext.refl w).alloc _).drew
  have hb9 : Blk (w.alloc (.cells (M.map bc).toArray 37)).drew w.heap.size 37 (M.map bc).toArray := (Blk.new w 37 (M.map bc).toArray).drew
  have hcs := fun (W : World) => (by kernel_rfl : (callFunc 72 (#[] ++ #[.pointer (some ⟨p, 0, none⟩), .int .i64 x, .int .i64 y, v] ++ #[])).run Try.prog W = .ok (.enter 72 #[.pointer (some ⟨p, 0, none⟩), .int .i64 x, .int .i64 y, v]) W)
  have HX1 := Lib.hid hx1
  have HX0 := Lib.hid (Ext.new w (.cells (M.map bc).toArray 37))
  have HB9 := Lib.hid hb9
  have HCS := Lib.hid hcs
  clear hx1 hb9 hcs
  have HM := Lib.hid hM
  have HBT := Lib.hid H.out.mt.lt
  by_cases hs : (aget T ((x, y), l)).isSome = true
  · have hsaid := fun (W : World) (h : BookAt W p bd bt D T) (hv : BytesV W v l) => book_Said W p bd bt D T x y v l h hv hk true hs
    have htag := fun (W : World) (h : BookAt W p bd bt D T) (hv : BytesV W v l) => book_Tag W p bd bt D T x y v l h hv hk hm hpl
    rw [pm_some hs, numV_arr _ _ (by decide), arrB] at htag
    have heq : ∀ W : World, (binOp .eql 37 (.agg (M.map bc).toArray) (.agg ((numB 255 (pl T ((x, y), l))).map bc).toArray)).run Try.prog W = .ok (.bool b) W := fun W => eqlT M (numB 255 (pl T ((x, y), l))) hM (numB_length _ _) b (by rw [← hb, hs]; rfl) W
    have hct := fun (W : World) => (by kernel_rfl : (callFunc 71 (#[] ++ #[.pointer (some ⟨p, 0, none⟩), .int .i64 x, .int .i64 y, v] ++ #[])).run Try.prog W = .ok (.enter 71 #[.pointer (some ⟨p, 0, none⟩), .int .i64 x, .int .i64 y, v]) W)
    have HS := Lib.hid hsaid
    have HT := Lib.hid htag
    have HCT := Lib.hid hct
    clear hs hsaid htag hct hb hk
    go_enter Try.func69, Try.ntmps69
    go_wp2
    first | go_region_law (first
      | (refine step_go rfl 72 _ _ rfl #[.pointer (some ⟨p, 0, none⟩), .int .i64 x, .int .i64 y, v] (by simp [Act.eval, Act.put]) (HCS.out _) (HS.out _ (H.out.ext0 HX1.out) (HV.out.ext0 HX1.out)) ?_; rintro e w2 ⟨rfl, hx2⟩; have hld := run_loadArr_T (HB9.out.ext hx2 (by simp)) HM.out; refine ⟨_, rfl, ?_⟩)
      | (refine step_gog rfl 71 _ _ rfl #[.pointer (some ⟨p, 0, none⟩), .int .i64 x, .int .i64 y, v] (by simp [Act.eval, Act.put]) (HCT.out _) (HT.out _ ((H.out.ext0 HX1.out).ext0 hx2) ((HV.out.ext0 HX1.out).ext0 hx2)) ?_; rintro e w3 ⟨rfl, hbk3, hx3⟩; have hld3 := run_loadArr_T ((HB9.out.ext hx2 (by simp)).ext hx3 (by have := HBT.out; simp; omega)) HM.out; refine ⟨_, rfl, ?_⟩))
    all_goals
      have HX := Lib.hid ((((HX1.out.mono (G := [bt]) (by simp)).trans hx2 (by simp)).trans hx3 (by simp)))
      have HK := Lib.hid hbk3
      clear hx2 hx3 hbk3 hld hld3
      go_wp2
      go_ret
      exact ⟨rfl, HK.out, HX.out⟩
  · have hs' : (aget T ((x, y), l)).isSome = false := by simpa using hs
    have hsaid := fun (W : World) (h : BookAt W p bd bt D T) (hv : BytesV W v l) => book_Said W p bd bt D T x y v l h hv hk false hs'
    obtain rfl : false = b := by rw [← hb, hs']; rfl
    have HS := Lib.hid hsaid
    clear hs hs' hsaid hb
    go_enter Try.func69, Try.ntmps69
    go_wp2
    refine wp_region_later_lit (by kernel_rfl) (by kernel_rfl) ?_
    repeat (go_big_quiet_step ((go_at_call 72; exact Later.call (HS.out _ (H.out.ext0 (HX0.out.tr (Later.ext _))) (HV.out.ext0 (HX0.out.tr (Later.ext _)))))))
    refine wpQuiet_nil ?_
    rintro _ ⟨xq, rfl⟩
    have HX := Lib.hid (HX0.out.trans xq.ext (by simp))
    go_wp2
    go_ret
    exact ⟨rfl, H.out.ext0 HX.out, HX.out.mono (by simp)⟩
end Go.Proofs.Ytgfndlibbfamfaa
/-
  Layer 5: the statements' walks.
-/
set_option maxRecDepth 100000
namespace Go.Proofs.Ytgfndlibbfamfaa
open Go.RowKit

section
variable {P : Program} {ops : Array Oper} {rest : List Oper} {o : Oper} {a : Act} {w : World} {Q : Exit → Act → World → Prop}
/-- A guarded operation that is wanted, by its run. -/
theorem wpList_valueg (hw : Region.wanted o (yielded ops a.tmps) = true) (v : Value) (w' : World) (h : (execOp a.eval o).run P w = .ok (.value v) w') (k : wpList P ops Q rest (a.put o.dst v) w') : wpList P ops Q (o :: rest) a w :=
  wpList_step fun K hK => by
    rw [if_pos hw]
    unfold Oper.wp
    rw [h]
    exact hK _ _ k
theorem run_load_whole (ty : TypeId) (x : Operand) (ho : o.op = .load ty x) (g : Nat) (hx : a.eval x = .pointer (some ⟨g, 0, none⟩)) (t : TypeId) (cs : Array Value) (fr : Nat × Nat) (d : TypeDesc) (hg : w.heap[g]? = some (.cells cs t fr))
    (hu : P.underlying ty = some d) (hd : (match d with | .struct _ | .array _ _ => true | _ => false) = true) (hi : (P.info? ty).map (·.size) = some cs.size) : (execOp a.eval o).run P w = .ok (.value (.agg cs)) w := by
  unfold execOp
  simp only [ho, hx, Instr.loadAt, Instr.sureAddr, Sem.run_bind, Sem.run_pure, Result.andThen_ok, run_loadVar_row w g t ty cs fr d hg hu hd hi]
end
theorem bytes_blk {w : World} {g : Nat} {t : TypeId} {l : List UInt8} (h : Blk w g t (l.map bc).toArray) (hl : l.length ≤ maxLen) : BytesV w (.slice (some ⟨g, 0, none⟩) l.length l.length) l := by
  refine ⟨_, _, rfl, Nat.le_refl _, hl, by simp, fun _ => ⟨g, 0, rfl, fun j u hu => ?_⟩⟩
  rw [Nat.zero_add, Blk.cell h, List.getElem?_toArray]
  exact hu
theorem book_New' (w : World) : Calls Try.prog 6 #[] w fun e w' => ∃ p bd bt, e = .returned (.pointer (some ⟨p, 0, none⟩)) ∧ BookAt w' p bd bt [] [] ∧ Ext [] w w' ∧ w.heap.size ≤ p ∧ w.heap.size ≤ bd ∧ w.heap.size ≤ bt :=
  (book_New w).mono fun _ _ ⟨h1, h2, h3⟩ => ⟨_, _, _, h1, h2, h3, by omega, by omega, by omega⟩
def litA (w : World) : World := w.alloc (.cells #[.int .u8 97] 5 (1, 2))
theorem conv_lit {tmps : Operand → Value} {dst pos after guard ty} {w : World} {x : Operand} (hx : tmps x = .slice (some ⟨w.heap.size, 0, none⟩) 1 1) : (execOp tmps ⟨dst, .convert 22 22 x, ty, pos, after, guard⟩).run Try.prog (w.alloc (.cells #[.int .u8 97] 5)) = .ok (.value (.slice (some ⟨w.heap.size, 0, none⟩) 1 1)) (litA w) := by
  have := Lib.run_convert_bytes_const (P := Try.prog) w 22 5 #[.int .u8 97] 1 1 Try.underlying22 Try.underlying5
  simp only [execOp, hx, Sem.run_bind, this, Result.andThen_ok, Sem.run_pure]
  rfl
theorem litA_bytes (w : World) : BytesV (litA w) (.slice (some ⟨w.heap.size, 0, none⟩) 1 1) [97] := by
  refine ⟨_, 1, rfl, by simp, by decide, by simp, fun _ => ⟨w.heap.size, 0, rfl, fun j u hu => ?_⟩⟩
  rw [Nat.zero_add, cell_of_row (litA w) w.heap.size j #[.int .u8 97] 5 (1, 2) (heap_alloc_new w _)]
  simpa [bc] using hu
theorem litA_bytes' (w : World) (n : Nat) (hn : w.heap.size = n) : BytesV (litA w) (.slice (some ⟨n, 0, none⟩) 1 1) [97] := by subst hn; exact litA_bytes w
theorem litA_ext (w : World) : Ext [] w (litA w) := Ext.new w _
def fixD : List ((Nat × List UInt8) × Nat) := [((3, [97]), 1)]
def fixT : List (((Int × Int) × List UInt8) × Nat) := [(((1, 2), [97]), 1)]
theorem run_built {tmps : Operand → Value} {dst pos after guard ty} {w : World} (htm : tmps (.const (.int .u8 97)) = .int .u8 97) : (execOp tmps ⟨dst, .buildSlice 22 1 #[(0, .const (.int .u8 97))], ty, pos, after, guard⟩).run Try.prog w = .ok (.value (.slice (some ⟨w.heap.size, 0, none⟩) 1 1)) (w.alloc (.cells #[.int .u8 97] 5)) := by
  simp [execOp, htm]
  kernel_rfl
end Go.Proofs.Ytgfndlibbfamfaa
/-
  Layer 5, in plain Lean: whose number is the first one's.
-/
set_option maxRecDepth 100000
namespace Go.Proofs.Ytgfndlibbfamfaa
open Go.RowKit

section
variable {α : Type} [DecidableEq α] {m : List (α × Nat)} {k c : α}
/-- k has number 1, and no other key has it. -/
structure Inv1 (m : List (α × Nat)) (k : α) : Prop where
  one : aget m k = some 1
  only : ∀ c, aget m c = some 1 → c = k
  pos : 1 ≤ m.length
theorem Inv1.start (k : α) : Inv1 (pm [] k) k := by
  have h : pm [] k = [(k, 1)] := by simp [pm, aget, aput]
  rw [h]
  refine ⟨by simp [aget], fun c hc => ?_, by simp⟩
  unfold aget at hc
  by_cases hk : k = c
  · exact hk.symm
  · simp [hk] at hc
theorem Inv1.step (h : Inv1 m k) (c : α) : Inv1 (pm m c) k := by
  unfold pm
  split
  · exact h
  · rename_i hn
    have hck : ¬ k = c := by
      rintro rfl
      rw [h.one] at hn
      simp at hn
    refine ⟨?_, fun d hd => ?_, ?_⟩
    · rw [aget_aput, if_neg hck]; exact h.one
    · rw [aget_aput] at hd
      split at hd
      · have := h.pos
        have := Option.some.inj hd
        omega
      · exact h.only d hd
    · rw [aput_length, if_neg hn]; omega
theorem Inv1.pl (h : Inv1 m k) (c : α) : pl m c = 1 ↔ c = k := by
  unfold Proofs.Ytgfndlibbfamfaa.pl
  have hp := h.pos
  constructor
  · intro he
    cases hc : aget m c with
    | none => rw [hc] at he; change m.length + 1 = 1 at he; omega
    | some v =>
      rw [hc] at he
      simp at he
      subst he
      exact h.only c hc
  · rintro rfl
    rw [h.one]
    rfl
theorem pm_length (m : List (α × Nat)) (c : α) : (pm m c).length ≤ m.length + 1 := by
  unfold pm
  split
  · omega
  · rename_i hn; rw [aput_length, if_neg hn]; omega
end
theorem beBytes_inj (n : Nat) : ∀ v v', beBytes v n = beBytes v' n → v % 256 ^ n = v' % 256 ^ n := by
  induction n with
  | zero => intro v v' _; simp [Nat.mod_one]
  | succ n ih =>
    intro v v' h
    simp only [beBytes] at h
    have hl : (beBytes (v / 256) n).length = (beBytes (v' / 256) n).length := by rw [beBytes_length, beBytes_length]
    obtain ⟨h1, h2⟩ := List.append_inj h hl
    have h3 := ih _ _ h1
    have h4 : v % 256 = v' % 256 := by
      have := congrArg (List.map UInt8.toNat) h2
      simpa using this
    rw [Nat.pow_succ, Nat.mul_comm, Nat.mod_mul, Nat.mod_mul, h3, h4]
theorem numB_inj {f n f' n' : Nat} (hf : f < 256) (hf' : f' < 256) (hn : n < 18446744073709551616) (hn' : n' < 18446744073709551616) (h : numB f n = numB f' n') : f = f' ∧ n = n' := by
  unfold numB at h
  rw [List.cons.injEq] at h
  obtain ⟨h1, h2⟩ := h
  have h3 := List.append_cancel_left h2
  have h4 := beBytes_inj 8 _ _ h3
  rw [Nat.mod_eq_of_lt (by omega), Nat.mod_eq_of_lt (by omega)] at h4
  refine ⟨?_, h4⟩
  have := congrArg UInt8.toNat h1
  simp at this
  omega
end Go.Proofs.Ytgfndlibbfamfaa
/-
  From a walk that returns true and changes no old memory to the given statement, for any law without package variables.
-/
namespace Go.Proofs.Ytgfndlibbfamfaa
open Go.ChangeShapes Go.WideShapes Go.ChangeAt Go.RowKit

theorem law_own : ownKnob Try.prog.godebug = none := by kernel_rfl
theorem law_laidOut : laidOutB Try.prog = true := by kernel_rfl

theorem trodAll_below {H : Type} {enc : TypeId × Value → H} {W W' : World} (hb : Below W.heap.size W W') :
    ∀ (ts : List TypeId) (vs : List Value) (ds : List (DataW H)) (p : List MemPlace), (∀ t ∈ ts, Try.prog.readableRec t = true ∧ t < Try.prog.types.size) →
      DataW.TrodAll enc Try.prog W 0 (fun _ => true) true ts vs ds p → ∃ q, DataW.TrodAll enc Try.prog W' 0 (fun b => decide (b < W.heap.size)) true ts vs ds q
  | [], [], [], p, _, h => ⟨p, h⟩
  | t :: ts, v :: vs, d :: ds, p, hr, h => by
    obtain ⟨p0, q0, h0, h1, rfl⟩ := h
    obtain ⟨q, hq⟩ := trodAll_below hb ts vs ds q0 (fun t ht => hr t (List.mem_cons_of_mem _ ht)) h1
    have lt0 : ∀ x ∈ p0, x.block < W.heap.size := by obtain ⟨m, hm⟩ := h0; exact DataW.trod_lt m _ _ _ hm
    exact ⟨p0 ++ q, p0, q, Below.trod law_laidOut (hr t List.mem_cons_self).1 (hr t List.mem_cons_self).2 h0 hb lt0, hq, rfl⟩
  | [], _ :: _, _, _, _, h => h.elim
  | [], [], _ :: _, _, _, h => h.elim
  | _ :: _, [], _, _, _, h => h.elim
  | _ :: _, _ :: _, [], _, _, h => h.elim

set_option maxRecDepth 100000 in
theorem law_lift {H : Type} {enc : TypeId × Value → H} {os : Os} (started : os.Started) {f : FuncId} {fn : Func} {s : ChangeSpec}
    (noInit : Try.prog.inits.idxOf? f = none) (hfn : Try.prog.funcs[f]? = some fn) (hvars : s.vars = []) (hres : fn.resultTypes = #[4])
    (hparB : (fn.params.toList.all fun t => Try.prog.readableRec t && decide (t < Try.prog.types.size)) = true)
    (hspec : ∀ ds : List (DataW H), ds.length = fn.params.size → s.fn H (ds ++ []) = { results := [.lit (.bool true)], args := ds })
    (wit : ∃ (w : World) (tape : Tape) (i : Input), w.os = os ∧ (w.forCall tape i).Shaped Try.prog ∧ i.vars = [] ∧ Input.okWide Try.prog (w.forCall tape i) .any w.heap.size f i ∧
      s.pre6 enc Try.prog fn [] false (w.forCall tape i).memory i.args ∧ Assume.holds {} Try.prog (lone (Frame.enter Try.prog f i.args .normal) [] (w.forCall tape i)))
    (walk : ∀ (W : World) (base : Nat) (args : Array Value) (ds : List (DataW H)) (p : List MemPlace),
      (∀ (j : Nat) t v, fn.params[j]? = some t → args[j]? = some v → Value.okWide Try.prog W .any base t v) →
      DataW.TrodAll enc Try.prog W 0 (fun _ => true) true fn.params.toList args.toList ds p →
      (DataW.weightsEach Try.prog fn.params.toList ds).all (· ≤ reachBytes) = true →
      Calls Try.prog f args W fun e W' => e = .returned (.bool true) ∧ Ext [] W W') :
    ReturnsInHanded {} Try.checked os f .any (s.pre6 enc Try.prog fn [] false) (s.post enc Try.prog fn false true false false) := by
  have hpar : ∀ t ∈ fn.params.toList, Try.prog.readableRec t = true ∧ t < Try.prog.types.size := by
    simpa only [List.all_eq_true, Bool.and_eq_true, decide_eq_true_eq] using hparB
  refine returnsInHanded_of_change_sized (C := Try.checked) law_own started noInit hfn wit ?_
  intro W base args ds gs before hval0 hW hcnd hsz _
  have hval : ∀ (j : Nat) t v, fn.params[j]? = some t → args[j]? = some v → Value.okWide Try.prog W .any base t v := hval0
  have hW' := hW
  obtain ⟨p, q, hA0, hV, rfl, hfz, hnd⟩ := hW
  have hA : DataW.TrodAll enc Try.prog W 0 (fun _ => true) true fn.params.toList args.toList ds p := hA0
  rw [hvars] at hV
  obtain ⟨rfl, rfl⟩ := trodVars_none hV
  have hsz' : (DataW.weightsEach Try.prog fn.params.toList ds).all (· ≤ reachBytes) = true := by
    have h2 := hsz
    simp only [ChangeSpec.plain, DataSpec.varTypes, hvars, List.filterMap_nil, List.append_nil] at h2
    exact h2
  refine (walk W base args ds p hval hA hsz').mono fun e W' ⟨he, bel⟩ => ?_
  subst he
  have hlen : ds.length = fn.params.size := by
    have : ∀ (ts : List TypeId) (vs : List Value) (ds : List (DataW H)) (p : List MemPlace), DataW.TrodAll enc Try.prog W 0 (fun _ => true) true ts vs ds p → ds.length = ts.length := by
      intro ts
      induction ts with
      | nil => intro vs ds p h; cases vs <;> cases ds <;> first | rfl | exact h.elim
      | cons t ts ih =>
        intro vs ds p h
        cases vs with
        | nil => exact h.elim
        | cons v vs =>
          cases ds with
          | nil => exact h.elim
          | cons d ds => obtain ⟨p0, q0, _, h1, _⟩ := h; simp [ih vs ds q0 h1]
    simpa using this _ _ _ _ hA
  obtain ⟨pa, hpa⟩ := trodAll_below (enc := enc) bel.below fn.params.toList args.toList ds p hpar hA
  refine ⟨_, rfl, ds, [], p ++ [], [], pa, [], hW', ?_, ?_, ?_, bel.below.frame _, fun h => by cases h⟩
  · rw [hspec ds hlen, hres]
    exact trodAll_mk1 (shut_bool Try.underlying4 _)
  · rw [hspec ds hlen]; exact hpa
  · rw [hspec ds hlen, hvars]; rfl

theorem spot_none {w : World} {b o : Nat} {s : Option Nat} {v : Value} (h : w.cell? ⟨b, o, s⟩ = some v) : s = none := by
  have := World.cell?_spot h
  simpa using this

set_option maxRecDepth 100000 in
/-- A slice of integers that came in. -/
theorem open_row_ints {H : Type} {enc : TypeId × Value → H} {W : World} {base : Nat} {t e : TypeId} {k : IntKind} {v : Value} {d : DataW H} {p : List MemPlace}
    (ht : Try.prog.underlying t = some (.slice e)) (he : Try.prog.underlying e = some (.int k)) (hE : Try.prog.cellsOf e = 1)
    (hv : Value.okWide Try.prog W .any base t v) (h : DataW.Trod enc Try.prog W 0 (fun _ => true) true t v d p) :
    ∃ (A : Option Addr) (n c : Nat) (zs : List Int), v = .slice A n c ∧ zs.length = n ∧ n ≤ c ∧ c ≤ maxLen ∧ Row W A (zs.map (Value.int k)) ∧ ∀ z ∈ zs, (Lit.int k z).wf = true := by
  obtain ⟨A, n, c, rfl⟩ := okWide_slice ht hv
  obtain ⟨fuel, hf⟩ := h
  rcases open_ints ht he hE hf with ⟨hcs, _⟩ | ⟨x, l, c', zs, hcs, _, hl, hm, hz, _, hcell, hwz⟩
  · simp [Value.cells] at hcs
    obtain ⟨rfl, rfl, rfl⟩ := hcs
    exact ⟨none, 0, 0, [], rfl, rfl, Nat.le_refl _, Nat.zero_le _, Row.nil_ _ _, by simp⟩
  · simp [Value.cells] at hcs
    obtain ⟨rfl, rfl, rfl⟩ := hcs
    have hz' : zs.length = c := by simpa using hz
    refine ⟨some x, n, c, zs.take n, rfl, by simp; omega, hl, hm, ?_, fun z hz0 => hwz z (List.mem_of_mem_take hz0)⟩
    intro hn
    have hn0 : 0 < zs.length := by
      rcases zs with _ | ⟨z, zs⟩
      · simp at hn
      · simp
    obtain ⟨b, off, spot⟩ := x
    have h0 := hcell 0 hn0
    have hs : spot = none := by
      have : (⟨b, off, spot⟩ : Addr).add 0 = ⟨b, off, spot⟩ := by simp [Addr.add]
      rw [this] at h0
      exact spot_none h0
    subst hs
    refine ⟨b, off, rfl, fun j u hu => ?_⟩
    rw [List.getElem?_map, List.getElem?_take] at hu
    split at hu
    · rename_i hj
      have hjl : j < zs.length := by
        rcases Nat.lt_or_ge j zs.length with h1 | h1
        · exact h1
        · rw [List.getElem?_eq_none h1] at hu; simp at hu
      have hcj := hcell j hjl
      have e1 : (⟨b, off, none⟩ : Addr).add j = ⟨b, off + j, none⟩ := by
        unfold Addr.add
        split
        · rename_i h0; subst h0; rfl
        · rfl
      rw [e1] at hcj
      rw [hcj, ← hu]
      simp [hjl]
    · simp at hu
end Go.Proofs.Ytgfndlibbfamfaa
/-
  Arguments opened down to their cells: a struct, however deep, is its cells, each read by its own type.
-/
set_option maxRecDepth 100000
namespace Go.Proofs.Ytgfndlibbfamfaa
open Go.RowKit Go.ChangeShapes Go.WideShapes Go.ChangeAt

/-- The types of a type's cells, in order. -/
def leaves (P : Program) : Nat → TypeId → Option (List TypeId)
  | 0, _ => none
  | d + 1, t =>
    match P.underlying t with
    | some (.struct fs) => fs.toList.foldlM (fun acc f => (leaves P d f.type).bind fun l => if f.offset = acc.length ∧ l.length = P.cellsOf f.type then some (acc ++ l) else none) []
    | some (.array n e) => (leaves P d e).bind fun l => if l.length = P.cellsOf e then some (List.replicate n l).flatten else none
    | some _ => some [t]
    | none => none

section
variable {H : Type} {enc : TypeId × Value → H} {P : Program} {w : World} {base : Nat} {spare : Nat → Bool} {held : Bool}

/-- Cell j reads by its own type. -/
def LeafAt (enc : TypeId × Value → H) (P : Program) (w : World) (base : Nat) (spare : Nat → Bool) (held : Bool) (u : TypeId) (v : Value) : Prop := ∃ n y, DataW.trod enc P w base spare held n u [v] = some y

theorem leaves_fields {d : Nat} {cs : List Value} {n : Nat}
    (ih : ∀ (t : TypeId) (ts : List TypeId) (fuel : Nat) (cs : List Value) (x : DataW H × List MemPlace), leaves P d t = some ts → ts.length = cs.length → DataW.trod enc P w base spare held fuel t cs = some x →
      ∀ (j : Nat) (v : Value) (u : TypeId), cs[j]? = some v → ts[j]? = some u → LeafAt enc P w base spare held u v) :
    ∀ (fs : List Field) (acc ts : List TypeId), (∀ f ∈ fs, ∃ y, DataW.trod enc P w base spare held n f.type ((cs.drop f.offset).take (P.cellsOf f.type)) = some y) →
      fs.foldlM (fun acc f => (leaves P d f.type).bind fun l => if f.offset = acc.length ∧ l.length = P.cellsOf f.type then some (acc ++ l) else none) acc = some ts →
      ts.length ≤ cs.length →
      (∀ (j : Nat) (v : Value) (u : TypeId), cs[j]? = some v → acc[j]? = some u → LeafAt enc P w base spare held u v) →
      (∀ (j : Nat) (v : Value) (u : TypeId), cs[j]? = some v → ts[j]? = some u → LeafAt enc P w base spare held u v) := by
  intro fs
  induction fs with
  | nil =>
    intro acc ts _ h _ ha
    simp at h
    subst h
    exact ha
  | cons f fs hfs =>
    intro acc ts hall h hlen ha
    simp only [List.foldlM_cons, Option.bind_eq_bind, Option.bind_eq_some_iff] at h
    obtain ⟨acc', ⟨l, hl, hif⟩, hrest⟩ := h
    split at hif
    · rename_i hc
      obtain ⟨ho, hlc⟩ := hc
      simp only [Option.some.injEq] at hif
      subst hif
      have hmono : ∀ (fs : List Field) (a b : List TypeId), fs.foldlM (fun acc f => (leaves P d f.type).bind fun l => if f.offset = acc.length ∧ l.length = P.cellsOf f.type then some (acc ++ l) else none) a = some b → a.length ≤ b.length := by
        intro fs
        induction fs with
        | nil => intro a b h; simp at h; subst h; exact Nat.le_refl _
        | cons f fs ih2 =>
          intro a b h
          simp only [List.foldlM_cons, Option.bind_eq_bind, Option.bind_eq_some_iff] at h
          obtain ⟨a', ⟨l, _, hif⟩, hr⟩ := h
          split at hif
          · simp only [Option.some.injEq] at hif
            subst hif
            have := ih2 _ _ hr
            simp at this
            omega
          · cases hif
      have hacc := hmono _ _ _ hrest
      refine hfs (acc ++ l) ts (fun g hg => hall g (List.mem_cons_of_mem _ hg)) hrest hlen ?_
      intro j v u hv hu
      rw [List.getElem?_append] at hu
      split at hu
      · exact ha j v u hv hu
      · rename_i hj
        obtain ⟨y, hy⟩ := hall f List.mem_cons_self
        rw [List.length_append] at hacc
        refine ih f.type l n _ y hl ?_ hy (j - acc.length) v u ?_ hu
        · rw [List.length_take, List.length_drop]; omega
        · have hjl : j - acc.length < l.length := (List.getElem?_eq_some_iff.1 hu).1
          rw [List.getElem?_take, if_pos (by omega), List.getElem?_drop, ho, show acc.length + (j - acc.length) = j by omega]
          exact hv
    · cases hif

theorem leaves_trod : ∀ (d : Nat) (t : TypeId) (ts : List TypeId) (fuel : Nat) (cs : List Value) (x : DataW H × List MemPlace), leaves P d t = some ts → ts.length = cs.length → DataW.trod enc P w base spare held fuel t cs = some x →
    ∀ (j : Nat) (v : Value) (u : TypeId), cs[j]? = some v → ts[j]? = some u → LeafAt enc P w base spare held u v := by
  intro d
  induction d with
  | zero => intro t ts fuel cs x h; simp [leaves] at h
  | succ d ih =>
    intro t ts fuel cs x h hlen ht
    unfold leaves at h
    split at h
    · rename_i fs hu
      obtain ⟨xs, n, _, _, hcl, hxl, hf⟩ := DataW.trod_struct hu ht
      refine leaves_fields (n := n) ih fs.toList [] ts ?_ h (by omega) (by simp)
      intro f hfm
      obtain ⟨i, hi, he⟩ := List.getElem_of_mem hfm
      have h1 := hf i f (by rw [← Array.getElem?_toList, List.getElem?_eq_getElem hi, he])
      have : i < xs.length := by rw [hxl]; simpa using hi
      exact ⟨xs[i], by rw [h1, List.getElem?_eq_getElem this]⟩
    · rename_i m e hu
      obtain ⟨xs, n, _, _, hcl, hxl, hf⟩ := DataW.trod_array hu ht
      simp only [Option.bind_eq_some_iff] at h
      obtain ⟨l, hl, hif⟩ := h
      split at hif
      · rename_i hc
        simp only [Option.some.injEq] at hif
        subst hif
        intro j v u hv hu'
        have hjl : j < (List.replicate m l).flatten.length := (List.getElem?_eq_some_iff.1 hu').1
        have hfl : ∀ k, (List.replicate k l).flatten.length = k * l.length := by
          intro k; simp
        rw [hfl] at hjl
        have hl0 : 0 < l.length := by
          rcases Nat.eq_zero_or_pos l.length with h0 | h0
          · rw [h0] at hjl; simp at hjl
          · exact h0
        have hi : j / l.length < m := by rw [Nat.div_lt_iff_lt_mul hl0]; exact hjl
        have hmod := Nat.mod_lt j hl0
        have hjd := Nat.div_add_mod j l.length
        have hget : ∀ (k j : Nat), j < k * l.length → (List.replicate k l).flatten[j]? = l[j % l.length]? := by
          intro k
          induction k with
          | zero => intro j hj; simp at hj
          | succ k ihk =>
            intro j hj
            rw [List.replicate_succ, List.flatten_cons, List.getElem?_append]
            split
            · rename_i h1; rw [Nat.mod_eq_of_lt h1]
            · rename_i h1
              rw [ihk (j - l.length) (by rw [Nat.succ_mul] at hj; omega)]
              rw [← Nat.mod_eq_sub_mod (show l.length ≤ j by omega)]
        rw [hget m j hjl] at hu'
        have h1 := hf (j / l.length) hi
        have hxi : j / l.length < xs.length := by omega
        rw [List.getElem?_eq_getElem hxi] at h1
        have hsz : (j / l.length) * P.cellsOf e + P.cellsOf e ≤ cs.length := by
          rw [← hlen, hfl, ← hc]
          calc (j / l.length) * l.length + l.length = (j / l.length + 1) * l.length := by rw [Nat.succ_mul]
            _ ≤ m * l.length := Nat.mul_le_mul_right _ hi
        refine ih e l n _ _ hl ?_ h1 (j % l.length) v u ?_ hu'
        · rw [List.length_take, List.length_drop]; omega
        · rw [List.getElem?_take, if_pos (by omega), List.getElem?_drop, ← hc, ← hv]
          congr 1
          rw [Nat.mul_comm]; exact hjd
      · cases hif
    · rename_i hu1 hu2 hs
      simp only [Option.some.injEq] at h
      subst h
      intro j v u hv hu'
      have hc1 : cs.length = 1 := by simpa using hlen.symm
      match cs, hc1 with
      | [c], _ =>
        match j with
        | 0 =>
          simp at hv hu'
          subst hv; subst hu'
          exact ⟨fuel, x, ht⟩
        | j + 1 => simp at hv
    · cases h
theorem LeafAt.int {u : TypeId} {v : Value} {k : IntKind} (h : LeafAt enc P w base spare held u v) (hu : P.underlying u = some (.int k)) : ∃ n, v = .int k n ∧ (Lit.int k n).wf = true := by
  obtain ⟨n, y, hy⟩ := h
  obtain ⟨m, h1, _, h2⟩ := DataW.trod_int hu hy
  simp at h1
  exact ⟨m, h1, h2⟩
theorem LeafAt.string {u : TypeId} {v : Value} (h : LeafAt enc P w base spare held u v) (hu : P.underlying u = some .string) : ∃ s, v = .string s ∧ s.size ≤ maxLen := by
  obtain ⟨n, y, hy⟩ := h
  obtain ⟨m, h1, _, h2⟩ := DataW.trod_string hu hy
  simp at h1
  exact ⟨m, h1, h2⟩
theorem LeafAt.bool {u : TypeId} {v : Value} (h : LeafAt enc P w base spare held u v) (hu : P.underlying u = some .bool) : ∃ b, v = .bool b := by
  obtain ⟨n, y, hy⟩ := h
  obtain ⟨m, h1, _⟩ := DataW.trod_bool hu hy
  simp at h1
  exact ⟨m, h1⟩

theorem flatten_get {α : Type} {sz : Nat} (h0 : 0 < sz) : ∀ (xs : List (List α)), (∀ x ∈ xs, x.length = sz) → ∀ j, xs.flatten[j]? = (xs[j / sz]?).bind fun x => x[j % sz]? := by
  intro xs
  induction xs with
  | nil => intro _ j; simp
  | cons x xs ih =>
    intro hx j
    have hxl := hx x List.mem_cons_self
    rw [List.flatten_cons, List.getElem?_append]
    split
    · rename_i h1
      rw [Nat.div_eq_of_lt (by omega), Nat.mod_eq_of_lt (by omega)]
      simp
    · rename_i h1
      rw [ih (fun y hy => hx y (List.mem_cons_of_mem _ hy)), hxl]
      have h2 : j / sz = (j - sz) / sz + 1 := by
        rw [Nat.div_eq_sub_div h0 (by omega)]
      rw [h2, List.getElem?_cons_succ, ← Nat.mod_eq_sub_mod (show sz ≤ j by omega)]
theorem flatten_length {α : Type} {sz : Nat} : ∀ (xs : List (List α)), (∀ x ∈ xs, x.length = sz) → xs.flatten.length = xs.length * sz := by
  intro xs
  induction xs with
  | nil => intro _; simp
  | cons x xs ih =>
    intro hx
    rw [List.flatten_cons, List.length_append, ih (fun y hy => hx y (List.mem_cons_of_mem _ hy)), hx x List.mem_cons_self, List.length_cons, Nat.succ_mul, Nat.add_comm]
theorem add_eq (b off : Nat) (j : Nat) : (⟨b, off, none⟩ : Addr).add j = ⟨b, off + j, none⟩ := by
  unfold Addr.add
  split
  · rename_i h0; subst h0; rfl
  · rfl

/-- A slice that came in: its row, element by element: each element's cells read by the element's type. -/
theorem open_row {t e : TypeId} {fuel : Nat} {A : Option Addr} {n c : Nat} {x : DataW H × List MemPlace} (ht : P.underlying t = some (.slice e)) (h : DataW.trod enc P w base spare held fuel t [.slice A n c] = some x) :
    n ≤ c ∧ c ≤ maxLen ∧ ∃ xs : List (List Value), xs.length = n ∧ (∀ cs ∈ xs, cs.length = P.cellsOf e ∧ ∃ m y, DataW.trod enc P w base spare held m e cs = some y) ∧ (xs.flatten ≠ [] → ∃ b off : Nat, A = some ⟨b, off, none⟩ ∧ ∀ j u, xs.flatten[j]? = some u → w.cell? ⟨b, off + j, none⟩ = some u) := by
  rcases Deep.open_slice ht h with ⟨hcs, _⟩ | ⟨a, len, cap, m, n', D, Pl, hcs, _, hl, hm, hmm, _, hi⟩
  · simp at hcs
    obtain ⟨rfl, rfl, rfl⟩ := hcs
    exact ⟨Nat.le_refl _, Nat.zero_le _, [], rfl, by simp, by simp⟩
  · simp at hcs
    obtain ⟨rfl, rfl, rfl⟩ := hcs
    have hnm : n ≤ m := by rw [hmm]; split <;> omega
    refine ⟨hl, hm, (List.range n).map fun i => ((w.cells? base (a.add (i * P.cellsOf e)) (P.cellsOf e)).getD []), by simp, ?_, ?_⟩
    · intro cs hcs
      simp only [List.mem_map, List.mem_range] at hcs
      obtain ⟨i, hin, rfl⟩ := hcs
      obtain ⟨cs', h1, h2⟩ := hi i (by omega)
      rw [h1]
      exact ⟨(World.cells?_some h1).2.1, n', _, h2⟩
    · intro hne
      have hall : ∀ y ∈ (List.range n).map (fun i => ((w.cells? base (a.add (i * P.cellsOf e)) (P.cellsOf e)).getD [])), y.length = P.cellsOf e := by
        intro y hy
        simp only [List.mem_map, List.mem_range] at hy
        obtain ⟨i, hin, rfl⟩ := hy
        obtain ⟨cs', h1, _⟩ := hi i (by omega)
        rw [h1]
        exact (World.cells?_some h1).2.1
      have hlen0 := flatten_length _ hall
      have hpos : 0 < n * P.cellsOf e := by
        rcases Nat.eq_zero_or_pos (n * P.cellsOf e) with h0 | h0
        · exfalso
          apply hne
          apply List.eq_nil_of_length_eq_zero
          rw [hlen0]
          simpa using h0
        · exact h0
      have hsz : 0 < P.cellsOf e := Nat.pos_of_mul_pos_left hpos
      have hn0 : 0 < n := Nat.pos_of_mul_pos_right hpos
      obtain ⟨b, off, spot⟩ := a
      have hs : spot = none := by
        obtain ⟨cs', h1, _⟩ := hi 0 (by omega)
        obtain ⟨_, hl1, hc1⟩ := World.cells?_some h1
        have h2 := hc1 0 hsz
        have h3 : ((⟨b, off, spot⟩ : Addr).add (0 * P.cellsOf e)).add 0 = ⟨b, off, spot⟩ := by simp [Addr.add]
        rw [h3, List.getElem?_eq_getElem (by omega)] at h2
        exact spot_none h2
      subst hs
      refine ⟨b, off, rfl, fun j u hu => ?_⟩
      rw [flatten_get hsz _ hall] at hu
      simp only [Option.bind_eq_some_iff, List.getElem?_map, Option.map_eq_some_iff] at hu
      obtain ⟨y, ⟨i, hir, rfl⟩, hy⟩ := hu
      have hrl := List.getElem?_eq_some_iff.1 hir
      obtain ⟨hir1, hir2⟩ := hrl
      simp at hir1 hir2
      subst hir2
      obtain ⟨cs', h1, _⟩ := hi (j / P.cellsOf e) (by omega)
      rw [h1] at hy
      simp only [Option.getD_some] at hy
      obtain ⟨_, hl1, hc1⟩ := World.cells?_some h1
      have h2 := hc1 (j % P.cellsOf e) (Nat.mod_lt _ hsz)
      rw [add_eq, add_eq, hy] at h2
      have hjd := Nat.div_add_mod j (P.cellsOf e)
      rw [show off + j = off + j / P.cellsOf e * P.cellsOf e + j % P.cellsOf e by rw [Nat.mul_comm (j / P.cellsOf e)]; omega]
      exact h2
/-- The same, the elements decoded. -/
theorem open_rowOf {α : Type} {cells : α → List Value} {Ok : α → Prop} {t e : TypeId} {fuel : Nat} {A : Option Addr} {n c : Nat} {x : DataW H × List MemPlace} (ht : P.underlying t = some (.slice e)) (h : DataW.trod enc P w base spare held fuel t [.slice A n c] = some x)
    (hdec : ∀ cs, cs.length = P.cellsOf e → (∃ m y, DataW.trod enc P w base spare held m e cs = some y) → ∃ a, cs = cells a ∧ Ok a) :
    n ≤ c ∧ c ≤ maxLen ∧ ∃ xs : List α, xs.length = n ∧ Row w A (xs.flatMap cells) ∧ ∀ a ∈ xs, Ok a := by
  obtain ⟨h1, h2, ys, hl, hall, hrow⟩ := open_row ht h
  have hd : ∀ (ys : List (List Value)), (∀ cs ∈ ys, cs.length = P.cellsOf e ∧ ∃ m y, DataW.trod enc P w base spare held m e cs = some y) → ∃ xs : List α, xs.length = ys.length ∧ ys = xs.map cells ∧ ∀ a ∈ xs, Ok a := by
    intro ys
    induction ys with
    | nil => intro _; exact ⟨[], rfl, rfl, by simp⟩
    | cons cs ys ih =>
      intro hy
      obtain ⟨a, ha, hok⟩ := hdec cs (hy cs List.mem_cons_self).1 (hy cs List.mem_cons_self).2
      obtain ⟨xs, hxl, hxe, hxo⟩ := ih (fun c hc => hy c (List.mem_cons_of_mem _ hc))
      exact ⟨a :: xs, by simp [hxl], by simp [ha, hxe], by simpa using ⟨hok, hxo⟩⟩
  obtain ⟨xs, hxl, hxe, hxo⟩ := hd ys hall
  refine ⟨h1, h2, xs, by omega, ?_, hxo⟩
  intro hne
  have hf : ys.flatten = xs.flatMap cells := by rw [hxe, List.flatMap]
  rw [← hf] at hne
  obtain ⟨b, off, hA, hc⟩ := hrow hne
  exact ⟨b, off, hA, fun j u hu => hc j u (by rw [hf]; exact hu)⟩
end
end Go.Proofs.Ytgfndlibbfamfaa
/-
  Rows of bytes that come in as arguments.
-/
set_option maxRecDepth 100000
namespace Go.Proofs.Ytgfndlibbfamfaa
open Go.RowKit Go.ChangeShapes Go.WideShapes Go.ChangeAt

section
variable {H : Type} {enc : TypeId × Value → H} {w : World} {base : Nat} {spare : Nat → Bool} {held : Bool}
theorem open_byte (cs : List Value) (hl : cs.length = Try.prog.cellsOf 5) (h : ∃ m y, DataW.trod enc Try.prog w base spare held m 5 cs = some y) : ∃ c : UInt8, cs = [bc c] ∧ True := by
  obtain ⟨fuel, x, h⟩ := h
  rw [show Try.prog.cellsOf 5 = 1 by kernel_rfl] at hl
  have hlv : leaves Try.prog 4 5 = some [5] := by kernel_rfl
  have hh := leaves_trod 4 _ _ _ _ _ hlv (by simpa using hl.symm) h
  match cs, hl with
  | [v0], _ =>
    obtain ⟨n, rfl, b⟩ := (hh 0 v0 _ rfl rfl).int Try.underlying5
    simp only [Lit.wf, Bool.and_eq_true, decide_eq_true_eq] at b
    have b0 : (0 : Int) ≤ n := b.1
    have b1 : n ≤ (255 : Int) := b.2
    refine ⟨UInt8.ofNat n.toNat, ?_, trivial⟩
    have : ((UInt8.ofNat n.toNat).toNat : Int) = n := by simp; omega
    simp [bc]
    omega
theorem open_bytes {fuel : Nat} {A : Option Addr} {n c : Nat} {x : DataW H × List MemPlace} (h : DataW.trod enc Try.prog w base spare held fuel 22 [.slice A n c] = some x) : ∃ l : List UInt8, l.length = n ∧ n ≤ c ∧ c ≤ maxLen ∧ Row w A (l.map bc) := by
  obtain ⟨h1, h2, xs, h3, h4, _⟩ := open_rowOf (cells := fun c : UInt8 => [bc c]) (Ok := fun _ => True) Try.underlying22 h (fun cs hl hh => open_byte cs hl hh)
  refine ⟨xs, h3, h1, h2, ?_⟩
  have : xs.flatMap (fun c : UInt8 => [bc c]) = xs.map bc := by
    clear h3 h4
    induction xs with
    | nil => rfl
    | cons a xs ih => simp [ih]
  rw [← this]
  exact h4
theorem open_none {t e : TypeId} {fuel : Nat} {A : Option Addr} {n c : Nat} {x : DataW H × List MemPlace} (ht : Try.prog.underlying t = some (.slice e)) (h : DataW.trod enc Try.prog w base spare held fuel t [.slice A n c] = some x) : A = none → c = 0 := by
  intro hA
  rcases Deep.open_slice ht h with ⟨hcs, _⟩ | ⟨a, len, cap, m, n', D, Pl, hcs, _⟩
  · simp at hcs
    exact hcs.2.2
  · simp at hcs
    rw [hA] at hcs
    simp at hcs
theorem open_bytesV {fuel : Nat} {A : Option Addr} {n c : Nat} {x : DataW H × List MemPlace} (h : DataW.trod enc Try.prog w base spare held fuel 22 [.slice A n c] = some x) : ∃ l : List UInt8, BytesV w (.slice A n c) l := by
  obtain ⟨l, rfl, h1, h2, h3⟩ := open_bytes h
  exact ⟨l, A, c, rfl, h1, h2, open_none Try.underlying22 h, h3⟩
theorem open_oneBytes (cs : List Value) (h : ∃ m y, DataW.trod enc Try.prog w base spare held m 22 cs = some y) : ∃ a : Value × List UInt8, cs = [a.1] ∧ BytesV w a.1 a.2 := by
  obtain ⟨fuel, x, h⟩ := h
  rcases Deep.open_slice Try.underlying22 h with ⟨hcs, _⟩ | ⟨a, len, cap, m, n', D, Pl, hcs, _⟩
  · subst hcs
    obtain ⟨l, hl⟩ := open_bytesV h
    exact ⟨(_, l), rfl, hl⟩
  · subst hcs
    obtain ⟨l, hl⟩ := open_bytesV h
    exact ⟨(_, l), rfl, hl⟩
end
end Go.Proofs.Ytgfndlibbfamfaa
/-
  Arguments that are rows of structs as trees: opened down to their cells; from a walk to the statement.
-/
set_option maxRecDepth 100000
set_option linter.unusedSimpArgs false
set_option linter.unusedVariables false
namespace Go.Proofs.Ytgfndlibbfamfaa.A
open Go.RowKit Go.ChangeShapes Go.WideShapes Go.ChangeAt

section
variable {H : Type} {enc : TypeId × Value → H} {w : World} {base : Nat} {spare : Nat → Bool} {held : Bool}
theorem wfIn {a : Int} (h : (Lit.int .i64 a).wf = true) : InR .i64 a := by
  have := bounds_i64 h
  simp only [InR, lo, hi]
  omega
theorem open_rows {α : Type} {abs : α → List Abs} {Ok : α → Prop} {s : Nat} : ∀ {ys : List (List Value)}, (∀ cs ∈ ys, cs.length = s ∧ ∃ a, reps [] w (abs a) cs ∧ Ok a) → ∃ xs : List α, repss [] w s (xs.map abs) ys.flatten ∧ xs.length = ys.length ∧ ∀ a ∈ xs, Ok a
  | [], _ => ⟨[], rfl, rfl, by simp⟩
  | cs :: ys, h => by
    obtain ⟨h1, a, h2, h3⟩ := h cs List.mem_cons_self
    obtain ⟨xs, h4, h5, h6⟩ := open_rows (ys := ys) fun c hc => h c (List.mem_cons_of_mem _ hc)
    exact ⟨a :: xs, ⟨cs, _, rfl, h1, h2, h4⟩, by simp [h5], by simpa using ⟨h3, h6⟩⟩
/-- A slice that came in, as a tree. -/
theorem open_slA {α : Type} {abs : α → List Abs} {Ok : α → Prop} {t e : TypeId} {s : Nat} {v : Value} (ht : Try.prog.underlying t = some (.slice e)) (hs : Try.prog.cellsOf e = s) (h : LeafAt enc Try.prog w base spare held t v)
    (hdec : ∀ cs, cs.length = Try.prog.cellsOf e → (∃ m y, DataW.trod enc Try.prog w base spare held m e cs = some y) → ∃ a, reps [] w (abs a) cs ∧ Ok a) :
    ∃ xs : List α, rep [] w (.sl s (xs.map abs)) v ∧ ∀ a ∈ xs, Ok a := by
  obtain ⟨fuel, x, h⟩ := h
  obtain ⟨A, n, c, rfl⟩ : ∃ A n c, v = .slice A n c := by
    rcases Deep.open_slice ht h with ⟨hcs, _⟩ | ⟨a, len, cap, m, n', D, Pl, hcs, _⟩
    · simp at hcs; exact ⟨_, _, _, hcs⟩
    · simp at hcs; exact ⟨_, _, _, hcs⟩
  obtain ⟨h1, h2, ys, h3, h4, h5⟩ := open_row ht h
  obtain ⟨xs, h6, h7, h8⟩ := open_rows (abs := abs) (Ok := Ok) (s := s) (w := w) (ys := ys) fun cs hc => ⟨by rw [← hs]; exact (h4 cs hc).1, hdec cs (h4 cs hc).1 (h4 cs hc).2⟩
  refine ⟨xs, ⟨ys.flatten, ⟨⟨A, c, ?_, ?_, h2, open_none ht h⟩, fun hn => ?_⟩, h6⟩, h8⟩
  · rw [List.length_map, h7, h3]
  · rw [List.length_map, h7, h3]; exact h1
  · obtain ⟨b, off, rfl, hc⟩ := h5 hn
    exact ⟨b, off, _, _, rfl, by simp, hc⟩
theorem open_u8 : ∀ {cs : List Value}, (∀ v ∈ cs, LeafAt enc Try.prog w base spare held 5 v) → ∃ d : List UInt8, cs = d.map bc
  | [], _ => ⟨[], rfl⟩
  | v :: cs, h => by
    obtain ⟨d, rfl⟩ := open_u8 (cs := cs) fun x hx => h x (List.mem_cons_of_mem _ hx)
    obtain ⟨m, y, hy⟩ := h v List.mem_cons_self
    obtain ⟨c, hc, _⟩ := open_byte [v] (by rw [show Try.prog.cellsOf 5 = 1 by kernel_rfl]; rfl) ⟨m, y, hy⟩
    simp at hc
    exact ⟨c :: d, by rw [hc]; rfl⟩
theorem reps_dig {K : List Nat} (d : List UInt8) : reps K w (digA d) (d.map bc) := by
  have : digA d = (d.map bc).map .v := by simp [digA]
  rw [this]
  exact reps_plain.2 rfl
end
theorem _root_.Go.Proofs.Ytgfndlibbfamfaa.IsRow.bytesA {K : List Nat} {w : World} {v : Value} {m : List UInt8} (h : IsRow K w v m.length (m.map bc)) : BytesV w v m := by
  obtain ⟨A, c, rfl, h1, h2, h3⟩ := h.shape
  refine ⟨A, c, rfl, h1, h2, h3, fun hn => ?_⟩
  obtain ⟨b, off, n', c', hv, _, hc⟩ := h.cells hn
  simp at hv
  obtain ⟨rfl, _, _⟩ := hv
  exact ⟨b, off, rfl, hc⟩
/-- A row of bytes as a text. -/
theorem Val.strOf {n : Nat} {W : Wd} {σ : Blks} {l : Slots} {X : List Nat} {x : Operand} {d : Option Nat} {ty : TypeId} {pos : String} {aft : Array Edge} {gq : Option (Nat × Bool)} {m : List UInt8} (hx : look l x = some (byt m)) : Val Try.prog n W σ l X ⟨d, .convert 22 9 x, ty, pos, aft, gq⟩ (.v (.string ⟨m.toArray⟩)) := fun a w hs hX => ⟨_, rfl, fun w' hw' => by
  have h1 := rep_byt.1 (hs.eval hx)
  have h2 := (Carry.of_ext hw' (K := mids σ ++ W.G) (K' := mids σ ++ W.G) (fun k hk => .inl (List.mem_append_left _ (hX k hk))) (fun k hk => .inl hk)).row h1
  have := conv_txtE h2.bytesA
  simp [execOp, this, Result.andThen]⟩
/-- A law's walk, as a call in a world. -/
theorem law_of {f : FuncId} {args : List Abs} (h : Pure Try.prog f args (boo true)) {w : World} {vals : List Value} (hv : reps [] w args vals) : Calls Try.prog f vals.toArray w fun e w' => e = .returned (.bool true) ∧ Ext [] w w' := by
  have hm : Mem w (mids []) [] [] w := ⟨Ext.refl w, by simp [mids], by simp, by simp, by simp, by simp [mids], by simp⟩
  refine (h [] w vals hm hv).mono fun e w' ⟨z, r, he, _, h1, h2⟩ => ⟨?_, h1.ext⟩
  have h2 : r = .bool true := h2
  rw [he, h2]
end Go.Proofs.Ytgfndlibbfamfaa.A
/-
  The second engine: calls of methods through interfaces.
-/
set_option maxRecDepth 100000
set_option linter.unusedSimpArgs false
set_option linter.unusedVariables false
namespace Go.Proofs.Ytgfndlibbfamfaa.A
open Go.RowKit

/-- A call of a method through an interface, in a region that draws. -/
theorem SX.invokeR {P : Program} {n : Nat} {W : Wd} {ops : Array Oper} {l : Slots} {σ : Blks} {X : List Nat} {Q : Exit → Act → World → Prop} {ix : Plan} {f : FuncId} {args args' : List Abs} {σ1 : Blks} {ι : Type} {τ' : ι → Blks} {res : ι → Abs} {xs : List Operand} {ats : Array TypeId} {d : Option Nat} {ty : TypeId} {pos : String} {aft : Array Edge} {g : Option (Nat × Bool)} {i : Nat} {x : Operand} {m : String} {t : TypeId} {y : Abs}
    (hi : ops[i]? = some ⟨d, .call { callee := .invoke x m, args := xs.toArray, argTypes := ats }, ty, pos, aft, g⟩) (hs : Spec P f args' σ1 τ' res) (hX : ∀ k ∈ mids σ1, k ∈ X) (hx : look l x = some (.ifc t y)) (hca : Casts (y :: args) args')
    (hmm : ∀ (u : Value) (ρ : Operand → Value) w, (Go.invoke (.fn (.method m) #[]) (#[.iface t u] ++ (xs.map ρ).toArray)).run P w = .ok (.enter f (#[u] ++ (xs.map ρ).toArray)) w) (hv : looks l xs = some args)
    (hg : gd ops l ⟨d, .call { callee := .invoke x m, args := xs.toArray, argTypes := ats }, ty, pos, aft, g⟩ = some true) (hd : lt? d n = true)
    (k : After σ σ1 τ' fun ν z => SX P ops ix X (St n W ν (put? l d (res z))) Q) : SX P ops (.e i ix) X (St n W σ l) Q := fun a w h => by
  unfold planW wpOp
  simp only [hi, h.wanted hg, if_true]
  refine .inl ?_
  unfold Oper.wp
  obtain ⟨u, h1, h2⟩ := h.eval hx
  rw [run_invoke rfl h1 (hmm u a.eval), Oper.upon_enter]
  have : reps (mids σ ++ W.G) w (y :: args) (u :: xs.map a.eval) := ⟨u, _, rfl, h2, h.evals hv⟩
  rw [show #[u] ++ (xs.map a.eval).toArray = (u :: xs.map a.eval).toArray by simp]
  refine (hs.after h.mem (hca _ _ _ this) k).mono fun e w' ⟨z, r, ν, he, hx, _, hm, hc, hr, hk⟩ => ?_
  subst he
  exact ⟨fun w2 => Ext X w' w2, fun w2 h2 => (hx.mono (fun k hk => .inl (hX k hk))).trans h2 fun k hk => .inl hk, Ext.refl w', hk _ _ ((h.to hm hc).put hd hr)⟩
/-- A call of a method through an interface. -/
theorem SL.invokeR {P : Program} {n : Nat} {W : Wd} {ops : Array Oper} {l : Slots} {σ : Blks} {Q : Exit → Act → World → Prop} {rest : List Oper} {f : FuncId} {args args' : List Abs} {σ1 : Blks} {ι : Type} {τ' : ι → Blks} {res : ι → Abs} {xs : List Operand} {ats : Array TypeId} {d : Option Nat} {ty : TypeId} {pos : String} {aft : Array Edge} {g : Option (Nat × Bool)} {x : Operand} {m : String} {t : TypeId} {y : Abs}
    (hs : Spec P f args' σ1 τ' res) (hx : look l x = some (.ifc t y)) (hca : Casts (y :: args) args')
    (hmm : ∀ (u : Value) (ρ : Operand → Value) w, (Go.invoke (.fn (.method m) #[]) (#[.iface t u] ++ (xs.map ρ).toArray)).run P w = .ok (.enter f (#[u] ++ (xs.map ρ).toArray)) w) (hv : looks l xs = some args)
    (hg : gd ops l ⟨d, .call { callee := .invoke x m, args := xs.toArray, argTypes := ats }, ty, pos, aft, g⟩ = some true) (hd : lt? d n = true)
    (k : After σ σ1 τ' fun ν z => SL P ops rest (St n W ν (put? l d (res z))) Q) : SL P ops (⟨d, .call { callee := .invoke x m, args := xs.toArray, argTypes := ats }, ty, pos, aft, g⟩ :: rest) (St n W σ l) Q := fun a w h =>
  wpList_step fun K hK => by
    rw [if_pos (h.wanted hg)]
    unfold Oper.wp
    obtain ⟨u, h1, h2⟩ := h.eval hx
    rw [run_invoke rfl h1 (hmm u a.eval), Oper.upon_enter]
    have : reps (mids σ ++ W.G) w (y :: args) (u :: xs.map a.eval) := ⟨u, _, rfl, h2, h.evals hv⟩
    rw [show #[u] ++ (xs.map a.eval).toArray = (u :: xs.map a.eval).toArray by simp]
    refine (hs.after h.mem (hca _ _ _ this) k).mono fun e w' ⟨z, r, ν, he, _, _, hm, hc, hr, hk⟩ => ?_
    subst he
    exact hK _ _ (hk _ _ ((h.to hm hc).put hd hr))
/-- A method value, ahead of its call: its receiver is no nil pointer that would be followed. -/
theorem Val.nilMethod {P : Program} {n : Nat} {W : Wd} {σ : Blks} {l : Slots} {X : List Nat} {x : Operand} {d : Option Nat} {ty : TypeId} {pos : String} {aft : Array Edge} {g : Option (Nat × Bool)} {m : String} {t : TypeId} {u : Value}
    (hx : look l x = some (.fn (.method m) [.ifc t (.v u)] [])) (h : ∀ w, (nilAhead (P.types.size + Made.depth) t u m).run P w = .ok (some false) w) : Val P n W σ l X ⟨d, .nilCheck x, ty, pos, aft, g⟩ (.fn (.method m) [.ifc t (.v u)] []) := fun a w hs _ => by
  have hr := hs.eval hx
  obtain ⟨us, vs, h1, ⟨_, _, rfl, ⟨_, rfl, h2⟩, h3⟩, h4⟩ := hr
  have h2 : _ = u := h2
  have h3 : _ = [] := h3
  have h4 : vs = [] := h4
  subst h2 h3 h4
  refine ⟨_, hs.eval hx, fun w' _ => ?_⟩
  simp [execOp, h1, Sem.run_bind, program, Sem.run, h w', Result.andThen]
end Go.Proofs.Ytgfndlibbfamfaa.A
/-
  The second engine: a book as a piece of memory; its calls, and a change's or a batch's digest by it.
-/
set_option maxRecDepth 100000
set_option linter.unusedSimpArgs false
set_option linter.unusedVariables false
namespace Go.Proofs.Ytgfndlibbfamfaa.A
open Go.RowKit

abbrev DMap := List ((Nat × List UInt8) × Nat)
abbrev TMap := List (((Int × Int) × List UInt8) × Nat)
theorem map_alike {α β : Type} {w w' : World} {b : Nat} {K : α → Value} {V : β → Value} {Good : α → Prop} {m : List (α × β)} (h : MapOf w b K V Good m) (hb : w'.heap[b]? = w.heap[b]?) : MapOf w' b K V Good m := by
  obtain ⟨es, clock, h1, h2⟩ := h
  exact ⟨es, clock, hb.trans h1, h2⟩
/-- A book as a piece of memory. -/
def bkPc (p bd bt : Nat) (D : DMap) (T : TMap) : Pc where
  ids := [p, bd, bt]
  p := fun _ w => BookAt w p bd bt D T
  carry := fun K w K' w' _ hs h => ⟨(hs p (by simp)).trans h.blk, map_alike h.md (hs bd (by simp)), map_alike h.mt (hs bt (by simp)), h.ne⟩
  lt := fun K w h k hk => by
    simp only [List.mem_cons, List.not_mem_nil, or_false] at hk
    rcases hk with rfl | rfl | rfl
    · exact h.blk.lt
    · exact h.md.lt
    · exact h.mt.lt
theorem bk_ids {w : World} {p bd bt : Nat} {D D' : DMap} {T T' : TMap} (h : BookAt w p bd bt D T) : (It.mids (.pc (bkPc p bd bt D' T'))).Nodup := by
  obtain ⟨h1, h2, h3⟩ := h.ne
  simp [It.mids, bkPc]
  omega
section
variable {p bd bt : Nat} {D : DMap} {T : TMap} {k x y : Int} {l : List UInt8}
theorem bknew_s : Spec Try.prog 6 [] [] (fun z : Nat × Nat × Nat => [.pc (bkPc z.1 z.2.1 z.2.2 [] [])]) (fun z => .v (.pointer (some ⟨z.1, 0, none⟩))) := fun G w vals hm hv => by
  have hv : vals = [] := hv
  subst hv
  refine (book_New w).mono fun e w' ⟨h1, h2, h3⟩ => ?_
  have h4 := hm.new (y := .pc (bkPc (w.heap.size + 2) w.heap.size (w.heap.size + 1) [] [])) h3 (bk_ids h2) (by
    intro k hk
    simp only [It.mids, bkPc, List.mem_cons, List.not_mem_nil, or_false] at hk
    omega) rfl (fun _ => h2)
  exact ⟨(w.heap.size + 2, w.heap.size, w.heap.size + 1), _, h1, by simp [It.rids], h4.1, rfl⟩
end
/-- Two texts that are digested one behind the other, by a new book. -/
theorem pl_new {α : Type} [DecidableEq α] (x y : α) : pl ([] : List (α × Nat)) x = 1 ∧ (pl (pm [] x) y = 1 ↔ y = x) ∧ pl (pm [] x) y ≤ 2 ∧ (pm [] x).length = 1 := by
  have h : pm [] x = [(x, 1)] := by simp [pm, aget, aput]
  refine ⟨rfl, (Inv1.start x).pl y, ?_, by rw [h]; rfl⟩
  rw [h]
  unfold pl aget
  by_cases hxy : x = y <;> simp [hxy]
theorem two_digests (k : Nat) (hk : k < 256) (x y : List UInt8) : numB k (pl ([] : DMap) (k, x)) = numB k (pl (pm ([] : DMap) (k, x)) (k, y)) ↔ x = y := by
  obtain ⟨h1, h2, h3, _⟩ := pl_new (k, x) (k, y)
  rw [h1]
  constructor
  · intro h
    have h4 := (numB_inj hk hk (by omega) (by omega) h).2
    have h5 := h2.1 h4.symm
    simp only [Prod.mk.injEq, true_and] at h5
    exact h5.symm
  · intro h
    rw [h2.2 (by rw [h])]
end Go.Proofs.Ytgfndlibbfamfaa.A
/-
  Messages: texts, and all.
-/
set_option maxRecDepth 100000
set_option linter.unusedSimpArgs false
set_option linter.unusedVariables false
namespace Go.Proofs.Ytgfndlibbfamfaa.A
open Go.RowKit

section
variable {l : List UInt8} {n : Int} {k f place who : Int} {to : List Int} {p bd bt : Nat} {Dm : DMap} {T : TMap}
theorem wrap_u8 (k : Int) : (Value.int .u8 (IntKind.u8.wrap k)) = .int .u8 (k8 k : Nat) := by
  simp [IntKind.wrap, IntKind.bits, IntKind.signed, k8]
  omega
theorem wrap_bc (k : Int) : (Value.int .u8 (IntKind.u8.wrap k)) = bc (UInt8.ofNat (k8 k)) := by
  rw [wrap_u8]
  simp [bc, k8]
  omega
theorem k8_lt (k : Int) : k8 k < 256 := by unfold k8; omega
def textV (k : Int) (l : List UInt8) : List UInt8 := UInt8.ofNat (k8 k) :: l
def allN (n : Int) : List Int := if 7 < n then [] else (List.range n.toNat).map fun i => (i : Nat)
theorem clone_s (hl : l.length ≤ 1000000) : Spec Try.prog 13 [byt l] [] (fun _ : Unit => []) (fun _ => byt l) := by
  refine spec_of Try.func13 rfl Try.ntmps13 rfl fun G w => ?_
  refine SC.seq (SC.region ?_)
  refine SL.val (Val.assign rfl) rfl rfl ?_
  refine SL.nil (SE.seq ?_)
  refine SC.seq ?_
  refine SC.seq (SC.region ?_)
  refine SL.val (Val.move rfl) rfl rfl ?_
  refine SL.eqNil Try.underlying22 rfl rfl rfl ?_
  intro b hb
  refine SL.nil (SE.seq ?_)
  refine SC.cond rfl ?_ ?_
  · intro hc4
    have hnil : l = [] := List.map_eq_nil_iff.1 (hb hc4)
    refine SC.seq (SC.region ?_)
    refine SL.val (Val.assign rfl) rfl rfl ?_
    refine SL.nil (SE.seq ?_)
    refine SC.ret ?_
    refine SE.then_ (by intro h; cases h) ?_
    subst hnil
    refine SE.finC (rs := [.tmp 2]) rfl (RV.tmp rfl RV.nil) (Casts.nils (s := 1) Casts.refl) () (by repeat first|exact s0 _|exact s1 _|apply s2|apply s3) (by simp [It.rids]) rfl
  intro hc4
  refine SC.skip ?_
  refine SE.seq ?_
  refine SC.seq (SC.region ?_)
  refine SL.eff (Eff.buildOwn tabOk Try.underlying22 rfl rfl rfl rfl rfl rfl rfl) rfl rfl ?_
  rintro _ _ ⟨r5, rfl, rfl⟩
  refine SL.val (Val.move rfl) rfl rfl ?_
  refine SL.eff (Eff.appendE (zs := bs l) tabOk [] (rfl) Try.underlying22 rfl rfl rfl rfl rfl rfl (bs_ones _) (by unfold maxLen; simp only [bs, List.length_map, List.length_cons, List.length_nil]; omega) (by rw [show Try.prog.bytesOf 5 = 1 by kernel_rfl]; simp only [List.length_map, List.length_cons, List.length_nil]; omega)) rfl rfl ?_
  rintro _ _ ⟨r7, rfl, rfl⟩
  refine SL.val (Val.assign rfl) rfl rfl ?_
  refine SL.nil (SE.seq ?_)
  refine SC.ret ?_
  refine SE.freeze [] (t := 2) rfl rfl ?_
  refine SE.fin (rs := [.tmp 2]) rfl (RV.tmp rfl RV.nil) (()) (by repeat first|exact s0 _|exact s1 _|apply s2|apply s3) (by simp [It.rids]) ?_
  exact rfl
theorem text_s (hl : l.length ≤ 1000000) : Spec Try.prog 8 [int k, byt l] [] (fun _ : Unit => []) (fun _ => byt (textV k l)) := by
  refine spec_of Try.func8 rfl Try.ntmps8 rfl fun G w => ?_
  refine SC.seq (SC.region ?_)
  refine SL.val (Val.assign rfl) rfl rfl ?_
  refine SL.nil (SE.seq ?_)
  refine SC.seq (SC.region ?_)
  refine SL.val (Val.move rfl) rfl rfl ?_
  refine SL.val (Val.to (C := .v (.int .u8 (k8 k : Nat))) (Val.convW rfl Try.underlying5 (by kernel_rfl)) (congrArg Abs.v (wrap_u8 k))) rfl rfl ?_
  refine SL.eff (Eff.buildOwn tabOk Try.underlying22 rfl rfl rfl rfl rfl rfl rfl) rfl rfl ?_
  rintro _ _ ⟨r7, rfl, rfl⟩
  refine SL.val (Val.move rfl) rfl rfl ?_
  refine SL.eff (Eff.appendE (zs := bs (textV k l)) tabOk [] (by
      show [[Abs.v (Value.int .u8 (k8 k : Nat))]] ++ bs l = _
      rw [← wrap_u8, wrap_bc]
      rfl) Try.underlying22 rfl rfl rfl rfl rfl rfl (bs_ones _) (by unfold maxLen; simp only [bs, List.length_map, List.length_cons, List.length_nil]; omega) (by rw [show Try.prog.bytesOf 5 = 1 by kernel_rfl]; simp only [List.length_map, List.length_cons, List.length_nil]; omega)) rfl rfl ?_
  rintro _ _ ⟨r9, rfl, rfl⟩
  refine SL.val (Val.assign rfl) rfl rfl ?_
  refine SL.nil (SE.seq ?_)
  refine SC.ret ?_
  refine SE.freeze [] (t := 4) rfl rfl ?_
  refine SE.fin (rs := [.tmp 4]) rfl (RV.tmp rfl RV.nil) (()) (by repeat first|exact s0 _|exact s1 _|apply s2|apply s3) (by simp [It.rids]) ?_
  exact rfl
theorem ints_all (n : Int) (h : ¬ 7 < n) : (Abs.sl 1 ((List.range n.toNat).map fun i : Nat => [int (i : Nat)])) = ints (allN n) := by
  unfold allN
  rw [if_neg h]
  show _ = Abs.sl 1 (((List.range n.toNat).map fun i : Nat => (i : Int)).map fun x => [int x])
  rw [List.map_map]
  rfl
theorem ints_none (n : Int) (h : 7 < n) : (Abs.sl 1 []) = ints (allN n) := by
  unfold allN
  rw [if_pos h]
  rfl
theorem range_snoc (k : Nat) : (List.range k).map (fun i : Nat => [int (i : Nat)]) ++ [[int (k : Nat)]] = (List.range (k + 1)).map fun i : Nat => [int (i : Nat)] := by
  rw [List.range_succ, List.map_append]
  rfl
set_option maxHeartbeats 2000000 in
theorem all_s  : Spec Try.prog 12 [int n] [] (fun _ : Unit => []) (fun _ => ints (allN n)) := by
  refine spec_of Try.func12 rfl Try.ntmps12 rfl fun G w => ?_
  refine SC.seq (SC.region ?_)
  refine SL.val (Val.assign rfl) rfl rfl ?_
  refine SL.nil (SE.seq ?_)
  refine SC.seq ?_
  refine SC.seq (SC.region ?_)
  refine SL.val (Val.move rfl) rfl rfl ?_
  refine SL.val (Val.gtI rfl rfl) rfl rfl ?_
  refine SL.nil (SE.seq ?_)
  refine SC.condP rfl ?_ ?_
  · intro hc6
    refine SC.seq (SC.region ?_)
    refine SL.val (Val.assign rfl) rfl rfl ?_
    refine SL.nil (SE.seq ?_)
    refine SC.ret ?_
    refine SE.then_ (by intro h; cases h) ?_
    refine SE.finC (rs := [.tmp 2]) rfl (RV.tmp rfl RV.nil) (Casts.nils (s := 1) Casts.refl) () (by repeat first|exact s0 _|exact s1 _|apply s2|apply s3) (by simp [It.rids]) (ints_none n (by omega))
  intro hc6
  refine SC.skip ?_
  refine SE.seq ?_
  refine SC.seq (SC.region ?_)
  refine SL.val (Val.assign rfl) rfl rfl ?_
  refine SL.nil (SE.seq ?_)
  refine SC.seq ?_
  refine SC.seq (SC.region ?_)
  refine SL.val (Val.move rfl) rfl rfl ?_
  refine SL.val (Val.maxI rfl rfl) rfl rfl ?_
  refine SL.val (Val.move rfl) rfl rfl ?_
  refine SL.nil (SE.seq ?_)
  refine SC.block ?_
  refine SC.own0 3 1 ?_
  refine SC.loop (ι := Nat × Value) (fun z => [own 3 1 z.2 ((List.range z.1).map fun i : Nat => [int (i : Nat)])]) (fun z => [(3, .v z.2), (8, int (max n 0)), (9, int (z.1 : Nat))]) (fun z => z.1 ≤ n.toNat) (fun z => n.toNat - z.1) (0, .slice none 0 0) (Nat.zero_le _) (by exact ⟨rfl, rfl, rfl, trivial⟩) (by repeat first|exact s0 _|exact s1 _|apply s2|apply s3) ?_
  intro z hz
  refine SC.seq (SC.region ?_)
  refine SL.val (Val.ltI rfl rfl) rfl rfl ?_
  refine SL.nil (SE.seq ?_)
  refine SC.seq ?_
  refine SC.condP rfl ?_ ?_
  rotate_left
  · intro hc10
    refine SC.exit ?_
    refine SE.then_ (by intro h; cases h) ?_
    refine SE.then_ (by intro h; cases h) ?_
    refine SE.exit ?_
    refine SE.seq ?_
    refine SC.seq (SC.region ?_)
    refine SL.val (Val.move rfl) rfl rfl ?_
    refine SL.val (Val.assign rfl) rfl rfl ?_
    refine SL.nil (SE.seq ?_)
    refine SC.ret ?_
    have hz1 : z.1 = n.toNat := by omega
    refine SE.freeze [] (t := 2) rfl rfl ?_
    rw [hz1]
    refine SE.fin (rs := [.tmp 2]) rfl (RV.tmp rfl RV.nil) (()) (by repeat first|exact s0 _|exact s1 _|apply s2|apply s3) (by simp [It.rids]) ?_
    exact ints_all n (by omega)
  intro hc10
  refine SC.skip ?_
  refine SE.seq ?_
  refine SC.seq ?_
  refine SC.block ?_
  refine SC.seq (SC.region ?_)
  refine SL.val (Val.move rfl) rfl rfl ?_
  refine SL.val (Val.assign rfl) rfl rfl ?_
  refine SL.nil (SE.seq ?_)
  refine SC.region ?_
  refine SL.val (Val.move rfl) rfl rfl ?_
  refine SL.val (Val.move rfl) rfl rfl ?_
  refine SL.eff (Eff.buildSl tabOk Try.underlying23 rfl rfl rfl rfl rfl rfl rfl) rfl rfl ?_
  rintro _ _ ⟨rfl, rfl⟩
  refine SL.eff (Eff.appendE (zs := ((List.range (z.1 + 1)).map fun i : Nat => [int (i : Nat)])) tabOk [] (range_snoc z.1) Try.underlying23 rfl rfl rfl rfl rfl rfl (by intro c hc; rw [List.mem_singleton] at hc; subst hc; rfl) (by unfold maxLen; simp only [List.length_map, List.length_range, List.length_cons, List.length_nil]; omega) (by rw [show Try.prog.bytesOf 3 = 8 by kernel_rfl]; simp only [List.length_map, List.length_range, List.length_cons, List.length_nil]; omega)) rfl rfl ?_
  rintro _ _ ⟨r15, rfl, rfl⟩
  refine SL.val (Val.assign rfl) rfl rfl ?_
  refine SL.nil ?_
  refine SE.inBlock ?_
  refine SE.seq ?_
  refine SC.region ?_
  first
    | refine SL.val (Val.addI rfl rfl (by simp only [InR, lo, hi]; omega)) rfl rfl ?_
    | refine SL.val (Val.addW rfl rfl) rfl rfl ?_
  refine SL.val (Val.move rfl) rfl rfl ?_
  refine SL.nil ?_
  refine SE.round (z.1 + 1, r15) (by first | omega | (dsimp only; omega)) (by dsimp only; omega) (by exact ⟨rfl, rfl, rfl, trivial⟩) (by repeat first|exact s0 _|exact s1 _|apply s2|apply s3)
end
end Go.Proofs.Ytgfndlibbfamfaa.A
/-
  The second engine: a book's other calls: Tag, Check, Sizes; the law's own check of books.
-/
set_option maxRecDepth 100000
set_option linter.unusedSimpArgs false
set_option linter.unusedVariables false
namespace Go.Proofs.Ytgfndlibbfamfaa.A
open Go.RowKit

section
variable {from_ to_ : Int} {l M : List UInt8} {p bd bt : Nat} {D : DMap} {T : TMap}
/-! ### The program's calls -/
theorem bktag_s (hx : i64r from_) (hy : i64r to_) (hl : l.length ≤ maxLen) (hm : T.length < 1000000) (hpl : pl T ((from_, to_), l) < 9223372036854775808) :
    Spec Try.prog 71 [.v (.pointer (some ⟨p, 0, none⟩)), int from_, int to_, byt l] [.pc (bkPc p bd bt D T)] (fun _ : Unit => [.pc (bkPc p bd bt D (pm T ((from_, to_), l)))]) (fun _ => .agg (digA (numB 255 (pl T ((from_, to_), l))))) := fun G w vals hmm hv => by
  obtain ⟨_, _, rfl, h1, _, _, rfl, h2, _, _, rfl, h2', v, _, rfl, h3, h4⟩ := hv
  have h1 : _ = Value.pointer (some ⟨p, 0, none⟩) := h1
  have h2 : _ = Value.int .i64 from_ := h2
  have h2' : _ = Value.int .i64 to_ := h2'
  have h4 : _ = [] := h4
  subst h1 h2 h2' h4
  have hb : BookAt w p bd bt D T := hmm.hold (.pc (bkPc p bd bt D T)) (by simp)
  refine (book_Tag w p bd bt D T from_ to_ v l hb (rep_byt.1 h3).bytesA ⟨hx, hy, hl⟩ (by omega) hpl).mono fun e w' ⟨e1, e2, e3⟩ => ?_
  have h5 := hmm.upd (x := .pc (bkPc p bd bt D T)) (y := .pc (bkPc p bd bt D (pm T ((from_, to_), l)))) .here (e3.mono (by simp [It.mids, bkPc])) (bk_ids e2) (fun k hk => .inl hk) rfl (fun _ => e2)
  refine ⟨(), _, e1, by simp [It.rids], h5.1, ?_⟩
  rw [numV_arr _ _ (by omega)]
  exact ⟨_, rfl, reps_dig _⟩
theorem bkcheck_s (hx : i64r from_) (hy : i64r to_) (hl : l.length ≤ maxLen) (hM : M.length = 32) (hm : T.length < 1000000) (hpl : pl T ((from_, to_), l) < 9223372036854775808) :
    Spec Try.prog 69 [.v (.pointer (some ⟨p, 0, none⟩)), int from_, int to_, byt l, .agg (digA M)] [.pc (bkPc p bd bt D T)] (fun _ : Unit => [.pc (bkPc p bd bt D T)]) (fun _ => boo ((aget T ((from_, to_), l)).isSome && decide (M = numB 255 (pl T ((from_, to_), l))))) := fun G w vals hmm hv => by
  obtain ⟨_, _, rfl, h1, _, _, rfl, h2, _, _, rfl, h2', v, _, rfl, h3, _, _, rfl, ⟨us, rfl, h5⟩, h4⟩ := hv
  have h1 : _ = Value.pointer (some ⟨p, 0, none⟩) := h1
  have h2 : _ = Value.int .i64 from_ := h2
  have h2' : _ = Value.int .i64 to_ := h2'
  have h4 : _ = [] := h4
  have h5 : us = M.map bc := by
    have e : digA M = (M.map bc).map .v := by simp [digA]
    rw [e] at h5
    exact reps_plain.1 h5
  subst h1 h2 h2' h4 h5
  have hb : BookAt w p bd bt D T := hmm.hold (.pc (bkPc p bd bt D T)) (by simp)
  refine (book_Check w p bd bt D T from_ to_ v l M hb (rep_byt.1 h3).bytesA ⟨hx, hy, hl⟩ hM (by omega) hpl _ rfl).mono fun e w' ⟨e1, e2, e3⟩ => ?_
  have h6 := hmm.upd (x := .pc (bkPc p bd bt D T)) (y := .pc (bkPc p bd bt D T)) .here (e3.mono (by simp [It.mids, bkPc])) (bk_ids e2) (fun k hk => .inl hk) rfl (fun _ => e2)
  exact ⟨(), _, e1, by simp [It.rids], h6.1, rfl⟩
end
end Go.Proofs.Ytgfndlibbfamfaa.A
