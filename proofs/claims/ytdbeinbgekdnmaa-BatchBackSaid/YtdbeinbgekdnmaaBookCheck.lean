/-
  Layer 5: is a tag the one that was made? Sizes.
-/
import Derived.Test.YtdbeinbgekdnmaaBookSee
import Derived.DataShut
set_option maxRecDepth 100000
namespace Go.Proofs.Ytdbeinbgekdnmaa
open Go.RowKit

/-! ### Rows of 32 bytes -/
def numB (f n : Nat) : List UInt8 := UInt8.ofNat f :: (List.replicate 23 0 ++ beBytes n 8)
theorem numB_length (f n : Nat) : (numB f n).length = 32 := by simp [numB, beBytes_length]
theorem numCells_bytes (f n : Nat) (hf : f < 256) : numCells f n = (numB f n).map bc := by
  simp [numCells, numB, bc]
  omega
def litB (c : UInt8) : Lit := .int .u8 (c.toNat : Int)
theorem litB_inj {L M : List UInt8} (h : L.map litB = M.map litB) : L = M := by
  have hi : ∀ a b : UInt8, litB a = litB b → a = b := by
    intro a b hab
    unfold litB at hab
    injection hab with _ hab
    exact UInt8.toNat.inj (by omega)
  induction L generalizing M with
  | nil => cases M with
    | nil => rfl
    | cons _ _ => simp at h
  | cons a L ih => cases M with
    | nil => simp at h
    | cons b M =>
      simp only [List.map_cons, List.cons.injEq] at h
      rw [hi _ _ h.1, ih h.2]
theorem lits_bytes {m : Nat} {T : TypeId} (hu : Try.prog.underlying T = some (.array 32 5)) (hc : Try.prog.cellsOf T = 32) (L : List UInt8) (hL : L.length = 32) :
    Try.prog.keyLits (m + 2) T (L.map bc) = some (L.map litB) := by
  have h5 : Try.prog.cellsOf 5 = 1 := by kernel_rfl
  have hone : ∀ c : UInt8, Try.prog.keyLits (m + 1) 5 [bc c] = some [litB c] := by
    intro c
    have hb : c.toNat < 256 := c.toNat_lt
    have e1 : (Lit.int .u8 (c.toNat : Int)).wf = true := by
      simp only [Lit.wf, Bool.and_eq_true, decide_eq_true_eq]
      exact ⟨by show (0 : Int) ≤ _; omega, by show _ ≤ (255 : Int); omega⟩
    simp [Program.keyLits, Try.underlying5, bc, litB, e1]
  have hm : (List.range 32).mapM (fun i => Try.prog.keyLits (m + 1) 5 (((L.map bc).drop (i * 1)).take 1)) = some (L.map fun c => [litB c]) := by
    refine mapM_some_of_get _ _ (by simp [hL]) ?_
    intro i x hx
    have hi : i < 32 := by
      have := (List.getElem?_eq_some_iff.1 hx).1
      simpa using this
    have hxi : x = i := by
      have := (List.getElem?_eq_some_iff.1 hx).2
      simpa using this.symm
    subst hxi
    have hl : x < L.length := by omega
    have hd : ((L.map bc).drop (x * 1)).take 1 = [bc L[x]] := by
      rw [Nat.mul_one, List.drop_eq_getElem_cons (by simpa using hl)]
      simp
    rw [hd, hone]
    simp [hl]
  have hfl : (L.map fun c => [litB c]).flatten = L.map litB := by
    clear hm hL
    induction L with
    | nil => rfl
    | cons c L ih => simp [ih]
  have hlen : (L.map bc).length = Try.prog.cellsOf T := by simp [hL, hc]
  have hcell : (L.map bc).length = 32 := by simp [hL]
  unfold Program.keyLits
  rw [hu]
  split
  · simp_all
  · simp_all
  · simp_all
  · rename_i h1
    injection h1 with h1
    injection h1 with h1 h2
    subst h1
    subst h2
    rw [if_pos hlen, h5, hm, Option.map_some, hfl]
  · simp_all
  · simp_all
def arrB (L : List UInt8) : Value := .agg (L.map bc).toArray
theorem formedB {T : TypeId} (hu : Try.prog.underlying T = some (.array 32 5)) (hc : Try.prog.cellsOf T = 32) (L : List UInt8) (hL : L.length = 32) : (arrB L).formed Try.prog T = true := by
  simp [arrB, Value.formed, hu, hc, hL]
theorem eqlB {T : TypeId} (hu : Try.prog.underlying T = some (.array 32 5)) (hc : Try.prog.cellsOf T = 32) (hk : Try.prog.keyTypeAt 4 T = true) (L M : List UInt8) (hL : L.length = 32) (hM : M.length = 32) (b : Bool) (hb : decide (L = M) = b) (w : World) :
    (binOp .eql T (arrB L) (arrB M)).run Try.prog w = .ok (.bool b) w :=
  run_eql_lits (m := 4) (by decide) hk (formedB hu hc L hL) (formedB hu hc M hM) (lits_bytes (m := 0) hu hc L hL) (lits_bytes (m := 0) hu hc M hM) b (by
    rw [← hb, decide_eq_true_eq]
    exact ⟨fun h => by rw [h], litB_inj⟩) w
theorem neqB {T : TypeId} (hu : Try.prog.underlying T = some (.array 32 5)) (hc : Try.prog.cellsOf T = 32) (hk : Try.prog.keyTypeAt 4 T = true) (L M : List UInt8) (hL : L.length = 32) (hM : M.length = 32) (b : Bool) (hb : decide (L ≠ M) = b) (w : World) :
    (binOp .neq T (arrB L) (arrB M)).run Try.prog w = .ok (.bool b) w :=
  run_neq_lits (m := 4) (by decide) hk (formedB hu hc L hL) (formedB hu hc M hM) (lits_bytes (m := 0) hu hc L hL) (lits_bytes (m := 0) hu hc M hM) b (by
    rw [← hb, decide_eq_true_eq]
    exact ⟨fun h e => h (litB_inj e), fun h e => h (by rw [e])⟩) w
theorem eqlD (L M : List UInt8) (hL : L.length = 32) (hM : M.length = 32) (b : Bool) (hb : decide (L = M) = b) (w : World) : (binOp .eql 46 (arrB L) (arrB M)).run Try.prog w = .ok (.bool b) w :=
  eqlB Try.underlying46 (by kernel_rfl) (by kernel_rfl) L M hL hM b hb w
theorem eqlT (L M : List UInt8) (hL : L.length = 32) (hM : M.length = 32) (b : Bool) (hb : decide (L = M) = b) (w : World) : (binOp .eql 48 (arrB L) (arrB M)).run Try.prog w = .ok (.bool b) w :=
  eqlB Try.underlying48 (by kernel_rfl) (by kernel_rfl) L M hL hM b hb w
theorem neqD (L M : List UInt8) (hL : L.length = 32) (hM : M.length = 32) (b : Bool) (hb : decide (L ≠ M) = b) (w : World) : (binOp .neq 46 (arrB L) (arrB M)).run Try.prog w = .ok (.bool b) w :=
  neqB Try.underlying46 (by kernel_rfl) (by kernel_rfl) L M hL hM b hb w
theorem neqT (L M : List UInt8) (hL : L.length = 32) (hM : M.length = 32) (b : Bool) (hb : decide (L ≠ M) = b) (w : World) : (binOp .neq 48 (arrB L) (arrB M)).run Try.prog w = .ok (.bool b) w :=
  neqB Try.underlying48 (by kernel_rfl) (by kernel_rfl) L M hL hM b hb w
theorem numV_arr (f n : Nat) (hf : f < 256) : numV f n = arrB (numB f n) := by
  unfold numV arrB
  rw [numCells_bytes f n hf]
theorem zero_arr : Value.agg zero32 = arrB (List.replicate 32 0) := by
  unfold zero32 arrB
  congr 1
theorem book_Sizes (w : World) (p bd bt : Nat) (D : List ((Nat × List UInt8) × Nat)) (T : List (((Int × Int) × List UInt8) × Nat)) (h : BookAt w p bd bt D T) :
    Calls Try.prog 42 #[.pointer (some ⟨p, 0, none⟩)] w fun e w' => e = .returned (.tuple #[.int .i64 D.length, .int .i64 T.length]) ∧ Ext [] w w' := by
  have H := Lib.hid h
  have hc0 := fun (x : Later w) => Blk.cell (Later.blk x h.blk) 0
  have hc1 := fun (x : Later w) => Blk.cell (Later.blk x h.blk) 1
  clear h
  go_enter Try.func42, Try.ntmps42
  go_wp2
  refine wp_region_later_lit (by kernel_rfl) (by kernel_rfl) ?_
  repeat (first
    | ((with_reducible refine at_opq ⟨some 10, _, _, _, _, _⟩ ?_); refine wpQuiet_value rfl _ (by rintro _ ⟨xq, rfl⟩; exact run_mapLen (H.out.ext0 xq.ext).md _ Try.underlying102 _ rfl rfl) ?_; go_simp)
    | ((with_reducible refine at_opq ⟨some 15, _, _, _, _, _⟩ ?_); refine wpQuiet_value rfl _ (by rintro _ ⟨xq, rfl⟩; exact run_mapLen (H.out.ext0 xq.ext).mt _ Try.underlying103 _ rfl rfl) ?_; go_simp)
    | go_big_quiet_step (fail))
  refine wpQuiet_nil ?_
  intro xq
  have hx := xq.ext
  go_wp2
  go_ret2
  exact ⟨rfl, hx⟩
/-- A guarded call of a Go function, as one step of a region that draws. -/
theorem step_gog {P : Program} {ops : Array Oper} {o : Oper} {a : Act} {w : World} {K : Act → World → Prop} {Q : Exit → Act → World → Prop} {E : Prop} (hw : Region.wanted o (yielded ops a.tmps) = true) (f : FuncId) (xs : Array Operand) (ats : Array TypeId)
    (ho : o.op = .call { callee := .value (.func f), args := xs, argTypes := ats }) {R : Ending → World → Prop} (vals : Array Value) (hv : xs.map a.eval = vals) (hcall : (callFunc f (#[] ++ vals ++ #[])).run P w = .ok (.enter f vals) w) (hc : Calls P f vals w R) (h : ∀ e w', R e w' → ∃ v, e = .returned v ∧ K (a.put o.dst v) w') :
    if Region.wanted o (yielded ops a.tmps) = true then Oper.wp P o a w K Q else E := by
  rw [if_pos hw]
  subst hv
  unfold Oper.wp
  have hr : (execOp a.eval o).run P w = .ok (.enter f (xs.map a.eval)) w := by
    obtain ⟨dst, op, ty, pos, after, guard⟩ := o
    dsimp only at ho
    subst ho
    rw [execOp_call_go]
    exact hcall
  rw [hr, Oper.upon_enter]
  refine hc.mono fun e w' hR => ?_
  obtain ⟨v, rfl, hk⟩ := h e w' hR
  exact hk
/-- A load of a whole array, kept whole by the walk. -/
def loadArr (t : TypeId) (v : Value) : Sem Next := execOp (fun _ => v) ⟨none, .load t (.tmp 0), 0, "", #[], none⟩
theorem loadArr_T (a : Act) (dst x ty pos after guard) : execOp a.eval ⟨dst, .load 48 x, ty, pos, after, guard⟩ = loadArr 48 (a.eval x) := rfl
theorem loadArr_D (a : Act) (dst x ty pos after guard) : execOp a.eval ⟨dst, .load 46 x, ty, pos, after, guard⟩ = loadArr 46 (a.eval x) := rfl
theorem run_loadArr_T {w : World} {g : Nat} {L : List UInt8} (h : Blk w g 48 (L.map bc).toArray) (hL : L.length = 32) : (loadArr 48 (.pointer (some ⟨g, 0, none⟩))).run Try.prog w = .ok (.value (.agg (L.map bc).toArray)) w := by
  have h1 : (Try.prog.info? 48).map (·.size) = some 32 := by kernel_rfl
  unfold loadArr execOp
  simp only [Instr.loadAt, Instr.sureAddr, Sem.run_bind, Sem.run_pure, Result.andThen_ok, run_loadVar_row w g 48 48 (L.map bc).toArray (0, 0) _ h Try.underlying48 rfl (by rw [h1]; simp [hL])]
theorem run_loadArr_D {w : World} {g : Nat} {L : List UInt8} (h : Blk w g 46 (L.map bc).toArray) (hL : L.length = 32) : (loadArr 46 (.pointer (some ⟨g, 0, none⟩))).run Try.prog w = .ok (.value (.agg (L.map bc).toArray)) w := by
  have h1 : (Try.prog.info? 46).map (·.size) = some 32 := by kernel_rfl
  unfold loadArr execOp
  simp only [Instr.loadAt, Instr.sureAddr, Sem.run_bind, Sem.run_pure, Result.andThen_ok, run_loadVar_row w g 46 46 (L.map bc).toArray (0, 0) _ h Try.underlying46 rfl (by rw [h1]; simp [hL])]
attribute [local go_sem ↓] loadArr_T
theorem pm_some {α : Type} [DecidableEq α] {m : List (α × Nat)} {k : α} (h : (aget m k).isSome = true) : pm m k = m := if_pos h
set_option maxHeartbeats 2000000 in
theorem book_Check (w : World) (p bd bt : Nat) (D : List ((Nat × List UInt8) × Nat)) (T : List (((Int × Int) × List UInt8) × Nat)) (x y : Int) (v : Value) (l : List UInt8) (M : List UInt8) (h : BookAt w p bd bt D T) (hv : BytesV w v l) (hk : saidOk ((x, y), l)) (hM : M.length = 32) (hm : T.length < 4611686018427387904) (hpl : pl T ((x, y), l) < 9223372036854775808) (b : Bool) (hb : ((aget T ((x, y), l)).isSome && decide (M = numB 255 (pl T ((x, y), l)))) = b) :
    Calls Try.prog 41 #[.pointer (some ⟨p, 0, none⟩), .int .i64 x, .int .i64 y, v, arrB M] w fun e w' => e = .returned (.bool b) ∧ BookAt w' p bd bt D T ∧ Ext [bt] w w' := by
  have H := Lib.hid h; clear h
  have HV := Lib.hid hv; clear hv
  change Calls _ _ #[_, _, _, _, .agg (M.map bc).toArray] _ _
  have hx1 : Ext [] w (w.alloc (.cells (M.map bc).toArray 48)).drew := ((Ext.refl w).alloc _).drew
  have hb9 : Blk (w.alloc (.cells (M.map bc).toArray 48)).drew w.heap.size 48 (M.map bc).toArray := (Blk.new w 48 (M.map bc).toArray).drew
  have hcs := fun (W : World) => (by kernel_rfl : (callFunc 43 (#[] ++ #[.pointer (some ⟨p, 0, none⟩), .int .i64 x, .int .i64 y, v] ++ #[])).run Try.prog W = .ok (.enter 43 #[.pointer (some ⟨p, 0, none⟩), .int .i64 x, .int .i64 y, v]) W)
  have HX1 := Lib.hid hx1
  have HX0 := Lib.hid (Ext.new w (.cells (M.map bc).toArray 48))
  have HB9 := Lib.hid hb9
  have HCS := Lib.hid hcs
  clear hx1 hb9 hcs
  have HM := Lib.hid hM
  have HBT := Lib.hid H.out.mt.lt
  by_cases hs : (aget T ((x, y), l)).isSome = true
  · have hsaid := fun (W : World) (h : BookAt W p bd bt D T) (hv : BytesV W v l) => book_Said W p bd bt D T x y v l h hv hk true hs
    have htag := fun (W : World) (h : BookAt W p bd bt D T) (hv : BytesV W v l) => book_Tag W p bd bt D T x y v l h hv hk hm hpl
    rw [pm_some hs, numV_arr _ _ (by decide), arrB] at htag
    have heq : ∀ W : World, (binOp .eql 48 (.agg (M.map bc).toArray) (.agg ((numB 255 (pl T ((x, y), l))).map bc).toArray)).run Try.prog W = .ok (.bool b) W := fun W => eqlT M (numB 255 (pl T ((x, y), l))) hM (numB_length _ _) b (by rw [← hb, hs]; rfl) W
    have hct := fun (W : World) => (by kernel_rfl : (callFunc 40 (#[] ++ #[.pointer (some ⟨p, 0, none⟩), .int .i64 x, .int .i64 y, v] ++ #[])).run Try.prog W = .ok (.enter 40 #[.pointer (some ⟨p, 0, none⟩), .int .i64 x, .int .i64 y, v]) W)
    have HS := Lib.hid hsaid
    have HT := Lib.hid htag
    have HCT := Lib.hid hct
    clear hs hsaid htag hct hb hk
    go_enter Try.func41, Try.ntmps41
    go_wp2
    first | go_region_law (first
      | (refine step_go rfl 43 _ _ rfl #[.pointer (some ⟨p, 0, none⟩), .int .i64 x, .int .i64 y, v] (by simp [Act.eval, Act.put]) (HCS.out _) (HS.out _ (H.out.ext0 HX1.out) (HV.out.ext0 HX1.out)) ?_; rintro e w2 ⟨rfl, hx2⟩; have hld := run_loadArr_T (HB9.out.ext hx2 (by simp)) HM.out; refine ⟨_, rfl, ?_⟩)
      | (refine step_gog rfl 40 _ _ rfl #[.pointer (some ⟨p, 0, none⟩), .int .i64 x, .int .i64 y, v] (by simp [Act.eval, Act.put]) (HCT.out _) (HT.out _ ((H.out.ext0 HX1.out).ext0 hx2) ((HV.out.ext0 HX1.out).ext0 hx2)) ?_; rintro e w3 ⟨rfl, hbk3, hx3⟩; have hld3 := run_loadArr_T ((HB9.out.ext hx2 (by simp)).ext hx3 (by have := HBT.out; simp; omega)) HM.out; refine ⟨_, rfl, ?_⟩))
    all_goals
      have HX := Lib.hid ((((HX1.out.mono (G := [bt]) (by simp)).trans hx2 (by simp)).trans hx3 (by simp)))
      have HK := Lib.hid hbk3
      clear hx2 hx3 hbk3 hld hld3
      go_wp2
      go_ret
      exact ⟨rfl, HK.out, HX.out⟩
  · have hs' : (aget T ((x, y), l)).isSome = false := by simpa using hs
    have hsaid := fun (W : World) (h : BookAt W p bd bt D T) (hv : BytesV W v l) => book_Said W p bd bt D T x y v l h hv hk false hs'
    obtain rfl : false = b := by rw [← hb, hs']; rfl
    have HS := Lib.hid hsaid
    clear hs hs' hsaid hb
    go_enter Try.func41, Try.ntmps41
    go_wp2
    refine wp_region_later_lit (by kernel_rfl) (by kernel_rfl) ?_
    repeat (go_big_quiet_step ((go_at_call 43; exact Later.call (HS.out _ (H.out.ext0 (HX0.out.tr (Later.ext _))) (HV.out.ext0 (HX0.out.tr (Later.ext _)))))))
    refine wpQuiet_nil ?_
    rintro _ ⟨xq, rfl⟩
    have HX := Lib.hid (HX0.out.trans xq.ext (by simp))
    go_wp2
    go_ret
    exact ⟨rfl, H.out.ext0 HX.out, HX.out.mono (by simp)⟩
end Go.Proofs.Ytdbeinbgekdnmaa
