/-
  BatchReads: the program reads bytes as a batch just as the document does. Of any bytes.
-/
import Derived.Test.YtdbeinbgekdnmaaBatch7
import Derived.Test.YtdbeinbgekdnmaaBatchTwo
import Derived.Test.YtdbeinbgekdnmaaOpenBytes
set_option maxRecDepth 100000
namespace Go.Proofs.Ytdbeinbgekdnmaa
open Go.RowKit

theorem BytesV.isRow {w : World} {v : Value} {l : List UInt8} (h : BytesV w v l) : IsRow [] w v l.length (l.map bc) := by
  obtain ⟨A, c, rfl, h1, h2, h3, h4⟩ := h
  refine ⟨⟨A, c, rfl, h1, h2, h3⟩, fun hn => ?_⟩
  obtain ⟨b, off, rfl, hc⟩ := h4 hn
  exact ⟨b, off, _, _, rfl, by simp, hc⟩
theorem rparse_lits {l : List UInt8} {n : Int} (hl : l.length ≤ 1000000) : ∀ e ∈ (rparseS l n).1, e.Lits := by
  have h1 := (Rd.of l).fixed_length 2
  have h2 : (Rd.of l).l = l := rfl
  rw [h2] at h1
  have h := rents_all Ent.Lits (B := maxLen) (fun l m hl hm => coreOf_lits (by omega) hl) ((Rd.of l).num 2) ((Rd.of l).fixed 2) [] true (by unfold maxLen; omega) (by simp)
  unfold rparseS rparse2
  split
  · simp
  · split
    · simp
    · exact h
theorem rparse_few {l : List UInt8} {n : Int} : (rparseS l n).1.length ≤ 100000 := by
  have h1 := rents_length ((Rd.of l).num 2) ((Rd.of l).fixed 2) [] true
  have h2 := (Rd.of l).num_lt (n := 2) (k := 2) (Nat.le_refl _)
  unfold rparseS rparse2
  split
  · simp
  · split
    · simp
    · simp only [List.length_nil] at h1
      show (((Rd.of l).fixed 2).rents ((Rd.of l).num 2) [] true).1.length ≤ 100000
      omega
set_option maxHeartbeats 1000000 in
theorem reads_walk (w : World) (v : Value) (l : List UInt8) (n : Int) (hv : BytesV w v l) : Calls Try.prog 14 #[v, .int .i64 n] w fun e w' => e = .returned (.bool true) ∧ Ext [] w w' := by
  have hw : Mem [(w, [])] [] [bytesD v l] w := (Mem.start w).add (z := bytesD v l) hv.isRow
  obtain ⟨A, c, rfl, hs1, hs2, hs3⟩ := hv.isRow.shape
  refine calls_of [.slice A l.length c, .int .i64 n] Try.func14 rfl Try.ntmps14 rfl (Mem [(w, [])] [] [bytesD (.slice A l.length c) l]) hw ?_
  refine SC.seq ?_
  refine SC.region ?_
  refine SL.val (Val.assign rfl) rfl rfl ?_
  refine SL.nil ?_
  refine SE.seq ?_
  refine SC.seq ?_
  refine SC.seq ?_
  refine SC.region ?_
  refine SL.call (by kernel_rfl) rfl rfl rfl ?_
  intro w' hw
  refine (fixed15_c hw).mono ?_; rintro _ _ ⟨rfl, hm⟩; refine ⟨_, _, rfl, hm, ?_⟩; clear hm hw w'
  refine SL.val (Val.notT rfl) rfl rfl ?_
  refine SL.nil ?_
  refine SE.seq ?_
  refine SC.condF rfl ?_
  refine SC.skip ?_
  refine SE.seq ?_
  refine SC.seq ?_
  refine SC.seq ?_
  refine SC.region ?_
  refine SL.val (Val.move rfl) rfl rfl ?_
  refine SL.val (Val.lenSl rfl Try.underlying34) rfl rfl ?_
  refine SL.val (Val.gtI rfl rfl) rfl rfl ?_
  refine SL.nil ?_
  refine SE.seq ?_
  refine SC.condP rfl ?_ ?_
  · intro hc13
    refine SC.seq ?_
    refine SC.region ?_
    refine SL.val (Val.assign rfl) rfl rfl ?_
    refine SL.nil ?_
    refine SE.seq ?_
    refine SC.ret ?_
    refine SE.then_ (by intro h; cases h) ?_
    refine SE.ret1 rfl rfl ?_
    intro w' hw'
    exact ⟨rfl, hw'.ext _ List.mem_cons_self⟩
  · intro hc13
    refine SC.skip ?_
    refine SE.seq ?_
    refine SC.seq ?_
    refine SC.region ?_
    refine SL.val (Val.move rfl) rfl rfl ?_
    refine SL.val (Val.move rfl) rfl rfl ?_
    refine SL.call (by kernel_rfl) rfl rfl rfl ?_
    intro w' hw
    refine (parse_own (l := l) (n := n) hw (by repeat (first | assumption | exact List.mem_cons_self | exact hmem _ | apply List.mem_cons_of_mem)) (by omega)).mono ?_; rw [parse_two (by omega : l.length ≤ 1000000)]; rintro _ _ ⟨r1, rfl, hm⟩; refine ⟨_, _, rfl, hm, ?_⟩; clear hm hw w'
    refine SL.val (Val.move rfl) rfl rfl ?_
    refine SL.val (Val.extract rfl rfl) rfl rfl ?_
    refine SL.val (Val.extract rfl rfl) rfl rfl ?_
    refine SL.val (Val.assign rfl) rfl rfl ?_
    refine SL.val (Val.assign rfl) rfl rfl ?_
    refine SL.nil ?_
    refine SE.seq ?_
    refine SC.seq ?_
    refine SC.region ?_
    refine SL.val (Val.move rfl) rfl rfl ?_
    refine SL.val (Val.move rfl) rfl rfl ?_
    refine SL.call (by kernel_rfl) rfl rfl rfl ?_
    intro w' hw
    refine (rparse_own (l := l) (n := n) hw (by repeat (first | assumption | exact List.mem_cons_self | exact hmem _ | apply List.mem_cons_of_mem)) (by omega)).mono ?_; rintro _ _ ⟨r2, rfl, hm⟩; refine ⟨_, _, rfl, hm, ?_⟩; clear hm hw w'
    refine SL.val (Val.move rfl) rfl rfl ?_
    refine SL.val (Val.extract rfl rfl) rfl rfl ?_
    refine SL.val (Val.extract rfl rfl) rfl rfl ?_
    refine SL.val (Val.assign rfl) rfl rfl ?_
    refine SL.val (Val.assign rfl) rfl rfl ?_
    refine SL.nil ?_
    refine SE.seq ?_
    refine SC.seq ?_
    refine SC.region ?_
    refine SL.val (Val.move rfl) rfl rfl ?_
    refine SL.val (Val.move rfl) rfl rfl ?_
    refine SL.val (Val.to (u := .bool true) (Val.eqI rfl rfl) (by simp)) rfl rfl ?_
    refine SL.val (Val.move rfl) rfl rfl ?_
    refine SL.val (Val.move rfl) rfl rfl ?_
    refine SL.val (Val.move rfl) rfl rfl ?_
    refine SL.call (by kernel_rfl) rfl rfl rfl ?_
    intro w' hw
    refine (rsame_at (es := (rparseS l n).1) (fs := (rparseS l n).1) hw (hw.ownRow (size := 8) (by repeat (first | assumption | exact List.mem_cons_self | exact hmem _ | apply List.mem_cons_of_mem))) (hw.ownRow (size := 8) (by repeat (first | assumption | exact List.mem_cons_self | exact hmem _ | apply List.mem_cons_of_mem))) (by have := rparse_few (l := l) (n := n); omega) (rparse_lits (by omega)) (rparse_lits (by omega))).mono ?_; rintro _ _ ⟨he, hm⟩; rw [decide_eq_true rfl] at he; subst he; refine ⟨_, _, rfl, hm, ?_⟩; clear hm hw w'
    refine SL.val (Val.pickT rfl rfl) rfl rfl ?_
    refine SL.val (Val.assign rfl) rfl rfl ?_
    refine SL.nil ?_
    refine SE.seq ?_
    refine SC.ret ?_
    refine SE.ret1 rfl rfl ?_
    intro w' hw'
    exact ⟨rfl, hw'.ext _ List.mem_cons_self⟩
end Go.Proofs.Ytdbeinbgekdnmaa
namespace Go.Proofs.Ytdbeinbgekdnmaa
open Go.RowKit Go.ChangeShapes Go.WideShapes Go.ChangeAt

set_option maxRecDepth 100000 in
theorem BatchReads_args (H : Type) (enc : TypeId × Value → H) (W : World) (base : Nat) (args : Array Value) (ds : List (DataW H)) (p : List MemPlace)
    (hval : ∀ (j : Nat) t v, Try.f14.params[j]? = some t → args[j]? = some v → Value.okWide Try.prog W .any base t v)
    (hA : DataW.TrodAll enc Try.prog W 0 (fun _ => true) true Try.f14.params.toList args.toList ds p)
    (_hsz : (DataW.weightsEach Try.prog Try.f14.params.toList ds).all (· ≤ reachBytes) = true) :
    Calls Try.prog 14 args W fun e W' => e = .returned (.bool true) ∧ Ext [] W W' := by
  rw [Try.params14] at hA hval
  obtain ⟨v0, vs0, d0, ds0, p0, q0, hargs, rfl, rfl, h0, r0⟩ := trodAll_cons hA
  obtain ⟨v1, vs1, d1, ds1, p1, q1, rfl, rfl, rfl, h1, r1⟩ := trodAll_cons r0
  obtain ⟨rfl, rfl, rfl⟩ := trodAll_nil r1
  obtain rfl : args = #[v0, v1] := by cases args; simp_all
  obtain ⟨a1, rfl, rfl, rfl, w1⟩ := open_int Try.underlying3 (hval 1 3 v1 rfl rfl) h1
  obtain ⟨A0, n0, c0, rfl⟩ := okWide_slice Try.underlying34 (hval 0 34 v0 rfl rfl)
  obtain ⟨fuel0, hf0⟩ := h0
  obtain ⟨l0, hl0⟩ := open_bytesV hf0
  exact reads_walk W _ l0 a1 hl0

set_option maxRecDepth 100000 in
theorem BatchReads_lifted (os : Os) (started : os.Started) (H : Type) (enc : TypeId × Value → H) :
    ReturnsInHanded {} Try.checked os 14 .any (Rows.batchReadsSpec.pre6 enc Try.prog Try.f14 Rows.batchReadsRow.domain false) (Rows.batchReadsSpec.post enc Try.prog Try.f14 false true false false) :=
  law_lift (s := Rows.batchReadsSpec) started (by kernel_rfl) Try.func14 rfl rfl (by kernel_rfl) (fun ds h => match ds, h with | [_, _], _ => rfl)
    (ChangeSpec.witness6 (enc := enc) (C := Try.checked) false ⟨#[], #[.slice none 0 0, .int .i64 0], []⟩ 8 (by kernel_rfl) (by kernel_rfl) (by kernel_rfl) (by kernel_rfl))
    (fun W base args ds p hval hA hsz => BatchReads_args H enc W base args ds p hval hA hsz)
theorem BatchReads_holds : Rows.BatchReadsSaid :=
  OpenClaim.holds_of_wide 14 Try.f14 rfl rfl rfl rfl rfl rfl rfl ⟨rfl, rfl, rfl, rfl, rfl⟩ rfl rfl rfl rfl rfl (by kernel_rfl) Try.func14 (by kernel_rfl)
    (of_decide_eq_true (by kernel_rfl)) (by unfold Func.isWrapper; first | (rw [if_pos (by decide +kernel)]; kernel_rfl) | (rw [if_neg (by decide +kernel)]; exact ⟨rfl, rfl⟩))
    (fun os started H enc _ => BatchReads_lifted os started H enc)
#print axioms BatchReads_holds
end Go.Proofs.Ytdbeinbgekdnmaa
