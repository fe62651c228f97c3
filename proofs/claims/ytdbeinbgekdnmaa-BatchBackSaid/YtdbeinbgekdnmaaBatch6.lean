/-
  Batches: whether two are the same; the document's Parse, over the engine.
-/
import Derived.Test.YtdbeinbgekdnmaaBatch5
import Derived.Test.YtdbeinbgekdnmaaFlat
set_option maxRecDepth 100000
namespace Go.Proofs.Ytdbeinbgekdnmaa
open Go.RowKit

/-! ### The same -/
structure Ent.Lits (e : Ent) : Prop where
  client : InR .i64 e.core.client
  stamp : InR .i64 e.core.stamp
  op : InR .i64 e.core.op
  a : InR .i64 e.core.a
  b : InR .i64 e.core.b
  letter : e.core.letter.size ≤ maxLen
  text : e.core.text.size ≤ maxLen
  mask : e.mask < 4294967296
noncomputable instance : DecidableEq Ent := fun _ _ => Classical.propDecidable _
theorem wfI {a : Int} (h : InR .i64 a) : (Lit.int .i64 a).wf = true := by
  obtain ⟨h0, h1⟩ := h
  simp only [lo, hi] at h0 h1
  simp [Lit.wf, IntKind.min, IntKind.max, IntKind.signed, IntKind.bits]; omega
theorem wfU {a : Nat} (h : a < 4294967296) : (Lit.int .u32 (a : Nat)).wf = true := by
  simp [Lit.wf, IntKind.min, IntKind.max, IntKind.signed, IntKind.bits]; omega
def Ent.lits (e : Ent) : List Lit := [.int .i64 e.core.client, .int .i64 e.core.stamp, .int .i64 e.core.op, .string e.core.letter.data.toList, .int .i64 e.core.a, .int .i64 e.core.b, .string e.core.text.data.toList, .int .u32 e.mask]
theorem ent_lits (e : Ent) (h : e.Lits) : Try.prog.keyLits 4 139 e.cells = some e.lits := by
  have h1 := wfI h.client
  have h2 := wfI h.stamp
  have h3 := wfI h.op
  have h4 := wfI h.a
  have h5 := wfI h.b
  have h6 := h.letter
  have h7 := h.text
  have h8 := wfU h.mask
  have c1 : Try.prog.cellsOf 139 = 8 := by kernel_rfl
  have c2 : Try.prog.cellsOf 136 = 7 := by kernel_rfl
  have c3 : Try.prog.cellsOf 9 = 1 := by kernel_rfl
  have c4 : Try.prog.cellsOf 3 = 1 := by kernel_rfl
  have c5 : Try.prog.cellsOf 2 = 1 := by kernel_rfl
  have c6 : Try.prog.cellsOf 137 = 1 := by kernel_rfl
  simp [Program.keyLits, Try.underlying139, Try.underlying136, Try.underlying9, Try.underlying3, Try.underlying2, Try.underlying137, c1, c2, c3, c4, c5, c6, Ent.cells, Ent.lits, h1, h2, h3, h4, h5, h6, h7, h8]
  rw [if_pos (by decide)]
  rfl
theorem ent_formed (e : Ent) : (Value.agg e.cells.toArray).formed Try.prog 139 = true := by kernel_rfl
theorem ByteArray.of_data {a b : ByteArray} (h : a.data.toList = b.data.toList) : a = b := by
  cases a; cases b; simp at h; simp [h]
theorem Ent.lits_inj {e f : Ent} (h : e.lits = f.lits) : e = f := by
  simp only [Ent.lits, List.cons.injEq, Lit.string.injEq, Lit.int.injEq, true_and, and_true] at h
  obtain ⟨h1, h2, h3, h4, h5, h6, h7, h8⟩ := h
  obtain ⟨⟨a1, a2, a3, a4, a5, a6, a7⟩, a8⟩ := e
  obtain ⟨⟨b1, b2, b3, b4, b5, b6, b7⟩, b8⟩ := f
  simp only [Ent.mk.injEq, Core.mk.injEq]
  exact ⟨⟨h1, h2, h3, ByteArray.of_data h4, h5, h6, ByteArray.of_data h7⟩, by dsimp only at h8; omega⟩
theorem neqE {e f : Ent} (he : e.Lits) (hf : f.Lits) (w : World) : (binOp .neq 139 (.agg e.cells.toArray) (.agg f.cells.toArray)).run Try.prog w = .ok (.bool (decide (e ≠ f))) w :=
  run_neq_lits (m := 10) (by decide) (by kernel_rfl) (ent_formed e) (ent_formed f) (by simpa using ent_lits e he) (by simpa using ent_lits f hf) _ (by
    rw [decide_eq_true_eq]
    exact ⟨fun h h2 => h (Ent.lits_inj h2), fun h h2 => h (by rw [h2])⟩) w
theorem take_succ_eq {α : Type} {es fs : List α} {k : Nat} (h : es.take k = fs.take k) (h1 : k < es.length) (h2 : k < fs.length) (h3 : es[k] = fs[k]) : es.take (k + 1) = fs.take (k + 1) := by
  rw [List.take_succ_eq_append_getElem h1, List.take_succ_eq_append_getElem h2, h, h3]
section
variable {S : List (World × List Nat)} {σ τ : Blks} {ρ : List Dt} {w : World} {p : Nat} {s : Rd}

set_option maxHeartbeats 1000000 in
theorem equal_c {v u : Value} {es fs : List Ent} (hw : Mem S σ ρ w) (he : entsD v es ∈ ρ) (hf : entsD u fs ∈ ρ) (hl : es.length ≤ 1000000) (h1 : ∀ e ∈ es, e.Lits) (h2 : ∀ e ∈ fs, e.Lits) : Calls Try.prog 155 #[v, u] w fun e w' => e = .returned (.bool (decide (es = fs))) ∧ Mem S σ ρ w' := by
  obtain ⟨A, c, rfl, hs1, hs2, hs3⟩ := (hw.data he).shape
  obtain ⟨B, d, rfl, ht1, ht2, ht3⟩ := (hw.data hf).shape
  have hA : es ≠ [] → ∃ b off, A = some ⟨b, off, none⟩ := fun h => row_at (hw.data he) (by cases es with | nil => exact absurd rfl h | cons e es => simp [Ent.cells])
  have hB : fs ≠ [] → ∃ b off, B = some ⟨b, off, none⟩ := fun h => row_at (hw.data hf) (by cases fs with | nil => exact absurd rfl h | cons e es => simp [Ent.cells])
  refine calls_of [.slice A es.length c, .slice B fs.length d] Try.func155 rfl Try.ntmps155 rfl (Mem S σ ρ) hw ?_
  refine SC.seq ?_
  refine SC.region ?_
  refine SL.val (Val.assign rfl) rfl rfl ?_
  refine SL.nil ?_
  refine SE.seq ?_
  refine SC.seq ?_
  refine SC.seq ?_
  refine SC.region ?_
  refine SL.val (Val.move rfl) rfl rfl ?_
  refine SL.val (Val.lenSl rfl Try.underlying89) rfl rfl ?_
  refine SL.val (Val.move rfl) rfl rfl ?_
  refine SL.val (Val.lenSl rfl Try.underlying89) rfl rfl ?_
  refine SL.val (Val.neI rfl rfl) rfl rfl ?_
  refine SL.nil ?_
  refine SE.seq ?_
  refine SC.condP rfl ?_ ?_
  · intro hc10
    refine SC.seq ?_
    refine SC.region ?_
    refine SL.val (Val.assign rfl) rfl rfl ?_
    refine SL.nil ?_
    refine SE.seq ?_
    refine SC.ret ?_
    refine SE.then_ (by intro h; cases h) ?_
    refine SE.ret1 rfl rfl ?_
    intro w' hw'
    refine ⟨?_, hw'⟩; congr 2; exact (decide_eq_false (fun h => hc10 (by rw [h]))).symm
  · intro hc10
    have hle : es.length = fs.length := by omega
    refine SC.skip ?_
    refine SE.seq ?_
    refine SC.seq ?_
    refine SC.seq ?_
    refine SC.region ?_
    refine SL.val (Val.move rfl) rfl rfl ?_
    refine SL.val (Val.lenSl rfl Try.underlying89) rfl rfl ?_
    refine SL.val (Val.move rfl) rfl rfl ?_
    refine SL.nil ?_
    refine SE.seq ?_
    refine SC.block ?_
    refine SC.loop (ι := Nat) (fun k => [(0, .slice A es.length c), (1, .slice B fs.length d), (12, .int .i64 (es.length : Nat)), (13, .int .i64 (k : Nat))]) (fun k w' => (k ≤ es.length ∧ es.take k = fs.take k) ∧ Mem S σ ρ w') (fun k => es.length - k) 0 (by exact ⟨rfl, rfl, rfl, rfl, trivial⟩) (fun w' hw' => ⟨⟨Nat.zero_le _, by simp⟩, hw'⟩) ?_
    intro k
    refine SC.facts ?_
    rintro ⟨hk, hk2⟩
    refine SC.seq ?_
    refine SC.region ?_
    refine SL.val (Val.ltI rfl rfl) rfl rfl ?_
    refine SL.nil ?_
    refine SE.seq ?_
    refine SC.seq ?_
    refine SC.condP rfl ?_ ?_
    · intro hc14
      have hlt : k < es.length := by omega
      have hlt2 : k < fs.length := by omega
      obtain ⟨bb, off, rfl⟩ := hA (by intro h0; rw [h0] at hlt; simp at hlt)
      obtain ⟨bb2, off2, rfl⟩ := hB (by intro h0; rw [h0] at hlt2; simp at hlt2)
      refine SC.skip ?_
      refine SE.seq ?_
      refine SC.seq ?_
      refine SC.block ?_
      refine SC.seq ?_
      refine SC.region ?_
      refine SL.val (Val.move rfl) rfl rfl ?_
      refine SL.val (Val.assign rfl) rfl rfl ?_
      refine SL.nil ?_
      refine SE.seq ?_
      refine SC.seq ?_
      refine SC.draw _ (.q 0 (.q 1 (.q 2 (.q 3 (.q 4 (.q 5 (.q 6 (.q 7 (.q 8 .nil))))))))) (by kernel_rfl) (by kernel_rfl) (fun _ h => h) (fun _ h => h.drew) ?_
      refine SX.val rfl (Val.move rfl) rfl rfl ?_
      refine SX.val rfl (Val.move rfl) rfl rfl ?_
      first
        | refine SX.val rfl (Val.indexSlN tabOk Try.underlying89 rfl rfl rfl (by omega)) rfl rfl ?_
        | refine SX.val rfl (Val.indexSl tabOk Try.underlying89 rfl rfl rfl (by omega)) rfl rfl ?_
      refine SX.val rfl (Val.loadAD (f := Ent.cells) tabOk rfl rfl rfl (by repeat (first | assumption | exact List.mem_cons_self | exact hmem _ | apply List.mem_cons_of_mem)) (fun _ => rfl) hlt) rfl rfl ?_
      refine SX.val rfl (Val.move rfl) rfl rfl ?_
      refine SX.val rfl (Val.move rfl) rfl rfl ?_
      first
        | refine SX.val rfl (Val.indexSlN tabOk Try.underlying89 rfl rfl rfl (by omega)) rfl rfl ?_
        | refine SX.val rfl (Val.indexSl tabOk Try.underlying89 rfl rfl rfl (by omega)) rfl rfl ?_
      refine SX.val rfl (Val.loadAD (f := Ent.cells) tabOk rfl rfl rfl (by repeat (first | assumption | exact List.mem_cons_self | exact hmem _ | apply List.mem_cons_of_mem)) (fun _ => rfl) hlt2) rfl rfl ?_
      refine SX.val rfl (Val.neA rfl rfl (by kernel_rfl) (neqE (h1 _ (List.getElem_mem hlt)) (h2 _ (List.getElem_mem hlt2)))) rfl rfl ?_
      refine SX.nil ?_
      refine SE.seq ?_
      refine SC.condP rfl ?_ ?_
      · intro hc24
        refine SC.seq ?_
        refine SC.region ?_
        refine SL.val (Val.assign rfl) rfl rfl ?_
        refine SL.nil ?_
        refine SE.seq ?_
        refine SC.ret ?_
        refine SE.ret ?_
        refine SE.then_ (by intro h; cases h) ?_
        refine SE.then_ (by intro h; cases h) ?_
        refine SE.ret ?_
        refine SE.then_ (by intro h; cases h) ?_
        refine SE.ret1 rfl rfl ?_
        intro w' hw'
        refine ⟨?_, hw'⟩; congr 2; refine (decide_eq_false (fun h => hc24 ?_)).symm; subst h; rfl
      · intro hc24
        refine SC.skip ?_
        refine SE.inBlock ?_
        refine SE.seq ?_
        refine SC.region ?_
        first
          | refine SL.val (Val.addI rfl rfl (by simp only [InR, lo, hi]; omega)) rfl rfl ?_
          | refine SL.val (Val.addW rfl rfl) rfl rfl ?_
        refine SL.val (Val.move rfl) rfl rfl ?_
        refine SL.nil ?_
        exact SE.round (k + 1) (by omega) (by exact ⟨rfl, rfl, rfl, rfl, trivial⟩) (fun w' hw' => ⟨⟨hlt, take_succ_eq hk2 hlt hlt2 (Decidable.not_not.1 hc24)⟩, hw'⟩)
    · intro hc14
      refine SC.exit ?_
      refine SE.then_ (by intro h; cases h) ?_
      refine SE.then_ (by intro h; cases h) ?_
      refine SE.exit ?_
      refine SE.seq ?_
      refine SC.seq ?_
      refine SC.region ?_
      refine SL.val (Val.assign rfl) rfl rfl ?_
      refine SL.nil ?_
      refine SE.seq ?_
      refine SC.ret ?_
      refine SE.ret1 rfl rfl ?_
      intro w' hw'
      refine ⟨?_, hw'⟩; congr 2; refine (decide_eq_true ?_).symm; rw [List.take_of_length_le (by omega), List.take_of_length_le (by omega)] at hk2; exact hk2

set_option maxHeartbeats 1000000 in
theorem rsame_c {v u : Value} {es fs : List Ent} (hw : Mem S σ ρ w) (he : entsD v es ∈ ρ) (hf : entsD u fs ∈ ρ) (hl : es.length ≤ 1000000) (h1 : ∀ e ∈ es, e.Lits) (h2 : ∀ e ∈ fs, e.Lits) : Calls Try.prog 73 #[v, u] w fun e w' => e = .returned (.bool (decide (es = fs))) ∧ Mem S σ ρ w' := by
  obtain ⟨A, c, rfl, hs1, hs2, hs3⟩ := (hw.data he).shape
  obtain ⟨B, d, rfl, ht1, ht2, ht3⟩ := (hw.data hf).shape
  have hA : es ≠ [] → ∃ b off, A = some ⟨b, off, none⟩ := fun h => row_at (hw.data he) (by cases es with | nil => exact absurd rfl h | cons e es => simp [Ent.cells])
  have hB : fs ≠ [] → ∃ b off, B = some ⟨b, off, none⟩ := fun h => row_at (hw.data hf) (by cases fs with | nil => exact absurd rfl h | cons e es => simp [Ent.cells])
  refine calls_of [.slice A es.length c, .slice B fs.length d] Try.func73 rfl Try.ntmps73 rfl (Mem S σ ρ) hw ?_
  refine SC.seq ?_
  refine SC.region ?_
  refine SL.val (Val.assign rfl) rfl rfl ?_
  refine SL.nil ?_
  refine SE.seq ?_
  refine SC.seq ?_
  refine SC.seq ?_
  refine SC.region ?_
  refine SL.val (Val.move rfl) rfl rfl ?_
  refine SL.val (Val.lenSl rfl Try.underlying89) rfl rfl ?_
  refine SL.val (Val.move rfl) rfl rfl ?_
  refine SL.val (Val.lenSl rfl Try.underlying89) rfl rfl ?_
  refine SL.val (Val.neI rfl rfl) rfl rfl ?_
  refine SL.nil ?_
  refine SE.seq ?_
  refine SC.condP rfl ?_ ?_
  · intro hc10
    refine SC.seq ?_
    refine SC.region ?_
    refine SL.val (Val.assign rfl) rfl rfl ?_
    refine SL.nil ?_
    refine SE.seq ?_
    refine SC.ret ?_
    refine SE.then_ (by intro h; cases h) ?_
    refine SE.ret1 rfl rfl ?_
    intro w' hw'
    refine ⟨?_, hw'⟩; congr 2; exact (decide_eq_false (fun h => hc10 (by rw [h]))).symm
  · intro hc10
    have hle : es.length = fs.length := by omega
    refine SC.skip ?_
    refine SE.seq ?_
    refine SC.seq ?_
    refine SC.seq ?_
    refine SC.region ?_
    refine SL.val (Val.move rfl) rfl rfl ?_
    refine SL.val (Val.lenSl rfl Try.underlying89) rfl rfl ?_
    refine SL.val (Val.move rfl) rfl rfl ?_
    refine SL.nil ?_
    refine SE.seq ?_
    refine SC.block ?_
    refine SC.loop (ι := Nat) (fun k => [(0, .slice A es.length c), (1, .slice B fs.length d), (12, .int .i64 (es.length : Nat)), (13, .int .i64 (k : Nat))]) (fun k w' => (k ≤ es.length ∧ es.take k = fs.take k) ∧ Mem S σ ρ w') (fun k => es.length - k) 0 (by exact ⟨rfl, rfl, rfl, rfl, trivial⟩) (fun w' hw' => ⟨⟨Nat.zero_le _, by simp⟩, hw'⟩) ?_
    intro k
    refine SC.facts ?_
    rintro ⟨hk, hk2⟩
    refine SC.seq ?_
    refine SC.region ?_
    refine SL.val (Val.ltI rfl rfl) rfl rfl ?_
    refine SL.nil ?_
    refine SE.seq ?_
    refine SC.seq ?_
    refine SC.condP rfl ?_ ?_
    · intro hc14
      have hlt : k < es.length := by omega
      have hlt2 : k < fs.length := by omega
      obtain ⟨bb, off, rfl⟩ := hA (by intro h0; rw [h0] at hlt; simp at hlt)
      obtain ⟨bb2, off2, rfl⟩ := hB (by intro h0; rw [h0] at hlt2; simp at hlt2)
      refine SC.skip ?_
      refine SE.seq ?_
      refine SC.seq ?_
      refine SC.block ?_
      refine SC.seq ?_
      refine SC.region ?_
      refine SL.val (Val.move rfl) rfl rfl ?_
      refine SL.val (Val.assign rfl) rfl rfl ?_
      refine SL.nil ?_
      refine SE.seq ?_
      refine SC.seq ?_
      refine SC.draw _ (.q 0 (.q 1 (.q 2 (.q 3 (.q 4 (.q 5 (.q 6 (.q 7 (.q 8 .nil))))))))) (by kernel_rfl) (by kernel_rfl) (fun _ h => h) (fun _ h => h.drew) ?_
      refine SX.val rfl (Val.move rfl) rfl rfl ?_
      refine SX.val rfl (Val.move rfl) rfl rfl ?_
      first
        | refine SX.val rfl (Val.indexSlN tabOk Try.underlying89 rfl rfl rfl (by omega)) rfl rfl ?_
        | refine SX.val rfl (Val.indexSl tabOk Try.underlying89 rfl rfl rfl (by omega)) rfl rfl ?_
      refine SX.val rfl (Val.loadAD (f := Ent.cells) tabOk rfl rfl rfl (by repeat (first | assumption | exact List.mem_cons_self | exact hmem _ | apply List.mem_cons_of_mem)) (fun _ => rfl) hlt) rfl rfl ?_
      refine SX.val rfl (Val.move rfl) rfl rfl ?_
      refine SX.val rfl (Val.move rfl) rfl rfl ?_
      first
        | refine SX.val rfl (Val.indexSlN tabOk Try.underlying89 rfl rfl rfl (by omega)) rfl rfl ?_
        | refine SX.val rfl (Val.indexSl tabOk Try.underlying89 rfl rfl rfl (by omega)) rfl rfl ?_
      refine SX.val rfl (Val.loadAD (f := Ent.cells) tabOk rfl rfl rfl (by repeat (first | assumption | exact List.mem_cons_self | exact hmem _ | apply List.mem_cons_of_mem)) (fun _ => rfl) hlt2) rfl rfl ?_
      refine SX.val rfl (Val.neA rfl rfl (by kernel_rfl) (neqE (h1 _ (List.getElem_mem hlt)) (h2 _ (List.getElem_mem hlt2)))) rfl rfl ?_
      refine SX.nil ?_
      refine SE.seq ?_
      refine SC.condP rfl ?_ ?_
      · intro hc24
        refine SC.seq ?_
        refine SC.region ?_
        refine SL.val (Val.assign rfl) rfl rfl ?_
        refine SL.nil ?_
        refine SE.seq ?_
        refine SC.ret ?_
        refine SE.ret ?_
        refine SE.then_ (by intro h; cases h) ?_
        refine SE.then_ (by intro h; cases h) ?_
        refine SE.ret ?_
        refine SE.then_ (by intro h; cases h) ?_
        refine SE.ret1 rfl rfl ?_
        intro w' hw'
        refine ⟨?_, hw'⟩; congr 2; refine (decide_eq_false (fun h => hc24 ?_)).symm; subst h; rfl
      · intro hc24
        refine SC.skip ?_
        refine SE.inBlock ?_
        refine SE.seq ?_
        refine SC.region ?_
        first
          | refine SL.val (Val.addI rfl rfl (by simp only [InR, lo, hi]; omega)) rfl rfl ?_
          | refine SL.val (Val.addW rfl rfl) rfl rfl ?_
        refine SL.val (Val.move rfl) rfl rfl ?_
        refine SL.nil ?_
        exact SE.round (k + 1) (by omega) (by exact ⟨rfl, rfl, rfl, rfl, trivial⟩) (fun w' hw' => ⟨⟨hlt, take_succ_eq hk2 hlt hlt2 (Decidable.not_not.1 hc24)⟩, hw'⟩)
    · intro hc14
      refine SC.exit ?_
      refine SE.then_ (by intro h; cases h) ?_
      refine SE.then_ (by intro h; cases h) ?_
      refine SE.exit ?_
      refine SE.seq ?_
      refine SC.seq ?_
      refine SC.region ?_
      refine SL.val (Val.assign rfl) rfl rfl ?_
      refine SL.nil ?_
      refine SE.seq ?_
      refine SC.ret ?_
      refine SE.ret1 rfl rfl ?_
      intro w' hw'
      refine ⟨?_, hw'⟩; congr 2; refine (decide_eq_true ?_).symm; rw [List.take_of_length_le (by omega), List.take_of_length_le (by omega)] at hk2; exact hk2

theorem same_c {v u : Value} {es fs : List Ent} (hw : Mem S σ ρ w) (he : entsD v es ∈ ρ) (hf : entsD u fs ∈ ρ) (hl : es.length ≤ 1000000) (h1 : ∀ e ∈ es, e.Lits) (h2 : ∀ e ∈ fs, e.Lits) : Calls Try.prog 112 #[v, u] w fun e w' => e = .returned (.bool (decide (es = fs))) ∧ Mem S σ ρ w' := by
  refine calls_of [v, u] Try.func112 rfl Try.ntmps112 rfl (Mem S σ ρ) hw ?_
  refine SC.seq ?_
  refine SC.region ?_
  refine SL.val (Val.assign rfl) rfl rfl ?_
  refine SL.nil ?_
  refine SE.seq ?_
  refine SC.seq ?_
  refine SC.region ?_
  refine SL.val (Val.move rfl) rfl rfl ?_
  refine SL.val (Val.move rfl) rfl rfl ?_
  refine SL.call (by kernel_rfl) rfl rfl rfl ?_
  intro w hw
  refine (equal_c hw he hf hl h1 h2).mono ?_; rintro _ _ ⟨rfl, hm⟩; refine ⟨_, _, rfl, hm, ?_⟩; clear hm hw w
  refine SL.val (Val.assign rfl) rfl rfl ?_
  refine SL.nil ?_
  refine SE.seq ?_
  refine SC.ret ?_
  refine SE.ret1 rfl rfl ?_
  intro w' hw'
  exact ⟨rfl, hw'⟩

/-! ### The document's Parse -/
theorem sg_in (x : Nat) : InR .i64 (sg x) := by
  unfold sg
  simp [InR, lo, hi, IntKind.wrap, IntKind.bits, IntKind.signed]
  split <;> omega
theorem txtB_size (l : List UInt8) : (txtB l).size = l.length := rfl
theorem Rd.core_lits (s : Rd) (most : Int) {m : Nat} (hm : m < 4294967296) (h : s.l.length ≤ maxLen) : (⟨s.core most, m⟩ : Ent).Lits := by
  have n1 := s.num_lt (n := 1) (k := 1) (Nat.le_refl _)
  have n2 := ((s.fixed 1).fixed 8).num_lt (n := 1) (k := 1) (Nat.le_refl _)
  have h1 := s.fixed_length 1
  have h2 := (s.fixed 1).fixed_length 8
  have h3 : s.c3.l.length ≤ ((s.fixed 1).fixed 8).l.length := ((s.fixed 1).fixed 8).fixed_length 1
  have h4 : (s.c4 most).l.length ≤ s.c3.l.length := s.c3.row_length _
  have h5 := (s.c4 most).fixed_length 8
  have h6 : (s.c6 most).l.length ≤ ((s.c4 most).fixed 8).l.length := ((s.c4 most).fixed 8).fixed_length 8
  have h7 := s.c3.rowOut_length most
  have h8 := (s.c6 most).rowOut_length most
  refine ⟨?_, sg_in _, ?_, sg_in _, sg_in _, ?_, ?_, hm⟩
  · show InR .i64 (s.num 1 : Nat)
    simp only [InR, lo, hi]; omega
  · show InR .i64 (((s.fixed 1).fixed 8).num 1 : Nat)
    simp only [InR, lo, hi]; omega
  · show (txtB (s.c3.rowOut most)).size ≤ maxLen
    rw [txtB_size]; omega
  · show (txtB ((s.c6 most).rowOut most)).size ≤ maxLen
    rw [txtB_size]; omega
theorem coreOf_lits {l : List UInt8} {most : Int} {m : Nat} (hm : m < 4294967296) (h : l.length ≤ maxLen) : (⟨coreOf l most, m⟩ : Ent).Lits := Rd.core_lits (Rd.of l) most hm h
/-- What is so of all entries that are read. -/
theorem rents_all (Q : Ent → Prop) {B : Nat} (hQ : ∀ (l : List UInt8) (m : Nat), l.length ≤ B → m < 256 → Q ⟨coreOf l 1048576, m⟩) : ∀ (k : Nat) (s : Rd) (acc : List Ent) (ok : Bool), s.l.length ≤ B → (∀ e ∈ acc, Q e) → ∀ e ∈ (s.rents k acc ok).1, Q e
  | 0, _, _, _, _, h => h
  | k + 1, s, acc, ok, hs, h => by
    simp only [Rd.rents]
    split
    · exact h
    · have h1 := s.rowOut_length 1048576
      have h2 := s.row_length 1048576
      have h3 := (s.row 1048576).fixed_length 1
      have h4 := (s.row 1048576).num_lt (n := 1) (k := 1) (Nat.le_refl _)
      refine rents_all Q hQ k _ _ _ (by omega) fun e he => ?_
      rcases List.mem_append.1 he with he | he
      · exact h e he
      · rw [List.mem_singleton.1 he]
        exact hQ _ _ (by omega) (by omega)
theorem rents_length : ∀ (k : Nat) (s : Rd) (acc : List Ent) (ok : Bool), (s.rents k acc ok).1.length ≤ acc.length + k
  | 0, _, _, _ => by simp [Rd.rents]
  | k + 1, s, acc, ok => by
    simp only [Rd.rents]
    split
    · show acc.length ≤ _; omega
    · have := rents_length k ((s.row 1048576).fixed 1) (acc ++ [⟨coreOf (s.rowOut 1048576) 1048576, (s.row 1048576).num 1⟩]) (ok && okOf (s.rowOut 1048576) 1048576)
      simp only [List.length_append, List.length_singleton] at this
      omega
theorem rents_as : ∀ (k : Nat) (s t : Rd) (acc : List Ent) (ok : Bool), s.as t → (s.rents k acc ok).1 = (t.rents k acc ok).1 ∧ (s.rents k acc ok).2.1 = (t.rents k acc ok).2.1 ∧ (s.rents k acc ok).2.2.as (t.rents k acc ok).2.2
  | 0, _, _, _, _, h => ⟨rfl, rfl, h⟩
  | k + 1, s, t, acc, ok, h => by
    have he : s.e = t.e := by first | exact h.1 | exact h.2
    simp only [Rd.rents, he, h.rowOut, (h.row 1048576).num]
    split
    · exact ⟨rfl, rfl, h⟩
    · exact rents_as k _ _ _ _ ((h.row 1048576).fixed 1)
def rparse2 (n : Int) (t : List Ent × Bool × Rd) : List Ent × Int :=
  if t.2.2.end_ ≠ 0 ∨ t.2.1 = false then ([], 2) else if chkB t.1 n ≠ 0 then ([], chkB t.1 n) else (t.1, 0)
def rparseS (l : List UInt8) (n : Int) : List Ent × Int := rparse2 n (((Rd.of l).fixed 2).rents ((Rd.of l).num 2) [] true)
theorem rparseS_at (v : Value) (l : List UInt8) (n : Int) : rparseS l n = rparse2 n (((⟨v, l, 0⟩ : Rd).fixed 2).rents ((⟨v, l, 0⟩ : Rd).num 2) [] true) := by
  obtain ⟨h1, h2, h3⟩ := rents_as ((Rd.of l).num 2) _ _ [] true ((of_as v l).fixed 2)
  rw [rparseS, (of_as v l).num, rparse2, rparse2, h1, h2, h3.end_]
theorem rbatchCheckOwn_c {v : Value} {es : List Ent} {n : Int} (hw : Mem S σ ρ w) (ho : ownE v es ∈ σ) (hl : es.length ≤ 1000000) (hs : ∀ e ∈ es, e.core.letter.size ≤ lots) : Calls Try.prog 70 #[v, .int .i64 n] w fun e w' => e = .returned (.int .i64 (chkB es n)) ∧ Mem S σ ρ w' :=
  (rbatchCheck_c ((Mem.start w).add (z := entsD v es) (ownsRow.isRow (hw.hold _ ho) (by simp))) List.mem_cons_self hl hs).mono fun _ _ ⟨h1, h2⟩ => ⟨h1, hw.same (h2.ext _ List.mem_cons_self)⟩
set_option maxHeartbeats 1000000 in
theorem rparse_own {v : Value} {l : List UInt8} {n : Int} (hw : Mem S σ ρ w) (hb : bytesD v l ∈ ρ) (hl : l.length ≤ 900000) : Calls Try.prog 74 #[v, .int .i64 n] w fun e w' => ∃ r, e = .returned (.tuple #[r, .int .i64 (rparseS l n).2]) ∧ Mem S (ownE r (rparseS l n).1 :: σ) ρ w' := by
  have hL : lots = 100000000000 := rfl
  obtain ⟨A, c, rfl, hs1, hs2, hs3⟩ := (hw.data hb).shape
  rw [rparseS_at (.slice A l.length c) l n]
  have h1 := rents_length ((⟨.slice A l.length c, l, 0⟩ : Rd).num 2) ((⟨.slice A l.length c, l, 0⟩ : Rd).fixed 2) [] true
  have h2 := (⟨.slice A l.length c, l, 0⟩ : Rd).num_lt (n := 2) (k := 2) (Nat.le_refl _)
  have h3 := rents_all (fun e => e.core.letter.size ≤ lots) (B := 900000) (fun l m hl hm => by
    have h1 := (Rd.of l).c3.rowOut_length 1048576
    have h2 := (Rd.of l).fixed_length 1
    have h3 := ((Rd.of l).fixed 1).fixed_length 8
    have h4 : (Rd.of l).c3.l.length ≤ (((Rd.of l).fixed 1).fixed 8).l.length := (((Rd.of l).fixed 1).fixed 8).fixed_length 1
    have h5 : (Rd.of l).l.length = l.length := rfl
    show (txtB ((Rd.of l).c3.rowOut 1048576)).size ≤ lots
    rw [txtB_size]; omega) ((⟨.slice A l.length c, l, 0⟩ : Rd).num 2) ((⟨.slice A l.length c, l, 0⟩ : Rd).fixed 2) [] true (by have := (⟨.slice A l.length c, l, 0⟩ : Rd).fixed_length 2; have h0 : (⟨.slice A l.length c, l, 0⟩ : Rd).l.length = l.length := rfl; omega) (by simp)
  refine calls_of [.slice A l.length c, .int .i64 n] Try.func74 rfl Try.ntmps74 rfl (Mem S σ ρ) hw ?_
  refine SC.seq ?_
  refine SC.region ?_
  refine SL.val (Val.assign rfl) rfl rfl ?_
  refine SL.val (Val.assign rfl) rfl rfl ?_
  refine SL.nil ?_
  refine SE.seq ?_
  refine SC.seq ?_
  refine SC.region ?_
  refine SL.val (Val.move rfl) rfl rfl ?_
  refine SL.val (Val.buildS (L := [.slice A l.length c, .int .i64 0]) tabOk rfl rfl rfl (by rfl)) rfl rfl ?_
  refine SL.eff (Eff.boxA rfl) rfl rfl ?_
  rintro _ _ ⟨b12, rfl, rfl⟩
  refine SL.val (Val.assign rfl) rfl rfl ?_
  refine SL.nil ?_
  refine SE.seq ?_
  refine SC.seq ?_
  refine SC.region ?_
  refine SL.val (Val.move rfl) rfl rfl ?_
  refine SL.call (by kernel_rfl) rfl rfl rfl ?_
  intro w hw
  refine (rread_own (s := (⟨.slice A l.length c, l, 0⟩ : Rd)) hw (by repeat (first | assumption | exact Upd.here | exact hrep _ _ | apply Upd.there)) (by repeat (first | assumption | exact List.mem_cons_self | exact hmem _ | apply List.mem_cons_of_mem)) (by show l.length ≤ lots; omega)).mono ?_; rintro _ _ ⟨r, rfl, hm⟩; generalize ht : (((⟨.slice A l.length c, l, 0⟩ : Rd).fixed 2).rents ((⟨.slice A l.length c, l, 0⟩ : Rd).num 2) [] true) = t at h1 h3 hm ⊢; refine ⟨_, _, rfl, hm, ?_⟩; clear hm hw w
  refine SL.val (Val.move rfl) rfl rfl ?_
  refine SL.val (Val.extract rfl rfl) rfl rfl ?_
  refine SL.val (Val.extract rfl rfl) rfl rfl ?_
  refine SL.val (Val.assign rfl) rfl rfl ?_
  refine SL.val (Val.assign rfl) rfl rfl ?_
  refine SL.nil ?_
  refine SE.seq ?_
  refine SC.seq ?_
  refine SC.seq ?_
  refine SC.region ?_
  refine SL.val (Val.move rfl) rfl rfl ?_
  refine SL.call (by kernel_rfl) rfl rfl rfl ?_
  intro w hw
  refine (rend_c (s := t.2.2) hw (by repeat (first | assumption | exact List.mem_cons_self | exact hmem _ | apply List.mem_cons_of_mem)) (by repeat (first | assumption | exact List.mem_cons_self | exact hmem _ | apply List.mem_cons_of_mem))).mono ?_; rintro _ _ ⟨rfl, hm⟩; refine ⟨_, _, rfl, hm, ?_⟩; clear hm hw w
  refine SL.val (Val.neI rfl rfl) rfl rfl ?_
  refine SL.val (Val.move rfl) rfl rfl ?_
  refine SL.bothP (t := 21) rfl ?_ ?_
  · intro hc21
    refine SL.skip rfl rfl ?_
    refine SL.skip rfl rfl ?_
    refine SL.val (Val.pickT rfl rfl) rfl rfl ?_
    refine SL.nil ?_
    refine SE.seq ?_
    refine SC.condT rfl ?_
    refine SC.seq ?_
    refine SC.region ?_
    refine SL.val (Val.assign rfl) rfl rfl ?_
    refine SL.val (Val.assign rfl) rfl rfl ?_
    refine SL.nil ?_
    refine SE.seq ?_
    refine SC.ret ?_
    refine SE.then_ (by intro h; cases h) ?_
    refine SE.ret2 rfl rfl rfl ?_
    intro w' hw'
    have e0 : rparse2 n t = ([], 2) := if_pos (.inl hc21)
    rw [e0]
    exact ⟨_, rfl, (((hw'.sub (fun _ h => h) (List.sublist_append_right [_, _] _)).less (fun x hx => by simp [hx])).nilE)⟩
  · intro hc21
    refine SL.val (Val.move rfl) rfl rfl ?_
    refine SL.val (Val.notB rfl) rfl rfl ?_
    refine SL.val (Val.pickF rfl rfl) rfl rfl ?_
    refine SL.nil ?_
    refine SE.seq ?_
    refine SC.cond rfl ?_ ?_
    · intro hc24
      refine SC.seq ?_
      refine SC.region ?_
      refine SL.val (Val.assign rfl) rfl rfl ?_
      refine SL.val (Val.assign rfl) rfl rfl ?_
      refine SL.nil ?_
      refine SE.seq ?_
      refine SC.ret ?_
      refine SE.then_ (by intro h; cases h) ?_
      refine SE.ret2 rfl rfl rfl ?_
      intro w' hw'
      have e0 : rparse2 n t = ([], 2) := if_pos (.inr (by simpa using hc24))
      rw [e0]
      exact ⟨_, rfl, (((hw'.sub (fun _ h => h) (List.sublist_append_right [_, _] _)).less (fun x hx => by simp [hx])).nilE)⟩
    · intro hc24
      refine SC.skip ?_
      refine SE.seq ?_
      refine SC.seq ?_
      refine SC.seq ?_
      refine SC.region ?_
      refine SL.val (Val.move rfl) rfl rfl ?_
      refine SL.val (Val.move rfl) rfl rfl ?_
      refine SL.call (by kernel_rfl) rfl rfl rfl ?_
      intro w hw
      refine (rbatchCheckOwn_c (es := t.1) hw (by repeat (first | assumption | exact List.mem_cons_self | exact hmem _ | apply List.mem_cons_of_mem)) (by simp only [List.length_nil] at h1; omega) h3).mono ?_; rintro _ _ ⟨rfl, hm⟩; refine ⟨_, _, rfl, hm, ?_⟩; clear hm hw w
      refine SL.val (Val.assign rfl) rfl rfl ?_
      refine SL.nil ?_
      refine SE.seq ?_
      refine SC.seq ?_
      refine SC.region ?_
      refine SL.val (Val.move rfl) rfl rfl ?_
      refine SL.val (Val.neI rfl rfl) rfl rfl ?_
      refine SL.nil ?_
      refine SE.seq ?_
      refine SC.condP rfl ?_ ?_
      · intro hc29
        refine SC.seq ?_
        refine SC.region ?_
        refine SL.val (Val.move rfl) rfl rfl ?_
        refine SL.val (Val.assign rfl) rfl rfl ?_
        refine SL.val (Val.assign rfl) rfl rfl ?_
        refine SL.nil ?_
        refine SE.seq ?_
        refine SC.ret ?_
        refine SE.then_ (by intro h; cases h) ?_
        refine SE.ret2 rfl rfl rfl ?_
        intro w' hw'
        have e0 : rparse2 n t = ([], chkB t.1 n) := by rw [rparse2, if_neg (by intro h; rcases h with h | h; exact hc21 h; simp [h] at hc24), if_pos hc29]
        rw [e0]
        exact ⟨_, rfl, (((hw'.sub (fun _ h => h) (List.sublist_append_right [_, _] _)).less (fun x hx => by simp [hx])).nilE)⟩
      · intro hc29
        refine SC.skip ?_
        refine SE.seq ?_
        refine SC.seq ?_
        refine SC.region ?_
        refine SL.val (Val.move rfl) rfl rfl ?_
        refine SL.val (Val.assign rfl) rfl rfl ?_
        refine SL.val (Val.assign rfl) rfl rfl ?_
        refine SL.nil ?_
        refine SE.seq ?_
        refine SC.ret ?_
        refine SE.ret2 rfl rfl rfl ?_
        intro w' hw'
        have e0 : rparse2 n t = (t.1, 0) := by rw [rparse2, if_neg (by intro h; rcases h with h | h; exact hc21 h; simp [h] at hc24), if_neg hc29]
        rw [e0]
        exact ⟨_, rfl, (hw'.sub (fun _ h => h) (List.Sublist.cons_cons _ (List.sublist_cons_self _ _))).less (fun x hx => by simp [hx])⟩

end
end Go.Proofs.Ytdbeinbgekdnmaa
