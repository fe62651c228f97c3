/-
  Batches: their bytes: the program's and the document's, over the engine.
-/
import Derived.Test.YtdbeinbgekdnmaaBatch1
set_option maxRecDepth 100000
namespace Go.Proofs.Ytdbeinbgekdnmaa
open Go.RowKit

def Ent.bytes (e : Ent) : List UInt8 := rowB e.core.bytes ++ beBytes e.mask 1
def batchB (es : List Ent) : List UInt8 := beBytes es.length 2 ++ es.flatMap Ent.bytes
/-- An entry that isn't too great. -/
structure Ent.Few (e : Ent) : Prop where
  mask : e.mask < 4294967296
  letter : e.core.letter.size ≤ 1000
  text : e.core.text.size ≤ 1000
theorem Core.bytes_length (c : Core) : c.bytes.length = 34 + c.letter.size + c.text.size := by
  have h1 : c.letter.data.toList.length = c.letter.size := by simp
  have h2 : c.text.data.toList.length = c.text.size := by simp
  simp only [Core.bytes, rowB, List.length_append, beBytes_length, h1, h2]
  omega
theorem Ent.bytes_length (e : Ent) : e.bytes.length = 39 + e.core.letter.size + e.core.text.size := by
  simp only [Ent.bytes, rowB, List.length_append, beBytes_length, Core.bytes_length]
  omega
theorem ents_length {es : List Ent} (h : ∀ e ∈ es, e.Few) : (es.flatMap Ent.bytes).length ≤ es.length * 2100 := by
  induction es with
  | nil => simp
  | cons e es ih =>
    have h1 := h e (by simp)
    have h2 := ih (fun x hx => h x (by simp [hx]))
    have := h1.letter
    have := h1.text
    rw [List.flatMap_cons, List.length_append, Ent.bytes_length, List.length_cons, Nat.succ_mul]
    omega
section
variable {S : List (World × List Nat)} {σ τ : Blks} {ρ : List Dt} {w : World}

set_option maxHeartbeats 1000000 in
theorem batchBytes_c {v : Value} {es : List Ent} (hw : Mem S σ ρ w) (he : entsD v es ∈ ρ) (hl : es.length ≤ 1000000) (hf : ∀ e ∈ es, e.Few) : Calls Try.prog 68 #[v] w fun e w' => ∃ r, e = .returned r ∧ Mem S σ (bytesD r (batchB es) :: ρ) w' := by
  obtain ⟨A, c, rfl, hs1, hs2, hs3⟩ := (hw.data he).shape
  have hA : es ≠ [] → ∃ b off, A = some ⟨b, off, none⟩ := fun h => row_at (hw.data he) (by cases es with | nil => exact absurd rfl h | cons e es => simp [Ent.cells])
  refine calls_of [.slice A es.length c] Try.func68 rfl Try.ntmps68 rfl (Mem S σ ρ) hw ?_
  refine SC.seq ?_
  refine SC.region ?_
  refine SL.val (Val.assign rfl) rfl rfl ?_
  refine SL.nil ?_
  refine SE.seq ?_
  refine SC.seq ?_
  refine SC.region ?_
  refine SL.val (Val.move rfl) rfl rfl ?_
  refine SL.val (Val.lenSl rfl Try.underlying89) rfl rfl ?_
  first
    | refine SL.val (Val.convI rfl Try.underlying101 (by kernel_rfl) (by simp only [InR, lo, hi]; omega)) rfl rfl ?_
    | refine SL.val (Val.convU rfl Try.underlying101 (by kernel_rfl)) rfl rfl ?_
  refine SL.call (by kernel_rfl) rfl rfl rfl ?_
  intro w hw
  refine (put_c (l := []) (x := es.length) (n := 2) hw (BytesV.nil _) (Nat.zero_le _) (by omega) rfl).mono ?_; rintro _ _ ⟨r, rfl, hm⟩; refine ⟨_, _, rfl, hm, ?_⟩; clear hm hw w
  refine SL.val (Val.assign rfl) rfl rfl ?_
  refine SL.nil ?_
  refine SE.seq ?_
  refine SC.seq ?_
  refine SC.seq ?_
  refine SC.region ?_
  refine SL.val (Val.move rfl) rfl rfl ?_
  refine SL.val (Val.lenSl rfl Try.underlying89) rfl rfl ?_
  refine SL.val (Val.move rfl) rfl rfl ?_
  refine SL.nil ?_
  refine SE.seq ?_
  refine SC.block ?_
  refine SC.loop (ι := Nat × Value) (fun z => [(10, .slice A es.length c), (11, .int .i64 (es.length : Nat)), (12, .int .i64 (z.1 : Nat)), (3, z.2)]) (fun z w' => z.1 ≤ es.length ∧ Mem S σ (bytesD z.2 (([] ++ beBytes es.length (Int.toNat 2)) ++ (es.take z.1).flatMap Ent.bytes) :: ρ) w') (fun z => es.length - z.1) (0, _) (by exact ⟨rfl, rfl, rfl, rfl, trivial⟩) (fun w' hw' => ⟨Nat.zero_le _, hw'.less (by intro x hx; simp only [List.take_zero, List.flatMap_nil, List.append_nil] at hx; rcases List.mem_cons.1 hx with rfl | hx <;> simp [*])⟩) ?_
  intro z
  refine SC.facts ?_
  intro hz
  have hlen : (([] ++ beBytes es.length (Int.toNat 2)) ++ (es.take z.1).flatMap Ent.bytes).length ≤ 2 + 1000000 * 2100 := by
    have h0 := ents_length (es := es.take z.1) (fun e he' => hf e (List.mem_of_mem_take he'))
    have h9 : (es.take z.1).length ≤ es.length := by simp; omega
    have h8 : (es.take z.1).length * 2100 ≤ 1000000 * 2100 := Nat.mul_le_mul_right _ (by omega)
    simp only [List.length_append, beBytes_length, List.length_nil]
    simp only [show Int.toNat 2 = 2 from rfl]
    omega
  refine SC.seq ?_
  refine SC.region ?_
  refine SL.val (Val.ltI rfl rfl) rfl rfl ?_
  refine SL.nil ?_
  refine SE.seq ?_
  refine SC.seq ?_
  refine SC.condP rfl ?_ ?_
  · intro hc13
    have hlt : z.1 < es.length := by omega
    have hfew := hf _ (List.getElem_mem hlt)
    have hmask := hfew.mask
    have hlet := hfew.letter
    have htex := hfew.text
    obtain ⟨bb, off, rfl⟩ := hA (by intro h0; rw [h0] at hlt; simp at hlt)
    refine SC.skip ?_
    refine SE.seq ?_
    refine SC.seq ?_
    refine SC.block ?_
    refine SC.seq ?_
    refine SC.region ?_
    first
      | refine SL.val (Val.indexSlN tabOk Try.underlying89 rfl rfl rfl (by omega)) rfl rfl ?_
      | refine SL.val (Val.indexSl tabOk Try.underlying89 rfl rfl rfl (by omega)) rfl rfl ?_
    refine SL.val (Val.loadAD (f := Ent.cells) tabOk rfl rfl rfl (by repeat (first | assumption | exact List.mem_cons_self | apply List.mem_cons_of_mem)) (fun _ => rfl) hlt) rfl rfl ?_
    refine SL.eff (Eff.alloc tabOk rfl) rfl rfl ?_
    rintro _ _ ⟨b5, rfl, rfl⟩
    refine SL.eff (Eff.storeA (L' := (es[z.1]'hlt).cells) (vs := (es[z.1]'hlt).cells) tabOk rfl rfl rfl (by repeat (first | assumption | exact Upd.here | apply Upd.there)) (by rfl) (Nat.le_of_ble_eq_true (by rfl)) (Ent.one _) (by rfl)) rfl rfl ?_; rintro _ _ ⟨rfl, rfl⟩
    refine SL.nil ?_
    refine SE.seq ?_
    refine SC.draw _ (.q 0 (.q 1 (.q 2 (.q 5 (.q 6 (.q 7 (.e 3 (.e 4 (.e 8 (.q 9 .nil)))))))))) (by kernel_rfl) (by kernel_rfl) (fun _ h => h) (fun _ h => h.drew) ?_
    refine SX.val rfl (Val.move rfl) rfl rfl ?_
    refine SX.val rfl (Val.fieldAddr tabOk rfl rfl rfl rfl rfl) rfl rfl ?_
    first
      | refine SX.val rfl (Val.loadA tabOk rfl rfl rfl (by repeat (first | assumption | exact List.mem_cons_self | apply List.mem_cons_of_mem)) (by rfl)) rfl rfl ?_
      | refine SX.val rfl (Val.loadAC tabOk rfl rfl rfl (by assumption) (by assumption)) rfl rfl ?_
      | refine SX.val rfl (Val.loadP tabOk rfl rfl rfl (by repeat (first | assumption | exact List.mem_cons_self | apply List.mem_cons_of_mem)) (Nat.le_of_ble_eq_true (by rfl))) rfl rfl ?_
    refine SX.val rfl (Val.fieldAddr tabOk rfl rfl rfl rfl rfl) rfl rfl ?_
    first
      | refine SX.val rfl (Val.load1 tabOk rfl rfl (by repeat (first | assumption | exact List.mem_cons_self | apply List.mem_cons_of_mem)) (by rfl)) rfl rfl ?_
      | refine SX.val rfl (Val.load1C tabOk rfl rfl (by assumption)) rfl rfl ?_
    first
      | refine SX.val rfl (Val.convI rfl Try.underlying101 (by kernel_rfl) (by simp only [InR, lo, hi]; omega)) rfl rfl ?_
      | refine SX.val rfl (Val.convU rfl Try.underlying101 (by kernel_rfl)) rfl rfl ?_
    refine SX.call rfl (by kernel_rfl) rfl rfl rfl ?_
    intro w hw
    refine (coreBytes_c (c := (es[z.1]'hlt).core) hw (by have := hfew.letter; omega) (by have := hfew.text; omega)).mono ?_; rintro _ _ ⟨r, rfl, hm⟩; refine ⟨_, _, rfl, hm, _, fun _ h => h.less (fun _ hx => List.mem_cons_of_mem _ hx), fun _ h => h, ?_⟩; clear hm hw w
    refine SX.call rfl (by kernel_rfl) rfl rfl rfl ?_
    intro w hw
    refine (oct_Row (l := (([] ++ beBytes es.length (Int.toNat 2)) ++ (es.take z.1).flatMap Ent.bytes)) (m := (es[z.1]'hlt).core.bytes) hw (by repeat (first | assumption | exact List.mem_cons_self | apply List.mem_cons_of_mem)) (by repeat (first | assumption | exact List.mem_cons_self | apply List.mem_cons_of_mem)) (by have := hlen; simp only [List.length_append, beBytes_length, Core.bytes_length] at *; unfold lots; omega) (by rw [Core.bytes_length]; have := hfew.letter; have := hfew.text; omega)).mono ?_; rintro _ _ ⟨r, rfl, hm⟩; refine ⟨_, _, rfl, hm, _, fun _ h => h.less (fun _ hx => List.mem_cons_of_mem _ hx), fun _ h => h, ?_⟩; clear hm hw w
    refine SX.call rfl (by kernel_rfl) rfl rfl rfl ?_
    intro w hw
    refine (put_c (l := (([] ++ beBytes es.length (Int.toNat 2)) ++ (es.take z.1).flatMap Ent.bytes) ++ beBytes (es[z.1]'hlt).core.bytes.length 4 ++ (es[z.1]'hlt).core.bytes) (x := (es[z.1]'hlt).mask) (n := 1) hw (hw.bytes (by repeat (first | assumption | exact List.mem_cons_self | apply List.mem_cons_of_mem))) (by have := hlen; simp only [List.length_append, beBytes_length, Core.bytes_length] at *; unfold lots; omega) (by omega) rfl).mono ?_; rintro _ _ ⟨r, rfl, hm⟩; refine ⟨_, _, rfl, hm, _, fun _ h => h.less (fun _ hx => List.mem_cons_of_mem _ hx), fun _ h => h, ?_⟩; clear hm hw w
    refine SX.val rfl (Val.assign rfl) rfl rfl ?_
    refine SX.nil ?_
    refine SE.inBlock ?_
    refine SE.seq ?_
    refine SC.region ?_
    first
      | refine SL.val (Val.addI rfl rfl (by simp only [InR, lo, hi]; omega)) rfl rfl ?_
      | refine SL.val (Val.addW rfl rfl) rfl rfl ?_
    refine SL.val (Val.move rfl) rfl rfl ?_
    refine SL.nil ?_
    refine SE.round (z.1 + 1, r) (by show es.length - (z.1 + 1) < es.length - z.1; omega) (by exact ⟨rfl, rfl, rfl, rfl, trivial⟩) (fun w' hw' => ⟨hlt, ?_⟩)
    have e1 : (([] ++ beBytes es.length (Int.toNat 2)) ++ (es.take (z.1 + 1)).flatMap Ent.bytes) = (([] ++ beBytes es.length (Int.toNat 2)) ++ (es.take z.1).flatMap Ent.bytes) ++ beBytes (es[z.1]'hlt).core.bytes.length 4 ++ (es[z.1]'hlt).core.bytes ++ beBytes (es[z.1]'hlt).mask (Int.toNat 1) := by
      rw [List.take_succ_eq_append_getElem hlt, List.flatMap_append]
      simp [Ent.bytes, rowB]
    show Mem S σ (bytesD r (([] ++ beBytes es.length (Int.toNat 2)) ++ (es.take (z.1 + 1)).flatMap Ent.bytes) :: ρ) w'
    rw [e1]
    exact (hw'.sub (fun _ h => h) (List.sublist_cons_self _ _)).less (fun x hx => by rcases List.mem_cons.1 hx with rfl | hx <;> simp [*])
  · intro hc13
    refine SC.exit ?_
    refine SE.then_ (by intro h; cases h) ?_
    refine SE.then_ (by intro h; cases h) ?_
    refine SE.exit ?_
    refine SE.seq ?_
    refine SC.seq ?_
    refine SC.region ?_
    refine SL.val (Val.move rfl) rfl rfl ?_
    refine SL.val (Val.assign rfl) rfl rfl ?_
    refine SL.nil ?_
    refine SE.seq ?_
    refine SC.ret ?_
    refine SE.ret1 rfl rfl ?_
    intro w' hw'
    have e2 : (([] ++ beBytes es.length (Int.toNat 2)) ++ (es.take z.1).flatMap Ent.bytes) = batchB es := by
      rw [List.take_of_length_le (by omega)]
      simp [batchB]
    rw [e2] at hw'
    exact ⟨_, rfl, hw'⟩

set_option maxHeartbeats 1000000 in
theorem rbatchBytes_c {v : Value} {es : List Ent} (hw : Mem S σ ρ w) (he : entsD v es ∈ ρ) (hl : es.length ≤ 1000000) (hf : ∀ e ∈ es, e.Few) : Calls Try.prog 71 #[v] w fun e w' => ∃ r, e = .returned r ∧ Mem S σ (bytesD r (batchB es) :: ρ) w' := by
  obtain ⟨A, c, rfl, hs1, hs2, hs3⟩ := (hw.data he).shape
  have hA : es ≠ [] → ∃ b off, A = some ⟨b, off, none⟩ := fun h => row_at (hw.data he) (by cases es with | nil => exact absurd rfl h | cons e es => simp [Ent.cells])
  refine calls_of [.slice A es.length c] Try.func71 rfl Try.ntmps71 rfl (Mem S σ ρ) hw ?_
  refine SC.seq ?_
  refine SC.region ?_
  refine SL.val (Val.assign rfl) rfl rfl ?_
  refine SL.nil ?_
  refine SE.seq ?_
  refine SC.seq ?_
  refine SC.region ?_
  refine SL.val (Val.move rfl) rfl rfl ?_
  refine SL.val (Val.lenSl rfl Try.underlying89) rfl rfl ?_
  first
    | refine SL.val (Val.convI rfl Try.underlying101 (by kernel_rfl) (by simp only [InR, lo, hi]; omega)) rfl rfl ?_
    | refine SL.val (Val.convU rfl Try.underlying101 (by kernel_rfl)) rfl rfl ?_
  refine SL.call (by kernel_rfl) rfl rfl rfl ?_
  intro w hw
  refine (rput0_c (x := es.length) (n := 2) hw rfl).mono ?_; rintro _ _ ⟨r, rfl, hm⟩; refine ⟨_, _, rfl, hm, ?_⟩; clear hm hw w
  refine SL.val (Val.assign rfl) rfl rfl ?_
  refine SL.nil ?_
  refine SE.seq ?_
  refine SC.seq ?_
  refine SC.seq ?_
  refine SC.region ?_
  refine SL.val (Val.move rfl) rfl rfl ?_
  refine SL.val (Val.lenSl rfl Try.underlying89) rfl rfl ?_
  refine SL.val (Val.move rfl) rfl rfl ?_
  refine SL.nil ?_
  refine SE.seq ?_
  refine SC.block ?_
  refine SC.loop (ι := Nat × Value) (fun z => [(10, .slice A es.length c), (11, .int .i64 (es.length : Nat)), (12, .int .i64 (z.1 : Nat)), (3, z.2)]) (fun z w' => z.1 ≤ es.length ∧ Mem S σ (bytesD z.2 (([] ++ beBytes es.length 2) ++ (es.take z.1).flatMap Ent.bytes) :: ρ) w') (fun z => es.length - z.1) (0, _) (by exact ⟨rfl, rfl, rfl, rfl, trivial⟩) (fun w' hw' => ⟨Nat.zero_le _, hw'.less (by intro x hx; simp only [List.take_zero, List.flatMap_nil, List.append_nil] at hx; rcases List.mem_cons.1 hx with rfl | hx <;> simp [*])⟩) ?_
  intro z
  refine SC.facts ?_
  intro hz
  have hlen : (([] ++ beBytes es.length 2) ++ (es.take z.1).flatMap Ent.bytes).length ≤ 2 + 1000000 * 2100 := by
    have h0 := ents_length (es := es.take z.1) (fun e he' => hf e (List.mem_of_mem_take he'))
    have h9 : (es.take z.1).length ≤ es.length := by simp; omega
    have h8 : (es.take z.1).length * 2100 ≤ 1000000 * 2100 := Nat.mul_le_mul_right _ (by omega)
    simp only [List.length_append, beBytes_length, List.length_nil]
    omega
  refine SC.seq ?_
  refine SC.region ?_
  refine SL.val (Val.ltI rfl rfl) rfl rfl ?_
  refine SL.nil ?_
  refine SE.seq ?_
  refine SC.seq ?_
  refine SC.condP rfl ?_ ?_
  · intro hc13
    have hlt : z.1 < es.length := by omega
    have hfew := hf _ (List.getElem_mem hlt)
    have hmask := hfew.mask
    have hlet := hfew.letter
    have htex := hfew.text
    obtain ⟨bb, off, rfl⟩ := hA (by intro h0; rw [h0] at hlt; simp at hlt)
    refine SC.skip ?_
    refine SE.seq ?_
    refine SC.seq ?_
    refine SC.block ?_
    refine SC.seq ?_
    refine SC.region ?_
    first
      | refine SL.val (Val.indexSlN tabOk Try.underlying89 rfl rfl rfl (by omega)) rfl rfl ?_
      | refine SL.val (Val.indexSl tabOk Try.underlying89 rfl rfl rfl (by omega)) rfl rfl ?_
    refine SL.val (Val.loadAD (f := Ent.cells) tabOk rfl rfl rfl (by repeat (first | assumption | exact List.mem_cons_self | apply List.mem_cons_of_mem)) (fun _ => rfl) hlt) rfl rfl ?_
    refine SL.eff (Eff.alloc tabOk rfl) rfl rfl ?_
    rintro _ _ ⟨b5, rfl, rfl⟩
    refine SL.eff (Eff.storeA (L' := (es[z.1]'hlt).cells) (vs := (es[z.1]'hlt).cells) tabOk rfl rfl rfl (by repeat (first | assumption | exact Upd.here | apply Upd.there)) (by rfl) (Nat.le_of_ble_eq_true (by rfl)) (Ent.one _) (by rfl)) rfl rfl ?_; rintro _ _ ⟨rfl, rfl⟩
    refine SL.nil ?_
    refine SE.seq ?_
    refine SC.draw _ (.q 0 (.q 1 (.q 2 (.q 5 (.q 6 (.q 7 (.e 3 (.e 4 (.e 8 (.q 9 .nil)))))))))) (by kernel_rfl) (by kernel_rfl) (fun _ h => h) (fun _ h => h.drew) ?_
    refine SX.val rfl (Val.move rfl) rfl rfl ?_
    refine SX.val rfl (Val.fieldAddr tabOk rfl rfl rfl rfl rfl) rfl rfl ?_
    first
      | refine SX.val rfl (Val.loadA tabOk rfl rfl rfl (by repeat (first | assumption | exact List.mem_cons_self | apply List.mem_cons_of_mem)) (by rfl)) rfl rfl ?_
      | refine SX.val rfl (Val.loadAC tabOk rfl rfl rfl (by assumption) (by assumption)) rfl rfl ?_
      | refine SX.val rfl (Val.loadP tabOk rfl rfl rfl (by repeat (first | assumption | exact List.mem_cons_self | apply List.mem_cons_of_mem)) (Nat.le_of_ble_eq_true (by rfl))) rfl rfl ?_
    refine SX.val rfl (Val.fieldAddr tabOk rfl rfl rfl rfl rfl) rfl rfl ?_
    first
      | refine SX.val rfl (Val.load1 tabOk rfl rfl (by repeat (first | assumption | exact List.mem_cons_self | apply List.mem_cons_of_mem)) (by rfl)) rfl rfl ?_
      | refine SX.val rfl (Val.load1C tabOk rfl rfl (by assumption)) rfl rfl ?_
    first
      | refine SX.val rfl (Val.convI rfl Try.underlying101 (by kernel_rfl) (by simp only [InR, lo, hi]; omega)) rfl rfl ?_
      | refine SX.val rfl (Val.convU rfl Try.underlying101 (by kernel_rfl)) rfl rfl ?_
    refine SX.call rfl (by kernel_rfl) rfl rfl rfl ?_
    intro w hw
    refine (rcoreBytes_c (c := (es[z.1]'hlt).core) hw (by have := hfew.letter; omega) (by have := hfew.text; omega)).mono ?_; rintro _ _ ⟨r, rfl, hm⟩; refine ⟨_, _, rfl, hm, _, fun _ h => h.less (fun _ hx => List.mem_cons_of_mem _ hx), fun _ h => h, ?_⟩; clear hm hw w
    refine SX.call rfl (by kernel_rfl) rfl rfl rfl ?_
    intro w hw
    refine (roct_Row (l := (([] ++ beBytes es.length 2) ++ (es.take z.1).flatMap Ent.bytes)) (m := (es[z.1]'hlt).core.bytes) hw (by repeat (first | assumption | exact List.mem_cons_self | apply List.mem_cons_of_mem)) (by repeat (first | assumption | exact List.mem_cons_self | apply List.mem_cons_of_mem)) (by have := hlen; simp only [List.length_append, beBytes_length, Core.bytes_length] at *; unfold lots; omega) (by rw [Core.bytes_length]; have := hfew.letter; have := hfew.text; omega)).mono ?_; rintro _ _ ⟨r, rfl, hm⟩; refine ⟨_, _, rfl, hm, _, fun _ h => h.less (fun _ hx => List.mem_cons_of_mem _ hx), fun _ h => h, ?_⟩; clear hm hw w
    refine SX.call rfl (by kernel_rfl) rfl rfl rfl ?_
    intro w hw
    refine (rput_c (l := (([] ++ beBytes es.length 2) ++ (es.take z.1).flatMap Ent.bytes) ++ beBytes (es[z.1]'hlt).core.bytes.length 4 ++ (es[z.1]'hlt).core.bytes) (x := (es[z.1]'hlt).mask) (n := 1) hw (by repeat (first | assumption | exact List.mem_cons_self | apply List.mem_cons_of_mem)) (by have := hlen; simp only [List.length_append, beBytes_length, Core.bytes_length] at *; unfold lots; omega) rfl).mono ?_; rintro _ _ ⟨r, rfl, hm⟩; refine ⟨_, _, rfl, hm, _, fun _ h => h.less (fun _ hx => List.mem_cons_of_mem _ hx), fun _ h => h, ?_⟩; clear hm hw w
    refine SX.val rfl (Val.assign rfl) rfl rfl ?_
    refine SX.nil ?_
    refine SE.inBlock ?_
    refine SE.seq ?_
    refine SC.region ?_
    first
      | refine SL.val (Val.addI rfl rfl (by simp only [InR, lo, hi]; omega)) rfl rfl ?_
      | refine SL.val (Val.addW rfl rfl) rfl rfl ?_
    refine SL.val (Val.move rfl) rfl rfl ?_
    refine SL.nil ?_
    refine SE.round (z.1 + 1, r) (by show es.length - (z.1 + 1) < es.length - z.1; omega) (by exact ⟨rfl, rfl, rfl, rfl, trivial⟩) (fun w' hw' => ⟨hlt, ?_⟩)
    have e1 : (([] ++ beBytes es.length 2) ++ (es.take (z.1 + 1)).flatMap Ent.bytes) = (([] ++ beBytes es.length 2) ++ (es.take z.1).flatMap Ent.bytes) ++ beBytes (es[z.1]'hlt).core.bytes.length 4 ++ (es[z.1]'hlt).core.bytes ++ beBytes (es[z.1]'hlt).mask 1 := by
      rw [List.take_succ_eq_append_getElem hlt, List.flatMap_append]
      simp [Ent.bytes, rowB]
    show Mem S σ (bytesD r (([] ++ beBytes es.length 2) ++ (es.take (z.1 + 1)).flatMap Ent.bytes) :: ρ) w'
    rw [e1]
    exact (hw'.sub (fun _ h => h) (List.sublist_cons_self _ _)).less (fun x hx => by rcases List.mem_cons.1 hx with rfl | hx <;> simp [*])
  · intro hc13
    refine SC.exit ?_
    refine SE.then_ (by intro h; cases h) ?_
    refine SE.then_ (by intro h; cases h) ?_
    refine SE.exit ?_
    refine SE.seq ?_
    refine SC.seq ?_
    refine SC.region ?_
    refine SL.val (Val.move rfl) rfl rfl ?_
    refine SL.val (Val.assign rfl) rfl rfl ?_
    refine SL.nil ?_
    refine SE.seq ?_
    refine SC.ret ?_
    refine SE.ret1 rfl rfl ?_
    intro w' hw'
    have e2 : (([] ++ beBytes es.length 2) ++ (es.take z.1).flatMap Ent.bytes) = batchB es := by
      rw [List.take_of_length_le (by omega)]
      simp [batchB]
    rw [e2] at hw'
    exact ⟨_, rfl, hw'⟩
end
end Go.Proofs.Ytdbeinbgekdnmaa
