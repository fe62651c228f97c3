/-
  BatchBack: what is written as a batch reads back as it was; both write the same. Of any entries.
-/
import Derived.Test.YtdbeinbgekdnmaaBatch7
import Derived.Test.YtdbeinbgekdnmaaOpenBytes
import Derived.Test.YtdbeinbgekdnmaaBatchBack
set_option maxRecDepth 100000
namespace Go.Proofs.Ytdbeinbgekdnmaa
open Go.RowKit

def FewA (es : List Ent) : Prop := es.length ≤ 40 ∧ ∀ e ∈ es, e.core.letter.size ≤ 100 ∧ e.core.text.size ≤ 300
section
variable {S : List (World × List Nat)} {σ τ : Blks} {ρ : List Dt} {w : World}
set_option maxHeartbeats 1000000 in
theorem few_c {v : Value} {es : List Ent} (hw : Mem S σ ρ w) (he : entsD v es ∈ ρ) : Calls Try.prog 67 #[v] w fun e w' => ∃ b : Bool, e = .returned (.bool b) ∧ (b = true → FewA es) ∧ Mem S σ ρ w' := by
  obtain ⟨A, c, rfl, hs1, hs2, hs3⟩ := (hw.data he).shape
  have hmax : maxLen = 9223372036854775807 := rfl
  have hA : es ≠ [] → ∃ b off, A = some ⟨b, off, none⟩ := fun h => row_at (hw.data he) (by cases es with | nil => exact absurd rfl h | cons e es => simp [Ent.cells])
  refine calls_of [.slice A es.length c] Try.func67 rfl Try.ntmps67 rfl (Mem S σ ρ) hw ?_
  refine SC.seq ?_
  refine SC.region ?_
  refine SL.val (Val.assign rfl) rfl rfl ?_
  refine SL.nil ?_
  refine SE.seq ?_
  refine SC.seq ?_
  refine SC.seq ?_
  refine SC.region ?_
  refine SL.val (Val.move rfl) rfl rfl ?_
  refine SL.val (Val.lenSl rfl Try.underlying89) rfl rfl ?_
  refine SL.val (Val.move rfl) rfl rfl ?_
  refine SL.nil ?_
  refine SE.seq ?_
  refine SC.block ?_
  refine SC.loop (ι := Nat) (fun k => [(0, .slice A es.length c), (5, .slice A es.length c), (6, .int .i64 (es.length : Nat)), (7, .int .i64 (k : Nat))]) (fun k w' => (k ≤ es.length ∧ ∀ e ∈ es.take k, e.core.letter.size ≤ 100 ∧ e.core.text.size ≤ 300) ∧ Mem S σ ρ w') (fun k => es.length - k) 0 (by exact ⟨rfl, rfl, rfl, rfl, trivial⟩) (fun w' hw' => ⟨⟨Nat.zero_le _, by simp⟩, hw'⟩) ?_
  intro k
  refine SC.facts ?_
  rintro ⟨hk, hk2⟩
  refine SC.seq ?_
  refine SC.region ?_
  refine SL.val (Val.ltI rfl rfl) rfl rfl ?_
  refine SL.nil ?_
  refine SE.seq ?_
  refine SC.seq ?_
  refine SC.condP rfl ?_ ?_
  · intro hc8
    have hlt : k < es.length := by omega
    obtain ⟨bb, off, rfl⟩ := hA (by intro h0; rw [h0] at hlt; simp at hlt)
    refine SC.skip ?_
    refine SE.seq ?_
    refine SC.seq ?_
    refine SC.block ?_
    refine SC.seq ?_
    refine SC.region ?_
    first
      | refine SL.val (Val.indexSlN tabOk Try.underlying89 rfl rfl rfl (by omega)) rfl rfl ?_
      | refine SL.val (Val.indexSl tabOk Try.underlying89 rfl rfl rfl (by omega)) rfl rfl ?_
    refine SL.val (Val.loadAD (f := Ent.cells) tabOk rfl rfl rfl (by repeat (first | assumption | exact List.mem_cons_self | exact hmem _ | apply List.mem_cons_of_mem)) (fun _ => rfl) hlt) rfl rfl ?_
    refine SL.eff (Eff.alloc tabOk rfl) rfl rfl ?_
    rintro _ _ ⟨b4, rfl, rfl⟩
    refine SL.eff (Eff.storeA (L' := (es[k]'hlt).cells) (vs := (es[k]'hlt).cells) tabOk rfl rfl rfl (by repeat (first | assumption | exact Upd.here | exact hrep _ _ | apply Upd.there)) (by rfl) (Nat.le_of_ble_eq_true (by rfl)) (Ent.one _) (by rfl)) rfl rfl ?_
    rintro _ _ ⟨rfl, rfl⟩
    refine SL.nil ?_
    refine SE.seq ?_
    refine SC.seq ?_
    refine SC.region ?_
    refine SL.val (Val.fieldAddr tabOk rfl rfl rfl rfl rfl) rfl rfl ?_
    refine SL.val (Val.fieldAddr tabOk rfl rfl rfl rfl rfl) rfl rfl ?_
    first
      | refine SL.val (Val.load1 tabOk rfl rfl (by repeat (first | assumption | exact List.mem_cons_self | exact hmem _ | apply List.mem_cons_of_mem)) (by rfl)) rfl rfl ?_
      | refine SL.val (Val.load1C tabOk rfl rfl (by assumption)) rfl rfl ?_
    refine SL.val (Val.lenSt rfl Try.underlying9) rfl rfl ?_
    refine SL.val (Val.gtI rfl rfl) rfl rfl ?_
    refine SL.val (Val.move rfl) rfl rfl ?_
    refine SL.bothP (t := 16) rfl ?_ ?_
    · intro hc16
      refine SL.skip rfl rfl ?_
      refine SL.skip rfl rfl ?_
      refine SL.skip rfl rfl ?_
      refine SL.skip rfl rfl ?_
      refine SL.skip rfl rfl ?_
      refine SL.val (Val.pickT rfl rfl) rfl rfl ?_
      refine SL.nil ?_
      refine SE.seq ?_
      refine SC.condT rfl ?_
      refine SC.seq ?_
      refine SC.region ?_
      refine SL.val (Val.assign rfl) rfl rfl ?_
      refine SL.nil ?_
      refine SE.seq ?_
      refine SC.ret ?_
      refine SE.ret ?_
      refine SE.then_ (by intro h; cases h) ?_
      refine SE.then_ (by intro h; cases h) ?_
      refine SE.ret ?_
      refine SE.then_ (by intro h; cases h) ?_
      refine SE.ret1 rfl rfl ?_
      intro w' hw'
      exact ⟨_, rfl, by simp, hw'.sub (fun _ h => h) (List.sublist_cons_self _ _)⟩
    · intro hc16
      refine SL.val (Val.fieldAddr tabOk rfl rfl rfl rfl rfl) rfl rfl ?_
      refine SL.val (Val.fieldAddr tabOk rfl rfl rfl rfl rfl) rfl rfl ?_
      first
        | refine SL.val (Val.load1 tabOk rfl rfl (by repeat (first | assumption | exact List.mem_cons_self | exact hmem _ | apply List.mem_cons_of_mem)) (by rfl)) rfl rfl ?_
        | refine SL.val (Val.load1C tabOk rfl rfl (by assumption)) rfl rfl ?_
      refine SL.val (Val.lenSt rfl Try.underlying9) rfl rfl ?_
      refine SL.val (Val.gtI rfl rfl) rfl rfl ?_
      refine SL.val (Val.pickF rfl rfl) rfl rfl ?_
      refine SL.nil ?_
      refine SE.seq ?_
      refine SC.condP rfl ?_ ?_
      · intro hc22
        refine SC.seq ?_
        refine SC.region ?_
        refine SL.val (Val.assign rfl) rfl rfl ?_
        refine SL.nil ?_
        refine SE.seq ?_
        refine SC.ret ?_
        refine SE.ret ?_
        refine SE.then_ (by intro h; cases h) ?_
        refine SE.then_ (by intro h; cases h) ?_
        refine SE.ret ?_
        refine SE.then_ (by intro h; cases h) ?_
        refine SE.ret1 rfl rfl ?_
        intro w' hw'
        exact ⟨_, rfl, by simp, hw'.sub (fun _ h => h) (List.sublist_cons_self _ _)⟩
      · intro hc22
        refine SC.skip ?_
        refine SE.inBlock ?_
        refine SE.seq ?_
        refine SC.region ?_
        first
          | refine SL.val (Val.addI rfl rfl (by simp only [InR, lo, hi]; omega)) rfl rfl ?_
          | refine SL.val (Val.addW rfl rfl) rfl rfl ?_
        refine SL.val (Val.move rfl) rfl rfl ?_
        refine SL.nil ?_
        refine SE.round (k + 1) (by omega) (by exact ⟨rfl, rfl, rfl, rfl, trivial⟩) (fun w' hw' => ⟨⟨hlt, ?_⟩, hw'.sub (fun _ h => h) (List.sublist_cons_self _ _)⟩)
        intro e he
        rw [List.take_succ_eq_append_getElem hlt, List.mem_append] at he
        rcases he with he | he
        · exact hk2 e he
        · rw [List.mem_singleton.1 he]
          exact ⟨by omega, by omega⟩
  · intro hc8
    refine SC.exit ?_
    refine SE.then_ (by intro h; cases h) ?_
    refine SE.then_ (by intro h; cases h) ?_
    refine SE.exit ?_
    refine SE.seq ?_
    refine SC.seq ?_
    refine SC.region ?_
    refine SL.val (Val.move rfl) rfl rfl ?_
    refine SL.val (Val.lenSl rfl Try.underlying89) rfl rfl ?_
    refine SL.val (Val.leI rfl rfl) rfl rfl ?_
    refine SL.val (Val.assign rfl) rfl rfl ?_
    refine SL.nil ?_
    refine SE.seq ?_
    refine SC.ret ?_
    refine SE.ret1 rfl rfl ?_
    intro w' hw'
    refine ⟨_, rfl, fun h => ⟨by have := of_decide_eq_true h; omega, ?_⟩, hw'⟩
    rw [List.take_of_length_le (by omega)] at hk2
    exact hk2
end
set_option maxHeartbeats 1000000 in
theorem back_walk (w : World) (v : Value) (es : List Ent) (n : Int) (hv : IsRow [] w v es.length (es.flatMap Ent.cells)) (hs : ∀ e ∈ es, e.Lits) : Calls Try.prog 13 #[v, .int .i64 n] w fun e w' => e = .returned (.bool true) ∧ Ext [] w w' := by
  have hw : Mem [(w, [])] [] [entsD v es] w := (Mem.start w).add (z := entsD v es) hv
  obtain ⟨A, c, rfl, hs1, hs2, hs3⟩ := hv.shape
  have hL : lots = 100000000000 := rfl
  refine calls_of [.slice A es.length c, .int .i64 n] Try.func13 rfl Try.ntmps13 rfl (Mem [(w, [])] [] [entsD (.slice A es.length c) es]) hw ?_
  refine SC.seq ?_
  refine SC.region ?_
  refine SL.val (Val.assign rfl) rfl rfl ?_
  refine SL.nil ?_
  refine SE.seq ?_
  refine SC.seq ?_
  refine SC.seq ?_
  refine SC.region ?_
  refine SL.call (by kernel_rfl) rfl rfl rfl ?_
  intro w' hw
  refine (fixed15_c hw).mono ?_; rintro _ _ ⟨rfl, hm⟩; refine ⟨_, _, rfl, hm, ?_⟩; clear hm hw w'
  refine SL.val (Val.notT rfl) rfl rfl ?_
  refine SL.nil ?_
  refine SE.seq ?_
  refine SC.condF rfl ?_
  refine SC.skip ?_
  refine SE.seq ?_
  refine SC.seq ?_
  refine SC.seq ?_
  refine SC.region ?_
  refine SL.val (Val.move rfl) rfl rfl ?_
  refine SL.call (by kernel_rfl) rfl rfl rfl ?_
  intro w' hw
  refine (few_c (es := es) hw (by repeat (first | assumption | exact List.mem_cons_self | exact hmem _ | apply List.mem_cons_of_mem))).mono ?_; rintro _ _ ⟨b, rfl, hb, hm⟩; refine ⟨_, _, rfl, hm, ?_⟩; clear hm hw w'
  refine SL.val (Val.notB rfl) rfl rfl ?_
  refine SL.nil ?_
  refine SE.seq ?_
  refine SC.cond rfl ?_ ?_
  · intro hc12
    refine SC.seq ?_
    refine SC.region ?_
    refine SL.val (Val.assign rfl) rfl rfl ?_
    refine SL.nil ?_
    refine SE.seq ?_
    refine SC.ret ?_
    refine SE.then_ (by intro h; cases h) ?_
    refine SE.ret1 rfl rfl ?_
    intro w' hw'
    exact ⟨rfl, hw'.ext _ List.mem_cons_self⟩
  · intro hc12
    have hfew := hb (by simpa using hc12)
    have hF : ∀ e ∈ es, e.Few := fun e he => ⟨(hs e he).mask, by have := (hfew.2 e he).1; omega, by have := (hfew.2 e he).2; omega⟩
    have hlen : (batchB es).length ≤ 900000 := by
      have h1 := ents_length hF
      have h2 := hfew.1
      unfold batchB
      rw [List.length_append, beBytes_length]
      omega
    refine SC.skip ?_
    refine SE.seq ?_
    refine SC.seq ?_
    refine SC.region ?_
    refine SL.val (Val.move rfl) rfl rfl ?_
    refine SL.call (by kernel_rfl) rfl rfl rfl ?_
    intro w' hw
    refine (batchBytes_c (es := es) hw (by repeat (first | assumption | exact List.mem_cons_self | exact hmem _ | apply List.mem_cons_of_mem)) (by have := hfew.1; omega) hF).mono ?_; rintro _ _ ⟨r, rfl, hm⟩; refine ⟨_, _, rfl, hm, ?_⟩; clear hm hw w'
    refine SL.val (Val.assign rfl) rfl rfl ?_
    refine SL.nil ?_
    refine SE.seq ?_
    refine SC.seq ?_
    refine SC.seq ?_
    refine SC.draw _ (.q 0 (.q 1 (.q 3 (.q 4 (.e 2 (.e 5 (.q 6 (.q 7 (.q 8 (.q 9 (.q 10 (.e 11 (.q 12 (.q 13 (.q 14 .nil))))))))))))))) (by kernel_rfl) (by kernel_rfl) (fun _ h => h) (fun _ h => h.drew) ?_
    refine SX.val rfl (Val.move rfl) rfl rfl ?_
    refine SX.val rfl (Val.move rfl) rfl rfl ?_
    refine SX.val rfl (Val.move rfl) rfl rfl ?_
    refine SX.val rfl (Val.move rfl) rfl rfl ?_
    refine SX.call rfl (by kernel_rfl) rfl rfl rfl ?_
    intro w' hw
    refine (batchCheck_c (es := es) hw (by repeat (first | assumption | exact List.mem_cons_self | exact hmem _ | apply List.mem_cons_of_mem)) (by have := hfew.1; omega)).mono ?_; rintro _ _ ⟨rfl, hm⟩; refine ⟨_, _, rfl, hm, _, fun _ h => h, fun _ h => h, ?_⟩; clear hm hw w'
    refine SX.call rfl (by kernel_rfl) rfl rfl rfl ?_
    intro w' hw
    refine (rbatchCheck_c (es := es) hw (by repeat (first | assumption | exact List.mem_cons_self | exact hmem _ | apply List.mem_cons_of_mem)) (by have := hfew.1; omega) (fun e he => by have := (hfew.2 e he).1; omega)).mono ?_; rintro _ _ ⟨rfl, hm⟩; refine ⟨_, _, rfl, hm, _, fun _ h => h, fun _ h => h, ?_⟩; clear hm hw w'
    refine SX.val rfl (Val.to (u := .bool false) (Val.neI rfl rfl) (by simp)) rfl rfl ?_
    refine SX.val rfl (Val.move rfl) rfl rfl ?_
    refine SX.val rfl (Val.move rfl) rfl rfl ?_
    refine SX.val rfl (Val.strOf rfl (by repeat (first | assumption | exact List.mem_cons_self | exact hmem _ | apply List.mem_cons_of_mem))) rfl rfl ?_
    refine SX.val rfl (Val.move rfl) rfl rfl ?_
    refine SX.call rfl (by kernel_rfl) rfl rfl rfl ?_
    intro w' hw
    refine (rbatchBytes_c (es := es) hw (by repeat (first | assumption | exact List.mem_cons_self | exact hmem _ | apply List.mem_cons_of_mem)) (by have := hfew.1; omega) hF).mono ?_; rintro _ _ ⟨r2, rfl, hm⟩; refine ⟨_, _, rfl, hm, _, fun _ h => h.less (fun x hx => List.mem_cons_of_mem _ hx), fun _ h => h, ?_⟩; clear hm hw w'
    refine SX.val rfl (Val.strOf rfl (by repeat (first | assumption | exact List.mem_cons_self | exact hmem _ | apply List.mem_cons_of_mem))) rfl rfl ?_
    refine SX.val rfl (Val.to (u := .bool false) (Val.neS rfl rfl) (by simp)) rfl rfl ?_
    refine SX.val rfl (Val.pickF rfl rfl) rfl rfl ?_
    refine SX.nil ?_
    refine SE.seq ?_
    refine SC.condF rfl ?_
    refine SC.skip ?_
    refine SE.seq ?_
    refine SC.seq ?_
    refine SC.region ?_
    refine SL.val (Val.move rfl) rfl rfl ?_
    refine SL.val (Val.move rfl) rfl rfl ?_
    refine SL.call (by kernel_rfl) rfl rfl rfl ?_
    intro w' hw
    refine (parse_own (l := batchB es) (n := n) hw (by repeat (first | assumption | exact List.mem_cons_self | exact hmem _ | apply List.mem_cons_of_mem)) hlen).mono ?_; rintro _ _ ⟨r3, rfl, hm⟩; refine ⟨_, _, rfl, hm, ?_⟩; clear hm hw w'
    refine SL.val (Val.move rfl) rfl rfl ?_
    refine SL.val (Val.extract rfl rfl) rfl rfl ?_
    refine SL.val (Val.extract rfl rfl) rfl rfl ?_
    refine SL.val (Val.assign rfl) rfl rfl ?_
    refine SL.val (Val.assign rfl) rfl rfl ?_
    refine SL.nil ?_
    refine SE.seq ?_
    refine SC.seq ?_
    refine SC.region ?_
    refine SL.val (Val.move rfl) rfl rfl ?_
    refine SL.val (Val.move rfl) rfl rfl ?_
    refine SL.call (by kernel_rfl) rfl rfl rfl ?_
    intro w' hw
    refine (rbatchCheck_c (es := es) hw (by repeat (first | assumption | exact List.mem_cons_self | exact hmem _ | apply List.mem_cons_of_mem)) (by have := hfew.1; omega) (fun e he => by have := (hfew.2 e he).1; omega)).mono ?_; rintro _ _ ⟨rfl, hm⟩; refine ⟨_, _, rfl, hm, ?_⟩; clear hm hw w'
    refine SL.val (Val.neI rfl rfl) rfl rfl ?_
    refine SL.val (Val.move rfl) rfl rfl ?_
    refine SL.bothP (t := 40) rfl ?_ ?_
    · intro hc40
      refine SL.skip rfl rfl ?_
      refine SL.skip rfl rfl ?_
      refine SL.skip rfl rfl ?_
      refine SL.skip rfl rfl ?_
      refine SL.skip rfl rfl ?_
      refine SL.skip rfl rfl ?_
      refine SL.skip rfl rfl ?_
      refine SL.val (Val.pickT rfl rfl) rfl rfl ?_
      refine SL.val (Val.assign rfl) rfl rfl ?_
      refine SL.nil ?_
      refine SE.seq ?_
      refine SC.ret ?_
      refine SE.ret1 rfl rfl ?_
      intro w' hw'
      exact ⟨rfl, hw'.ext _ List.mem_cons_self⟩
    · intro hc40
      refine SL.val (Val.move rfl) rfl rfl ?_
      refine SL.val (Val.to (u := .bool true) (Val.eqI rfl rfl) (by rw [parse_back hs (Decidable.not_not.1 hc40)]; rfl)) rfl rfl ?_
      refine SL.val (Val.move rfl) rfl rfl ?_
      refine SL.val (Val.move rfl) rfl rfl ?_
      refine SL.val (Val.move rfl) rfl rfl ?_
      refine SL.call (by kernel_rfl) rfl rfl rfl ?_
      intro w' hw
      have hp := parse_back hs (Decidable.not_not.1 hc40)
      refine (rsame_at (es := es) (fs := es) (u := r3) hw (hw.data (z := entsD (.slice A es.length c) es) (by repeat (first | assumption | exact List.mem_cons_self | exact hmem _ | apply List.mem_cons_of_mem))) (by have h := hw.ownRow (e := 139) (size := 8) (v := r3) (k := (parseS (batchB es) n).1.length) (cs := (parseS (batchB es) n).1.flatMap Ent.cells) (by repeat (first | assumption | exact List.mem_cons_self | exact hmem _ | apply List.mem_cons_of_mem)); rw [hp] at h; exact h) (by have := hfew.1; omega) hs hs).mono ?_; rintro _ _ ⟨he, hm⟩; rw [decide_eq_true rfl] at he; subst he; refine ⟨_, _, rfl, hm, ?_⟩; clear hm hw w'
      refine SL.val (Val.pickT rfl rfl) rfl rfl ?_
      refine SL.val (Val.pickF rfl rfl) rfl rfl ?_
      refine SL.val (Val.assign rfl) rfl rfl ?_
      refine SL.nil ?_
      refine SE.seq ?_
      refine SC.ret ?_
      refine SE.ret1 rfl rfl ?_
      intro w' hw'
      exact ⟨rfl, hw'.ext _ List.mem_cons_self⟩
end Go.Proofs.Ytdbeinbgekdnmaa
namespace Go.Proofs.Ytdbeinbgekdnmaa
open Go.RowKit Go.ChangeShapes Go.WideShapes Go.ChangeAt
theorem wf_in {a : Int} (h : (Lit.int .i64 a).wf = true) : InR .i64 a := by
  have := bounds_i64 h
  simp only [InR, lo, hi]
  omega
theorem ent_leaves : leaves Try.prog 4 139 = some [3, 2, 3, 9, 2, 2, 9, 137] := by kernel_rfl
theorem open_ent {H : Type} {enc : TypeId × Value → H} {w : World} {base : Nat} {spare : Nat → Bool} {held : Bool} (cs : List Value) (hl : cs.length = Try.prog.cellsOf 139)
    (h : ∃ m y, DataW.trod enc Try.prog w base spare held m 139 cs = some y) : ∃ e : Ent, cs = e.cells ∧ e.Lits := by
  obtain ⟨fuel, x, h⟩ := h
  rw [show Try.prog.cellsOf 139 = 8 by kernel_rfl] at hl
  have hh := leaves_trod 4 _ _ _ _ _ ent_leaves (by simpa using hl.symm) h
  match cs, hl with
  | [v0, v1, v2, v3, v4, v5, v6, v7], _ =>
    obtain ⟨n0, rfl, b0⟩ := (hh 0 v0 _ rfl rfl).int Try.underlying3
    obtain ⟨n1, rfl, b1⟩ := (hh 1 v1 _ rfl rfl).int Try.underlying2
    obtain ⟨n2, rfl, b2⟩ := (hh 2 v2 _ rfl rfl).int Try.underlying3
    obtain ⟨s3, rfl, b3⟩ := (hh 3 v3 _ rfl rfl).string Try.underlying9
    obtain ⟨n4, rfl, b4⟩ := (hh 4 v4 _ rfl rfl).int Try.underlying2
    obtain ⟨n5, rfl, b5⟩ := (hh 5 v5 _ rfl rfl).int Try.underlying2
    obtain ⟨s6, rfl, b6⟩ := (hh 6 v6 _ rfl rfl).string Try.underlying9
    obtain ⟨n7, rfl, b7⟩ := (hh 7 v7 _ rfl rfl).int Try.underlying137
    simp only [Lit.wf, Bool.and_eq_true, decide_eq_true_eq] at b7
    have c0 : (0 : Int) ≤ n7 := b7.1
    have c1 : n7 ≤ (4294967295 : Int) := b7.2
    obtain ⟨m, rfl⟩ : ∃ m : Nat, n7 = m := ⟨n7.toNat, by omega⟩
    exact ⟨⟨⟨n0, n1, n2, s3, n4, n5, s6⟩, m⟩, rfl, ⟨wf_in b0, wf_in b1, wf_in b2, wf_in b4, wf_in b5, b3, b6, by show m < 4294967296; omega⟩⟩
/-- Entries that come in, as a row. -/
theorem open_ents {H : Type} {enc : TypeId × Value → H} {w : World} {base : Nat} {spare : Nat → Bool} {held : Bool} {fuel : Nat} {A : Option Addr} {n c : Nat} {x : DataW H × List MemPlace} (h : DataW.trod enc Try.prog w base spare held fuel 89 [.slice A n c] = some x) :
    ∃ es : List Ent, IsRow [] w (.slice A n c) es.length (es.flatMap Ent.cells) ∧ ∀ e ∈ es, e.Lits := by
  obtain ⟨h1, h2, es, h3, h4, h5⟩ := open_rowOf (cells := Ent.cells) (Ok := Ent.Lits) Try.underlying89 h (fun cs hl hh => open_ent cs hl hh)
  subst h3
  refine ⟨es, ⟨⟨A, c, rfl, h1, h2, open_none Try.underlying89 h⟩, fun hn => ?_⟩, h5⟩
  obtain ⟨b, off, rfl, hc⟩ := h4 hn
  exact ⟨b, off, _, _, rfl, by simp, hc⟩

set_option maxRecDepth 100000 in
theorem BatchBack_args (H : Type) (enc : TypeId × Value → H) (W : World) (base : Nat) (args : Array Value) (ds : List (DataW H)) (p : List MemPlace)
    (hval : ∀ (j : Nat) t v, Try.f13.params[j]? = some t → args[j]? = some v → Value.okWide Try.prog W .any base t v)
    (hA : DataW.TrodAll enc Try.prog W 0 (fun _ => true) true Try.f13.params.toList args.toList ds p)
    (_hsz : (DataW.weightsEach Try.prog Try.f13.params.toList ds).all (· ≤ reachBytes) = true) :
    Calls Try.prog 13 args W fun e W' => e = .returned (.bool true) ∧ Ext [] W W' := by
  rw [Try.params13] at hA hval
  obtain ⟨v0, vs0, d0, ds0, p0, q0, hargs, rfl, rfl, h0, r0⟩ := trodAll_cons hA
  obtain ⟨v1, vs1, d1, ds1, p1, q1, rfl, rfl, rfl, h1, r1⟩ := trodAll_cons r0
  obtain ⟨rfl, rfl, rfl⟩ := trodAll_nil r1
  obtain rfl : args = #[v0, v1] := by cases args; simp_all
  obtain ⟨a1, rfl, rfl, rfl, w1⟩ := open_int Try.underlying3 (hval 1 3 v1 rfl rfl) h1
  obtain ⟨A0, n0, c0, rfl⟩ := okWide_slice Try.underlying89 (hval 0 89 v0 rfl rfl)
  obtain ⟨fuel0, hf0⟩ := h0
  obtain ⟨es, hr, hs⟩ := open_ents hf0
  exact back_walk W _ es a1 hr hs

set_option maxRecDepth 100000 in
theorem BatchBack_lifted (os : Os) (started : os.Started) (H : Type) (enc : TypeId × Value → H) :
    ReturnsInHanded {} Try.checked os 13 .any (Rows.batchBackSpec.pre6 enc Try.prog Try.f13 Rows.batchBackRow.domain false) (Rows.batchBackSpec.post enc Try.prog Try.f13 false true false false) :=
  law_lift (s := Rows.batchBackSpec) started (by kernel_rfl) Try.func13 rfl rfl (by kernel_rfl) (fun ds h => match ds, h with | [_, _], _ => rfl)
    (ChangeSpec.witness6 (enc := enc) (C := Try.checked) false ⟨#[], #[.slice none 0 0, .int .i64 0], []⟩ 8 (by kernel_rfl) (by kernel_rfl) (by kernel_rfl) (by kernel_rfl))
    (fun W base args ds p hval hA hsz => BatchBack_args H enc W base args ds p hval hA hsz)
theorem BatchBack_holds : Rows.BatchBackSaid :=
  OpenClaim.holds_of_wide 13 Try.f13 rfl rfl rfl rfl rfl rfl rfl ⟨rfl, rfl, rfl, rfl, rfl⟩ rfl rfl rfl rfl rfl (by kernel_rfl) Try.func13 (by kernel_rfl)
    (of_decide_eq_true (by kernel_rfl)) (by unfold Func.isWrapper; first | (rw [if_pos (by decide +kernel)]; kernel_rfl) | (rw [if_neg (by decide +kernel)]; exact ⟨rfl, rfl⟩))
    (fun os started H enc _ => BatchBack_lifted os started H enc)
#print axioms BatchBack_holds
end Go.Proofs.Ytdbeinbgekdnmaa
