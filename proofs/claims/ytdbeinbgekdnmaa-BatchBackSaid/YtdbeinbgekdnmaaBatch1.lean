/-
  Batches: whether they may be: the program's and the document's, over the engine.
-/
import Derived.Test.YtdbeinbgekdnmaaCores
set_option maxRecDepth 100000
namespace Go.Proofs.Ytdbeinbgekdnmaa
open Go.RowKit

structure Ent where
  core : Core
  mask : Nat
def Ent.cells (e : Ent) : List Value := [.int .i64 e.core.client, .int .i64 e.core.stamp, .int .i64 e.core.op, .string e.core.letter, .int .i64 e.core.a, .int .i64 e.core.b, .string e.core.text, .int .u32 e.mask]
theorem Ent.one (e : Ent) : ∀ u ∈ e.cells, u.oneCell' = true := by
  intro u hu
  simp only [Ent.cells, List.mem_cons, List.not_mem_nil, or_false] at hu
  rcases hu with rfl | rfl | rfl | rfl | rfl | rfl | rfl | rfl <;> rfl
/-- A row of entries that is read. -/
abbrev entsD (v : Value) (es : List Ent) : Dt := rowD v es.length (es.flatMap Ent.cells)
/-- Whether entries may be, behind a client. -/
def chkL (n : Int) : Option Int → List Ent → Int
  | _, [] => 0
  | p, e :: es => if e.core.check n ≠ 0 then e.core.check n else if 2 ^ n.toNat ≤ e.mask then 5 else if (match p with | some c => decide (e.core.client ≤ c) | none => false) = true then 15 else chkL n (some e.core.client) es
def chkB (es : List Ent) (n : Int) : Int := if n < 1 ∨ 7 < n then 1 else if 4 < es.length then 4 else chkL n none es
/-- The client ahead. -/
def ahead (es : List Ent) (k : Nat) : Option Int := if k = 0 then none else (es[k - 1]?).map (·.core.client)
theorem chkL_at {n : Int} {es : List Ent} {k : Nat} (h : k < es.length) : chkL n (ahead es k) (es.drop k) = if es[k].core.check n ≠ 0 then es[k].core.check n else if 2 ^ n.toNat ≤ es[k].mask then 5 else if 0 < k ∧ es[k].core.client ≤ (es[k - 1]'(by omega)).core.client then 15 else chkL n (ahead es (k + 1)) (es.drop (k + 1)) := by
  rw [List.drop_eq_getElem_cons h]
  simp only [chkL]
  have e1 : ahead es (k + 1) = some es[k].core.client := by simp [ahead, h]
  rw [e1]
  congr 2
  by_cases hk : k = 0
  · subst hk; simp [ahead]
  · have h0 : 0 < k := by omega
    have e2 : ahead es k = some (es[k - 1]'(by omega)).core.client := by
      simp only [ahead, if_neg hk]
      rw [List.getElem?_eq_getElem (by omega)]
      rfl
    rw [e2]
    simp [h0]
theorem shr_mask {m : Nat} {n : Int} (h1 : 1 ≤ n) (h7 : n ≤ 7) : ((m : Int).fdiv (2 ^ (min n.toNat 32)) ≠ 0) ↔ 2 ^ n.toNat ≤ m := by
  obtain ⟨k, rfl⟩ : ∃ k : Nat, n = k := ⟨n.toNat, by omega⟩
  rw [Int.toNat_natCast, Nat.min_eq_left (by omega), Int.fdiv_eq_ediv_of_nonneg _ (Int.pow_nonneg (by decide))]
  rw [show (2 : Int) ^ k = ((2 ^ k : Nat) : Int) by simp, ← Int.natCast_ediv]
  have h0 : 0 < 2 ^ k := Nat.pow_pos (by omega)
  have h2 : m / 2 ^ k = 0 ↔ m < 2 ^ k := by rw [Nat.div_eq_zero_iff]; omega
  omega
/-- A power of 2. -/
def pw (q : Nat) : Nat := 2 ^ q
theorem pw_succ (q : Nat) : ((pw (q + 1) : Nat) : Int) = ((pw q : Nat) : Int) * 2 := by unfold pw; rw [Nat.pow_succ]; simp
theorem pw_le {q : Nat} (h : q ≤ 6) : pw q ≤ 64 := by
  unfold pw
  rcases (by omega : q = 0 ∨ q = 1 ∨ q = 2 ∨ q = 3 ∨ q = 4 ∨ q = 5 ∨ q = 6) with h | h | h | h | h | h | h <;> rw [h] <;> decide
section
variable {S : List (World × List Nat)} {σ τ : Blks} {ρ : List Dt} {w : World}

set_option maxHeartbeats 1000000 in
theorem batchCheck_c {v : Value} {es : List Ent} {n : Int} (hw : Mem S σ ρ w) (he : entsD v es ∈ ρ) (hl : es.length ≤ 1000000) : Calls Try.prog 69 #[v, .int .i64 n] w fun e w' => e = .returned (.int .i64 (chkB es n)) ∧ Mem S σ ρ w' := by
  obtain ⟨A, c, rfl, hs1, hs2, hs3⟩ := (hw.data he).shape
  have hA : es ≠ [] → ∃ b off, A = some ⟨b, off, none⟩ := fun h => row_at (hw.data he) (by cases es with | nil => exact absurd rfl h | cons e es => simp [Ent.cells])
  refine calls_of [.slice A es.length c, .int .i64 n] Try.func69 rfl Try.ntmps69 rfl (Mem S σ ρ) hw ?_
  refine SC.seq ?_
  refine SC.region ?_
  refine SL.val (Val.assign rfl) rfl rfl ?_
  refine SL.nil ?_
  refine SE.seq ?_
  refine SC.seq ?_
  refine SC.block ?_
  refine SC.seq ?_
  refine SC.region ?_
  refine SL.val (Val.move rfl) rfl rfl ?_
  refine SL.val (Val.ltI rfl rfl) rfl rfl ?_
  refine SL.val (Val.move rfl) rfl rfl ?_
  refine SL.bothP (t := 11) rfl ?_ ?_
  · intro hc11
    refine SL.skip rfl rfl ?_
    refine SL.skip rfl rfl ?_
    refine SL.val (Val.pickT rfl rfl) rfl rfl ?_
    refine SL.val (Val.assign rfl) rfl rfl ?_
    refine SL.nil ?_
    refine SE.seq ?_
    refine SC.condT rfl ?_
    refine SC.seq ?_
    refine SC.region ?_
    refine SL.val (Val.assign rfl) rfl rfl ?_
    refine SL.nil ?_
    refine SE.seq ?_
    refine SC.ret ?_
    refine SE.ret ?_
    refine SE.then_ (by intro h; cases h) ?_
    refine SE.ret1 rfl rfl ?_
    intro w' hw'
    refine ⟨?_, hw'⟩; congr 2; unfold chkB; rw [if_pos (by omega)]
  · intro hc11
    refine SL.val (Val.move rfl) rfl rfl ?_
    refine SL.val (Val.gtI rfl rfl) rfl rfl ?_
    refine SL.val (Val.pickF rfl rfl) rfl rfl ?_
    refine SL.val (Val.assign rfl) rfl rfl ?_
    refine SL.nil ?_
    refine SE.seq ?_
    refine SC.condP rfl ?_ ?_
    · intro hc8
      refine SC.seq ?_
      refine SC.region ?_
      refine SL.val (Val.assign rfl) rfl rfl ?_
      refine SL.nil ?_
      refine SE.seq ?_
      refine SC.ret ?_
      refine SE.ret ?_
      refine SE.then_ (by intro h; cases h) ?_
      refine SE.ret1 rfl rfl ?_
      intro w' hw'
      refine ⟨?_, hw'⟩; congr 2; unfold chkB; rw [if_pos (by omega)]
    · intro hc8
      refine SC.seq ?_
      refine SC.region ?_
      refine SL.val (Val.move rfl) rfl rfl ?_
      refine SL.val (Val.lenSl rfl Try.underlying89) rfl rfl ?_
      refine SL.val (Val.gtI rfl rfl) rfl rfl ?_
      refine SL.val (Val.assign rfl) rfl rfl ?_
      refine SL.nil ?_
      refine SE.seq ?_
      refine SC.condP rfl ?_ ?_
      · intro hc15
        refine SC.seq ?_
        refine SC.region ?_
        refine SL.val (Val.assign rfl) rfl rfl ?_
        refine SL.nil ?_
        refine SE.seq ?_
        refine SC.ret ?_
        refine SE.ret ?_
        refine SE.then_ (by intro h; cases h) ?_
        refine SE.ret1 rfl rfl ?_
        intro w' hw'
        refine ⟨?_, hw'⟩; congr 2; unfold chkB; rw [if_neg (by omega), if_pos (by omega)]
      · intro hc15
        refine SC.skip ?_
        refine SE.inBlock ?_
        refine SE.seq ?_
        refine SC.seq ?_
        refine SC.seq ?_
        refine SC.region ?_
        refine SL.val (Val.move rfl) rfl rfl ?_
        refine SL.val (Val.lenSl rfl Try.underlying89) rfl rfl ?_
        refine SL.val (Val.move rfl) rfl rfl ?_
        refine SL.nil ?_
        refine SE.seq ?_
        refine SC.block ?_
        refine SC.loop (ι := Nat) (fun k => [(0, .slice A es.length c), (1, .int .i64 n), (19, .slice A es.length c), (20, .int .i64 (es.length : Nat)), (21, .int .i64 (k : Nat))]) (fun k w' => (k ≤ es.length ∧ chkL n none es = chkL n (ahead es k) (es.drop k)) ∧ Mem S σ ρ w') (fun k => es.length - k) 0 (by exact ⟨rfl, rfl, rfl, rfl, rfl, trivial⟩) (fun w' hw' => ⟨⟨Nat.zero_le _, rfl⟩, hw'⟩) ?_
        intro k
        refine SC.facts ?_
        rintro ⟨hk, hk2⟩
        refine SC.seq ?_
        refine SC.region ?_
        refine SL.val (Val.ltI rfl rfl) rfl rfl ?_
        refine SL.nil ?_
        refine SE.seq ?_
        refine SC.seq ?_
        refine SC.condP rfl ?_ ?_
        · intro hc22
          have hlt : k < es.length := by omega
          have hat := chkL_at (n := n) hlt
          obtain ⟨bb, off, rfl⟩ := hA (by intro h0; rw [h0] at hlt; simp at hlt)
          refine SC.skip ?_
          refine SE.seq ?_
          refine SC.seq ?_
          refine SC.block ?_
          refine SC.seq ?_
          refine SC.region ?_
          refine SL.val (Val.move rfl) rfl rfl ?_
          first
            | refine SL.val (Val.indexSlN tabOk Try.underlying89 rfl rfl rfl (by omega)) rfl rfl ?_
            | refine SL.val (Val.indexSl tabOk Try.underlying89 rfl rfl rfl (by omega)) rfl rfl ?_
          refine SL.val (Val.loadAD (f := Ent.cells) tabOk rfl rfl rfl (by repeat (first | assumption | exact List.mem_cons_self | apply List.mem_cons_of_mem)) (fun _ => rfl) hlt) rfl rfl ?_
          refine SL.eff (Eff.alloc tabOk rfl) rfl rfl ?_
          rintro _ _ ⟨b6, rfl, rfl⟩
          refine SL.val (Val.assign rfl) rfl rfl ?_
          refine SL.eff (Eff.storeA (L' := (es[k]'hlt).cells) (vs := (es[k]'hlt).cells) tabOk rfl rfl rfl (by repeat (first | assumption | exact Upd.here | apply Upd.there)) (by rfl) (Nat.le_of_ble_eq_true (by rfl)) (Ent.one _) (by rfl)) rfl rfl ?_; rintro _ _ ⟨rfl, rfl⟩
          refine SL.nil ?_
          refine SE.seq ?_
          refine SC.seq ?_
          refine SC.seq ?_
          refine SC.region ?_
          refine SL.val (Val.fieldAddr tabOk rfl rfl rfl rfl rfl) rfl rfl ?_
          first
            | refine SL.val (Val.loadA tabOk rfl rfl rfl (by repeat (first | assumption | exact List.mem_cons_self | apply List.mem_cons_of_mem)) (by rfl)) rfl rfl ?_
            | refine SL.val (Val.loadAC tabOk rfl rfl rfl (by assumption) (by assumption)) rfl rfl ?_
            | refine SL.val (Val.loadP tabOk rfl rfl rfl (by repeat (first | assumption | exact List.mem_cons_self | apply List.mem_cons_of_mem)) (Nat.le_of_ble_eq_true (by rfl))) rfl rfl ?_
          refine SL.val (Val.move rfl) rfl rfl ?_
          refine SL.call (by kernel_rfl) rfl rfl rfl ?_
          intro w hw
          refine (check_c (c := (es[k]'hlt).core) hw).mono ?_; rintro _ _ ⟨rfl, hm⟩; refine ⟨_, _, rfl, hm, ?_⟩; clear hm hw w
          refine SL.val (Val.assign rfl) rfl rfl ?_
          refine SL.nil ?_
          refine SE.seq ?_
          refine SC.seq ?_
          refine SC.region ?_
          refine SL.val (Val.move rfl) rfl rfl ?_
          refine SL.val (Val.neI rfl rfl) rfl rfl ?_
          refine SL.nil ?_
          refine SE.seq ?_
          refine SC.condP rfl ?_ ?_
          · intro hc31
            refine SC.seq ?_
            refine SC.region ?_
            refine SL.val (Val.move rfl) rfl rfl ?_
            refine SL.val (Val.assign rfl) rfl rfl ?_
            refine SL.nil ?_
            refine SE.seq ?_
            refine SC.ret ?_
            refine SE.then_ (by intro h; cases h) ?_
            refine SE.ret ?_
            refine SE.then_ (by intro h; cases h) ?_
            refine SE.then_ (by intro h; cases h) ?_
            refine SE.ret ?_
            refine SE.then_ (by intro h; cases h) ?_
            refine SE.ret1 rfl rfl ?_
            intro w' hw'
            refine ⟨?_, hw'.sub (fun _ h => h) (List.sublist_cons_self _ _)⟩; congr 2; unfold chkB; rw [if_neg (by omega), if_neg (by omega), hk2, hat, if_pos hc31]
          · intro hc31
            refine SC.skip ?_
            refine SE.seq ?_
            refine SC.block ?_
            refine SC.seq ?_
            refine SC.region ?_
            refine SL.val (Val.fieldAddr tabOk rfl rfl rfl rfl rfl) rfl rfl ?_
            first
              | refine SL.val (Val.load1 tabOk rfl rfl (by repeat (first | assumption | exact List.mem_cons_self | apply List.mem_cons_of_mem)) (by rfl)) rfl rfl ?_
              | refine SL.val (Val.load1C tabOk rfl rfl (by assumption)) rfl rfl ?_
            refine SL.val (Val.move rfl) rfl rfl ?_
            first
              | refine SL.val (Val.convI rfl Try.underlying99 (by kernel_rfl) (by simp only [InR, lo, hi]; omega)) rfl rfl ?_
              | refine SL.val (Val.convU rfl Try.underlying99 (by kernel_rfl)) rfl rfl ?_
            refine SL.val (Val.shrI rfl rfl (by omega)) rfl rfl ?_
            refine SL.val (Val.neI rfl rfl) rfl rfl ?_
            refine SL.val (Val.assign rfl) rfl rfl ?_
            refine SL.nil ?_
            refine SE.seq ?_
            refine SC.condP rfl ?_ ?_
            · intro hc33
              refine SC.seq ?_
              refine SC.region ?_
              refine SL.val (Val.assign rfl) rfl rfl ?_
              refine SL.nil ?_
              refine SE.seq ?_
              refine SC.ret ?_
              refine SE.ret ?_
              refine SE.ret ?_
              refine SE.then_ (by intro h; cases h) ?_
              refine SE.then_ (by intro h; cases h) ?_
              refine SE.ret ?_
              refine SE.then_ (by intro h; cases h) ?_
              refine SE.ret1 rfl rfl ?_
              intro w' hw'
              refine ⟨?_, hw'.sub (fun _ h => h) (List.sublist_cons_self _ _)⟩; congr 2; unfold chkB; rw [if_neg (by omega), if_neg (by omega), hk2, hat, if_neg hc31, if_pos ((shr_mask (by omega) (by omega)).1 hc33)]
            · intro hc33
              refine SC.seq ?_
              refine SC.draw _ (.q 0 (.q 1 (.q 2 (.q 3 (.q 4 (.q 5 (.q 6 (.q 7 (.q 8 (.q 9 (.q 10 (.q 11 (.q 12 (.q 13 (.q 14 (.q 15 .nil)))))))))))))))) (by kernel_rfl) (by kernel_rfl) (fun _ h => h) (fun _ h => h.drew) ?_
              refine SX.val rfl (Val.move rfl) rfl rfl ?_
              refine SX.val rfl (Val.gtI rfl rfl) rfl rfl ?_
              refine SX.val rfl (Val.move rfl) rfl rfl ?_
              refine SX.bothP (t := 43) rfl ?_ ?_
              · intro hc43
                refine SX.val rfl (Val.move rfl) rfl rfl ?_
                refine SX.val rfl (Val.move rfl) rfl rfl ?_
                refine SX.val rfl (Val.subNat (i := k) (j := 1) rfl rfl rfl (by omega) (by simp only [InR, lo, hi]; omega)) rfl rfl ?_
                first
                  | refine SX.val rfl (Val.indexSlN tabOk Try.underlying89 rfl rfl rfl (by omega)) rfl rfl ?_
                  | refine SX.val rfl (Val.indexSl tabOk Try.underlying89 rfl rfl rfl (by omega)) rfl rfl ?_
                refine SX.val rfl (Val.fieldAddr tabOk rfl rfl rfl rfl rfl) rfl rfl ?_
                refine SX.val rfl (Val.fieldAddr tabOk rfl rfl rfl rfl rfl) rfl rfl ?_
                refine SX.val rfl (Val.load1F (f := Ent.cells) (s := 8) (q := k - 1) (fo := 0) tabOk rfl rfl (by repeat (first | assumption | exact List.mem_cons_self | apply List.mem_cons_of_mem)) (fun _ => rfl) (by omega) (by rfl)) rfl rfl ?_
                refine SX.val rfl (Val.fieldAddr tabOk rfl rfl rfl rfl rfl) rfl rfl ?_
                refine SX.val rfl (Val.fieldAddr tabOk rfl rfl rfl rfl rfl) rfl rfl ?_
                first
                  | refine SX.val rfl (Val.load1 tabOk rfl rfl (by repeat (first | assumption | exact List.mem_cons_self | apply List.mem_cons_of_mem)) (by rfl)) rfl rfl ?_
                  | refine SX.val rfl (Val.load1C tabOk rfl rfl (by assumption)) rfl rfl ?_
                refine SX.val rfl (Val.geI rfl rfl) rfl rfl ?_
                refine SX.val rfl (Val.pickT rfl rfl) rfl rfl ?_
                refine SX.val rfl (Val.assign rfl) rfl rfl ?_
                refine SX.nil ?_
                refine SE.seq ?_
                refine SC.condP rfl ?_ ?_
                · intro hc40
                  refine SC.seq ?_
                  refine SC.region ?_
                  refine SL.val (Val.assign rfl) rfl rfl ?_
                  refine SL.nil ?_
                  refine SE.seq ?_
                  refine SC.ret ?_
                  refine SE.ret ?_
                  refine SE.ret ?_
                  refine SE.then_ (by intro h; cases h) ?_
                  refine SE.then_ (by intro h; cases h) ?_
                  refine SE.ret ?_
                  refine SE.then_ (by intro h; cases h) ?_
                  refine SE.ret1 rfl rfl ?_
                  intro w' hw'
                  refine ⟨?_, hw'.sub (fun _ h => h) (List.sublist_cons_self _ _)⟩; congr 2; unfold chkB; rw [if_neg (by omega), if_neg (by omega), hk2, hat, if_neg hc31, if_neg (fun h => hc33 ((shr_mask (by omega) (by omega)).2 h)), if_pos ⟨by omega, hc40⟩]
                · intro hc40
                  refine SC.skip ?_
                  refine SE.inBlock ?_
                  refine SE.inBlock ?_
                  refine SE.seq ?_
                  refine SC.region ?_
                  first
                    | refine SL.val (Val.addI rfl rfl (by simp only [InR, lo, hi]; omega)) rfl rfl ?_
                    | refine SL.val (Val.addW rfl rfl) rfl rfl ?_
                  refine SL.val (Val.move rfl) rfl rfl ?_
                  refine SL.nil ?_
                  have hnext : chkL n none es = chkL n (ahead es (k + 1)) (es.drop (k + 1)) := by
                    rw [hk2, hat, if_neg hc31, if_neg (fun h => hc33 ((shr_mask (by omega) (by omega)).2 h)), if_neg (fun h => hc40 h.2)]
                  exact SE.round (k + 1) (by omega) (by exact ⟨rfl, rfl, rfl, rfl, rfl, trivial⟩) (fun w' hw' => ⟨⟨hlt, hnext⟩, hw'.sub (fun _ h => h) (List.sublist_cons_self _ _)⟩)
              · intro hc43
                refine SX.skip rfl rfl rfl ?_
                refine SX.skip rfl rfl rfl ?_
                refine SX.skip rfl rfl rfl ?_
                refine SX.skip rfl rfl rfl ?_
                refine SX.skip rfl rfl rfl ?_
                refine SX.skip rfl rfl rfl ?_
                refine SX.skip rfl rfl rfl ?_
                refine SX.skip rfl rfl rfl ?_
                refine SX.skip rfl rfl rfl ?_
                refine SX.skip rfl rfl rfl ?_
                refine SX.skip rfl rfl rfl ?_
                refine SX.val rfl (Val.pickF rfl rfl) rfl rfl ?_
                refine SX.val rfl (Val.assign rfl) rfl rfl ?_
                refine SX.nil ?_
                refine SE.seq ?_
                refine SC.condF rfl ?_
                refine SC.skip ?_
                refine SE.inBlock ?_
                refine SE.inBlock ?_
                refine SE.seq ?_
                refine SC.region ?_
                first
                  | refine SL.val (Val.addI rfl rfl (by simp only [InR, lo, hi]; omega)) rfl rfl ?_
                  | refine SL.val (Val.addW rfl rfl) rfl rfl ?_
                refine SL.val (Val.move rfl) rfl rfl ?_
                refine SL.nil ?_
                have hnext : chkL n none es = chkL n (ahead es (k + 1)) (es.drop (k + 1)) := by
                  rw [hk2, hat, if_neg hc31, if_neg (fun h => hc33 ((shr_mask (by omega) (by omega)).2 h)), if_neg (fun h => hc43 (by omega))]
                exact SE.round (k + 1) (by omega) (by exact ⟨rfl, rfl, rfl, rfl, rfl, trivial⟩) (fun w' hw' => ⟨⟨hlt, hnext⟩, hw'.sub (fun _ h => h) (List.sublist_cons_self _ _)⟩)
        · intro hc22
          refine SC.exit ?_
          refine SE.then_ (by intro h; cases h) ?_
          refine SE.then_ (by intro h; cases h) ?_
          refine SE.exit ?_
          refine SE.seq ?_
          refine SC.seq ?_
          refine SC.region ?_
          refine SL.val (Val.assign rfl) rfl rfl ?_
          refine SL.nil ?_
          refine SE.seq ?_
          refine SC.ret ?_
          refine SE.ret1 rfl rfl ?_
          intro w' hw'
          refine ⟨?_, hw'⟩; congr 2; unfold chkB; rw [if_neg (by omega), if_neg (by omega), hk2, List.drop_eq_nil_of_le (by omega)]; rfl

set_option maxHeartbeats 1000000 in
theorem rbatchCheck_c {v : Value} {es : List Ent} {n : Int} (hw : Mem S σ ρ w) (he : entsD v es ∈ ρ) (hl : es.length ≤ 1000000) (hs : ∀ e ∈ es, e.core.letter.size ≤ lots) : Calls Try.prog 70 #[v, .int .i64 n] w fun e w' => e = .returned (.int .i64 (chkB es n)) ∧ Mem S σ ρ w' := by
  obtain ⟨A, c, rfl, hs1, hs2, hs3⟩ := (hw.data he).shape
  have hA : es ≠ [] → ∃ b off, A = some ⟨b, off, none⟩ := fun h => row_at (hw.data he) (by cases es with | nil => exact absurd rfl h | cons e es => simp [Ent.cells])
  refine calls_of [.slice A es.length c, .int .i64 n] Try.func70 rfl Try.ntmps70 rfl (Mem S σ ρ) hw ?_
  refine SC.seq ?_
  refine SC.region ?_
  refine SL.val (Val.assign rfl) rfl rfl ?_
  refine SL.nil ?_
  refine SE.seq ?_
  refine SC.seq ?_
  refine SC.seq ?_
  refine SC.region ?_
  refine SL.val (Val.move rfl) rfl rfl ?_
  refine SL.val (Val.ltI rfl rfl) rfl rfl ?_
  refine SL.val (Val.move rfl) rfl rfl ?_
  refine SL.bothP (t := 12) rfl ?_ ?_
  · intro hc12
    refine SL.skip rfl rfl ?_
    refine SL.skip rfl rfl ?_
    refine SL.val (Val.pickT rfl rfl) rfl rfl ?_
    refine SL.nil ?_
    refine SE.seq ?_
    refine SC.condT rfl ?_
    refine SC.seq ?_
    refine SC.region ?_
    refine SL.val (Val.assign rfl) rfl rfl ?_
    refine SL.nil ?_
    refine SE.seq ?_
    refine SC.ret ?_
    refine SE.then_ (by intro h; cases h) ?_
    refine SE.ret1 rfl rfl ?_
    intro w' hw'
    refine ⟨?_, hw'⟩; congr 2; unfold chkB; rw [if_pos (by omega)]
  · intro hc12
    refine SL.val (Val.move rfl) rfl rfl ?_
    refine SL.val (Val.gtI rfl rfl) rfl rfl ?_
    refine SL.val (Val.pickF rfl rfl) rfl rfl ?_
    refine SL.nil ?_
    refine SE.seq ?_
    refine SC.condP rfl ?_ ?_
    · intro hc15
      refine SC.seq ?_
      refine SC.region ?_
      refine SL.val (Val.assign rfl) rfl rfl ?_
      refine SL.nil ?_
      refine SE.seq ?_
      refine SC.ret ?_
      refine SE.then_ (by intro h; cases h) ?_
      refine SE.ret1 rfl rfl ?_
      intro w' hw'
      refine ⟨?_, hw'⟩; congr 2; unfold chkB; rw [if_pos (by omega)]
    · intro hc15
      refine SC.skip ?_
      refine SE.seq ?_
      refine SC.seq ?_
      refine SC.seq ?_
      refine SC.region ?_
      refine SL.val (Val.move rfl) rfl rfl ?_
      refine SL.val (Val.lenSl rfl Try.underlying89) rfl rfl ?_
      refine SL.val (Val.gtI rfl rfl) rfl rfl ?_
      refine SL.nil ?_
      refine SE.seq ?_
      refine SC.condP rfl ?_ ?_
      · intro hc18
        refine SC.seq ?_
        refine SC.region ?_
        refine SL.val (Val.assign rfl) rfl rfl ?_
        refine SL.nil ?_
        refine SE.seq ?_
        refine SC.ret ?_
        refine SE.then_ (by intro h; cases h) ?_
        refine SE.ret1 rfl rfl ?_
        intro w' hw'
        refine ⟨?_, hw'⟩; congr 2; unfold chkB; rw [if_neg (by omega), if_pos (by omega)]
      · intro hc18
        refine SC.skip ?_
        refine SE.seq ?_
        refine SC.seq ?_
        refine SC.region ?_
        refine SL.val (Val.assign rfl) rfl rfl ?_
        refine SL.nil ?_
        refine SE.seq ?_
        refine SC.seq ?_
        refine SC.seq ?_
        refine SC.region ?_
        refine SL.val (Val.assign rfl) rfl rfl ?_
        refine SL.nil ?_
        refine SE.seq ?_
        refine SC.block ?_
        refine SC.loop (ι := Nat) (fun q => [(0, .slice A es.length c), (1, .int .i64 n), (5, .int .u32 (pw q : Nat)), (6, .int .i64 (q : Nat))]) (fun q w' => (q : Int) ≤ n ∧ Mem S σ ρ w') (fun q => n.toNat - q) 0 (by exact ⟨rfl, rfl, rfl, rfl, trivial⟩) (fun w' hw' => ⟨by omega, hw'⟩) ?_
        intro q
        refine SC.facts ?_
        intro hq
        refine SC.seq ?_
        refine SC.seq ?_
        refine SC.region ?_
        refine SL.val (Val.move rfl) rfl rfl ?_
        refine SL.val (Val.move rfl) rfl rfl ?_
        refine SL.val (Val.ltI rfl rfl) rfl rfl ?_
        refine SL.nil ?_
        refine SE.seq ?_
        refine SC.condP rfl ?_ ?_
        · intro hc21
          have h7 : q ≤ 6 := by omega
          have hq1 := pw_le h7
          refine SC.skip ?_
          refine SE.seq ?_
          refine SC.seq ?_
          refine SC.block ?_
          refine SC.region ?_
          refine SL.val (Val.move rfl) rfl rfl ?_
          first
            | refine SL.val (Val.mulI rfl rfl (by simp only [InR, lo, hi]; omega)) rfl rfl ?_
            | refine SL.val (Val.mulW rfl rfl) rfl rfl ?_
          refine SL.val (Val.assign rfl) rfl rfl ?_
          refine SL.nil ?_
          refine SE.inBlock ?_
          refine SE.seq ?_
          refine SC.region ?_
          refine SL.val (Val.move rfl) rfl rfl ?_
          first
            | refine SL.val (Val.addI rfl rfl (by simp only [InR, lo, hi]; omega)) rfl rfl ?_
            | refine SL.val (Val.addW rfl rfl) rfl rfl ?_
          refine SL.val (Val.assign rfl) rfl rfl ?_
          refine SL.nil ?_
          exact SE.round (q + 1) (by omega) (by exact ⟨rfl, rfl, by show some (Value.int _ _) = some (Value.int _ _); rw [pw_succ], rfl, trivial⟩) (fun w' hw' => ⟨by omega, hw'⟩)
        · intro hc21
          have hqn : q = n.toNat := by omega
          subst hqn
          refine SC.exit ?_
          refine SE.then_ (by intro h; cases h) ?_
          refine SE.then_ (by intro h; cases h) ?_
          refine SE.exit ?_
          refine SE.seq ?_
          refine SC.seq ?_
          refine SC.seq ?_
          refine SC.region ?_
          refine SL.val (Val.move rfl) rfl rfl ?_
          refine SL.val (Val.lenSl rfl Try.underlying89) rfl rfl ?_
          refine SL.val (Val.move rfl) rfl rfl ?_
          refine SL.nil ?_
          refine SE.seq ?_
          refine SC.block ?_
          refine SC.loop (ι := Nat) (fun k => [(0, .slice A es.length c), (1, .int .i64 n), (5, .int .u32 (pw n.toNat : Nat)), (26, .slice A es.length c), (27, .int .i64 (es.length : Nat)), (28, .int .i64 (k : Nat))]) (fun k w' => (k ≤ es.length ∧ chkL n none es = chkL n (ahead es k) (es.drop k)) ∧ Mem S σ ρ w') (fun k => es.length - k) 0 (by exact ⟨rfl, rfl, rfl, rfl, rfl, rfl, trivial⟩) (fun w' hw' => ⟨⟨Nat.zero_le _, rfl⟩, hw'⟩) ?_
          intro k
          refine SC.facts ?_
          rintro ⟨hk, hk2⟩
          refine SC.seq ?_
          refine SC.region ?_
          refine SL.val (Val.ltI rfl rfl) rfl rfl ?_
          refine SL.nil ?_
          refine SE.seq ?_
          refine SC.seq ?_
          refine SC.condP rfl ?_ ?_
          · intro hc29
            have hlt : k < es.length := by omega
            have hat := chkL_at (n := n) hlt
            obtain ⟨bb, off, rfl⟩ := hA (by intro h0; rw [h0] at hlt; simp at hlt)
            refine SC.skip ?_
            refine SE.seq ?_
            refine SC.seq ?_
            refine SC.block ?_
            refine SC.seq ?_
            refine SC.region ?_
            refine SL.val (Val.move rfl) rfl rfl ?_
            first
              | refine SL.val (Val.indexSlN tabOk Try.underlying89 rfl rfl rfl (by omega)) rfl rfl ?_
              | refine SL.val (Val.indexSl tabOk Try.underlying89 rfl rfl rfl (by omega)) rfl rfl ?_
            refine SL.val (Val.loadAD (f := Ent.cells) tabOk rfl rfl rfl (by repeat (first | assumption | exact List.mem_cons_self | apply List.mem_cons_of_mem)) (fun _ => rfl) hlt) rfl rfl ?_
            refine SL.eff (Eff.alloc tabOk rfl) rfl rfl ?_
            rintro _ _ ⟨b8, rfl, rfl⟩
            refine SL.val (Val.assign rfl) rfl rfl ?_
            refine SL.eff (Eff.storeA (L' := (es[k]'hlt).cells) (vs := (es[k]'hlt).cells) tabOk rfl rfl rfl (by repeat (first | assumption | exact Upd.here | apply Upd.there)) (by rfl) (Nat.le_of_ble_eq_true (by rfl)) (Ent.one _) (by rfl)) rfl rfl ?_; rintro _ _ ⟨rfl, rfl⟩
            refine SL.nil ?_
            refine SE.seq ?_
            refine SC.seq ?_
            refine SC.seq ?_
            refine SC.region ?_
            refine SL.val (Val.fieldAddr tabOk rfl rfl rfl rfl rfl) rfl rfl ?_
            first
              | refine SL.val (Val.loadA tabOk rfl rfl rfl (by repeat (first | assumption | exact List.mem_cons_self | apply List.mem_cons_of_mem)) (by rfl)) rfl rfl ?_
              | refine SL.val (Val.loadAC tabOk rfl rfl rfl (by assumption) (by assumption)) rfl rfl ?_
              | refine SL.val (Val.loadP tabOk rfl rfl rfl (by repeat (first | assumption | exact List.mem_cons_self | apply List.mem_cons_of_mem)) (Nat.le_of_ble_eq_true (by rfl))) rfl rfl ?_
            refine SL.val (Val.move rfl) rfl rfl ?_
            refine SL.call (by kernel_rfl) rfl rfl rfl ?_
            intro w hw
            refine (rcheck_c (c := (es[k]'hlt).core) hw (hs _ (List.getElem_mem hlt))).mono ?_; rintro _ _ ⟨rfl, hm⟩; refine ⟨_, _, rfl, hm, ?_⟩; clear hm hw w
            refine SL.val (Val.assign rfl) rfl rfl ?_
            refine SL.nil ?_
            refine SE.seq ?_
            refine SC.seq ?_
            refine SC.region ?_
            refine SL.val (Val.move rfl) rfl rfl ?_
            refine SL.val (Val.neI rfl rfl) rfl rfl ?_
            refine SL.nil ?_
            refine SE.seq ?_
            refine SC.condP rfl ?_ ?_
            · intro hc38
              refine SC.seq ?_
              refine SC.region ?_
              refine SL.val (Val.move rfl) rfl rfl ?_
              refine SL.val (Val.assign rfl) rfl rfl ?_
              refine SL.nil ?_
              refine SE.seq ?_
              refine SC.ret ?_
              refine SE.then_ (by intro h; cases h) ?_
              refine SE.ret ?_
              refine SE.then_ (by intro h; cases h) ?_
              refine SE.then_ (by intro h; cases h) ?_
              refine SE.ret ?_
              refine SE.then_ (by intro h; cases h) ?_
              refine SE.ret1 rfl rfl ?_
              intro w' hw'
              refine ⟨?_, hw'.sub (fun _ h => h) (List.sublist_cons_self _ _)⟩; congr 2; unfold chkB; rw [if_neg (by omega), if_neg (by omega), hk2, hat, if_pos hc38]
            · intro hc38
              refine SC.skip ?_
              refine SE.seq ?_
              refine SC.seq ?_
              refine SC.seq ?_
              refine SC.region ?_
              refine SL.val (Val.fieldAddr tabOk rfl rfl rfl rfl rfl) rfl rfl ?_
              first
                | refine SL.val (Val.load1 tabOk rfl rfl (by repeat (first | assumption | exact List.mem_cons_self | apply List.mem_cons_of_mem)) (by rfl)) rfl rfl ?_
                | refine SL.val (Val.load1C tabOk rfl rfl (by assumption)) rfl rfl ?_
              refine SL.val (Val.move rfl) rfl rfl ?_
              refine SL.val (Val.geI rfl rfl) rfl rfl ?_
              refine SL.nil ?_
              refine SE.seq ?_
              refine SC.condP rfl ?_ ?_
              · intro hc43
                refine SC.seq ?_
                refine SC.region ?_
                refine SL.val (Val.assign rfl) rfl rfl ?_
                refine SL.nil ?_
                refine SE.seq ?_
                refine SC.ret ?_
                refine SE.then_ (by intro h; cases h) ?_
                refine SE.ret ?_
                refine SE.then_ (by intro h; cases h) ?_
                refine SE.then_ (by intro h; cases h) ?_
                refine SE.ret ?_
                refine SE.then_ (by intro h; cases h) ?_
                refine SE.ret1 rfl rfl ?_
                intro w' hw'
                refine ⟨?_, hw'.sub (fun _ h => h) (List.sublist_cons_self _ _)⟩; congr 2; unfold chkB; rw [if_neg (by omega), if_neg (by omega), hk2, hat, if_neg hc38, if_pos (by unfold pw at hc43; omega)]
              · intro hc43
                refine SC.skip ?_
                refine SE.seq ?_
                refine SC.seq ?_
                refine SC.draw _ (.q 0 (.q 1 (.q 2 (.q 3 (.q 4 (.q 5 (.q 6 (.q 7 (.q 8 (.q 9 (.q 10 (.q 11 (.q 12 (.q 13 (.q 14 .nil))))))))))))))) (by kernel_rfl) (by kernel_rfl) (fun _ h => h) (fun _ h => h.drew) ?_
                refine SX.val rfl (Val.move rfl) rfl rfl ?_
                refine SX.val rfl (Val.gtI rfl rfl) rfl rfl ?_
                refine SX.val rfl (Val.move rfl) rfl rfl ?_
                refine SX.bothP (t := 46) rfl ?_ ?_
                · intro hc46
                  refine SX.val rfl (Val.move rfl) rfl rfl ?_
                  refine SX.val rfl (Val.move rfl) rfl rfl ?_
                  refine SX.val rfl (Val.subNat (i := k) (j := 1) rfl rfl rfl (by omega) (by simp only [InR, lo, hi]; omega)) rfl rfl ?_
                  first
                    | refine SX.val rfl (Val.indexSlN tabOk Try.underlying89 rfl rfl rfl (by omega)) rfl rfl ?_
                    | refine SX.val rfl (Val.indexSl tabOk Try.underlying89 rfl rfl rfl (by omega)) rfl rfl ?_
                  refine SX.val rfl (Val.fieldAddr tabOk rfl rfl rfl rfl rfl) rfl rfl ?_
                  refine SX.val rfl (Val.fieldAddr tabOk rfl rfl rfl rfl rfl) rfl rfl ?_
                  refine SX.val rfl (Val.load1F (f := Ent.cells) (s := 8) (q := k - 1) (fo := 0) tabOk rfl rfl (by repeat (first | assumption | exact List.mem_cons_self | apply List.mem_cons_of_mem)) (fun _ => rfl) (by omega) (by rfl)) rfl rfl ?_
                  refine SX.val rfl (Val.fieldAddr tabOk rfl rfl rfl rfl rfl) rfl rfl ?_
                  refine SX.val rfl (Val.fieldAddr tabOk rfl rfl rfl rfl rfl) rfl rfl ?_
                  first
                    | refine SX.val rfl (Val.load1 tabOk rfl rfl (by repeat (first | assumption | exact List.mem_cons_self | apply List.mem_cons_of_mem)) (by rfl)) rfl rfl ?_
                    | refine SX.val rfl (Val.load1C tabOk rfl rfl (by assumption)) rfl rfl ?_
                  refine SX.val rfl (Val.geI rfl rfl) rfl rfl ?_
                  refine SX.val rfl (Val.pickT rfl rfl) rfl rfl ?_
                  refine SX.nil ?_
                  refine SE.seq ?_
                  refine SC.condP rfl ?_ ?_
                  · intro hc58
                    refine SC.seq ?_
                    refine SC.region ?_
                    refine SL.val (Val.assign rfl) rfl rfl ?_
                    refine SL.nil ?_
                    refine SE.seq ?_
                    refine SC.ret ?_
                    refine SE.ret ?_
                    refine SE.then_ (by intro h; cases h) ?_
                    refine SE.then_ (by intro h; cases h) ?_
                    refine SE.ret ?_
                    refine SE.then_ (by intro h; cases h) ?_
                    refine SE.ret1 rfl rfl ?_
                    intro w' hw'
                    refine ⟨?_, hw'.sub (fun _ h => h) (List.sublist_cons_self _ _)⟩; congr 2; unfold chkB; rw [if_neg (by omega), if_neg (by omega), hk2, hat, if_neg hc38, if_neg (by unfold pw at hc43; omega), if_pos ⟨by omega, hc58⟩]
                  · intro hc58
                    refine SC.skip ?_
                    refine SE.inBlock ?_
                    refine SE.seq ?_
                    refine SC.region ?_
                    first
                      | refine SL.val (Val.addI rfl rfl (by simp only [InR, lo, hi]; omega)) rfl rfl ?_
                      | refine SL.val (Val.addW rfl rfl) rfl rfl ?_
                    refine SL.val (Val.move rfl) rfl rfl ?_
                    refine SL.nil ?_
                    have hnext : chkL n none es = chkL n (ahead es (k + 1)) (es.drop (k + 1)) := by
                      rw [hk2, hat, if_neg hc38, if_neg (by unfold pw at hc43; omega), if_neg (fun h => hc58 h.2)]
                    exact SE.round (k + 1) (by omega) (by exact ⟨rfl, rfl, rfl, rfl, rfl, rfl, trivial⟩) (fun w' hw' => ⟨⟨hlt, hnext⟩, hw'.sub (fun _ h => h) (List.sublist_cons_self _ _)⟩)
                · intro hc46
                  refine SX.skip rfl rfl rfl ?_
                  refine SX.skip rfl rfl rfl ?_
                  refine SX.skip rfl rfl rfl ?_
                  refine SX.skip rfl rfl rfl ?_
                  refine SX.skip rfl rfl rfl ?_
                  refine SX.skip rfl rfl rfl ?_
                  refine SX.skip rfl rfl rfl ?_
                  refine SX.skip rfl rfl rfl ?_
                  refine SX.skip rfl rfl rfl ?_
                  refine SX.skip rfl rfl rfl ?_
                  refine SX.skip rfl rfl rfl ?_
                  refine SX.val rfl (Val.pickF rfl rfl) rfl rfl ?_
                  refine SX.nil ?_
                  refine SE.seq ?_
                  refine SC.condF rfl ?_
                  refine SC.skip ?_
                  refine SE.inBlock ?_
                  refine SE.seq ?_
                  refine SC.region ?_
                  first
                    | refine SL.val (Val.addI rfl rfl (by simp only [InR, lo, hi]; omega)) rfl rfl ?_
                    | refine SL.val (Val.addW rfl rfl) rfl rfl ?_
                  refine SL.val (Val.move rfl) rfl rfl ?_
                  refine SL.nil ?_
                  have hnext : chkL n none es = chkL n (ahead es (k + 1)) (es.drop (k + 1)) := by
                    rw [hk2, hat, if_neg hc38, if_neg (by unfold pw at hc43; omega), if_neg (fun h => hc46 (by omega))]
                  exact SE.round (k + 1) (by omega) (by exact ⟨rfl, rfl, rfl, rfl, rfl, rfl, trivial⟩) (fun w' hw' => ⟨⟨hlt, hnext⟩, hw'.sub (fun _ h => h) (List.sublist_cons_self _ _)⟩)
          · intro hc29
            refine SC.exit ?_
            refine SE.then_ (by intro h; cases h) ?_
            refine SE.then_ (by intro h; cases h) ?_
            refine SE.exit ?_
            refine SE.seq ?_
            refine SC.seq ?_
            refine SC.region ?_
            refine SL.val (Val.assign rfl) rfl rfl ?_
            refine SL.nil ?_
            refine SE.seq ?_
            refine SC.ret ?_
            refine SE.ret1 rfl rfl ?_
            intro w' hw'
            refine ⟨?_, hw'⟩; congr 2; unfold chkB; rw [if_neg (by omega), if_neg (by omega), hk2, List.drop_eq_nil_of_le (by omega)]; rfl
end
end Go.Proofs.Ytdbeinbgekdnmaa
