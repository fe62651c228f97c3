/-
  Packed out of the texts: Batch1, Batch2, Batch3, RdCan, Batch4, Batch5, Batch6, BatchTwo, A7, A8, C1, Rds, Pnt.
-/
import Derived.Test.YtggajaigfkekhaaGreatQ04
set_option maxRecDepth 100000
set_option linter.unusedSimpArgs false
set_option linter.unusedVariables false
namespace Go.Proofs.YtggajaigfkekhaaGreat
open Go.RowKit
abbrev entsD (v : Value) (es : List Ent) : Dt := rowD v es.length (es.flatMap Ent.cells)
def chkL (n : Int) : Option Int → List Ent → Int
  | _, [] => 0
  | p, e :: es => if e.core.check n ≠ 0 then e.core.check n else if 2 ^ n.toNat ≤ e.mask then 5 else if (match p with | some c => decide (e.core.client ≤ c) | none => false) = true then 15 else chkL n (some e.core.client) es
def chkB (es : List Ent) (n : Int) : Int := if n < 1 ∨ 7 < n then 1 else if 4 < es.length then 4 else chkL n none es
def ahead (es : List Ent) (k : Nat) : Option Int := if k = 0 then none else (es[k - 1]?).map (·.core.client)
theorem lk_ {n : Int} {es : List Ent} {k : Nat} (h : k < es.length) : chkL n (ahead es k) (es.drop k) = if es[k].core.check n ≠ 0 then es[k].core.check n else if 2 ^ n.toNat ≤ es[k].mask then 5 else if 0 < k ∧ es[k].core.client ≤ (es[k - 1]'(by omega)).core.client then 15 else chkL n (ahead es (k + 1)) (es.drop (k + 1)) := by
  rw [List.drop_eq_getElem_cons h]
  simp only [chkL]
  have e1 : ahead es (k + 1) = some es[k].core.client := by simp [ahead, h]
  rw [e1]
  congr 2
  by_cases hk : k = 0
  · subst hk; simp [ahead]
  · have h0 : 0 < k := by omega
    have e2 : ahead es k = some (es[k - 1]'(by omega)).core.client := by
      simp only [ahead, if_neg hk]
      rw [List.getElem?_eq_getElem (by omega)]
      rfl
    rw [e2]
    simp [h0]
theorem ew_ {m : Nat} {n : Int} (h1 : 1 ≤ n) (h7 : n ≤ 7) : ((m : Int).fdiv (2 ^ (min n.toNat 32)) ≠ 0) ↔ 2 ^ n.toNat ≤ m := by
  obtain ⟨k, rfl⟩ : ∃ k : Nat, n = k := ⟨n.toNat, by omega⟩
  rw [Int.toNat_natCast, Nat.min_eq_left (by omega), Int.fdiv_eq_ediv_of_nonneg _ (Int.pow_nonneg (by decide))]
  rw [show (2 : Int) ^ k = ((2 ^ k : Nat) : Int) by simp, ← Int.natCast_ediv]
  have h0 : 0 < 2 ^ k := Nat.pow_pos (by omega)
  have h2 : m / 2 ^ k = 0 ↔ m < 2 ^ k := by rw [Nat.div_eq_zero_iff]; omega
  omega
def pw (q : Nat) : Nat := 2 ^ q
theorem pw_succ (q : Nat) : ((pw (q + 1) : Nat) : Int) = ((pw q : Nat) : Int) * 2 := by unfold pw; rw [Nat.pow_succ]; simp
theorem pw_le {q : Nat} (h : q ≤ 6) : pw q ≤ 64 := by
  unfold pw
  rcases (by omega : q = 0 ∨ q = 1 ∨ q = 2 ∨ q = 3 ∨ q = 4 ∨ q = 5 ∨ q = 6) with h | h | h | h | h | h | h <;> rw [h] <;> decide
section
variable {S : List (World × List Nat)} {σ τ : Blks} {ρ : List Dt} {w : World}
set_option maxHeartbeats 1000000 in
theorem ep_ {v : Value} {es : List Ent} {n : Int} (hw : Mem S σ ρ w) (he : entsD v es ∈ ρ) (hl : es.length ≤ 1000000) : Calls Tryz.prog 102 #[v, .int .i64 n] w fun e w' => e = .returned (.int .i64 (chkB es n)) ∧ Mem S σ ρ w' := by
  obtain ⟨A, c, rfl, hs1, hs2, hs3⟩ := (hw.data he).shape
  have hA : es ≠ [] → ∃ b off, A = some ⟨b, off, none⟩ := fun h => cM_ (hw.data he) (by cases es with | nil => exact absurd rfl h | cons e es => simp [Ent.cells])
  refine ad_ [.slice A es.length c, .int .i64 n] Tryz.func102 rfl Tryz.ntmps102 rfl (Mem S σ ρ) hw ?_
  refine d_ (a_ ?_)
  refine b_ (j_ rfl) rfl rfl ?_
  refine g_ (c_ ?_)
  refine d_ ?_
  refine t_ ?_
  refine d_ (a_ ?_)
  refine b_ (k_ rfl) rfl rfl ?_
  refine b_ (ay_ rfl rfl) rfl rfl ?_
  refine b_ (k_ rfl) rfl rfl ?_
  refine C_ (t := 11) rfl ?_ ?_
  · intro hc11
    iterate 2 refine af_ rfl rfl ?_
    refine b_ (R_ rfl rfl) rfl rfl ?_
    refine b_ (j_ rfl) rfl rfl ?_
    refine g_ (c_ ?_)
    refine O_ rfl ?_
    refine d_ (a_ ?_)
    refine b_ (j_ rfl) rfl rfl ?_
    refine g_ (c_ ?_)
    refine n_ ?_
    refine E_ ?_
    refine i_ (by intro h; cases h) ?_
    refine M_ rfl rfl ?_
    intro w' hw'
    refine ⟨?_, hw'⟩; congr 2; unfold chkB; rw [if_pos (by omega)]
  intro hc11
  refine b_ (k_ rfl) rfl rfl ?_
  refine b_ (aI_ rfl rfl) rfl rfl ?_
  refine b_ (U_ rfl rfl) rfl rfl ?_
  refine b_ (j_ rfl) rfl rfl ?_
  refine g_ (c_ ?_)
  refine r_ rfl ?_ ?_
  · intro hc8
    refine d_ (a_ ?_)
    refine b_ (j_ rfl) rfl rfl ?_
    refine g_ (c_ ?_)
    refine n_ ?_
    refine E_ ?_
    refine i_ (by intro h; cases h) ?_
    refine M_ rfl rfl ?_
    intro w' hw'
    refine ⟨?_, hw'⟩; congr 2; unfold chkB; rw [if_pos (by omega)]
  intro hc8
  refine d_ (a_ ?_)
  refine b_ (k_ rfl) rfl rfl ?_
  refine b_ (z_ rfl Tryz.underlying75) rfl rfl ?_
  refine b_ (aI_ rfl rfl) rfl rfl ?_
  refine b_ (j_ rfl) rfl rfl ?_
  refine g_ (c_ ?_)
  refine r_ rfl ?_ ?_
  · intro hc15
    refine d_ (a_ ?_)
    refine b_ (j_ rfl) rfl rfl ?_
    refine g_ (c_ ?_)
    refine n_ ?_
    refine E_ ?_
    refine i_ (by intro h; cases h) ?_
    refine M_ rfl rfl ?_
    intro w' hw'
    refine ⟨?_, hw'⟩; congr 2; unfold chkB; rw [if_neg (by omega), if_pos (by omega)]
  intro hc15
  refine p_ ?_
  refine o_ ?_
  refine c_ ?_
  refine d_ ?_
  refine d_ (a_ ?_)
  refine b_ (k_ rfl) rfl rfl ?_
  refine b_ (z_ rfl Tryz.underlying75) rfl rfl ?_
  refine b_ (k_ rfl) rfl rfl ?_
  refine g_ (c_ ?_)
  refine t_ ?_
  refine S_ (ι := Nat) (fun k => [(0, .slice A es.length c), (1, .int .i64 n), (19, .slice A es.length c), (20, .int .i64 (es.length : Nat)), (21, .int .i64 (k : Nat))]) (fun k w' => (k ≤ es.length ∧ chkL n none es = chkL n (ahead es k) (es.drop k)) ∧ Mem S σ ρ w') (fun k => es.length - k) 0 (by exact ⟨rfl, rfl, rfl, rfl, rfl, trivial⟩) (fun w' hw' => ⟨⟨Nat.zero_le _, rfl⟩, hw'⟩) ?_
  intro k
  refine a0_ ?_
  rintro ⟨hk, hk2⟩
  refine d_ (a_ ?_)
  refine b_ (ay_ rfl rfl) rfl rfl ?_
  refine g_ (c_ ?_)
  refine d_ ?_
  refine r_ rfl ?_ ?_
  rotate_left
  · intro hc22
    refine Q_ ?_
    refine i_ (by intro h; cases h) ?_
    refine i_ (by intro h; cases h) ?_
    refine P_ ?_
    refine c_ ?_
    refine d_ (a_ ?_)
    refine b_ (j_ rfl) rfl rfl ?_
    refine g_ (c_ ?_)
    refine n_ ?_
    refine M_ rfl rfl ?_
    intro w' hw'
    refine ⟨?_, hw'⟩; congr 2; unfold chkB; rw [if_neg (by omega), if_neg (by omega), hk2, List.drop_eq_nil_of_le (by omega)]; rfl
  intro hc22
  have hlt : k < es.length := by omega
  have hat := lk_ (n := n) hlt
  obtain ⟨bb, off, rfl⟩ := hA (by intro h0; rw [h0] at hlt; simp at hlt)
  refine p_ ?_
  refine c_ ?_
  refine d_ ?_
  refine t_ ?_
  refine d_ (a_ ?_)
  refine b_ (k_ rfl) rfl rfl ?_
  refine b_ (aD_ tabOk Tryz.underlying75 rfl rfl rfl (by omega)) rfl rfl ?_
  refine b_ (bA_ (f := Ent.cells) tabOk rfl rfl rfl (by repeat (first | assumption | exact List.mem_cons_self | exact hmem _ | apply List.mem_cons_of_mem)) (fun _ => rfl) hlt) rfl rfl ?_
  refine az_ (B_ tabOk rfl) rfl rfl ?_
  rintro _ _ ⟨b6, rfl, rfl⟩
  refine b_ (j_ rfl) rfl rfl ?_
  refine az_ (b6_ (L' := (es[k]'hlt).cells) (vs := (es[k]'hlt).cells) tabOk rfl rfl rfl (by repeat (first | assumption | exact Upd.here | exact hrep _ _ | apply Upd.there)) (by rfl) (Nat.le_of_ble_eq_true (by rfl)) (Ent.one _) (by rfl)) rfl rfl ?_; rintro _ _ ⟨rfl, rfl⟩
  refine g_ (c_ ?_)
  refine d_ ?_
  refine d_ (a_ ?_)
  refine b_ (y_ tabOk rfl rfl rfl rfl rfl) rfl rfl ?_
  refine b_ (H_ tabOk rfl rfl rfl (by repeat (first | assumption | exact List.mem_cons_self | exact hmem _ | apply List.mem_cons_of_mem)) (Nat.le_of_ble_eq_true (by rfl))) rfl rfl ?_
  refine b_ (k_ rfl) rfl rfl ?_
  refine u_ (by kernel_rfl) rfl rfl rfl ?_
  intro w hw
  refine (check_c (c := (es[k]'hlt).core) hw).mono ?_; rintro _ _ ⟨rfl, hm⟩; refine ⟨_, _, rfl, hm, ?_⟩; clear hm hw w
  refine b_ (j_ rfl) rfl rfl ?_
  refine g_ (c_ ?_)
  refine d_ (a_ ?_)
  refine b_ (k_ rfl) rfl rfl ?_
  refine b_ (aX_ rfl rfl) rfl rfl ?_
  refine g_ (c_ ?_)
  refine r_ rfl ?_ ?_
  · intro hc31
    refine d_ (a_ ?_)
    refine b_ (k_ rfl) rfl rfl ?_
    refine b_ (j_ rfl) rfl rfl ?_
    refine g_ (c_ ?_)
    refine n_ ?_
    refine i_ (by intro h; cases h) ?_
    refine E_ ?_
    refine i_ (by intro h; cases h) ?_
    refine i_ (by intro h; cases h) ?_
    refine E_ ?_
    refine i_ (by intro h; cases h) ?_
    refine M_ rfl rfl ?_
    intro w' hw'
    refine ⟨?_, hw'.sub (fun _ h => h) (List.sublist_cons_self _ _)⟩; congr 2; unfold chkB; rw [if_neg (by omega), if_neg (by omega), hk2, hat, if_pos hc31]
  intro hc31
  refine p_ ?_
  refine c_ ?_
  refine t_ ?_
  refine d_ (a_ ?_)
  refine b_ (y_ tabOk rfl rfl rfl rfl rfl) rfl rfl ?_
  refine b_ (h_ tabOk rfl rfl (by repeat (first | assumption | exact List.mem_cons_self | exact hmem _ | apply List.mem_cons_of_mem)) (by rfl)) rfl rfl ?_
  refine b_ (k_ rfl) rfl rfl ?_
  refine b_ (al_ rfl Tryz.underlying172 (by kernel_rfl) (by simp only [InR, lo, hi]; omega)) rfl rfl ?_
  refine b_ (gy_ rfl rfl (by omega)) rfl rfl ?_
  refine b_ (aX_ rfl rfl) rfl rfl ?_
  refine b_ (j_ rfl) rfl rfl ?_
  refine g_ (c_ ?_)
  refine r_ rfl ?_ ?_
  · intro hc33
    refine d_ (a_ ?_)
    refine b_ (j_ rfl) rfl rfl ?_
    refine g_ (c_ ?_)
    refine n_ ?_
    refine E_ ?_
    refine E_ ?_
    refine i_ (by intro h; cases h) ?_
    refine i_ (by intro h; cases h) ?_
    refine E_ ?_
    refine i_ (by intro h; cases h) ?_
    refine M_ rfl rfl ?_
    intro w' hw'
    refine ⟨?_, hw'.sub (fun _ h => h) (List.sublist_cons_self _ _)⟩; congr 2; unfold chkB; rw [if_neg (by omega), if_neg (by omega), hk2, hat, if_neg hc31, if_pos ((ew_ (by omega) (by omega)).1 hc33)]
  intro hc33
  refine d_ ?_
  refine Y_ _ (.q 0 (.q 1 (.q 2 (.q 3 (.q 4 (.q 5 (.q 6 (.q 7 (.q 8 (.q 9 (.q 10 (.q 11 (.q 12 (.q 13 (.q 14 (.q 15 .nil)))))))))))))))) (by kernel_rfl) (by kernel_rfl) (fun _ h => h) (fun _ h => h.drew) ?_
  refine l_ rfl (k_ rfl) rfl rfl ?_
  refine l_ rfl (aI_ rfl rfl) rfl rfl ?_
  refine l_ rfl (k_ rfl) rfl rfl ?_
  refine am_ (t := 43) rfl ?_ ?_
  rotate_left
  · intro hc43
    iterate 11 refine bq_ rfl rfl rfl ?_
    refine l_ rfl (U_ rfl rfl) rfl rfl ?_
    refine l_ rfl (j_ rfl) rfl rfl ?_
    refine N_ (c_ ?_)
    refine V_ rfl ?_
    refine p_ ?_
    refine o_ ?_
    refine o_ ?_
    refine c_ ?_
    refine a_ ?_
    refine b_ (s_ rfl rfl (by simp only [InR, lo, hi]; omega)) rfl rfl ?_
    refine b_ (k_ rfl) rfl rfl ?_
    refine g_ ?_
    have hnext : chkL n none es = chkL n (ahead es (k + 1)) (es.drop (k + 1)) := by
      rw [hk2, hat, if_neg hc31, if_neg (fun h => hc33 ((ew_ (by omega) (by omega)).2 h)), if_neg (fun h => hc43 (by omega))]
    exact x_ (k + 1) (by omega) (by exact ⟨rfl, rfl, rfl, rfl, rfl, trivial⟩) (fun w' hw' => ⟨⟨hlt, hnext⟩, hw'.sub (fun _ h => h) (List.sublist_cons_self _ _)⟩)
  intro hc43
  refine l_ rfl (k_ rfl) rfl rfl ?_
  refine l_ rfl (k_ rfl) rfl rfl ?_
  refine l_ rfl (d7_ (i := k) (j := 1) rfl rfl rfl (by omega) (by simp only [InR, lo, hi]; omega)) rfl rfl ?_
  refine l_ rfl (aD_ tabOk Tryz.underlying75 rfl rfl rfl (by omega)) rfl rfl ?_
  refine l_ rfl (y_ tabOk rfl rfl rfl rfl rfl) rfl rfl ?_
  refine l_ rfl (y_ tabOk rfl rfl rfl rfl rfl) rfl rfl ?_
  refine l_ rfl (fU_ (f := Ent.cells) (s := 8) (q := k - 1) (fo := 0) tabOk rfl rfl (by repeat (first | assumption | exact List.mem_cons_self | exact hmem _ | apply List.mem_cons_of_mem)) (fun _ => rfl) (by omega) (by rfl)) rfl rfl ?_
  refine l_ rfl (y_ tabOk rfl rfl rfl rfl rfl) rfl rfl ?_
  refine l_ rfl (y_ tabOk rfl rfl rfl rfl rfl) rfl rfl ?_
  refine l_ rfl (h_ tabOk rfl rfl (by repeat (first | assumption | exact List.mem_cons_self | exact hmem _ | apply List.mem_cons_of_mem)) (by rfl)) rfl rfl ?_
  refine l_ rfl (bZ_ rfl rfl) rfl rfl ?_
  refine l_ rfl (R_ rfl rfl) rfl rfl ?_
  refine l_ rfl (j_ rfl) rfl rfl ?_
  refine N_ (c_ ?_)
  refine r_ rfl ?_ ?_
  rotate_left
  · intro hc40
    refine p_ ?_
    refine o_ ?_
    refine o_ ?_
    refine c_ ?_
    refine a_ ?_
    refine b_ (s_ rfl rfl (by simp only [InR, lo, hi]; omega)) rfl rfl ?_
    refine b_ (k_ rfl) rfl rfl ?_
    refine g_ ?_
    have hnext : chkL n none es = chkL n (ahead es (k + 1)) (es.drop (k + 1)) := by
      rw [hk2, hat, if_neg hc31, if_neg (fun h => hc33 ((ew_ (by omega) (by omega)).2 h)), if_neg (fun h => hc40 h.2)]
    exact x_ (k + 1) (by omega) (by exact ⟨rfl, rfl, rfl, rfl, rfl, trivial⟩) (fun w' hw' => ⟨⟨hlt, hnext⟩, hw'.sub (fun _ h => h) (List.sublist_cons_self _ _)⟩)
  intro hc40
  refine d_ (a_ ?_)
  refine b_ (j_ rfl) rfl rfl ?_
  refine g_ (c_ ?_)
  refine n_ ?_
  refine E_ ?_
  refine E_ ?_
  refine i_ (by intro h; cases h) ?_
  refine i_ (by intro h; cases h) ?_
  refine E_ ?_
  refine i_ (by intro h; cases h) ?_
  refine M_ rfl rfl ?_
  intro w' hw'
  refine ⟨?_, hw'.sub (fun _ h => h) (List.sublist_cons_self _ _)⟩; congr 2; unfold chkB; rw [if_neg (by omega), if_neg (by omega), hk2, hat, if_neg hc31, if_neg (fun h => hc33 ((ew_ (by omega) (by omega)).2 h)), if_pos ⟨by omega, hc40⟩]
set_option maxHeartbeats 1000000 in
theorem f7_ {v : Value} {es : List Ent} {n : Int} (hw : Mem S σ ρ w) (he : entsD v es ∈ ρ) (hl : es.length ≤ 1000000) (hs : ∀ e ∈ es, e.core.letter.size ≤ lots) : Calls Tryz.prog 96 #[v, .int .i64 n] w fun e w' => e = .returned (.int .i64 (chkB es n)) ∧ Mem S σ ρ w' := by
  obtain ⟨A, c, rfl, hs1, hs2, hs3⟩ := (hw.data he).shape
  have hA : es ≠ [] → ∃ b off, A = some ⟨b, off, none⟩ := fun h => cM_ (hw.data he) (by cases es with | nil => exact absurd rfl h | cons e es => simp [Ent.cells])
  refine ad_ [.slice A es.length c, .int .i64 n] Tryz.func96 rfl Tryz.ntmps96 rfl (Mem S σ ρ) hw ?_
  refine d_ (a_ ?_)
  refine b_ (j_ rfl) rfl rfl ?_
  refine g_ (c_ ?_)
  refine d_ ?_
  refine d_ (a_ ?_)
  refine b_ (k_ rfl) rfl rfl ?_
  refine b_ (ay_ rfl rfl) rfl rfl ?_
  refine b_ (k_ rfl) rfl rfl ?_
  refine C_ (t := 12) rfl ?_ ?_
  · intro hc12
    iterate 2 refine af_ rfl rfl ?_
    refine b_ (R_ rfl rfl) rfl rfl ?_
    refine g_ (c_ ?_)
    refine O_ rfl ?_
    refine d_ (a_ ?_)
    refine b_ (j_ rfl) rfl rfl ?_
    refine g_ (c_ ?_)
    refine n_ ?_
    refine i_ (by intro h; cases h) ?_
    refine M_ rfl rfl ?_
    intro w' hw'
    refine ⟨?_, hw'⟩; congr 2; unfold chkB; rw [if_pos (by omega)]
  intro hc12
  refine b_ (k_ rfl) rfl rfl ?_
  refine b_ (aI_ rfl rfl) rfl rfl ?_
  refine b_ (U_ rfl rfl) rfl rfl ?_
  refine g_ (c_ ?_)
  refine r_ rfl ?_ ?_
  · intro hc15
    refine d_ (a_ ?_)
    refine b_ (j_ rfl) rfl rfl ?_
    refine g_ (c_ ?_)
    refine n_ ?_
    refine i_ (by intro h; cases h) ?_
    refine M_ rfl rfl ?_
    intro w' hw'
    refine ⟨?_, hw'⟩; congr 2; unfold chkB; rw [if_pos (by omega)]
  intro hc15
  refine p_ ?_
  refine c_ ?_
  refine d_ ?_
  refine d_ (a_ ?_)
  refine b_ (k_ rfl) rfl rfl ?_
  refine b_ (z_ rfl Tryz.underlying75) rfl rfl ?_
  refine b_ (aI_ rfl rfl) rfl rfl ?_
  refine g_ (c_ ?_)
  refine r_ rfl ?_ ?_
  · intro hc18
    refine d_ (a_ ?_)
    refine b_ (j_ rfl) rfl rfl ?_
    refine g_ (c_ ?_)
    refine n_ ?_
    refine i_ (by intro h; cases h) ?_
    refine M_ rfl rfl ?_
    intro w' hw'
    refine ⟨?_, hw'⟩; congr 2; unfold chkB; rw [if_neg (by omega), if_pos (by omega)]
  intro hc18
  refine p_ ?_
  refine c_ ?_
  refine d_ (a_ ?_)
  refine b_ (j_ rfl) rfl rfl ?_
  refine g_ (c_ ?_)
  refine d_ ?_
  refine d_ (a_ ?_)
  refine b_ (j_ rfl) rfl rfl ?_
  refine g_ (c_ ?_)
  refine t_ ?_
  refine S_ (ι := Nat) (fun q => [(0, .slice A es.length c), (1, .int .i64 n), (5, .int .u32 (pw q : Nat)), (6, .int .i64 (q : Nat))]) (fun q w' => (q : Int) ≤ n ∧ Mem S σ ρ w') (fun q => n.toNat - q) 0 (by exact ⟨rfl, rfl, rfl, rfl, trivial⟩) (fun w' hw' => ⟨by omega, hw'⟩) ?_
  intro q
  refine a0_ ?_
  intro hq
  refine d_ ?_
  refine d_ (a_ ?_)
  iterate 2 refine b_ (k_ rfl) rfl rfl ?_
  refine b_ (ay_ rfl rfl) rfl rfl ?_
  refine g_ (c_ ?_)
  refine r_ rfl ?_ ?_
  · intro hc21
    have h7 : q ≤ 6 := by omega
    have hq1 := pw_le h7
    refine p_ ?_
    refine c_ ?_
    refine d_ ?_
    refine t_ ?_
    refine a_ ?_
    refine b_ (k_ rfl) rfl rfl ?_
    refine b_ (b3_ rfl rfl (by simp only [InR, lo, hi]; omega)) rfl rfl ?_
    refine b_ (j_ rfl) rfl rfl ?_
    refine g_ ?_
    refine o_ ?_
    refine c_ ?_
    refine a_ ?_
    refine b_ (k_ rfl) rfl rfl ?_
    refine b_ (s_ rfl rfl (by simp only [InR, lo, hi]; omega)) rfl rfl ?_
    refine b_ (j_ rfl) rfl rfl ?_
    refine g_ ?_
    exact x_ (q + 1) (by omega) (by exact ⟨rfl, rfl, by show some (Value.int _ _) = some (Value.int _ _); rw [pw_succ], rfl, trivial⟩) (fun w' hw' => ⟨by omega, hw'⟩)
  intro hc21
  have hqn : q = n.toNat := by omega
  subst hqn
  refine Q_ ?_
  refine i_ (by intro h; cases h) ?_
  refine i_ (by intro h; cases h) ?_
  refine P_ ?_
  refine c_ ?_
  refine d_ ?_
  refine d_ (a_ ?_)
  refine b_ (k_ rfl) rfl rfl ?_
  refine b_ (z_ rfl Tryz.underlying75) rfl rfl ?_
  refine b_ (k_ rfl) rfl rfl ?_
  refine g_ (c_ ?_)
  refine t_ ?_
  refine S_ (ι := Nat) (fun k => [(0, .slice A es.length c), (1, .int .i64 n), (5, .int .u32 (pw n.toNat : Nat)), (26, .slice A es.length c), (27, .int .i64 (es.length : Nat)), (28, .int .i64 (k : Nat))]) (fun k w' => (k ≤ es.length ∧ chkL n none es = chkL n (ahead es k) (es.drop k)) ∧ Mem S σ ρ w') (fun k => es.length - k) 0 (by exact ⟨rfl, rfl, rfl, rfl, rfl, rfl, trivial⟩) (fun w' hw' => ⟨⟨Nat.zero_le _, rfl⟩, hw'⟩) ?_
  intro k
  refine a0_ ?_
  rintro ⟨hk, hk2⟩
  refine d_ (a_ ?_)
  refine b_ (ay_ rfl rfl) rfl rfl ?_
  refine g_ (c_ ?_)
  refine d_ ?_
  refine r_ rfl ?_ ?_
  rotate_left
  · intro hc29
    refine Q_ ?_
    refine i_ (by intro h; cases h) ?_
    refine i_ (by intro h; cases h) ?_
    refine P_ ?_
    refine c_ ?_
    refine d_ (a_ ?_)
    refine b_ (j_ rfl) rfl rfl ?_
    refine g_ (c_ ?_)
    refine n_ ?_
    refine M_ rfl rfl ?_
    intro w' hw'
    refine ⟨?_, hw'⟩; congr 2; unfold chkB; rw [if_neg (by omega), if_neg (by omega), hk2, List.drop_eq_nil_of_le (by omega)]; rfl
  intro hc29
  have hlt : k < es.length := by omega
  have hat := lk_ (n := n) hlt
  obtain ⟨bb, off, rfl⟩ := hA (by intro h0; rw [h0] at hlt; simp at hlt)
  refine p_ ?_
  refine c_ ?_
  refine d_ ?_
  refine t_ ?_
  refine d_ (a_ ?_)
  refine b_ (k_ rfl) rfl rfl ?_
  refine b_ (aD_ tabOk Tryz.underlying75 rfl rfl rfl (by omega)) rfl rfl ?_
  refine b_ (bA_ (f := Ent.cells) tabOk rfl rfl rfl (by repeat (first | assumption | exact List.mem_cons_self | exact hmem _ | apply List.mem_cons_of_mem)) (fun _ => rfl) hlt) rfl rfl ?_
  refine az_ (B_ tabOk rfl) rfl rfl ?_
  rintro _ _ ⟨b8, rfl, rfl⟩
  refine b_ (j_ rfl) rfl rfl ?_
  refine az_ (b6_ (L' := (es[k]'hlt).cells) (vs := (es[k]'hlt).cells) tabOk rfl rfl rfl (by repeat (first | assumption | exact Upd.here | exact hrep _ _ | apply Upd.there)) (by rfl) (Nat.le_of_ble_eq_true (by rfl)) (Ent.one _) (by rfl)) rfl rfl ?_; rintro _ _ ⟨rfl, rfl⟩
  refine g_ (c_ ?_)
  refine d_ ?_
  refine d_ (a_ ?_)
  refine b_ (y_ tabOk rfl rfl rfl rfl rfl) rfl rfl ?_
  refine b_ (H_ tabOk rfl rfl rfl (by repeat (first | assumption | exact List.mem_cons_self | exact hmem _ | apply List.mem_cons_of_mem)) (Nat.le_of_ble_eq_true (by rfl))) rfl rfl ?_
  refine b_ (k_ rfl) rfl rfl ?_
  refine u_ (by kernel_rfl) rfl rfl rfl ?_
  intro w hw
  refine (rcheck_c (c := (es[k]'hlt).core) hw (hs _ (List.getElem_mem hlt))).mono ?_; rintro _ _ ⟨rfl, hm⟩; refine ⟨_, _, rfl, hm, ?_⟩; clear hm hw w
  refine b_ (j_ rfl) rfl rfl ?_
  refine g_ (c_ ?_)
  refine d_ (a_ ?_)
  refine b_ (k_ rfl) rfl rfl ?_
  refine b_ (aX_ rfl rfl) rfl rfl ?_
  refine g_ (c_ ?_)
  refine r_ rfl ?_ ?_
  · intro hc38
    refine d_ (a_ ?_)
    refine b_ (k_ rfl) rfl rfl ?_
    refine b_ (j_ rfl) rfl rfl ?_
    refine g_ (c_ ?_)
    refine n_ ?_
    refine i_ (by intro h; cases h) ?_
    refine E_ ?_
    refine i_ (by intro h; cases h) ?_
    refine i_ (by intro h; cases h) ?_
    refine E_ ?_
    refine i_ (by intro h; cases h) ?_
    refine M_ rfl rfl ?_
    intro w' hw'
    refine ⟨?_, hw'.sub (fun _ h => h) (List.sublist_cons_self _ _)⟩; congr 2; unfold chkB; rw [if_neg (by omega), if_neg (by omega), hk2, hat, if_pos hc38]
  intro hc38
  refine p_ ?_
  refine c_ ?_
  refine d_ ?_
  refine d_ (a_ ?_)
  refine b_ (y_ tabOk rfl rfl rfl rfl rfl) rfl rfl ?_
  refine b_ (h_ tabOk rfl rfl (by repeat (first | assumption | exact List.mem_cons_self | exact hmem _ | apply List.mem_cons_of_mem)) (by rfl)) rfl rfl ?_
  refine b_ (k_ rfl) rfl rfl ?_
  refine b_ (bZ_ rfl rfl) rfl rfl ?_
  refine g_ (c_ ?_)
  refine r_ rfl ?_ ?_
  · intro hc43
    refine d_ (a_ ?_)
    refine b_ (j_ rfl) rfl rfl ?_
    refine g_ (c_ ?_)
    refine n_ ?_
    refine i_ (by intro h; cases h) ?_
    refine E_ ?_
    refine i_ (by intro h; cases h) ?_
    refine i_ (by intro h; cases h) ?_
    refine E_ ?_
    refine i_ (by intro h; cases h) ?_
    refine M_ rfl rfl ?_
    intro w' hw'
    refine ⟨?_, hw'.sub (fun _ h => h) (List.sublist_cons_self _ _)⟩; congr 2; unfold chkB; rw [if_neg (by omega), if_neg (by omega), hk2, hat, if_neg hc38, if_pos (by unfold pw at hc43; omega)]
  intro hc43
  refine p_ ?_
  refine c_ ?_
  refine d_ ?_
  refine Y_ _ (.q 0 (.q 1 (.q 2 (.q 3 (.q 4 (.q 5 (.q 6 (.q 7 (.q 8 (.q 9 (.q 10 (.q 11 (.q 12 (.q 13 (.q 14 .nil))))))))))))))) (by kernel_rfl) (by kernel_rfl) (fun _ h => h) (fun _ h => h.drew) ?_
  refine l_ rfl (k_ rfl) rfl rfl ?_
  refine l_ rfl (aI_ rfl rfl) rfl rfl ?_
  refine l_ rfl (k_ rfl) rfl rfl ?_
  refine am_ (t := 46) rfl ?_ ?_
  rotate_left
  · intro hc46
    iterate 11 refine bq_ rfl rfl rfl ?_
    refine l_ rfl (U_ rfl rfl) rfl rfl ?_
    refine N_ (c_ ?_)
    refine V_ rfl ?_
    refine p_ ?_
    refine o_ ?_
    refine c_ ?_
    refine a_ ?_
    refine b_ (s_ rfl rfl (by simp only [InR, lo, hi]; omega)) rfl rfl ?_
    refine b_ (k_ rfl) rfl rfl ?_
    refine g_ ?_
    have hnext : chkL n none es = chkL n (ahead es (k + 1)) (es.drop (k + 1)) := by
      rw [hk2, hat, if_neg hc38, if_neg (by unfold pw at hc43; omega), if_neg (fun h => hc46 (by omega))]
    exact x_ (k + 1) (by omega) (by exact ⟨rfl, rfl, rfl, rfl, rfl, rfl, trivial⟩) (fun w' hw' => ⟨⟨hlt, hnext⟩, hw'.sub (fun _ h => h) (List.sublist_cons_self _ _)⟩)
  intro hc46
  refine l_ rfl (k_ rfl) rfl rfl ?_
  refine l_ rfl (k_ rfl) rfl rfl ?_
  refine l_ rfl (d7_ (i := k) (j := 1) rfl rfl rfl (by omega) (by simp only [InR, lo, hi]; omega)) rfl rfl ?_
  refine l_ rfl (aD_ tabOk Tryz.underlying75 rfl rfl rfl (by omega)) rfl rfl ?_
  refine l_ rfl (y_ tabOk rfl rfl rfl rfl rfl) rfl rfl ?_
  refine l_ rfl (y_ tabOk rfl rfl rfl rfl rfl) rfl rfl ?_
  refine l_ rfl (fU_ (f := Ent.cells) (s := 8) (q := k - 1) (fo := 0) tabOk rfl rfl (by repeat (first | assumption | exact List.mem_cons_self | exact hmem _ | apply List.mem_cons_of_mem)) (fun _ => rfl) (by omega) (by rfl)) rfl rfl ?_
  refine l_ rfl (y_ tabOk rfl rfl rfl rfl rfl) rfl rfl ?_
  refine l_ rfl (y_ tabOk rfl rfl rfl rfl rfl) rfl rfl ?_
  refine l_ rfl (h_ tabOk rfl rfl (by repeat (first | assumption | exact List.mem_cons_self | exact hmem _ | apply List.mem_cons_of_mem)) (by rfl)) rfl rfl ?_
  refine l_ rfl (bZ_ rfl rfl) rfl rfl ?_
  refine l_ rfl (R_ rfl rfl) rfl rfl ?_
  refine N_ (c_ ?_)
  refine r_ rfl ?_ ?_
  rotate_left
  · intro hc58
    refine p_ ?_
    refine o_ ?_
    refine c_ ?_
    refine a_ ?_
    refine b_ (s_ rfl rfl (by simp only [InR, lo, hi]; omega)) rfl rfl ?_
    refine b_ (k_ rfl) rfl rfl ?_
    refine g_ ?_
    have hnext : chkL n none es = chkL n (ahead es (k + 1)) (es.drop (k + 1)) := by
      rw [hk2, hat, if_neg hc38, if_neg (by unfold pw at hc43; omega), if_neg (fun h => hc58 h.2)]
    exact x_ (k + 1) (by omega) (by exact ⟨rfl, rfl, rfl, rfl, rfl, rfl, trivial⟩) (fun w' hw' => ⟨⟨hlt, hnext⟩, hw'.sub (fun _ h => h) (List.sublist_cons_self _ _)⟩)
  intro hc58
  refine d_ (a_ ?_)
  refine b_ (j_ rfl) rfl rfl ?_
  refine g_ (c_ ?_)
  refine n_ ?_
  refine E_ ?_
  refine i_ (by intro h; cases h) ?_
  refine i_ (by intro h; cases h) ?_
  refine E_ ?_
  refine i_ (by intro h; cases h) ?_
  refine M_ rfl rfl ?_
  intro w' hw'
  refine ⟨?_, hw'.sub (fun _ h => h) (List.sublist_cons_self _ _)⟩; congr 2; unfold chkB; rw [if_neg (by omega), if_neg (by omega), hk2, hat, if_neg hc38, if_neg (by unfold pw at hc43; omega), if_pos ⟨by omega, hc58⟩]
end
def Ent.bytes (e : Ent) : List UInt8 := rowB e.core.bytes ++ beBytes e.mask 1
def batchB (es : List Ent) : List UInt8 := beBytes es.length 2 ++ es.flatMap Ent.bytes
structure Ent.Few (e : Ent) : Prop where
  mask : e.mask < 4294967296
  letter : e.core.letter.size ≤ 1000
  text : e.core.text.size ≤ 1000
theorem Core.bytes_length (c : Core) : c.bytes.length = 34 + c.letter.size + c.text.size := by
  have h1 : c.letter.data.toList.length = c.letter.size := by simp
  have h2 : c.text.data.toList.length = c.text.size := by simp
  simp only [Core.bytes, rowB, List.length_append, v_, h1, h2]
  omega
theorem Ent.bytes_length (e : Ent) : e.bytes.length = 39 + e.core.letter.size + e.core.text.size := by
  simp only [Ent.bytes, rowB, List.length_append, v_, Core.bytes_length]
  omega
theorem dq_ {es : List Ent} (h : ∀ e ∈ es, e.Few) : (es.flatMap Ent.bytes).length ≤ es.length * 2100 := by
  induction es with
  | nil => simp
  | cons e es ih =>
    have h1 := h e (by simp)
    have h2 := ih (fun x hx => h x (by simp [hx]))
    have := h1.letter
    have := h1.text
    rw [List.flatMap_cons, List.length_append, Ent.bytes_length, List.length_cons, Nat.succ_mul]
    omega
section
variable {S : List (World × List Nat)} {σ τ : Blks} {ρ : List Dt} {w : World}
set_option maxHeartbeats 1000000 in
theorem hr_ {v : Value} {es : List Ent} (hw : Mem S σ ρ w) (he : entsD v es ∈ ρ) (hl : es.length ≤ 1000000) (hf : ∀ e ∈ es, e.Few) : Calls Tryz.prog 113 #[v] w fun e w' => ∃ r, e = .returned r ∧ Mem S σ (bytesD r (batchB es) :: ρ) w' := by
  obtain ⟨A, c, rfl, hs1, hs2, hs3⟩ := (hw.data he).shape
  have hA : es ≠ [] → ∃ b off, A = some ⟨b, off, none⟩ := fun h => cM_ (hw.data he) (by cases es with | nil => exact absurd rfl h | cons e es => simp [Ent.cells])
  refine ad_ [.slice A es.length c] Tryz.func113 rfl Tryz.ntmps113 rfl (Mem S σ ρ) hw ?_
  refine d_ (a_ ?_)
  refine b_ (j_ rfl) rfl rfl ?_
  refine g_ (c_ ?_)
  refine d_ (a_ ?_)
  refine b_ (k_ rfl) rfl rfl ?_
  refine b_ (z_ rfl Tryz.underlying75) rfl rfl ?_
  refine b_ (al_ rfl Tryz.underlying134 (by kernel_rfl) (by simp only [InR, lo, hi]; omega)) rfl rfl ?_
  refine u_ (by kernel_rfl) rfl rfl rfl ?_
  intro w hw
  refine (fw_ (l := []) (x := es.length) (n := 2) hw (BytesV.nil _) (Nat.zero_le _) (by omega) rfl).mono ?_; rintro _ _ ⟨r, rfl, hm⟩; refine ⟨_, _, rfl, hm, ?_⟩; clear hm hw w
  refine b_ (j_ rfl) rfl rfl ?_
  refine g_ (c_ ?_)
  refine d_ ?_
  refine d_ (a_ ?_)
  refine b_ (k_ rfl) rfl rfl ?_
  refine b_ (z_ rfl Tryz.underlying75) rfl rfl ?_
  refine b_ (k_ rfl) rfl rfl ?_
  refine g_ (c_ ?_)
  refine t_ ?_
  refine S_ (ι := Nat × Value) (fun z => [(10, .slice A es.length c), (11, .int .i64 (es.length : Nat)), (12, .int .i64 (z.1 : Nat)), (3, z.2)]) (fun z w' => z.1 ≤ es.length ∧ Mem S σ (bytesD z.2 (([] ++ beBytes es.length (Int.toNat 2)) ++ (es.take z.1).flatMap Ent.bytes) :: ρ) w') (fun z => es.length - z.1) (0, _) (by exact ⟨rfl, rfl, rfl, rfl, trivial⟩) (fun w' hw' => ⟨Nat.zero_le _, hw'.less (by intro x hx; simp only [List.take_zero, List.flatMap_nil, List.append_nil] at hx; rcases List.mem_cons.1 hx with rfl | hx <;> simp [*])⟩) ?_
  intro z
  refine a0_ ?_
  intro hz
  have hlen : (([] ++ beBytes es.length (Int.toNat 2)) ++ (es.take z.1).flatMap Ent.bytes).length ≤ 2 + 1000000 * 2100 := by
    have h0 := dq_ (es := es.take z.1) (fun e he' => hf e (List.mem_of_mem_take he'))
    have h9 : (es.take z.1).length ≤ es.length := by simp; omega
    have h8 : (es.take z.1).length * 2100 ≤ 1000000 * 2100 := Nat.mul_le_mul_right _ (by omega)
    simp only [List.length_append, v_, List.length_nil]
    simp only [show Int.toNat 2 = 2 from rfl]
    omega
  refine d_ (a_ ?_)
  refine b_ (ay_ rfl rfl) rfl rfl ?_
  refine g_ (c_ ?_)
  refine d_ ?_
  refine r_ rfl ?_ ?_
  rotate_left
  · intro hc13
    refine Q_ ?_
    refine i_ (by intro h; cases h) ?_
    refine i_ (by intro h; cases h) ?_
    refine P_ ?_
    refine c_ ?_
    refine d_ (a_ ?_)
    refine b_ (k_ rfl) rfl rfl ?_
    refine b_ (j_ rfl) rfl rfl ?_
    refine g_ (c_ ?_)
    refine n_ ?_
    refine M_ rfl rfl ?_
    intro w' hw'
    have e2 : (([] ++ beBytes es.length (Int.toNat 2)) ++ (es.take z.1).flatMap Ent.bytes) = batchB es := by
      rw [List.take_of_length_le (by omega)]
      simp [batchB]
    rw [e2] at hw'
    exact ⟨_, rfl, hw'⟩
  intro hc13
  have hlt : z.1 < es.length := by omega
  have hfew := hf _ (List.getElem_mem hlt)
  have hmask := hfew.mask
  have hlet := hfew.letter
  have htex := hfew.text
  obtain ⟨bb, off, rfl⟩ := hA (by intro h0; rw [h0] at hlt; simp at hlt)
  refine p_ ?_
  refine c_ ?_
  refine d_ ?_
  refine t_ ?_
  refine d_ (a_ ?_)
  refine b_ (aD_ tabOk Tryz.underlying75 rfl rfl rfl (by omega)) rfl rfl ?_
  refine b_ (bA_ (f := Ent.cells) tabOk rfl rfl rfl (by repeat (first | assumption | exact List.mem_cons_self | exact hmem _ | apply List.mem_cons_of_mem)) (fun _ => rfl) hlt) rfl rfl ?_
  refine az_ (B_ tabOk rfl) rfl rfl ?_
  rintro _ _ ⟨b5, rfl, rfl⟩
  refine az_ (b6_ (L' := (es[z.1]'hlt).cells) (vs := (es[z.1]'hlt).cells) tabOk rfl rfl rfl (by repeat (first | assumption | exact Upd.here | exact hrep _ _ | apply Upd.there)) (by rfl) (Nat.le_of_ble_eq_true (by rfl)) (Ent.one _) (by rfl)) rfl rfl ?_; rintro _ _ ⟨rfl, rfl⟩
  refine g_ (c_ ?_)
  refine Y_ _ (.q 0 (.q 1 (.q 2 (.q 5 (.q 6 (.q 7 (.e 3 (.e 4 (.e 8 (.q 9 .nil)))))))))) (by kernel_rfl) (by kernel_rfl) (fun _ h => h) (fun _ h => h.drew) ?_
  refine l_ rfl (k_ rfl) rfl rfl ?_
  refine l_ rfl (y_ tabOk rfl rfl rfl rfl rfl) rfl rfl ?_
  refine l_ rfl (H_ tabOk rfl rfl rfl (by repeat (first | assumption | exact List.mem_cons_self | exact hmem _ | apply List.mem_cons_of_mem)) (Nat.le_of_ble_eq_true (by rfl))) rfl rfl ?_
  refine l_ rfl (y_ tabOk rfl rfl rfl rfl rfl) rfl rfl ?_
  refine l_ rfl (h_ tabOk rfl rfl (by repeat (first | assumption | exact List.mem_cons_self | exact hmem _ | apply List.mem_cons_of_mem)) (by rfl)) rfl rfl ?_
  refine l_ rfl (al_ rfl Tryz.underlying134 (by kernel_rfl) (by simp only [InR, lo, hi]; omega)) rfl rfl ?_
  refine I_ rfl (by kernel_rfl) rfl rfl rfl ?_
  intro w hw
  refine (h9_ (c := (es[z.1]'hlt).core) hw (by have := hfew.letter; omega) (by have := hfew.text; omega)).mono ?_; rintro _ _ ⟨r, rfl, hm⟩; refine ⟨_, _, rfl, hm, _, fun _ h => h.less (fun _ hx => List.mem_cons_of_mem _ hx), fun _ h => h, ?_⟩; clear hm hw w
  refine I_ rfl (by kernel_rfl) rfl rfl rfl ?_
  intro w hw
  refine (dY_ (l := (([] ++ beBytes es.length (Int.toNat 2)) ++ (es.take z.1).flatMap Ent.bytes)) (m := (es[z.1]'hlt).core.bytes) hw (by repeat (first | assumption | exact List.mem_cons_self | exact hmem _ | apply List.mem_cons_of_mem)) (by repeat (first | assumption | exact List.mem_cons_self | exact hmem _ | apply List.mem_cons_of_mem)) (by have := hlen; simp only [List.length_append, v_, Core.bytes_length] at *; unfold lots; omega) (by rw [Core.bytes_length]; have := hfew.letter; have := hfew.text; omega)).mono ?_; rintro _ _ ⟨r, rfl, hm⟩; refine ⟨_, _, rfl, hm, _, fun _ h => h.less (fun _ hx => List.mem_cons_of_mem _ hx), fun _ h => h, ?_⟩; clear hm hw w
  refine I_ rfl (by kernel_rfl) rfl rfl rfl ?_
  intro w hw
  refine (fw_ (l := (([] ++ beBytes es.length (Int.toNat 2)) ++ (es.take z.1).flatMap Ent.bytes) ++ beBytes (es[z.1]'hlt).core.bytes.length 4 ++ (es[z.1]'hlt).core.bytes) (x := (es[z.1]'hlt).mask) (n := 1) hw (hw.bytes (by repeat (first | assumption | exact List.mem_cons_self | exact hmem _ | apply List.mem_cons_of_mem))) (by have := hlen; simp only [List.length_append, v_, Core.bytes_length] at *; unfold lots; omega) (by omega) rfl).mono ?_; rintro _ _ ⟨r, rfl, hm⟩; refine ⟨_, _, rfl, hm, _, fun _ h => h.less (fun _ hx => List.mem_cons_of_mem _ hx), fun _ h => h, ?_⟩; clear hm hw w
  refine l_ rfl (j_ rfl) rfl rfl ?_
  refine N_ ?_
  refine o_ ?_
  refine c_ ?_
  refine a_ ?_
  refine b_ (s_ rfl rfl (by simp only [InR, lo, hi]; omega)) rfl rfl ?_
  refine b_ (k_ rfl) rfl rfl ?_
  refine g_ ?_
  refine x_ (z.1 + 1, r) (by show es.length - (z.1 + 1) < es.length - z.1; omega) (by exact ⟨rfl, rfl, rfl, rfl, trivial⟩) (fun w' hw' => ⟨hlt, ?_⟩)
  have e1 : (([] ++ beBytes es.length (Int.toNat 2)) ++ (es.take (z.1 + 1)).flatMap Ent.bytes) = (([] ++ beBytes es.length (Int.toNat 2)) ++ (es.take z.1).flatMap Ent.bytes) ++ beBytes (es[z.1]'hlt).core.bytes.length 4 ++ (es[z.1]'hlt).core.bytes ++ beBytes (es[z.1]'hlt).mask (Int.toNat 1) := by
    rw [List.take_succ_eq_append_getElem hlt, List.flatMap_append]
    simp [Ent.bytes, rowB]
  show Mem S σ (bytesD r (([] ++ beBytes es.length (Int.toNat 2)) ++ (es.take (z.1 + 1)).flatMap Ent.bytes) :: ρ) w'
  rw [e1]
  exact (hw'.sub (fun _ h => h) (List.sublist_cons_self _ _)).less (fun x hx => by rcases List.mem_cons.1 hx with rfl | hx <;> simp [*])
set_option maxHeartbeats 1000000 in
theorem f8_ {v : Value} {es : List Ent} (hw : Mem S σ ρ w) (he : entsD v es ∈ ρ) (hl : es.length ≤ 1000000) (hf : ∀ e ∈ es, e.Few) : Calls Tryz.prog 116 #[v] w fun e w' => ∃ r, e = .returned r ∧ Mem S σ (bytesD r (batchB es) :: ρ) w' := by
  obtain ⟨A, c, rfl, hs1, hs2, hs3⟩ := (hw.data he).shape
  have hA : es ≠ [] → ∃ b off, A = some ⟨b, off, none⟩ := fun h => cM_ (hw.data he) (by cases es with | nil => exact absurd rfl h | cons e es => simp [Ent.cells])
  refine ad_ [.slice A es.length c] Tryz.func116 rfl Tryz.ntmps116 rfl (Mem S σ ρ) hw ?_
  refine d_ (a_ ?_)
  refine b_ (j_ rfl) rfl rfl ?_
  refine g_ (c_ ?_)
  refine d_ (a_ ?_)
  refine b_ (k_ rfl) rfl rfl ?_
  refine b_ (z_ rfl Tryz.underlying75) rfl rfl ?_
  refine b_ (al_ rfl Tryz.underlying134 (by kernel_rfl) (by simp only [InR, lo, hi]; omega)) rfl rfl ?_
  refine u_ (by kernel_rfl) rfl rfl rfl ?_
  intro w hw
  refine (ks_ (x := es.length) (n := 2) hw rfl).mono ?_; rintro _ _ ⟨r, rfl, hm⟩; refine ⟨_, _, rfl, hm, ?_⟩; clear hm hw w
  refine b_ (j_ rfl) rfl rfl ?_
  refine g_ (c_ ?_)
  refine d_ ?_
  refine d_ (a_ ?_)
  refine b_ (k_ rfl) rfl rfl ?_
  refine b_ (z_ rfl Tryz.underlying75) rfl rfl ?_
  refine b_ (k_ rfl) rfl rfl ?_
  refine g_ (c_ ?_)
  refine t_ ?_
  refine S_ (ι := Nat × Value) (fun z => [(10, .slice A es.length c), (11, .int .i64 (es.length : Nat)), (12, .int .i64 (z.1 : Nat)), (3, z.2)]) (fun z w' => z.1 ≤ es.length ∧ Mem S σ (bytesD z.2 (([] ++ beBytes es.length 2) ++ (es.take z.1).flatMap Ent.bytes) :: ρ) w') (fun z => es.length - z.1) (0, _) (by exact ⟨rfl, rfl, rfl, rfl, trivial⟩) (fun w' hw' => ⟨Nat.zero_le _, hw'.less (by intro x hx; simp only [List.take_zero, List.flatMap_nil, List.append_nil] at hx; rcases List.mem_cons.1 hx with rfl | hx <;> simp [*])⟩) ?_
  intro z
  refine a0_ ?_
  intro hz
  have hlen : (([] ++ beBytes es.length 2) ++ (es.take z.1).flatMap Ent.bytes).length ≤ 2 + 1000000 * 2100 := by
    have h0 := dq_ (es := es.take z.1) (fun e he' => hf e (List.mem_of_mem_take he'))
    have h9 : (es.take z.1).length ≤ es.length := by simp; omega
    have h8 : (es.take z.1).length * 2100 ≤ 1000000 * 2100 := Nat.mul_le_mul_right _ (by omega)
    simp only [List.length_append, v_, List.length_nil]
    omega
  refine d_ (a_ ?_)
  refine b_ (ay_ rfl rfl) rfl rfl ?_
  refine g_ (c_ ?_)
  refine d_ ?_
  refine r_ rfl ?_ ?_
  rotate_left
  · intro hc13
    refine Q_ ?_
    refine i_ (by intro h; cases h) ?_
    refine i_ (by intro h; cases h) ?_
    refine P_ ?_
    refine c_ ?_
    refine d_ (a_ ?_)
    refine b_ (k_ rfl) rfl rfl ?_
    refine b_ (j_ rfl) rfl rfl ?_
    refine g_ (c_ ?_)
    refine n_ ?_
    refine M_ rfl rfl ?_
    intro w' hw'
    have e2 : (([] ++ beBytes es.length 2) ++ (es.take z.1).flatMap Ent.bytes) = batchB es := by
      rw [List.take_of_length_le (by omega)]
      simp [batchB]
    rw [e2] at hw'
    exact ⟨_, rfl, hw'⟩
  intro hc13
  have hlt : z.1 < es.length := by omega
  have hfew := hf _ (List.getElem_mem hlt)
  have hmask := hfew.mask
  have hlet := hfew.letter
  have htex := hfew.text
  obtain ⟨bb, off, rfl⟩ := hA (by intro h0; rw [h0] at hlt; simp at hlt)
  refine p_ ?_
  refine c_ ?_
  refine d_ ?_
  refine t_ ?_
  refine d_ (a_ ?_)
  refine b_ (aD_ tabOk Tryz.underlying75 rfl rfl rfl (by omega)) rfl rfl ?_
  refine b_ (bA_ (f := Ent.cells) tabOk rfl rfl rfl (by repeat (first | assumption | exact List.mem_cons_self | exact hmem _ | apply List.mem_cons_of_mem)) (fun _ => rfl) hlt) rfl rfl ?_
  refine az_ (B_ tabOk rfl) rfl rfl ?_
  rintro _ _ ⟨b5, rfl, rfl⟩
  refine az_ (b6_ (L' := (es[z.1]'hlt).cells) (vs := (es[z.1]'hlt).cells) tabOk rfl rfl rfl (by repeat (first | assumption | exact Upd.here | exact hrep _ _ | apply Upd.there)) (by rfl) (Nat.le_of_ble_eq_true (by rfl)) (Ent.one _) (by rfl)) rfl rfl ?_; rintro _ _ ⟨rfl, rfl⟩
  refine g_ (c_ ?_)
  refine Y_ _ (.q 0 (.q 1 (.q 2 (.q 5 (.q 6 (.q 7 (.e 3 (.e 4 (.e 8 (.q 9 .nil)))))))))) (by kernel_rfl) (by kernel_rfl) (fun _ h => h) (fun _ h => h.drew) ?_
  refine l_ rfl (k_ rfl) rfl rfl ?_
  refine l_ rfl (y_ tabOk rfl rfl rfl rfl rfl) rfl rfl ?_
  refine l_ rfl (H_ tabOk rfl rfl rfl (by repeat (first | assumption | exact List.mem_cons_self | exact hmem _ | apply List.mem_cons_of_mem)) (Nat.le_of_ble_eq_true (by rfl))) rfl rfl ?_
  refine l_ rfl (y_ tabOk rfl rfl rfl rfl rfl) rfl rfl ?_
  refine l_ rfl (h_ tabOk rfl rfl (by repeat (first | assumption | exact List.mem_cons_self | exact hmem _ | apply List.mem_cons_of_mem)) (by rfl)) rfl rfl ?_
  refine l_ rfl (al_ rfl Tryz.underlying134 (by kernel_rfl) (by simp only [InR, lo, hi]; omega)) rfl rfl ?_
  refine I_ rfl (by kernel_rfl) rfl rfl rfl ?_
  intro w hw
  refine (gZ_ (c := (es[z.1]'hlt).core) hw (by have := hfew.letter; omega) (by have := hfew.text; omega)).mono ?_; rintro _ _ ⟨r, rfl, hm⟩; refine ⟨_, _, rfl, hm, _, fun _ h => h.less (fun _ hx => List.mem_cons_of_mem _ hx), fun _ h => h, ?_⟩; clear hm hw w
  refine I_ rfl (by kernel_rfl) rfl rfl rfl ?_
  intro w hw
  refine (eA_ (l := (([] ++ beBytes es.length 2) ++ (es.take z.1).flatMap Ent.bytes)) (m := (es[z.1]'hlt).core.bytes) hw (by repeat (first | assumption | exact List.mem_cons_self | exact hmem _ | apply List.mem_cons_of_mem)) (by repeat (first | assumption | exact List.mem_cons_self | exact hmem _ | apply List.mem_cons_of_mem)) (by have := hlen; simp only [List.length_append, v_, Core.bytes_length] at *; unfold lots; omega) (by rw [Core.bytes_length]; have := hfew.letter; have := hfew.text; omega)).mono ?_; rintro _ _ ⟨r, rfl, hm⟩; refine ⟨_, _, rfl, hm, _, fun _ h => h.less (fun _ hx => List.mem_cons_of_mem _ hx), fun _ h => h, ?_⟩; clear hm hw w
  refine I_ rfl (by kernel_rfl) rfl rfl rfl ?_
  intro w hw
  refine (e1_ (l := (([] ++ beBytes es.length 2) ++ (es.take z.1).flatMap Ent.bytes) ++ beBytes (es[z.1]'hlt).core.bytes.length 4 ++ (es[z.1]'hlt).core.bytes) (x := (es[z.1]'hlt).mask) (n := 1) hw (by repeat (first | assumption | exact List.mem_cons_self | exact hmem _ | apply List.mem_cons_of_mem)) (by have := hlen; simp only [List.length_append, v_, Core.bytes_length] at *; unfold lots; omega) rfl).mono ?_; rintro _ _ ⟨r, rfl, hm⟩; refine ⟨_, _, rfl, hm, _, fun _ h => h.less (fun _ hx => List.mem_cons_of_mem _ hx), fun _ h => h, ?_⟩; clear hm hw w
  refine l_ rfl (j_ rfl) rfl rfl ?_
  refine N_ ?_
  refine o_ ?_
  refine c_ ?_
  refine a_ ?_
  refine b_ (s_ rfl rfl (by simp only [InR, lo, hi]; omega)) rfl rfl ?_
  refine b_ (k_ rfl) rfl rfl ?_
  refine g_ ?_
  refine x_ (z.1 + 1, r) (by show es.length - (z.1 + 1) < es.length - z.1; omega) (by exact ⟨rfl, rfl, rfl, rfl, trivial⟩) (fun w' hw' => ⟨hlt, ?_⟩)
  have e1 : (([] ++ beBytes es.length 2) ++ (es.take (z.1 + 1)).flatMap Ent.bytes) = (([] ++ beBytes es.length 2) ++ (es.take z.1).flatMap Ent.bytes) ++ beBytes (es[z.1]'hlt).core.bytes.length 4 ++ (es[z.1]'hlt).core.bytes ++ beBytes (es[z.1]'hlt).mask 1 := by
    rw [List.take_succ_eq_append_getElem hlt, List.flatMap_append]
    simp [Ent.bytes, rowB]
  show Mem S σ (bytesD r (([] ++ beBytes es.length 2) ++ (es.take (z.1 + 1)).flatMap Ent.bytes) :: ρ) w'
  rw [e1]
  exact (hw'.sub (fun _ h => h) (List.sublist_cons_self _ _)).less (fun x hx => by rcases List.mem_cons.1 hx with rfl | hx <;> simp [*])
end
def sg (x : Nat) : Int := IntKind.i64.wrap (x : Int)
def txtB (l : List UInt8) : ByteArray := ⟨l.toArray⟩
def Rd.c3 (s : Rd) : Rd := ((s.fixed 1).fixed 8).fixed 1
def Rd.c4 (s : Rd) (most : Int) : Rd := s.c3.row most
def Rd.c6 (s : Rd) (most : Int) : Rd := ((s.c4 most).fixed 8).fixed 8
def Rd.coreEnd (s : Rd) (most : Int) : Rd := (s.c6 most).row most
def Rd.core (s : Rd) (most : Int) : Core where
  client := s.num 1
  stamp := sg ((s.fixed 1).num 8)
  op := ((s.fixed 1).fixed 8).num 1
  letter := txtB (s.c3.rowOut most)
  a := sg ((s.c4 most).num 8)
  b := sg (((s.c4 most).fixed 8).num 8)
  text := txtB ((s.c6 most).rowOut most)
theorem Rd.row_length (s : Rd) (most : Int) : (s.row most).l.length ≤ s.l.length := by
  have h1 := s.fixed_length 4
  have h2 := (s.fixed 4).fixed_length (s.num 4)
  unfold Rd.row
  split
  · exact h1
  · split
    · exact h1
    · omega
section
variable {S : List (World × List Nat)} {σ τ : Blks} {ρ : List Dt} {w : World}
theorem Core.one (c : Core) : ∀ u ∈ c.cells, u.oneCell' = true := by
  intro u hu
  simp only [Core.cells, List.mem_cons, List.not_mem_nil, or_false] at hu
  rcases hu with rfl | rfl | rfl | rfl | rfl | rfl | rfl <;> rfl
set_option maxHeartbeats 2000000 in
theorem formed_c {v : Value} {l : List UInt8} (hw : Mem S σ ρ w) (hb : bytesD v l ∈ ρ) (hl : l.length ≤ lots) : Calls Tryz.prog 133 #[v] w fun e w' => ∃ z, e = .returned (.tuple #[.agg (((⟨z, l, 0⟩ : Rd).core (l.length : Nat)).cells).toArray, .bool (decide (((⟨z, l, 0⟩ : Rd).coreEnd (l.length : Nat)).end_ = 0))]) ∧ Mem S σ ρ w' := by
  obtain ⟨A, c, rfl, hs1, hs2, hs3⟩ := (hw.data hb).shape
  refine ad_ [.slice A l.length c] Tryz.func133 rfl Tryz.ntmps133 rfl (Mem S σ ρ) hw ?_
  refine d_ (a_ ?_)
  refine az_ (B_ tabOk rfl) rfl rfl ?_
  rintro _ _ ⟨b2, rfl, rfl⟩
  refine b_ (j_ rfl) rfl rfl ?_
  refine g_ (c_ ?_)
  refine d_ (a_ ?_)
  refine b_ (k_ rfl) rfl rfl ?_
  refine u_ (by kernel_rfl) rfl rfl rfl ?_
  intro w hw
  refine (ky_ (l := l) hw hb hl).mono ?_; rintro _ _ ⟨p, z, rfl, hm⟩; have h1 := (⟨z, l, 0⟩ : Rd).fixed_length 1; have h2 := ((⟨z, l, 0⟩ : Rd).fixed 1).fixed_length 8; have h3 : ((⟨z, l, 0⟩ : Rd).c3).l.length ≤ (((⟨z, l, 0⟩ : Rd).fixed 1).fixed 8).l.length := (((⟨z, l, 0⟩ : Rd).fixed 1).fixed 8).fixed_length 1; have h4 : ((⟨z, l, 0⟩ : Rd).c4 (l.length : Nat)).l.length ≤ ((⟨z, l, 0⟩ : Rd).c3).l.length := ((⟨z, l, 0⟩ : Rd).c3).row_length _; have h5 := ((⟨z, l, 0⟩ : Rd).c4 (l.length : Nat)).fixed_length 8; have h6 : ((⟨z, l, 0⟩ : Rd).c6 (l.length : Nat)).l.length ≤ (((⟨z, l, 0⟩ : Rd).c4 (l.length : Nat)).fixed 8).l.length := (((⟨z, l, 0⟩ : Rd).c4 (l.length : Nat)).fixed 8).fixed_length 8; have n1 := (⟨z, l, 0⟩ : Rd).num_lt (n := 1) (k := 1) (Nat.le_refl _); have n2 := (((⟨z, l, 0⟩ : Rd).fixed 1).fixed 8).num_lt (n := 1) (k := 1) (Nat.le_refl _); dsimp only at h1; refine ⟨_, _, rfl, hm, ?_⟩; clear hm hw w
  refine b_ (j_ rfl) rfl rfl ?_
  refine g_ (c_ ?_)
  refine d_ (a_ ?_)
  refine az_ (B_ tabOk rfl) rfl rfl ?_
  rintro _ _ ⟨b5, rfl, rfl⟩
  refine g_ (c_ ?_)
  refine d_ (a_ ?_)
  refine b_ (k_ rfl) rfl rfl ?_
  refine u_ (by kernel_rfl) rfl rfl rfl ?_
  intro w hw
  refine (bn_ (s := (⟨z, l, 0⟩ : Rd)) (n := 1) hw (by repeat (first | assumption | exact Upd.here | exact hrep _ _ | apply Upd.there)) (by repeat (first | assumption | exact List.mem_cons_self | exact hmem _ | apply List.mem_cons_of_mem)) (by omega) rfl).mono ?_; rintro _ _ ⟨rfl, hm⟩; refine ⟨_, _, rfl, hm, ?_⟩; clear hm hw w
  refine b_ (al_ rfl Tryz.underlying3 (by kernel_rfl) (by simp only [InR, lo, hi]; omega)) rfl rfl ?_
  refine b_ (k_ rfl) rfl rfl ?_
  refine u_ (by kernel_rfl) rfl rfl rfl ?_
  intro w hw
  refine (bn_ (s := ((⟨z, l, 0⟩ : Rd).fixed 1)) (n := 8) hw (by repeat (first | assumption | exact Upd.here | exact hrep _ _ | apply Upd.there)) (by repeat (first | assumption | exact List.mem_cons_self | exact hmem _ | apply List.mem_cons_of_mem)) (by omega) rfl).mono ?_; rintro _ _ ⟨rfl, hm⟩; refine ⟨_, _, rfl, hm, ?_⟩; clear hm hw w
  refine b_ (a4_ rfl Tryz.underlying2 (by kernel_rfl)) rfl rfl ?_
  refine b_ (k_ rfl) rfl rfl ?_
  refine u_ (by kernel_rfl) rfl rfl rfl ?_
  intro w hw
  refine (bn_ (s := (((⟨z, l, 0⟩ : Rd).fixed 1).fixed 8)) (n := 1) hw (by repeat (first | assumption | exact Upd.here | exact hrep _ _ | apply Upd.there)) (by repeat (first | assumption | exact List.mem_cons_self | exact hmem _ | apply List.mem_cons_of_mem)) (by omega) rfl).mono ?_; rintro _ _ ⟨rfl, hm⟩; refine ⟨_, _, rfl, hm, ?_⟩; clear hm hw w
  refine b_ (al_ rfl Tryz.underlying3 (by kernel_rfl) (by simp only [InR, lo, hi]; omega)) rfl rfl ?_
  refine b_ (y_ tabOk rfl rfl rfl rfl rfl) rfl rfl ?_
  refine az_ (bo_ tabOk rfl rfl rfl rfl rfl (by repeat (first | assumption | exact Upd.here | exact hrep _ _ | apply Upd.there)) (by rfl) (by rfl)) rfl rfl ?_
  rintro _ _ ⟨rfl, rfl⟩
  refine b_ (y_ tabOk rfl rfl rfl rfl rfl) rfl rfl ?_
  refine az_ (bo_ tabOk rfl rfl rfl rfl rfl (by repeat (first | assumption | exact Upd.here | exact hrep _ _ | apply Upd.there)) (by rfl) (by rfl)) rfl rfl ?_
  rintro _ _ ⟨rfl, rfl⟩
  refine b_ (y_ tabOk rfl rfl rfl rfl rfl) rfl rfl ?_
  refine az_ (bo_ tabOk rfl rfl rfl rfl rfl (by repeat (first | assumption | exact Upd.here | exact hrep _ _ | apply Upd.there)) (by rfl) (by rfl)) rfl rfl ?_
  rintro _ _ ⟨rfl, rfl⟩
  refine g_ (c_ ?_)
  refine d_ (a_ ?_)
  iterate 2 refine b_ (k_ rfl) rfl rfl ?_
  refine b_ (z_ rfl Tryz.underlying27) rfl rfl ?_
  refine u_ (by kernel_rfl) rfl rfl rfl ?_
  intro w hw
  refine (row_c (s := ((⟨z, l, 0⟩ : Rd).c3)) (most := (l.length : Nat)) hw (by repeat (first | assumption | exact Upd.here | exact hrep _ _ | apply Upd.there)) (by repeat (first | assumption | exact List.mem_cons_self | exact hmem _ | apply List.mem_cons_of_mem)) (by omega) (by unfold lots at hl; omega)).mono ?_; rintro _ _ ⟨r, rfl, hm⟩; refine ⟨_, _, rfl, hm, ?_⟩; clear hm hw w
  refine b_ (dN_ rfl (by repeat (first | assumption | exact List.mem_cons_self | exact hmem _ | apply List.mem_cons_of_mem))) rfl rfl ?_
  refine b_ (y_ tabOk rfl rfl rfl rfl rfl) rfl rfl ?_
  refine az_ (bo_ tabOk rfl rfl rfl rfl rfl (by repeat (first | assumption | exact Upd.here | exact hrep _ _ | apply Upd.there)) (by rfl) (by rfl)) rfl rfl ?_
  rintro _ _ ⟨rfl, rfl⟩
  refine g_ (c_ ?_)
  refine d_ (a_ ?_)
  refine b_ (k_ rfl) rfl rfl ?_
  refine u_ (by kernel_rfl) rfl rfl rfl ?_
  intro w hw
  refine (bn_ (s := ((⟨z, l, 0⟩ : Rd).c4 (l.length : Nat))) (n := 8) hw (by repeat (first | assumption | exact Upd.here | exact hrep _ _ | apply Upd.there)) (by repeat (first | assumption | exact List.mem_cons_self | exact hmem _ | apply List.mem_cons_of_mem)) (by omega) rfl).mono ?_; rintro _ _ ⟨rfl, hm⟩; refine ⟨_, _, rfl, hm, ?_⟩; clear hm hw w
  refine b_ (a4_ rfl Tryz.underlying2 (by kernel_rfl)) rfl rfl ?_
  refine b_ (k_ rfl) rfl rfl ?_
  refine u_ (by kernel_rfl) rfl rfl rfl ?_
  intro w hw
  refine (bn_ (s := (((⟨z, l, 0⟩ : Rd).c4 (l.length : Nat)).fixed 8)) (n := 8) hw (by repeat (first | assumption | exact Upd.here | exact hrep _ _ | apply Upd.there)) (by repeat (first | assumption | exact List.mem_cons_self | exact hmem _ | apply List.mem_cons_of_mem)) (by omega) rfl).mono ?_; rintro _ _ ⟨rfl, hm⟩; refine ⟨_, _, rfl, hm, ?_⟩; clear hm hw w
  refine b_ (a4_ rfl Tryz.underlying2 (by kernel_rfl)) rfl rfl ?_
  refine b_ (y_ tabOk rfl rfl rfl rfl rfl) rfl rfl ?_
  refine az_ (bo_ tabOk rfl rfl rfl rfl rfl (by repeat (first | assumption | exact Upd.here | exact hrep _ _ | apply Upd.there)) (by rfl) (by rfl)) rfl rfl ?_
  rintro _ _ ⟨rfl, rfl⟩
  refine b_ (y_ tabOk rfl rfl rfl rfl rfl) rfl rfl ?_
  refine az_ (bo_ tabOk rfl rfl rfl rfl rfl (by repeat (first | assumption | exact Upd.here | exact hrep _ _ | apply Upd.there)) (by rfl) (by rfl)) rfl rfl ?_
  rintro _ _ ⟨rfl, rfl⟩
  refine g_ (c_ ?_)
  refine d_ (a_ ?_)
  iterate 2 refine b_ (k_ rfl) rfl rfl ?_
  refine b_ (z_ rfl Tryz.underlying27) rfl rfl ?_
  refine u_ (by kernel_rfl) rfl rfl rfl ?_
  intro w hw
  refine (row_c (s := ((⟨z, l, 0⟩ : Rd).c6 (l.length : Nat))) (most := (l.length : Nat)) hw (by repeat (first | assumption | exact Upd.here | exact hrep _ _ | apply Upd.there)) (by repeat (first | assumption | exact List.mem_cons_self | exact hmem _ | apply List.mem_cons_of_mem)) (by omega) (by unfold lots at hl; omega)).mono ?_; rintro _ _ ⟨r, rfl, hm⟩; refine ⟨_, _, rfl, hm, ?_⟩; clear hm hw w
  refine b_ (dN_ rfl (by repeat (first | assumption | exact List.mem_cons_self | exact hmem _ | apply List.mem_cons_of_mem))) rfl rfl ?_
  refine b_ (y_ tabOk rfl rfl rfl rfl rfl) rfl rfl ?_
  refine az_ (bo_ tabOk rfl rfl rfl rfl rfl (by repeat (first | assumption | exact Upd.here | exact hrep _ _ | apply Upd.there)) (by rfl) (by rfl)) rfl rfl ?_
  rintro _ _ ⟨rfl, rfl⟩
  refine SL.to (C' := Mem S (.blk b5 (row 79 ((⟨z, l, 0⟩ : Rd).core (l.length : Nat)).cells) :: rdI 169 p ((⟨z, l, 0⟩ : Rd).coreEnd (l.length : Nat)) :: .blk b2 (row 79 [.int .i64 0, .int .i64 0, .int .i64 0, .string ⟨#[]⟩, .int .i64 0, .int .i64 0, .string ⟨#[]⟩]) :: σ) _) (fun _ h => h) ?_
  refine g_ (c_ ?_)
  refine d_ ?_
  refine Y_ (Mem S [.blk b5 (row 79 ((⟨z, l, 0⟩ : Rd).core (l.length : Nat)).cells)] _) (.q 0 (.q 1 (.e 2 (.q 3 (.e 4 (.q 5 .nil)))))) (by kernel_rfl) (by kernel_rfl) (fun _ h => h.sub (fun _ h => h) (List.sublist_append_left [_] _)) (fun _ h => h.drew) ?_
  refine l_ rfl (F_ tabOk rfl rfl rfl (by repeat (first | assumption | exact List.mem_cons_self | exact hmem _ | apply List.mem_cons_of_mem)) (by rfl)) rfl rfl ?_
  refine l_ rfl (k_ rfl) rfl rfl ?_
  refine I_ rfl (by kernel_rfl) rfl rfl rfl ?_
  intro w hw
  refine (end_c (s := (⟨z, l, 0⟩ : Rd).coreEnd (l.length : Nat)) hw (by repeat (first | assumption | exact List.mem_cons_self | exact hmem _ | apply List.mem_cons_of_mem)) (by repeat (first | assumption | exact List.mem_cons_self | exact hmem _ | apply List.mem_cons_of_mem))).mono ?_; rintro _ _ ⟨rfl, hm⟩; refine ⟨_, _, rfl, hm, _, fun _ h => h, fun _ h => h.sub (fun _ h => h) (List.sublist_append_left [_] _), ?_⟩; clear hm hw w
  refine l_ rfl (aq_ rfl rfl) rfl rfl ?_
  refine et_ rfl (b6_ (L' := ((⟨z, l, 0⟩ : Rd).core (l.length : Nat)).cells) (vs := ((⟨z, l, 0⟩ : Rd).core (l.length : Nat)).cells) tabOk rfl rfl rfl (by repeat (first | assumption | exact Upd.here | exact hrep _ _ | apply Upd.there)) (by rfl) (Nat.le_of_ble_eq_true (by rfl)) (Core.one _) (by rfl)) rfl rfl ?_
  rintro _ _ ⟨rfl, rfl⟩
  refine ⟨_, fun _ h => h, fun _ h => h.sub (fun _ h => h) (List.sublist_append_left [_] _), ?_⟩
  refine l_ rfl (j_ rfl) rfl rfl ?_
  refine N_ (c_ ?_)
  refine n_ ?_
  refine iv_ (rs := [.cell 2 79, .tmp 3]) rfl (RV.cell rfl (fun w hw => RV.loadA tabOk rfl rfl hw (by repeat (first | assumption | exact List.mem_cons_self | exact hmem _ | apply List.mem_cons_of_mem)) (by rfl)) (RV.tmp rfl RV.nil)) ?_
  intro w' hw'
  refine ⟨z, rfl, (hw'.sub (fun _ h => h) (List.sublist_append_right [_, _, _] _)).less ?_⟩
  intro x hx
  simp [hx]
end
section
variable {s t : Rd}
theorem Rd.as.c3 (h : s.as t) : s.c3.as t.c3 := ((h.fixed 1).fixed 8).fixed 1
theorem Rd.as.c4 (h : s.as t) (m : Int) : (s.c4 m).as (t.c4 m) := h.c3.row m
theorem Rd.as.c6 (h : s.as t) (m : Int) : (s.c6 m).as (t.c6 m) := ((h.c4 m).fixed 8).fixed 8
theorem Rd.as.coreEnd (h : s.as t) (m : Int) : (s.coreEnd m).as (t.coreEnd m) := (h.c6 m).row m
theorem Rd.as.core (h : s.as t) (m : Int) : s.core m = t.core m := by
  unfold Rd.core
  rw [h.num, (h.fixed 1).num, ((h.fixed 1).fixed 8).num, h.c3.rowOut, (h.c4 m).num, ((h.c4 m).fixed 8).num, (h.c6 m).rowOut]
end
def coreOf (l : List UInt8) (most : Int) : Core := (Rd.of l).core most
def okOf (l : List UInt8) (most : Int) : Bool := decide (((Rd.of l).coreEnd most).end_ = 0)
def Rd.ents (most : Int) : Nat → Rd → List Ent → Option (List Ent × Rd)
  | 0, s, acc => some (acc, s)
  | m + 1, s, acc => if okOf (s.rowOut most) (s.rowOut most).length = false then none else Rd.ents most m ((s.row most).fixed 1) (acc ++ [⟨coreOf (s.rowOut most) (s.rowOut most).length, (s.row most).num 1⟩])
def parse2 (n : Int) : Option (List Ent × Rd) → List Ent × Int
  | none => ([], 2)
  | some (es, s) => if s.end_ ≠ 0 then ([], 2) else if chkB es n ≠ 0 then ([], chkB es n) else (es, 0)
def manyOf (l : List UInt8) : Nat := min ((Rd.of l).num 2) (l.length + 1)
def parseS (l : List UInt8) (n : Int) : List Ent × Int := parse2 n (Rd.ents l.length (manyOf l) ((Rd.of l).fixed 2) [])
theorem k6_ {n most : Int} : ∀ (m : Nat) (acc : List Ent) {s t : Rd}, s.as t → parse2 n (s.ents most m acc) = parse2 n (t.ents most m acc)
  | 0, acc, s, t, h => by simp only [Rd.ents, parse2, h.end_]
  | m + 1, acc, s, t, h => by
    simp only [Rd.ents, h.rowOut]
    split
    · rfl
    · rw [(h.row most).num]
      exact k6_ m _ ((h.row most).fixed 1)
section
variable {S : List (World × List Nat)} {σ τ : Blks} {ρ : List Dt} {w : World}
abbrev ownE (v : Value) (es : List Ent) : It := .pc (ownPc 82 8 v es.length (es.flatMap Ent.cells))
theorem fo_ {v : Value} {es : List Ent} {n : Int} (hw : Mem S σ ρ w) (ho : ownE v es ∈ σ) (hl : es.length ≤ 1000000) : Calls Tryz.prog 102 #[v, .int .i64 n] w fun e w' => e = .returned (.int .i64 (chkB es n)) ∧ Mem S σ ρ w' :=
  (ep_ ((Mem.start w).add (z := entsD v es) (ownsRow.isRow (hw.hold _ ho) (by simp))) List.mem_cons_self hl).mono fun _ _ ⟨h1, h2⟩ => ⟨h1, hw.same (h2.ext _ List.mem_cons_self)⟩
theorem Mem.nilE (h : Mem S σ ρ w) : Mem S (ownE (.slice none 0 0) [] :: σ) ρ w := h.own0 82 8
set_option maxHeartbeats 4000000 in
theorem kJ_ {v : Value} {l : List UInt8} {n : Int} (hw : Mem S σ ρ w) (hb : bytesD v l ∈ ρ) (hl : l.length ≤ 10000000) : Calls Tryz.prog 109 #[v, .int .i64 n] w fun e w' => ∃ r, e = .returned (.tuple #[r, .int .i64 (parseS l n).2]) ∧ Mem S (ownE r (parseS l n).1 :: σ) ρ w' := by
  have hL : lots = 100000000000 := rfl
  have hll : l.length ≤ lots := by omega
  obtain ⟨A, c, rfl, hs1, hs2, hs3⟩ := (hw.data hb).shape
  refine ad_ [.slice A l.length c, .int .i64 n] Tryz.func109 rfl Tryz.ntmps109 rfl (Mem S σ ρ) hw ?_
  refine d_ (a_ ?_)
  iterate 2 refine b_ (j_ rfl) rfl rfl ?_
  refine g_ (c_ ?_)
  refine d_ (a_ ?_)
  refine b_ (k_ rfl) rfl rfl ?_
  refine u_ (by kernel_rfl) rfl rfl rfl ?_
  intro w hw
  refine (ky_ (l := l) hw hb (by unfold lots; omega)).mono ?_; rintro _ _ ⟨p, z, rfl, hm⟩; have n1 := (Rd.of l).num_lt (n := 2) (k := 2) (Nat.le_refl _); refine ⟨_, _, rfl, hm, ?_⟩; clear hm hw w
  refine b_ (j_ rfl) rfl rfl ?_
  refine g_ (c_ ?_)
  refine d_ (a_ ?_)
  refine b_ (j_ rfl) rfl rfl ?_
  refine SL.to (fun _ h => Mem.nilE h) ?_
  refine g_ (c_ ?_)
  refine d_ ?_
  refine d_ (a_ ?_)
  refine b_ (k_ rfl) rfl rfl ?_
  refine u_ (by kernel_rfl) rfl rfl rfl ?_
  intro w hw
  refine (bn_ (s := ⟨z, l, 0⟩) (n := 2) hw (by repeat (first | assumption | exact Upd.here | exact hrep _ _ | apply Upd.there)) (by repeat (first | assumption | exact List.mem_cons_self | exact hmem _ | apply List.mem_cons_of_mem)) hll rfl).mono ?_; rintro _ _ ⟨he, hm⟩; rw [(of_as z l).num 2] at he; subst he; refine ⟨_, _, rfl, hm, ?_⟩; clear hm hw w
  refine b_ (al_ rfl Tryz.underlying3 (by kernel_rfl) (by simp only [InR, lo, hi]; omega)) rfl rfl ?_
  refine b_ (k_ rfl) rfl rfl ?_
  refine b_ (z_ rfl Tryz.underlying27) rfl rfl ?_
  refine b_ (s_ rfl rfl (by simp only [InR, lo, hi]; omega)) rfl rfl ?_
  refine b_ (Val.minN (j := l.length + 1) rfl rfl (by simp)) rfl rfl ?_
  refine b_ (k_ rfl) rfl rfl ?_
  refine g_ (c_ ?_)
  refine t_ ?_
  refine S_ (ι := Rd × List Ent × Nat × Value) (fun z => [(0, .slice A l.length c), (1, .int .i64 n), (6, .pointer (some ⟨p, 0, none⟩)), (7, z.2.2.2), (19, .int .i64 (manyOf l : Nat)), (20, .int .i64 (z.2.2.1 : Nat))]) (fun z w' => (z.2.2.1 ≤ manyOf l ∧ z.2.1.length = z.2.2.1 ∧ z.1.l.length ≤ l.length ∧ parse2 n (Rd.ents ((l.length : Nat) : Int) (manyOf l - z.2.2.1) z.1 z.2.1) = parseS l n) ∧ Mem S (ownE z.2.2.2 z.2.1 :: rdI 169 p z.1 :: σ) (bytesD z.1.v z.1.l :: ρ) w') (fun z => manyOf l - z.2.2.1) ((⟨z, l, 0⟩ : Rd).fixed 2, [], 0, .slice none 0 0) (by exact ⟨rfl, rfl, rfl, rfl, rfl, rfl, trivial⟩) (fun w' hw' => ⟨⟨Nat.zero_le _, rfl, (⟨z, l, 0⟩ : Rd).fixed_length 2, by rw [Nat.sub_zero]; exact k6_ _ _ ((of_as z l).fixed 2)⟩, hw'.less (by intro x hx; simp only [List.mem_cons] at hx ⊢; rcases hx with rfl | hx <;> simp [*])⟩) ?_
  intro z
  refine a0_ ?_
  rintro ⟨f1, f2, f3, f4⟩
  have n2 := (z.1.row ((l.length : Nat) : Int)).num_lt (n := 1) (k := 1) (Nat.le_refl _)
  have n3 : (z.1.rowOut ((l.length : Nat) : Int)).length ≤ z.1.l.length := z.1.rowOut_length _
  have n4 : manyOf l ≤ l.length + 1 := Nat.min_le_right _ _
  have n5 : manyOf l ≤ 65535 := by
    have h9 : manyOf l ≤ (Rd.of l).num 2 := Nat.min_le_left _ _
    have h8 := (Rd.of l).num_lt (n := 2) (k := 2) (Nat.le_refl _)
    omega
  refine d_ (a_ ?_)
  refine b_ (ay_ rfl rfl) rfl rfl ?_
  refine g_ (c_ ?_)
  refine d_ ?_
  refine r_ rfl ?_ ?_
  rotate_left
  · intro hc21
    refine Q_ ?_
    refine i_ (by intro h; cases h) ?_
    refine i_ (by intro h; cases h) ?_
    refine P_ ?_
    refine c_ ?_
    refine d_ ?_
    refine d_ (a_ ?_)
    refine b_ (k_ rfl) rfl rfl ?_
    refine u_ (by kernel_rfl) rfl rfl rfl ?_
    intro w hw
    refine (end_c (s := z.1) hw (by repeat (first | assumption | exact List.mem_cons_self | exact hmem _ | apply List.mem_cons_of_mem)) (by repeat (first | assumption | exact List.mem_cons_self | exact hmem _ | apply List.mem_cons_of_mem))).mono ?_; rintro _ _ ⟨rfl, hm⟩; refine ⟨_, _, rfl, hm, ?_⟩; clear hm hw w
    refine b_ (aX_ rfl rfl) rfl rfl ?_
    refine g_ (c_ ?_)
    refine r_ rfl ?_ ?_
    · intro hc43
      refine d_ (a_ ?_)
      iterate 2 refine b_ (j_ rfl) rfl rfl ?_
      refine g_ (c_ ?_)
      refine n_ ?_
      refine i_ (by intro h; cases h) ?_
      refine gG_ rfl rfl rfl ?_
      intro w' hw'
      have hk : z.2.2.1 = manyOf l := by omega
      have e0 : parseS l n = ([], 2) := by
        rw [← f4, hk, Nat.sub_self]
        simp only [Rd.ents, parse2]
        rw [if_pos hc43]
      rw [e0]
      exact ⟨_, rfl, (((hw'.sub (fun _ h => h) (List.sublist_append_right [_, _] _)).less (fun x hx => by simp [hx])).nilE)⟩
    intro hc43
    refine p_ ?_
    refine c_ ?_
    refine d_ ?_
    refine d_ (a_ ?_)
    iterate 2 refine b_ (k_ rfl) rfl rfl ?_
    refine u_ (by kernel_rfl) rfl rfl rfl ?_
    intro w hw
    refine (fo_ (es := z.2.1) hw (by repeat (first | assumption | exact List.mem_cons_self | exact hmem _ | apply List.mem_cons_of_mem)) (by omega)).mono ?_; rintro _ _ ⟨rfl, hm⟩; refine ⟨_, _, rfl, hm, ?_⟩; clear hm hw w
    refine b_ (j_ rfl) rfl rfl ?_
    refine g_ (c_ ?_)
    refine d_ (a_ ?_)
    refine b_ (k_ rfl) rfl rfl ?_
    refine b_ (aX_ rfl rfl) rfl rfl ?_
    refine g_ (c_ ?_)
    refine r_ rfl ?_ ?_
    · intro hc48
      refine d_ (a_ ?_)
      refine b_ (k_ rfl) rfl rfl ?_
      iterate 2 refine b_ (j_ rfl) rfl rfl ?_
      refine g_ (c_ ?_)
      refine n_ ?_
      refine i_ (by intro h; cases h) ?_
      refine gG_ rfl rfl rfl ?_
      intro w' hw'
      have hk : z.2.2.1 = manyOf l := by omega
      have e0 : parseS l n = ([], chkB z.2.1 n) := by
        rw [← f4, hk, Nat.sub_self]
        simp only [Rd.ents, parse2]
        rw [if_neg hc43, if_pos hc48]
      rw [e0]
      exact ⟨_, rfl, (((hw'.sub (fun _ h => h) (List.sublist_append_right [_, _] _)).less (fun x hx => by simp [hx])).nilE)⟩
    intro hc48
    refine p_ ?_
    refine c_ ?_
    refine d_ (a_ ?_)
    refine b_ (k_ rfl) rfl rfl ?_
    iterate 2 refine b_ (j_ rfl) rfl rfl ?_
    refine g_ (c_ ?_)
    refine n_ ?_
    refine gG_ rfl rfl rfl ?_
    intro w' hw'
    have hk : z.2.2.1 = manyOf l := by omega
    have e0 : parseS l n = (z.2.1, 0) := by
      rw [← f4, hk, Nat.sub_self]
      simp only [Rd.ents, parse2]
      rw [if_neg hc43, if_neg hc48]
    rw [e0]
    exact ⟨_, rfl, (hw'.sub (fun _ h => h) (List.Sublist.cons_cons _ (List.sublist_cons_self _ _))).less (fun x hx => by simp [hx])⟩
  intro hc21
  have hlt : z.2.2.1 < manyOf l := by omega
  refine p_ ?_
  refine c_ ?_
  refine d_ ?_
  refine t_ ?_
  refine d_ (a_ ?_)
  iterate 2 refine b_ (k_ rfl) rfl rfl ?_
  refine b_ (z_ rfl Tryz.underlying27) rfl rfl ?_
  refine u_ (by kernel_rfl) rfl rfl rfl ?_
  intro w hw
  refine (row_c (s := z.1) (most := ((l.length : Nat) : Int)) hw (by repeat (first | assumption | exact Upd.here | exact hrep _ _ | apply Upd.there)) (by repeat (first | assumption | exact List.mem_cons_self | exact hmem _ | apply List.mem_cons_of_mem)) (by omega) (by omega)).mono ?_; rintro _ _ ⟨r, rfl, hm⟩; refine ⟨_, _, rfl, hm, ?_⟩; clear hm hw w
  refine u_ (by kernel_rfl) rfl rfl rfl ?_
  intro w hw
  refine (formed_c (l := (z.1.rowOut ((l.length : Nat) : Int))) hw (by repeat (first | assumption | exact List.mem_cons_self | exact hmem _ | apply List.mem_cons_of_mem)) (by omega)).mono ?_; rintro _ _ ⟨z0, he, hm⟩; rw [(of_as z0 _).core, ((of_as z0 _).coreEnd _).end_] at he; subst he; refine ⟨_, _, rfl, hm, ?_⟩; clear hm hw w
  refine b_ (k_ rfl) rfl rfl ?_
  refine b_ (aV_ rfl rfl) rfl rfl ?_
  refine b_ (aV_ rfl rfl) rfl rfl ?_
  refine az_ (B_ tabOk rfl) rfl rfl ?_
  rintro _ _ ⟨b8, rfl, rfl⟩
  refine az_ (b6_ (L' := (coreOf (z.1.rowOut ((l.length : Nat) : Int)) ((z.1.rowOut ((l.length : Nat) : Int)).length : Nat)).cells) (vs := (coreOf (z.1.rowOut ((l.length : Nat) : Int)) ((z.1.rowOut ((l.length : Nat) : Int)).length : Nat)).cells) tabOk rfl rfl rfl (by repeat (first | assumption | exact Upd.here | exact hrep _ _ | apply Upd.there)) (by rfl) (Nat.le_of_ble_eq_true (by rfl)) (Core.one _) (by rfl)) rfl rfl ?_
  rintro _ _ ⟨rfl, rfl⟩
  refine b_ (j_ rfl) rfl rfl ?_
  refine g_ (c_ ?_)
  refine d_ ?_
  refine d_ (a_ ?_)
  refine b_ (k_ rfl) rfl rfl ?_
  refine b_ (aL_ rfl) rfl rfl ?_
  refine g_ (c_ ?_)
  refine r_ rfl ?_ ?_
  · intro hc31
    have hok : okOf (z.1.rowOut ((l.length : Nat) : Int)) ((z.1.rowOut ((l.length : Nat) : Int)).length : Nat) = false := by simpa [okOf] using hc31
    refine d_ (a_ ?_)
    iterate 2 refine b_ (j_ rfl) rfl rfl ?_
    refine g_ (c_ ?_)
    refine n_ ?_
    refine i_ (by intro h; cases h) ?_
    refine E_ ?_
    refine i_ (by intro h; cases h) ?_
    refine i_ (by intro h; cases h) ?_
    refine E_ ?_
    refine i_ (by intro h; cases h) ?_
    refine gG_ rfl rfl rfl ?_
    intro w' hw'
    have e0 : parseS l n = ([], 2) := by
      rw [← f4, show manyOf l - z.2.2.1 = (manyOf l - (z.2.2.1 + 1)) + 1 by omega]
      simp only [Rd.ents, hok]
      rfl
    rw [e0]
    exact ⟨_, rfl, (((hw'.sub (fun _ h => h) (List.sublist_append_right [_, _, _] _)).less (fun x hx => by simp [hx])).nilE)⟩
  intro hc31
  have hok : okOf (z.1.rowOut ((l.length : Nat) : Int)) ((z.1.rowOut ((l.length : Nat) : Int)).length : Nat) = true := by simpa [okOf] using hc31
  refine p_ ?_
  refine c_ ?_
  refine Y_ (Mem S [.blk b8 (row 79 (coreOf (z.1.rowOut ((l.length : Nat) : Int)) ((z.1.rowOut ((l.length : Nat) : Int)).length : Nat)).cells)] []) (.q 0 (.q 1 (.q 2 (.e 3 (.q 4 (.q 5 (.e 6 (.e 7 (.q 8 .nil))))))))) (by kernel_rfl) (by kernel_rfl) (fun _ h => (h.sub (fun _ h => h) (by exact List.sublist_append_left [_] _)).less (by simp)) (fun _ h => h.drew) ?_
  refine l_ rfl (k_ rfl) rfl rfl ?_
  refine l_ rfl (F_ tabOk rfl rfl rfl (by repeat (first | assumption | exact List.mem_cons_self | exact hmem _ | apply List.mem_cons_of_mem)) (by rfl)) rfl rfl ?_
  refine l_ rfl (k_ rfl) rfl rfl ?_
  refine I_ rfl (by kernel_rfl) rfl rfl rfl ?_
  intro w hw
  refine (bn_ (s := (z.1.row ((l.length : Nat) : Int))) (n := 1) hw (by repeat (first | assumption | exact Upd.here | exact hrep _ _ | apply Upd.there)) (by repeat (first | assumption | exact List.mem_cons_self | exact hmem _ | apply List.mem_cons_of_mem)) (by have := z.1.row_length ((l.length : Nat) : Int); omega) rfl).mono ?_; rintro _ _ ⟨rfl, hm⟩; refine ⟨_, _, rfl, hm, _, fun _ h => h, fun _ h => (h.sub (fun _ h => h) (by exact List.sublist_append_left [_] _)).less (by simp), ?_⟩; clear hm hw w
  refine l_ rfl (al_ rfl Tryz.underlying80 (by kernel_rfl) (by simp only [InR, lo, hi]; omega)) rfl rfl ?_
  refine l_ rfl (J_ (L := (⟨coreOf (z.1.rowOut ((l.length : Nat) : Int)) ((z.1.rowOut ((l.length : Nat) : Int)).length : Nat), (z.1.row ((l.length : Nat) : Int)).num 1⟩ : Ent).cells) tabOk rfl rfl rfl (by rfl)) rfl rfl ?_
  refine et_ rfl (cq_ (L := (⟨coreOf (z.1.rowOut ((l.length : Nat) : Int)) ((z.1.rowOut ((l.length : Nat) : Int)).length : Nat), (z.1.row ((l.length : Nat) : Int)).num 1⟩ : Ent).cells) tabOk Tryz.underlying75 rfl rfl (fun L0 h => by match L0, h with | [_, _, _, _, _, _, _, _], _ => rfl) rfl) rfl rfl ?_
  rintro _ _ ⟨b38, rfl, rfl⟩
  refine ⟨_, fun _ h => h, fun _ h => (h.sub (fun _ h => h) (by exact List.Sublist.cons _ (List.sublist_append_left [_] _))).less (by simp), ?_⟩
  refine et_ rfl (bd_ (pre := [_, _]) (k := z.2.1.length) (news := (⟨coreOf (z.1.rowOut ((l.length : Nat) : Int)) ((z.1.rowOut ((l.length : Nat) : Int)).length : Nat), (z.1.row ((l.length : Nat) : Int)).num 1⟩ : Ent).cells) tabOk Tryz.underlying75 rfl rfl rfl rfl rfl (fun _ hw => ⟨_, hw.blkRow List.mem_cons_self (Nat.le_refl _) (by decide)⟩) rfl (Ent.one _) (by unfold maxLen; omega) (by rw [show Tryz.prog.bytesOf 82 = 80 by kernel_rfl]; omega)) rfl rfl ?_
  rintro r _ rfl
  refine ⟨_, fun _ h => h, fun _ h => (h.sub (fun _ h => h) (by exact List.Sublist.cons _ (List.sublist_append_left [_] _))).less (by simp), ?_⟩
  refine l_ rfl (j_ rfl) rfl rfl ?_
  refine N_ ?_
  refine o_ ?_
  refine c_ ?_
  refine a_ ?_
  refine b_ (s_ rfl rfl (by simp only [InR, lo, hi]; omega)) rfl rfl ?_
  refine b_ (k_ rfl) rfl rfl ?_
  refine g_ ?_
  refine x_ ((z.1.row ((l.length : Nat) : Int)).fixed 1, z.2.1 ++ [(⟨coreOf (z.1.rowOut ((l.length : Nat) : Int)) ((z.1.rowOut ((l.length : Nat) : Int)).length : Nat), (z.1.row ((l.length : Nat) : Int)).num 1⟩ : Ent)], z.2.2.1 + 1, r) (by show manyOf l - (z.2.2.1 + 1) < manyOf l - z.2.2.1; omega) (by exact ⟨rfl, rfl, rfl, rfl, rfl, rfl, trivial⟩) (fun w' hw' => ⟨⟨by show z.2.2.1 + 1 ≤ manyOf l; omega, by show (z.2.1 ++ [(⟨coreOf (z.1.rowOut ((l.length : Nat) : Int)) ((z.1.rowOut ((l.length : Nat) : Int)).length : Nat), (z.1.row ((l.length : Nat) : Int)).num 1⟩ : Ent)]).length = z.2.2.1 + 1; simp [f2], by show ((z.1.row ((l.length : Nat) : Int)).fixed 1).l.length ≤ l.length; have := (z.1.row ((l.length : Nat) : Int)).fixed_length 1; have := z.1.row_length ((l.length : Nat) : Int); omega, ?_⟩, ?_⟩)
  · rw [← f4, show manyOf l - z.2.2.1 = (manyOf l - (z.2.2.1 + 1)) + 1 by omega]
    simp only [Rd.ents, hok]
    rfl
  · have e1 : (z.2.1 ++ [(⟨coreOf (z.1.rowOut ((l.length : Nat) : Int)) ((z.1.rowOut ((l.length : Nat) : Int)).length : Nat), (z.1.row ((l.length : Nat) : Int)).num 1⟩ : Ent)]).flatMap Ent.cells = z.2.1.flatMap Ent.cells ++ (⟨coreOf (z.1.rowOut ((l.length : Nat) : Int)) ((z.1.rowOut ((l.length : Nat) : Int)).length : Nat), (z.1.row ((l.length : Nat) : Int)).num 1⟩ : Ent).cells := by rw [List.flatMap_append]; simp
    show Mem S (.pc (ownPc _ _ _ (z.2.1 ++ [(⟨coreOf (z.1.rowOut ((l.length : Nat) : Int)) ((z.1.rowOut ((l.length : Nat) : Int)).length : Nat), (z.1.row ((l.length : Nat) : Int)).num 1⟩ : Ent)]).length ((z.2.1 ++ [(⟨coreOf (z.1.rowOut ((l.length : Nat) : Int)) ((z.1.rowOut ((l.length : Nat) : Int)).length : Nat), (z.1.row ((l.length : Nat) : Int)).num 1⟩ : Ent)]).flatMap Ent.cells)) :: _) _ w'
    rw [e1, List.length_append]
    exact (hw'.sub (fun _ h => h) (List.sublist_append_right [_, _] _)).less (fun x hx => by simp only [List.mem_cons] at hx ⊢; rcases hx with rfl | hx <;> simp [*])
end
theorem Upd.fn {x y : It} {σ τ : Blks} (h : Upd x y σ τ) : ∃ rep : It → Blks, rep x = σ ∧ rep y = τ ∧ ∀ a b, Upd a b (rep a) (rep b) := by
  induction h with
  | here => exact ⟨fun a => a :: _, rfl, rfl, fun a b => .here⟩
  | @there z σ0 τ0 _ ih =>
    obtain ⟨rep, h1, h2, h3⟩ := ih
    exact ⟨fun a => z :: rep a, by show z :: rep x = _; rw [h1], by show z :: rep y = _; rw [h2], fun a b => .there (h3 a b)⟩
/-! ### The same -/
structure Ent.Lits (e : Ent) : Prop where
  client : InR .i64 e.core.client
  stamp : InR .i64 e.core.stamp
  op : InR .i64 e.core.op
  a : InR .i64 e.core.a
  b : InR .i64 e.core.b
  letter : e.core.letter.size ≤ maxLen
  text : e.core.text.size ≤ maxLen
  mask : e.mask < 4294967296
noncomputable instance : DecidableEq Ent := fun _ _ => Classical.propDecidable _
theorem wfI {a : Int} (h : InR .i64 a) : (Lit.int .i64 a).wf = true := by
  obtain ⟨h0, h1⟩ := h
  simp only [lo, hi] at h0 h1
  simp [Lit.wf, IntKind.min, IntKind.max, IntKind.signed, IntKind.bits]; omega
theorem wfU {a : Nat} (h : a < 4294967296) : (Lit.int .u32 (a : Nat)).wf = true := by
  simp [Lit.wf, IntKind.min, IntKind.max, IntKind.signed, IntKind.bits]; omega
def Ent.lits (e : Ent) : List Lit := [.int .i64 e.core.client, .int .i64 e.core.stamp, .int .i64 e.core.op, .string e.core.letter.data.toList, .int .i64 e.core.a, .int .i64 e.core.b, .string e.core.text.data.toList, .int .u32 e.mask]
theorem ja_ (e : Ent) (h : e.Lits) : Tryz.prog.keyLits 4 82 e.cells = some e.lits := by
  have h1 := wfI h.client
  have h2 := wfI h.stamp
  have h3 := wfI h.op
  have h4 := wfI h.a
  have h5 := wfI h.b
  have h6 := h.letter
  have h7 := h.text
  have h8 := wfU h.mask
  have c1 : Tryz.prog.cellsOf 82 = 8 := by kernel_rfl
  have c2 : Tryz.prog.cellsOf 79 = 7 := by kernel_rfl
  have c3 : Tryz.prog.cellsOf 9 = 1 := by kernel_rfl
  have c4 : Tryz.prog.cellsOf 3 = 1 := by kernel_rfl
  have c5 : Tryz.prog.cellsOf 2 = 1 := by kernel_rfl
  have c6 : Tryz.prog.cellsOf 80 = 1 := by kernel_rfl
  simp [Program.keyLits, Tryz.underlying82, Tryz.underlying79, Tryz.underlying9, Tryz.underlying3, Tryz.underlying2, Tryz.underlying80, c1, c2, c3, c4, c5, c6, Ent.cells, Ent.lits, h1, h2, h3, h4, h5, h6, h7, h8]
  rw [if_pos (by decide)]
  rfl
theorem fO_ (e : Ent) : (Value.agg e.cells.toArray).formed Tryz.prog 82 = true := by kernel_rfl
theorem ByteArray.of_data {a b : ByteArray} (h : a.data.toList = b.data.toList) : a = b := by
  cases a; cases b; simp at h; simp [h]
theorem Ent.lits_inj {e f : Ent} (h : e.lits = f.lits) : e = f := by
  simp only [Ent.lits, List.cons.injEq, Lit.string.injEq, Lit.int.injEq, true_and, and_true] at h
  obtain ⟨h1, h2, h3, h4, h5, h6, h7, h8⟩ := h
  obtain ⟨⟨a1, a2, a3, a4, a5, a6, a7⟩, a8⟩ := e
  obtain ⟨⟨b1, b2, b3, b4, b5, b6, b7⟩, b8⟩ := f
  simp only [Ent.mk.injEq, Core.mk.injEq]
  exact ⟨⟨h1, h2, h3, ByteArray.of_data h4, h5, h6, ByteArray.of_data h7⟩, by dsimp only at h8; omega⟩
theorem neqE {e f : Ent} (he : e.Lits) (hf : f.Lits) (w : World) : (binOp .neq 82 (.agg e.cells.toArray) (.agg f.cells.toArray)).run Tryz.prog w = .ok (.bool (decide (e ≠ f))) w :=
  ek_ (m := 10) (by decide) (by kernel_rfl) (fO_ e) (fO_ f) (by simpa using ja_ e he) (by simpa using ja_ f hf) _ (by
    rw [decide_eq_true_eq]
    exact ⟨fun h h2 => h (Ent.lits_inj h2), fun h h2 => h (by rw [h2])⟩) w
theorem bh_ {α : Type} {es fs : List α} {k : Nat} (h : es.take k = fs.take k) (h1 : k < es.length) (h2 : k < fs.length) (h3 : es[k] = fs[k]) : es.take (k + 1) = fs.take (k + 1) := by
  rw [List.take_succ_eq_append_getElem h1, List.take_succ_eq_append_getElem h2, h, h3]
section
variable {S : List (World × List Nat)} {σ τ : Blks} {ρ : List Dt} {w : World} {p : Nat} {s : Rd}
set_option maxHeartbeats 1000000 in
theorem equal_c {v u : Value} {es fs : List Ent} (hw : Mem S σ ρ w) (he : entsD v es ∈ ρ) (hf : entsD u fs ∈ ρ) (hl : es.length ≤ 1000000) (h1 : ∀ e ∈ es, e.Lits) (h2 : ∀ e ∈ fs, e.Lits) : Calls Tryz.prog 117 #[v, u] w fun e w' => e = .returned (.bool (decide (es = fs))) ∧ Mem S σ ρ w' := by
  obtain ⟨A, c, rfl, hs1, hs2, hs3⟩ := (hw.data he).shape
  obtain ⟨B, d, rfl, ht1, ht2, ht3⟩ := (hw.data hf).shape
  have hA : es ≠ [] → ∃ b off, A = some ⟨b, off, none⟩ := fun h => cM_ (hw.data he) (by cases es with | nil => exact absurd rfl h | cons e es => simp [Ent.cells])
  have hB : fs ≠ [] → ∃ b off, B = some ⟨b, off, none⟩ := fun h => cM_ (hw.data hf) (by cases fs with | nil => exact absurd rfl h | cons e es => simp [Ent.cells])
  refine ad_ [.slice A es.length c, .slice B fs.length d] Tryz.func117 rfl Tryz.ntmps117 rfl (Mem S σ ρ) hw ?_
  refine d_ (a_ ?_)
  refine b_ (j_ rfl) rfl rfl ?_
  refine g_ (c_ ?_)
  refine d_ ?_
  refine d_ (a_ ?_)
  refine b_ (k_ rfl) rfl rfl ?_
  refine b_ (z_ rfl Tryz.underlying75) rfl rfl ?_
  refine b_ (k_ rfl) rfl rfl ?_
  refine b_ (z_ rfl Tryz.underlying75) rfl rfl ?_
  refine b_ (aX_ rfl rfl) rfl rfl ?_
  refine g_ (c_ ?_)
  refine r_ rfl ?_ ?_
  · intro hc10
    refine d_ (a_ ?_)
    refine b_ (j_ rfl) rfl rfl ?_
    refine g_ (c_ ?_)
    refine n_ ?_
    refine i_ (by intro h; cases h) ?_
    refine M_ rfl rfl ?_
    intro w' hw'
    refine ⟨?_, hw'⟩; congr 2; exact (decide_eq_false (fun h => hc10 (by rw [h]))).symm
  intro hc10
  have hle : es.length = fs.length := by omega
  refine p_ ?_
  refine c_ ?_
  refine d_ ?_
  refine d_ (a_ ?_)
  refine b_ (k_ rfl) rfl rfl ?_
  refine b_ (z_ rfl Tryz.underlying75) rfl rfl ?_
  refine b_ (k_ rfl) rfl rfl ?_
  refine g_ (c_ ?_)
  refine t_ ?_
  refine S_ (ι := Nat) (fun k => [(0, .slice A es.length c), (1, .slice B fs.length d), (12, .int .i64 (es.length : Nat)), (13, .int .i64 (k : Nat))]) (fun k w' => (k ≤ es.length ∧ es.take k = fs.take k) ∧ Mem S σ ρ w') (fun k => es.length - k) 0 (by exact ⟨rfl, rfl, rfl, rfl, trivial⟩) (fun w' hw' => ⟨⟨Nat.zero_le _, by simp⟩, hw'⟩) ?_
  intro k
  refine a0_ ?_
  rintro ⟨hk, hk2⟩
  refine d_ (a_ ?_)
  refine b_ (ay_ rfl rfl) rfl rfl ?_
  refine g_ (c_ ?_)
  refine d_ ?_
  refine r_ rfl ?_ ?_
  rotate_left
  · intro hc14
    refine Q_ ?_
    refine i_ (by intro h; cases h) ?_
    refine i_ (by intro h; cases h) ?_
    refine P_ ?_
    refine c_ ?_
    refine d_ (a_ ?_)
    refine b_ (j_ rfl) rfl rfl ?_
    refine g_ (c_ ?_)
    refine n_ ?_
    refine M_ rfl rfl ?_
    intro w' hw'
    refine ⟨?_, hw'⟩; congr 2; refine (decide_eq_true ?_).symm; rw [List.take_of_length_le (by omega), List.take_of_length_le (by omega)] at hk2; exact hk2
  intro hc14
  have hlt : k < es.length := by omega
  have hlt2 : k < fs.length := by omega
  obtain ⟨bb, off, rfl⟩ := hA (by intro h0; rw [h0] at hlt; simp at hlt)
  obtain ⟨bb2, off2, rfl⟩ := hB (by intro h0; rw [h0] at hlt2; simp at hlt2)
  refine p_ ?_
  refine c_ ?_
  refine d_ ?_
  refine t_ ?_
  refine d_ (a_ ?_)
  refine b_ (k_ rfl) rfl rfl ?_
  refine b_ (j_ rfl) rfl rfl ?_
  refine g_ (c_ ?_)
  refine d_ ?_
  refine Y_ _ (.q 0 (.q 1 (.q 2 (.q 3 (.q 4 (.q 5 (.q 6 (.q 7 (.q 8 .nil))))))))) (by kernel_rfl) (by kernel_rfl) (fun _ h => h) (fun _ h => h.drew) ?_
  refine l_ rfl (k_ rfl) rfl rfl ?_
  refine l_ rfl (k_ rfl) rfl rfl ?_
  refine l_ rfl (aD_ tabOk Tryz.underlying75 rfl rfl rfl (by omega)) rfl rfl ?_
  refine l_ rfl (bA_ (f := Ent.cells) tabOk rfl rfl rfl (by repeat (first | assumption | exact List.mem_cons_self | exact hmem _ | apply List.mem_cons_of_mem)) (fun _ => rfl) hlt) rfl rfl ?_
  refine l_ rfl (k_ rfl) rfl rfl ?_
  refine l_ rfl (k_ rfl) rfl rfl ?_
  refine l_ rfl (aD_ tabOk Tryz.underlying75 rfl rfl rfl (by omega)) rfl rfl ?_
  refine l_ rfl (bA_ (f := Ent.cells) tabOk rfl rfl rfl (by repeat (first | assumption | exact List.mem_cons_self | exact hmem _ | apply List.mem_cons_of_mem)) (fun _ => rfl) hlt2) rfl rfl ?_
  refine l_ rfl (d8_ rfl rfl (by kernel_rfl) (neqE (h1 _ (List.getElem_mem hlt)) (h2 _ (List.getElem_mem hlt2)))) rfl rfl ?_
  refine N_ (c_ ?_)
  refine r_ rfl ?_ ?_
  rotate_left
  · intro hc24
    refine p_ ?_
    refine o_ ?_
    refine c_ ?_
    refine a_ ?_
    refine b_ (s_ rfl rfl (by simp only [InR, lo, hi]; omega)) rfl rfl ?_
    refine b_ (k_ rfl) rfl rfl ?_
    refine g_ ?_
    exact x_ (k + 1) (by omega) (by exact ⟨rfl, rfl, rfl, rfl, trivial⟩) (fun w' hw' => ⟨⟨hlt, bh_ hk2 hlt hlt2 (Decidable.not_not.1 hc24)⟩, hw'⟩)
  intro hc24
  refine d_ (a_ ?_)
  refine b_ (j_ rfl) rfl rfl ?_
  refine g_ (c_ ?_)
  refine n_ ?_
  refine E_ ?_
  refine i_ (by intro h; cases h) ?_
  refine i_ (by intro h; cases h) ?_
  refine E_ ?_
  refine i_ (by intro h; cases h) ?_
  refine M_ rfl rfl ?_
  intro w' hw'
  refine ⟨?_, hw'⟩; congr 2; refine (decide_eq_false (fun h => hc24 ?_)).symm; subst h; rfl
set_option maxHeartbeats 1000000 in
theorem rsame_c {v u : Value} {es fs : List Ent} (hw : Mem S σ ρ w) (he : entsD v es ∈ ρ) (hf : entsD u fs ∈ ρ) (hl : es.length ≤ 1000000) (h1 : ∀ e ∈ es, e.Lits) (h2 : ∀ e ∈ fs, e.Lits) : Calls Tryz.prog 61 #[v, u] w fun e w' => e = .returned (.bool (decide (es = fs))) ∧ Mem S σ ρ w' := by
  obtain ⟨A, c, rfl, hs1, hs2, hs3⟩ := (hw.data he).shape
  obtain ⟨B, d, rfl, ht1, ht2, ht3⟩ := (hw.data hf).shape
  have hA : es ≠ [] → ∃ b off, A = some ⟨b, off, none⟩ := fun h => cM_ (hw.data he) (by cases es with | nil => exact absurd rfl h | cons e es => simp [Ent.cells])
  have hB : fs ≠ [] → ∃ b off, B = some ⟨b, off, none⟩ := fun h => cM_ (hw.data hf) (by cases fs with | nil => exact absurd rfl h | cons e es => simp [Ent.cells])
  refine ad_ [.slice A es.length c, .slice B fs.length d] Tryz.func61 rfl Tryz.ntmps61 rfl (Mem S σ ρ) hw ?_
  refine d_ (a_ ?_)
  refine b_ (j_ rfl) rfl rfl ?_
  refine g_ (c_ ?_)
  refine d_ ?_
  refine d_ (a_ ?_)
  refine b_ (k_ rfl) rfl rfl ?_
  refine b_ (z_ rfl Tryz.underlying75) rfl rfl ?_
  refine b_ (k_ rfl) rfl rfl ?_
  refine b_ (z_ rfl Tryz.underlying75) rfl rfl ?_
  refine b_ (aX_ rfl rfl) rfl rfl ?_
  refine g_ (c_ ?_)
  refine r_ rfl ?_ ?_
  · intro hc10
    refine d_ (a_ ?_)
    refine b_ (j_ rfl) rfl rfl ?_
    refine g_ (c_ ?_)
    refine n_ ?_
    refine i_ (by intro h; cases h) ?_
    refine M_ rfl rfl ?_
    intro w' hw'
    refine ⟨?_, hw'⟩; congr 2; exact (decide_eq_false (fun h => hc10 (by rw [h]))).symm
  intro hc10
  have hle : es.length = fs.length := by omega
  refine p_ ?_
  refine c_ ?_
  refine d_ ?_
  refine d_ (a_ ?_)
  refine b_ (k_ rfl) rfl rfl ?_
  refine b_ (z_ rfl Tryz.underlying75) rfl rfl ?_
  refine b_ (k_ rfl) rfl rfl ?_
  refine g_ (c_ ?_)
  refine t_ ?_
  refine S_ (ι := Nat) (fun k => [(0, .slice A es.length c), (1, .slice B fs.length d), (12, .int .i64 (es.length : Nat)), (13, .int .i64 (k : Nat))]) (fun k w' => (k ≤ es.length ∧ es.take k = fs.take k) ∧ Mem S σ ρ w') (fun k => es.length - k) 0 (by exact ⟨rfl, rfl, rfl, rfl, trivial⟩) (fun w' hw' => ⟨⟨Nat.zero_le _, by simp⟩, hw'⟩) ?_
  intro k
  refine a0_ ?_
  rintro ⟨hk, hk2⟩
  refine d_ (a_ ?_)
  refine b_ (ay_ rfl rfl) rfl rfl ?_
  refine g_ (c_ ?_)
  refine d_ ?_
  refine r_ rfl ?_ ?_
  rotate_left
  · intro hc14
    refine Q_ ?_
    refine i_ (by intro h; cases h) ?_
    refine i_ (by intro h; cases h) ?_
    refine P_ ?_
    refine c_ ?_
    refine d_ (a_ ?_)
    refine b_ (j_ rfl) rfl rfl ?_
    refine g_ (c_ ?_)
    refine n_ ?_
    refine M_ rfl rfl ?_
    intro w' hw'
    refine ⟨?_, hw'⟩; congr 2; refine (decide_eq_true ?_).symm; rw [List.take_of_length_le (by omega), List.take_of_length_le (by omega)] at hk2; exact hk2
  intro hc14
  have hlt : k < es.length := by omega
  have hlt2 : k < fs.length := by omega
  obtain ⟨bb, off, rfl⟩ := hA (by intro h0; rw [h0] at hlt; simp at hlt)
  obtain ⟨bb2, off2, rfl⟩ := hB (by intro h0; rw [h0] at hlt2; simp at hlt2)
  refine p_ ?_
  refine c_ ?_
  refine d_ ?_
  refine t_ ?_
  refine d_ (a_ ?_)
  refine b_ (k_ rfl) rfl rfl ?_
  refine b_ (j_ rfl) rfl rfl ?_
  refine g_ (c_ ?_)
  refine d_ ?_
  refine Y_ _ (.q 0 (.q 1 (.q 2 (.q 3 (.q 4 (.q 5 (.q 6 (.q 7 (.q 8 .nil))))))))) (by kernel_rfl) (by kernel_rfl) (fun _ h => h) (fun _ h => h.drew) ?_
  refine l_ rfl (k_ rfl) rfl rfl ?_
  refine l_ rfl (k_ rfl) rfl rfl ?_
  refine l_ rfl (aD_ tabOk Tryz.underlying75 rfl rfl rfl (by omega)) rfl rfl ?_
  refine l_ rfl (bA_ (f := Ent.cells) tabOk rfl rfl rfl (by repeat (first | assumption | exact List.mem_cons_self | exact hmem _ | apply List.mem_cons_of_mem)) (fun _ => rfl) hlt) rfl rfl ?_
  refine l_ rfl (k_ rfl) rfl rfl ?_
  refine l_ rfl (k_ rfl) rfl rfl ?_
  refine l_ rfl (aD_ tabOk Tryz.underlying75 rfl rfl rfl (by omega)) rfl rfl ?_
  refine l_ rfl (bA_ (f := Ent.cells) tabOk rfl rfl rfl (by repeat (first | assumption | exact List.mem_cons_self | exact hmem _ | apply List.mem_cons_of_mem)) (fun _ => rfl) hlt2) rfl rfl ?_
  refine l_ rfl (d8_ rfl rfl (by kernel_rfl) (neqE (h1 _ (List.getElem_mem hlt)) (h2 _ (List.getElem_mem hlt2)))) rfl rfl ?_
  refine N_ (c_ ?_)
  refine r_ rfl ?_ ?_
  rotate_left
  · intro hc24
    refine p_ ?_
    refine o_ ?_
    refine c_ ?_
    refine a_ ?_
    refine b_ (s_ rfl rfl (by simp only [InR, lo, hi]; omega)) rfl rfl ?_
    refine b_ (k_ rfl) rfl rfl ?_
    refine g_ ?_
    exact x_ (k + 1) (by omega) (by exact ⟨rfl, rfl, rfl, rfl, trivial⟩) (fun w' hw' => ⟨⟨hlt, bh_ hk2 hlt hlt2 (Decidable.not_not.1 hc24)⟩, hw'⟩)
  intro hc24
  refine d_ (a_ ?_)
  refine b_ (j_ rfl) rfl rfl ?_
  refine g_ (c_ ?_)
  refine n_ ?_
  refine E_ ?_
  refine i_ (by intro h; cases h) ?_
  refine i_ (by intro h; cases h) ?_
  refine E_ ?_
  refine i_ (by intro h; cases h) ?_
  refine M_ rfl rfl ?_
  intro w' hw'
  refine ⟨?_, hw'⟩; congr 2; refine (decide_eq_false (fun h => hc24 ?_)).symm; subst h; rfl
theorem same_c {v u : Value} {es fs : List Ent} (hw : Mem S σ ρ w) (he : entsD v es ∈ ρ) (hf : entsD u fs ∈ ρ) (hl : es.length ≤ 1000000) (h1 : ∀ e ∈ es, e.Lits) (h2 : ∀ e ∈ fs, e.Lits) : Calls Tryz.prog 84 #[v, u] w fun e w' => e = .returned (.bool (decide (es = fs))) ∧ Mem S σ ρ w' := by
  refine ad_ [v, u] Tryz.func84 rfl Tryz.ntmps84 rfl (Mem S σ ρ) hw ?_
  refine d_ (a_ ?_)
  refine b_ (j_ rfl) rfl rfl ?_
  refine g_ (c_ ?_)
  refine d_ (a_ ?_)
  iterate 2 refine b_ (k_ rfl) rfl rfl ?_
  refine u_ (by kernel_rfl) rfl rfl rfl ?_
  intro w hw
  refine (equal_c hw he hf hl h1 h2).mono ?_; rintro _ _ ⟨rfl, hm⟩; refine ⟨_, _, rfl, hm, ?_⟩; clear hm hw w
  refine b_ (j_ rfl) rfl rfl ?_
  refine g_ (c_ ?_)
  refine n_ ?_
  refine M_ rfl rfl ?_
  intro w' hw'
  exact ⟨rfl, hw'⟩
/-! ### The document's Parse -/
end
section
variable {S : List (World × List Nat)} {σ τ : Blks} {ρ : List Dt} {w : World} {P : Program} {n : Nat} {l : Slots} {D : World → Prop} {o : Oper} {v u : Value}
theorem m_ (h : Val P n l D o v) (e : v = u) : Val P n l D o u := e ▸ h
theorem Mem.ownRow {e : TypeId} {size k : Nat} {cs : List Value} (hw : Mem S σ ρ w) (ho : It.pc (ownPc e size v k cs) ∈ σ) : IsRow [] w v k cs := ownsRow.isRow (hw.hold _ ho) (by simp)
end
end Go.Proofs.YtggajaigfkekhaaGreat
namespace Go.Proofs.YtggajaigfkekhaaGreat.A
open Go.RowKit
abbrev entsA (es : List Ent) : Abs := flat 8 Ent.cells es
theorem ent8 (e : Ent) : e.cells.length = 8 := rfl
section
variable {K : List Nat} {w : World} {v u : Value} {es fs : List Ent} {n : Int} {l : List UInt8} {p : Nat} {s : Rd}
theorem ent2 {ρ : List Dt} {σ2 : Proofs.YtggajaigfkekhaaGreat.Blks} {w' : World} (h : Proofs.YtggajaigfkekhaaGreat.Mem [(w, K)] (old2 w K :: σ2) ρ w') : ∀ k, k < w.heap.size → k ∈ K → k ∈ (old2 w K :: σ2).flatMap Proofs.YtggajaigfkekhaaGreat.It.ids := fun k hk hm => by
  simp only [List.flatMap_cons, List.mem_append]
  exact .inl (bt_.2 ⟨hk, hm⟩)
theorem bbytes_s (hl : es.length ≤ 1000000) (hf : ∀ e ∈ es, e.Few) : Pure Tryz.prog 113 [entsA es] (byt (batchB es)) := Pure.of2 fun K w vals hK hv => by
  obtain ⟨v, us', rfl, h1, h2⟩ := hv
  have h2 : us' = [] := h2
  subst h2
  refine (hr_ ((enter2 w K).add (z := entsD v es) (row2 ((b2_ ent8).1 h1))) (by simp) hl hf).mono fun e w' ⟨r, he, hm⟩ => ⟨r, he, leave2 hm (by simp), bj_.2 (row3 hK (ent2 hm) (hm.data (z := bytesD r _) (by simp)))⟩
theorem kB_ (hl : es.length ≤ 1000000) (hf : ∀ e ∈ es, e.Few) : Pure Tryz.prog 116 [entsA es] (byt (batchB es)) := Pure.of2 fun K w vals hK hv => by
  obtain ⟨v, us', rfl, h1, h2⟩ := hv
  have h2 : us' = [] := h2
  subst h2
  refine (f8_ ((enter2 w K).add (z := entsD v es) (row2 ((b2_ ent8).1 h1))) (by simp) hl hf).mono fun e w' ⟨r, he, hm⟩ => ⟨r, he, leave2 hm (by simp), bj_.2 (row3 hK (ent2 hm) (hm.data (z := bytesD r _) (by simp)))⟩
theorem bcheck_s (hl : es.length ≤ 1000000) : Pure Tryz.prog 102 [entsA es, int n] (int (chkB es n)) := Pure.of2 fun K w vals hK hv => by
  obtain ⟨v, us', rfl, h1, h2⟩ := hv
  have h2 := (aO_ (us := [.int .i64 n])).1 h2
  subst h2
  refine (ep_ ((enter2 w K).add (z := entsD v es) (row2 ((b2_ ent8).1 h1))) (by simp) hl).mono fun e w' ⟨he, hm⟩ => ⟨_, he, leave2 hm (by simp), rfl⟩
theorem kA_ (hl : es.length ≤ 1000000) (hs : ∀ e ∈ es, e.core.letter.size ≤ lots) : Pure Tryz.prog 96 [entsA es, int n] (int (chkB es n)) := Pure.of2 fun K w vals hK hv => by
  obtain ⟨v, us', rfl, h1, h2⟩ := hv
  have h2 := (aO_ (us := [.int .i64 n])).1 h2
  subst h2
  refine (f7_ ((enter2 w K).add (z := entsD v es) (row2 ((b2_ ent8).1 h1))) (by simp) hl hs).mono fun e w' ⟨he, hm⟩ => ⟨_, he, leave2 hm (by simp), rfl⟩
theorem ig_ (hl : es.length ≤ 1000000) (h1 : ∀ e ∈ es, e.Lits) (h2 : ∀ e ∈ fs, e.Lits) : Pure Tryz.prog 84 [entsA es, entsA fs] (boo (decide (es = fs))) := Pure.of2 fun K w vals hK hv => by
  obtain ⟨v, us', rfl, g1, u, us2, rfl, g2, g3⟩ := hv
  have g3 : us2 = [] := g3
  subst g3
  refine (same_c (((enter2 w K).add (z := entsD v es) (row2 ((b2_ ent8).1 g1))).add (z := entsD u fs) (row2 ((b2_ ent8).1 g2))) (by simp) (by simp) hl h1 h2).mono fun e w' ⟨he, hm⟩ => ⟨_, he, leave2 hm (by simp), rfl⟩
theorem eB_ (hl : es.length ≤ 1000000) (h1 : ∀ e ∈ es, e.Lits) (h2 : ∀ e ∈ fs, e.Lits) : Pure Tryz.prog 61 [entsA es, entsA fs] (boo (decide (es = fs))) := Pure.of2 fun K w vals hK hv => by
  obtain ⟨v, us', rfl, g1, u, us2, rfl, g2, g3⟩ := hv
  have g3 : us2 = [] := g3
  subst g3
  refine (rsame_c (((enter2 w K).add (z := entsD v es) (row2 ((b2_ ent8).1 g1))).add (z := entsD u fs) (row2 ((b2_ ent8).1 g2))) (by simp) (by simp) hl h1 h2).mono fun e w' ⟨he, hm⟩ => ⟨_, he, leave2 hm (by simp), rfl⟩
theorem own2_row {xs : List Ent} {r : Value} {w w' : World} {ρ : List Dt} (hK : ∀ k ∈ K, k < w.heap.size) (hm : Proofs.YtggajaigfkekhaaGreat.Mem [(w, K)] (ownE r xs :: [old2 w K]) ρ w') : IsRow K w' r xs.length (xs.flatMap Ent.cells) := by
  have h1 := hm.freeze.data (z := rowD r xs.length (xs.flatMap Ent.cells)) (by simp)
  exact row3 hK (ent2 hm.freeze) h1
theorem bparse_s (hl : l.length ≤ 10000000) : Pure Tryz.prog 109 [byt l, int n] (.tup [entsA (parseS l n).1, int (parseS l n).2]) := Pure.of2 fun K w vals hK hv => by
  obtain ⟨v, us', rfl, h1, h2⟩ := hv
  have h2 := (aO_ (us := [.int .i64 n])).1 h2
  subst h2
  refine (kJ_ ((enter2 w K).add (z := bytesD v l) (row2 (bj_.1 h1))) (by simp) hl).mono fun e w' ⟨r, he, hm⟩ => ⟨_, he, leave2 hm (by simp), ⟨_, rfl, _, _, rfl, (b2_ ent8).2 (own2_row hK hm), _, _, rfl, rfl, rfl⟩⟩
end
section
variable {P : Program} {n : Nat} {W : Wd} {σ τ : Blks} {l : Slots} {X : List Nat} {x y z : Operand} {d : Option Nat} {ty t t' e : TypeId} {pos : String} {aft : Array Edge} {g : Option (Nat × Bool)} {v u : Value} {k k' : IntKind} {a b : Nat} {o : Oper} {A B : Abs} {tab : List (Nat × TI)} {ops : Array Oper} {rest : List Oper} {Q : Exit → Act → World → Prop} {ix : Plan} {xs ys : List (List Abs)} {s q : Nat} {cs : List Abs}
theorem f1_ {x : It} {σ τ : Blks} (h : Upd x x σ τ) : τ = σ := by
  induction h with
  | here => rfl
  | there _ ih => rw [ih]
theorem St.freezeB {a : Act} {w : World} {pre post : Blks} {i : Nat} (h : St n W (pre ++ .blk b t cs :: post) l a w) (hs : slot l i = some (.v (.pointer (some ⟨b, 0, none⟩)))) : St n W (pre ++ post) ((i, .rp cs) :: l) a w := by
  have hsub : (pre ++ post).Sublist (pre ++ .blk b t cs :: post) := List.Sublist.append (List.Sublist.refl _) (List.sublist_cons_self _ _)
  obtain ⟨us, hb, hr⟩ := h.mem.hold (.blk b t cs) (by simp)
  have hc := (h.mem.sub hsub).2
  refine (h.less hsub).cast hs fun u hu => ?_
  have : u = .pointer (some ⟨b, 0, none⟩) := hu
  subst this
  refine ⟨b, 0, us, rfl, fun hm => ?_, bL_ hb, fun j u hu => by rw [Nat.zero_add, bQ_ hb]; exact hu, aA_ hc _ _ hr⟩
  have hnd := h.mem.nodup
  simp only [ab_, aB_, List.nodup_append, It.mids] at hnd hm
  obtain ⟨n1, ⟨n2, n3, n4⟩, n5⟩ := hnd
  rcases List.mem_append.1 hm with hm | hm
  · rcases List.mem_append.1 hm with hm | hm
    · exact n5 b hm b (by simp) rfl
    · exact n4 b (by simp) b hm rfl
  · exact h.mem.sep b (by simp [ab_, aB_, It.mids]) hm
theorem fW_ {c : Code} (pre : Blks) {post : Blks} (i : Nat) (hσ : σ = pre ++ .blk b t cs :: post) (hs : slot l i = some (.v (.pointer (some ⟨b, 0, none⟩)))) (k : SC P c (St n W (pre ++ post) ((i, .rp cs) :: l)) Q) : SC P c (St n W σ l) Q := by
  subst hσ; exact fun a w h => k a w (h.freezeB hs)
theorem aH_ {c : Code} {p : Prop} {T : Act → World → Prop} (h : ∀ a w, T a w → p) (k : p → SC P c T Q) : SC P c T Q := fun a w ha => k (h a w ha) a w ha
theorem iJ_ {K : List Nat} {w : World} {z : Abs} : ∀ {ps : List Abs} {us : List Value} {o : Nat} {u : Value}, reps K w ps us → us[o]? = some u → rep K w z u → reps K w (putL ps o [z]) us
  | [], us, o, u, h, hu, _ => by have : us = [] := h; subst this; simp at hu
  | a :: ps, _, 0, u, ⟨x, us', h1, h2, h3⟩, hu, hz => by
    subst h1
    simp at hu
    subst hu
    exact ⟨x, us', rfl, hz, h3⟩
  | a :: ps, _, o + 1, u, ⟨x, us', h1, h2, h3⟩, hu, hz => by
    subst h1
    exact ⟨x, us', rfl, h2, iJ_ h3 (by simpa using hu) hz⟩
theorem St.freezeC {a : Act} {w : World} {pre post : Blks} {o : Nat} (h : St n W (pre ++ own e s v xs :: post) l a w) (hu : Upd (.blk b t cs) (.blk b t (putL cs o [.sl s xs])) (pre ++ post) τ) (hv : cs[o]? = some (.v v)) : St n W τ l a w := by
  have hsub : (pre ++ post).Sublist (pre ++ own e s v xs :: post) := List.Sublist.append (List.Sublist.refl _) (List.sublist_cons_self _ _)
  have h1 := own_sl h.mem
  have h2 := h.less hsub
  obtain ⟨us, hb, hr⟩ := h2.mem.hold _ hu.mem
  obtain ⟨u, h3, h4⟩ := ce_ hr hv
  have h4 : u = v := h4
  subst h4
  have hm := h2.mem.upd hu (Ext.refl w) (by simp [It.mids]) (by simp [It.mids]) rfl fun hc => ⟨us, hb, aA_ hc _ _ (iJ_ hr h3 h1)⟩
  exact h2.to hm.1 hm.2
theorem cA_ {c : Code} (pre : Blks) {post : Blks} (o : Nat) (hσ : σ = pre ++ own e s v xs :: post) (hu : Upd (.blk b t cs) (.blk b t (putL cs o [.sl s xs])) (pre ++ post) τ) (hv : cs[o]? = some (.v v)) (k : SC P c (St n W τ l) Q) : SC P c (St n W σ l) Q := by
  subst hσ; exact fun a w h => k a w (h.freezeC hu hv)
theorem e5_ {K : List Nat} {w : World} : ∀ {ys : List Abs} {us : List Value}, reps K w ys us → repss K w 1 (ys.map fun a => [a]) us
  | [], us, h => h
  | a :: ys, _, ⟨u, us', h1, h2, h3⟩ => ⟨[u], us', h1, rfl, ⟨u, [], rfl, h2, rfl⟩, e5_ h3⟩
theorem gx_ (hT : TabOk P tab) {i : TI} {m : Nat} (hu : P.underlying t = some (.array m e)) (hi : ti tab e = some i) (_h1 : Nat.beq i.size 1 = true) (hx : look l x = some (.rp cs)) (hm : Nat.ble m maxLen = true) (hxs : (cs.take m).map (fun a => [a]) = xs) (hl : m ≤ cs.length) :
    Val P n W σ l X ⟨d, .slice t x none none none, ty, pos, aft, g⟩ (.sl 1 xs) := fun a w hs hX => by
  obtain ⟨b, off, us, h1, h2, h3, h4, h5⟩ := hs.eval hx
  have hlen := aj_ h5
  subst hxs
  have hl2 : ((cs.take m).map fun a => [a]).length = m := by simp; omega
  refine ⟨.slice (some ⟨b, off, none⟩) m m, ⟨us.take m, ⟨⟨_, m, by rw [hl2], by omega, Nat.le_of_ble_eq_true hm, by simp⟩, fun hn => ⟨b, off, m, m, rfl, h2, fun j u hu => ?_⟩⟩, e5_ (dA_ h5 m)⟩, fun w' _ => ?_⟩
  · rw [List.getElem?_take] at hu
    split at hu
    · exact h4 j u hu
    · cases hu
  · have h6 := (hT _ _ hi).sizeOf (w := w')
    simp [execOp, Instr.sliceAt, Instr.sureAddr, Instr.sliceBounds, h1, run_underlying hu, Sem.run_bind, Result.andThen, h6, Addr.add]
theorem hy_ (hT : TabOk P tab) {i : TI} {m off : Nat} (hu : P.underlying t = some (.array m e)) (hi : ti tab e = some i) (hx : look l x = some (.v (.pointer (some ⟨b, off, none⟩)))) :
    Val P n W σ l X ⟨d, .slice t x none none none, ty, pos, aft, g⟩ (.v (.slice (some ⟨b, off, none⟩) m m)) := fun a w hs _ => ⟨_, rfl, fun w' _ => by
  have h6 := (hT _ _ hi).sizeOf (w := w')
  simp [execOp, Instr.sliceAt, Instr.sureAddr, Instr.sliceBounds, hs.plain hx, run_underlying hu, Sem.run_bind, Result.andThen, h6, Addr.add]⟩
theorem eq_ (hT : TabOk P tab) {i : TI} {m off : Nat} {r : Int} (hu : P.underlying t = some (.array m e)) (hi : ti tab e = some i) (hx : look l x = some (.v (.pointer (some ⟨b, off, none⟩)))) (hy : look l y = some (.v (.int k r))) (hr : r = (q : Nat)) (hq : q < m) (hm : Nat.ble m 1 = false) :
    Val P n W σ l X ⟨d, .indexAddr t x y, ty, pos, aft, g⟩ (.v (.pointer (some ⟨b, off + q * i.size, none⟩))) := fun a w hs _ => ⟨_, rfl, fun w' _ => by
  subst hr
  have h6 := (hT _ _ hi).sizeOf (w := w')
  have hq' : (q : Int) < (m : Nat) := by omega
  simp [execOp, Instr.indexAt, Instr.sureAddr, asIntOf, hs.plain hx, hs.plain hy, run_underlying hu, Sem.run_bind, Result.andThen, h6, hq, Addr.add_none]⟩
theorem is_ (hT : TabOk P tab) {sz m : Nat} {zs : List Value} {r : Int} (hu : P.underlying t = some (.array m e)) (hj : ti tab e = some ⟨sz, .one, zs⟩) (hs1 : Nat.beq sz 1 = true) (hx : look l x = some (.agg cs)) (hy : look l y = some (.v (.int k r))) (hr : r = (q : Nat)) (hq : q < m) (hv : cs[q]? = some A) :
    Val P n W σ l X ⟨d, .index t x y, ty, pos, aft, g⟩ A := aT_ fun a w hs _ => by
  subst hr
  obtain ⟨us, h1, h2⟩ := hs.eval hx
  obtain ⟨u, h3, h4⟩ := ce_ h2 hv
  refine ⟨u, h4, fun w' _ => fun A2 w2 hf e => ?_⟩
  subst e
  have h5 := (hT _ _ hj).sizeOf (w := w2)
  have h6 := (hT _ _ hj).isAgg (w := w2)
  have hs1 := Nat.eq_of_beq_eq_true hs1
  subst hs1
  have hq' : (q : Int) < (m : Nat) := by omega
  have e1 : A2.eval x = .agg us.toArray := by rw [hf.eval (hs.at2 hx), h1]
  have e2 : A2.eval y = .int k (q : Nat) := by rw [hf.eval (hs.at2 hy), hs.plain hy]
  simp [execOp, Instr.index, asIntOf, e1, e2, run_underlying hu, Sem.run_bind, Result.andThen, h5, Go.part, h6, h3, hq]
theorem Eff.copy {off m c : Nat} {L' : List Abs} (hu : P.underlying t = some (.slice e)) (hi : (P.info? e).map (·.size) = some 1) (hx : look l x = some (.v (.slice (some ⟨b, off, none⟩) m c))) (hy : look l y = some (.sl 1 xs)) (hup : Upd (.blk b t' cs) (.blk b t' L') σ τ) (hl : off + min xs.length m ≤ cs.length) (h1 : ∀ c ∈ xs, ones c = true) (hL : putL cs off (xs.take m).flatten = L') :
    Eff P n W σ l [b] ⟨d, .call { callee := .builtin .copy, args := #[x, y], argTypes := #[t, t] }, ty, pos, aft, g⟩ fun r τ' => r = .v (.int .i64 (min xs.length m : Nat)) ∧ τ' = τ := fun a w hs => by
  obtain ⟨us, hb, hr⟩ := hs.mem.hold _ hup.mem
  obtain ⟨news, hrow, hr2⟩ := hs.eval hy
  obtain ⟨A', c', hsh, _⟩ := hrow.shape
  have hlen := aj_ hr
  have hlen2 := a5_ hr2
  rw [Nat.mul_one] at hlen2
  have hreps : ∀ (xs : List (List Abs)) (news : List Value), repss (mids σ ++ W.G) w 1 xs news → reps (mids σ ++ W.G) w xs.flatten news := by
    intro xs
    induction xs with
    | nil => intro news h; exact h
    | cons y ys ih =>
      rintro news ⟨u1, u2, rfl, _, h3, h4⟩
      rw [List.flatten_cons]; exact a6_ h3 (ih u2 h4)
  have htk : ∀ (m : Nat), repss (mids σ ++ W.G) w 1 (xs.take m) (news.take m) := fun m => by
    rcases Nat.le_total m xs.length with h | h
    · have := (c0_ hr2 m h).2; rwa [Nat.mul_one] at this
    · rw [List.take_of_length_le h, List.take_of_length_le (by omega)]; exact hr2
  have hone : ∀ u ∈ news.take m, u.oneCell' = true := cO_ (hreps _ _ (htk m)) (by
    rw [bE_]; intro a ha
    obtain ⟨c, hc, hac⟩ := List.mem_flatten.1 ha
    exact bE_.1 (h1 c (List.mem_of_mem_take hc)) a hac)
  have htl : (news.take m).length = Nat.min xs.length m := by rw [List.length_take, hlen2]; exact Nat.min_comm _ _
  have hmn : (news.take m).length = min xs.length m := htl
  by_cases hn : news = []
  · subst hn
    have h0 : xs.length = 0 := by simpa using hlen2.symm
    have hxn : xs = [] := List.length_eq_zero_iff.1 h0
    subst hxn
    have hLc : L' = cs := by rw [← hL, b9_ _ _ _ (by omega)]; simp
    subst hLc
    have hτ := f1_ hup
    subst hτ
    refine ⟨_, w, _, _, ⟨rfl, rfl⟩, Ext.refl w, rfl, hs.mem, Carry.refl, .inl ?_⟩
    obtain ⟨I, hI, hIs⟩ : ∃ I, P.info? e = some I ∧ I.size = 1 := by
      cases hq : P.info? e with
      | none => simp [hq] at hi
      | some i => exact ⟨i, rfl, by simpa [hq] using hi⟩
    cases A' <;> simp [execOp, resolve, invoke, builtin, Builtin.copy_, hs.plain hx, hsh, run_underlying hu, Builtin.lenOf, Builtin.firstCells, sizeOf, typeInfo, hI, hIs, storeCells, Sem.run_bind, Result.andThen, loadCells, loadCellsFrom, goInt]
  · obtain ⟨bb, o2, n2, c2, hv, hbb, hcc⟩ := hrow.cells hn
    rw [hsh] at hv
    simp at hv
    obtain ⟨rfl, rfl, rfl⟩ := hv
    have hrun := run_copy_row (P := P) w t t ty e b off m c ⟨bb, o2, none⟩ xs.length c' us.toArray t' (news.take m) hu hi hb htl (fun j u hu => by
      rw [Addr.add_none]
      rw [List.getElem?_take] at hu
      split at hu
      · exact hcc j u hu
      · cases hu) (by simp; omega) hone
    have hE : (us.toArray.toList.take off ++ news.take m ++ us.toArray.toList.drop (off + (news.take m).length)).toArray = (putAt us off (news.take m)).toArray := by
      rw [bP_ us off _ (by omega)]
    rw [hE, hmn] at hrun
    have hxx : Ext [b] w (w.setRow b (putAt us off (news.take m)).toArray) := (Ext.refl w).setRow (.inl (by simp)) _
    have hm := hs.mem.upd hup hxx (by simp [It.mids]) (by simp [It.mids]) rfl fun hc => ⟨_, do_ hb, aA_ hc _ _ (hL ▸ f6_ hr (hreps _ _ (htk m)) (by omega))⟩
    refine ⟨_, _, _, _, ⟨rfl, rfl⟩, hxx, rfl, hm.1, hm.2, .inl ?_⟩
    simp [execOp, resolve, invoke, builtin, hs.plain hx, hsh, hrun, Result.andThen, goInt]
theorem Spec.ofOwnB {f : FuncId} {args : List Abs} {out : List UInt8} {e : TypeId} (h : ∀ (K : List Nat) (w : World) (vals : List Value), (∀ k ∈ K, k < w.heap.size) → reps K w args vals →
    Calls P f vals.toArray w fun en w' => ∃ r ρ, en = .returned r ∧ Proofs.YtggajaigfkekhaaGreat.Mem [(w, K)] [.pc (Proofs.YtggajaigfkekhaaGreat.ownPc e 1 r out.length (out.map bc)), old2 w K] ρ w') : Spec P f args [] (fun r : Value => [own e 1 r (out.map fun b => [.v (bc b)])]) (fun r => .v r) := fun G w vals hm hv =>
  (h G w vals hm.old hv).mono fun en w' ⟨r, ρ, he, hm2⟩ => by
    have hx := leave2 hm2 (by simp)
    have how : w'.ownsRow 0 e 1 r out.length (out.map bc) := hm2.hold (.pc (Proofs.YtggajaigfkekhaaGreat.ownPc e 1 r out.length (out.map bc))) (by simp)
    have hnew : ∀ k ∈ r.ownBlock.toList, w.heap.size ≤ k := fun k hk => by
      have h3 := hm2.out _ (List.mem_cons_self) k (by simpa [Proofs.YtggajaigfkekhaaGreat.It.ids, Proofs.YtggajaigfkekhaaGreat.ownPc] using hk) (w, G) (by simp)
      rcases h3 with h3 | h3
      · have h4 := hm2.nodup
        simp only [List.flatMap_cons, List.flatMap_nil, List.append_nil, List.nodup_append] at h4
        exact absurd rfl (h4.2.2 k (by simpa [Proofs.YtggajaigfkekhaaGreat.It.ids, Proofs.YtggajaigfkekhaaGreat.ownPc] using hk) k (bt_.2 ⟨hm.old k h3, h3⟩))
      · exact h3
    refine ⟨r, r, he, by simp [It.rids], ⟨hx, fun k hk => .inr (hnew k ?_), fun k hk hg => ?_, fun k hk => Nat.lt_of_lt_of_le (hm.old k hk) hx.size, by simp [It.rids], ?_, fun x hxm => ?_⟩, rfl⟩
    · simpa [mids, It.mids, ownPc] using hk
    · have := hnew k (by simpa [mids, It.mids, ownPc] using hk)
      have := hm.old k hg
      omega
    · simp only [mids, List.flatMap_cons, List.flatMap_nil, List.append_nil]; exact bT_
    · rw [List.mem_singleton] at hxm; subst hxm
      refine ⟨out.map bc, by simpa using how, ?_⟩
      rw [if_]; exact cY_
end
def digA (d : List UInt8) : List Abs := d.map fun b => .v (bc b)
abbrev ints (xs : List Int) : Abs := .sl 1 (xs.map fun x => [int x])
theorem a2_ {s i : Nat} {cs : List Abs} (h : cs.length = s) : elems s [(i, .agg cs)] = some [cs] := by simp [elems, cellsA, h]
def isSeq (x : Int) : Prop := 0 ≤ x ∧ x ≤ 1048576
instance (x : Int) : Decidable (isSeq x) := inferInstanceAs (Decidable (_ ∧ _))
def isMark (x : Int) : Prop := isSeq x ∧ x % 4 = 0
instance (x : Int) : Decidable (isMark x) := inferInstanceAs (Decidable (_ ∧ _))
section
theorem mark_s {x : Int} : Spec Tryz.prog 65 [int x] [] (fun _ : Unit => []) (fun _ => boo (decide (isMark x))) := by
 refine G_ Tryz.func65 rfl Tryz.ntmps65 rfl fun G w =>d_<|a_<|q_ 1 rfl<|g_<|c_<|d_<|a_<|q_ 3 rfl<|C_ (t := 5) rfl ?_ ?_
 rotate_left
 ·intro hc5
  refine q_ 9 rfl<|g_<|c_<|n_<|f_ (rs := [.tmp 2]) rfl (RV.tmp rfl RV.nil) (()) sn_<|congrArg (fun b => Abs.v (Value.bool b)) ?_
  (refine (decide_eq_false ?_).symm; unfold isMark isSeq; omega)
 intro hc5
 refine q_ 4 rfl<|C_ (t := 9) rfl ?_ ?_
 rotate_left
 ·intro hc9
  refine q_ 5 rfl<|g_<|c_<|n_<|f_ (rs := [.tmp 2]) rfl (RV.tmp rfl RV.nil) (()) sn_<|congrArg (fun b => Abs.v (Value.bool b)) ?_
  (refine (decide_eq_false ?_).symm; unfold isMark isSeq; omega)
 intro hc9
 refine q_ 1 rfl<|b_ (gz_ rfl rfl (by omega)) rfl rfl ?_
 refine q_ 3 rfl<|g_<|c_<|n_<|f_ (rs := [.tmp 2]) rfl (RV.tmp rfl RV.nil) (()) sn_<|congrArg (fun b => Abs.v (Value.bool b)) ?_
 (rw [decide_eq_decide]; unfold isMark isSeq; omega)
theorem rseq_s {x : Int} : Spec Tryz.prog 95 [int x] [] (fun _ : Unit => []) (fun _ => boo (decide (isSeq x))) := by
 refine G_ Tryz.func95 rfl Tryz.ntmps95 rfl fun G w =>d_<|a_<|q_ 1 rfl<|g_<|c_<|d_<|a_<|q_ 3 rfl<|C_ (t := 5) rfl ?_ ?_
 ·intro hc5
  refine q_ 4 rfl<|g_<|c_<|n_<|f_ (rs := [.tmp 2]) rfl (RV.tmp rfl RV.nil) (()) sn_<|congrArg (fun b => Abs.v (Value.bool b)) ?_
  (rw [decide_eq_decide]; unfold isSeq; omega)
 intro hc5
 refine q_ 4 rfl<|g_<|c_<|n_<|f_ (rs := [.tmp 2]) rfl (RV.tmp rfl RV.nil) (()) sn_<|congrArg (fun b => Abs.v (Value.bool b)) ?_
 (refine (decide_eq_false ?_).symm; unfold isSeq; omega)
theorem rview_s {x : Int} : Spec Tryz.prog 62 [int x] [] (fun _ : Unit => []) (fun _ => boo (decide (isSeq x))) := by
 refine G_ Tryz.func62 rfl Tryz.ntmps62 rfl fun G w =>d_<|a_<|q_ 1 rfl<|g_<|c_<|d_<|a_<|q_ 3 rfl<|C_ (t := 5) rfl ?_ ?_
 ·intro hc5
  refine q_ 4 rfl<|g_<|c_<|n_<|f_ (rs := [.tmp 2]) rfl (RV.tmp rfl RV.nil) (()) sn_<|congrArg (fun b => Abs.v (Value.bool b)) ?_
  (rw [decide_eq_decide]; unfold isSeq; omega)
 intro hc5
 refine q_ 4 rfl<|g_<|c_<|n_<|f_ (rs := [.tmp 2]) rfl (RV.tmp rfl RV.nil) (()) sn_<|congrArg (fun b => Abs.v (Value.bool b)) ?_
 (refine (decide_eq_false ?_).symm; unfold isSeq; omega)
theorem ku_ {x : Int} : Spec Tryz.prog 63 [int x] [] (fun _ : Unit => []) (fun _ => boo (decide (isMark x))) := by
 refine G_ Tryz.func63 rfl Tryz.ntmps63 rfl fun G w =>d_<|a_<|q_ 1 rfl<|g_<|c_<|d_<|a_<|q_ 1 rfl<|u_ (rseq_s (x := x)) Casts.refl (by kernel_rfl) rfl rfl rfl ?_
 refine ap_<|fun _=>q_ 1 rfl<|C_ (t := 5) rfl ?_ ?_
 rotate_left
 ·intro hc5
  unfold isSeq at hc5
  refine q_ 5 rfl<|g_<|c_<|n_<|f_ (rs := [.tmp 2]) rfl (RV.tmp rfl RV.nil) (()) sn_<|congrArg (fun b => Abs.v (Value.bool b)) ?_
  (refine (decide_eq_false ?_).symm; unfold isMark isSeq; omega)
 intro hc5
 unfold isSeq at hc5
 refine q_ 1 rfl<|b_ (gz_ rfl rfl (by omega)) rfl rfl ?_
 refine q_ 3 rfl<|g_<|c_<|n_<|f_ (rs := [.tmp 2]) rfl (RV.tmp rfl RV.nil) (()) sn_<|congrArg (fun b => Abs.v (Value.bool b)) ?_
 (rw [decide_eq_decide]; unfold isMark isSeq; omega)
end
def Rds (σ : Blks) : Prop := ∀ x ∈ σ, (∃ b t cs, x = .rd b t cs) ∨ ∃ c, x = .rdpc c
theorem Rds.reads {σ τ : Blks} (h : Rds τ) (hs : ∀ x ∈ τ, x ∈ σ) : Reads σ τ := by
  induction τ with
  | nil => exact .nil
  | cons x τ ih =>
    have h1 := ih (fun y hy => h y (List.mem_cons_of_mem _ hy)) (fun y hy => hs y (List.mem_cons_of_mem _ hy))
    have hx := hs x List.mem_cons_self
    rcases h x List.mem_cons_self with ⟨b, t, cs, rfl⟩ | ⟨c, rfl⟩
    · exact .rd hx h1
    · exact .rdpc hx h1
structure Pnt where
  seq : Int
  dig : List UInt8
  len : dig.length = 32
def Pnt.abs (p : Pnt) : List Abs := int p.seq :: digA p.dig
theorem Pnt.size (p : Pnt) : p.abs.length = 33 := by simp [Pnt.abs, digA, p.len]
theorem Pnt.ones (p : Pnt) : ones p.abs = true := by
  rw [bE_]; intro a ha
  rcases List.mem_cons.1 ha with rfl | ha
  · rfl
  · obtain ⟨b, _, rfl⟩ := List.mem_map.1 ha; rfl
abbrev pntsA (ps : List Pnt) : Abs := .sl 33 (ps.map Pnt.abs)
def Pnt.cells (p : Pnt) : List Value := .int .i64 p.seq :: p.dig.map bc
theorem Pnt.same {p q : Pnt} (h1 : p.seq = q.seq) (h2 : p.dig = q.dig) : p = q := by
  obtain ⟨a, b, c⟩ := p
  obtain ⟨d, e, f⟩ := q
  dsimp only at h1 h2
  subst h1 h2
  rfl
instance : DecidableEq Pnt := fun p q => decidable_of_iff (p.seq = q.seq ∧ p.dig = q.dig) ⟨fun h => Pnt.same h.1 h.2, fun h => h ▸ ⟨rfl, rfl⟩⟩
end Go.Proofs.YtggajaigfkekhaaGreat.A
