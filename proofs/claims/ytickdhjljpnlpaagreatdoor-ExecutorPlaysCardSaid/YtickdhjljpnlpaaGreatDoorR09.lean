/-
  Packed out of the texts: Batch1, Batch2, Batch3, RdCan, Batch4, Batch5, Batch6, BatchTwo, BatchBack, A28, LedB, LedK, LedL, LedD, Tml, A21, A7, Agr, Exe, ExeA, ExeO.
-/
import Derived.Test.YtickdhjljpnlpaaGreatDoorR08
set_option maxRecDepth 100000
set_option linter.unusedSimpArgs false
set_option linter.unusedVariables false
namespace Go.Proofs.YtickdhjljpnlpaaGreatDoor
open Go.RowKit
abbrev entsD (v : Value) (es : List Ent) : Dt := rowD v es.length (es.flatMap Ent.cells)
def chkL (n : Int) : Option Int → List Ent → Int
  | _, [] => 0
  | p, e :: es => if e.core.check n ≠ 0 then e.core.check n else if 2 ^ n.toNat ≤ e.mask then 5 else if (match p with | some c => decide (e.core.client ≤ c) | none => false) = true then 15 else chkL n (some e.core.client) es
def chkB (es : List Ent) (n : Int) : Int := if n < 1 ∨ 7 < n then 1 else if 4 < es.length then 4 else chkL n none es
def ahead (es : List Ent) (k : Nat) : Option Int := if k = 0 then none else (es[k - 1]?).map (·.core.client)
theorem k1_ {n : Int} {es : List Ent} {k : Nat} (h : k < es.length) : chkL n (ahead es k) (es.drop k) = if es[k].core.check n ≠ 0 then es[k].core.check n else if 2 ^ n.toNat ≤ es[k].mask then 5 else if 0 < k ∧ es[k].core.client ≤ (es[k - 1]'(by omega)).core.client then 15 else chkL n (ahead es (k + 1)) (es.drop (k + 1)) := by
  rw [List.drop_eq_getElem_cons h]
  simp only [chkL]
  have e1 : ahead es (k + 1) = some es[k].core.client := by simp [ahead, h]
  rw [e1]
  congr 2
  by_cases hk : k = 0
  · subst hk; simp [ahead]
  · have h0 : 0 < k := by omega
    have e2 : ahead es k = some (es[k - 1]'(by omega)).core.client := by
      simp only [ahead, if_neg hk]
      rw [List.getElem?_eq_getElem (by omega)]
      rfl
    rw [e2]
    simp [h0]
theorem d6_ {m : Nat} {n : Int} (h1 : 1 ≤ n) (h7 : n ≤ 7) : ((m : Int).fdiv (2 ^ (min n.toNat 32)) ≠ 0) ↔ 2 ^ n.toNat ≤ m := by
  obtain ⟨k, rfl⟩ : ∃ k : Nat, n = k := ⟨n.toNat, by omega⟩
  rw [Int.toNat_natCast, Nat.min_eq_left (by omega), Int.fdiv_eq_ediv_of_nonneg _ (Int.pow_nonneg (by decide))]
  rw [show (2 : Int) ^ k = ((2 ^ k : Nat) : Int) by simp, ← Int.natCast_ediv]
  have h0 : 0 < 2 ^ k := Nat.pow_pos (by omega)
  have h2 : m / 2 ^ k = 0 ↔ m < 2 ^ k := by rw [Nat.div_eq_zero_iff]; omega
  omega
def pw (q : Nat) : Nat := 2 ^ q
theorem pw_succ (q : Nat) : ((pw (q + 1) : Nat) : Int) = ((pw q : Nat) : Int) * 2 := by unfold pw; rw [Nat.pow_succ]; simp
theorem pw_le {q : Nat} (h : q ≤ 6) : pw q ≤ 64 := by
  unfold pw
  rcases (by omega : q = 0 ∨ q = 1 ∨ q = 2 ∨ q = 3 ∨ q = 4 ∨ q = 5 ∨ q = 6) with h | h | h | h | h | h | h <;> rw [h] <;> decide
section
variable {S : List (World × List Nat)} {σ τ : Blks} {ρ : List Dt} {w : World}
set_option maxHeartbeats 1000000 in
theorem hc_ {v : Value} {es : List Ent} {n : Int} (hw : Mem S σ ρ w) (he : entsD v es ∈ ρ) (hl : es.length ≤ 1000000) : Calls Tryz.prog 26 #[v, .int .i64 n] w fun e w' => e = .returned (.int .i64 (chkB es n)) ∧ Mem S σ ρ w' := by
  obtain ⟨A, c, rfl, hs1, hs2, hs3⟩ := (hw.data he).shape
  have hA : es ≠ [] → ∃ b off, A = some ⟨b, off, none⟩ := fun h => eu_ (hw.data he) (by cases es with | nil => exact absurd rfl h | cons e es => simp [Ent.cells])
  refine ah_ [.slice A es.length c, .int .i64 n] Tryz.func26 rfl Tryz.ntmps26 rfl (Mem S σ ρ) hw ?_
  refine d_ (a_ ?_)
  refine b_ (j_ rfl) rfl rfl ?_
  refine g_ (c_ ?_)
  refine d_ ?_
  refine y_ ?_
  refine d_ (a_ ?_)
  refine b_ (k_ rfl) rfl rfl ?_
  refine b_ (aI_ rfl rfl) rfl rfl ?_
  refine b_ (k_ rfl) rfl rfl ?_
  refine z_ (t := 11) rfl ?_ ?_
  · intro hc11
    iterate 2 refine af_ rfl rfl ?_
    refine b_ (O_ rfl rfl) rfl rfl ?_
    refine b_ (j_ rfl) rfl rfl ?_
    refine g_ (c_ ?_)
    refine M_ rfl ?_
    refine d_ (a_ ?_)
    refine b_ (j_ rfl) rfl rfl ?_
    refine g_ (c_ ?_)
    refine m_ ?_
    refine E_ ?_
    refine h_ (by intro h; cases h) ?_
    refine P_ rfl rfl ?_
    intro w' hw'
    refine ⟨?_, hw'⟩; congr 2; unfold chkB; rw [if_pos (by omega)]
  intro hc11
  refine b_ (k_ rfl) rfl rfl ?_
  refine b_ (ay_ rfl rfl) rfl rfl ?_
  refine b_ (S_ rfl rfl) rfl rfl ?_
  refine b_ (j_ rfl) rfl rfl ?_
  refine g_ (c_ ?_)
  refine o_ rfl ?_ ?_
  · intro hc8
    refine d_ (a_ ?_)
    refine b_ (j_ rfl) rfl rfl ?_
    refine g_ (c_ ?_)
    refine m_ ?_
    refine E_ ?_
    refine h_ (by intro h; cases h) ?_
    refine P_ rfl rfl ?_
    intro w' hw'
    refine ⟨?_, hw'⟩; congr 2; unfold chkB; rw [if_pos (by omega)]
  intro hc8
  refine d_ (a_ ?_)
  refine b_ (k_ rfl) rfl rfl ?_
  refine b_ (B_ rfl Tryz.underlying26) rfl rfl ?_
  refine b_ (ay_ rfl rfl) rfl rfl ?_
  refine b_ (j_ rfl) rfl rfl ?_
  refine g_ (c_ ?_)
  refine o_ rfl ?_ ?_
  · intro hc15
    refine d_ (a_ ?_)
    refine b_ (j_ rfl) rfl rfl ?_
    refine g_ (c_ ?_)
    refine m_ ?_
    refine E_ ?_
    refine h_ (by intro h; cases h) ?_
    refine P_ rfl rfl ?_
    intro w' hw'
    refine ⟨?_, hw'⟩; congr 2; unfold chkB; rw [if_neg (by omega), if_pos (by omega)]
  intro hc15
  refine p_ ?_
  refine u_ ?_
  refine c_ ?_
  refine d_ ?_
  refine d_ (a_ ?_)
  refine b_ (k_ rfl) rfl rfl ?_
  refine b_ (B_ rfl Tryz.underlying26) rfl rfl ?_
  refine b_ (k_ rfl) rfl rfl ?_
  refine g_ (c_ ?_)
  refine y_ ?_
  refine ae_ (ι := Nat) (fun k => [(0, .slice A es.length c), (1, .int .i64 n), (19, .slice A es.length c), (20, .int .i64 (es.length : Nat)), (21, .int .i64 (k : Nat))]) (fun k w' => (k ≤ es.length ∧ chkL n none es = chkL n (ahead es k) (es.drop k)) ∧ Mem S σ ρ w') (fun k => es.length - k) 0 (by exact ⟨rfl, rfl, rfl, rfl, rfl, trivial⟩) (fun w' hw' => ⟨⟨Nat.zero_le _, rfl⟩, hw'⟩) ?_
  intro k
  refine bO_ ?_
  rintro ⟨hk, hk2⟩
  refine d_ (a_ ?_)
  refine b_ (aI_ rfl rfl) rfl rfl ?_
  refine g_ (c_ ?_)
  refine d_ ?_
  refine o_ rfl ?_ ?_
  rotate_left
  · intro hc22
    refine W_ ?_
    refine h_ (by intro h; cases h) ?_
    refine h_ (by intro h; cases h) ?_
    refine V_ ?_
    refine c_ ?_
    refine d_ (a_ ?_)
    refine b_ (j_ rfl) rfl rfl ?_
    refine g_ (c_ ?_)
    refine m_ ?_
    refine P_ rfl rfl ?_
    intro w' hw'
    refine ⟨?_, hw'⟩; congr 2; unfold chkB; rw [if_neg (by omega), if_neg (by omega), hk2, List.drop_eq_nil_of_le (by omega)]; rfl
  intro hc22
  have hlt : k < es.length := by omega
  have hat := k1_ (n := n) hlt
  obtain ⟨bb, off, rfl⟩ := hA (by intro h0; rw [h0] at hlt; simp at hlt)
  refine p_ ?_
  refine c_ ?_
  refine d_ ?_
  refine y_ ?_
  refine d_ (a_ ?_)
  refine b_ (k_ rfl) rfl rfl ?_
  refine b_ (a7_ tabOk Tryz.underlying26 rfl rfl rfl (by omega)) rfl rfl ?_
  refine b_ (cV_ (f := Ent.cells) tabOk rfl rfl rfl (by repeat (first | assumption | exact List.mem_cons_self | exact hmem _ | apply List.mem_cons_of_mem)) (fun _ => rfl) hlt) rfl rfl ?_
  refine a0_ (H_ tabOk rfl) rfl rfl ?_
  rintro _ _ ⟨b6, rfl, rfl⟩
  refine b_ (j_ rfl) rfl rfl ?_
  refine a0_ (fK_ (L' := (es[k]'hlt).cells) (vs := (es[k]'hlt).cells) tabOk rfl rfl rfl (by repeat (first | assumption | exact Upd.here | exact hrep _ _ | apply Upd.there)) (by rfl) (Nat.le_of_ble_eq_true (by rfl)) (Ent.one _) (by rfl)) rfl rfl ?_; rintro _ _ ⟨rfl, rfl⟩
  refine g_ (c_ ?_)
  refine d_ ?_
  refine d_ (a_ ?_)
  refine b_ (v_ tabOk rfl rfl rfl rfl rfl) rfl rfl ?_
  refine b_ (x_ tabOk rfl rfl rfl (by repeat (first | assumption | exact List.mem_cons_self | exact hmem _ | apply List.mem_cons_of_mem)) (Nat.le_of_ble_eq_true (by rfl))) rfl rfl ?_
  refine b_ (k_ rfl) rfl rfl ?_
  refine s_ (by kernel_rfl) rfl rfl rfl ?_
  intro w hw
  refine (k2_ (c := (es[k]'hlt).core) hw).mono ?_; rintro _ _ ⟨rfl, hm⟩; refine ⟨_, _, rfl, hm, ?_⟩; clear hm hw w
  refine b_ (j_ rfl) rfl rfl ?_
  refine g_ (c_ ?_)
  refine d_ (a_ ?_)
  refine b_ (k_ rfl) rfl rfl ?_
  refine b_ (aQ_ rfl rfl) rfl rfl ?_
  refine g_ (c_ ?_)
  refine o_ rfl ?_ ?_
  · intro hc31
    refine d_ (a_ ?_)
    refine b_ (k_ rfl) rfl rfl ?_
    refine b_ (j_ rfl) rfl rfl ?_
    refine g_ (c_ ?_)
    refine m_ ?_
    refine h_ (by intro h; cases h) ?_
    refine E_ ?_
    refine h_ (by intro h; cases h) ?_
    refine h_ (by intro h; cases h) ?_
    refine E_ ?_
    refine h_ (by intro h; cases h) ?_
    refine P_ rfl rfl ?_
    intro w' hw'
    refine ⟨?_, hw'.sub (fun _ h => h) (List.sublist_cons_self _ _)⟩; congr 2; unfold chkB; rw [if_neg (by omega), if_neg (by omega), hk2, hat, if_pos hc31]
  intro hc31
  refine p_ ?_
  refine c_ ?_
  refine y_ ?_
  refine d_ (a_ ?_)
  refine b_ (v_ tabOk rfl rfl rfl rfl rfl) rfl rfl ?_
  refine b_ (i_ tabOk rfl rfl (by repeat (first | assumption | exact List.mem_cons_self | exact hmem _ | apply List.mem_cons_of_mem)) (by rfl)) rfl rfl ?_
  refine b_ (k_ rfl) rfl rfl ?_
  refine b_ (ax_ rfl Tryz.underlying91 (by kernel_rfl) (by simp only [InR, lo, hi]; omega)) rfl rfl ?_
  refine b_ (ed_ rfl rfl (by omega)) rfl rfl ?_
  refine b_ (aQ_ rfl rfl) rfl rfl ?_
  refine b_ (j_ rfl) rfl rfl ?_
  refine g_ (c_ ?_)
  refine o_ rfl ?_ ?_
  · intro hc33
    refine d_ (a_ ?_)
    refine b_ (j_ rfl) rfl rfl ?_
    refine g_ (c_ ?_)
    refine m_ ?_
    refine E_ ?_
    refine E_ ?_
    refine h_ (by intro h; cases h) ?_
    refine h_ (by intro h; cases h) ?_
    refine E_ ?_
    refine h_ (by intro h; cases h) ?_
    refine P_ rfl rfl ?_
    intro w' hw'
    refine ⟨?_, hw'.sub (fun _ h => h) (List.sublist_cons_self _ _)⟩; congr 2; unfold chkB; rw [if_neg (by omega), if_neg (by omega), hk2, hat, if_neg hc31, if_pos ((d6_ (by omega) (by omega)).1 hc33)]
  intro hc33
  refine d_ ?_
  refine aa_ _ (.q 0 (.q 1 (.q 2 (.q 3 (.q 4 (.q 5 (.q 6 (.q 7 (.q 8 (.q 9 (.q 10 (.q 11 (.q 12 (.q 13 (.q 14 (.q 15 .nil)))))))))))))))) (by kernel_rfl) (by kernel_rfl) (fun _ h => h) (fun _ h => h.drew) ?_
  refine r_ rfl (k_ rfl) rfl rfl ?_
  refine r_ rfl (ay_ rfl rfl) rfl rfl ?_
  refine r_ rfl (k_ rfl) rfl rfl ?_
  refine aT_ (t := 43) rfl ?_ ?_
  rotate_left
  · intro hc43
    iterate 11 refine cD_ rfl rfl rfl ?_
    refine r_ rfl (S_ rfl rfl) rfl rfl ?_
    refine r_ rfl (j_ rfl) rfl rfl ?_
    refine Q_ (c_ ?_)
    refine ad_ rfl ?_
    refine p_ ?_
    refine u_ ?_
    refine u_ ?_
    refine c_ ?_
    refine a_ ?_
    refine b_ (C_ rfl rfl (by simp only [InR, lo, hi]; omega)) rfl rfl ?_
    refine b_ (k_ rfl) rfl rfl ?_
    refine g_ ?_
    have hnext : chkL n none es = chkL n (ahead es (k + 1)) (es.drop (k + 1)) := by
      rw [hk2, hat, if_neg hc31, if_neg (fun h => hc33 ((d6_ (by omega) (by omega)).2 h)), if_neg (fun h => hc43 (by omega))]
    exact G_ (k + 1) (by omega) (by exact ⟨rfl, rfl, rfl, rfl, rfl, trivial⟩) (fun w' hw' => ⟨⟨hlt, hnext⟩, hw'.sub (fun _ h => h) (List.sublist_cons_self _ _)⟩)
  intro hc43
  refine r_ rfl (k_ rfl) rfl rfl ?_
  refine r_ rfl (k_ rfl) rfl rfl ?_
  refine r_ rfl (dN_ (i := k) (j := 1) rfl rfl rfl (by omega) (by simp only [InR, lo, hi]; omega)) rfl rfl ?_
  refine r_ rfl (a7_ tabOk Tryz.underlying26 rfl rfl rfl (by omega)) rfl rfl ?_
  refine r_ rfl (v_ tabOk rfl rfl rfl rfl rfl) rfl rfl ?_
  refine r_ rfl (v_ tabOk rfl rfl rfl rfl rfl) rfl rfl ?_
  refine r_ rfl (fF_ (f := Ent.cells) (s := 8) (q := k - 1) (fo := 0) tabOk rfl rfl (by repeat (first | assumption | exact List.mem_cons_self | exact hmem _ | apply List.mem_cons_of_mem)) (fun _ => rfl) (by omega) (by rfl)) rfl rfl ?_
  refine r_ rfl (v_ tabOk rfl rfl rfl rfl rfl) rfl rfl ?_
  refine r_ rfl (v_ tabOk rfl rfl rfl rfl rfl) rfl rfl ?_
  refine r_ rfl (i_ tabOk rfl rfl (by repeat (first | assumption | exact List.mem_cons_self | exact hmem _ | apply List.mem_cons_of_mem)) (by rfl)) rfl rfl ?_
  refine r_ rfl (bK_ rfl rfl) rfl rfl ?_
  refine r_ rfl (O_ rfl rfl) rfl rfl ?_
  refine r_ rfl (j_ rfl) rfl rfl ?_
  refine Q_ (c_ ?_)
  refine o_ rfl ?_ ?_
  rotate_left
  · intro hc40
    refine p_ ?_
    refine u_ ?_
    refine u_ ?_
    refine c_ ?_
    refine a_ ?_
    refine b_ (C_ rfl rfl (by simp only [InR, lo, hi]; omega)) rfl rfl ?_
    refine b_ (k_ rfl) rfl rfl ?_
    refine g_ ?_
    have hnext : chkL n none es = chkL n (ahead es (k + 1)) (es.drop (k + 1)) := by
      rw [hk2, hat, if_neg hc31, if_neg (fun h => hc33 ((d6_ (by omega) (by omega)).2 h)), if_neg (fun h => hc40 h.2)]
    exact G_ (k + 1) (by omega) (by exact ⟨rfl, rfl, rfl, rfl, rfl, trivial⟩) (fun w' hw' => ⟨⟨hlt, hnext⟩, hw'.sub (fun _ h => h) (List.sublist_cons_self _ _)⟩)
  intro hc40
  refine d_ (a_ ?_)
  refine b_ (j_ rfl) rfl rfl ?_
  refine g_ (c_ ?_)
  refine m_ ?_
  refine E_ ?_
  refine E_ ?_
  refine h_ (by intro h; cases h) ?_
  refine h_ (by intro h; cases h) ?_
  refine E_ ?_
  refine h_ (by intro h; cases h) ?_
  refine P_ rfl rfl ?_
  intro w' hw'
  refine ⟨?_, hw'.sub (fun _ h => h) (List.sublist_cons_self _ _)⟩; congr 2; unfold chkB; rw [if_neg (by omega), if_neg (by omega), hk2, hat, if_neg hc31, if_neg (fun h => hc33 ((d6_ (by omega) (by omega)).2 h)), if_pos ⟨by omega, hc40⟩]
set_option maxHeartbeats 1000000 in
theorem fS_ {v : Value} {es : List Ent} {n : Int} (hw : Mem S σ ρ w) (he : entsD v es ∈ ρ) (hl : es.length ≤ 1000000) (hs : ∀ e ∈ es, e.core.letter.size ≤ lots) : Calls Tryz.prog 41 #[v, .int .i64 n] w fun e w' => e = .returned (.int .i64 (chkB es n)) ∧ Mem S σ ρ w' := by
  obtain ⟨A, c, rfl, hs1, hs2, hs3⟩ := (hw.data he).shape
  have hA : es ≠ [] → ∃ b off, A = some ⟨b, off, none⟩ := fun h => eu_ (hw.data he) (by cases es with | nil => exact absurd rfl h | cons e es => simp [Ent.cells])
  refine ah_ [.slice A es.length c, .int .i64 n] Tryz.func41 rfl Tryz.ntmps41 rfl (Mem S σ ρ) hw ?_
  refine d_ (a_ ?_)
  refine b_ (j_ rfl) rfl rfl ?_
  refine g_ (c_ ?_)
  refine d_ ?_
  refine d_ (a_ ?_)
  refine b_ (k_ rfl) rfl rfl ?_
  refine b_ (aI_ rfl rfl) rfl rfl ?_
  refine b_ (k_ rfl) rfl rfl ?_
  refine z_ (t := 12) rfl ?_ ?_
  · intro hc12
    iterate 2 refine af_ rfl rfl ?_
    refine b_ (O_ rfl rfl) rfl rfl ?_
    refine g_ (c_ ?_)
    refine M_ rfl ?_
    refine d_ (a_ ?_)
    refine b_ (j_ rfl) rfl rfl ?_
    refine g_ (c_ ?_)
    refine m_ ?_
    refine h_ (by intro h; cases h) ?_
    refine P_ rfl rfl ?_
    intro w' hw'
    refine ⟨?_, hw'⟩; congr 2; unfold chkB; rw [if_pos (by omega)]
  intro hc12
  refine b_ (k_ rfl) rfl rfl ?_
  refine b_ (ay_ rfl rfl) rfl rfl ?_
  refine b_ (S_ rfl rfl) rfl rfl ?_
  refine g_ (c_ ?_)
  refine o_ rfl ?_ ?_
  · intro hc15
    refine d_ (a_ ?_)
    refine b_ (j_ rfl) rfl rfl ?_
    refine g_ (c_ ?_)
    refine m_ ?_
    refine h_ (by intro h; cases h) ?_
    refine P_ rfl rfl ?_
    intro w' hw'
    refine ⟨?_, hw'⟩; congr 2; unfold chkB; rw [if_pos (by omega)]
  intro hc15
  refine p_ ?_
  refine c_ ?_
  refine d_ ?_
  refine d_ (a_ ?_)
  refine b_ (k_ rfl) rfl rfl ?_
  refine b_ (B_ rfl Tryz.underlying26) rfl rfl ?_
  refine b_ (ay_ rfl rfl) rfl rfl ?_
  refine g_ (c_ ?_)
  refine o_ rfl ?_ ?_
  · intro hc18
    refine d_ (a_ ?_)
    refine b_ (j_ rfl) rfl rfl ?_
    refine g_ (c_ ?_)
    refine m_ ?_
    refine h_ (by intro h; cases h) ?_
    refine P_ rfl rfl ?_
    intro w' hw'
    refine ⟨?_, hw'⟩; congr 2; unfold chkB; rw [if_neg (by omega), if_pos (by omega)]
  intro hc18
  refine p_ ?_
  refine c_ ?_
  refine d_ (a_ ?_)
  refine b_ (j_ rfl) rfl rfl ?_
  refine g_ (c_ ?_)
  refine d_ ?_
  refine d_ (a_ ?_)
  refine b_ (j_ rfl) rfl rfl ?_
  refine g_ (c_ ?_)
  refine y_ ?_
  refine ae_ (ι := Nat) (fun q => [(0, .slice A es.length c), (1, .int .i64 n), (5, .int .u32 (pw q : Nat)), (6, .int .i64 (q : Nat))]) (fun q w' => (q : Int) ≤ n ∧ Mem S σ ρ w') (fun q => n.toNat - q) 0 (by exact ⟨rfl, rfl, rfl, rfl, trivial⟩) (fun w' hw' => ⟨by omega, hw'⟩) ?_
  intro q
  refine bO_ ?_
  intro hq
  refine d_ ?_
  refine d_ (a_ ?_)
  iterate 2 refine b_ (k_ rfl) rfl rfl ?_
  refine b_ (aI_ rfl rfl) rfl rfl ?_
  refine g_ (c_ ?_)
  refine o_ rfl ?_ ?_
  · intro hc21
    have h7 : q ≤ 6 := by omega
    have hq1 := pw_le h7
    refine p_ ?_
    refine c_ ?_
    refine d_ ?_
    refine y_ ?_
    refine a_ ?_
    refine b_ (k_ rfl) rfl rfl ?_
    refine b_ (dz_ rfl rfl (by simp only [InR, lo, hi]; omega)) rfl rfl ?_
    refine b_ (j_ rfl) rfl rfl ?_
    refine g_ ?_
    refine u_ ?_
    refine c_ ?_
    refine a_ ?_
    refine b_ (k_ rfl) rfl rfl ?_
    refine b_ (C_ rfl rfl (by simp only [InR, lo, hi]; omega)) rfl rfl ?_
    refine b_ (j_ rfl) rfl rfl ?_
    refine g_ ?_
    exact G_ (q + 1) (by omega) (by exact ⟨rfl, rfl, by show some (Value.int _ _) = some (Value.int _ _); rw [pw_succ], rfl, trivial⟩) (fun w' hw' => ⟨by omega, hw'⟩)
  intro hc21
  have hqn : q = n.toNat := by omega
  subst hqn
  refine W_ ?_
  refine h_ (by intro h; cases h) ?_
  refine h_ (by intro h; cases h) ?_
  refine V_ ?_
  refine c_ ?_
  refine d_ ?_
  refine d_ (a_ ?_)
  refine b_ (k_ rfl) rfl rfl ?_
  refine b_ (B_ rfl Tryz.underlying26) rfl rfl ?_
  refine b_ (k_ rfl) rfl rfl ?_
  refine g_ (c_ ?_)
  refine y_ ?_
  refine ae_ (ι := Nat) (fun k => [(0, .slice A es.length c), (1, .int .i64 n), (5, .int .u32 (pw n.toNat : Nat)), (26, .slice A es.length c), (27, .int .i64 (es.length : Nat)), (28, .int .i64 (k : Nat))]) (fun k w' => (k ≤ es.length ∧ chkL n none es = chkL n (ahead es k) (es.drop k)) ∧ Mem S σ ρ w') (fun k => es.length - k) 0 (by exact ⟨rfl, rfl, rfl, rfl, rfl, rfl, trivial⟩) (fun w' hw' => ⟨⟨Nat.zero_le _, rfl⟩, hw'⟩) ?_
  intro k
  refine bO_ ?_
  rintro ⟨hk, hk2⟩
  refine d_ (a_ ?_)
  refine b_ (aI_ rfl rfl) rfl rfl ?_
  refine g_ (c_ ?_)
  refine d_ ?_
  refine o_ rfl ?_ ?_
  rotate_left
  · intro hc29
    refine W_ ?_
    refine h_ (by intro h; cases h) ?_
    refine h_ (by intro h; cases h) ?_
    refine V_ ?_
    refine c_ ?_
    refine d_ (a_ ?_)
    refine b_ (j_ rfl) rfl rfl ?_
    refine g_ (c_ ?_)
    refine m_ ?_
    refine P_ rfl rfl ?_
    intro w' hw'
    refine ⟨?_, hw'⟩; congr 2; unfold chkB; rw [if_neg (by omega), if_neg (by omega), hk2, List.drop_eq_nil_of_le (by omega)]; rfl
  intro hc29
  have hlt : k < es.length := by omega
  have hat := k1_ (n := n) hlt
  obtain ⟨bb, off, rfl⟩ := hA (by intro h0; rw [h0] at hlt; simp at hlt)
  refine p_ ?_
  refine c_ ?_
  refine d_ ?_
  refine y_ ?_
  refine d_ (a_ ?_)
  refine b_ (k_ rfl) rfl rfl ?_
  refine b_ (a7_ tabOk Tryz.underlying26 rfl rfl rfl (by omega)) rfl rfl ?_
  refine b_ (cV_ (f := Ent.cells) tabOk rfl rfl rfl (by repeat (first | assumption | exact List.mem_cons_self | exact hmem _ | apply List.mem_cons_of_mem)) (fun _ => rfl) hlt) rfl rfl ?_
  refine a0_ (H_ tabOk rfl) rfl rfl ?_
  rintro _ _ ⟨b8, rfl, rfl⟩
  refine b_ (j_ rfl) rfl rfl ?_
  refine a0_ (fK_ (L' := (es[k]'hlt).cells) (vs := (es[k]'hlt).cells) tabOk rfl rfl rfl (by repeat (first | assumption | exact Upd.here | exact hrep _ _ | apply Upd.there)) (by rfl) (Nat.le_of_ble_eq_true (by rfl)) (Ent.one _) (by rfl)) rfl rfl ?_; rintro _ _ ⟨rfl, rfl⟩
  refine g_ (c_ ?_)
  refine d_ ?_
  refine d_ (a_ ?_)
  refine b_ (v_ tabOk rfl rfl rfl rfl rfl) rfl rfl ?_
  refine b_ (x_ tabOk rfl rfl rfl (by repeat (first | assumption | exact List.mem_cons_self | exact hmem _ | apply List.mem_cons_of_mem)) (Nat.le_of_ble_eq_true (by rfl))) rfl rfl ?_
  refine b_ (k_ rfl) rfl rfl ?_
  refine s_ (by kernel_rfl) rfl rfl rfl ?_
  intro w hw
  refine (io_ (c := (es[k]'hlt).core) hw (hs _ (List.getElem_mem hlt))).mono ?_; rintro _ _ ⟨rfl, hm⟩; refine ⟨_, _, rfl, hm, ?_⟩; clear hm hw w
  refine b_ (j_ rfl) rfl rfl ?_
  refine g_ (c_ ?_)
  refine d_ (a_ ?_)
  refine b_ (k_ rfl) rfl rfl ?_
  refine b_ (aQ_ rfl rfl) rfl rfl ?_
  refine g_ (c_ ?_)
  refine o_ rfl ?_ ?_
  · intro hc38
    refine d_ (a_ ?_)
    refine b_ (k_ rfl) rfl rfl ?_
    refine b_ (j_ rfl) rfl rfl ?_
    refine g_ (c_ ?_)
    refine m_ ?_
    refine h_ (by intro h; cases h) ?_
    refine E_ ?_
    refine h_ (by intro h; cases h) ?_
    refine h_ (by intro h; cases h) ?_
    refine E_ ?_
    refine h_ (by intro h; cases h) ?_
    refine P_ rfl rfl ?_
    intro w' hw'
    refine ⟨?_, hw'.sub (fun _ h => h) (List.sublist_cons_self _ _)⟩; congr 2; unfold chkB; rw [if_neg (by omega), if_neg (by omega), hk2, hat, if_pos hc38]
  intro hc38
  refine p_ ?_
  refine c_ ?_
  refine d_ ?_
  refine d_ (a_ ?_)
  refine b_ (v_ tabOk rfl rfl rfl rfl rfl) rfl rfl ?_
  refine b_ (i_ tabOk rfl rfl (by repeat (first | assumption | exact List.mem_cons_self | exact hmem _ | apply List.mem_cons_of_mem)) (by rfl)) rfl rfl ?_
  refine b_ (k_ rfl) rfl rfl ?_
  refine b_ (bK_ rfl rfl) rfl rfl ?_
  refine g_ (c_ ?_)
  refine o_ rfl ?_ ?_
  · intro hc43
    refine d_ (a_ ?_)
    refine b_ (j_ rfl) rfl rfl ?_
    refine g_ (c_ ?_)
    refine m_ ?_
    refine h_ (by intro h; cases h) ?_
    refine E_ ?_
    refine h_ (by intro h; cases h) ?_
    refine h_ (by intro h; cases h) ?_
    refine E_ ?_
    refine h_ (by intro h; cases h) ?_
    refine P_ rfl rfl ?_
    intro w' hw'
    refine ⟨?_, hw'.sub (fun _ h => h) (List.sublist_cons_self _ _)⟩; congr 2; unfold chkB; rw [if_neg (by omega), if_neg (by omega), hk2, hat, if_neg hc38, if_pos (by unfold pw at hc43; omega)]
  intro hc43
  refine p_ ?_
  refine c_ ?_
  refine d_ ?_
  refine aa_ _ (.q 0 (.q 1 (.q 2 (.q 3 (.q 4 (.q 5 (.q 6 (.q 7 (.q 8 (.q 9 (.q 10 (.q 11 (.q 12 (.q 13 (.q 14 .nil))))))))))))))) (by kernel_rfl) (by kernel_rfl) (fun _ h => h) (fun _ h => h.drew) ?_
  refine r_ rfl (k_ rfl) rfl rfl ?_
  refine r_ rfl (ay_ rfl rfl) rfl rfl ?_
  refine r_ rfl (k_ rfl) rfl rfl ?_
  refine aT_ (t := 46) rfl ?_ ?_
  rotate_left
  · intro hc46
    iterate 11 refine cD_ rfl rfl rfl ?_
    refine r_ rfl (S_ rfl rfl) rfl rfl ?_
    refine Q_ (c_ ?_)
    refine ad_ rfl ?_
    refine p_ ?_
    refine u_ ?_
    refine c_ ?_
    refine a_ ?_
    refine b_ (C_ rfl rfl (by simp only [InR, lo, hi]; omega)) rfl rfl ?_
    refine b_ (k_ rfl) rfl rfl ?_
    refine g_ ?_
    have hnext : chkL n none es = chkL n (ahead es (k + 1)) (es.drop (k + 1)) := by
      rw [hk2, hat, if_neg hc38, if_neg (by unfold pw at hc43; omega), if_neg (fun h => hc46 (by omega))]
    exact G_ (k + 1) (by omega) (by exact ⟨rfl, rfl, rfl, rfl, rfl, rfl, trivial⟩) (fun w' hw' => ⟨⟨hlt, hnext⟩, hw'.sub (fun _ h => h) (List.sublist_cons_self _ _)⟩)
  intro hc46
  refine r_ rfl (k_ rfl) rfl rfl ?_
  refine r_ rfl (k_ rfl) rfl rfl ?_
  refine r_ rfl (dN_ (i := k) (j := 1) rfl rfl rfl (by omega) (by simp only [InR, lo, hi]; omega)) rfl rfl ?_
  refine r_ rfl (a7_ tabOk Tryz.underlying26 rfl rfl rfl (by omega)) rfl rfl ?_
  refine r_ rfl (v_ tabOk rfl rfl rfl rfl rfl) rfl rfl ?_
  refine r_ rfl (v_ tabOk rfl rfl rfl rfl rfl) rfl rfl ?_
  refine r_ rfl (fF_ (f := Ent.cells) (s := 8) (q := k - 1) (fo := 0) tabOk rfl rfl (by repeat (first | assumption | exact List.mem_cons_self | exact hmem _ | apply List.mem_cons_of_mem)) (fun _ => rfl) (by omega) (by rfl)) rfl rfl ?_
  refine r_ rfl (v_ tabOk rfl rfl rfl rfl rfl) rfl rfl ?_
  refine r_ rfl (v_ tabOk rfl rfl rfl rfl rfl) rfl rfl ?_
  refine r_ rfl (i_ tabOk rfl rfl (by repeat (first | assumption | exact List.mem_cons_self | exact hmem _ | apply List.mem_cons_of_mem)) (by rfl)) rfl rfl ?_
  refine r_ rfl (bK_ rfl rfl) rfl rfl ?_
  refine r_ rfl (O_ rfl rfl) rfl rfl ?_
  refine Q_ (c_ ?_)
  refine o_ rfl ?_ ?_
  rotate_left
  · intro hc58
    refine p_ ?_
    refine u_ ?_
    refine c_ ?_
    refine a_ ?_
    refine b_ (C_ rfl rfl (by simp only [InR, lo, hi]; omega)) rfl rfl ?_
    refine b_ (k_ rfl) rfl rfl ?_
    refine g_ ?_
    have hnext : chkL n none es = chkL n (ahead es (k + 1)) (es.drop (k + 1)) := by
      rw [hk2, hat, if_neg hc38, if_neg (by unfold pw at hc43; omega), if_neg (fun h => hc58 h.2)]
    exact G_ (k + 1) (by omega) (by exact ⟨rfl, rfl, rfl, rfl, rfl, rfl, trivial⟩) (fun w' hw' => ⟨⟨hlt, hnext⟩, hw'.sub (fun _ h => h) (List.sublist_cons_self _ _)⟩)
  intro hc58
  refine d_ (a_ ?_)
  refine b_ (j_ rfl) rfl rfl ?_
  refine g_ (c_ ?_)
  refine m_ ?_
  refine E_ ?_
  refine h_ (by intro h; cases h) ?_
  refine h_ (by intro h; cases h) ?_
  refine E_ ?_
  refine h_ (by intro h; cases h) ?_
  refine P_ rfl rfl ?_
  intro w' hw'
  refine ⟨?_, hw'.sub (fun _ h => h) (List.sublist_cons_self _ _)⟩; congr 2; unfold chkB; rw [if_neg (by omega), if_neg (by omega), hk2, hat, if_neg hc38, if_neg (by unfold pw at hc43; omega), if_pos ⟨by omega, hc58⟩]
end
def Ent.bytes (e : Ent) : List UInt8 := rowB e.core.bytes ++ beBytes e.mask 1
structure Ent.Few (e : Ent) : Prop where
  mask : e.mask < 4294967296
  letter : e.core.letter.size ≤ 1000
  text : e.core.text.size ≤ 1000
def sg (x : Nat) : Int := IntKind.i64.wrap (x : Int)
def txtB (l : List UInt8) : ByteArray := ⟨l.toArray⟩
def Rd.c3 (s : Rd) : Rd := ((s.fixed 1).fixed 8).fixed 1
def Rd.c4 (s : Rd) (most : Int) : Rd := s.c3.row most
def Rd.c6 (s : Rd) (most : Int) : Rd := ((s.c4 most).fixed 8).fixed 8
def Rd.core (s : Rd) (most : Int) : Core where
  client := s.num 1
  stamp := sg ((s.fixed 1).num 8)
  op := ((s.fixed 1).fixed 8).num 1
  letter := txtB (s.c3.rowOut most)
  a := sg ((s.c4 most).num 8)
  b := sg (((s.c4 most).fixed 8).num 8)
  text := txtB ((s.c6 most).rowOut most)
theorem Rd.row_length (s : Rd) (most : Int) : (s.row most).l.length ≤ s.l.length := by
  have h1 := s.fixed_length 4
  have h2 := (s.fixed 4).fixed_length (s.num 4)
  unfold Rd.row
  split
  · exact h1
  · split
    · exact h1
    · omega
section
variable {S : List (World × List Nat)} {σ τ : Blks} {ρ : List Dt} {w : World}
theorem Core.one (c : Core) : ∀ u ∈ c.cells, u.oneCell' = true := by
  intro u hu
  simp only [Core.cells, List.mem_cons, List.not_mem_nil, or_false] at hu
  rcases hu with rfl | rfl | rfl | rfl | rfl | rfl | rfl <;> rfl
end
section
variable {s t : Rd}
theorem Rd.as.c3 (h : s.as t) : s.c3.as t.c3 := ((h.fixed 1).fixed 8).fixed 1
theorem Rd.as.c4 (h : s.as t) (m : Int) : (s.c4 m).as (t.c4 m) := h.c3.row m
theorem Rd.as.c6 (h : s.as t) (m : Int) : (s.c6 m).as (t.c6 m) := ((h.c4 m).fixed 8).fixed 8
theorem Rd.as.core (h : s.as t) (m : Int) : s.core m = t.core m := by
  unfold Rd.core
  rw [h.num, (h.fixed 1).num, ((h.fixed 1).fixed 8).num, h.c3.rowOut, (h.c4 m).num, ((h.c4 m).fixed 8).num, (h.c6 m).rowOut]
end
theorem Upd.fn {x y : It} {σ τ : Blks} (h : Upd x y σ τ) : ∃ rep : It → Blks, rep x = σ ∧ rep y = τ ∧ ∀ a b, Upd a b (rep a) (rep b) := by
  induction h with
  | here => exact ⟨fun a => a :: _, rfl, rfl, fun a b => .here⟩
  | @there z σ0 τ0 _ ih =>
    obtain ⟨rep, h1, h2, h3⟩ := ih
    exact ⟨fun a => z :: rep a, by show z :: rep x = _; rw [h1], by show z :: rep y = _; rw [h2], fun a b => .there (h3 a b)⟩
section
variable {S : List (World × List Nat)} {σ τ : Blks} {ρ : List Dt} {w : World} {p : Nat} {s : Rd}
theorem Mem.swap {x y : It} (h : Mem S (x :: y :: σ) ρ w) : Mem S (y :: x :: σ) ρ w := by
  have hp : ((x :: y :: σ).flatMap It.ids).Perm ((y :: x :: σ).flatMap It.ids) := by
    simp only [List.flatMap_cons, ← List.append_assoc]
    exact List.Perm.append_right _ List.perm_append_comm
  refine ⟨h.ext, fun z hz => h.out z ?_, hp.nodup_iff.1 h.nodup, fun z hz => h.hold z ?_, fun z hz => z.grow _ _ w (fun k hk => .inl (hp.mem_iff.2 hk)) (h.dat z hz)⟩
  all_goals
    simp only [List.mem_cons] at hz ⊢
    rcases hz with h1 | h1 | h1 <;> simp [h1]
end
/-! ### The same -/
structure Ent.Lits (e : Ent) : Prop where
  client : InR .i64 e.core.client
  stamp : InR .i64 e.core.stamp
  op : InR .i64 e.core.op
  a : InR .i64 e.core.a
  b : InR .i64 e.core.b
  letter : e.core.letter.size ≤ maxLen
  text : e.core.text.size ≤ maxLen
  mask : e.mask < 4294967296
noncomputable instance : DecidableEq Ent := fun _ _ => Classical.propDecidable _
theorem wfI {a : Int} (h : InR .i64 a) : (Lit.int .i64 a).wf = true := by
  obtain ⟨h0, h1⟩ := h
  simp only [lo, hi] at h0 h1
  simp [Lit.wf, IntKind.min, IntKind.max, IntKind.signed, IntKind.bits]; omega
theorem wfU {a : Nat} (h : a < 4294967296) : (Lit.int .u32 (a : Nat)).wf = true := by
  simp [Lit.wf, IntKind.min, IntKind.max, IntKind.signed, IntKind.bits]; omega
def Ent.lits (e : Ent) : List Lit := [.int .i64 e.core.client, .int .i64 e.core.stamp, .int .i64 e.core.op, .string e.core.letter.data.toList, .int .i64 e.core.a, .int .i64 e.core.b, .string e.core.text.data.toList, .int .u32 e.mask]
theorem iN_ (e : Ent) (h : e.Lits) : Tryz.prog.keyLits 4 66 e.cells = some e.lits := by
  have h1 := wfI h.client
  have h2 := wfI h.stamp
  have h3 := wfI h.op
  have h4 := wfI h.a
  have h5 := wfI h.b
  have h6 := h.letter
  have h7 := h.text
  have h8 := wfU h.mask
  have c1 : Tryz.prog.cellsOf 66 = 8 := by kernel_rfl
  have c2 : Tryz.prog.cellsOf 59 = 7 := by kernel_rfl
  have c3 : Tryz.prog.cellsOf 9 = 1 := by kernel_rfl
  have c4 : Tryz.prog.cellsOf 3 = 1 := by kernel_rfl
  have c5 : Tryz.prog.cellsOf 2 = 1 := by kernel_rfl
  have c6 : Tryz.prog.cellsOf 64 = 1 := by kernel_rfl
  simp [Program.keyLits, Tryz.underlying66, Tryz.underlying59, Tryz.underlying9, Tryz.underlying3, Tryz.underlying2, Tryz.underlying64, c1, c2, c3, c4, c5, c6, Ent.cells, Ent.lits, h1, h2, h3, h4, h5, h6, h7, h8]
  rw [if_pos (by decide)]
  rfl
theorem fx_ (e : Ent) : (Value.agg e.cells.toArray).formed Tryz.prog 66 = true := by kernel_rfl
theorem ByteArray.of_data {a b : ByteArray} (h : a.data.toList = b.data.toList) : a = b := by
  cases a; cases b; simp at h; simp [h]
theorem Ent.lits_inj {e f : Ent} (h : e.lits = f.lits) : e = f := by
  simp only [Ent.lits, List.cons.injEq, Lit.string.injEq, Lit.int.injEq, true_and, and_true] at h
  obtain ⟨h1, h2, h3, h4, h5, h6, h7, h8⟩ := h
  obtain ⟨⟨a1, a2, a3, a4, a5, a6, a7⟩, a8⟩ := e
  obtain ⟨⟨b1, b2, b3, b4, b5, b6, b7⟩, b8⟩ := f
  simp only [Ent.mk.injEq, Core.mk.injEq]
  exact ⟨⟨h1, h2, h3, ByteArray.of_data h4, h5, h6, ByteArray.of_data h7⟩, by dsimp only at h8; omega⟩
theorem neqE {e f : Ent} (he : e.Lits) (hf : f.Lits) (w : World) : (binOp .neq 66 (.agg e.cells.toArray) (.agg f.cells.toArray)).run Tryz.prog w = .ok (.bool (decide (e ≠ f))) w :=
  cr_ (m := 10) (by decide) (by kernel_rfl) (fx_ e) (fx_ f) (by simpa using iN_ e he) (by simpa using iN_ f hf) _ (by
    rw [decide_eq_true_eq]
    exact ⟨fun h h2 => h (Ent.lits_inj h2), fun h h2 => h (by rw [h2])⟩) w
theorem go_ {α : Type} {es fs : List α} {k : Nat} (h : es.take k = fs.take k) (h1 : k < es.length) (h2 : k < fs.length) (h3 : es[k] = fs[k]) : es.take (k + 1) = fs.take (k + 1) := by
  rw [List.take_succ_eq_append_getElem h1, List.take_succ_eq_append_getElem h2, h, h3]
section
variable {S : List (World × List Nat)} {σ τ : Blks} {ρ : List Dt} {w : World} {p : Nat} {s : Rd}
set_option maxHeartbeats 1000000 in
theorem rsame_c {v u : Value} {es fs : List Ent} (hw : Mem S σ ρ w) (he : entsD v es ∈ ρ) (hf : entsD u fs ∈ ρ) (hl : es.length ≤ 1000000) (h1 : ∀ e ∈ es, e.Lits) (h2 : ∀ e ∈ fs, e.Lits) : Calls Tryz.prog 43 #[v, u] w fun e w' => e = .returned (.bool (decide (es = fs))) ∧ Mem S σ ρ w' := by
  obtain ⟨A, c, rfl, hs1, hs2, hs3⟩ := (hw.data he).shape
  obtain ⟨B, d, rfl, ht1, ht2, ht3⟩ := (hw.data hf).shape
  have hA : es ≠ [] → ∃ b off, A = some ⟨b, off, none⟩ := fun h => eu_ (hw.data he) (by cases es with | nil => exact absurd rfl h | cons e es => simp [Ent.cells])
  have hB : fs ≠ [] → ∃ b off, B = some ⟨b, off, none⟩ := fun h => eu_ (hw.data hf) (by cases fs with | nil => exact absurd rfl h | cons e es => simp [Ent.cells])
  refine ah_ [.slice A es.length c, .slice B fs.length d] Tryz.func43 rfl Tryz.ntmps43 rfl (Mem S σ ρ) hw ?_
  refine d_ (a_ ?_)
  refine b_ (j_ rfl) rfl rfl ?_
  refine g_ (c_ ?_)
  refine d_ ?_
  refine d_ (a_ ?_)
  refine b_ (k_ rfl) rfl rfl ?_
  refine b_ (B_ rfl Tryz.underlying26) rfl rfl ?_
  refine b_ (k_ rfl) rfl rfl ?_
  refine b_ (B_ rfl Tryz.underlying26) rfl rfl ?_
  refine b_ (aQ_ rfl rfl) rfl rfl ?_
  refine g_ (c_ ?_)
  refine o_ rfl ?_ ?_
  · intro hc10
    refine d_ (a_ ?_)
    refine b_ (j_ rfl) rfl rfl ?_
    refine g_ (c_ ?_)
    refine m_ ?_
    refine h_ (by intro h; cases h) ?_
    refine P_ rfl rfl ?_
    intro w' hw'
    refine ⟨?_, hw'⟩; congr 2; exact (decide_eq_false (fun h => hc10 (by rw [h]))).symm
  intro hc10
  have hle : es.length = fs.length := by omega
  refine p_ ?_
  refine c_ ?_
  refine d_ ?_
  refine d_ (a_ ?_)
  refine b_ (k_ rfl) rfl rfl ?_
  refine b_ (B_ rfl Tryz.underlying26) rfl rfl ?_
  refine b_ (k_ rfl) rfl rfl ?_
  refine g_ (c_ ?_)
  refine y_ ?_
  refine ae_ (ι := Nat) (fun k => [(0, .slice A es.length c), (1, .slice B fs.length d), (12, .int .i64 (es.length : Nat)), (13, .int .i64 (k : Nat))]) (fun k w' => (k ≤ es.length ∧ es.take k = fs.take k) ∧ Mem S σ ρ w') (fun k => es.length - k) 0 (by exact ⟨rfl, rfl, rfl, rfl, trivial⟩) (fun w' hw' => ⟨⟨Nat.zero_le _, by simp⟩, hw'⟩) ?_
  intro k
  refine bO_ ?_
  rintro ⟨hk, hk2⟩
  refine d_ (a_ ?_)
  refine b_ (aI_ rfl rfl) rfl rfl ?_
  refine g_ (c_ ?_)
  refine d_ ?_
  refine o_ rfl ?_ ?_
  rotate_left
  · intro hc14
    refine W_ ?_
    refine h_ (by intro h; cases h) ?_
    refine h_ (by intro h; cases h) ?_
    refine V_ ?_
    refine c_ ?_
    refine d_ (a_ ?_)
    refine b_ (j_ rfl) rfl rfl ?_
    refine g_ (c_ ?_)
    refine m_ ?_
    refine P_ rfl rfl ?_
    intro w' hw'
    refine ⟨?_, hw'⟩; congr 2; refine (decide_eq_true ?_).symm; rw [List.take_of_length_le (by omega), List.take_of_length_le (by omega)] at hk2; exact hk2
  intro hc14
  have hlt : k < es.length := by omega
  have hlt2 : k < fs.length := by omega
  obtain ⟨bb, off, rfl⟩ := hA (by intro h0; rw [h0] at hlt; simp at hlt)
  obtain ⟨bb2, off2, rfl⟩ := hB (by intro h0; rw [h0] at hlt2; simp at hlt2)
  refine p_ ?_
  refine c_ ?_
  refine d_ ?_
  refine y_ ?_
  refine d_ (a_ ?_)
  refine b_ (k_ rfl) rfl rfl ?_
  refine b_ (j_ rfl) rfl rfl ?_
  refine g_ (c_ ?_)
  refine d_ ?_
  refine aa_ _ (.q 0 (.q 1 (.q 2 (.q 3 (.q 4 (.q 5 (.q 6 (.q 7 (.q 8 .nil))))))))) (by kernel_rfl) (by kernel_rfl) (fun _ h => h) (fun _ h => h.drew) ?_
  refine r_ rfl (k_ rfl) rfl rfl ?_
  refine r_ rfl (k_ rfl) rfl rfl ?_
  refine r_ rfl (a7_ tabOk Tryz.underlying26 rfl rfl rfl (by omega)) rfl rfl ?_
  refine r_ rfl (cV_ (f := Ent.cells) tabOk rfl rfl rfl (by repeat (first | assumption | exact List.mem_cons_self | exact hmem _ | apply List.mem_cons_of_mem)) (fun _ => rfl) hlt) rfl rfl ?_
  refine r_ rfl (k_ rfl) rfl rfl ?_
  refine r_ rfl (k_ rfl) rfl rfl ?_
  refine r_ rfl (a7_ tabOk Tryz.underlying26 rfl rfl rfl (by omega)) rfl rfl ?_
  refine r_ rfl (cV_ (f := Ent.cells) tabOk rfl rfl rfl (by repeat (first | assumption | exact List.mem_cons_self | exact hmem _ | apply List.mem_cons_of_mem)) (fun _ => rfl) hlt2) rfl rfl ?_
  refine r_ rfl (dP_ rfl rfl (by kernel_rfl) (neqE (h1 _ (List.getElem_mem hlt)) (h2 _ (List.getElem_mem hlt2)))) rfl rfl ?_
  refine Q_ (c_ ?_)
  refine o_ rfl ?_ ?_
  rotate_left
  · intro hc24
    refine p_ ?_
    refine u_ ?_
    refine c_ ?_
    refine a_ ?_
    refine b_ (C_ rfl rfl (by simp only [InR, lo, hi]; omega)) rfl rfl ?_
    refine b_ (k_ rfl) rfl rfl ?_
    refine g_ ?_
    exact G_ (k + 1) (by omega) (by exact ⟨rfl, rfl, rfl, rfl, trivial⟩) (fun w' hw' => ⟨⟨hlt, go_ hk2 hlt hlt2 (Decidable.not_not.1 hc24)⟩, hw'⟩)
  intro hc24
  refine d_ (a_ ?_)
  refine b_ (j_ rfl) rfl rfl ?_
  refine g_ (c_ ?_)
  refine m_ ?_
  refine E_ ?_
  refine h_ (by intro h; cases h) ?_
  refine h_ (by intro h; cases h) ?_
  refine E_ ?_
  refine h_ (by intro h; cases h) ?_
  refine P_ rfl rfl ?_
  intro w' hw'
  refine ⟨?_, hw'⟩; congr 2; refine (decide_eq_false (fun h => hc24 ?_)).symm; subst h; rfl
end
section
variable {S : List (World × List Nat)} {σ τ : Blks} {ρ : List Dt} {w : World} {P : Program} {n : Nat} {l : Slots} {D : World → Prop} {o : Oper} {v u : Value}
theorem l_ (h : Val P n l D o v) (e : v = u) : Val P n l D o u := e ▸ h
end
theorem Rd.fixed_bad {s : Rd} (h : s.e ≠ 0) (n : Int) : s.fixed n = s := if_pos h
theorem Rd.row_bad {s : Rd} (h : s.e ≠ 0) (m : Int) : s.row m = s := by
  unfold Rd.row
  rw [Rd.fixed_bad h, if_pos h]
theorem Rd.fixed_ok {s : Rd} {n : Int} (h : (s.fixed n).e = 0) : s.e = 0 ∧ 0 ≤ n ∧ n ≤ s.l.length ∧ s.fixed n = ⟨tailV s.v n.toNat, s.l.drop n.toNat, 0⟩ := by
  by_cases he : s.e = 0
  · by_cases hb : s.bad n
    · rw [Rd.fixed, if_neg (by simpa using he), if_pos hb] at h
      exact absurd h (by show ¬ (2 : Int) = 0; decide)
    · rw [Rd.fixed, if_neg (by simpa using he), if_neg hb]
      unfold Rd.bad at hb
      exact ⟨he, by omega, by omega, rfl⟩
  · rw [Rd.fixed_bad he] at h
    exact absurd h he
theorem ij_ {s : Rd} {L : Int} (h : (s.row L).e = 0) : (s.row L).l.length + 4 ≤ s.l.length := by
  unfold Rd.row at h ⊢
  by_cases he : (s.fixed 4).e = 0
  · obtain ⟨_, _, h3, h4⟩ := Rd.fixed_ok he
    rw [if_neg (by simpa using he)] at h ⊢
    split at h
    · exact absurd h (by show ¬ (3 : Int) = 0; decide)
    · rename_i hn
      rw [if_neg hn]
      have h5 := (s.fixed 4).fixed_length (s.num 4)
      have h6 : (s.fixed 4).l.length = s.l.length - 4 := by rw [h4]; simp
      omega
  · rw [if_pos he] at h
    exact absurd h he
def Rd.At (s : Rd) (l : List UInt8) : Prop := s.e = 0 ∧ s.l = l
theorem iV_ {s : Rd} {x r : List UInt8} (h : s.At (x ++ r)) {n : Int} (hn : n = x.length) : (s.fixed n).At r ∧ s.out n = x := by
  obtain ⟨h1, h2⟩ := h
  have hb : ¬ s.bad n := by
    unfold Rd.bad
    rw [h2, List.length_append]
    omega
  have ht : n.toNat = x.length := by omega
  unfold Rd.At Rd.fixed Rd.out
  simp only [h1, ne_eq, not_true_eq_false, if_false, hb, h2, ht]
  simp
theorem c3_ {s : Rd} {r : List UInt8} {v k : Nat} (h : s.At (beBytes v k ++ r)) (hv : v < 256 ^ k) {n : Int} (hn : n = k) : (s.fixed n).At r ∧ s.num n = v := by
  obtain ⟨h1, h2⟩ := iV_ h (n := n) (by rw [w_]; exact hn)
  exact ⟨h1, by rw [Rd.num, h2, beVal_be v k hv]⟩
theorem k7_ {s : Rd} {x r : List UInt8} {most : Int} (h : s.At (rowB x ++ r)) (hx : x.length ≤ most) (hx2 : x.length < 4294967296) : (s.row most).At r ∧ s.rowOut most = x := by
  unfold rowB at h
  rw [List.append_assoc] at h
  obtain ⟨h1, h2⟩ := c3_ h (by omega) (n := 4) rfl
  obtain ⟨h3, h4⟩ := iV_ h1 (n := s.num 4) (by rw [h2])
  have hm : ¬ most < s.num 4 := by rw [h2]; omega
  unfold Rd.row Rd.rowOut
  simp only [h1.1, ne_eq, not_true_eq_false, if_false, hm]
  exact ⟨h3, h4⟩
theorem sg_u64 {a : Int} (h : InR .i64 a) : sg (u64 a) = a := by
  obtain ⟨h1, h2⟩ := h
  simp only [lo, hi] at h1 h2
  unfold sg u64
  simp [IntKind.wrap, IntKind.bits, IntKind.signed]
  split <;> omega
structure Core.Back (c : Core) : Prop where
  client : 0 ≤ c.client ∧ c.client < 256
  stamp : InR .i64 c.stamp
  op : 0 ≤ c.op ∧ c.op < 256
  a : InR .i64 c.a
  b : InR .i64 c.b
structure Ent.Back (e : Ent) : Prop where
  core : e.core.Back
  mask : e.mask < 256
  len : e.core.bytes.length ≤ 100000
theorem check_ok {c : Core} {n : Int} (h : c.check n = 0) : 1 ≤ n ∧ n ≤ 7 ∧ n ≤ c.client ∧ c.client < n + 4 ∧ 1 ≤ c.stamp ∧ c.stamp ≤ 1099511627776 ∧ 1 ≤ c.op ∧ c.op ≤ 9 ∧ nameB c.letter = true ∧ c.text.size ≤ 200 := by
  unfold Core.check at h
  split at h
  · exact absurd h (by decide)
  · split at h
    · exact absurd h (by decide)
    · split at h
      · exact absurd h (by decide)
      · split at h
        · exact absurd h (by decide)
        · split at h
          · exact absurd h (by decide)
          · rename_i h4 _
            rw [Bool.not_eq_false] at h4
            exact ⟨by omega, by omega, by omega, by omega, by omega, by omega, by omega, by omega, h4, by omega⟩
end Go.Proofs.YtickdhjljpnlpaaGreatDoor
namespace Go.Proofs.YtickdhjljpnlpaaGreatDoor.A
open Go.RowKit
section
variable {n : Nat} {W : Wd} {σ : Blks} {l : Slots} {x : Operand} {d : Option Nat} {ty t e : TypeId} {pos : String} {aft : Array Edge} {g : Option (Nat × Bool)} {s : ByteArray}
theorem aF_ (hx : look l x = some (.v (.string s))) (ht : Tryz.prog.underlying t = some .string) (hd : Tryz.prog.underlying e = some (.slice 5)) (hs : s.size ≤ lots) : Eff Tryz.prog n W σ l [] ⟨d, .convert t e x, ty, pos, aft, g⟩ fun y τ => y = byt (tx s) ∧ τ = σ := fun a w h => by
  have hrun := Lib.run_convert_string_bytes (P := Tryz.prog) w t e 5 s ht hd Tryz.underlying5
  have hc := eN_ w s.size 0 5 (by unfold lots at hs; unfold maxLen; omega)
  have hx1 : Ext [] w (Lib.bytesWorld w 5 s) := ⟨rfl, rfl, rfl, by rw [Lib.bytesWorld_size]; omega, fun k hk _ => Lib.bytesWorld_at_old w _ s k hk⟩
  obtain ⟨hm, hcar⟩ := h.mem.same hx1
  refine ⟨.slice (some ⟨w.heap.size, 0, none⟩) s.size (grownCap w s.size 0 5), _, _, _, ⟨rfl, rfl⟩, hx1, bw_.2 ⟨⟨some ⟨w.heap.size, 0, none⟩, _, by simp [tx], by simpa [tx] using hc.1, hc.2, by simp⟩, fun _ => ⟨w.heap.size, 0, s.size, _, rfl, fun hk => ?_, fun j u hu => ?_⟩⟩, hm, hcar, .inl ?_⟩
  · have := h.mem.lt _ hk; omega
  · rw [Nat.zero_add]
    rw [List.getElem?_map] at hu
    have hj : j < s.size := by
      rcases Nat.lt_or_ge j s.size with h | h
      · exact h
      · rw [List.getElem?_eq_none (by simpa [tx] using h)] at hu; cases hu
    rw [Lib.bytesWorld_cell w _ s j hj, ← hu, List.getElem?_eq_getElem (by simpa [tx] using hj), List.getD_eq_getElem?_getD, List.getElem?_eq_getElem (by simpa using hj)]
    rfl
  · simp only [execOp, h.plain hx, hrun, Sem.run_bind, Result.andThen_ok, Sem.run_pure]
end
section
variable {P : Program} {n : Nat} {W : Wd} {σ : Blks} {l : Slots} {X : List Nat} {x y : Operand} {d : Option Nat} {ty t t' : TypeId} {pos : String} {aft : Array Edge} {g : Option (Nat × Bool)} {s r : ByteArray}
theorem Val.ltS (hx : look l x = some (.v (.string s))) (hy : look l y = some (.v (.string r))) : Val P n W σ l X ⟨d, .binOp .lss t x y t', ty, pos, aft, g⟩ (.v (.bool (decide (ltB s r)))) := fun a w hs _ => by
  refine ⟨_, rfl, fun w' _ => ?_⟩
  simp [execOp, hs.plain hx, hs.plain hy, eqGuard, binOp, Op.stringOp, Proofs.bytesLess_eq, Lib.toList_data, ltB]
end
noncomputable instance (x : Ltr) : Decidable (LtR x) := Classical.propDecidable _
noncomputable instance (o : Oc) : Decidable (OcR o) := Classical.propDecidable _
noncomputable def Lg.chk (l : Lg) : Int := if l.Right then 0 else 2
/-! ### Written -/
def ltrByt (x : Ltr) : List UInt8 := beBytes (tx x.name).length 4 ++ tx x.name ++ beBytes (u64 x.state) 1 ++ beBytes (u64 x.amount) 8 ++ beBytes (u64 x.due) 8 ++ beBytes (tx x.policy).length 4 ++ tx x.policy ++ beBytes (tx x.papers).length 4 ++ tx x.papers
def Oc.bytes (o : Oc) : List UInt8 := beBytes (u64 o.client) 1 ++ beBytes (u64 o.stamp) 8 ++ beBytes (u64 o.result) 1
def ltrsB (ls : List Ltr) : List UInt8 := ls.flatMap ltrByt
def ocsB (os : List Oc) : List UInt8 := os.flatMap Oc.bytes
def Lg.head (l : Lg) : List UInt8 := [] ++ beBytes (u64 l.seq) 8 ++ beBytes (u64 l.total) 8 ++ beBytes l.ls.length 2
def Lg.bytes (l : Lg) : List UInt8 := l.head ++ ltrsB l.ls ++ beBytes l.os.length 2 ++ ocsB l.os
theorem Lg.head_length (l : Lg) : l.head.length = 18 := by
  unfold Lg.head
  simp only [List.length_append, w_, List.length_nil]
theorem f0_ (x : Ltr) : (ltrByt x).length = 29 + x.name.size + x.policy.size + x.papers.size := by
  unfold ltrByt
  simp only [List.length_append, w_, an_]
  omega
theorem Oc.bytes_length (o : Oc) : o.bytes.length = 10 := by
  unfold Oc.bytes
  simp only [List.length_append, w_]
theorem bs_ : ∀ {ls : List Ltr}, (∀ x ∈ ls, LtR x) → (ltrsB ls).length ≤ 500 * ls.length
  | [], _ => Nat.le_refl _
  | x :: ls, h => by
    have h1 := h x List.mem_cons_self
    have h2 := bs_ (ls := ls) fun y hy => h y (List.mem_cons_of_mem _ hy)
    have h3 := h1.policy
    have h4 := h1.papers
    have h5 : x.name.size ≤ 16 := by
      have := h1.name
      unfold nameB at this
      simp only [Bool.and_eq_true, decide_eq_true_eq] at this
      omega
    show ((ltrByt x) ++ ltrsB ls).length ≤ _
    rw [List.length_append, f0_, List.length_cons]
    omega
theorem db_ (os : List Oc) : (ocsB os).length = 10 * os.length := by
  induction os with
  | nil => rfl
  | cons o os ih =>
    show (o.bytes ++ ocsB os).length = _
    rw [List.length_append, ih, Oc.bytes_length, List.length_cons]
    omega
theorem LtsR.all {ls : List Ltr} (h : LtsR ls) : ∀ x ∈ ls, LtR x := fun x hx => by
  obtain ⟨j, hj, rfl⟩ := List.getElem_of_mem hx
  exact h.each j hj
theorem OcsR.all {os : List Oc} (h : OcsR os) : ∀ x ∈ os, OcR x := fun x hx => by
  obtain ⟨j, hj, rfl⟩ := List.getElem_of_mem hx
  exact h.each j hj
theorem Lg.Right.bytes {l : Lg} (h : l.Right) : l.bytes.length ≤ 9000 := by
  have h1 := bs_ h.ls.all
  have h2 := h.lsFew
  have h3 := h.few
  unfold Lg.bytes
  simp only [List.length_append, w_, Lg.head_length, db_]
  omega
/-! ### Read -/
def mkS (m : List UInt8) : ByteArray := ⟨m.toArray⟩
theorem kp_ (s : ByteArray) : mkS (tx s) = s := ek_ (fL_ _)
def Rd.l1 (s : Rd) : Rd := s.row 16
def Rd.l2 (s : Rd) : Rd := (Rd.l1 s).fixed 1
def Rd.l3 (s : Rd) : Rd := (Rd.l2 s).fixed 8
def Rd.l4 (s : Rd) : Rd := (Rd.l3 s).fixed 8
def Rd.l5 (s : Rd) : Rd := (Rd.l4 s).row 200
def Rd.l6 (s : Rd) : Rd := (Rd.l5 s).row 200
def Rd.ltr (s : Rd) : Ltr := ⟨mkS (s.rowOut 16), IntKind.i64.wrap ((Rd.l1 s).num 1 : Nat), IntKind.i64.wrap ((Rd.l2 s).num 8 : Nat), IntKind.i64.wrap ((Rd.l3 s).num 8 : Nat), mkS ((Rd.l4 s).rowOut 200), mkS ((Rd.l5 s).rowOut 200)⟩
def Rd.o3 (s : Rd) : Rd := ((s.fixed 1).fixed 8).fixed 1
def Rd.oc (s : Rd) : Oc := ⟨IntKind.i64.wrap (s.num 1 : Nat), IntKind.i64.wrap ((s.fixed 1).num 8 : Nat), IntKind.i64.wrap (((s.fixed 1).fixed 8).num 1 : Nat)⟩
def Rd.allG {α : Type} (one : Rd → α) (nx : Rd → Rd) : Nat → Rd → List α → List α × Rd
  | 0, s, acc => (acc, s)
  | k + 1, s, acc => Rd.allG one nx k (nx s) (acc ++ [one s])
def Rd.tillG {α : Type} (one : Rd → α) (nx : Rd → Rd) : Nat → Rd → List α → List α × Rd
  | 0, s, acc => (acc, s)
  | k + 1, s, acc => if s.e ≠ 0 then (acc, s) else Rd.tillG one nx k (nx s) (acc ++ [one s])
theorem di_ {α : Type} {one : Rd → α} {nx : Rd → Rd} {s : Rd} {acc : List α} (h : s.e ≠ 0) : ∀ k, Rd.tillG one nx k s acc = (acc, s)
  | 0 => rfl
  | k + 1 => by show (if s.e ≠ 0 then _ else _) = _; rw [if_pos h]
def Rd.lgH (m : List UInt8) : Rd := ((Rd.of m).fixed 8).fixed 8
noncomputable def Rd.lgL (m : List UInt8) : List Ltr × Rd := Rd.allG Rd.ltr Rd.l6 ((Rd.lgH m).countN 16) ((Rd.lgH m).count 16) []
noncomputable def Rd.lgO (m : List UInt8) : List Oc × Rd := Rd.allG Rd.oc Rd.o3 ((Rd.lgL m).2.countN 4) ((Rd.lgL m).2.count 4) []
noncomputable def Rd.lg (m : List UInt8) : Lg := ⟨IntKind.i64.wrap ((Rd.of m).num 8 : Nat), IntKind.i64.wrap (((Rd.of m).fixed 8).num 8 : Nat), (Rd.lgL m).1, (Rd.lgO m).1⟩
noncomputable def parseL (m : List UInt8) : Lg × Int := if (Rd.lgO m).2.end_ ≠ 0 ∨ ¬ (Rd.lg m).Right then (Lg.zero, 2) else (Rd.lg m, 0)
noncomputable def Rd.rlgL (m : List UInt8) : List Ltr × Rd := Rd.tillG Rd.ltr Rd.l6 ((Rd.lgH m).countN 16) ((Rd.lgH m).count 16) []
noncomputable def Rd.rlgO (m : List UInt8) : List Oc × Rd := Rd.tillG Rd.oc Rd.o3 ((Rd.rlgL m).2.countN 4) ((Rd.rlgL m).2.count 4) []
noncomputable def Rd.rlg (m : List UInt8) : Lg := ⟨IntKind.i64.wrap ((Rd.of m).num 8 : Nat), IntKind.i64.wrap (((Rd.of m).fixed 8).num 8 : Nat), (Rd.rlgL m).1, (Rd.rlgO m).1⟩
noncomputable def rparseL (m : List UInt8) : Lg × Bool := if (Rd.rlgO m).2.end_ ≠ 0 ∨ ¬ (Rd.rlg m).Right then (Lg.zero, false) else (Rd.rlg m, true)
theorem bN_ (s : Rd) (most : Int) : (s.count most).l.length ≤ s.l.length := by
  unfold Rd.count
  have := s.fixed_length 2
  split
  · exact this
  · exact this
theorem cQ_ (s : Rd) (most : Int) : s.countN most < 65536 := by
  unfold Rd.countN
  split
  · omega
  · exact s.num_lt (n := 2) (k := 2) (Nat.le_refl _)
theorem eK_ (s : Rd) : (Rd.l6 s).l.length ≤ s.l.length := by
  have h1 := Rd.row_length s 16
  have h2 := (Rd.l1 s).fixed_length 1
  have h3 := (Rd.l2 s).fixed_length 8
  have h4 := (Rd.l3 s).fixed_length 8
  have h5 := Rd.row_length (Rd.l4 s) 200
  have h6 := Rd.row_length (Rd.l5 s) 200
  unfold Rd.l6
  unfold Rd.l1 at h2
  unfold Rd.l2 at h3
  unfold Rd.l3 at h4
  unfold Rd.l4 at h5
  unfold Rd.l5 at h6
  unfold Rd.l5 Rd.l4 Rd.l3 Rd.l2 Rd.l1 at *
  omega
theorem dn_ (s : Rd) : (Rd.o3 s).l.length ≤ s.l.length := by
  have h2 := s.fixed_length 1
  have h3 := (s.fixed 1).fixed_length 8
  have h4 := ((s.fixed 1).fixed 8).fixed_length 1
  unfold Rd.o3
  omega
theorem gg_ {α : Type} {one : Rd → α} {nx : Rd → Rd} (hn : ∀ s : Rd, (nx s).l.length ≤ s.l.length) : ∀ (k : Nat) (s : Rd) (acc : List α), (Rd.allG one nx k s acc).1.length = acc.length + k ∧ (Rd.allG one nx k s acc).2.l.length ≤ s.l.length
  | 0, s, acc => ⟨rfl, Nat.le_refl _⟩
  | k + 1, s, acc => by
    have h1 := gg_ (one := one) hn k (nx s) (acc ++ [one s])
    have h2 := hn s
    rw [List.length_append, List.length_singleton] at h1
    unfold Rd.allG
    omega
theorem el_ {α : Type} {one : Rd → α} {nx : Rd → Rd} (hn : ∀ s : Rd, (nx s).l.length ≤ s.l.length) : ∀ (k : Nat) (s : Rd) (acc : List α), (Rd.tillG one nx k s acc).1.length ≤ acc.length + k ∧ (Rd.tillG one nx k s acc).2.l.length ≤ s.l.length
  | 0, s, acc => ⟨Nat.le_refl _, Nat.le_refl _⟩
  | k + 1, s, acc => by
    have h1 := el_ (one := one) hn k (nx s) (acc ++ [one s])
    have h2 := hn s
    rw [List.length_append, List.length_singleton] at h1
    unfold Rd.tillG
    split
    · exact ⟨Nat.le_add_right _ _, Nat.le_refl _⟩
    · omega
theorem if_ {α : Type} {one : Rd → α} {nx : Rd → Rd} {Q : α → Prop} (hq : ∀ s, Q (one s)) : ∀ (k : Nat) (s : Rd) (acc : List α), (∀ x ∈ acc, Q x) → ∀ x ∈ (Rd.tillG one nx k s acc).1, Q x
  | 0, _, _, h => h
  | k + 1, s, acc, h => by
    unfold Rd.tillG
    split
    · exact h
    · refine if_ hq k _ _ fun x hx => ?_
      rcases List.mem_append.1 hx with hx | hx
      · exact h x hx
      · rw [List.mem_singleton.1 hx]; exact hq s
theorem ht_ (s : Rd) (most : Nat) : (s.rowOut most).length ≤ most := by
  unfold Rd.rowOut
  split
  · exact Nat.zero_le _
  · split
    · exact Nat.zero_le _
    · have h1 := (s.fixed 4).out_length (s.num 4)
      omega
theorem ltr_name (s : Rd) : (Rd.ltr s).name.size ≤ maxLen := by
  have h1 : (s.rowOut 16).length ≤ 16 := ht_ s 16
  show (s.rowOut 16).length ≤ _
  unfold maxLen
  omega
theorem wrap_i64 (a : Int) : i64ok (IntKind.i64.wrap a) := by
  unfold i64ok
  simp [IntKind.wrap, IntKind.bits, IntKind.signed]
  split <;> omega
/-! ### Both tell the same -/
theorem hX_ {α : Type} {one : Rd → α} {nx : Rd → Rd} (hn : ∀ s : Rd, s.e ≠ 0 → nx s = s) : ∀ (k : Nat) {s : Rd} (acc : List α), s.e ≠ 0 → (Rd.allG one nx k s acc).2.e ≠ 0
  | 0, _, _, h => h
  | k + 1, s, acc, h => by
    unfold Rd.allG
    rw [hn s h]
    exact hX_ hn k _ h
theorem gf_ {α : Type} {one : Rd → α} {nx : Rd → Rd} (hn : ∀ s : Rd, s.e ≠ 0 → nx s = s) : ∀ (k : Nat) (s : Rd) (acc : List α), ((Rd.allG one nx k s acc).2.e ≠ 0 ∧ (Rd.tillG one nx k s acc).2.e ≠ 0) ∨ Rd.allG one nx k s acc = Rd.tillG one nx k s acc
  | 0, _, _ => .inr rfl
  | k + 1, s, acc => by
    by_cases h : s.e ≠ 0
    · refine .inl ⟨hX_ hn _ _ h, ?_⟩
      rw [di_ h]
      exact h
    · unfold Rd.allG Rd.tillG
      rw [if_neg h]
      exact gf_ hn k _ _
theorem l6_bad (s : Rd) (h : s.e ≠ 0) : Rd.l6 s = s := by
  unfold Rd.l6 Rd.l5 Rd.l4 Rd.l3 Rd.l2 Rd.l1
  simp only [Rd.row_bad h, Rd.fixed_bad h]
theorem o3_bad (s : Rd) (h : s.e ≠ 0) : Rd.o3 s = s := by
  unfold Rd.o3
  simp only [Rd.fixed_bad h]
theorem fy_ {s : Rd} (h : s.e ≠ 0) (m : Int) : (s.count m).e ≠ 0 := by
  unfold Rd.count
  rw [Rd.fixed_bad h, if_neg (fun h2 => h h2.1)]
  exact h
theorem kR_ {s : Rd} (h : s.e ≠ 0) : s.end_ ≠ 0 := by
  unfold Rd.end_
  rw [if_neg (fun h2 => h h2.1)]
  exact h
theorem jm_ (m : List UInt8) : rparseL m = ((parseL m).1, decide ((parseL m).2 = 0)) := by
  have hb : (Rd.lgO m).2.e ≠ 0 → (Rd.rlgO m).2.e ≠ 0 → rparseL m = ((parseL m).1, decide ((parseL m).2 = 0)) := fun h1 h2 => by
    unfold rparseL parseL
    rw [if_pos (.inl (kR_ h2)), if_pos (.inl (kR_ h1))]
    rfl
  rcases gf_ (one := Rd.ltr) (nx := Rd.l6) l6_bad ((Rd.lgH m).countN 16) ((Rd.lgH m).count 16) [] with ⟨h1, h2⟩ | h
  · refine hb ?_ ?_
    · exact hX_ o3_bad _ _ (fy_ h1 4)
    · unfold Rd.rlgO
      have h3 : ((Rd.rlgL m).2.count 4).e ≠ 0 := fy_ h2 4
      rw [di_ h3]
      exact h3
  · have e1 : Rd.lgL m = Rd.rlgL m := h
    rcases gf_ (one := Rd.oc) (nx := Rd.o3) o3_bad ((Rd.lgL m).2.countN 4) ((Rd.lgL m).2.count 4) [] with ⟨h1, h2⟩ | h3
    · refine hb h1 ?_
      unfold Rd.rlgO
      rw [← e1]
      exact h2
    · have e2 : Rd.lgO m = Rd.rlgO m := by
        unfold Rd.rlgO
        rw [← e1]
        exact h3
      have e3 : Rd.lg m = Rd.rlg m := by
        unfold Rd.lg Rd.rlg
        rw [e1, e2]
      unfold rparseL parseL
      rw [← e2, ← e3]
      split
      · rfl
      · rfl
/-! ### What is written reads back -/
theorem he_ {s : Rd} {r : List UInt8} {k : Nat} {most : Int} (h : s.At (beBytes k 2 ++ r)) (hk : k < 65536) (hm : (k : Int) ≤ most) : (s.count most).At r ∧ s.countN most = k := by
  obtain ⟨h1, h2⟩ := c3_ h (by omega) (n := 2) rfl
  have h3 : ¬ ((s.fixed 2).e = 0 ∧ most < s.num 2) := by rw [h2]; omega
  unfold Rd.count Rd.countN
  rw [if_neg h3, if_neg h3]
  exact ⟨h1, h2⟩
theorem bT_ {a : Int} (h : i64ok a) : IntKind.i64.wrap (u64 a : Nat) = a := sg_u64 (show InR .i64 a by unfold i64ok at h; simp only [InR, lo, hi]; omega)
theorem ej_ {a : Int} (h : 0 ≤ a ∧ a < 256) : u64 a < 256 ^ 1 := by
  unfold u64
  rw [Int.emod_eq_of_lt h.1 (by omega)]
  omega
theorem dg_ (a : Int) : u64 a < 256 ^ 8 := by
  have := u64_lt a
  omega
theorem gh_ {α : Type} {one : Rd → α} {nx : Rd → Rd} {enc : α → List UInt8} {Ok : α → Prop} (hone : ∀ (a : α) (s : Rd) (r : List UInt8), Ok a → s.At (enc a ++ r) → one s = a ∧ (nx s).At r) {r : List UInt8} : ∀ (xs : List α) (s : Rd) (acc : List α), (∀ a ∈ xs, Ok a) → s.At (xs.flatMap enc ++ r) → ∃ t : Rd, t.At r ∧ Rd.allG one nx xs.length s acc = (acc ++ xs, t)
  | [], s, acc, _, h => ⟨s, h, by simp [Rd.allG]⟩
  | a :: xs, s, acc, hok, h => by
    have e1 : (a :: xs).flatMap enc ++ r = enc a ++ (xs.flatMap enc ++ r) := by simp
    rw [e1] at h
    obtain ⟨h1, h2⟩ := hone a s _ (hok a List.mem_cons_self) h
    obtain ⟨t, ht, hr⟩ := gh_ hone xs (nx s) (acc ++ [a]) (fun y hy => hok y (List.mem_cons_of_mem _ hy)) h2
    refine ⟨t, ht, ?_⟩
    rw [List.length_cons]
    unfold Rd.allG
    rw [h1, hr]
    simp
theorem ltr_back (x : Ltr) (s : Rd) (r : List UInt8) (hx : LtR x) (h : s.At ((ltrByt x) ++ r)) : Rd.ltr s = x ∧ (Rd.l6 s).At r := by
  have hn : x.name.size ≤ 16 := by
    have := hx.name
    unfold nameB at this
    simp only [Bool.and_eq_true, decide_eq_true_eq] at this
    omega
  have h3 := hx.policy
  have h4 := hx.papers
  have e1 : (ltrByt x) ++ r = rowB (tx x.name) ++ (beBytes (u64 x.state) 1 ++ (beBytes (u64 x.amount) 8 ++ (beBytes (u64 x.due) 8 ++ (rowB (tx x.policy) ++ (rowB (tx x.papers) ++ r))))) := by
    simp [ltrByt, rowB]
  rw [e1] at h
  obtain ⟨a1, b1⟩ := k7_ (most := 16) h (by rw [an_]; omega) (by rw [an_]; omega)
  have ha := hx.amount
  have hs := hx.state
  have hd := bZ_ hx.due
  obtain ⟨a2, b2⟩ := c3_ a1 (ej_ (by omega)) (n := 1) rfl
  obtain ⟨a3, b3⟩ := c3_ a2 (dg_ _) (n := 8) rfl
  obtain ⟨a4, b4⟩ := c3_ a3 (dg_ _) (n := 8) rfl
  obtain ⟨a5, b5⟩ := k7_ (most := 200) a4 (by rw [an_]; omega) (by rw [an_]; omega)
  obtain ⟨a6, b6⟩ := k7_ (most := 200) a5 (by rw [an_]; omega) (by rw [an_]; omega)
  refine ⟨?_, a6⟩
  unfold Rd.ltr Rd.l5 Rd.l4 Rd.l3 Rd.l2 Rd.l1
  rw [b1, b2, b3, b4, b5, b6, kp_, kp_, kp_, bT_ (by unfold i64ok; omega), bT_ (by unfold i64ok; omega), bT_ hd]
theorem oc_back (o : Oc) (s : Rd) (r : List UInt8) (ho : OcR o) (h : s.At (o.bytes ++ r)) : Rd.oc s = o ∧ (Rd.o3 s).At r := by
  have h1 := ho.client
  have h2 := ho.stamp
  have h3 := ho.result
  have e1 : o.bytes ++ r = beBytes (u64 o.client) 1 ++ (beBytes (u64 o.stamp) 8 ++ (beBytes (u64 o.result) 1 ++ r)) := by
    simp [Oc.bytes]
  rw [e1] at h
  obtain ⟨a1, b1⟩ := c3_ h (ej_ (by omega)) (n := 1) rfl
  obtain ⟨a2, b2⟩ := c3_ a1 (dg_ _) (n := 8) rfl
  obtain ⟨a3, b3⟩ := c3_ a2 (ej_ (by omega)) (n := 1) rfl
  refine ⟨?_, a3⟩
  unfold Rd.oc
  rw [b1, b2, b3, bT_ (by unfold i64ok; omega), bT_ (by unfold i64ok; omega), bT_ (by unfold i64ok; omega)]
theorem ks_ {l : Lg} (h : l.Right) : parseL l.bytes = (l, 0) := by
  have e0 : l.bytes = beBytes (u64 l.seq) 8 ++ (beBytes (u64 l.total) 8 ++ (beBytes l.ls.length 2 ++ (l.ls.flatMap ltrByt ++ (beBytes l.os.length 2 ++ (l.os.flatMap Oc.bytes ++ []))))) := by
    simp [Lg.bytes, Lg.head, ltrsB, ocsB]
  have hs := h.seq
  have ht := bZ_ h.total
  have h1 := h.few
  have h2 := h.lsFew
  have hat : (Rd.of l.bytes).At _ := ⟨rfl, e0⟩
  obtain ⟨a1, b1⟩ := c3_ hat (dg_ _) (n := 8) rfl
  obtain ⟨a2, b2⟩ := c3_ a1 (dg_ _) (n := 8) rfl
  have a2' : (Rd.lgH l.bytes).At _ := a2
  obtain ⟨a3, b3⟩ := he_ (most := 16) a2' (by omega) (by omega)
  obtain ⟨t1, a4, b4⟩ := gh_ ltr_back l.ls _ [] h.ls.all a3
  have hp1 : Rd.lgL l.bytes = (l.ls, t1) := by unfold Rd.lgL; rw [b3, b4]; rfl
  obtain ⟨a5, b5⟩ := he_ (most := 4) a4 (by omega) (by omega)
  obtain ⟨t2, a6, b6⟩ := gh_ oc_back l.os _ [] h.os.all a5
  have hp2 : Rd.lgO l.bytes = (l.os, t2) := by unfold Rd.lgO; rw [hp1]; dsimp only; rw [b5, b6]; rfl
  have hend : t2.end_ = 0 := by
    unfold Rd.end_
    rw [a6.1, a6.2]
    simp
  have hc : Rd.lg l.bytes = l := by
    unfold Rd.lg
    rw [hp1, hp2, b1, b2, bT_ (by unfold i64ok; omega), bT_ ht]
  unfold parseL
  rw [hc, hp2, if_neg (by
    rintro (h9 | h9)
    · exact h9 hend
    · exact h9 h)]
theorem gD_ {m : List UInt8} (h : (parseL m).2 = 0) : (parseL m).1.Right := by
  unfold parseL at h ⊢
  split
  · next hc => rw [if_pos hc] at h; cases h
  · next hc => exact Classical.byContradiction fun h9 => hc (.inr h9)
theorem jn_ (m : List UInt8) : (parseL m).2 = 0 ∨ (parseL m).2 = 2 := by
  unfold parseL
  split
  · exact .inr rfl
  · exact .inl rfl
structure KOrd {α κ : Type} (key : α → κ) (lt : κ → κ → Prop) (eq gt : κ → α → Bool) : Prop where
  irr : ∀ k, ¬ lt k k
  trans : ∀ {a b c}, lt a b → lt b c → lt a c
  tri : ∀ a b, lt a b ∨ a = b ∨ lt b a
  eq_ : ∀ k x, eq k x = true ↔ key x = k
  gt_ : ∀ k x, gt k x = true ↔ lt k (key x)
section
variable {α κ : Type} {key : α → κ} {lt : κ → κ → Prop} {eq gt : κ → α → Bool}
def Asc (key : α → κ) (lt : κ → κ → Prop) (l : List α) : Prop := (l.map key).Pairwise lt
theorem Asc.of_adj (h : KOrd key lt eq gt) {l : List α} (ha : ∀ j (hj : j < l.length), 0 < j → lt (key (l[j - 1]'(by omega))) (key l[j])) : Asc key lt l := by
  unfold Asc
  rw [List.pairwise_iff_getElem]
  intro i j hi hj hij
  simp only [List.length_map] at hi hj
  simp only [List.getElem_map]
  have aux : ∀ d (hd : i + d + 1 < l.length), lt (key (l[i]'hi)) (key (l[i + d + 1]'hd)) := by
    intro d
    induction d with
    | zero => intro hd; exact ha (i + 1) hd (by omega)
    | succ d ih => intro hd; exact h.trans (ih (by omega)) (ha (i + (d + 1) + 1) hd (by omega))
  have h2 := aux (j - i - 1) (by omega)
  simpa only [show i + (j - i - 1) + 1 = j by omega] using h2
theorem Asc.adj {l : List α} (h : Asc key lt l) : ∀ j (hj : j < l.length), 0 < j → lt (key (l[j - 1]'(by omega))) (key l[j]) := fun j hj h0 => by
  unfold Asc at h
  rw [List.pairwise_iff_getElem] at h
  have := h (j - 1) j (by rw [List.length_map]; omega) (by rw [List.length_map]; omega) (by omega)
  simpa only [List.getElem_map] using this
theorem asc_cons {x : α} {l : List α} : Asc key lt (x :: l) ↔ (∀ y ∈ l, lt (key x) (key y)) ∧ Asc key lt l := by
  unfold Asc
  rw [List.map_cons, List.pairwise_cons]
  simp
end
theorem LtsR.mk' {ls : List Ltr} (h : ∀ x ∈ ls, LtR x) (ha : Asc (fun x : Ltr => x.name) ltB ls) : LtsR ls := ⟨fun j hj => h _ (List.getElem_mem hj), ha.adj⟩
theorem OcsR.mk' {os : List Oc} (h : ∀ x ∈ os, OcR x) (ha : Asc (fun o : Oc => o.client) (fun a b : Int => a < b) os) : OcsR os := ⟨fun j hj => h _ (List.getElem_mem hj), ha.adj⟩
theorem asc_few {os : List Oc} : ∀ {lo_ up : Int}, Asc (fun o : Oc => o.client) (fun a b : Int => a < b) os → (∀ o ∈ os, lo_ ≤ o.client ∧ o.client < up) → (os.length : Int) ≤ max (up - lo_) 0 := by
  induction os with
  | nil => intro lo_ up _ _; simp; omega
  | cons o os ih =>
    intro lo_ up ha hb
    obtain ⟨h1, h2⟩ := asc_cons.1 ha
    have h3 := hb o List.mem_cons_self
    have h4 := ih (lo_ := o.client + 1) (up := up) h2 fun p hp => by
      have h5 := h1 p hp
      have h6 := hb p (List.mem_cons_of_mem _ hp)
      omega
    rw [List.length_cons]
    omega
section
variable {l : Lg} {x : Ltr} {e : Ent} {c : Core} {n : Int} {op a b : Int} {t : ByteArray}
theorem check_ok (h : c.check n = 0) : (1 ≤ n ∧ n ≤ 7) ∧ (n ≤ c.client ∧ c.client < n + 4) ∧ (1 ≤ c.stamp ∧ c.stamp ≤ 1099511627776) ∧ (1 ≤ c.op ∧ c.op ≤ 9) ∧ nameB c.letter = true ∧ c.text.size ≤ 200 := by
  unfold Core.check at h
  split at h
  · cases h
  · split at h
    · cases h
    · split at h
      · cases h
      · split at h
        · cases h
        · next h4 =>
          split at h
          · cases h
          · exact ⟨by omega, by omega, by omega, by omega, by simpa using h4, by omega⟩
def paidF (x : Ltr) : Int := if x.state = 5 then x.amount else 0
def paidL (ls : List Ltr) : Int := (ls.map paidF).sum
structure Lg.Keep (l : Lg) : Prop where
  each : ∀ x ∈ l.ls, LtR x
  asc : Asc (fun x : Ltr => x.name) ltB l.ls
  few : l.ls.length ≤ 16
  os : ∀ o ∈ l.os, OcR o ∧ 4 ≤ o.client ∧ o.client < 8
  oasc : Asc (fun o : Oc => o.client) (fun a b : Int => a < b) l.os
  total : isAmt l.total = true
  paid : l.total = paidL l.ls
theorem Lg.zero_keep : Lg.zero.Keep := ⟨fun x hx => (by cases hx), by simp [Lg.zero, Asc], Nat.zero_le _, fun x hx => (by cases hx), by simp [Lg.zero, Asc], by decide, rfl⟩
theorem Lg.Keep.right (h : l.Keep) {s : Int} (hs : 0 ≤ s ∧ s ≤ 1048576) : ({ l with seq := s } : Lg).Right := by
  have hf := asc_few (lo_ := 4) (up := 8) h.oasc fun o ho => (h.os o ho).2
  exact ⟨OcsR.mk' (fun o ho => (h.os o ho).1) h.oasc, hs, h.total, by show l.os.length ≤ 4; omega, LtsR.mk' h.each h.asc, h.few⟩
/-! ### In any order -/
end
section
variable {α : Type} {p eq gt : α → Bool} {x y : α} {th : Bool}
def gStep (p : α → Bool) (th : Bool) (x : α) (s : List α × Bool) (y : α) : List α × Bool :=
  if (!s.2 && p y) = true then (if th = true then s.1 ++ [x] else s.1 ++ [x] ++ [y], true) else (s.1 ++ [y], s.2)
def gFin (x : α) (s : List α × Bool) : List α := if s.2 = true then s.1 else s.1 ++ [x]
theorem dL_ : ∀ (l acc : List α), l.foldl (gStep p th x) (acc, true) = (acc ++ l, true)
  | [], acc => by simp
  | y :: l, acc => by
    rw [List.foldl_cons, show gStep p th x (acc, true) y = (acc ++ [y], true) by simp [gStep], dL_ l]
    simp
theorem gfold : ∀ (l acc : List α), gFin x (l.foldl (gStep p th x) (acc, false)) = acc ++ putG p th x l
  | [], acc => by simp [gFin, putG]
  | y :: l, acc => by
    rw [List.foldl_cons]
    by_cases h : p y = true
    · cases th with
      | true =>
        rw [show gStep p true x (acc, false) y = (acc ++ [x], true) by simp [gStep, h], dL_]
        simp [gFin, putG, h]
      | false =>
        rw [show gStep p false x (acc, false) y = (acc ++ [x] ++ [y], true) by simp [gStep, h], dL_]
        simp [gFin, putG, h]
    · rw [show gStep p th x (acc, false) y = (acc ++ [y], false) by simp [gStep, h], gfold l]
      simp [putG, h]
def pickP (th : Bool) (eq gt : α → Bool) (y : α) : Bool := (th && eq y) || (!th && gt y)
theorem ka_ (l : List α) : putG (pickP th eq gt) th x l = if th = true then putG eq true x l else putG gt false x l := by
  cases th with
  | true => rw [if_pos rfl]; exact congrArg (fun q => putG q true x l) (funext fun y => by simp [pickP])
  | false => rw [if_neg (by decide)]; exact congrArg (fun q => putG q false x l) (funext fun y => by simp [pickP])
def gAt (eq gt : α → Bool) (th : Bool) (x : α) (l : List α) (z : Nat) : List α × Bool := (l.take z).foldl (gStep (pickP th eq gt) th x) ([], false)
theorem ec_ {l : List α} {z : Nat} (h : z < l.length) : gAt eq gt th x l (z + 1) = gStep (pickP th eq gt) th x (gAt eq gt th x l z) l[z] := by
  unfold gAt
  rw [List.take_succ_eq_append_getElem h, List.foldl_append]
  rfl
theorem f6_ {l : List α} {z : Nat} (h : l.length ≤ z) : gFin x (gAt eq gt (l.any eq) x l z) = withG eq gt x l := by
  unfold gAt
  rw [List.take_of_length_le h, gfold, List.nil_append, ka_]
  rfl
theorem kH_ (s : List α × Bool) : (gStep p th x s y).1.length ≤ s.1.length + 2 := by
  unfold gStep
  split
  · split <;> simp
  · simp
theorem f5_ {l : List α} (z : Nat) : (gAt eq gt th x l z).1.length ≤ 2 * l.length := by
  have aux : ∀ (l : List α) (s : List α × Bool), (l.foldl (gStep (pickP th eq gt) th x) s).1.length ≤ s.1.length + 2 * l.length := by
    intro l
    induction l with
    | nil => intro s; simp
    | cons y l ih =>
      intro s
      have h1 := ih (gStep (pickP th eq gt) th x s y)
      have h2 := kH_ (p := pickP th eq gt) (th := th) (x := x) (y := y) s
      rw [List.foldl_cons, List.length_cons]
      omega
  have h1 := aux (l.take z) ([], false)
  have h2 : (l.take z).length ≤ l.length := by rw [List.length_take]; exact Nat.min_le_right _ _
  unfold gAt
  simp only [List.length_nil] at h1
  omega
theorem eS_ {l : List α} : (l.find? p).isSome = l.any p := by
  rw [Bool.eq_iff_iff, List.find?_isSome, List.any_eq_true]
end
section
variable {l : Lg} {x : Ltr} {e : Ent} {c : Core} {n : Int}
def Lg.at_ (l : Lg) (s : Int) : Lg := { l with seq := s }
theorem res_a (h : l.known e.core ≠ 0) : l.res e n = (l, l.known e.core) := by
  unfold Lg.res
  rw [if_pos h]
theorem res_b (h : ¬ l.known e.core ≠ 0) (h2 : endorsedF (l.old e.core.letter) e n ≠ 0) : l.res e n = (l, endorsedF (l.old e.core.letter) e n) := by
  unfold Lg.res
  rw [if_neg h, if_pos h2]
theorem j5_ (h : ¬ l.known e.core ≠ 0) (h2 : ¬ endorsedF (l.old e.core.letter) e n ≠ 0) : l.res e n = l.stepped (l.old e.core.letter) e.core := by
  unfold Lg.res
  rw [if_neg h, if_neg h2]
def ldgAt (n : Int) (l : Lg) (h : List (List Ent)) : Lg := h.foldl (fun l b => (l.foldF b n).1) l
end
structure Ev where
  seq : Int
  client : Int
  stamp : Int
  op : Int
  result : Int
  state : Int
structure EvIns (e : Ev) : Prop where
  seq : i64ok e.seq
  client : i64ok e.client
  stamp : i64ok e.stamp
  op : i64ok e.op
  result : i64ok e.result
  state : i64ok e.state
structure FewH (h : List (List Ent)) : Prop where
  en : ∀ j (hj : j < h.length), (∀ i (hi : i < h[j].length), h[j][i].core.letter.size ≤ 30 ∧ h[j][i].core.text.size ≤ 210) ∧ h[j].length ≤ 10
  len : h.length ≤ 40
noncomputable instance (h : List (List Ent)) : Decidable (FewH h) := Classical.propDecidable _
theorem FewH.row {h : List (List Ent)} (hf : FewH h) {b : List Ent} (hb : b ∈ h) : b.length ≤ 10 := by
  obtain ⟨j, hj, rfl⟩ := List.getElem_of_mem hb
  exact (hf.en j hj).2
def factsPc (l : List (Value × Abs)) : Pc where
  ids := []
  p := fun K w => ∀ x ∈ l, rep K w x.2 x.1
  carry := fun _ _ _ _ hc _ h x hx => b4_ hc _ _ (h x hx)
  lt := fun _ _ _ k hk => by cases hk
abbrev facts (l : List (Value × Abs)) : It := .pc (factsPc l)
/-! ### Maps whose values are trees: the map's own values, and what they are -/
section
variable {σ σ1 : Blks} {ι : Type} {τ' : ι → Blks} {K : Blks → ι → Prop}
theorem After.sub (φ : Blks) (hσ : σ.Perm (σ1 ++ φ)) (hr : ∀ x ∈ σ1, x.rids = []) (hk : ∀ z, ∃ ν : Blks, ν.Perm (τ' z ++ φ) ∧ K ν z) : After σ σ1 τ' K :=
  ⟨φ, ⟨by rw [← ak_]; exact cv_ hσ.symm, fun x hx => .inl ⟨hσ.mem_iff.2 (List.mem_append_left _ hx), hr x hx⟩, fun x hx => hσ.mem_iff.2 (List.mem_append_right _ hx)⟩, hk⟩
end
abbrev entsA (es : List Ent) : Abs := flat 8 Ent.cells es
theorem ent8 (e : Ent) : e.cells.length = 8 := rfl
section
variable {K : List Nat} {w : World} {v u : Value} {es fs : List Ent} {n : Int} {l : List UInt8} {p : Nat} {s : Rd}
theorem bcheck_s (hl : es.length ≤ 1000000) : Pure Tryz.prog 26 [entsA es, int n] (int (chkB es n)) := Pure.of2 fun K w vals hK hv => by
  obtain ⟨v, us', rfl, h1, h2⟩ := hv
  have h2 := (aD_ (us := [.int .i64 n])).1 h2
  subst h2
  refine (hc_ ((enter2 w K).add (z := entsD v es) (row2 ((cI_ ent8).1 h1))) (by simp) hl).mono fun e w' ⟨he, hm⟩ => ⟨_, he, leave2 hm (by simp), rfl⟩
theorem j8_ (hl : es.length ≤ 1000000) (hs : ∀ e ∈ es, e.core.letter.size ≤ lots) : Pure Tryz.prog 41 [entsA es, int n] (int (chkB es n)) := Pure.of2 fun K w vals hK hv => by
  obtain ⟨v, us', rfl, h1, h2⟩ := hv
  have h2 := (aD_ (us := [.int .i64 n])).1 h2
  subst h2
  refine (fS_ ((enter2 w K).add (z := entsD v es) (row2 ((cI_ ent8).1 h1))) (by simp) hl hs).mono fun e w' ⟨he, hm⟩ => ⟨_, he, leave2 hm (by simp), rfl⟩
theorem rbsame_s (hl : es.length ≤ 1000000) (h1 : ∀ e ∈ es, e.Lits) (h2 : ∀ e ∈ fs, e.Lits) : Pure Tryz.prog 43 [entsA es, entsA fs] (boo (decide (es = fs))) := Pure.of2 fun K w vals hK hv => by
  obtain ⟨v, us', rfl, g1, u, us2, rfl, g2, g3⟩ := hv
  have g3 : us2 = [] := g3
  subst g3
  refine (rsame_c (((enter2 w K).add (z := entsD v es) (row2 ((cI_ ent8).1 g1))).add (z := entsD u fs) (row2 ((cI_ ent8).1 g2))) (by simp) (by simp) hl h1 h2).mono fun e w' ⟨he, hm⟩ => ⟨_, he, leave2 hm (by simp), rfl⟩
end
structure Dd where
  seq : Int
  batch : List Ent
  adopted : Bool
noncomputable instance : DecidableEq Dd := fun _ _ => Classical.propDecidable _
def Dd.abs (d : Dd) : List Abs := [int d.seq, entsR d.batch, boo d.adopted]
abbrev ddsA (l : List Dd) : Abs := .sl 3 (l.map Dd.abs)
structure DdIns (d : Dd) : Prop where
  seq : i64ok d.seq
  batch : ∀ e ∈ d.batch, EnIns e
theorem EnIns.lits {e : Ent} (h : EnIns e) : e.Lits := ⟨h.client, h.stamp, h.op, h.a, h.b, h.letter, h.text, h.mask⟩
theorem dw_ (l : List Dd) : ∀ c ∈ l.map Dd.abs, ones c = true := by
  intro c hc
  obtain ⟨o, _, rfl⟩ := List.mem_map.1 hc
  rfl
def rowOf (D : List Dd) (k : Int) : List Dd := D.filter fun d => !d.adopted && decide (d.seq = k)
theorem jW_ (D E : List Dd) (k : Int) : rowOf (D ++ E) k = rowOf D k ++ rowOf E k := List.filter_append ..
theorem jV_ (d : Dd) (k : Int) : rowOf [d] k = if d.adopted = false ∧ d.seq = k then [d] else [] := by
  unfold rowOf
  by_cases h : d.adopted = false ∧ d.seq = k
  · rw [if_pos h, List.filter_cons_of_pos (by simp [h.1, h.2])]; rfl
  · rw [if_neg h, List.filter_cons_of_neg (by simpa using h)]; rfl
theorem ev_ {D : List Dd} {k : Int} {d : Dd} : d ∈ rowOf D k ↔ d ∈ D ∧ d.adopted = false ∧ d.seq = k := by
  unfold rowOf
  rw [List.mem_filter]
  simp
structure Num (D : List Dd) (tm : List (Int × (Value × List Dd))) : Prop where
  nd : (tm.map (·.1)).Nodup
  get : ∀ k, ((aget tm k).map (·.2)).getD [] = rowOf D k
  ok : ∀ e ∈ tm, i64ok e.1
theorem Num.nil : Num [] [] := ⟨List.nodup_nil, fun _ => rfl, fun e he => by cases he⟩
theorem Num.skip {D : List Dd} {tm : List (Int × (Value × List Dd))} (h : Num D tm) {d : Dd} (hd : d.adopted = true) : Num (D ++ [d]) tm := ⟨h.nd, fun k => by
  rw [h.get, jW_, jV_, if_neg (fun h => by rw [hd] at h; cases h.1), List.append_nil], h.ok⟩
theorem Num.none {D : List Dd} {tm : List (Int × (Value × List Dd))} (h : Num D tm) {k : Int} (hk : ∀ e ∈ tm, e.1 ≠ k) : rowOf D k = [] := by
  rw [← h.get, (e1_ tm k).2 (fun hm => by
    obtain ⟨e, he, h1⟩ := List.mem_map.1 hm
    exact hk e he h1)]
  rfl
/-! ### Whether they agree -/
def sameD (a b : List Dd) : Prop := ∀ x ∈ a, ∀ y ∈ b, x.adopted = false → y.adopted = false → x.seq = y.seq → x.batch = y.batch
noncomputable instance (a b : List Dd) : Decidable (sameD a b) := Classical.propDecidable _
theorem sameD.symm {a b : List Dd} (h : sameD a b) : sameD b a := fun x hx y hy h1 h2 h3 => (h y hy x hx h2 h1 h3.symm).symm
def oneB (l : List Dd) : Prop := ∀ x ∈ l, ∀ y, l.head? = some y → x.batch = y.batch
noncomputable instance (l : List Dd) : Decidable (oneB l) := Classical.propDecidable _
def allSame (l : List (List Dd)) : Prop := ∀ a ∈ l, ∀ b ∈ l, sameD a b
noncomputable instance (l : List (List Dd)) : Decidable (allSame l) := Classical.propDecidable _
structure IsHist (D : List Dd) (H : List (List Ent)) : Prop where
  at_ : ∀ i (hi : i < H.length), ∃ d, (rowOf D ((i : Int) + 1)).head? = some d ∧ H[i] = d.batch
  end_ : rowOf D ((H.length : Int) + 1) = []
theorem IsHist.uniq {D : List Dd} {H1 H2 : List (List Ent)} (h1 : IsHist D H1) (h2 : IsHist D H2) : H1 = H2 := by
  have aux : ∀ {A B : List (List Ent)}, IsHist D A → IsHist D B → B.length ≤ A.length := by
    intro A B ha hb
    rcases Nat.lt_or_ge A.length B.length with h | h
    · obtain ⟨d, hd, _⟩ := hb.at_ A.length h
      rw [ha.end_] at hd
      cases hd
    · exact h
  refine List.ext_getElem (Nat.le_antisymm (aux h2 h1) (aux h1 h2)) fun i g1 g2 => ?_
  obtain ⟨d, hd, e1⟩ := h1.at_ i g1
  obtain ⟨d2, hd2, e2⟩ := h2.at_ i g2
  rw [hd] at hd2
  cases hd2
  rw [e1, e2]
def HistUp (D : List Dd) (H : List (List Ent)) : Prop := ∀ i (hi : i < H.length), ∃ d, (rowOf D ((i : Int) + 1)).head? = some d ∧ H[i] = d.batch
theorem HistUp.nil {D : List Dd} : HistUp D [] := fun i hi => by cases hi
theorem HistUp.more {D : List Dd} {H : List (List Ent)} (h : HistUp D H) {d : Dd} (hd : (rowOf D ((H.length : Int) + 1)).head? = some d) : HistUp D (H ++ [d.batch]) := fun i hi => by
  rw [List.length_append, List.length_singleton] at hi
  rcases Nat.lt_or_ge i H.length with h1 | h1
  · obtain ⟨e, he, h2⟩ := h i h1
    exact ⟨e, he, by rw [List.getElem_append_left h1]; exact h2⟩
  · obtain rfl : i = H.length := by omega
    exact ⟨d, hd, by simp⟩
theorem kz_ : ∀ (m : Nat) (D : List Dd), (∀ i, i < m → rowOf D ((i : Int) + 1) ≠ []) → m ≤ D.length
  | 0, _, _ => Nat.zero_le _
  | m + 1, D, h => by
    have h1 := kz_ m (D.filter fun d => !decide (d.seq = (m : Int) + 1)) fun i hi => by
      have h2 := h i (by omega)
      obtain ⟨x, hx⟩ := List.exists_mem_of_ne_nil _ h2
      obtain ⟨g1, g2, g3⟩ := ev_.1 hx
      intro h3
      have h4 : x ∈ rowOf (D.filter fun d => !decide (d.seq = (m : Int) + 1)) ((i : Int) + 1) := ev_.2 ⟨List.mem_filter.2 ⟨g1, by simp; omega⟩, g2, g3⟩
      rw [h3] at h4
      cases h4
    obtain ⟨x, hx⟩ := List.exists_mem_of_ne_nil _ (h m (by omega))
    obtain ⟨g1, g2, g3⟩ := ev_.1 hx
    have h5 : (D.filter fun d => !decide (d.seq = (m : Int) + 1)).length < D.length := List.length_filter_lt_length_iff_exists.2 ⟨x, g1, by simp [g3]⟩
    omega
theorem HistUp.le {D : List Dd} {H : List (List Ent)} (h : HistUp D H) : H.length ≤ D.length := kz_ _ D fun i hi h2 => by
  obtain ⟨d, hd, _⟩ := h i hi
  rw [h2] at hd
  cases hd
theorem kG_ (D : List Dd) : ∃ H, IsHist D H := by
  have aux : ∀ (f : Nat) (H : List (List Ent)), HistUp D H → D.length ≤ H.length + f → ∃ H, IsHist D H := by
    intro f
    induction f with
    | zero =>
      intro H h hl
      cases hh : (rowOf D ((H.length : Int) + 1)).head? with
      | none => exact ⟨H, h, List.head?_eq_none_iff.1 hh⟩
      | some d =>
        have := (h.more hh).le
        simp at this
        omega
    | succ f ih =>
      intro H h hl
      cases hh : (rowOf D ((H.length : Int) + 1)).head? with
      | none => exact ⟨H, h, List.head?_eq_none_iff.1 hh⟩
      | some d => exact ih _ (h.more hh) (by simp; omega)
  exact aux D.length [] HistUp.nil (by simp)
noncomputable def histF (D : List Dd) : List (List Ent) := (kG_ D).choose
theorem histF_is (D : List Dd) : IsHist D (histF D) := (kG_ D).choose_spec
theorem IsHist.eq {D : List Dd} {H : List (List Ent)} (h : IsHist D H) : H = histF D := h.uniq (histF_is D)
theorem HistUp.done {D : List Dd} {H : List (List Ent)} (h : HistUp D H) (he : rowOf D ((H.length : Int) + 1) = []) : H = histF D := IsHist.eq ⟨h, he⟩
def outF : List Ent → List Int → List Oc
  | e :: es, r :: rs => if r ≠ 10 then ⟨e.core.client, e.core.stamp, r⟩ :: outF es rs else outF es rs
  | _, _ => []
theorem gF_ {es : List Ent} {rs : List Int} {z : Nat} (h : z < es.length) (k : z < rs.length) : outF (es.drop z) (rs.drop z) = if rs[z] ≠ 10 then ⟨es[z].core.client, es[z].core.stamp, rs[z]⟩ :: outF (es.drop (z + 1)) (rs.drop (z + 1)) else outF (es.drop (z + 1)) (rs.drop (z + 1)) := by
  rw [List.drop_eq_getElem_cons h, List.drop_eq_getElem_cons k, outF]
theorem is_ {es : List Ent} {rs : List Int} {z : Nat} (h : rs.length ≤ z) : outF (es.drop z) (rs.drop z) = [] := by
  rw [List.drop_eq_nil_of_le h]
  cases es.drop z <;> rfl
theorem ir_ : ∀ {es : List Ent} {rs : List Int}, (∀ e ∈ es, EnIns e) → (∀ r ∈ rs, i64ok r) → ∀ o ∈ outF es rs, OcIns o
  | [], _, _, _, o, ho => by cases ho
  | _ :: _, [], _, _, o, ho => by cases ho
  | e :: es, r :: rs, h1, h2, o, ho => by
    have ih := ir_ (es := es) (rs := rs) (fun x hx => h1 x (List.mem_cons_of_mem _ hx)) (fun x hx => h2 x (List.mem_cons_of_mem _ hx))
    rw [outF] at ho
    split at ho
    · rcases List.mem_cons.1 ho with rfl | ho
      · exact ⟨(h1 e List.mem_cons_self).client, (h1 e List.mem_cons_self).stamp, h2 r List.mem_cons_self⟩
      · exact ih o ho
    · exact ih o ho
structure Ex where
  l : Lg
  ds : List Dd
def Ex.zero : Ex := ⟨Lg.zero, []⟩
def Ex.doX (x : Ex) (n seq : Int) (b : List Ent) : Ex := if (1048576 ≤ x.l.seq ∨ seq ≠ x.l.seq + 1) ∨ chkB b n ≠ 0 then x else ⟨(x.l.foldF b n).1, x.ds ++ [⟨seq, b, false⟩]⟩
def Ex.doE (x : Ex) (n seq : Int) (b : List Ent) : Int := if 1048576 ≤ x.l.seq ∨ seq ≠ x.l.seq + 1 then 14 else chkB b n
def Ex.doO (x : Ex) (n seq : Int) (b : List Ent) : List Oc := if (1048576 ≤ x.l.seq ∨ seq ≠ x.l.seq + 1) ∨ chkB b n ≠ 0 then [] else outF b (x.l.foldF b n).2
noncomputable def Ex.adE (x : Ex) (m : List UInt8) : Int := if (parseL m).2 ≠ 0 then (parseL m).2 else if (parseL m).1.seq ≤ x.l.seq then 14 else 0
noncomputable def Ex.adX (x : Ex) (m : List UInt8) : Ex := if (parseL m).2 ≠ 0 ∨ (parseL m).1.seq ≤ x.l.seq then x else ⟨(parseL m).1, x.ds ++ [⟨(parseL m).1.seq, [], true⟩]⟩
section
variable {x : Ex} {n seq : Int} {b : List Ent} {m : List UInt8}
theorem eV_ (h : 1048576 ≤ x.l.seq ∨ seq ≠ x.l.seq + 1) : x.doX n seq b = x ∧ x.doE n seq b = 14 ∧ x.doO n seq b = [] := ⟨if_pos (.inl h), if_pos h, if_pos (.inl h)⟩
theorem do_odd (h : ¬ (1048576 ≤ x.l.seq ∨ seq ≠ x.l.seq + 1)) (h2 : chkB b n ≠ 0) : x.doX n seq b = x ∧ x.doE n seq b = chkB b n ∧ x.doO n seq b = [] := ⟨if_pos (.inr h2), if_neg h, if_pos (.inr h2)⟩
theorem do_ok (h : ¬ (1048576 ≤ x.l.seq ∨ seq ≠ x.l.seq + 1)) (h2 : ¬ chkB b n ≠ 0) : x.doX n seq b = ⟨(x.l.foldF b n).1, x.ds ++ [⟨seq, b, false⟩]⟩ ∧ x.doE n seq b = 0 ∧ x.doO n seq b = outF b (x.l.foldF b n).2 := by
  have h3 : ¬ ((1048576 ≤ x.l.seq ∨ seq ≠ x.l.seq + 1) ∨ chkB b n ≠ 0) := by rintro (h4 | h4); exact h h4; exact h2 h4
  exact ⟨if_neg h3, (if_neg h).trans (Classical.not_not.1 h2), if_neg h3⟩
theorem la_ (h : (parseL m).2 ≠ 0) : x.adX m = x ∧ x.adE m = (parseL m).2 := ⟨if_pos (.inl h), if_pos h⟩
theorem h0_ (h : ¬ (parseL m).2 ≠ 0) (h2 : (parseL m).1.seq ≤ x.l.seq) : x.adX m = x ∧ x.adE m = 14 := ⟨if_pos (.inr h2), (if_neg h).trans (if_pos h2)⟩
theorem jF_ (h : ¬ (parseL m).2 ≠ 0) (h2 : ¬ (parseL m).1.seq ≤ x.l.seq) : x.adX m = ⟨(parseL m).1, x.ds ++ [⟨(parseL m).1.seq, [], true⟩]⟩ ∧ x.adE m = 0 := ⟨if_neg (by rintro (h3 | h3); exact h h3; exact h2 h3), (if_neg h).trans (if_neg h2)⟩
theorem Lg.Right.ins {l : Lg} (h : l.Right) : l.Ins := by
  have hs := h.seq
  refine ⟨by unfold i64ok; omega, bZ_ h.total, fun y hy => ?_, fun o ho => ?_⟩
  · have hy := h.ls.all y hy
    have h1 := hy.state
    have h2 := hy.amount
    have h3 := hy.policy
    have h4 := hy.papers
    have h5 : y.name.size ≤ 16 := by
      have := hy.name
      unfold nameB at this
      simp only [Bool.and_eq_true, decide_eq_true_eq] at this
      omega
    exact ⟨⟨by show _ ∧ _; omega, by show _ ∧ _; omega, bZ_ hy.due⟩, by unfold maxLen; omega, by unfold maxLen; omega, by unfold maxLen; omega⟩
  · have ho := h.os.all o ho
    have h1 := ho.client
    have h2 := ho.stamp
    have h3 := ho.result
    exact ⟨by unfold i64ok; omega, by unfold i64ok; omega, by unfold i64ok; omega⟩
structure Ex.Ok (x : Ex) (k : Nat) : Prop where
  ins : x.l.Ins
  seq : 0 ≤ x.l.seq ∧ x.l.seq ≤ 1048576
  ls : x.l.ls.length ≤ 16 + 10 * k
  os : x.l.os.length ≤ 4 + 10 * k
  few : x.ds.length ≤ k
  ds : ∀ d ∈ x.ds, DdIns d ∧ d.batch.length ≤ 10 ∧ ∀ e ∈ d.batch, e.core.letter.size ≤ lots
theorem Ex.zero_ok : Ex.zero.Ok 0 := ⟨Lg.zero_ins, by show (0 : Int) ≤ 0 ∧ (0 : Int) ≤ _; omega, by show 0 ≤ _; omega, by show 0 ≤ _; omega, Nat.le_refl _, fun d hd => by cases hd⟩
theorem Ex.Ok.up {k : Nat} (h : x.Ok k) : x.Ok (k + 1) := ⟨h.ins, h.seq, by have := h.ls; omega, by have := h.os; omega, by have := h.few; omega, h.ds⟩
theorem fold_seq (l : Lg) : (l.foldF b n).1.seq = l.seq + 1 := congrArg (· + 1) (dt_ n l b)
theorem fold_ins {l : Lg} (h : l.Ins) (hs : i64ok (l.seq + 1)) (he : ∀ e ∈ b, EnIns e) : (l.foldF b n).1.Ins := by
  have h1 := iF_ n h he
  exact ⟨by show i64ok ((Lg.goes n l b).1.seq + 1); rw [dt_]; exact hs, h1.total, h1.ls, h1.os⟩
theorem Ex.Ok.do_ {k : Nat} (h : x.Ok k) (he : ∀ e ∈ b, EnIns e) (hs : ∀ e ∈ b, e.core.letter.size ≤ lots) (hb : b.length ≤ 10) : (x.doX n seq b).Ok (k + 1) := by
  unfold Ex.doX
  split
  · exact h.up
  · next hc =>
    have h0 := h.seq
    have h1 := ea_ n x.l b
    have h2 := h.ls
    have h3 := h.os
    have h4 : seq = x.l.seq + 1 := Classical.byContradiction fun h9 => hc (.inl (.inr h9))
    have h5 : ¬ 1048576 ≤ x.l.seq := fun h9 => hc (.inl (.inl h9))
    refine ⟨fold_ins h.ins (by unfold i64ok; omega) he, ?_, ?_, ?_, ?_, fun d hd => ?_⟩
    · show 0 ≤ (x.l.foldF b n).1.seq ∧ (x.l.foldF b n).1.seq ≤ _
      rw [fold_seq]
      omega
    · show (Lg.goes n x.l b).1.ls.length ≤ _
      omega
    · show (Lg.goes n x.l b).1.os.length ≤ _
      omega
    · have := h.few
      simp only [List.length_append, List.length_singleton]
      omega
    · rcases List.mem_append.1 hd with hd | hd
      · exact h.ds d hd
      · rw [List.mem_singleton.1 hd]
        exact ⟨⟨by show i64ok seq; unfold i64ok; omega, he⟩, hb, hs⟩
theorem Ex.Ok.ad {k : Nat} (h : x.Ok k) : (x.adX m).Ok (k + 1) := by
  unfold Ex.adX
  split
  · exact h.up
  · next hc =>
    have hr : (parseL m).1.Right := gD_ (Classical.byContradiction fun h9 => hc (.inl h9))
    have h1 := hr.seq
    have h2 := hr.lsFew
    have h3 := hr.few
    refine ⟨hr.ins, h1, by dsimp only; omega, by dsimp only; omega, ?_, fun d hd => ?_⟩
    · have := h.few
      simp only [List.length_append, List.length_singleton]
      omega
    · rcases List.mem_append.1 hd with hd | hd
      · exact h.ds d hd
      · rw [List.mem_singleton.1 hd]
        exact ⟨⟨by show i64ok (parseL m).1.seq; unfold i64ok; omega, fun e he => by cases he⟩, Nat.zero_le _, fun e he => by cases he⟩
noncomputable def Lg.bytesR (l : Lg) : List UInt8 := if l.Right then l.bytes else []
end
structure XAct where
  kind : Nat
  more : Int
  batch : List Ent
  l : Lg
  raw : List UInt8
def XAct.abs (a : XAct) : List Abs := [.v (.int .u8 (a.kind : Nat)), int a.more, entsR a.batch, int a.l.seq, int a.l.total, ltrsA a.l.ls, outA a.l.os, byt a.raw]
structure XAct.Ins (a : XAct) : Prop where
  kind : a.kind < 256
  more : i64ok a.more
  batch : ∀ e ∈ a.batch, EnIns e
  l : a.l.Ins
abbrev actsX (l : List XAct) : Abs := .sl 8 (l.map XAct.abs)
structure FewX (b : List Ent) : Prop where
  en : ∀ i (h : i < b.length), b[i].core.letter.size ≤ 100 ∧ b[i].core.text.size ≤ 300
  len : b.length ≤ 10
noncomputable instance (b : List Ent) : Decidable (FewX b) := Classical.propDecidable _
theorem FewX.szs {b : List Ent} (h : FewX b) : ∀ e ∈ b, e.core.letter.size ≤ lots := by
  intro e he
  obtain ⟨i, hi2, rfl⟩ := List.getElem_of_mem he
  have := (h.en i hi2).1
  unfold lots
  omega
/-! ### A ledger that may be stays one -/
theorem dx_ {l : Lg} (h : l.Right) : l.bytesR = l.bytes := if_pos h
def tailStep (acc : List Dd) (d : Dd) : List Dd := if d.adopted = true then [] else acc ++ [d]
def tailD (ds : List Dd) : List Dd := ds.foldl tailStep []
abbrev batT (ds : List Dd) : List (List Ent) := (tailD ds).map (·.batch)
structure Since (x : Ex) (s : Lg) : Prop where
  l : x.l = ldgAt 4 s (batT x.ds)
  num : ∀ j (h : j < (tailD x.ds).length), (tailD x.ds)[j].seq = s.seq + 1 + (j : Nat)
  seq : x.l.seq = s.seq + ((tailD x.ds).length : Nat)
theorem Since.zero : Since Ex.zero Lg.zero := ⟨rfl, fun j h => (by cases h), rfl⟩
end Go.Proofs.YtickdhjljpnlpaaGreatDoor.A
namespace Go.Proofs.YtickdhjljpnlpaaGreatDoor.A
open Go.RowKit Go.ChangeShapes Go.WideShapes Go.ChangeAt
section
variable {H : Type} {enc : TypeId × Value → H} {w : World} {base : Nat} {spare : Nat → Bool} {held : Bool}
theorem hC_ {v : Value} (h : LeafAt enc Tryz.prog w base spare held 31 v) : ∃ m : List UInt8, rep [] w (byt m) v := by
  obtain ⟨m, h1, _⟩ := dm_ (abs := fun b : UInt8 => [Abs.v (bc b)]) (Ok := fun _ => True) (s := 1) Tryz.underlying31 (by kernel_rfl) h fun cs hl h => by
    rw [show Tryz.prog.cellsOf 5 = 1 by kernel_rfl] at hl
    match cs, hl with
    | [v0], _ =>
      obtain ⟨m, y, hy⟩ := h
      obtain ⟨c, hc, _⟩ := kj_ [v0] (by rw [show Tryz.prog.cellsOf 5 = 1 by kernel_rfl]; rfl) ⟨m, y, hy⟩
      simp at hc
      exact ⟨c, ⟨v0, [], rfl, hc, rfl⟩, trivial⟩
  exact ⟨m, h1⟩
theorem jG_ : leaves Tryz.prog 6 33 = some [5, 2, 26, 2, 2, 27, 28, 31] := by kernel_rfl
theorem kk_ (cs : List Value) (hl : cs.length = Tryz.prog.cellsOf 33) (h : ∃ m y, DataW.trod enc Tryz.prog w base spare held m 33 cs = some y) : ∃ a : XAct, reps [] w a.abs cs ∧ a.Ins := by
  obtain ⟨fuel, x, h⟩ := h
  rw [show Tryz.prog.cellsOf 33 = 8 by kernel_rfl] at hl
  have hh := bQ_ 6 _ _ _ _ _ jG_ (by simpa using hl.symm) h
  match cs, hl with
  | [v0, v1, v2, v3, v4, v5, v6, v7], _ =>
    obtain ⟨n0, rfl, b0⟩ := (hh 0 v0 _ rfl rfl).int Tryz.underlying5
    obtain ⟨n1, rfl, b1⟩ := (hh 1 v1 _ rfl rfl).int Tryz.underlying2
    obtain ⟨es, h2, i2⟩ := ki_ (hh 2 v2 _ rfl rfl)
    obtain ⟨n3, rfl, b3⟩ := (hh 3 v3 _ rfl rfl).int Tryz.underlying2
    obtain ⟨n4, rfl, b4⟩ := (hh 4 v4 _ rfl rfl).int Tryz.underlying2
    obtain ⟨ls, h5, i5⟩ := dm_ (abs := ltrA) (Ok := LtIns) (s := 6) Tryz.underlying27 (by kernel_rfl) (hh 5 v5 _ rfl rfl) open_ltr
    obtain ⟨os, h6, i6⟩ := dm_ (abs := Oc.abs) (Ok := OcIns) (s := 3) Tryz.underlying28 (by kernel_rfl) (hh 6 v6 _ rfl rfl) open_ocO
    obtain ⟨m, h7⟩ := hC_ (hh 7 v7 _ rfl rfl)
    simp only [Lit.wf, Bool.and_eq_true, decide_eq_true_eq] at b0
    have c0 : (0 : Int) ≤ n0 := b0.1
    have c1 : n0 ≤ (255 : Int) := b0.2
    obtain ⟨k, rfl⟩ : ∃ k : Nat, n0 = k := ⟨n0.toNat, by omega⟩
    exact ⟨⟨k, n1, es, ⟨n3, n4, ls, os⟩, m⟩, ⟨_, _, rfl, rfl, _, _, rfl, rfl, _, _, rfl, h2, _, _, rfl, rfl, _, _, rfl, rfl, _, _, rfl, h5, _, _, rfl, h6, _, _, rfl, h7, rfl⟩, ⟨by show k < 256; omega, wfOk b1, i2, ⟨wfOk b3, wfOk b4, i5, i6⟩⟩⟩
theorem open_actsX {v : Value} (h : LeafAt enc Tryz.prog w base spare held 22 v) : ∃ l : List XAct, rep [] w (actsX l) v ∧ ∀ a ∈ l, a.Ins :=
  dm_ (abs := XAct.abs) (Ok := XAct.Ins) (s := 8) Tryz.underlying22 (by kernel_rfl) h kk_
end
section
variable {G : List Nat} {w : World}
theorem k5_ (hU : Other .u8 G w) {m : List UInt8} {v : Value} (h : rep [] w (byt m) v) : rep G w (byt m) v :=
  bw_.2 ((bw_.1 h).into hU fun hn => by
    cases m with
    | nil => exact absurd rfl hn
    | cons b m => exact ⟨_, rfl⟩)
theorem hi_ (hG : Other .i64 G w) (hU : Other .u8 G w) : ∀ {l : List XAct} {us : List Value}, repss [] w 8 (l.map XAct.abs) us → repss G w 8 (l.map XAct.abs) us ∧ (us ≠ [] → ∃ i, us[1]? = some (.int .i64 i))
  | [], us, h => by
    have h : us = [] := h
    subst h
    exact ⟨rfl, fun hn => absurd rfl hn⟩
  | a :: l, us, h => by
    obtain ⟨u1, u2, rfl, hl, ⟨x0, _, rfl, h0, x1, _, rfl, h1, x2, _, rfl, h2, x3, _, rfl, h3, x4, _, rfl, h4, x5, _, rfl, h5, x6, _, rfl, h6, x7, _, rfl, h7, h8⟩, hr⟩ := h
    have h1' : x1 = .int .i64 a.more := h1
    refine ⟨⟨_, u2, rfl, hl, ⟨x0, _, rfl, h0, x1, _, rfl, h1, x2, _, rfl, ens_keep hG h2, x3, _, rfl, h3, x4, _, rfl, h4, x5, _, rfl, eQ_ (c := fun x : Ltr => x.cells.toList) (s := 6) (j := 1) (fun _ => rfl) (fun x => ⟨x.state, rfl⟩) hG h5, x6, _, rfl, eQ_ (c := ocCells) (s := 3) (j := 0) (fun _ => rfl) (fun o => ⟨o.client, rfl⟩) hG h6, x7, _, rfl, k5_ hU h7, h8⟩, (hi_ hG hU hr).1⟩, fun _ => ?_⟩
    exact ⟨a.more, by rw [h1']; rfl⟩
theorem actsX_keep (hG : Other .i64 G w) (hU : Other .u8 G w) {l : List XAct} {v : Value} (h : rep [] w (actsX l) v) : rep G w (actsX l) v := by
  obtain ⟨us, h1, h2⟩ := h
  obtain ⟨h3, h4⟩ := hi_ hG hU h2
  exact ⟨us, h1.intoJ (j := 1) hG h4, h3⟩
end
end Go.Proofs.YtickdhjljpnlpaaGreatDoor.A
