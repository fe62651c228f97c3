/-
  Packed out of the texts: C2, C3, C4, Chg1, Chg3, C5, C6, C7.
-/
import Derived.Test.YtggajaigfkekhaaGreatQ05
set_option maxRecDepth 100000
set_option linter.unusedSimpArgs false
set_option linter.unusedVariables false
namespace Go.Proofs.YtggajaigfkekhaaGreat.A
open Go.RowKit
def Rises {α : Type} (p : α → α → Bool) (xs : List α) : Prop := ∀ j (h : j + 1 < xs.length), p xs[j] xs[j + 1] = true
structure Prf where
  seq : Int
  view : Int
  batch : List Ent
def Prf.abs (p : Prf) : List Abs := [int p.seq, int p.view, entsA p.batch]
abbrev prfsA (ps : List Prf) : Abs := .sl 3 (ps.map Prf.abs)
structure Chg where
  view : Int
  low : Int
  points : List Pnt
  prepared : List Prf
  proposed : List Prf
def Chg.abs (c : Chg) : List Abs := [int c.view, int c.low, pntsA c.points, prfsA c.prepared, prfsA c.proposed]
theorem gj_ {xs : List Prf} {p : Prf → Bool} {k : Nat} {caps : List Abs} {σ : Blks} (hb : goesIn Tryz.prog k = true) (hr : Rds σ) (hn : xs.length < 9223372036854775807) (h : ∀ x ∈ xs, Spec Tryz.prog k (.agg (Prf.abs x) :: caps) σ (fun _ : Unit => []) (fun _ => boo (p x))) : Spec Tryz.prog 132 [.sl 3 (xs.map Prf.abs), .fn (.func k) [] caps] σ (fun _ : {r : Int // 0 ≤ r ↔ ∃ x ∈ xs, p x = true} => []) (fun z => int z.1) := by
 refine G_ Tryz.func132 rfl Tryz.ntmps132 rfl fun G w =>d_<|a_<|q_ 1 rfl<|g_<|c_<|d_<|d_<|a_<|q_ 1 rfl<|b_ (z_ rfl Tryz.underlying24 (List.length_map _)) rfl rfl<|q_ 1 rfl<|g_<|c_<|t_<|S_ (ι := Nat) (fun z => σ) (fun z => [(0, .sl 3 (xs.map Prf.abs)), (1, .fn (.func k) [] caps), (7, int (xs.length : Nat)), (8, int (z : Nat))]) (fun z => z ≤ xs.length ∧ ∀ j (hj : j < xs.length), j < z → p xs[j] = false) (fun z => xs.length - z) (0) (⟨Nat.zero_le _, by omega⟩) (by exact ⟨rfl, rfl, rfl, rfl, trivial⟩) sr_ ?_
 intro z hz
 refine d_<|a_<|q_ 1 rfl<|g_<|c_<|d_<|r_ rfl ?_ ?_
 rotate_left
 ·intro hc9
  refine Q_<|i_ nofun<|i_ nofun<|P_<|c_<|d_<|a_<|q_ 1 rfl<|g_<|c_<|n_<|f_ (rs := [.tmp 4]) rfl (RV.tmp rfl RV.nil) (⟨-1, ⟨fun h => (by omega), fun ⟨x, hx, hp⟩ => by obtain ⟨j, hj, rfl⟩ := List.getElem_of_mem hx; have := hz.2 j hj (by omega); rw [this] at hp; cases hp⟩⟩) sn_ ?_
  exact rfl
 intro hc9
 have hlt : z < xs.length := by omega
 refine p_<|c_<|d_<|t_<|d_<|a_<|q_ 2 rfl<|g_<|c_<|d_<|a_<|q_ 3 rfl<|b_ (D_ tabOk Tryz.underlying24 rfl rfl rfl rfl (aa_ (by omega)) rfl rfl) rfl rfl ?_
 refine b_ (K_ tabOk rfl rfl rfl rfl) rfl rfl<|b5_ (h _ (List.getElem_mem hlt)) rfl Casts.refl hb rfl rfl rfl<|bp_ (Rds.reads hr (fun x hx => by repeat (first | exact hx | apply List.mem_cons_of_mem))) (fun _ => rfl) ?_
 intro _
 refine g_<|c_<|ac_ rfl ?_ ?_
 rotate_left
 ·intro hc16
  refine p_<|o_<|c_<|a_<|b_ (s_ rfl rfl (by simp only [InR, lo, hi]; omega)) rfl rfl ?_
  refine q_ 1 rfl<|g_<|x_ (z + 1) (by omega) (⟨by omega, fun j hj hjz => by rcases Nat.lt_or_ge j z with h1 | h1; exact hz.2 j hj h1; obtain rfl : j = z := (by omega); exact hc16⟩) (by exact ⟨rfl, rfl, rfl, rfl, trivial⟩) sr_
 intro hc16
 refine d_<|a_<|q_ 2 rfl<|g_<|c_<|n_<|E_<|i_ nofun<|i_ nofun<|E_<|i_ nofun<|f_ (rs := [.tmp 4]) rfl (RV.tmp rfl RV.nil) (⟨(z : Nat), ⟨fun _ => ⟨_, List.getElem_mem hlt, hc16⟩, fun _ => (by omega)⟩⟩) sn_ ?_
 exact rfl
theorem a8_ {xs : List Prf} {p : Prf → Bool} {k : Nat} {caps : List Abs} {σ : Blks} (hb : goesIn Tryz.prog k = true) (hr : Rds σ) (hn : xs.length < 9223372036854775807) (h : ∀ x ∈ xs, Spec Tryz.prog k (.agg (Prf.abs x) :: caps) σ (fun _ : Unit => []) (fun _ => boo (p x))) : Spec Tryz.prog 104 [.sl 3 (xs.map Prf.abs), .fn (.func k) [] caps] σ (fun _ : Unit => []) (fun _ => boo (xs.any p)) := by
 refine G_ Tryz.func104 rfl Tryz.ntmps104 rfl fun G w =>d_<|a_<|q_ 1 rfl<|g_<|c_<|d_<|a_<|q_ 2 rfl<|u_ (gj_ hb hr hn h) Casts.refl (by kernel_rfl) rfl rfl rfl ?_
 refine bp_ (Rds.reads hr (fun x hx => by repeat (first | exact hx | apply List.mem_cons_of_mem))) (fun _ => rfl) ?_
 intro r
 refine q_ 2 rfl<|g_<|c_<|n_<|f_ (rs := [.tmp 4]) rfl (RV.tmp rfl RV.nil) (()) sn_<|congrArg (fun b => Abs.v (Value.bool b)) ?_
 rw [Bool.eq_iff_iff, decide_eq_true_iff, r.2, List.any_eq_true]
theorem fE_ {xs : List Prf} {p : Prf → Prf → Bool} {k : Nat} (hb : goesIn Tryz.prog k = true) (hn : xs.length < 9223372036854775807) (h : ∀ x ∈ xs, ∀ y ∈ xs, Pure Tryz.prog k [.agg (Prf.abs x), .agg (Prf.abs y)] (boo (p x y))) : Spec Tryz.prog 103 [.sl 3 (xs.map Prf.abs), .fn (.func k) [] []] [] (fun _ : {b : Bool // b = true ↔ Rises p xs} => []) (fun z => boo z.1) := by
 refine G_ Tryz.func103 rfl Tryz.ntmps103 rfl fun G w =>d_<|a_<|q_ 1 rfl<|g_<|c_<|d_<|d_<|a_<|q_ 1 rfl<|g_<|c_<|t_<|S_ (ι := Nat) (fun z => []) (fun z => [(0, .sl 3 (xs.map Prf.abs)), (1, .fn (.func k) [] []), (5, int (z : Nat))]) (fun z => 1 ≤ z ∧ ∀ j (hj : j + 1 < xs.length), j + 1 < z → p xs[j] xs[j + 1] = true) (fun z => xs.length - z) (1) (⟨Nat.le_refl _, by omega⟩) (by exact ⟨rfl, rfl, rfl, trivial⟩) sn_ ?_
 intro z hz
 refine d_<|d_<|a_<|q_ 2 rfl<|b_ (z_ rfl Tryz.underlying24 (List.length_map _)) rfl rfl<|q_ 1 rfl<|g_<|c_<|r_ rfl ?_ ?_
 rotate_left
 ·intro hc9
  refine Q_<|i_ nofun<|i_ nofun<|P_<|c_<|d_<|a_<|q_ 1 rfl<|g_<|c_<|n_<|f_ (rs := [.tmp 4]) rfl (RV.tmp rfl RV.nil) (⟨true, ⟨fun _ j hj => hz.2 j hj (by omega), fun _ => rfl⟩⟩) sn_ ?_
  exact rfl
 intro hc9
 have hlt : z < xs.length := by omega
 refine p_<|c_<|d_<|t_<|d_<|Y_ [] (.q 0 (.q 1 (.q 2 (.q 3 (.q 4 (.q 5 (.q 6 (.q 7 (.q 8 (.q 9 (.e 10 (.q 11 .nil)))))))))))) (by kernel_rfl) (by kernel_rfl) ?_
 refine qs_ 3 rfl<|l_ rfl (bf_ rfl rfl (by simp only [InR, lo, hi]; omega)) (by simp) rfl rfl ?_
 refine hx_ fun hx9 =>l_ rfl (D_ (q := z - 1) tabOk Tryz.underlying24 rfl rfl rfl (by omega) (aa_ (by omega)) rfl rfl) hx9 rfl rfl ?_
 refine l_ rfl (K_ tabOk rfl rfl rfl rfl) hx9 rfl rfl<|qs_ 2 rfl<|l_ rfl (D_ tabOk Tryz.underlying24 rfl rfl rfl rfl (aa_ (by omega)) rfl rfl) (by simp) rfl rfl ?_
 refine l_ rfl (K_ tabOk rfl rfl rfl rfl) hx9 rfl rfl<|eP_ rfl (h _ (List.getElem_mem (by omega : z - 1 < xs.length)) _ (List.getElem_mem hlt)) (by simp [mids, It.mids]) rfl Casts.refl hb rfl rfl rfl ?_
 refine ap_<|fun _=>l_ rfl (ai_ rfl) (by simp) rfl rfl ?_
 refine N_<|c_<|ac_ rfl ?_ ?_
 rotate_left
 ·intro hc23
  refine p_<|o_<|c_<|a_<|q_ 1 rfl<|b_ (s_ rfl rfl (by simp only [InR, lo, hi]; omega)) rfl rfl ?_
  refine q_ 1 rfl<|g_<|x_ (z + 1) (by omega) (⟨by omega, fun j hj hjz => by rcases Nat.lt_or_ge (j + 1) z with h1 | h1; exact hz.2 j hj h1; obtain rfl : j = z - 1 := (by omega); have hq := hc23; simp only [show z - 1 + 1 = z by omega]; simpa using hq⟩) (by exact ⟨rfl, rfl, rfl, trivial⟩) sn_
 intro hc23
 refine d_<|a_<|q_ 1 rfl<|g_<|c_<|n_<|E_<|i_ nofun<|i_ nofun<|E_<|i_ nofun<|f_ (rs := [.tmp 4]) rfl (RV.tmp rfl RV.nil) (⟨false, ⟨fun h => (by cases h), fun h => by have h2 := h (z - 1) (by omega); simp only [show z - 1 + 1 = z by omega] at h2; rw [h2] at hc23; cases hc23⟩⟩) sn_ ?_
 exact rfl
theorem gk_ {xs : List Pnt} {p : Pnt → Bool} {k : Nat} {caps : List Abs} {σ : Blks} (hb : goesIn Tryz.prog k = true) (hr : Rds σ) (hn : xs.length < 9223372036854775807) (h : ∀ x ∈ xs, Spec Tryz.prog k (.agg (Pnt.abs x) :: caps) σ (fun _ : Unit => []) (fun _ => boo (p x))) : Spec Tryz.prog 130 [.sl 33 (xs.map Pnt.abs), .fn (.func k) [] caps] σ (fun _ : {r : Int // 0 ≤ r ↔ ∃ x ∈ xs, p x = true} => []) (fun z => int z.1) := by
 refine G_ Tryz.func130 rfl Tryz.ntmps130 rfl fun G w =>d_<|a_<|q_ 1 rfl<|g_<|c_<|d_<|d_<|a_<|q_ 1 rfl<|b_ (z_ rfl Tryz.underlying23 (List.length_map _)) rfl rfl<|q_ 1 rfl<|g_<|c_<|t_<|S_ (ι := Nat) (fun z => σ) (fun z => [(0, .sl 33 (xs.map Pnt.abs)), (1, .fn (.func k) [] caps), (7, int (xs.length : Nat)), (8, int (z : Nat))]) (fun z => z ≤ xs.length ∧ ∀ j (hj : j < xs.length), j < z → p xs[j] = false) (fun z => xs.length - z) (0) (⟨Nat.zero_le _, by omega⟩) (by exact ⟨rfl, rfl, rfl, rfl, trivial⟩) sr_ ?_
 intro z hz
 refine d_<|a_<|q_ 1 rfl<|g_<|c_<|d_<|r_ rfl ?_ ?_
 rotate_left
 ·intro hc9
  refine Q_<|i_ nofun<|i_ nofun<|P_<|c_<|d_<|a_<|q_ 1 rfl<|g_<|c_<|n_<|f_ (rs := [.tmp 4]) rfl (RV.tmp rfl RV.nil) (⟨-1, ⟨fun h => (by omega), fun ⟨x, hx, hp⟩ => by obtain ⟨j, hj, rfl⟩ := List.getElem_of_mem hx; have := hz.2 j hj (by omega); rw [this] at hp; cases hp⟩⟩) sn_ ?_
  exact rfl
 intro hc9
 have hlt : z < xs.length := by omega
 refine p_<|c_<|d_<|t_<|d_<|a_<|q_ 2 rfl<|g_<|c_<|d_<|a_<|q_ 3 rfl<|b_ (D_ tabOk Tryz.underlying23 rfl rfl rfl rfl (aa_ (by omega)) rfl rfl) rfl rfl ?_
 refine b_ (K_ tabOk rfl rfl rfl (Pnt.size _)) rfl rfl<|b5_ (h _ (List.getElem_mem hlt)) rfl Casts.refl hb rfl rfl rfl<|bp_ (Rds.reads hr (fun x hx => by repeat (first | exact hx | apply List.mem_cons_of_mem))) (fun _ => rfl) ?_
 intro _
 refine g_<|c_<|ac_ rfl ?_ ?_
 rotate_left
 ·intro hc16
  refine p_<|o_<|c_<|a_<|b_ (s_ rfl rfl (by simp only [InR, lo, hi]; omega)) rfl rfl ?_
  refine q_ 1 rfl<|g_<|x_ (z + 1) (by omega) (⟨by omega, fun j hj hjz => by rcases Nat.lt_or_ge j z with h1 | h1; exact hz.2 j hj h1; obtain rfl : j = z := (by omega); exact hc16⟩) (by exact ⟨rfl, rfl, rfl, rfl, trivial⟩) sr_
 intro hc16
 refine d_<|a_<|q_ 2 rfl<|g_<|c_<|n_<|E_<|i_ nofun<|i_ nofun<|E_<|i_ nofun<|f_ (rs := [.tmp 4]) rfl (RV.tmp rfl RV.nil) (⟨(z : Nat), ⟨fun _ => ⟨_, List.getElem_mem hlt, hc16⟩, fun _ => (by omega)⟩⟩) sn_ ?_
 exact rfl
theorem eu_ {xs : List Pnt} {p : Pnt → Bool} {k : Nat} {caps : List Abs} {σ : Blks} (hb : goesIn Tryz.prog k = true) (hr : Rds σ) (hn : xs.length < 9223372036854775807) (h : ∀ x ∈ xs, Spec Tryz.prog k (.agg (Pnt.abs x) :: caps) σ (fun _ : Unit => []) (fun _ => boo (p x))) : Spec Tryz.prog 98 [.sl 33 (xs.map Pnt.abs), .fn (.func k) [] caps] σ (fun _ : Unit => []) (fun _ => boo (xs.any p)) := by
 refine G_ Tryz.func98 rfl Tryz.ntmps98 rfl fun G w =>d_<|a_<|q_ 1 rfl<|g_<|c_<|d_<|a_<|q_ 2 rfl<|u_ (gk_ hb hr hn h) Casts.refl (by kernel_rfl) rfl rfl rfl ?_
 refine bp_ (Rds.reads hr (fun x hx => by repeat (first | exact hx | apply List.mem_cons_of_mem))) (fun _ => rfl) ?_
 intro r
 refine q_ 2 rfl<|g_<|c_<|n_<|f_ (rs := [.tmp 4]) rfl (RV.tmp rfl RV.nil) (()) sn_<|congrArg (fun b => Abs.v (Value.bool b)) ?_
 rw [Bool.eq_iff_iff, decide_eq_true_iff, r.2, List.any_eq_true]
theorem jB_ {xs : List Pnt} {p : Pnt → Pnt → Bool} {k : Nat} (hb : goesIn Tryz.prog k = true) (hn : xs.length < 9223372036854775807) (h : ∀ x ∈ xs, ∀ y ∈ xs, Pure Tryz.prog k [.agg (Pnt.abs x), .agg (Pnt.abs y)] (boo (p x y))) : Spec Tryz.prog 99 [.sl 33 (xs.map Pnt.abs), .fn (.func k) [] []] [] (fun _ : {b : Bool // b = true ↔ Rises p xs} => []) (fun z => boo z.1) := by
 refine G_ Tryz.func99 rfl Tryz.ntmps99 rfl fun G w =>d_<|a_<|q_ 1 rfl<|g_<|c_<|d_<|d_<|a_<|q_ 1 rfl<|g_<|c_<|t_<|S_ (ι := Nat) (fun z => []) (fun z => [(0, .sl 33 (xs.map Pnt.abs)), (1, .fn (.func k) [] []), (5, int (z : Nat))]) (fun z => 1 ≤ z ∧ ∀ j (hj : j + 1 < xs.length), j + 1 < z → p xs[j] xs[j + 1] = true) (fun z => xs.length - z) (1) (⟨Nat.le_refl _, by omega⟩) (by exact ⟨rfl, rfl, rfl, trivial⟩) sn_ ?_
 intro z hz
 refine d_<|d_<|a_<|q_ 2 rfl<|b_ (z_ rfl Tryz.underlying23 (List.length_map _)) rfl rfl<|q_ 1 rfl<|g_<|c_<|r_ rfl ?_ ?_
 rotate_left
 ·intro hc9
  refine Q_<|i_ nofun<|i_ nofun<|P_<|c_<|d_<|a_<|q_ 1 rfl<|g_<|c_<|n_<|f_ (rs := [.tmp 4]) rfl (RV.tmp rfl RV.nil) (⟨true, ⟨fun _ j hj => hz.2 j hj (by omega), fun _ => rfl⟩⟩) sn_ ?_
  exact rfl
 intro hc9
 have hlt : z < xs.length := by omega
 refine p_<|c_<|d_<|t_<|d_<|Y_ [] (.q 0 (.q 1 (.q 2 (.q 3 (.q 4 (.q 5 (.q 6 (.q 7 (.q 8 (.q 9 (.e 10 (.q 11 .nil)))))))))))) (by kernel_rfl) (by kernel_rfl) ?_
 refine qs_ 3 rfl<|l_ rfl (bf_ rfl rfl (by simp only [InR, lo, hi]; omega)) (by simp) rfl rfl ?_
 refine hx_ fun hx9 =>l_ rfl (D_ (q := z - 1) tabOk Tryz.underlying23 rfl rfl rfl (by omega) (aa_ (by omega)) rfl rfl) hx9 rfl rfl ?_
 refine l_ rfl (K_ tabOk rfl rfl rfl (Pnt.size _)) hx9 rfl rfl<|qs_ 2 rfl<|l_ rfl (D_ tabOk Tryz.underlying23 rfl rfl rfl rfl (aa_ (by omega)) rfl rfl) (by simp) rfl rfl ?_
 refine l_ rfl (K_ tabOk rfl rfl rfl (Pnt.size _)) hx9 rfl rfl<|eP_ rfl (h _ (List.getElem_mem (by omega : z - 1 < xs.length)) _ (List.getElem_mem hlt)) (by simp [mids, It.mids]) rfl Casts.refl hb rfl rfl rfl ?_
 refine ap_<|fun _=>l_ rfl (ai_ rfl) (by simp) rfl rfl ?_
 refine N_<|c_<|ac_ rfl ?_ ?_
 rotate_left
 ·intro hc23
  refine p_<|o_<|c_<|a_<|q_ 1 rfl<|b_ (s_ rfl rfl (by simp only [InR, lo, hi]; omega)) rfl rfl ?_
  refine q_ 1 rfl<|g_<|x_ (z + 1) (by omega) (⟨by omega, fun j hj hjz => by rcases Nat.lt_or_ge (j + 1) z with h1 | h1; exact hz.2 j hj h1; obtain rfl : j = z - 1 := (by omega); have hq := hc23; simp only [show z - 1 + 1 = z by omega]; simpa using hq⟩) (by exact ⟨rfl, rfl, rfl, trivial⟩) sn_
 intro hc23
 refine d_<|a_<|q_ 1 rfl<|g_<|c_<|n_<|E_<|i_ nofun<|i_ nofun<|E_<|i_ nofun<|f_ (rs := [.tmp 4]) rfl (RV.tmp rfl RV.nil) (⟨false, ⟨fun h => (by cases h), fun h => by have h2 := h (z - 1) (by omega); simp only [show z - 1 + 1 = z by omega] at h2; rw [h2] at hc23; cases hc23⟩⟩) sn_ ?_
 exact rfl
noncomputable def yes (p : Prop) : Bool := @decide p (Classical.propDecidable p)
theorem X_ {p : Prop} : yes p = true ↔ p := by unfold yes; exact @decide_eq_true_iff p (Classical.propDecidable p)
theorem bl_ {b : Bool} {p : Prop} (h : b = true ↔ p) : retA [boo b] = boo (yes p) := congrArg (fun b => Abs.v (Value.bool b)) (by rw [Bool.eq_iff_iff, X_]; exact h)
theorem av_ {p : Prop} (h : ¬ p) : retA [boo false] = boo (yes p) := bl_ ⟨fun h => (by cases h), fun h2 => absurd h2 h⟩
theorem cw_ {b : Bool} {p : Prop} (h : b = true ↔ ¬ p) : retA [boo b] = boo (!yes p) := congrArg (fun b => Abs.v (Value.bool b)) (by rw [Bool.eq_iff_iff, Bool.not_eq_true', ← Bool.not_eq_true, X_]; exact h)
theorem bs_ {p : Prop} : yes p = false ↔ ¬ p := by unfold yes; exact @decide_eq_false_iff_not p (Classical.propDecidable p)
def Prf.fits (p : Prf) (low view n : Int) : Prop := low < p.seq ∧ p.seq ≤ low + 8 ∧ 0 ≤ p.view ∧ p.view < view ∧ chkB p.batch n = 0
def Prf.lt (p q : Prf) : Prop := p.seq < q.seq
instance (p q : Prf) : Decidable (p.lt q) := inferInstanceAs (Decidable (_ < _))
def Prf.lt2 (p q : Prf) : Prop := p.seq < q.seq ∨ p.seq = q.seq ∧ p.view < q.view
instance (p q : Prf) : Decidable (p.lt2 q) := inferInstanceAs (Decidable (_ ∨ _ ∧ _))
def prfsOk (r : Prf → Prf → Bool) (most low view n : Int) (ps : List Prf) : Prop := (ps.length : Int) ≤ most ∧ Rises r ps ∧ ∀ p ∈ ps, p.fits low view n
def pntsOk (low : Int) (ps : List Pnt) : Prop := 1 ≤ ps.length ∧ ps.length ≤ 4 ∧ (∀ p, ps[0]? = some p → p.seq = low) ∧ (∀ p ∈ ps, isMark p.seq) ∧ Rises (fun a b : Pnt => decide (a.seq < b.seq)) ps
def Chg.Right (c : Chg) (n : Int) : Prop := 1 ≤ c.view ∧ c.view ≤ 1048576 ∧ isMark c.low ∧ pntsOk c.low c.points ∧ prfsOk (fun p q => decide (p.lt q)) 8 c.low c.view n c.prepared ∧ prfsOk (fun p q => decide (p.lt2 q)) 64 c.low c.view n c.proposed
noncomputable def Chg.check (c : Chg) (n : Int) : Int := if n < 1 ∨ 7 < n then 1 else bif yes (c.Right n) then 0 else 2
def Long (ps : List Prf) : Prop := ps.length < 9223372036854775807 ∧ ∀ p ∈ ps, p.batch.length ≤ 1000000
section
variable {c : Chg} {p q : Prf} {ps : List Prf} {n low most : Int}
theorem bySeq_s  : Spec Tryz.prog 68 [.agg p.abs, .agg q.abs] [] (fun _ : Unit => []) (fun _ => boo (decide (p.lt q))) := by
 refine G_ Tryz.func68 rfl Tryz.ntmps68 rfl fun G w =>d_<|a_<|eb_ (L_ rfl) rfl rfl fun b2=>?_
 refine eb_ (L_ rfl) rfl rfl fun b3=>?_
 refine q_ 1 rfl<|g_<|c_<|d_<|a_<|q_ 1 rfl<|b_ (h_ tabOk rfl rfl l1_ List.not_mem_nil rfl) rfl rfl<|q_ 1 rfl<|b_ (h_ tabOk rfl rfl l0_ List.not_mem_nil rfl) rfl rfl<|q_ 2 rfl<|g_<|c_<|n_<|f_ (rs := [.tmp 4]) rfl (RV.tmp rfl RV.nil) (()) sn_<|congrArg (fun b => Abs.v (Value.bool b)) ?_
 (rw [decide_eq_decide]; unfold Prf.lt; exact Iff.rfl)
theorem byView_s  : Spec Tryz.prog 69 [.agg p.abs, .agg q.abs] [] (fun _ : Unit => []) (fun _ => boo (decide (p.lt2 q))) := by
 refine G_ Tryz.func69 rfl Tryz.ntmps69 rfl fun G w =>d_<|a_<|eb_ (L_ rfl) rfl rfl fun b2=>?_
 refine eb_ (L_ rfl) rfl rfl fun b3=>?_
 refine q_ 1 rfl<|g_<|c_<|d_<|a_<|q_ 1 rfl<|b_ (h_ tabOk rfl rfl l1_ List.not_mem_nil rfl) rfl rfl<|q_ 1 rfl<|b_ (h_ tabOk rfl rfl l0_ List.not_mem_nil rfl) rfl rfl<|q_ 2 rfl<|C_ (t := 10) rfl ?_ ?_
 ·intro hc10
  refine q_ 14 rfl<|g_<|c_<|n_<|f_ (rs := [.tmp 4]) rfl (RV.tmp rfl RV.nil) (()) sn_<|congrArg (fun b => Abs.v (Value.bool b)) ?_
  (refine (decide_eq_true ?_).symm; unfold Prf.lt2; omega)
 intro hc10
 refine q_ 1 rfl<|b_ (h_ tabOk rfl rfl l1_ List.not_mem_nil rfl) rfl rfl<|q_ 1 rfl<|b_ (h_ tabOk rfl rfl l0_ List.not_mem_nil rfl) rfl rfl<|q_ 2 rfl<|C_ (t := 16) rfl ?_ ?_
 ·intro hc16
  refine q_ 1 rfl<|b_ (h_ tabOk rfl rfl l1_ List.not_mem_nil rfl) rfl rfl<|q_ 1 rfl<|b_ (h_ tabOk rfl rfl l0_ List.not_mem_nil rfl) rfl rfl<|q_ 4 rfl<|g_<|c_<|n_<|f_ (rs := [.tmp 4]) rfl (RV.tmp rfl RV.nil) (()) sn_<|congrArg (fun b => Abs.v (Value.bool b)) ?_
  (rw [decide_eq_decide]; unfold Prf.lt2; omega)
 intro hc16
 refine q_ 8 rfl<|g_<|c_<|n_<|f_ (rs := [.tmp 4]) rfl (RV.tmp rfl RV.nil) (()) sn_<|congrArg (fun b => Abs.v (Value.bool b)) ?_
 (refine (decide_eq_false ?_).symm; unfold Prf.lt2; omega)
theorem pnt1_s {p : Pnt} : Spec Tryz.prog 97 [.agg p.abs] [] (fun _ : Unit => []) (fun _ => boo (!decide (isMark p.seq))) := by
 refine G_ Tryz.func97 rfl Tryz.ntmps97 rfl fun G w =>d_<|a_<|eb_ (L_ rfl) rfl rfl fun b1=>?_
 refine q_ 1 rfl<|g_<|c_<|d_<|a_<|q_ 1 rfl<|b_ (h_ tabOk rfl rfl l0_ List.not_mem_nil rfl) rfl rfl<|u_ (mark_s (x := p.seq)) Casts.refl (by kernel_rfl) rfl rfl rfl ?_
 exact ap_<|fun _=>b_ (ai_ rfl) rfl rfl<|q_ 1 rfl<|g_<|c_<|n_<|f_ (rs := [.tmp 2]) rfl (RV.tmp rfl RV.nil) (()) sn_<|rfl
theorem pnt2_s {p q : Pnt} : Spec Tryz.prog 100 [.agg p.abs, .agg q.abs] [] (fun _ : Unit => []) (fun _ => boo (decide (p.seq < q.seq))) := by
 refine G_ Tryz.func100 rfl Tryz.ntmps100 rfl fun G w =>d_<|a_<|eb_ (L_ rfl) rfl rfl fun b2=>?_
 refine eb_ (L_ rfl) rfl rfl fun b3=>?_
 exact q_ 1 rfl<|g_<|c_<|d_<|a_<|q_ 1 rfl<|b_ (h_ tabOk rfl rfl l1_ List.not_mem_nil rfl) rfl rfl<|q_ 1 rfl<|b_ (h_ tabOk rfl rfl l0_ List.not_mem_nil rfl) rfl rfl<|q_ 2 rfl<|g_<|c_<|n_<|f_ (rs := [.tmp 4]) rfl (RV.tmp rfl RV.nil) (()) sn_<|rfl
theorem points_s {ps : List Pnt} (hn : ps.length < 9223372036854775807) : Spec Tryz.prog 66 [pntsA ps, int low] [] (fun _ : Unit => []) (fun _ => boo (yes (pntsOk low ps))) := by
 refine G_ Tryz.func66 rfl Tryz.ntmps66 rfl fun G w =>d_<|a_<|q_ 1 rfl<|g_<|c_<|d_<|a_<|q_ 1 rfl<|g_<|c_<|d_<|a_<|q_ 1 rfl<|b_ (z_ rfl Tryz.underlying23 (List.length_map _)) rfl rfl<|q_ 2 rfl<|C_ (t := 9) rfl ?_ ?_
 rotate_left
 ·intro hc9
  exact q_ 23 rfl<|g_<|c_<|n_<|f_ (rs := [.tmp 4]) rfl (RV.tmp rfl RV.nil) (()) sn_<|av_ fun h => by have := h.1; omega
 intro hc9
 refine q_ 1 rfl<|b_ (z_ rfl Tryz.underlying23 (List.length_map _)) rfl rfl<|q_ 3 rfl<|C_ (t := 14) rfl ?_ ?_
 rotate_left
 ·intro hc14
  exact q_ 18 rfl<|g_<|c_<|n_<|f_ (rs := [.tmp 4]) rfl (RV.tmp rfl RV.nil) (()) sn_<|av_ fun h => by have := h.2.1; omega
 intro hc14
 have h0 : 0 < ps.length := by omega
 refine q_ 1 rfl<|b_ (D_ (q := 0) tabOk Tryz.underlying23 rfl rfl rfl rfl (aa_ h0) rfl rfl) rfl rfl<|b_ (Z_ tabOk rfl rfl rfl rfl rfl) rfl rfl<|b_ (au_ tabOk rfl rfl rfl) rfl rfl<|q_ 4 rfl<|C_ (t := 22) rfl ?_ ?_
 rotate_left
 ·intro hc22
  exact q_ 10 rfl<|g_<|c_<|n_<|f_ (rs := [.tmp 4]) rfl (RV.tmp rfl RV.nil) (()) sn_<|av_ fun h => hc22 (h.2.2.1 _ (List.getElem?_eq_getElem h0))
 intro hc22
 refine q_ 2 rfl<|u_ (eu_ (k := 97) (caps := []) (σ := []) (p := fun p : Pnt => !decide (isMark p.seq)) (by kernel_rfl) (fun x hx => by cases hx) hn (fun _ _ => pnt1_s)) Casts.refl (by kernel_rfl) rfl rfl rfl ?_
 refine ap_<|fun _=>b_ (ai_ rfl) rfl rfl<|q_ 2 rfl<|aZ_ (t := 28) rfl ?_ ?_
 rotate_left
 ·intro hc28
  exact q_ 4 rfl<|g_<|c_<|n_<|f_ (rs := [.tmp 4]) rfl (RV.tmp rfl RV.nil) (()) sn_<|av_ fun h => by have h2 : ps.any (fun p => !decide (isMark p.seq)) = true := (by simpa using hc28); rw [List.any_eq_true] at h2; obtain ⟨p, h3, h4⟩ := h2; have h5 := h.2.2.2.1 p h3; simp [h5] at h4
 intro hc28
 refine q_ 1 rfl<|u_ (jB_ (k := 100) (p := fun a b : Pnt => decide (a.seq < b.seq)) (by kernel_rfl) hn (fun _ _ _ _ => pnt2_s)) Casts.refl (by kernel_rfl) rfl rfl rfl ?_
 exact ap_<|fun b=>q_ 2 rfl<|g_<|c_<|n_<|f_ (rs := [.tmp 4]) rfl (RV.tmp rfl RV.nil) (()) sn_<|bl_ ⟨fun h => ⟨by omega, by omega, fun p hp => by rw [List.getElem?_eq_getElem h0] at hp; cases hp; exact hc22, fun p hp => by have h2 : ps.any (fun p => !decide (isMark p.seq)) = false := (by simpa using hc28); rw [List.any_eq_false] at h2; have h3 := h2 p hp; simpa using h3, b.2.1 h⟩, fun h => b.2.2 h.2.2.2.2⟩
theorem prf1_s {bc bn TC TN : Nat} {c : Chg} {n : Int} {p : Prf} (hl : p.batch.length ≤ 1000000) (hm : isMark c.low) : Spec Tryz.prog 101 [.agg p.abs, ptr bc, ptr bn] [.rd bc TC c.abs, .rd bn TN [int n]] (fun _ : Unit => []) (fun _ => boo (!yes (p.fits c.low c.view n))) := by
 unfold isMark isSeq at hm
 refine G_ Tryz.func101 rfl Tryz.ntmps101 rfl fun G w =>d_<|a_<|eb_ (L_ rfl) rfl rfl fun b3=>?_
 refine q_ 1 rfl<|g_<|c_<|d_<|a_<|q_ 1 rfl<|b_ (h_ tabOk rfl rfl l0_ List.not_mem_nil rfl) rfl rfl<|q_ 1 rfl<|b_ (h_ tabOk rfl rfl r1_ List.not_mem_nil rfl) rfl rfl<|q_ 2 rfl<|C_ (t := 10) rfl ?_ ?_
 ·intro hc10
  exact q_ 27 rfl<|g_<|c_<|n_<|f_ (rs := [.tmp 4]) rfl (RV.tmp rfl RV.nil) (()) sn_<|cw_ (by unfold Prf.fits; exact ⟨fun _ => by omega, fun _ => rfl⟩)
 intro hc10
 refine q_ 1 rfl<|b_ (h_ tabOk rfl rfl l0_ List.not_mem_nil rfl) rfl rfl<|q_ 1 rfl<|b_ (h_ tabOk rfl rfl r1_ List.not_mem_nil rfl) rfl rfl<|b_ (s_ rfl rfl (by simp only [InR, lo, hi]; omega)) rfl rfl ?_
 refine q_ 3 rfl<|C_ (t := 18) rfl ?_ ?_
 ·intro hc18
  exact q_ 19 rfl<|g_<|c_<|n_<|f_ (rs := [.tmp 4]) rfl (RV.tmp rfl RV.nil) (()) sn_<|cw_ (by unfold Prf.fits; exact ⟨fun _ => by omega, fun _ => rfl⟩)
 intro hc18
 refine q_ 1 rfl<|b_ (h_ tabOk rfl rfl l0_ List.not_mem_nil rfl) rfl rfl<|q_ 3 rfl<|C_ (t := 23) rfl ?_ ?_
 ·intro hc23
  exact q_ 14 rfl<|g_<|c_<|n_<|f_ (rs := [.tmp 4]) rfl (RV.tmp rfl RV.nil) (()) sn_<|cw_ (by unfold Prf.fits; exact ⟨fun _ => by omega, fun _ => rfl⟩)
 intro hc23
 refine q_ 1 rfl<|b_ (h_ tabOk rfl rfl l0_ List.not_mem_nil rfl) rfl rfl<|q_ 1 rfl<|b_ (h_ tabOk rfl rfl r1_ List.not_mem_nil rfl) rfl rfl<|q_ 3 rfl<|C_ (t := 30) rfl ?_ ?_
 ·intro hc30
  exact q_ 7 rfl<|g_<|c_<|n_<|f_ (rs := [.tmp 4]) rfl (RV.tmp rfl RV.nil) (()) sn_<|cw_ (by unfold Prf.fits; exact ⟨fun _ => by omega, fun _ => rfl⟩)
 intro hc30
 refine q_ 1 rfl<|b_ (h_ tabOk rfl rfl l0_ List.not_mem_nil rfl) rfl rfl<|b_ (h_ tabOk rfl rfl r2_ List.not_mem_nil rfl) rfl rfl<|u_ (bcheck_s (es := p.batch) (n := n) hl) Casts.refl (by kernel_rfl) rfl rfl rfl ?_
 exact ap_<|fun _=>q_ 3 rfl<|g_<|c_<|n_<|f_ (rs := [.tmp 4]) rfl (RV.tmp rfl RV.nil) (()) sn_<|cw_ (by unfold Prf.fits; (rw [decide_eq_true_iff]; omega))
theorem kF_ {c : Chg} {n : Int} (hl : Long ps) (hm : isMark c.low) : Spec Tryz.prog 67 [prfsA ps, .agg c.abs, int n, int most, .fn (.func 68) [] []] [] (fun _ : Unit => []) (fun _ => boo (yes (prfsOk (fun p q => decide (p.lt q)) most c.low c.view n ps))) := by
 refine G_ Tryz.func67 rfl Tryz.ntmps67 rfl fun G w =>d_<|a_<|eb_ (L_ rfl) rfl rfl fun b6=>?_
 refine eb_ (cn_ rfl rfl) rfl rfl fun b7=>?_
 refine q_ 1 rfl<|g_<|c_<|d_<|a_<|b_ (ao_ rfl rfl) rfl rfl<|q_ 1 rfl<|g_<|c_<|d_<|a_<|q_ 1 rfl<|b_ (z_ rfl Tryz.underlying24 (List.length_map _)) rfl rfl<|q_ 3 rfl<|C_ (t := 17) rfl ?_ ?_
 rotate_left
 ·intro hc17
  exact q_ 11 rfl<|g_<|c_<|n_<|f_ (rs := [.tmp 10]) rfl (RV.tmp rfl RV.nil) (()) sn_<|av_ fun h => by have := h.1; omega
 intro hc17
 refine q_ 2 rfl<|u_ (fE_ (k := 68) (p := fun p q => decide (p.lt q)) (by kernel_rfl) hl.1 (fun _ _ _ _ => bySeq_s)) Casts.refl (by kernel_rfl) rfl rfl rfl ?_
 refine ap_<|fun b=>q_ 2 rfl<|aZ_ (t := 22) rfl ?_ ?_
 rotate_left
 ·intro hc22
  exact q_ 6 rfl<|g_<|c_<|n_<|f_ (rs := [.tmp 10]) rfl (RV.tmp rfl RV.nil) (()) sn_<|av_ fun h => by have h2 := b.2.2 h.2.1; rw [hc22] at h2; cases h2
 intro hc22
 refine q_ 2 rfl<|u_ (a8_ (k := 101) (caps := [ptr b6, ptr b7]) (σ := [.rd b6 26 c.abs, .rd b7 3 [int n]]) (p := fun p : Prf => !yes (p.fits c.low c.view n)) (by kernel_rfl) (by intro x hx; simp only [List.mem_cons, List.not_mem_nil, or_false] at hx; rcases hx with rfl | rfl <;> exact .inl ⟨_, _, _, rfl⟩) hl.1 (fun p hp => prf1_s (hl.2 p hp) hm)) Casts.refl (by kernel_rfl) rfl rfl rfl ?_
 exact ap_<|fun _=>b_ (ai_ rfl) rfl rfl<|q_ 2 rfl<|g_<|c_<|n_<|f_ (rs := [.tmp 10]) rfl (RV.tmp rfl RV.nil) (()) sn_<|bl_ ⟨fun h => ⟨by omega, b.2.1 (by assumption), fun p hp => by have h2 : ps.any (fun p => !yes (p.fits c.low c.view n)) = false := (by simpa using h); rw [List.any_eq_false] at h2; have h3 := h2 p hp; simpa [X_] using h3⟩, fun h => by show (!ps.any (fun p => !yes (p.fits c.low c.view n))) = true; rw [Bool.not_eq_true', List.any_eq_false]; intro p hp; have h3 := h.2.2 p hp; simpa [X_] using h3⟩
theorem kE_ {c : Chg} {n : Int} (hl : Long ps) (hm : isMark c.low) : Spec Tryz.prog 67 [prfsA ps, .agg c.abs, int n, int most, .fn (.func 69) [] []] [] (fun _ : Unit => []) (fun _ => boo (yes (prfsOk (fun p q => decide (p.lt2 q)) most c.low c.view n ps))) := by
 refine G_ Tryz.func67 rfl Tryz.ntmps67 rfl fun G w =>d_<|a_<|eb_ (L_ rfl) rfl rfl fun b6=>?_
 refine eb_ (cn_ rfl rfl) rfl rfl fun b7=>?_
 refine q_ 1 rfl<|g_<|c_<|d_<|a_<|b_ (ao_ rfl rfl) rfl rfl<|q_ 1 rfl<|g_<|c_<|d_<|a_<|q_ 1 rfl<|b_ (z_ rfl Tryz.underlying24 (List.length_map _)) rfl rfl<|q_ 3 rfl<|C_ (t := 17) rfl ?_ ?_
 rotate_left
 ·intro hc17
  exact q_ 11 rfl<|g_<|c_<|n_<|f_ (rs := [.tmp 10]) rfl (RV.tmp rfl RV.nil) (()) sn_<|av_ fun h => by have := h.1; omega
 intro hc17
 refine q_ 2 rfl<|u_ (fE_ (k := 69) (p := fun p q => decide (p.lt2 q)) (by kernel_rfl) hl.1 (fun _ _ _ _ => byView_s)) Casts.refl (by kernel_rfl) rfl rfl rfl ?_
 refine ap_<|fun b=>q_ 2 rfl<|aZ_ (t := 22) rfl ?_ ?_
 rotate_left
 ·intro hc22
  exact q_ 6 rfl<|g_<|c_<|n_<|f_ (rs := [.tmp 10]) rfl (RV.tmp rfl RV.nil) (()) sn_<|av_ fun h => by have h2 := b.2.2 h.2.1; rw [hc22] at h2; cases h2
 intro hc22
 refine q_ 2 rfl<|u_ (a8_ (k := 101) (caps := [ptr b6, ptr b7]) (σ := [.rd b6 26 c.abs, .rd b7 3 [int n]]) (p := fun p : Prf => !yes (p.fits c.low c.view n)) (by kernel_rfl) (by intro x hx; simp only [List.mem_cons, List.not_mem_nil, or_false] at hx; rcases hx with rfl | rfl <;> exact .inl ⟨_, _, _, rfl⟩) hl.1 (fun p hp => prf1_s (hl.2 p hp) hm)) Casts.refl (by kernel_rfl) rfl rfl rfl ?_
 exact ap_<|fun _=>b_ (ai_ rfl) rfl rfl<|q_ 2 rfl<|g_<|c_<|n_<|f_ (rs := [.tmp 10]) rfl (RV.tmp rfl RV.nil) (()) sn_<|bl_ ⟨fun h => ⟨by omega, b.2.1 (by assumption), fun p hp => by have h2 : ps.any (fun p => !yes (p.fits c.low c.view n)) = false := (by simpa using h); rw [List.any_eq_false] at h2; have h3 := h2 p hp; simpa [X_] using h3⟩, fun h => by show (!ps.any (fun p => !yes (p.fits c.low c.view n))) = true; rw [Bool.not_eq_true', List.any_eq_false]; intro p hp; have h3 := h.2.2 p hp; simpa [X_] using h3⟩
end
theorem ga_ {L ys : List Abs} (h : ys.length = L.length) : putL L 0 ys = ys := by
  simp [putL, h]
theorem cD_ {α : Type} {p : α → α → Bool} {xs : List α} (h : Rises p xs) {z : Nat} (h0 : 0 < z) (hlt : z < xs.length) : p (xs[z - 1]'(by omega)) xs[z] = true := by
  have := h (z - 1) (by omega)
  simpa [show z - 1 + 1 = z by omega] using this
def Lets (ps : List Prf) : Prop := ∀ p ∈ ps, ∀ e ∈ p.batch, e.core.letter.size ≤ lots
section
variable {c : Chg} {p q : Prf} {ps : List Prf} {n low most : Int}
theorem ic_ (h1 : Long c.prepared) (h2 : Long c.proposed) (h3 : c.points.length < 9223372036854775807) : Spec Tryz.prog 35 [.agg c.abs, int n] [] (fun _ : Unit => []) (fun _ => int (c.check n)) := by
 refine G_ Tryz.func35 rfl Tryz.ntmps35 rfl fun G w =>d_<|a_<|eb_ (L_ rfl) rfl rfl fun b2=>?_
 refine q_ 1 rfl<|g_<|c_<|d_<|t_<|d_<|a_<|q_ 3 rfl<|C_ (t := 8) rfl ?_ ?_
 ·intro hc8
  refine q_ 4 rfl<|g_<|c_<|O_ rfl<|d_<|a_<|q_ 1 rfl<|g_<|c_<|n_<|E_<|i_ nofun<|f_ (rs := [.tmp 4]) rfl (RV.tmp rfl RV.nil) (()) sn_<|congrArg int ?_
  unfold Chg.check
  (rw [if_pos (by omega)])
 intro hc8
 refine q_ 4 rfl<|g_<|c_<|r_ rfl ?_ ?_
 ·intro hc5
  refine d_<|a_<|q_ 1 rfl<|g_<|c_<|n_<|E_<|i_ nofun<|f_ (rs := [.tmp 4]) rfl (RV.tmp rfl RV.nil) (()) sn_<|congrArg int ?_
  unfold Chg.check
  (rw [if_pos (by omega)])
 intro hc5
 refine d_<|a_<|q_ 1 rfl<|b_ (h_ tabOk rfl rfl l0_ List.not_mem_nil rfl) rfl rfl<|q_ 2 rfl<|C_ (t := 16) rfl ?_ ?_
 ·intro hc16
  refine q_ 19 rfl<|g_<|c_<|O_ rfl<|d_<|a_<|q_ 1 rfl<|g_<|c_<|n_<|E_<|i_ nofun<|f_ (rs := [.tmp 4]) rfl (RV.tmp rfl RV.nil) (()) sn_<|congrArg int ?_
  unfold Chg.check
  first
   | (rw [if_pos (by omega)])
   | (rw [if_neg (by omega), show yes (c.Right n) = true from X_.2 (by unfold Chg.Right; simp_all [X_]; try omega)]; rfl)
   | (rw [if_neg (by omega), show yes (c.Right n) = false from bs_.2 (by
     rintro ⟨h1, h2, h3, h4, h5, h6⟩
     have e3 := decide_eq_true h3
     have e4 := X_.2 h4
     have e5 := X_.2 h5
     have e6 := X_.2 h6
     omega)]; rfl)
 intro hc16
 refine q_ 1 rfl<|b_ (h_ tabOk rfl rfl l0_ List.not_mem_nil rfl) rfl rfl<|q_ 3 rfl<|C_ (t := 21) rfl ?_ ?_
 ·intro hc21
  refine q_ 14 rfl<|g_<|c_<|O_ rfl<|d_<|a_<|q_ 1 rfl<|g_<|c_<|n_<|E_<|i_ nofun<|f_ (rs := [.tmp 4]) rfl (RV.tmp rfl RV.nil) (()) sn_<|congrArg int ?_
  unfold Chg.check
  first
   | (rw [if_pos (by omega)])
   | (rw [if_neg (by omega), show yes (c.Right n) = true from X_.2 (by unfold Chg.Right; simp_all [X_]; try omega)]; rfl)
   | (rw [if_neg (by omega), show yes (c.Right n) = false from bs_.2 (by
     rintro ⟨h1, h2, h3, h4, h5, h6⟩
     have e3 := decide_eq_true h3
     have e4 := X_.2 h4
     have e5 := X_.2 h5
     have e6 := X_.2 h6
     omega)]; rfl)
 intro hc21
 refine q_ 1 rfl<|b_ (h_ tabOk rfl rfl l0_ List.not_mem_nil rfl) rfl rfl<|u_ (mark_s (x := c.low)) Casts.refl (by kernel_rfl) rfl rfl rfl ?_
 refine ap_<|fun _=>b_ (aL_ rfl) rfl rfl<|q_ 2 rfl<|C_ (t := 27) rfl ?_ ?_
 ·intro hc27
  refine q_ 8 rfl<|g_<|c_<|O_ rfl<|d_<|a_<|q_ 1 rfl<|g_<|c_<|n_<|E_<|i_ nofun<|f_ (rs := [.tmp 4]) rfl (RV.tmp rfl RV.nil) (()) sn_<|congrArg int ?_
  unfold Chg.check
  first
   | (rw [if_pos (by omega)])
   | (rw [if_neg (by omega), show yes (c.Right n) = true from X_.2 (by unfold Chg.Right; simp_all [X_]; try omega)]; rfl)
   | (rw [if_neg (by omega), show yes (c.Right n) = false from bs_.2 (by
     rintro ⟨h1, h2, h3, h4, h5, h6⟩
     have e3 := decide_eq_true h3
     have e4 := X_.2 h4
     have e5 := X_.2 h5
     have e6 := X_.2 h6
     simp_all)]; rfl)
 intro hc27
 refine q_ 1 rfl<|b_ (h_ tabOk rfl rfl l0_ List.not_mem_nil rfl) rfl rfl<|q_ 1 rfl<|b_ (h_ tabOk rfl rfl l0_ List.not_mem_nil rfl) rfl rfl<|u_ (points_s (low := c.low) h3) Casts.refl (by kernel_rfl) rfl rfl rfl ?_
 refine ap_<|fun _=>b_ (ai_ rfl) rfl rfl<|q_ 2 rfl<|g_<|c_<|ac_ rfl ?_ ?_
 ·intro hc12
  refine d_<|a_<|q_ 1 rfl<|g_<|c_<|n_<|E_<|i_ nofun<|f_ (rs := [.tmp 4]) rfl (RV.tmp rfl RV.nil) (()) sn_<|congrArg int ?_
  unfold Chg.check
  first
   | (rw [if_pos (by omega)])
   | (rw [if_neg (by omega), show yes (c.Right n) = true from X_.2 (by unfold Chg.Right; simp_all [X_]; try omega)]; rfl)
   | (rw [if_neg (by omega), show yes (c.Right n) = false from bs_.2 (by
     rintro ⟨h1, h2, h3, h4, h5, h6⟩
     have e3 := decide_eq_true h3
     have e4 := X_.2 h4
     have e5 := X_.2 h5
     have e6 := X_.2 h6
     simp_all)]; rfl)
 intro hc12
 refine d_<|a_<|q_ 1 rfl<|b_ (h_ tabOk rfl rfl l0_ List.not_mem_nil rfl) rfl rfl<|b_ (F_ tabOk rfl rfl rfl l0_ List.not_mem_nil rfl) rfl rfl<|q_ 1 rfl<|u_ (kF_ (most := 8) (n := n) h1 (by simp_all)) Casts.refl (by kernel_rfl) rfl rfl rfl ?_
 refine ap_<|fun _=>b_ (ai_ rfl) rfl rfl<|q_ 1 rfl<|aZ_ (t := 42) rfl ?_ ?_
 ·intro hc42
  refine q_ 8 rfl<|g_<|c_<|O_ rfl<|d_<|a_<|q_ 1 rfl<|g_<|c_<|n_<|E_<|i_ nofun<|f_ (rs := [.tmp 4]) rfl (RV.tmp rfl RV.nil) (()) sn_<|congrArg int ?_
  unfold Chg.check
  first
   | (rw [if_pos (by omega)])
   | (rw [if_neg (by omega), show yes (c.Right n) = true from X_.2 (by unfold Chg.Right; simp_all [X_]; try omega)]; rfl)
   | (rw [if_neg (by omega), show yes (c.Right n) = false from bs_.2 (by
     rintro ⟨h1, h2, h3, h4, h5, h6⟩
     have e3 := decide_eq_true h3
     have e4 := X_.2 h4
     have e5 := X_.2 h5
     have e6 := X_.2 h6
     simp_all)]; rfl)
 intro hc42
 refine q_ 1 rfl<|b_ (h_ tabOk rfl rfl l0_ List.not_mem_nil rfl) rfl rfl<|b_ (F_ tabOk rfl rfl rfl l0_ List.not_mem_nil rfl) rfl rfl<|q_ 1 rfl<|u_ (kE_ (most := 64) (n := n) h2 (by simp_all)) Casts.refl (by kernel_rfl) rfl rfl rfl ?_
 refine ap_<|fun _=>b_ (ai_ rfl) rfl rfl<|q_ 2 rfl<|g_<|c_<|ac_ rfl ?_ ?_
 ·intro hc35
  refine d_<|a_<|q_ 1 rfl<|g_<|c_<|n_<|E_<|i_ nofun<|f_ (rs := [.tmp 4]) rfl (RV.tmp rfl RV.nil) (()) sn_<|congrArg int ?_
  unfold Chg.check
  first
   | (rw [if_pos (by omega)])
   | (rw [if_neg (by omega), show yes (c.Right n) = true from X_.2 (by unfold Chg.Right; simp_all [X_]; try omega)]; rfl)
   | (rw [if_neg (by omega), show yes (c.Right n) = false from bs_.2 (by
     rintro ⟨h1, h2, h3, h4, h5, h6⟩
     have e3 := decide_eq_true h3
     have e4 := X_.2 h4
     have e5 := X_.2 h5
     have e6 := X_.2 h6
     simp_all)]; rfl)
 intro hc35
 refine p_<|o_<|c_<|d_<|a_<|q_ 1 rfl<|g_<|c_<|n_<|f_ (rs := [.tmp 4]) rfl (RV.tmp rfl RV.nil) (()) sn_<|congrArg int ?_
 unfold Chg.check
 (rw [if_neg (by omega), show yes (c.Right n) = true from X_.2 (by unfold Chg.Right; simp_all [X_]; try omega)]; rfl)
theorem iI_ (hl : p.batch.length ≤ 1000000) (hs : ∀ e ∈ p.batch, e.core.letter.size ≤ lots) (hm : isMark c.low) : Spec Tryz.prog 64 [.agg p.abs, .agg c.abs, int n] [] (fun _ : Unit => []) (fun _ => boo (yes (p.fits c.low c.view n))) := by
 unfold isMark isSeq at hm
 refine G_ Tryz.func64 rfl Tryz.ntmps64 rfl fun G w =>d_<|a_<|eb_ (L_ rfl) rfl rfl fun b3=>?_
 refine eb_ (L_ rfl) rfl rfl fun b4=>?_
 refine q_ 1 rfl<|g_<|c_<|d_<|a_<|q_ 1 rfl<|b_ (h_ tabOk rfl rfl l1_ List.not_mem_nil rfl) rfl rfl<|q_ 1 rfl<|b_ (h_ tabOk rfl rfl l0_ List.not_mem_nil rfl) rfl rfl<|q_ 2 rfl<|C_ (t := 12) rfl ?_ ?_
 rotate_left
 ·intro hc12
  exact q_ 27 rfl<|g_<|c_<|n_<|f_ (rs := [.tmp 6]) rfl (RV.tmp rfl RV.nil) (()) sn_<|bl_ (by unfold Prf.fits; exact ⟨fun h => (by cases h), fun h => by omega⟩)
 intro hc12
 refine q_ 1 rfl<|b_ (h_ tabOk rfl rfl l1_ List.not_mem_nil rfl) rfl rfl<|q_ 1 rfl<|b_ (h_ tabOk rfl rfl l0_ List.not_mem_nil rfl) rfl rfl<|b_ (s_ rfl rfl (by simp only [InR, lo, hi]; omega)) rfl rfl ?_
 refine q_ 3 rfl<|C_ (t := 20) rfl ?_ ?_
 rotate_left
 ·intro hc20
  exact q_ 19 rfl<|g_<|c_<|n_<|f_ (rs := [.tmp 6]) rfl (RV.tmp rfl RV.nil) (()) sn_<|bl_ (by unfold Prf.fits; exact ⟨fun h => (by cases h), fun h => by omega⟩)
 intro hc20
 refine q_ 1 rfl<|b_ (h_ tabOk rfl rfl l1_ List.not_mem_nil rfl) rfl rfl<|q_ 3 rfl<|C_ (t := 25) rfl ?_ ?_
 rotate_left
 ·intro hc25
  exact q_ 14 rfl<|g_<|c_<|n_<|f_ (rs := [.tmp 6]) rfl (RV.tmp rfl RV.nil) (()) sn_<|bl_ (by unfold Prf.fits; exact ⟨fun h => (by cases h), fun h => by omega⟩)
 intro hc25
 refine q_ 1 rfl<|b_ (h_ tabOk rfl rfl l1_ List.not_mem_nil rfl) rfl rfl<|q_ 1 rfl<|b_ (h_ tabOk rfl rfl l0_ List.not_mem_nil rfl) rfl rfl<|q_ 3 rfl<|C_ (t := 32) rfl ?_ ?_
 rotate_left
 ·intro hc32
  exact q_ 7 rfl<|g_<|c_<|n_<|f_ (rs := [.tmp 6]) rfl (RV.tmp rfl RV.nil) (()) sn_<|bl_ (by unfold Prf.fits; exact ⟨fun h => (by cases h), fun h => by omega⟩)
 intro hc32
 refine q_ 1 rfl<|b_ (h_ tabOk rfl rfl l1_ List.not_mem_nil rfl) rfl rfl<|q_ 1 rfl<|u_ (kA_ (es := p.batch) (n := n) hl hs) Casts.refl (by kernel_rfl) rfl rfl rfl ?_
 exact ap_<|fun _=>q_ 3 rfl<|g_<|c_<|n_<|f_ (rs := [.tmp 6]) rfl (RV.tmp rfl RV.nil) (()) sn_<|bl_ (by unfold Prf.fits; (rw [decide_eq_true_iff]; omega))
set_option maxHeartbeats 4000000 in
theorem hQ_ (h1 : Long c.prepared) (h2 : Long c.proposed) (h3 : c.points.length < 9223372036854775807) (g1 : Lets c.prepared) (g2 : Lets c.proposed) : Spec Tryz.prog 32 [.agg c.abs, int n] [] (fun _ : Unit => []) (fun _ => boo (yes (c.Right n))) := by
 refine G_ Tryz.func32 rfl Tryz.ntmps32 rfl fun G w =>d_<|a_<|eb_ (L_ rfl) rfl rfl fun b2=>?_
 refine q_ 1 rfl<|g_<|c_<|d_<|d_<|Y_ [] (.q 0 (.q 1 (.q 2 (.q 3 (.q 4 (.q 5 (.e 6 (.q 7 (.q 8 (.q 9 (.q 10 (.q 11 (.e 12 (.q 13 (.q 14 (.q 15 (.q 16 (.q 17 (.q 18 (.q 19 (.q 20 (.q 21 (.q 22 (.q 23 (.q 24 (.q 25 (.q 26 (.q 27 (.q 28 (.q 29 (.q 30 (.q 31 (.q 32 (.q 33 (.q 34 (.q 35 (.q 36 (.q 37 (.q 38 (.q 39 (.q 40 (.q 41 (.q 42 (.q 43 (.q 44 (.q 45 (.q 46 (.q 47 (.q 48 .nil))))))))))))))))))))))))))))))))))))))))))))))))) (by kernel_rfl) (by kernel_rfl) ?_
 refine qs_ 1 rfl<|l_ rfl (h_ tabOk rfl rfl l0_ List.not_mem_nil rfl) (by simp) rfl rfl ?_
 refine qs_ 2 rfl<|am_ (t := 15) rfl ?_ ?_
 ·intro hc15
  iterate 2 refine bq_ rfl rfl rfl ?_
  refine aE_ rfl rfl rfl<|qs_ 5 rfl<|aE_ rfl rfl rfl<|qs_ 36 rfl<|N_<|c_<|O_ rfl<|d_<|a_<|q_ 1 rfl<|g_<|c_<|n_<|i_ nofun<|f_ (rs := [.tmp 4]) rfl (RV.tmp rfl RV.nil) (()) sn_<|av_ fun h => ?_
  obtain ⟨h4, h5, h6, ⟨h7, h8, h9, h10, h11⟩, ⟨h12, h13, h14⟩, ⟨h15, h16, h17⟩⟩ := h
  have h00 : 0 < c.points.length := by omega
  have h18 := h9 _ (List.getElem?_eq_getElem h00)
  have h19 : isSeq c.view := ⟨by omega, by omega⟩
  omega
 intro hc15
 refine qs_ 1 rfl<|l_ rfl (h_ tabOk rfl rfl l0_ List.not_mem_nil rfl) (by simp) rfl rfl ?_
 refine I_ rfl (rview_s (x := c.view)) (by simp [mids, It.mids]) Casts.refl (by kernel_rfl) rfl rfl rfl ?_
 refine ap_<|fun _=>l_ rfl (aL_ rfl) (by simp) rfl rfl ?_
 refine qs_ 2 rfl<|am_ (t := 21) rfl ?_ ?_
 ·intro hc21
  iterate 2 refine bq_ rfl rfl rfl ?_
  refine aE_ rfl rfl rfl<|qs_ 36 rfl<|N_<|c_<|O_ rfl<|d_<|a_<|q_ 1 rfl<|g_<|c_<|n_<|i_ nofun<|f_ (rs := [.tmp 4]) rfl (RV.tmp rfl RV.nil) (()) sn_<|av_ fun h => ?_
  obtain ⟨h4, h5, h6, ⟨h7, h8, h9, h10, h11⟩, ⟨h12, h13, h14⟩, ⟨h15, h16, h17⟩⟩ := h
  have h00 : 0 < c.points.length := by omega
  have h18 := h9 _ (List.getElem?_eq_getElem h00)
  have h19 : isSeq c.view := ⟨by omega, by omega⟩
  simp_all
 intro hc21
 refine qs_ 1 rfl<|l_ rfl (h_ tabOk rfl rfl l0_ List.not_mem_nil rfl) (by simp) rfl rfl ?_
 refine I_ rfl (ku_ (x := c.low)) (by simp [mids, It.mids]) Casts.refl (by kernel_rfl) rfl rfl rfl ?_
 refine ap_<|fun _=>l_ rfl (aL_ rfl) (by simp) rfl rfl ?_
 refine qs_ 2 rfl<|am_ (t := 27) rfl ?_ ?_
 ·intro hc27
  refine qs_ 33 rfl<|N_<|c_<|O_ rfl<|d_<|a_<|q_ 1 rfl<|g_<|c_<|n_<|i_ nofun<|f_ (rs := [.tmp 4]) rfl (RV.tmp rfl RV.nil) (()) sn_<|av_ fun h => ?_
  obtain ⟨h4, h5, h6, ⟨h7, h8, h9, h10, h11⟩, ⟨h12, h13, h14⟩, ⟨h15, h16, h17⟩⟩ := h
  have h00 : 0 < c.points.length := by omega
  have h18 := h9 _ (List.getElem?_eq_getElem h00)
  have h19 : isSeq c.view := ⟨by omega, by omega⟩
  simp_all
 intro hc27
 refine qs_ 1 rfl<|l_ rfl (h_ tabOk rfl rfl l0_ List.not_mem_nil rfl) (by simp) rfl rfl ?_
 refine l_ rfl (z_ rfl Tryz.underlying23 (List.length_map _)) (by simp) rfl rfl ?_
 refine qs_ 3 rfl<|am_ (t := 33) rfl ?_ ?_
 ·intro hc33
  refine qs_ 27 rfl<|N_<|c_<|O_ rfl<|d_<|a_<|q_ 1 rfl<|g_<|c_<|n_<|i_ nofun<|f_ (rs := [.tmp 4]) rfl (RV.tmp rfl RV.nil) (()) sn_<|av_ fun h => ?_
  obtain ⟨h4, h5, h6, ⟨h7, h8, h9, h10, h11⟩, ⟨h12, h13, h14⟩, ⟨h15, h16, h17⟩⟩ := h
  have h00 : 0 < c.points.length := by omega
  have h18 := h9 _ (List.getElem?_eq_getElem h00)
  have h19 : isSeq c.view := ⟨by omega, by omega⟩
  omega
 intro hc33
 refine qs_ 1 rfl<|l_ rfl (h_ tabOk rfl rfl l0_ List.not_mem_nil rfl) (by simp) rfl rfl ?_
 refine l_ rfl (z_ rfl Tryz.underlying23 (List.length_map _)) (by simp) rfl rfl ?_
 refine qs_ 3 rfl<|am_ (t := 39) rfl ?_ ?_
 ·intro hc39
  refine qs_ 21 rfl<|N_<|c_<|O_ rfl<|d_<|a_<|q_ 1 rfl<|g_<|c_<|n_<|i_ nofun<|f_ (rs := [.tmp 4]) rfl (RV.tmp rfl RV.nil) (()) sn_<|av_ fun h => ?_
  obtain ⟨h4, h5, h6, ⟨h7, h8, h9, h10, h11⟩, ⟨h12, h13, h14⟩, ⟨h15, h16, h17⟩⟩ := h
  have h00 : 0 < c.points.length := by omega
  have h18 := h9 _ (List.getElem?_eq_getElem h00)
  have h19 : isSeq c.view := ⟨by omega, by omega⟩
  omega
 intro hc39
 refine qs_ 1 rfl<|l_ rfl (h_ tabOk rfl rfl l0_ List.not_mem_nil rfl) (by simp) rfl rfl ?_
 refine hx_ fun hx9 =>l_ rfl (D_ (q := 0) tabOk Tryz.underlying23 rfl rfl rfl rfl (aa_ (by omega)) rfl rfl) hx9 rfl rfl ?_
 refine l_ rfl (Z_ tabOk rfl rfl rfl rfl rfl) (by simp) rfl rfl ?_
 refine l_ rfl (au_ tabOk rfl rfl rfl) (by simp) rfl rfl ?_
 refine qs_ 1 rfl<|l_ rfl (h_ tabOk rfl rfl l0_ List.not_mem_nil rfl) (by simp) rfl rfl ?_
 refine qs_ 3 rfl<|am_ (t := 49) rfl ?_ ?_
 ·intro hc49
  refine qs_ 11 rfl<|N_<|c_<|O_ rfl<|d_<|a_<|q_ 1 rfl<|g_<|c_<|n_<|i_ nofun<|f_ (rs := [.tmp 4]) rfl (RV.tmp rfl RV.nil) (()) sn_<|av_ fun h => ?_
  obtain ⟨h4, h5, h6, ⟨h7, h8, h9, h10, h11⟩, ⟨h12, h13, h14⟩, ⟨h15, h16, h17⟩⟩ := h
  have h00 : 0 < c.points.length := by omega
  have h18 := h9 _ (List.getElem?_eq_getElem h00)
  have h19 : isSeq c.view := ⟨by omega, by omega⟩
  omega
 intro hc49
 refine qs_ 1 rfl<|l_ rfl (h_ tabOk rfl rfl l0_ List.not_mem_nil rfl) (by simp) rfl rfl ?_
 refine l_ rfl (z_ rfl Tryz.underlying24 (List.length_map _)) (by simp) rfl rfl ?_
 refine qs_ 3 rfl<|am_ (t := 55) rfl ?_ ?_
 ·intro hc55
  refine qs_ 5 rfl<|N_<|c_<|O_ rfl<|d_<|a_<|q_ 1 rfl<|g_<|c_<|n_<|i_ nofun<|f_ (rs := [.tmp 4]) rfl (RV.tmp rfl RV.nil) (()) sn_<|av_ fun h => ?_
  obtain ⟨h4, h5, h6, ⟨h7, h8, h9, h10, h11⟩, ⟨h12, h13, h14⟩, ⟨h15, h16, h17⟩⟩ := h
  have h00 : 0 < c.points.length := by omega
  have h18 := h9 _ (List.getElem?_eq_getElem h00)
  have h19 : isSeq c.view := ⟨by omega, by omega⟩
  omega
 intro hc55
 refine qs_ 1 rfl<|l_ rfl (h_ tabOk rfl rfl l0_ List.not_mem_nil rfl) (by simp) rfl rfl ?_
 refine l_ rfl (z_ rfl Tryz.underlying24 (List.length_map _)) (by simp) rfl rfl ?_
 refine qs_ 2 rfl<|N_<|c_<|r_ rfl ?_ ?_
 ·intro hc60
  refine d_<|a_<|q_ 1 rfl<|g_<|c_<|n_<|i_ nofun<|f_ (rs := [.tmp 4]) rfl (RV.tmp rfl RV.nil) (()) sn_<|av_ fun h => ?_
  obtain ⟨h4, h5, h6, ⟨h7, h8, h9, h10, h11⟩, ⟨h12, h13, h14⟩, ⟨h15, h16, h17⟩⟩ := h
  have h00 : 0 < c.points.length := by omega
  have h18 := h9 _ (List.getElem?_eq_getElem h00)
  have h19 : isSeq c.view := ⟨by omega, by omega⟩
  omega
 intro hc60
 have hm : isMark c.low := by simp_all
 have hlen : 1 ≤ c.points.length ∧ c.points.length ≤ 4 ∧ c.prepared.length ≤ 8 ∧ c.proposed.length ≤ 64 := by omega
 have h00 : 0 < c.points.length := by omega
 have hview : 1 ≤ c.view ∧ c.view ≤ 1048576 := by unfold isSeq at *; omega
 have hp0 : c.points[0].seq = c.low := by omega
 refine p_<|c_<|d_<|d_<|a_<|q_ 1 rfl<|b_ (h_ tabOk rfl rfl l0_ List.not_mem_nil rfl) rfl rfl<|b_ (z_ rfl Tryz.underlying23 (List.length_map _)) rfl rfl<|q_ 1 rfl<|g_<|c_<|t_<|S_ (ι := Nat) (fun z => [.blk b2 26 c.abs]) (fun z => [(1, int n), (2, ptr b2), (62, .sl 33 (c.points.map Pnt.abs)), (63, int (c.points.length : Nat)), (64, int (z : Nat))]) (fun z => z ≤ c.points.length ∧ ∀ j (hj : j < c.points.length), j < z → isMark c.points[j].seq ∧ (∀ h0 : 0 < j, c.points[j - 1].seq < c.points[j].seq)) (fun z => c.points.length - z) (0) (⟨Nat.zero_le _, by omega⟩) (by exact ⟨rfl, rfl, rfl, rfl, rfl, trivial⟩) sr_ ?_
 intro z hz
 refine d_<|a_<|q_ 1 rfl<|g_<|c_<|d_<|r_ rfl ?_ ?_
 ·intro hc65
  have hlt : z < c.points.length := by omega
  refine p_<|c_<|d_<|t_<|d_<|a_<|q_ 1 rfl<|b_ (D_ tabOk Tryz.underlying23 rfl rfl rfl rfl (aa_ (by omega)) rfl rfl) rfl rfl ?_
  refine b_ (K_ tabOk rfl rfl rfl (Pnt.size _)) rfl rfl<|eb_ (B_ tabOk rfl) rfl rfl fun b6=>?_
  refine q_ 1 rfl<|e_ (w_ (L' := (c.points[z]'hlt).abs) tabOk rfl rfl rfl u0_ (Pnt.size _) (Nat.le_of_ble_eq_true rfl) (Pnt.ones _) (by exact ga_ (Pnt.size _))) rfl rfl ?_
  refine g_<|c_<|d_<|Y_ [] (.q 0 (.q 1 (.e 2 (.q 3 (.q 4 (.q 5 (.q 6 (.q 7 (.q 8 (.q 9 (.q 10 (.q 11 (.q 12 (.q 13 (.q 14 (.q 15 (.q 16 (.q 17 (.q 18 (.q 19 .nil)))))))))))))))))))) (by kernel_rfl) (by kernel_rfl) ?_
  refine qs_ 1 rfl<|l_ rfl (h_ tabOk rfl rfl l0_ List.not_mem_nil rfl) (by simp) rfl rfl ?_
  refine I_ rfl (ku_ (x := (c.points[z]'hlt).seq)) (by simp [mids, It.mids]) Casts.refl (by kernel_rfl) rfl rfl rfl ?_
  refine ap_<|fun _=>l_ rfl (aL_ rfl) (by simp) rfl rfl ?_
  refine qs_ 1 rfl<|am_ (t := 73) rfl ?_ ?_
  ·intro hc73
   refine qs_ 15 rfl<|N_<|c_<|O_ rfl<|d_<|a_<|q_ 1 rfl<|g_<|c_<|n_<|E_<|i_ nofun<|i_ nofun<|E_<|i_ nofun<|f_ (rs := [.tmp 4]) rfl (RV.tmp rfl RV.nil) (()) sn_<|av_ fun h => ?_
   have m1 := h.2.2.2.1.2.2.2.1 _ (List.getElem_mem hlt)
   have m2 : 0 < z → c.points[z - 1].seq < c.points[z].seq := fun h0 => of_decide_eq_true (cD_ h.2.2.2.1.2.2.2.2 h0 hlt)
   exact absurd m1 (by assumption)
  intro hc73
  refine qs_ 3 rfl<|am_ (t := 76) rfl ?_ ?_
  rotate_left
  ·intro hc76
   refine qs_ 12 rfl<|N_<|c_<|V_ rfl<|p_<|o_<|c_<|a_<|b_ (s_ rfl rfl (by simp only [InR, lo, hi]; omega)) rfl rfl ?_
   refine q_ 1 rfl<|g_<|x_ (z + 1) (by omega) (⟨by omega, fun j hj hjz => by
    rcases Nat.lt_or_ge j z with h1 | h1
    ·exact hz.2 j hj h1
    obtain rfl : j = z := (by omega)
    simp_all⟩) (by exact ⟨rfl, rfl, rfl, rfl, rfl, trivial⟩) (sk_ sr_)
  intro hc76
  refine qs_ 1 rfl<|l_ rfl (h_ tabOk rfl rfl l1_ List.not_mem_nil rfl) (by simp) rfl rfl ?_
  refine qs_ 1 rfl<|l_ rfl (bf_ rfl rfl (by simp only [InR, lo, hi]; omega)) (by simp) rfl rfl ?_
  refine hx_ fun hx9 =>l_ rfl (D_ (q := z - 1) tabOk Tryz.underlying23 rfl rfl rfl (by omega) (aa_ (by omega)) rfl rfl) hx9 rfl rfl ?_
  refine l_ rfl (Z_ tabOk rfl rfl rfl rfl rfl) (by simp) rfl rfl ?_
  refine l_ rfl (au_ tabOk rfl rfl rfl) (by simp) rfl rfl ?_
  refine qs_ 1 rfl<|l_ rfl (h_ tabOk rfl rfl l0_ List.not_mem_nil rfl) (by simp) rfl rfl ?_
  refine qs_ 3 rfl<|N_<|c_<|r_ rfl ?_ ?_
  rotate_left
  ·intro hc88
   refine p_<|o_<|c_<|a_<|b_ (s_ rfl rfl (by simp only [InR, lo, hi]; omega)) rfl rfl ?_
   refine q_ 1 rfl<|g_<|x_ (z + 1) (by omega) (⟨by omega, fun j hj hjz => by
    rcases Nat.lt_or_ge j z with h1 | h1
    ·exact hz.2 j hj h1
    obtain rfl : j = z := (by omega)
    simp_all⟩) (by exact ⟨rfl, rfl, rfl, rfl, rfl, trivial⟩) (sk_ sr_)
  intro hc88
  refine d_<|a_<|q_ 1 rfl<|g_<|c_<|n_<|E_<|i_ nofun<|i_ nofun<|E_<|i_ nofun<|f_ (rs := [.tmp 4]) rfl (RV.tmp rfl RV.nil) (()) sn_<|av_ fun h => ?_
  have m1 := h.2.2.2.1.2.2.2.1 _ (List.getElem_mem hlt)
  have m2 : 0 < z → c.points[z - 1].seq < c.points[z].seq := fun h0 => of_decide_eq_true (cD_ h.2.2.2.1.2.2.2.2 h0 hlt)
  omega
 intro hc65
 have hallp := hz.2
 have hzp := hz.1
 have hcp := hc65
 refine Q_<|i_ nofun<|i_ nofun<|P_<|c_<|d_<|d_<|a_<|q_ 1 rfl<|b_ (h_ tabOk rfl rfl l0_ List.not_mem_nil rfl) rfl rfl<|b_ (z_ rfl Tryz.underlying24 (List.length_map _)) rfl rfl<|q_ 1 rfl<|g_<|c_<|t_<|S_ (ι := Nat) (fun z => [.blk b2 26 c.abs]) (fun z => [(1, int n), (2, ptr b2), (91, .sl 3 (c.prepared.map Prf.abs)), (92, int (c.prepared.length : Nat)), (93, int (z : Nat))]) (fun z => z ≤ c.prepared.length ∧ ∀ j (hj : j < c.prepared.length), j < z → c.prepared[j].fits c.low c.view n ∧ (∀ h0 : 0 < j, c.prepared[j - 1].lt c.prepared[j])) (fun z => c.prepared.length - z) (0) (⟨Nat.zero_le _, by omega⟩) (by exact ⟨rfl, rfl, rfl, rfl, rfl, trivial⟩) sr_ ?_
 intro z hz
 refine d_<|a_<|q_ 1 rfl<|g_<|c_<|d_<|r_ rfl ?_ ?_
 ·intro hc94
  have hlt : z < c.prepared.length := by omega
  refine p_<|c_<|d_<|t_<|d_<|a_<|q_ 1 rfl<|b_ (D_ tabOk Tryz.underlying24 rfl rfl rfl rfl (aa_ (by omega)) rfl rfl) rfl rfl ?_
  refine b_ (K_ tabOk rfl rfl rfl rfl) rfl rfl<|eb_ (B_ tabOk rfl) rfl rfl fun b8=>?_
  refine q_ 1 rfl<|e_ (w_ tabOk rfl rfl rfl u0_ rfl (Nat.le_of_ble_eq_true rfl) rfl rfl) rfl rfl<|g_<|c_<|d_<|Y_ [] (.q 0 (.q 1 (.q 2 (.e 3 (.q 4 (.q 5 (.q 6 (.q 7 (.q 8 (.q 9 (.q 10 (.q 11 (.q 12 (.q 13 (.q 14 (.q 15 (.q 16 (.q 17 (.q 18 (.q 19 (.q 20 .nil))))))))))))))))))))) (by kernel_rfl) (by kernel_rfl) ?_
  refine l_ rfl (F_ tabOk rfl rfl rfl l0_ List.not_mem_nil rfl) (by simp) rfl rfl ?_
  refine l_ rfl (F_ tabOk rfl rfl rfl l1_ List.not_mem_nil rfl) (by simp) rfl rfl ?_
  refine qs_ 1 rfl<|I_ rfl (iI_ (p := (c.prepared[z]'hlt)) (c := c) (n := n) (h1.2 _ (List.getElem_mem hlt)) (g1 _ (List.getElem_mem hlt)) hm) (by simp [mids, It.mids]) Casts.refl (by kernel_rfl) rfl rfl rfl ?_
  refine ap_<|fun _=>l_ rfl (ai_ rfl) (by simp) rfl rfl ?_
  refine qs_ 1 rfl<|cU_ (t := 103) rfl ?_ ?_
  ·intro hc103
   refine qs_ 15 rfl<|N_<|c_<|O_ rfl<|d_<|a_<|q_ 1 rfl<|g_<|c_<|n_<|E_<|i_ nofun<|i_ nofun<|E_<|i_ nofun<|f_ (rs := [.tmp 4]) rfl (RV.tmp rfl RV.nil) (()) sn_<|av_ fun h => ?_
   have m1 := h.2.2.2.2.1.2.2 _ (List.getElem_mem hlt)
   have m2 : 0 < z → c.prepared[z - 1].lt c.prepared[z] := fun h0 => of_decide_eq_true (cD_ h.2.2.2.2.1.2.1 h0 hlt)
   unfold Prf.lt at m2
   (have m3 := X_.2 m1; simp_all)
  intro hc103
  refine qs_ 3 rfl<|am_ (t := 106) rfl ?_ ?_
  rotate_left
  ·intro hc106
   refine qs_ 12 rfl<|N_<|c_<|V_ rfl<|p_<|o_<|c_<|a_<|b_ (s_ rfl rfl (by simp only [InR, lo, hi]; omega)) rfl rfl ?_
   refine q_ 1 rfl<|g_<|x_ (z + 1) (by omega) (⟨by omega, fun j hj hjz => by
    rcases Nat.lt_or_ge j z with h1 | h1
    ·exact hz.2 j hj h1
    obtain rfl : j = z := (by omega)
    exact ⟨X_.1 (by simpa using hc103), fun h0 => by unfold Prf.lt; omega⟩⟩) (by exact ⟨rfl, rfl, rfl, rfl, rfl, trivial⟩) (sk_ sr_)
  intro hc106
  refine qs_ 1 rfl<|l_ rfl (h_ tabOk rfl rfl l1_ List.not_mem_nil rfl) (by simp) rfl rfl ?_
  refine qs_ 1 rfl<|l_ rfl (bf_ rfl rfl (by simp only [InR, lo, hi]; omega)) (by simp) rfl rfl ?_
  refine hx_ fun hx9 =>l_ rfl (D_ (q := z - 1) tabOk Tryz.underlying24 rfl rfl rfl (by omega) (aa_ (by omega)) rfl rfl) hx9 rfl rfl ?_
  refine l_ rfl (Z_ tabOk rfl rfl rfl rfl rfl) (by simp) rfl rfl ?_
  refine l_ rfl (au_ tabOk rfl rfl rfl) (by simp) rfl rfl ?_
  refine qs_ 1 rfl<|l_ rfl (h_ tabOk rfl rfl l0_ List.not_mem_nil rfl) (by simp) rfl rfl ?_
  refine qs_ 3 rfl<|N_<|c_<|r_ rfl ?_ ?_
  rotate_left
  ·intro hc118
   refine p_<|o_<|c_<|a_<|b_ (s_ rfl rfl (by simp only [InR, lo, hi]; omega)) rfl rfl ?_
   refine q_ 1 rfl<|g_<|x_ (z + 1) (by omega) (⟨by omega, fun j hj hjz => by
    rcases Nat.lt_or_ge j z with h1 | h1
    ·exact hz.2 j hj h1
    obtain rfl : j = z := (by omega)
    exact ⟨X_.1 (by simpa using hc103), fun h0 => by unfold Prf.lt; omega⟩⟩) (by exact ⟨rfl, rfl, rfl, rfl, rfl, trivial⟩) (sk_ sr_)
  intro hc118
  refine d_<|a_<|q_ 1 rfl<|g_<|c_<|n_<|E_<|i_ nofun<|i_ nofun<|E_<|i_ nofun<|f_ (rs := [.tmp 4]) rfl (RV.tmp rfl RV.nil) (()) sn_<|av_ fun h => ?_
  have m1 := h.2.2.2.2.1.2.2 _ (List.getElem_mem hlt)
  have m2 : 0 < z → c.prepared[z - 1].lt c.prepared[z] := fun h0 => of_decide_eq_true (cD_ h.2.2.2.2.1.2.1 h0 hlt)
  unfold Prf.lt at m2
  omega
 intro hc94
 have hall := hz.2
 have hza := hz.1
 have hca := hc94
 refine Q_<|i_ nofun<|i_ nofun<|P_<|c_<|d_<|d_<|a_<|q_ 1 rfl<|b_ (h_ tabOk rfl rfl l0_ List.not_mem_nil rfl) rfl rfl<|b_ (z_ rfl Tryz.underlying24 (List.length_map _)) rfl rfl<|q_ 1 rfl<|g_<|c_<|t_<|S_ (ι := Nat) (fun z => [.blk b2 26 c.abs]) (fun z => [(1, int n), (2, ptr b2), (121, .sl 3 (c.proposed.map Prf.abs)), (122, int (c.proposed.length : Nat)), (123, int (z : Nat))]) (fun z => z ≤ c.proposed.length ∧ ∀ j (hj : j < c.proposed.length), j < z → c.proposed[j].fits c.low c.view n ∧ (∀ h0 : 0 < j, c.proposed[j - 1].lt2 c.proposed[j])) (fun z => c.proposed.length - z) (0) (⟨Nat.zero_le _, by omega⟩) (by exact ⟨rfl, rfl, rfl, rfl, rfl, trivial⟩) sr_ ?_
 intro z hz
 refine d_<|a_<|q_ 1 rfl<|g_<|c_<|d_<|r_ rfl ?_ ?_
 rotate_left
 ·intro hc124
  refine Q_<|i_ nofun<|i_ nofun<|P_<|c_<|d_<|a_<|q_ 1 rfl<|g_<|c_<|n_<|f_ (rs := [.tmp 4]) rfl (RV.tmp rfl RV.nil) (()) sn_<|bl_ ⟨fun _ => ?_, fun _ => rfl⟩
  refine ⟨hview.1, hview.2, hm, ⟨hlen.1, hlen.2.1, fun p hp => by rw [List.getElem?_eq_getElem h00] at hp; cases hp; exact hp0, fun p hp => ?_, fun j hj => ?_⟩, ⟨by omega, fun j hj => ?_, fun p hp => ?_⟩, ⟨by omega, fun j hj => ?_, fun p hp => ?_⟩⟩
  ·obtain ⟨j, hj, rfl⟩ := List.getElem_of_mem hp
   exact (hallp j hj (by omega)).1
  ·exact decide_eq_true ((hallp (j + 1) hj (by omega)).2 (by omega))
  ·exact decide_eq_true ((hall (j + 1) hj (by omega)).2 (by omega))
  ·obtain ⟨j, hj, rfl⟩ := List.getElem_of_mem hp
   exact (hall j hj (by omega)).1
  ·exact decide_eq_true ((hz.2 (j + 1) hj (by omega)).2 (by omega))
  obtain ⟨j, hj, rfl⟩ := List.getElem_of_mem hp
  exact (hz.2 j hj (by omega)).1
 intro hc124
 have hlt : z < c.proposed.length := by omega
 refine p_<|c_<|d_<|t_<|d_<|a_<|q_ 1 rfl<|b_ (D_ tabOk Tryz.underlying24 rfl rfl rfl rfl (aa_ (by omega)) rfl rfl) rfl rfl ?_
 refine b_ (K_ tabOk rfl rfl rfl rfl) rfl rfl<|eb_ (B_ tabOk rfl) rfl rfl fun b10=>?_
 refine q_ 1 rfl<|e_ (w_ tabOk rfl rfl rfl u0_ rfl (Nat.le_of_ble_eq_true rfl) rfl rfl) rfl rfl<|g_<|c_<|d_<|d_<|a_<|b_ (F_ tabOk rfl rfl rfl l0_ List.not_mem_nil rfl) rfl rfl<|b_ (F_ tabOk rfl rfl rfl l1_ List.not_mem_nil rfl) rfl rfl<|q_ 1 rfl<|u_ (iI_ (p := (c.proposed[z]'hlt)) (c := c) (n := n) (h2.2 _ (List.getElem_mem hlt)) (g2 _ (List.getElem_mem hlt)) hm) Casts.refl (by kernel_rfl) rfl rfl rfl ?_
 refine ap_<|fun _=>b_ (ai_ rfl) rfl rfl<|g_<|c_<|ac_ rfl ?_ ?_
 ·intro hc132
  refine d_<|a_<|q_ 1 rfl<|g_<|c_<|n_<|i_ nofun<|E_<|i_ nofun<|i_ nofun<|E_<|i_ nofun<|f_ (rs := [.tmp 4]) rfl (RV.tmp rfl RV.nil) (()) sn_<|av_ fun h => ?_
  have m1 := h.2.2.2.2.2.2.2 _ (List.getElem_mem hlt)
  have m3 := X_.2 m1
  simp_all
 intro hc132
 refine p_<|c_<|d_<|a_<|q_ 2 rfl<|g_<|c_<|r_ rfl ?_ ?_
 rotate_left
 ·intro hc134
  refine p_<|o_<|c_<|a_<|b_ (s_ rfl rfl (by simp only [InR, lo, hi]; omega)) rfl rfl ?_
  refine q_ 1 rfl<|g_<|x_ (z + 1) (by omega) (⟨by omega, fun j hj hjz => by
   rcases Nat.lt_or_ge j z with h1 | h1
   ·exact hz.2 j hj h1
   obtain rfl : j = z := (by omega)
   exact ⟨X_.1 (by simpa using hc132), fun h0 => by unfold Prf.lt2; omega⟩⟩) (by exact ⟨rfl, rfl, rfl, rfl, rfl, trivial⟩) (sk_ sr_)
 intro hc134
 refine d_<|a_<|q_ 1 rfl<|b_ (h_ tabOk rfl rfl l1_ List.not_mem_nil rfl) rfl rfl<|q_ 1 rfl<|b_ (bf_ rfl rfl (by simp only [InR, lo, hi]; omega)) rfl rfl ?_
 refine b_ (D_ (q := z - 1) tabOk Tryz.underlying24 rfl rfl rfl (by omega) (aa_ (by omega)) rfl rfl) rfl rfl ?_
 refine b_ (K_ tabOk rfl rfl rfl rfl) rfl rfl<|eb_ (B_ tabOk rfl) rfl rfl fun b11=>?_
 refine e_ (w_ tabOk rfl rfl rfl u0_ rfl (Nat.le_of_ble_eq_true rfl) rfl rfl) rfl rfl<|g_<|c_<|d_<|a_<|q_ 1 rfl<|b_ (h_ tabOk rfl rfl l0_ List.not_mem_nil rfl) rfl rfl<|q_ 1 rfl<|b_ (h_ tabOk rfl rfl l1_ List.not_mem_nil rfl) rfl rfl<|q_ 2 rfl<|C_ (t := 146) rfl ?_ ?_
 ·intro hc146
  refine q_ 13 rfl<|g_<|c_<|O_ rfl<|d_<|a_<|q_ 1 rfl<|g_<|c_<|n_<|E_<|i_ nofun<|i_ nofun<|E_<|i_ nofun<|f_ (rs := [.tmp 4]) rfl (RV.tmp rfl RV.nil) (()) sn_<|av_ fun h => ?_
  have m2 : 0 < z → c.proposed[z - 1].lt2 c.proposed[z] := fun h0 => of_decide_eq_true (cD_ h.2.2.2.2.2.2.1 h0 hlt)
  unfold Prf.lt2 at m2
  omega
 intro hc146
 refine q_ 1 rfl<|b_ (h_ tabOk rfl rfl l0_ List.not_mem_nil rfl) rfl rfl<|q_ 1 rfl<|b_ (h_ tabOk rfl rfl l1_ List.not_mem_nil rfl) rfl rfl<|q_ 2 rfl<|C_ (t := 152) rfl ?_ ?_
 rotate_left
 ·intro hc152
  refine q_ 7 rfl<|g_<|c_<|V_ rfl<|p_<|o_<|c_<|a_<|b_ (s_ rfl rfl (by simp only [InR, lo, hi]; omega)) rfl rfl ?_
  refine q_ 1 rfl<|g_<|x_ (z + 1) (by omega) (⟨by omega, fun j hj hjz => by
   rcases Nat.lt_or_ge j z with h1 | h1
   ·exact hz.2 j hj h1
   obtain rfl : j = z := (by omega)
   exact ⟨X_.1 (by simpa using hc132), fun h0 => by unfold Prf.lt2; omega⟩⟩) (by exact ⟨rfl, rfl, rfl, rfl, rfl, trivial⟩) (sk_ (sk_ sr_))
 intro hc152
 refine q_ 1 rfl<|b_ (h_ tabOk rfl rfl l0_ List.not_mem_nil rfl) rfl rfl<|q_ 1 rfl<|b_ (h_ tabOk rfl rfl l1_ List.not_mem_nil rfl) rfl rfl<|q_ 3 rfl<|g_<|c_<|r_ rfl ?_ ?_
 rotate_left
 ·intro hc159
  refine p_<|o_<|c_<|a_<|b_ (s_ rfl rfl (by simp only [InR, lo, hi]; omega)) rfl rfl ?_
  refine q_ 1 rfl<|g_<|x_ (z + 1) (by omega) (⟨by omega, fun j hj hjz => by
   rcases Nat.lt_or_ge j z with h1 | h1
   ·exact hz.2 j hj h1
   obtain rfl : j = z := (by omega)
   exact ⟨X_.1 (by simpa using hc132), fun h0 => by unfold Prf.lt2; omega⟩⟩) (by exact ⟨rfl, rfl, rfl, rfl, rfl, trivial⟩) (sk_ (sk_ sr_))
 intro hc159
 refine d_<|a_<|q_ 1 rfl<|g_<|c_<|n_<|E_<|i_ nofun<|i_ nofun<|E_<|i_ nofun<|f_ (rs := [.tmp 4]) rfl (RV.tmp rfl RV.nil) (()) sn_<|av_ fun h => ?_
 have m2 : 0 < z → c.proposed[z - 1].lt2 c.proposed[z] := fun h0 => of_decide_eq_true (cD_ h.2.2.2.2.2.2.1 h0 hlt)
 unfold Prf.lt2 at m2
 omega
theorem rcheck_s (h1 : Long c.prepared) (h2 : Long c.proposed) (h3 : c.points.length < 9223372036854775807) (g1 : Lets c.prepared) (g2 : Lets c.proposed) : Spec Tryz.prog 7 [.agg c.abs, int n] [] (fun _ : Unit => []) (fun _ => int (c.check n)) := by
 refine G_ Tryz.func7 rfl Tryz.ntmps7 rfl fun G w =>d_<|a_<|eb_ (L_ rfl) rfl rfl fun b2=>?_
 refine q_ 1 rfl<|g_<|c_<|d_<|d_<|a_<|q_ 3 rfl<|C_ (t := 7) rfl ?_ ?_
 ·intro hc7
  refine q_ 3 rfl<|g_<|c_<|O_ rfl<|d_<|a_<|q_ 1 rfl<|g_<|c_<|n_<|i_ nofun<|f_ (rs := [.tmp 4]) rfl (RV.tmp rfl RV.nil) (()) sn_<|congrArg int ?_
  unfold Chg.check
  (rw [if_pos (by omega)])
 intro hc7
 refine q_ 3 rfl<|g_<|c_<|r_ rfl ?_ ?_
 ·intro hc10
  refine d_<|a_<|q_ 1 rfl<|g_<|c_<|n_<|i_ nofun<|f_ (rs := [.tmp 4]) rfl (RV.tmp rfl RV.nil) (()) sn_<|congrArg int ?_
  unfold Chg.check
  (rw [if_pos (by omega)])
 intro hc10
 refine p_<|c_<|d_<|d_<|a_<|b_ (F_ tabOk rfl rfl rfl l0_ List.not_mem_nil rfl) rfl rfl<|q_ 1 rfl<|u_ (hQ_ (n := n) h1 h2 h3 g1 g2) Casts.refl (by kernel_rfl) rfl rfl rfl ?_
 refine ap_<|fun _=>b_ (ai_ rfl) rfl rfl<|g_<|c_<|ac_ rfl ?_ ?_
 ·intro hc14
  refine d_<|a_<|q_ 1 rfl<|g_<|c_<|n_<|i_ nofun<|f_ (rs := [.tmp 4]) rfl (RV.tmp rfl RV.nil) (()) sn_<|congrArg int ?_
  unfold Chg.check
  (rw [if_neg (by omega)]; simp_all)
 intro hc14
 refine p_<|c_<|d_<|a_<|q_ 1 rfl<|g_<|c_<|n_<|f_ (rs := [.tmp 4]) rfl (RV.tmp rfl RV.nil) (()) sn_<|congrArg int ?_
 unfold Chg.check
 (rw [if_neg (by omega)]; simp_all)
end
end Go.Proofs.YtggajaigfkekhaaGreat.A
namespace Go.Proofs.YtggajaigfkekhaaGreat
open Go.RowKit
abbrev intsD (v : Value) (xs : List Int) : Dt := rowD v xs.length (xs.map fun x => Value.int .i64 x)
def long8 (xs : List Int) : List UInt8 := xs.flatMap fun x => beBytes (u64 x) 8
theorem aC_ (xs : List Int) : (long8 xs).length = xs.length * 8 := by
  unfold long8
  induction xs with
  | nil => rfl
  | cons x xs ih => rw [List.flatMap_cons, List.length_append, ih, v_, List.length_cons]; omega
theorem fL_ {xs : List Int} {k : Nat} (h : k < xs.length) : long8 (xs.take (k + 1)) = long8 (xs.take k) ++ beBytes (u64 xs[k]) 8 := by
  unfold long8
  rw [List.take_succ_eq_append_getElem h, List.flatMap_append]
  simp
section
variable {S : List (World × List Nat)} {σ τ : Blks} {ρ : List Dt} {w : World}
set_option maxHeartbeats 1000000 in
theorem long_c {v u : Value} {l : List UInt8} {xs : List Int} (hw : Mem S σ ρ w) (hb : bytesD v l ∈ ρ) (hx : intsD u xs ∈ ρ) (hl : l.length + xs.length * 8 ≤ lots) : Calls Tryz.prog 77 #[v, u] w fun e w' => ∃ r, e = .returned r ∧ Mem S σ (bytesD r (l ++ long8 xs) :: ρ) w' := by
  have hL : lots = 100000000000 := rfl
  obtain ⟨A, c, rfl, hs1, hs2, hs3⟩ := (hw.data hx).shape
  have hA : xs ≠ [] → ∃ b off, A = some ⟨b, off, none⟩ := fun h => cM_ (hw.data hx) (by cases xs with | nil => exact absurd rfl h | cons e es => simp)
  refine ad_ [v, .slice A xs.length c] Tryz.func77 rfl Tryz.ntmps77 rfl (Mem S σ ρ) hw ?_
  refine d_ (a_ ?_)
  refine b_ (j_ rfl) rfl rfl ?_
  refine g_ (c_ ?_)
  refine d_ ?_
  refine d_ (a_ ?_)
  refine b_ (k_ rfl) rfl rfl ?_
  refine b_ (z_ rfl Tryz.underlying113) rfl rfl ?_
  refine b_ (k_ rfl) rfl rfl ?_
  refine g_ (c_ ?_)
  refine t_ ?_
  refine S_ (ι := Nat × Value) (fun z => [(0, z.2), (7, .slice A xs.length c), (8, .int .i64 (xs.length : Nat)), (9, .int .i64 (z.1 : Nat))]) (fun z w' => z.1 ≤ xs.length ∧ Mem S σ (bytesD z.2 (l ++ long8 (xs.take z.1)) :: ρ) w') (fun z => xs.length - z.1) (0, v) (by exact ⟨rfl, rfl, rfl, rfl, trivial⟩) (fun w' hw' => ⟨Nat.zero_le _, hw'.less (by intro x hx; simp only [List.take_zero, long8, List.flatMap_nil, List.append_nil] at hx; rcases List.mem_cons.1 hx with rfl | hx <;> simp [*])⟩) ?_
  intro z
  refine a0_ ?_
  intro hz
  refine d_ (a_ ?_)
  refine b_ (ay_ rfl rfl) rfl rfl ?_
  refine g_ (c_ ?_)
  refine d_ ?_
  refine r_ rfl ?_ ?_
  rotate_left
  · intro hc10
    refine Q_ ?_
    refine i_ (by intro h; cases h) ?_
    refine i_ (by intro h; cases h) ?_
    refine P_ ?_
    refine c_ ?_
    refine d_ (a_ ?_)
    refine b_ (k_ rfl) rfl rfl ?_
    refine b_ (j_ rfl) rfl rfl ?_
    refine g_ (c_ ?_)
    refine n_ ?_
    refine M_ rfl rfl ?_
    intro w' hw'
    rw [List.take_of_length_le (by omega)] at hw'
    exact ⟨_, rfl, hw'⟩
  intro hc10
  have hlt : z.1 < xs.length := by omega
  obtain ⟨bb, off, rfl⟩ := hA (by intro h0; rw [h0] at hlt; simp at hlt)
  refine p_ ?_
  refine c_ ?_
  refine d_ ?_
  refine t_ ?_
  refine d_ (a_ ?_)
  refine b_ (aD_ tabOk Tryz.underlying113 rfl rfl rfl (by omega)) rfl rfl ?_
  refine b_ (ea_ (u := .int .i64 (xs[z.1]'hlt)) (j := z.1 * 1) tabOk rfl rfl (by repeat (first | assumption | exact List.mem_cons_self | exact hmem _ | apply List.mem_cons_of_mem)) (by simp [hlt])) rfl rfl ?_
  refine b_ (j_ rfl) rfl rfl ?_
  refine g_ (c_ ?_)
  refine a_ ?_
  iterate 2 refine b_ (k_ rfl) rfl rfl ?_
  refine b_ (aw_ rfl Tryz.underlying134 (by kernel_rfl)) rfl rfl ?_
  refine u_ (by kernel_rfl) rfl rfl rfl ?_
  intro w hw
  refine (fw_ (l := l ++ long8 (xs.take z.1)) (x := u64 (xs[z.1]'hlt)) (n := 8) hw (hw.bytes (by repeat (first | assumption | exact List.mem_cons_self | exact hmem _ | apply List.mem_cons_of_mem))) (by rw [List.length_append, aC_, List.length_take]; omega) (cL_ _) rfl).mono ?_; rintro _ _ ⟨r, rfl, hm⟩; refine ⟨_, _, rfl, hm, ?_⟩; clear hm hw w
  refine b_ (j_ rfl) rfl rfl ?_
  refine g_ ?_
  refine o_ ?_
  refine c_ ?_
  refine a_ ?_
  refine b_ (s_ rfl rfl (by simp only [InR, lo, hi]; omega)) rfl rfl ?_
  refine b_ (k_ rfl) rfl rfl ?_
  refine g_ ?_
  refine x_ (z.1 + 1, r) (by show xs.length - (z.1 + 1) < xs.length - z.1; omega) (by exact ⟨rfl, rfl, rfl, rfl, trivial⟩) (fun w' hw' => ⟨hlt, ?_⟩)
  show Mem S σ (bytesD r (l ++ long8 (xs.take (z.1 + 1))) :: ρ) w'
  rw [fL_ hlt, ← List.append_assoc]
  exact hw'.less (fun x hx => by rcases List.mem_cons.1 hx with rfl | hx <;> simp [*])
end
abbrev ownB (v : Value) (l : List UInt8) : It := .pc (ownPc 5 1 v l.length (l.map bc))
def accS (σ : Blks) (l : List UInt8) (xs : List Int) (z : Nat × Value) : Blks := if z.1 = 0 then σ else ownB z.2 (l ++ long8 (xs.take z.1)) :: σ
section
variable {S : List (World × List Nat)} {σ τ : Blks} {ρ : List Dt} {w : World} {v : Value} {l : List UInt8} {xs : List Int}
theorem lC_ {z : Nat × Value} (hz : z.1 = 0 → z.2 = v) (hb : bytesD v l ∈ ρ) (hw : Mem S (accS σ l xs z) ρ w) : BytesV w z.2 (l ++ long8 (xs.take z.1)) := by
  by_cases h0 : z.1 = 0
  · rw [h0, hz h0]
    simpa [long8] using hw.bytes hb
  · unfold accS at hw
    rw [if_neg h0] at hw
    exact dn_ (hw.ownRow (e := 5) (size := 1) List.mem_cons_self)
theorem acc_drop {z : Nat × Value} {x : It} (hw : Mem S (x :: accS σ l xs z) ρ w) : Mem S (x :: σ) ρ w := by
  unfold accS at hw
  split at hw
  · exact hw
  · exact hw.sub (fun _ h => h) (List.Sublist.cons_cons _ (List.sublist_cons_self _ _))
set_option maxHeartbeats 1000000 in
theorem long_own {u : Value} (hw : Mem S σ ρ w) (hb : bytesD v l ∈ ρ) (hx : intsD u xs ∈ ρ) (hl : l.length + xs.length * 8 ≤ lots) (hn : xs ≠ []) : Calls Tryz.prog 77 #[v, u] w fun e w' => ∃ r, e = .returned r ∧ Mem S (ownB r (l ++ long8 xs) :: σ) ρ w' := by
  have hL : lots = 100000000000 := rfl
  obtain ⟨A, c, rfl, hs1, hs2, hs3⟩ := (hw.data hx).shape
  have hA : xs ≠ [] → ∃ b off, A = some ⟨b, off, none⟩ := fun h => cM_ (hw.data hx) (by cases xs with | nil => exact absurd rfl h | cons e es => simp)
  have hpos : 0 < xs.length := List.length_pos_iff.2 hn
  refine ad_ [v, .slice A xs.length c] Tryz.func77 rfl Tryz.ntmps77 rfl (Mem S σ ρ) hw ?_
  refine d_ (a_ ?_)
  refine b_ (j_ rfl) rfl rfl ?_
  refine g_ (c_ ?_)
  refine d_ ?_
  refine d_ (a_ ?_)
  refine b_ (k_ rfl) rfl rfl ?_
  refine b_ (z_ rfl Tryz.underlying113) rfl rfl ?_
  refine b_ (k_ rfl) rfl rfl ?_
  refine g_ (c_ ?_)
  refine t_ ?_
  refine S_ (ι := Nat × Value) (fun z => [(0, z.2), (7, .slice A xs.length c), (8, .int .i64 (xs.length : Nat)), (9, .int .i64 (z.1 : Nat))]) (fun z w' => (z.1 ≤ xs.length ∧ (z.1 = 0 → z.2 = v)) ∧ Mem S (accS σ l xs z) ρ w') (fun z => xs.length - z.1) (0, v) (by exact ⟨rfl, rfl, rfl, rfl, trivial⟩) (fun w' hw' => ⟨⟨Nat.zero_le _, fun _ => rfl⟩, hw'⟩) ?_
  intro z
  refine a0_ ?_
  rintro ⟨hz, hz1⟩
  refine d_ (a_ ?_)
  refine b_ (ay_ rfl rfl) rfl rfl ?_
  refine g_ (c_ ?_)
  refine d_ ?_
  refine r_ rfl ?_ ?_
  rotate_left
  · intro hc10
    refine Q_ ?_
    refine i_ (by intro h; cases h) ?_
    refine i_ (by intro h; cases h) ?_
    refine P_ ?_
    refine c_ ?_
    refine d_ (a_ ?_)
    refine b_ (k_ rfl) rfl rfl ?_
    refine b_ (j_ rfl) rfl rfl ?_
    refine g_ (c_ ?_)
    refine n_ ?_
    refine M_ rfl rfl ?_
    intro w' hw'
    unfold accS at hw'
    rw [if_neg (by omega), List.take_of_length_le (by omega)] at hw'
    exact ⟨_, rfl, hw'⟩
  intro hc10
  have hlt : z.1 < xs.length := by omega
  obtain ⟨bb, off, rfl⟩ := hA (by intro h0; rw [h0] at hlt; simp at hlt)
  refine p_ ?_
  refine c_ ?_
  refine d_ ?_
  refine t_ ?_
  refine d_ (a_ ?_)
  refine b_ (aD_ tabOk Tryz.underlying113 rfl rfl rfl (by omega)) rfl rfl ?_
  refine b_ (ea_ (u := .int .i64 (xs[z.1]'hlt)) (j := z.1 * 1) tabOk rfl rfl (by repeat (first | assumption | exact List.mem_cons_self | exact hmem _ | apply List.mem_cons_of_mem)) (by simp [hlt])) rfl rfl ?_
  refine b_ (j_ rfl) rfl rfl ?_
  refine g_ (c_ ?_)
  refine a_ ?_
  iterate 2 refine b_ (k_ rfl) rfl rfl ?_
  refine b_ (aw_ rfl Tryz.underlying134 (by kernel_rfl)) rfl rfl ?_
  refine u_ (by kernel_rfl) rfl rfl rfl ?_
  intro w hw
  refine (hS_ (l := l ++ long8 (xs.take z.1)) (x := u64 (xs[z.1]'hlt)) (n := 8) hw (lC_ hz1 hb hw) (by rw [List.length_append, aC_, List.length_take]; omega) (cL_ _) rfl).mono ?_; rintro _ _ ⟨r, rfl, hm⟩; refine ⟨_, _, rfl, hm, ?_⟩; clear hm hw w
  refine b_ (j_ rfl) rfl rfl ?_
  refine g_ ?_
  refine o_ ?_
  refine c_ ?_
  refine a_ ?_
  refine b_ (s_ rfl rfl (by simp only [InR, lo, hi]; omega)) rfl rfl ?_
  refine b_ (k_ rfl) rfl rfl ?_
  refine g_ ?_
  refine x_ (z.1 + 1, r) (by show xs.length - (z.1 + 1) < xs.length - z.1; omega) (by exact ⟨rfl, rfl, rfl, rfl, trivial⟩) (fun w' hw' => ⟨⟨hlt, fun h => absurd h (by simp)⟩, ?_⟩)
  show Mem S (accS σ l xs (z.1 + 1, r)) ρ w'
  unfold accS
  rw [if_neg (by simp)]
  show Mem S (ownB r (l ++ long8 (xs.take (z.1 + 1))) :: σ) ρ w'
  rw [fL_ hlt, ← List.append_assoc]
  exact acc_drop hw'
end
end Go.Proofs.YtggajaigfkekhaaGreat
namespace Go.Proofs.YtggajaigfkekhaaGreat.A
open Go.RowKit
structure Prf.Few (p : Prf) : Prop where
  len : p.batch.length ≤ 10
  all : ∀ e ∈ p.batch, e.Few
theorem Prf.Few.bytes {p : Prf} (h : p.Few) : (batchB p.batch).length ≤ 30000 := by
  have h1 := dq_ h.all
  have h2 := h.len
  unfold batchB
  rw [List.length_append, v_]
  omega
def Prf.bytes (p : Prf) : List UInt8 := long8 [p.seq, p.view] ++ rowB (batchB p.batch)
def prfsB (ps : List Prf) : List UInt8 := beBytes ps.length 2 ++ ps.flatMap Prf.bytes
theorem dj_ {ps : List Prf} (h : ∀ p ∈ ps, p.Few) : (ps.flatMap Prf.bytes).length ≤ ps.length * 40000 := by
  induction ps with
  | nil => simp
  | cons p ps ih =>
    have h1 := (h p (by simp)).bytes
    have h2 := ih (fun x hx => h x (by simp [hx]))
    have h3 := aC_ [p.seq, p.view]
    rw [List.flatMap_cons, List.length_append, Prf.bytes, rowB, List.length_append, List.length_append, v_, h3, List.length_cons, Nat.succ_mul]
    simp only [List.length_cons, List.length_nil]
    omega
def Pnt.bytes (p : Pnt) : List UInt8 := long8 [p.seq] ++ p.dig
theorem fb_ (ps : List Pnt) : (ps.flatMap Pnt.bytes).length = ps.length * 40 := by
  induction ps with
  | nil => rfl
  | cons p ps ih =>
    have h := p.len
    rw [List.flatMap_cons, List.length_append, ih, Pnt.bytes, List.length_append, aC_, List.length_cons]
    simp only [List.length_cons, List.length_nil]
    omega
structure Chg.Few (x : Chg) : Prop where
  pts : x.points.length ≤ 1000
  prep : x.prepared.length ≤ 1000
  prop : x.proposed.length ≤ 1000
  fprep : ∀ p ∈ x.prepared, p.Few
  fprop : ∀ p ∈ x.proposed, p.Few
def Chg.head (x : Chg) (k : Nat) : List UInt8 := [] ++ long8 [x.view, x.low] ++ beBytes x.points.length 2 ++ (x.points.take k).flatMap Pnt.bytes
def Chg.bytes (x : Chg) : List UInt8 := x.head x.points.length ++ prfsB x.prepared ++ prfsB x.proposed
theorem Chg.head_length (x : Chg) (k : Nat) (h : x.points.length ≤ 1000) : (x.head k).length ≤ 50000 := by
  unfold Chg.head
  have h1 : (x.points.take k).length ≤ x.points.length := by rw [List.length_take]; omega
  simp only [List.length_append, aC_, v_, fb_, List.length_cons, List.length_nil]
  omega
theorem en_ {ps : List Prf} (h : ∀ p ∈ ps, p.Few) (hn : ps.length ≤ 1000) : (prfsB ps).length ≤ 40000002 := by
  have := dj_ h
  unfold prfsB
  rw [List.length_append, v_]
  omega
theorem iK_ {K : List Nat} {w : World} {x : Value} {xs : List Int} : rep K w (ints xs) x ↔ IsRow K w x xs.length (xs.map fun y => .int .i64 y) := by
  have e : (xs.map fun x => [int x]) = (xs.map fun y : Int => (.int .i64 y : Value)).map fun u => [.v u] := by rw [List.map_map]; rfl
  constructor
  · rintro ⟨us, h1, h2⟩
    rw [e] at h2
    have := cE_ h2
    subst this
    simpa using h1
  · intro h
    refine ⟨_, by simpa using h, ?_⟩
    rw [e]; exact cY_
section
variable {l : List UInt8} {xs : List Int} {ps : List Prf}
theorem long_s (hl : l.length + xs.length * 8 ≤ lots) : Pure Tryz.prog 77 [byt l, ints xs] (byt (l ++ long8 xs)) := Pure.of2 fun K w vals hK hv => by
  obtain ⟨v, us', rfl, h1, u, us2, rfl, h2, h3⟩ := hv
  have h3 : us2 = [] := h3
  subst h3
  refine (long_c (((enter2 w K).add (z := bytesD v l) (row2 (bj_.1 h1))).add (z := intsD u xs) (row2 (iK_.1 h2))) (by simp) (by simp) hl).mono fun e w' ⟨r, he, hm⟩ => ⟨r, he, leave2 hm (by simp), bj_.2 (row3 hK (ent2 hm) (hm.data (z := bytesD r _) (by simp)))⟩
theorem long_o (hl : l.length + xs.length * 8 ≤ lots) (hn : xs ≠ []) : Spec Tryz.prog 77 [byt l, ints xs] [] (fun r : Value => [own 5 1 r ((l ++ long8 xs).map fun b => [.v (bc b)])]) (fun r => .v r) := Spec.ofOwnB fun K w vals hK hv => by
  obtain ⟨v, us', rfl, h1, u, us2, rfl, h2, h3⟩ := hv
  have h3 : us2 = [] := h3
  subst h3
  refine (long_own (((enter2 w K).add (z := bytesD v l) (row2 (bj_.1 h1))).add (z := intsD u xs) (row2 (iK_.1 h2))) (by simp) (by simp) hl hn).mono fun e w' ⟨r, he, hm⟩ => ⟨r, _, he, hm⟩
set_option maxHeartbeats 2000000 in
theorem kc_ (hl : l.length ≤ 100000000) (hn : ps.length ≤ 1000) (hf : ∀ p ∈ ps, p.Few) : Spec Tryz.prog 78 [byt l, prfsA ps] [] (fun _ : Unit => []) (fun _ => byt (l ++ prfsB ps)) := by
 have hL : lots = 100000000000 := rfl
 refine G_ Tryz.func78 rfl Tryz.ntmps78 rfl fun G w =>d_<|a_<|q_ 1 rfl<|g_<|c_<|d_<|a_<|q_ 2 rfl<|b_ (z_ rfl Tryz.underlying24 (List.length_map _)) rfl rfl<|b_ (al_ rfl Tryz.underlying134 (by kernel_rfl) (by simp only [InR, lo, hi]; omega)) rfl rfl ?_
 refine u_ (put_s (l := l) (x := ps.length) (n := 2) (by omega) (by omega) rfl) Casts.refl (by kernel_rfl) rfl rfl rfl ?_
 refine ap_<|fun _=>q_ 1 rfl<|g_<|c_<|d_<|d_<|a_<|q_ 1 rfl<|b_ (z_ rfl Tryz.underlying24 (List.length_map _)) rfl rfl<|q_ 1 rfl<|g_<|c_<|t_<|S_ (ι := Nat) (fun z => []) (fun z => [(0, byt (l ++ beBytes ps.length 2 ++ (ps.take z).flatMap Prf.bytes)), (12, prfsA ps), (13, int (ps.length : Nat)), (14, int (z : Nat))]) (fun z => z ≤ ps.length) (fun z => ps.length - z) (0) (Nat.zero_le _) ⟨congrArg (fun m => some (byt m)) (by simp), rfl, rfl, rfl, trivial⟩ sn_ ?_
 intro z hz
 have hlen : (l ++ beBytes ps.length 2 ++ (ps.take z).flatMap Prf.bytes).length ≤ 100000000 + 2 + 1000 * 40000 := by
  have h0 := dj_ (ps := ps.take z) (fun p hp' => hf p (List.mem_of_mem_take hp'))
  have h9 : (ps.take z).length ≤ ps.length := by simp; omega
  have h8 : (ps.take z).length * 40000 ≤ 1000 * 40000 := Nat.mul_le_mul_right _ (by omega)
  simp only [List.length_append, v_]
  omega
 refine d_<|a_<|q_ 1 rfl<|g_<|c_<|d_<|r_ rfl ?_ ?_
 rotate_left
 ·intro hc15
  refine Q_<|i_ nofun<|i_ nofun<|P_<|c_<|d_<|a_<|q_ 2 rfl<|g_<|c_<|n_<|f_ (rs := [.tmp 4]) rfl (RV.tmp rfl RV.nil) (()) sn_ ?_
  have e2 : (l ++ beBytes ps.length 2 ++ (ps.take z).flatMap Prf.bytes) = l ++ prfsB ps := by
   rw [List.take_of_length_le (by omega)]
   simp [prfsB]
  exact congrArg byt e2
 intro hc15
 have hlt : z < ps.length := by omega
 have hfp := hf _ (List.getElem_mem hlt)
 have hbl := hfp.bytes
 refine p_<|c_<|d_<|t_<|d_<|a_<|b_ (D_ tabOk Tryz.underlying24 rfl rfl rfl rfl (aa_ (by omega)) rfl rfl) rfl rfl ?_
 refine b_ (K_ tabOk rfl rfl rfl rfl) rfl rfl<|eb_ (B_ tabOk rfl) rfl rfl fun b6=>?_
 refine e_ (w_ tabOk rfl rfl rfl u0_ rfl (Nat.le_of_ble_eq_true rfl) rfl rfl) rfl rfl<|g_<|c_<|Y_ [] (.q 0 (.q 1 (.q 2 (.q 3 (.q 4 (.q 7 (.q 8 (.e 5 (.e 6 (.e 9 (.e 10 (.q 11 .nil)))))))))))) (by kernel_rfl) (by kernel_rfl) ?_
 refine qs_ 2 rfl<|l_ rfl (h_ tabOk rfl rfl l0_ List.not_mem_nil rfl) (by simp) rfl rfl ?_
 refine qs_ 1 rfl<|l_ rfl (h_ tabOk rfl rfl l0_ List.not_mem_nil rfl) (by simp) rfl rfl ?_
 refine qs_ 1 rfl<|l_ rfl (h_ tabOk rfl rfl l0_ List.not_mem_nil rfl) (by simp) rfl rfl ?_
 refine ex_ rfl (ae_ tabOk Tryz.underlying113 rfl rfl rfl rfl rfl rfl rfl) (by simp) rfl rfl ?_
 refine I_ rfl (long_s (l := (l ++ beBytes ps.length 2 ++ (ps.take z).flatMap Prf.bytes)) (xs := [(ps[z]'hlt).seq, (ps[z]'hlt).view]) (by simp only [List.length_append, v_, aC_, List.length_cons, List.length_nil] at *; omega)) (by simp [mids, It.mids]) Casts.refl (by kernel_rfl) rfl rfl rfl ?_
 refine ap_<|fun _=>I_ rfl (bbytes_s (es := (ps[z]'hlt).batch) (by have := hfp.len; omega) hfp.all) (by simp [mids, It.mids]) Casts.refl (by kernel_rfl) rfl rfl rfl ?_
 refine ap_<|fun _=>I_ rfl (row_s (l := (l ++ beBytes ps.length 2 ++ (ps.take z).flatMap Prf.bytes) ++ long8 [(ps[z]'hlt).seq, (ps[z]'hlt).view]) (m := batchB (ps[z]'hlt).batch) (by simp only [List.length_append, v_, aC_, List.length_cons, List.length_nil] at *; omega) (by omega)) (by simp [mids, It.mids]) Casts.refl (by kernel_rfl) rfl rfl rfl ?_
 refine ap_<|fun _=>qs_ 1 rfl<|N_<|o_<|c_<|a_<|b_ (s_ rfl rfl (by simp only [InR, lo, hi]; omega)) rfl rfl ?_
 refine q_ 1 rfl<|g_ ?_
 have e1 : (l ++ beBytes ps.length 2 ++ (ps.take z).flatMap Prf.bytes) ++ long8 [(ps[z]'hlt).seq, (ps[z]'hlt).view] ++ beBytes (batchB (ps[z]'hlt).batch).length 4 ++ batchB (ps[z]'hlt).batch = (l ++ beBytes ps.length 2 ++ (ps.take (z + 1)).flatMap Prf.bytes) := by
  rw [List.take_succ_eq_append_getElem hlt, List.flatMap_append]
  simp [Prf.bytes, rowB, long8]
 refine x_ (z + 1) (by omega) (by omega) ⟨congrArg (fun m => some (byt m)) e1, rfl, rfl, rfl, trivial⟩ sn_
abbrev bys (l : List UInt8) : List (List Abs) := l.map fun b => [Abs.v (bc b)]
theorem lt_ (a b : List UInt8) : bys a ++ bys b = bys (a ++ b) := by simp [bys]
theorem eM_ (l : List UInt8) : ∀ c ∈ bys l, ones c = true := by
  intro c hc
  obtain ⟨b, _, rfl⟩ := List.mem_map.1 hc
  rfl
theorem Pnt.tail (p : Pnt) : ((p.abs.drop 1).take 32).map (fun a => [a]) = bys p.dig := by
  show ((digA p.dig).take 32).map _ = _
  rw [List.take_of_length_le (by simp [digA, p.len])]
  simp [digA, bys]
theorem Pnt.tail_length (p : Pnt) : (p.abs.drop 1).length = 32 := by simp [Pnt.size]
variable {c : Chg}
set_option maxHeartbeats 2000000 in
theorem gq_ (hf : c.Few) : Spec Tryz.prog 38 [.agg c.abs] [] (fun _ : Unit => []) (fun _ => byt c.bytes) := by
 have hL : lots = 100000000000 := rfl
 have hn0 := hf.pts
 refine G_ Tryz.func38 rfl Tryz.ntmps38 rfl fun G w =>d_<|a_<|eb_ (L_ rfl) rfl rfl fun b1=>?_
 refine q_ 1 rfl<|g_<|c_<|d_<|Y_ [] (.q 0 (.q 1 (.q 2 (.q 3 (.q 6 (.q 7 (.q 8 (.q 9 (.e 4 (.e 5 (.e 10 (.q 11 .nil)))))))))))) (by kernel_rfl) (by kernel_rfl) ?_
 refine qs_ 1 rfl<|l_ rfl (h_ tabOk rfl rfl l0_ List.not_mem_nil rfl) (by simp) rfl rfl ?_
 refine qs_ 1 rfl<|l_ rfl (h_ tabOk rfl rfl l0_ List.not_mem_nil rfl) (by simp) rfl rfl ?_
 refine qs_ 1 rfl<|l_ rfl (h_ tabOk rfl rfl l0_ List.not_mem_nil rfl) (by simp) rfl rfl ?_
 refine l_ rfl (z_ rfl Tryz.underlying23 (List.length_map _)) (by simp) rfl rfl ?_
 refine l_ rfl (al_ rfl Tryz.underlying134 (by kernel_rfl) (by simp only [InR, lo, hi]; omega)) (by simp) rfl rfl ?_
 refine ex_ rfl (ae_ tabOk Tryz.underlying113 rfl rfl rfl rfl rfl rfl rfl) (by simp) rfl rfl ?_
 refine I_ rfl (long_s (l := []) (xs := [c.view, c.low]) (by simp; omega)) (by simp [mids, It.mids]) (Casts.cons (fun _ _ _ h => dU_ h) Casts.refl) (by kernel_rfl) rfl rfl rfl ?_
 refine ap_<|fun _=>I_ rfl (put_s (l := [] ++ long8 [c.view, c.low]) (x := c.points.length) (n := 2) (by simp only [List.nil_append, aC_, List.length_cons, List.length_nil]; omega) (by omega) rfl) (by simp [mids, It.mids]) Casts.refl (by kernel_rfl) rfl rfl rfl ?_
 refine ap_<|fun _=>qs_ 1 rfl<|N_<|c_<|d_<|d_<|a_<|q_ 1 rfl<|b_ (h_ tabOk rfl rfl l0_ List.not_mem_nil rfl) rfl rfl<|b_ (z_ rfl Tryz.underlying23 (List.length_map _)) rfl rfl<|q_ 1 rfl<|g_<|c_<|t_<|S_ (ι := Nat) (fun z => [.blk b1 26 c.abs]) (fun z => [(1, ptr b1), (3, byt (c.head z)), (18, pntsA c.points), (19, int (c.points.length : Nat)), (20, int (z : Nat))]) (fun z => z ≤ c.points.length) (fun z => c.points.length - z) (0) (Nat.zero_le _) ⟨rfl, congrArg (fun m => some (byt m)) (by simp [Chg.head, long8]), rfl, rfl, rfl, trivial⟩ sr_ ?_
 intro z hz
 have hlen := c.head_length z hf.pts
 have hpp := en_ hf.fprep hf.prep
 refine d_<|a_<|q_ 1 rfl<|g_<|c_<|d_<|r_ rfl ?_ ?_
 rotate_left
 ·intro hc21
  refine Q_<|i_ nofun<|i_ nofun<|P_<|c_<|d_<|Y_ [] (.q 0 (.q 1 (.q 2 (.q 4 (.q 5 (.e 3 (.e 6 (.q 7 .nil)))))))) (by kernel_rfl) (by kernel_rfl) ?_
  refine qs_ 2 rfl<|l_ rfl (h_ tabOk rfl rfl l0_ List.not_mem_nil rfl) (by simp) rfl rfl ?_
  refine qs_ 1 rfl<|l_ rfl (h_ tabOk rfl rfl l0_ List.not_mem_nil rfl) (by simp) rfl rfl ?_
  refine I_ rfl (kc_ (l := c.head z) (ps := c.prepared) (by omega) hf.prep hf.fprep) (by simp [mids, It.mids]) Casts.refl (by kernel_rfl) rfl rfl rfl ?_
  refine ap_<|fun _=>I_ rfl (kc_ (l := c.head z ++ prfsB c.prepared) (ps := c.proposed) (by rw [List.length_append]; omega) hf.prop hf.fprop) (by simp [mids, It.mids]) Casts.refl (by kernel_rfl) rfl rfl rfl ?_
  refine ap_<|fun _=>qs_ 1 rfl<|N_<|c_<|n_<|f_ (rs := [.tmp 2]) rfl (RV.tmp rfl RV.nil) (()) sn_ ?_
  have e2 : z = c.points.length := by omega
  subst e2
  exact congrArg byt (by simp [Chg.bytes])
 intro hc21
 have hlt : z < c.points.length := by omega
 have hd9 := (c.points[z]'hlt).len
 have hl8 := aC_ [(c.points[z]'hlt).seq]
 simp only [List.length_cons, List.length_nil] at hl8
 refine p_<|c_<|d_<|t_<|d_<|a_<|b_ (D_ tabOk Tryz.underlying23 rfl rfl rfl rfl (aa_ (by omega)) rfl rfl) rfl rfl ?_
 refine b_ (K_ tabOk rfl rfl rfl (Pnt.size _)) rfl rfl<|eb_ (B_ tabOk rfl) rfl rfl fun b5=>?_
 refine e_ (w_ (L' := (c.points[z]'hlt).abs) tabOk rfl rfl rfl u0_ (Pnt.size _) (Nat.le_of_ble_eq_true rfl) (Pnt.ones _) (by exact ga_ (Pnt.size _))) rfl rfl ?_
 refine g_<|c_<|fW_ [] 5 rfl rfl<|Y_ [] (.q 0 (.q 1 (.q 2 (.q 5 (.q 6 (.e 3 (.e 4 (.e 7 (.q 8 .nil))))))))) (by kernel_rfl) (by kernel_rfl) ?_
 refine qs_ 1 rfl<|l_ rfl (Z_ tabOk rfl rfl rfl rfl rfl) (by simp) rfl rfl ?_
 refine l_ rfl (au_ tabOk rfl rfl rfl) (by simp) rfl rfl ?_
 refine l_ rfl (Z_ tabOk rfl rfl rfl rfl rfl) (by simp) rfl rfl ?_
 refine hx_ fun hx9 =>l_ rfl (gx_ tabOk Tryz.underlying40 rfl rfl rfl rfl (Pnt.tail _) (by rw [Pnt.tail_length]; exact Nat.le_refl _)) hx9 rfl rfl ?_
 refine ex_ rfl (ae_ tabOk Tryz.underlying113 rfl rfl rfl rfl rfl rfl rfl) (by simp) rfl rfl ?_
 refine SX.callM rfl (long_o (l := c.head z) (xs := [(c.points[z]'hlt).seq]) (by simp; omega) (by simp)) (by simp [mids, It.mids]) Casts.refl (by kernel_rfl) rfl rfl rfl ?_
 refine ee_ (by repeat first|exact .nil|refine .blk (by repeat first|assumption|exact m0_|apply m1_) ?_|refine .rd (by repeat first|assumption|exact m0_|apply m1_) ?_|refine .pc (by repeat first|assumption|exact m0_|apply m1_) ?_|refine .rdpc (by repeat first|assumption|exact m0_|apply m1_) ?_) (fun _ => rfl) ?_
 intro r28
 refine it_ [] rfl (bd_ tabOk [] Tryz.underlying27 rfl rfl rfl rfl rfl rfl (eM_ _) (by unfold maxLen; simp only [bys, List.length_map, List.length_append, List.length_take, List.length_cons, List.length_nil]; omega) (by rw [show Tryz.prog.bytesOf 5 = 1 by kernel_rfl]; simp only [bys, List.length_map, List.length_append, List.length_take, List.length_cons, List.length_nil]; omega)) (by simp [mids, It.mids, ownPc]) (by simp) rfl rfl ?_
 rintro _ _ ⟨r31, rfl, rfl⟩
 refine hx_ fun hx9 =>qx_ 1 hx9 rfl<|N_<|o_<|c_<|a_<|b_ (s_ rfl rfl (by simp only [InR, lo, hi]; omega)) rfl rfl ?_
 refine q_ 1 rfl<|g_ ?_
 have e1 : c.head z ++ long8 [(c.points[z]'hlt).seq] ++ (c.points[z]'hlt).dig = c.head (z + 1) := by
  unfold Chg.head
  rw [List.take_succ_eq_append_getElem hlt, List.flatMap_append]
  simp [Pnt.bytes]
 refine cV_ [] (t := 3) rfl rfl<|x_ (z + 1) (by omega) (by omega) ⟨rfl, congrArg (fun m => some (Abs.sl 1 m)) ((lt_ _ _).trans (congrArg bys e1)), rfl, rfl, rfl, trivial⟩ sr_
end
section
variable {l m : List UInt8} {ps : List Prf} {c : Chg}
theorem rdig_s (hl : l.length + 32 ≤ lots) (hm : m.length = 32) : Spec Tryz.prog 81 [byt l, .agg (digA m)] [] (fun _ : Unit => []) (fun _ => byt (l ++ m)) := by
 have hL : lots = 100000000000 := rfl
 refine G_ Tryz.func81 rfl Tryz.ntmps81 rfl fun G w =>d_<|a_<|eb_ (L_ rfl) rfl rfl fun b3=>?_
 refine q_ 1 rfl<|g_<|c_<|d_<|a_<|eb_ (cm_ tabOk Tryz.underlying27 rfl rfl rfl rfl rfl rfl rfl) rfl rfl fun r8=>?_
 refine q_ 1 rfl<|eb_ (bd_ tabOk [] Tryz.underlying27 rfl rfl rfl rfl rfl rfl (eM_ _) (by unfold maxLen; simp only [bys, List.length_map, List.length_append, List.length_take, List.length_cons, List.length_nil]; omega) (by rw [show Tryz.prog.bytesOf 5 = 1 by kernel_rfl]; simp only [bys, List.length_map, List.length_append, List.length_take, List.length_cons, List.length_nil]; omega)) rfl rfl fun r10=>?_
 rw [show ([] : List (List Abs)) ++ (l.map fun b => [Abs.v (bc b)]) = bys (l ++ m.take 0) by simp]
 refine q_ 1 rfl<|g_<|c_<|d_<|d_<|a_<|b_ (F_ tabOk rfl rfl rfl l1_ List.not_mem_nil (by simp [digA, hm])) rfl rfl ?_
 refine q_ 1 rfl<|g_<|c_<|t_<|S_ (ι := Nat × Value) (fun z => [own 5 1 z.2 (bys (l ++ m.take z.1))]) (fun z => [(5, .v z.2), (11, .agg (digA m)), (12, int (z.1 : Nat))]) (fun z => z.1 ≤ 32) (fun z => 32 - z.1) ((0, r10)) (Nat.zero_le _) (by exact ⟨rfl, rfl, rfl, trivial⟩) (sc_ sn_) ?_
 intro z hz
 refine d_<|a_<|q_ 1 rfl<|g_<|c_<|d_<|r_ rfl ?_ ?_
 rotate_left
 ·intro hc13
  exact Q_<|i_ nofun<|i_ nofun<|P_<|c_<|d_<|a_<|q_ 2 rfl<|g_<|c_<|n_<|cV_ [] (t := 4) rfl rfl<|f_ (rs := [.tmp 4]) rfl (RV.tmp rfl RV.nil) (()) sn_<|congrArg byt (by rw [List.take_of_length_le (by omega)])
 intro hc13
 have hlt : z.1 < 32 := by omega
 refine p_<|c_<|d_<|t_<|d_<|a_<|b_ (is_ (q := z.1) tabOk Tryz.underlying40 rfl rfl rfl rfl rfl (by omega) (at_map1 (by omega))) rfl rfl ?_
 refine q_ 1 rfl<|g_<|c_<|a_<|q_ 2 rfl<|e_ (ae_ tabOk Tryz.underlying27 rfl rfl rfl rfl rfl rfl rfl) rfl rfl<|eb_ (bd_ tabOk [] Tryz.underlying27 rfl rfl rfl rfl rfl rfl (eM_ [m[z.1]'(by omega)]) (by unfold maxLen; simp only [bys, List.length_map, List.length_append, List.length_take, List.length_cons, List.length_nil]; omega) (by rw [show Tryz.prog.bytesOf 5 = 1 by kernel_rfl]; simp only [bys, List.length_map, List.length_append, List.length_take, List.length_cons, List.length_nil]; omega)) rfl rfl fun r18=>?_
 have e9 : bys (l ++ m.take z.1) ++ [cellsA (Abs.v (bc (m[z.1]'(by omega))))] = bys (l ++ m.take (z.1 + 1)) := by
  show bys (l ++ m.take z.1) ++ bys [m[z.1]'(by omega)] = _
  rw [lt_, List.append_assoc, ← List.take_succ_eq_append_getElem]
 rw [e9]
 refine q_ 1 rfl<|g_<|o_<|c_<|a_<|b_ (s_ rfl rfl (by simp only [InR, lo, hi]; omega)) rfl rfl ?_
 refine q_ 1 rfl<|g_<|x_ ((z.1 + 1, r18)) (by omega) (by omega) (by exact ⟨rfl, rfl, rfl, trivial⟩) sr_
set_option maxHeartbeats 2000000 in
theorem gT_ (hl : l.length ≤ 100000000) (hn : ps.length ≤ 1000) (hf : ∀ p ∈ ps, p.Few) : Spec Tryz.prog 82 [byt l, prfsA ps] [] (fun _ : Unit => []) (fun _ => byt (l ++ prfsB ps)) := by
 have hL : lots = 100000000000 := rfl
 refine G_ Tryz.func82 rfl Tryz.ntmps82 rfl fun G w =>d_<|a_<|q_ 1 rfl<|g_<|c_<|d_<|a_<|q_ 2 rfl<|b_ (z_ rfl Tryz.underlying24 (List.length_map _)) rfl rfl<|b_ (al_ rfl Tryz.underlying134 (by kernel_rfl) (by simp only [InR, lo, hi]; omega)) rfl rfl ?_
 refine u_ (em_ (l := l) (x := ps.length) (n := 2) (by omega) rfl) Casts.refl (by kernel_rfl) rfl rfl rfl ?_
 refine ap_<|fun _=>q_ 1 rfl<|g_<|c_<|d_<|d_<|a_<|q_ 1 rfl<|b_ (z_ rfl Tryz.underlying24 (List.length_map _)) rfl rfl<|q_ 1 rfl<|g_<|c_<|t_<|S_ (ι := Nat) (fun z => []) (fun z => [(0, byt (l ++ beBytes ps.length 2 ++ (ps.take z).flatMap Prf.bytes)), (12, prfsA ps), (13, int (ps.length : Nat)), (14, int (z : Nat))]) (fun z => z ≤ ps.length) (fun z => ps.length - z) (0) (Nat.zero_le _) ⟨congrArg (fun m => some (byt m)) (by simp), rfl, rfl, rfl, trivial⟩ sn_ ?_
 intro z hz
 have hlen : (l ++ beBytes ps.length 2 ++ (ps.take z).flatMap Prf.bytes).length ≤ 100000000 + 2 + 1000 * 40000 := by
  have h0 := dj_ (ps := ps.take z) (fun p hp' => hf p (List.mem_of_mem_take hp'))
  have h9 : (ps.take z).length ≤ ps.length := by simp; omega
  have h8 : (ps.take z).length * 40000 ≤ 1000 * 40000 := Nat.mul_le_mul_right _ (by omega)
  simp only [List.length_append, v_]
  omega
 refine d_<|a_<|q_ 1 rfl<|g_<|c_<|d_<|r_ rfl ?_ ?_
 rotate_left
 ·intro hc15
  refine Q_<|i_ nofun<|i_ nofun<|P_<|c_<|d_<|a_<|q_ 2 rfl<|g_<|c_<|n_<|f_ (rs := [.tmp 4]) rfl (RV.tmp rfl RV.nil) (()) sn_ ?_
  have e2 : (l ++ beBytes ps.length 2 ++ (ps.take z).flatMap Prf.bytes) = l ++ prfsB ps := by
   rw [List.take_of_length_le (by omega)]
   simp [prfsB]
  exact congrArg byt e2
 intro hc15
 have hlt : z < ps.length := by omega
 have hfp := hf _ (List.getElem_mem hlt)
 have hbl := hfp.bytes
 refine p_<|c_<|d_<|t_<|d_<|a_<|b_ (D_ tabOk Tryz.underlying24 rfl rfl rfl rfl (aa_ (by omega)) rfl rfl) rfl rfl ?_
 refine b_ (K_ tabOk rfl rfl rfl rfl) rfl rfl<|eb_ (B_ tabOk rfl) rfl rfl fun b6=>?_
 refine e_ (w_ tabOk rfl rfl rfl u0_ rfl (Nat.le_of_ble_eq_true rfl) rfl rfl) rfl rfl<|g_<|c_<|d_<|Y_ [] (.q 0 (.q 1 (.q 2 (.q 3 (.q 5 (.q 6 (.q 7 (.e 4 (.e 8 (.q 9 .nil)))))))))) (by kernel_rfl) (by kernel_rfl) ?_
 refine qs_ 2 rfl<|l_ rfl (h_ tabOk rfl rfl l0_ List.not_mem_nil rfl) (by simp) rfl rfl ?_
 refine hx_ fun hx9 =>l_ rfl (aw_ rfl Tryz.underlying134 (by kernel_rfl)) hx9 rfl rfl ?_
 refine qs_ 1 rfl<|l_ rfl (h_ tabOk rfl rfl l0_ List.not_mem_nil rfl) (by simp) rfl rfl ?_
 refine l_ rfl (aw_ rfl Tryz.underlying134 (by kernel_rfl)) hx9 rfl rfl ?_
 refine I_ rfl (em_ (l := (l ++ beBytes ps.length 2 ++ (ps.take z).flatMap Prf.bytes)) (x := u64 (ps[z]'hlt).seq) (n := 8) (by omega) rfl) (by simp [mids, It.mids]) Casts.refl (by kernel_rfl) rfl rfl rfl ?_
 refine ap_<|fun _=>I_ rfl (em_ (l := (l ++ beBytes ps.length 2 ++ (ps.take z).flatMap Prf.bytes) ++ beBytes (u64 (ps[z]'hlt).seq) 8) (x := u64 (ps[z]'hlt).view) (n := 8) (by simp only [List.length_append, v_, aC_, List.length_cons, List.length_nil] at *; omega) rfl) (by simp [mids, It.mids]) Casts.refl (by kernel_rfl) rfl rfl rfl ?_
 refine ap_<|fun _=>qs_ 1 rfl<|N_<|c_<|a_<|q_ 2 rfl<|b_ (h_ tabOk rfl rfl l0_ List.not_mem_nil rfl) rfl rfl<|u_ (kB_ (es := (ps[z]'hlt).batch) (by have := hfp.len; omega) hfp.all) Casts.refl (by kernel_rfl) rfl rfl rfl ?_
 refine ap_<|fun _=>u_ (rrow_s (l := (l ++ beBytes ps.length 2 ++ (ps.take z).flatMap Prf.bytes) ++ beBytes (u64 (ps[z]'hlt).seq) 8 ++ beBytes (u64 (ps[z]'hlt).view) 8) (m := batchB (ps[z]'hlt).batch) (by simp only [List.length_append, v_, aC_, List.length_cons, List.length_nil] at *; omega) (by omega)) Casts.refl (by kernel_rfl) rfl rfl rfl ?_
 refine ap_<|fun _=>q_ 1 rfl<|g_<|o_<|c_<|a_<|b_ (s_ rfl rfl (by simp only [InR, lo, hi]; omega)) rfl rfl ?_
 refine q_ 1 rfl<|g_ ?_
 have e1 : (l ++ beBytes ps.length 2 ++ (ps.take z).flatMap Prf.bytes) ++ beBytes (u64 (ps[z]'hlt).seq) 8 ++ beBytes (u64 (ps[z]'hlt).view) 8 ++ beBytes (batchB (ps[z]'hlt).batch).length 4 ++ batchB (ps[z]'hlt).batch = (l ++ beBytes ps.length 2 ++ (ps.take (z + 1)).flatMap Prf.bytes) := by
  rw [List.take_succ_eq_append_getElem hlt, List.flatMap_append]
  simp [Prf.bytes, rowB, long8]
 refine x_ (z + 1) (by omega) (by omega) ⟨congrArg (fun m => some (byt m)) e1, rfl, rfl, rfl, trivial⟩ sn_
set_option maxHeartbeats 2000000 in
theorem rbytes_s (hf : c.Few) : Spec Tryz.prog 41 [.agg c.abs] [] (fun _ : Unit => []) (fun _ => byt c.bytes) := by
 have hL : lots = 100000000000 := rfl
 have hn0 := hf.pts
 refine G_ Tryz.func41 rfl Tryz.ntmps41 rfl fun G w =>d_<|a_<|eb_ (L_ rfl) rfl rfl fun b1=>?_
 refine q_ 1 rfl<|g_<|c_<|d_<|Y_ [] (.q 0 (.q 1 (.q 2 (.q 4 (.q 5 (.q 6 (.e 3 (.e 7 (.q 8 .nil))))))))) (by kernel_rfl) (by kernel_rfl) ?_
 refine qs_ 1 rfl<|l_ rfl (h_ tabOk rfl rfl l0_ List.not_mem_nil rfl) (by simp) rfl rfl ?_
 refine hx_ fun hx9 =>l_ rfl (aw_ rfl Tryz.underlying134 (by kernel_rfl)) hx9 rfl rfl ?_
 refine qs_ 1 rfl<|l_ rfl (h_ tabOk rfl rfl l0_ List.not_mem_nil rfl) (by simp) rfl rfl ?_
 refine l_ rfl (aw_ rfl Tryz.underlying134 (by kernel_rfl)) hx9 rfl rfl ?_
 refine I_ rfl (em_ (l := []) (x := u64 c.view) (n := 8) (by simp; omega) rfl) (by simp [mids, It.mids]) (Casts.cons (fun _ _ _ h => dU_ h) Casts.refl) (by kernel_rfl) rfl rfl rfl ?_
 refine ap_<|fun _=>I_ rfl (em_ (l := [] ++ beBytes (u64 c.view) 8) (x := u64 c.low) (n := 8) (by simp [v_]; omega) rfl) (by simp [mids, It.mids]) Casts.refl (by kernel_rfl) rfl rfl rfl ?_
 refine ap_<|fun _=>qs_ 1 rfl<|N_<|c_<|d_<|a_<|q_ 2 rfl<|b_ (h_ tabOk rfl rfl l0_ List.not_mem_nil rfl) rfl rfl<|b_ (z_ rfl Tryz.underlying23 (List.length_map _)) rfl rfl<|b_ (al_ rfl Tryz.underlying134 (by kernel_rfl) (by simp only [InR, lo, hi]; omega)) rfl rfl ?_
 refine u_ (em_ (l := [] ++ beBytes (u64 c.view) 8 ++ beBytes (u64 c.low) 8) (x := c.points.length) (n := 2) (by simp [v_]; omega) rfl) Casts.refl (by kernel_rfl) rfl rfl rfl ?_
 refine ap_<|fun _=>q_ 1 rfl<|g_<|c_<|d_<|d_<|a_<|q_ 1 rfl<|b_ (h_ tabOk rfl rfl l0_ List.not_mem_nil rfl) rfl rfl<|b_ (z_ rfl Tryz.underlying23 (List.length_map _)) rfl rfl<|q_ 1 rfl<|g_<|c_<|t_<|S_ (ι := Nat) (fun z => [.blk b1 26 c.abs]) (fun z => [(1, ptr b1), (3, byt (c.head z)), (21, pntsA c.points), (22, int (c.points.length : Nat)), (23, int (z : Nat))]) (fun z => z ≤ c.points.length) (fun z => c.points.length - z) (0) (Nat.zero_le _) ⟨rfl, congrArg (fun m => some (byt m)) (by simp [Chg.head, long8]), rfl, rfl, rfl, trivial⟩ sr_ ?_
 intro z hz
 have hlen := c.head_length z hf.pts
 have hpp := en_ hf.fprep hf.prep
 refine d_<|a_<|q_ 1 rfl<|g_<|c_<|d_<|r_ rfl ?_ ?_
 rotate_left
 ·intro hc24
  refine Q_<|i_ nofun<|i_ nofun<|P_<|c_<|d_<|Y_ [] (.q 0 (.q 1 (.q 2 (.q 4 (.q 5 (.e 3 (.e 6 (.q 7 .nil)))))))) (by kernel_rfl) (by kernel_rfl) ?_
  refine qs_ 2 rfl<|l_ rfl (h_ tabOk rfl rfl l0_ List.not_mem_nil rfl) (by simp) rfl rfl ?_
  refine qs_ 1 rfl<|l_ rfl (h_ tabOk rfl rfl l0_ List.not_mem_nil rfl) (by simp) rfl rfl ?_
  refine I_ rfl (gT_ (l := c.head z) (ps := c.prepared) (by omega) hf.prep hf.fprep) (by simp [mids, It.mids]) Casts.refl (by kernel_rfl) rfl rfl rfl ?_
  refine ap_<|fun _=>I_ rfl (gT_ (l := c.head z ++ prfsB c.prepared) (ps := c.proposed) (by rw [List.length_append]; omega) hf.prop hf.fprop) (by simp [mids, It.mids]) Casts.refl (by kernel_rfl) rfl rfl rfl ?_
  refine ap_<|fun _=>qs_ 1 rfl<|N_<|c_<|n_<|f_ (rs := [.tmp 2]) rfl (RV.tmp rfl RV.nil) (()) sn_ ?_
  have e2 : z = c.points.length := by omega
  subst e2
  exact congrArg byt (by simp [Chg.bytes])
 intro hc24
 have hlt : z < c.points.length := by omega
 refine p_<|c_<|d_<|t_<|d_<|a_<|b_ (D_ tabOk Tryz.underlying23 rfl rfl rfl rfl (aa_ (by omega)) rfl rfl) rfl rfl ?_
 refine b_ (K_ tabOk rfl rfl rfl (Pnt.size _)) rfl rfl<|eb_ (B_ tabOk rfl) rfl rfl fun b5=>?_
 refine e_ (w_ (L' := (c.points[z]'hlt).abs) tabOk rfl rfl rfl u0_ (Pnt.size _) (Nat.le_of_ble_eq_true rfl) (Pnt.ones _) (by exact ga_ (Pnt.size _))) rfl rfl ?_
 refine g_<|c_<|fW_ [] 5 rfl rfl<|Y_ [] (.q 0 (.q 1 (.q 2 (.q 3 (.q 5 (.q 6 (.e 4 (.e 7 (.q 8 .nil))))))))) (by kernel_rfl) (by kernel_rfl) ?_
 refine qs_ 1 rfl<|l_ rfl (Z_ tabOk rfl rfl rfl rfl rfl) (by simp) rfl rfl ?_
 refine l_ rfl (au_ tabOk rfl rfl rfl) (by simp) rfl rfl ?_
 refine hx_ fun hx9 =>l_ rfl (aw_ rfl Tryz.underlying134 (by kernel_rfl)) hx9 rfl rfl ?_
 refine l_ rfl (Z_ tabOk rfl rfl rfl rfl rfl) (by simp) rfl rfl ?_
 refine l_ rfl (K_ tabOk rfl rfl rfl (Pnt.tail_length _)) hx9 rfl rfl<|I_ rfl (em_ (l := c.head z) (x := u64 (c.points[z]'hlt).seq) (n := 8) (by omega) rfl) (by simp [mids, It.mids]) Casts.refl (by kernel_rfl) rfl rfl rfl ?_
 refine ap_<|fun _=>I_ rfl (rdig_s (l := c.head z ++ beBytes (u64 (c.points[z]'hlt).seq) 8) (m := (c.points[z]'hlt).dig) (by rw [List.length_append, v_]; omega) (c.points[z]'hlt).len) (by simp [mids, It.mids]) Casts.refl (by kernel_rfl) rfl rfl rfl ?_
 refine ap_<|fun _=>qs_ 1 rfl<|N_<|o_<|c_<|a_<|b_ (s_ rfl rfl (by simp only [InR, lo, hi]; omega)) rfl rfl ?_
 refine q_ 1 rfl<|g_ ?_
 have e1 : c.head z ++ beBytes (u64 (c.points[z]'hlt).seq) 8 ++ (c.points[z]'hlt).dig = c.head (z + 1) := by
  unfold Chg.head
  rw [List.take_succ_eq_append_getElem hlt, List.flatMap_append]
  simp [Pnt.bytes, long8]
 refine x_ (z + 1) (by omega) (by omega) ⟨rfl, congrArg (fun m => some (byt m)) e1, rfl, rfl, rfl, trivial⟩ sr_
end
def Rd.pr1 (s : Rd) : Rd := s.fixed 8
def Rd.pr2 (s : Rd) : Rd := (s.fixed 8).fixed 8
def Rd.prOut (s : Rd) (room : Int) : List UInt8 := (Rd.pr2 s).rowOut room
def Rd.prfs (n room : Int) : Nat → Rd → List Prf → Bool → List Prf × Bool × Rd
  | 0, s, acc, o => (acc, o, s)
  | k + 1, s, acc, o => Rd.prfs n room k ((Rd.pr2 s).row room) (acc ++ [⟨sg (s.num 8), sg ((Rd.pr1 s).num 8), (parseS (Rd.prOut s room) n).1⟩]) (o || decide ((parseS (Rd.prOut s room) n).2 ≠ 0))
theorem Rd.count_length (s : Rd) (most : Int) : (s.count most).l.length ≤ s.l.length := by
  unfold Rd.count
  have := s.fixed_length 2
  split
  · exact this
  · exact this
theorem Rd.countN_lt (s : Rd) (most : Int) : s.countN most < 65536 := by
  unfold Rd.countN
  split
  · omega
  · exact s.num_lt (n := 2) (k := 2) (Nat.le_refl _)
section
variable {p : Nat} {s : Rd} {n room most : Int}
set_option maxHeartbeats 2000000 in
theorem kx_ (hl : s.l.length ≤ 10000000) (hr : 0 ≤ room ∧ room ≤ 9223372036854775807) : Spec Tryz.prog 74 [ptr p, int n, int most, int room] [rdA TR p s] (fun _ : Unit => [rdA TR p (Rd.prfs n room (s.countN most) (s.count most) [] false).2.2]) (fun _ => .tup [prfsA (Rd.prfs n room (s.countN most) (s.count most) [] false).1, boo (Rd.prfs n room (s.countN most) (s.count most) [] false).2.1]) := by
 have hL : lots = 100000000000 := rfl
 have hcl := Rd.count_length s most
 have hcn := Rd.countN_lt s most
 refine G_ Tryz.func74 rfl Tryz.ntmps74 rfl fun G w =>d_<|a_<|q_ 2 rfl<|g_<|c_<|d_<|d_<|a_<|q_ 2 rfl<|u_ (ld_ (s := s) (n := most) (by omega)) Casts.refl (by kernel_rfl) rfl rfl rfl ?_
 refine bb_ rfl i0_ (fun _ => rfl)<|fun _=>⟨_, u0_, q_ 1 rfl<|g_<|c_<|t_<|bO_ 77 3<|S_ (ι := Rd × List Prf × Bool × Nat × Value) (fun z => [own 77 3 z.2.2.2.2 (z.2.1.map Prf.abs), rdA TR p z.1]) (fun z => [(0, ptr p), (1, int n), (3, int room), (8, .v z.2.2.2.2), (9, boo z.2.2.1), (15, int ((s.countN most) : Nat)), (16, int (z.2.2.2.1 : Nat))]) (fun z => z.2.2.2.1 ≤ (s.countN most) ∧ z.1.l.length ≤ s.l.length ∧ z.2.1.length = z.2.2.2.1 ∧ Rd.prfs n room ((s.countN most) - z.2.2.2.1) z.1 z.2.1 z.2.2.1 = Rd.prfs n room (s.countN most) (s.count most) [] false) (fun z => (s.countN most) - z.2.2.2.1) (s.count most, [], false, 0, .slice none 0 0) (⟨Nat.zero_le _, hcl, rfl, rfl⟩) (by exact ⟨rfl, rfl, rfl, rfl, rfl, rfl, rfl, trivial⟩) sr_ ?_⟩
 intro z hz
 refine d_<|a_<|q_ 1 rfl<|g_<|c_<|d_<|r_ rfl ?_ ?_
 rotate_left
 ·intro hc17
  refine Q_<|i_ nofun<|i_ nofun<|P_<|c_<|d_<|a_<|q_ 4 rfl<|g_<|c_<|n_ ?_
  have e0 : Rd.prfs n room (s.countN most) (s.count most) [] false = (z.2.1, z.2.2.1, z.1) := by
   rw [← hz.2.2.2, show (s.countN most) - z.2.2.2.1 = 0 by omega]
   rfl
  refine cV_ [] (t := 8) rfl rfl ?_
  rw [e0]
  exact f_ (rs := [.tmp 8, .tmp 9]) rfl (RV.tmp rfl (RV.tmp rfl RV.nil)) (()) sr_<|rfl
 intro hc17
 have n1 := z.1.fixed_length 8
 have n2 := (z.1.fixed 8).fixed_length 8
 have n3 : (Rd.prOut z.1 room).length ≤ (z.1.fixed 8 |>.fixed 8).l.length := Rd.rowOut_length _ _
 have n4 := Rd.row_length ((z.1.fixed 8).fixed 8) room
 refine p_<|c_<|d_<|t_<|d_<|a_<|q_ 1 rfl<|u_ (dB_ (s := z.1) (n := 8) (by omega) rfl) Casts.refl (by kernel_rfl) rfl rfl rfl ?_
 refine bb_ rfl i1_ (fun _ => rfl)<|fun _=>⟨_, u1_, b_ (a4_ rfl Tryz.underlying2 (by kernel_rfl)) rfl rfl ?_⟩
 refine q_ 1 rfl<|u_ (dB_ (s := (Rd.pr1 z.1)) (n := 8) (by unfold Rd.pr1; omega) rfl) Casts.refl (by kernel_rfl) rfl rfl rfl ?_
 refine bb_ rfl i1_ (fun _ => rfl)<|fun _=>⟨_, u1_, b_ (a4_ rfl Tryz.underlying2 (by kernel_rfl)) rfl rfl ?_⟩
 refine b_ (J_ tabOk rfl rfl rfl rfl) rfl rfl<|eb_ (B_ tabOk rfl) rfl rfl fun b10=>?_
 refine e_ (w_ tabOk rfl rfl rfl u0_ rfl (Nat.le_of_ble_eq_true rfl) rfl rfl) rfl rfl<|g_<|c_<|d_<|a_<|q_ 2 rfl<|u_ (rowr_s (s := (Rd.pr2 z.1)) (n := room) (by unfold Rd.pr2; omega) hr) Casts.refl (by kernel_rfl) rfl rfl rfl ?_
 refine bb_ rfl i2_ (fun _ => rfl)<|fun _=>⟨_, u2_, q_ 1 rfl<|u_ (bparse_s (l := (Rd.prOut z.1 room)) (n := n) (by omega)) Casts.refl (by kernel_rfl) rfl rfl rfl ?_⟩
 refine ap_<|fun _=>q_ 5 rfl<|g_<|c_<|d_<|a_<|q_ 2 rfl<|e_ (w_ tabOk rfl rfl rfl u0_ rfl (Nat.le_of_ble_eq_true rfl) rfl rfl) rfl rfl<|g_<|c_<|d_<|a_<|q_ 2 rfl<|aZ_ (t := 36) rfl ?_ ?_
 ·intro hc36
  refine q_ 4 rfl<|g_<|c_<|a_<|q_ 1 rfl<|b_ (F_ tabOk rfl rfl rfl l0_ List.not_mem_nil rfl) rfl rfl<|e_ (ae_ tabOk Tryz.underlying24 rfl rfl rfl rfl rfl rfl rfl) rfl rfl<|eb_ (ak_ (zs := (z.2.1 ++ [(⟨sg (z.1.num 8), sg ((Rd.pr1 z.1).num 8), (parseS (Rd.prOut z.1 room) n).1⟩ : Prf)]).map Prf.abs) tabOk [_] (by rw [List.map_append]; rfl) Tryz.underlying24 rfl rfl rfl rfl rfl rfl (by intro c hc; rw [List.mem_singleton] at hc; subst hc; rfl) (by unfold maxLen; simp only [List.length_map, List.length_cons, List.length_nil]; omega) (by rw [show Tryz.prog.bytesOf 77 = 40 by kernel_rfl]; simp only [List.length_map, List.length_cons, List.length_nil]; omega)) rfl rfl fun r43=>?_
  refine q_ 1 rfl<|g_<|o_<|c_<|a_<|b_ (s_ rfl rfl (by simp only [InR, lo, hi]; omega)) rfl rfl ?_
  refine q_ 1 rfl<|g_<|x_ (((Rd.pr2 z.1).row room, z.2.1 ++ [(⟨sg (z.1.num 8), sg ((Rd.pr1 z.1).num 8), (parseS (Rd.prOut z.1 room) n).1⟩ : Prf)], z.2.2.1 || decide ((parseS (Rd.prOut z.1 room) n).2 ≠ 0), z.2.2.2.1 + 1, r43)) (by (dsimp only; omega)) (⟨by dsimp only; omega, by dsimp only [Rd.pr2]; omega, by dsimp only; rw [List.length_append, hz.2.2.1]; rfl, by
   rw [← hz.2.2.2]
   obtain ⟨j, hj⟩ : ∃ j, (s.countN most) - z.2.2.2.1 = j + 1 := ⟨(s.countN most) - z.2.2.2.1 - 1, by omega⟩
   rw [hj]
   show Rd.prfs n room ((s.countN most) - (z.2.2.2.1 + 1)) _ _ _ = Rd.prfs n room (j + 1) _ _ _
   rw [show (s.countN most) - (z.2.2.2.1 + 1) = j by omega]
   rfl⟩) ⟨rfl, rfl, rfl, rfl, by show some (boo true) = some (boo (_ || _)); rw [hc36]; rfl, rfl, rfl, trivial⟩ (sk_ sr_)
 intro hc36
 refine q_ 4 rfl<|g_<|c_<|a_<|q_ 1 rfl<|b_ (F_ tabOk rfl rfl rfl l0_ List.not_mem_nil rfl) rfl rfl<|e_ (ae_ tabOk Tryz.underlying24 rfl rfl rfl rfl rfl rfl rfl) rfl rfl<|eb_ (ak_ (zs := (z.2.1 ++ [(⟨sg (z.1.num 8), sg ((Rd.pr1 z.1).num 8), (parseS (Rd.prOut z.1 room) n).1⟩ : Prf)]).map Prf.abs) tabOk [_] (by rw [List.map_append]; rfl) Tryz.underlying24 rfl rfl rfl rfl rfl rfl (by intro c hc; rw [List.mem_singleton] at hc; subst hc; rfl) (by unfold maxLen; simp only [List.length_map, List.length_cons, List.length_nil]; omega) (by rw [show Tryz.prog.bytesOf 77 = 40 by kernel_rfl]; simp only [List.length_map, List.length_cons, List.length_nil]; omega)) rfl rfl fun r43=>?_
 refine q_ 1 rfl<|g_<|o_<|c_<|a_<|b_ (s_ rfl rfl (by simp only [InR, lo, hi]; omega)) rfl rfl ?_
 refine q_ 1 rfl<|g_<|x_ (((Rd.pr2 z.1).row room, z.2.1 ++ [(⟨sg (z.1.num 8), sg ((Rd.pr1 z.1).num 8), (parseS (Rd.prOut z.1 room) n).1⟩ : Prf)], z.2.2.1 || decide ((parseS (Rd.prOut z.1 room) n).2 ≠ 0), z.2.2.2.1 + 1, r43)) (by (dsimp only; omega)) (⟨by dsimp only; omega, by dsimp only [Rd.pr2]; omega, by dsimp only; rw [List.length_append, hz.2.2.1]; rfl, by
  rw [← hz.2.2.2]
  obtain ⟨j, hj⟩ : ∃ j, (s.countN most) - z.2.2.2.1 = j + 1 := ⟨(s.countN most) - z.2.2.2.1 - 1, by omega⟩
  rw [hj]
  show Rd.prfs n room ((s.countN most) - (z.2.2.2.1 + 1)) _ _ _ = Rd.prfs n room (j + 1) _ _ _
  rw [show (s.countN most) - (z.2.2.2.1 + 1) = j by omega]
  rfl⟩) ⟨rfl, rfl, rfl, rfl, by show some (boo (decide _)) = some (boo (_ || _)); rw [hc36, Bool.false_or], rfl, rfl, trivial⟩ (sk_ sr_)
end
end Go.Proofs.YtggajaigfkekhaaGreat.A
