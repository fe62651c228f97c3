/-
  Packed out of the texts: N1, Cho, A9, A15, Y0, A11, A12, A13, Book, BookDo, BookSee, BookCheck, BookLaw, BookInv, StrK, AFace, ABook, ABk2, A18, Sum, Doc, A14.
-/
import Derived.Test.YtggajaigfkekhaaGreatQ07
import Derived.DeepKeys4
import Derived.Laws.BytesArg
import Derived.Laws.CopyOwn
import Derived.DataShut
import Derived.Lib.SlBytesConst
set_option maxRecDepth 100000
set_option linter.unusedSimpArgs false
set_option linter.unusedVariables false
namespace Go.Proofs.YtggajaigfkekhaaGreat.A
open Go.RowKit
theorem gh_ {n : Int} (h : 1 ≤ n) : (max n 1 - 1) / 3 = (n - 1) / 3 := by rw [show max n 1 = n by omega]
def lastW (l : List Sgn) (z : Nat) : Int := if z = 0 then -1 else ((l[z - 1]?).map Sgn.who).getD 0
theorem dZ_ {l : List Sgn} {z : Nat} (h : z < l.length) : lastW l (z + 1) = l[z].who := by
  unfold lastW
  rw [if_neg (by omega), Nat.add_sub_cancel, List.getElem?_eq_getElem h]
  rfl
def SgnAt (view n : Int) (l : List Sgn) (j : Nat) (h : j < l.length) : Prop := (0 ≤ l[j].who ∧ l[j].who < n ∧ l[j].chg.view = view ∧ l[j].chg.Right n) ∧ ∀ h0 : 0 < j, l[j - 1].who < l[j].who
theorem bm_ {view n : Int} {l : List Sgn} : SgnsOk view n l ↔ ∀ j (h : j < l.length), SgnAt view n l j h := by
  constructor
  · intro ⟨h1, h2⟩ j h
    exact ⟨h2 _ (List.getElem_mem h), fun h0 => of_decide_eq_true (cD_ h1 h0 h)⟩
  · intro h
    refine ⟨fun j hj => decide_eq_true ((h (j + 1) hj).2 (by omega)), fun s hs => ?_⟩
    obtain ⟨j, hj, rfl⟩ := List.getElem_of_mem hs
    exact (h j hj).1
theorem lastW_ge {view n : Int} {l : List Sgn} {z : Nat} (hz : z ≤ l.length) (h : ∀ j (h : j < l.length), j < z → SgnAt view n l j h) : -1 ≤ lastW l z := by
  cases z with
  | zero => show (-1 : Int) ≤ -1; omega
  | succ z =>
    rw [dZ_ (by omega)]
    have := (h z (by omega) (by omega)).1.1
    omega
theorem iW_ {l : List Sgn} {z : Nat} (hz : z < l.length) (h0 : 0 < z) : lastW l z = l[z - 1].who := by
  have := dZ_ (l := l) (z := z - 1) (by omega)
  rw [show z - 1 + 1 = z by omega] at this
  exact this
section
variable {view n : Int} {l : List Sgn}
set_option maxHeartbeats 2000000 in
theorem vcheck_s (hl : l.length < 9223372036854775807) (hf : ∀ s ∈ l, s.chg.Sized) : Spec Tryz.prog 52 [int view, sgnsA l, int n] [] (fun _ : Unit => []) (fun _ => int (chkV view l n)) := by
  refine G_ Tryz.func52 rfl Tryz.ntmps52 rfl fun G w =>d_<|a_<|q_ 1 rfl<|g_<|c_<|d_<|t_<|d_<|a_<|q_ 3 rfl<|C_ (t := 13) rfl ?_ ?_
  · intro hc13
    refine q_ 4 rfl<|g_<|c_<|O_ rfl<|d_<|a_<|q_ 1 rfl<|g_<|c_<|n_<|E_<|i_ nofun<|f_ (rs := [.tmp 6]) rfl (RV.tmp rfl RV.nil) (()) sn_<|congrArg int ?_
    unfold chkV
    rw [if_pos (by omega)]
  intro hc13
  refine q_ 4 rfl<|g_<|c_<|r_ rfl ?_ ?_
  · intro hc10
    refine d_<|a_<|q_ 1 rfl<|g_<|c_<|n_<|E_<|i_ nofun<|f_ (rs := [.tmp 6]) rfl (RV.tmp rfl RV.nil) (()) sn_<|congrArg int ?_
    unfold chkV
    rw [if_pos (by omega)]
  intro hc10
  refine d_<|a_<|q_ 1 rfl<|b_ (z_ rfl Tryz.underlying53 (List.length_map _)) rfl rfl<|q_ 3 rfl<|g_<|c_<|r_ rfl ?_ ?_
  · intro hc17
    refine d_<|a_<|q_ 1 rfl<|g_<|c_<|n_<|E_<|i_ nofun<|f_ (rs := [.tmp 6]) rfl (RV.tmp rfl RV.nil) (()) sn_<|congrArg int ?_
    unfold chkV
    rw [if_neg (by omega), if_pos (by omega)]
  intro hc17
  refine d_<|a_<|q_ 1 rfl<|b_ (z_ rfl Tryz.underlying53 (List.length_map _)) rfl rfl<|q_ 1 rfl<|u_ (f9_ (n := n) (by omega)) Casts.refl (by kernel_rfl) rfl rfl rfl ?_
  refine ap_<|fun _=>q_ 2 rfl<|g_<|c_<|r_ rfl ?_ ?_
  · intro hc22
    have hmx := gh_ (n := n) (by omega)
    refine d_<|a_<|q_ 1 rfl<|g_<|c_<|n_<|E_<|i_ nofun<|f_ (rs := [.tmp 6]) rfl (RV.tmp rfl RV.nil) (()) sn_<|congrArg int ?_
    unfold chkV
    rw [if_neg (by omega), if_neg (by omega), if_pos (by omega)]
  intro hc22
  have hmx := gh_ (n := n) (by omega)
  have hr2 : ¬ (n < 1 ∨ 7 < n) := by omega
  refine p_<|o_<|c_<|d_<|a_<|q_ 1 rfl<|g_<|c_<|d_<|d_<|a_<|q_ 1 rfl<|b_ (z_ rfl Tryz.underlying53 (List.length_map _)) rfl rfl<|q_ 1 rfl<|g_<|c_<|t_<|S_ (ι := Nat) (fun z => []) (fun z => [(0, int view), (2, int n), (7, int (lastW l z)), (28, sgnsA l), (29, int (l.length : Nat)), (30, int (z : Nat))]) (fun z => z ≤ l.length ∧ ∀ j (h : j < l.length), j < z → SgnAt view n l j h) (fun z => l.length - z) (0) (⟨Nat.zero_le _, by omega⟩) (by exact ⟨rfl, rfl, rfl, rfl, rfl, rfl, trivial⟩) sn_ ?_
  intro z hz
  refine d_<|a_<|q_ 1 rfl<|g_<|c_<|d_<|r_ rfl ?_ ?_
  rotate_left
  · intro hc31
    refine Q_<|i_ nofun<|i_ nofun<|P_<|c_<|d_<|a_<|q_ 1 rfl<|g_<|c_<|n_<|f_ (rs := [.tmp 6]) rfl (RV.tmp rfl RV.nil) (()) sn_<|congrArg int ?_
    unfold chkV
    rw [if_neg (by omega), if_neg (by omega), if_neg (by omega), X_.2 (bm_.2 fun j hj => hz.2 j hj (by omega))]
    rfl
  intro hc31
  have hlt : z < l.length := by omega
  have hge := lastW_ge hz.1 hz.2
  refine p_<|c_<|d_<|t_<|d_<|a_<|b_ (D_ tabOk Tryz.underlying53 rfl rfl rfl rfl (aa_ (by omega)) rfl rfl) rfl rfl ?_
  refine b_ (K_ tabOk rfl rfl rfl rfl) rfl rfl<|eb_ (B_ tabOk rfl) rfl rfl fun b9=>?_
  refine e_ (w_ tabOk rfl rfl rfl u0_ rfl (Nat.le_of_ble_eq_true rfl) rfl rfl) rfl rfl<|g_<|c_<|d_<|d_<|a_<|q_ 1 rfl<|b_ (h_ tabOk rfl rfl l0_ List.not_mem_nil rfl) rfl rfl<|q_ 3 rfl<|C_ (t := 38) rfl ?_ ?_
  · intro hc38
    refine q_ 19 rfl<|g_<|c_<|O_ rfl<|d_<|a_<|q_ 1 rfl<|g_<|c_<|n_<|i_ nofun<|E_<|i_ nofun<|i_ nofun<|E_<|i_ nofun<|f_ (rs := [.tmp 6]) rfl (RV.tmp rfl RV.nil) (()) sn_<|congrArg int ?_
    unfold chkV
    rw [if_neg (by omega), if_neg (by omega), if_neg (by omega), bs_.2 (by
      rw [bm_]
      intro hall
      have h9 := hall z hlt
      obtain ⟨⟨g1, g2, g3, g4⟩, g5⟩ := h9
      first
        | omega
        | exact hc57 ((ds_ hr2).2 g4)
        | (rcases Nat.eq_zero_or_pos z with h0 | h0
           · subst h0
             have h8 : lastW l 0 = -1 := rfl
             omega
           have h7 := g5 h0
           rw [iW_ hlt h0] at hc38
           omega))]
    rfl
  intro hc38
  refine q_ 1 rfl<|b_ (h_ tabOk rfl rfl l0_ List.not_mem_nil rfl) rfl rfl<|q_ 4 rfl<|C_ (t := 44) rfl ?_ ?_
  · intro hc44
    refine q_ 13 rfl<|g_<|c_<|O_ rfl<|d_<|a_<|q_ 1 rfl<|g_<|c_<|n_<|i_ nofun<|E_<|i_ nofun<|i_ nofun<|E_<|i_ nofun<|f_ (rs := [.tmp 6]) rfl (RV.tmp rfl RV.nil) (()) sn_<|congrArg int ?_
    unfold chkV
    rw [if_neg (by omega), if_neg (by omega), if_neg (by omega), bs_.2 (by
      rw [bm_]
      intro hall
      have h9 := hall z hlt
      obtain ⟨⟨g1, g2, g3, g4⟩, g5⟩ := h9
      omega)]
    rfl
  intro hc44
  refine q_ 2 rfl<|b_ (h_ tabOk rfl rfl l0_ List.not_mem_nil rfl) rfl rfl<|q_ 4 rfl<|C_ (t := 51) rfl ?_ ?_
  · intro hc51
    refine q_ 6 rfl<|g_<|c_<|O_ rfl<|d_<|a_<|q_ 1 rfl<|g_<|c_<|n_<|i_ nofun<|E_<|i_ nofun<|i_ nofun<|E_<|i_ nofun<|f_ (rs := [.tmp 6]) rfl (RV.tmp rfl RV.nil) (()) sn_<|congrArg int ?_
    unfold chkV
    rw [if_neg (by omega), if_neg (by omega), if_neg (by omega), bs_.2 (by
      rw [bm_]
      intro hall
      have h9 := hall z hlt
      obtain ⟨⟨g1, g2, g3, g4⟩, g5⟩ := h9
      omega)]
    rfl
  intro hc51
  refine q_ 1 rfl<|b_ (H_ tabOk rfl rfl rfl l0_ List.not_mem_nil (Nat.le_of_ble_eq_true rfl)) rfl rfl<|q_ 1 rfl<|u_ (ic_ (c := (l[z]'hlt).chg) (n := n) (hf _ (List.getElem_mem hlt)).prep (hf _ (List.getElem_mem hlt)).prop (hf _ (List.getElem_mem hlt)).pts) Casts.refl (by kernel_rfl) rfl rfl rfl ?_
  refine ap_<|fun _=>q_ 2 rfl<|g_<|c_<|r_ rfl ?_ ?_
  rotate_left
  · intro hc57
    refine p_<|c_<|a_<|q_ 1 rfl<|b_ (h_ tabOk rfl rfl l0_ List.not_mem_nil rfl) rfl rfl<|q_ 1 rfl<|g_<|o_<|c_<|a_<|b_ (s_ rfl rfl (by simp only [InR, lo, hi]; omega)) rfl rfl ?_
    refine q_ 1 rfl<|g_<|x_ (z + 1) (by omega) (⟨by omega, fun j hj hjz => by
      rcases Nat.lt_or_ge j z with h1 | h1
      · exact hz.2 j hj h1
      obtain rfl : j = z := (by omega)
      refine ⟨⟨by omega, by omega, by omega, (ds_ hr2).1 (by omega)⟩, fun h0 => ?_⟩
      rw [iW_ hlt h0] at hc38
      omega⟩) ⟨rfl, rfl, congrArg (fun q : Int => some (int q)) (dZ_ hlt).symm, rfl, rfl, rfl, trivial⟩ sn_
  intro hc57
  refine d_<|a_<|q_ 1 rfl<|g_<|c_<|n_<|i_ nofun<|E_<|i_ nofun<|i_ nofun<|E_<|i_ nofun<|f_ (rs := [.tmp 6]) rfl (RV.tmp rfl RV.nil) (()) sn_<|congrArg int ?_
  unfold chkV
  rw [if_neg (by omega), if_neg (by omega), if_neg (by omega), bs_.2 (by
    rw [bm_]
    intro hall
    have h9 := hall z hlt
    obtain ⟨⟨g1, g2, g3, g4⟩, g5⟩ := h9
    exact hc57 ((ds_ hr2).2 g4))]
  rfl
set_option maxHeartbeats 2000000 in
theorem kq_ (hl : l.length < 9223372036854775807) (hf : ∀ s ∈ l, s.chg.Fit) : Spec Tryz.prog 59 [int view, sgnsA l, int n] [] (fun _ : Unit => []) (fun _ => int (chkV view l n)) := by
  refine G_ Tryz.func59 rfl Tryz.ntmps59 rfl fun G w =>d_<|a_<|q_ 1 rfl<|g_<|c_<|d_<|d_<|a_<|q_ 3 rfl<|C_ (t := 11) rfl ?_ ?_
  · intro hc11
    refine q_ 3 rfl<|g_<|c_<|O_ rfl<|d_<|a_<|q_ 1 rfl<|g_<|c_<|n_<|i_ nofun<|f_ (rs := [.tmp 6]) rfl (RV.tmp rfl RV.nil) (()) sn_<|congrArg int ?_
    unfold chkV
    rw [if_pos (by omega)]
  intro hc11
  refine q_ 3 rfl<|g_<|c_<|r_ rfl ?_ ?_
  · intro hc14
    refine d_<|a_<|q_ 1 rfl<|g_<|c_<|n_<|i_ nofun<|f_ (rs := [.tmp 6]) rfl (RV.tmp rfl RV.nil) (()) sn_<|congrArg int ?_
    unfold chkV
    rw [if_pos (by omega)]
  intro hc14
  refine p_<|c_<|d_<|d_<|a_<|q_ 1 rfl<|b_ (z_ rfl Tryz.underlying53 (List.length_map _)) rfl rfl<|q_ 2 rfl<|g_<|c_<|r_ rfl ?_ ?_
  · intro hc18
    refine d_<|a_<|q_ 1 rfl<|g_<|c_<|n_<|i_ nofun<|f_ (rs := [.tmp 6]) rfl (RV.tmp rfl RV.nil) (()) sn_<|congrArg int ?_
    unfold chkV
    rw [if_neg (by omega), if_pos (by omega)]
  intro hc18
  refine p_<|c_<|d_<|d_<|a_<|q_ 1 rfl<|b_ (z_ rfl Tryz.underlying53 (List.length_map _)) rfl rfl<|q_ 1 rfl<|u_ (bS_ (n := n) (by omega)) Casts.refl (by kernel_rfl) rfl rfl rfl ?_
  refine ap_<|fun _=>b_ (b3_ rfl rfl (by simp only [InR, lo, hi]; omega)) rfl rfl ?_
  refine b_ (s_ rfl rfl (by simp only [InR, lo, hi]; omega)) rfl rfl ?_
  refine q_ 1 rfl<|g_<|c_<|r_ rfl ?_ ?_
  · intro hc25
    have hmx := gh_ (n := n) (by omega)
    refine d_<|a_<|q_ 1 rfl<|g_<|c_<|n_<|i_ nofun<|f_ (rs := [.tmp 6]) rfl (RV.tmp rfl RV.nil) (()) sn_<|congrArg int ?_
    unfold chkV
    rw [if_neg (by omega), if_neg (by omega), if_pos (by omega)]
  intro hc25
  have hmx := gh_ (n := n) (by omega)
  refine p_<|c_<|d_<|d_<|a_<|q_ 1 rfl<|b_ (z_ rfl Tryz.underlying53 (List.length_map _)) rfl rfl<|q_ 1 rfl<|g_<|c_<|t_<|S_ (ι := Nat) (fun z => []) (fun z => [(0, int view), (1, sgnsA l), (2, int n), (26, sgnsA l), (27, int (l.length : Nat)), (28, int (z : Nat))]) (fun z => z ≤ l.length ∧ ∀ j (h : j < l.length), j < z → SgnAt view n l j h) (fun z => l.length - z) (0) (⟨Nat.zero_le _, by omega⟩) (by exact ⟨rfl, rfl, rfl, rfl, rfl, rfl, trivial⟩) sn_ ?_
  intro z hz
  refine d_<|a_<|q_ 1 rfl<|g_<|c_<|d_<|r_ rfl ?_ ?_
  rotate_left
  · intro hc29
    refine Q_<|i_ nofun<|i_ nofun<|P_<|c_<|d_<|a_<|q_ 1 rfl<|g_<|c_<|n_<|f_ (rs := [.tmp 6]) rfl (RV.tmp rfl RV.nil) (()) sn_<|congrArg int ?_
    unfold chkV
    rw [if_neg (by omega), if_neg (by omega), if_neg (by omega), X_.2 (bm_.2 fun j hj => hz.2 j hj (by omega))]
    rfl
  intro hc29
  have hlt : z < l.length := by omega
  refine p_<|c_<|d_<|t_<|d_<|a_<|q_ 1 rfl<|b_ (D_ tabOk Tryz.underlying53 rfl rfl rfl rfl (aa_ (by omega)) rfl rfl) rfl rfl ?_
  refine b_ (K_ tabOk rfl rfl rfl rfl) rfl rfl<|eb_ (B_ tabOk rfl) rfl rfl fun b8=>?_
  refine q_ 1 rfl<|e_ (w_ tabOk rfl rfl rfl u0_ rfl (Nat.le_of_ble_eq_true rfl) rfl rfl) rfl rfl<|g_<|c_<|d_<|Y_ [] (.q 0 (.q 1 (.q 2 (.q 3 (.q 4 (.q 5 (.q 6 (.q 7 (.q 8 (.q 9 (.q 10 (.q 11 (.q 12 (.q 13 (.q 14 (.q 15 (.q 16 (.q 17 (.q 18 (.q 19 (.q 20 (.q 21 (.q 22 (.q 23 (.q 24 (.q 25 (.q 26 (.q 27 (.q 28 (.q 29 (.q 30 (.q 31 (.q 32 (.q 33 (.q 34 (.e 35 (.q 36 (.q 37 .nil)))))))))))))))))))))))))))))))))))))) (by kernel_rfl) (by kernel_rfl) ?_
  refine qs_ 1 rfl<|l_ rfl (h_ tabOk rfl rfl l0_ List.not_mem_nil rfl) (by simp) rfl rfl ?_
  refine qs_ 2 rfl<|am_ (t := 36) rfl ?_ ?_
  · intro hc36
    refine qs_ 31 rfl<|aE_ rfl rfl rfl<|qs_ 2 rfl<|N_<|c_<|O_ rfl<|d_<|a_<|q_ 1 rfl<|g_<|c_<|n_<|E_<|i_ nofun<|i_ nofun<|E_<|i_ nofun<|f_ (rs := [.tmp 6]) rfl (RV.tmp rfl RV.nil) (()) sn_<|congrArg int ?_
    unfold chkV
    rw [if_neg (by omega), if_neg (by omega), if_neg (by omega), bs_.2 (by
      rw [bm_]
      intro hall
      have h9 := hall z hlt
      obtain ⟨⟨g1, g2, g3, g4⟩, g5⟩ := h9
      omega)]
    rfl
  intro hc36
  refine qs_ 1 rfl<|l_ rfl (h_ tabOk rfl rfl l0_ List.not_mem_nil rfl) (by simp) rfl rfl ?_
  refine qs_ 4 rfl<|am_ (t := 42) rfl ?_ ?_
  · intro hc42
    refine qs_ 25 rfl<|aE_ rfl rfl rfl<|qs_ 2 rfl<|N_<|c_<|O_ rfl<|d_<|a_<|q_ 1 rfl<|g_<|c_<|n_<|E_<|i_ nofun<|i_ nofun<|E_<|i_ nofun<|f_ (rs := [.tmp 6]) rfl (RV.tmp rfl RV.nil) (()) sn_<|congrArg int ?_
    unfold chkV
    rw [if_neg (by omega), if_neg (by omega), if_neg (by omega), bs_.2 (by
      rw [bm_]
      intro hall
      have h9 := hall z hlt
      obtain ⟨⟨g1, g2, g3, g4⟩, g5⟩ := h9
      omega)]
    rfl
  intro hc42
  refine qs_ 3 rfl<|am_ (t := 45) rfl ?_ ?_
  rotate_left
  · intro hc45
    refine qs_ 14 rfl<|l_ rfl (h_ tabOk rfl rfl l0_ List.not_mem_nil rfl) (by simp) rfl rfl ?_
    refine qs_ 4 rfl<|am_ (t := 64) rfl ?_ ?_
    · intro hc64
      iterate 3 refine bq_ rfl rfl rfl ?_
      refine aE_ rfl rfl rfl<|qs_ 2 rfl<|N_<|c_<|O_ rfl<|d_<|a_<|q_ 1 rfl<|g_<|c_<|n_<|E_<|i_ nofun<|i_ nofun<|E_<|i_ nofun<|f_ (rs := [.tmp 6]) rfl (RV.tmp rfl RV.nil) (()) sn_<|congrArg int ?_
      unfold chkV
      rw [if_neg (by omega), if_neg (by omega), if_neg (by omega), bs_.2 (by
        rw [bm_]
        intro hall
        have h9 := hall z hlt
        obtain ⟨⟨g1, g2, g3, g4⟩, g5⟩ := h9
        omega)]
      rfl
    intro hc64
    refine qs_ 1 rfl<|l_ rfl (H_ tabOk rfl rfl rfl l0_ List.not_mem_nil (Nat.le_of_ble_eq_true rfl)) (by simp) rfl rfl ?_
    refine qs_ 1 rfl<|I_ rfl (hQ_ (c := (l[z]'hlt).chg) (n := n) (hf _ (List.getElem_mem hlt)).prep (hf _ (List.getElem_mem hlt)).prop (hf _ (List.getElem_mem hlt)).pts (hf _ (List.getElem_mem hlt)).lprep (hf _ (List.getElem_mem hlt)).lprop) (by simp [mids, It.mids]) Casts.refl (by kernel_rfl) rfl rfl rfl ?_
    refine ap_<|fun _=>l_ rfl (ai_ rfl) (by simp) rfl rfl ?_
    refine qs_ 1 rfl<|N_<|c_<|ac_ rfl ?_ ?_
    rotate_left
    · intro hc70
      refine p_<|o_<|c_<|a_<|b_ (s_ rfl rfl (by simp only [InR, lo, hi]; omega)) rfl rfl ?_
      refine q_ 1 rfl<|g_<|x_ (z + 1) (by omega) (⟨by omega, fun j hj hjz => by
        rcases Nat.lt_or_ge j z with h1 | h1
        · exact hz.2 j hj h1
        obtain rfl : j = z := (by omega)
        exact ⟨⟨by omega, by omega, by omega, X_.1 (by simpa using hc70)⟩, fun h0 => by omega⟩⟩) (by exact ⟨rfl, rfl, rfl, rfl, rfl, rfl, trivial⟩) sn_
    intro hc70
    refine d_<|a_<|q_ 1 rfl<|g_<|c_<|n_<|E_<|i_ nofun<|i_ nofun<|E_<|i_ nofun<|f_ (rs := [.tmp 6]) rfl (RV.tmp rfl RV.nil) (()) sn_<|congrArg int ?_
    unfold chkV
    rw [if_neg (by omega), if_neg (by omega), if_neg (by omega), bs_.2 (by
      rw [bm_]
      intro hall
      have h9 := hall z hlt
      obtain ⟨⟨g1, g2, g3, g4⟩, g5⟩ := h9
      first
        | omega
        | (have h8 := g5 (by omega)
           omega)
        | (have h8 := X_.2 g4
           simp [h8] at hc70))]
    rfl
  intro hc45
  refine qs_ 2 rfl<|l_ rfl (bf_ rfl rfl (by simp only [InR, lo, hi]; omega)) (by simp) rfl rfl ?_
  refine hx_ fun hx9 =>l_ rfl (D_ (q := z - 1) tabOk Tryz.underlying53 rfl rfl rfl (by omega) (aa_ (by omega)) rfl rfl) hx9 rfl rfl ?_
  refine l_ rfl (Z_ tabOk rfl rfl rfl rfl rfl) (by simp) rfl rfl ?_
  refine l_ rfl (au_ tabOk rfl rfl rfl) (by simp) rfl rfl ?_
  refine qs_ 1 rfl<|l_ rfl (h_ tabOk rfl rfl l0_ List.not_mem_nil rfl) (by simp) rfl rfl ?_
  refine qs_ 4 rfl<|am_ (t := 57) rfl ?_ ?_
  · intro hc57
    refine qs_ 10 rfl<|aE_ rfl rfl rfl<|qs_ 2 rfl<|N_<|c_<|O_ rfl<|d_<|a_<|q_ 1 rfl<|g_<|c_<|n_<|E_<|i_ nofun<|i_ nofun<|E_<|i_ nofun<|f_ (rs := [.tmp 6]) rfl (RV.tmp rfl RV.nil) (()) sn_<|congrArg int ?_
    unfold chkV
    rw [if_neg (by omega), if_neg (by omega), if_neg (by omega), bs_.2 (by
      rw [bm_]
      intro hall
      have h9 := hall z hlt
      obtain ⟨⟨g1, g2, g3, g4⟩, g5⟩ := h9
      first
        | omega
        | (have h8 := g5 (by omega)
           omega)
        | (have h8 := X_.2 g4
           simp [h8] at hc70))]
    rfl
  intro hc57
  refine qs_ 2 rfl<|l_ rfl (h_ tabOk rfl rfl l0_ List.not_mem_nil rfl) (by simp) rfl rfl ?_
  refine qs_ 4 rfl<|am_ (t := 64) rfl ?_ ?_
  · intro hc64
    iterate 3 refine bq_ rfl rfl rfl ?_
    refine aE_ rfl rfl rfl<|qs_ 2 rfl<|N_<|c_<|O_ rfl<|d_<|a_<|q_ 1 rfl<|g_<|c_<|n_<|E_<|i_ nofun<|i_ nofun<|E_<|i_ nofun<|f_ (rs := [.tmp 6]) rfl (RV.tmp rfl RV.nil) (()) sn_<|congrArg int ?_
    unfold chkV
    rw [if_neg (by omega), if_neg (by omega), if_neg (by omega), bs_.2 (by
      rw [bm_]
      intro hall
      have h9 := hall z hlt
      obtain ⟨⟨g1, g2, g3, g4⟩, g5⟩ := h9
      omega)]
    rfl
  intro hc64
  refine qs_ 1 rfl<|l_ rfl (H_ tabOk rfl rfl rfl l0_ List.not_mem_nil (Nat.le_of_ble_eq_true rfl)) (by simp) rfl rfl ?_
  refine qs_ 1 rfl<|I_ rfl (hQ_ (c := (l[z]'hlt).chg) (n := n) (hf _ (List.getElem_mem hlt)).prep (hf _ (List.getElem_mem hlt)).prop (hf _ (List.getElem_mem hlt)).pts (hf _ (List.getElem_mem hlt)).lprep (hf _ (List.getElem_mem hlt)).lprop) (by simp [mids, It.mids]) Casts.refl (by kernel_rfl) rfl rfl rfl ?_
  refine ap_<|fun _=>l_ rfl (ai_ rfl) (by simp) rfl rfl ?_
  refine qs_ 1 rfl<|N_<|c_<|ac_ rfl ?_ ?_
  rotate_left
  · intro hc70
    refine p_<|o_<|c_<|a_<|b_ (s_ rfl rfl (by simp only [InR, lo, hi]; omega)) rfl rfl ?_
    refine q_ 1 rfl<|g_<|x_ (z + 1) (by omega) (⟨by omega, fun j hj hjz => by
      rcases Nat.lt_or_ge j z with h1 | h1
      · exact hz.2 j hj h1
      obtain rfl : j = z := (by omega)
      exact ⟨⟨by omega, by omega, by omega, X_.1 (by simpa using hc70)⟩, fun h0 => by omega⟩⟩) (by exact ⟨rfl, rfl, rfl, rfl, rfl, rfl, trivial⟩) sn_
  intro hc70
  refine d_<|a_<|q_ 1 rfl<|g_<|c_<|n_<|E_<|i_ nofun<|i_ nofun<|E_<|i_ nofun<|f_ (rs := [.tmp 6]) rfl (RV.tmp rfl RV.nil) (()) sn_<|congrArg int ?_
  unfold chkV
  rw [if_neg (by omega), if_neg (by omega), if_neg (by omega), bs_.2 (by
    rw [bm_]
    intro hall
    have h9 := hall z hlt
    obtain ⟨⟨g1, g2, g3, g4⟩, g5⟩ := h9
    first
      | omega
      | (have h8 := g5 (by omega)
         omega)
      | (have h8 := X_.2 g4
         simp [h8] at hc70))]
  rfl
end
section
variable {l : List Sgn} {p q : Chg → Bool} {i : Nat} {n : Int}
theorem W_ {α β : Type} (f : β → α → β) (b : β) {xs : List α} {i : Nat} (h : i < xs.length) : (xs.take (i + 1)).foldl f b = f ((xs.take i).foldl f b) xs[i] := by
  rw [List.take_succ_eq_append_getElem h, List.foldl_append]
  rfl
theorem a1_ {α β : Type} (f : β → α → β) (b : β) {xs : List α} {i : Nat} (h : xs.length ≤ i) : (xs.take i).foldl f b = xs.foldl f b := by rw [List.take_of_length_le h]
def fN (n : Int) : Int := (max n 1 - 1) / 3
def cntS (l : List Sgn) (p : Chg → Bool) : Nat := l.countP fun s => p s.chg
theorem bR_ (h : i < l.length) (hp : p l[i].chg = true) : cntS (l.take (i + 1)) p = cntS (l.take i) p + 1 := by
  unfold cntS
  rw [List.take_succ_eq_append_getElem h, List.countP_append, List.countP_cons_of_pos (p := fun s : Sgn => p s.chg) hp]
  rfl
theorem co_ (h : i < l.length) (hp : p l[i].chg = false) : cntS (l.take (i + 1)) p = cntS (l.take i) p := by
  unfold cntS
  rw [List.take_succ_eq_append_getElem h, List.countP_append, List.countP_cons_of_neg (p := fun s : Sgn => p s.chg) (by show ¬ p l[i].chg = true; rw [hp]; decide)]
  rfl
theorem d2_ : cntS l p ≤ l.length := List.countP_le_length
theorem c4_ (h : l.length ≤ i) : cntS (l.take i) p = cntS l p := by rw [List.take_of_length_le h]
/-! ### the base -/
def pz : Pnt := ⟨0, List.replicate 32 0, by simp⟩
def lowB (x : Pnt) (c : Chg) : Bool := decide (c.low ≤ x.seq)
def hasB (x : Pnt) (c : Chg) : Bool := decide (x ∈ c.points)
def baseOk (l : List Sgn) (n : Int) (x : Pnt) : Bool := decide (fN n + 1 ≤ (cntS l (hasB x) : Nat)) && decide (2 * fN n + 1 ≤ (cntS l (lowB x) : Nat))
def baseSt (l : List Sgn) (n : Int) (a : Option Pnt) (x : Pnt) : Option Pnt := if (a.all fun b => decide (b.seq < x.seq)) = true ∧ baseOk l n x = true then some x else a
def baseIn (l : List Sgn) (n : Int) (a : Option Pnt) (s : Sgn) : Option Pnt := s.chg.points.foldl (baseSt l n) a
def baseF (l : List Sgn) (n : Int) : Option Pnt := l.foldl (baseIn l n) none
theorem fp_ {a : Option Pnt} {x : Pnt} (h : a.isSome = true) (h2 : x.seq ≤ (a.getD pz).seq) : baseSt l n a x = a := by
  obtain ⟨b, rfl⟩ := Option.isSome_iff_exists.1 h
  refine if_neg fun h3 => ?_
  have h4 := h3.1
  simp only [Option.all_some, decide_eq_true_eq] at h4
  have h2 : x.seq ≤ b.seq := h2
  omega
theorem cx_ {a : Option Pnt} {x : Pnt} (h : baseOk l n x = false) : baseSt l n a x = a := if_neg fun h3 => by rw [h] at h3; cases h3.2
theorem c7_ {a : Option Pnt} {x : Pnt} (h : a.isSome = true → (a.getD pz).seq < x.seq) (h2 : baseOk l n x = true) : baseSt l n a x = some x := by
  refine if_pos ⟨?_, h2⟩
  cases a with
  | none => rfl
  | some b => exact decide_eq_true (h rfl)
theorem has_yes {ps : List Pnt} {x : Pnt} (h : i < ps.length) (hi : decide (x ∈ ps.take i) = true) : true = decide (x ∈ ps.take (i + 1)) := by
  refine (decide_eq_true ?_).symm
  rw [List.take_succ_eq_append_getElem h, List.mem_append]
  exact .inl (of_decide_eq_true hi)
theorem has_no {ps : List Pnt} {x : Pnt} (h : i < ps.length) (hi : decide (x ∈ ps.take i) = false) : decide (ps[i] = x) = decide (x ∈ ps.take (i + 1)) := by
  rw [decide_eq_decide, List.take_succ_eq_append_getElem h, List.mem_append, List.mem_singleton]
  have h2 := of_decide_eq_false hi
  exact ⟨fun h3 => .inr h3.symm, fun h3 => (h3.resolve_left h2).symm⟩
/-! ### numbers -/
noncomputable def agB (seq view : Int) (b : List Ent) (p : Prf) : Bool := decide (p.seq = seq) && (decide (view < p.view) || decide (p.view = view) && !decide (p.batch = b))
noncomputable def againstB (seq view : Int) (b : List Ent) (c : Chg) : Bool := decide (seq ≤ c.low) || c.prepared.any (agB seq view b)
noncomputable def prB (seq view : Int) (b : List Ent) (p : Prf) : Bool := decide (p.seq = seq) && decide (view ≤ p.view) && decide (p.batch = b)
noncomputable def proposedB (seq view : Int) (b : List Ent) (c : Chg) : Bool := c.proposed.any (prB seq view b)
noncomputable def quietB (seq view : Int) (b : List Ent) (c : Chg) : Bool := !againstB seq view b c
noncomputable def standsB (l : List Sgn) (n : Int) (x : Prf) : Bool := decide (2 * fN n + 1 ≤ (cntS l (quietB x.seq x.view x.batch) : Nat)) && decide (fN n + 1 ≤ (cntS l (proposedB x.seq x.view x.batch) : Nat))
noncomputable def numSt (l : List Sgn) (n seq : Int) (a : Option Prf) (x : Prf) : Option Prf := if (x.seq = seq ∧ (a.all fun b => decide (b.view < x.view)) = true) ∧ standsB l n x = true then some x else a
noncomputable def numIn (l : List Sgn) (n seq : Int) (a : Option Prf) (s : Sgn) : Option Prf := s.chg.prepared.foldl (numSt l n seq) a
noncomputable def numBest (l : List Sgn) (n seq : Int) : Option Prf := l.foldl (numIn l n seq) none
def emptyB (seq : Int) (c : Chg) : Bool := decide (c.low < seq) && !(c.prepared.any fun x => decide (x.seq = seq))
noncomputable def numF (l : List Sgn) (n seq : Int) : List Ent × Bool := match numBest l n seq with
  | some p => (p.batch, true)
  | none => ([], decide (2 * fN n + 1 ≤ (cntS l (emptyB seq) : Nat)))
def prz : Prf := ⟨0, 0, []⟩
theorem g6_ {a : Option Prf} {x : Prf} {seq : Int} (h : ¬ x.seq = seq) : numSt l n seq a x = a := if_neg fun h3 => h h3.1.1
theorem fK_ {a : Option Prf} {x : Prf} {seq : Int} (h : a.isSome = true) (h2 : ¬ (a.getD prz).view < x.view) : numSt l n seq a x = a := by
  obtain ⟨b, rfl⟩ := Option.isSome_iff_exists.1 h
  refine if_neg fun h3 => ?_
  have h4 := h3.1.2
  simp only [Option.all_some, decide_eq_true_eq] at h4
  exact h2 h4
theorem eE_ {a : Option Prf} {x : Prf} {seq : Int} (h : standsB l n x = false) : numSt l n seq a x = a := if_neg fun h3 => by rw [h] at h3; cases h3.2
theorem dC_ {a : Option Prf} {x : Prf} {seq : Int} (h0 : x.seq = seq) (h : a.isSome = true → (a.getD prz).view < x.view) (h2 : standsB l n x = true) : numSt l n seq a x = some x := by
  refine if_pos ⟨⟨h0, ?_⟩, h2⟩
  cases a with
  | none => rfl
  | some b => exact decide_eq_true (h rfl)
theorem kQ_ {a b : Option Prf} {x y : Prf} {seq : Int} (h : numSt l n seq a x = some y) : y = x ∨ a = some y := by
  unfold numSt at h
  split at h
  · exact .inl (Option.some.inj h).symm
  · exact .inr h
theorem g7_ {seq : Int} {y : Prf} : ∀ {xs : List Prf} {a : Option Prf}, xs.foldl (numSt l n seq) a = some y → y ∈ xs ∨ a = some y
  | [], a, h => .inr h
  | x :: xs, a, h => by
    rcases g7_ (xs := xs) h with h1 | h1
    · exact .inl (List.mem_cons_of_mem _ h1)
    · rcases kQ_ (b := a) h1 with h2 | h2
      · exact .inl (h2 ▸ List.mem_cons_self)
      · exact .inr h2
theorem dk_ {seq : Int} {y : Prf} : ∀ {m : List Sgn} {a : Option Prf}, m.foldl (numIn l n seq) a = some y → (∃ s ∈ m, y ∈ s.chg.prepared) ∨ a = some y
  | [], a, h => .inr h
  | s :: m, a, h => by
    rcases dk_ (m := m) h with ⟨t, h1, h2⟩ | h1
    · exact .inl ⟨t, List.mem_cons_of_mem _ h1, h2⟩
    · rcases g7_ h1 with h2 | h2
      · exact .inl ⟨s, List.mem_cons_self, h2⟩
      · exact .inr h2
theorem any_no {ps : List Prf} {p : Prf → Bool} (h : ∀ j (hj : j < ps.length), j < i → p ps[j] = false) (hi : ps.length ≤ i) : ps.any p = false := by
  rw [List.any_eq_false]
  intro x hx
  obtain ⟨j, hj, rfl⟩ := List.getElem_of_mem hx
  rw [h j hj (by omega)]
  decide
theorem ik_ {ps : List Prf} {p : Prf → Bool} (h : i < ps.length) (hp : p ps[i] = true) : ps.any p = true := List.any_eq_true.2 ⟨_, List.getElem_mem h, hp⟩
def emptyTo (seq : Int) (c : Chg) (j : Nat) : Bool := decide (c.low < seq) && !((c.prepared.take j).any fun x => decide (x.seq = seq))
theorem hh_ {seq : Int} {c : Chg} : decide (c.low < seq) = emptyTo seq c 0 := by unfold emptyTo; simp
theorem fk_ {seq : Int} {c : Chg} {j : Nat} (h : c.prepared.length ≤ j) : emptyTo seq c j = emptyB seq c := by unfold emptyTo emptyB; rw [List.take_of_length_le h]
theorem h4_ {seq : Int} {c : Chg} {j : Nat} (h : j < c.prepared.length) (h2 : ¬ c.prepared[j].seq = seq) : emptyTo seq c j = emptyTo seq c (j + 1) := by
  unfold emptyTo
  rw [List.take_succ_eq_append_getElem h, List.any_append]
  simp [h2]
theorem cv_ {seq : Int} {c : Chg} {j : Nat} (h : j < c.prepared.length) (h2 : c.prepared[j].seq = seq) : false = emptyTo seq c (j + 1) := by
  unfold emptyTo
  rw [List.take_succ_eq_append_getElem h, List.any_append]
  simp [h2]
/-! ### how far -/
def farSt (base : Int) (a : Nat) (x : Prf) : Nat := if base < x.seq ∧ x.seq - base ≤ 8 then max a (x.seq - base).toNat else a
def farIn (base : Int) (a : Nat) (s : Sgn) : Nat := s.chg.prepared.foldl (farSt base) a
def farF (l : List Sgn) (base : Int) : Nat := l.foldl (farIn base) 0
def FarOk (base : Int) (a : Nat) : Prop := a ≤ 8 ∧ base + a ≤ 9223372036854775807
theorem FarOk.zero {base : Int} (h : InR .i64 base) : FarOk base 0 := ⟨by omega, by simp only [InR, lo, hi] at h; omega⟩
theorem FarOk.st {base : Int} {a : Nat} {x : Prf} (h : FarOk base a) (hx : InR .i64 x.seq) : FarOk base (farSt base a x) := by
  unfold FarOk farSt at *
  simp only [InR, lo, hi] at hx
  split
  · next h2 =>
    rcases Nat.le_total a (x.seq - base).toNat with h3 | h3
    · rw [Nat.max_eq_right h3]; omega
    · rw [Nat.max_eq_left h3]; omega
  · exact h
theorem FarOk.in_ {base : Int} : ∀ {xs : List Prf} {a : Nat}, FarOk base a → (∀ x ∈ xs, InR .i64 x.seq) → FarOk base (xs.foldl (farSt base) a)
  | [], a, h, _ => h
  | x :: xs, a, h, hx => FarOk.in_ (xs := xs) (h.st (hx x List.mem_cons_self)) fun y hy => hx y (List.mem_cons_of_mem _ hy)
theorem FarOk.all {base : Int} : ∀ {m : List Sgn} {a : Nat}, FarOk base a → (∀ s ∈ m, ∀ x ∈ s.chg.prepared, InR .i64 x.seq) → FarOk base (m.foldl (farIn base) a)
  | [], a, h, _ => h
  | s :: m, a, h, hx => FarOk.all (m := m) (h.in_ (hx s List.mem_cons_self)) fun y hy => hx y (List.mem_cons_of_mem _ hy)
def dW (a b : Int) : Int := IntKind.u64.wrap (((u64 a : Nat) : Int) - ((u64 b : Nat) : Int))
theorem dW_eq {a b : Int} (ha : InR .i64 a) (hb : InR .i64 b) (h : b < a) : dW a b = a - b := by
  simp only [InR, lo, hi] at ha hb
  unfold dW u64
  rw [IntKind.wrap]
  simp [IntKind.signed, IntKind.bits]
  omega
/-! ### the choice -/
structure Chc where
  base : Pnt
  batches : List (List Ent)
def Chc.abs (c : Chc) : List Abs := c.base.abs ++ [.sl 1 (c.batches.map fun b => [entsA b])]
def Chc.zero : Chc := ⟨pz, []⟩
noncomputable def numsF (l : List Sgn) (n base : Int) (k : Nat) : List (List Ent) := (List.range k).map fun i : Nat => (numF l n (base + (i : Int) + 1)).1
noncomputable def allNums (l : List Sgn) (n base : Int) (k : Nat) : Bool := (List.range k).all fun i : Nat => (numF l n (base + (i : Int) + 1)).2
noncomputable def chooseF (l : List Sgn) (n : Int) : Chc × Int := match baseF l n with
  | none => (Chc.zero, 16)
  | some b => if allNums l n b.seq (farF l b.seq) = true then (⟨b, numsF l n b.seq (farF l b.seq)⟩, 0) else (Chc.zero, 16)
theorem fJ_ {base : Int} {k : Nat} : numsF l n base (k + 1) = numsF l n base k ++ [(numF l n (base + (k : Int) + 1)).1] := by
  unfold numsF
  rw [List.range_succ, List.map_append]
  rfl
theorem bU_ {base : Int} {k : Nat} : (numsF l n base k).length = k := by unfold numsF; rw [List.length_map, List.length_range]
theorem fT_ {base : Int} {k m : Nat} (h : (numF l n (base + (k : Int) + 1)).2 = false) (hk : k < m) : allNums l n base m = false := by
  unfold allNums
  rw [List.all_eq_false]
  exact ⟨k, List.mem_range.2 hk, by rw [h]; decide⟩
theorem fq_ {base : Int} {k : Nat} (h : allNums l n base k = true) (h2 : (numF l n (base + (k : Int) + 1)).2 = true) : allNums l n base (k + 1) = true := by
  unfold allNums at *
  rw [List.range_succ, List.all_append, h, List.all_cons, h2]
  rfl
theorem dr_ (h : baseF l n = none) : chooseF l n = (Chc.zero, 16) := by unfold chooseF; rw [h]
theorem fl_ {b : Pnt} (h : baseF l n = some b) (h2 : allNums l n b.seq (farF l b.seq) = false) : chooseF l n = (Chc.zero, 16) := by
  unfold chooseF
  rw [h]
  exact if_neg (by rw [h2]; decide)
theorem d3_ {b : Pnt} (h : baseF l n = some b) (h2 : allNums l n b.seq (farF l b.seq) = true) : chooseF l n = (⟨b, numsF l n b.seq (farF l b.seq)⟩, 0) := by
  unfold chooseF
  rw [h]
  exact if_pos h2
theorem kR_ {seq : Int} {Q : List Ent → Prop} (h0 : Q []) (h : ∀ s ∈ l, ∀ x ∈ s.chg.prepared, Q x.batch) : Q (numF l n seq).1 := by
  unfold numF
  cases hb : numBest l n seq with
  | none => exact h0
  | some p =>
    rcases dk_ (m := l) (a := none) (show l.foldl (numIn l n seq) none = some p from hb) with ⟨s, h1, h2⟩ | h1
    · exact h s h1 p h2
    · cases h1
theorem fS_ {y : Pnt} : ∀ {xs : List Pnt} {a : Option Pnt}, xs.foldl (baseSt l n) a = some y → y ∈ xs ∨ a = some y
  | [], a, h => .inr h
  | x :: xs, a, h => by
    rcases fS_ (xs := xs) h with h1 | h1
    · exact .inl (List.mem_cons_of_mem _ h1)
    · unfold baseSt at h1
      split at h1
      · exact .inl (Option.some.inj h1 ▸ List.mem_cons_self)
      · exact .inr h1
theorem eN_ {y : Pnt} : ∀ {m : List Sgn} {a : Option Pnt}, m.foldl (baseIn l n) a = some y → (∃ s ∈ m, y ∈ s.chg.points) ∨ a = some y
  | [], a, h => .inr h
  | s :: m, a, h => by
    rcases eN_ (m := m) h with ⟨t, h1, h2⟩ | h1
    · exact .inl ⟨t, List.mem_cons_of_mem _ h1, h2⟩
    · rcases fS_ h1 with h2 | h2
      · exact .inl ⟨s, List.mem_cons_self, h2⟩
      · exact .inr h2
end
theorem iU_ {α β : Type} {w w' : World} {b : Nat} {K : α → Value} {V : β → Value} {Good : α → Prop} {m : List (α × β)} (h : MapOf w b K V Good m) (hb : w'.heap[b]? = w.heap[b]?) : MapOf w' b K V Good m := by
  obtain ⟨es, clock, h1, h2⟩ := h
  exact ⟨es, clock, hb.trans h1, h2⟩
def mapPc {α β : Type} (b : Nat) (K : α → Value) (V : β → Value) (Good : α → Prop) (m : List (α × β)) : Pc where
  ids := [b]
  p := fun _ w => MapOf w b K V Good m
  carry := fun _ _ _ _ _ hs h => iU_ h (hs b (by simp))
  lt := fun _ _ h k hk => by simp at hk; subst hk; exact h.lt
abbrev mapV (b : Nat) : Abs := .v (.map (some b))
section
variable {P : Program} {n : Nat} {W : Wd} {σ τ : Blks} {l : Slots} {X : List Nat} {x y z : Operand} {d : Option Nat} {ty t k e : TypeId} {pos : String} {aft : Array Edge} {g : Option (Nat × Bool)} {b : Nat} {A B C : Abs}
variable {α β : Type} [DecidableEq α] {K : α → Value} {V : β → Value} {Good : α → Prop} {m : List (α × β)} {a : α} {v : β} {zv : Value}
def Abs.is (A : Abs) (u : Value) : Prop := (∀ K w x, rep K w A x → x = u) ∧ ∀ K w, rep K w A u
theorem is_v {u : Value} : (Abs.v u).is u := ⟨fun _ _ _ h => h, fun _ _ => rfl⟩
theorem i5_ {us : List Value} : (Abs.agg (us.map .v)).is (.agg us.toArray) := ⟨fun _ _ _ ⟨vs, h1, h2⟩ => by rw [h1, aO_.1 h2], fun _ _ => ⟨us, rfl, aO_.2 rfl⟩⟩
omit [DecidableEq α] in
theorem kT_ {w0 w : World} {F G : List Nat} {σ : Blks} (h : Mem w0 F G σ w) (hb : It.pc (mapPc b K V Good m) ∈ σ ∨ It.rdpc (mapPc b K V Good m) ∈ σ) : MapOf w b K V Good m := by
  rcases hb with hb | hb
  · exact h.hold _ hb
  · exact h.hold _ hb
theorem cS_ (kf : KeyFit P k K Good) (ht : P.underlying t = some (.map k e)) (hz : ∀ w, (zeroValue e).run P w = .ok zv w) (hx : look l x = some (mapV b)) (hb : It.pc (mapPc b K V Good m) ∈ σ ∨ It.rdpc (mapPc b K V Good m) ∈ σ) (hbX : b ∉ X)
    (hy : look l y = some A) (hA : A.is (K a)) (ha : Good a) (hC : C.is (((aget m a).map V).getD zv)) : Val P n W σ l X ⟨d, .lookup t x y true, ty, pos, aft, g⟩ (.tup [C, .v (.bool (aget m a).isSome)]) := fun ac w hs _ => by
  have h1 := kT_ hs.mem hb
  have e1 := hs.plain hx
  have e2 := hA.1 _ _ _ (hs.eval hy)
  refine ⟨.tuple #[((aget m a).map V).getD zv, .bool (aget m a).isSome], ⟨_, rfl, _, _, rfl, hC.2 _ _, _, _, rfl, rfl, rfl⟩, fun w' hw' => ?_⟩
  simp only [execOp, e1, e2, Sem.run_bind, (h1.ext hw' hbX).look_run kf ht (hz w') ha true, if_true, Result.andThen_ok, Sem.run_pure]
theorem a3_ (kf : KeyFit P k K Good) (ht : P.underlying t = some (.map k e)) (hz : ∀ w, (zeroValue e).run P w = .ok zv w) (hx : look l x = some (mapV b)) (hb : It.pc (mapPc b K V Good m) ∈ σ ∨ It.rdpc (mapPc b K V Good m) ∈ σ) (hbX : b ∉ X)
    (hy : look l y = some A) (hA : A.is (K a)) (ha : Good a) (hC : C.is (((aget m a).map V).getD zv)) : Val P n W σ l X ⟨d, .lookup t x y false, ty, pos, aft, g⟩ C := fun ac w hs _ => by
  have h1 := kT_ hs.mem hb
  have e1 := hs.plain hx
  have e2 := hA.1 _ _ _ (hs.eval hy)
  refine ⟨((aget m a).map V).getD zv, hC.2 _ _, fun w' hw' => ?_⟩
  simp only [execOp, e1, e2, Sem.run_bind, (h1.ext hw' hbX).look_run kf ht (hz w') ha false, Bool.false_eq_true, if_false, Result.andThen_ok, Sem.run_pure]
omit [DecidableEq α] in
theorem j4_ (ht : P.underlying t = some (.map k e)) (hx : look l x = some (mapV b)) (hb : It.pc (mapPc b K V Good m) ∈ σ ∨ It.rdpc (mapPc b K V Good m) ∈ σ) (hbX : b ∉ X) : Val P n W σ l X ⟨d, .call { callee := .builtin .len, args := #[x], argTypes := #[t] }, ty, pos, aft, g⟩ (.v (.int .i64 m.length)) := fun ac w hs _ => by
  have h1 : MapOf w b K V Good m := by
    rcases hb with hb | hb
    · exact hs.mem.hold _ hb
    · exact hs.mem.hold _ hb
  refine ⟨_, rfl, fun w' hw' => ?_⟩
  simp [execOp, resolve, invoke, builtin, hs.plain hx, (h1.ext hw' hbX).len_run ht ty, Result.andThen]
theorem b7_ {m' : List (α × β)} (kf : KeyFit P k K Good) (ht : P.underlying t = some (.map k e)) (hx : look l x = some (mapV b)) (hu : Upd (.pc (mapPc b K V Good m)) (.pc (mapPc b K V Good m')) σ τ) (hy : look l y = some A) (hA : A.is (K a)) (ha : Good a) (hz : look l z = some B) (hB : B.is (V v)) (hm : aput m a v = m') :
    Eff P n W σ l [b] ⟨d, .mapUpdate t x y z, ty, pos, aft, g⟩ fun u τ' => u = .v undef ∧ τ' = τ := fun ac w hs => by
  subst hm
  have h1 : MapOf w b K V Good m := hs.mem.hold _ hu.mem
  obtain ⟨w', hr, h2, h3⟩ := h1.put_run kf ht ha v
  have h4 := hs.mem.upd hu (h3.mono (by simp [It.mids, mapPc])) (by simp [It.mids, mapPc]) (fun k hk => .inl hk) rfl (fun _ => h2)
  refine ⟨_, w', _, _, ⟨rfl, rfl⟩, h3, rfl, h4.1, h4.2, .inr ⟨rfl, ?_⟩⟩
  simp only [execOp, hs.plain hx, hA.1 _ _ _ (hs.eval hy), hB.1 _ _ _ (hs.eval hz), Sem.run_bind, hr, Result.andThen_ok, Sem.run_pure]
omit [DecidableEq α] in
theorem cK_ {o : Op} (K : α → Value) (V : β → Value) (Good : α → Prop) (hrun : ∀ (ac : Act) (w : World), (execOp ac.eval ⟨d, o, ty, pos, aft, g⟩).run P w = .ok (.value (.map (some w.heap.size))) (w.alloc (.map #[] 0))) :
    Eff P n W σ l [] ⟨d, o, ty, pos, aft, g⟩ fun u τ' => ∃ b, u = mapV b ∧ τ' = .pc (mapPc b K V Good []) :: σ := fun ac w hs => by
  have hx : Ext [] w (w.alloc (.map #[] 0)) := (Ext.refl w).alloc _
  have h4 := hs.mem.new (y := .pc (mapPc w.heap.size K V Good [])) hx (by simp [It.mids, mapPc]) (by simp [It.mids, mapPc]) rfl (fun _ => MapOf.new w)
  exact ⟨_, _, _, _, ⟨w.heap.size, rfl, rfl⟩, hx, rfl, h4.1, h4.2, .inl (hrun ac w)⟩
end
end Go.Proofs.YtggajaigfkekhaaGreat.A
namespace Go.Proofs.YtggajaigfkekhaaGreat
open Go.RowKit
section
variable {α β : Type} [DecidableEq α] {P : Program} {w w' : World} {b : Nat} {k e t : TypeId} {K : α → Value} {V : β → Value} {Good : α → Prop} {m : List (α × β)}
theorem dG_ {γ δ : Type} (f : γ → δ) : ∀ (l : List γ) (j : Nat), (l.eraseIdx j).map f = (l.map f).eraseIdx j
  | [], _ => rfl
  | _ :: _, 0 => rfl
  | x :: l, j + 1 => by simp [dG_ f l j]
theorem fM_ : ∀ {m : List (α × β)} {j : Nat} {a : α} {v : β}, (m.map (·.1)).Nodup → m[j]? = some (a, v) → m.eraseIdx j = adel m a
  | [], j, a, v, _, h => by simp at h
  | p :: m, 0, a, v, hn, h => by
    simp only [List.getElem?_cons_zero, Option.some.injEq] at h
    subst h
    rw [List.map_cons, List.nodup_cons] at hn
    unfold adel
    rw [List.eraseIdx_cons_zero, List.filter_cons, if_neg (by simp)]
    symm
    rw [List.filter_eq_self]
    intro q hq
    simp only [decide_eq_true_eq]
    intro e
    exact hn.1 (e ▸ List.mem_map.2 ⟨q, hq, rfl⟩)
  | p :: m, j + 1, a, v, hn, h => by
    rw [List.map_cons, List.nodup_cons] at hn
    simp only [List.getElem?_cons_succ] at h
    have h1 := fM_ hn.2 h
    have hne : p.1 ≠ a := fun e => hn.1 (by rw [e]; exact List.mem_map.2 ⟨_, List.mem_of_getElem? h, rfl⟩)
    unfold adel at h1 ⊢
    rw [List.eraseIdx_cons_succ, h1, List.filter_cons, if_pos (by simpa using hne)]
theorem lz_ {m : List (α × β)} {a : α} (h : aget m a = none) : adel m a = m := by
  unfold adel
  rw [List.filter_eq_self]
  intro q hq
  simp only [decide_eq_true_eq]
  intro e
  rw [dL_] at h
  exact h (e ▸ List.mem_map.2 ⟨q, hq, rfl⟩)
omit [DecidableEq α] in
theorem hJ_ {b : Nat} {es : Array MapEntry} {clock : Nat} (hb : w.heap[b]? = some (.map es clock)) : MapOf w b K V Good m → MapOf ({ w with heap := w.heap.setIfInBounds b (.map es clock) } : World) b K V Good m := fun ⟨es', clock', h1, h2⟩ => by
  rw [hb] at h1
  obtain ⟨rfl, rfl⟩ : es = es' ∧ clock = clock' := by simpa using h1
  exact ⟨_, _, bw_ hb, h2⟩
theorem MapOf.del_run (h : MapOf w b K V Good m) (kf : KeyFit P k K Good) (ht : P.underlying t = some (.map k e)) {a : α} (ha : Good a) (ty : TypeId) :
    ∃ w', (Builtin.delete_ #[t, k] ty #[.map (some b), K a]).run P w = .ok (.tuple #[]) w' ∧ MapOf w' b K V Good (adel m a) ∧ Ext [b] w w' := by
  have hh := h
  obtain ⟨es, clock, hb, he, hnd, hg, hborn, hbnd⟩ := h
  obtain ⟨l, hl⟩ := kf.lit a ha
  rcases eI_ kf he hg hnd ha w with ⟨h1, h2⟩ | ⟨j, u, hj, h1, h2⟩
  · refine ⟨{ w with heap := w.heap.setIfInBounds b (.map es clock) }, ?_, ?_, Ext.setMap hb⟩
    · simp [Builtin.delete_, Sem.run_bind, run_underlying ht, Result.andThen, by_ hb, kf.keyed.check w _ hl, h2, bJ_ hb]
    · rw [lz_ h1]
      exact hJ_ hb hh
  · refine ⟨{ w with heap := w.heap.setIfInBounds b (.map (es.eraseIdxIfInBounds j) clock) }, ?_, ⟨_, _, bw_ hb, ?_, j0_ hnd a, ?_, ?_, ?_⟩, Ext.setMap hb⟩
    · simp [Builtin.delete_, Sem.run_bind, run_underlying ht, Result.andThen, by_ hb, kf.keyed.check w _ hl, h2, bJ_ hb]
    · have e1 : (es.eraseIdxIfInBounds j).toList = es.toList.eraseIdx j := by simp
      rw [e1, dG_, he, ← dG_, fM_ hnd hj]
    · exact fun p hp => hg p ((List.mem_filter.1 hp).1)
    · intro x hx
      have e1 : (es.eraseIdxIfInBounds j).toList = es.toList.eraseIdx j := by simp
      rw [e1] at hx
      exact hborn x (List.mem_of_mem_eraseIdx hx)
    · have e1 : (es.eraseIdxIfInBounds j).toList = es.toList.eraseIdx j := by simp
      rw [e1, dG_]
      exact hbnd.sublist (List.eraseIdx_sublist _ _)
def MapAt (w : World) (b : Nat) (K : α → Value) (V : β → Value) (Good : α → Prop) (m : List (α × β)) (a : α) (s : Nat) : Prop :=
  ∃ es clock, w.heap[b]? = some (.map es clock) ∧ es.toList.map (fun e => (e.key, e.val)) = m.map (fun p => (K p.1, V p.2)) ∧ (m.map (·.1)).Nodup ∧ (∀ p ∈ m, Good p.1) ∧
    (∀ e ∈ es.toList, e.born < clock) ∧ (es.toList.map (·.born)).Nodup ∧ ∃ j : Nat, (es.toList[j]?).map (fun x : MapEntry => x.born) = some s ∧ (m[j]?).map (fun p : α × β => p.1) = some a
def aent (m : List (α × β)) (a : α) (z : β) : List (α × β) := if (aget m a).isSome then m else aput m a z
theorem MapOf.entry_run (h : MapOf w b K V Good m) (kf : KeyFit P k K Good) (ht : P.underlying t = some (.map k e)) {z : β} (hz : (zeroValue e).run P w = .ok (V z) w) {a : α} (ha : Good a) :
    ∃ w' s, (Instr.mapEntry t (.map (some b)) (K a)).run P w = .ok (.tuple #[((aget m a).map V).getD (V z), .int .i64 (s : Nat)]) w' ∧ MapAt w' b K V Good (aent m a z) a s ∧ Ext [b] w w' := by
  obtain ⟨es, clock, hb, he, hnd, hg, hborn, hbnd⟩ := h
  obtain ⟨l, hl⟩ := kf.lit a ha
  have hlen : es.toList.length = m.length := by
    have h3 := congrArg List.length he
    simpa using h3
  rcases eI_ kf he hg hnd ha w with ⟨h1, h2⟩ | ⟨j, u, hj, h1, h2⟩
  · have hen : aent m a z = m ++ [(a, z)] := by
      unfold aent aput
      rw [if_neg (by rw [h1]; simp), if_neg (by rw [h1]; simp)]
    refine ⟨{ w with heap := w.heap.setIfInBounds b (.map (es.push { key := K a, val := V z, born := clock }) (clock + 1)) }, clock, ?_, ⟨_, _, bw_ hb, ?_, ?_, ?_, ?_, ?_, m.length, ?_, ?_⟩, Ext.setMap hb⟩
    · simp only [Instr.mapEntry, Sem.run_bind, run_underlying ht, Result.andThen_ok, by_ hb, kf.keyed.check w false hl, h2, hz, bJ_ hb, Sem.run_pure, h1]
      try rfl
    · rw [Array.toList_push, List.map_append, he, hen, List.map_append]
      rfl
    · rw [hen, List.map_append, List.nodup_append]
      refine ⟨hnd, by simp, ?_⟩
      intro x hx y hy
      simp at hy
      subst hy
      intro e
      subst e
      rw [dL_] at h1
      exact h1 hx
    · intro p hp
      rw [hen, List.mem_append, List.mem_singleton] at hp
      rcases hp with hp | rfl
      · exact hg p hp
      · exact ha
    · intro x hx
      rw [Array.toList_push, List.mem_append, List.mem_singleton] at hx
      rcases hx with hx | rfl
      · have := hborn x hx; omega
      · exact Nat.lt_succ_self _
    · rw [Array.toList_push, List.map_append, List.nodup_append]
      refine ⟨hbnd, by simp, ?_⟩
      intro x hx y hy
      simp at hy
      subst hy
      simp only [List.mem_map] at hx
      obtain ⟨q, hq, rfl⟩ := hx
      have := hborn q hq
      omega
    · rw [Array.toList_push, List.getElem?_append_right (by omega), hlen, Nat.sub_self]
      rfl
    · rw [hen, List.getElem?_append_right (by omega), Nat.sub_self]
      rfl
  · have hjl : j < es.toList.length := by rw [hlen]; exact (List.getElem?_eq_some_iff.1 hj).1
    have hk : (es[j]?).map (·.key) = some (K a) := by
      rw [← Array.getElem?_toList]
      have h3 : (es.toList.map (fun e => (e.key, e.val)))[j]? = some (K a, V u) := by rw [he, List.getElem?_map, hj]; rfl
      rw [List.getElem?_map] at h3
      cases hx : es.toList[j]? with
      | none => rw [hx] at h3; cases h3
      | some x => rw [hx] at h3; simp at h3; simp [h3.1]
    have hen : aent m a z = m := by
      unfold aent
      rw [if_pos (by rw [h1]; rfl)]
    obtain ⟨x, hx⟩ : ∃ x, es.toList[j]? = some x := ⟨_, List.getElem?_eq_getElem hjl⟩
    have hxk : x.key = K a := by
      rw [← Array.getElem?_toList, hx] at hk
      simpa using hk
    have hmod : (es.modify j fun e => { e with key := K a }).toList = es.toList := by
      rw [Array.toList_modify]
      apply List.ext_getElem?
      intro i
      rw [List.getElem?_modify]
      by_cases hij : j = i
      · subst hij
        rw [hx]
        simp [← hxk]
      · simp [hij]
    have hb2 : (es[j]?).map (fun x : MapEntry => ((x.born : Nat) : Int)) = some ((x.born : Nat) : Int) := by rw [← Array.getElem?_toList, hx]; rfl
    refine ⟨{ w with heap := w.heap.setIfInBounds b (.map (es.modify j fun e => { e with key := K a }) clock) }, x.born, ?_, ⟨_, _, bw_ hb, ?_, ?_, ?_, ?_, ?_, j, ?_, ?_⟩, Ext.setMap hb⟩
    · simp only [Instr.mapEntry, Sem.run_bind, run_underlying ht, Result.andThen_ok, by_ hb, kf.keyed.check w false hl, h2, hk, hb2, Option.getD_some, kf.keyed.stays w hl, bJ_ hb, Sem.run_pure, h1]
      rfl
    · rw [hmod, hen]; exact he
    · rw [hen]; exact hnd
    · rw [hen]; exact hg
    · rw [hmod]; exact hborn
    · rw [hmod]; exact hbnd
    · rw [hmod, hx]; rfl
    · rw [hen, hj]; rfl
theorem MapAt.store_run {a : α} {s : Nat} (h : MapAt w b K V Good m a s) (v : β) :
    ∃ w', (Instr.entryStore t (.map (some b)) (.int .i64 (s : Nat)) (V v)).run P w = .ok () w' ∧ MapOf w' b K V Good (aput m a v) ∧ Ext [b] w w' := by
  obtain ⟨es, clock, hb, he, hnd, hg, hborn, hbnd, j, hs, ha⟩ := h
  obtain ⟨x, hx, hxs⟩ : ∃ x, es.toList[j]? = some x ∧ x.born = s := by
    cases hx : es.toList[j]? with
    | none => rw [hx] at hs; cases hs
    | some x => rw [hx] at hs; exact ⟨x, rfl, by simpa using hs⟩
  obtain ⟨u, hj⟩ : ∃ u, m[j]? = some (a, u) := by
    cases hm : m[j]? with
    | none => rw [hm] at ha; cases ha
    | some p => rw [hm] at ha; exact ⟨p.2, by have h : p.1 = a := (by simpa using ha); subst h; rfl⟩
  have hjl : j < es.toList.length := (List.getElem?_eq_some_iff.1 hx).1
  have hfind : es.findIdx? (fun e => ((e.born : Nat) : Int) == ((s : Nat) : Int)) = some j := by
    rw [Array.findIdx?_eq_some_iff_getElem]
    refine ⟨by simpa using hjl, ?_, fun i hi => ?_⟩
    · have : es.toList[j] = x := (List.getElem?_eq_some_iff.1 hx).2
      rw [Array.getElem_toList] at this
      rw [this, hxs]
      simp
    · simp only [beq_iff_eq, Int.natCast_inj]
      intro e
      have h1 : (es.toList.map (·.born))[i]? = some s := by rw [List.getElem?_map, List.getElem?_eq_getElem (by omega), Array.getElem_toList]; simp [e]
      have h2 : (es.toList.map (·.born))[j]? = some s := by rw [List.getElem?_map, hx]; simp [hxs]
      have := (List.getElem?_inj (by rw [List.length_map]; omega) hbnd).1 (h1.trans h2.symm)
      omega
  have hmod : (es.modify j fun e => { e with val := V v }).toList = es.toList.modify j fun e => { e with val := V v } := by simp
  refine ⟨{ w with heap := w.heap.setIfInBounds b (.map (es.modify j fun e => { e with val := V v }) clock) }, ?_, ⟨_, _, bw_ hb, ?_, cy_ hnd a v, ?_, ?_, ?_⟩, Ext.setMap hb⟩
  · have hi : (asInt (.int .i64 ((s : Nat) : Int))).run P w = .ok ((s : Nat) : Int) w := by simp [asInt, asIntOf]
    simp only [Instr.entryStore, Sem.run_bind, Result.andThen_ok, by_ hb, hi, hfind, bJ_ hb]
  · rw [hmod, ij_ hnd hj]
    apply List.ext_getElem?
    intro i
    have hei : (es.toList.map (fun e => (e.key, e.val)))[i]? = (m.map (fun p => (K p.1, V p.2)))[i]? := by rw [he]
    rw [List.getElem?_map, List.getElem?_map] at hei
    rw [List.getElem?_map, List.getElem?_map, List.getElem?_modify, List.getElem?_set]
    have hml : j < m.length := (List.getElem?_eq_some_iff.1 hj).1
    by_cases hij : j = i
    · subst hij
      rw [if_pos rfl, if_pos hml, hx]
      rw [hx, hj] at hei
      simp at hei
      simp [hei.1]
    · rw [if_neg hij]
      simpa [hij] using hei
  · intro p hp
    rw [ij_ hnd hj] at hp
    rcases List.mem_or_eq_of_mem_set hp with hp | rfl
    · exact hg p hp
    · exact hg (a, u) (List.mem_of_getElem? hj)
  · intro y hy
    rw [hmod] at hy
    obtain ⟨i, hi⟩ := List.getElem?_of_mem hy
    rw [List.getElem?_modify] at hi
    cases he2 : es.toList[i]? with
    | none => rw [he2] at hi; simp at hi
    | some y2 =>
      rw [he2] at hi
      have := hborn y2 (List.mem_of_getElem? he2)
      split at hi
      · simp at hi; rw [← hi]; exact this
      · simp at hi; rw [← hi]; exact this
  · rw [hmod]
    have : (es.toList.modify j fun e => { e with val := V v }).map (·.born) = es.toList.map (·.born) := by
      apply List.ext_getElem?
      intro i
      rw [List.getElem?_map, List.getElem?_map, List.getElem?_modify]
      cases es.toList[i]? with
      | none => simp
      | some y => by_cases hij : j = i <;> simp [hij]
    rw [this]
    exact hbnd
theorem a9_ (m : List (α × β)) (a : α) (z v : β) : aput (aent m a z) a v = aput m a v := by
  unfold aent
  split
  · rfl
  · next h =>
    have h0 : aget m a = none := by simpa using h
    have h1 : (aget (aput m a z) a).isSome = true := by rw [ba_, if_pos rfl]; rfl
    have h2 : aput m a z = m ++ [(a, z)] := by unfold aput; rw [if_neg h]
    unfold aput at h1 ⊢
    rw [if_neg h] at h1 ⊢
    rw [if_pos h1, if_neg h, List.map_append]
    congr 1
    · rw [List.map_congr_left (g := id)]
      · simp
      · intro p hp
        rw [dL_] at h0
        have : p.1 ≠ a := fun e => h0 (e ▸ List.mem_map.2 ⟨p, hp, rfl⟩)
        simp [this]
    · simp
end
end Go.Proofs.YtggajaigfkekhaaGreat
namespace Go.Proofs.YtggajaigfkekhaaGreat.A
open Go.RowKit
def mapAtPc {α β : Type} (b : Nat) (K : α → Value) (V : β → Value) (Good : α → Prop) (m : List (α × β)) (a : α) (s : Nat) : Pc where
  ids := [b]
  p := fun _ w => MapAt w b K V Good m a s
  carry := fun _ _ _ _ _ hs h => by
    obtain ⟨es, clock, h1, h2⟩ := h
    exact ⟨es, clock, (hs b (by simp)).trans h1, h2⟩
  lt := fun _ w h k hk => by
    simp at hk
    subst hk
    obtain ⟨es, clock, h1, _⟩ := h
    exact bL_ h1
section
variable {P : Program} {n : Nat} {W : Wd} {σ τ : Blks} {l : Slots} {X : List Nat} {x y z : Operand} {d : Option Nat} {ty t k e : TypeId} {pos : String} {aft : Array Edge} {g : Option (Nat × Bool)} {b s : Nat} {A B C : Abs}
variable {α β : Type} [DecidableEq α] {K : α → Value} {V : β → Value} {Good : α → Prop} {m : List (α × β)} {a : α} {v zv : β}
theorem fY_ {m' : List (α × β)} (kf : KeyFit P k K Good) (ht : P.underlying t = some (.map k e)) (hx : look l x = some (mapV b)) (hu : Upd (.pc (mapPc b K V Good m)) (.pc (mapPc b K V Good m')) σ τ) (hy : look l y = some A) (hA : A.is (K a)) (ha : Good a) (hm : adel m a = m') :
    Eff P n W σ l [b] ⟨d, .call { callee := .builtin .delete, args := #[x, y], argTypes := #[t, k] }, ty, pos, aft, g⟩ fun u τ' => u = .tup [] ∧ τ' = τ := fun ac w hs => by
  subst hm
  have h1 : MapOf w b K V Good m := hs.mem.hold _ hu.mem
  obtain ⟨w', hr, h2, h3⟩ := h1.del_run kf ht ha ty
  have h4 := hs.mem.upd hu (h3.mono (by simp [It.mids, mapPc])) (by simp [It.mids, mapPc]) (fun k hk => .inl hk) rfl (fun _ => h2)
  refine ⟨.tuple #[], w', _, _, ⟨rfl, rfl⟩, h3, ⟨[], rfl, rfl⟩, h4.1, h4.2, .inl ?_⟩
  simp [execOp, resolve, invoke, builtin, hs.plain hx, hA.1 _ _ _ (hs.eval hy), hr, Result.andThen]
theorem aG_ {τ : Nat → Blks} (kf : KeyFit P k K Good) (ht : P.underlying t = some (.map k e)) (hz : ∀ w, (zeroValue e).run P w = .ok (V zv) w) (hx : look l x = some (mapV b)) (hu : ∀ s, Upd (.pc (mapPc b K V Good m)) (.pc (mapAtPc b K V Good (aent m a zv) a s)) σ (τ s))
    (hy : look l y = some A) (hA : A.is (K a)) (ha : Good a) (hC : C.is (((aget m a).map V).getD (V zv))) :
    Eff P n W σ l [b] ⟨d, .mapEntry t x y, ty, pos, aft, g⟩ fun u τ' => ∃ s : Nat, u = .tup [C, .v (.int .i64 (s : Nat))] ∧ τ' = τ s := fun ac w hs => by
  have h1 : MapOf w b K V Good m := hs.mem.hold _ (hu 0).mem
  obtain ⟨w', s, hr, h2, h3⟩ := h1.entry_run kf ht (hz w) ha
  have h4 := hs.mem.upd (hu s) (h3.mono (by simp [It.mids, mapPc])) (by simp [It.mids, mapAtPc]) (fun k hk => .inl (by simpa [It.mids, mapPc, mapAtPc] using hk)) rfl (fun _ => h2)
  refine ⟨.tuple #[((aget m a).map V).getD (V zv), .int .i64 (s : Nat)], w', _, _, ⟨s, rfl, rfl⟩, h3, ⟨_, rfl, _, _, rfl, hC.2 _ _, _, _, rfl, rfl, rfl⟩, h4.1, h4.2, .inl ?_⟩
  simp only [execOp, hs.plain hx, hA.1 _ _ _ (hs.eval hy), Sem.run_bind, hr, Result.andThen_ok, Sem.run_pure]
theorem ar_ {m' : List (α × β)} (hx : look l x = some (mapV b)) (hu : Upd (.pc (mapAtPc b K V Good m a s)) (.pc (mapPc b K V Good m')) σ τ) (hy : look l y = some (.v (.int .i64 (s : Nat)))) (hz : look l z = some B) (hB : B.is (V v)) (hm : aput m a v = m') :
    Eff P n W σ l [b] ⟨d, .entryStore t x y z, ty, pos, aft, g⟩ fun u τ' => u = .v undef ∧ τ' = τ := fun ac w hs => by
  subst hm
  have h1 : MapAt w b K V Good m a s := hs.mem.hold _ hu.mem
  obtain ⟨w', hr, h2, h3⟩ := h1.store_run (P := P) (t := t) v
  have h4 := hs.mem.upd hu (h3.mono (by simp [It.mids, mapAtPc])) (by simp [It.mids, mapPc]) (fun k hk => .inl (by simpa [It.mids, mapPc, mapAtPc] using hk)) rfl (fun _ => h2)
  refine ⟨_, w', _, _, ⟨rfl, rfl⟩, h3, rfl, h4.1, h4.2, .inr ⟨rfl, ?_⟩⟩
  simp only [execOp, hs.plain hx, hs.plain hy, hB.1 _ _ _ (hs.eval hz), Sem.run_bind, hr, Result.andThen_ok, Sem.run_pure]
end
/-! ### Keys that are ints -/
abbrev intK (x : Int) : Value := .int .i64 x
abbrev intOk (x : Int) : Prop := InR .i64 x
theorem int_wf {x : Int} (h : intOk x) : (Lit.int .i64 x).wf = true := by
  simp only [InR, lo, hi] at h
  simp only [Lit.wf, Bool.and_eq_true, decide_eq_true_eq]
  exact ⟨by show (-9223372036854775808 : Int) ≤ _; omega, by show _ ≤ (9223372036854775807 : Int); omega⟩
theorem bv_ {P : Program} {k : TypeId} (hk : P.underlying k = some (.int .i64)) : KeyFit P k intK intOk where
  keyed := Maps.int_keyed hk
  lit a h := ⟨_, Maps.keyOf_int_mk hk (int_wf h)⟩
  inj a b _ _ h := by
    injection h
abbrev cntV (x : Nat) : Value := .int .i64 (x : Nat)
def srt (ks : List Int) : List Int := ks.mergeSort fun x y => decide (x ≤ y)
theorem cC_ (ks : List Int) : (srt ks).Perm ks := List.mergeSort_perm _ _
theorem cr_ (ks : List Int) : (srt ks).Pairwise (· ≤ ·) := by
  have h := List.pairwise_mergeSort (le := fun x y : Int => decide (x ≤ y)) (fun a b c h1 h2 => by simp only [decide_eq_true_eq] at *; omega) (fun a b => by simp only [Bool.or_eq_true, decide_eq_true_eq]; omega) ks
  exact h.imp fun h => by simpa using h
theorem b1_ : ∀ {l m : List Int}, l.Perm m → l.Pairwise (· ≤ ·) → m.Pairwise (· ≤ ·) → l = m
  | [], m, h, _, _ => (List.nil_perm.1 h).symm ▸ rfl
  | a :: l, [], h, _, _ => by have := h.length_eq; simp at this
  | a :: l, b :: m, h, h1, h2 => by
    rw [List.pairwise_cons] at h1 h2
    have hab : a = b := by
      have ha : a ∈ b :: m := h.mem_iff.1 List.mem_cons_self
      have hb : b ∈ a :: l := h.mem_iff.2 List.mem_cons_self
      rcases List.mem_cons.1 ha with e | ha
      · exact e
      · rcases List.mem_cons.1 hb with e | hb
        · exact e.symm
        · have := h1.1 b hb; have := h2.1 a ha; omega
    subst hab
    rw [b1_ (h.cons_inv) h1.2 h2.2]
theorem kl_ {l m : List Int} (h : l.Perm m) : srt l = srt m := b1_ (((cC_ l).trans h).trans (cC_ m).symm) (cr_ l) (cr_ m)
theorem cX_ (ks : List Int) : (srt ks).length = ks.length := (cC_ ks).length_eq
section
variable {α : Type} [DecidableEq α] {m : List (Int × α)} {c : List (α × Nat)} {u v k : α} {w who : Int}
def cget (c : List (α × Nat)) (v : α) : Nat := (aget c v).getD 0
def cnt (m : List (Int × α)) (v : α) : Nat := (m.filter fun p => decide (p.2 = v)).length
def decO (c : List (α × Nat)) : Option α → List (α × Nat)
  | none => c
  | some v => if cget (aput c v (cget c v - 1)) v = 0 then adel (aput c v (cget c v - 1)) v else aput c v (cget c v - 1)
def chgC (m : List (Int × α)) (c : List (α × Nat)) (who : Int) (k : α) : List (α × Nat) := aput (decO c (aget m who)) k (cget (decO c (aget m who)) k + 1)
structure TInv (m : List (Int × α)) (c : List (α × Nat)) : Prop where
  nd : (m.map (·.1)).Nodup
  num : ∀ v, cget c v = cnt m v
theorem cP_ (c : List (α × Nat)) (k v : α) (n : Nat) : cget (aput c k n) v = if v = k then n else cget c v := by
  unfold cget
  rw [ba_]
  split <;> rfl
theorem lp_ (c : List (α × Nat)) (k v : α) : cget (adel c k) v = if v = k then 0 else cget c v := by
  unfold cget
  rw [lw_]
  split <;> rfl
theorem go_ (c : List (α × Nat)) (u v : α) : cget (decO c (some u)) v = if v = u then cget c u - 1 else cget c v := by
  show cget (if cget (aput c u (cget c u - 1)) u = 0 then adel (aput c u (cget c u - 1)) u else aput c u (cget c u - 1)) v = _
  split
  · next h =>
    rw [cP_, if_pos rfl] at h
    rw [lp_, cP_]
    split
    · omega
    · rfl
  · rw [cP_]
theorem eK_ (p : Int × α) (m : List (Int × α)) (v : α) : cnt (p :: m) v = (if p.2 = v then 1 else 0) + cnt m v := by
  unfold cnt
  rw [List.filter_cons]
  by_cases h : p.2 = v
  · simp [h]; omega
  · simp [h]
theorem jU_ (m l : List (Int × α)) (v : α) : cnt (m ++ l) v = cnt m v + cnt l v := by simp [cnt]
theorem cnt_le (m : List (Int × α)) (v : α) : cnt m v ≤ m.length := List.length_filter_le _ _
omit [DecidableEq α] in
theorem hu_ (p : Int × α) (m : List (Int × α)) (w : Int) : aget (p :: m) w = if p.1 = w then some p.2 else aget m w := by
  unfold aget
  rw [List.find?_cons]
  by_cases h : p.1 = w <;> simp [h]
theorem ia_ : ∀ {m : List (Int × α)} {w : Int} {v : α}, aget m w = some v → 1 ≤ cnt m v
  | [], w, v, h => by cases h
  | p :: m, w, v, h => by
    rw [hu_] at h
    rw [eK_]
    split at h
    · have := Option.some.inj h
      rw [if_pos this]
      omega
    · have := ia_ h
      omega
omit [DecidableEq α] in
theorem aput_new (h : aget m w = none) (k : α) : aput m w k = m ++ [(w, k)] := by
  unfold aput
  rw [if_neg (by rw [h]; simp)]
theorem cnt_new (h : aget m w = none) (k v : α) : cnt (aput m w k) v = cnt m v + (if k = v then 1 else 0) := by
  rw [aput_new h, jU_]
  congr 1
  rw [eK_]
  simp [cnt]
omit [DecidableEq α] in
theorem iV_ : ∀ {m : List (Int × α)} {w : Int} {k : α}, w ∉ m.map (·.1) → (m.map fun p => if p.1 = w then (w, k) else p) = m
  | [], _, _, _ => rfl
  | p :: m, w, k, h => by
    rw [List.map_cons, List.mem_cons, not_or] at h
    rw [List.map_cons, if_neg (fun e => h.1 e.symm), iV_ h.2]
theorem lh_ : ∀ {m : List (Int × α)} {w : Int} {u : α}, (m.map (·.1)).Nodup → aget m w = some u → ∀ k v : α, cnt (m.map fun p => if p.1 = w then (w, k) else p) v + (if u = v then 1 else 0) = cnt m v + (if k = v then 1 else 0)
  | [], w, u, _, h, _, _ => by cases h
  | p :: m, w, u, hn, h, k, v => by
    rw [List.map_cons, List.nodup_cons] at hn
    rw [hu_] at h
    rw [List.map_cons, eK_, eK_]
    by_cases hp : p.1 = w
    · rw [if_pos hp] at h
      have := Option.some.inj h
      subst this
      subst hp
      rw [if_pos rfl, iV_ hn.1]
      dsimp only
      omega
    · rw [if_neg hp] at h
      have := lh_ hn.2 h k v
      rw [if_neg hp]
      omega
theorem TInv.nil : TInv ([] : List (Int × α)) [] := ⟨by simp, fun v => rfl⟩
theorem TInv.chg (h : TInv m c) (who : Int) (k : α) : TInv (aput m who k) (chgC m c who k) := by
  refine ⟨cy_ h.nd who k, fun v => ?_⟩
  unfold chgC
  rw [cP_]
  cases hw : aget m who with
  | none =>
    rw [cnt_new hw]
    show (if v = k then cget c k + 1 else cget c v) = _
    rw [h.num, h.num]
    by_cases hv : v = k
    · subst hv; simp
    · rw [if_neg hv, if_neg (fun e => hv e.symm)]; omega
  | some u =>
    have h1 := lh_ h.nd hw k v
    have h2 := ia_ hw
    have e : aput m who k = m.map fun p => if p.1 = who then (who, k) else p := by
      unfold aput
      rw [if_pos (by rw [hw]; rfl)]
    rw [e, go_, go_, h.num, h.num, h.num]
    by_cases hv : v = k
    · subst hv
      have e1 : (if v = v then 1 else 0) = 1 := if_pos rfl
      rw [e1] at h1
      rw [if_pos rfl]
      by_cases hu : v = u
      · subst hu
        rw [if_pos rfl] at h1 ⊢
        omega
      · have e2 : (if u = v then 1 else 0) = 0 := if_neg fun e => hu e.symm
        rw [e2] at h1
        rw [if_neg hu]
        omega
    · have e1 : (if k = v then 1 else 0) = 0 := if_neg fun e => hv e.symm
      rw [e1] at h1
      rw [if_neg hv]
      by_cases hu : v = u
      · subst hu
        rw [if_pos rfl] at h1 ⊢
        omega
      · have e2 : (if u = v then 1 else 0) = 0 := if_neg fun e => hu e.symm
        rw [e2] at h1
        rw [if_neg hu]
        omega
theorem TInv.le (h : TInv m c) (v : α) : cget c v ≤ m.length := by rw [h.num]; exact cnt_le m v
theorem TInv.pos (h : TInv m c) (hw : aget m who = some v) : 1 ≤ cget c v := by rw [h.num]; exact ia_ hw
theorem TInv.dec_le (h : TInv m c) (o : Option α) (v : α) : cget (decO c o) v ≤ m.length := by
  cases o with
  | none => exact h.le v
  | some u =>
    rw [go_]
    have h1 := h.le u
    have h2 := h.le v
    split <;> omega
theorem la_ (h : cget (aput c v (cget c v - 1)) v = 0) : adel (aput c v (cget c v - 1)) v = decO c (some v) := (if_pos h).symm
theorem jb_ (h : ¬ cget (aput c v (cget c v - 1)) v = 0) : decO c (some v) = aput c v (cget c v - 1) := if_neg h
theorem aR_ (c : List (α × Nat)) (v : α) : (int ((cget c v : Nat) : Int)).is (((aget c v).map cntV).getD (cntV 0)) := by
  unfold cget
  cases aget c v with
  | none => exact is_v
  | some n => exact is_v
omit [DecidableEq α] in
theorem de_ (m : List (Int × α)) (w : Int) (k : α) : (aput m w k).length ≤ m.length + 1 := by
  rw [dt_]
  split <;> omega
end
end Go.Proofs.YtggajaigfkekhaaGreat.A
namespace Go.Proofs.YtggajaigfkekhaaGreat
open Go.RowKit
/-! ### Regions that draw, whose last operation comes behind all others -/
section
variable {P : Program} {ops : Array Oper}
def anyZ (P : Program) (ops : Array Oper) (D : World → Prop) (z : Nat) (Q : Act → World → Prop) : Nat → Array Bool → Act → World → Prop
  | 0, listed, a, w => Region.ready .any ops listed = [] ∧ Q a w
  | fuel + 1, listed, a, w => (Region.ready .any ops listed = [] → Q a w) ∧
      ∀ i ∈ Region.ready .any ops listed, wpOp P ops NoExit i (fun a' w' => (i = z ∨ D w') ∧ anyZ P ops D z Q fuel (listed.setIfInBounds i true) a' w') a w
theorem anyZ.wpAny {D : World → Prop} {z : Nat} {Q : Exit → Act → World → Prop} : ∀ (fuel : Nat) (listed : Array Bool) (a : Act) (w : World),
    anyZ P ops D z (Q .normal) fuel listed a w → wpAny P .any ops Q fuel listed a w
  | 0, _, _, _, h => h
  | fuel + 1, _, _, _, h => ⟨h.1, fun i hi => dc_ (wpOp_mono (fun a' w' h3 => anyZ.wpAny fuel _ a' w' h3.2) (h.2 i hi))⟩
theorem anyZ.mono {D D' : World → Prop} {z : Nat} {Q : Act → World → Prop} (hD : ∀ w, D' w → D w) : ∀ (fuel : Nat) (listed : Array Bool) (a : Act) (w : World),
    anyZ P ops D' z Q fuel listed a w → anyZ P ops D z Q fuel listed a w
  | 0, _, _, _, h => h
  | fuel + 1, _, _, _, h => ⟨h.1, fun i hi => wpOp_mono (fun a' w' h3 => ⟨h3.1.imp_right (hD _), anyZ.mono hD fuel _ a' w' h3.2⟩) (h.2 i hi)⟩
def Down (ops : Array Oper) (L : Array Bool) : Prop := ∀ (k : Nat) (o : Oper), ops[k]? = some o → L.getD k false = true → ∀ e ∈ o.after, Region.binds .any e = true → L.getD e.on false = true
theorem Down.set {L : Array Bool} (h : Down ops L) {j : Nat} (hj : j ∈ Region.ready .any ops L) : Down ops (L.setIfInBounds j true) := by
  intro k o hk hl e he hb
  refine getD_set_true ?_
  by_cases hkj : k = j
  · subst hkj
    obtain ⟨_, o', ho', hall⟩ := mem_ready.1 hj
    rw [ho'] at hk
    cases hk
    exact hall e he hb
  · have : (L.setIfInBounds j true).getD k false = L.getD k false := getD_set_ne false (Ne.symm hkj)
    exact h k o hk (this ▸ hl) e he hb
def domOk (ops : Array Oper) : Bool := (List.range (ops.size - 1)).all fun i => (List.range ops.size).any fun j => Nat.blt i j && ((ops[j]?).map fun o => o.after.any fun e => Region.binds .any e && e.on == i).getD false
theorem dom_next (hd : domOk ops = true) {i : Nat} (hi : i + 1 < ops.size) : ∃ j o, i < j ∧ j < ops.size ∧ ops[j]? = some o ∧ ∃ e ∈ o.after, Region.binds .any e = true ∧ e.on = i := by
  unfold domOk at hd
  rw [List.all_eq_true] at hd
  have h1 := hd i (by rw [List.mem_range]; omega)
  rw [List.any_eq_true] at h1
  obtain ⟨j, hj, h2⟩ := h1
  rw [List.mem_range] at hj
  simp only [Bool.and_eq_true, Nat.blt_eq] at h2
  obtain ⟨h2, h3⟩ := h2
  cases ho : ops[j]? with
  | none => rw [ho] at h3; cases h3
  | some o =>
    rw [ho] at h3
    simp only [Option.map_some, Option.getD_some, Array.any_eq_true, Bool.and_eq_true, beq_iff_eq] at h3
    obtain ⟨m, hm, hb, hon⟩ := h3
    exact ⟨j, o, h2, hj, ho, _, Array.getElem_mem hm, hb, hon⟩
theorem dom_all (hd : domOk ops = true) {L : Array Bool} (hL : Down ops L) (hz : ops.size - 1 ∈ Region.ready .any ops L) : ∀ m i, ops.size - 1 - i = m → i + 1 < ops.size → L.getD i false = true := by
  intro m
  induction m using Nat.strongRecOn with
  | _ m ih =>
    intro i hm hi
    obtain ⟨j, o, hij, hj, ho, e, he, hb, hon⟩ := dom_next hd hi
    subst hon
    by_cases hjz : j = ops.size - 1
    · subst hjz
      obtain ⟨_, o', ho', hall⟩ := mem_ready.1 hz
      rw [ho'] at ho
      cases ho
      exact hall e he hb
    · exact hL j o ho (ih _ (by omega) j rfl (by omega)) e he hb
theorem fh_ {L : Array Bool} {i : Nat} (h : L.getD i true = false) : L.getD i false = false := by
  rw [Array.getD_eq_getD_getElem?] at h ⊢
  cases hq : L[i]? with
  | none => rfl
  | some b => rw [hq] at h; exact h
theorem jX_ {D : World → Prop} {Q : Act → World → Prop} {i : Nat} {oi : Oper} {v : Value} (hd : domOk ops = true) (hiz : i + 1 < ops.size) (hi : ops[i]? = some oi) (hsel : ∀ (j : Nat) (o : Oper) cs b, ops[j]? = some o → o.op ≠ .select cs b) :
    ∀ (fuel : Nat) (listed : Array Bool) (a : Act) (w : World), D w → Down ops listed →
      (∀ j oj, ops[j]? = some oj → j ≠ i → listed.getD j true = false → (∀ e ∈ oj.after, Region.binds .any e = true → e.on ≠ i) → oi.apart ops oj = true) →
      i ∈ Region.ready .any ops listed → YieldsD P ops D oi v a →
      anyZ P ops D (ops.size - 1) Q fuel (listed.setIfInBounds i true) (a.put oi.dst v) w → anyZ P ops D (ops.size - 1) Q (fuel + 1) listed a w := by
  intro fuel
  induction fuel with
  | zero =>
    intro listed a w hDw _ _ hr hy H
    refine ⟨fun h => (by rw [h] at hr; cases hr), fun j hj => ?_⟩
    by_cases hji : j = i
    · subst hji; exact hy.wpOp hi hDw ⟨.inr hDw, H⟩
    · have := ready_mono hj hji
      rw [H.1] at this
      cases this
  | succ fuel ih =>
    intro listed a w hDw hdn hfree hr hy H
    refine ⟨fun h => (by rw [h] at hr; cases hr), fun j hj => ?_⟩
    by_cases hji : j = i
    · subst hji; exact hy.wpOp hi hDw ⟨.inr hDw, H⟩
    · have hjz : j ≠ ops.size - 1 := fun h => by
        subst h
        have h1 := dom_all hd hdn hj _ i rfl hiz
        have h0 := fh_ (mem_ready.1 hr).1
        rw [h1] at h0
        cases h0
      have h1 := H.2 j (ready_mono hj hji)
      obtain ⟨hjun, oj, hoj, hall⟩ := mem_ready.1 hj
      have hnot : ∀ e ∈ oj.after, Region.binds .any e = true → e.on ≠ i := fun e he hb heq => by
        have h1 := hall e he hb
        have h0 := (mem_ready.1 hr).1
        rw [heq] at h1
        rw [fh_ h0] at h1
        cases h1
      have h2 := eR_ hoj (hfree j oj hoj hji hjun hnot) (fun cs b => hsel i oi cs b hi) (fun cs b => hsel j oj cs b hoj) hy h1
      have hfree' : ∀ k ok, ops[k]? = some ok → k ≠ i → (listed.setIfInBounds j true).getD k true = false →
          (∀ e ∈ ok.after, Region.binds .any e = true → e.on ≠ i) → oi.apart ops ok = true := fun k ok hk hki hun hno => by
        refine hfree k ok hk hki ?_ hno
        by_cases hjk : j = k
        · subst hjk; exact hjun
        · rw [getD_set_ne true hjk] at hun; exact hun
      refine wpOp_mono (fun a' w' h3 => ?_) h2
      have hDw' : D w' := h3.2.1.resolve_left hjz
      refine ⟨.inr hDw', ih (listed.setIfInBounds j true) a' w' hDw' (hdn.set hj) hfree' (ready_mono hr (Ne.symm hji)) h3.1 ?_⟩
      rw [Array.setIfInBounds_comm _ _ hji]
      exact h3.2.2
def planOkZ (ops : Array Oper) : Nat → Array Bool → Plan → Bool
  | _ + 1, listed, .nil => (Region.ready .any ops listed == [ops.size - 1]) && (Region.ready .any ops (listed.setIfInBounds (ops.size - 1) true)).isEmpty
  | n + 1, listed, .q i k => Nat.blt (i + 1) ops.size && Region.free .any ops listed i && (Region.ready .any ops listed).contains i && planOkZ ops n (listed.setIfInBounds i true) k
  | n + 1, listed, .e i k => (Region.ready .any ops listed == [i]) && planOkZ ops n (listed.setIfInBounds i true) k
  | n + 1, listed, .two i j k h => (Region.ready .any ops listed == [i, j]) && planOkZ ops n (listed.setIfInBounds i true) k && planOkZ ops n (listed.setIfInBounds j true) h
  | 0, _, _ => false
theorem planW.anyZ {Q : Act → World → Prop} (hs : Region.noSelect ops = true) (hd : domOk ops = true) : ∀ (n : Nat) (ix : Plan) (D : World → Prop) (listed : Array Bool) (a : Act) (w : World), planOkZ ops n listed ix = true → D w → Down ops listed →
    planW P ops (fun a w => wpOp P ops NoExit (ops.size - 1) Q a w) ix D a w → Proofs.YtggajaigfkekhaaGreat.anyZ P ops D (ops.size - 1) Q n listed a w
  | 0, .nil, _, _, _, _, hok, _, _, _ => by cases hok
  | n + 1, .nil, D, listed, a, w, hok, hD, hdn, h => by
    simp only [planOkZ, Bool.and_eq_true, beq_iff_eq, List.isEmpty_iff] at hok
    refine ⟨fun h0 => (by rw [hok.1] at h0; cases h0), fun j hj => ?_⟩
    rw [hok.1] at hj
    simp only [List.mem_singleton] at hj
    subst hj
    refine wpOp_mono (fun a' w' hq => ⟨.inl rfl, ?_⟩) h
    cases n with
    | zero => exact ⟨hok.2, hq⟩
    | succ n => exact ⟨fun _ => hq, fun i hi => by rw [hok.2] at hi; cases hi⟩
  | n + 1, .q i ix, D, listed, a, w, hok, hD, hdn, ⟨o, v, hi, hy, h⟩ => by
    simp only [planOkZ, Bool.and_eq_true, Nat.blt_eq] at hok
    have hrd : i ∈ Region.ready .any ops listed := by simpa using hok.1.2
    exact jX_ hd hok.1.1.1 hi (Region.noSelect_spec hs) n listed a w hD hdn (Region.free_spec hi hok.1.1.2) hrd hy (planW.anyZ hs hd n ix D _ _ _ hok.2 hD (hdn.set hrd) h)
  | n + 1, .e i ix, D, listed, a, w, hok, hD, hdn, h => by
    simp only [planOkZ, Bool.and_eq_true, beq_iff_eq] at hok
    refine ⟨fun h0 => (by rw [hok.1] at h0; cases h0), fun j hj => ?_⟩
    have hj0 := hj
    rw [hok.1] at hj
    simp only [List.mem_singleton] at hj
    subst hj
    exact wpOp_mono (fun a' w' ⟨D', hD', hw', h'⟩ => ⟨.inr (hD' _ hw'), anyZ.mono hD' _ _ _ _ (planW.anyZ hs hd n ix D' _ a' w' hok.2 hw' (hdn.set hj0) h')⟩) h
  | n + 1, .two i j k m, D, listed, a, w, hok, hD, hdn, h => by
    simp only [planOkZ, Bool.and_eq_true, beq_iff_eq] at hok
    refine ⟨fun h0 => (by rw [hok.1.1] at h0; cases h0), fun r hr => ?_⟩
    have hr0 := hr
    rw [hok.1.1] at hr
    simp only [List.mem_cons, List.not_mem_nil, or_false] at hr
    rcases hr with rfl | rfl
    · exact wpOp_mono (fun a' w' ⟨D', hD', hw', h'⟩ => ⟨.inr (hD' _ hw'), anyZ.mono hD' _ _ _ _ (planW.anyZ hs hd n k D' _ a' w' hok.1.2 hw' (hdn.set hr0) h')⟩) h.1
    · exact wpOp_mono (fun a' w' ⟨D', hD', hw', h'⟩ => ⟨.inr (hD' _ hw'), anyZ.mono hD' _ _ _ _ (planW.anyZ hs hd n m D' _ a' w' hok.2 hw' (hdn.set hr0) h')⟩) h.2
theorem hj_ (n : Nat) : Down ops (Array.replicate n false) := by
  intro k o _ h
  rw [Array.getD_eq_getD_getElem?, Array.getElem?_replicate] at h
  split at h <;> cases h
theorem eQ_ {id : Nat} {a : Act} {w : World} {Q : Exit → Act → World → Prop} (D : World → Prop) (ix : Plan) (hm : P.follows .mixedOrders = true)
    (hok : (Region.noSelect ops && domOk ops && planOkZ ops ops.size (Array.replicate ops.size false) ix) = true) (hD : D w.drew)
    (h : planW P ops (fun a w => wpOp P ops NoExit (ops.size - 1) (Q .normal) a w) ix D a w.drew) : (Code.region id ops true).wp P Q a w := by
  simp only [Bool.and_eq_true] at hok
  refine wp_region_any hm ?_
  exact anyZ.wpAny _ _ _ _ (planW.anyZ hok.1.1 hok.1.2 _ ix D _ a _ hok.2 hD (hj_ _) h)
end
end Go.Proofs.YtggajaigfkekhaaGreat
namespace Go.Proofs.YtggajaigfkekhaaGreat.A
open Go.RowKit
section
variable {P : Program} {n : Nat} {W : Wd} {σ : Blks} {l : Slots} {o : Oper} {ops : Array Oper} {Q : Exit → Act → World → Prop}
def LastOp (P : Program) (ops : Array Oper) (Q : Exit → Act → World → Prop) : Exit → Act → World → Prop := fun _ a w => wpOp P ops NoExit (ops.size - 1) (Q .normal) a w
theorem bg_ {id : Nat} (X : List Nat) (ix : Plan) (hm : P.follows .mixedOrders = true)
    (hok : (Region.noSelect ops && domOk ops && planOkZ ops ops.size (Array.replicate ops.size false) ix) = true) (h : SX P ops ix X (St n W σ l) (LastOp P ops Q)) : SC P (.region id ops true) (St n W σ l) Q := fun a w hs =>
  eQ_ (fun w' => Ext X w.drew w') ix hm hok (Ext.refl _) (h a _ hs.drew)
theorem bI_ {Y : List Nat} {R : Abs → Blks → Prop} (hi : ops[ops.size - 1]? = some o) (hv : Eff P n W σ l Y o R) (hg : gd ops l o = some true) (hd : lt? o.dst n = true)
    (k : ∀ y τ, R y τ → SE .normal (St n W τ (put? l o.dst y)) Q) : SE .normal (St n W σ l) (LastOp P ops Q) := fun a w hs => by
  unfold LastOp wpOp
  simp only [hi, hs.wanted hg, if_true]
  refine .inl ?_
  unfold Oper.wp
  obtain ⟨v, w', y, τ, hR, hx, hr, hm, hc, hrun | ⟨rfl, hrun⟩⟩ := hv a w hs
  · rw [hrun]; exact k _ _ hR _ _ ((hs.to hm hc).put hd hr)
  · rw [hrun]; exact k _ _ hR _ _ ((hs.to hm hc).put hd hr)
end
abbrev Wo := BitVec 32
def u32 (p : Wo) : Abs := .v (.int .u32 (p.toNat : Nat))
theorem A_ {L ys : List Abs} (h : ys.length = L.length) : putL L 0 ys = ys := by
  rw [b9_ _ _ _ (Nat.zero_le _), Nat.zero_add, h]
  simp
section
variable {P : Program} {n : Nat} {W : Wd} {σ τ : Blks} {l : Slots} {X : List Nat} {x y z : Operand} {d : Option Nat} {ty t t' e : TypeId} {pos : String} {aft : Array Edge} {g : Option (Nat × Bool)} {k k' : IntKind} {b : Nat} {A B : Abs} {tab : List (Nat × TI)} {ops : Array Oper} {rest : List Oper} {Q : Exit → Act → World → Prop} {p q : Wo}
theorem da_ {ix : Plan} (hT : TabOk P tab) {i : TI} {j : Nat} (ht : ti tab t = some i) (hi : ops[j]? = some ⟨d, .alloc t, ty, pos, aft, g⟩) (hg : gd ops l ⟨d, .alloc t, ty, pos, aft, g⟩ = some true) (hd : lt? d n = true)
    (k : ∀ b, SX P ops ix (b :: X) (St n W (.blk b t (zabs i.zero) :: σ) (put? l d (.v (.pointer (some ⟨b, 0, none⟩))))) Q) : SX P ops (.e j ix) X (St n W σ l) Q := fun a w hs => by
  unfold planW wpOp
  simp only [hi, hs.wanted hg, if_true]
  refine .inl ?_
  unfold Oper.wp
  obtain ⟨zv, hz, hc⟩ := (hT t _ ht).zeroValue (w := w)
  obtain ⟨h1, h2⟩ := hs.mem.alloc t (cs_ i.zero)
  have hrun : (execOp a.eval ⟨d, .alloc t, ty, pos, aft, g⟩).run P w = .ok (.value (.pointer (some ⟨w.heap.size, 0, none⟩))) (w.alloc (row t i.zero)) := by
    simp [execOp, Instr.alloc, Sem.run_bind, hz, Result.andThen, newVar, newRow, newObj, Sem.run, hc, row]
  rw [hrun]
  refine ⟨fun w2 => Ext (w.heap.size :: X) (w.alloc (row t i.zero)) w2, fun w2 h3 => ((Ext.refl w).alloc _).trans (h3 : Ext (w.heap.size :: X) _ w2) fun x hx => ?_, Ext.refl _, k _ _ _ ((hs.to h1 h2).put hd (show rep _ _ (.v (.pointer (some ⟨w.heap.size, 0, none⟩))) _ from rfl))⟩
  rcases List.mem_cons.1 hx with rfl | hx
  · exact .inr (Nat.le_refl _)
  · exact .inl hx
theorem After.two {ι : Type} {x1 x2 : It} {β : Blks} {τ' : ι → Blks} {y1 y2 : ι → It} {K : Blks → ι → Prop} (hr : x1.rids = [] ∧ x2.rids = []) (hτ : ∀ z, τ' z = [y1 z, y2 z]) (k : ∀ z, K (y1 z :: y2 z :: β) z) : After (x1 :: x2 :: β) [x1, x2] τ' K :=
  aW_ [] (β := β) rfl (by intro x hx; simp only [List.mem_cons, List.not_mem_nil, or_false] at hx; rcases hx with rfl | rfl; exact hr.1; exact hr.2) fun z => by rw [hτ z]; exact k z
theorem iw_ {ex : Exit} (h : τ.Perm σ) (k : SE ex (St n W τ l) Q) : SE ex (St n W σ l) Q := fun a w hs => k a w (hs.perm h)
end
section
variable {P : Program} {n : Nat} {W : Wd} {σ : Blks} {l : Slots} {X : List Nat} {x : Operand} {d : Option Nat} {ty t t' e tp : TypeId} {pos : String} {aft : Array Edge} {gq : Option (Nat × Bool)} {A : Abs} {ms : Array (String × TypeId)} {ops : Array Oper} {rest : List Oper} {Q : Exit → Act → World → Prop} {s : Nat} {xs : List (List Abs)}
theorem es_ (hi : P.underlying t = some (.interface ms)) (hx : look l x = some (.ifc tp A)) : Val P n W σ l X ⟨d, .binOp .eql t x (.const .nilIface) t', ty, pos, aft, gq⟩ (.v (.bool false)) := fun a w hs _ => by
  obtain ⟨u, h1, h2⟩ := hs.eval hx
  refine ⟨_, rfl, fun w' _ => ?_⟩
  have h : ∀ d : Nat, (Op.equalIn (d + 1) t (.iface tp u) .nilIface).run P w' = .ok false w' := fun d => by simp [Op.equalIn, run_underlying hi]
  have h3 : (binOp .eql t (.iface tp u) .nilIface).run P w' = .ok (.bool false) w' := by
    simp only [binOp]
    simp [Op.equal, Op.maxDepth, h 9999]
  have e : a.eval (.const .nilIface) = .nilIface := rfl
  simp [execOp, h1, e, eqGuard, h3]
theorem SL.eqNil (ht : P.underlying t = some (.slice e)) (hx : look l x = some (.sl s xs)) (hg : gd ops l ⟨d, .binOp .eql t x (.const (.slice none 0 0)) t', ty, pos, aft, gq⟩ = some true) (hd : lt? d n = true)
    (k : ∀ b : Bool, (b = true → xs = []) → SL P ops rest (St n W σ (put? l d (.v (.bool b)))) Q) : SL P ops (⟨d, .binOp .eql t x (.const (.slice none 0 0)) t', ty, pos, aft, gq⟩ :: rest) (St n W σ l) Q := fun a w hs =>
  wpList_step fun K hK => by
    rw [if_pos (hs.wanted hg)]
    unfold Oper.wp
    obtain ⟨us, hr, h2⟩ := hs.eval hx
    obtain ⟨A', c, h1, h3, h4, h5⟩ := hr.shape
    have e1 : a.eval (.const (.slice none 0 0)) = .slice none 0 0 := rfl
    have hrun : (binOp .eql t (.slice A' xs.length c) (.slice none 0 0)).run P w = .ok (.bool A'.isNone) w := by
      have h : ∀ d : Nat, (Op.equalIn (d + 1) t (.slice A' xs.length c) (.slice none 0 0)).run P w = .ok A'.isNone w := fun d => by cases A' <;> simp [Op.equalIn, run_underlying ht]
      simp only [binOp]
      simp [Op.equal, Op.maxDepth, h 9999]
    have hrun2 : (execOp a.eval ⟨d, .binOp .eql t x (.const (.slice none 0 0)) t', ty, pos, aft, gq⟩).run P w = .ok (.value (.bool A'.isNone)) w := by simp [execOp, h1, e1, eqGuard, hrun]
    rw [hrun2]
    refine hK _ _ (k A'.isNone (fun hb => ?_) _ _ (hs.put hd (show rep _ _ (.v (.bool A'.isNone)) _ from rfl)))
    cases A' with
    | none =>
      have := h5 rfl
      exact List.length_eq_zero_iff.1 (by omega)
    | some A' => cases hb
end
end Go.Proofs.YtggajaigfkekhaaGreat.A
namespace Go.Proofs.YtggajaigfkekhaaGreat
open Go.RowKit
section
variable {P : Program} {ops : Array Oper}
def anyS (P : Program) (ops : Array Oper) (D : World → Prop) (m : Nat) (Q : Act → World → Prop) : Nat → Array Bool → Act → World → Prop
  | 0, listed, a, w => Region.ready .any ops listed = [] ∧ Q a w
  | fuel + 1, listed, a, w => (Region.ready .any ops listed = [] → Q a w) ∧
      ∀ i ∈ Region.ready .any ops listed, wpOp P ops NoExit i (fun a' w' => (m ≤ i ∨ D w') ∧ anyS P ops D m Q fuel (listed.setIfInBounds i true) a' w') a w
theorem anyS.mono {D D' : World → Prop} {m : Nat} {Q : Act → World → Prop} (hD : ∀ w, D' w → D w) : ∀ (fuel : Nat) (listed : Array Bool) (a : Act) (w : World),
    anyS P ops D' m Q fuel listed a w → anyS P ops D m Q fuel listed a w
  | 0, _, _, _, h => h
  | fuel + 1, _, _, _, h => ⟨h.1, fun i hi => wpOp_mono (fun a' w' h3 => ⟨h3.1.imp_right (hD _), anyS.mono hD fuel _ a' w' h3.2⟩) (h.2 i hi)⟩
def headIn (m : Nat) (L : Array Bool) : Bool := (List.range m).all fun i => L.getD i false
theorem jQ_ {m : Nat} {L : Array Bool} (h : headIn m L = true) (j : Nat) : headIn m (L.setIfInBounds j true) = true := by
  unfold headIn at *
  rw [List.all_eq_true] at *
  exact fun i hi => getD_set_true (h i hi)
theorem jR_ {m : Nat} {L : Array Bool} (h : headIn m L = true) {i : Nat} (hi : i < m) : L.getD i false = true := by
  unfold headIn at h
  rw [List.all_eq_true] at h
  exact h i (List.mem_range.2 hi)
theorem anyD.toS {D D2 : World → Prop} {m : Nat} {Q : Act → World → Prop} : ∀ (fuel : Nat) (listed : Array Bool) (a : Act) (w : World), headIn m listed = true →
    anyD P ops D2 Q fuel listed a w → anyS P ops D m Q fuel listed a w
  | 0, _, _, _, _, h => h
  | fuel + 1, L, _, _, hL, h => ⟨h.1, fun i hi => wpOp_mono (fun a' w' h3 => ⟨.inl (by
      rcases Nat.lt_or_ge i m with h1 | h1
      · have h2 := jR_ hL h1
        rw [fh_ (mem_ready.1 hi).1] at h2
        cases h2
      · exact h1), anyD.toS fuel _ a' w' (jQ_ hL i) h3.2⟩) (h.2 i hi)⟩
def domOkS (ops : Array Oper) (m : Nat) : Bool :=
  ((List.range m).all fun i => (List.range (m + 1)).any fun j => Nat.blt i j && ((ops[j]?).map fun o => o.after.any fun e => Region.binds .any e && e.on == i).getD false) &&
  ((List.range ops.size).all fun j => Nat.ble j m || ((ops[j]?).map fun o => o.after.any fun e => Region.binds .any e && Nat.ble m e.on && Nat.blt e.on j).getD false)
theorem k8_ {m : Nat} (hd : domOkS ops m = true) {i : Nat} (hi : i < m) : ∃ j o, i < j ∧ j ≤ m ∧ ops[j]? = some o ∧ ∃ e ∈ o.after, Region.binds .any e = true ∧ e.on = i := by
  unfold domOkS at hd
  rw [Bool.and_eq_true, List.all_eq_true] at hd
  have h1 := hd.1 i (by rw [List.mem_range]; omega)
  rw [List.any_eq_true] at h1
  obtain ⟨j, hj, h2⟩ := h1
  rw [List.mem_range] at hj
  simp only [Bool.and_eq_true, Nat.blt_eq] at h2
  obtain ⟨h2, h3⟩ := h2
  cases ho : ops[j]? with
  | none => rw [ho] at h3; cases h3
  | some o =>
    rw [ho] at h3
    simp only [Option.map_some, Option.getD_some, Array.any_eq_true, Bool.and_eq_true, beq_iff_eq] at h3
    obtain ⟨x, hx, hb, hon⟩ := h3
    exact ⟨j, o, h2, by omega, ho, _, Array.getElem_mem hx, hb, hon⟩
theorem k9_ {m : Nat} (hd : domOkS ops m = true) {j : Nat} {o : Oper} (ho : ops[j]? = some o) (hj : m < j) : ∃ e ∈ o.after, Region.binds .any e = true ∧ m ≤ e.on ∧ e.on < j := by
  unfold domOkS at hd
  rw [Bool.and_eq_true, List.all_eq_true, List.all_eq_true] at hd
  have h1 := hd.2 j (by rw [List.mem_range]; exact (Array.getElem?_eq_some_iff.1 ho).1)
  rw [ho] at h1
  simp only [Option.map_some, Option.getD_some, Bool.or_eq_true, Nat.ble_eq, Array.any_eq_true, Bool.and_eq_true, Nat.blt_eq] at h1
  rcases h1 with h1 | ⟨x, hx, ⟨hb, h2⟩, h3⟩
  · omega
  · exact ⟨_, Array.getElem_mem hx, hb, h2, h3⟩
def Due (ops : Array Oper) (L : Array Bool) (j : Nat) : Prop := ∃ o, ops[j]? = some o ∧ ∀ e ∈ o.after, Region.binds .any e = true → L.getD e.on false = true
theorem Due.down {m : Nat} (hd : domOkS ops m = true) {L : Array Bool} (hL : Down ops L) (hin : ∀ k, L.getD k false = true → ∃ o, ops[k]? = some o) : ∀ j, m ≤ j → Due ops L j → Due ops L m := by
  intro j
  induction j using Nat.strongRecOn with
  | _ j ih =>
    intro hj h
    by_cases hjm : j = m
    · subst hjm; exact h
    · obtain ⟨o, ho, hall⟩ := h
      obtain ⟨e, he, hb, h1, h2⟩ := k9_ hd ho (by omega)
      have h3 := hall e he hb
      obtain ⟨o2, ho2⟩ := hin _ h3
      exact ih e.on h2 h1 ⟨o2, ho2, hL _ _ ho2 h3⟩
theorem domS_all {m : Nat} (hd : domOkS ops m = true) {L : Array Bool} (hL : Down ops L) (hz : Due ops L m) : ∀ k i, m - i = k → i < m → L.getD i false = true := by
  intro k
  induction k using Nat.strongRecOn with
  | _ k ih =>
    intro i hk hi
    obtain ⟨j, o, hij, hj, ho, e, he, hb, hon⟩ := k8_ hd hi
    subst hon
    by_cases hjz : j = m
    · subst hjz
      obtain ⟨o', ho', hall⟩ := hz
      rw [ho'] at ho
      cases ho
      exact hall e he hb
    · exact hL j o ho (ih _ (by omega) j rfl (by omega)) e he hb
structure Listed (ops : Array Oper) (L : Array Bool) : Prop where
  down : Down ops L
  there : ∀ k, L.getD k false = true → ∃ o, ops[k]? = some o
theorem Listed.set {L : Array Bool} (h : Listed ops L) {j : Nat} (hj : j ∈ Region.ready .any ops L) : Listed ops (L.setIfInBounds j true) := by
  refine ⟨h.down.set hj, fun k hk => ?_⟩
  by_cases hkj : k = j
  · subst hkj
    obtain ⟨_, o, ho, _⟩ := mem_ready.1 hj
    exact ⟨o, ho⟩
  · have : (L.setIfInBounds j true).getD k false = L.getD k false := getD_set_ne false (Ne.symm hkj)
    exact h.there k (this ▸ hk)
theorem Listed.none (n : Nat) : Listed ops (Array.replicate n false) := by
  refine ⟨hj_ n, fun k h => ?_⟩
  rw [Array.getD_eq_getD_getElem?, Array.getElem?_replicate] at h
  split at h <;> cases h
theorem jY_ {D : World → Prop} {m : Nat} {Q : Act → World → Prop} {i : Nat} {oi : Oper} {v : Value} (hd : domOkS ops m = true) (hiz : i < m) (hi : ops[i]? = some oi) (hsel : ∀ (j : Nat) (o : Oper) cs b, ops[j]? = some o → o.op ≠ .select cs b) :
    ∀ (fuel : Nat) (listed : Array Bool) (a : Act) (w : World), D w → Listed ops listed →
      (∀ j oj, ops[j]? = some oj → j ≠ i → listed.getD j true = false → (∀ e ∈ oj.after, Region.binds .any e = true → e.on ≠ i) → oi.apart ops oj = true) →
      i ∈ Region.ready .any ops listed → YieldsD P ops D oi v a →
      anyS P ops D m Q fuel (listed.setIfInBounds i true) (a.put oi.dst v) w → anyS P ops D m Q (fuel + 1) listed a w := by
  intro fuel
  induction fuel with
  | zero =>
    intro listed a w hDw _ _ hr hy H
    refine ⟨fun h => (by rw [h] at hr; cases hr), fun j hj => ?_⟩
    by_cases hji : j = i
    · subst hji; exact hy.wpOp hi hDw ⟨.inr hDw, H⟩
    · have := ready_mono hj hji
      rw [H.1] at this
      cases this
  | succ fuel ih =>
    intro listed a w hDw hdn hfree hr hy H
    refine ⟨fun h => (by rw [h] at hr; cases hr), fun j hj => ?_⟩
    by_cases hji : j = i
    · subst hji; exact hy.wpOp hi hDw ⟨.inr hDw, H⟩
    · have hjz : ¬ m ≤ j := fun h => by
        have h2 : Due ops listed j := (mem_ready.1 hj).2
        have h1 := domS_all hd hdn.down (h2.down hd hdn.down hdn.there j h) _ i rfl hiz
        have h0 := fh_ (mem_ready.1 hr).1
        rw [h1] at h0
        cases h0
      have h1 := H.2 j (ready_mono hj hji)
      obtain ⟨hjun, oj, hoj, hall⟩ := mem_ready.1 hj
      have hnot : ∀ e ∈ oj.after, Region.binds .any e = true → e.on ≠ i := fun e he hb heq => by
        have h1 := hall e he hb
        have h0 := (mem_ready.1 hr).1
        rw [heq] at h1
        rw [fh_ h0] at h1
        cases h1
      have h2 := eR_ hoj (hfree j oj hoj hji hjun hnot) (fun cs b => hsel i oi cs b hi) (fun cs b => hsel j oj cs b hoj) hy h1
      have hfree' : ∀ k ok, ops[k]? = some ok → k ≠ i → (listed.setIfInBounds j true).getD k true = false →
          (∀ e ∈ ok.after, Region.binds .any e = true → e.on ≠ i) → oi.apart ops ok = true := fun k ok hk hki hun hno => by
        refine hfree k ok hk hki ?_ hno
        by_cases hjk : j = k
        · subst hjk; exact hjun
        · rw [getD_set_ne true hjk] at hun; exact hun
      refine wpOp_mono (fun a' w' h3 => ?_) h2
      have hDw' : D w' := h3.2.1.resolve_left hjz
      refine ⟨.inr hDw', ih (listed.setIfInBounds j true) a' w' hDw' (hdn.set hj) hfree' (ready_mono hr (Ne.symm hji)) h3.1 ?_⟩
      rw [Array.setIfInBounds_comm _ _ hji]
      exact h3.2.2
def planOkS (ops : Array Oper) (m : Nat) (k2 : Plan) : Nat → Array Bool → Plan → Bool
  | n, listed, .nil => headIn m listed && planOk ops n listed k2
  | n + 1, listed, .q i k => Nat.blt i m && Region.free .any ops listed i && (Region.ready .any ops listed).contains i && planOkS ops m k2 n (listed.setIfInBounds i true) k
  | n + 1, listed, .e i k => (Region.ready .any ops listed == [i]) && planOkS ops m k2 n (listed.setIfInBounds i true) k
  | n + 1, listed, .two i j k h => (Region.ready .any ops listed == [i, j]) && planOkS ops m k2 n (listed.setIfInBounds i true) k && planOkS ops m k2 n (listed.setIfInBounds j true) h
  | 0, _, _ => false
def RestOf (P : Program) (ops : Array Oper) (k2 : Plan) (Q : Exit → Act → World → Prop) : Exit → Act → World → Prop := fun _ a w => ∃ D : World → Prop, D w ∧ planW P ops (Q .normal) k2 D a w
theorem planW.anyS {Q : Exit → Act → World → Prop} {m : Nat} {k2 : Plan} (hs : Region.noSelect ops = true) (hd : domOkS ops m = true) : ∀ (n : Nat) (ix : Plan) (D : World → Prop) (listed : Array Bool) (a : Act) (w : World), planOkS ops m k2 n listed ix = true → D w → Listed ops listed →
    planW P ops (RestOf P ops k2 Q .normal) ix D a w → Proofs.YtggajaigfkekhaaGreat.anyS P ops D m (Q .normal) n listed a w
  | n, .nil, D, listed, a, w, hok, hD, hdn, ⟨D2, h1, h2⟩ => by
    unfold planOkS at hok
    simp only [Bool.and_eq_true] at hok
    exact anyD.toS _ _ _ _ hok.1 (planW.anyD hs n k2 D2 _ _ _ hok.2 h1 h2)
  | n + 1, .q i ix, D, listed, a, w, hok, hD, hdn, ⟨o, v, hi, hy, h⟩ => by
    simp only [planOkS, Bool.and_eq_true, Nat.blt_eq] at hok
    have hrd : i ∈ Region.ready .any ops listed := by simpa using hok.1.2
    exact jY_ hd hok.1.1.1 hi (Region.noSelect_spec hs) n listed a w hD hdn (Region.free_spec hi hok.1.1.2) hrd hy (planW.anyS hs hd n ix D _ _ _ hok.2 hD (hdn.set hrd) h)
  | n + 1, .e i ix, D, listed, a, w, hok, hD, hdn, h => by
    simp only [planOkS, Bool.and_eq_true, beq_iff_eq] at hok
    refine ⟨fun h0 => (by rw [hok.1] at h0; cases h0), fun j hj => ?_⟩
    have hj0 := hj
    rw [hok.1] at hj
    simp only [List.mem_singleton] at hj
    subst hj
    exact wpOp_mono (fun a' w' ⟨D', hD', hw', h'⟩ => ⟨.inr (hD' _ hw'), anyS.mono hD' _ _ _ _ (planW.anyS hs hd n ix D' _ a' w' hok.2 hw' (hdn.set hj0) h')⟩) h
  | n + 1, .two i j k r, D, listed, a, w, hok, hD, hdn, h => by
    simp only [planOkS, Bool.and_eq_true, beq_iff_eq] at hok
    refine ⟨fun h0 => (by rw [hok.1.1] at h0; cases h0), fun q hq => ?_⟩
    have hq0 := hq
    rw [hok.1.1] at hq
    simp only [List.mem_cons, List.not_mem_nil, or_false] at hq
    rcases hq with rfl | rfl
    · exact wpOp_mono (fun a' w' ⟨D', hD', hw', h'⟩ => ⟨.inr (hD' _ hw'), anyS.mono hD' _ _ _ _ (planW.anyS hs hd n k D' _ a' w' hok.1.2 hw' (hdn.set hq0) h')⟩) h.1
    · exact wpOp_mono (fun a' w' ⟨D', hD', hw', h'⟩ => ⟨.inr (hD' _ hw'), anyS.mono hD' _ _ _ _ (planW.anyS hs hd n r D' _ a' w' hok.2 hw' (hdn.set hq0) h')⟩) h.2
end
end Go.Proofs.YtggajaigfkekhaaGreat
namespace Go.Proofs.YtggajaigfkekhaaGreat.A
open Go.RowKit
section
variable {P : Program} {n : Nat} {W : Wd} {σ τ : Blks} {l : Slots} {X : List Nat} {x y : Operand} {d : Option Nat} {ty t t' e : TypeId} {pos : String} {aft : Array Edge} {g : Option (Nat × Bool)} {A : Abs} {tab : List (Nat × TI)} {ops : Array Oper} {Q : Exit → Act → World → Prop} {v : Value} {xs : List (List Abs)} {s q : Nat} {a b : Int}
theorem SE.rest {k2 : Plan} (X : List Nat) (h : SX P ops k2 X (St n W σ l) Q) : SE .normal (St n W σ l) (RestOf P ops k2 Q) := fun a w hs => ⟨fun w' => Ext X w w', Ext.refl w, h a w hs⟩
theorem gW_ {K : List Nat} {w : World} {ys : List Abs} {vs : List Value} (hy : reps K w ys vs) (hv : vs.length = s) : ∀ {xs : List (List Abs)} {us : List Value} {q : Nat}, repss K w s xs us → q < xs.length → repss K w s (xs.set q ys) (us.take (q * s) ++ vs ++ us.drop (q * s + s))
  | [], _, _, _, h => by simp at h
  | c :: xs, _, 0, ⟨u1, u2, h1, h2, h3, h4⟩, _ => by
    subst h1
    refine ⟨vs, u2, ?_, hv, hy, h4⟩
    simp [← h2]
  | c :: xs, _, q + 1, ⟨u1, u2, h1, h2, h3, h4⟩, hq => by
    subst h1
    have h5 := gW_ hy hv h4 (q := q) (by simpa using hq)
    refine ⟨u1, _, ?_, h2, h3, h5⟩
    have e1 : (q + 1) * s = u1.length + q * s := by rw [Nat.succ_mul]; omega
    rw [e1, Nat.add_assoc, List.take_length_add_append, List.drop_length_add_append]
    simp
theorem j7_ (hT : TabOk P tab) {i : TI} {ys : List Abs} (ht : ti tab t = some i) (hx : look l x = some (.v (eptr v (q * s)))) (hy : look l y = some A) (hu : Upd (own e s v xs) (own e s v (xs.set q ys)) σ τ) (hc : cellsA A = ys) (hs : Nat.beq i.size s = true) (hl : Nat.beq ys.length s = true) (hq : q < xs.length) (h1 : ones ys = true) :
    Eff P n W σ l v.ownBlock.toList ⟨d, .store t x y, ty, pos, aft, g⟩ fun u τ' => u = .v undef ∧ τ' = τ := fun ac w hst => by
  have hs := Nat.eq_of_beq_eq_true hs
  have hl := Nat.eq_of_beq_eq_true hl
  obtain ⟨us, hown, hr⟩ : (ownPc e s v xs).p _ w := hst.mem.hold _ hu.mem
  have hry := c6_ (hst.eval hy)
  rw [hc] at hry
  have hlen := aj_ hry
  have hone := cO_ hry h1
  rcases hown.2 with ⟨h, h0⟩ | ⟨gb, cap, cur, hv, hbase, hg, hn, hcap, hsz, htk⟩
  · omega
  · subst hv
    have h2 := (hT t _ ht).sizeOf (w := w)
    have hb1 : q * s + s ≤ xs.length * s := by rw [← Nat.succ_mul]; exact Nat.mul_le_mul_right _ hq
    have hb2 : xs.length * s ≤ cap * s := Nat.mul_le_mul_right _ hn
    have hrun := run_storeCells_at (P := P) gb (0 + q * s) e (cellsL (ac.eval y)) 0 cur w hg (by omega) hone
    have e0 : 0 + q * s + 0 = q * s := by omega
    rw [e0] at hrun
    have hcl : cur.toList.length = cur.size := by simp
    have hle : (cellsL (ac.eval y)).length = s := by omega
    have hxx : Ext (Value.ownBlock (.slice (some ⟨gb, 0, none⟩) xs.length cap)).toList w (w.setRow gb (cur.toList.take (q * s) ++ cellsL (ac.eval y) ++ cur.toList.drop (q * s + (cellsL (ac.eval y)).length)).toArray) := (Ext.refl w).setRow (.inl (by simp [Value.ownBlock])) _
    have hnew : (cur.toList.take (q * s) ++ cellsL (ac.eval y) ++ cur.toList.drop (q * s + (cellsL (ac.eval y)).length)).take (xs.length * s) = us.take (q * s) ++ cellsL (ac.eval y) ++ us.drop (q * s + s) := by
      rw [← htk, hle]
      apply List.ext_getElem?
      intro j
      simp only [List.getElem?_take, List.getElem?_append, List.length_append, List.length_take, List.getElem?_drop, hle]
      grind
    have hm := hst.mem.upd hu hxx bT_ (fun k hk => .inl hk) rfl fun hca => ⟨us.take (q * s) ++ cellsL (ac.eval y) ++ us.drop (q * s + s), ⟨?_, .inr ⟨gb, cap, _, by rw [List.length_set], hbase, setRow_heap w gb cur _ e (0, 0) hg, by rw [List.length_set]; exact hn, hcap, ?_, ?_⟩⟩, aP_ hca _ _ _ (gW_ hry (by omega) hr hq)⟩
    · refine ⟨undef, _, _, _, ⟨rfl, rfl⟩, hxx, rfl, hm.1, hm.2, .inr ⟨rfl, ?_⟩⟩
      have hcs := dI_ (ac.eval y)
      have hle2 : (cellsL (ac.eval y)).length = i.size := by omega
      have hx2 : ac.eval x = .pointer (some ⟨gb, 0 + q * s, none⟩) := hst.plain hx
      simp [execOp, hx2, Instr.storeAt, Instr.sureAddr, storeVar, Sem.run_bind, hcs, h2, hle2, hrun, Result.andThen]
      (simp only [Nat.zero_add] at hrun; simp [hle2, hrun])
    · have h5 := hown.1
      simp only [List.length_append, List.length_take, List.length_drop, List.length_set]
      omega
    · simp only [List.size_toArray, List.length_append, List.length_take, List.length_drop]
      omega
    · rw [List.length_set]
      simpa using hnew
end
end Go.Proofs.YtggajaigfkekhaaGreat.A
namespace Go.Proofs.YtggajaigfkekhaaGreat
open Go.RowKit
section
variable {α : Type} [DecidableEq α]
def pl (m : List (α × Nat)) (k : α) : Nat := (aget m k).getD (m.length + 1)
def pm (m : List (α × Nat)) (k : α) : List (α × Nat) := if (aget m k).isSome then m else aput m k (m.length + 1)
end
/-! ### Rows of 32 bytes -/
def numB (f n : Nat) : List UInt8 := UInt8.ofNat f :: (List.replicate 23 0 ++ beBytes n 8)
theorem aQ_ (f n : Nat) : (numB f n).length = 32 := by simp [numB, v_]
section
variable {α : Type} [DecidableEq α] {m : List (α × Nat)} {k c : α}
structure Inv1 (m : List (α × Nat)) (k : α) : Prop where
  one : aget m k = some 1
  only : ∀ c, aget m c = some 1 → c = k
  pos : 1 ≤ m.length
theorem ca_ (m : List (α × Nat)) (c : α) : (pm m c).length ≤ m.length + 1 := by
  unfold pm
  split
  · omega
  · rename_i hn; rw [dt_, if_neg hn]; omega
end
end Go.Proofs.YtggajaigfkekhaaGreat
namespace Go.Proofs.YtggajaigfkekhaaGreat.A
open Go.RowKit
def sOk (s : ByteArray) : Prop := s.size ≤ maxLen
theorem s_fit : KeyFit Tryz.prog 9 Value.string sOk where
  keyed := Maps.string_keyed Tryz.underlying9
  lit a h := ⟨_, WideMaps.keyOf_string_mk Tryz.underlying9 h⟩
  inj a b _ _ h := by injection h
section
variable {α : Type} [DecidableEq α] {T : List (α × Nat)} {k k' : α} {v : Nat}
structure Num1 (T : List (α × Nat)) : Prop where
  pos : ∀ k v, aget T k = some v → 1 ≤ v ∧ v ≤ T.length
  inj : ∀ k k' v, aget T k = some v → aget T k' = some v → k = k'
theorem Num1.nil : Num1 ([] : List (α × Nat)) := ⟨fun k v h => by simp [aget] at h, fun k k' v h => by simp [aget] at h⟩
theorem Num1.put (h : Num1 T) (k : α) : Num1 (pm T k) := by
  unfold pm
  split
  · exact h
  · rename_i hn
    refine ⟨fun c v hc => ?_, fun c c' v hc hc' => ?_⟩
    · rw [dt_, if_neg hn]
      rw [ba_] at hc
      split at hc
      · have := Option.some.inj hc
        omega
      · have := h.pos c v hc
        omega
    · rw [ba_] at hc hc'
      split at hc
      · next e =>
        split at hc'
        · next e' => exact e.trans e'.symm
        · have h1 := Option.some.inj hc
          have := h.pos c' v hc'
          omega
      · split at hc'
        · have h1 := Option.some.inj hc'
          have := h.pos c v hc
          omega
        · exact h.inj c c' v hc hc'
theorem Num1.zero (h : Num1 T) (k : α) : cget T k = 0 ↔ aget T k = none := by
  unfold cget
  cases hk : aget T k with
  | none => simp
  | some v =>
    have := h.pos k v hk
    simp
    omega
theorem Num1.pl_le (h : Num1 T) (k : α) : pl T k ≤ T.length + 1 := by
  unfold pl
  cases hk : aget T k with
  | none => exact Nat.le_refl _
  | some v =>
    have := h.pos k v hk
    show v ≤ _
    omega
theorem kH_ (hk : aget T k = none) : pm T k = aput T k (T.length + 1) := by
  unfold pm
  rw [if_neg (by rw [hk]; decide)]
theorem kG_ (hk : ¬ aget T k = none) : pm T k = T := by
  unfold pm
  rw [if_pos (by cases h : aget T k with | none => exact absurd h hk | some v => rfl)]
theorem cget_pm : cget (pm T k) k = pl T k := by
  unfold cget pl
  by_cases hk : aget T k = none
  · rw [kH_ hk, ba_, if_pos rfl, hk]
    rfl
  · rw [kG_ hk]
    cases h : aget T k with
    | none => exact absurd h hk
    | some v => rfl
end
theorem j5_ {P : Program} {n : Nat} {W : Wd} {ops : Array Oper} {l : Slots} {σ : Blks} {X : List Nat} {Q : Exit → Act → World → Prop} {ix : Plan} {f : FuncId} {args args' : List Abs} {σ1 : Blks} {ι : Type} {τ' : ι → Blks} {res : ι → Abs} {xs : List Operand} {ats : Array TypeId} {d : Option Nat} {ty : TypeId} {pos : String} {aft : Array Edge} {g : Option (Nat × Bool)} {i : Nat} {x : Operand} {m : String} {t : TypeId} {y : Abs}
    (hi : ops[i]? = some ⟨d, .call { callee := .invoke x m, args := xs.toArray, argTypes := ats }, ty, pos, aft, g⟩) (hs : Spec P f args' σ1 τ' res) (hX : ∀ k ∈ mids σ1, k ∈ X) (hx : look l x = some (.ifc t y)) (hca : Casts (y :: args) args')
    (hmm : ∀ (u : Value) (ρ : Operand → Value) w, (Go.invoke (.fn (.method m) #[]) (#[.iface t u] ++ (xs.map ρ).toArray)).run P w = .ok (.enter f (#[u] ++ (xs.map ρ).toArray)) w) (hv : looks l xs = some args)
    (hg : gd ops l ⟨d, .call { callee := .invoke x m, args := xs.toArray, argTypes := ats }, ty, pos, aft, g⟩ = some true) (hd : lt? d n = true)
    (k : After σ σ1 τ' fun ν z => SX P ops ix X (St n W ν (put? l d (res z))) Q) : SX P ops (.e i ix) X (St n W σ l) Q := fun a w h => by
  unfold planW wpOp
  simp only [hi, h.wanted hg, if_true]
  refine .inl ?_
  unfold Oper.wp
  obtain ⟨u, h1, h2⟩ := h.eval hx
  rw [jA_ rfl h1 (hmm u a.eval), Oper.upon_enter]
  have : reps (mids σ ++ W.G) w (y :: args) (u :: xs.map a.eval) := ⟨u, _, rfl, h2, h.evals hv⟩
  rw [show #[u] ++ (xs.map a.eval).toArray = (u :: xs.map a.eval).toArray by simp]
  refine (hs.after h.mem (hca _ _ _ this) k).mono fun e w' ⟨z, r, ν, he, hx, _, hm, hc, hr, hk⟩ => ?_
  subst he
  exact ⟨fun w2 => Ext X w' w2, fun w2 h2 => (hx.mono (fun k hk => .inl (hX k hk))).trans h2 fun k hk => .inl hk, Ext.refl w', hk _ _ ((h.to hm hc).put hd hr)⟩
theorem dO_ {P : Program} {n : Nat} {W : Wd} {σ : Blks} {l : Slots} {X : List Nat} {x : Operand} {d : Option Nat} {ty : TypeId} {pos : String} {aft : Array Edge} {g : Option (Nat × Bool)} {m : String} {t : TypeId} {u : Value}
    (hx : look l x = some (.fn (.method m) [.ifc t (.v u)] [])) (h : ∀ w, (nilAhead (P.types.size + Made.depth) t u m).run P w = .ok (some false) w) : Val P n W σ l X ⟨d, .nilCheck x, ty, pos, aft, g⟩ (.fn (.method m) [.ifc t (.v u)] []) := fun a w hs _ => by
  have hr := hs.eval hx
  obtain ⟨us, vs, h1, ⟨_, _, rfl, ⟨_, rfl, h2⟩, h3⟩, h4⟩ := hr
  have h2 : _ = u := h2
  have h3 : _ = [] := h3
  have h4 : vs = [] := h4
  subst h2 h3 h4
  refine ⟨_, hs.eval hx, fun w' _ => ?_⟩
  simp [execOp, h1, Sem.run_bind, program, Sem.run, h w', Result.andThen]
abbrev DMap := List ((Nat × List UInt8) × Nat)
abbrev TMap := List (((Int × Int) × List UInt8) × Nat)
section
variable {from_ to_ : Int} {l M : List UInt8} {p bd bt : Nat} {D : DMap} {T : TMap}
/-! ### The program's calls -/
end
def blkP (b : Nat) (t : TypeId) (cs : List Abs) : Pc where
  ids := [b]
  p := fun K w => ∃ us, w.heap[b]? = some (row t us) ∧ reps K w cs us
  carry := fun K w K' w' hc hs ⟨us, h1, h2⟩ => ⟨us, (hs b (by simp)).trans h1, aA_ hc _ _ h2⟩
  lt := fun K w ⟨us, h1, _⟩ k hk => by
    simp at hk
    subst hk
    exact bL_ h1
def bigP (l : List Pc) : Pc where
  ids := l.flatMap Pc.ids
  p := fun K w => ∀ c ∈ l, c.p K w
  carry := fun K w K' w' hc hs h c hm => c.carry K w K' w' hc (fun k hk => hs k (List.mem_flatMap.2 ⟨c, hm, hk⟩)) (h c hm)
  lt := fun K w h k hk => by
    obtain ⟨c, hm, hk⟩ := List.mem_flatMap.1 hk
    exact c.lt K w (h c hm) k hk
section
variable {w0 w : World} {F G : List Nat} {α β xs ys : Blks}
theorem Mem.regroup {zs : List Nat} (hp : (mids xs).Perm (mids ys ++ zs)) (hr : ∀ y ∈ ys, y.rids = []) (hh : ∀ K, (∀ x ∈ xs, x.holds K w) → ∀ y ∈ ys, y.holds K w) (h : Mem w0 F G (α ++ (xs ++ β)) w) :
    Mem w0 F G (α ++ (ys ++ β)) w ∧ Carry (mids (α ++ (xs ++ β)) ++ G) w (mids (α ++ (ys ++ β)) ++ G) w := by
  have hsub : ∀ k ∈ mids ys, k ∈ mids xs := fun k hk => hp.mem_iff.2 (List.mem_append_left _ hk)
  refine h.step (Y := []) (Ext.refl w) (by simp) (fun k hk => ?_) (fun x hx => ?_) ?_ fun hc x hx => ?_
  · simp only [ab_, List.mem_append] at hk ⊢
    rcases hk with hk | hk | hk
    · exact .inl (.inl hk)
    · exact .inl (.inr (.inl (hsub k hk)))
    · exact .inl (.inr (.inr hk))
  · simp only [List.mem_append] at hx
    rcases hx with hx | hx | hx
    · exact h.ro x (by simp [hx])
    · rw [hr x hx]; simp
    · exact h.ro x (by simp [hx])
  · have hn := h.nodup
    simp only [ab_] at hn ⊢
    have h2 : (mids α ++ (mids xs ++ mids β)).Perm ((mids α ++ (mids ys ++ mids β)) ++ zs) := by
      rw [List.append_assoc, List.append_assoc]
      refine List.Perm.append_left _ ?_
      refine (hp.append_right _).trans ?_
      rw [List.append_assoc]
      exact List.Perm.append_left _ List.perm_append_comm
    exact (List.nodup_append.1 (h2.nodup_iff.1 hn)).1
  · simp only [List.mem_append] at hx
    rcases hx with hx | hx | hx
    · exact h.keep (Y := []) (Ext.refl w) hc (by simp [hx]) (by simp) (by simp)
    · exact hh _ (fun z hz => h.keep (Y := []) (Ext.refl w) hc (by simp [hz]) (by simp) (by simp)) x hx
    · exact h.keep (Y := []) (Ext.refl w) hc (by simp [hx]) (by simp) (by simp)
end
section
variable {P : Program} {n : Nat} {W : Wd} {σ τ : Blks} {l : Slots} {X : List Nat} {ops : Array Oper} {rest : List Oper} {Q : Exit → Act → World → Prop} {ix : Plan} {α β xs ys : Blks}
structure Re (xs ys : Blks) : Prop where
  ids : ∃ zs : List Nat, (mids xs).Perm (mids ys ++ zs)
  rd : ∀ y ∈ ys, y.rids = []
  hh : ∀ K w, (∀ x ∈ xs, x.holds K w) → ∀ y ∈ ys, y.holds K w
theorem St.re {a : Act} {w : World} (hr : Re xs ys) (hσ : σ = α ++ (xs ++ β)) (hτ : τ = α ++ (ys ++ β)) (h : St n W σ l a w) : St n W τ l a w := by
  subst hσ hτ
  obtain ⟨zs, hz⟩ := hr.ids
  have h1 := h.mem.regroup hz hr.rd (fun K => hr.hh K w)
  exact h.to h1.1 h1.2
theorem SC.re {c : Code} (α : Blks) {β : Blks} (hr : Re xs ys) (hσ : σ = α ++ (xs ++ β)) (k : SC P c (St n W (α ++ (ys ++ β)) l) Q) : SC P c (St n W σ l) Q := fun a w h => k a w (h.re hr hσ rfl)
theorem lL_ {ex : Exit} (α : Blks) {β : Blks} (hr : Re xs ys) (hσ : σ = α ++ (xs ++ β)) (k : SE ex (St n W (α ++ (ys ++ β)) l) Q) : SE ex (St n W σ l) Q := fun a w h => k a w (h.re hr hσ rfl)
end
theorem Re.refl {xs : Blks} (h : ∀ x ∈ xs, x.rids = []) : Re xs xs := ⟨⟨[], by simp⟩, h, fun _ _ h => h⟩
theorem Re.trans {xs ys zs : Blks} (h : Re xs ys) (k : Re ys zs) : Re xs zs where
  ids := by
    obtain ⟨a, ha⟩ := h.ids
    obtain ⟨b, hb⟩ := k.ids
    exact ⟨b ++ a, ha.trans ((hb.append_right a).trans (by rw [List.append_assoc]))⟩
  rd := k.rd
  hh := fun K w hx => k.hh K w (h.hh K w hx)
theorem Re.app {xs ys : Blks} (h : Re xs ys) (c : Pc) : Re (xs ++ [.pc c]) (ys ++ [.pc c]) where
  ids := by
    obtain ⟨a, ha⟩ := h.ids
    refine ⟨a, ?_⟩
    rw [ab_, ab_, List.append_assoc]
    exact (ha.append_right _).trans (by rw [List.append_assoc]; exact List.Perm.append_left _ List.perm_append_comm)
  rd := fun y hy => by
    rcases List.mem_append.1 hy with hy | hy
    · exact h.rd y hy
    · rw [List.mem_singleton.1 hy]; rfl
  hh := fun K w hx y hy => by
    rcases List.mem_append.1 hy with hy | hy
    · exact h.hh K w (fun x hx2 => hx x (List.mem_append_left _ hx2)) y hy
    · exact hx y (List.mem_append_right _ hy)
theorem Re.out {l1 l2 : List Pc} {c : Pc} : Re [.pc (bigP (l1 ++ c :: l2))] [.pc c, .pc (bigP (l1 ++ l2))] where
  ids := ⟨[], by
    simp only [mids, List.flatMap_cons, List.flatMap_nil, It.mids, bigP, List.flatMap_append, List.append_nil]
    exact List.perm_append_comm_assoc _ _ _⟩
  rd := by simp [It.rids]
  hh := fun K w h y hy => by
    have h1 : ∀ d ∈ l1 ++ c :: l2, d.p K w := h _ (List.mem_singleton.2 rfl)
    simp only [List.mem_cons, List.not_mem_nil, or_false] at hy
    rcases hy with rfl | rfl
    · exact h1 c (by simp)
    · intro d hd
      exact h1 d (by
        rcases List.mem_append.1 hd with hd | hd
        · simp [hd]
        · simp [hd])
theorem Re.back {l1 l2 : List Pc} {c : Pc} : Re [.pc c, .pc (bigP (l1 ++ l2))] [.pc (bigP (l1 ++ c :: l2))] where
  ids := ⟨[], by
    simp only [mids, List.flatMap_cons, List.flatMap_nil, It.mids, bigP, List.flatMap_append, List.append_nil]
    exact List.perm_append_comm_assoc _ _ _⟩
  rd := by simp [It.rids]
  hh := fun K w h y hy => by
    have h1 : c.p K w := h (.pc c) (by simp)
    have h2 : ∀ d ∈ l1 ++ l2, d.p K w := h (.pc (bigP (l1 ++ l2))) (by simp)
    rw [List.mem_singleton.1 hy]
    intro d hd
    simp only [List.mem_append, List.mem_cons] at hd
    rcases hd with hd | rfl | hd
    · exact h2 d (by simp [hd])
    · exact h1
    · exact h2 d (by simp [hd])
theorem Re.empty : Re [] [.pc (bigP [])] := ⟨⟨[], by simp [mids, It.mids, bigP]⟩, by simp [It.rids], fun K w _ y hy => by
  rw [List.mem_singleton.1 hy]
  intro d hd
  cases hd⟩
abbrev bs (l : List UInt8) : List (List Abs) := l.map fun b => [Abs.v (bc b)]
def rot (x : Wo) (n : Nat) : Wo := x >>> n ||| x <<< (32 - n)
def mixW (x : Wo) (a b c : Nat) : Wo := rot x a ^^^ rot x b ^^^ rot x c
def byW (l : List UInt8) (i : Nat) : Wo := BitVec.ofNat 32 (l.getD i 0).toNat
def wordAt (l : List UInt8) (i : Nat) : Wo := byW l (4 * i + 0) <<< 24 ||| byW l (4 * i + 1) <<< 16 ||| byW l (4 * i + 2) <<< 8 ||| byW l (4 * i + 3)
def nextW (l : List Wo) (z : Nat) : Wo := l.getD z 0 + (rot (l.getD (z + 1) 0) 7 ^^^ rot (l.getD (z + 1) 0) 18 ^^^ l.getD (z + 1) 0 >>> 3) + l.getD (z + 9) 0 + (rot (l.getD (z + 14) 0) 17 ^^^ rot (l.getD (z + 14) 0) 19 ^^^ l.getD (z + 14) 0 >>> 10)
def sched0 (l : List UInt8) (k : Nat) : List Wo := (List.range k).map (wordAt l)
def grow (l : List Wo) : Nat → List Wo
  | 0 => l
  | k + 1 => grow l k ++ [nextW (grow l k) k]
def sched (l : List UInt8) : List Wo := grow (sched0 l 16) 48
def roundsL : List Wo := [0x428a2f98#32, 0x71374491#32, 0xb5c0fbcf#32, 0xe9b5dba5#32, 0x3956c25b#32, 0x59f111f1#32, 0x923f82a4#32, 0xab1c5ed5#32, 0xd807aa98#32, 0x12835b01#32, 0x243185be#32, 0x550c7dc3#32, 0x72be5d74#32, 0x80deb1fe#32, 0x9bdc06a7#32, 0xc19bf174#32, 0xe49b69c1#32, 0xefbe4786#32, 0x0fc19dc6#32, 0x240ca1cc#32, 0x2de92c6f#32, 0x4a7484aa#32, 0x5cb0a9dc#32, 0x76f988da#32, 0x983e5152#32, 0xa831c66d#32, 0xb00327c8#32, 0xbf597fc7#32, 0xc6e00bf3#32, 0xd5a79147#32, 0x06ca6351#32, 0x14292967#32, 0x27b70a85#32, 0x2e1b2138#32, 0x4d2c6dfc#32, 0x53380d13#32, 0x650a7354#32, 0x766a0abb#32, 0x81c2c92e#32, 0x92722c85#32, 0xa2bfe8a1#32, 0xa81a664b#32, 0xc24b8b70#32, 0xc76c51a3#32, 0xd192e819#32, 0xd6990624#32, 0xf40e3585#32, 0x106aa070#32, 0x19a4c116#32, 0x1e376c08#32, 0x2748774c#32, 0x34b0bcb5#32, 0x391c0cb3#32, 0x4ed8aa4a#32, 0x5b9cca4f#32, 0x682e6ff3#32, 0x748f82ee#32, 0x78a5636f#32, 0x84c87814#32, 0x8cc70208#32, 0x90befffa#32, 0xa4506ceb#32, 0xbef9a3f7#32, 0xc67178f2#32]
structure R8 where
  (a0 a1 a2 a3 e0 e1 e2 e3 : Wo)
def R8.a (r : R8) : List Wo := [r.a0, r.a1, r.a2, r.a3]
def R8.e (r : R8) : List Wo := [r.e0, r.e1, r.e2, r.e3]
def R8.l (r : R8) : List Wo := [r.a0, r.a1, r.a2, r.a3, r.e0, r.e1, r.e2, r.e3]
def t1W (r : R8) (k w : Wo) : Wo := r.e3 + mixW r.e0 6 11 25 + (r.e2 ^^^ (r.e0 &&& (r.e1 ^^^ r.e2))) + k + w
def t2W (r : R8) : Wo := mixW r.a0 2 13 22 + ((r.a0 &&& r.a1) ^^^ (r.a0 &&& r.a2) ^^^ (r.a1 &&& r.a2))
def rnd (r : R8) (k w : Wo) : R8 := ⟨t1W r k w + t2W r, r.a0, r.a1, r.a2, r.a3 + t1W r k w, r.e0, r.e1, r.e2⟩
def rnds (r : R8) (ws : List Wo) : Nat → R8
  | 0 => r
  | i + 1 => rnd (rnds r ws i) (roundsL.getD i 0) (ws.getD i 0)
def R8.add (r s : R8) : R8 := ⟨r.a0 + s.a0, r.a1 + s.a1, r.a2 + s.a2, r.a3 + s.a3, r.e0 + s.e0, r.e1 + s.e1, r.e2 + s.e2, r.e3 + s.e3⟩
def blockW (r : R8) (l : List UInt8) : R8 := r.add (rnds r (sched l) 64)
def blocks (r : R8) (l : List UInt8) : Nat → R8
  | 0 => r
  | k + 1 => blockW (blocks r l k) (l.drop (64 * k))
structure Sm where
  (r : R8) (rest : List UInt8) (n : Nat)
def Sm.add (s : Sm) (l : List UInt8) : Sm := ⟨blocks s.r (s.rest ++ l) ((s.rest ++ l).length / 64), (s.rest ++ l).drop (64 * ((s.rest ++ l).length / 64)), s.n + l.length⟩
theorem bs_ones (l : List UInt8) : ∀ c ∈ bs l, ones c = true := by
  intro c hc
  obtain ⟨b, _, rfl⟩ := List.mem_map.1 hc
  rfl
/-! ### Constants -/
abbrev ws (l : List Wo) : List (List Abs) := l.map fun p => [u32 p]
section
variable {P : Program} {n : Nat} {W : Wd} {σ τ : Blks} {l : Slots} {X : List Nat} {x y z : Operand} {d : Option Nat} {ty t t' e : TypeId} {pos : String} {aft : Array Edge} {g : Option (Nat × Bool)} {A : Abs} {tab : List (Nat × TI)} {ops : Array Oper} {Q : Exit → Act → World → Prop} {k : IntKind}
theorem ofInt8 (c : UInt8) : BitVec.ofInt IntKind.u8.bits ((c.toNat : Nat) : Int) = c.toBitVec := by
  show BitVec.ofInt 8 ((c.toBitVec.toNat : Nat) : Int) = _
  rw [BitVec.ofInt_natCast, BitVec.ofNat_toNat, BitVec.setWidth_eq]
theorem wrap8 (p : BitVec 8) : IntKind.u8.wrap (p.toNat : Nat) = (p.toNat : Nat) := by
  have := p.isLt
  simp only [IntKind.wrap, IntKind.bits, IntKind.signed]
  simp
  omega
theorem lE_ {c f : UInt8} (hx : look l x = some (.v (bc c))) (hy : look l y = some (.v (bc f))) : Val P n W σ l X ⟨d, .binOp .or t x y t', ty, pos, aft, g⟩ (.v (bc (c ||| f))) :=
  gD_ hx hy (fun w => by
    simp only [Op.intBits, ofInt8]
    exact congrArg (fun r => Result.ok (Value.int .u8 r) w) (wrap8 (c.toBitVec ||| f.toBitVec))) rfl
end
/-! ### Rows of words -/
end Go.Proofs.YtggajaigfkekhaaGreat.A
