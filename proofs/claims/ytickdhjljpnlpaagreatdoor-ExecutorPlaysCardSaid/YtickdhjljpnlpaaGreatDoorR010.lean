/-
  Packed out of the texts: CO1, CO2, TM2, TRow, TM3, TPar, TM4.
-/
import Derived.Test.YtickdhjljpnlpaaGreatDoorR09
set_option maxRecDepth 100000
set_option linter.unusedSimpArgs false
set_option linter.unusedVariables false
namespace Go.Proofs.YtickdhjljpnlpaaGreatDoor.A
open Go.RowKit
section
variable {x : Oc} {xs : List Oc} {p q : Nat} {k : Int} {v : Value}
theorem kA_  : Spec Tryz.prog 62 [.agg (Oc.abs x)] [] (fun _ : Unit => []) (fun _ => int x.client) := by
 refine F_ Tryz.func62 rfl Tryz.ntmps62 rfl fun G w =>d_<|a_<|eb_ (R_ (cs := Oc.abs x) rfl) rfl rfl fun b1=>?_
 exact q_ 1 rfl<|g_<|c_<|d_<|a_<|q_ 1 rfl<|b_ (i_ tabOk rfl rfl l0_ List.not_mem_nil rfl) rfl rfl<|q_ 1 rfl<|g_<|c_<|m_<|f_ (rs := [.tmp 2]) rfl (RV.tmp rfl RV.nil) (()) sn_<|rfl
theorem pl1_oc  : Spec Tryz.prog 94 [.agg (Oc.abs x), ptr p, ptr q] [.rd p 105 [.fn (.func 62) [] []], .rd q 3 [int k]] (fun _ : Unit => []) (fun _ => boo (eqO k x)) := by
 refine F_ Tryz.func94 rfl Tryz.ntmps94 rfl fun G w =>d_<|a_<|eb_ (R_ (cs := Oc.abs x) rfl) rfl rfl fun b3=>?_
 refine q_ 1 rfl<|g_<|c_<|d_<|aa_ [] (.q 0 (.q 1 (.q 3 (.e 2 (.q 4 (.q 5 .nil)))))) (by kernel_rfl) (by kernel_rfl) ?_
 refine r_ rfl (i_ tabOk rfl rfl r1_ List.not_mem_nil rfl) (by simp) rfl rfl ?_
 refine hx_ fun hx9 =>r_ rfl (U_ tabOk rfl rfl rfl l0_ List.not_mem_nil rfl) hx9 rfl rfl<|r_ rfl (i_ tabOk rfl rfl r2_ List.not_mem_nil rfl) (by simp) rfl rfl ?_
 refine a4_ rfl (kA_ (x := x)) (by simp [mids, It.mids]) rfl Casts.refl (by kernel_rfl) rfl rfl rfl ?_
 exact ap_<|fun _=>hx_ fun hx9 =>qx_ 1 hx9 rfl<|qs_ 1 rfl<|Q_<|c_<|m_<|f_ (rs := [.tmp 4]) rfl (RV.tmp rfl RV.nil) (()) sn_<|rfl
theorem pl2_oc  : Spec Tryz.prog 95 [.agg (Oc.abs x), ptr p, ptr q] [.rd p 105 [.fn (.func 62) [] []], .rd q 3 [int k]] (fun _ : Unit => []) (fun _ => boo (gtO k x)) := by
 refine F_ Tryz.func95 rfl Tryz.ntmps95 rfl fun G w =>d_<|a_<|eb_ (R_ (cs := Oc.abs x) rfl) rfl rfl fun b3=>?_
 refine q_ 1 rfl<|g_<|c_<|d_<|aa_ [] (.q 0 (.q 1 (.q 3 (.e 2 (.q 4 (.q 5 .nil)))))) (by kernel_rfl) (by kernel_rfl) ?_
 refine r_ rfl (i_ tabOk rfl rfl r1_ List.not_mem_nil rfl) (by simp) rfl rfl ?_
 refine hx_ fun hx9 =>r_ rfl (U_ tabOk rfl rfl rfl l0_ List.not_mem_nil rfl) hx9 rfl rfl<|r_ rfl (i_ tabOk rfl rfl r2_ List.not_mem_nil rfl) (by simp) rfl rfl ?_
 refine a4_ rfl (kA_ (x := x)) (by simp [mids, It.mids]) rfl Casts.refl (by kernel_rfl) rfl rfl rfl ?_
 exact ap_<|fun _=>hx_ fun hx9 =>qx_ 1 hx9 rfl<|qs_ 1 rfl<|Q_<|c_<|m_<|f_ (rs := [.tmp 4]) rfl (RV.tmp rfl RV.nil) (()) sn_<|rfl
theorem ca_ {xs : List (List Abs)} (h1 : ∀ c ∈ xs, ones c = true) (hn : xs.length ≤ 1000000) : Spec Tryz.prog 38 [.sl 3 xs] [] (fun _ : Unit => []) (fun _ => .sl 3 xs) := by
 refine F_ Tryz.func38 rfl Tryz.ntmps38 rfl fun G w =>d_<|a_<|q_ 1 rfl<|g_<|c_<|d_<|d_<|a_<|q_ 1 rfl<|dB_ Tryz.underlying28 rfl rfl rfl<|fun b hb=>g_<|c_<|X_ rfl ?_ ?_
 ·intro hc4
  have hnil : xs = [] := hb hc4
  subst hnil
  refine d_<|a_<|q_ 1 rfl<|g_<|c_<|m_<|h_ nofun<|gm_ (rs := [.tmp 2]) rfl (RV.tmp rfl RV.nil) (Casts.nils (s := 3) Casts.refl) () sn_ (by simp [It.rids]) rfl
 intro hc4
 refine p_<|c_<|d_<|a_<|eb_ (aK_ tabOk Tryz.underlying28 rfl rfl rfl rfl rfl rfl rfl) rfl rfl fun r5=>?_
 refine q_ 1 rfl<|eb_ (L_ (zs := xs) tabOk [] rfl Tryz.underlying28 rfl rfl rfl rfl rfl rfl h1 (by unfold maxLen; simp only [List.length_nil]; omega) (by rw [show Tryz.prog.bytesOf 40 = 24 by kernel_rfl]; simp only [List.length_nil]; omega)) rfl rfl fun r7=>?_
 exact q_ 1 rfl<|g_<|c_<|m_<|bi_ [] (t := 2) rfl rfl<|f_ (rs := [.tmp 2]) rfl (RV.tmp rfl RV.nil) (()) sn_<|rfl
theorem hU_ {xs : List (List Abs)} (h1 : ∀ c ∈ xs, ones c = true) (hn : xs.length ≤ 1000000) : Spec Tryz.prog 38 [.sl 3 xs] [] (fun r : Value => [own 40 3 r xs]) (fun r => .v r) := by
 refine F_ Tryz.func38 rfl Tryz.ntmps38 rfl fun G w =>d_<|a_<|q_ 1 rfl<|g_<|c_<|d_<|d_<|a_<|q_ 1 rfl<|dB_ Tryz.underlying28 rfl rfl rfl<|fun b hb=>g_<|c_<|X_ rfl ?_ ?_
 ·intro hc4
  have hnil : xs = [] := hb hc4
  subst hnil
  exact d_<|br_ 40 3<|a_<|q_ 1 rfl<|g_<|c_<|m_<|h_ nofun<|f_ (rs := [.tmp 2]) rfl (RV.tmp rfl RV.nil) (.slice none 0 0) sr_<|rfl
 intro hc4
 refine p_<|c_<|d_<|a_<|eb_ (aK_ tabOk Tryz.underlying28 rfl rfl rfl rfl rfl rfl rfl) rfl rfl fun r5=>?_
 refine q_ 1 rfl<|eb_ (L_ (zs := xs) tabOk [] rfl Tryz.underlying28 rfl rfl rfl rfl rfl rfl h1 (by unfold maxLen; simp only [List.length_nil]; omega) (by rw [show Tryz.prog.bytesOf 40 = 24 by kernel_rfl]; simp only [List.length_nil]; omega)) rfl rfl fun r7=>?_
 exact q_ 1 rfl<|g_<|c_<|m_<|f_ (rs := [.tmp 2]) rfl (RV.tmp rfl RV.nil) (r7) sr_<|rfl
end
theorem gT_ {xs : List Oc} {p : Oc → Bool} {k : Nat} {caps : List Abs} {σ : Blks} (hb : goesIn Tryz.prog k = true) (hr : Rds σ) (hn : xs.length < 9223372036854775807) (h : ∀ x ∈ xs, Spec Tryz.prog k (.agg (Oc.abs x) :: caps) σ (fun _ : Unit => []) (fun _ => boo (p x))) : Spec Tryz.prog 93 [.sl 3 (xs.map Oc.abs), .fn (.func k) [] caps] σ (fun _ : {r : Int // IdxOf p xs r} => []) (fun z => int z.1) := by
 refine F_ Tryz.func93 rfl Tryz.ntmps93 rfl fun G w =>d_<|a_<|q_ 1 rfl<|g_<|c_<|d_<|d_<|a_<|q_ 1 rfl<|b_ (B_ rfl Tryz.underlying28 (List.length_map _)) rfl rfl<|q_ 1 rfl<|g_<|c_<|y_<|ae_ (ι := Nat) (fun z => σ) (fun z => [(0, .sl 3 (xs.map Oc.abs)), (1, .fn (.func k) [] caps), (7, int (xs.length : Nat)), (8, int (z : Nat))]) (fun z => z ≤ xs.length ∧ ∀ j (hj : j < xs.length), j < z → p xs[j] = false) (fun z => xs.length - z) (0) (⟨Nat.zero_le _, by omega⟩) (by exact ⟨rfl, rfl, rfl, rfl, trivial⟩) sr_ ?_
 intro z hz
 refine d_<|a_<|q_ 1 rfl<|g_<|c_<|d_<|o_ rfl ?_ ?_
 rotate_left
 ·intro hc9
  refine W_<|h_ nofun<|h_ nofun<|V_<|c_<|d_<|a_<|q_ 1 rfl<|g_<|c_<|m_<|f_ (rs := [.tmp 4]) rfl (RV.tmp rfl RV.nil) (⟨-1, .inl ⟨rfl, fun x hx => by obtain ⟨j, hj, rfl⟩ := List.getElem_of_mem hx; exact hz.2 j hj (by omega)⟩⟩) sn_ ?_
  exact rfl
 intro hc9
 have hlt : z < xs.length := by omega
 refine p_<|c_<|d_<|y_<|d_<|a_<|q_ 2 rfl<|g_<|c_<|d_<|a_<|q_ 3 rfl<|b_ (J_ tabOk Tryz.underlying28 rfl rfl rfl rfl (aN_ (by omega)) rfl rfl) rfl rfl ?_
 refine b_ (Y_ tabOk rfl rfl rfl rfl) rfl rfl<|bF_ (h _ (List.getElem_mem hlt)) rfl Casts.refl hb rfl rfl rfl<|bv_ (Rds.reads hr (fun x hx => by repeat (first | exact hx | apply List.mem_cons_of_mem))) (fun _ => rfl) ?_
 intro _
 refine g_<|c_<|X_ rfl ?_ ?_
 rotate_left
 ·intro hc16
  refine p_<|u_<|c_<|a_<|b_ (C_ rfl rfl (by simp only [InR, lo, hi]; omega)) rfl rfl ?_
  refine q_ 1 rfl<|g_<|G_ (z + 1) (by omega) (⟨by omega, fun j hj hjz => by rcases Nat.lt_or_ge j z with h1 | h1; exact hz.2 j hj h1; obtain rfl : j = z := (by omega); exact hc16⟩) (by exact ⟨rfl, rfl, rfl, rfl, trivial⟩) sr_
 intro hc16
 refine d_<|a_<|q_ 2 rfl<|g_<|c_<|m_<|E_<|h_ nofun<|h_ nofun<|E_<|h_ nofun<|f_ (rs := [.tmp 4]) rfl (RV.tmp rfl RV.nil) (⟨(z : Nat), .inr ⟨z, hlt, rfl, hc16, fun j hj => hz.2 j (by omega) hj⟩⟩) sn_ ?_
 exact rfl
theorem gS_ {v : Value} {xs : List Oc} {p : Oc → Bool} {k : Nat} {caps : List Abs} {σ : Blks} (hb : goesIn Tryz.prog k = true) (hr : Rds σ) (hn : xs.length < 9223372036854775807) (h : ∀ x ∈ xs, Spec Tryz.prog k (.agg (Oc.abs x) :: caps) σ (fun _ : Unit => []) (fun _ => boo (p x))) : Spec Tryz.prog 93 [.v v, .fn (.func k) [] caps] (.rdpc (ownPc 40 3 v (xs.map Oc.abs)) :: σ) (fun _ : {r : Int // IdxOf p xs r} => []) (fun z => int z.1) := by
 refine F_ Tryz.func93 rfl Tryz.ntmps93 rfl fun G w =>d_<|a_<|q_ 1 rfl<|g_<|c_<|d_<|d_<|a_<|q_ 1 rfl<|b_ (bS_ (m := xs.length) rfl (.inr i0_) Tryz.underlying28 (List.length_map _)) rfl rfl<|q_ 1 rfl<|g_<|c_<|y_<|ae_ (ι := Nat) (fun z => (.rdpc (ownPc 40 3 v (xs.map Oc.abs)) :: σ)) (fun z => [(0, .v v), (1, .fn (.func k) [] caps), (7, int (xs.length : Nat)), (8, int (z : Nat))]) (fun z => z ≤ xs.length ∧ ∀ j (hj : j < xs.length), j < z → p xs[j] = false) (fun z => xs.length - z) (0) (⟨Nat.zero_le _, by omega⟩) (by exact ⟨rfl, rfl, rfl, rfl, trivial⟩) sr_ ?_
 intro z hz
 refine d_<|a_<|q_ 1 rfl<|g_<|c_<|d_<|o_ rfl ?_ ?_
 rotate_left
 ·intro hc9
  refine W_<|h_ nofun<|h_ nofun<|V_<|c_<|d_<|a_<|q_ 1 rfl<|g_<|c_<|m_<|f_ (rs := [.tmp 4]) rfl (RV.tmp rfl RV.nil) (⟨-1, .inl ⟨rfl, fun x hx => by obtain ⟨j, hj, rfl⟩ := List.getElem_of_mem hx; exact hz.2 j hj (by omega)⟩⟩) sn_ ?_
  exact rfl
 intro hc9
 have hlt : z < xs.length := by omega
 refine p_<|c_<|d_<|y_<|d_<|a_<|q_ 2 rfl<|g_<|c_<|d_<|a_<|q_ 3 rfl<|b_ (bh_ (q := z) tabOk Tryz.underlying28 rfl rfl (.inr i0_) rfl rfl (by rw [List.length_map]; exact hlt) rfl rfl) rfl rfl ?_
 refine b_ (dZ_ tabOk rfl rfl rfl (.inr i0_) rfl (aN_ hlt) rfl) rfl rfl<|bF_ (h _ (List.getElem_mem hlt)) rfl Casts.refl hb rfl rfl rfl<|bv_ (Rds.reads hr (fun x hx => by repeat (first | exact hx | apply List.mem_cons_of_mem))) (fun _ => rfl) ?_
 intro _
 refine g_<|c_<|X_ rfl ?_ ?_
 rotate_left
 ·intro hc16
  refine p_<|u_<|c_<|a_<|b_ (C_ rfl rfl (by simp only [InR, lo, hi]; omega)) rfl rfl ?_
  refine q_ 1 rfl<|g_<|G_ (z + 1) (by omega) (⟨by omega, fun j hj hjz => by rcases Nat.lt_or_ge j z with h1 | h1; exact hz.2 j hj h1; obtain rfl : j = z := (by omega); exact hc16⟩) (by exact ⟨rfl, rfl, rfl, rfl, trivial⟩) sr_
 intro hc16
 refine d_<|a_<|q_ 2 rfl<|g_<|c_<|m_<|E_<|h_ nofun<|h_ nofun<|E_<|h_ nofun<|f_ (rs := [.tmp 4]) rfl (RV.tmp rfl RV.nil) (⟨(z : Nat), .inr ⟨z, hlt, rfl, hc16, fun j hj => hz.2 j (by omega) hj⟩⟩) sn_ ?_
 exact rfl
theorem ins_oc {v u : Value} {xs : List (List Abs)} {y : List Abs} {i : Nat} (hil : i ≤ xs.length) (h1 : ∀ c ∈ xs, ones c = true) (hy : ones y = true) (hn : xs.length ≤ 1000000) : Spec Tryz.prog 126 [.v v, int (i : Nat), .v u] [own 40 3 u [y], own 40 3 v xs] (fun r : Value => [own 40 3 r (xs.take i ++ y :: xs.drop i)]) (fun r => .v r) := by
 refine F_ Tryz.func126 rfl Tryz.ntmps126 rfl fun G w =>d_<|a_<|q_ 1 rfl<|g_<|c_<|d_<|a_<|q_ 2 rfl<|b_ (aV_ (s := 3) (q := i) tabOk Tryz.underlying28 rfl rfl rfl i1_ rfl (by omega) (by omega)) rfl rfl ?_
 refine g_<|c_<|d_<|a_<|q_ 1 rfl<|b_ (cd_ (m := 1) rfl i0_ Tryz.underlying28 rfl) rfl rfl<|q_ 1 rfl<|g_<|c_<|d_<|d_<|a_<|q_ 2 rfl<|g_<|c_<|o_ rfl (by intro hc16; exfalso; omega) ?_
 intro hc16
 refine p_<|c_<|d_<|a_<|q_ 1 rfl<|b_ (cd_ (m := xs.length) rfl i1_ Tryz.underlying28 rfl) rfl rfl<|q_ 1 rfl<|g_<|c_<|d_<|d_<|a_<|q_ 3 rfl<|g_<|c_<|o_ rfl ?_ ?_
 ·intro hc22
  refine d_<|ce_ [] (t := 2) rfl rfl<|a_<|q_ 2 rfl<|eb_ (bl_ tabOk [] Tryz.underlying28 rfl rfl rfl rfl rfl rfl (by intro c hc; rw [List.mem_singleton] at hc; subst hc; exact hy) (by unfold maxLen; simp; omega) (by rw [show Tryz.prog.bytesOf 40 = 24 by kernel_rfl]; simp; omega)) rfl rfl fun r25=>?_
  refine q_ 1 rfl<|g_<|c_<|m_<|h_ nofun<|f_ (rs := [.tmp 6]) rfl (RV.tmp rfl RV.nil) (r25) (by rw [← kD_ (y := y) (by omega : i = xs.length)]; exact List.Sublist.refl _) ?_
  exact rfl
 intro hc22
 have hlt : i < xs.length := by omega
 refine p_<|c_<|d_<|d_<|a_<|q_ 2 rfl<|b_ (C_ rfl rfl (by simp only [InR, lo, hi]; omega)) rfl rfl ?_
 refine q_ 1 rfl<|b_ (fH_ rfl i1_ Tryz.underlying28) rfl rfl<|q_ 1 rfl<|g_<|c_<|o_ rfl ?_ ?_
 ·intro hc31
  refine d_<|a_<|q_ 2 rfl<|b_ (c4_ (s := 3) (q := i) tabOk Tryz.underlying28 rfl rfl (.inl i1_) rfl rfl (by omega)) rfl rfl ?_
  refine q_ 2 rfl<|b_ (C_ rfl rfl (by simp only [InR, lo, hi]; omega)) rfl rfl ?_
  refine q_ 1 rfl<|b_ (l_ (C := int ((xs.length + 1 - i : Nat) : Int)) (aC_ rfl rfl (by simp only [InR, lo, hi]; omega)) (congrArg int (by omega))) rfl rfl ?_
  refine a0_ (cF_ (s := 3) (q := i) (m := xs.length + 1 - i) tabOk Tryz.underlying28 Tryz.underlying3 rfl rfl rfl rfl i1_ rfl rfl (by omega) (by omega) (by omega) (by unfold maxLen; omega) (by rw [show Tryz.prog.bytesOf 40 = 24 by kernel_rfl]; omega)) rfl rfl ?_
  rintro _ _ ⟨r40, js, rfl, hjs, rfl⟩
  refine q_ 1 rfl<|g_<|c_<|d_<|a_<|q_ 2 rfl<|b_ (aV_ (s := 3) (q := i) tabOk Tryz.underlying28 rfl rfl rfl i0_ rfl (by omega) (by (simp only [List.length_append, List.length_take, List.length_drop, List.length_cons, List.length_nil]; omega))) rfl rfl ?_
  refine q_ 1 rfl<|e_ (bj_ (s := 3) (q := i) (ys := [y]) (zs := xs.take i ++ y :: js.drop 1) tabOk Tryz.underlying28 rfl rfl rfl (by (simp only [List.length_append, List.length_take, List.length_drop, List.length_cons, List.length_nil]; omega)) (Src.ofAll rfl i1_ (by simp) (by (simp only [List.length_append, List.length_take, List.length_drop, List.length_cons, List.length_nil]; omega))) (by (intro c hc; rw [List.mem_singleton] at hc; subst hc; exact hy)) (ins_a hlt hjs) u0_) rfl rfl ?_
  refine g_<|c_<|d_<|aa_ r40.ownBlock.toList (.q 0 (.q 1 (.q 2 (.q 3 (.q 4 (.q 5 (.q 6 (.q 7 (.e 8 .nil))))))))) (by kernel_rfl) (by kernel_rfl) ?_
  refine hx_ fun hx9 =>qx_ 3 hx9 rfl<|r_ rfl (C_ rfl rfl (by simp only [InR, lo, hi]; omega)) hx9 rfl rfl ?_
  refine r_ rfl (aV_ (s := 3) (q := i + 1) tabOk Tryz.underlying28 rfl rfl rfl i0_ rfl (by omega) (by (simp only [List.length_append, List.length_take, List.length_drop, List.length_cons, List.length_nil]; omega))) hx9 rfl rfl ?_
  refine qx_ 2 hx9 rfl<|r_ rfl (aV_ (s := 3) (q := i) tabOk Tryz.underlying28 rfl rfl rfl i2_ rfl (by omega) (by omega)) hx9 rfl rfl ?_
  refine ex_ rfl (bj_ (s := 3) (q := i + 1) (ys := (xs.drop i)) (zs := (xs.take i ++ y :: xs.drop i)) tabOk Tryz.underlying28 rfl rfl rfl (by (simp only [List.length_append, List.length_take, List.length_drop, List.length_cons, List.length_nil]; omega)) (Src.ofOwn (xs := xs) (q := i) rfl i2_ hlt (by (simp only [List.length_append, List.length_take, List.length_drop, List.length_cons, List.length_nil]; omega)) (by rw [List.take_of_length_le (Nat.le_refl _)])) (by exact d9_ h1 _) (ins_b hlt hjs) u0_) (by simp) rfl rfl ?_
  exact Q_<|c_<|d_<|a_<|q_ 2 rfl<|g_<|c_<|m_<|h_ nofun<|f_ (rs := [.tmp 6]) rfl (RV.tmp rfl RV.nil) (r40) (sc_ sn_)<|rfl
 intro hc31
 refine p_<|c_<|d_<|a_<|q_ 3 rfl<|b_ (C_ rfl rfl (by simp only [InR, lo, hi]; omega)) rfl rfl ?_
 refine b_ (hk_ (s := 3) (q := xs.length + 1) tabOk Tryz.underlying28 rfl rfl i1_ rfl (by omega) (by omega)) rfl rfl ?_
 refine q_ 1 rfl<|g_<|c_<|d_<|d_<|fI_ (v := v) (xs := xs) (q := xs.length + 1) i1_ (by omega) (by omega) fun js hjs => ⟨_, u1_, ?_⟩
 refine a_<|q_ 4 rfl<|b_ (C_ rfl rfl (by simp only [InR, lo, hi]; omega)) rfl rfl ?_
 refine b_ (aV_ (s := 3) (q := i + 1) tabOk Tryz.underlying28 rfl rfl rfl i1_ rfl (by omega) (by (simp only [List.length_append, List.length_take, List.length_drop, List.length_cons, List.length_nil]; omega))) rfl rfl ?_
 refine b_ (cB_ (tr := 4) (s := 3) (q := i + 1) (α := [_]) (ys := [y]) Tryz.func149 (by kernel_rfl) (by kernel_rfl) (by kernel_rfl) (by kernel_rfl) tabOk Tryz.underlying28 rfl rfl rfl rfl rfl rfl i0_ (by simp) (by (simp only [List.length_append, List.length_take, List.length_drop, List.length_cons, List.length_nil]; omega))) rfl rfl ?_
 refine b_ (cl_ rfl) rfl rfl<|g_<|c_<|M_ rfl<|d_<|aa_ (cutTo v (xs.length + 1)).ownBlock.toList (.q 0 (.q 1 (.q 2 (.q 3 (.q 4 (.q 5 (.q 6 (.q 7 (.e 8 .nil))))))))) (by kernel_rfl) (by kernel_rfl) ?_
 refine hx_ fun hx9 =>qx_ 3 hx9 rfl<|r_ rfl (C_ rfl rfl (by simp only [InR, lo, hi]; omega)) hx9 rfl rfl ?_
 refine r_ rfl (aV_ (s := 3) (q := i + 1) tabOk Tryz.underlying28 rfl rfl rfl i1_ rfl (by omega) (by (simp only [List.length_append, List.length_take, List.length_drop, List.length_cons, List.length_nil]; omega))) hx9 rfl rfl ?_
 refine qx_ 2 hx9 rfl<|r_ rfl (aV_ (s := 3) (q := i) tabOk Tryz.underlying28 rfl rfl rfl i1_ rfl (by omega) (by (simp only [List.length_append, List.length_take, List.length_drop, List.length_cons, List.length_nil]; omega))) hx9 rfl rfl ?_
 refine ex_ rfl (bj_ (s := 3) (q := i + 1) (ys := (xs.drop i)) (zs := (xs ++ js).take (i + 1) ++ xs.drop i) tabOk Tryz.underlying28 rfl rfl rfl (by (simp only [List.length_append, List.length_take, List.length_drop, List.length_cons, List.length_nil]; omega)) (Src.ofOwn (xs := xs ++ js) (q := i) rfl i1_ (by (simp only [List.length_append, List.length_take, List.length_drop, List.length_cons, List.length_nil]; omega)) (by (simp only [List.length_append, List.length_take, List.length_drop, List.length_cons, List.length_nil]; omega)) (kB_ hlt)) (by exact d9_ h1 _) (ins_c hlt hjs) u1_) (by simp) rfl rfl ?_
 refine Q_<|c_<|d_<|a_<|q_ 2 rfl<|b_ (aV_ (s := 3) (q := i) tabOk Tryz.underlying28 rfl rfl rfl i1_ rfl (by omega) (by (simp only [List.length_append, List.length_take, List.length_drop, List.length_cons, List.length_nil]; omega))) rfl rfl ?_
 refine q_ 1 rfl<|e_ (bj_ (s := 3) (q := i) (ys := [y]) (zs := (xs.take i ++ y :: xs.drop i)) tabOk Tryz.underlying28 rfl rfl rfl (by (simp only [List.length_append, List.length_take, List.length_drop, List.length_cons, List.length_nil]; omega)) (Src.ofAll rfl i0_ (by simp) (by rw [kC_ hlt hjs]; simp only [List.length_cons, List.length_nil]; omega)) (by (intro c hc; rw [List.mem_singleton] at hc; subst hc; exact hy)) (ins_d hlt hjs) u1_) rfl rfl ?_
 exact g_<|c_<|d_<|a_<|q_ 2 rfl<|g_<|c_<|m_<|h_ nofun<|f_ (rs := [.tmp 6]) rfl (RV.tmp rfl RV.nil) ((cutTo v (xs.length + 1))) (sk_ sr_)<|rfl
section
variable {x : Oc} {xs : List Oc} {p q : Nat} {k : Int} {v : Value}
theorem place_oc (hn : xs.length ≤ 1000000) : Spec Tryz.prog 61 [.sl 3 (xs.map Oc.abs), int k, .fn (.func 62) [] []] [] (fun _ : Unit => []) (fun _ => .tup [int ((placeG (eqO k) (gtO k) xs).1 : Nat), boo (placeG (eqO k) (gtO k) xs).2]) := by
 refine F_ Tryz.func61 rfl Tryz.ntmps61 rfl fun G w =>d_<|a_<|eb_ (bG_ rfl rfl) rfl rfl fun b4=>?_
 refine eb_ (bG_ rfl rfl) rfl rfl fun b5=>?_
 refine q_ 2 rfl<|g_<|c_<|d_<|d_<|a_<|q_ 1 rfl<|b_ (aE_ rfl rfl) rfl rfl<|s_ (gT_ (xs := xs) (k := 94) (caps := [ptr b5, ptr b4]) (σ := [.rd b5 105 [.fn (.func 62) [] []], .rd b4 3 [int k]]) (p := eqO k) (by kernel_rfl) (by intro x hx; simp only [List.mem_cons, List.not_mem_nil, or_false] at hx; rcases hx with rfl | rfl <;> exact .inl ⟨_, _, _, rfl⟩) (by omega) (fun x _ => pl1_oc)) Casts.refl (by kernel_rfl) rfl rfl rfl ?_
 refine ap_ ?_
 intro z1
 have e1 := z1.2.eq
 refine q_ 1 rfl<|g_<|c_<|d_<|a_<|q_ 2 rfl<|g_<|c_<|o_ rfl ?_ ?_
 ·intro hc14
  have ha : xs.any (eqO k) = true := by
   rcases Bool.eq_false_or_eq_true (xs.any (eqO k)) with h | h
   ·exact h
   rw [if_neg (by rw [h]; decide)] at e1; omega
  rw [if_pos ha] at e1
  refine d_<|a_<|q_ 3 rfl<|g_<|c_<|m_<|h_ nofun<|f_ (rs := [.tmp 6, .tmp 7]) rfl (RV.tmp rfl (RV.tmp rfl RV.nil)) (()) sn_ ?_
  have hp : placeG (eqO k) (gtO k) xs = (xs.findIdx (eqO k), true) := if_pos ha
  rw [hp, e1]
  rfl
 intro hc14
 have hn1 : ¬ xs.any (eqO k) = true := fun h => by rw [if_pos h] at e1; omega
 refine p_<|c_<|d_<|d_<|a_<|q_ 1 rfl<|b_ (aE_ rfl rfl) rfl rfl<|s_ (gT_ (xs := xs) (k := 95) (caps := [ptr b5, ptr b4]) (σ := [.rd b5 105 [.fn (.func 62) [] []], .rd b4 3 [int k]]) (p := gtO k) (by kernel_rfl) (by intro x hx; simp only [List.mem_cons, List.not_mem_nil, or_false] at hx; rcases hx with rfl | rfl <;> exact .inl ⟨_, _, _, rfl⟩) (by omega) (fun x _ => pl2_oc)) Casts.refl (by kernel_rfl) rfl rfl rfl ?_
 refine ap_ ?_
 intro z2
 have e2 := z2.2.eq
 refine q_ 1 rfl<|g_<|c_<|d_<|a_<|q_ 2 rfl<|g_<|c_<|o_ rfl ?_ ?_
 ·intro hc20
  refine d_<|a_<|q_ 3 rfl<|g_<|c_<|m_<|h_ nofun<|f_ (rs := [.tmp 6, .tmp 7]) rfl (RV.tmp rfl (RV.tmp rfl RV.nil)) (()) sn_ ?_
  have hp : placeG (eqO k) (gtO k) xs = (xs.findIdx (gtO k), false) := if_neg hn1
  rw [hp]
  rcases Bool.eq_false_or_eq_true (xs.any (gtO k)) with h | h
  ·rw [if_pos h] at e2
   (rw [e2]; rfl)
  rw [if_neg (by rw [h]; decide)] at e2
  (exfalso; omega)
 intro hc20
 refine p_<|c_<|d_<|a_<|q_ 1 rfl<|b_ (B_ rfl Tryz.underlying28 (List.length_map _)) rfl rfl<|q_ 2 rfl<|g_<|c_<|m_<|f_ (rs := [.tmp 6, .tmp 7]) rfl (RV.tmp rfl (RV.tmp rfl RV.nil)) (()) sn_ ?_
 have hp : placeG (eqO k) (gtO k) xs = (xs.findIdx (gtO k), false) := if_neg hn1
 rw [hp]
 rcases Bool.eq_false_or_eq_true (xs.any (gtO k)) with h | h
 ·rw [if_pos h] at e2
  (exfalso; omega)
 rw [if_neg (by rw [h]; decide)] at e2
 (rw [show xs.findIdx (gtO k) = xs.length from List.findIdx_eq_length.2 (by simpa using h)]; rfl)
theorem kc_ (hn : xs.length ≤ 1000000) : Spec Tryz.prog 61 [.v v, int k, .fn (.func 62) [] []] [.rdpc (ownPc 40 3 v (xs.map Oc.abs))] (fun _ : Unit => []) (fun _ => .tup [int ((placeG (eqO k) (gtO k) xs).1 : Nat), boo (placeG (eqO k) (gtO k) xs).2]) := by
 refine F_ Tryz.func61 rfl Tryz.ntmps61 rfl fun G w =>d_<|a_<|eb_ (bG_ rfl rfl) rfl rfl fun b4=>?_
 refine eb_ (bG_ rfl rfl) rfl rfl fun b5=>?_
 refine q_ 2 rfl<|g_<|c_<|d_<|d_<|a_<|q_ 1 rfl<|b_ (aE_ rfl rfl) rfl rfl<|s_ (gS_ (xs := xs) (k := 94) (caps := [ptr b5, ptr b4]) (σ := [.rd b5 105 [.fn (.func 62) [] []], .rd b4 3 [int k]]) (p := eqO k) (by kernel_rfl) (by intro x hx; simp only [List.mem_cons, List.not_mem_nil, or_false] at hx; rcases hx with rfl | rfl <;> exact .inl ⟨_, _, _, rfl⟩) (by omega) (fun x _ => pl1_oc)) Casts.refl (by kernel_rfl) rfl rfl rfl ?_
 refine ap_ ?_
 intro z1
 have e1 := z1.2.eq
 refine q_ 1 rfl<|g_<|c_<|d_<|a_<|q_ 2 rfl<|g_<|c_<|o_ rfl ?_ ?_
 ·intro hc14
  have ha : xs.any (eqO k) = true := by
   rcases Bool.eq_false_or_eq_true (xs.any (eqO k)) with h | h
   ·exact h
   rw [if_neg (by rw [h]; decide)] at e1; omega
  rw [if_pos ha] at e1
  refine d_<|a_<|q_ 3 rfl<|g_<|c_<|m_<|h_ nofun<|f_ (rs := [.tmp 6, .tmp 7]) rfl (RV.tmp rfl (RV.tmp rfl RV.nil)) (()) sn_ ?_
  have hp : placeG (eqO k) (gtO k) xs = (xs.findIdx (eqO k), true) := if_pos ha
  rw [hp, e1]
  rfl
 intro hc14
 have hn1 : ¬ xs.any (eqO k) = true := fun h => by rw [if_pos h] at e1; omega
 refine p_<|c_<|d_<|d_<|a_<|q_ 1 rfl<|b_ (aE_ rfl rfl) rfl rfl<|s_ (gS_ (xs := xs) (k := 95) (caps := [ptr b5, ptr b4]) (σ := [.rd b5 105 [.fn (.func 62) [] []], .rd b4 3 [int k]]) (p := gtO k) (by kernel_rfl) (by intro x hx; simp only [List.mem_cons, List.not_mem_nil, or_false] at hx; rcases hx with rfl | rfl <;> exact .inl ⟨_, _, _, rfl⟩) (by omega) (fun x _ => pl2_oc)) Casts.refl (by kernel_rfl) rfl rfl rfl ?_
 refine ap_ ?_
 intro z2
 have e2 := z2.2.eq
 refine q_ 1 rfl<|g_<|c_<|d_<|a_<|q_ 2 rfl<|g_<|c_<|o_ rfl ?_ ?_
 ·intro hc20
  refine d_<|a_<|q_ 3 rfl<|g_<|c_<|m_<|h_ nofun<|f_ (rs := [.tmp 6, .tmp 7]) rfl (RV.tmp rfl (RV.tmp rfl RV.nil)) (()) sn_ ?_
  have hp : placeG (eqO k) (gtO k) xs = (xs.findIdx (gtO k), false) := if_neg hn1
  rw [hp]
  rcases Bool.eq_false_or_eq_true (xs.any (gtO k)) with h | h
  ·rw [if_pos h] at e2
   (rw [e2]; rfl)
  rw [if_neg (by rw [h]; decide)] at e2
  (exfalso; omega)
 intro hc20
 refine p_<|c_<|d_<|a_<|q_ 1 rfl<|b_ (bS_ (m := xs.length) rfl (.inr i2_) Tryz.underlying28 (List.length_map _)) rfl rfl<|q_ 2 rfl<|g_<|c_<|m_<|f_ (rs := [.tmp 6, .tmp 7]) rfl (RV.tmp rfl (RV.tmp rfl RV.nil)) (()) sn_ ?_
 have hp : placeG (eqO k) (gtO k) xs = (xs.findIdx (gtO k), false) := if_neg hn1
 rw [hp]
 rcases Bool.eq_false_or_eq_true (xs.any (gtO k)) with h | h
 ·rw [if_pos h] at e2
  (exfalso; omega)
 rw [if_neg (by rw [h]; decide)] at e2
 (rw [show xs.findIdx (gtO k) = xs.length from List.findIdx_eq_length.2 (by simpa using h)]; rfl)
set_option maxHeartbeats 1000000 in
theorem put_oc (hn : xs.length ≤ 100000) : Spec Tryz.prog 106 [.sl 3 (xs.map Oc.abs), .agg (Oc.abs x), .fn (.func 62) [] []] [] (fun _ : Unit => []) (fun _ => .sl 3 ((withG (eqO x.client) (gtO x.client) x xs).map Oc.abs)) := by
 refine F_ Tryz.func106 rfl Tryz.ntmps106 rfl fun G w =>d_<|a_<|eb_ (R_ (cs := Oc.abs x) rfl) rfl rfl fun b4=>?_
 refine q_ 1 rfl<|g_<|c_<|d_<|a_<|q_ 1 rfl<|s_ (hU_ (ci_ xs) (by rw [List.length_map]; omega)) Casts.refl (by kernel_rfl) rfl rfl rfl ?_
 refine bB_ (by repeat (first | exact Reads.nil | (refine Reads.blk ?_ ?_; focus ((repeat first|assumption|exact m0_|apply m1_); done)) | (refine Reads.rd ?_ ?_; focus ((repeat first|assumption|exact m0_|apply m1_); done)) | (refine Reads.pc ?_ ?_; focus ((repeat first|assumption|exact m0_|apply m1_); done)) | (refine Reads.rdpc ?_ ?_; focus ((repeat first|assumption|exact m0_|apply m1_); done)))) (fun _ => rfl) ?_
 intro z5
 refine q_ 1 rfl<|g_<|c_<|d_<|a_<|q_ 2 rfl<|b_ (U_ tabOk rfl rfl rfl l1_ List.not_mem_nil rfl) rfl rfl<|bF_ (kA_ (x := x)) rfl Casts.refl (by kernel_rfl) rfl rfl rfl ?_
 refine ap_<|fun _=>q_ 1 rfl<|s_ (kc_ (v := z5) (xs := xs) (k := x.client) (by omega)) Casts.refl (by kernel_rfl) rfl rfl rfl ?_
 refine ap_<|fun _=>q_ 5 rfl<|g_<|c_<|d_<|d_<|a_<|q_ 1 rfl<|g_<|c_<|X_ rfl ?_ ?_
 rotate_left
 ·intro hc20
  have hn1 : ¬ xs.any (eqO x.client) = true := fun h => by unfold placeG at hc20; rw [if_pos h] at hc20; cases hc20
  have hp : (placeG (eqO x.client) (gtO x.client) xs) = (xs.findIdx (gtO x.client), false) := if_neg hn1
  have hle : (placeG (eqO x.client) (gtO x.client) xs).1 ≤ xs.length := by rw [hp]; exact fs_
  have hw : (withG (eqO x.client) (gtO x.client) x xs) = xs.take (placeG (eqO x.client) (gtO x.client) xs).1 ++ x :: xs.drop (placeG (eqO x.client) (gtO x.client) xs).1 := by
   rw [hp]
   exact (if_neg hn1).trans fU_
  refine p_<|c_<|d_<|a_<|q_ 2 rfl<|b_ (U_ tabOk rfl rfl rfl l1_ List.not_mem_nil rfl) rfl rfl<|eb_ (aK_ tabOk Tryz.underlying28 rfl rfl rfl rfl rfl rfl rfl) rfl rfl fun r29=>?_
  refine s_ (ins_oc (u := r29) (v := z5) (xs := xs.map Oc.abs) (y := Oc.abs x) (i := (placeG (eqO x.client) (gtO x.client) xs).1) (by rw [List.length_map]; exact hle) (ci_ xs) rfl (by rw [List.length_map]; omega)) Casts.refl (by kernel_rfl) rfl rfl rfl ?_
  refine e3_ [] (β := [_]) rfl (by intro x hx; simp only [List.mem_cons, List.not_mem_nil, or_false] at hx; rcases hx with rfl | rfl <;> rfl) ?_
  intro z30
  refine dA_ [] (t := 30) rfl rfl ?_
  rw [show List.take (placeG (eqO x.client) (gtO x.client) xs).1 (List.map Oc.abs xs) ++ Oc.abs x :: List.drop (placeG (eqO x.client) (gtO x.client) xs).1 (List.map Oc.abs xs) = (withG (eqO x.client) (gtO x.client) x xs).map Oc.abs by rw [hw, List.map_append, List.map_cons, List.map_take, List.map_drop]]
  exact q_ 1 rfl<|g_<|c_<|m_<|f_ (rs := [.tmp 6]) rfl (RV.tmp rfl RV.nil) (()) sn_<|rfl
 intro hc20
 have ha : xs.any (eqO x.client) = true := by
  rcases Bool.eq_false_or_eq_true (xs.any (eqO x.client)) with h | h
  ·exact h
  unfold placeG at hc20; rw [if_neg (by rw [h]; decide)] at hc20; cases hc20
 have hp : (placeG (eqO x.client) (gtO x.client) xs) = (xs.findIdx (eqO x.client), true) := if_pos ha
 have hlt : (placeG (eqO x.client) (gtO x.client) xs).1 < xs.length := by rw [hp]; exact cN_ ha
 have hw : (withG (eqO x.client) (gtO x.client) x xs) = xs.set (placeG (eqO x.client) (gtO x.client) xs).1 x := by
  rw [hp]
  exact (if_pos ha).trans (fT_ ha)
 refine d_<|a_<|q_ 2 rfl<|b_ (U_ tabOk rfl rfl rfl l1_ List.not_mem_nil rfl) rfl rfl<|b_ (bh_ (q := (placeG (eqO x.client) (gtO x.client) xs).1) tabOk Tryz.underlying28 rfl rfl (.inl i0_) rfl rfl (by rw [List.length_map]; exact hlt) rfl rfl) rfl rfl ?_
 refine e_ (dT_ (q := (placeG (eqO x.client) (gtO x.client) xs).1) (ys := Oc.abs x) tabOk rfl rfl rfl u0_ rfl rfl rfl (by rw [List.length_map]; exact hlt) rfl) rfl rfl ?_
 refine g_<|c_<|d_<|ce_ [] (t := 0) rfl rfl ?_
 rw [show List.set (List.map Oc.abs xs) (placeG (eqO x.client) (gtO x.client) xs).1 (Oc.abs x) = (withG (eqO x.client) (gtO x.client) x xs).map Oc.abs by rw [hw, List.map_set]]
 exact a_<|q_ 2 rfl<|g_<|c_<|m_<|h_ nofun<|f_ (rs := [.tmp 6]) rfl (RV.tmp rfl RV.nil) (()) sn_<|rfl
end
section
variable {x : Ltr} {xs : List Ltr} {p q : Nat} {k : ByteArray} {v : Value}
theorem hJ_  : Spec Tryz.prog 117 [.agg (ltrA x)] [] (fun _ : Unit => []) (fun _ => st x.name) := by
 refine F_ Tryz.func117 rfl Tryz.ntmps117 rfl fun G w =>d_<|a_<|eb_ (R_ (cs := ltrA x) rfl) rfl rfl fun b1=>?_
 exact q_ 1 rfl<|g_<|c_<|d_<|a_<|q_ 1 rfl<|b_ (i_ tabOk rfl rfl l0_ List.not_mem_nil rfl) rfl rfl<|q_ 1 rfl<|g_<|c_<|m_<|f_ (rs := [.tmp 2]) rfl (RV.tmp rfl RV.nil) (()) sn_<|rfl
theorem ke_  : Spec Tryz.prog 134 [.agg (ltrA x), ptr p, ptr q] [.rd p 155 [.fn (.func 117) [] []], .rd q 9 [st k]] (fun _ : Unit => []) (fun _ => boo (eqL k x)) := by
 refine F_ Tryz.func134 rfl Tryz.ntmps134 rfl fun G w =>d_<|a_<|eb_ (R_ (cs := ltrA x) rfl) rfl rfl fun b3=>?_
 refine q_ 1 rfl<|g_<|c_<|d_<|aa_ [] (.q 0 (.q 1 (.q 3 (.e 2 (.q 4 (.q 5 .nil)))))) (by kernel_rfl) (by kernel_rfl) ?_
 refine r_ rfl (i_ tabOk rfl rfl r1_ List.not_mem_nil rfl) (by simp) rfl rfl ?_
 refine hx_ fun hx9 =>r_ rfl (U_ tabOk rfl rfl rfl l0_ List.not_mem_nil rfl) hx9 rfl rfl<|r_ rfl (i_ tabOk rfl rfl r2_ List.not_mem_nil rfl) (by simp) rfl rfl ?_
 refine a4_ rfl (hJ_ (x := x)) (by simp [mids, It.mids]) rfl Casts.refl (by kernel_rfl) rfl rfl rfl ?_
 exact ap_<|fun _=>hx_ fun hx9 =>r_ rfl (cC_ rfl rfl) hx9 rfl rfl<|qs_ 1 rfl<|Q_<|c_<|m_<|f_ (rs := [.tmp 4]) rfl (RV.tmp rfl RV.nil) (()) sn_<|rfl
theorem kd_  : Spec Tryz.prog 135 [.agg (ltrA x), ptr p, ptr q] [.rd p 155 [.fn (.func 117) [] []], .rd q 9 [st k]] (fun _ : Unit => []) (fun _ => boo (gtL k x)) := by
 refine F_ Tryz.func135 rfl Tryz.ntmps135 rfl fun G w =>d_<|a_<|eb_ (R_ (cs := ltrA x) rfl) rfl rfl fun b3=>?_
 refine q_ 1 rfl<|g_<|c_<|d_<|aa_ [] (.q 0 (.q 1 (.q 3 (.e 2 (.q 4 (.q 5 .nil)))))) (by kernel_rfl) (by kernel_rfl) ?_
 refine r_ rfl (i_ tabOk rfl rfl r1_ List.not_mem_nil rfl) (by simp) rfl rfl ?_
 refine hx_ fun hx9 =>r_ rfl (U_ tabOk rfl rfl rfl l0_ List.not_mem_nil rfl) hx9 rfl rfl<|r_ rfl (i_ tabOk rfl rfl r2_ List.not_mem_nil rfl) (by simp) rfl rfl ?_
 refine a4_ rfl (hJ_ (x := x)) (by simp [mids, It.mids]) rfl Casts.refl (by kernel_rfl) rfl rfl rfl ?_
 exact ap_<|fun _=>hx_ fun hx9 =>r_ rfl (h2_ rfl rfl) hx9 rfl rfl<|qs_ 1 rfl<|Q_<|c_<|m_<|f_ (rs := [.tmp 4]) rfl (RV.tmp rfl RV.nil) (()) sn_<|rfl
theorem bR_ {xs : List (List Abs)} (h1 : ∀ c ∈ xs, ones c = true) (hn : xs.length ≤ 1000000) : Spec Tryz.prog 37 [.sl 6 xs] [] (fun _ : Unit => []) (fun _ => .sl 6 xs) := by
 refine F_ Tryz.func37 rfl Tryz.ntmps37 rfl fun G w =>d_<|a_<|q_ 1 rfl<|g_<|c_<|d_<|d_<|a_<|q_ 1 rfl<|dB_ Tryz.underlying27 rfl rfl rfl<|fun b hb=>g_<|c_<|X_ rfl ?_ ?_
 ·intro hc4
  have hnil : xs = [] := hb hc4
  subst hnil
  refine d_<|a_<|q_ 1 rfl<|g_<|c_<|m_<|h_ nofun<|gm_ (rs := [.tmp 2]) rfl (RV.tmp rfl RV.nil) (Casts.nils (s := 6) Casts.refl) () sn_ (by simp [It.rids]) rfl
 intro hc4
 refine p_<|c_<|d_<|a_<|eb_ (aK_ tabOk Tryz.underlying27 rfl rfl rfl rfl rfl rfl rfl) rfl rfl fun r5=>?_
 refine q_ 1 rfl<|eb_ (L_ (zs := xs) tabOk [] rfl Tryz.underlying27 rfl rfl rfl rfl rfl rfl h1 (by unfold maxLen; simp only [List.length_nil]; omega) (by rw [show Tryz.prog.bytesOf 81 = 72 by kernel_rfl]; simp only [List.length_nil]; omega)) rfl rfl fun r7=>?_
 exact q_ 1 rfl<|g_<|c_<|m_<|bi_ [] (t := 2) rfl rfl<|f_ (rs := [.tmp 2]) rfl (RV.tmp rfl RV.nil) (()) sn_<|rfl
theorem g8_ {xs : List (List Abs)} (h1 : ∀ c ∈ xs, ones c = true) (hn : xs.length ≤ 1000000) : Spec Tryz.prog 37 [.sl 6 xs] [] (fun r : Value => [own 81 6 r xs]) (fun r => .v r) := by
 refine F_ Tryz.func37 rfl Tryz.ntmps37 rfl fun G w =>d_<|a_<|q_ 1 rfl<|g_<|c_<|d_<|d_<|a_<|q_ 1 rfl<|dB_ Tryz.underlying27 rfl rfl rfl<|fun b hb=>g_<|c_<|X_ rfl ?_ ?_
 ·intro hc4
  have hnil : xs = [] := hb hc4
  subst hnil
  exact d_<|br_ 81 6<|a_<|q_ 1 rfl<|g_<|c_<|m_<|h_ nofun<|f_ (rs := [.tmp 2]) rfl (RV.tmp rfl RV.nil) (.slice none 0 0) sr_<|rfl
 intro hc4
 refine p_<|c_<|d_<|a_<|eb_ (aK_ tabOk Tryz.underlying27 rfl rfl rfl rfl rfl rfl rfl) rfl rfl fun r5=>?_
 refine q_ 1 rfl<|eb_ (L_ (zs := xs) tabOk [] rfl Tryz.underlying27 rfl rfl rfl rfl rfl rfl h1 (by unfold maxLen; simp only [List.length_nil]; omega) (by rw [show Tryz.prog.bytesOf 81 = 72 by kernel_rfl]; simp only [List.length_nil]; omega)) rfl rfl fun r7=>?_
 exact q_ 1 rfl<|g_<|c_<|m_<|f_ (rs := [.tmp 2]) rfl (RV.tmp rfl RV.nil) (r7) sr_<|rfl
end
theorem fr_ {xs : List Ltr} {p : Ltr → Bool} {k : Nat} {caps : List Abs} {σ : Blks} (hb : goesIn Tryz.prog k = true) (hr : Rds σ) (hn : xs.length < 9223372036854775807) (h : ∀ x ∈ xs, Spec Tryz.prog k (.agg (ltrA x) :: caps) σ (fun _ : Unit => []) (fun _ => boo (p x))) : Spec Tryz.prog 133 [.sl 6 (xs.map ltrA), .fn (.func k) [] caps] σ (fun _ : {r : Int // IdxOf p xs r} => []) (fun z => int z.1) := by
 refine F_ Tryz.func133 rfl Tryz.ntmps133 rfl fun G w =>d_<|a_<|q_ 1 rfl<|g_<|c_<|d_<|d_<|a_<|q_ 1 rfl<|b_ (B_ rfl Tryz.underlying27 (List.length_map _)) rfl rfl<|q_ 1 rfl<|g_<|c_<|y_<|ae_ (ι := Nat) (fun z => σ) (fun z => [(0, .sl 6 (xs.map ltrA)), (1, .fn (.func k) [] caps), (7, int (xs.length : Nat)), (8, int (z : Nat))]) (fun z => z ≤ xs.length ∧ ∀ j (hj : j < xs.length), j < z → p xs[j] = false) (fun z => xs.length - z) (0) (⟨Nat.zero_le _, by omega⟩) (by exact ⟨rfl, rfl, rfl, rfl, trivial⟩) sr_ ?_
 intro z hz
 refine d_<|a_<|q_ 1 rfl<|g_<|c_<|d_<|o_ rfl ?_ ?_
 rotate_left
 ·intro hc9
  refine W_<|h_ nofun<|h_ nofun<|V_<|c_<|d_<|a_<|q_ 1 rfl<|g_<|c_<|m_<|f_ (rs := [.tmp 4]) rfl (RV.tmp rfl RV.nil) (⟨-1, .inl ⟨rfl, fun x hx => by obtain ⟨j, hj, rfl⟩ := List.getElem_of_mem hx; exact hz.2 j hj (by omega)⟩⟩) sn_ ?_
  exact rfl
 intro hc9
 have hlt : z < xs.length := by omega
 refine p_<|c_<|d_<|y_<|d_<|a_<|q_ 2 rfl<|g_<|c_<|d_<|a_<|q_ 3 rfl<|b_ (J_ tabOk Tryz.underlying27 rfl rfl rfl rfl (aN_ (by omega)) rfl rfl) rfl rfl ?_
 refine b_ (Y_ tabOk rfl rfl rfl rfl) rfl rfl<|bF_ (h _ (List.getElem_mem hlt)) rfl Casts.refl hb rfl rfl rfl<|bv_ (Rds.reads hr (fun x hx => by repeat (first | exact hx | apply List.mem_cons_of_mem))) (fun _ => rfl) ?_
 intro _
 refine g_<|c_<|X_ rfl ?_ ?_
 rotate_left
 ·intro hc16
  refine p_<|u_<|c_<|a_<|b_ (C_ rfl rfl (by simp only [InR, lo, hi]; omega)) rfl rfl ?_
  refine q_ 1 rfl<|g_<|G_ (z + 1) (by omega) (⟨by omega, fun j hj hjz => by rcases Nat.lt_or_ge j z with h1 | h1; exact hz.2 j hj h1; obtain rfl : j = z := (by omega); exact hc16⟩) (by exact ⟨rfl, rfl, rfl, rfl, trivial⟩) sr_
 intro hc16
 refine d_<|a_<|q_ 2 rfl<|g_<|c_<|m_<|E_<|h_ nofun<|h_ nofun<|E_<|h_ nofun<|f_ (rs := [.tmp 4]) rfl (RV.tmp rfl RV.nil) (⟨(z : Nat), .inr ⟨z, hlt, rfl, hc16, fun j hj => hz.2 j (by omega) hj⟩⟩) sn_ ?_
 exact rfl
theorem fq_ {v : Value} {xs : List Ltr} {p : Ltr → Bool} {k : Nat} {caps : List Abs} {σ : Blks} (hb : goesIn Tryz.prog k = true) (hr : Rds σ) (hn : xs.length < 9223372036854775807) (h : ∀ x ∈ xs, Spec Tryz.prog k (.agg (ltrA x) :: caps) σ (fun _ : Unit => []) (fun _ => boo (p x))) : Spec Tryz.prog 133 [.v v, .fn (.func k) [] caps] (.rdpc (ownPc 81 6 v (xs.map ltrA)) :: σ) (fun _ : {r : Int // IdxOf p xs r} => []) (fun z => int z.1) := by
 refine F_ Tryz.func133 rfl Tryz.ntmps133 rfl fun G w =>d_<|a_<|q_ 1 rfl<|g_<|c_<|d_<|d_<|a_<|q_ 1 rfl<|b_ (bS_ (m := xs.length) rfl (.inr i0_) Tryz.underlying27 (List.length_map _)) rfl rfl<|q_ 1 rfl<|g_<|c_<|y_<|ae_ (ι := Nat) (fun z => (.rdpc (ownPc 81 6 v (xs.map ltrA)) :: σ)) (fun z => [(0, .v v), (1, .fn (.func k) [] caps), (7, int (xs.length : Nat)), (8, int (z : Nat))]) (fun z => z ≤ xs.length ∧ ∀ j (hj : j < xs.length), j < z → p xs[j] = false) (fun z => xs.length - z) (0) (⟨Nat.zero_le _, by omega⟩) (by exact ⟨rfl, rfl, rfl, rfl, trivial⟩) sr_ ?_
 intro z hz
 refine d_<|a_<|q_ 1 rfl<|g_<|c_<|d_<|o_ rfl ?_ ?_
 rotate_left
 ·intro hc9
  refine W_<|h_ nofun<|h_ nofun<|V_<|c_<|d_<|a_<|q_ 1 rfl<|g_<|c_<|m_<|f_ (rs := [.tmp 4]) rfl (RV.tmp rfl RV.nil) (⟨-1, .inl ⟨rfl, fun x hx => by obtain ⟨j, hj, rfl⟩ := List.getElem_of_mem hx; exact hz.2 j hj (by omega)⟩⟩) sn_ ?_
  exact rfl
 intro hc9
 have hlt : z < xs.length := by omega
 refine p_<|c_<|d_<|y_<|d_<|a_<|q_ 2 rfl<|g_<|c_<|d_<|a_<|q_ 3 rfl<|b_ (bh_ (q := z) tabOk Tryz.underlying27 rfl rfl (.inr i0_) rfl rfl (by rw [List.length_map]; exact hlt) rfl rfl) rfl rfl ?_
 refine b_ (dZ_ tabOk rfl rfl rfl (.inr i0_) rfl (aN_ hlt) rfl) rfl rfl<|bF_ (h _ (List.getElem_mem hlt)) rfl Casts.refl hb rfl rfl rfl<|bv_ (Rds.reads hr (fun x hx => by repeat (first | exact hx | apply List.mem_cons_of_mem))) (fun _ => rfl) ?_
 intro _
 refine g_<|c_<|X_ rfl ?_ ?_
 rotate_left
 ·intro hc16
  refine p_<|u_<|c_<|a_<|b_ (C_ rfl rfl (by simp only [InR, lo, hi]; omega)) rfl rfl ?_
  refine q_ 1 rfl<|g_<|G_ (z + 1) (by omega) (⟨by omega, fun j hj hjz => by rcases Nat.lt_or_ge j z with h1 | h1; exact hz.2 j hj h1; obtain rfl : j = z := (by omega); exact hc16⟩) (by exact ⟨rfl, rfl, rfl, rfl, trivial⟩) sr_
 intro hc16
 refine d_<|a_<|q_ 2 rfl<|g_<|c_<|m_<|E_<|h_ nofun<|h_ nofun<|E_<|h_ nofun<|f_ (rs := [.tmp 4]) rfl (RV.tmp rfl RV.nil) (⟨(z : Nat), .inr ⟨z, hlt, rfl, hc16, fun j hj => hz.2 j (by omega) hj⟩⟩) sn_ ?_
 exact rfl
theorem ins_ltr {v u : Value} {xs : List (List Abs)} {y : List Abs} {i : Nat} (hil : i ≤ xs.length) (h1 : ∀ c ∈ xs, ones c = true) (hy : ones y = true) (hn : xs.length ≤ 1000000) : Spec Tryz.prog 148 [.v v, int (i : Nat), .v u] [own 81 6 u [y], own 81 6 v xs] (fun r : Value => [own 81 6 r (xs.take i ++ y :: xs.drop i)]) (fun r => .v r) := by
 refine F_ Tryz.func148 rfl Tryz.ntmps148 rfl fun G w =>d_<|a_<|q_ 1 rfl<|g_<|c_<|d_<|a_<|q_ 2 rfl<|b_ (aV_ (s := 6) (q := i) tabOk Tryz.underlying27 rfl rfl rfl i1_ rfl (by omega) (by omega)) rfl rfl ?_
 refine g_<|c_<|d_<|a_<|q_ 1 rfl<|b_ (cd_ (m := 1) rfl i0_ Tryz.underlying27 rfl) rfl rfl<|q_ 1 rfl<|g_<|c_<|d_<|d_<|a_<|q_ 2 rfl<|g_<|c_<|o_ rfl (by intro hc16; exfalso; omega) ?_
 intro hc16
 refine p_<|c_<|d_<|a_<|q_ 1 rfl<|b_ (cd_ (m := xs.length) rfl i1_ Tryz.underlying27 rfl) rfl rfl<|q_ 1 rfl<|g_<|c_<|d_<|d_<|a_<|q_ 3 rfl<|g_<|c_<|o_ rfl ?_ ?_
 ·intro hc22
  refine d_<|ce_ [] (t := 2) rfl rfl<|a_<|q_ 2 rfl<|eb_ (bl_ tabOk [] Tryz.underlying27 rfl rfl rfl rfl rfl rfl (by intro c hc; rw [List.mem_singleton] at hc; subst hc; exact hy) (by unfold maxLen; simp; omega) (by rw [show Tryz.prog.bytesOf 81 = 72 by kernel_rfl]; simp; omega)) rfl rfl fun r25=>?_
  refine q_ 1 rfl<|g_<|c_<|m_<|h_ nofun<|f_ (rs := [.tmp 6]) rfl (RV.tmp rfl RV.nil) (r25) (by rw [← kD_ (y := y) (by omega : i = xs.length)]; exact List.Sublist.refl _) ?_
  exact rfl
 intro hc22
 have hlt : i < xs.length := by omega
 refine p_<|c_<|d_<|d_<|a_<|q_ 2 rfl<|b_ (C_ rfl rfl (by simp only [InR, lo, hi]; omega)) rfl rfl ?_
 refine q_ 1 rfl<|b_ (fH_ rfl i1_ Tryz.underlying27) rfl rfl<|q_ 1 rfl<|g_<|c_<|o_ rfl ?_ ?_
 ·intro hc31
  refine d_<|a_<|q_ 2 rfl<|b_ (c4_ (s := 6) (q := i) tabOk Tryz.underlying27 rfl rfl (.inl i1_) rfl rfl (by omega)) rfl rfl ?_
  refine q_ 2 rfl<|b_ (C_ rfl rfl (by simp only [InR, lo, hi]; omega)) rfl rfl ?_
  refine q_ 1 rfl<|b_ (l_ (C := int ((xs.length + 1 - i : Nat) : Int)) (aC_ rfl rfl (by simp only [InR, lo, hi]; omega)) (congrArg int (by omega))) rfl rfl ?_
  refine a0_ (cF_ (s := 6) (q := i) (m := xs.length + 1 - i) tabOk Tryz.underlying27 Tryz.underlying3 rfl rfl rfl rfl i1_ rfl rfl (by omega) (by omega) (by omega) (by unfold maxLen; omega) (by rw [show Tryz.prog.bytesOf 81 = 72 by kernel_rfl]; omega)) rfl rfl ?_
  rintro _ _ ⟨r40, js, rfl, hjs, rfl⟩
  refine q_ 1 rfl<|g_<|c_<|d_<|a_<|q_ 2 rfl<|b_ (aV_ (s := 6) (q := i) tabOk Tryz.underlying27 rfl rfl rfl i0_ rfl (by omega) (by (simp only [List.length_append, List.length_take, List.length_drop, List.length_cons, List.length_nil]; omega))) rfl rfl ?_
  refine q_ 1 rfl<|e_ (bj_ (s := 6) (q := i) (ys := [y]) (zs := xs.take i ++ y :: js.drop 1) tabOk Tryz.underlying27 rfl rfl rfl (by (simp only [List.length_append, List.length_take, List.length_drop, List.length_cons, List.length_nil]; omega)) (Src.ofAll rfl i1_ (by simp) (by (simp only [List.length_append, List.length_take, List.length_drop, List.length_cons, List.length_nil]; omega))) (by (intro c hc; rw [List.mem_singleton] at hc; subst hc; exact hy)) (ins_a hlt hjs) u0_) rfl rfl ?_
  refine g_<|c_<|d_<|aa_ r40.ownBlock.toList (.q 0 (.q 1 (.q 2 (.q 3 (.q 4 (.q 5 (.q 6 (.q 7 (.e 8 .nil))))))))) (by kernel_rfl) (by kernel_rfl) ?_
  refine hx_ fun hx9 =>qx_ 3 hx9 rfl<|r_ rfl (C_ rfl rfl (by simp only [InR, lo, hi]; omega)) hx9 rfl rfl ?_
  refine r_ rfl (aV_ (s := 6) (q := i + 1) tabOk Tryz.underlying27 rfl rfl rfl i0_ rfl (by omega) (by (simp only [List.length_append, List.length_take, List.length_drop, List.length_cons, List.length_nil]; omega))) hx9 rfl rfl ?_
  refine qx_ 2 hx9 rfl<|r_ rfl (aV_ (s := 6) (q := i) tabOk Tryz.underlying27 rfl rfl rfl i2_ rfl (by omega) (by omega)) hx9 rfl rfl ?_
  refine ex_ rfl (bj_ (s := 6) (q := i + 1) (ys := (xs.drop i)) (zs := (xs.take i ++ y :: xs.drop i)) tabOk Tryz.underlying27 rfl rfl rfl (by (simp only [List.length_append, List.length_take, List.length_drop, List.length_cons, List.length_nil]; omega)) (Src.ofOwn (xs := xs) (q := i) rfl i2_ hlt (by (simp only [List.length_append, List.length_take, List.length_drop, List.length_cons, List.length_nil]; omega)) (by rw [List.take_of_length_le (Nat.le_refl _)])) (by exact d9_ h1 _) (ins_b hlt hjs) u0_) (by simp) rfl rfl ?_
  exact Q_<|c_<|d_<|a_<|q_ 2 rfl<|g_<|c_<|m_<|h_ nofun<|f_ (rs := [.tmp 6]) rfl (RV.tmp rfl RV.nil) (r40) (sc_ sn_)<|rfl
 intro hc31
 refine p_<|c_<|d_<|a_<|q_ 3 rfl<|b_ (C_ rfl rfl (by simp only [InR, lo, hi]; omega)) rfl rfl ?_
 refine b_ (hk_ (s := 6) (q := xs.length + 1) tabOk Tryz.underlying27 rfl rfl i1_ rfl (by omega) (by omega)) rfl rfl ?_
 refine q_ 1 rfl<|g_<|c_<|d_<|d_<|fI_ (v := v) (xs := xs) (q := xs.length + 1) i1_ (by omega) (by omega) fun js hjs => ⟨_, u1_, ?_⟩
 refine a_<|q_ 4 rfl<|b_ (C_ rfl rfl (by simp only [InR, lo, hi]; omega)) rfl rfl ?_
 refine b_ (aV_ (s := 6) (q := i + 1) tabOk Tryz.underlying27 rfl rfl rfl i1_ rfl (by omega) (by (simp only [List.length_append, List.length_take, List.length_drop, List.length_cons, List.length_nil]; omega))) rfl rfl ?_
 refine b_ (cB_ (tr := 4) (s := 6) (q := i + 1) (α := [_]) (ys := [y]) Tryz.func162 (by kernel_rfl) (by kernel_rfl) (by kernel_rfl) (by kernel_rfl) tabOk Tryz.underlying27 rfl rfl rfl rfl rfl rfl i0_ (by simp) (by (simp only [List.length_append, List.length_take, List.length_drop, List.length_cons, List.length_nil]; omega))) rfl rfl ?_
 refine b_ (cl_ rfl) rfl rfl<|g_<|c_<|M_ rfl<|d_<|aa_ (cutTo v (xs.length + 1)).ownBlock.toList (.q 0 (.q 1 (.q 2 (.q 3 (.q 4 (.q 5 (.q 6 (.q 7 (.e 8 .nil))))))))) (by kernel_rfl) (by kernel_rfl) ?_
 refine hx_ fun hx9 =>qx_ 3 hx9 rfl<|r_ rfl (C_ rfl rfl (by simp only [InR, lo, hi]; omega)) hx9 rfl rfl ?_
 refine r_ rfl (aV_ (s := 6) (q := i + 1) tabOk Tryz.underlying27 rfl rfl rfl i1_ rfl (by omega) (by (simp only [List.length_append, List.length_take, List.length_drop, List.length_cons, List.length_nil]; omega))) hx9 rfl rfl ?_
 refine qx_ 2 hx9 rfl<|r_ rfl (aV_ (s := 6) (q := i) tabOk Tryz.underlying27 rfl rfl rfl i1_ rfl (by omega) (by (simp only [List.length_append, List.length_take, List.length_drop, List.length_cons, List.length_nil]; omega))) hx9 rfl rfl ?_
 refine ex_ rfl (bj_ (s := 6) (q := i + 1) (ys := (xs.drop i)) (zs := (xs ++ js).take (i + 1) ++ xs.drop i) tabOk Tryz.underlying27 rfl rfl rfl (by (simp only [List.length_append, List.length_take, List.length_drop, List.length_cons, List.length_nil]; omega)) (Src.ofOwn (xs := xs ++ js) (q := i) rfl i1_ (by (simp only [List.length_append, List.length_take, List.length_drop, List.length_cons, List.length_nil]; omega)) (by (simp only [List.length_append, List.length_take, List.length_drop, List.length_cons, List.length_nil]; omega)) (kB_ hlt)) (by exact d9_ h1 _) (ins_c hlt hjs) u1_) (by simp) rfl rfl ?_
 refine Q_<|c_<|d_<|a_<|q_ 2 rfl<|b_ (aV_ (s := 6) (q := i) tabOk Tryz.underlying27 rfl rfl rfl i1_ rfl (by omega) (by (simp only [List.length_append, List.length_take, List.length_drop, List.length_cons, List.length_nil]; omega))) rfl rfl ?_
 refine q_ 1 rfl<|e_ (bj_ (s := 6) (q := i) (ys := [y]) (zs := (xs.take i ++ y :: xs.drop i)) tabOk Tryz.underlying27 rfl rfl rfl (by (simp only [List.length_append, List.length_take, List.length_drop, List.length_cons, List.length_nil]; omega)) (Src.ofAll rfl i0_ (by simp) (by rw [kC_ hlt hjs]; simp only [List.length_cons, List.length_nil]; omega)) (by (intro c hc; rw [List.mem_singleton] at hc; subst hc; exact hy)) (ins_d hlt hjs) u1_) rfl rfl ?_
 exact g_<|c_<|d_<|a_<|q_ 2 rfl<|g_<|c_<|m_<|h_ nofun<|f_ (rs := [.tmp 6]) rfl (RV.tmp rfl RV.nil) ((cutTo v (xs.length + 1))) (sk_ sr_)<|rfl
section
variable {x : Ltr} {xs : List Ltr} {p q : Nat} {k : ByteArray} {v : Value}
theorem kb_ (hn : xs.length ≤ 1000000) : Spec Tryz.prog 116 [.sl 6 (xs.map ltrA), st k, .fn (.func 117) [] []] [] (fun _ : Unit => []) (fun _ => .tup [int ((placeG (eqL k) (gtL k) xs).1 : Nat), boo (placeG (eqL k) (gtL k) xs).2]) := by
 refine F_ Tryz.func116 rfl Tryz.ntmps116 rfl fun G w =>d_<|a_<|eb_ (bG_ rfl rfl) rfl rfl fun b4=>?_
 refine eb_ (bG_ rfl rfl) rfl rfl fun b5=>?_
 refine q_ 2 rfl<|g_<|c_<|d_<|d_<|a_<|q_ 1 rfl<|b_ (aE_ rfl rfl) rfl rfl<|s_ (fr_ (xs := xs) (k := 134) (caps := [ptr b5, ptr b4]) (σ := [.rd b5 155 [.fn (.func 117) [] []], .rd b4 9 [st k]]) (p := eqL k) (by kernel_rfl) (by intro x hx; simp only [List.mem_cons, List.not_mem_nil, or_false] at hx; rcases hx with rfl | rfl <;> exact .inl ⟨_, _, _, rfl⟩) (by omega) (fun x _ => ke_)) Casts.refl (by kernel_rfl) rfl rfl rfl ?_
 refine ap_ ?_
 intro z1
 have e1 := z1.2.eq
 refine q_ 1 rfl<|g_<|c_<|d_<|a_<|q_ 2 rfl<|g_<|c_<|o_ rfl ?_ ?_
 ·intro hc14
  have ha : xs.any (eqL k) = true := by
   rcases Bool.eq_false_or_eq_true (xs.any (eqL k)) with h | h
   ·exact h
   rw [if_neg (by rw [h]; decide)] at e1; omega
  rw [if_pos ha] at e1
  refine d_<|a_<|q_ 3 rfl<|g_<|c_<|m_<|h_ nofun<|f_ (rs := [.tmp 6, .tmp 7]) rfl (RV.tmp rfl (RV.tmp rfl RV.nil)) (()) sn_ ?_
  have hp : placeG (eqL k) (gtL k) xs = (xs.findIdx (eqL k), true) := if_pos ha
  rw [hp, e1]
  rfl
 intro hc14
 have hn1 : ¬ xs.any (eqL k) = true := fun h => by rw [if_pos h] at e1; omega
 refine p_<|c_<|d_<|d_<|a_<|q_ 1 rfl<|b_ (aE_ rfl rfl) rfl rfl<|s_ (fr_ (xs := xs) (k := 135) (caps := [ptr b5, ptr b4]) (σ := [.rd b5 155 [.fn (.func 117) [] []], .rd b4 9 [st k]]) (p := gtL k) (by kernel_rfl) (by intro x hx; simp only [List.mem_cons, List.not_mem_nil, or_false] at hx; rcases hx with rfl | rfl <;> exact .inl ⟨_, _, _, rfl⟩) (by omega) (fun x _ => kd_)) Casts.refl (by kernel_rfl) rfl rfl rfl ?_
 refine ap_ ?_
 intro z2
 have e2 := z2.2.eq
 refine q_ 1 rfl<|g_<|c_<|d_<|a_<|q_ 2 rfl<|g_<|c_<|o_ rfl ?_ ?_
 ·intro hc20
  refine d_<|a_<|q_ 3 rfl<|g_<|c_<|m_<|h_ nofun<|f_ (rs := [.tmp 6, .tmp 7]) rfl (RV.tmp rfl (RV.tmp rfl RV.nil)) (()) sn_ ?_
  have hp : placeG (eqL k) (gtL k) xs = (xs.findIdx (gtL k), false) := if_neg hn1
  rw [hp]
  rcases Bool.eq_false_or_eq_true (xs.any (gtL k)) with h | h
  ·rw [if_pos h] at e2
   (rw [e2]; rfl)
  rw [if_neg (by rw [h]; decide)] at e2
  (exfalso; omega)
 intro hc20
 refine p_<|c_<|d_<|a_<|q_ 1 rfl<|b_ (B_ rfl Tryz.underlying27 (List.length_map _)) rfl rfl<|q_ 2 rfl<|g_<|c_<|m_<|f_ (rs := [.tmp 6, .tmp 7]) rfl (RV.tmp rfl (RV.tmp rfl RV.nil)) (()) sn_ ?_
 have hp : placeG (eqL k) (gtL k) xs = (xs.findIdx (gtL k), false) := if_neg hn1
 rw [hp]
 rcases Bool.eq_false_or_eq_true (xs.any (gtL k)) with h | h
 ·rw [if_pos h] at e2
  (exfalso; omega)
 rw [if_neg (by rw [h]; decide)] at e2
 (rw [show xs.findIdx (gtL k) = xs.length from List.findIdx_eq_length.2 (by simpa using h)]; rfl)
theorem jl_ (hn : xs.length ≤ 1000000) : Spec Tryz.prog 116 [.v v, st k, .fn (.func 117) [] []] [.rdpc (ownPc 81 6 v (xs.map ltrA))] (fun _ : Unit => []) (fun _ => .tup [int ((placeG (eqL k) (gtL k) xs).1 : Nat), boo (placeG (eqL k) (gtL k) xs).2]) := by
 refine F_ Tryz.func116 rfl Tryz.ntmps116 rfl fun G w =>d_<|a_<|eb_ (bG_ rfl rfl) rfl rfl fun b4=>?_
 refine eb_ (bG_ rfl rfl) rfl rfl fun b5=>?_
 refine q_ 2 rfl<|g_<|c_<|d_<|d_<|a_<|q_ 1 rfl<|b_ (aE_ rfl rfl) rfl rfl<|s_ (fq_ (xs := xs) (k := 134) (caps := [ptr b5, ptr b4]) (σ := [.rd b5 155 [.fn (.func 117) [] []], .rd b4 9 [st k]]) (p := eqL k) (by kernel_rfl) (by intro x hx; simp only [List.mem_cons, List.not_mem_nil, or_false] at hx; rcases hx with rfl | rfl <;> exact .inl ⟨_, _, _, rfl⟩) (by omega) (fun x _ => ke_)) Casts.refl (by kernel_rfl) rfl rfl rfl ?_
 refine ap_ ?_
 intro z1
 have e1 := z1.2.eq
 refine q_ 1 rfl<|g_<|c_<|d_<|a_<|q_ 2 rfl<|g_<|c_<|o_ rfl ?_ ?_
 ·intro hc14
  have ha : xs.any (eqL k) = true := by
   rcases Bool.eq_false_or_eq_true (xs.any (eqL k)) with h | h
   ·exact h
   rw [if_neg (by rw [h]; decide)] at e1; omega
  rw [if_pos ha] at e1
  refine d_<|a_<|q_ 3 rfl<|g_<|c_<|m_<|h_ nofun<|f_ (rs := [.tmp 6, .tmp 7]) rfl (RV.tmp rfl (RV.tmp rfl RV.nil)) (()) sn_ ?_
  have hp : placeG (eqL k) (gtL k) xs = (xs.findIdx (eqL k), true) := if_pos ha
  rw [hp, e1]
  rfl
 intro hc14
 have hn1 : ¬ xs.any (eqL k) = true := fun h => by rw [if_pos h] at e1; omega
 refine p_<|c_<|d_<|d_<|a_<|q_ 1 rfl<|b_ (aE_ rfl rfl) rfl rfl<|s_ (fq_ (xs := xs) (k := 135) (caps := [ptr b5, ptr b4]) (σ := [.rd b5 155 [.fn (.func 117) [] []], .rd b4 9 [st k]]) (p := gtL k) (by kernel_rfl) (by intro x hx; simp only [List.mem_cons, List.not_mem_nil, or_false] at hx; rcases hx with rfl | rfl <;> exact .inl ⟨_, _, _, rfl⟩) (by omega) (fun x _ => kd_)) Casts.refl (by kernel_rfl) rfl rfl rfl ?_
 refine ap_ ?_
 intro z2
 have e2 := z2.2.eq
 refine q_ 1 rfl<|g_<|c_<|d_<|a_<|q_ 2 rfl<|g_<|c_<|o_ rfl ?_ ?_
 ·intro hc20
  refine d_<|a_<|q_ 3 rfl<|g_<|c_<|m_<|h_ nofun<|f_ (rs := [.tmp 6, .tmp 7]) rfl (RV.tmp rfl (RV.tmp rfl RV.nil)) (()) sn_ ?_
  have hp : placeG (eqL k) (gtL k) xs = (xs.findIdx (gtL k), false) := if_neg hn1
  rw [hp]
  rcases Bool.eq_false_or_eq_true (xs.any (gtL k)) with h | h
  ·rw [if_pos h] at e2
   (rw [e2]; rfl)
  rw [if_neg (by rw [h]; decide)] at e2
  (exfalso; omega)
 intro hc20
 refine p_<|c_<|d_<|a_<|q_ 1 rfl<|b_ (bS_ (m := xs.length) rfl (.inr i2_) Tryz.underlying27 (List.length_map _)) rfl rfl<|q_ 2 rfl<|g_<|c_<|m_<|f_ (rs := [.tmp 6, .tmp 7]) rfl (RV.tmp rfl (RV.tmp rfl RV.nil)) (()) sn_ ?_
 have hp : placeG (eqL k) (gtL k) xs = (xs.findIdx (gtL k), false) := if_neg hn1
 rw [hp]
 rcases Bool.eq_false_or_eq_true (xs.any (gtL k)) with h | h
 ·rw [if_pos h] at e2
  (exfalso; omega)
 rw [if_neg (by rw [h]; decide)] at e2
 (rw [show xs.findIdx (gtL k) = xs.length from List.findIdx_eq_length.2 (by simpa using h)]; rfl)
set_option maxHeartbeats 1000000 in
theorem put_ltr (hn : xs.length ≤ 100000) : Spec Tryz.prog 124 [.sl 6 (xs.map ltrA), .agg (ltrA x), .fn (.func 117) [] []] [] (fun _ : Unit => []) (fun _ => .sl 6 ((withG (eqL x.name) (gtL x.name) x xs).map ltrA)) := by
 refine F_ Tryz.func124 rfl Tryz.ntmps124 rfl fun G w =>d_<|a_<|eb_ (R_ (cs := ltrA x) rfl) rfl rfl fun b4=>?_
 refine q_ 1 rfl<|g_<|c_<|d_<|a_<|q_ 1 rfl<|s_ (g8_ (bP_ xs) (by rw [List.length_map]; omega)) Casts.refl (by kernel_rfl) rfl rfl rfl ?_
 refine bB_ (by repeat (first | exact Reads.nil | (refine Reads.blk ?_ ?_; focus ((repeat first|assumption|exact m0_|apply m1_); done)) | (refine Reads.rd ?_ ?_; focus ((repeat first|assumption|exact m0_|apply m1_); done)) | (refine Reads.pc ?_ ?_; focus ((repeat first|assumption|exact m0_|apply m1_); done)) | (refine Reads.rdpc ?_ ?_; focus ((repeat first|assumption|exact m0_|apply m1_); done)))) (fun _ => rfl) ?_
 intro z5
 refine q_ 1 rfl<|g_<|c_<|d_<|a_<|q_ 2 rfl<|b_ (U_ tabOk rfl rfl rfl l1_ List.not_mem_nil rfl) rfl rfl<|bF_ (hJ_ (x := x)) rfl Casts.refl (by kernel_rfl) rfl rfl rfl ?_
 refine ap_<|fun _=>q_ 1 rfl<|s_ (jl_ (v := z5) (xs := xs) (k := x.name) (by omega)) Casts.refl (by kernel_rfl) rfl rfl rfl ?_
 refine ap_<|fun _=>q_ 5 rfl<|g_<|c_<|d_<|d_<|a_<|q_ 1 rfl<|g_<|c_<|X_ rfl ?_ ?_
 rotate_left
 ·intro hc20
  have hn1 : ¬ xs.any (eqL x.name) = true := fun h => by unfold placeG at hc20; rw [if_pos h] at hc20; cases hc20
  have hp : (placeG (eqL x.name) (gtL x.name) xs) = (xs.findIdx (gtL x.name), false) := if_neg hn1
  have hle : (placeG (eqL x.name) (gtL x.name) xs).1 ≤ xs.length := by rw [hp]; exact fs_
  have hw : (withG (eqL x.name) (gtL x.name) x xs) = xs.take (placeG (eqL x.name) (gtL x.name) xs).1 ++ x :: xs.drop (placeG (eqL x.name) (gtL x.name) xs).1 := by
   rw [hp]
   exact (if_neg hn1).trans fU_
  refine p_<|c_<|d_<|a_<|q_ 2 rfl<|b_ (U_ tabOk rfl rfl rfl l1_ List.not_mem_nil rfl) rfl rfl<|eb_ (aK_ tabOk Tryz.underlying27 rfl rfl rfl rfl rfl rfl rfl) rfl rfl fun r29=>?_
  refine s_ (ins_ltr (u := r29) (v := z5) (xs := xs.map ltrA) (y := ltrA x) (i := (placeG (eqL x.name) (gtL x.name) xs).1) (by rw [List.length_map]; exact hle) (bP_ xs) rfl (by rw [List.length_map]; omega)) Casts.refl (by kernel_rfl) rfl rfl rfl ?_
  refine e3_ [] (β := [_]) rfl (by intro x hx; simp only [List.mem_cons, List.not_mem_nil, or_false] at hx; rcases hx with rfl | rfl <;> rfl) ?_
  intro z30
  refine dA_ [] (t := 30) rfl rfl ?_
  rw [show List.take (placeG (eqL x.name) (gtL x.name) xs).1 (List.map ltrA xs) ++ ltrA x :: List.drop (placeG (eqL x.name) (gtL x.name) xs).1 (List.map ltrA xs) = (withG (eqL x.name) (gtL x.name) x xs).map ltrA by rw [hw, List.map_append, List.map_cons, List.map_take, List.map_drop]]
  exact q_ 1 rfl<|g_<|c_<|m_<|f_ (rs := [.tmp 6]) rfl (RV.tmp rfl RV.nil) (()) sn_<|rfl
 intro hc20
 have ha : xs.any (eqL x.name) = true := by
  rcases Bool.eq_false_or_eq_true (xs.any (eqL x.name)) with h | h
  ·exact h
  unfold placeG at hc20; rw [if_neg (by rw [h]; decide)] at hc20; cases hc20
 have hp : (placeG (eqL x.name) (gtL x.name) xs) = (xs.findIdx (eqL x.name), true) := if_pos ha
 have hlt : (placeG (eqL x.name) (gtL x.name) xs).1 < xs.length := by rw [hp]; exact cN_ ha
 have hw : (withG (eqL x.name) (gtL x.name) x xs) = xs.set (placeG (eqL x.name) (gtL x.name) xs).1 x := by
  rw [hp]
  exact (if_pos ha).trans (fT_ ha)
 refine d_<|a_<|q_ 2 rfl<|b_ (U_ tabOk rfl rfl rfl l1_ List.not_mem_nil rfl) rfl rfl<|b_ (bh_ (q := (placeG (eqL x.name) (gtL x.name) xs).1) tabOk Tryz.underlying27 rfl rfl (.inl i0_) rfl rfl (by rw [List.length_map]; exact hlt) rfl rfl) rfl rfl ?_
 refine e_ (dT_ (q := (placeG (eqL x.name) (gtL x.name) xs).1) (ys := ltrA x) tabOk rfl rfl rfl u0_ rfl rfl rfl (by rw [List.length_map]; exact hlt) rfl) rfl rfl ?_
 refine g_<|c_<|d_<|ce_ [] (t := 0) rfl rfl ?_
 rw [show List.set (List.map ltrA xs) (placeG (eqL x.name) (gtL x.name) xs).1 (ltrA x) = (withG (eqL x.name) (gtL x.name) x xs).map ltrA by rw [hw, List.map_set]]
 exact a_<|q_ 2 rfl<|g_<|c_<|m_<|h_ nofun<|f_ (rs := [.tmp 6]) rfl (RV.tmp rfl RV.nil) (()) sn_<|rfl
end
def Oc.zero : Oc := ⟨0, 0, 0⟩
theorem fi_ {α : Type} {eq gt : α → Bool} {xs : List α} (h : (placeG eq gt xs).2 = true) : ∃ h2 : (placeG eq gt xs).1 < xs.length, xs.find? eq = some (xs[(placeG eq gt xs).1]'h2) := by
  have ha : xs.any eq = true := by
    unfold placeG at h
    split at h
    · assumption
    · cases h
  have hp : placeG eq gt xs = (xs.findIdx eq, true) := if_pos ha
  refine ⟨by rw [hp]; exact cN_ ha, ?_⟩
  rw [kK_ ha]
  simp only [hp]
theorem fh_ {α : Type} {eq gt : α → Bool} {xs : List α} (h : ¬ (placeG eq gt xs).2 = true) : xs.find? eq = none := by
  refine kJ_ fun ha => h ?_
  unfold placeG
  rw [if_pos ha]
structure Lg.Few (l : Lg) : Prop where
  ls : l.ls.length ≤ 1000
  os : l.os.length ≤ 1000
section
variable {l : Lg} {x : Ltr} {o : Oc} {k n : Int} {s : ByteArray} {c : Core} {e : Ent} {p : Nat}
theorem gR_ (hf : l.Few) : Spec Tryz.prog 105 [.agg l.abs] [] (fun _ : Unit => []) (fun _ => .agg l.abs) := by
 have hf1 := hf.ls
 have hf2 := hf.os
 refine F_ Tryz.func105 rfl Tryz.ntmps105 rfl fun G w =>d_<|a_<|eb_ (R_ (cs := l.abs) rfl) rfl rfl fun b1=>?_
 refine eb_ (H_ tabOk rfl) rfl rfl fun b2=>?_
 refine g_<|c_<|d_<|iZ_ 7 [] (.q 0 (.q 1 (.q 3 (.q 4 (.e 2 (.q 6 (.e 5 .nil))))))) (.e 7 (.q 8 (.e 9 .nil))) (by kernel_rfl) (by kernel_rfl) ?_
 refine qs_ 1 rfl<|hx_ fun hx9 =>r_ rfl (l_ (C := ltrsA l.ls) (i_ tabOk rfl rfl l1_ List.not_mem_nil rfl) rfl) hx9 rfl rfl<|qs_ 1 rfl<|r_ rfl (l_ (C := .sl 3 (l.os.map Oc.abs)) (i_ tabOk rfl rfl l1_ List.not_mem_nil rfl) rfl) hx9 rfl rfl<|I_ rfl (bR_ (bP_ l.ls) (by rw [List.length_map]; omega)) (by simp [mids, It.mids]) Casts.refl (by kernel_rfl) rfl rfl rfl ?_
 refine ap_<|fun _=>qs_ 1 rfl<|I_ rfl (ca_ (ci_ l.os) (by rw [List.length_map]; omega)) (by simp [mids, It.mids]) Casts.refl (by kernel_rfl) rfl rfl rfl ?_
 refine ap_<|fun _=>Q_<|lj_ [b1]<|ex_ rfl (n_ (L' := l.abs) tabOk rfl rfl rfl u1_ rfl (Nat.le_of_ble_eq_true rfl) rfl rfl) (by simp) rfl rfl ?_
 refine hx_ fun hx9 =>qx_ 1 hx9 rfl<|ex_ rfl (n_ (L' := l.abs) tabOk rfl rfl rfl u1_ rfl (Nat.le_of_ble_eq_true rfl) rfl rfl) (by simp) rfl rfl ?_
 refine Q_<|c_<|d_<|a_<|b_ (U_ tabOk rfl rfl rfl l1_ List.not_mem_nil rfl) rfl rfl<|e_ (n_ (L' := l.abs) tabOk rfl rfl rfl u0_ rfl (Nat.le_of_ble_eq_true rfl) rfl (by exact t_ rfl)) rfl rfl ?_
 refine g_<|c_<|m_<|f_ (rs := [.cell 2 30]) rfl (RV.cell rfl (RV.cellA tabOk rfl rfl l0_ (by rfl)) RV.nil) (()) sn_ ?_
 exact rfl
theorem kr_ (hf : l.Few) : Spec Tryz.prog 39 [.agg l.abs, int k] [] (fun _ : Unit => []) (fun _ => .tup [.agg (Oc.abs ((l.last k).getD Oc.zero)), boo (l.last k).isSome]) := by
 have hf1 := hf.ls
 have hf2 := hf.os
 refine F_ Tryz.func39 rfl Tryz.ntmps39 rfl fun G w =>d_<|a_<|eb_ (R_ (cs := l.abs) rfl) rfl rfl fun b2=>?_
 refine eb_ (H_ tabOk rfl) rfl rfl fun b4=>?_
 refine q_ 1 rfl<|g_<|c_<|d_<|a_<|q_ 1 rfl<|b_ (l_ (C := .sl 3 (l.os.map Oc.abs)) (i_ tabOk rfl rfl l1_ List.not_mem_nil rfl) rfl) rfl rfl<|q_ 1 rfl<|s_ (place_oc (xs := l.os) (k := k) (by omega)) Casts.refl (by kernel_rfl) rfl rfl rfl ?_
 refine ap_<|fun _=>q_ 5 rfl<|g_<|c_<|d_<|d_<|a_<|q_ 1 rfl<|b_ (aj_ rfl) rfl rfl<|g_<|c_<|X_ rfl ?_ ?_
 ·intro hc16
  have hnp : ¬ (placeG (eqO k) (gtO k) l.os).2 = true := by simpa using hc16
  have hfn := fh_ hnp
  refine d_<|a_<|b_ (D_ tabOk rfl rfl rfl rfl) rfl rfl<|e_ (n_ (L' := Oc.abs Oc.zero) tabOk rfl rfl rfl u0_ rfl (Nat.le_of_ble_eq_true rfl) rfl (by exact t_ rfl)) rfl rfl ?_
  refine q_ 1 rfl<|g_<|c_<|m_<|h_ nofun<|f_ (rs := [.cell 4 40, .tmp 5]) rfl (RV.cell rfl (RV.cellA tabOk rfl rfl l0_ (by rfl)) (RV.tmp rfl RV.nil)) (()) sn_ ?_
  unfold Lg.last
  rw [hfn]
  rfl
 intro hc16
 obtain ⟨hlt, hfs⟩ := fi_ (show (placeG (eqO k) (gtO k) l.os).2 = true by simpa using hc16)
 refine p_<|c_<|d_<|a_<|q_ 1 rfl<|b_ (l_ (C := .sl 3 (l.os.map Oc.abs)) (i_ tabOk rfl rfl l1_ List.not_mem_nil rfl) rfl) rfl rfl<|q_ 1 rfl<|b_ (J_ (q := (placeG (eqO k) (gtO k) l.os).1) tabOk Tryz.underlying28 rfl rfl rfl rfl (aN_ hlt) rfl rfl) rfl rfl<|b_ (Y_ tabOk rfl rfl rfl rfl) rfl rfl<|e_ (n_ (L' := Oc.abs (l.os[(placeG (eqO k) (gtO k) l.os).1]'hlt)) tabOk rfl rfl rfl u0_ rfl (Nat.le_of_ble_eq_true rfl) rfl (by exact t_ rfl)) rfl rfl ?_
 refine q_ 1 rfl<|g_<|c_<|m_<|f_ (rs := [.cell 4 40, .tmp 5]) rfl (RV.cell rfl (RV.cellA tabOk rfl rfl l0_ (by rfl)) (RV.tmp rfl RV.nil)) (()) sn_ ?_
 unfold Lg.last
 rw [hfs]
 rfl
theorem kv_ (hf : l.Few) : Spec Tryz.prog 99 [.agg l.abs, st s] [] (fun _ : Unit => []) (fun _ => .tup [.agg (ltrA ((l.find s).getD Ltr.none)), boo (l.find s).isSome]) := by
 have hf1 := hf.ls
 have hf2 := hf.os
 refine F_ Tryz.func99 rfl Tryz.ntmps99 rfl fun G w =>d_<|a_<|eb_ (R_ (cs := l.abs) rfl) rfl rfl fun b2=>?_
 refine eb_ (H_ tabOk rfl) rfl rfl fun b4=>?_
 refine q_ 1 rfl<|g_<|c_<|d_<|a_<|q_ 1 rfl<|b_ (l_ (C := .sl 6 (l.ls.map ltrA)) (i_ tabOk rfl rfl l1_ List.not_mem_nil rfl) rfl) rfl rfl<|q_ 1 rfl<|s_ (kb_ (xs := l.ls) (k := s) (by omega)) Casts.refl (by kernel_rfl) rfl rfl rfl ?_
 refine ap_<|fun _=>q_ 5 rfl<|g_<|c_<|d_<|d_<|a_<|q_ 1 rfl<|b_ (aj_ rfl) rfl rfl<|g_<|c_<|X_ rfl ?_ ?_
 ·intro hc16
  have hnp : ¬ (placeG (eqL s) (gtL s) l.ls).2 = true := by simpa using hc16
  have hfn := fh_ hnp
  refine d_<|a_<|b_ (D_ tabOk rfl rfl rfl rfl) rfl rfl<|e_ (n_ (L' := ltrA Ltr.none) tabOk rfl rfl rfl u0_ rfl (Nat.le_of_ble_eq_true rfl) rfl (by exact t_ rfl)) rfl rfl ?_
  refine q_ 1 rfl<|g_<|c_<|m_<|h_ nofun<|f_ (rs := [.cell 4 81, .tmp 5]) rfl (RV.cell rfl (RV.cellA tabOk rfl rfl l0_ (by rfl)) (RV.tmp rfl RV.nil)) (()) sn_ ?_
  unfold Lg.find
  rw [hfn]
  rfl
 intro hc16
 obtain ⟨hlt, hfs⟩ := fi_ (show (placeG (eqL s) (gtL s) l.ls).2 = true by simpa using hc16)
 refine p_<|c_<|d_<|a_<|q_ 1 rfl<|b_ (l_ (C := .sl 6 (l.ls.map ltrA)) (i_ tabOk rfl rfl l1_ List.not_mem_nil rfl) rfl) rfl rfl<|q_ 1 rfl<|b_ (J_ (q := (placeG (eqL s) (gtL s) l.ls).1) tabOk Tryz.underlying27 rfl rfl rfl rfl (aN_ hlt) rfl rfl) rfl rfl<|b_ (Y_ tabOk rfl rfl rfl rfl) rfl rfl<|e_ (n_ (L' := ltrA (l.ls[(placeG (eqL s) (gtL s) l.ls).1]'hlt)) tabOk rfl rfl rfl u0_ rfl (Nat.le_of_ble_eq_true rfl) rfl (by exact t_ rfl)) rfl rfl ?_
 refine q_ 1 rfl<|g_<|c_<|m_<|f_ (rs := [.cell 4 81, .tmp 5]) rfl (RV.cell rfl (RV.cellA tabOk rfl rfl l0_ (by rfl)) (RV.tmp rfl RV.nil)) (()) sn_ ?_
 unfold Lg.find
 rw [hfs]
 rfl
theorem ltold_s (hf : l.Few) : Spec Tryz.prog 71 [.agg l.abs, .agg o.abs] [] (fun _ : Unit => []) (fun _ => .agg (l.told o).abs) := by
 have hf1 := hf.ls
 have hf2 := hf.os
 refine F_ Tryz.func71 rfl Tryz.ntmps71 rfl fun G w =>d_<|a_<|eb_ (R_ (cs := l.abs) rfl) rfl rfl fun b2=>?_
 refine eb_ (R_ (cs := o.abs) rfl) rfl rfl fun b3=>?_
 refine eb_ (H_ tabOk rfl) rfl rfl fun b4=>?_
 refine g_<|c_<|d_<|a_<|b_ (l_ (C := .agg l.abs) (x_ tabOk rfl rfl rfl l2_ List.not_mem_nil (Nat.le_of_ble_eq_true rfl)) (congrArg Abs.agg rfl)) rfl rfl<|s_ (gR_ hf) Casts.refl (by kernel_rfl) rfl rfl rfl ?_
 refine ap_<|fun _=>eb_ (H_ tabOk rfl) rfl rfl fun b5=>?_
 refine e_ (n_ (L' := l.abs) tabOk rfl rfl rfl u0_ rfl (Nat.le_of_ble_eq_true rfl) rfl (by exact t_ rfl)) rfl rfl ?_
 refine g_<|c_<|d_<|a_<|q_ 1 rfl<|b_ (l_ (C := .sl 3 (l.os.map Oc.abs)) (i_ tabOk rfl rfl l3_ List.not_mem_nil rfl) rfl) rfl rfl<|b_ (U_ tabOk rfl rfl rfl l2_ List.not_mem_nil rfl) rfl rfl<|s_ (put_oc (xs := l.os) (x := o) (by omega)) Casts.refl (by kernel_rfl) rfl rfl rfl ?_
 refine ap_<|fun _=>q_ 1 rfl<|e_ (n_ (L' := (l.told o).abs) tabOk rfl rfl rfl u0_ rfl (Nat.le_of_ble_eq_true rfl) rfl rfl) rfl rfl<|g_<|c_<|d_<|a_<|b_ (U_ tabOk rfl rfl rfl l0_ List.not_mem_nil rfl) rfl rfl<|e_ (n_ (L' := (l.told o).abs) tabOk rfl rfl rfl u1_ rfl (Nat.le_of_ble_eq_true rfl) rfl (by exact t_ rfl)) rfl rfl ?_
 refine g_<|c_<|m_<|f_ (rs := [.cell 4 30]) rfl (RV.cell rfl (RV.cellA tabOk rfl rfl l1_ (by rfl)) RV.nil) (()) sn_ ?_
 exact rfl
theorem fZ_ (hf : l.Few) : Spec Tryz.prog 103 [.agg l.abs, .agg (ltrA x)] [] (fun _ : Unit => []) (fun _ => .tup [.agg (l.with_ x).1.abs, int (l.with_ x).2]) := by
 have hf1 := hf.ls
 have hf2 := hf.os
 have hwl := bU_ (eq := eqL x.name) (gt := gtL x.name) (x := x) l.ls
 refine F_ Tryz.func103 rfl Tryz.ntmps103 rfl fun G w =>d_<|a_<|eb_ (R_ (cs := l.abs) rfl) rfl rfl fun b2=>?_
 refine eb_ (R_ (cs := ltrA x) rfl) rfl rfl fun b3=>?_
 refine eb_ (H_ tabOk rfl) rfl rfl fun b4=>?_
 refine q_ 1 rfl<|g_<|c_<|d_<|d_<|a_<|q_ 1 rfl<|b_ (l_ (C := st x.name) (i_ tabOk rfl rfl l1_ List.not_mem_nil rfl) rfl) rfl rfl<|s_ (iD_ (s := x.name)) Casts.refl (by kernel_rfl) rfl rfl rfl ?_
 refine ap_<|fun _=>b_ (aj_ rfl) rfl rfl<|g_<|c_<|X_ rfl ?_ ?_
 ·intro hc10
  have hnb : nameB x.name = false := by simpa using hc10
  refine d_<|a_<|b_ (D_ tabOk rfl rfl rfl rfl) rfl rfl<|e_ (n_ (L' := (zabs [.int .i64 0, .int .i64 0, .slice none 0 0, .slice none 0 0])) tabOk rfl rfl rfl u0_ rfl (Nat.le_of_ble_eq_true rfl) rfl (by exact t_ rfl)) rfl rfl ?_
  refine q_ 1 rfl<|g_<|c_<|m_<|h_ nofun<|fC_ (rs := [.cell 4 30, .tmp 5]) rfl (RV.cell rfl (RV.cellA tabOk rfl rfl l0_ (by rfl)) (RV.tmp rfl RV.nil)) (Casts.cons (as_ (Casts.keep (Casts.keep (Casts.nils (s := 6) (Casts.nils (s := 3) Casts.refl))))) Casts.refl) (()) sn_ ?_
  unfold Lg.with_
  rw [if_pos hnb]
  rfl
 intro hc10
 have hnb : ¬ nameB x.name = false := by simpa using hc10
 refine p_<|c_<|d_<|a_<|b_ (l_ (C := .agg l.abs) (x_ tabOk rfl rfl rfl l2_ List.not_mem_nil (Nat.le_of_ble_eq_true rfl)) (congrArg Abs.agg rfl)) rfl rfl<|s_ (gR_ hf) Casts.refl (by kernel_rfl) rfl rfl rfl ?_
 refine ap_<|fun _=>eb_ (H_ tabOk rfl) rfl rfl fun b6=>?_
 refine e_ (n_ (L' := l.abs) tabOk rfl rfl rfl u0_ rfl (Nat.le_of_ble_eq_true rfl) rfl (by exact t_ rfl)) rfl rfl ?_
 refine g_<|c_<|d_<|d_<|a_<|q_ 1 rfl<|b_ (l_ (C := ltrsA l.ls) (i_ tabOk rfl rfl l3_ List.not_mem_nil rfl) rfl) rfl rfl<|b_ (U_ tabOk rfl rfl rfl l2_ List.not_mem_nil rfl) rfl rfl<|s_ (put_ltr (xs := l.ls) (x := x) (by omega)) Casts.refl (by kernel_rfl) rfl rfl rfl ?_
 refine ap_<|fun _=>q_ 1 rfl<|e_ (n_ (L' := (l.putL x).abs) tabOk rfl rfl rfl u0_ rfl (Nat.le_of_ble_eq_true rfl) rfl rfl) rfl rfl<|g_<|c_<|d_<|a_<|q_ 1 rfl<|b_ (l_ (C := ltrsA (l.putL x).ls) (i_ tabOk rfl rfl l0_ List.not_mem_nil rfl) rfl) rfl rfl<|b_ (B_ rfl Tryz.underlying27 (List.length_map _)) rfl rfl<|q_ 1 rfl<|g_<|c_<|o_ rfl ?_ ?_
 ·intro hc22
  refine d_<|a_<|b_ (D_ tabOk rfl rfl rfl rfl) rfl rfl<|e_ (n_ (L' := (zabs [.int .i64 0, .int .i64 0, .slice none 0 0, .slice none 0 0])) tabOk rfl rfl rfl u1_ rfl (Nat.le_of_ble_eq_true rfl) rfl (by exact t_ rfl)) rfl rfl ?_
  refine q_ 1 rfl<|g_<|c_<|m_<|h_ nofun<|fC_ (rs := [.cell 4 30, .tmp 5]) rfl (RV.cell rfl (RV.cellA tabOk rfl rfl l1_ (by rfl)) (RV.tmp rfl RV.nil)) (Casts.cons (as_ (Casts.keep (Casts.keep (Casts.nils (s := 6) (Casts.nils (s := 3) Casts.refl))))) Casts.refl) (()) sn_ ?_
  unfold Lg.with_
  rw [if_neg hnb, if_pos (by omega)]
  rfl
 intro hc22
 refine p_<|c_<|d_<|a_<|b_ (l_ (C := .agg (l.putL x).abs) (x_ tabOk rfl rfl rfl l0_ List.not_mem_nil (Nat.le_of_ble_eq_true rfl)) (congrArg Abs.agg rfl)) rfl rfl<|e_ (n_ (L' := (l.putL x).abs) tabOk rfl rfl rfl u1_ rfl (Nat.le_of_ble_eq_true rfl) rfl (by exact t_ rfl)) rfl rfl ?_
 refine q_ 1 rfl<|g_<|c_<|m_<|f_ (rs := [.cell 4 30, .tmp 5]) rfl (RV.cell rfl (RV.cellA tabOk rfl rfl l1_ (by rfl)) (RV.tmp rfl RV.nil)) (()) sn_ ?_
 unfold Lg.with_
 rw [if_neg hnb, if_neg (by omega)]
 rfl
theorem iA_ (hf : l.Few) : Spec Tryz.prog 40 [.agg l.abs, coreA c] [] (fun _ : Unit => []) (fun _ => boo (l.stale c)) := by
 refine F_ Tryz.func40 rfl Tryz.ntmps40 rfl fun G w =>d_<|a_<|eb_ (R_ (cs := l.abs) rfl) rfl rfl fun b2=>?_
 refine eb_ (R_ (cs := c.cells.map .v) rfl) rfl rfl fun b3=>?_
 refine q_ 1 rfl<|g_<|c_<|d_<|a_<|b_ (l_ (C := .agg l.abs) (x_ tabOk rfl rfl rfl l1_ List.not_mem_nil (Nat.le_of_ble_eq_true rfl)) (congrArg Abs.agg rfl)) rfl rfl<|q_ 1 rfl<|b_ (i_ tabOk rfl rfl l0_ List.not_mem_nil rfl) rfl rfl<|s_ (kr_ (k := c.client) hf) Casts.refl (by kernel_rfl) rfl rfl rfl ?_
 refine ap_<|fun _=>q_ 3 rfl<|eb_ (H_ tabOk rfl) rfl rfl fun b5=>?_
 refine e_ (n_ (L' := ((l.last c.client).getD Oc.zero).abs) tabOk rfl rfl rfl u0_ rfl (Nat.le_of_ble_eq_true rfl) rfl (by exact t_ rfl)) rfl rfl ?_
 refine q_ 1 rfl<|g_<|c_<|d_<|a_<|q_ 2 rfl<|aL_ (t := 15) rfl ?_ ?_
 ·intro hc15
  refine q_ 1 rfl<|b_ (i_ tabOk rfl rfl l1_ List.not_mem_nil rfl) rfl rfl<|q_ 1 rfl<|b_ (i_ tabOk rfl rfl l0_ List.not_mem_nil rfl) rfl rfl<|q_ 3 rfl<|g_<|c_<|m_<|f_ (rs := [.tmp 4]) rfl (RV.tmp rfl RV.nil) (()) sn_ ?_
  unfold Lg.stale
  cases hl : l.last c.client with
  | none => rw [hl] at hc15; cases hc15
  | some o9 => rw [hl] at hc15; rfl
 intro hc15
 refine q_ 7 rfl<|g_<|c_<|m_<|f_ (rs := [.tmp 4]) rfl (RV.tmp rfl RV.nil) (()) sn_ ?_
 unfold Lg.stale
 cases hl : l.last c.client with
 | none => rw [hl] at hc15; rfl
 | some o9 => rw [hl] at hc15; cases hc15
end
section
variable {l wd : Txt} {odd : Bool} {p : Nat} {es er : Value}
set_option maxHeartbeats 4000000 in
theorem tnum_s (he : isIf es) (hr : isIf er) (hl : l.length ≤ 100000) : Spec Tryz.prog 138 [ptr p] (.blk p 158 (psA (l) odd) :: globs es er) (fun _ : Unit => [.blk p 158 (psA (numL l) (numO l odd))]) (fun _ => int (numV l)) := by
 have hbl := aS_ l
 have hdl := f9_ (bare l)
 refine F_ Tryz.func138 rfl Tryz.ntmps138 rfl fun G w =>d_<|a_<|q_ 1 rfl<|g_<|c_<|d_<|a_<|q_ 1 rfl<|s_ (ge_ (p := p) (l := l) (odd := odd)) Casts.refl (by kernel_rfl) rfl rfl rfl ?_
 refine A_ rfl i0_ (fun _ => rfl)<|fun _=>⟨_, u0_, g_<|c_<|d_<|a_<|q_ 3 rfl<|b_ (i_ tabOk rfl rfl l0_ List.not_mem_nil rfl) rfl rfl<|b_ (l_ (C := int (((bare l).length : Nat) : Int)) (ao_ rfl Tryz.underlying9) rfl) rfl rfl<|q_ 1 rfl<|g_<|c_<|a1_ (ι := Unit) (fun z => (.blk p 158 (psA (bare l) odd) :: globs es er)) (fun z => [(0, ptr p), (3, int ((digs (bare l)).length : Nat))]) (fun z => True) ?_ ?_⟩
 ·skip
  refine d_<|a_<|q_ 3 rfl<|b_ (i_ tabOk rfl rfl l0_ List.not_mem_nil rfl) rfl rfl<|eb_ (hm_ rfl Tryz.underlying9) rfl rfl fun b20=>?_
  refine g_<|c_<|y_<|ae_ (ι := Nat) (fun z => .pc (iterPc b20 ⟨(bare l).toArray⟩ z) :: (.blk p 158 (psA (bare l) odd) :: globs es er)) (fun z => [(0, ptr p), (3, int ((bare l).length : Nat)), (20, ptr b20)]) (fun z => z ≤ (bare l).length ∧ ∀ j (hj : j < (bare l).length), j < z → isDig (bare l)[j] = true) (fun z => (bare l).length - z) (0) (⟨Nat.zero_le _, fun j _ h => absurd h (by omega)⟩) (by exact ⟨rfl, rfl, rfl, trivial⟩) sr_ ?_
  intro z hz
  refine d_<|a_<|jI_ rfl i0_ rfl rfl ?_ ?_
  rotate_left
  ·intro hnx
   refine q_ 1 rfl<|g_<|c_<|d_<|ad_ rfl<|W_<|h_ nofun<|h_ nofun<|V_ ?_
   have hdz := ga_ (t := bare l) fun j hj => hz.2 j hj (by have h9 : ¬ z < (bare l).length := hnx; omega)
   refine ab_ (()) (trivial) (by exact ⟨rfl, congrArg (fun k : Nat => some (int (k : Nat))) hdz.symm, trivial⟩) (sk_ sr_)
  intro hnx
  refine ⟨_, u0_, ?_⟩
  have hd := eW_ ⟨(bare l).toArray⟩ z hnx
  have hz1 : z < (bare l).length := hnx
  have hb8 := ((bare l)[z]'hz1).toNat_lt
  have e1 : ((bare l)[z]'hz1).toNat < 128 → Utf8.decode (ByteArray.mk (bare l).toArray) z = (((bare l)[z]'hz1).toNat, 1) := fun h => decode_ascii ⟨(bare l).toArray⟩ z hnx h
  refine q_ 1 rfl<|g_<|c_<|d_<|M_ rfl<|p_<|c_<|y_<|d_<|a_<|q_ 4 rfl<|g_<|c_<|d_<|a_<|q_ 3 rfl<|z_ (t := 27) rfl ?_ ?_
  ·intro hc27
   refine q_ 3 rfl<|g_<|c_<|M_ rfl<|d_<|a_<|q_ 2 rfl<|g_<|c_<|W_<|dC_ rfl<|h_ nofun<|V_ ?_
   have hdn : ¬ isDig ((bare l)[z]'hz1) = true := by
    intro hdd
    have h3 := of_decide_eq_true (show decide (48 ≤ ((bare l)[z]'hz1).toNat ∧ ((bare l)[z]'hz1).toNat ≤ 57) = true from hdd)
    have e2 := e1 (by omega)
    (rw [e2] at hc27; dsimp only at hc27; omega)
   have hdz := dv_ hz1 hz.2 hdn
   refine ab_ (()) (trivial) (by exact ⟨rfl, congrArg (fun k : Nat => some (int (k : Nat))) hdz.symm, trivial⟩) (sk_ sr_)
  intro hc27
  refine q_ 3 rfl<|g_<|c_<|o_ rfl ?_ ?_
  rotate_left
  ·intro hc30
   refine p_<|u_ ?_
   have h128 : ((bare l)[z]'hz1).toNat < 128 := by
    rcases Nat.lt_or_ge ((bare l)[z]'hz1).toNat 128 with h | h
    ·exact h
    have h2 := hd (by show ¬ ((bare l)[z]'hz1).toNat < 128; omega)
    omega
   have e2 := e1 h128
   have hdd : isDig ((bare l)[z]'hz1) = true := decide_eq_true (by rw [e2] at hc27 hc30; dsimp only at hc27 hc30; omega)
   rw [e2]
   refine G_ (z + 1) (by omega) (⟨hz1, fun j hj h => by rcases Nat.lt_or_ge j z with h1 | h1; exact hz.2 j hj h1; obtain rfl : j = z := (by omega); exact hdd⟩) (by exact ⟨rfl, rfl, rfl, trivial⟩) sr_
  intro hc30
  refine d_<|a_<|q_ 2 rfl<|g_<|c_<|W_<|dC_ rfl<|h_ nofun<|V_ ?_
  have hdn : ¬ isDig ((bare l)[z]'hz1) = true := by
   intro hdd
   have h3 := of_decide_eq_true (show decide (48 ≤ ((bare l)[z]'hz1).toNat ∧ ((bare l)[z]'hz1).toNat ≤ 57) = true from hdd)
   have e2 := e1 (by omega)
   (rw [e2] at hc30; dsimp only at hc30; omega)
  have hdz := dv_ hz1 hz.2 hdn
  refine ab_ (()) (trivial) (by exact ⟨rfl, congrArg (fun k : Nat => some (int (k : Nat))) hdz.symm, trivial⟩) (sk_ sr_)
 intro z hz
 refine d_<|a_<|q_ 3 rfl<|b_ (i_ tabOk rfl rfl l0_ List.not_mem_nil rfl) rfl rfl<|q_ 1 rfl<|b_ (l_ (C := stA (digs (bare l))) (ck_ (q := (digs (bare l)).length) Tryz.underlying9 rfl rfl rfl (by simp only [bo_]; omega)) ((st_hi _ _).trans (congrArg stA (em_ _)))) rfl rfl ?_
 refine q_ 1 rfl<|g_<|c_<|d_<|a_<|q_ 1 rfl<|s_ (atoi_s (l := (digs (bare l))) he hr (by omega)) Casts.refl (by kernel_rfl) rfl rfl rfl ?_
 refine ap_<|fun z9=>q_ 5 rfl<|g_<|c_<|d_<|d_<|a_<|q_ 1 rfl<|b_ (Val.neIf (c := atoiBad (digs (bare l))) Tryz.underlying192 rfl (atoi_bad z9.2)) rfl rfl<|q_ 1 rfl<|aL_ (t := 45) rfl ?_ ?_
 ·intro hc45
  refine q_ 9 rfl<|g_<|c_<|M_ rfl<|d_<|a_<|q_ 3 rfl<|e_ (n_ (L' := psA (bare l) true) tabOk rfl rfl rfl u0_ rfl (Nat.le_of_ble_eq_true rfl) rfl rfl) rfl rfl<|g_<|c_<|d_<|a_<|q_ 1 rfl<|g_<|c_<|m_<|h_ nofun ?_
  have hnn : numT (bare l) = none := by
   exact numT_bad hc45
  obtain ⟨e1, e2, e3⟩ := dp_ hnn odd
  refine f_ (rs := [.tmp 2]) rfl (RV.tmp rfl RV.nil) (()) (by rw [e1, e2]; repeat (first | exact List.nil_sublist _ | exact List.Sublist.refl _ | apply List.Sublist.cons_cons | apply List.Sublist.cons)) ?_
  rw [e3]
  rfl
 intro hc45
 refine q_ 4 rfl<|z_ (t := 49) rfl ?_ ?_
 ·intro hc49
  refine q_ 5 rfl<|g_<|c_<|M_ rfl<|d_<|a_<|q_ 3 rfl<|e_ (n_ (L' := psA (bare l) true) tabOk rfl rfl rfl u0_ rfl (Nat.le_of_ble_eq_true rfl) rfl rfl) rfl rfl<|g_<|c_<|d_<|a_<|q_ 1 rfl<|g_<|c_<|m_<|h_ nofun ?_
  have hnn : numT (bare l) = none := by
   exact kn_ (by omega)
  obtain ⟨e1, e2, e3⟩ := dp_ hnn odd
  refine f_ (rs := [.tmp 2]) rfl (RV.tmp rfl RV.nil) (()) (by rw [e1, e2]; repeat (first | exact List.nil_sublist _ | exact List.Sublist.refl _ | apply List.Sublist.cons_cons | apply List.Sublist.cons)) ?_
  rw [e3]
  rfl
 intro hc49
 have hgv := good_val z9.2 hc45 (by omega)
 refine q_ 1 rfl<|s_ (itoa_s (es := es) (er := er) (v := z9.1.1) (by rw [hgv.2]; have h9 := eX_ (digs (bare l)) (cP_ _); have h10 : 10 ^ (digs (bare l)).length ≤ 10 ^ 4 := Nat.pow_le_pow_right (by omega) (by omega); simp only [InR, lo, hi]; omega)) Casts.refl (by kernel_rfl) rfl rfl rfl ?_
 refine ap_<|fun _=>q_ 1 rfl<|b_ (l_ (C := boo (decide (¬ Lib.itoa z9.1.1 = (digs (bare l))))) (dO_ rfl rfl) (congrArg (fun b => Abs.v (Value.bool b)) (decide_eq_decide.2 (not_congr jf_)))) rfl rfl<|q_ 1 rfl<|g_<|c_<|o_ rfl ?_ ?_
 ·intro hc54
  refine d_<|a_<|q_ 3 rfl<|e_ (n_ (L' := psA (bare l) true) tabOk rfl rfl rfl u0_ rfl (Nat.le_of_ble_eq_true rfl) rfl rfl) rfl rfl<|g_<|c_<|d_<|a_<|q_ 1 rfl<|g_<|c_<|m_<|h_ nofun ?_
  have hnn : numT (bare l) = none := by
   exact jq_ hgv.1 (by rw [← hgv.2]; assumption)
  obtain ⟨e1, e2, e3⟩ := dp_ hnn odd
  refine f_ (rs := [.tmp 2]) rfl (RV.tmp rfl RV.nil) (()) (by rw [e1, e2]; repeat (first | exact List.nil_sublist _ | exact List.Sublist.refl _ | apply List.Sublist.cons_cons | apply List.Sublist.cons)) ?_
  rw [e3]
  rfl
 intro hc54
 refine p_<|c_<|d_<|a_<|q_ 4 rfl<|b_ (i_ tabOk rfl rfl l0_ List.not_mem_nil rfl) rfl rfl<|q_ 1 rfl<|b_ (l_ (C := stA ((bare l).drop (digs (bare l)).length)) (aG_ (q := (digs (bare l)).length) Tryz.underlying9 rfl rfl rfl (by simp only [bo_]; omega)) (eo_ _ _)) rfl rfl ?_
 refine q_ 2 rfl<|e_ (n_ (L' := psA ((bare l).drop (digs (bare l)).length) odd) tabOk rfl rfl rfl u0_ rfl (Nat.le_of_ble_eq_true rfl) rfl rfl) rfl rfl<|g_<|c_<|d_<|a_<|q_ 2 rfl<|g_<|c_<|m_ ?_
 have hi9 : Lib.itoa z9.1.1 = digs (bare l) := Classical.byContradiction fun h => hc54 h
 obtain ⟨e1, e2, e3⟩ := fW_ (numT_own hgv.1 (by omega) (by rw [← hgv.2]; exact hi9)) odd
 refine f_ (rs := [.tmp 2]) rfl (RV.tmp rfl RV.nil) (()) (by rw [e1, e2]; repeat (first | exact List.nil_sublist _ | exact List.Sublist.refl _ | apply List.Sublist.cons_cons | apply List.Sublist.cons)) ?_
 rw [e3, ← hgv.2]
 rfl
end
def PolR (k : Nat) (l : Txt) (odd : Bool) (z : Txt × Bool × Frm) : Prop :=
  z.1.length ≤ l.length ∧ (odd = true → z.2.1 = true) ∧ (odd = false → polT k l = none → z.2.1 = true) ∧ (odd = false → ∀ x, polT k l = some x → z.2.1 = false ∧ bare z.1 = bare x.2 ∧ z.2.2 = x.1)
def RowF (k : Nat) (l : Txt) (odd : Bool) (z : Txt × Bool × List Frm) : Prop :=
  z.1.length ≤ l.length ∧ (odd = true → z.2.1 = true) ∧ (odd = false → rowT (polT k) l = none → z.2.1 = true) ∧ (odd = false → ∀ x, rowT (polT k) l = some x → z.2.1 = false ∧ z.1 = x.2 ∧ z.2.2 = x.1)
structure RowI (k : Nat) (l : Txt) (odd : Bool) (z : Txt × Bool × List Frm) : Prop where
  len : z.1.length ≤ l.length
  few : z.2.2.length + (if z.2.1 = true then 0 else z.1.length + 1) ≤ l.length + 2
  off : odd = true → z.2.1 = true
  no : odd = false → z.2.1 = true → rowT (polT k) l = none
  go : odd = false → z.2.1 = false → ∃ F, z.1.length + 1 ≤ F ∧ rowT (polT k) l = rowL (polT k) F z.1 z.2.2
theorem b2_ {l wd : Txt} (h : begins (bare l) wd = true) : takeT l wd = (bare l).drop wd.length := if_pos h
theorem bV_ {l wd : Txt} (h : ¬ begins (bare l) wd = true) : takeT l wd = bare l := if_neg h
theorem bf_ (l wd : Txt) : (takeT l wd).length ≤ l.length := by
  have := aS_ l
  unfold takeT
  split
  · rw [List.length_drop]; omega
  · exact this
section
variable {k : Nat} {l : Txt} {odd : Bool} {z : Txt × Bool × List Frm} {y : Txt × Bool × Frm}
theorem RowI.start (h : begins (bare l) [40] = true) : RowI k l odd (takeT l [40], odd, []) := by
  have hl := bf_ l [40]
  refine ⟨hl, (by dsimp only; split <;> simp <;> omega), fun h => h, fun h1 h2 => (by simp only at h2; rw [h1] at h2; cases h2), fun _ _ => ⟨l.length + 1, (by simp only; omega), ?_⟩⟩
  unfold rowT
  rw [if_pos h, b2_ h]
  rfl
theorem RowI.odd_ (h : ¬ begins (bare l) [40] = true) : RowI k l odd (takeT l [40], true, []) := by
  have hl := bf_ l [40]
  exact ⟨hl, (by simp), fun _ => rfl, fun _ _ => if_neg h, fun _ h2 => (by cases h2)⟩
theorem RowI.done (h : RowI k l odd z) (ho : z.2.1 = true) : RowF k l odd z :=
  ⟨h.len, h.off, fun _ _ => ho, fun h1 x hx => (by rw [h.no h1 ho] at hx; cases hx)⟩
theorem RowI.step (h : RowI k l odd z) (ho : z.2.1 = false) (hy : PolR k z.1 z.2.1 y) :
    (begins (bare y.1) [41] = true → RowF k l odd (takeT y.1 [41], y.2.1, z.2.2 ++ [y.2.2])) ∧
    (¬ begins (bare y.1) [41] = true → begins (bare (takeT y.1 [41])) [44] = true → RowI k l odd (takeT (takeT y.1 [41]) [44], y.2.1, z.2.2 ++ [y.2.2]) ∧ (y.2.1 = true ∨ (takeT (takeT y.1 [41]) [44]).length < z.1.length)) ∧
    (¬ begins (bare y.1) [41] = true → ¬ begins (bare (takeT y.1 [41])) [44] = true → RowI k l odd (takeT (takeT y.1 [41]) [44], true, z.2.2 ++ [y.2.2])) := by
  obtain ⟨h1, h2, h3, h4⟩ := hy
  have hodd : odd = false := by
    cases odd with
    | true => have := h.off rfl; rw [ho] at this; cases this
    | false => rfl
  subst hodd
  obtain ⟨F, hF, hR⟩ := h.go rfl ho
  have hlen := h.len
  have hfew := h.few
  rw [ho] at hfew
  simp only [Bool.false_eq_true, if_false] at hfew
  have hb := aS_ y.1
  have t1 := bf_ y.1 [41]
  have t2 := bf_ (takeT y.1 [41]) [44]
  have hF1 : ∃ m, F = m + 1 := ⟨F - 1, (by omega)⟩
  obtain ⟨m, rfl⟩ := hF1
  cases hp : polT k z.1 with
  | none =>
    have hno := h3 ho hp
    have hR2 : rowT (polT k) l = none := by rw [hR]; unfold rowL; rw [hp]
    refine ⟨fun _ => ⟨(by simp only; omega), fun h => (by cases h), fun _ _ => hno, fun _ x hx => (by rw [hR2] at hx; cases hx)⟩, fun _ _ => ⟨⟨(by simp only; omega), ?_, fun h => (by cases h), fun _ _ => hR2, fun _ h9 => (by simp only at h9; rw [hno] at h9; cases h9)⟩, .inl hno⟩,
      fun _ _ => ⟨(by simp only; omega), ?_, fun h => (by cases h), fun _ _ => hR2, fun _ h9 => (by cases h9)⟩⟩
    · simp only [hno, if_true, List.length_append, List.length_singleton]; omega
    · simp only [if_true, List.length_append, List.length_singleton]; omega
  | some x =>
    obtain ⟨f, r⟩ := x
    obtain ⟨q1, q2, q3⟩ := h4 ho (f, r) hp
    have hs := b5_ k z.1 f r hp
    have hbr := aS_ r
    dsimp only at q2 q3
    have hR2 : rowL (polT k) (m + 1) z.1 z.2.2 = if begins (bare r) [41] = true then some (z.2.2 ++ [f], (bare r).drop 1) else if begins (bare r) [44] = true then rowL (polT k) m ((bare r).drop 1) (z.2.2 ++ [f]) else none := by
      conv => lhs; unfold rowL
      rw [hp]
    rw [hR2] at hR
    rw [q3, q1]
    rw [q2]
    refine ⟨fun hb1 => ?_, fun hb1 hb2 => ?_, fun hb1 hb2 => ?_⟩
    · have e : takeT y.1 [41] = (bare r).drop 1 := by rw [b2_ (by rw [q2]; exact hb1), q2]; rfl
      refine ⟨(by simp only; omega), fun h => (by cases h), fun _ hn => ?_, fun _ x hx => ?_⟩
      · rw [hR, if_pos hb1] at hn; cases hn
      · rw [hR, if_pos hb1] at hx
        cases hx
        exact ⟨rfl, e, rfl⟩
    · have e1 : takeT y.1 [41] = bare r := by rw [bV_ (by rw [q2]; exact hb1), q2]
      rw [e1, ba_] at hb2
      have hbl := a5_ hb2
      have e2 : takeT (takeT y.1 [41]) [44] = (bare r).drop 1 := by rw [e1, b2_ (by rw [ba_]; exact hb2), ba_]; rfl
      have hl2 : ((bare r).drop 1).length < z.1.length := by rw [List.length_drop]; omega
      refine ⟨⟨(by simp only; omega), ?_, fun h => (by cases h), fun _ h9 => (by cases h9), fun _ _ => ⟨m, ?_, ?_⟩⟩, .inr (by rw [e2]; exact hl2)⟩
      · simp only [Bool.false_eq_true, if_false, List.length_append, List.length_singleton, e2]; omega
      · simp only [e2]; omega
      · rw [hR, if_neg hb1, if_pos hb2, e2]
    · have e1 : takeT y.1 [41] = bare r := by rw [bV_ (by rw [q2]; exact hb1), q2]
      rw [e1, ba_] at hb2
      refine ⟨(by simp only; omega), ?_, fun h => (by cases h), fun _ _ => (by rw [hR, if_neg hb1, if_neg hb2]), fun _ h9 => (by cases h9)⟩
      simp only [if_true, List.length_append, List.length_singleton]; omega
end
/-! ### Policies -/
section
variable {k : Nat} {l : Txt} {odd : Bool} {y : Txt × Bool × Frm} {z : Txt × Bool × List Frm}
theorem PolR.deep : PolR 0 l odd (l, true, .mk 0 0 []) := ⟨Nat.le_refl _, fun _ => rfl, fun _ _ => rfl, fun _ x hx => (by cases hx)⟩
theorem PolR.was (h : odd = true) (f : Frm) : PolR k l odd (l, odd, f) := ⟨Nat.le_refl _, fun h => h, fun h2 => (by rw [h] at h2; cases h2), fun h2 => (by rw [h] at h2; cases h2)⟩
theorem PolR.all (h0 : odd = false) (hb : begins (bare l) [97, 108, 108] = true) (hz : RowF k (takeT l [97, 108, 108]) odd z) : PolR (k + 1) l odd (z.1, z.2.1, .mk 0 z.2.2.length z.2.2) := by
  obtain ⟨h1, h2, h3, h4⟩ := hz
  have ht := bf_ l [97, 108, 108]
  have e : polT (k + 1) l = (rowT (polT k) (takeT l [97, 108, 108])).map fun x => (.mk 0 x.1.length x.1, x.2) := by
    conv => lhs; unfold polT
    rw [if_pos hb, b2_ hb]
    rfl
  refine ⟨(by simp only; omega), fun h => (by rw [h0] at h; cases h), fun _ hn => ?_, fun _ x hx => ?_⟩
  · cases hr : rowT (polT k) (takeT l [97, 108, 108]) with
    | none => exact h3 h0 hr
    | some x => rw [e, hr] at hn; cases hn
  · cases hr : rowT (polT k) (takeT l [97, 108, 108]) with
    | none => rw [e, hr] at hx; cases hx
    | some q =>
      rw [e, hr] at hx
      cases hx
      obtain ⟨r1, r2, r3⟩ := h4 h0 q hr
      exact ⟨r1, (by simp only [r2]), (by simp only [r3])⟩
theorem PolR.any (h0 : odd = false) (ha : ¬ begins (bare l) [97, 108, 108] = true) (hb : begins (bare l) [97, 110, 121] = true) (hz : RowF k (takeT (takeT l [97, 108, 108]) [97, 110, 121]) odd z) : PolR (k + 1) l odd (z.1, z.2.1, .mk 0 1 z.2.2) := by
  obtain ⟨h1, h2, h3, h4⟩ := hz
  have ht := bf_ (takeT l [97, 108, 108]) [97, 110, 121]
  have ht2 := bf_ l [97, 108, 108]
  have e0 : takeT l [97, 108, 108] = bare l := bV_ ha
  have e1 : takeT (takeT l [97, 108, 108]) [97, 110, 121] = (bare l).drop 3 := by
    rw [e0, b2_ (by rw [ba_]; exact hb), ba_]
    rfl
  have e : polT (k + 1) l = (rowT (polT k) (takeT (takeT l [97, 108, 108]) [97, 110, 121])).map fun x => (.mk 0 1 x.1, x.2) := by
    conv => lhs; unfold polT
    rw [if_neg ha, if_pos hb, e1]
  refine ⟨(by simp only; omega), fun h => (by rw [h0] at h; cases h), fun _ hn => ?_, fun _ x hx => ?_⟩
  · cases hr : rowT (polT k) (takeT (takeT l [97, 108, 108]) [97, 110, 121]) with
    | none => exact h3 h0 hr
    | some x => rw [e, hr] at hn; cases hn
  · cases hr : rowT (polT k) (takeT (takeT l [97, 108, 108]) [97, 110, 121]) with
    | none => rw [e, hr] at hx; cases hx
    | some q =>
      rw [e, hr] at hx
      cases hx
      obtain ⟨r1, r2, r3⟩ := h4 h0 q hr
      exact ⟨r1, (by simp only [r2]), (by simp only [r3])⟩
theorem two_no (ha : ¬ begins (bare l) [97, 108, 108] = true) (hb : ¬ begins (bare (takeT l [97, 108, 108])) [97, 110, 121] = true) : takeT (takeT l [97, 108, 108]) [97, 110, 121] = bare l := by
  rw [bV_ hb, bV_ ha, ba_]
theorem eG_ (l : Txt) (odd : Bool) : numL (bare l) = numL l ∧ numO (bare l) odd = numO l odd ∧ numV (bare l) = numV l := by
  unfold numL numO numV
  rw [ba_]
  exact ⟨rfl, rfl, rfl⟩
theorem fX_ (l : Txt) : (numL l).length ≤ l.length := by
  have hb := aS_ l
  unfold numL
  cases h : numT (bare l) with
  | none => exact hb
  | some x =>
    have := cK_ (v := x.1) (r := x.2) h
    show x.2.length ≤ _
    omega
theorem eD_ (ha : ¬ begins (bare l) [97, 108, 108] = true) (hb : ¬ begins (bare l) [97, 110, 121] = true) : polT (k + 1) l = match numT (bare l) with
    | none => none
    | some (v, r) => if begins (bare r) [111, 102] = true then (if 1 ≤ v ∧ v ≤ 99 then (rowT (polT k) ((bare r).drop 2)).map fun x => (.mk 0 v x.1, x.2) else none) else some (.mk v 0 [], r) := by
  conv => lhs; unfold polT
  rw [if_neg ha, if_neg hb]
  cases numT (bare l) with
  | none => rfl
  | some x => obtain ⟨v, r⟩ := x; rfl
theorem PolR.org (h0 : odd = false) (ha : ¬ begins (bare l) [97, 108, 108] = true) (hb : ¬ begins (bare l) [97, 110, 121] = true) (hn : ¬ (numO l odd = false ∧ begins (bare (numL l)) [111, 102] = true)) (t : Txt) (ht : t = numL l ∨ t = bare (numL l)) :
    PolR (k + 1) l odd (t, numO l odd, .mk (numV l) 0 []) := by
  have e := eD_ (k := k) ha hb
  have hl := fX_ l
  have hbl := aS_ (numL l)
  have htl : t.length ≤ l.length := by rcases ht with rfl | rfl <;> omega
  have htb : bare t = bare (numL l) := by
    rcases ht with rfl | rfl
    · rfl
    · rw [ba_]
  cases hq : numT (bare l) with
  | none =>
    rw [hq] at e
    obtain ⟨q1, q2, q3⟩ := dp_ hq odd
    exact ⟨htl, fun h => (by rw [h0] at h; cases h), fun _ _ => q2, fun _ x hx => (by rw [e] at hx; cases hx)⟩
  | some x =>
    obtain ⟨v, r⟩ := x
    rw [hq] at e
    obtain ⟨q1, q2, q3⟩ := fW_ hq odd
    rw [q1, q2] at hn
    have hof : ¬ begins (bare r) [111, 102] = true := fun h => hn ⟨h0, h⟩
    dsimp only at e
    rw [if_neg hof] at e
    refine ⟨htl, fun h => (by rw [h0] at h; cases h), fun _ h => (by rw [e] at h; cases h), fun _ x hx => ?_⟩
    rw [e] at hx
    cases hx
    exact ⟨q2.trans h0, (by rw [htb, q1]), (by rw [q3])⟩
theorem PolR.of (h0 : odd = false) (ha : ¬ begins (bare l) [97, 108, 108] = true) (hb : ¬ begins (bare l) [97, 110, 121] = true) (hq : numO l odd = false) (hof : begins (bare (numL l)) [111, 102] = true) {o2 : Bool} (ho : o2 = (numO l odd || decide (numV l < 1 ∨ 99 < numV l)))
    (hz : RowF k (takeT (numL l) [111, 102]) o2 z) : PolR (k + 1) l odd (z.1, z.2.1, .mk 0 (numV l) z.2.2) := by
  have e := eD_ (k := k) ha hb
  have hl := fX_ l
  have ht := bf_ (numL l) [111, 102]
  obtain ⟨h1, h2, h3, h4⟩ := hz
  cases hn : numT (bare l) with
  | none =>
    have := (dp_ hn odd).2.1
    rw [hq] at this
    cases this
  | some x =>
    obtain ⟨v, r⟩ := x
    rw [hn] at e
    obtain ⟨q1, q2, q3⟩ := fW_ hn odd
    rw [q1] at hof hl ht h1 h3 h4
    rw [hq, q3, Bool.false_or] at ho
    dsimp only at e
    rw [if_pos hof] at e
    have e2 : takeT r [111, 102] = (bare r).drop 2 := b2_ hof
    rw [e2] at h3 h4
    by_cases hv : 1 ≤ v ∧ v ≤ 99
    · rw [if_pos hv] at e
      have ho2 : o2 = false := by rw [ho]; exact decide_eq_false (by omega)
      refine ⟨(by simp only; omega), fun h => (by rw [h0] at h; cases h), fun _ hn2 => ?_, fun _ x hx => ?_⟩
      · cases hr : rowT (polT k) ((bare r).drop 2) with
        | none => exact h3 ho2 hr
        | some x => rw [e, hr] at hn2; cases hn2
      · cases hr : rowT (polT k) ((bare r).drop 2) with
        | none => rw [e, hr] at hx; cases hx
        | some q =>
          rw [e, hr] at hx
          cases hx
          obtain ⟨r1, r2, r3⟩ := h4 ho2 q hr
          exact ⟨r1, (by simp only [r2]), (by simp only [r3, q3])⟩
    · rw [if_neg hv] at e
      have ho2 : o2 = true := by rw [ho]; exact decide_eq_true (by omega)
      exact ⟨(by simp only; omega), fun h => (by rw [h0] at h; cases h), fun _ _ => h2 ho2, fun _ x hx => (by rw [e] at hx; cases hx)⟩
end
section
variable {l wd : Txt} {odd : Bool} {p : Nat} {es er : Value} {k : Nat} {d : Int}
theorem ij_ {o o2 : Bool} {a b : Nat} (ho : o = false) (h : o2 = true ∨ a < b) : (if o2 = true then 0 else a + 1) < if o = true then 0 else b + 1 := by
  subst ho
  rcases h with rfl | h
  · simp
  · simp only [Bool.false_eq_true, if_false]
    split <;> omega
theorem pol0_s (hl : l.length ≤ 1000) : Spec Tryz.prog 118 [ptr p, int 11] (.blk p 158 (psA (l) odd) :: globs es er) (fun z : {z : Txt × Bool × Frm // PolR 0 l odd z} => [.blk p 158 (psA z.1.1 z.1.2.1)]) (fun z => .agg z.1.2.2.abs) := by
 refine F_ Tryz.func118 rfl Tryz.ntmps118 rfl fun G w =>d_<|a_<|eb_ (H_ tabOk rfl) rfl rfl fun b4=>?_
 refine g_<|c_<|d_<|d_<|a_<|q_ 2 rfl<|g_<|c_<|o_ rfl ?_ (by intro hc8; exfalso; omega)
 intro hc8
 refine a_<|q_ 3 rfl<|e_ (n_ (L' := psA l true) tabOk rfl rfl rfl u1_ rfl (Nat.le_of_ble_eq_true rfl) rfl rfl) rfl rfl<|g_<|c_<|d_<|d_<|a_<|q_ 3 rfl<|b_ (i_ tabOk rfl rfl l1_ List.not_mem_nil rfl) rfl rfl<|g_<|c_<|X_ rfl ?_ (by intro hc15; exfalso; cases hc15)
 intro hc15
 refine d_<|a_<|b_ (D_ tabOk rfl rfl rfl rfl) rfl rfl<|e_ (n_ tabOk rfl rfl rfl u0_ rfl (Nat.le_of_ble_eq_true rfl) rfl rfl) rfl rfl<|g_<|c_<|m_<|h_ nofun<|fC_ (rs := [.cell 4 130]) rfl (RV.cell rfl (RV.cellA tabOk rfl rfl l0_ (by rfl)) RV.nil) (Casts.cons (as_ (Casts.keep (Casts.keep (Casts.nils (s := 3) Casts.refl)))) Casts.refl) (⟨(l, true, .mk 0 0 []), PolR.deep⟩) (sk_ (sc_ sn_)) ?_
 rfl
set_option maxHeartbeats 1000000 in
theorem jO_ (he : isIf es) (hr : isIf er) (hd : 0 ≤ d ∧ d ≤ 100) (hp : ∀ (l : Txt) (odd : Bool), l.length ≤ 1000 → Spec Tryz.prog 118 [ptr p, int (d + 1)] (.blk p 158 (psA (l) odd) :: globs es er) (fun z : {z : Txt × Bool × Frm // PolR k l odd z} => [.blk p 158 (psA z.1.1 z.1.2.1)]) (fun z => .agg z.1.2.2.abs)) (hl : l.length ≤ 1000) : Spec Tryz.prog 137 [ptr p, int d] (.blk p 158 (psA (l) odd) :: globs es er) (fun z : {z : Txt × Bool × List Frm // RowF k l odd z} => [.blk p 158 (psA z.1.1 z.1.2.1)]) (fun z => .sl 3 (z.1.2.2.map Frm.abs)) := by
 refine F_ Tryz.func137 rfl Tryz.ntmps137 rfl fun G w =>d_<|a_<|q_ 1 rfl<|g_<|c_<|a1_ (ι := Txt × Bool) (fun z => (.blk p 158 (psA (z.1) z.2) :: globs es er)) (fun z => [(0, ptr p), (1, int d)]) (fun z => RowI k l odd (z.1, z.2, [])) ?_ ?_
 ·skip
  refine d_<|a_<|q_ 1 rfl<|s_ (e8_ (p := p) (l := l) (odd := odd) (wd := [40])) Casts.refl (by kernel_rfl) rfl rfl rfl ?_
  refine A_ rfl i0_ (fun _ => rfl)<|fun _=>⟨_, u0_, b_ (aj_ rfl) rfl rfl<|g_<|c_<|X_ rfl ?_ ?_⟩
  rotate_left
  ·intro hc8
   refine p_<|ab_ (takeT l [40], odd) (RowI.start (by simpa using hc8)) (by exact ⟨rfl, rfl, trivial⟩) sr_
  intro hc8
  refine a_<|q_ 3 rfl<|e_ (n_ (L' := psA (takeT l [40]) true) tabOk rfl rfl rfl u0_ rfl (Nat.le_of_ble_eq_true rfl) rfl rfl) rfl rfl<|g_<|ab_ (takeT l [40], true) (RowI.odd_ (by simpa using hc8)) (by exact ⟨rfl, rfl, trivial⟩) sr_
 intro z hz
 refine d_<|a_<|q_ 1 rfl<|g_<|c_<|d_<|y_<|br_ 130 3<|ae_ (ι := Txt × Bool × List Frm × Value) (fun z => own 130 3 z.2.2.2 (z.2.2.1.map Frm.abs) :: (.blk p 158 (psA (z.1) z.2.1) :: globs es er)) (fun z => [(0, ptr p), (1, int d), (5, .v z.2.2.2)]) (fun z => RowI k l odd (z.1, z.2.1, z.2.2.1)) (fun z => if z.2.1 = true then 0 else z.1.length + 1) (z.1, z.2, [], .slice none 0 0) (hz) (by exact ⟨rfl, rfl, rfl, trivial⟩) sr_ ?_
 intro z hz
 refine d_<|d_<|a_<|q_ 3 rfl<|b_ (i_ tabOk rfl rfl l1_ List.not_mem_nil rfl) rfl rfl<|b_ (aj_ rfl) rfl rfl<|g_<|c_<|X_ rfl ?_ ?_
 rotate_left
 ·intro hc16
  have hod : z.2.1 = true := by simpa using hc16
  exact W_<|h_ nofun<|h_ nofun<|V_<|c_<|d_<|a_<|q_ 2 rfl<|g_<|c_<|m_<|bi_ [] (t := 4) rfl rfl<|f_ (rs := [.tmp 4]) rfl (RV.tmp rfl RV.nil) (⟨(z.1, z.2.1, z.2.2.1), hz.done hod⟩) (sc_ sn_)<|rfl
 intro hc16
 have hod : z.2.1 = false := by simpa using hc16
 have hzl : z.1.length ≤ l.length := hz.len
 have hzf : z.2.2.1.length ≤ l.length + 2 := Nat.le_trans (Nat.le_add_right _ _) hz.few
 refine p_<|c_<|y_<|d_<|a_<|q_ 3 rfl<|b_ (C_ rfl rfl (by simp only [InR, lo, hi]; omega)) rfl rfl ?_
 refine s_ (hp z.1 z.2.1 (by omega)) Casts.refl (by kernel_rfl) rfl rfl rfl ?_
 refine bb_ (ys := globs es er) rfl i1_ (by intro y hy; simp only [globs, List.mem_cons, List.not_mem_nil, or_false] at hy; rcases hy with rfl | rfl | rfl <;> exact ⟨by repeat first|assumption|exact m0_|apply m1_, by intro h; cases h⟩) rfl (fun _ => rfl) ?_
 intro y
 refine ⟨_, u1_, e_ (T_ tabOk Tryz.underlying128 rfl rfl rfl (g1_ (Frm.abs_len _)) rfl rfl rfl) rfl rfl<|eb_ (L_ (zs := (z.2.2.1 ++ [y.1.2.2]).map Frm.abs) tabOk [] (by rw [List.map_append]; rfl) Tryz.underlying128 rfl rfl rfl rfl rfl rfl (by intro c hc; rw [List.mem_singleton] at hc; subst hc; exact Frm.abs_ones _) (by unfold maxLen; simp only [List.length_map, List.length_cons, List.length_nil]; omega) (by rw [show Tryz.prog.bytesOf 130 = 40 by kernel_rfl]; simp only [List.length_map, List.length_cons, List.length_nil]; omega)) rfl rfl fun r23=>?_⟩
 refine q_ 1 rfl<|g_<|c_<|d_<|d_<|a_<|q_ 1 rfl<|s_ (e8_ (p := p) (l := y.1.1) (odd := y.1.2.1) (wd := [41])) Casts.refl (by kernel_rfl) rfl rfl rfl ?_
 refine A_ rfl i1_ (fun _ => rfl)<|fun _=>⟨_, u1_, g_<|c_<|X_ rfl ?_ ?_⟩
 ·intro hc25
  exact W_<|h_ nofun<|dC_ rfl<|h_ nofun<|V_<|c_<|d_<|a_<|q_ 2 rfl<|g_<|c_<|m_<|bi_ [] (t := 4) rfl rfl<|f_ (rs := [.tmp 4]) rfl (RV.tmp rfl RV.nil) (⟨(takeT y.1.1 [41], y.1.2.1, z.2.2.1 ++ [y.1.2.2]), (hz.step hod y.2).1 hc25⟩) (sc_ sn_)<|rfl
 intro hc25
 refine p_<|c_<|d_<|a_<|q_ 1 rfl<|s_ (e8_ (p := p) (l := takeT y.1.1 [41]) (odd := y.1.2.1) (wd := [44])) Casts.refl (by kernel_rfl) rfl rfl rfl ?_
 refine A_ rfl i1_ (fun _ => rfl)<|fun _=>⟨_, u1_, b_ (aj_ rfl) rfl rfl<|g_<|c_<|X_ rfl ?_ ?_⟩
 rotate_left
 ·intro hc28
  refine p_<|u_ ?_
  have hst := (hz.step hod y.2).2.1 (by rw [hc25]; decide) (by simpa using hc28)
  refine G_ (takeT (takeT y.1.1 [41]) [44], y.1.2.1, z.2.2.1 ++ [y.1.2.2], r23) (ij_ hod hst.2) (hst.1) (by exact ⟨rfl, rfl, rfl, trivial⟩) sr_
 intro hc28
 refine a_<|q_ 3 rfl<|e_ (n_ (L' := psA (takeT (takeT y.1.1 [41]) [44]) true) tabOk rfl rfl rfl u1_ rfl (Nat.le_of_ble_eq_true rfl) rfl rfl) rfl rfl<|g_<|u_<|G_ (takeT (takeT y.1.1 [41]) [44], true, z.2.2.1 ++ [y.1.2.2], r23) (by simp [hod]) ((hz.step hod y.2).2.2 (by rw [hc25]; decide) (by simpa using hc28)) (by exact ⟨rfl, rfl, rfl, trivial⟩) sr_
set_option maxHeartbeats 2000000 in
theorem pol_step (he : isIf es) (hr : isIf er) (hd : 1 ≤ d ∧ d ≤ 10) (hp : ∀ (l : Txt) (odd : Bool), l.length ≤ 1000 → Spec Tryz.prog 118 [ptr p, int (d + 1)] (.blk p 158 (psA (l) odd) :: globs es er) (fun z : {z : Txt × Bool × Frm // PolR k l odd z} => [.blk p 158 (psA z.1.1 z.1.2.1)]) (fun z => .agg z.1.2.2.abs)) (hl : l.length ≤ 1000) : Spec Tryz.prog 118 [ptr p, int d] (.blk p 158 (psA (l) odd) :: globs es er) (fun z : {z : Txt × Bool × Frm // PolR (k + 1) l odd z} => [.blk p 158 (psA z.1.1 z.1.2.1)]) (fun z => .agg z.1.2.2.abs) := by
 have hbl := aS_ l
 have hl1 := bf_ l [97, 108, 108]
 have hl2 := bf_ (takeT l [97, 108, 108]) [97, 110, 121]
 have hl3 := fX_ l
 have hl4 := bf_ (numL l) [111, 102]
 refine F_ Tryz.func118 rfl Tryz.ntmps118 rfl fun G w =>d_<|a_<|eb_ (H_ tabOk rfl) rfl rfl fun b4=>?_
 refine g_<|c_<|d_<|d_<|a_<|q_ 2 rfl<|g_<|c_<|o_ rfl (by intro hc8; exfalso; omega) ?_
 intro hc8
 refine p_<|c_<|d_<|d_<|a_<|q_ 3 rfl<|b_ (i_ tabOk rfl rfl l1_ List.not_mem_nil rfl) rfl rfl<|g_<|c_<|X_ rfl ?_ ?_
 ·intro hc15
  refine d_<|a_<|b_ (D_ tabOk rfl rfl rfl rfl) rfl rfl<|e_ (n_ tabOk rfl rfl rfl u0_ rfl (Nat.le_of_ble_eq_true rfl) rfl rfl) rfl rfl<|g_<|c_<|m_<|h_ nofun<|fC_ (rs := [.cell 4 130]) rfl (RV.cell rfl (RV.cellA tabOk rfl rfl l0_ (by rfl)) RV.nil) (Casts.cons (as_ (Casts.keep (Casts.keep (Casts.nils (s := 3) Casts.refl)))) Casts.refl) (⟨(l, odd, .mk 0 0 []), PolR.was hc15 _⟩) (sk_ (sc_ sn_)) ?_
  rfl
 intro hc15
 refine p_<|c_<|d_<|y_<|d_<|a_<|q_ 1 rfl<|s_ (e8_ (p := p) (l := l) (odd := odd) (wd := [97, 108, 108])) Casts.refl (by kernel_rfl) rfl rfl rfl ?_
 refine A_ rfl i1_ (fun _ => rfl)<|fun _=>⟨_, u1_, q_ 1 rfl<|g_<|c_<|X_ rfl ?_ ?_⟩
 ·intro hc17
  refine d_<|a_<|q_ 2 rfl<|s_ (jO_ (p := p) (l := takeT l [97, 108, 108]) (odd := odd) he hr (by omega) hp (by omega)) Casts.refl (by kernel_rfl) rfl rfl rfl ?_
  refine bb_ (ys := globs es er) rfl i1_ (by intro y hy; simp only [globs, List.mem_cons, List.not_mem_nil, or_false] at hy; rcases hy with rfl | rfl | rfl <;> exact ⟨by repeat first|assumption|exact m0_|apply m1_, by intro h; cases h⟩) rfl (fun _ => rfl) ?_
  intro y
  refine ⟨_, u1_, q_ 1 rfl<|g_<|c_<|d_<|a_<|q_ 1 rfl<|b_ (B_ rfl Tryz.underlying128 (List.length_map _)) rfl rfl<|q_ 1 rfl<|b_ (D_ tabOk rfl rfl rfl rfl) rfl rfl<|e_ (n_ tabOk rfl rfl rfl u0_ rfl (Nat.le_of_ble_eq_true rfl) rfl rfl) rfl rfl<|g_<|c_<|m_<|E_<|h_ nofun<|f_ (rs := [.cell 4 130]) rfl (RV.cell rfl (RV.cellA tabOk rfl rfl l0_ (by rfl)) RV.nil) (⟨(y.1.1, y.1.2.1, .mk 0 y.1.2.2.length y.1.2.2), PolR.all hc15 hc17 y.2⟩) (sk_ (sc_ sn_)) ?_⟩
  exact congrArg Abs.agg (Frm.abs_mk _ _ _).symm
 intro hc17
 have ha : ¬ begins (bare l) [97, 108, 108] = true := by rw [hc17]; decide
 refine d_<|a_<|q_ 1 rfl<|s_ (e8_ (p := p) (l := takeT l [97, 108, 108]) (odd := odd) (wd := [97, 110, 121])) Casts.refl (by kernel_rfl) rfl rfl rfl ?_
 refine A_ rfl i1_ (fun _ => rfl)<|fun _=>⟨_, u1_, q_ 1 rfl<|g_<|c_<|X_ rfl ?_ ?_⟩
 ·intro hc27
  have hb : begins (bare l) [97, 110, 121] = true := by
   have h9 := hc27
   rw [bV_ ha, ba_] at h9
   exact h9
  refine d_<|a_<|q_ 2 rfl<|s_ (jO_ (p := p) (l := takeT (takeT l [97, 108, 108]) [97, 110, 121]) (odd := odd) he hr (by omega) hp (by omega)) Casts.refl (by kernel_rfl) rfl rfl rfl ?_
  refine bb_ (ys := globs es er) rfl i1_ (by intro y hy; simp only [globs, List.mem_cons, List.not_mem_nil, or_false] at hy; rcases hy with rfl | rfl | rfl <;> exact ⟨by repeat first|assumption|exact m0_|apply m1_, by intro h; cases h⟩) rfl (fun _ => rfl) ?_
  intro y
  refine ⟨_, u1_, b_ (D_ tabOk rfl rfl rfl rfl) rfl rfl<|e_ (n_ tabOk rfl rfl rfl u0_ rfl (Nat.le_of_ble_eq_true rfl) rfl rfl) rfl rfl<|g_<|c_<|m_<|E_<|h_ nofun<|f_ (rs := [.cell 4 130]) rfl (RV.cell rfl (RV.cellA tabOk rfl rfl l0_ (by rfl)) RV.nil) (⟨(y.1.1, y.1.2.1, .mk 0 1 y.1.2.2), PolR.any hc15 ha hb y.2⟩) (sk_ (sc_ sn_)) ?_⟩
  exact congrArg Abs.agg (Frm.abs_mk _ _ _).symm
 intro hc27
 have hb2 : ¬ begins (bare (takeT l [97, 108, 108])) [97, 110, 121] = true := by rw [hc27]; decide
 have hb : ¬ begins (bare l) [97, 110, 121] = true := by
  have h9 := hb2
  rw [bV_ ha, ba_] at h9
  exact h9
 rw [two_no ha hb2]
 refine p_<|u_<|c_<|d_<|a_<|q_ 1 rfl<|s_ (tnum_s (p := p) (l := bare l) (odd := odd) he hr (by omega)) Casts.refl (by kernel_rfl) rfl rfl rfl ?_
 refine bb_ (ys := globs es er) rfl i1_ (by intro y hy; simp only [globs, List.mem_cons, List.not_mem_nil, or_false] at hy; rcases hy with rfl | rfl | rfl <;> exact ⟨by repeat first|assumption|exact m0_|apply m1_, by intro h; cases h⟩) rfl (fun _ => rfl) ?_
 intro _
 refine ⟨_, u1_, ?_⟩
 rw [(eG_ l odd).1, (eG_ l odd).2.1, (eG_ l odd).2.2]
 refine q_ 1 rfl<|g_<|c_<|d_<|d_<|a_<|q_ 3 rfl<|b_ (i_ tabOk rfl rfl l1_ List.not_mem_nil rfl) rfl rfl<|q_ 1 rfl<|aL_ (t := 40) rfl ?_ ?_
 ·intro hc40
  refine q_ 4 rfl<|g_<|c_<|M_ rfl<|d_<|a_<|q_ 1 rfl<|b_ (D_ tabOk rfl rfl rfl rfl) rfl rfl<|e_ (n_ tabOk rfl rfl rfl u0_ rfl (Nat.le_of_ble_eq_true rfl) rfl rfl) rfl rfl<|g_<|c_<|m_<|h_ nofun<|fC_ (rs := [.cell 4 130]) rfl (RV.cell rfl (RV.cellA tabOk rfl rfl l0_ (by rfl)) RV.nil) (Casts.cons (as_ (Casts.keep (Casts.keep (Casts.nils (s := 3) Casts.refl)))) Casts.refl) (⟨(numL l, numO l odd, .mk (numV l) 0 []), PolR.org hc15 ha hb (fun h => by rw [hc40] at h; cases h.1) _ (.inl rfl)⟩) (sk_ (sc_ sn_)) ?_
  rfl
 intro hc40
 refine q_ 1 rfl<|s_ (e8_ (p := p) (l := numL l) (odd := numO l odd) (wd := [111, 102])) Casts.refl (by kernel_rfl) rfl rfl rfl ?_
 refine A_ rfl i1_ (fun _ => rfl)<|fun _=>⟨_, u1_, b_ (aj_ rfl) rfl rfl<|q_ 1 rfl<|g_<|c_<|X_ rfl ?_ ?_⟩
 ·intro hc44
  have hof : ¬ begins (bare (numL l)) [111, 102] = true := by simpa using hc44
  refine d_<|a_<|q_ 1 rfl<|b_ (D_ tabOk rfl rfl rfl rfl) rfl rfl<|e_ (n_ tabOk rfl rfl rfl u0_ rfl (Nat.le_of_ble_eq_true rfl) rfl rfl) rfl rfl<|g_<|c_<|m_<|h_ nofun<|fC_ (rs := [.cell 4 130]) rfl (RV.cell rfl (RV.cellA tabOk rfl rfl l0_ (by rfl)) RV.nil) (Casts.cons (as_ (Casts.keep (Casts.keep (Casts.nils (s := 3) Casts.refl)))) Casts.refl) (⟨(takeT (numL l) [111, 102], numO l odd, .mk (numV l) 0 []), PolR.org hc15 ha hb (fun h => hof h.2) _ (.inr (bV_ hof))⟩) (sk_ (sc_ sn_)) ?_
  rfl
 intro hc44
 have hof : begins (bare (numL l)) [111, 102] = true := by simpa using hc44
 refine p_<|c_<|a1_ (ι := Bool) (fun z => (.blk b4 130 (zabs [.int .i64 0, .int .i64 0, .slice none 0 0]) :: (.blk p 158 (psA (takeT (numL l) [111, 102]) z) :: globs es er))) (fun z => [(0, ptr p), (1, int d), (4, ptr b4), (6, int (numV l))]) (fun z => z = (numO l odd || decide (numV l < 1 ∨ 99 < numV l))) ?_ ?_
 ·skip
  refine d_<|a_<|q_ 3 rfl<|z_ (t := 49) rfl ?_ ?_
  ·intro hc49
   refine q_ 3 rfl<|g_<|c_<|M_ rfl<|a_<|q_ 3 rfl<|e_ (n_ (L' := psA (takeT (numL l) [111, 102]) true) tabOk rfl rfl rfl u1_ rfl (Nat.le_of_ble_eq_true rfl) rfl rfl) rfl rfl<|g_<|ab_ (true) (by rw [decide_eq_true (show numV l < 1 ∨ 99 < numV l by omega), Bool.or_true]) (by exact ⟨rfl, rfl, rfl, rfl, trivial⟩) sr_
  intro hc49
  refine q_ 3 rfl<|g_<|c_<|o_ rfl ?_ ?_
  rotate_left
  ·intro hc52
   refine p_<|ab_ (numO l odd) (by rw [decide_eq_false (show ¬ (numV l < 1 ∨ 99 < numV l) by omega), Bool.or_false]) (by exact ⟨rfl, rfl, rfl, rfl, trivial⟩) sr_
  intro hc52
  refine a_<|q_ 3 rfl<|e_ (n_ (L' := psA (takeT (numL l) [111, 102]) true) tabOk rfl rfl rfl u1_ rfl (Nat.le_of_ble_eq_true rfl) rfl rfl) rfl rfl<|g_<|ab_ (true) (by rw [decide_eq_true (show numV l < 1 ∨ 99 < numV l by omega), Bool.or_true]) (by exact ⟨rfl, rfl, rfl, rfl, trivial⟩) sr_
 intro z hz
 refine d_<|a_<|q_ 3 rfl<|s_ (jO_ (p := p) (l := takeT (numL l) [111, 102]) (odd := z) he hr (by omega) hp (by omega)) Casts.refl (by kernel_rfl) rfl rfl rfl ?_
 refine bb_ (ys := globs es er) rfl i1_ (by intro y hy; simp only [globs, List.mem_cons, List.not_mem_nil, or_false] at hy; rcases hy with rfl | rfl | rfl <;> exact ⟨by repeat first|assumption|exact m0_|apply m1_, by intro h; cases h⟩) rfl (fun _ => rfl) ?_
 intro y
 refine ⟨_, u1_, b_ (D_ tabOk rfl rfl rfl rfl) rfl rfl<|e_ (n_ tabOk rfl rfl rfl u0_ rfl (Nat.le_of_ble_eq_true rfl) rfl rfl) rfl rfl<|g_<|c_<|m_<|f_ (rs := [.cell 4 130]) rfl (RV.cell rfl (RV.cellA tabOk rfl rfl l0_ (by rfl)) RV.nil) (⟨(y.1.1, y.1.2.1, .mk 0 (numV l) y.1.2.2), PolR.of hc15 ha hb hc40 hof hz y.2⟩) (sk_ (sc_ sn_)) ?_⟩
 exact congrArg Abs.agg (Frm.abs_mk _ _ _).symm
theorem pol_s (he : isIf es) (hr : isIf er) : ∀ k : Nat, k ≤ 10 → ∀ (l : Txt) (odd : Bool), l.length ≤ 1000 → Spec Tryz.prog 118 [ptr p, int (11 - (k : Int))] (.blk p 158 (psA (l) odd) :: globs es er) (fun z : {z : Txt × Bool × Frm // PolR k l odd z} => [.blk p 158 (psA z.1.1 z.1.2.1)]) (fun z => .agg z.1.2.2.abs)
  | 0, _, l, odd, hl => pol0_s (p := p) (es := es) (er := er) (odd := odd) hl
  | k + 1, hk, l, odd, hl => pol_step he hr (by omega) (by
      rw [show (11 - ((k + 1 : Nat) : Int)) + 1 = 11 - (k : Int) by omega]
      exact pol_s he hr k (by omega)) hl
end
theorem fb_ {p : Txt → Option (Frm × Txt)} (hp : ∀ t f r, p t = some (f, r) → f.nodes + r.length ≤ t.length) : ∀ (n : Nat) (t : Txt) (acc l : List Frm) (r : Txt), rowL p n t acc = some (l, r) → Frm.nodess l + r.length ≤ Frm.nodess acc + t.length
  | 0, t, acc, l, r, h => by cases h
  | n + 1, t, acc, l, r, h => by
    unfold rowL at h
    cases hq : p t with
    | none => rw [hq] at h; cases h
    | some x =>
      obtain ⟨f, r1⟩ := x
      rw [hq] at h
      have h1 := hp t f r1 hq
      have h2 := aS_ r1
      have h4 : Frm.nodess (acc ++ [f]) = Frm.nodess acc + f.nodes := by rw [Frm.nodess_app, Frm.nodess_one]
      dsimp only at h
      split at h
      · cases h
        rw [List.length_drop]
        omega
      · split at h
        · have h3 := fb_ hp n _ _ _ _ h
          rw [List.length_drop] at h3
          omega
        · cases h
theorem dI_ {p : Txt → Option (Frm × Txt)} (hp : ∀ t f r, p t = some (f, r) → f.nodes + r.length ≤ t.length) {t : Txt} {l : List Frm} {r : Txt} (h : rowT p t = some (l, r)) : Frm.nodess l + r.length + 1 ≤ t.length := by
  unfold rowT at h
  split at h
  · next hb =>
    have h1 := fb_ hp _ _ _ _ _ h
    have h2 := aS_ t
    have h3 := a5_ hb
    have h4 : Frm.nodess [] = 0 := rfl
    simp only [List.length_singleton] at h3
    rw [List.length_drop] at h1
    omega
  · cases h
theorem b6_ : ∀ k t f r, polT k t = some (f, r) → f.nodes + r.length ≤ t.length
  | 0, t, f, r, h => by cases h
  | k + 1, t, f, r, h => by
    have hb := aS_ t
    have hnn : Frm.nodess [] = 0 := rfl
    unfold polT at h
    split at h
    · next hs =>
      have hs3 := a5_ hs
      simp only [List.length_cons, List.length_nil] at hs3
      cases hr : rowT (polT k) ((bare t).drop 3) with
      | none => rw [hr] at h; cases h
      | some x =>
        rw [hr] at h
        cases h
        have h1 := dI_ (b6_ k) hr
        rw [List.length_drop] at h1
        rw [Frm.nodes_mk]
        omega
    · split at h
      · next hs =>
        have hs3 := a5_ hs
        simp only [List.length_cons, List.length_nil] at hs3
        cases hr : rowT (polT k) ((bare t).drop 3) with
        | none => rw [hr] at h; cases h
        | some x =>
          rw [hr] at h
          cases h
          have h1 := dI_ (b6_ k) hr
          rw [List.length_drop] at h1
          rw [Frm.nodes_mk]
          omega
      · cases hn : numT (bare t) with
        | none => rw [hn] at h; cases h
        | some x =>
          obtain ⟨v, r1⟩ := x
          rw [hn] at h
          dsimp only at h
          have h1 := cK_ hn
          have h2 := aS_ r1
          split at h
          · split at h
            · cases hr : rowT (polT k) ((bare r1).drop 2) with
              | none => rw [hr] at h; cases h
              | some x =>
                rw [hr] at h
                cases h
                have h3 := dI_ (b6_ k) hr
                rw [List.length_drop] at h3
                rw [Frm.nodes_mk]
                omega
            · cases h
          · cases h
            rw [Frm.nodes_mk]
            omega
section
variable {l : Txt} {n : Int} {y : Txt × Bool × Frm}
theorem fj_ (h : 200 < l.length) : parseF l n = (.mk 0 0 [], 3) := if_pos h
theorem gC_ (h : ¬ 200 < l.length) (hy : PolR 10 l false y) (ho : y.2.1 = true ∨ ¬ bare y.1 = []) : parseF l n = (.mk 0 0 [], 2) := by
  obtain ⟨_, _, h3, h4⟩ := hy
  unfold parseF
  rw [if_neg h]
  cases hp : polT 10 l with
  | none => rfl
  | some x =>
    obtain ⟨f, r⟩ := x
    obtain ⟨q1, q2, q3⟩ := h4 rfl _ hp
    dsimp only at q2 ⊢
    rcases ho with ho | ho
    · rw [q1] at ho; cases ho
    · rw [← q2, if_pos ho]
theorem kf_ (h : ¬ 200 < l.length) (hy : PolR 10 l false y) (ho : y.2.1 = false) (hb : bare y.1 = []) : y.2.2.nodes ≤ l.length ∧ parseF l n = if y.2.2.check n ≠ 0 then (.mk 0 0 [], y.2.2.check n) else (y.2.2, 0) := by
  obtain ⟨_, _, h3, h4⟩ := hy
  unfold parseF
  rw [if_neg h]
  cases hp : polT 10 l with
  | none => have := h3 rfl hp; rw [ho] at this; cases this
  | some x =>
    obtain ⟨f, r⟩ := x
    obtain ⟨q1, q2, q3⟩ := h4 rfl _ hp
    have hn := b6_ 10 l f r hp
    dsimp only at q2 q3 ⊢
    rw [q3]
    refine ⟨by omega, ?_⟩
    rw [if_neg (by rw [← q2, hb]; simp)]
end
section
variable {l wd : Txt} {odd : Bool} {p : Nat} {es er : Value} {n : Int}
theorem pol1_s (he : isIf es) (hr : isIf er) (hl : l.length ≤ 1000) : Spec Tryz.prog 118 [ptr p, int 1] (.blk p 158 (psA (l) odd) :: globs es er) (fun z : {z : Txt × Bool × Frm // PolR 10 l odd z} => [.blk p 158 (psA z.1.1 z.1.2.1)]) (fun z => .agg z.1.2.2.abs) := pol_s he hr 10 (Nat.le_refl _) l odd hl
set_option maxHeartbeats 2000000 in
theorem parse_s (he : isIf es) (hr : isIf er) : Spec Tryz.prog 100 [stA l, int n] (globs es er) (fun _ : Unit => []) (fun _ => .tup [.agg (parseF l n).1.abs, int (parseF l n).2]) := by
 refine F_ Tryz.func100 rfl Tryz.ntmps100 rfl fun G w =>d_<|a_<|eb_ (H_ tabOk rfl) rfl rfl fun b4=>?_
 refine q_ 1 rfl<|g_<|c_<|d_<|d_<|a_<|q_ 1 rfl<|b_ (l_ (C := int ((l.length : Nat) : Int)) (ao_ rfl Tryz.underlying9) rfl) rfl rfl<|q_ 1 rfl<|g_<|c_<|o_ rfl ?_ ?_
 ·intro hc11
  have hl2 : 200 < l.length := by omega
  refine d_<|a_<|b_ (D_ tabOk rfl rfl rfl rfl) rfl rfl<|e_ (n_ tabOk rfl rfl rfl u0_ rfl (Nat.le_of_ble_eq_true rfl) rfl rfl) rfl rfl<|q_ 1 rfl<|g_<|c_<|m_<|h_ nofun<|fC_ (rs := [.cell 4 130, .tmp 5]) rfl (RV.cell rfl (RV.cellA tabOk rfl rfl l0_ (by rfl)) (RV.tmp rfl RV.nil)) (Casts.cons (as_ (Casts.keep (Casts.keep (Casts.nils (s := 3) Casts.refl)))) Casts.refl) (()) sn_ ?_
  rw [fj_ hl2]
  rw [Frm.abs_mk]
  rfl
 intro hc11
 have hl2 : ¬ 200 < l.length := by omega
 refine p_<|c_<|d_<|a_<|q_ 1 rfl<|b_ (D_ tabOk rfl rfl rfl rfl) rfl rfl<|eb_ (R_ (cs := psA l false) rfl) rfl rfl fun b15=>?_
 refine q_ 1 rfl<|g_<|c_<|d_<|a_<|q_ 1 rfl<|s_ (pol1_s (p := b15) (l := l) (odd := false) he hr (by omega)) Casts.refl (by kernel_rfl) rfl rfl rfl ?_
 refine bb_ (ys := globs es er) rfl i0_ (by intro y hy; simp only [globs, List.mem_cons, List.not_mem_nil, or_false] at hy; rcases hy with rfl | rfl | rfl <;> exact ⟨by repeat first|assumption|exact m0_|apply m1_, by intro h; cases h⟩) rfl (fun _ => rfl) ?_
 intro y
 refine ⟨_, u0_, eb_ (H_ tabOk rfl) rfl rfl fun b7=>?_⟩
 refine e_ (n_ (L' := y.1.2.2.abs) tabOk rfl rfl rfl u0_ (by exact Frm.abs_len _) (Nat.le_of_ble_eq_true rfl) (by exact Frm.abs_ones _) (t_ (by exact Frm.abs_len _))) rfl rfl ?_
 refine g_<|c_<|d_<|d_<|a_<|q_ 1 rfl<|s_ (ge_ (p := b15) (l := y.1.1) (odd := y.1.2.1)) Casts.refl (by kernel_rfl) rfl rfl rfl ?_
 refine A_ rfl i1_ (fun _ => rfl)<|fun _=>⟨_, u1_, g_<|c_<|d_<|a_<|q_ 3 rfl<|b_ (i_ tabOk rfl rfl l1_ List.not_mem_nil rfl) rfl rfl<|q_ 1 rfl<|aL_ (t := 24) rfl ?_ ?_⟩
 ·intro hc24
  refine q_ 6 rfl<|g_<|c_<|M_ rfl<|d_<|a_<|b_ (D_ tabOk rfl rfl rfl rfl) rfl rfl<|e_ (n_ tabOk rfl rfl rfl u2_ rfl (Nat.le_of_ble_eq_true rfl) rfl rfl) rfl rfl<|q_ 1 rfl<|g_<|c_<|m_<|h_ nofun<|fC_ (rs := [.cell 4 130, .tmp 5]) rfl (RV.cell rfl (RV.cellA tabOk rfl rfl l2_ (by rfl)) (RV.tmp rfl RV.nil)) (Casts.cons (as_ (Casts.keep (Casts.keep (Casts.nils (s := 3) Casts.refl)))) Casts.refl) (()) sn_ ?_
  rw [gC_ hl2 y.2 (.inl hc24)]
  rw [Frm.abs_mk]
  rfl
 intro hc24
 refine q_ 3 rfl<|b_ (i_ tabOk rfl rfl l1_ List.not_mem_nil rfl) rfl rfl<|b_ (l_ (C := boo (decide (¬ bare y.1.1 = []))) (dO_ rfl rfl) (congrArg (fun b => Abs.v (Value.bool b)) (decide_eq_decide.2 (not_congr jf_)))) rfl rfl<|q_ 1 rfl<|g_<|c_<|o_ rfl ?_ ?_
 ·intro hc30
  refine d_<|a_<|b_ (D_ tabOk rfl rfl rfl rfl) rfl rfl<|e_ (n_ tabOk rfl rfl rfl u2_ rfl (Nat.le_of_ble_eq_true rfl) rfl rfl) rfl rfl<|q_ 1 rfl<|g_<|c_<|m_<|h_ nofun<|fC_ (rs := [.cell 4 130, .tmp 5]) rfl (RV.cell rfl (RV.cellA tabOk rfl rfl l2_ (by rfl)) (RV.tmp rfl RV.nil)) (Casts.cons (as_ (Casts.keep (Casts.keep (Casts.nils (s := 3) Casts.refl)))) Casts.refl) (()) sn_ ?_
  rw [gC_ hl2 y.2 (.inr hc30)]
  rw [Frm.abs_mk]
  rfl
 intro hc30
 have hpe := kf_ (n := n) hl2 y.2 hc24 (Classical.byContradiction hc30)
 refine p_<|c_<|d_<|d_<|a_<|b_ (U_ tabOk rfl rfl rfl l0_ List.not_mem_nil (Frm.abs_len _)) rfl rfl<|q_ 1 rfl<|s_ (f7_ (f := y.1.2.2) (n := n) (by have := hpe.1; omega)) Casts.refl (by kernel_rfl) rfl rfl rfl ?_
 refine ap_<|fun _=>q_ 1 rfl<|g_<|c_<|d_<|a_<|q_ 2 rfl<|g_<|c_<|o_ rfl ?_ ?_
 rotate_left
 ·intro hc36
  refine p_<|c_<|d_<|a_<|b_ (U_ tabOk rfl rfl rfl l0_ List.not_mem_nil (Frm.abs_len _)) rfl rfl<|e_ (n_ (L' := y.1.2.2.abs) tabOk rfl rfl rfl u2_ (by exact Frm.abs_len _) (Nat.le_of_ble_eq_true rfl) (by exact Frm.abs_ones _) (t_ (by exact Frm.abs_len _))) rfl rfl ?_
  refine q_ 1 rfl<|g_<|c_<|m_<|f_ (rs := [.cell 4 130, .tmp 5]) rfl (RV.cell rfl (RV.cellA tabOk rfl rfl l2_ (by exact Frm.abs_len _)) (RV.tmp rfl RV.nil)) (()) sn_ ?_
  rw [hpe.2, if_neg hc36]
  rfl
 intro hc36
 refine d_<|a_<|b_ (D_ tabOk rfl rfl rfl rfl) rfl rfl<|q_ 1 rfl<|e_ (n_ tabOk rfl rfl rfl u2_ rfl (Nat.le_of_ble_eq_true rfl) rfl rfl) rfl rfl<|q_ 1 rfl<|g_<|c_<|m_<|h_ nofun<|fC_ (rs := [.cell 4 130, .tmp 5]) rfl (RV.cell rfl (RV.cellA tabOk rfl rfl l2_ (by rfl)) (RV.tmp rfl RV.nil)) (Casts.cons (as_ (Casts.keep (Casts.keep (Casts.nils (s := 3) Casts.refl)))) Casts.refl) (()) sn_ ?_
 rw [hpe.2, if_pos hc36]
 rw [Frm.abs_mk]
 rfl
end
end Go.Proofs.YtickdhjljpnlpaaGreatDoor.A
