/-
  Packed out of the texts: EX2, EX3, EX4, ClE.
-/
import Derived.Test.YtickdhjljpnlpaaGreatDoorR011
set_option maxRecDepth 100000
set_option linter.unusedSimpArgs false
set_option linter.unusedVariables false
namespace Go.Proofs.YtickdhjljpnlpaaGreatDoor.A
open Go.RowKit
section
variable {l : Lg} {x y : Ltr} {o q : Oc} {a b c k n : Int} {ls : List Ltr} {os : List Oc} {m : List UInt8}
theorem b9_ {H : List UInt8} {z : Nat} (hlt : z < l.ls.length) : H ++ ltrsB (l.ls.take z) ++ beBytes (tx (l.ls[z]'hlt).name).length 4 ++ tx (l.ls[z]'hlt).name ++ beBytes (u64 (l.ls[z]'hlt).state) 1 ++ beBytes (u64 (l.ls[z]'hlt).amount) 8 ++ beBytes (u64 (l.ls[z]'hlt).due) 8 ++ beBytes (tx (l.ls[z]'hlt).policy).length 4 ++ tx (l.ls[z]'hlt).policy ++ beBytes (tx (l.ls[z]'hlt).papers).length 4 ++ tx (l.ls[z]'hlt).papers = H ++ ltrsB (l.ls.take (z + 1)) := by
  rw [List.take_succ_eq_append_getElem hlt]
  unfold ltrsB
  rw [List.flatMap_append]
  simp [ltrByt]
theorem it_ {H : List UInt8} {z : Nat} (hlt : z < l.os.length) : H ++ ocsB (l.os.take z) ++ beBytes (u64 (l.os[z]'hlt).client) 1 ++ beBytes (u64 (l.os[z]'hlt).stamp) 8 ++ beBytes (u64 (l.os[z]'hlt).result) 1 = H ++ ocsB (l.os.take (z + 1)) := by
  rw [List.take_succ_eq_append_getElem hlt]
  unfold ocsB
  rw [List.flatMap_append]
  simp [Oc.bytes]
theorem gM_ (h : LtR x) : x.name.size ≤ 16 ∧ x.policy.size ≤ 200 ∧ x.papers.size ≤ 200 := by
  have := h.name
  unfold nameB at this
  simp only [Bool.and_eq_true, decide_eq_true_eq] at this
  exact ⟨by omega, h.policy, h.papers⟩
theorem d5_ (a : Int) : u64 a < 18446744073709551616 := by
  unfold u64
  omega
theorem gK_ (hl : m.length ≤ 100000000) : Spec Tryz.prog 52 [byt m, int a] [] (fun _ : Unit => []) (fun _ => byt (m ++ beBytes (u64 a) 8)) := by
 have hL : lots = 100000000000 := rfl
 refine F_ Tryz.func52 rfl Tryz.ntmps52 rfl fun G w =>d_<|a_<|q_ 1 rfl<|g_<|c_<|d_<|a_<|q_ 2 rfl<|b_ (a6_ rfl Tryz.underlying79 (by kernel_rfl)) rfl rfl ?_
 refine s_ (jk_ (l := m) (x := u64 a) (n := 8) (by omega) (d5_ a) rfl) Casts.refl (by kernel_rfl) rfl rfl rfl ?_
 exact ap_<|fun _=>q_ 1 rfl<|g_<|c_<|m_<|f_ (rs := [.tmp 4]) rfl (RV.tmp rfl RV.nil) (()) sn_<|rfl
set_option maxHeartbeats 4000000 in
theorem lbytes_s (hl : i64ok l.total) : Spec Tryz.prog 30 [.agg l.abs] [] (fun _ : Unit => []) (fun _ => byt l.bytesR) := by
 have hL : lots = 100000000000 := rfl
 refine F_ Tryz.func30 rfl Tryz.ntmps30 rfl fun G w =>d_<|a_<|eb_ (R_ (cs := l.abs) rfl) rfl rfl fun b1=>?_
 refine q_ 1 rfl<|g_<|c_<|d_<|d_<|a_<|b_ (l_ (C := .agg l.abs) (x_ tabOk rfl rfl rfl l0_ List.not_mem_nil (Nat.le_of_ble_eq_true rfl)) rfl) rfl rfl<|s_ (iB_ (l := l) hl) Casts.refl (by kernel_rfl) rfl rfl rfl ?_
 refine ap_<|fun _=>q_ 1 rfl<|g_<|c_<|o_ rfl ?_ ?_
 ·intro hc11
  refine d_<|a_<|q_ 1 rfl<|g_<|c_<|m_<|h_ nofun<|fC_ (rs := [.tmp 2]) rfl (RV.tmp rfl RV.nil) (Casts.nils (s := 1) Casts.refl) (()) sn_ ?_
  rw [show l.bytesR = [] from if_neg (fun h => hc11 (if_pos h))]
  rfl
 intro hc11
 have hr : l.Right := Classical.byContradiction fun h => hc11 (by unfold Lg.chk; rw [if_neg h]; decide)
 have hl16 := hr.lsFew
 have hl4 := hr.few
 refine p_<|c_<|d_<|a_<|q_ 1 rfl<|g_<|c_<|d_<|aa_ [] (.q 0 (.q 1 (.q 2 (.q 3 (.q 5 (.q 6 (.q 8 (.q 9 (.q 10 (.q 11 (.e 4 (.e 7 (.e 12 (.q 13 .nil)))))))))))))) (by kernel_rfl) (by kernel_rfl) ?_
 refine qs_ 3 rfl<|hx_ fun hx9 =>r_ rfl (l_ (C := int l.seq) (i_ tabOk rfl rfl l0_ List.not_mem_nil rfl) rfl) hx9 rfl rfl<|qs_ 1 rfl<|r_ rfl (l_ (C := int l.total) (i_ tabOk rfl rfl l0_ List.not_mem_nil rfl) rfl) hx9 rfl rfl<|qs_ 1 rfl<|r_ rfl (l_ (C := .sl 6 (l.ls.map ltrA)) (i_ tabOk rfl rfl l0_ List.not_mem_nil rfl) rfl) hx9 rfl rfl<|r_ rfl (B_ rfl Tryz.underlying27 (List.length_map _)) (by simp) rfl rfl ?_
 refine r_ rfl (ax_ rfl Tryz.underlying79 (by kernel_rfl) (by simp only [InR, lo, hi]; omega)) (by simp) rfl rfl ?_
 refine a4_ rfl (gK_ (m := []) (a := l.seq) (by simp only [List.length_append, w_, Lg.head_length, List.length_nil, an_] at *; omega)) (by simp [mids, It.mids]) rfl (Casts.cons (fun _ _ _ h => hv_ h) Casts.refl) (by kernel_rfl) rfl rfl rfl ?_
 refine ap_<|fun _=>a4_ rfl (gK_ (m := ([] ++ beBytes (u64 l.seq) 8)) (a := l.total) (by simp only [List.length_append, w_, Lg.head_length, List.length_nil, an_] at *; omega)) (by simp [mids, It.mids]) rfl Casts.refl (by kernel_rfl) rfl rfl rfl ?_
 refine ap_<|fun _=>I_ rfl (jk_ (l := ([] ++ beBytes (u64 l.seq) 8 ++ beBytes (u64 l.total) 8)) (x := l.ls.length) (n := 2) (by simp only [List.length_append, w_, Lg.head_length, List.length_nil, an_] at *; omega) (by omega) rfl) (by simp [mids, It.mids]) Casts.refl (by kernel_rfl) rfl rfl rfl ?_
 refine ap_<|fun _=>qs_ 1 rfl<|Q_<|c_<|d_<|d_<|a_<|q_ 1 rfl<|b_ (l_ (C := .sl 6 (l.ls.map ltrA)) (i_ tabOk rfl rfl l0_ List.not_mem_nil rfl) rfl) rfl rfl<|b_ (B_ rfl Tryz.underlying27 (List.length_map _)) rfl rfl<|q_ 1 rfl<|g_<|c_<|y_<|ae_ (ι := Nat) (fun z => [.blk b1 30 l.abs]) (fun z => [(1, ptr b1), (3, .fn (.func 52) [] []), (4, byt (l.head ++ ltrsB (l.ls.take z))), (26, ltrsA l.ls), (27, int (l.ls.length : Nat)), (28, int (z : Nat))]) (fun z => z ≤ l.ls.length) (fun z => l.ls.length - z) (0) (Nat.zero_le _) ⟨rfl, rfl, congrArg (fun m => some (byt m)) (by simp [Lg.head, ltrsB]), rfl, rfl, rfl, trivial⟩ sr_ ?_
 intro z hz
 refine d_<|a_<|q_ 1 rfl<|g_<|c_<|d_<|o_ rfl ?_ ?_
 rotate_left
 ·intro hc29
  have htk : l.ls.take z = l.ls := List.take_of_length_le (by omega)
  rw [htk]
  have hq := bs_ hr.ls.all
  refine W_<|h_ nofun<|h_ nofun<|V_<|c_<|d_<|a_<|q_ 2 rfl<|b_ (l_ (C := .sl 3 (l.os.map Oc.abs)) (i_ tabOk rfl rfl l0_ List.not_mem_nil rfl) rfl) rfl rfl<|b_ (B_ rfl Tryz.underlying28 (List.length_map _)) rfl rfl<|b_ (ax_ rfl Tryz.underlying79 (by kernel_rfl) (by simp only [InR, lo, hi]; omega)) rfl rfl ?_
  refine s_ (jk_ (l := (l.head ++ ltrsB l.ls)) (x := l.os.length) (n := 2) (by simp only [List.length_append, w_, Lg.head_length, List.length_nil, an_] at *; omega) (by omega) rfl) Casts.refl (by kernel_rfl) rfl rfl rfl ?_
  refine ap_<|fun _=>q_ 1 rfl<|g_<|c_<|d_<|d_<|a_<|q_ 1 rfl<|b_ (l_ (C := .sl 3 (l.os.map Oc.abs)) (i_ tabOk rfl rfl l0_ List.not_mem_nil rfl) rfl) rfl rfl<|b_ (B_ rfl Tryz.underlying28 (List.length_map _)) rfl rfl<|q_ 1 rfl<|g_<|c_<|y_<|ae_ (ι := Nat) (fun z => [.blk b1 30 l.abs]) (fun z => [(1, ptr b1), (3, .fn (.func 52) [] []), (4, byt (l.head ++ ltrsB l.ls ++ beBytes l.os.length 2 ++ ocsB (l.os.take z))), (67, outA l.os), (68, int (l.os.length : Nat)), (69, int (z : Nat))]) (fun z => z ≤ l.os.length) (fun z => l.os.length - z) (0) (Nat.zero_le _) ⟨rfl, rfl, congrArg (fun m => some (byt m)) (by simp [ocsB]), rfl, rfl, rfl, trivial⟩ sr_ ?_
  intro z hz
  refine d_<|a_<|q_ 1 rfl<|g_<|c_<|d_<|o_ rfl ?_ ?_
  rotate_left
  ·intro hc70
   refine W_<|h_ nofun<|h_ nofun<|V_<|c_<|d_<|a_<|q_ 2 rfl<|g_<|c_<|m_<|f_ (rs := [.tmp 2]) rfl (RV.tmp rfl RV.nil) (()) sn_ ?_
   rw [show l.bytesR = l.bytes from if_pos hr, show l.bytes = (l.head ++ ltrsB l.ls ++ beBytes l.os.length 2 ++ ocsB (l.os.take z)) from by rw [List.take_of_length_le (by omega)]; rfl]
   rfl
  intro hc70
  have hlt : z < l.os.length := by omega
  have hq3 := db_ (l.os.take z)
  have hq4 : (l.os.take z).length ≤ 4 := by rw [List.length_take]; omega
  refine p_<|c_<|d_<|y_<|d_<|a_<|b_ (J_ tabOk Tryz.underlying28 rfl rfl rfl rfl (aN_ (by omega)) rfl rfl) rfl rfl ?_
  refine b_ (Y_ tabOk rfl rfl rfl rfl) rfl rfl<|eb_ (H_ tabOk rfl) rfl rfl fun b8=>?_
  refine e_ (n_ (L' := Oc.abs (l.os[z]'hlt)) tabOk rfl rfl rfl u0_ rfl (Nat.le_of_ble_eq_true rfl) rfl (by exact t_ rfl)) rfl rfl ?_
  refine g_<|c_<|d_<|aa_ [] (.q 0 (.q 1 (.q 2 (.q 3 (.q 4 (.q 6 (.q 7 (.e 5 (.e 8 (.q 9 .nil)))))))))) (by kernel_rfl) (by kernel_rfl) ?_
  refine qs_ 3 rfl<|hx_ fun hx9 =>r_ rfl (l_ (C := int (l.os[z]'hlt).client) (i_ tabOk rfl rfl l0_ List.not_mem_nil rfl) rfl) hx9 rfl rfl<|r_ rfl (a6_ rfl Tryz.underlying79 (by kernel_rfl)) hx9 rfl rfl ?_
  refine qs_ 1 rfl<|r_ rfl (l_ (C := int (l.os[z]'hlt).stamp) (i_ tabOk rfl rfl l0_ List.not_mem_nil rfl) rfl) hx9 rfl rfl<|I_ rfl (jk_ (l := (l.head ++ ltrsB l.ls ++ beBytes l.os.length 2 ++ ocsB (l.os.take z))) (x := u64 (l.os[z]'hlt).client) (n := 1) (by simp only [List.length_append, w_, Lg.head_length, List.length_nil, an_] at *; omega) (d5_ _) rfl) (by simp [mids, It.mids]) Casts.refl (by kernel_rfl) rfl rfl rfl ?_
  refine ap_<|fun _=>a4_ rfl (gK_ (m := ((l.head ++ ltrsB l.ls ++ beBytes l.os.length 2 ++ ocsB (l.os.take z)) ++ beBytes (u64 (l.os[z]'hlt).client) 1)) (a := (l.os[z]'hlt).stamp) (by simp only [List.length_append, w_, Lg.head_length, List.length_nil, an_] at *; omega)) (by simp [mids, It.mids]) rfl Casts.refl (by kernel_rfl) rfl rfl rfl ?_
  refine ap_<|fun _=>qs_ 1 rfl<|Q_<|c_<|a_<|q_ 2 rfl<|b_ (l_ (C := int (l.os[z]'hlt).result) (i_ tabOk rfl rfl l0_ List.not_mem_nil rfl) rfl) rfl rfl<|b_ (a6_ rfl Tryz.underlying79 (by kernel_rfl)) rfl rfl ?_
  refine s_ (jk_ (l := (((l.head ++ ltrsB l.ls ++ beBytes l.os.length 2 ++ ocsB (l.os.take z)) ++ beBytes (u64 (l.os[z]'hlt).client) 1) ++ beBytes (u64 (l.os[z]'hlt).stamp) 8)) (x := u64 (l.os[z]'hlt).result) (n := 1) (by simp only [List.length_append, w_, Lg.head_length, List.length_nil, an_] at *; omega) (d5_ _) rfl) Casts.refl (by kernel_rfl) rfl rfl rfl ?_
  refine ap_<|fun _=>q_ 1 rfl<|g_<|u_<|c_<|a_<|b_ (C_ rfl rfl (by simp only [InR, lo, hi]; omega)) rfl rfl ?_
  refine q_ 1 rfl<|g_<|G_ (z + 1) (by omega) (by omega) ⟨rfl, rfl, congrArg (fun m => some (byt m)) (it_ hlt), rfl, rfl, rfl, trivial⟩ (sk_ sr_)
 intro hc29
 have hlt : z < l.ls.length := by omega
 obtain ⟨s1, s2, s3⟩ := gM_ (hr.ls.all _ (List.getElem_mem hlt))
 have hq := bs_ (ls := l.ls.take z) (fun x hx => hr.ls.all x (List.mem_of_mem_take hx))
 have hq2 : (l.ls.take z).length ≤ 16 := by rw [List.length_take]; omega
 refine p_<|c_<|d_<|y_<|d_<|a_<|b_ (J_ tabOk Tryz.underlying27 rfl rfl rfl rfl (aN_ (by omega)) rfl rfl) rfl rfl ?_
 refine b_ (Y_ tabOk rfl rfl rfl rfl) rfl rfl<|eb_ (H_ tabOk rfl) rfl rfl fun b6=>?_
 refine e_ (n_ (L' := ltrA (l.ls[z]'hlt)) tabOk rfl rfl rfl u0_ rfl (Nat.le_of_ble_eq_true rfl) rfl (by exact t_ rfl)) rfl rfl ?_
 refine g_<|c_<|d_<|aa_ [] (.q 0 (.q 1 (.q 2 (.q 5 (.q 6 (.q 7 (.e 3 (.e 4 (.e 8 (.q 9 .nil)))))))))) (by kernel_rfl) (by kernel_rfl) ?_
 refine qs_ 2 rfl<|hx_ fun hx9 =>r_ rfl (l_ (C := st (l.ls[z]'hlt).name) (i_ tabOk rfl rfl l0_ List.not_mem_nil rfl) rfl) hx9 rfl rfl<|qs_ 1 rfl<|r_ rfl (l_ (C := int (l.ls[z]'hlt).state) (i_ tabOk rfl rfl l0_ List.not_mem_nil rfl) rfl) hx9 rfl rfl<|r_ rfl (a6_ rfl Tryz.underlying79 (by kernel_rfl)) hx9 rfl rfl ?_
 refine ex_ rfl (aF_ rfl Tryz.underlying9 Tryz.underlying31 (by omega)) (by simp) rfl rfl ?_
 refine I_ rfl (hs_ (l := (l.head ++ ltrsB (l.ls.take z))) (m := tx (l.ls[z]'hlt).name) (by simp only [List.length_append, w_, Lg.head_length, List.length_nil, an_] at *; omega) (by rw [an_]; omega)) (by simp [mids, It.mids]) Casts.refl (by kernel_rfl) rfl rfl rfl ?_
 refine ap_<|fun _=>I_ rfl (jk_ (l := ((l.head ++ ltrsB (l.ls.take z)) ++ beBytes (tx (l.ls[z]'hlt).name).length 4 ++ tx (l.ls[z]'hlt).name)) (x := u64 (l.ls[z]'hlt).state) (n := 1) (by simp only [List.length_append, w_, Lg.head_length, List.length_nil, an_] at *; omega) (d5_ _) rfl) (by simp [mids, It.mids]) Casts.refl (by kernel_rfl) rfl rfl rfl ?_
 refine ap_<|fun _=>qs_ 1 rfl<|Q_<|c_<|d_<|aa_ [] (.q 0 (.q 1 (.q 2 (.q 3 (.q 4 (.q 6 (.q 7 (.e 5 (.e 8 (.q 9 .nil)))))))))) (by kernel_rfl) (by kernel_rfl) ?_
 refine qs_ 4 rfl<|hx_ fun hx9 =>r_ rfl (l_ (C := int (l.ls[z]'hlt).amount) (i_ tabOk rfl rfl l0_ List.not_mem_nil rfl) rfl) hx9 rfl rfl<|qs_ 1 rfl<|r_ rfl (l_ (C := int (l.ls[z]'hlt).due) (i_ tabOk rfl rfl l0_ List.not_mem_nil rfl) rfl) hx9 rfl rfl<|a4_ rfl (gK_ (m := (((l.head ++ ltrsB (l.ls.take z)) ++ beBytes (tx (l.ls[z]'hlt).name).length 4 ++ tx (l.ls[z]'hlt).name) ++ beBytes (u64 (l.ls[z]'hlt).state) 1)) (a := (l.ls[z]'hlt).amount) (by simp only [List.length_append, w_, Lg.head_length, List.length_nil, an_] at *; omega)) (by simp [mids, It.mids]) rfl Casts.refl (by kernel_rfl) rfl rfl rfl ?_
 refine ap_<|fun _=>a4_ rfl (gK_ (m := ((((l.head ++ ltrsB (l.ls.take z)) ++ beBytes (tx (l.ls[z]'hlt).name).length 4 ++ tx (l.ls[z]'hlt).name) ++ beBytes (u64 (l.ls[z]'hlt).state) 1) ++ beBytes (u64 (l.ls[z]'hlt).amount) 8)) (a := (l.ls[z]'hlt).due) (by simp only [List.length_append, w_, Lg.head_length, List.length_nil, an_] at *; omega)) (by simp [mids, It.mids]) rfl Casts.refl (by kernel_rfl) rfl rfl rfl ?_
 refine ap_<|fun _=>qs_ 1 rfl<|Q_<|c_<|aa_ [] (.q 0 (.q 1 (.q 2 (.q 5 (.q 6 (.two 3 7 (.two 4 7 (.e 7 (.e 8 (.q 9 .nil))) (.e 4 (.e 8 (.q 9 .nil)))) (.e 3 (.e 4 (.e 8 (.q 9 .nil)))))))))) (by kernel_rfl) (by kernel_rfl) ?_
 refine qs_ 2 rfl<|hx_ fun hx9 =>r_ rfl (l_ (C := st (l.ls[z]'hlt).policy) (i_ tabOk rfl rfl l0_ List.not_mem_nil rfl) rfl) hx9 rfl rfl<|qs_ 1 rfl<|r_ rfl (l_ (C := st (l.ls[z]'hlt).papers) (i_ tabOk rfl rfl l0_ List.not_mem_nil rfl) rfl) hx9 rfl rfl<|aR_ ?_ ?_
 ·skip
  refine ex_ rfl (aF_ rfl Tryz.underlying9 Tryz.underlying31 (by omega)) (by simp) rfl rfl ?_
  refine aR_ ?_ ?_
  ·skip
   refine I_ rfl (hs_ (l := (((((l.head ++ ltrsB (l.ls.take z)) ++ beBytes (tx (l.ls[z]'hlt).name).length 4 ++ tx (l.ls[z]'hlt).name) ++ beBytes (u64 (l.ls[z]'hlt).state) 1) ++ beBytes (u64 (l.ls[z]'hlt).amount) 8) ++ beBytes (u64 (l.ls[z]'hlt).due) 8)) (m := tx (l.ls[z]'hlt).policy) (by simp only [List.length_append, w_, Lg.head_length, List.length_nil, an_] at *; omega) (by rw [an_]; omega)) (by simp [mids, It.mids]) Casts.refl (by kernel_rfl) rfl rfl rfl ?_
   refine ap_<|fun _=>ex_ rfl (aF_ rfl Tryz.underlying9 Tryz.underlying31 (by omega)) (by simp) rfl rfl ?_
   refine I_ rfl (hs_ (l := ((((((l.head ++ ltrsB (l.ls.take z)) ++ beBytes (tx (l.ls[z]'hlt).name).length 4 ++ tx (l.ls[z]'hlt).name) ++ beBytes (u64 (l.ls[z]'hlt).state) 1) ++ beBytes (u64 (l.ls[z]'hlt).amount) 8) ++ beBytes (u64 (l.ls[z]'hlt).due) 8) ++ beBytes (tx (l.ls[z]'hlt).policy).length 4 ++ tx (l.ls[z]'hlt).policy)) (m := tx (l.ls[z]'hlt).papers) (by simp only [List.length_append, w_, Lg.head_length, List.length_nil, an_] at *; omega) (by rw [an_]; omega)) (by simp [mids, It.mids]) Casts.refl (by kernel_rfl) rfl rfl rfl ?_
   refine ap_<|fun _=>qs_ 1 rfl<|Q_<|u_<|c_<|a_<|b_ (C_ rfl rfl (by simp only [InR, lo, hi]; omega)) rfl rfl ?_
   refine q_ 1 rfl<|g_<|G_ (z + 1) (by omega) (by omega) ⟨rfl, rfl, congrArg (fun m => some (byt m)) (b9_ hlt), rfl, rfl, rfl, trivial⟩ (sk_ sr_)
  skip
  refine ex_ rfl (aF_ rfl Tryz.underlying9 Tryz.underlying31 (by omega)) (by simp) rfl rfl ?_
  refine I_ rfl (hs_ (l := (((((l.head ++ ltrsB (l.ls.take z)) ++ beBytes (tx (l.ls[z]'hlt).name).length 4 ++ tx (l.ls[z]'hlt).name) ++ beBytes (u64 (l.ls[z]'hlt).state) 1) ++ beBytes (u64 (l.ls[z]'hlt).amount) 8) ++ beBytes (u64 (l.ls[z]'hlt).due) 8)) (m := tx (l.ls[z]'hlt).policy) (by simp only [List.length_append, w_, Lg.head_length, List.length_nil, an_] at *; omega) (by rw [an_]; omega)) (by simp [mids, It.mids]) Casts.refl (by kernel_rfl) rfl rfl rfl ?_
  refine ap_<|fun _=>I_ rfl (hs_ (l := ((((((l.head ++ ltrsB (l.ls.take z)) ++ beBytes (tx (l.ls[z]'hlt).name).length 4 ++ tx (l.ls[z]'hlt).name) ++ beBytes (u64 (l.ls[z]'hlt).state) 1) ++ beBytes (u64 (l.ls[z]'hlt).amount) 8) ++ beBytes (u64 (l.ls[z]'hlt).due) 8) ++ beBytes (tx (l.ls[z]'hlt).policy).length 4 ++ tx (l.ls[z]'hlt).policy)) (m := tx (l.ls[z]'hlt).papers) (by simp only [List.length_append, w_, Lg.head_length, List.length_nil, an_] at *; omega) (by rw [an_]; omega)) (by simp [mids, It.mids]) Casts.refl (by kernel_rfl) rfl rfl rfl ?_
  refine ap_<|fun _=>qs_ 1 rfl<|Q_<|u_<|c_<|a_<|b_ (C_ rfl rfl (by simp only [InR, lo, hi]; omega)) rfl rfl ?_
  refine q_ 1 rfl<|g_<|G_ (z + 1) (by omega) (by omega) ⟨rfl, rfl, congrArg (fun m => some (byt m)) (b9_ hlt), rfl, rfl, rfl, trivial⟩ (sk_ sr_)
 skip
 refine ex_ rfl (aF_ rfl Tryz.underlying9 Tryz.underlying31 (by omega)) (by simp) rfl rfl ?_
 refine ex_ rfl (aF_ rfl Tryz.underlying9 Tryz.underlying31 (by omega)) (by simp) rfl rfl ?_
 refine I_ rfl (hs_ (l := (((((l.head ++ ltrsB (l.ls.take z)) ++ beBytes (tx (l.ls[z]'hlt).name).length 4 ++ tx (l.ls[z]'hlt).name) ++ beBytes (u64 (l.ls[z]'hlt).state) 1) ++ beBytes (u64 (l.ls[z]'hlt).amount) 8) ++ beBytes (u64 (l.ls[z]'hlt).due) 8)) (m := tx (l.ls[z]'hlt).policy) (by simp only [List.length_append, w_, Lg.head_length, List.length_nil, an_] at *; omega) (by rw [an_]; omega)) (by simp [mids, It.mids]) Casts.refl (by kernel_rfl) rfl rfl rfl ?_
 refine ap_<|fun _=>I_ rfl (hs_ (l := ((((((l.head ++ ltrsB (l.ls.take z)) ++ beBytes (tx (l.ls[z]'hlt).name).length 4 ++ tx (l.ls[z]'hlt).name) ++ beBytes (u64 (l.ls[z]'hlt).state) 1) ++ beBytes (u64 (l.ls[z]'hlt).amount) 8) ++ beBytes (u64 (l.ls[z]'hlt).due) 8) ++ beBytes (tx (l.ls[z]'hlt).policy).length 4 ++ tx (l.ls[z]'hlt).policy)) (m := tx (l.ls[z]'hlt).papers) (by simp only [List.length_append, w_, Lg.head_length, List.length_nil, an_] at *; omega) (by rw [an_]; omega)) (by simp [mids, It.mids]) Casts.refl (by kernel_rfl) rfl rfl rfl ?_
 refine ap_<|fun _=>qs_ 1 rfl<|Q_<|u_<|c_<|a_<|b_ (C_ rfl rfl (by simp only [InR, lo, hi]; omega)) rfl rfl ?_
 refine q_ 1 rfl<|g_<|G_ (z + 1) (by omega) (by omega) ⟨rfl, rfl, congrArg (fun m => some (byt m)) (b9_ hlt), rfl, rfl, rfl, trivial⟩ (sk_ sr_)
set_option maxHeartbeats 4000000 in
theorem gv_ (hr : l.Right) : Spec Tryz.prog 14 [.agg l.abs] [] (fun _ : Unit => []) (fun _ => byt l.bytes) := by
 have hL : lots = 100000000000 := rfl
 have hl16 := hr.lsFew
 have hl4 := hr.few
 refine F_ Tryz.func14 rfl Tryz.ntmps14 rfl fun G w =>d_<|a_<|eb_ (R_ (cs := l.abs) rfl) rfl rfl fun b1=>?_
 refine q_ 1 rfl<|g_<|c_<|d_<|aa_ [] (.q 0 (.q 1 (.q 2 (.q 4 (.q 5 (.q 6 (.e 3 (.e 7 (.q 8 .nil))))))))) (by kernel_rfl) (by kernel_rfl) ?_
 refine qs_ 1 rfl<|hx_ fun hx9 =>r_ rfl (l_ (C := int l.seq) (i_ tabOk rfl rfl l0_ List.not_mem_nil rfl) rfl) hx9 rfl rfl<|r_ rfl (a6_ rfl Tryz.underlying79 (by kernel_rfl)) hx9 rfl rfl ?_
 refine qs_ 1 rfl<|r_ rfl (l_ (C := int l.total) (i_ tabOk rfl rfl l0_ List.not_mem_nil rfl) rfl) hx9 rfl rfl<|r_ rfl (a6_ rfl Tryz.underlying79 (by kernel_rfl)) hx9 rfl rfl ?_
 refine I_ rfl (c1_ (l := []) (x := u64 l.seq) (n := 8) (by simp only [List.length_append, w_, Lg.head_length, List.length_nil, an_] at *; omega) rfl) (by simp [mids, It.mids]) (Casts.cons (fun _ _ _ h => hv_ h) Casts.refl) (by kernel_rfl) rfl rfl rfl ?_
 refine ap_<|fun _=>I_ rfl (c1_ (l := ([] ++ beBytes (u64 l.seq) 8)) (x := u64 l.total) (n := 8) (by simp only [List.length_append, w_, Lg.head_length, List.length_nil, an_] at *; omega) rfl) (by simp [mids, It.mids]) Casts.refl (by kernel_rfl) rfl rfl rfl ?_
 refine ap_<|fun _=>qs_ 1 rfl<|Q_<|c_<|d_<|a_<|q_ 2 rfl<|b_ (l_ (C := .sl 6 (l.ls.map ltrA)) (i_ tabOk rfl rfl l0_ List.not_mem_nil rfl) rfl) rfl rfl<|b_ (B_ rfl Tryz.underlying27 (List.length_map _)) rfl rfl<|b_ (ax_ rfl Tryz.underlying79 (by kernel_rfl) (by simp only [InR, lo, hi]; omega)) rfl rfl ?_
 refine s_ (c1_ (l := ([] ++ beBytes (u64 l.seq) 8 ++ beBytes (u64 l.total) 8)) (x := l.ls.length) (n := 2) (by simp only [List.length_append, w_, Lg.head_length, List.length_nil, an_] at *; omega) rfl) Casts.refl (by kernel_rfl) rfl rfl rfl ?_
 refine ap_<|fun _=>q_ 1 rfl<|g_<|c_<|d_<|d_<|a_<|q_ 1 rfl<|b_ (l_ (C := .sl 6 (l.ls.map ltrA)) (i_ tabOk rfl rfl l0_ List.not_mem_nil rfl) rfl) rfl rfl<|b_ (B_ rfl Tryz.underlying27 (List.length_map _)) rfl rfl<|q_ 1 rfl<|g_<|c_<|y_<|ae_ (ι := Nat) (fun z => [.blk b1 30 l.abs]) (fun z => [(1, ptr b1), (3, byt (l.head ++ ltrsB (l.ls.take z))), (23, ltrsA l.ls), (24, int (l.ls.length : Nat)), (25, int (z : Nat))]) (fun z => z ≤ l.ls.length) (fun z => l.ls.length - z) (0) (Nat.zero_le _) ⟨rfl, congrArg (fun m => some (byt m)) (by simp [Lg.head, ltrsB]), rfl, rfl, rfl, trivial⟩ sr_ ?_
 intro z hz
 refine d_<|a_<|q_ 1 rfl<|g_<|c_<|d_<|o_ rfl ?_ ?_
 rotate_left
 ·intro hc26
  have htk : l.ls.take z = l.ls := List.take_of_length_le (by omega)
  rw [htk]
  have hq := bs_ hr.ls.all
  refine W_<|h_ nofun<|h_ nofun<|V_<|c_<|d_<|a_<|q_ 2 rfl<|b_ (l_ (C := .sl 3 (l.os.map Oc.abs)) (i_ tabOk rfl rfl l0_ List.not_mem_nil rfl) rfl) rfl rfl<|b_ (B_ rfl Tryz.underlying28 (List.length_map _)) rfl rfl<|b_ (ax_ rfl Tryz.underlying79 (by kernel_rfl) (by simp only [InR, lo, hi]; omega)) rfl rfl ?_
  refine s_ (c1_ (l := (l.head ++ ltrsB l.ls)) (x := l.os.length) (n := 2) (by simp only [List.length_append, w_, Lg.head_length, List.length_nil, an_] at *; omega) rfl) Casts.refl (by kernel_rfl) rfl rfl rfl ?_
  refine ap_<|fun _=>q_ 1 rfl<|g_<|c_<|d_<|d_<|a_<|q_ 1 rfl<|b_ (l_ (C := .sl 3 (l.os.map Oc.abs)) (i_ tabOk rfl rfl l0_ List.not_mem_nil rfl) rfl) rfl rfl<|b_ (B_ rfl Tryz.underlying28 (List.length_map _)) rfl rfl<|q_ 1 rfl<|g_<|c_<|y_<|ae_ (ι := Nat) (fun z => [.blk b1 30 l.abs]) (fun z => [(1, ptr b1), (3, byt (l.head ++ ltrsB l.ls ++ beBytes l.os.length 2 ++ ocsB (l.os.take z))), (64, outA l.os), (65, int (l.os.length : Nat)), (66, int (z : Nat))]) (fun z => z ≤ l.os.length) (fun z => l.os.length - z) (0) (Nat.zero_le _) ⟨rfl, congrArg (fun m => some (byt m)) (by simp [ocsB]), rfl, rfl, rfl, trivial⟩ sr_ ?_
  intro z hz
  refine d_<|a_<|q_ 1 rfl<|g_<|c_<|d_<|o_ rfl ?_ ?_
  rotate_left
  ·intro hc67
   refine W_<|h_ nofun<|h_ nofun<|V_<|c_<|d_<|a_<|q_ 2 rfl<|g_<|c_<|m_<|f_ (rs := [.tmp 2]) rfl (RV.tmp rfl RV.nil) (()) sn_ ?_
   rw [show l.bytes = (l.head ++ ltrsB l.ls ++ beBytes l.os.length 2 ++ ocsB (l.os.take z)) from by rw [List.take_of_length_le (by omega)]; rfl]
   rfl
  intro hc67
  have hlt : z < l.os.length := by omega
  have hq3 := db_ (l.os.take z)
  have hq4 : (l.os.take z).length ≤ 4 := by rw [List.length_take]; omega
  refine p_<|c_<|d_<|y_<|d_<|a_<|b_ (J_ tabOk Tryz.underlying28 rfl rfl rfl rfl (aN_ (by omega)) rfl rfl) rfl rfl ?_
  refine b_ (Y_ tabOk rfl rfl rfl rfl) rfl rfl<|eb_ (H_ tabOk rfl) rfl rfl fun b7=>?_
  refine e_ (n_ (L' := Oc.abs (l.os[z]'hlt)) tabOk rfl rfl rfl u0_ rfl (Nat.le_of_ble_eq_true rfl) rfl (by exact t_ rfl)) rfl rfl ?_
  refine g_<|c_<|aa_ [] (.q 0 (.q 1 (.q 2 (.q 3 (.q 5 (.q 6 (.q 7 (.q 9 (.q 10 (.q 11 (.e 4 (.e 8 (.e 12 (.q 13 .nil)))))))))))))) (by kernel_rfl) (by kernel_rfl) ?_
  refine qs_ 2 rfl<|hx_ fun hx9 =>r_ rfl (l_ (C := int (l.os[z]'hlt).client) (i_ tabOk rfl rfl l0_ List.not_mem_nil rfl) rfl) hx9 rfl rfl<|r_ rfl (a6_ rfl Tryz.underlying79 (by kernel_rfl)) hx9 rfl rfl ?_
  refine qs_ 1 rfl<|r_ rfl (l_ (C := int (l.os[z]'hlt).stamp) (i_ tabOk rfl rfl l0_ List.not_mem_nil rfl) rfl) hx9 rfl rfl<|r_ rfl (a6_ rfl Tryz.underlying79 (by kernel_rfl)) hx9 rfl rfl ?_
  refine qs_ 1 rfl<|r_ rfl (l_ (C := int (l.os[z]'hlt).result) (i_ tabOk rfl rfl l0_ List.not_mem_nil rfl) rfl) hx9 rfl rfl<|r_ rfl (a6_ rfl Tryz.underlying79 (by kernel_rfl)) hx9 rfl rfl ?_
  refine I_ rfl (c1_ (l := (l.head ++ ltrsB l.ls ++ beBytes l.os.length 2 ++ ocsB (l.os.take z))) (x := u64 (l.os[z]'hlt).client) (n := 1) (by simp only [List.length_append, w_, Lg.head_length, List.length_nil, an_] at *; omega) rfl) (by simp [mids, It.mids]) Casts.refl (by kernel_rfl) rfl rfl rfl ?_
  refine ap_<|fun _=>I_ rfl (c1_ (l := ((l.head ++ ltrsB l.ls ++ beBytes l.os.length 2 ++ ocsB (l.os.take z)) ++ beBytes (u64 (l.os[z]'hlt).client) 1)) (x := u64 (l.os[z]'hlt).stamp) (n := 8) (by simp only [List.length_append, w_, Lg.head_length, List.length_nil, an_] at *; omega) rfl) (by simp [mids, It.mids]) Casts.refl (by kernel_rfl) rfl rfl rfl ?_
  refine ap_<|fun _=>I_ rfl (c1_ (l := (((l.head ++ ltrsB l.ls ++ beBytes l.os.length 2 ++ ocsB (l.os.take z)) ++ beBytes (u64 (l.os[z]'hlt).client) 1) ++ beBytes (u64 (l.os[z]'hlt).stamp) 8)) (x := u64 (l.os[z]'hlt).result) (n := 1) (by simp only [List.length_append, w_, Lg.head_length, List.length_nil, an_] at *; omega) rfl) (by simp [mids, It.mids]) Casts.refl (by kernel_rfl) rfl rfl rfl ?_
  refine ap_<|fun _=>qs_ 1 rfl<|Q_<|u_<|c_<|a_<|b_ (C_ rfl rfl (by simp only [InR, lo, hi]; omega)) rfl rfl ?_
  refine q_ 1 rfl<|g_<|G_ (z + 1) (by omega) (by omega) ⟨rfl, congrArg (fun m => some (byt m)) (it_ hlt), rfl, rfl, rfl, trivial⟩ (sk_ sr_)
 intro hc26
 have hlt : z < l.ls.length := by omega
 obtain ⟨s1, s2, s3⟩ := gM_ (hr.ls.all _ (List.getElem_mem hlt))
 have hq := bs_ (ls := l.ls.take z) (fun x hx => hr.ls.all x (List.mem_of_mem_take hx))
 have hq2 : (l.ls.take z).length ≤ 16 := by rw [List.length_take]; omega
 refine p_<|c_<|d_<|y_<|d_<|a_<|b_ (J_ tabOk Tryz.underlying27 rfl rfl rfl rfl (aN_ (by omega)) rfl rfl) rfl rfl ?_
 refine b_ (Y_ tabOk rfl rfl rfl rfl) rfl rfl<|eb_ (H_ tabOk rfl) rfl rfl fun b5=>?_
 refine e_ (n_ (L' := ltrA (l.ls[z]'hlt)) tabOk rfl rfl rfl u0_ rfl (Nat.le_of_ble_eq_true rfl) rfl (by exact t_ rfl)) rfl rfl ?_
 refine g_<|c_<|d_<|aa_ [] (.q 0 (.q 1 (.q 2 (.q 5 (.q 6 (.q 7 (.e 3 (.e 4 (.e 8 (.q 9 .nil)))))))))) (by kernel_rfl) (by kernel_rfl) ?_
 refine qs_ 2 rfl<|hx_ fun hx9 =>r_ rfl (l_ (C := st (l.ls[z]'hlt).name) (i_ tabOk rfl rfl l0_ List.not_mem_nil rfl) rfl) hx9 rfl rfl<|qs_ 1 rfl<|r_ rfl (l_ (C := int (l.ls[z]'hlt).state) (i_ tabOk rfl rfl l0_ List.not_mem_nil rfl) rfl) hx9 rfl rfl<|r_ rfl (a6_ rfl Tryz.underlying79 (by kernel_rfl)) hx9 rfl rfl ?_
 refine ex_ rfl (aF_ rfl Tryz.underlying9 Tryz.underlying31 (by omega)) (by simp) rfl rfl ?_
 refine I_ rfl (et_ (l := (l.head ++ ltrsB (l.ls.take z))) (m := tx (l.ls[z]'hlt).name) (by simp only [List.length_append, w_, Lg.head_length, List.length_nil, an_] at *; omega) (by rw [an_]; omega)) (by simp [mids, It.mids]) Casts.refl (by kernel_rfl) rfl rfl rfl ?_
 refine ap_<|fun _=>I_ rfl (c1_ (l := ((l.head ++ ltrsB (l.ls.take z)) ++ beBytes (tx (l.ls[z]'hlt).name).length 4 ++ tx (l.ls[z]'hlt).name)) (x := u64 (l.ls[z]'hlt).state) (n := 1) (by simp only [List.length_append, w_, Lg.head_length, List.length_nil, an_] at *; omega) rfl) (by simp [mids, It.mids]) Casts.refl (by kernel_rfl) rfl rfl rfl ?_
 refine ap_<|fun _=>qs_ 1 rfl<|Q_<|c_<|d_<|aa_ [] (.q 0 (.q 1 (.q 2 (.q 3 (.q 5 (.q 6 (.q 7 (.e 4 (.e 8 (.q 9 .nil)))))))))) (by kernel_rfl) (by kernel_rfl) ?_
 refine qs_ 2 rfl<|hx_ fun hx9 =>r_ rfl (l_ (C := int (l.ls[z]'hlt).amount) (i_ tabOk rfl rfl l0_ List.not_mem_nil rfl) rfl) hx9 rfl rfl<|r_ rfl (a6_ rfl Tryz.underlying79 (by kernel_rfl)) hx9 rfl rfl ?_
 refine qs_ 1 rfl<|r_ rfl (l_ (C := int (l.ls[z]'hlt).due) (i_ tabOk rfl rfl l0_ List.not_mem_nil rfl) rfl) hx9 rfl rfl<|r_ rfl (a6_ rfl Tryz.underlying79 (by kernel_rfl)) hx9 rfl rfl ?_
 refine I_ rfl (c1_ (l := (((l.head ++ ltrsB (l.ls.take z)) ++ beBytes (tx (l.ls[z]'hlt).name).length 4 ++ tx (l.ls[z]'hlt).name) ++ beBytes (u64 (l.ls[z]'hlt).state) 1)) (x := u64 (l.ls[z]'hlt).amount) (n := 8) (by simp only [List.length_append, w_, Lg.head_length, List.length_nil, an_] at *; omega) rfl) (by simp [mids, It.mids]) Casts.refl (by kernel_rfl) rfl rfl rfl ?_
 refine ap_<|fun _=>I_ rfl (c1_ (l := ((((l.head ++ ltrsB (l.ls.take z)) ++ beBytes (tx (l.ls[z]'hlt).name).length 4 ++ tx (l.ls[z]'hlt).name) ++ beBytes (u64 (l.ls[z]'hlt).state) 1) ++ beBytes (u64 (l.ls[z]'hlt).amount) 8)) (x := u64 (l.ls[z]'hlt).due) (n := 8) (by simp only [List.length_append, w_, Lg.head_length, List.length_nil, an_] at *; omega) rfl) (by simp [mids, It.mids]) Casts.refl (by kernel_rfl) rfl rfl rfl ?_
 refine ap_<|fun _=>qs_ 1 rfl<|Q_<|c_<|aa_ [] (.q 0 (.q 1 (.q 2 (.q 5 (.q 6 (.two 3 7 (.two 4 7 (.e 7 (.e 8 (.q 9 .nil))) (.e 4 (.e 8 (.q 9 .nil)))) (.e 3 (.e 4 (.e 8 (.q 9 .nil)))))))))) (by kernel_rfl) (by kernel_rfl) ?_
 refine qs_ 2 rfl<|hx_ fun hx9 =>r_ rfl (l_ (C := st (l.ls[z]'hlt).policy) (i_ tabOk rfl rfl l0_ List.not_mem_nil rfl) rfl) hx9 rfl rfl<|qs_ 1 rfl<|r_ rfl (l_ (C := st (l.ls[z]'hlt).papers) (i_ tabOk rfl rfl l0_ List.not_mem_nil rfl) rfl) hx9 rfl rfl<|aR_ ?_ ?_
 ·skip
  refine ex_ rfl (aF_ rfl Tryz.underlying9 Tryz.underlying31 (by omega)) (by simp) rfl rfl ?_
  refine aR_ ?_ ?_
  ·skip
   refine I_ rfl (et_ (l := (((((l.head ++ ltrsB (l.ls.take z)) ++ beBytes (tx (l.ls[z]'hlt).name).length 4 ++ tx (l.ls[z]'hlt).name) ++ beBytes (u64 (l.ls[z]'hlt).state) 1) ++ beBytes (u64 (l.ls[z]'hlt).amount) 8) ++ beBytes (u64 (l.ls[z]'hlt).due) 8)) (m := tx (l.ls[z]'hlt).policy) (by simp only [List.length_append, w_, Lg.head_length, List.length_nil, an_] at *; omega) (by rw [an_]; omega)) (by simp [mids, It.mids]) Casts.refl (by kernel_rfl) rfl rfl rfl ?_
   refine ap_<|fun _=>ex_ rfl (aF_ rfl Tryz.underlying9 Tryz.underlying31 (by omega)) (by simp) rfl rfl ?_
   refine I_ rfl (et_ (l := ((((((l.head ++ ltrsB (l.ls.take z)) ++ beBytes (tx (l.ls[z]'hlt).name).length 4 ++ tx (l.ls[z]'hlt).name) ++ beBytes (u64 (l.ls[z]'hlt).state) 1) ++ beBytes (u64 (l.ls[z]'hlt).amount) 8) ++ beBytes (u64 (l.ls[z]'hlt).due) 8) ++ beBytes (tx (l.ls[z]'hlt).policy).length 4 ++ tx (l.ls[z]'hlt).policy)) (m := tx (l.ls[z]'hlt).papers) (by simp only [List.length_append, w_, Lg.head_length, List.length_nil, an_] at *; omega) (by rw [an_]; omega)) (by simp [mids, It.mids]) Casts.refl (by kernel_rfl) rfl rfl rfl ?_
   refine ap_<|fun _=>qs_ 1 rfl<|Q_<|u_<|c_<|a_<|b_ (C_ rfl rfl (by simp only [InR, lo, hi]; omega)) rfl rfl ?_
   refine q_ 1 rfl<|g_<|G_ (z + 1) (by omega) (by omega) ⟨rfl, congrArg (fun m => some (byt m)) (b9_ hlt), rfl, rfl, rfl, trivial⟩ (sk_ sr_)
  skip
  refine ex_ rfl (aF_ rfl Tryz.underlying9 Tryz.underlying31 (by omega)) (by simp) rfl rfl ?_
  refine I_ rfl (et_ (l := (((((l.head ++ ltrsB (l.ls.take z)) ++ beBytes (tx (l.ls[z]'hlt).name).length 4 ++ tx (l.ls[z]'hlt).name) ++ beBytes (u64 (l.ls[z]'hlt).state) 1) ++ beBytes (u64 (l.ls[z]'hlt).amount) 8) ++ beBytes (u64 (l.ls[z]'hlt).due) 8)) (m := tx (l.ls[z]'hlt).policy) (by simp only [List.length_append, w_, Lg.head_length, List.length_nil, an_] at *; omega) (by rw [an_]; omega)) (by simp [mids, It.mids]) Casts.refl (by kernel_rfl) rfl rfl rfl ?_
  refine ap_<|fun _=>I_ rfl (et_ (l := ((((((l.head ++ ltrsB (l.ls.take z)) ++ beBytes (tx (l.ls[z]'hlt).name).length 4 ++ tx (l.ls[z]'hlt).name) ++ beBytes (u64 (l.ls[z]'hlt).state) 1) ++ beBytes (u64 (l.ls[z]'hlt).amount) 8) ++ beBytes (u64 (l.ls[z]'hlt).due) 8) ++ beBytes (tx (l.ls[z]'hlt).policy).length 4 ++ tx (l.ls[z]'hlt).policy)) (m := tx (l.ls[z]'hlt).papers) (by simp only [List.length_append, w_, Lg.head_length, List.length_nil, an_] at *; omega) (by rw [an_]; omega)) (by simp [mids, It.mids]) Casts.refl (by kernel_rfl) rfl rfl rfl ?_
  refine ap_<|fun _=>qs_ 1 rfl<|Q_<|u_<|c_<|a_<|b_ (C_ rfl rfl (by simp only [InR, lo, hi]; omega)) rfl rfl ?_
  refine q_ 1 rfl<|g_<|G_ (z + 1) (by omega) (by omega) ⟨rfl, congrArg (fun m => some (byt m)) (b9_ hlt), rfl, rfl, rfl, trivial⟩ (sk_ sr_)
 skip
 refine ex_ rfl (aF_ rfl Tryz.underlying9 Tryz.underlying31 (by omega)) (by simp) rfl rfl ?_
 refine ex_ rfl (aF_ rfl Tryz.underlying9 Tryz.underlying31 (by omega)) (by simp) rfl rfl ?_
 refine I_ rfl (et_ (l := (((((l.head ++ ltrsB (l.ls.take z)) ++ beBytes (tx (l.ls[z]'hlt).name).length 4 ++ tx (l.ls[z]'hlt).name) ++ beBytes (u64 (l.ls[z]'hlt).state) 1) ++ beBytes (u64 (l.ls[z]'hlt).amount) 8) ++ beBytes (u64 (l.ls[z]'hlt).due) 8)) (m := tx (l.ls[z]'hlt).policy) (by simp only [List.length_append, w_, Lg.head_length, List.length_nil, an_] at *; omega) (by rw [an_]; omega)) (by simp [mids, It.mids]) Casts.refl (by kernel_rfl) rfl rfl rfl ?_
 refine ap_<|fun _=>I_ rfl (et_ (l := ((((((l.head ++ ltrsB (l.ls.take z)) ++ beBytes (tx (l.ls[z]'hlt).name).length 4 ++ tx (l.ls[z]'hlt).name) ++ beBytes (u64 (l.ls[z]'hlt).state) 1) ++ beBytes (u64 (l.ls[z]'hlt).amount) 8) ++ beBytes (u64 (l.ls[z]'hlt).due) 8) ++ beBytes (tx (l.ls[z]'hlt).policy).length 4 ++ tx (l.ls[z]'hlt).policy)) (m := tx (l.ls[z]'hlt).papers) (by simp only [List.length_append, w_, Lg.head_length, List.length_nil, an_] at *; omega) (by rw [an_]; omega)) (by simp [mids, It.mids]) Casts.refl (by kernel_rfl) rfl rfl rfl ?_
 refine ap_<|fun _=>qs_ 1 rfl<|Q_<|u_<|c_<|a_<|b_ (C_ rfl rfl (by simp only [InR, lo, hi]; omega)) rfl rfl ?_
 refine q_ 1 rfl<|g_<|G_ (z + 1) (by omega) (by omega) ⟨rfl, congrArg (fun m => some (byt m)) (b9_ hlt), rfl, rfl, rfl, trivial⟩ (sk_ sr_)
end
section
variable {l : Lg} {x y : Ltr} {o q : Oc} {a b c k n : Int} {ls : List Ltr} {os : List Oc} {m : List UInt8}
variable {p : Nat} {s : Rd}
set_option maxHeartbeats 1000000 in
theorem dY_ (hl : s.l.length ≤ 1000000000) : Spec Tryz.prog 49 [ptr p] [rdA TR p s] (fun _ : Unit => [rdA TR p (Rd.l6 s)]) (fun _ => .agg (ltrA (Rd.ltr s))) := by
 have hL : lots = 100000000000 := rfl
 have n1 := Rd.row_length s 16
 have n2 := (Rd.l1 s).fixed_length 1
 have n3 := (Rd.l2 s).fixed_length 8
 have n4 := (Rd.l3 s).fixed_length 8
 have n5 := Rd.row_length (Rd.l4 s) 200
 have n6 := Rd.row_length (Rd.l5 s) 200
 have m1 : (Rd.l1 s).l.length ≤ s.l.length := n1
 have m2 : (Rd.l2 s).l.length ≤ (Rd.l1 s).l.length := n2
 have m3 : (Rd.l3 s).l.length ≤ (Rd.l2 s).l.length := n3
 have m4 : (Rd.l4 s).l.length ≤ (Rd.l3 s).l.length := n4
 have m5 : (Rd.l5 s).l.length ≤ (Rd.l4 s).l.length := n5
 have m6 : (Rd.l6 s).l.length ≤ (Rd.l5 s).l.length := n6
 refine F_ Tryz.func49 rfl Tryz.ntmps49 rfl fun G w =>d_<|a_<|eb_ (H_ tabOk rfl) rfl rfl fun b2=>?_
 refine g_<|c_<|d_<|aa_ [p] (.q 0 (.q 3 (.two 1 7 (.q 2 (.two 4 7 (.q 5 (.q 6 (.e 7 (.e 8 .nil)))) (.e 4 (.q 5 (.q 6 (.e 8 .nil)))))) (.e 1 (.q 2 (.e 4 (.q 5 (.q 6 (.e 8 .nil))))))))) (by kernel_rfl) (by kernel_rfl) ?_
 refine hx_ fun hx9 =>qx_ 2 hx9 rfl<|aR_ ?_ ?_
 ·skip
  refine I_ rfl (dW_ (s := s) (n := 16) (by omega) (by omega)) (by simp [mids, It.mids]) Casts.refl (by kernel_rfl) rfl rfl rfl ?_
  refine A_ rfl i1_ (fun _ => rfl)<|fun _=>⟨_, u1_, hx_ fun hx9 =>r_ rfl (aq_ rfl) hx9 rfl rfl<|aR_ ?_ ?_⟩
  ·skip
   refine I_ rfl (a8_ (s := Rd.l1 s) (n := 1) (by omega) rfl) (by simp [mids, It.mids]) Casts.refl (by kernel_rfl) rfl rfl rfl ?_
   refine A_ rfl i1_ (fun _ => rfl)<|fun _=>⟨_, u1_, hx_ fun hx9 =>r_ rfl (l_ (C := int (IntKind.i64.wrap ((Rd.l1 s).num 1 : Nat))) (Z_ rfl Tryz.underlying3 (by kernel_rfl)) rfl) hx9 rfl rfl ?_⟩
   refine r_ rfl (D_ (L := [st (mkS (s.rowOut 16)), int (IntKind.i64.wrap ((Rd.l1 s).num 1 : Nat)), int 0, int 0, st ⟨#[]⟩, st ⟨#[]⟩]) tabOk rfl rfl rfl rfl) hx9 rfl rfl<|aM_ tabOk rfl rfl rfl rfl fun b3 =>ex_ rfl (n_ (L' := [st (mkS (s.rowOut 16)), int (IntKind.i64.wrap ((Rd.l1 s).num 1 : Nat)), int 0, int 0, st ⟨#[]⟩, st ⟨#[]⟩]) tabOk rfl rfl rfl u0_ rfl (Nat.le_of_ble_eq_true rfl) rfl (by exact t_ rfl)) (by simp) rfl rfl ?_
   refine Q_<|c_<|d_<|a_<|q_ 1 rfl<|s_ (a8_ (s := Rd.l2 s) (n := 8) (by omega) rfl) Casts.refl (by kernel_rfl) rfl rfl rfl ?_
   refine A_ rfl i2_ (fun _ => rfl)<|fun _=>⟨_, u2_, b_ (Z_ rfl Tryz.underlying2 (by kernel_rfl)) rfl rfl ?_⟩
   refine q_ 1 rfl<|s_ (a8_ (s := Rd.l3 s) (n := 8) (by omega) rfl) Casts.refl (by kernel_rfl) rfl rfl rfl ?_
   refine A_ rfl i2_ (fun _ => rfl)<|fun _=>⟨_, u2_, b_ (Z_ rfl Tryz.underlying2 (by kernel_rfl)) rfl rfl ?_⟩
   refine q_ 1 rfl<|e_ (n_ (L' := [st (mkS (s.rowOut 16)), int (IntKind.i64.wrap ((Rd.l1 s).num 1 : Nat)), int (IntKind.i64.wrap ((Rd.l2 s).num 8 : Nat)), int 0, st ⟨#[]⟩, st ⟨#[]⟩]) tabOk rfl rfl rfl u0_ rfl (Nat.le_of_ble_eq_true rfl) rfl rfl) rfl rfl<|q_ 1 rfl<|e_ (n_ (L' := [st (mkS (s.rowOut 16)), int (IntKind.i64.wrap ((Rd.l1 s).num 1 : Nat)), int (IntKind.i64.wrap ((Rd.l2 s).num 8 : Nat)), int (IntKind.i64.wrap ((Rd.l3 s).num 8 : Nat)), st ⟨#[]⟩, st ⟨#[]⟩]) tabOk rfl rfl rfl u0_ rfl (Nat.le_of_ble_eq_true rfl) rfl rfl) rfl rfl<|g_<|c_<|d_<|aa_ [p, b3] (.q 0 (.q 3 (.e 1 (.q 2 (.q 6 (.e 4 (.q 5 (.e 7 (.q 8 (.e 9 .nil)))))))))) (by kernel_rfl) (by kernel_rfl) ?_
   refine hx_ fun hx9 =>qx_ 2 hx9 rfl<|I_ rfl (dW_ (s := Rd.l4 s) (n := 200) (by omega) (by omega)) (by simp [mids, It.mids]) Casts.refl (by kernel_rfl) rfl rfl rfl ?_
   refine A_ rfl i2_ (fun _ => rfl)<|fun _=>⟨_, u2_, hx_ fun hx9 =>r_ rfl (aq_ rfl) hx9 rfl rfl<|qx_ 1 hx9 rfl<|I_ rfl (dW_ (s := Rd.l5 s) (n := 200) (by omega) (by omega)) (by simp [mids, It.mids]) Casts.refl (by kernel_rfl) rfl rfl rfl ?_⟩
   refine A_ rfl i2_ (fun _ => rfl)<|fun _=>⟨_, u2_, hx_ fun hx9 =>r_ rfl (aq_ rfl) hx9 rfl rfl<|ex_ rfl (n_ (L' := [st (mkS (s.rowOut 16)), int (IntKind.i64.wrap ((Rd.l1 s).num 1 : Nat)), int (IntKind.i64.wrap ((Rd.l2 s).num 8 : Nat)), int (IntKind.i64.wrap ((Rd.l3 s).num 8 : Nat)), st (mkS ((Rd.l4 s).rowOut 200)), st ⟨#[]⟩]) tabOk rfl rfl rfl u0_ rfl (Nat.le_of_ble_eq_true rfl) rfl rfl) (by simp) rfl rfl ?_⟩
   refine hx_ fun hx9 =>qx_ 1 hx9 rfl<|ex_ rfl (n_ (L' := [st (mkS (s.rowOut 16)), int (IntKind.i64.wrap ((Rd.l1 s).num 1 : Nat)), int (IntKind.i64.wrap ((Rd.l2 s).num 8 : Nat)), int (IntKind.i64.wrap ((Rd.l3 s).num 8 : Nat)), st (mkS ((Rd.l4 s).rowOut 200)), st (mkS ((Rd.l5 s).rowOut 200))]) tabOk rfl rfl rfl u0_ rfl (Nat.le_of_ble_eq_true rfl) rfl rfl) (by simp) rfl rfl ?_
   refine Q_<|c_<|d_<|a_<|b_ (l_ (C := .agg (ltrA (Rd.ltr s))) (x_ tabOk rfl rfl rfl l0_ List.not_mem_nil (Nat.le_of_ble_eq_true rfl)) rfl) rfl rfl<|e_ (n_ (L' := ltrA (Rd.ltr s)) tabOk rfl rfl rfl u1_ rfl (Nat.le_of_ble_eq_true rfl) rfl (by exact t_ rfl)) rfl rfl ?_
   refine g_<|c_<|m_<|f_ (rs := [.cell 2 81]) rfl (RV.cell rfl (RV.cellA tabOk rfl rfl l1_ (by rfl)) RV.nil) (()) (sk_ (sk_ sr_)) ?_
   exact rfl
  skip
  refine aM_ tabOk rfl rfl rfl rfl fun b3 =>I_ rfl (a8_ (s := Rd.l1 s) (n := 1) (by omega) rfl) (by simp [mids, It.mids]) Casts.refl (by kernel_rfl) rfl rfl rfl ?_
  refine A_ rfl i2_ (fun _ => rfl)<|fun _=>⟨_, u2_, hx_ fun hx9 =>r_ rfl (l_ (C := int (IntKind.i64.wrap ((Rd.l1 s).num 1 : Nat))) (Z_ rfl Tryz.underlying3 (by kernel_rfl)) rfl) hx9 rfl rfl ?_⟩
  refine r_ rfl (D_ (L := [st (mkS (s.rowOut 16)), int (IntKind.i64.wrap ((Rd.l1 s).num 1 : Nat)), int 0, int 0, st ⟨#[]⟩, st ⟨#[]⟩]) tabOk rfl rfl rfl rfl) hx9 rfl rfl<|ex_ rfl (n_ (L' := [st (mkS (s.rowOut 16)), int (IntKind.i64.wrap ((Rd.l1 s).num 1 : Nat)), int 0, int 0, st ⟨#[]⟩, st ⟨#[]⟩]) tabOk rfl rfl rfl u0_ rfl (Nat.le_of_ble_eq_true rfl) rfl (by exact t_ rfl)) (by simp) rfl rfl ?_
  refine Q_<|c_<|d_<|a_<|q_ 1 rfl<|s_ (a8_ (s := Rd.l2 s) (n := 8) (by omega) rfl) Casts.refl (by kernel_rfl) rfl rfl rfl ?_
  refine A_ rfl i2_ (fun _ => rfl)<|fun _=>⟨_, u2_, b_ (Z_ rfl Tryz.underlying2 (by kernel_rfl)) rfl rfl ?_⟩
  refine q_ 1 rfl<|s_ (a8_ (s := Rd.l3 s) (n := 8) (by omega) rfl) Casts.refl (by kernel_rfl) rfl rfl rfl ?_
  refine A_ rfl i2_ (fun _ => rfl)<|fun _=>⟨_, u2_, b_ (Z_ rfl Tryz.underlying2 (by kernel_rfl)) rfl rfl ?_⟩
  refine q_ 1 rfl<|e_ (n_ (L' := [st (mkS (s.rowOut 16)), int (IntKind.i64.wrap ((Rd.l1 s).num 1 : Nat)), int (IntKind.i64.wrap ((Rd.l2 s).num 8 : Nat)), int 0, st ⟨#[]⟩, st ⟨#[]⟩]) tabOk rfl rfl rfl u0_ rfl (Nat.le_of_ble_eq_true rfl) rfl rfl) rfl rfl<|q_ 1 rfl<|e_ (n_ (L' := [st (mkS (s.rowOut 16)), int (IntKind.i64.wrap ((Rd.l1 s).num 1 : Nat)), int (IntKind.i64.wrap ((Rd.l2 s).num 8 : Nat)), int (IntKind.i64.wrap ((Rd.l3 s).num 8 : Nat)), st ⟨#[]⟩, st ⟨#[]⟩]) tabOk rfl rfl rfl u0_ rfl (Nat.le_of_ble_eq_true rfl) rfl rfl) rfl rfl<|g_<|c_<|d_<|aa_ [p, b3] (.q 0 (.q 3 (.e 1 (.q 2 (.q 6 (.e 4 (.q 5 (.e 7 (.q 8 (.e 9 .nil)))))))))) (by kernel_rfl) (by kernel_rfl) ?_
  refine hx_ fun hx9 =>qx_ 2 hx9 rfl<|I_ rfl (dW_ (s := Rd.l4 s) (n := 200) (by omega) (by omega)) (by simp [mids, It.mids]) Casts.refl (by kernel_rfl) rfl rfl rfl ?_
  refine A_ rfl i2_ (fun _ => rfl)<|fun _=>⟨_, u2_, hx_ fun hx9 =>r_ rfl (aq_ rfl) hx9 rfl rfl<|qx_ 1 hx9 rfl<|I_ rfl (dW_ (s := Rd.l5 s) (n := 200) (by omega) (by omega)) (by simp [mids, It.mids]) Casts.refl (by kernel_rfl) rfl rfl rfl ?_⟩
  refine A_ rfl i2_ (fun _ => rfl)<|fun _=>⟨_, u2_, hx_ fun hx9 =>r_ rfl (aq_ rfl) hx9 rfl rfl<|ex_ rfl (n_ (L' := [st (mkS (s.rowOut 16)), int (IntKind.i64.wrap ((Rd.l1 s).num 1 : Nat)), int (IntKind.i64.wrap ((Rd.l2 s).num 8 : Nat)), int (IntKind.i64.wrap ((Rd.l3 s).num 8 : Nat)), st (mkS ((Rd.l4 s).rowOut 200)), st ⟨#[]⟩]) tabOk rfl rfl rfl u0_ rfl (Nat.le_of_ble_eq_true rfl) rfl rfl) (by simp) rfl rfl ?_⟩
  refine hx_ fun hx9 =>qx_ 1 hx9 rfl<|ex_ rfl (n_ (L' := [st (mkS (s.rowOut 16)), int (IntKind.i64.wrap ((Rd.l1 s).num 1 : Nat)), int (IntKind.i64.wrap ((Rd.l2 s).num 8 : Nat)), int (IntKind.i64.wrap ((Rd.l3 s).num 8 : Nat)), st (mkS ((Rd.l4 s).rowOut 200)), st (mkS ((Rd.l5 s).rowOut 200))]) tabOk rfl rfl rfl u0_ rfl (Nat.le_of_ble_eq_true rfl) rfl rfl) (by simp) rfl rfl ?_
  refine Q_<|c_<|d_<|a_<|b_ (l_ (C := .agg (ltrA (Rd.ltr s))) (x_ tabOk rfl rfl rfl l0_ List.not_mem_nil (Nat.le_of_ble_eq_true rfl)) rfl) rfl rfl<|e_ (n_ (L' := ltrA (Rd.ltr s)) tabOk rfl rfl rfl u1_ rfl (Nat.le_of_ble_eq_true rfl) rfl (by exact t_ rfl)) rfl rfl ?_
  refine g_<|c_<|m_<|f_ (rs := [.cell 2 81]) rfl (RV.cell rfl (RV.cellA tabOk rfl rfl l1_ (by rfl)) RV.nil) (()) (sk_ (sk_ sr_)) ?_
  exact rfl
 skip
 refine aM_ tabOk rfl rfl rfl rfl fun b3 =>I_ rfl (dW_ (s := s) (n := 16) (by omega) (by omega)) (by simp [mids, It.mids]) Casts.refl (by kernel_rfl) rfl rfl rfl ?_
 refine A_ rfl i2_ (fun _ => rfl)<|fun _=>⟨_, u2_, hx_ fun hx9 =>r_ rfl (aq_ rfl) hx9 rfl rfl<|I_ rfl (a8_ (s := Rd.l1 s) (n := 1) (by omega) rfl) (by simp [mids, It.mids]) Casts.refl (by kernel_rfl) rfl rfl rfl ?_⟩
 refine A_ rfl i2_ (fun _ => rfl)<|fun _=>⟨_, u2_, hx_ fun hx9 =>r_ rfl (l_ (C := int (IntKind.i64.wrap ((Rd.l1 s).num 1 : Nat))) (Z_ rfl Tryz.underlying3 (by kernel_rfl)) rfl) hx9 rfl rfl ?_⟩
 refine r_ rfl (D_ (L := [st (mkS (s.rowOut 16)), int (IntKind.i64.wrap ((Rd.l1 s).num 1 : Nat)), int 0, int 0, st ⟨#[]⟩, st ⟨#[]⟩]) tabOk rfl rfl rfl rfl) hx9 rfl rfl<|ex_ rfl (n_ (L' := [st (mkS (s.rowOut 16)), int (IntKind.i64.wrap ((Rd.l1 s).num 1 : Nat)), int 0, int 0, st ⟨#[]⟩, st ⟨#[]⟩]) tabOk rfl rfl rfl u0_ rfl (Nat.le_of_ble_eq_true rfl) rfl (by exact t_ rfl)) (by simp) rfl rfl ?_
 refine Q_<|c_<|d_<|a_<|q_ 1 rfl<|s_ (a8_ (s := Rd.l2 s) (n := 8) (by omega) rfl) Casts.refl (by kernel_rfl) rfl rfl rfl ?_
 refine A_ rfl i2_ (fun _ => rfl)<|fun _=>⟨_, u2_, b_ (Z_ rfl Tryz.underlying2 (by kernel_rfl)) rfl rfl ?_⟩
 refine q_ 1 rfl<|s_ (a8_ (s := Rd.l3 s) (n := 8) (by omega) rfl) Casts.refl (by kernel_rfl) rfl rfl rfl ?_
 refine A_ rfl i2_ (fun _ => rfl)<|fun _=>⟨_, u2_, b_ (Z_ rfl Tryz.underlying2 (by kernel_rfl)) rfl rfl ?_⟩
 refine q_ 1 rfl<|e_ (n_ (L' := [st (mkS (s.rowOut 16)), int (IntKind.i64.wrap ((Rd.l1 s).num 1 : Nat)), int (IntKind.i64.wrap ((Rd.l2 s).num 8 : Nat)), int 0, st ⟨#[]⟩, st ⟨#[]⟩]) tabOk rfl rfl rfl u0_ rfl (Nat.le_of_ble_eq_true rfl) rfl rfl) rfl rfl<|q_ 1 rfl<|e_ (n_ (L' := [st (mkS (s.rowOut 16)), int (IntKind.i64.wrap ((Rd.l1 s).num 1 : Nat)), int (IntKind.i64.wrap ((Rd.l2 s).num 8 : Nat)), int (IntKind.i64.wrap ((Rd.l3 s).num 8 : Nat)), st ⟨#[]⟩, st ⟨#[]⟩]) tabOk rfl rfl rfl u0_ rfl (Nat.le_of_ble_eq_true rfl) rfl rfl) rfl rfl<|g_<|c_<|d_<|aa_ [p, b3] (.q 0 (.q 3 (.e 1 (.q 2 (.q 6 (.e 4 (.q 5 (.e 7 (.q 8 (.e 9 .nil)))))))))) (by kernel_rfl) (by kernel_rfl) ?_
 refine hx_ fun hx9 =>qx_ 2 hx9 rfl<|I_ rfl (dW_ (s := Rd.l4 s) (n := 200) (by omega) (by omega)) (by simp [mids, It.mids]) Casts.refl (by kernel_rfl) rfl rfl rfl ?_
 refine A_ rfl i2_ (fun _ => rfl)<|fun _=>⟨_, u2_, hx_ fun hx9 =>r_ rfl (aq_ rfl) hx9 rfl rfl<|qx_ 1 hx9 rfl<|I_ rfl (dW_ (s := Rd.l5 s) (n := 200) (by omega) (by omega)) (by simp [mids, It.mids]) Casts.refl (by kernel_rfl) rfl rfl rfl ?_⟩
 refine A_ rfl i2_ (fun _ => rfl)<|fun _=>⟨_, u2_, hx_ fun hx9 =>r_ rfl (aq_ rfl) hx9 rfl rfl<|ex_ rfl (n_ (L' := [st (mkS (s.rowOut 16)), int (IntKind.i64.wrap ((Rd.l1 s).num 1 : Nat)), int (IntKind.i64.wrap ((Rd.l2 s).num 8 : Nat)), int (IntKind.i64.wrap ((Rd.l3 s).num 8 : Nat)), st (mkS ((Rd.l4 s).rowOut 200)), st ⟨#[]⟩]) tabOk rfl rfl rfl u0_ rfl (Nat.le_of_ble_eq_true rfl) rfl rfl) (by simp) rfl rfl ?_⟩
 refine hx_ fun hx9 =>qx_ 1 hx9 rfl<|ex_ rfl (n_ (L' := [st (mkS (s.rowOut 16)), int (IntKind.i64.wrap ((Rd.l1 s).num 1 : Nat)), int (IntKind.i64.wrap ((Rd.l2 s).num 8 : Nat)), int (IntKind.i64.wrap ((Rd.l3 s).num 8 : Nat)), st (mkS ((Rd.l4 s).rowOut 200)), st (mkS ((Rd.l5 s).rowOut 200))]) tabOk rfl rfl rfl u0_ rfl (Nat.le_of_ble_eq_true rfl) rfl rfl) (by simp) rfl rfl ?_
 refine Q_<|c_<|d_<|a_<|b_ (l_ (C := .agg (ltrA (Rd.ltr s))) (x_ tabOk rfl rfl rfl l0_ List.not_mem_nil (Nat.le_of_ble_eq_true rfl)) rfl) rfl rfl<|e_ (n_ (L' := ltrA (Rd.ltr s)) tabOk rfl rfl rfl u1_ rfl (Nat.le_of_ble_eq_true rfl) rfl (by exact t_ rfl)) rfl rfl ?_
 refine g_<|c_<|m_<|f_ (rs := [.cell 2 81]) rfl (RV.cell rfl (RV.cellA tabOk rfl rfl l1_ (by rfl)) RV.nil) (()) (sk_ (sk_ sr_)) ?_
 exact rfl
set_option maxHeartbeats 4000000 in
theorem lparse_s (hl : m.length ≤ 10000000) : Spec Tryz.prog 29 [byt m] [] (fun _ : Unit => []) (fun _ => .tup [.agg (parseL m).1.abs, int (parseL m).2]) := by
 have hL : lots = 100000000000 := rfl
 have hof : (Rd.of m).l = m := rfl
 have q1 := (Rd.of m).fixed_length 8
 have q2 := ((Rd.of m).fixed 8).fixed_length 8
 rw [hof] at q1
 have q3 := bN_ (Rd.lgH m) 16
 have q4 := cQ_ (Rd.lgH m) 16
 have q5 : (Rd.lgH m).l.length ≤ m.length := by unfold Rd.lgH; omega
 have w1 := gg_ (one := Rd.ltr) eK_ ((Rd.lgH m).countN 16) ((Rd.lgH m).count 16) []
 have w2 : (Rd.lgL m).2.l.length ≤ m.length := by unfold Rd.lgL; omega
 have w3 := bN_ (Rd.lgL m).2 4
 have w4 := cQ_ (Rd.lgL m).2 4
 have w5 := gg_ (one := Rd.oc) dn_ ((Rd.lgL m).2.countN 4) ((Rd.lgL m).2.count 4) []
 have w6 : (Rd.lgO m).2.l.length ≤ m.length := by unfold Rd.lgO; omega
 refine F_ Tryz.func29 rfl Tryz.ntmps29 rfl fun G w =>d_<|a_<|eb_ (H_ tabOk rfl) rfl rfl fun b2=>?_
 refine q_ 1 rfl<|g_<|c_<|d_<|a_<|q_ 1 rfl<|s_ (read_s (l := m) (by omega)) Casts.refl (by kernel_rfl) rfl rfl rfl ?_
 refine bB_ (by repeat first|exact .nil|refine .blk (by repeat first|assumption|exact m0_|apply m1_) ?_|refine .rd (by repeat first|assumption|exact m0_|apply m1_) ?_|refine .pc (by repeat first|assumption|exact m0_|apply m1_) ?_|refine .rdpc (by repeat first|assumption|exact m0_|apply m1_) ?_) (fun _ => rfl) ?_
 intro p9
 refine q_ 1 rfl<|g_<|c_<|d_<|a_<|q_ 1 rfl<|s_ (a8_ (s := Rd.of m) (n := 8) (by rw [hof]; omega) rfl) Casts.refl (by kernel_rfl) rfl rfl rfl ?_
 refine A_ rfl i0_ (fun _ => rfl)<|fun _=>⟨_, u0_, b_ (l_ (C := int (IntKind.i64.wrap ((Rd.of m).num 8 : Nat))) (Z_ rfl Tryz.underlying2 (by kernel_rfl)) rfl) rfl rfl ?_⟩
 refine q_ 1 rfl<|s_ (a8_ (s := (Rd.of m).fixed 8) (n := 8) (by omega) rfl) Casts.refl (by kernel_rfl) rfl rfl rfl ?_
 refine A_ rfl i0_ (fun _ => rfl)<|fun _=>⟨_, u0_, b_ (l_ (C := int (IntKind.i64.wrap (((Rd.of m).fixed 8).num 8 : Nat))) (Z_ rfl Tryz.underlying2 (by kernel_rfl)) rfl) rfl rfl ?_⟩
 refine b_ (D_ (L := [int (IntKind.i64.wrap ((Rd.of m).num 8 : Nat)), int (IntKind.i64.wrap (((Rd.of m).fixed 8).num 8 : Nat)), .v (.slice none 0 0), .v (.slice none 0 0)]) tabOk rfl rfl rfl rfl) rfl rfl<|eb_ (H_ tabOk rfl) rfl rfl fun b5=>?_
 refine e_ (n_ (L' := [int (IntKind.i64.wrap ((Rd.of m).num 8 : Nat)), int (IntKind.i64.wrap (((Rd.of m).fixed 8).num 8 : Nat)), .v (.slice none 0 0), .v (.slice none 0 0)]) tabOk rfl rfl rfl u0_ rfl (Nat.le_of_ble_eq_true rfl) rfl (by exact t_ rfl)) rfl rfl ?_
 refine g_<|c_<|d_<|d_<|a_<|q_ 1 rfl<|s_ (kZ_ (s := Rd.lgH m) (n := 16) (by omega)) Casts.refl (by kernel_rfl) rfl rfl rfl ?_
 refine A_ rfl i1_ (fun _ => rfl)<|fun _=>⟨_, u1_, q_ 1 rfl<|g_<|c_<|y_<|br_ 81 6<|ae_ (ι := Rd × List Ltr × Nat × Value) (fun z => [own 81 6 z.2.2.2 (z.2.1.map ltrA), .blk b5 30 [int (IntKind.i64.wrap ((Rd.of m).num 8 : Nat)), int (IntKind.i64.wrap (((Rd.of m).fixed 8).num 8 : Nat)), .v z.2.2.2, .v (.slice none 0 0)], rdA TR p9 z.1, .blk b2 30 [int 0, int 0, .v (.slice none 0 0), .v (.slice none 0 0)]]) (fun z => [(2, ptr b2), (4, ptr p9), (5, ptr b5), (18, int (((Rd.lgH m).countN 16) : Nat)), (19, int (z.2.2.1 : Nat))]) (fun z => z.2.2.1 ≤ ((Rd.lgH m).countN 16) ∧ z.1.l.length ≤ m.length ∧ z.2.1.length = z.2.2.1 ∧ Rd.allG Rd.ltr Rd.l6 (((Rd.lgH m).countN 16) - z.2.2.1) z.1 z.2.1 = Rd.allG Rd.ltr Rd.l6 ((Rd.lgH m).countN 16) ((Rd.lgH m).count 16) []) (fun z => ((Rd.lgH m).countN 16) - z.2.2.1) (((Rd.lgH m).count 16), [], 0, .slice none 0 0) (⟨Nat.zero_le _, by dsimp only; omega, rfl, rfl⟩) (by exact ⟨rfl, rfl, rfl, rfl, rfl, trivial⟩) sr_ ?_⟩
 intro z hz
 refine d_<|a_<|q_ 1 rfl<|g_<|c_<|d_<|o_ rfl ?_ ?_
 ·intro hc20
  have n9 := eK_ z.1
  refine p_<|c_<|d_<|y_<|aa_ (z.2.2.2.ownBlock.toList ++ [p9, b5]) (.q 0 (.q 2 (.two 1 3 (.e 3 (.e 4 (.e 5 (.q 6 (.e 7 .nil))))) (.two 1 4 (.e 4 (.e 5 (.q 6 (.e 7 .nil)))) (.e 1 (.e 5 (.q 6 (.e 7 .nil)))))))) (by kernel_rfl) (by kernel_rfl) ?_
  refine hx_ fun hx9 =>qx_ 2 hx9 rfl<|aR_ ?_ ?_
  ·skip
   refine aU_ rfl (i_ tabOk rfl rfl l1_ List.not_mem_nil (by rfl)) rfl rfl ?_
   refine I_ rfl (dY_ (s := z.1) (by omega)) (by simp [mids, It.mids]) Casts.refl (by kernel_rfl) rfl rfl rfl ?_
   refine A_ rfl i2_ (fun _ => rfl)<|fun _=>⟨_, u2_, ex_ rfl (T_ tabOk Tryz.underlying27 rfl rfl rfl rfl rfl rfl rfl) (by simp) rfl rfl ?_⟩
   refine bd_ [b5] rfl (L_ (zs := (z.2.1 ++ [Rd.ltr z.1]).map ltrA) tabOk [] (by rw [List.map_append]; rfl) Tryz.underlying27 rfl rfl rfl rfl rfl rfl (by intro c hc; rw [List.mem_singleton] at hc; subst hc; rfl) (by unfold maxLen; simp only [List.length_map, List.length_cons, List.length_nil]; omega) (by rw [show Tryz.prog.bytesOf 81 = 72 by kernel_rfl]; simp only [List.length_map, List.length_cons, List.length_nil]; omega)) (fun k hk => List.mem_append_left _ hk) (by simp) rfl rfl ?_
   rintro _ _ ⟨r26, rfl, rfl⟩
   refine hx_ fun hx9 =>qx_ 1 hx9 rfl<|ex_ rfl (ag_ tabOk rfl rfl rfl rfl i0_ u1_ rfl rfl) (by simp) rfl rfl ?_
   refine Q_<|u_<|c_<|a_<|b_ (C_ rfl rfl (by simp only [InR, lo, hi]; omega)) rfl rfl ?_
   refine q_ 1 rfl<|g_<|G_ (Rd.l6 z.1, z.2.1 ++ [Rd.ltr z.1], z.2.2.1 + 1, r26) (by (dsimp only; omega)) (⟨by dsimp only; omega, by dsimp only; omega, by dsimp only; rw [List.length_append, hz.2.2.1]; rfl, by
    rw [← hz.2.2.2]
    obtain ⟨j, hj⟩ : ∃ j, ((Rd.lgH m).countN 16) - z.2.2.1 = j + 1 := ⟨((Rd.lgH m).countN 16) - z.2.2.1 - 1, by omega⟩
    rw [hj]
    show Rd.allG Rd.ltr Rd.l6 (((Rd.lgH m).countN 16) - (z.2.2.1 + 1)) _ _ = Rd.allG Rd.ltr Rd.l6 (j + 1) _ _
    rw [show ((Rd.lgH m).countN 16) - (z.2.2.1 + 1) = j by omega]
    rfl⟩) (by exact ⟨rfl, rfl, rfl, rfl, rfl, trivial⟩) sr_
  skip
  refine I_ rfl (dY_ (s := z.1) (by omega)) (by simp [mids, It.mids]) Casts.refl (by kernel_rfl) rfl rfl rfl ?_
  refine A_ rfl i2_ (fun _ => rfl)<|fun _=>⟨_, u2_, aR_ ?_ ?_⟩
  ·skip
   refine aU_ rfl (i_ tabOk rfl rfl l1_ List.not_mem_nil (by rfl)) rfl rfl ?_
   refine ex_ rfl (T_ tabOk Tryz.underlying27 rfl rfl rfl rfl rfl rfl rfl) (by simp) rfl rfl ?_
   refine bd_ [b5] rfl (L_ (zs := (z.2.1 ++ [Rd.ltr z.1]).map ltrA) tabOk [] (by rw [List.map_append]; rfl) Tryz.underlying27 rfl rfl rfl rfl rfl rfl (by intro c hc; rw [List.mem_singleton] at hc; subst hc; rfl) (by unfold maxLen; simp only [List.length_map, List.length_cons, List.length_nil]; omega) (by rw [show Tryz.prog.bytesOf 81 = 72 by kernel_rfl]; simp only [List.length_map, List.length_cons, List.length_nil]; omega)) (fun k hk => List.mem_append_left _ hk) (by simp) rfl rfl ?_
   rintro _ _ ⟨r26, rfl, rfl⟩
   refine hx_ fun hx9 =>qx_ 1 hx9 rfl<|ex_ rfl (ag_ tabOk rfl rfl rfl rfl i0_ u1_ rfl rfl) (by simp) rfl rfl ?_
   refine Q_<|u_<|c_<|a_<|b_ (C_ rfl rfl (by simp only [InR, lo, hi]; omega)) rfl rfl ?_
   refine q_ 1 rfl<|g_<|G_ (Rd.l6 z.1, z.2.1 ++ [Rd.ltr z.1], z.2.2.1 + 1, r26) (by (dsimp only; omega)) (⟨by dsimp only; omega, by dsimp only; omega, by dsimp only; rw [List.length_append, hz.2.2.1]; rfl, by
    rw [← hz.2.2.2]
    obtain ⟨j, hj⟩ : ∃ j, ((Rd.lgH m).countN 16) - z.2.2.1 = j + 1 := ⟨((Rd.lgH m).countN 16) - z.2.2.1 - 1, by omega⟩
    rw [hj]
    show Rd.allG Rd.ltr Rd.l6 (((Rd.lgH m).countN 16) - (z.2.2.1 + 1)) _ _ = Rd.allG Rd.ltr Rd.l6 (j + 1) _ _
    rw [show ((Rd.lgH m).countN 16) - (z.2.2.1 + 1) = j by omega]
    rfl⟩) (by exact ⟨rfl, rfl, rfl, rfl, rfl, trivial⟩) sr_
  skip
  refine ex_ rfl (T_ tabOk Tryz.underlying27 rfl rfl rfl rfl rfl rfl rfl) (by simp) rfl rfl ?_
  refine aU_ rfl (i_ tabOk rfl rfl l1_ List.not_mem_nil (by rfl)) rfl rfl ?_
  refine bd_ [b5] rfl (L_ (zs := (z.2.1 ++ [Rd.ltr z.1]).map ltrA) tabOk [] (by rw [List.map_append]; rfl) Tryz.underlying27 rfl rfl rfl rfl rfl rfl (by intro c hc; rw [List.mem_singleton] at hc; subst hc; rfl) (by unfold maxLen; simp only [List.length_map, List.length_cons, List.length_nil]; omega) (by rw [show Tryz.prog.bytesOf 81 = 72 by kernel_rfl]; simp only [List.length_map, List.length_cons, List.length_nil]; omega)) (fun k hk => List.mem_append_left _ hk) (by simp) rfl rfl ?_
  rintro _ _ ⟨r26, rfl, rfl⟩
  refine hx_ fun hx9 =>qx_ 1 hx9 rfl<|ex_ rfl (ag_ tabOk rfl rfl rfl rfl i0_ u1_ rfl rfl) (by simp) rfl rfl ?_
  refine Q_<|u_<|c_<|a_<|b_ (C_ rfl rfl (by simp only [InR, lo, hi]; omega)) rfl rfl ?_
  refine q_ 1 rfl<|g_<|G_ (Rd.l6 z.1, z.2.1 ++ [Rd.ltr z.1], z.2.2.1 + 1, r26) (by (dsimp only; omega)) (⟨by dsimp only; omega, by dsimp only; omega, by dsimp only; rw [List.length_append, hz.2.2.1]; rfl, by
   rw [← hz.2.2.2]
   obtain ⟨j, hj⟩ : ∃ j, ((Rd.lgH m).countN 16) - z.2.2.1 = j + 1 := ⟨((Rd.lgH m).countN 16) - z.2.2.1 - 1, by omega⟩
   rw [hj]
   show Rd.allG Rd.ltr Rd.l6 (((Rd.lgH m).countN 16) - (z.2.2.1 + 1)) _ _ = Rd.allG Rd.ltr Rd.l6 (j + 1) _ _
   rw [show ((Rd.lgH m).countN 16) - (z.2.2.1 + 1) = j by omega]
   rfl⟩) (by exact ⟨rfl, rfl, rfl, rfl, rfl, trivial⟩) sr_
 intro hc20
 refine W_<|h_ nofun<|h_ nofun<|V_<|c_<|d_<|d_ ?_
 have hzz : (z.2.1, z.1) = Rd.lgL m := by
  unfold Rd.lgL
  rw [← hz.2.2.2, show ((Rd.lgH m).countN 16) - z.2.2.1 = 0 by omega]
  rfl
 have hzA := congrArg Prod.fst hzz
 have hzS := congrArg Prod.snd hzz
 dsimp only at hzA hzS
 refine cX_ [] 2 rfl u0_ rfl ?_
 rw [hzA, hzS]
 refine a_<|q_ 1 rfl<|s_ (kZ_ (s := (Rd.lgL m).2) (n := 4) (by omega)) Casts.refl (by kernel_rfl) rfl rfl rfl ?_
 refine A_ rfl i1_ (fun _ => rfl)<|fun _=>⟨_, u1_, q_ 1 rfl<|g_<|c_<|y_<|br_ 40 3<|ae_ (ι := Rd × List Oc × Nat × Value) (fun z => [own 40 3 z.2.2.2 (z.2.1.map Oc.abs), .blk b5 30 [int (IntKind.i64.wrap ((Rd.of m).num 8 : Nat)), int (IntKind.i64.wrap (((Rd.of m).fixed 8).num 8 : Nat)), ltrsA (Rd.lgL m).1, .v z.2.2.2], rdA TR p9 z.1, .blk b2 30 [int 0, int 0, .v (.slice none 0 0), .v (.slice none 0 0)]]) (fun z => [(2, ptr b2), (4, ptr p9), (5, ptr b5), (30, int (((Rd.lgL m).2.countN 4) : Nat)), (31, int (z.2.2.1 : Nat))]) (fun z => z.2.2.1 ≤ ((Rd.lgL m).2.countN 4) ∧ z.1.l.length ≤ m.length ∧ z.2.1.length = z.2.2.1 ∧ Rd.allG Rd.oc Rd.o3 (((Rd.lgL m).2.countN 4) - z.2.2.1) z.1 z.2.1 = Rd.allG Rd.oc Rd.o3 ((Rd.lgL m).2.countN 4) ((Rd.lgL m).2.count 4) []) (fun z => ((Rd.lgL m).2.countN 4) - z.2.2.1) (((Rd.lgL m).2.count 4), [], 0, .slice none 0 0) (⟨Nat.zero_le _, by dsimp only; omega, rfl, rfl⟩) (by exact ⟨rfl, rfl, rfl, rfl, rfl, trivial⟩) sr_ ?_⟩
 intro z hz
 refine d_<|a_<|q_ 1 rfl<|g_<|c_<|d_<|o_ rfl ?_ ?_
 rotate_left
 ·intro hc32
  refine W_<|h_ nofun<|h_ nofun<|V_<|c_<|d_<|d_ ?_
  have hzz : (z.2.1, z.1) = Rd.lgO m := by
   unfold Rd.lgO
   rw [← hz.2.2.2, show ((Rd.lgL m).2.countN 4) - z.2.2.1 = 0 by omega]
   rfl
  have hzA := congrArg Prod.fst hzz
  have hzS := congrArg Prod.snd hzz
  dsimp only at hzA hzS
  refine cX_ [] 3 rfl u0_ rfl ?_
  rw [hzA, hzS]
  refine a_<|q_ 1 rfl<|s_ (end_s (s := (Rd.lgO m).2)) Casts.refl (by kernel_rfl) rfl rfl rfl ?_
  refine A_ rfl i1_ (fun _ => rfl)<|fun _=>⟨_, u1_, q_ 2 rfl<|z_ (t := 54) rfl ?_ ?_⟩
  ·intro hc54
   refine q_ 4 rfl<|g_<|c_<|M_ rfl<|d_<|a_<|b_ (D_ tabOk rfl rfl rfl rfl) rfl rfl<|e_ (n_ (L' := [int 0, int 0, .v (.slice none 0 0), .v (.slice none 0 0)]) tabOk rfl rfl rfl u2_ rfl (Nat.le_of_ble_eq_true rfl) rfl (by exact t_ rfl)) rfl rfl ?_
   refine q_ 1 rfl<|g_<|c_<|m_<|h_ nofun<|fC_ (rs := [.cell 2 30, .tmp 3]) rfl (RV.cell rfl (RV.cellA tabOk rfl rfl l2_ (by rfl)) (RV.tmp rfl RV.nil)) (Casts.cons (as_ (Casts.keep (Casts.keep (Casts.nils (s := 6) (Casts.nils (s := 3) Casts.refl))))) Casts.refl) (()) sn_ ?_
   have e : parseL m = (Lg.zero, 2) := if_pos (by
    exact .inl (by assumption))
   rw [e]
   rfl
  intro hc54
  refine b_ (l_ (C := .agg (Rd.lg m).abs) (x_ tabOk rfl rfl rfl l0_ List.not_mem_nil (Nat.le_of_ble_eq_true rfl)) rfl) rfl rfl<|s_ (iB_ (l := Rd.lg m) (wrap_i64 _)) Casts.refl (by kernel_rfl) rfl rfl rfl ?_
  refine ap_<|fun _=>q_ 2 rfl<|g_<|c_<|o_ rfl ?_ ?_
  ·intro hc58
   refine d_<|a_<|b_ (D_ tabOk rfl rfl rfl rfl) rfl rfl<|e_ (n_ (L' := [int 0, int 0, .v (.slice none 0 0), .v (.slice none 0 0)]) tabOk rfl rfl rfl u2_ rfl (Nat.le_of_ble_eq_true rfl) rfl (by exact t_ rfl)) rfl rfl ?_
   refine q_ 1 rfl<|g_<|c_<|m_<|h_ nofun<|fC_ (rs := [.cell 2 30, .tmp 3]) rfl (RV.cell rfl (RV.cellA tabOk rfl rfl l2_ (by rfl)) (RV.tmp rfl RV.nil)) (Casts.cons (as_ (Casts.keep (Casts.keep (Casts.nils (s := 6) (Casts.nils (s := 3) Casts.refl))))) Casts.refl) (()) sn_ ?_
   have e : parseL m = (Lg.zero, 2) := if_pos (by
    exact .inr (fun h => by have h9 : (Rd.lg m).chk = 0 := if_pos h; exact absurd h9 (by assumption)))
   rw [e]
   rfl
  intro hc58
  refine p_<|c_<|d_<|a_<|b_ (l_ (C := .agg (Rd.lg m).abs) (x_ tabOk rfl rfl rfl l0_ List.not_mem_nil (Nat.le_of_ble_eq_true rfl)) rfl) rfl rfl<|e_ (n_ (L' := (Rd.lg m).abs) tabOk rfl rfl rfl u2_ rfl (Nat.le_of_ble_eq_true rfl) rfl (by exact t_ rfl)) rfl rfl ?_
  refine q_ 1 rfl<|g_<|c_<|m_<|f_ (rs := [.cell 2 30, .tmp 3]) rfl (RV.cell rfl (RV.cellA tabOk rfl rfl l2_ (by rfl)) (RV.tmp rfl RV.nil)) (()) sn_ ?_
  have hk : (Rd.lg m).chk = 0 := Classical.not_not.1 hc58
  have e : parseL m = (Rd.lg m, 0) := if_neg (by
   rintro (h | h)
   ·exact hc54 h
   unfold Lg.chk at hk
   rw [if_neg h] at hk
   cases hk)
  rw [e]
  rfl
 intro hc32
 have n9 := dn_ z.1
 have n7 := z.1.fixed_length 1
 have n8 := (z.1.fixed 1).fixed_length 8
 refine p_<|c_<|d_<|y_<|d_<|a_<|q_ 1 rfl<|s_ (a8_ (s := z.1) (n := 1) (by omega) rfl) Casts.refl (by kernel_rfl) rfl rfl rfl ?_
 refine A_ rfl i2_ (fun _ => rfl)<|fun _=>⟨_, u2_, b_ (l_ (C := int (IntKind.i64.wrap (z.1.num 1 : Nat))) (Z_ rfl Tryz.underlying3 (by kernel_rfl)) rfl) rfl rfl ?_⟩
 refine q_ 1 rfl<|g_<|c_<|d_<|a_<|q_ 1 rfl<|s_ (a8_ (s := (z.1.fixed 1)) (n := 8) (by omega) rfl) Casts.refl (by kernel_rfl) rfl rfl rfl ?_
 refine A_ rfl i2_ (fun _ => rfl)<|fun _=>⟨_, u2_, b_ (l_ (C := int (IntKind.i64.wrap ((z.1.fixed 1).num 8 : Nat))) (Z_ rfl Tryz.underlying2 (by kernel_rfl)) rfl) rfl rfl ?_⟩
 refine q_ 1 rfl<|g_<|c_<|aa_ (z.2.2.2.ownBlock.toList ++ [p9, b5]) (.q 0 (.q 2 (.q 3 (.q 4 (.two 1 5 (.e 5 (.q 6 (.q 7 (.e 8 (.e 9 (.q 10 (.e 11 .nil))))))) (.q 6 (.q 7 (.two 1 8 (.e 8 (.e 9 (.q 10 (.e 11 .nil)))) (.e 1 (.e 9 (.q 10 (.e 11 .nil)))))))))))) (by kernel_rfl) (by kernel_rfl) ?_
 refine hx_ fun hx9 =>qx_ 4 hx9 rfl<|aR_ ?_ ?_
 ·skip
  refine aU_ rfl (i_ tabOk rfl rfl l1_ List.not_mem_nil (by rfl)) rfl rfl ?_
  refine I_ rfl (a8_ (s := ((z.1.fixed 1).fixed 8)) (n := 1) (by omega) rfl) (by simp [mids, It.mids]) Casts.refl (by kernel_rfl) rfl rfl rfl ?_
  refine A_ rfl i2_ (fun _ => rfl)<|fun _=>⟨_, u2_, hx_ fun hx9 =>r_ rfl (l_ (C := int (IntKind.i64.wrap (((z.1.fixed 1).fixed 8).num 1 : Nat))) (Z_ rfl Tryz.underlying35 (by kernel_rfl)) rfl) hx9 rfl rfl ?_⟩
  refine r_ rfl (D_ (L := Oc.abs (Rd.oc z.1)) tabOk rfl rfl rfl rfl) hx9 rfl rfl<|ex_ rfl (T_ tabOk Tryz.underlying28 rfl rfl rfl rfl rfl rfl rfl) (by simp) rfl rfl ?_
  refine bd_ [b5] rfl (L_ (zs := (z.2.1 ++ [(Rd.oc z.1)]).map Oc.abs) tabOk [] (by rw [List.map_append]; rfl) Tryz.underlying28 rfl rfl rfl rfl rfl rfl (by intro c hc; rw [List.mem_singleton] at hc; subst hc; rfl) (by unfold maxLen; simp only [List.length_map, List.length_cons, List.length_nil]; omega) (by rw [show Tryz.prog.bytesOf 40 = 24 by kernel_rfl]; simp only [List.length_map, List.length_cons, List.length_nil]; omega)) (fun k hk => List.mem_append_left _ hk) (by simp) rfl rfl ?_
  rintro _ _ ⟨r48, rfl, rfl⟩
  refine hx_ fun hx9 =>qx_ 1 hx9 rfl<|ex_ rfl (ag_ tabOk rfl rfl rfl rfl i0_ u1_ rfl rfl) (by simp) rfl rfl ?_
  refine Q_<|u_<|c_<|a_<|b_ (C_ rfl rfl (by simp only [InR, lo, hi]; omega)) rfl rfl ?_
  refine q_ 1 rfl<|g_<|G_ (Rd.o3 z.1, z.2.1 ++ [(Rd.oc z.1)], z.2.2.1 + 1, r48) (by (dsimp only; omega)) (⟨by dsimp only; omega, by dsimp only; omega, by dsimp only; rw [List.length_append, hz.2.2.1]; rfl, by
   rw [← hz.2.2.2]
   obtain ⟨j, hj⟩ : ∃ j, ((Rd.lgL m).2.countN 4) - z.2.2.1 = j + 1 := ⟨((Rd.lgL m).2.countN 4) - z.2.2.1 - 1, by omega⟩
   rw [hj]
   show Rd.allG Rd.oc Rd.o3 (((Rd.lgL m).2.countN 4) - (z.2.2.1 + 1)) _ _ = Rd.allG Rd.oc Rd.o3 (j + 1) _ _
   rw [show ((Rd.lgL m).2.countN 4) - (z.2.2.1 + 1) = j by omega]
   rfl⟩) (by exact ⟨rfl, rfl, rfl, rfl, rfl, trivial⟩) sr_
 skip
 refine I_ rfl (a8_ (s := ((z.1.fixed 1).fixed 8)) (n := 1) (by omega) rfl) (by simp [mids, It.mids]) Casts.refl (by kernel_rfl) rfl rfl rfl ?_
 refine A_ rfl i2_ (fun _ => rfl)<|fun _=>⟨_, u2_, hx_ fun hx9 =>r_ rfl (l_ (C := int (IntKind.i64.wrap (((z.1.fixed 1).fixed 8).num 1 : Nat))) (Z_ rfl Tryz.underlying35 (by kernel_rfl)) rfl) hx9 rfl rfl ?_⟩
 refine r_ rfl (D_ (L := Oc.abs (Rd.oc z.1)) tabOk rfl rfl rfl rfl) hx9 rfl rfl<|aR_ ?_ ?_
 ·skip
  refine aU_ rfl (i_ tabOk rfl rfl l1_ List.not_mem_nil (by rfl)) rfl rfl ?_
  refine ex_ rfl (T_ tabOk Tryz.underlying28 rfl rfl rfl rfl rfl rfl rfl) (by simp) rfl rfl ?_
  refine bd_ [b5] rfl (L_ (zs := (z.2.1 ++ [(Rd.oc z.1)]).map Oc.abs) tabOk [] (by rw [List.map_append]; rfl) Tryz.underlying28 rfl rfl rfl rfl rfl rfl (by intro c hc; rw [List.mem_singleton] at hc; subst hc; rfl) (by unfold maxLen; simp only [List.length_map, List.length_cons, List.length_nil]; omega) (by rw [show Tryz.prog.bytesOf 40 = 24 by kernel_rfl]; simp only [List.length_map, List.length_cons, List.length_nil]; omega)) (fun k hk => List.mem_append_left _ hk) (by simp) rfl rfl ?_
  rintro _ _ ⟨r48, rfl, rfl⟩
  refine hx_ fun hx9 =>qx_ 1 hx9 rfl<|ex_ rfl (ag_ tabOk rfl rfl rfl rfl i0_ u1_ rfl rfl) (by simp) rfl rfl ?_
  refine Q_<|u_<|c_<|a_<|b_ (C_ rfl rfl (by simp only [InR, lo, hi]; omega)) rfl rfl ?_
  refine q_ 1 rfl<|g_<|G_ (Rd.o3 z.1, z.2.1 ++ [(Rd.oc z.1)], z.2.2.1 + 1, r48) (by (dsimp only; omega)) (⟨by dsimp only; omega, by dsimp only; omega, by dsimp only; rw [List.length_append, hz.2.2.1]; rfl, by
   rw [← hz.2.2.2]
   obtain ⟨j, hj⟩ : ∃ j, ((Rd.lgL m).2.countN 4) - z.2.2.1 = j + 1 := ⟨((Rd.lgL m).2.countN 4) - z.2.2.1 - 1, by omega⟩
   rw [hj]
   show Rd.allG Rd.oc Rd.o3 (((Rd.lgL m).2.countN 4) - (z.2.2.1 + 1)) _ _ = Rd.allG Rd.oc Rd.o3 (j + 1) _ _
   rw [show ((Rd.lgL m).2.countN 4) - (z.2.2.1 + 1) = j by omega]
   rfl⟩) (by exact ⟨rfl, rfl, rfl, rfl, rfl, trivial⟩) sr_
 skip
 refine ex_ rfl (T_ tabOk Tryz.underlying28 rfl rfl rfl rfl rfl rfl rfl) (by simp) rfl rfl ?_
 refine aU_ rfl (i_ tabOk rfl rfl l1_ List.not_mem_nil (by rfl)) rfl rfl ?_
 refine bd_ [b5] rfl (L_ (zs := (z.2.1 ++ [(Rd.oc z.1)]).map Oc.abs) tabOk [] (by rw [List.map_append]; rfl) Tryz.underlying28 rfl rfl rfl rfl rfl rfl (by intro c hc; rw [List.mem_singleton] at hc; subst hc; rfl) (by unfold maxLen; simp only [List.length_map, List.length_cons, List.length_nil]; omega) (by rw [show Tryz.prog.bytesOf 40 = 24 by kernel_rfl]; simp only [List.length_map, List.length_cons, List.length_nil]; omega)) (fun k hk => List.mem_append_left _ hk) (by simp) rfl rfl ?_
 rintro _ _ ⟨r48, rfl, rfl⟩
 refine hx_ fun hx9 =>qx_ 1 hx9 rfl<|ex_ rfl (ag_ tabOk rfl rfl rfl rfl i0_ u1_ rfl rfl) (by simp) rfl rfl ?_
 refine Q_<|u_<|c_<|a_<|b_ (C_ rfl rfl (by simp only [InR, lo, hi]; omega)) rfl rfl ?_
 refine q_ 1 rfl<|g_<|G_ (Rd.o3 z.1, z.2.1 ++ [(Rd.oc z.1)], z.2.2.1 + 1, r48) (by (dsimp only; omega)) (⟨by dsimp only; omega, by dsimp only; omega, by dsimp only; rw [List.length_append, hz.2.2.1]; rfl, by
  rw [← hz.2.2.2]
  obtain ⟨j, hj⟩ : ∃ j, ((Rd.lgL m).2.countN 4) - z.2.2.1 = j + 1 := ⟨((Rd.lgL m).2.countN 4) - z.2.2.1 - 1, by omega⟩
  rw [hj]
  show Rd.allG Rd.oc Rd.o3 (((Rd.lgL m).2.countN 4) - (z.2.2.1 + 1)) _ _ = Rd.allG Rd.oc Rd.o3 (j + 1) _ _
  rw [show ((Rd.lgL m).2.countN 4) - (z.2.2.1 + 1) = j by omega]
  rfl⟩) (by exact ⟨rfl, rfl, rfl, rfl, rfl, trivial⟩) sr_
end
section
variable {l : Lg} {x y : Ltr} {o q : Oc} {a b c k n : Int} {ls : List Ltr} {os : List Oc} {m : List UInt8}
set_option maxHeartbeats 8000000 in
theorem jX_ (hl : m.length ≤ 10000000) : Spec Tryz.prog 42 [byt m] [] (fun _ : Unit => []) (fun _ => .tup [.agg (rparseL m).1.abs, boo (rparseL m).2]) := by
 have hL : lots = 100000000000 := rfl
 have hof : (Rd.of m).l = m := rfl
 have q1 := (Rd.of m).fixed_length 8
 have q2 := ((Rd.of m).fixed 8).fixed_length 8
 rw [hof] at q1
 have q3 := bN_ (Rd.lgH m) 16
 have q4 := cQ_ (Rd.lgH m) 16
 have q5 : (Rd.lgH m).l.length ≤ m.length := by unfold Rd.lgH; omega
 have w1 := el_ (one := Rd.ltr) eK_ ((Rd.lgH m).countN 16) ((Rd.lgH m).count 16) []
 have w2 : (Rd.rlgL m).2.l.length ≤ m.length := by unfold Rd.rlgL; omega
 have w3 := bN_ (Rd.rlgL m).2 4
 have w4 := cQ_ (Rd.rlgL m).2 4
 have w5 := el_ (one := Rd.oc) dn_ ((Rd.rlgL m).2.countN 4) ((Rd.rlgL m).2.count 4) []
 have w6 : (Rd.rlgO m).2.l.length ≤ m.length := by unfold Rd.rlgO; omega
 refine F_ Tryz.func42 rfl Tryz.ntmps42 rfl fun G w =>d_<|a_<|eb_ (H_ tabOk rfl) rfl rfl fun b2=>?_
 refine q_ 1 rfl<|g_<|c_<|d_<|a_<|q_ 1 rfl<|b_ (D_ tabOk rfl rfl rfl rfl) rfl rfl<|eb_ (R_ rfl) rfl rfl fun b11=>?_
 refine q_ 1 rfl<|g_<|c_<|d_<|a_<|q_ 1 rfl<|s_ (au_ (s := Rd.of m) (n := 8) (by rw [hof]; omega) rfl) Casts.refl (by kernel_rfl) rfl rfl rfl ?_
 refine A_ rfl i0_ (fun _ => rfl)<|fun _=>⟨_, u0_, b_ (l_ (C := int (IntKind.i64.wrap ((Rd.of m).num 8 : Nat))) (Z_ rfl Tryz.underlying2 (by kernel_rfl)) rfl) rfl rfl ?_⟩
 refine q_ 1 rfl<|s_ (au_ (s := (Rd.of m).fixed 8) (n := 8) (by omega) rfl) Casts.refl (by kernel_rfl) rfl rfl rfl ?_
 refine A_ rfl i0_ (fun _ => rfl)<|fun _=>⟨_, u0_, b_ (l_ (C := int (IntKind.i64.wrap (((Rd.of m).fixed 8).num 8 : Nat))) (Z_ rfl Tryz.underlying2 (by kernel_rfl)) rfl) rfl rfl ?_⟩
 refine b_ (D_ (L := [int (IntKind.i64.wrap ((Rd.of m).num 8 : Nat)), int (IntKind.i64.wrap (((Rd.of m).fixed 8).num 8 : Nat)), .v (.slice none 0 0), .v (.slice none 0 0)]) tabOk rfl rfl rfl rfl) rfl rfl<|eb_ (H_ tabOk rfl) rfl rfl fun b5=>?_
 refine e_ (n_ (L' := [int (IntKind.i64.wrap ((Rd.of m).num 8 : Nat)), int (IntKind.i64.wrap (((Rd.of m).fixed 8).num 8 : Nat)), .v (.slice none 0 0), .v (.slice none 0 0)]) tabOk rfl rfl rfl u0_ rfl (Nat.le_of_ble_eq_true rfl) rfl (by exact t_ rfl)) rfl rfl ?_
 refine g_<|c_<|a1_ (ι := Value) (fun x9 => [own 81 6 x9 ((Rd.rlgL m).1.map ltrA), .blk b5 30 [int (IntKind.i64.wrap ((Rd.of m).num 8 : Nat)), int (IntKind.i64.wrap (((Rd.of m).fixed 8).num 8 : Nat)), .v x9, .v (.slice none 0 0)], rdA RR b11 (Rd.rlgL m).2, .blk b2 30 [int 0, int 0, .v (.slice none 0 0), .v (.slice none 0 0)]]) (fun x9 => [(2, ptr b2), (4, ptr b11), (5, ptr b5)]) (fun x9 => True) ?_ ?_
 ·skip
  refine d_<|a_<|q_ 1 rfl<|s_ (in_ (s := Rd.lgH m) (n := 16) (by omega)) Casts.refl (by kernel_rfl) rfl rfl rfl ?_
  refine A_ rfl i1_ (fun _ => rfl)<|fun _=>⟨_, u1_, q_ 1 rfl<|g_<|c_<|y_<|br_ 81 6<|ae_ (ι := Rd × List Ltr × Nat × Value) (fun z => [own 81 6 z.2.2.2 (z.2.1.map ltrA), .blk b5 30 [int (IntKind.i64.wrap ((Rd.of m).num 8 : Nat)), int (IntKind.i64.wrap (((Rd.of m).fixed 8).num 8 : Nat)), .v z.2.2.2, .v (.slice none 0 0)], rdA RR b11 z.1, .blk b2 30 [int 0, int 0, .v (.slice none 0 0), .v (.slice none 0 0)]]) (fun z => [(2, ptr b2), (4, ptr b11), (5, ptr b5), (6, int (z.2.2.1 : Nat))]) (fun z => z.1.l.length ≤ m.length ∧ z.2.1.length + z.2.2.1 = ((Rd.lgH m).countN 16) ∧ Rd.tillG Rd.ltr Rd.l6 z.2.2.1 z.1 z.2.1 = Rd.tillG Rd.ltr Rd.l6 ((Rd.lgH m).countN 16) ((Rd.lgH m).count 16) []) (fun z => z.2.2.1) (((Rd.lgH m).count 16), [], ((Rd.lgH m).countN 16), .slice none 0 0) (⟨by dsimp only; omega, Nat.zero_add _, rfl⟩) (by exact ⟨rfl, rfl, rfl, rfl, trivial⟩) sr_ ?_⟩
  intro z hz
  refine d_<|d_<|a_<|q_ 3 rfl<|z_ (t := 23) rfl ?_ ?_
  rotate_left
  ·intro hc23
   refine q_ 6 rfl<|g_<|c_<|ad_ rfl<|W_<|h_ nofun<|h_ nofun<|V_ ?_
   have hzz : (z.2.1, z.1) = Rd.rlgL m := by
    unfold Rd.rlgL
    rw [← hz.2.2]
    (rw [show z.2.2.1 = 0 by omega]; rfl)
   have hzA := congrArg Prod.fst hzz
   have hzS := congrArg Prod.snd hzz
   dsimp only at hzA hzS
   refine ab_ (z.2.2.2) (trivial) (by exact ⟨rfl, rfl, rfl, trivial⟩) (by rw [← hzA, ← hzS]; repeat (first | exact List.nil_sublist _ | exact List.Sublist.refl _ | apply List.Sublist.cons_cons | apply List.Sublist.cons))
  intro hc23
  refine q_ 3 rfl<|b_ (i_ tabOk rfl rfl l2_ List.not_mem_nil rfl) rfl rfl<|q_ 2 rfl<|g_<|c_<|o_ rfl ?_ ?_
  rotate_left
  ·intro hc29
   refine W_<|h_ nofun<|h_ nofun<|V_ ?_
   have hzz : (z.2.1, z.1) = Rd.rlgL m := by
    unfold Rd.rlgL
    rw [← hz.2.2]
    exact (di_ (by simpa using hc29) _).symm
   have hzA := congrArg Prod.fst hzz
   have hzS := congrArg Prod.snd hzz
   dsimp only at hzA hzS
   refine ab_ (z.2.2.2) (trivial) (by exact ⟨rfl, rfl, rfl, trivial⟩) (by rw [← hzA, ← hzS]; repeat (first | exact List.nil_sublist _ | exact List.Sublist.refl _ | apply List.Sublist.cons_cons | apply List.Sublist.cons))
  intro hc29
  have n1 := Rd.row_length z.1 16
  have n2 := (Rd.l1 z.1).fixed_length 1
  have n3 := (Rd.l2 z.1).fixed_length 8
  have n4 := (Rd.l3 z.1).fixed_length 8
  have n5 := Rd.row_length (Rd.l4 z.1) 200
  have n6 := Rd.row_length (Rd.l5 z.1) 200
  have m1 : (Rd.l1 z.1).l.length ≤ z.1.l.length := n1
  have m2 : (Rd.l2 z.1).l.length ≤ (Rd.l1 z.1).l.length := n2
  have m3 : (Rd.l3 z.1).l.length ≤ (Rd.l2 z.1).l.length := n3
  have m4 : (Rd.l4 z.1).l.length ≤ (Rd.l3 z.1).l.length := n4
  have m5 : (Rd.l5 z.1).l.length ≤ (Rd.l4 z.1).l.length := n5
  have m6 : (Rd.l6 z.1).l.length ≤ (Rd.l5 z.1).l.length := n6
  refine p_<|c_<|d_<|y_<|d_<|aa_ [b11] (.q 0 (.q 3 (.q 6 (.q 9 (.q 12 (.q 15 (.two 1 19 (.q 2 (.two 4 19 (.q 5 (.two 7 19 (.q 8 (.two 10 19 (.q 11 (.two 13 19 (.q 14 (.two 16 19 (.q 17 (.q 18 (.e 19 (.e 20 .nil)))) (.e 16 (.q 17 (.q 18 (.e 20 .nil)))))) (.e 13 (.q 14 (.e 16 (.q 17 (.q 18 (.e 20 .nil)))))))) (.e 10 (.q 11 (.e 13 (.q 14 (.e 16 (.q 17 (.q 18 (.e 20 .nil)))))))))) (.e 7 (.q 8 (.e 10 (.q 11 (.e 13 (.q 14 (.e 16 (.q 17 (.q 18 (.e 20 .nil)))))))))))) (.e 4 (.q 5 (.e 7 (.q 8 (.e 10 (.q 11 (.e 13 (.q 14 (.e 16 (.q 17 (.q 18 (.e 20 .nil)))))))))))))) (.e 1 (.q 2 (.e 4 (.q 5 (.e 7 (.q 8 (.e 10 (.q 11 (.e 13 (.q 14 (.e 16 (.q 17 (.q 18 (.e 20 .nil))))))))))))))))))))) (by kernel_rfl) (by kernel_rfl) ?_
  refine hx_ fun hx9 =>qx_ 6 hx9 rfl<|aR_ ?_ ?_
  ·skip
   refine I_ rfl (bp_ (s := z.1) (n := 16) (by omega) (by omega)) (by simp [mids, It.mids]) Casts.refl (by kernel_rfl) rfl rfl rfl ?_
   refine A_ rfl i2_ (fun _ => rfl)<|fun _=>⟨_, u2_, hx_ fun hx9 =>r_ rfl (aq_ rfl) hx9 rfl rfl<|aR_ ?_ ?_⟩
   ·skip
    refine I_ rfl (au_ (s := (Rd.l1 z.1)) (n := 1) (by omega) rfl) (by simp [mids, It.mids]) Casts.refl (by kernel_rfl) rfl rfl rfl ?_
    refine A_ rfl i2_ (fun _ => rfl)<|fun _=>⟨_, u2_, hx_ fun hx9 =>r_ rfl (l_ (C := int (IntKind.i64.wrap ((Rd.l1 z.1).num 1 : Nat))) (Z_ rfl Tryz.underlying3 (by kernel_rfl)) rfl) hx9 rfl rfl ?_⟩
    refine aR_ ?_ ?_
    ·skip
     refine I_ rfl (au_ (s := (Rd.l2 z.1)) (n := 8) (by omega) rfl) (by simp [mids, It.mids]) Casts.refl (by kernel_rfl) rfl rfl rfl ?_
     refine A_ rfl i2_ (fun _ => rfl)<|fun _=>⟨_, u2_, hx_ fun hx9 =>r_ rfl (l_ (C := int (IntKind.i64.wrap ((Rd.l2 z.1).num 8 : Nat))) (Z_ rfl Tryz.underlying2 (by kernel_rfl)) rfl) hx9 rfl rfl ?_⟩
     refine aR_ ?_ ?_
     ·skip
      refine I_ rfl (au_ (s := (Rd.l3 z.1)) (n := 8) (by omega) rfl) (by simp [mids, It.mids]) Casts.refl (by kernel_rfl) rfl rfl rfl ?_
      refine A_ rfl i2_ (fun _ => rfl)<|fun _=>⟨_, u2_, hx_ fun hx9 =>r_ rfl (l_ (C := int (IntKind.i64.wrap ((Rd.l3 z.1).num 8 : Nat))) (Z_ rfl Tryz.underlying2 (by kernel_rfl)) rfl) hx9 rfl rfl ?_⟩
      refine aR_ ?_ ?_
      ·skip
       refine I_ rfl (bp_ (s := (Rd.l4 z.1)) (n := 200) (by omega) (by omega)) (by simp [mids, It.mids]) Casts.refl (by kernel_rfl) rfl rfl rfl ?_
       refine A_ rfl i2_ (fun _ => rfl)<|fun _=>⟨_, u2_, hx_ fun hx9 =>r_ rfl (aq_ rfl) hx9 rfl rfl<|aR_ ?_ ?_⟩
       ·skip
        refine I_ rfl (bp_ (s := (Rd.l5 z.1)) (n := 200) (by omega) (by omega)) (by simp [mids, It.mids]) Casts.refl (by kernel_rfl) rfl rfl rfl ?_
        refine A_ rfl i2_ (fun _ => rfl)<|fun _=>⟨_, u2_, hx_ fun hx9 =>r_ rfl (aq_ rfl) hx9 rfl rfl<|r_ rfl (D_ (L := [st (mkS (z.1.rowOut 16)), int (IntKind.i64.wrap ((Rd.l1 z.1).num 1 : Nat)), int (IntKind.i64.wrap ((Rd.l2 z.1).num 8 : Nat)), int (IntKind.i64.wrap ((Rd.l3 z.1).num 8 : Nat)), st (mkS ((Rd.l4 z.1).rowOut 200)), st (mkS ((Rd.l5 z.1).rowOut 200))]) tabOk rfl rfl rfl rfl) hx9 rfl rfl<|aM_ tabOk rfl rfl rfl rfl fun b7 =>ex_ rfl (n_ (L' := [st (mkS (z.1.rowOut 16)), int (IntKind.i64.wrap ((Rd.l1 z.1).num 1 : Nat)), int (IntKind.i64.wrap ((Rd.l2 z.1).num 8 : Nat)), int (IntKind.i64.wrap ((Rd.l3 z.1).num 8 : Nat)), st (mkS ((Rd.l4 z.1).rowOut 200)), st (mkS ((Rd.l5 z.1).rowOut 200))]) tabOk rfl rfl rfl u0_ rfl (Nat.le_of_ble_eq_true rfl) rfl (by exact t_ rfl)) (by simp) rfl rfl ?_⟩
        refine Q_<|c_<|a_<|q_ 1 rfl<|b_ (i_ tabOk rfl rfl l2_ List.not_mem_nil rfl) rfl rfl<|b_ (l_ (C := .agg (ltrA (Rd.ltr z.1))) (x_ tabOk rfl rfl rfl l0_ List.not_mem_nil (Nat.le_of_ble_eq_true rfl)) rfl) rfl rfl<|e_ (T_ tabOk Tryz.underlying27 rfl rfl rfl rfl rfl rfl rfl) rfl rfl<|eb_ (L_ (zs := (z.2.1 ++ [Rd.ltr z.1]).map ltrA) tabOk [_] (by rw [List.map_append]; rfl) Tryz.underlying27 rfl rfl rfl rfl rfl rfl (by intro c hc; rw [List.mem_singleton] at hc; subst hc; rfl) (by unfold maxLen; simp only [List.length_map, List.length_cons, List.length_nil]; omega) (by rw [show Tryz.prog.bytesOf 81 = 72 by kernel_rfl]; simp only [List.length_map, List.length_cons, List.length_nil]; omega)) rfl rfl fun r55=>?_
        refine q_ 1 rfl<|e_ (ag_ tabOk rfl rfl rfl rfl i1_ u2_ rfl rfl) rfl rfl<|g_<|u_<|c_<|a_<|q_ 1 rfl<|b_ (aC_ rfl rfl (by simp only [InR, lo, hi]; omega)) rfl rfl ?_
        refine q_ 1 rfl<|g_<|G_ (Rd.l6 z.1, z.2.1 ++ [Rd.ltr z.1], z.2.2.1 - 1, r55) (by (dsimp only; omega)) (⟨by dsimp only; omega, by dsimp only; rw [List.length_append, List.length_singleton]; omega, by
         rw [← hz.2.2]
         obtain ⟨j, hj⟩ : ∃ j, z.2.2.1 = j + 1 := ⟨z.2.2.1 - 1, by omega⟩
         show Rd.tillG Rd.ltr Rd.l6 (z.2.2.1 - 1) _ _ = Rd.tillG Rd.ltr Rd.l6 z.2.2.1 _ _
         rw [hj, Nat.add_sub_cancel]
         show _ = (if z.1.e ≠ 0 then _ else _)
         rw [if_neg (by simpa using hc29)]⟩) ⟨rfl, rfl, rfl, (by show some (Abs.v (Value.int _ ((z.2.2.1 : Int) - 1))) = some (Abs.v (Value.int _ ((z.2.2.1 - 1 : Nat) : Int))); congr 3; omega), trivial⟩ (sk_ sr_)
       skip
       refine aM_ tabOk rfl rfl rfl rfl fun b7 =>I_ rfl (bp_ (s := (Rd.l5 z.1)) (n := 200) (by omega) (by omega)) (by simp [mids, It.mids]) Casts.refl (by kernel_rfl) rfl rfl rfl ?_
       refine A_ rfl i3_ (fun _ => rfl)<|fun _=>⟨_, u3_, hx_ fun hx9 =>r_ rfl (aq_ rfl) hx9 rfl rfl<|r_ rfl (D_ (L := [st (mkS (z.1.rowOut 16)), int (IntKind.i64.wrap ((Rd.l1 z.1).num 1 : Nat)), int (IntKind.i64.wrap ((Rd.l2 z.1).num 8 : Nat)), int (IntKind.i64.wrap ((Rd.l3 z.1).num 8 : Nat)), st (mkS ((Rd.l4 z.1).rowOut 200)), st (mkS ((Rd.l5 z.1).rowOut 200))]) tabOk rfl rfl rfl rfl) hx9 rfl rfl<|ex_ rfl (n_ (L' := [st (mkS (z.1.rowOut 16)), int (IntKind.i64.wrap ((Rd.l1 z.1).num 1 : Nat)), int (IntKind.i64.wrap ((Rd.l2 z.1).num 8 : Nat)), int (IntKind.i64.wrap ((Rd.l3 z.1).num 8 : Nat)), st (mkS ((Rd.l4 z.1).rowOut 200)), st (mkS ((Rd.l5 z.1).rowOut 200))]) tabOk rfl rfl rfl u0_ rfl (Nat.le_of_ble_eq_true rfl) rfl (by exact t_ rfl)) (by simp) rfl rfl ?_⟩
       refine Q_<|c_<|a_<|q_ 1 rfl<|b_ (i_ tabOk rfl rfl l2_ List.not_mem_nil rfl) rfl rfl<|b_ (l_ (C := .agg (ltrA (Rd.ltr z.1))) (x_ tabOk rfl rfl rfl l0_ List.not_mem_nil (Nat.le_of_ble_eq_true rfl)) rfl) rfl rfl<|e_ (T_ tabOk Tryz.underlying27 rfl rfl rfl rfl rfl rfl rfl) rfl rfl<|eb_ (L_ (zs := (z.2.1 ++ [Rd.ltr z.1]).map ltrA) tabOk [_] (by rw [List.map_append]; rfl) Tryz.underlying27 rfl rfl rfl rfl rfl rfl (by intro c hc; rw [List.mem_singleton] at hc; subst hc; rfl) (by unfold maxLen; simp only [List.length_map, List.length_cons, List.length_nil]; omega) (by rw [show Tryz.prog.bytesOf 81 = 72 by kernel_rfl]; simp only [List.length_map, List.length_cons, List.length_nil]; omega)) rfl rfl fun r55=>?_
       refine q_ 1 rfl<|e_ (ag_ tabOk rfl rfl rfl rfl i1_ u2_ rfl rfl) rfl rfl<|g_<|u_<|c_<|a_<|q_ 1 rfl<|b_ (aC_ rfl rfl (by simp only [InR, lo, hi]; omega)) rfl rfl ?_
       refine q_ 1 rfl<|g_<|G_ (Rd.l6 z.1, z.2.1 ++ [Rd.ltr z.1], z.2.2.1 - 1, r55) (by (dsimp only; omega)) (⟨by dsimp only; omega, by dsimp only; rw [List.length_append, List.length_singleton]; omega, by
        rw [← hz.2.2]
        obtain ⟨j, hj⟩ : ∃ j, z.2.2.1 = j + 1 := ⟨z.2.2.1 - 1, by omega⟩
        show Rd.tillG Rd.ltr Rd.l6 (z.2.2.1 - 1) _ _ = Rd.tillG Rd.ltr Rd.l6 z.2.2.1 _ _
        rw [hj, Nat.add_sub_cancel]
        show _ = (if z.1.e ≠ 0 then _ else _)
        rw [if_neg (by simpa using hc29)]⟩) ⟨rfl, rfl, rfl, (by show some (Abs.v (Value.int _ ((z.2.2.1 : Int) - 1))) = some (Abs.v (Value.int _ ((z.2.2.1 - 1 : Nat) : Int))); congr 3; omega), trivial⟩ (sk_ sr_)
      skip
      refine aM_ tabOk rfl rfl rfl rfl fun b7 =>I_ rfl (bp_ (s := (Rd.l4 z.1)) (n := 200) (by omega) (by omega)) (by simp [mids, It.mids]) Casts.refl (by kernel_rfl) rfl rfl rfl ?_
      refine A_ rfl i3_ (fun _ => rfl)<|fun _=>⟨_, u3_, hx_ fun hx9 =>r_ rfl (aq_ rfl) hx9 rfl rfl<|I_ rfl (bp_ (s := (Rd.l5 z.1)) (n := 200) (by omega) (by omega)) (by simp [mids, It.mids]) Casts.refl (by kernel_rfl) rfl rfl rfl ?_⟩
      refine A_ rfl i3_ (fun _ => rfl)<|fun _=>⟨_, u3_, hx_ fun hx9 =>r_ rfl (aq_ rfl) hx9 rfl rfl<|r_ rfl (D_ (L := [st (mkS (z.1.rowOut 16)), int (IntKind.i64.wrap ((Rd.l1 z.1).num 1 : Nat)), int (IntKind.i64.wrap ((Rd.l2 z.1).num 8 : Nat)), int (IntKind.i64.wrap ((Rd.l3 z.1).num 8 : Nat)), st (mkS ((Rd.l4 z.1).rowOut 200)), st (mkS ((Rd.l5 z.1).rowOut 200))]) tabOk rfl rfl rfl rfl) hx9 rfl rfl<|ex_ rfl (n_ (L' := [st (mkS (z.1.rowOut 16)), int (IntKind.i64.wrap ((Rd.l1 z.1).num 1 : Nat)), int (IntKind.i64.wrap ((Rd.l2 z.1).num 8 : Nat)), int (IntKind.i64.wrap ((Rd.l3 z.1).num 8 : Nat)), st (mkS ((Rd.l4 z.1).rowOut 200)), st (mkS ((Rd.l5 z.1).rowOut 200))]) tabOk rfl rfl rfl u0_ rfl (Nat.le_of_ble_eq_true rfl) rfl (by exact t_ rfl)) (by simp) rfl rfl ?_⟩
      refine Q_<|c_<|a_<|q_ 1 rfl<|b_ (i_ tabOk rfl rfl l2_ List.not_mem_nil rfl) rfl rfl<|b_ (l_ (C := .agg (ltrA (Rd.ltr z.1))) (x_ tabOk rfl rfl rfl l0_ List.not_mem_nil (Nat.le_of_ble_eq_true rfl)) rfl) rfl rfl<|e_ (T_ tabOk Tryz.underlying27 rfl rfl rfl rfl rfl rfl rfl) rfl rfl<|eb_ (L_ (zs := (z.2.1 ++ [Rd.ltr z.1]).map ltrA) tabOk [_] (by rw [List.map_append]; rfl) Tryz.underlying27 rfl rfl rfl rfl rfl rfl (by intro c hc; rw [List.mem_singleton] at hc; subst hc; rfl) (by unfold maxLen; simp only [List.length_map, List.length_cons, List.length_nil]; omega) (by rw [show Tryz.prog.bytesOf 81 = 72 by kernel_rfl]; simp only [List.length_map, List.length_cons, List.length_nil]; omega)) rfl rfl fun r55=>?_
      refine q_ 1 rfl<|e_ (ag_ tabOk rfl rfl rfl rfl i1_ u2_ rfl rfl) rfl rfl<|g_<|u_<|c_<|a_<|q_ 1 rfl<|b_ (aC_ rfl rfl (by simp only [InR, lo, hi]; omega)) rfl rfl ?_
      refine q_ 1 rfl<|g_<|G_ (Rd.l6 z.1, z.2.1 ++ [Rd.ltr z.1], z.2.2.1 - 1, r55) (by (dsimp only; omega)) (⟨by dsimp only; omega, by dsimp only; rw [List.length_append, List.length_singleton]; omega, by
       rw [← hz.2.2]
       obtain ⟨j, hj⟩ : ∃ j, z.2.2.1 = j + 1 := ⟨z.2.2.1 - 1, by omega⟩
       show Rd.tillG Rd.ltr Rd.l6 (z.2.2.1 - 1) _ _ = Rd.tillG Rd.ltr Rd.l6 z.2.2.1 _ _
       rw [hj, Nat.add_sub_cancel]
       show _ = (if z.1.e ≠ 0 then _ else _)
       rw [if_neg (by simpa using hc29)]⟩) ⟨rfl, rfl, rfl, (by show some (Abs.v (Value.int _ ((z.2.2.1 : Int) - 1))) = some (Abs.v (Value.int _ ((z.2.2.1 - 1 : Nat) : Int))); congr 3; omega), trivial⟩ (sk_ sr_)
     skip
     refine aM_ tabOk rfl rfl rfl rfl fun b7 =>I_ rfl (au_ (s := (Rd.l3 z.1)) (n := 8) (by omega) rfl) (by simp [mids, It.mids]) Casts.refl (by kernel_rfl) rfl rfl rfl ?_
     refine A_ rfl i3_ (fun _ => rfl)<|fun _=>⟨_, u3_, hx_ fun hx9 =>r_ rfl (l_ (C := int (IntKind.i64.wrap ((Rd.l3 z.1).num 8 : Nat))) (Z_ rfl Tryz.underlying2 (by kernel_rfl)) rfl) hx9 rfl rfl ?_⟩
     refine I_ rfl (bp_ (s := (Rd.l4 z.1)) (n := 200) (by omega) (by omega)) (by simp [mids, It.mids]) Casts.refl (by kernel_rfl) rfl rfl rfl ?_
     refine A_ rfl i3_ (fun _ => rfl)<|fun _=>⟨_, u3_, hx_ fun hx9 =>r_ rfl (aq_ rfl) hx9 rfl rfl<|I_ rfl (bp_ (s := (Rd.l5 z.1)) (n := 200) (by omega) (by omega)) (by simp [mids, It.mids]) Casts.refl (by kernel_rfl) rfl rfl rfl ?_⟩
     refine A_ rfl i3_ (fun _ => rfl)<|fun _=>⟨_, u3_, hx_ fun hx9 =>r_ rfl (aq_ rfl) hx9 rfl rfl<|r_ rfl (D_ (L := [st (mkS (z.1.rowOut 16)), int (IntKind.i64.wrap ((Rd.l1 z.1).num 1 : Nat)), int (IntKind.i64.wrap ((Rd.l2 z.1).num 8 : Nat)), int (IntKind.i64.wrap ((Rd.l3 z.1).num 8 : Nat)), st (mkS ((Rd.l4 z.1).rowOut 200)), st (mkS ((Rd.l5 z.1).rowOut 200))]) tabOk rfl rfl rfl rfl) hx9 rfl rfl<|ex_ rfl (n_ (L' := [st (mkS (z.1.rowOut 16)), int (IntKind.i64.wrap ((Rd.l1 z.1).num 1 : Nat)), int (IntKind.i64.wrap ((Rd.l2 z.1).num 8 : Nat)), int (IntKind.i64.wrap ((Rd.l3 z.1).num 8 : Nat)), st (mkS ((Rd.l4 z.1).rowOut 200)), st (mkS ((Rd.l5 z.1).rowOut 200))]) tabOk rfl rfl rfl u0_ rfl (Nat.le_of_ble_eq_true rfl) rfl (by exact t_ rfl)) (by simp) rfl rfl ?_⟩
     refine Q_<|c_<|a_<|q_ 1 rfl<|b_ (i_ tabOk rfl rfl l2_ List.not_mem_nil rfl) rfl rfl<|b_ (l_ (C := .agg (ltrA (Rd.ltr z.1))) (x_ tabOk rfl rfl rfl l0_ List.not_mem_nil (Nat.le_of_ble_eq_true rfl)) rfl) rfl rfl<|e_ (T_ tabOk Tryz.underlying27 rfl rfl rfl rfl rfl rfl rfl) rfl rfl<|eb_ (L_ (zs := (z.2.1 ++ [Rd.ltr z.1]).map ltrA) tabOk [_] (by rw [List.map_append]; rfl) Tryz.underlying27 rfl rfl rfl rfl rfl rfl (by intro c hc; rw [List.mem_singleton] at hc; subst hc; rfl) (by unfold maxLen; simp only [List.length_map, List.length_cons, List.length_nil]; omega) (by rw [show Tryz.prog.bytesOf 81 = 72 by kernel_rfl]; simp only [List.length_map, List.length_cons, List.length_nil]; omega)) rfl rfl fun r55=>?_
     refine q_ 1 rfl<|e_ (ag_ tabOk rfl rfl rfl rfl i1_ u2_ rfl rfl) rfl rfl<|g_<|u_<|c_<|a_<|q_ 1 rfl<|b_ (aC_ rfl rfl (by simp only [InR, lo, hi]; omega)) rfl rfl ?_
     refine q_ 1 rfl<|g_<|G_ (Rd.l6 z.1, z.2.1 ++ [Rd.ltr z.1], z.2.2.1 - 1, r55) (by (dsimp only; omega)) (⟨by dsimp only; omega, by dsimp only; rw [List.length_append, List.length_singleton]; omega, by
      rw [← hz.2.2]
      obtain ⟨j, hj⟩ : ∃ j, z.2.2.1 = j + 1 := ⟨z.2.2.1 - 1, by omega⟩
      show Rd.tillG Rd.ltr Rd.l6 (z.2.2.1 - 1) _ _ = Rd.tillG Rd.ltr Rd.l6 z.2.2.1 _ _
      rw [hj, Nat.add_sub_cancel]
      show _ = (if z.1.e ≠ 0 then _ else _)
      rw [if_neg (by simpa using hc29)]⟩) ⟨rfl, rfl, rfl, (by show some (Abs.v (Value.int _ ((z.2.2.1 : Int) - 1))) = some (Abs.v (Value.int _ ((z.2.2.1 - 1 : Nat) : Int))); congr 3; omega), trivial⟩ (sk_ sr_)
    skip
    refine aM_ tabOk rfl rfl rfl rfl fun b7 =>I_ rfl (au_ (s := (Rd.l2 z.1)) (n := 8) (by omega) rfl) (by simp [mids, It.mids]) Casts.refl (by kernel_rfl) rfl rfl rfl ?_
    refine A_ rfl i3_ (fun _ => rfl)<|fun _=>⟨_, u3_, hx_ fun hx9 =>r_ rfl (l_ (C := int (IntKind.i64.wrap ((Rd.l2 z.1).num 8 : Nat))) (Z_ rfl Tryz.underlying2 (by kernel_rfl)) rfl) hx9 rfl rfl ?_⟩
    refine I_ rfl (au_ (s := (Rd.l3 z.1)) (n := 8) (by omega) rfl) (by simp [mids, It.mids]) Casts.refl (by kernel_rfl) rfl rfl rfl ?_
    refine A_ rfl i3_ (fun _ => rfl)<|fun _=>⟨_, u3_, hx_ fun hx9 =>r_ rfl (l_ (C := int (IntKind.i64.wrap ((Rd.l3 z.1).num 8 : Nat))) (Z_ rfl Tryz.underlying2 (by kernel_rfl)) rfl) hx9 rfl rfl ?_⟩
    refine I_ rfl (bp_ (s := (Rd.l4 z.1)) (n := 200) (by omega) (by omega)) (by simp [mids, It.mids]) Casts.refl (by kernel_rfl) rfl rfl rfl ?_
    refine A_ rfl i3_ (fun _ => rfl)<|fun _=>⟨_, u3_, hx_ fun hx9 =>r_ rfl (aq_ rfl) hx9 rfl rfl<|I_ rfl (bp_ (s := (Rd.l5 z.1)) (n := 200) (by omega) (by omega)) (by simp [mids, It.mids]) Casts.refl (by kernel_rfl) rfl rfl rfl ?_⟩
    refine A_ rfl i3_ (fun _ => rfl)<|fun _=>⟨_, u3_, hx_ fun hx9 =>r_ rfl (aq_ rfl) hx9 rfl rfl<|r_ rfl (D_ (L := [st (mkS (z.1.rowOut 16)), int (IntKind.i64.wrap ((Rd.l1 z.1).num 1 : Nat)), int (IntKind.i64.wrap ((Rd.l2 z.1).num 8 : Nat)), int (IntKind.i64.wrap ((Rd.l3 z.1).num 8 : Nat)), st (mkS ((Rd.l4 z.1).rowOut 200)), st (mkS ((Rd.l5 z.1).rowOut 200))]) tabOk rfl rfl rfl rfl) hx9 rfl rfl<|ex_ rfl (n_ (L' := [st (mkS (z.1.rowOut 16)), int (IntKind.i64.wrap ((Rd.l1 z.1).num 1 : Nat)), int (IntKind.i64.wrap ((Rd.l2 z.1).num 8 : Nat)), int (IntKind.i64.wrap ((Rd.l3 z.1).num 8 : Nat)), st (mkS ((Rd.l4 z.1).rowOut 200)), st (mkS ((Rd.l5 z.1).rowOut 200))]) tabOk rfl rfl rfl u0_ rfl (Nat.le_of_ble_eq_true rfl) rfl (by exact t_ rfl)) (by simp) rfl rfl ?_⟩
    refine Q_<|c_<|a_<|q_ 1 rfl<|b_ (i_ tabOk rfl rfl l2_ List.not_mem_nil rfl) rfl rfl<|b_ (l_ (C := .agg (ltrA (Rd.ltr z.1))) (x_ tabOk rfl rfl rfl l0_ List.not_mem_nil (Nat.le_of_ble_eq_true rfl)) rfl) rfl rfl<|e_ (T_ tabOk Tryz.underlying27 rfl rfl rfl rfl rfl rfl rfl) rfl rfl<|eb_ (L_ (zs := (z.2.1 ++ [Rd.ltr z.1]).map ltrA) tabOk [_] (by rw [List.map_append]; rfl) Tryz.underlying27 rfl rfl rfl rfl rfl rfl (by intro c hc; rw [List.mem_singleton] at hc; subst hc; rfl) (by unfold maxLen; simp only [List.length_map, List.length_cons, List.length_nil]; omega) (by rw [show Tryz.prog.bytesOf 81 = 72 by kernel_rfl]; simp only [List.length_map, List.length_cons, List.length_nil]; omega)) rfl rfl fun r55=>?_
    refine q_ 1 rfl<|e_ (ag_ tabOk rfl rfl rfl rfl i1_ u2_ rfl rfl) rfl rfl<|g_<|u_<|c_<|a_<|q_ 1 rfl<|b_ (aC_ rfl rfl (by simp only [InR, lo, hi]; omega)) rfl rfl ?_
    refine q_ 1 rfl<|g_<|G_ (Rd.l6 z.1, z.2.1 ++ [Rd.ltr z.1], z.2.2.1 - 1, r55) (by (dsimp only; omega)) (⟨by dsimp only; omega, by dsimp only; rw [List.length_append, List.length_singleton]; omega, by
     rw [← hz.2.2]
     obtain ⟨j, hj⟩ : ∃ j, z.2.2.1 = j + 1 := ⟨z.2.2.1 - 1, by omega⟩
     show Rd.tillG Rd.ltr Rd.l6 (z.2.2.1 - 1) _ _ = Rd.tillG Rd.ltr Rd.l6 z.2.2.1 _ _
     rw [hj, Nat.add_sub_cancel]
     show _ = (if z.1.e ≠ 0 then _ else _)
     rw [if_neg (by simpa using hc29)]⟩) ⟨rfl, rfl, rfl, (by show some (Abs.v (Value.int _ ((z.2.2.1 : Int) - 1))) = some (Abs.v (Value.int _ ((z.2.2.1 - 1 : Nat) : Int))); congr 3; omega), trivial⟩ (sk_ sr_)
   skip
   refine aM_ tabOk rfl rfl rfl rfl fun b7 =>I_ rfl (au_ (s := (Rd.l1 z.1)) (n := 1) (by omega) rfl) (by simp [mids, It.mids]) Casts.refl (by kernel_rfl) rfl rfl rfl ?_
   refine A_ rfl i3_ (fun _ => rfl)<|fun _=>⟨_, u3_, hx_ fun hx9 =>r_ rfl (l_ (C := int (IntKind.i64.wrap ((Rd.l1 z.1).num 1 : Nat))) (Z_ rfl Tryz.underlying3 (by kernel_rfl)) rfl) hx9 rfl rfl ?_⟩
   refine I_ rfl (au_ (s := (Rd.l2 z.1)) (n := 8) (by omega) rfl) (by simp [mids, It.mids]) Casts.refl (by kernel_rfl) rfl rfl rfl ?_
   refine A_ rfl i3_ (fun _ => rfl)<|fun _=>⟨_, u3_, hx_ fun hx9 =>r_ rfl (l_ (C := int (IntKind.i64.wrap ((Rd.l2 z.1).num 8 : Nat))) (Z_ rfl Tryz.underlying2 (by kernel_rfl)) rfl) hx9 rfl rfl ?_⟩
   refine I_ rfl (au_ (s := (Rd.l3 z.1)) (n := 8) (by omega) rfl) (by simp [mids, It.mids]) Casts.refl (by kernel_rfl) rfl rfl rfl ?_
   refine A_ rfl i3_ (fun _ => rfl)<|fun _=>⟨_, u3_, hx_ fun hx9 =>r_ rfl (l_ (C := int (IntKind.i64.wrap ((Rd.l3 z.1).num 8 : Nat))) (Z_ rfl Tryz.underlying2 (by kernel_rfl)) rfl) hx9 rfl rfl ?_⟩
   refine I_ rfl (bp_ (s := (Rd.l4 z.1)) (n := 200) (by omega) (by omega)) (by simp [mids, It.mids]) Casts.refl (by kernel_rfl) rfl rfl rfl ?_
   refine A_ rfl i3_ (fun _ => rfl)<|fun _=>⟨_, u3_, hx_ fun hx9 =>r_ rfl (aq_ rfl) hx9 rfl rfl<|I_ rfl (bp_ (s := (Rd.l5 z.1)) (n := 200) (by omega) (by omega)) (by simp [mids, It.mids]) Casts.refl (by kernel_rfl) rfl rfl rfl ?_⟩
   refine A_ rfl i3_ (fun _ => rfl)<|fun _=>⟨_, u3_, hx_ fun hx9 =>r_ rfl (aq_ rfl) hx9 rfl rfl<|r_ rfl (D_ (L := [st (mkS (z.1.rowOut 16)), int (IntKind.i64.wrap ((Rd.l1 z.1).num 1 : Nat)), int (IntKind.i64.wrap ((Rd.l2 z.1).num 8 : Nat)), int (IntKind.i64.wrap ((Rd.l3 z.1).num 8 : Nat)), st (mkS ((Rd.l4 z.1).rowOut 200)), st (mkS ((Rd.l5 z.1).rowOut 200))]) tabOk rfl rfl rfl rfl) hx9 rfl rfl<|ex_ rfl (n_ (L' := [st (mkS (z.1.rowOut 16)), int (IntKind.i64.wrap ((Rd.l1 z.1).num 1 : Nat)), int (IntKind.i64.wrap ((Rd.l2 z.1).num 8 : Nat)), int (IntKind.i64.wrap ((Rd.l3 z.1).num 8 : Nat)), st (mkS ((Rd.l4 z.1).rowOut 200)), st (mkS ((Rd.l5 z.1).rowOut 200))]) tabOk rfl rfl rfl u0_ rfl (Nat.le_of_ble_eq_true rfl) rfl (by exact t_ rfl)) (by simp) rfl rfl ?_⟩
   refine Q_<|c_<|a_<|q_ 1 rfl<|b_ (i_ tabOk rfl rfl l2_ List.not_mem_nil rfl) rfl rfl<|b_ (l_ (C := .agg (ltrA (Rd.ltr z.1))) (x_ tabOk rfl rfl rfl l0_ List.not_mem_nil (Nat.le_of_ble_eq_true rfl)) rfl) rfl rfl<|e_ (T_ tabOk Tryz.underlying27 rfl rfl rfl rfl rfl rfl rfl) rfl rfl<|eb_ (L_ (zs := (z.2.1 ++ [Rd.ltr z.1]).map ltrA) tabOk [_] (by rw [List.map_append]; rfl) Tryz.underlying27 rfl rfl rfl rfl rfl rfl (by intro c hc; rw [List.mem_singleton] at hc; subst hc; rfl) (by unfold maxLen; simp only [List.length_map, List.length_cons, List.length_nil]; omega) (by rw [show Tryz.prog.bytesOf 81 = 72 by kernel_rfl]; simp only [List.length_map, List.length_cons, List.length_nil]; omega)) rfl rfl fun r55=>?_
   refine q_ 1 rfl<|e_ (ag_ tabOk rfl rfl rfl rfl i1_ u2_ rfl rfl) rfl rfl<|g_<|u_<|c_<|a_<|q_ 1 rfl<|b_ (aC_ rfl rfl (by simp only [InR, lo, hi]; omega)) rfl rfl ?_
   refine q_ 1 rfl<|g_<|G_ (Rd.l6 z.1, z.2.1 ++ [Rd.ltr z.1], z.2.2.1 - 1, r55) (by (dsimp only; omega)) (⟨by dsimp only; omega, by dsimp only; rw [List.length_append, List.length_singleton]; omega, by
    rw [← hz.2.2]
    obtain ⟨j, hj⟩ : ∃ j, z.2.2.1 = j + 1 := ⟨z.2.2.1 - 1, by omega⟩
    show Rd.tillG Rd.ltr Rd.l6 (z.2.2.1 - 1) _ _ = Rd.tillG Rd.ltr Rd.l6 z.2.2.1 _ _
    rw [hj, Nat.add_sub_cancel]
    show _ = (if z.1.e ≠ 0 then _ else _)
    rw [if_neg (by simpa using hc29)]⟩) ⟨rfl, rfl, rfl, (by show some (Abs.v (Value.int _ ((z.2.2.1 : Int) - 1))) = some (Abs.v (Value.int _ ((z.2.2.1 - 1 : Nat) : Int))); congr 3; omega), trivial⟩ (sk_ sr_)
  skip
  refine aM_ tabOk rfl rfl rfl rfl fun b7 =>I_ rfl (bp_ (s := z.1) (n := 16) (by omega) (by omega)) (by simp [mids, It.mids]) Casts.refl (by kernel_rfl) rfl rfl rfl ?_
  refine A_ rfl i3_ (fun _ => rfl)<|fun _=>⟨_, u3_, hx_ fun hx9 =>r_ rfl (aq_ rfl) hx9 rfl rfl<|I_ rfl (au_ (s := (Rd.l1 z.1)) (n := 1) (by omega) rfl) (by simp [mids, It.mids]) Casts.refl (by kernel_rfl) rfl rfl rfl ?_⟩
  refine A_ rfl i3_ (fun _ => rfl)<|fun _=>⟨_, u3_, hx_ fun hx9 =>r_ rfl (l_ (C := int (IntKind.i64.wrap ((Rd.l1 z.1).num 1 : Nat))) (Z_ rfl Tryz.underlying3 (by kernel_rfl)) rfl) hx9 rfl rfl ?_⟩
  refine I_ rfl (au_ (s := (Rd.l2 z.1)) (n := 8) (by omega) rfl) (by simp [mids, It.mids]) Casts.refl (by kernel_rfl) rfl rfl rfl ?_
  refine A_ rfl i3_ (fun _ => rfl)<|fun _=>⟨_, u3_, hx_ fun hx9 =>r_ rfl (l_ (C := int (IntKind.i64.wrap ((Rd.l2 z.1).num 8 : Nat))) (Z_ rfl Tryz.underlying2 (by kernel_rfl)) rfl) hx9 rfl rfl ?_⟩
  refine I_ rfl (au_ (s := (Rd.l3 z.1)) (n := 8) (by omega) rfl) (by simp [mids, It.mids]) Casts.refl (by kernel_rfl) rfl rfl rfl ?_
  refine A_ rfl i3_ (fun _ => rfl)<|fun _=>⟨_, u3_, hx_ fun hx9 =>r_ rfl (l_ (C := int (IntKind.i64.wrap ((Rd.l3 z.1).num 8 : Nat))) (Z_ rfl Tryz.underlying2 (by kernel_rfl)) rfl) hx9 rfl rfl ?_⟩
  refine I_ rfl (bp_ (s := (Rd.l4 z.1)) (n := 200) (by omega) (by omega)) (by simp [mids, It.mids]) Casts.refl (by kernel_rfl) rfl rfl rfl ?_
  refine A_ rfl i3_ (fun _ => rfl)<|fun _=>⟨_, u3_, hx_ fun hx9 =>r_ rfl (aq_ rfl) hx9 rfl rfl<|I_ rfl (bp_ (s := (Rd.l5 z.1)) (n := 200) (by omega) (by omega)) (by simp [mids, It.mids]) Casts.refl (by kernel_rfl) rfl rfl rfl ?_⟩
  refine A_ rfl i3_ (fun _ => rfl)<|fun _=>⟨_, u3_, hx_ fun hx9 =>r_ rfl (aq_ rfl) hx9 rfl rfl<|r_ rfl (D_ (L := [st (mkS (z.1.rowOut 16)), int (IntKind.i64.wrap ((Rd.l1 z.1).num 1 : Nat)), int (IntKind.i64.wrap ((Rd.l2 z.1).num 8 : Nat)), int (IntKind.i64.wrap ((Rd.l3 z.1).num 8 : Nat)), st (mkS ((Rd.l4 z.1).rowOut 200)), st (mkS ((Rd.l5 z.1).rowOut 200))]) tabOk rfl rfl rfl rfl) hx9 rfl rfl<|ex_ rfl (n_ (L' := [st (mkS (z.1.rowOut 16)), int (IntKind.i64.wrap ((Rd.l1 z.1).num 1 : Nat)), int (IntKind.i64.wrap ((Rd.l2 z.1).num 8 : Nat)), int (IntKind.i64.wrap ((Rd.l3 z.1).num 8 : Nat)), st (mkS ((Rd.l4 z.1).rowOut 200)), st (mkS ((Rd.l5 z.1).rowOut 200))]) tabOk rfl rfl rfl u0_ rfl (Nat.le_of_ble_eq_true rfl) rfl (by exact t_ rfl)) (by simp) rfl rfl ?_⟩
  refine Q_<|c_<|a_<|q_ 1 rfl<|b_ (i_ tabOk rfl rfl l2_ List.not_mem_nil rfl) rfl rfl<|b_ (l_ (C := .agg (ltrA (Rd.ltr z.1))) (x_ tabOk rfl rfl rfl l0_ List.not_mem_nil (Nat.le_of_ble_eq_true rfl)) rfl) rfl rfl<|e_ (T_ tabOk Tryz.underlying27 rfl rfl rfl rfl rfl rfl rfl) rfl rfl<|eb_ (L_ (zs := (z.2.1 ++ [Rd.ltr z.1]).map ltrA) tabOk [_] (by rw [List.map_append]; rfl) Tryz.underlying27 rfl rfl rfl rfl rfl rfl (by intro c hc; rw [List.mem_singleton] at hc; subst hc; rfl) (by unfold maxLen; simp only [List.length_map, List.length_cons, List.length_nil]; omega) (by rw [show Tryz.prog.bytesOf 81 = 72 by kernel_rfl]; simp only [List.length_map, List.length_cons, List.length_nil]; omega)) rfl rfl fun r55=>?_
  refine q_ 1 rfl<|e_ (ag_ tabOk rfl rfl rfl rfl i1_ u2_ rfl rfl) rfl rfl<|g_<|u_<|c_<|a_<|q_ 1 rfl<|b_ (aC_ rfl rfl (by simp only [InR, lo, hi]; omega)) rfl rfl ?_
  refine q_ 1 rfl<|g_<|G_ (Rd.l6 z.1, z.2.1 ++ [Rd.ltr z.1], z.2.2.1 - 1, r55) (by (dsimp only; omega)) (⟨by dsimp only; omega, by dsimp only; rw [List.length_append, List.length_singleton]; omega, by
   rw [← hz.2.2]
   obtain ⟨j, hj⟩ : ∃ j, z.2.2.1 = j + 1 := ⟨z.2.2.1 - 1, by omega⟩
   show Rd.tillG Rd.ltr Rd.l6 (z.2.2.1 - 1) _ _ = Rd.tillG Rd.ltr Rd.l6 z.2.2.1 _ _
   rw [hj, Nat.add_sub_cancel]
   show _ = (if z.1.e ≠ 0 then _ else _)
   rw [if_neg (by simpa using hc29)]⟩) ⟨rfl, rfl, rfl, (by show some (Abs.v (Value.int _ ((z.2.2.1 : Int) - 1))) = some (Abs.v (Value.int _ ((z.2.2.1 - 1 : Nat) : Int))); congr 3; omega), trivial⟩ (sk_ sr_)
 intro x9 hx9
 refine cX_ [] 2 rfl u0_ rfl<|a1_ (ι := Value) (fun x9 => [own 40 3 x9 ((Rd.rlgO m).1.map Oc.abs), .blk b5 30 [int (IntKind.i64.wrap ((Rd.of m).num 8 : Nat)), int (IntKind.i64.wrap (((Rd.of m).fixed 8).num 8 : Nat)), ltrsA (Rd.rlgL m).1, .v x9], rdA RR b11 (Rd.rlgO m).2, .blk b2 30 [int 0, int 0, .v (.slice none 0 0), .v (.slice none 0 0)]]) (fun x9 => [(2, ptr b2), (4, ptr b11), (5, ptr b5)]) (fun x9 => True) ?_ ?_
 ·skip
  refine d_<|a_<|q_ 1 rfl<|s_ (in_ (s := (Rd.rlgL m).2) (n := 4) (by omega)) Casts.refl (by kernel_rfl) rfl rfl rfl ?_
  refine A_ rfl i1_ (fun _ => rfl)<|fun _=>⟨_, u1_, q_ 1 rfl<|g_<|c_<|y_<|br_ 40 3<|ae_ (ι := Rd × List Oc × Nat × Value) (fun z => [own 40 3 z.2.2.2 (z.2.1.map Oc.abs), .blk b5 30 [int (IntKind.i64.wrap ((Rd.of m).num 8 : Nat)), int (IntKind.i64.wrap (((Rd.of m).fixed 8).num 8 : Nat)), ltrsA (Rd.rlgL m).1, .v z.2.2.2], rdA RR b11 z.1, .blk b2 30 [int 0, int 0, .v (.slice none 0 0), .v (.slice none 0 0)]]) (fun z => [(2, ptr b2), (4, ptr b11), (5, ptr b5), (8, int (z.2.2.1 : Nat))]) (fun z => z.1.l.length ≤ m.length ∧ z.2.1.length + z.2.2.1 = ((Rd.rlgL m).2.countN 4) ∧ Rd.tillG Rd.oc Rd.o3 z.2.2.1 z.1 z.2.1 = Rd.tillG Rd.oc Rd.o3 ((Rd.rlgL m).2.countN 4) ((Rd.rlgL m).2.count 4) []) (fun z => z.2.2.1) (((Rd.rlgL m).2.count 4), [], ((Rd.rlgL m).2.countN 4), .slice none 0 0) (⟨by dsimp only; omega, Nat.zero_add _, rfl⟩) (by exact ⟨rfl, rfl, rfl, rfl, trivial⟩) sr_ ?_⟩
  intro z hz
  refine d_<|d_<|a_<|q_ 3 rfl<|z_ (t := 61) rfl ?_ ?_
  rotate_left
  ·intro hc61
   refine q_ 6 rfl<|g_<|c_<|ad_ rfl<|W_<|h_ nofun<|h_ nofun<|V_ ?_
   have hzz : (z.2.1, z.1) = Rd.rlgO m := by
    unfold Rd.rlgO
    rw [← hz.2.2]
    (rw [show z.2.2.1 = 0 by omega]; rfl)
   have hzA := congrArg Prod.fst hzz
   have hzS := congrArg Prod.snd hzz
   dsimp only at hzA hzS
   refine ab_ (z.2.2.2) (trivial) (by exact ⟨rfl, rfl, rfl, trivial⟩) (by rw [← hzA, ← hzS]; repeat (first | exact List.nil_sublist _ | exact List.Sublist.refl _ | apply List.Sublist.cons_cons | apply List.Sublist.cons))
  intro hc61
  refine q_ 3 rfl<|b_ (i_ tabOk rfl rfl l2_ List.not_mem_nil rfl) rfl rfl<|q_ 2 rfl<|g_<|c_<|o_ rfl ?_ ?_
  rotate_left
  ·intro hc67
   refine W_<|h_ nofun<|h_ nofun<|V_ ?_
   have hzz : (z.2.1, z.1) = Rd.rlgO m := by
    unfold Rd.rlgO
    rw [← hz.2.2]
    exact (di_ (by simpa using hc67) _).symm
   have hzA := congrArg Prod.fst hzz
   have hzS := congrArg Prod.snd hzz
   dsimp only at hzA hzS
   refine ab_ (z.2.2.2) (trivial) (by exact ⟨rfl, rfl, rfl, trivial⟩) (by rw [← hzA, ← hzS]; repeat (first | exact List.nil_sublist _ | exact List.Sublist.refl _ | apply List.Sublist.cons_cons | apply List.Sublist.cons))
  intro hc67
  have n9 := dn_ z.1
  have n7 := z.1.fixed_length 1
  have n8 := (z.1.fixed 1).fixed_length 8
  refine p_<|c_<|d_<|y_<|aa_ (z.2.2.2.ownBlock.toList ++ [b11, b5]) (.q 0 (.q 2 (.q 5 (.q 8 (.two 1 3 (.e 3 (.q 4 (.e 6 (.q 7 (.e 9 (.q 10 (.q 11 (.e 12 (.e 13 (.q 14 (.e 15 .nil))))))))))) (.q 4 (.two 1 6 (.e 6 (.q 7 (.e 9 (.q 10 (.q 11 (.e 12 (.e 13 (.q 14 (.e 15 .nil))))))))) (.q 7 (.two 1 9 (.e 9 (.q 10 (.q 11 (.e 12 (.e 13 (.q 14 (.e 15 .nil))))))) (.q 10 (.q 11 (.two 1 12 (.e 12 (.e 13 (.q 14 (.e 15 .nil)))) (.e 1 (.e 13 (.q 14 (.e 15 .nil)))))))))))))))) (by kernel_rfl) (by kernel_rfl) ?_
  refine hx_ fun hx9 =>qx_ 4 hx9 rfl<|aR_ ?_ ?_
  ·skip
   refine aU_ rfl (i_ tabOk rfl rfl l1_ List.not_mem_nil (by rfl)) rfl rfl ?_
   refine I_ rfl (au_ (s := z.1) (n := 1) (by omega) rfl) (by simp [mids, It.mids]) Casts.refl (by kernel_rfl) rfl rfl rfl ?_
   refine A_ rfl i2_ (fun _ => rfl)<|fun _=>⟨_, u2_, hx_ fun hx9 =>r_ rfl (l_ (C := int (IntKind.i64.wrap (z.1.num 1 : Nat))) (Z_ rfl Tryz.underlying3 (by kernel_rfl)) rfl) hx9 rfl rfl ?_⟩
   refine I_ rfl (au_ (s := (z.1.fixed 1)) (n := 8) (by omega) rfl) (by simp [mids, It.mids]) Casts.refl (by kernel_rfl) rfl rfl rfl ?_
   refine A_ rfl i2_ (fun _ => rfl)<|fun _=>⟨_, u2_, hx_ fun hx9 =>r_ rfl (l_ (C := int (IntKind.i64.wrap ((z.1.fixed 1).num 8 : Nat))) (Z_ rfl Tryz.underlying2 (by kernel_rfl)) rfl) hx9 rfl rfl ?_⟩
   refine I_ rfl (au_ (s := ((z.1.fixed 1).fixed 8)) (n := 1) (by omega) rfl) (by simp [mids, It.mids]) Casts.refl (by kernel_rfl) rfl rfl rfl ?_
   refine A_ rfl i2_ (fun _ => rfl)<|fun _=>⟨_, u2_, hx_ fun hx9 =>r_ rfl (l_ (C := int (IntKind.i64.wrap (((z.1.fixed 1).fixed 8).num 1 : Nat))) (Z_ rfl Tryz.underlying35 (by kernel_rfl)) rfl) hx9 rfl rfl ?_⟩
   refine r_ rfl (D_ (L := Oc.abs (Rd.oc z.1)) tabOk rfl rfl rfl rfl) hx9 rfl rfl<|ex_ rfl (T_ tabOk Tryz.underlying28 rfl rfl rfl rfl rfl rfl rfl) (by simp) rfl rfl ?_
   refine bd_ [b5] rfl (L_ (zs := (z.2.1 ++ [(Rd.oc z.1)]).map Oc.abs) tabOk [] (by rw [List.map_append]; rfl) Tryz.underlying28 rfl rfl rfl rfl rfl rfl (by intro c hc; rw [List.mem_singleton] at hc; subst hc; rfl) (by unfold maxLen; simp only [List.length_map, List.length_cons, List.length_nil]; omega) (by rw [show Tryz.prog.bytesOf 40 = 24 by kernel_rfl]; simp only [List.length_map, List.length_cons, List.length_nil]; omega)) (fun k hk => List.mem_append_left _ hk) (by simp) rfl rfl ?_
   rintro _ _ ⟨r83, rfl, rfl⟩
   refine hx_ fun hx9 =>qx_ 1 hx9 rfl<|ex_ rfl (ag_ tabOk rfl rfl rfl rfl i0_ u1_ rfl rfl) (by simp) rfl rfl ?_
   refine Q_<|u_<|c_<|a_<|q_ 1 rfl<|b_ (aC_ rfl rfl (by simp only [InR, lo, hi]; omega)) rfl rfl ?_
   refine q_ 1 rfl<|g_<|G_ (Rd.o3 z.1, z.2.1 ++ [(Rd.oc z.1)], z.2.2.1 - 1, r83) (by (dsimp only; omega)) (⟨by dsimp only; omega, by dsimp only; rw [List.length_append, List.length_singleton]; omega, by
    rw [← hz.2.2]
    obtain ⟨j, hj⟩ : ∃ j, z.2.2.1 = j + 1 := ⟨z.2.2.1 - 1, by omega⟩
    show Rd.tillG Rd.oc Rd.o3 (z.2.2.1 - 1) _ _ = Rd.tillG Rd.oc Rd.o3 z.2.2.1 _ _
    rw [hj, Nat.add_sub_cancel]
    show _ = (if z.1.e ≠ 0 then _ else _)
    rw [if_neg (by simpa using hc67)]⟩) ⟨rfl, rfl, rfl, (by show some (Abs.v (Value.int _ ((z.2.2.1 : Int) - 1))) = some (Abs.v (Value.int _ ((z.2.2.1 - 1 : Nat) : Int))); congr 3; omega), trivial⟩ sr_
  skip
  refine I_ rfl (au_ (s := z.1) (n := 1) (by omega) rfl) (by simp [mids, It.mids]) Casts.refl (by kernel_rfl) rfl rfl rfl ?_
  refine A_ rfl i2_ (fun _ => rfl)<|fun _=>⟨_, u2_, hx_ fun hx9 =>r_ rfl (l_ (C := int (IntKind.i64.wrap (z.1.num 1 : Nat))) (Z_ rfl Tryz.underlying3 (by kernel_rfl)) rfl) hx9 rfl rfl ?_⟩
  refine aR_ ?_ ?_
  ·skip
   refine aU_ rfl (i_ tabOk rfl rfl l1_ List.not_mem_nil (by rfl)) rfl rfl ?_
   refine I_ rfl (au_ (s := (z.1.fixed 1)) (n := 8) (by omega) rfl) (by simp [mids, It.mids]) Casts.refl (by kernel_rfl) rfl rfl rfl ?_
   refine A_ rfl i2_ (fun _ => rfl)<|fun _=>⟨_, u2_, hx_ fun hx9 =>r_ rfl (l_ (C := int (IntKind.i64.wrap ((z.1.fixed 1).num 8 : Nat))) (Z_ rfl Tryz.underlying2 (by kernel_rfl)) rfl) hx9 rfl rfl ?_⟩
   refine I_ rfl (au_ (s := ((z.1.fixed 1).fixed 8)) (n := 1) (by omega) rfl) (by simp [mids, It.mids]) Casts.refl (by kernel_rfl) rfl rfl rfl ?_
   refine A_ rfl i2_ (fun _ => rfl)<|fun _=>⟨_, u2_, hx_ fun hx9 =>r_ rfl (l_ (C := int (IntKind.i64.wrap (((z.1.fixed 1).fixed 8).num 1 : Nat))) (Z_ rfl Tryz.underlying35 (by kernel_rfl)) rfl) hx9 rfl rfl ?_⟩
   refine r_ rfl (D_ (L := Oc.abs (Rd.oc z.1)) tabOk rfl rfl rfl rfl) hx9 rfl rfl<|ex_ rfl (T_ tabOk Tryz.underlying28 rfl rfl rfl rfl rfl rfl rfl) (by simp) rfl rfl ?_
   refine bd_ [b5] rfl (L_ (zs := (z.2.1 ++ [(Rd.oc z.1)]).map Oc.abs) tabOk [] (by rw [List.map_append]; rfl) Tryz.underlying28 rfl rfl rfl rfl rfl rfl (by intro c hc; rw [List.mem_singleton] at hc; subst hc; rfl) (by unfold maxLen; simp only [List.length_map, List.length_cons, List.length_nil]; omega) (by rw [show Tryz.prog.bytesOf 40 = 24 by kernel_rfl]; simp only [List.length_map, List.length_cons, List.length_nil]; omega)) (fun k hk => List.mem_append_left _ hk) (by simp) rfl rfl ?_
   rintro _ _ ⟨r83, rfl, rfl⟩
   refine hx_ fun hx9 =>qx_ 1 hx9 rfl<|ex_ rfl (ag_ tabOk rfl rfl rfl rfl i0_ u1_ rfl rfl) (by simp) rfl rfl ?_
   refine Q_<|u_<|c_<|a_<|q_ 1 rfl<|b_ (aC_ rfl rfl (by simp only [InR, lo, hi]; omega)) rfl rfl ?_
   refine q_ 1 rfl<|g_<|G_ (Rd.o3 z.1, z.2.1 ++ [(Rd.oc z.1)], z.2.2.1 - 1, r83) (by (dsimp only; omega)) (⟨by dsimp only; omega, by dsimp only; rw [List.length_append, List.length_singleton]; omega, by
    rw [← hz.2.2]
    obtain ⟨j, hj⟩ : ∃ j, z.2.2.1 = j + 1 := ⟨z.2.2.1 - 1, by omega⟩
    show Rd.tillG Rd.oc Rd.o3 (z.2.2.1 - 1) _ _ = Rd.tillG Rd.oc Rd.o3 z.2.2.1 _ _
    rw [hj, Nat.add_sub_cancel]
    show _ = (if z.1.e ≠ 0 then _ else _)
    rw [if_neg (by simpa using hc67)]⟩) ⟨rfl, rfl, rfl, (by show some (Abs.v (Value.int _ ((z.2.2.1 : Int) - 1))) = some (Abs.v (Value.int _ ((z.2.2.1 - 1 : Nat) : Int))); congr 3; omega), trivial⟩ sr_
  skip
  refine I_ rfl (au_ (s := (z.1.fixed 1)) (n := 8) (by omega) rfl) (by simp [mids, It.mids]) Casts.refl (by kernel_rfl) rfl rfl rfl ?_
  refine A_ rfl i2_ (fun _ => rfl)<|fun _=>⟨_, u2_, hx_ fun hx9 =>r_ rfl (l_ (C := int (IntKind.i64.wrap ((z.1.fixed 1).num 8 : Nat))) (Z_ rfl Tryz.underlying2 (by kernel_rfl)) rfl) hx9 rfl rfl ?_⟩
  refine aR_ ?_ ?_
  ·skip
   refine aU_ rfl (i_ tabOk rfl rfl l1_ List.not_mem_nil (by rfl)) rfl rfl ?_
   refine I_ rfl (au_ (s := ((z.1.fixed 1).fixed 8)) (n := 1) (by omega) rfl) (by simp [mids, It.mids]) Casts.refl (by kernel_rfl) rfl rfl rfl ?_
   refine A_ rfl i2_ (fun _ => rfl)<|fun _=>⟨_, u2_, hx_ fun hx9 =>r_ rfl (l_ (C := int (IntKind.i64.wrap (((z.1.fixed 1).fixed 8).num 1 : Nat))) (Z_ rfl Tryz.underlying35 (by kernel_rfl)) rfl) hx9 rfl rfl ?_⟩
   refine r_ rfl (D_ (L := Oc.abs (Rd.oc z.1)) tabOk rfl rfl rfl rfl) hx9 rfl rfl<|ex_ rfl (T_ tabOk Tryz.underlying28 rfl rfl rfl rfl rfl rfl rfl) (by simp) rfl rfl ?_
   refine bd_ [b5] rfl (L_ (zs := (z.2.1 ++ [(Rd.oc z.1)]).map Oc.abs) tabOk [] (by rw [List.map_append]; rfl) Tryz.underlying28 rfl rfl rfl rfl rfl rfl (by intro c hc; rw [List.mem_singleton] at hc; subst hc; rfl) (by unfold maxLen; simp only [List.length_map, List.length_cons, List.length_nil]; omega) (by rw [show Tryz.prog.bytesOf 40 = 24 by kernel_rfl]; simp only [List.length_map, List.length_cons, List.length_nil]; omega)) (fun k hk => List.mem_append_left _ hk) (by simp) rfl rfl ?_
   rintro _ _ ⟨r83, rfl, rfl⟩
   refine hx_ fun hx9 =>qx_ 1 hx9 rfl<|ex_ rfl (ag_ tabOk rfl rfl rfl rfl i0_ u1_ rfl rfl) (by simp) rfl rfl ?_
   refine Q_<|u_<|c_<|a_<|q_ 1 rfl<|b_ (aC_ rfl rfl (by simp only [InR, lo, hi]; omega)) rfl rfl ?_
   refine q_ 1 rfl<|g_<|G_ (Rd.o3 z.1, z.2.1 ++ [(Rd.oc z.1)], z.2.2.1 - 1, r83) (by (dsimp only; omega)) (⟨by dsimp only; omega, by dsimp only; rw [List.length_append, List.length_singleton]; omega, by
    rw [← hz.2.2]
    obtain ⟨j, hj⟩ : ∃ j, z.2.2.1 = j + 1 := ⟨z.2.2.1 - 1, by omega⟩
    show Rd.tillG Rd.oc Rd.o3 (z.2.2.1 - 1) _ _ = Rd.tillG Rd.oc Rd.o3 z.2.2.1 _ _
    rw [hj, Nat.add_sub_cancel]
    show _ = (if z.1.e ≠ 0 then _ else _)
    rw [if_neg (by simpa using hc67)]⟩) ⟨rfl, rfl, rfl, (by show some (Abs.v (Value.int _ ((z.2.2.1 : Int) - 1))) = some (Abs.v (Value.int _ ((z.2.2.1 - 1 : Nat) : Int))); congr 3; omega), trivial⟩ sr_
  skip
  refine I_ rfl (au_ (s := ((z.1.fixed 1).fixed 8)) (n := 1) (by omega) rfl) (by simp [mids, It.mids]) Casts.refl (by kernel_rfl) rfl rfl rfl ?_
  refine A_ rfl i2_ (fun _ => rfl)<|fun _=>⟨_, u2_, hx_ fun hx9 =>r_ rfl (l_ (C := int (IntKind.i64.wrap (((z.1.fixed 1).fixed 8).num 1 : Nat))) (Z_ rfl Tryz.underlying35 (by kernel_rfl)) rfl) hx9 rfl rfl ?_⟩
  refine r_ rfl (D_ (L := Oc.abs (Rd.oc z.1)) tabOk rfl rfl rfl rfl) hx9 rfl rfl<|aR_ ?_ ?_
  ·skip
   refine aU_ rfl (i_ tabOk rfl rfl l1_ List.not_mem_nil (by rfl)) rfl rfl ?_
   refine ex_ rfl (T_ tabOk Tryz.underlying28 rfl rfl rfl rfl rfl rfl rfl) (by simp) rfl rfl ?_
   refine bd_ [b5] rfl (L_ (zs := (z.2.1 ++ [(Rd.oc z.1)]).map Oc.abs) tabOk [] (by rw [List.map_append]; rfl) Tryz.underlying28 rfl rfl rfl rfl rfl rfl (by intro c hc; rw [List.mem_singleton] at hc; subst hc; rfl) (by unfold maxLen; simp only [List.length_map, List.length_cons, List.length_nil]; omega) (by rw [show Tryz.prog.bytesOf 40 = 24 by kernel_rfl]; simp only [List.length_map, List.length_cons, List.length_nil]; omega)) (fun k hk => List.mem_append_left _ hk) (by simp) rfl rfl ?_
   rintro _ _ ⟨r83, rfl, rfl⟩
   refine hx_ fun hx9 =>qx_ 1 hx9 rfl<|ex_ rfl (ag_ tabOk rfl rfl rfl rfl i0_ u1_ rfl rfl) (by simp) rfl rfl ?_
   refine Q_<|u_<|c_<|a_<|q_ 1 rfl<|b_ (aC_ rfl rfl (by simp only [InR, lo, hi]; omega)) rfl rfl ?_
   refine q_ 1 rfl<|g_<|G_ (Rd.o3 z.1, z.2.1 ++ [(Rd.oc z.1)], z.2.2.1 - 1, r83) (by (dsimp only; omega)) (⟨by dsimp only; omega, by dsimp only; rw [List.length_append, List.length_singleton]; omega, by
    rw [← hz.2.2]
    obtain ⟨j, hj⟩ : ∃ j, z.2.2.1 = j + 1 := ⟨z.2.2.1 - 1, by omega⟩
    show Rd.tillG Rd.oc Rd.o3 (z.2.2.1 - 1) _ _ = Rd.tillG Rd.oc Rd.o3 z.2.2.1 _ _
    rw [hj, Nat.add_sub_cancel]
    show _ = (if z.1.e ≠ 0 then _ else _)
    rw [if_neg (by simpa using hc67)]⟩) ⟨rfl, rfl, rfl, (by show some (Abs.v (Value.int _ ((z.2.2.1 : Int) - 1))) = some (Abs.v (Value.int _ ((z.2.2.1 - 1 : Nat) : Int))); congr 3; omega), trivial⟩ sr_
  skip
  refine ex_ rfl (T_ tabOk Tryz.underlying28 rfl rfl rfl rfl rfl rfl rfl) (by simp) rfl rfl ?_
  refine aU_ rfl (i_ tabOk rfl rfl l1_ List.not_mem_nil (by rfl)) rfl rfl ?_
  refine bd_ [b5] rfl (L_ (zs := (z.2.1 ++ [(Rd.oc z.1)]).map Oc.abs) tabOk [] (by rw [List.map_append]; rfl) Tryz.underlying28 rfl rfl rfl rfl rfl rfl (by intro c hc; rw [List.mem_singleton] at hc; subst hc; rfl) (by unfold maxLen; simp only [List.length_map, List.length_cons, List.length_nil]; omega) (by rw [show Tryz.prog.bytesOf 40 = 24 by kernel_rfl]; simp only [List.length_map, List.length_cons, List.length_nil]; omega)) (fun k hk => List.mem_append_left _ hk) (by simp) rfl rfl ?_
  rintro _ _ ⟨r83, rfl, rfl⟩
  refine hx_ fun hx9 =>qx_ 1 hx9 rfl<|ex_ rfl (ag_ tabOk rfl rfl rfl rfl i0_ u1_ rfl rfl) (by simp) rfl rfl ?_
  refine Q_<|u_<|c_<|a_<|q_ 1 rfl<|b_ (aC_ rfl rfl (by simp only [InR, lo, hi]; omega)) rfl rfl ?_
  refine q_ 1 rfl<|g_<|G_ (Rd.o3 z.1, z.2.1 ++ [(Rd.oc z.1)], z.2.2.1 - 1, r83) (by (dsimp only; omega)) (⟨by dsimp only; omega, by dsimp only; rw [List.length_append, List.length_singleton]; omega, by
   rw [← hz.2.2]
   obtain ⟨j, hj⟩ : ∃ j, z.2.2.1 = j + 1 := ⟨z.2.2.1 - 1, by omega⟩
   show Rd.tillG Rd.oc Rd.o3 (z.2.2.1 - 1) _ _ = Rd.tillG Rd.oc Rd.o3 z.2.2.1 _ _
   rw [hj, Nat.add_sub_cancel]
   show _ = (if z.1.e ≠ 0 then _ else _)
   rw [if_neg (by simpa using hc67)]⟩) ⟨rfl, rfl, rfl, (by show some (Abs.v (Value.int _ ((z.2.2.1 : Int) - 1))) = some (Abs.v (Value.int _ ((z.2.2.1 - 1 : Nat) : Int))); congr 3; omega), trivial⟩ sr_
 intro x9 hx9
 refine cX_ [] 3 rfl u0_ rfl<|d_<|d_<|a_<|q_ 1 rfl<|s_ (rend_s (s := (Rd.rlgO m).2)) Casts.refl (by kernel_rfl) rfl rfl rfl ?_
 refine A_ rfl i1_ (fun _ => rfl)<|fun _=>⟨_, u1_, q_ 2 rfl<|z_ (t := 88) rfl ?_ ?_⟩
 ·intro hc88
  refine q_ 4 rfl<|g_<|c_<|M_ rfl<|d_<|a_<|b_ (D_ tabOk rfl rfl rfl rfl) rfl rfl<|e_ (n_ (L' := [int 0, int 0, .v (.slice none 0 0), .v (.slice none 0 0)]) tabOk rfl rfl rfl u2_ rfl (Nat.le_of_ble_eq_true rfl) rfl (by exact t_ rfl)) rfl rfl ?_
  refine q_ 1 rfl<|g_<|c_<|m_<|h_ nofun<|fC_ (rs := [.cell 2 30, .tmp 3]) rfl (RV.cell rfl (RV.cellA tabOk rfl rfl l2_ (by rfl)) (RV.tmp rfl RV.nil)) (Casts.cons (as_ (Casts.keep (Casts.keep (Casts.nils (s := 6) (Casts.nils (s := 3) Casts.refl))))) Casts.refl) (()) sn_ ?_
  have e : rparseL m = (Lg.zero, false) := if_pos (by
   exact .inl (by assumption))
  rw [e]
  rfl
 intro hc88
 refine b_ (l_ (C := .agg (Rd.rlg m).abs) (x_ tabOk rfl rfl rfl l0_ List.not_mem_nil (Nat.le_of_ble_eq_true rfl)) rfl) rfl rfl<|s_ (fO_ (l := Rd.rlg m) (fun x hx => if_ (Q := fun x : Ltr => x.name.size ≤ maxLen) ltr_name _ _ _ (fun x hx => by cases hx) x hx)) Casts.refl (by kernel_rfl) rfl rfl rfl ?_
 refine ap_<|fun _=>b_ (aH_ rfl) rfl rfl<|q_ 1 rfl<|g_<|c_<|o_ rfl ?_ ?_
 ·intro hc92
  refine d_<|a_<|b_ (D_ tabOk rfl rfl rfl rfl) rfl rfl<|e_ (n_ (L' := [int 0, int 0, .v (.slice none 0 0), .v (.slice none 0 0)]) tabOk rfl rfl rfl u2_ rfl (Nat.le_of_ble_eq_true rfl) rfl (by exact t_ rfl)) rfl rfl ?_
  refine q_ 1 rfl<|g_<|c_<|m_<|h_ nofun<|fC_ (rs := [.cell 2 30, .tmp 3]) rfl (RV.cell rfl (RV.cellA tabOk rfl rfl l2_ (by rfl)) (RV.tmp rfl RV.nil)) (Casts.cons (as_ (Casts.keep (Casts.keep (Casts.nils (s := 6) (Casts.nils (s := 3) Casts.refl))))) Casts.refl) (()) sn_ ?_
  have e : rparseL m = (Lg.zero, false) := if_pos (by
   exact .inr (by simpa using hc92))
  rw [e]
  rfl
 intro hc92
 refine p_<|c_<|d_<|a_<|b_ (l_ (C := .agg (Rd.rlg m).abs) (x_ tabOk rfl rfl rfl l0_ List.not_mem_nil (Nat.le_of_ble_eq_true rfl)) rfl) rfl rfl<|e_ (n_ (L' := (Rd.rlg m).abs) tabOk rfl rfl rfl u2_ rfl (Nat.le_of_ble_eq_true rfl) rfl (by exact t_ rfl)) rfl rfl ?_
 refine q_ 1 rfl<|g_<|c_<|m_<|f_ (rs := [.cell 2 30, .tmp 3]) rfl (RV.cell rfl (RV.cellA tabOk rfl rfl l2_ (by rfl)) (RV.tmp rfl RV.nil)) (()) sn_ ?_
 have e : rparseL m = (Rd.rlg m, true) := if_neg (by
  rintro (h | h)
  ·exact hc88 h
  exact h (by simpa using hc92))
 rw [e]
 rfl
end
theorem du_ (l : List Ent) : ∀ c ∈ l.map entA, ones c = true := by
  intro c hc
  obtain ⟨o, _, rfl⟩ := List.mem_map.1 hc
  rfl
theorem cx_ {xs : List (List Abs)} (h1 : ∀ c ∈ xs, ones c = true) (hn : xs.length ≤ 1000000) : Spec Tryz.prog 28 [.sl 8 xs] [] (fun _ : Unit => []) (fun _ => .sl 8 xs) := by
 refine F_ Tryz.func28 rfl Tryz.ntmps28 rfl fun G w =>d_<|a_<|q_ 1 rfl<|g_<|c_<|d_<|d_<|a_<|q_ 1 rfl<|dB_ Tryz.underlying26 rfl rfl rfl<|fun b hb=>g_<|c_<|X_ rfl ?_ ?_
 ·intro hc4
  have hnil : xs = [] := hb hc4
  subst hnil
  refine d_<|a_<|q_ 1 rfl<|g_<|c_<|m_<|h_ nofun<|gm_ (rs := [.tmp 2]) rfl (RV.tmp rfl RV.nil) (Casts.nils (s := 8) Casts.refl) () sn_ (by simp [It.rids]) rfl
 intro hc4
 refine p_<|c_<|d_<|a_<|eb_ (aK_ tabOk Tryz.underlying26 rfl rfl rfl rfl rfl rfl rfl) rfl rfl fun r5=>?_
 refine q_ 1 rfl<|eb_ (L_ (zs := xs) tabOk [] rfl Tryz.underlying26 rfl rfl rfl rfl rfl rfl h1 (by unfold maxLen; simp only [List.length_nil]; omega) (by rw [show Tryz.prog.bytesOf 66 = 80 by kernel_rfl]; simp only [List.length_nil]; omega)) rfl rfl fun r7=>?_
 exact q_ 1 rfl<|g_<|c_<|m_<|bi_ [] (t := 2) rfl rfl<|f_ (rs := [.tmp 2]) rfl (RV.tmp rfl RV.nil) (()) sn_<|rfl
end Go.Proofs.YtickdhjljpnlpaaGreatDoor.A
