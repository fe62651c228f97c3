/-
  Packed out of the texts: AS3, Sxc, AS4, AS5, AS6, AS7, AS8, AS9.
-/
import Derived.Test.YtjclgkddfjbdiaaGreatDoorR011
set_option maxRecDepth 100000
set_option linter.unusedSimpArgs false
set_option linter.unusedVariables false
namespace Go.Proofs.YtjclgkddfjbdiaaGreatDoor.A
open Go.RowKit
def voA (v s : Int) (t : Tg) : List Abs := int v :: int s :: t.abs
def voteB (v s : Int) (t : Tg) : List UInt8 := long8 [v, s] ++ t.d
def vouA (n : Nat) (st : Int) (t : Tg) (m : Nat) : List Abs := [int (n : Nat), int st] ++ t.abs ++ [.v (.int .u32 (m : Nat))]
def vouB (n : Nat) (st : Int) (t : Tg) (m : Nat) : List UInt8 := [] ++ beBytes n (1 : Int).toNat ++ long8 [st] ++ t.d ++ beBytes m (1 : Int).toNat
def propA (v s : Int) (es : List Ent) : List Abs := [int v, int s, entsA es]
def propB (v s : Int) (es : List Ent) : List UInt8 := long8 [v, s] ++ beBytes (batchB es).length 4 ++ batchB es
theorem gK_ {l : List UInt8} {xs : List Int} {k : Nat} (h : k < xs.length) : l ++ long8 (xs.take (k + 1)) = l ++ long8 (xs.take k) ++ beBytes (u64 xs[k]) (8 : Int).toNat := by
  unfold long8
  rw [List.take_succ_eq_append_getElem h, List.flatMap_append, List.flatMap_cons, List.flatMap_nil, List.append_nil, List.append_assoc]
  rfl
theorem fs_ {xs : List Int} {k : Nat} (h : k < xs.length) : long8 (xs.take (k + 1)) = long8 (xs.take k) ++ beBytes (u64 xs[k]) (8 : Int).toNat := gK_ (l := []) h
theorem b2_ {v s : Int} {t : Tg} : (voA v s t).length = 34 := by
  unfold voA
  rw [List.length_cons, List.length_cons, Tg.size]
theorem voA_row (v s : Int) (t : Tg) : (((voA v s t).drop 2).take 32).map (fun a => [a]) = bysW t.d := by
  have h := Tg.row t
  exact h
theorem vou_len {n m : Nat} {st : Int} {t : Tg} : (vouA n st t m).length = 35 := by
  unfold vouA
  simp only [List.length_append, List.length_cons, List.length_nil, Tg.size]
theorem vou_row (n : Nat) (st : Int) (t : Tg) (m : Nat) : (((vouA n st t m).drop 2).take 32).map (fun a => [a]) = bysW t.d := by
  have h := Tg.row t
  rw [List.take_of_length_le (by rw [Tg.size]; exact Nat.le_refl _)] at h
  show ((t.abs ++ [_]).take 32).map _ = _
  rw [List.take_append_of_le_length (by rw [Tg.size]; exact Nat.le_refl _), List.take_of_length_le (by rw [Tg.size]; exact Nat.le_refl _)]
  exact h
theorem h4_ (n : Nat) (st : Int) (t : Tg) (m : Nat) : (vouA n st t m)[34]? = some (.v (.int .u32 (m : Nat))) := by
  unfold vouA
  rw [List.getElem?_append_right (by simp [Tg.size])]
  simp [Tg.size]
section
variable {p x n m : Nat} {v : Value} {l : List UInt8} {xs : List Int} {vw sq st : Int} {t : Tg} {es : List Ent}
set_option maxHeartbeats 1000000 in
theorem h5_ (hl : l.length + xs.length * 8 ≤ 1000000) : Spec Tryz.prog 101 [.v v, ints xs] [own 5 1 v (bysW (l))] (fun r : Value => [own 5 1 r (bysW (l ++ long8 xs))]) (fun r => .v r) := by
 have hL : lots = 100000000000 := rfl
 refine t_ Tryz.func101 rfl Tryz.ntmps101 rfl fun G w =>c_<|a_<|q_ 1 rfl<|d_<|b_<|c_<|c_<|a_<|q_ 1 rfl<|slvA (H_ (m := xs.length) rfl Tryz.underlying282 (by rw [List.length_map])) ?_
 refine q_ 1 rfl<|d_<|b_<|u_<|P_ (ι := Nat × Value) (fun z => [own 5 1 z.2 (bysW (l ++ long8 (xs.take z.1)))]) (fun z => [(0, .v z.2), (7, ints xs), (8, int (xs.length : Nat)), (9, int (z.1 : Nat))]) (fun z => z.1 ≤ xs.length) (fun z => xs.length - z.1) (0, v) (Nat.zero_le _) (by exact ⟨rfl, rfl, rfl, rfl, trivial⟩) (by dsimp only; rw [show l ++ long8 (xs.take 0) = l from by simp [long8]]; repeat (first | exact List.nil_sublist _ | exact List.Sublist.refl _ | apply List.Sublist.cons_cons | apply List.Sublist.cons)) ?_
 intro z hz
 refine c_<|a_<|q_ 1 rfl<|d_<|b_<|c_<|l_ rfl ?_ ?_
 rotate_left
 ·intro hc10
  refine N_<|j_ nofun<|j_ nofun<|M_<|b_<|c_<|a_<|q_ 2 rfl<|d_<|b_<|k_ ?_
  rw [List.take_of_length_le (show xs.length ≤ z.1 by omega)]
  exact f_ (rs := [.tmp 4]) rfl (RV.tmp rfl RV.nil) (z.2) sr_<|rfl
 intro hc10
 have hlt : z.1 < xs.length := by omega
 refine o_<|b_<|c_<|u_<|c_<|a_<|slvA (L_ tabOk Tryz.underlying282 rfl rfl rfl rfl (a8_ (by omega)) rfl rfl) ?_
 refine slvA (aa_ tabOk rfl rfl rfl)<|q_ 1 rfl<|d_<|b_<|aC_ [] (t := 0) rfl rfl<|a_<|q_ 2 rfl<|slvA (h_ (C := wrd (u64 (xs[z.1]'hlt))) (aY_ rfl Tryz.underlying27 (by kernel_rfl)) rfl) ?_
 refine slcA (dv_ (l := l ++ long8 (xs.take z.1)) (x := u64 (xs[z.1]'hlt)) (n := 8) (by simp only [List.length_append, al_, List.length_take]; omega) (cw_ _) rfl) ?_
 refine aftM ?_
 intro r16
 refine q_ 1 rfl<|d_<|w_<|b_<|a_<|slvA (y_ rfl rfl (by simp only [InR, lo, hi]; omega)) ?_
 refine q_ 1 rfl<|d_<|I_ (z.1 + 1, r16) (by omega) ((by dsimp only; omega)) (by exact ⟨rfl, rfl, rfl, rfl, trivial⟩) (by dsimp only; rw [gK_ hlt]; repeat (first | exact List.nil_sublist _ | exact List.Sublist.refl _ | apply List.Sublist.cons_cons | apply List.Sublist.cons))
set_option maxHeartbeats 1000000 in
theorem vlong0_s (hl : xs.length * 8 ≤ 1000000) : Spec Tryz.prog 101 [.v (.slice none 0 0), ints xs] [] (fun r : Value => [own 5 1 r (bysW (long8 xs))]) (fun r => .v r) := by
 have hL : lots = 100000000000 := rfl
 refine t_ Tryz.func101 rfl Tryz.ntmps101 rfl fun G w =>c_<|a_<|q_ 1 rfl<|d_<|b_<|c_<|c_<|a_<|q_ 1 rfl<|slvA (H_ (m := xs.length) rfl Tryz.underlying282 (by rw [List.length_map])) ?_
 refine q_ 1 rfl<|d_<|b_<|u_<|aF_ 5 1<|P_ (ι := Nat × Value) (fun z => [own 5 1 z.2 (bysW (long8 (xs.take z.1)))]) (fun z => [(0, .v z.2), (7, ints xs), (8, int (xs.length : Nat)), (9, int (z.1 : Nat))]) (fun z => z.1 ≤ xs.length) (fun z => xs.length - z.1) (0, .slice none 0 0) (Nat.zero_le _) (by exact ⟨rfl, rfl, rfl, rfl, trivial⟩) sr_ ?_
 intro z hz
 refine c_<|a_<|q_ 1 rfl<|d_<|b_<|c_<|l_ rfl ?_ ?_
 rotate_left
 ·intro hc10
  refine N_<|j_ nofun<|j_ nofun<|M_<|b_<|c_<|a_<|q_ 2 rfl<|d_<|b_<|k_ ?_
  rw [List.take_of_length_le (show xs.length ≤ z.1 by omega)]
  exact f_ (rs := [.tmp 4]) rfl (RV.tmp rfl RV.nil) (z.2) sr_<|rfl
 intro hc10
 have hlt : z.1 < xs.length := by omega
 refine o_<|b_<|c_<|u_<|c_<|a_<|slvA (L_ tabOk Tryz.underlying282 rfl rfl rfl rfl (a8_ (by omega)) rfl rfl) ?_
 refine slvA (aa_ tabOk rfl rfl rfl)<|q_ 1 rfl<|d_<|b_<|aC_ [] (t := 0) rfl rfl<|a_<|q_ 2 rfl<|slvA (h_ (C := wrd (u64 (xs[z.1]'hlt))) (aY_ rfl Tryz.underlying27 (by kernel_rfl)) rfl) ?_
 refine slcA (dv_ (l := long8 (xs.take z.1)) (x := u64 (xs[z.1]'hlt)) (n := 8) (by simp only [List.length_append, al_, List.length_take]; omega) (cw_ _) rfl) ?_
 refine aftM ?_
 intro r16
 refine q_ 1 rfl<|d_<|w_<|b_<|a_<|slvA (y_ rfl rfl (by simp only [InR, lo, hi]; omega)) ?_
 refine q_ 1 rfl<|d_<|I_ (z.1 + 1, r16) (by omega) ((by dsimp only; omega)) (by exact ⟨rfl, rfl, rfl, rfl, trivial⟩) (by dsimp only; rw [fs_ hlt]; repeat (first | exact List.nil_sublist _ | exact List.Sublist.refl _ | apply List.Sublist.cons_cons | apply List.Sublist.cons))
set_option maxHeartbeats 1000000 in
theorem vlongP_s (hl : xs.length * 8 ≤ 1000000) : Spec Tryz.prog 101 [.v (.slice none 0 0), ints xs] [] (fun _ : Unit => []) (fun _ => byt (long8 xs)) := by
 have hL : lots = 100000000000 := rfl
 refine t_ Tryz.func101 rfl Tryz.ntmps101 rfl fun G w =>c_<|a_<|q_ 1 rfl<|d_<|b_<|c_<|c_<|a_<|q_ 1 rfl<|slvA (H_ (m := xs.length) rfl Tryz.underlying282 (by rw [List.length_map])) ?_
 refine q_ 1 rfl<|d_<|b_<|u_<|aF_ 5 1<|P_ (ι := Nat × Value) (fun z => [own 5 1 z.2 (bysW (long8 (xs.take z.1)))]) (fun z => [(0, .v z.2), (7, ints xs), (8, int (xs.length : Nat)), (9, int (z.1 : Nat))]) (fun z => z.1 ≤ xs.length) (fun z => xs.length - z.1) (0, .slice none 0 0) (Nat.zero_le _) (by exact ⟨rfl, rfl, rfl, rfl, trivial⟩) sr_ ?_
 intro z hz
 refine c_<|a_<|q_ 1 rfl<|d_<|b_<|c_<|l_ rfl ?_ ?_
 rotate_left
 ·intro hc10
  refine N_<|j_ nofun<|j_ nofun<|M_<|b_<|c_<|a_<|q_ 2 rfl<|d_<|b_<|k_<|aT_ [] (t := 4) rfl rfl ?_
  rw [List.take_of_length_le (show xs.length ≤ z.1 by omega)]
  exact f_ (rs := [.tmp 4]) rfl (RV.tmp rfl RV.nil) (()) sn_<|rfl
 intro hc10
 have hlt : z.1 < xs.length := by omega
 refine o_<|b_<|c_<|u_<|c_<|a_<|slvA (L_ tabOk Tryz.underlying282 rfl rfl rfl rfl (a8_ (by omega)) rfl rfl) ?_
 refine slvA (aa_ tabOk rfl rfl rfl)<|q_ 1 rfl<|d_<|b_<|aC_ [] (t := 0) rfl rfl<|a_<|q_ 2 rfl<|slvA (h_ (C := wrd (u64 (xs[z.1]'hlt))) (aY_ rfl Tryz.underlying27 (by kernel_rfl)) rfl) ?_
 refine slcA (dv_ (l := long8 (xs.take z.1)) (x := u64 (xs[z.1]'hlt)) (n := 8) (by simp only [List.length_append, al_, List.length_take]; omega) (cw_ _) rfl) ?_
 refine aftM ?_
 intro r16
 refine q_ 1 rfl<|d_<|w_<|b_<|a_<|slvA (y_ rfl rfl (by simp only [InR, lo, hi]; omega)) ?_
 refine q_ 1 rfl<|d_<|I_ (z.1 + 1, r16) (by omega) ((by dsimp only; omega)) (by exact ⟨rfl, rfl, rfl, rfl, trivial⟩) (by dsimp only; rw [fs_ hlt]; repeat (first | exact List.nil_sublist _ | exact List.Sublist.refl _ | apply List.Sublist.cons_cons | apply List.Sublist.cons))
set_option maxHeartbeats 1000000 in
theorem ho_  : Spec Tryz.prog 79 [.agg (voA vw sq t)] [] (fun _ : Unit => []) (fun _ => byt (voteB vw sq t)) := by
 refine t_ Tryz.func79 rfl Tryz.ntmps79 rfl fun G w =>c_<|a_<|eb_ (B_ (cs := voA vw sq t) rfl) rfl rfl fun b1=>?_
 refine q_ 1 rfl<|d_<|b_<|c_<|ce_ [] 1 rfl rfl<|Q_ [] (.q 0 (.q 1 (.q 2 (.q 3 (.q 6 (.q 7 (.e 4 (.e 5 (.e 8 (.q 9 .nil)))))))))) (by kernel_rfl) (by kernel_rfl) ?_
 refine sxvA rfl (X_ tabOk rfl rfl rfl rfl rfl) (by simp) ?_
 refine hx_ fun hx9 =>sxvA rfl (h_ (C := int vw) (aa_ tabOk rfl rfl rfl) rfl) hx9<|sxvA rfl (X_ tabOk rfl rfl rfl rfl rfl) (by simp) ?_
 refine sxvA rfl (h_ (C := int sq) (aa_ tabOk rfl rfl rfl) rfl) hx9<|sxvA rfl (X_ tabOk rfl rfl rfl rfl rfl) (by simp) ?_
 refine sxvA rfl (bl_ tabOk Tryz.underlying121 rfl rfl rfl rfl (voA_row _ _ _) (by rw [List.length_drop, b2_]; omega)) hx9 ?_
 refine ex_ rfl (G_ tabOk Tryz.underlying282 rfl rfl rfl rfl rfl rfl rfl) (by simp) rfl rfl ?_
 refine bd_ rfl (vlong0_s (xs := [vw, sq]) (by simp)) (by simp [mids, It.mids]) Casts.refl (by kernel_rfl) rfl rfl rfl ?_
 refine aftM ?_
 intro r8
 refine d4_ [] rfl (K_ (zs := bysW (long8 [vw, sq] ++ t.d)) tabOk [] (cY_ _ _) Tryz.underlying39 rfl rfl rfl rfl rfl rfl (bI_ _) (by unfold maxLen; simp only [bysW, List.length_map]; rw [t.len, al_]; simp only [List.length_cons, List.length_nil]; omega) (by rw [show Tryz.prog.bytesOf 5 = 1 by kernel_rfl]; simp only [bysW, List.length_map]; rw [t.len, al_]; simp only [List.length_cons, List.length_nil]; omega)) (by simp [mids, It.mids, ownPc]) (by simp) rfl rfl ?_
 rintro _ _ ⟨r11, rfl, rfl⟩
 exact hx_ fun hx9 =>qx_ 1 hx9 rfl<|F_<|b_<|k_<|aT_ [] (t := 2) rfl rfl<|f_ (rs := [.tmp 2]) rfl (RV.tmp rfl RV.nil) (()) sn_<|rfl
set_option maxHeartbeats 1000000 in
theorem vouF_s (hn : n < 1000) (hm : m < 1000) : Spec Tryz.prog 80 [.agg (vouA n st t m)] [] (fun _ : Unit => []) (fun _ => byt (vouB n st t m)) := by
 have hL : lots = 100000000000 := rfl
 have h11 : ([] ++ beBytes n (1 : Int).toNat ++ long8 [st]).length = 9 := by simp only [List.length_append, v_, al_, List.length_cons, List.length_nil]; rfl
 refine t_ Tryz.func80 rfl Tryz.ntmps80 rfl fun G w =>c_<|a_<|eb_ (B_ (cs := vouA n st t m) rfl) rfl rfl fun b1=>?_
 refine q_ 1 rfl<|d_<|b_<|c_<|ce_ [] 1 rfl rfl<|Q_ [] (.q 0 (.q 1 (.q 2 (.q 4 (.q 5 (.q 8 (.q 9 (.two 3 6 (.e 6 (.e 7 (.e 10 (.e 11 .nil)))) (.e 3 (.e 7 (.e 10 (.e 11 .nil)))))))))))) (by kernel_rfl) (by kernel_rfl) ?_
 refine sxvA rfl (X_ tabOk rfl rfl rfl rfl rfl) (by simp) ?_
 refine hx_ fun hx9 =>sxvA rfl (h_ (C := int (n : Nat)) (aa_ tabOk rfl rfl rfl) rfl) hx9<|sxvA rfl (h_ (C := wrd n) (R_ rfl Tryz.underlying27 (by kernel_rfl) (by simp only [InR, lo, hi]; omega)) rfl) hx9 ?_
 refine sxvA rfl (X_ tabOk rfl rfl rfl rfl rfl) (by simp) ?_
 refine sxvA rfl (h_ (C := int st) (aa_ tabOk rfl rfl rfl) rfl) hx9<|sxvA rfl (X_ tabOk rfl rfl rfl rfl rfl) (by simp) ?_
 refine sxvA rfl (bl_ tabOk Tryz.underlying121 rfl rfl rfl rfl (vou_row _ _ _ _) (by rw [List.length_drop, vou_len]; omega)) hx9 ?_
 refine aV_ ?_ ?_
 ·skip
  refine bd_ rfl (dv_ (l := []) (x := n) (n := 1) (by simp [hL]) (by omega) rfl) (by simp [mids, It.mids]) (Casts.cons (fun _ _ _ h => b3_ h) Casts.refl) (by kernel_rfl) rfl rfl rfl ?_
  refine aftM ?_
  intro r7
  refine ex_ rfl (G_ tabOk Tryz.underlying282 rfl rfl rfl rfl rfl rfl rfl) (by simp) rfl rfl ?_
  refine bd_ rfl (h5_ (v := r7) (l := [] ++ beBytes n (1 : Int).toNat) (xs := [st]) (by simp only [List.length_append, v_, List.length_cons, List.length_nil]; decide)) (by intro k hk; exact List.mem_append_left _ hk) Casts.refl (by kernel_rfl) rfl rfl rfl ?_
  refine W_ [] (β := _) rfl (J_ rfl) ?_
  intro r11
  refine gb_ [own 5 1 r11 (bysW ([] ++ beBytes n (1 : Int).toNat ++ long8 [st]))] (mids [own 5 1 r7 (bysW ([] ++ beBytes n (1 : Int).toNat))] ++ []) rfl rfl (K_ (zs := bysW ([] ++ beBytes n (1 : Int).toNat ++ long8 [st] ++ t.d)) tabOk [] (cY_ _ _) Tryz.underlying39 rfl rfl rfl rfl rfl rfl (bI_ _) (by unfold maxLen; simp only [bysW, List.length_map]; rw [t.len, h11]; omega) (by rw [show Tryz.prog.bytesOf 5 = 1 by kernel_rfl]; simp only [bysW, List.length_map]; rw [t.len, h11]; omega)) rfl (by intro k hk; refine List.mem_append_left _ ?_; simpa [mids, It.mids, ownPc] using hk) rfl rfl ?_
  rintro _ _ ⟨r14, rfl, rfl⟩
  refine ⟨[own 5 1 r14 (bysW ([] ++ beBytes n (1 : Int).toNat ++ long8 [st] ++ t.d))], rfl, bn_ rfl (n_ rfl) rfl rfl<|F_<|b_<|c_<|aC_ [] (t := 3) rfl rfl<|a_<|q_ 1 rfl<|slvA (X_ tabOk rfl rfl rfl rfl rfl)<|slvA (h_ (C := .v (.int .u32 (m : Nat))) (aa_ tabOk rfl rfl (by rw [List.getElem?_drop]; exact h4_ _ _ _ _)) rfl) ?_⟩
  refine slvA (h_ (C := wrd m) (R_ rfl Tryz.underlying27 (by kernel_rfl) (by simp only [InR, lo, hi]; omega)) rfl) ?_
  refine slcA (fa_ (l := [] ++ beBytes n (1 : Int).toNat ++ long8 [st] ++ t.d) (x := m) (n := 1) (by rw [List.length_append, t.len, h11]; omega) (by omega) rfl) ?_
  exact ap_<|fun _=>q_ 1 rfl<|d_<|b_<|k_<|f_ (rs := [.tmp 2]) rfl (RV.tmp rfl RV.nil) (()) sn_<|rfl
 skip
 refine ex_ rfl (G_ tabOk Tryz.underlying282 rfl rfl rfl rfl rfl rfl rfl) (by simp) rfl rfl ?_
 refine bd_ rfl (dv_ (l := []) (x := n) (n := 1) (by simp [hL]) (by omega) rfl) (by simp [mids, It.mids]) (Casts.cons (fun _ _ _ h => b3_ h) Casts.refl) (by kernel_rfl) rfl rfl rfl ?_
 refine aftM ?_
 intro r7
 refine bd_ rfl (h5_ (v := r7) (l := [] ++ beBytes n (1 : Int).toNat) (xs := [st]) (by simp only [List.length_append, v_, List.length_cons, List.length_nil]; decide)) (by intro k hk; exact List.mem_append_left _ hk) Casts.refl (by kernel_rfl) rfl rfl rfl ?_
 refine W_ [] (β := _) rfl (J_ rfl) ?_
 intro r11
 refine gb_ [own 5 1 r11 (bysW ([] ++ beBytes n (1 : Int).toNat ++ long8 [st]))] (mids [own 5 1 r7 (bysW ([] ++ beBytes n (1 : Int).toNat))] ++ []) rfl rfl (K_ (zs := bysW ([] ++ beBytes n (1 : Int).toNat ++ long8 [st] ++ t.d)) tabOk [] (cY_ _ _) Tryz.underlying39 rfl rfl rfl rfl rfl rfl (bI_ _) (by unfold maxLen; simp only [bysW, List.length_map]; rw [t.len, h11]; omega) (by rw [show Tryz.prog.bytesOf 5 = 1 by kernel_rfl]; simp only [bysW, List.length_map]; rw [t.len, h11]; omega)) rfl (by intro k hk; refine List.mem_append_left _ ?_; simpa [mids, It.mids, ownPc] using hk) rfl rfl ?_
 rintro _ _ ⟨r14, rfl, rfl⟩
 refine ⟨[own 5 1 r14 (bysW ([] ++ beBytes n (1 : Int).toNat ++ long8 [st] ++ t.d))], rfl, bn_ rfl (n_ rfl) rfl rfl<|F_<|b_<|c_<|aC_ [] (t := 3) rfl rfl<|a_<|q_ 1 rfl<|slvA (X_ tabOk rfl rfl rfl rfl rfl)<|slvA (h_ (C := .v (.int .u32 (m : Nat))) (aa_ tabOk rfl rfl (by rw [List.getElem?_drop]; exact h4_ _ _ _ _)) rfl) ?_⟩
 refine slvA (h_ (C := wrd m) (R_ rfl Tryz.underlying27 (by kernel_rfl) (by simp only [InR, lo, hi]; omega)) rfl) ?_
 refine slcA (fa_ (l := [] ++ beBytes n (1 : Int).toNat ++ long8 [st] ++ t.d) (x := m) (n := 1) (by rw [List.length_append, t.len, h11]; omega) (by omega) rfl) ?_
 exact ap_<|fun _=>q_ 1 rfl<|d_<|b_<|k_<|f_ (rs := [.tmp 2]) rfl (RV.tmp rfl RV.nil) (()) sn_<|rfl
set_option maxHeartbeats 1000000 in
theorem kt_ (hl : es.length ≤ 10) (hf : ∀ e ∈ es, e.Few) : Spec Tryz.prog 77 [.agg (propA vw sq es)] [] (fun _ : Unit => []) (fun _ => byt (propB vw sq es)) := by
 have hL : lots = 100000000000 := rfl
 have hb : (batchB es).length ≤ 30000 := Prf.Few.bytes (p := ⟨0, 0, es⟩) ⟨hl, hf⟩
 refine t_ Tryz.func77 rfl Tryz.ntmps77 rfl fun G w =>c_<|a_<|eb_ (B_ (cs := propA vw sq es) rfl) rfl rfl fun b1=>?_
 refine q_ 1 rfl<|d_<|b_<|c_<|Q_ [] (.q 0 (.q 1 (.q 2 (.q 3 (.q 6 (.q 7 (.e 4 (.e 5 (.e 8 (.e 9 (.q 10 .nil))))))))))) (by kernel_rfl) (by kernel_rfl) ?_
 refine qs_ 1 rfl<|sxvA rfl (g_ tabOk rfl rfl l0_ List.not_mem_nil rfl) (by simp) ?_
 refine qs_ 1 rfl<|sxvA rfl (g_ tabOk rfl rfl l0_ List.not_mem_nil rfl) (by simp) ?_
 refine qs_ 1 rfl<|sxvA rfl (g_ tabOk rfl rfl l0_ List.not_mem_nil rfl) (by simp) ?_
 refine ex_ rfl (G_ tabOk Tryz.underlying282 rfl rfl rfl rfl rfl rfl rfl) (by simp) rfl rfl ?_
 refine D_ rfl (vlongP_s (xs := [vw, sq]) (by simp)) (by simp [mids, It.mids]) Casts.refl (by kernel_rfl) rfl rfl rfl ?_
 refine ap_<|fun _=>D_ rfl (iR_ (es := es) (by omega) hf) (by simp [mids, It.mids]) Casts.refl (by kernel_rfl) rfl rfl rfl ?_
 refine ap_<|fun _=>D_ rfl (row_s (l := long8 [vw, sq]) (m := batchB es) (by rw [al_]; simp only [List.length_cons, List.length_nil]; omega) (by omega)) (by simp [mids, It.mids]) Casts.refl (by kernel_rfl) rfl rfl rfl ?_
 exact ap_<|fun _=>qs_ 1 rfl<|F_<|b_<|k_<|f_ (rs := [.tmp 2]) rfl (RV.tmp rfl RV.nil) (()) sn_<|rfl
end
end Go.Proofs.YtjclgkddfjbdiaaGreatDoor.A
namespace Go.Proofs.YtjclgkddfjbdiaaGreatDoor.A
open Go.RowKit
def SXc (P : Program) (ops : Array Oper) (ix : Plan) (X : List Nat) (C : World → Prop) (T : Act → World → Prop) (Q : Exit → Act → World → Prop) : Prop := ∀ a w, T a w → planW P ops (Q .normal) ix (fun w' => Ext X w w' ∧ C w') a w
section
variable {P : Program} {tab : List (Nat × TI)} {n : Nat} {W : Wd} {ops : Array Oper} {X : List Nat} {C : World → Prop} {Q : Exit → Act → World → Prop} {T : Act → World → Prop} {ix : Plan} {σ : Blks} {l : Slots} {o : Oper} {i : Nat} {d : Option Nat} {ty t : TypeId} {pos : String} {aft : Array Edge} {g : Option (Nat × Bool)} {x : Operand} {args args' : List Abs} {xs : List Operand} {ats : Array TypeId} {f : FuncId} {σ1 : Blks} {ι : Type} {τ' : ι → Blks} {res : ι → Abs}
theorem bx_ {b q : Nat} {cs : List Abs} {u : Value} {t' : TypeId} {a : Act} {w : World} (h : St n W σ l a w) (hb : It.blk b t' cs ∈ σ) (hv : cs[q]? = some (.v u)) : w.cell? ⟨b, q, none⟩ = some u := by
  obtain ⟨us, h1, h2⟩ := h.mem.blk (.inl hb)
  obtain ⟨u', h3, h4⟩ := a2_ h2 hv
  have h4 : u' = u := h4
  rw [a3_ h1, h3, h4]
theorem iU_ {id : Nat} (X : List Nat) (ix : Plan) (C : World → Prop) (hm : P.follows .mixedOrders = true)
    (hok : (Region.noSelect ops && planOk ops ops.size (Array.replicate ops.size false) ix) = true) (hC : ∀ a w, St n W σ l a w → C w) (h : SXc P ops ix X C (St n W σ l) Q) : SC P (.region id ops true) (St n W σ l) Q := fun a w hs =>
  b0_ (fun w' => Ext X w.drew w' ∧ C w') ix hm hok ⟨Ext.refl _, hC _ _ hs.drew⟩ (h a _ hs.drew)
theorem SXc.nil (h : SE .normal T Q) : SXc P ops .nil X C T Q := fun a w hs => h a w hs
theorem SXc.hx (h : ∀ k ∈ X, k ∈ mids σ) (k : (∀ k ∈ X, k ∈ mids σ) → SXc P ops ix X C (St n W σ l) Q) : SXc P ops ix X C (St n W σ l) Q := k h
theorem SXc.val {y : Abs} (hi : ops[i]? = some o) (hv : Val P n W σ l X o y) (hX : ∀ k ∈ X, k ∈ mids σ) (hg : gd ops l o = some true) (hd : lt? o.dst n = true) (k : SXc P ops ix X C (St n W σ (put? l o.dst y)) Q) : SXc P ops (.q i ix) X C (St n W σ l) Q := fun a w hs => by
  obtain ⟨v, hr, hrun⟩ := hv a w hs hX
  exact ⟨o, v, hi, .inl ⟨hs.wanted hg, fun w' hw' => hrun w' hw'.1⟩, k _ _ (hs.put hd hr)⟩
theorem SXc.load {b q sz : Nat} {zs : List Value} {u : Value} (hi : ops[i]? = some ⟨d, .load t x, ty, pos, aft, g⟩) (hT : TabOk P tab) (ht : ti tab t = some ⟨sz, .one, zs⟩) (hx : look l x = some (.v (.pointer (some ⟨b, q, none⟩)))) (hc : ∀ w, C w → w.cell? ⟨b, q, none⟩ = some u) (hg : gd ops l ⟨d, .load t x, ty, pos, aft, g⟩ = some true) (hd : lt? d n = true) (k : SXc P ops ix X C (St n W σ (put? l d (.v u))) Q) : SXc P ops (.q i ix) X C (St n W σ l) Q := fun a w hs => by
  refine ⟨_, u, hi, .inl ⟨hs.wanted hg, fun w' hw' => ?_⟩, k _ _ (hs.put hd (show rep _ _ (.v u) u from rfl))⟩
  exact Proofs.YtjclgkddfjbdiaaGreatDoor.fA_ (l := fullS a) (n := n) (D := fun w => C w) hT ht (by rw [hs.at2 hx, hs.plain hx]) (fun w1 h1 => hc w1 h1) a w' hs.fr hw'.2
theorem SXc.eff {Y : List Nat} {R : Abs → Blks → Prop} (hi : ops[i]? = some o) (hv : Eff P n W σ l Y o R) (hY : ∀ k ∈ Y, k ∈ X) (hg : gd ops l o = some true) (hd : lt? o.dst n = true)
    (k : ∀ y τ, R y τ → (∀ a w, St n W τ (put? l o.dst y) a w → C w) ∧ SXc P ops ix X C (St n W τ (put? l o.dst y)) Q) : SXc P ops (.e i ix) X C (St n W σ l) Q := fun a w hs => by
  unfold planW wpOp
  simp only [hi, hs.wanted hg, if_true]
  refine .inl ?_
  unfold Oper.wp
  obtain ⟨v, w', y, τ, hR, hx, hr, hm, hc, hrun | ⟨rfl, hrun⟩⟩ := hv a w hs
  all_goals
    rw [hrun]
    have hst := (hs.to hm hc).put hd hr
    exact ⟨fun w2 => Ext X w' w2 ∧ C w2, fun w2 h2 => ⟨(hx.mono (fun k hk => .inl (hY k hk))).trans h2.1 fun k hk => .inl hk, h2.2⟩, ⟨Ext.refl w', (k _ _ hR).1 _ _ hst⟩, (k _ _ hR).2 _ _ hst⟩
theorem SXc.call (hi : ops[i]? = some ⟨d, .call { callee := .value (.func f), args := xs.toArray, argTypes := ats }, ty, pos, aft, g⟩) (hs : Spec P f args' σ1 τ' res) (hX : ∀ k ∈ mids σ1, k ∈ X) (hca : Casts args args') (hb : goesIn P f = true) (hv : looks l xs = some args)
    (hg : gd ops l ⟨d, .call { callee := .value (.func f), args := xs.toArray, argTypes := ats }, ty, pos, aft, g⟩ = some true) (hd : lt? d n = true)
    (k : After σ σ1 τ' fun ν z => (∀ a w, St n W ν (put? l d (res z)) a w → C w) ∧ SXc P ops ix X C (St n W ν (put? l d (res z))) Q) : SXc P ops (.e i ix) X C (St n W σ l) Q := fun a w h => by
  unfold planW wpOp
  simp only [hi, h.wanted hg, if_true]
  refine .inl ?_
  unfold Oper.wp
  rw [ci_ hb rfl, Oper.upon_enter]
  refine (hs.after h.mem (hca _ _ _ (h.evals hv)) k).mono fun e w' ⟨z, r, ν, he, hx, _, hm, hc, hr, hk⟩ => ?_
  subst he
  have hst := (h.to hm hc).put hd hr
  exact ⟨fun w2 => Ext X w' w2 ∧ C w2, fun w2 h2 => ⟨(hx.mono (fun k hk => .inl (hX k hk))).trans h2.1 fun k hk => .inl hk, h2.2⟩, ⟨Ext.refl w', hk.1 _ _ hst⟩, hk.2 _ _ hst⟩
end
def facesF (P : PW) (x : Nat) : Stp × Nat :=
  if dr x 2 = 0 then lieF P (xS (xS (xS (xS (xS x))))) 3 (propB (dr (xS (xS (xS x))) 2 : Nat) ((1 + dr (xS (xS (xS (xS x)))) 3 : Nat)) [⟨askC P (xS x), dr (xS (xS x)) (2 ^ P.n)⟩])
  else lieF P (xS (xS (xS x))) 3 (propB (dr (xS x) 2 : Nat) ((1 + dr (xS (xS x)) 3 : Nat)) [])
def voteK (x : Nat) : Int := [4, 5, 5, 6, 8, 10].getD (dr x 6) 0
def votF (P : PW) (x : Nat) : Stp × Nat :=
  if voteK x = 6 ∨ voteK x = 10 then lieF P (xS (xS (xS (xS (xS (xS x)))))) (voteK x) (voteB 0 ((4 * (1 + dr (xS (xS (xS (xS x)))) 2) : Nat)) (dgT 104 (1 + dr (xS (xS (xS (xS (xS x))))) 12)))
  else lieF P (xS (xS (xS (xS x)))) (voteK x) (voteB (dr (xS x) 2 : Nat) ((1 + dr (xS (xS x)) 4 : Nat)) (dgT 101 (1 + dr (xS (xS (xS x))) 12)))
def vouchF (P : PW) (x : Nat) : Stp × Nat := lieF P (xS (xS (xS x))) 2 (vouB P.n ((1 + dr x 2 : Nat)) (dgT 103 (1 + dr (xS x) 12)) (dr (xS (xS x)) (2 ^ P.n)))
def chV (x : Nat) : Nat := 1 + dr x 3
def chL (x : Nat) : Nat := 4 * dr (xS x) 2
def chP (x : Nat) : Pnt := ⟨(chL x : Nat), (dgT 104 (1 + dr (xS (xS x)) 12)).d, (dgT 104 (1 + dr (xS (xS x)) 12)).len⟩
def chR (P : PW) (x : Nat) : Prf := ⟨((chL x + 1 + dr (xS (xS (xS x))) 3 : Nat)), ((dr (xS (xS (xS (xS x)))) (chV x) : Nat)), if dr (xS (xS (xS (xS (xS x))))) 2 = 0 then [⟨askC P (xS (xS (xS (xS (xS (xS x)))))), 1⟩] else []⟩
def chC (P : PW) (x : Nat) : Chg := ⟨(chV x : Nat), (chL x : Nat), [chP x], [chR P x], [chR P x]⟩
def changF (P : PW) (x : Nat) : Stp × Nat :=
  if dr (xS (xS (xS (xS (xS x))))) 2 = 0 then lieF P (xS (xS (xS (xS (xS (xS (xS x))))))) 7 (chC P x).bytes
  else lieF P (xS (xS (xS (xS (xS (xS x)))))) 7 (chC P x).bytes
theorem chFew {P : PW} {x : Nat} (h1 : P.c.letter.size ≤ 1000) (h2 : P.c.text.size ≤ 1000) : (chC P x).Few := by
  have hb : (chR P x).Few := by
    refine ⟨?_, ?_⟩
    · show (if _ then _ else _ : List Ent).length ≤ 10
      split <;> simp
    · intro e he
      have he : e ∈ (if _ then _ else _ : List Ent) := he
      split at he
      · rw [List.mem_singleton] at he
        subst he
        exact ⟨by show 1 < 4294967296; decide, h1, h2⟩
      · cases he
  refine ⟨by show 1 ≤ 1000; decide, by show 1 ≤ 1000; decide, by show 1 ≤ 1000; decide, ?_, ?_⟩ <;> (intro p hp; have hp : p ∈ [chR P x] := hp; rw [List.mem_singleton] at hp; subst hp; exact hb)
theorem sh_n {n : Nat} (h : n = 4 ∨ n = 7) : IntKind.i64.wrap (1 * 2 ^ min ((n : Nat) : Int).toNat IntKind.i64.bits) = ((2 ^ n : Nat) : Int) := by
  rcases h with rfl | rfl <;> decide
theorem p2_le {n : Nat} (h : n = 4 ∨ n = 7) : 16 ≤ 2 ^ n ∧ 2 ^ n ≤ 128 := by
  rcases h with rfl | rfl <;> decide
section
variable {p x b : Nat} {P : PW}
set_option maxHeartbeats 2000000 in
theorem gfaces_s (hP : P.Ok) (hl : 0 < P.li.length) (h1 : P.c.letter.size ≤ 1000) (h2 : P.c.text.size ≤ 1000) : Spec Tryz.prog 50 [ptr p] [.blk p 87 (plG P x ((ints P.ho)))] (fun _ : Unit => [.blk p 87 (plG P (facesF P x).2 ((ints P.ho)))]) (fun _ => .agg (facesF P x).1.abs) := by
 have hd2 := cA_ x (b := 2) (by omega)
 have hp2 := p2_le hP.n7
 have hn9 := hP.n7
 have hd3 := cA_ (xS (xS (xS (xS x)))) (b := 3) (by omega)
 have hd4 := cA_ (xS (xS x)) (b := 3) (by omega)
 have hdm := cA_ (xS (xS x)) (b := 2 ^ P.n) (by omega)
 refine t_ Tryz.func50 rfl Tryz.ntmps50 rfl fun G w =>c_<|a_<|eb_ (C_ tabOk rfl) rfl rfl fun b2=>?_
 refine d_<|b_<|c_<|a_<|q_ 1 rfl<|d_<|b_<|c_<|c_<|aF_ 187 8<|a_<|q_ 1 rfl<|slcA (ay_ (p := p) (P := P) (h := (ints P.ho)) (x := x) (b := 2) (by omega)) ?_
 refine x_ rfl i2_ (fun _ => rfl)<|fun _=>⟨_, u2_, q_ 1 rfl<|d_<|b_<|l_ rfl ?_ ?_⟩
 rotate_left
 ·intro hc6
  refine o_<|b_<|c_<|aC_ [] (t := 3) rfl rfl<|a_<|q_ 2 rfl<|slcA (ay_ (p := p) (P := P) (h := (ints P.ho)) (x := (xS x)) (b := 2) (by omega)) ?_
  refine x_ rfl i1_ (fun _ => rfl)<|fun _=>⟨_, u1_, q_ 1 rfl<|slcA (ay_ (p := p) (P := P) (h := (ints P.ho)) (x := (xS (xS x))) (b := 3) (by omega)) ?_⟩
  refine x_ rfl i1_ (fun _ => rfl)<|fun _=>⟨_, u1_, slvA (h_ (C := int ((1 + dr (xS (xS x)) 3 : Nat) : Int)) (y_ rfl rfl (by simp only [InR, lo, hi]; omega)) (congrArg int (by omega))) ?_⟩
  refine q_ 1 rfl<|slvA (h_ (C := .agg (propA (dr (xS x) 2 : Nat) ((1 + dr (xS (xS x)) 3 : Nat)) [])) (z_ tabOk rfl rfl rfl rfl) rfl)<|slcA (kt_ (vw := (dr (xS x) 2 : Nat)) (sq := ((1 + dr (xS (xS x)) 3 : Nat))) (es := []) (by decide) (by intro e he; cases he)) ?_
  refine ap_<|fun _=>slcA (cx_ (p := p) (P := P) (x := (xS (xS (xS x)))) (kk := 3) (bd := propB (dr (xS x) 2 : Nat) ((1 + dr (xS (xS x)) 3 : Nat)) []) hP hl) ?_
  refine x_ rfl i1_ (fun _ => rfl)<|fun _=>⟨_, u1_, e_ (m_ tabOk rfl rfl rfl u0_ rfl (Nat.le_of_ble_eq_true rfl) rfl (by exact p_ rfl)) rfl rfl ?_⟩
  refine d_<|b_<|k_ ?_
  have hE : facesF P x = lieF P (xS (xS (xS x))) 3 (propB (dr (xS x) 2 : Nat) ((1 + dr (xS (xS x)) 3 : Nat)) []) := if_neg (by omega)
  refine f_ (rs := [.cell 2 44]) rfl (RV.cell rfl (RV.cellA tabOk rfl rfl l0_ (by rfl)) RV.nil) (()) (by rw [hE]; repeat (first | exact List.nil_sublist _ | exact List.Sublist.refl _ | apply List.Sublist.cons_cons | apply List.Sublist.cons)) ?_
  rw [hE]
  rfl
 intro hc6
 refine iU_ [p] (.q 0 (.q 1 (.q 3 (.q 4 (.q 5 (.q 6 (.q 7 (.q 8 (.q 9 (.e 2 (.e 10 (.q 11 (.q 12 (.e 13 (.e 14 (.q 15 .nil)))))))))))))))) (fun w => w.cell? ⟨p, 3, none⟩ = some (.int .i64 (P.n : Nat))) (by kernel_rfl) (by kernel_rfl) (fun _ _ h => bx_ h (by repeat (first | exact List.mem_cons_self | apply List.mem_cons_of_mem)) rfl) ?_
 refine SXc.hx (by first|(simp[mids,It.mids,ownPc];done)|(intro k hk;simp[mids,It.mids,ownPc] at hk ⊢;grind)) fun hx9 => ?_
 refine SXc.val rfl (s_ rfl) hx9 rfl rfl<|SXc.val rfl (s_ rfl) hx9 rfl rfl<|SXc.val rfl (s_ rfl) hx9 rfl rfl<|SXc.val rfl (s_ rfl) hx9 rfl rfl<|SXc.val rfl (ag_ rfl) hx9 rfl rfl<|SXc.val rfl (E_ tabOk rfl rfl rfl rfl rfl) hx9 rfl rfl<|SXc.load (u := .int .i64 (P.n : Nat)) rfl tabOk rfl rfl (fun _ h => h) rfl rfl<|SXc.val rfl (R_ rfl Tryz.underlying127 (by kernel_rfl) (by simp only [InR, lo, hi]; omega)) hx9 rfl rfl ?_
 refine SXc.val rfl (h_ (C := int ((2 ^ P.n : Nat) : Int)) (dE_ rfl rfl (by omega)) (congrArg int (sh_n hP.n7))) hx9 rfl rfl ?_
 refine SXc.call rfl (gask_s (p := p) (P := P) (x := (xS x))) (by simp [mids, It.mids]) Casts.refl (by kernel_rfl) rfl rfl rfl ?_
 refine x_ rfl i2_ (fun _ => rfl)<|fun _=>⟨_, u2_, ⟨fun _ _ h => bx_ h (by repeat (first | exact List.mem_cons_self | apply List.mem_cons_of_mem)) rfl, ?_⟩⟩
 refine SXc.call rfl (ay_ (p := p) (P := P) (h := (ints P.ho)) (x := (xS (xS x))) (b := 2 ^ P.n) (by omega)) (by simp [mids, It.mids]) Casts.refl (by kernel_rfl) rfl rfl rfl ?_
 refine x_ rfl i2_ (fun _ => rfl)<|fun _=>⟨_, u2_, ⟨fun _ _ h => bx_ h (by repeat (first | exact List.mem_cons_self | apply List.mem_cons_of_mem)) rfl, ?_⟩⟩
 refine SXc.hx (by first|(simp[mids,It.mids,ownPc];done)|(intro k hk;simp[mids,It.mids,ownPc] at hk ⊢;grind)) fun hx9 => ?_
 refine SXc.val rfl (h_ (C := .v (.int .u32 (dr (xS (xS x)) (2 ^ P.n) : Nat))) (R_ rfl Tryz.underlying38 (by kernel_rfl) (by simp only [InR, lo, hi]; omega)) rfl) hx9 rfl rfl ?_
 refine SXc.val rfl (h_ (C := .agg ((Ent.mk (askC P (xS x)) (dr (xS (xS x)) (2 ^ P.n))).cells.map .v)) (z_ tabOk rfl rfl rfl rfl) rfl) hx9 rfl rfl<|SXc.eff rfl (G_ tabOk Tryz.underlying184 rfl rfl rfl (ah_ rfl) rfl rfl rfl) (by simp) rfl rfl ?_
 rintro _ _ ⟨rfl, rfl⟩
 refine ⟨fun _ _ h => bx_ h (by repeat (first | exact List.mem_cons_self | apply List.mem_cons_of_mem)) rfl, ?_⟩
 refine SXc.eff rfl (K_ (zs := [(Ent.mk (askC P (xS x)) (dr (xS (xS x)) (2 ^ P.n))).cells.map .v]) tabOk [] rfl Tryz.underlying184 rfl rfl rfl rfl rfl rfl (by intro c hc; rw [List.mem_singleton] at hc; subst hc; rfl) (by unfold maxLen; simp only [List.length_cons, List.length_nil]; omega) (by rw [show Tryz.prog.bytesOf 187 = 80 by kernel_rfl]; simp only [List.length_cons, List.length_nil]; omega)) (by intro k hk; simp [Value.ownBlock] at hk) rfl rfl ?_
 rintro _ _ ⟨r21, rfl, rfl⟩
 refine ⟨fun _ _ h => bx_ h (by repeat (first | exact List.mem_cons_self | apply List.mem_cons_of_mem)) rfl, ?_⟩
 refine SXc.hx (by first|(simp[mids,It.mids,ownPc];done)|(intro k hk;simp[mids,It.mids,ownPc] at hk ⊢;grind)) fun hx9 => ?_
 refine SXc.val rfl (n_ rfl) hx9 rfl rfl<|SXc.nil<|b_<|c_<|aC_ [] (t := 3) rfl rfl<|a_<|q_ 2 rfl<|slcA (ay_ (p := p) (P := P) (h := (ints P.ho)) (x := (xS (xS (xS x)))) (b := 2) (by omega)) ?_
 refine x_ rfl i1_ (fun _ => rfl)<|fun _=>⟨_, u1_, q_ 1 rfl<|slcA (ay_ (p := p) (P := P) (h := (ints P.ho)) (x := (xS (xS (xS (xS x))))) (b := 3) (by omega)) ?_⟩
 refine x_ rfl i1_ (fun _ => rfl)<|fun _=>⟨_, u1_, slvA (h_ (C := int ((1 + dr (xS (xS (xS (xS x)))) 3 : Nat) : Int)) (y_ rfl rfl (by simp only [InR, lo, hi]; omega)) (congrArg int (by omega))) ?_⟩
 refine q_ 1 rfl<|slvA (h_ (C := .agg (propA (dr (xS (xS (xS x))) 2 : Nat) ((1 + dr (xS (xS (xS (xS x)))) 3 : Nat)) [(Ent.mk (askC P (xS x)) (dr (xS (xS x)) (2 ^ P.n)))])) (z_ tabOk rfl rfl rfl rfl) rfl)<|slcA (kt_ (vw := (dr (xS (xS (xS x))) 2 : Nat)) (sq := ((1 + dr (xS (xS (xS (xS x)))) 3 : Nat))) (es := [(Ent.mk (askC P (xS x)) (dr (xS (xS x)) (2 ^ P.n)))]) (by show 1 ≤ 10; decide) (by intro e he; rw [List.mem_singleton] at he; subst he; exact ⟨by show dr (xS (xS x)) (2 ^ P.n) < _; omega, h1, h2⟩)) ?_
 refine ap_<|fun _=>slcA (cx_ (p := p) (P := P) (x := (xS (xS (xS (xS (xS x)))))) (kk := 3) (bd := propB (dr (xS (xS (xS x))) 2 : Nat) ((1 + dr (xS (xS (xS (xS x)))) 3 : Nat)) [(Ent.mk (askC P (xS x)) (dr (xS (xS x)) (2 ^ P.n)))]) hP hl) ?_
 refine x_ rfl i1_ (fun _ => rfl)<|fun _=>⟨_, u1_, e_ (m_ tabOk rfl rfl rfl u0_ rfl (Nat.le_of_ble_eq_true rfl) rfl (by exact p_ rfl)) rfl rfl ?_⟩
 refine d_<|b_<|k_ ?_
 have hE : facesF P x = lieF P (xS (xS (xS (xS (xS x))))) 3 (propB (dr (xS (xS (xS x))) 2 : Nat) ((1 + dr (xS (xS (xS (xS x)))) 3 : Nat)) [(Ent.mk (askC P (xS x)) (dr (xS (xS x)) (2 ^ P.n)))]) := if_pos (by omega)
 refine f_ (rs := [.cell 2 44]) rfl (RV.cell rfl (RV.cellA tabOk rfl rfl l0_ (by rfl)) RV.nil) (()) (by rw [hE]; repeat (first | exact List.nil_sublist _ | exact List.Sublist.refl _ | apply List.Sublist.cons_cons | apply List.Sublist.cons)) ?_
 rw [hE]
 rfl
set_option maxHeartbeats 2000000 in
theorem gvotes_s (hP : P.Ok) (hl : 0 < P.li.length) : Spec Tryz.prog 51 [ptr p] [.blk p 87 (plG P x ((ints P.ho)))] (fun _ : Unit => [.blk p 87 (plG P (votF P x).2 ((ints P.ho)))]) (fun _ => .agg (votF P x).1.abs) := by
 have hd2 := cA_ (xS (xS (xS (xS x)))) (b := 2) (by omega)
 have hd4 := cA_ (xS (xS x)) (b := 4) (by omega)
 refine t_ Tryz.func51 rfl Tryz.ntmps51 rfl fun G w =>c_<|a_<|eb_ (C_ tabOk rfl) rfl rfl fun b2=>?_
 refine d_<|b_<|c_<|a_<|q_ 1 rfl<|e_ (G_ tabOk Tryz.underlying22 rfl rfl rfl rfl rfl rfl rfl) rfl rfl<|slcA (b4_ (p := p) (P := P) (h := (ints P.ho)) (x := x) (xs := [4, 5, 5, 6, 8, 10]) (by decide) (by decide)) ?_
 refine x_ rfl i1_ (fun _ => rfl)<|fun _=>⟨_, u1_, q_ 1 rfl<|d_<|b_<|c_<|a_<|q_ 1 rfl<|slcA (ay_ (p := p) (P := P) (h := (ints P.ho)) (x := (xS x)) (b := 2) (by omega)) ?_⟩
 refine x_ rfl i1_ (fun _ => rfl)<|fun _=>⟨_, u1_, q_ 1 rfl<|slcA (ay_ (p := p) (P := P) (h := (ints P.ho)) (x := (xS (xS x))) (b := 4) (by omega)) ?_⟩
 refine x_ rfl i1_ (fun _ => rfl)<|fun _=>⟨_, u1_, slvA (h_ (C := int ((1 + dr (xS (xS x)) 4 : Nat) : Int)) (y_ rfl rfl (by simp only [InR, lo, hi]; omega)) (congrArg int (by omega))) ?_⟩
 refine q_ 1 rfl<|slcA (gL_ (p := p) (P := P) (x := (xS (xS (xS x)))) (k := 101)) ?_
 refine x_ rfl i1_ (fun _ => rfl)<|fun _=>⟨_, u1_, slvA (h_ (C := .agg (voA (dr (xS x) 2 : Nat) ((1 + dr (xS (xS x)) 4 : Nat)) (dgT 101 (1 + dr (xS (xS (xS x))) 12)))) (z_ tabOk rfl rfl rfl rfl) rfl)<|eb_ (C_ tabOk rfl) rfl rfl fun b4=>?_⟩
 refine e_ (m_ (L' := (voA (dr (xS x) 2 : Nat) ((1 + dr (xS (xS x)) 4 : Nat)) (dgT 101 (1 + dr (xS (xS (xS x))) 12)))) tabOk rfl rfl rfl u0_ b2_ (Nat.le_of_ble_eq_true rfl) rfl (by exact p_ b2_)) rfl rfl ?_
 refine d_<|b_<|c_<|c_<|a_<|q_ 3 rfl<|A_ (t := 18) rfl ?_ ?_
 ·intro hc18
  refine q_ 3 rfl<|d_<|b_<|U_ rfl<|a_<|q_ 1 rfl<|slcA (ay_ (p := p) (P := P) (h := (ints P.ho)) (x := (xS (xS (xS (xS x))))) (b := 2) (by omega)) ?_
  refine x_ rfl i2_ (fun _ => rfl)<|fun _=>⟨_, u2_, slvA (h_ (C := int ((1 + dr (xS (xS (xS (xS x)))) 2 : Nat) : Int)) (y_ rfl rfl (by simp only [InR, lo, hi]; omega)) (congrArg int (by omega))) ?_⟩
  refine slvA (h_ (C := int ((4 * (1 + dr (xS (xS (xS (xS x)))) 2) : Nat) : Int)) (bm_ rfl rfl (by simp only [InR, lo, hi]; omega)) (congrArg int (by omega))) ?_
  refine q_ 1 rfl<|slcA (gL_ (p := p) (P := P) (x := (xS (xS (xS (xS (xS x)))))) (k := 104)) ?_
  refine x_ rfl i2_ (fun _ => rfl)<|fun _=>⟨_, u2_, slvA (h_ (C := .agg (voA 0 ((4 * (1 + dr (xS (xS (xS (xS x)))) 2) : Nat)) (dgT 104 (1 + dr (xS (xS (xS (xS (xS x))))) 12)))) (z_ tabOk rfl rfl rfl rfl) rfl)<|e_ (m_ (L' := (voA 0 ((4 * (1 + dr (xS (xS (xS (xS x)))) 2) : Nat)) (dgT 104 (1 + dr (xS (xS (xS (xS (xS x))))) 12)))) tabOk rfl rfl rfl u0_ b2_ (Nat.le_of_ble_eq_true rfl) rfl (by exact p_ b2_)) rfl rfl ?_⟩
  refine d_<|b_<|c_<|a_<|q_ 2 rfl<|slvA (h_ (C := .agg (voA 0 ((4 * (1 + dr (xS (xS (xS (xS x)))) 2) : Nat)) (dgT 104 (1 + dr (xS (xS (xS (xS (xS x))))) 12)))) (r_ tabOk rfl rfl rfl l0_ List.not_mem_nil b2_) rfl)<|slcA (ho_ (vw := 0) (sq := ((4 * (1 + dr (xS (xS (xS (xS x)))) 2) : Nat))) (t := dgT 104 (1 + dr (xS (xS (xS (xS (xS x))))) 12))) ?_
  refine ap_<|fun _=>slcA (cx_ (p := p) (P := P) (x := (xS (xS (xS (xS (xS (xS x))))))) (kk := voteK x) (bd := voteB 0 ((4 * (1 + dr (xS (xS (xS (xS x)))) 2) : Nat)) (dgT 104 (1 + dr (xS (xS (xS (xS (xS x))))) 12))) hP hl) ?_
  refine x_ rfl i2_ (fun _ => rfl)<|fun _=>⟨_, u2_, e_ (m_ tabOk rfl rfl rfl u1_ rfl (Nat.le_of_ble_eq_true rfl) rfl (by exact p_ rfl)) rfl rfl ?_⟩
  refine d_<|b_<|k_ ?_
  have hE : votF P x = lieF P (xS (xS (xS (xS (xS (xS x)))))) (voteK x) (voteB 0 ((4 * (1 + dr (xS (xS (xS (xS x)))) 2) : Nat)) (dgT 104 (1 + dr (xS (xS (xS (xS (xS x))))) 12))) := if_pos (Or.inl hc18)
  refine f_ (rs := [.cell 2 44]) rfl (RV.cell rfl (RV.cellA tabOk rfl rfl l1_ (by rfl)) RV.nil) (()) (by rw [hE]; repeat (first | exact List.nil_sublist _ | exact List.Sublist.refl _ | apply List.Sublist.cons_cons | apply List.Sublist.cons)) ?_
  rw [hE]
  rfl
 intro hc18
 refine q_ 3 rfl<|d_<|b_<|l_ rfl ?_ ?_
 rotate_left
 ·intro hc21
  refine o_<|b_<|c_<|a_<|q_ 2 rfl<|slvA (h_ (C := .agg (voA (dr (xS x) 2 : Nat) ((1 + dr (xS (xS x)) 4 : Nat)) (dgT 101 (1 + dr (xS (xS (xS x))) 12)))) (r_ tabOk rfl rfl rfl l0_ List.not_mem_nil b2_) rfl)<|slcA (ho_ (vw := (dr (xS x) 2 : Nat)) (sq := ((1 + dr (xS (xS x)) 4 : Nat))) (t := dgT 101 (1 + dr (xS (xS (xS x))) 12))) ?_
  refine ap_<|fun _=>slcA (cx_ (p := p) (P := P) (x := (xS (xS (xS (xS x))))) (kk := voteK x) (bd := voteB (dr (xS x) 2 : Nat) ((1 + dr (xS (xS x)) 4 : Nat)) (dgT 101 (1 + dr (xS (xS (xS x))) 12))) hP hl) ?_
  refine x_ rfl i2_ (fun _ => rfl)<|fun _=>⟨_, u2_, e_ (m_ tabOk rfl rfl rfl u1_ rfl (Nat.le_of_ble_eq_true rfl) rfl (by exact p_ rfl)) rfl rfl ?_⟩
  refine d_<|b_<|k_ ?_
  have hE : votF P x = lieF P (xS (xS (xS (xS x)))) (voteK x) (voteB (dr (xS x) 2 : Nat) ((1 + dr (xS (xS x)) 4 : Nat)) (dgT 101 (1 + dr (xS (xS (xS x))) 12))) := if_neg (fun h => h.elim hc18 hc21)
  refine f_ (rs := [.cell 2 44]) rfl (RV.cell rfl (RV.cellA tabOk rfl rfl l1_ (by rfl)) RV.nil) (()) (by rw [hE]; repeat (first | exact List.nil_sublist _ | exact List.Sublist.refl _ | apply List.Sublist.cons_cons | apply List.Sublist.cons)) ?_
  rw [hE]
  rfl
 intro hc21
 refine a_<|q_ 1 rfl<|slcA (ay_ (p := p) (P := P) (h := (ints P.ho)) (x := (xS (xS (xS (xS x))))) (b := 2) (by omega)) ?_
 refine x_ rfl i2_ (fun _ => rfl)<|fun _=>⟨_, u2_, slvA (h_ (C := int ((1 + dr (xS (xS (xS (xS x)))) 2 : Nat) : Int)) (y_ rfl rfl (by simp only [InR, lo, hi]; omega)) (congrArg int (by omega))) ?_⟩
 refine slvA (h_ (C := int ((4 * (1 + dr (xS (xS (xS (xS x)))) 2) : Nat) : Int)) (bm_ rfl rfl (by simp only [InR, lo, hi]; omega)) (congrArg int (by omega))) ?_
 refine q_ 1 rfl<|slcA (gL_ (p := p) (P := P) (x := (xS (xS (xS (xS (xS x)))))) (k := 104)) ?_
 refine x_ rfl i2_ (fun _ => rfl)<|fun _=>⟨_, u2_, slvA (h_ (C := .agg (voA 0 ((4 * (1 + dr (xS (xS (xS (xS x)))) 2) : Nat)) (dgT 104 (1 + dr (xS (xS (xS (xS (xS x))))) 12)))) (z_ tabOk rfl rfl rfl rfl) rfl)<|e_ (m_ (L' := (voA 0 ((4 * (1 + dr (xS (xS (xS (xS x)))) 2) : Nat)) (dgT 104 (1 + dr (xS (xS (xS (xS (xS x))))) 12)))) tabOk rfl rfl rfl u0_ b2_ (Nat.le_of_ble_eq_true rfl) rfl (by exact p_ b2_)) rfl rfl ?_⟩
 refine d_<|b_<|c_<|a_<|q_ 2 rfl<|slvA (h_ (C := .agg (voA 0 ((4 * (1 + dr (xS (xS (xS (xS x)))) 2) : Nat)) (dgT 104 (1 + dr (xS (xS (xS (xS (xS x))))) 12)))) (r_ tabOk rfl rfl rfl l0_ List.not_mem_nil b2_) rfl)<|slcA (ho_ (vw := 0) (sq := ((4 * (1 + dr (xS (xS (xS (xS x)))) 2) : Nat))) (t := dgT 104 (1 + dr (xS (xS (xS (xS (xS x))))) 12))) ?_
 refine ap_<|fun _=>slcA (cx_ (p := p) (P := P) (x := (xS (xS (xS (xS (xS (xS x))))))) (kk := voteK x) (bd := voteB 0 ((4 * (1 + dr (xS (xS (xS (xS x)))) 2) : Nat)) (dgT 104 (1 + dr (xS (xS (xS (xS (xS x))))) 12))) hP hl) ?_
 refine x_ rfl i2_ (fun _ => rfl)<|fun _=>⟨_, u2_, e_ (m_ tabOk rfl rfl rfl u1_ rfl (Nat.le_of_ble_eq_true rfl) rfl (by exact p_ rfl)) rfl rfl ?_⟩
 refine d_<|b_<|k_ ?_
 have hE : votF P x = lieF P (xS (xS (xS (xS (xS (xS x)))))) (voteK x) (voteB 0 ((4 * (1 + dr (xS (xS (xS (xS x)))) 2) : Nat)) (dgT 104 (1 + dr (xS (xS (xS (xS (xS x))))) 12))) := if_pos (Or.inr hc21)
 refine f_ (rs := [.cell 2 44]) rfl (RV.cell rfl (RV.cellA tabOk rfl rfl l1_ (by rfl)) RV.nil) (()) (by rw [hE]; repeat (first | exact List.nil_sublist _ | exact List.Sublist.refl _ | apply List.Sublist.cons_cons | apply List.Sublist.cons)) ?_
 rw [hE]
 rfl
set_option maxHeartbeats 2000000 in
theorem gvouch_s (hP : P.Ok) (hl : 0 < P.li.length) : Spec Tryz.prog 52 [ptr p] [.blk p 87 (plG P x ((ints P.ho)))] (fun _ : Unit => [.blk p 87 (plG P (vouchF P x).2 ((ints P.ho)))]) (fun _ => .agg (vouchF P x).1.abs) := by
 have hd2 := cA_ x (b := 2) (by omega)
 have hp2 := p2_le hP.n7
 have hn9 := hP.n7
 have hdm := cA_ (xS (xS x)) (b := 2 ^ P.n) (by omega)
 refine t_ Tryz.func52 rfl Tryz.ntmps52 rfl fun G w =>c_<|a_<|eb_ (C_ tabOk rfl) rfl rfl fun b2=>?_
 refine d_<|b_<|c_<|iU_ [p, b2] (.q 0 (.q 1 (.q 2 (.q 3 (.q 4 (.q 5 (.q 8 (.q 10 (.q 11 (.q 12 (.q 13 (.q 14 (.q 15 (.q 16 (.e 6 (.q 7 (.e 9 (.e 17 (.q 18 (.q 19 (.e 20 (.e 21 (.e 22 .nil))))))))))))))))))))))) (fun w => w.cell? ⟨p, 3, none⟩ = some (.int .i64 (P.n : Nat))) (by kernel_rfl) (by kernel_rfl) (fun _ _ h => bx_ h (by repeat (first | exact List.mem_cons_self | apply List.mem_cons_of_mem)) rfl) ?_
 refine SXc.hx (by first|(simp[mids,It.mids,ownPc];done)|(intro k hk;simp[mids,It.mids,ownPc] at hk ⊢;grind)) fun hx9 => ?_
 refine SXc.val rfl (s_ rfl) hx9 rfl rfl<|SXc.val rfl (s_ rfl) hx9 rfl rfl<|SXc.val rfl (ag_ rfl) hx9 rfl rfl<|SXc.val rfl (E_ tabOk rfl rfl rfl rfl rfl) hx9 rfl rfl<|SXc.load (u := .int .i64 (P.n : Nat)) rfl tabOk rfl rfl (fun _ h => h) rfl rfl<|SXc.val rfl (s_ rfl) hx9 rfl rfl<|SXc.val rfl (s_ rfl) hx9 rfl rfl<|SXc.val rfl (s_ rfl) hx9 rfl rfl<|SXc.val rfl (s_ rfl) hx9 rfl rfl<|SXc.val rfl (ag_ rfl) hx9 rfl rfl<|SXc.val rfl (E_ tabOk rfl rfl rfl rfl rfl) hx9 rfl rfl<|SXc.load (u := .int .i64 (P.n : Nat)) rfl tabOk rfl rfl (fun _ h => h) rfl rfl<|SXc.val rfl (R_ rfl Tryz.underlying127 (by kernel_rfl) (by simp only [InR, lo, hi]; omega)) hx9 rfl rfl ?_
 refine SXc.val rfl (h_ (C := int ((2 ^ P.n : Nat) : Int)) (dE_ rfl rfl (by omega)) (congrArg int (sh_n hP.n7))) hx9 rfl rfl ?_
 refine SXc.call rfl (ay_ (p := p) (P := P) (h := (ints P.ho)) (x := x) (b := 2) (by omega)) (by simp [mids, It.mids]) Casts.refl (by kernel_rfl) rfl rfl rfl ?_
 refine x_ rfl i1_ (fun _ => rfl)<|fun _=>⟨_, u1_, ⟨fun _ _ h => bx_ h (by repeat (first | exact List.mem_cons_self | apply List.mem_cons_of_mem)) rfl, ?_⟩⟩
 refine SXc.hx (by first|(simp[mids,It.mids,ownPc];done)|(intro k hk;simp[mids,It.mids,ownPc] at hk ⊢;grind)) fun hx9 => ?_
 refine SXc.val rfl (h_ (C := int ((1 + dr x 2 : Nat) : Int)) (y_ rfl rfl (by simp only [InR, lo, hi]; omega)) (congrArg int (by omega))) hx9 rfl rfl ?_
 refine SXc.call rfl (gL_ (p := p) (P := P) (x := (xS x)) (k := 103)) (by simp [mids, It.mids]) Casts.refl (by kernel_rfl) rfl rfl rfl ?_
 refine x_ rfl i1_ (fun _ => rfl)<|fun _=>⟨_, u1_, ⟨fun _ _ h => bx_ h (by repeat (first | exact List.mem_cons_self | apply List.mem_cons_of_mem)) rfl, ?_⟩⟩
 refine SXc.call rfl (ay_ (p := p) (P := P) (h := (ints P.ho)) (x := (xS (xS x))) (b := 2 ^ P.n) (by omega)) (by simp [mids, It.mids]) Casts.refl (by kernel_rfl) rfl rfl rfl ?_
 refine x_ rfl i1_ (fun _ => rfl)<|fun _=>⟨_, u1_, ⟨fun _ _ h => bx_ h (by repeat (first | exact List.mem_cons_self | apply List.mem_cons_of_mem)) rfl, ?_⟩⟩
 refine SXc.hx (by first|(simp[mids,It.mids,ownPc];done)|(intro k hk;simp[mids,It.mids,ownPc] at hk ⊢;grind)) fun hx9 => ?_
 refine SXc.val rfl (h_ (C := .v (.int .u32 (dr (xS (xS x)) (2 ^ P.n) : Nat))) (R_ rfl Tryz.underlying38 (by kernel_rfl) (by simp only [InR, lo, hi]; omega)) rfl) hx9 rfl rfl ?_
 refine SXc.val rfl (h_ (C := .agg (vouA P.n ((1 + dr x 2 : Nat)) (dgT 103 (1 + dr (xS x) 12)) (dr (xS (xS x)) (2 ^ P.n)))) (z_ tabOk rfl rfl rfl rfl) rfl) hx9 rfl rfl<|SXc.call rfl (vouF_s (n := P.n) (st := ((1 + dr x 2 : Nat))) (t := dgT 103 (1 + dr (xS x) 12)) (m := dr (xS (xS x)) (2 ^ P.n)) (by omega) (by omega)) (by simp [mids, It.mids]) Casts.refl (by kernel_rfl) rfl rfl rfl ?_
 refine ap_<|fun _=>⟨fun _ _ h => bx_ h (by repeat (first | exact List.mem_cons_self | apply List.mem_cons_of_mem)) rfl, ?_⟩
 refine SXc.call rfl (cx_ (p := p) (P := P) (x := (xS (xS (xS x)))) (kk := 2) (bd := vouB P.n ((1 + dr x 2 : Nat)) (dgT 103 (1 + dr (xS x) 12)) (dr (xS (xS x)) (2 ^ P.n))) hP hl) (by simp [mids, It.mids]) Casts.refl (by kernel_rfl) rfl rfl rfl ?_
 refine x_ rfl i1_ (fun _ => rfl)<|fun _=>⟨_, u1_, ⟨fun _ _ h => bx_ h (by repeat (first | exact List.mem_cons_self | apply List.mem_cons_of_mem)) rfl, ?_⟩⟩
 refine SXc.eff rfl (m_ (L' := (vouchF P x).1.abs) tabOk rfl rfl rfl u0_ rfl (lb_ (by rfl)) rfl (by exact p_ rfl)) (by simp) rfl rfl ?_
 rintro _ _ ⟨rfl, rfl⟩
 refine ⟨fun _ _ h => bx_ h (by repeat (first | exact List.mem_cons_self | apply List.mem_cons_of_mem)) rfl, ?_⟩
 refine SXc.nil<|b_<|k_<|f_ (rs := [.cell 2 44]) rfl (RV.cell rfl (RV.cellA tabOk rfl rfl l0_ (by rfl)) RV.nil) (()) (sk_ sr_) ?_
 exact rfl
set_option maxHeartbeats 4000000 in
theorem gchang_s (hP : P.Ok) (hl : 0 < P.li.length) (h1 : P.c.letter.size ≤ 1000) (h2 : P.c.text.size ≤ 1000) : Spec Tryz.prog 53 [ptr p] [.blk p 87 (plG P x ((ints P.ho)))] (fun _ : Unit => [.blk p 87 (plG P (changF P x).2 ((ints P.ho)))]) (fun _ => .agg (changF P x).1.abs) := by
 have hv3 := cA_ x (b := 3) (by omega)
 have hl2 := cA_ (xS x) (b := 2) (by omega)
 have hp3 := cA_ (xS (xS (xS x))) (b := 3) (by omega)
 have hcv : chV x = 1 + dr x 3 := rfl
 have hcl : chL x = 4 * dr (xS x) 2 := rfl
 have hpv := cA_ (xS (xS (xS (xS x)))) (b := chV x) (by omega)
 refine t_ Tryz.func53 rfl Tryz.ntmps53 rfl fun G w =>c_<|a_<|eb_ (C_ tabOk rfl) rfl rfl fun b2=>?_
 refine d_<|b_<|c_<|a_<|q_ 1 rfl<|slcA (ay_ (p := p) (P := P) (h := (ints P.ho)) (x := x) (b := 3) (by omega)) ?_
 refine x_ rfl i1_ (fun _ => rfl)<|fun _=>⟨_, u1_, slvA (h_ (C := int (chV x : Nat)) (y_ rfl rfl (by simp only [InR, lo, hi]; omega)) (congrArg int (by omega))) ?_⟩
 refine q_ 1 rfl<|slcA (ay_ (p := p) (P := P) (h := (ints P.ho)) (x := (xS x)) (b := 2) (by omega)) ?_
 refine x_ rfl i1_ (fun _ => rfl)<|fun _=>⟨_, u1_, slvA (h_ (C := int (chL x : Nat)) (bm_ rfl rfl (by simp only [InR, lo, hi]; omega)) (congrArg int (by omega))) ?_⟩
 refine slvA (h_ (C := .agg [int (chV x : Nat), int (chL x : Nat), .v (.slice none 0 0), .v (.slice none 0 0), .v (.slice none 0 0)]) (z_ tabOk rfl rfl rfl rfl) rfl)<|eb_ (C_ tabOk rfl) rfl rfl fun b3=>?_
 refine e_ (m_ tabOk rfl rfl rfl u0_ rfl (Nat.le_of_ble_eq_true rfl) rfl rfl) rfl rfl<|d_<|b_<|c_<|ao_ (p := b3 ∉ [p]) (fun _ _ h => by
   have h1 := h.mem.nodup
   simp [mids, It.mids, ownPc] at h1 ⊢
   grind) fun hX => ?_
 refine as_ [p] (.q 0 (.q 1 (.q 2 (.e 3 (.q 4 (.e 5 (.q 6 .nil))))))) (by kernel_rfl) (by kernel_rfl) ?_
 refine hx_ fun hx9 =>qx_ 1 hx9 rfl<|sxvA rfl (g_ tabOk rfl rfl l0_ hX rfl) hx9<|qx_ 1 hx9 rfl<|D_ rfl (gL_ (p := p) (P := P) (x := (xS (xS x))) (k := 104)) (by simp [mids, It.mids]) Casts.refl (by kernel_rfl) rfl rfl rfl ?_
 refine x_ rfl i2_ (fun _ => rfl)<|fun _=>⟨_, u2_, hx_ fun hx9 =>sxvA rfl (h_ (C := .agg (chP x).abs) (z_ tabOk rfl rfl rfl rfl) rfl) hx9<|ex_ rfl (G_ tabOk Tryz.underlying199 rfl rfl rfl rfl rfl rfl rfl) (by simp) rfl rfl ?_⟩
 refine hx_ fun hx9 =>qx_ 1 hx9 rfl<|F_<|aq_ rfl (m_ (L' := [int (chV x : Nat), int (chL x : Nat), pntsA [chP x], .v (.slice none 0 0), .v (.slice none 0 0)]) tabOk rfl rfl rfl u0_ rfl (lb_ (by rfl)) rfl (by rfl)) rfl rfl ?_
 rintro _ _ ⟨rfl, rfl⟩
 refine b_<|bL_ (ι := Nat) (fun y => [.blk y 205 [int ((chL x + 1 + dr (xS (xS (xS x))) 3 : Nat)), int ((dr (xS (xS (xS (xS x)))) (chV x) : Nat)), .v (.slice none 0 0)], .blk b3 201 [int (chV x : Nat), int (chL x : Nat), pntsA [chP x], .v (.slice none 0 0), .v (.slice none 0 0)], .blk b2 44 (stR 0 0 0 0 cz (.v (.slice none 0 0)) 0 (.v (.slice none 0 0))), .blk p 87 (plG P (xS (xS (xS (xS (xS x))))) ((ints P.ho)))]) (fun y => [(0, ptr p), (2, ptr b2), (3, ptr b3), (4, ptr y)]) (fun y => True) ?_ ?_
 ·skip
  refine ao_ (p := b3 ∉ [p]) (fun _ _ h => by
    have h1 := h.mem.nodup
    simp [mids, It.mids, ownPc] at h1 ⊢
    grind) fun hX => ?_
  refine as_ [p] (.q 0 (.q 1 (.q 2 (.q 3 (.q 6 (.q 7 (.q 8 (.two 4 11 (.q 5 (.two 9 11 (.q 10 (.e 11 .nil)) (.e 9 (.q 10 .nil)))) (.e 4 (.q 5 (.e 9 (.q 10 .nil)))))))))))) (by kernel_rfl) (by kernel_rfl) ?_
  refine hx_ fun hx9 =>qx_ 1 hx9 rfl<|sxvA rfl (g_ tabOk rfl rfl l0_ hX rfl) hx9<|sxvA rfl (h_ (C := int ((chL x + 1 : Nat))) (y_ rfl rfl (by simp only [InR, lo, hi]; omega)) (congrArg int (by omega))) hx9 ?_
  refine qx_ 3 hx9 rfl<|sxvA rfl (g_ tabOk rfl rfl l0_ hX rfl) hx9<|aV_ ?_ ?_
  ·skip
   refine D_ rfl (ay_ (p := p) (P := P) (h := (ints P.ho)) (x := (xS (xS (xS x)))) (b := 3) (by omega)) (by simp [mids, It.mids]) Casts.refl (by kernel_rfl) rfl rfl rfl ?_
   refine x_ rfl i2_ (fun _ => rfl)<|fun _=>⟨_, u2_, hx_ fun hx9 =>sxvA rfl (h_ (C := int ((chL x + 1 + dr (xS (xS (xS x))) 3 : Nat))) (y_ rfl rfl (by simp only [InR, lo, hi]; omega)) (congrArg int (by omega))) hx9 ?_⟩
   refine aV_ ?_ ?_
   ·skip
    refine D_ rfl (ay_ (p := p) (P := P) (h := (ints P.ho)) (x := (xS (xS (xS (xS x))))) (b := chV x) (by omega)) (by simp [mids, It.mids]) Casts.refl (by kernel_rfl) rfl rfl rfl ?_
    refine x_ rfl i2_ (fun _ => rfl)<|fun _=>⟨_, u2_, hx_ fun hx9 =>sxvA rfl (h_ (C := .agg [int ((chL x + 1 + dr (xS (xS (xS x))) 3 : Nat)), int ((dr (xS (xS (xS (xS x)))) (chV x) : Nat)), .v (.slice none 0 0)]) (z_ tabOk rfl rfl rfl rfl) rfl) hx9<|exb_ rfl (C_ tabOk rfl) (by simp) rfl rfl fun b4=>?_⟩
    refine F_<|aq_ rfl (m_ (L' := [int ((chL x + 1 + dr (xS (xS (xS x))) 3 : Nat)), int ((dr (xS (xS (xS (xS x)))) (chV x) : Nat)), .v (.slice none 0 0)]) tabOk rfl rfl rfl u0_ rfl (lb_ (by rfl)) rfl (by exact p_ rfl)) rfl rfl ?_
    rintro _ _ ⟨rfl, rfl⟩
    refine aw_ (b4) (trivial) (by exact ⟨rfl, rfl, rfl, rfl, trivial⟩) sr_
   skip
   refine exb_ rfl (C_ tabOk rfl) (by simp) rfl rfl fun b4=>?_
   refine D_ rfl (ay_ (p := p) (P := P) (h := (ints P.ho)) (x := (xS (xS (xS (xS x))))) (b := chV x) (by omega)) (by simp [mids, It.mids]) Casts.refl (by kernel_rfl) rfl rfl rfl ?_
   refine x_ rfl i3_ (fun _ => rfl)<|fun _=>⟨_, u3_, hx_ fun hx9 =>sxvA rfl (h_ (C := .agg [int ((chL x + 1 + dr (xS (xS (xS x))) 3 : Nat)), int ((dr (xS (xS (xS (xS x)))) (chV x) : Nat)), .v (.slice none 0 0)]) (z_ tabOk rfl rfl rfl rfl) rfl) hx9<|F_<|aq_ rfl (m_ (L' := [int ((chL x + 1 + dr (xS (xS (xS x))) 3 : Nat)), int ((dr (xS (xS (xS (xS x)))) (chV x) : Nat)), .v (.slice none 0 0)]) tabOk rfl rfl rfl u0_ rfl (lb_ (by rfl)) rfl (by exact p_ rfl)) rfl rfl ?_⟩
   rintro _ _ ⟨rfl, rfl⟩
   refine aw_ (b4) (trivial) (by exact ⟨rfl, rfl, rfl, rfl, trivial⟩) sr_
  skip
  refine exb_ rfl (C_ tabOk rfl) (by simp) rfl rfl fun b4=>?_
  refine D_ rfl (ay_ (p := p) (P := P) (h := (ints P.ho)) (x := (xS (xS (xS x)))) (b := 3) (by omega)) (by simp [mids, It.mids]) Casts.refl (by kernel_rfl) rfl rfl rfl ?_
  refine x_ rfl i3_ (fun _ => rfl)<|fun _=>⟨_, u3_, hx_ fun hx9 =>sxvA rfl (h_ (C := int ((chL x + 1 + dr (xS (xS (xS x))) 3 : Nat))) (y_ rfl rfl (by simp only [InR, lo, hi]; omega)) (congrArg int (by omega))) hx9 ?_⟩
  refine D_ rfl (ay_ (p := p) (P := P) (h := (ints P.ho)) (x := (xS (xS (xS (xS x))))) (b := chV x) (by omega)) (by simp [mids, It.mids]) Casts.refl (by kernel_rfl) rfl rfl rfl ?_
  refine x_ rfl i3_ (fun _ => rfl)<|fun _=>⟨_, u3_, hx_ fun hx9 =>sxvA rfl (h_ (C := .agg [int ((chL x + 1 + dr (xS (xS (xS x))) 3 : Nat)), int ((dr (xS (xS (xS (xS x)))) (chV x) : Nat)), .v (.slice none 0 0)]) (z_ tabOk rfl rfl rfl rfl) rfl) hx9<|F_<|aq_ rfl (m_ (L' := [int ((chL x + 1 + dr (xS (xS (xS x))) 3 : Nat)), int ((dr (xS (xS (xS (xS x)))) (chV x) : Nat)), .v (.slice none 0 0)]) tabOk rfl rfl rfl u0_ rfl (lb_ (by rfl)) rfl (by exact p_ rfl)) rfl rfl ?_⟩
  rintro _ _ ⟨rfl, rfl⟩
  refine aw_ (b4) (trivial) (by exact ⟨rfl, rfl, rfl, rfl, trivial⟩) sr_
 intro b4 _
 refine c_<|c_<|a_<|q_ 1 rfl<|slcA (ay_ (p := p) (P := P) (h := (ints P.ho)) (x := (xS (xS (xS (xS (xS x)))))) (b := 2) (by omega)) ?_
 refine x_ rfl i3_ (fun _ => rfl)<|fun _=>⟨_, u3_, q_ 1 rfl<|d_<|b_<|l_ rfl ?_ ?_⟩
 rotate_left
 ·intro hc32
  have hR : chR P x = ⟨((chL x + 1 + dr (xS (xS (xS x))) 3 : Nat)), ((dr (xS (xS (xS (xS x)))) (chV x) : Nat)), []⟩ := by
   unfold chR
   rw [if_neg (by omega)]
  refine o_<|b_<|c_<|ao_ (p := b4 ∉ [b3]) (fun _ _ h => by
    have h1 := h.mem.nodup
    simp [mids, It.mids, ownPc] at h1 ⊢
    grind) fun hX => ?_
  refine Q_ [b3] (.q 0 (.q 2 (.two 1 3 (.q 4 (.two 3 5 (.e 5 (.q 6 (.e 7 .nil))) (.e 3 (.q 6 (.e 7 .nil))))) (.e 1 (.q 4 (.e 5 (.q 6 (.e 7 .nil)))))))) (by kernel_rfl) (by kernel_rfl) ?_
  refine hx_ fun hx9 =>sxvA rfl (h_ (C := .agg (chR P x).abs) (aS_ (y := .agg (Prf.mk ((chL x + 1 + dr (xS (xS (xS x))) 3 : Nat)) ((dr (xS (xS (xS (xS x)))) (chV x) : Nat)) []).abs) (h_ (C := .agg [int ((chL x + 1 + dr (xS (xS (xS x))) 3 : Nat)), int ((dr (xS (xS (xS (xS x)))) (chV x) : Nat)), .v (.slice none 0 0)]) (r_ tabOk rfl rfl rfl l0_ hX rfl) rfl) (cn_ (Casts.keep (Casts.keep (Casts.nils Casts.refl))))) (by rw [hR])) hx9 ?_
  refine sxvA rfl (h_ (C := .agg (chR P x).abs) (aS_ (y := .agg (Prf.mk ((chL x + 1 + dr (xS (xS (xS x))) 3 : Nat)) ((dr (xS (xS (xS (xS x)))) (chV x) : Nat)) []).abs) (h_ (C := .agg [int ((chL x + 1 + dr (xS (xS (xS x))) 3 : Nat)), int ((dr (xS (xS (xS (xS x)))) (chV x) : Nat)), .v (.slice none 0 0)]) (r_ tabOk rfl rfl rfl l0_ hX rfl) rfl) (cn_ (Casts.keep (Casts.keep (Casts.nils Casts.refl))))) (by rw [hR])) hx9 ?_
  refine aV_ ?_ ?_
  ·skip
   refine ex_ rfl (G_ tabOk Tryz.underlying161 rfl rfl rfl (ah_ rfl) rfl rfl rfl) (by simp) rfl rfl ?_
   refine hx_ fun hx9 =>qx_ 1 hx9 rfl<|aV_ ?_ ?_
   ·skip
    refine ex_ rfl (G_ tabOk Tryz.underlying161 rfl rfl rfl (ah_ rfl) rfl rfl rfl) (by simp) rfl rfl ?_
    refine ex_ rfl (m_ tabOk rfl rfl rfl u1_ rfl (Nat.le_of_ble_eq_true rfl) rfl rfl) (by simp) rfl rfl ?_
    refine hx_ fun hx9 =>qx_ 1 hx9 rfl<|ex_ rfl (m_ tabOk rfl rfl rfl u1_ rfl (Nat.le_of_ble_eq_true rfl) rfl rfl) (by simp) rfl rfl ?_
    refine F_<|b_<|c_<|a_<|q_ 1 rfl<|slvA (h_ (C := .agg (chC P x).abs) (r_ tabOk rfl rfl rfl l1_ List.not_mem_nil rfl) rfl)<|slcA (dV_ (c := chC P x) (chFew h1 h2)) ?_
    refine ap_<|fun _=>slcA (cx_ (p := p) (P := P) (x := (xS (xS (xS (xS (xS (xS x))))))) (kk := 7) (bd := (chC P x).bytes) hP hl) ?_
    refine x_ rfl i3_ (fun _ => rfl)<|fun _=>⟨_, u3_, e_ (m_ tabOk rfl rfl rfl u2_ rfl (Nat.le_of_ble_eq_true rfl) rfl (by exact p_ rfl)) rfl rfl ?_⟩
    refine d_<|b_<|k_ ?_
    have hE : changF P x = lieF P (xS (xS (xS (xS (xS (xS x)))))) 7 (chC P x).bytes := if_neg (by omega)
    refine f_ (rs := [.cell 2 44]) rfl (RV.cell rfl (RV.cellA tabOk rfl rfl l2_ (by rfl)) RV.nil) (()) (by rw [hE]; repeat (first | exact List.nil_sublist _ | exact List.Sublist.refl _ | apply List.Sublist.cons_cons | apply List.Sublist.cons)) ?_
    rw [hE]
    rfl
   skip
   refine ex_ rfl (m_ tabOk rfl rfl rfl u1_ rfl (Nat.le_of_ble_eq_true rfl) rfl rfl) (by simp) rfl rfl ?_
   refine ex_ rfl (G_ tabOk Tryz.underlying161 rfl rfl rfl (ah_ rfl) rfl rfl rfl) (by simp) rfl rfl ?_
   refine hx_ fun hx9 =>qx_ 1 hx9 rfl<|ex_ rfl (m_ tabOk rfl rfl rfl u1_ rfl (Nat.le_of_ble_eq_true rfl) rfl rfl) (by simp) rfl rfl ?_
   refine F_<|b_<|c_<|a_<|q_ 1 rfl<|slvA (h_ (C := .agg (chC P x).abs) (r_ tabOk rfl rfl rfl l1_ List.not_mem_nil rfl) rfl)<|slcA (dV_ (c := chC P x) (chFew h1 h2)) ?_
   refine ap_<|fun _=>slcA (cx_ (p := p) (P := P) (x := (xS (xS (xS (xS (xS (xS x))))))) (kk := 7) (bd := (chC P x).bytes) hP hl) ?_
   refine x_ rfl i3_ (fun _ => rfl)<|fun _=>⟨_, u3_, e_ (m_ tabOk rfl rfl rfl u2_ rfl (Nat.le_of_ble_eq_true rfl) rfl (by exact p_ rfl)) rfl rfl ?_⟩
   refine d_<|b_<|k_ ?_
   have hE : changF P x = lieF P (xS (xS (xS (xS (xS (xS x)))))) 7 (chC P x).bytes := if_neg (by omega)
   refine f_ (rs := [.cell 2 44]) rfl (RV.cell rfl (RV.cellA tabOk rfl rfl l2_ (by rfl)) RV.nil) (()) (by rw [hE]; repeat (first | exact List.nil_sublist _ | exact List.Sublist.refl _ | apply List.Sublist.cons_cons | apply List.Sublist.cons)) ?_
   rw [hE]
   rfl
  skip
  refine ex_ rfl (G_ tabOk Tryz.underlying161 rfl rfl rfl (ah_ rfl) rfl rfl rfl) (by simp) rfl rfl ?_
  refine ex_ rfl (G_ tabOk Tryz.underlying161 rfl rfl rfl (ah_ rfl) rfl rfl rfl) (by simp) rfl rfl ?_
  refine hx_ fun hx9 =>qx_ 1 hx9 rfl<|ex_ rfl (m_ tabOk rfl rfl rfl u1_ rfl (Nat.le_of_ble_eq_true rfl) rfl rfl) (by simp) rfl rfl ?_
  refine hx_ fun hx9 =>qx_ 1 hx9 rfl<|ex_ rfl (m_ tabOk rfl rfl rfl u1_ rfl (Nat.le_of_ble_eq_true rfl) rfl rfl) (by simp) rfl rfl ?_
  refine F_<|b_<|c_<|a_<|q_ 1 rfl<|slvA (h_ (C := .agg (chC P x).abs) (r_ tabOk rfl rfl rfl l1_ List.not_mem_nil rfl) rfl)<|slcA (dV_ (c := chC P x) (chFew h1 h2)) ?_
  refine ap_<|fun _=>slcA (cx_ (p := p) (P := P) (x := (xS (xS (xS (xS (xS (xS x))))))) (kk := 7) (bd := (chC P x).bytes) hP hl) ?_
  refine x_ rfl i3_ (fun _ => rfl)<|fun _=>⟨_, u3_, e_ (m_ tabOk rfl rfl rfl u2_ rfl (Nat.le_of_ble_eq_true rfl) rfl (by exact p_ rfl)) rfl rfl ?_⟩
  refine d_<|b_<|k_ ?_
  have hE : changF P x = lieF P (xS (xS (xS (xS (xS (xS x)))))) 7 (chC P x).bytes := if_neg (by omega)
  refine f_ (rs := [.cell 2 44]) rfl (RV.cell rfl (RV.cellA tabOk rfl rfl l2_ (by rfl)) RV.nil) (()) (by rw [hE]; repeat (first | exact List.nil_sublist _ | exact List.Sublist.refl _ | apply List.Sublist.cons_cons | apply List.Sublist.cons)) ?_
  rw [hE]
  rfl
 intro hc32
 have hR : chR P x = ⟨((chL x + 1 + dr (xS (xS (xS x))) 3 : Nat)), ((dr (xS (xS (xS (xS x)))) (chV x) : Nat)), [(Ent.mk (askC P (xS (xS (xS (xS (xS (xS x))))))) 1)]⟩ := by
  unfold chR
  rw [if_pos (by omega)]
 refine a_<|q_ 1 rfl<|slcA (gask_s (p := p) (P := P) (x := (xS (xS (xS (xS (xS (xS x)))))))) ?_
 refine x_ rfl i3_ (fun _ => rfl)<|fun _=>⟨_, u3_, slvA (h_ (C := .agg ((Ent.mk (askC P (xS (xS (xS (xS (xS (xS x))))))) 1).cells.map .v)) (z_ tabOk rfl rfl rfl rfl) rfl)<|e_ (G_ tabOk Tryz.underlying184 rfl rfl rfl (ah_ rfl) rfl rfl rfl) rfl rfl<|q_ 1 rfl<|e_ (m_ (L' := [int ((chL x + 1 + dr (xS (xS (xS x))) 3 : Nat)), int ((dr (xS (xS (xS (xS x)))) (chV x) : Nat)), entsA [(Ent.mk (askC P (xS (xS (xS (xS (xS (xS x))))))) 1)]]) tabOk rfl rfl rfl u0_ rfl (Nat.le_of_ble_eq_true rfl) rfl rfl) rfl rfl<|d_<|b_<|c_ ?_⟩
 refine ao_ (p := b4 ∉ [b3]) (fun _ _ h => by
   have h1 := h.mem.nodup
   simp [mids, It.mids, ownPc] at h1 ⊢
   grind) fun hX => ?_
 refine Q_ [b3] (.q 0 (.q 2 (.two 1 3 (.q 4 (.two 3 5 (.e 5 (.q 6 (.e 7 .nil))) (.e 3 (.q 6 (.e 7 .nil))))) (.e 1 (.q 4 (.e 5 (.q 6 (.e 7 .nil)))))))) (by kernel_rfl) (by kernel_rfl) ?_
 refine hx_ fun hx9 =>sxvA rfl (h_ (C := .agg (chR P x).abs) (r_ tabOk rfl rfl rfl l0_ hX rfl) (by rw [hR]; rfl)) hx9 ?_
 refine sxvA rfl (h_ (C := .agg (chR P x).abs) (r_ tabOk rfl rfl rfl l0_ hX rfl) (by rw [hR]; rfl)) hx9 ?_
 refine aV_ ?_ ?_
 ·skip
  refine ex_ rfl (G_ tabOk Tryz.underlying161 rfl rfl rfl (ah_ rfl) rfl rfl rfl) (by simp) rfl rfl ?_
  refine hx_ fun hx9 =>qx_ 1 hx9 rfl<|aV_ ?_ ?_
  ·skip
   refine ex_ rfl (G_ tabOk Tryz.underlying161 rfl rfl rfl (ah_ rfl) rfl rfl rfl) (by simp) rfl rfl ?_
   refine ex_ rfl (m_ tabOk rfl rfl rfl u1_ rfl (Nat.le_of_ble_eq_true rfl) rfl rfl) (by simp) rfl rfl ?_
   refine hx_ fun hx9 =>qx_ 1 hx9 rfl<|ex_ rfl (m_ tabOk rfl rfl rfl u1_ rfl (Nat.le_of_ble_eq_true rfl) rfl rfl) (by simp) rfl rfl ?_
   refine F_<|b_<|c_<|a_<|q_ 1 rfl<|slvA (h_ (C := .agg (chC P x).abs) (r_ tabOk rfl rfl rfl l1_ List.not_mem_nil rfl) rfl)<|slcA (dV_ (c := chC P x) (chFew h1 h2)) ?_
   refine ap_<|fun _=>slcA (cx_ (p := p) (P := P) (x := (xS (xS (xS (xS (xS (xS (xS x)))))))) (kk := 7) (bd := (chC P x).bytes) hP hl) ?_
   refine x_ rfl i3_ (fun _ => rfl)<|fun _=>⟨_, u3_, e_ (m_ tabOk rfl rfl rfl u2_ rfl (Nat.le_of_ble_eq_true rfl) rfl (by exact p_ rfl)) rfl rfl ?_⟩
   refine d_<|b_<|k_ ?_
   have hE : changF P x = lieF P (xS (xS (xS (xS (xS (xS (xS x))))))) 7 (chC P x).bytes := if_pos (by omega)
   refine f_ (rs := [.cell 2 44]) rfl (RV.cell rfl (RV.cellA tabOk rfl rfl l2_ (by rfl)) RV.nil) (()) (by rw [hE]; repeat (first | exact List.nil_sublist _ | exact List.Sublist.refl _ | apply List.Sublist.cons_cons | apply List.Sublist.cons)) ?_
   rw [hE]
   rfl
  skip
  refine ex_ rfl (m_ tabOk rfl rfl rfl u1_ rfl (Nat.le_of_ble_eq_true rfl) rfl rfl) (by simp) rfl rfl ?_
  refine ex_ rfl (G_ tabOk Tryz.underlying161 rfl rfl rfl (ah_ rfl) rfl rfl rfl) (by simp) rfl rfl ?_
  refine hx_ fun hx9 =>qx_ 1 hx9 rfl<|ex_ rfl (m_ tabOk rfl rfl rfl u1_ rfl (Nat.le_of_ble_eq_true rfl) rfl rfl) (by simp) rfl rfl ?_
  refine F_<|b_<|c_<|a_<|q_ 1 rfl<|slvA (h_ (C := .agg (chC P x).abs) (r_ tabOk rfl rfl rfl l1_ List.not_mem_nil rfl) rfl)<|slcA (dV_ (c := chC P x) (chFew h1 h2)) ?_
  refine ap_<|fun _=>slcA (cx_ (p := p) (P := P) (x := (xS (xS (xS (xS (xS (xS (xS x)))))))) (kk := 7) (bd := (chC P x).bytes) hP hl) ?_
  refine x_ rfl i3_ (fun _ => rfl)<|fun _=>⟨_, u3_, e_ (m_ tabOk rfl rfl rfl u2_ rfl (Nat.le_of_ble_eq_true rfl) rfl (by exact p_ rfl)) rfl rfl ?_⟩
  refine d_<|b_<|k_ ?_
  have hE : changF P x = lieF P (xS (xS (xS (xS (xS (xS (xS x))))))) 7 (chC P x).bytes := if_pos (by omega)
  refine f_ (rs := [.cell 2 44]) rfl (RV.cell rfl (RV.cellA tabOk rfl rfl l2_ (by rfl)) RV.nil) (()) (by rw [hE]; repeat (first | exact List.nil_sublist _ | exact List.Sublist.refl _ | apply List.Sublist.cons_cons | apply List.Sublist.cons)) ?_
  rw [hE]
  rfl
 skip
 refine ex_ rfl (G_ tabOk Tryz.underlying161 rfl rfl rfl (ah_ rfl) rfl rfl rfl) (by simp) rfl rfl ?_
 refine ex_ rfl (G_ tabOk Tryz.underlying161 rfl rfl rfl (ah_ rfl) rfl rfl rfl) (by simp) rfl rfl ?_
 refine hx_ fun hx9 =>qx_ 1 hx9 rfl<|ex_ rfl (m_ tabOk rfl rfl rfl u1_ rfl (Nat.le_of_ble_eq_true rfl) rfl rfl) (by simp) rfl rfl ?_
 refine hx_ fun hx9 =>qx_ 1 hx9 rfl<|ex_ rfl (m_ tabOk rfl rfl rfl u1_ rfl (Nat.le_of_ble_eq_true rfl) rfl rfl) (by simp) rfl rfl ?_
 refine F_<|b_<|c_<|a_<|q_ 1 rfl<|slvA (h_ (C := .agg (chC P x).abs) (r_ tabOk rfl rfl rfl l1_ List.not_mem_nil rfl) rfl)<|slcA (dV_ (c := chC P x) (chFew h1 h2)) ?_
 refine ap_<|fun _=>slcA (cx_ (p := p) (P := P) (x := (xS (xS (xS (xS (xS (xS (xS x)))))))) (kk := 7) (bd := (chC P x).bytes) hP hl) ?_
 refine x_ rfl i3_ (fun _ => rfl)<|fun _=>⟨_, u3_, e_ (m_ tabOk rfl rfl rfl u2_ rfl (Nat.le_of_ble_eq_true rfl) rfl (by exact p_ rfl)) rfl rfl ?_⟩
 refine d_<|b_<|k_ ?_
 have hE : changF P x = lieF P (xS (xS (xS (xS (xS (xS (xS x))))))) 7 (chC P x).bytes := if_pos (by omega)
 refine f_ (rs := [.cell 2 44]) rfl (RV.cell rfl (RV.cellA tabOk rfl rfl l2_ (by rfl)) RV.nil) (()) (by rw [hE]; repeat (first | exact List.nil_sublist _ | exact List.Sublist.refl _ | apply List.Sublist.cons_cons | apply List.Sublist.cons)) ?_
 rw [hE]
 rfl
end
def turnF (k : Nat) (P : PW) (x : Nat) : Stp × Nat :=
  match k with
  | 1 => plainF P x
  | 2 => facesF P x
  | 3 => votF P x
  | 4 => vouchF P x
  | 5 => changF P x
  | _ => stormF P x
def stepF (k : Nat) (P : PW) (x : Nat) : Stp × Nat :=
  if (k ≠ 1 ∧ k ≠ 6) ∧ P.li.length = 0 then plainF P x
  else if dr x 3 = 0 then plainF P (xS x)
  else turnF k P (xS x)
section
variable {p x b : Nat} {P : PW}
theorem f0_  : Spec Tryz.prog 31 [ptr p] [.blk p 87 (plG P x ((ints P.ho)))] (fun _ : Unit => [.blk p 87 (plG P x ((ints P.ho)))]) (fun _ => .agg [.v .nilFunc, .fn (.func 30) [ptr p] [], .fn (.func 50) [ptr p] [], .fn (.func 51) [ptr p] [], .fn (.func 52) [ptr p] [], .fn (.func 53) [ptr p] [], .fn (.func 54) [ptr p] []]) := by
 refine t_ Tryz.func31 rfl Tryz.ntmps31 rfl fun G w =>c_<|a_<|eb_ (C_ tabOk rfl) rfl rfl fun b2=>?_
 refine d_<|b_<|c_<|a_<|q_ 1 rfl<|slvA (V_ rfl rfl)<|q_ 1 rfl<|slvA (V_ rfl rfl)<|q_ 1 rfl<|slvA (V_ rfl rfl)<|q_ 1 rfl<|slvA (V_ rfl rfl)<|q_ 1 rfl<|slvA (V_ rfl rfl)<|q_ 1 rfl<|slvA (V_ rfl rfl)<|slvA (h_ (C := .agg [.v .nilFunc, .fn (.func 30) [ptr p] [], .fn (.func 50) [ptr p] [], .fn (.func 51) [ptr p] [], .fn (.func 52) [ptr p] [], .fn (.func 53) [ptr p] [], .fn (.func 54) [ptr p] []]) (bC_ tabOk rfl rfl rfl rfl) rfl)<|e_ (m_ (L' := [.v .nilFunc, .fn (.func 30) [ptr p] [], .fn (.func 50) [ptr p] [], .fn (.func 51) [ptr p] [], .fn (.func 52) [ptr p] [], .fn (.func 53) [ptr p] [], .fn (.func 54) [ptr p] []]) tabOk rfl rfl rfl u0_ rfl (Nat.le_of_ble_eq_true rfl) rfl (by exact p_ rfl)) rfl rfl ?_
 refine d_<|b_<|k_<|f_ (rs := [.cell 2 91]) rfl (RV.cell rfl (RV.cellA tabOk rfl rfl l0_ (by rfl)) RV.nil) (()) (sk_ sr_) ?_
 exact rfl
set_option maxHeartbeats 1000000 in
theorem cS_ {kd : Int} {f : Nat} (hk : 1 ≤ kd ∧ kd ≤ 6) (hP : P.Ok) (hf : ([.v .nilFunc, .fn (.func 30) [ptr p] [], .fn (.func 50) [ptr p] [], .fn (.func 51) [ptr p] [], .fn (.func 52) [ptr p] [], .fn (.func 53) [ptr p] [], .fn (.func 54) [ptr p] []] : List Abs)[kd.toNat]? = some (.fn (.func f) [ptr p] [])) (hg : goesIn Tryz.prog f = true) (hs : (kd = 1 ∨ kd = 6) ∨ 0 < P.li.length → Spec Tryz.prog f [ptr p] [.blk p 87 (plG P (xS x) ((ints P.ho)))] (fun _ : Unit => [.blk p 87 (plG P (turnF kd.toNat P (xS x)).2 ((ints P.ho)))]) (fun _ => .agg (turnF kd.toNat P (xS x)).1.abs)) : Spec Tryz.prog 18 [ptr p, int kd] [.blk p 87 (plG P x ((ints P.ho)))] (fun _ : Unit => [.blk p 87 (plG P (stepF kd.toNat P x).2 ((ints P.ho)))]) (fun _ => .agg (stepF kd.toNat P x).1.abs) := by
 refine t_ Tryz.func18 rfl Tryz.ntmps18 rfl fun G w =>c_<|a_<|eb_ (C_ tabOk rfl) rfl rfl fun b4=>?_
 refine d_<|b_<|c_<|a_<|q_ 3 rfl<|A_ (t := 8) rfl ?_ ?_
 rotate_left
 ·intro hc8
  refine q_ 4 rfl<|d_<|b_<|c_<|c_<|a_<|q_ 12 rfl<|slcA (ay_ (p := p) (P := P) (h := (ints P.ho)) (x := x) (b := 3) (by omega)) ?_
  refine x_ rfl i1_ (fun _ => rfl)<|fun _=>⟨_, u1_, q_ 2 rfl<|d_<|b_<|l_ rfl ?_ ?_⟩
  ·intro hc26
   refine c_<|a_<|q_ 1 rfl<|slcA (dx_ (p := p) (P := P) (x := xS x) hP) ?_
   refine x_ rfl i1_ (fun _ => rfl)<|fun _=>⟨_, u1_, e_ (m_ tabOk rfl rfl rfl u0_ rfl (Nat.le_of_ble_eq_true rfl) rfl (by exact p_ rfl)) rfl rfl ?_⟩
   refine d_<|b_<|k_<|j_ nofun ?_
   have hE : stepF kd.toNat P x = plainF P (xS x) := (if_neg (by omega)).trans (if_pos (by omega))
   refine f_ (rs := [.cell 4 44]) rfl (RV.cell rfl (RV.cellA tabOk rfl rfl l0_ (by rfl)) RV.nil) (()) (by rw [hE]; repeat (first | exact List.nil_sublist _ | exact List.Sublist.refl _ | apply List.Sublist.cons_cons | apply List.Sublist.cons)) ?_
   rw [hE]
   rfl
  intro hc26
  have hl : (kd = 1 ∨ kd = 6) ∨ 0 < P.li.length := by omega
  refine o_<|b_<|c_<|a_<|q_ 1 rfl<|slcA (f0_ (p := p) (P := P) (x := xS x)) ?_
  refine x_ rfl i1_ (fun _ => rfl)<|fun _=>⟨_, u1_, q_ 1 rfl<|slvA (dg_ (q := kd.toNat) tabOk Tryz.underlying91 rfl rfl rfl rfl (by omega) (by omega) hf) ?_⟩
  refine bX_ (hs hl) rfl Casts.refl hg rfl rfl rfl<|x_ rfl i1_ (fun _ => rfl)<|fun _=>⟨_, u1_, e_ (m_ tabOk rfl rfl rfl u0_ rfl (Nat.le_of_ble_eq_true rfl) rfl (by exact p_ rfl)) rfl rfl ?_⟩
  refine d_<|b_<|k_ ?_
  have hE : stepF kd.toNat P x = turnF kd.toNat P (xS x) := (if_neg (by omega)).trans (if_neg (by omega))
  refine f_ (rs := [.cell 4 44]) rfl (RV.cell rfl (RV.cellA tabOk rfl rfl l0_ (by rfl)) RV.nil) (()) (by rw [hE]; repeat (first | exact List.nil_sublist _ | exact List.Sublist.refl _ | apply List.Sublist.cons_cons | apply List.Sublist.cons)) ?_
  rw [hE]
  rfl
 intro hc8
 refine q_ 4 rfl<|d_<|b_<|c_<|c_<|a_<|q_ 2 rfl<|A_ (t := 13) rfl ?_ ?_
 rotate_left
 ·intro hc13
  refine q_ 10 rfl<|slcA (ay_ (p := p) (P := P) (h := (ints P.ho)) (x := x) (b := 3) (by omega)) ?_
  refine x_ rfl i1_ (fun _ => rfl)<|fun _=>⟨_, u1_, q_ 2 rfl<|d_<|b_<|l_ rfl ?_ ?_⟩
  ·intro hc26
   refine c_<|a_<|q_ 1 rfl<|slcA (dx_ (p := p) (P := P) (x := xS x) hP) ?_
   refine x_ rfl i1_ (fun _ => rfl)<|fun _=>⟨_, u1_, e_ (m_ tabOk rfl rfl rfl u0_ rfl (Nat.le_of_ble_eq_true rfl) rfl (by exact p_ rfl)) rfl rfl ?_⟩
   refine d_<|b_<|k_<|j_ nofun ?_
   have hE : stepF kd.toNat P x = plainF P (xS x) := (if_neg (by omega)).trans (if_pos (by omega))
   refine f_ (rs := [.cell 4 44]) rfl (RV.cell rfl (RV.cellA tabOk rfl rfl l0_ (by rfl)) RV.nil) (()) (by rw [hE]; repeat (first | exact List.nil_sublist _ | exact List.Sublist.refl _ | apply List.Sublist.cons_cons | apply List.Sublist.cons)) ?_
   rw [hE]
   rfl
  intro hc26
  have hl : (kd = 1 ∨ kd = 6) ∨ 0 < P.li.length := by omega
  refine o_<|b_<|c_<|a_<|q_ 1 rfl<|slcA (f0_ (p := p) (P := P) (x := xS x)) ?_
  refine x_ rfl i1_ (fun _ => rfl)<|fun _=>⟨_, u1_, q_ 1 rfl<|slvA (dg_ (q := kd.toNat) tabOk Tryz.underlying91 rfl rfl rfl rfl (by omega) (by omega) hf) ?_⟩
  refine bX_ (hs hl) rfl Casts.refl hg rfl rfl rfl<|x_ rfl i1_ (fun _ => rfl)<|fun _=>⟨_, u1_, e_ (m_ tabOk rfl rfl rfl u0_ rfl (Nat.le_of_ble_eq_true rfl) rfl (by exact p_ rfl)) rfl rfl ?_⟩
  refine d_<|b_<|k_ ?_
  have hE : stepF kd.toNat P x = turnF kd.toNat P (xS x) := (if_neg (by omega)).trans (if_neg (by omega))
  refine f_ (rs := [.cell 4 44]) rfl (RV.cell rfl (RV.cellA tabOk rfl rfl l0_ (by rfl)) RV.nil) (()) (by rw [hE]; repeat (first | exact List.nil_sublist _ | exact List.Sublist.refl _ | apply List.Sublist.cons_cons | apply List.Sublist.cons)) ?_
  rw [hE]
  rfl
 intro hc13
 refine q_ 4 rfl<|slvA (h_ (C := ints P.li) (g_ tabOk rfl rfl l1_ List.not_mem_nil rfl) rfl)<|slvA (h_ (C := int (P.li.length : Nat)) (H_ (m := P.li.length) rfl Tryz.underlying22 (by rw [List.length_map])) rfl) ?_
 refine q_ 3 rfl<|A_ (t := 22) rfl ?_ ?_
 ·intro hc22
  refine q_ 4 rfl<|d_<|b_<|U_ rfl<|c_<|a_<|q_ 1 rfl<|slcA (dx_ (p := p) (P := P) (x := x) hP) ?_
  refine x_ rfl i1_ (fun _ => rfl)<|fun _=>⟨_, u1_, e_ (m_ tabOk rfl rfl rfl u0_ rfl (Nat.le_of_ble_eq_true rfl) rfl (by exact p_ rfl)) rfl rfl ?_⟩
  refine d_<|b_<|k_<|j_ nofun ?_
  have hE : stepF kd.toNat P x = plainF P x := if_pos ⟨⟨by omega, by omega⟩, by omega⟩
  refine f_ (rs := [.cell 4 44]) rfl (RV.cell rfl (RV.cellA tabOk rfl rfl l0_ (by rfl)) RV.nil) (()) (by rw [hE]; repeat (first | exact List.nil_sublist _ | exact List.Sublist.refl _ | apply List.Sublist.cons_cons | apply List.Sublist.cons)) ?_
  rw [hE]
  rfl
 intro hc22
 have hl : (kd = 1 ∨ kd = 6) ∨ 0 < P.li.length := by omega
 refine q_ 1 rfl<|slcA (ay_ (p := p) (P := P) (h := (ints P.ho)) (x := x) (b := 3) (by omega)) ?_
 refine x_ rfl i1_ (fun _ => rfl)<|fun _=>⟨_, u1_, q_ 2 rfl<|d_<|b_<|l_ rfl ?_ ?_⟩
 ·intro hc26
  refine c_<|a_<|q_ 1 rfl<|slcA (dx_ (p := p) (P := P) (x := xS x) hP) ?_
  refine x_ rfl i1_ (fun _ => rfl)<|fun _=>⟨_, u1_, e_ (m_ tabOk rfl rfl rfl u0_ rfl (Nat.le_of_ble_eq_true rfl) rfl (by exact p_ rfl)) rfl rfl ?_⟩
  refine d_<|b_<|k_<|j_ nofun ?_
  have hE : stepF kd.toNat P x = plainF P (xS x) := (if_neg (by omega)).trans (if_pos (by omega))
  refine f_ (rs := [.cell 4 44]) rfl (RV.cell rfl (RV.cellA tabOk rfl rfl l0_ (by rfl)) RV.nil) (()) (by rw [hE]; repeat (first | exact List.nil_sublist _ | exact List.Sublist.refl _ | apply List.Sublist.cons_cons | apply List.Sublist.cons)) ?_
  rw [hE]
  rfl
 intro hc26
 have hl : (kd = 1 ∨ kd = 6) ∨ 0 < P.li.length := by omega
 refine o_<|b_<|c_<|a_<|q_ 1 rfl<|slcA (f0_ (p := p) (P := P) (x := xS x)) ?_
 refine x_ rfl i1_ (fun _ => rfl)<|fun _=>⟨_, u1_, q_ 1 rfl<|slvA (dg_ (q := kd.toNat) tabOk Tryz.underlying91 rfl rfl rfl rfl (by omega) (by omega) hf) ?_⟩
 refine bX_ (hs hl) rfl Casts.refl hg rfl rfl rfl<|x_ rfl i1_ (fun _ => rfl)<|fun _=>⟨_, u1_, e_ (m_ tabOk rfl rfl rfl u0_ rfl (Nat.le_of_ble_eq_true rfl) rfl (by exact p_ rfl)) rfl rfl ?_⟩
 refine d_<|b_<|k_ ?_
 have hE : stepF kd.toNat P x = turnF kd.toNat P (xS x) := (if_neg (by omega)).trans (if_neg (by omega))
 refine f_ (rs := [.cell 4 44]) rfl (RV.cell rfl (RV.cellA tabOk rfl rfl l0_ (by rfl)) RV.nil) (()) (by rw [hE]; repeat (first | exact List.nil_sublist _ | exact List.Sublist.refl _ | apply List.Sublist.cons_cons | apply List.Sublist.cons)) ?_
 rw [hE]
 rfl
end
structure Su where
  f : Int
  li : List Int
  cl : Int
def Su.abs (s : Su) : List Abs := [int s.f, ints s.li, int s.cl]
def Su.n (s : Su) : Nat := (3 * s.f + 1).toNat
def hoF (li : List Int) (k : Nat) : List Int := ((List.range k).map fun i : Nat => ((i : Nat) : Int)).filter fun i => decide (¬ i ∈ li)
theorem ho_in {li : List Int} {k : Nat} (h : ((k : Nat) : Int) ∈ li) : hoF li (k + 1) = hoF li k := by
  unfold hoF
  rw [List.range_succ, List.map_append, List.filter_append]
  simp [h]
theorem ho_out {li : List Int} {k : Nat} (h : ¬ ((k : Nat) : Int) ∈ li) : hoF li (k + 1) = hoF li k ++ [((k : Nat) : Int)] := by
  unfold hoF
  rw [List.range_succ, List.map_append, List.filter_append]
  simp [h]
theorem d8_ {li : List Int} (k : Nat) : (hoF li k).length ≤ k := by
  unfold hoF
  refine Nat.le_trans (List.length_filter_le _ _) ?_
  rw [List.length_map, List.length_range]
  exact Nat.le_refl _
def seedX (s : Nat) : Nat := or64 s 1
def Su.plan (s : Su) (c : Core) : PW := ⟨s.f, s.li, s.cl, s.n, c, hoF s.li s.n⟩
def askS (s : Su) (c : Core) (k : Nat) : Stp := ⟨1, ((s.n + k : Nat)), 0, 0, c, hoF s.li s.n, 0, []⟩
def asksF (s : Su) (c : Core) : Nat → List Stp
  | 0 => []
  | k + 1 => if ((s.n + k : Nat) : Int) ∈ s.li then asksF s c k else asksF s c k ++ [askS s c k]
theorem cZ_ {s : Su} {c : Core} : ∀ k, (asksF s c k).length ≤ k
  | 0 => Nat.le_refl _
  | k + 1 => by
    have := cZ_ (s := s) (c := c) k
    unfold asksF
    split
    · omega
    · rw [List.length_append, List.length_singleton]; omega
structure Su.Ok (s : Su) : Prop where
  f : 1 ≤ s.f ∧ s.f ≤ 2
  cl : 0 ≤ s.cl ∧ s.cl ≤ 4
  li : s.li.length ≤ 20
theorem Su.Ok.n {s : Su} (h : s.Ok) : (s.n = 4 ∨ s.n = 7) ∧ 3 * s.f + 1 = (s.n : Nat) := by
  have := h.f
  unfold Su.n
  omega
section
variable {p x b : Nat} {P : PW} {xs : List Int} {y : Int} {s : Su} {c : Core}
theorem indexX_s (hn : xs.length ≤ 1000) : Spec Tryz.prog 39 [ints xs, int y] [] (fun _ : {r : Int // 0 ≤ r ↔ y ∈ xs} => []) (fun z => int z.1) := by
 refine t_ Tryz.func39 rfl Tryz.ntmps39 rfl fun G w =>c_<|a_<|q_ 1 rfl<|d_<|b_<|c_<|c_<|a_<|q_ 1 rfl<|slvA (H_ (m := xs.length) rfl Tryz.underlying22 (by rw [List.length_map])) ?_
 refine q_ 1 rfl<|d_<|b_<|u_<|P_ (ι := Nat) (fun z => []) (fun z => [(0, ints xs), (1, int y), (7, int (xs.length : Nat)), (8, int (z : Nat))]) (fun z => z ≤ xs.length ∧ ∀ j (hj : j < xs.length), j < z → y ≠ xs[j]) (fun z => xs.length - z) (0) (⟨Nat.zero_le _, by omega⟩) (by exact ⟨rfl, rfl, rfl, rfl, trivial⟩) sn_ ?_
 intro z hz
 refine c_<|a_<|q_ 1 rfl<|d_<|b_<|c_<|l_ rfl ?_ ?_
 rotate_left
 ·intro hc9
  refine N_<|j_ nofun<|j_ nofun<|M_<|b_<|c_<|a_<|q_ 1 rfl<|d_<|b_<|k_<|f_ (rs := [.tmp 4]) rfl (RV.tmp rfl RV.nil) (⟨-1, ⟨fun h => (by omega), fun h => by obtain ⟨j, hj, h2⟩ := List.getElem_of_mem h; exact absurd h2.symm (hz.2 j hj (by omega))⟩⟩) sn_ ?_
  exact rfl
 intro hc9
 have hlt : z < xs.length := by omega
 refine o_<|b_<|c_<|u_<|c_<|a_<|q_ 2 rfl<|d_<|b_<|c_<|a_<|q_ 3 rfl<|slvA (L_ tabOk Tryz.underlying22 rfl rfl rfl rfl (a8_ (by omega)) rfl rfl) ?_
 refine slvA (h_ (C := int (xs[z]'hlt)) (aa_ tabOk rfl rfl rfl) rfl)<|q_ 1 rfl<|d_<|b_<|l_ rfl ?_ ?_
 rotate_left
 ·intro hc16
  refine o_<|w_<|b_<|a_<|slvA (y_ rfl rfl (by simp only [InR, lo, hi]; omega)) ?_
  refine q_ 1 rfl<|d_<|I_ (z + 1) (by omega) (⟨by omega, fun j hj hjz => by rcases Nat.lt_or_ge j z with h1 | h1; exact hz.2 j hj h1; obtain rfl : j = z := (by omega); exact hc16⟩) (by exact ⟨rfl, rfl, rfl, rfl, trivial⟩) sn_
 intro hc16
 refine c_<|a_<|q_ 2 rfl<|d_<|b_<|k_<|S_<|j_ nofun<|j_ nofun<|S_<|j_ nofun<|f_ (rs := [.tmp 4]) rfl (RV.tmp rfl RV.nil) (⟨(z : Nat), ⟨fun _ => hc16 ▸ List.getElem_mem hlt, fun _ => (by omega)⟩⟩) sn_ ?_
 exact rfl
theorem hK_ (hn : xs.length ≤ 1000) : Spec Tryz.prog 25 [ints xs, int y] [] (fun _ : Unit => []) (fun _ => boo (decide (y ∈ xs))) := by
 refine t_ Tryz.func25 rfl Tryz.ntmps25 rfl fun G w =>c_<|a_<|q_ 1 rfl<|d_<|b_<|c_<|a_<|q_ 2 rfl<|slcA (indexX_s (xs := xs) (y := y) hn) ?_
 refine ap_<|fun r=>q_ 2 rfl<|d_<|b_<|k_<|f_ (rs := [.tmp 4]) rfl (RV.tmp rfl RV.nil) (()) sn_<|congrArg (fun b => Abs.v (Value.bool b)) ?_
 rw [decide_eq_decide]
 exact r.2
theorem cloneX_s {xs : List (List Abs)} (h1 : ∀ c ∈ xs, ones c = true) (hn : xs.length ≤ 1000000) : Spec Tryz.prog 28 [.sl 1 xs] [] (fun _ : Unit => []) (fun _ => .sl 1 xs) := by
 refine t_ Tryz.func28 rfl Tryz.ntmps28 rfl fun G w =>c_<|a_<|q_ 1 rfl<|d_<|b_<|c_<|c_<|a_<|q_ 1 rfl<|bW_ Tryz.underlying22 rfl rfl rfl<|fun b hb=>d_<|b_<|ar_ rfl ?_ ?_
 ·intro hc4
  have hnil : xs = [] := hb hc4
  subst hnil
  refine c_<|a_<|q_ 1 rfl<|d_<|b_<|k_<|j_ nofun<|cL_ (rs := [.tmp 2]) rfl (RV.tmp rfl RV.nil) (Casts.nils (s := 1) Casts.refl) () sn_ (by simp [It.rids]) rfl
 intro hc4
 refine o_<|b_<|c_<|a_<|eb_ (aA_ tabOk Tryz.underlying22 rfl rfl rfl rfl rfl rfl rfl) rfl rfl fun r5=>?_
 refine q_ 1 rfl<|eb_ (K_ (zs := xs) tabOk [] rfl Tryz.underlying22 rfl rfl rfl rfl rfl rfl h1 (by unfold maxLen; simp only [List.length_nil]; omega) (by rw [show Tryz.prog.bytesOf 3 = 8 by kernel_rfl]; simp only [List.length_nil]; omega)) rfl rfl fun r7=>?_
 exact q_ 1 rfl<|d_<|b_<|k_<|aT_ [] (t := 2) rfl rfl<|f_ (rs := [.tmp 2]) rfl (RV.tmp rfl RV.nil) (()) sn_<|rfl
set_option maxHeartbeats 2000000 in
theorem gnew_s (hs : s.Ok) : Spec Tryz.prog 16 [.agg s.abs, coreA c, wrd x] [] (fun p : Nat => [.blk p 87 (plG (s.plan c) (seedX x) (ints (hoF s.li s.n)))]) (fun p => ptr p) := by
 have hn := hs.n
 have hf := hs.f
 have hll := hs.li
 refine t_ Tryz.func16 rfl Tryz.ntmps16 rfl fun G w =>c_<|a_<|eb_ (B_ (cs := s.abs) rfl) rfl rfl fun b3=>?_
 refine eb_ (B_ (cs := c.cells.map .v) rfl) rfl rfl fun b4=>?_
 refine q_ 1 rfl<|d_<|b_<|c_<|a_<|slvA (h_ (C := .agg s.abs) (ad_ tabOk rfl rfl rfl l1_ List.not_mem_nil (Nat.le_of_ble_eq_true rfl)) rfl)<|q_ 1 rfl<|slvA (h_ (C := int s.f) (g_ tabOk rfl rfl l1_ List.not_mem_nil rfl) rfl)<|slvA (bm_ rfl rfl (by simp only [InR, lo, hi]; omega)) ?_
 refine slvA (h_ (C := int (s.n : Nat)) (y_ rfl rfl (by simp only [InR, lo, hi]; omega)) (congrArg int (by omega))) ?_
 refine slvA (h_ (C := coreA c) (ad_ tabOk rfl rfl rfl l0_ List.not_mem_nil (Nat.le_of_ble_eq_true rfl)) rfl)<|q_ 1 rfl<|slvA (h_ (C := wrd (seedX x)) (Val.or64 rfl rfl x 1 rfl rfl) rfl)<|slvA (h_ (C := .agg ([int s.f, ints s.li, int s.cl, int (s.n : Nat), int c.client, int c.stamp, int c.op, .v (.string c.letter), int c.a, int c.b, .v (.string c.text), wrd (seedX x), .v (.slice none 0 0)])) (z_ tabOk rfl rfl rfl rfl) rfl)<|eb_ (B_ (cs := [int s.f, ints s.li, int s.cl, int (s.n : Nat), int c.client, int c.stamp, int c.op, .v (.string c.letter), int c.a, int c.b, .v (.string c.text), wrd (seedX x), .v (.slice none 0 0)]) rfl) rfl rfl fun b18=>?_
 refine q_ 1 rfl<|d_<|b_<|c_<|c_<|a_<|q_ 3 rfl<|slvA (h_ (C := int (s.n : Nat)) (g_ tabOk rfl rfl l0_ List.not_mem_nil rfl) rfl)<|q_ 1 rfl<|d_<|b_<|u_<|aF_ 3 1<|P_ (ι := Nat × Value) (fun z => [own 3 1 z.2 ((hoF s.li z.1).map fun x => [int x]), .blk b18 87 ([int s.f, ints s.li, int s.cl, int (s.n : Nat), int c.client, int c.stamp, int c.op, .v (.string c.letter), int c.a, int c.b, .v (.string c.text), wrd (seedX x), .v z.2]), .blk b3 24 s.abs]) (fun z => [(3, ptr b3), (7, ptr b18), (22, int (s.n : Nat)), (23, int (z.1 : Nat))]) (fun z => z.1 ≤ s.n) (fun z => s.n - z.1) (0, .slice none 0 0) (Nat.zero_le _) (by exact ⟨rfl, rfl, rfl, rfl, trivial⟩) (sc_ (sc_ (sk_ sr_))) ?_
 intro z hz
 refine c_<|a_<|q_ 1 rfl<|d_<|b_<|c_<|l_ rfl ?_ ?_
 rotate_left
 ·intro hc24
  have hz4 : z.1 = s.n := by omega
  refine N_<|j_ nofun<|j_ nofun<|M_<|b_<|c_<|cd_ [] 12 rfl u0_ rfl ?_
  rw [hz4]
  exact a_<|q_ 2 rfl<|d_<|b_<|k_<|f_ (rs := [.tmp 6]) rfl (RV.tmp rfl RV.nil) (b18) (sc_ sn_)<|rfl
 intro hc24
 refine o_<|b_<|c_<|u_<|c_<|a_<|q_ 2 rfl<|d_<|b_<|c_<|a_<|q_ 1 rfl<|slvA (h_ (C := ints s.li) (g_ tabOk rfl rfl l2_ List.not_mem_nil rfl) rfl)<|q_ 1 rfl<|slcA (hK_ (xs := s.li) (y := ((z.1 : Nat) : Int)) (by omega)) ?_
 refine ap_<|fun _=>slvA (aL_ rfl)<|d_<|b_<|ar_ rfl ?_ ?_
 rotate_left
 ·intro hc30
  refine o_<|w_<|b_<|a_<|slvA (y_ rfl rfl (by simp only [InR, lo, hi]; omega)) ?_
  refine q_ 1 rfl<|d_<|I_ (z.1 + 1, z.2) (by omega) ((by dsimp only; omega)) (by exact ⟨rfl, rfl, rfl, rfl, trivial⟩) (by dsimp only; rw [ho_in (by simpa using hc30)]; repeat (first | exact List.nil_sublist _ | exact List.Sublist.refl _ | apply List.Sublist.cons_cons | apply List.Sublist.cons))
 intro hc30
 refine a_<|q_ 4 rfl<|slvA (h_ (C := .v z.2) (g_ tabOk rfl rfl l1_ List.not_mem_nil rfl) rfl)<|q_ 1 rfl<|e_ (G_ tabOk Tryz.underlying22 rfl rfl rfl rfl rfl rfl rfl) rfl rfl<|eb_ (K_ (zs := (hoF s.li (z.1 + 1)).map fun x => [int x]) tabOk [] (by rw [ho_out (by simpa using hc30), List.map_append]; rfl) Tryz.underlying22 rfl rfl rfl rfl rfl rfl (by intro c hc; rw [List.mem_singleton] at hc; subst hc; rfl) (by have := d8_ (li := s.li) z.1; unfold maxLen; simp only [List.length_map, List.length_cons, List.length_nil]; omega) (by have := d8_ (li := s.li) z.1; rw [show Tryz.prog.bytesOf 3 = 8 by kernel_rfl]; simp only [List.length_map, List.length_cons, List.length_nil]; omega)) rfl rfl fun r38=>?_
 refine q_ 2 rfl<|e_ (az_ (L' := [int s.f, ints s.li, int s.cl, int (s.n : Nat), int c.client, int c.stamp, int c.op, .v (.string c.letter), int c.a, int c.b, .v (.string c.text), wrd (seedX x), .v r38]) tabOk rfl rfl rfl rfl i0_ u1_ rfl rfl) rfl rfl<|d_<|w_<|b_<|a_<|slvA (y_ rfl rfl (by simp only [InR, lo, hi]; omega)) ?_
 refine q_ 1 rfl<|d_<|I_ (z.1 + 1, r38) (by omega) ((by dsimp only; omega)) (by exact ⟨rfl, rfl, rfl, rfl, trivial⟩) sr_
set_option maxHeartbeats 2000000 in
theorem gasks_s (hs : s.Ok) : Spec Tryz.prog 17 [ptr p] [.blk p 87 (plG (s.plan c) x (ints (hoF s.li s.n)))] (fun v : Value => [own 44 17 v ((asksF s c s.cl.toNat).map Stp.abs), .blk p 87 (plG (s.plan c) x (ints (hoF s.li s.n)))]) (fun v => .v v) := by
 have hn := hs.n
 have hcl := hs.cl
 have hll := hs.li
 have hhl := d8_ (li := s.li) s.n
 refine t_ Tryz.func17 rfl Tryz.ntmps17 rfl fun G w =>c_<|a_<|q_ 1 rfl<|d_<|b_<|c_<|a_<|q_ 1 rfl<|d_<|b_<|c_<|c_<|a_<|q_ 3 rfl<|slvA (h_ (C := int ((s.n + 0 : Nat))) (g_ tabOk rfl rfl l0_ List.not_mem_nil rfl) rfl)<|q_ 1 rfl<|d_<|b_<|u_<|aF_ 44 17<|P_ (ι := Nat × Value) (fun z => [own 44 17 z.2 ((asksF s c z.1).map Stp.abs), .blk p 87 (plG (s.plan c) x (ints (hoF s.li s.n)))]) (fun z => [(0, ptr p), (3, .v z.2), (4, int ((s.n + z.1 : Nat)))]) (fun z => z.1 ≤ s.cl.toNat) (fun z => s.cl.toNat - z.1) (0, .slice none 0 0) (Nat.zero_le _) (by exact ⟨rfl, rfl, rfl, trivial⟩) sr_ ?_
 intro z hz
 refine c_<|c_<|Q_ [] (.q 0 (.q 1 (.q 2 (.q 3 (.q 4 (.q 5 (.q 6 (.q 7 (.q 8 (.q 9 (.q 10 (.q 11 .nil)))))))))))) (by kernel_rfl) (by kernel_rfl) ?_
 refine qs_ 4 rfl<|hx_ fun hx9 =>sxvA rfl (h_ (C := int (s.n : Nat)) (g_ tabOk rfl rfl l1_ List.not_mem_nil rfl) rfl) hx9<|qs_ 4 rfl<|sxvA rfl (h_ (C := int s.cl) (g_ tabOk rfl rfl l1_ List.not_mem_nil rfl) rfl) hx9<|sxvA rfl (h_ (C := int ((s.n : Nat) + s.cl)) (y_ rfl rfl (by simp only [InR, lo, hi]; omega)) rfl) hx9 ?_
 refine qs_ 1 rfl<|F_<|b_<|l_ rfl ?_ ?_
 rotate_left
 ·intro hc20
  have hz1 : z.1 = s.cl.toNat := by omega
  refine N_<|j_ nofun<|j_ nofun<|M_<|b_<|c_<|a_<|q_ 2 rfl<|d_<|b_<|k_<|f_ (rs := [.tmp 2]) rfl (RV.tmp rfl RV.nil) (z.2) (by rw [hz1]; repeat (first | exact List.nil_sublist _ | exact List.Sublist.refl _ | apply List.Sublist.cons_cons | apply List.Sublist.cons)) ?_
  exact rfl
 intro hc20
 have hz0 : z.1 < s.cl.toNat := by omega
 refine o_<|b_<|c_<|u_<|c_<|a_<|q_ 4 rfl<|slvA (h_ (C := ints s.li) (g_ tabOk rfl rfl l1_ List.not_mem_nil rfl) rfl)<|q_ 1 rfl<|slcA (hK_ (xs := s.li) (y := ((s.n + z.1 : Nat) : Int)) (by omega)) ?_
 refine ap_<|fun _=>slvA (aL_ rfl)<|d_<|b_<|ar_ rfl ?_ ?_
 rotate_left
 ·intro hc30
  refine o_<|w_<|b_<|a_<|q_ 1 rfl<|slvA (h_ (C := int ((s.n + (z.1 + 1) : Nat))) (y_ rfl rfl (by simp only [InR, lo, hi]; omega)) (congrArg int (by omega))) ?_
  refine q_ 1 rfl<|d_<|I_ (z.1 + 1, z.2) (by omega) ((by dsimp only; omega)) (by exact ⟨rfl, rfl, rfl, trivial⟩) (by dsimp only; rw [asksF, if_pos (by simpa using hc30)]; repeat (first | exact List.nil_sublist _ | exact List.Sublist.refl _ | apply List.Sublist.cons_cons | apply List.Sublist.cons))
 intro hc30
 refine hc_ fun hnod => ?_
 have hbx : p ∉ mids [own 44 17 z.2 ((asksF s c z.1).map Stp.abs)] ++ [] := by
  intro hm
  have h9 : (z.2.ownBlock.toList ++ [p]).Nodup := hnod
  exact (List.nodup_append.1 h9).2.2 p (by simpa [mids, It.mids, ownPc] using hm) p (by simp) rfl
 refine Q_ (mids [own 44 17 z.2 ((asksF s c z.1).map Stp.abs)] ++ []) (.q 0 (.q 1 (.q 2 (.q 3 (.q 4 (.q 5 (.q 6 (.q 7 (.q 8 (.q 9 (.e 10 (.q 11 (.e 12 (.e 13 (.q 14 .nil))))))))))))))) (by kernel_rfl) (by kernel_rfl) ?_
 refine hx_ fun hx9 =>qx_ 5 hx9 rfl<|sxvA rfl (h_ (C := coreA c) (ad_ tabOk rfl rfl rfl l1_ hbx (Nat.le_of_ble_eq_true rfl)) rfl) hx9<|qx_ 3 hx9 rfl<|sxvA rfl (h_ (C := ints (hoF s.li s.n)) (g_ tabOk rfl rfl l1_ hbx rfl) rfl) hx9<|D_ rfl (cloneX_s (xs := (hoF s.li s.n).map fun x => [int x]) (by intro c hc; obtain ⟨i, _, rfl⟩ := List.mem_map.1 hc; rfl) (by rw [List.length_map]; omega)) (by simp [mids, It.mids]) Casts.refl (by kernel_rfl) rfl rfl rfl ?_
 refine ap_<|fun _=>hx_ fun hx9 =>sxvA rfl (aS_ (h_ (C := .agg (stR 1 ((s.n + z.1 : Nat)) 0 0 c (ints (hoF s.li s.n)) 0 (.v (.slice none 0 0)))) (z_ tabOk rfl rfl rfl rfl) rfl) ka_) hx9<|ex_ rfl (G_ tabOk Tryz.underlying30 rfl rfl rfl (ah_ rfl) rfl rfl rfl) (by simp) rfl rfl ?_
 refine cs_ [own 44 17 z.2 ((asksF s c z.1).map Stp.abs)] [] rfl (K_ (zs := (asksF s c (z.1 + 1)).map Stp.abs) tabOk [] (by rw [asksF, if_neg (by simpa using hc30), List.map_append]; rfl) Tryz.underlying30 rfl rfl rfl rfl rfl rfl (by intro c hc; rw [List.mem_singleton] at hc; subst hc; rfl) (by have := cZ_ (s := s) (c := c) z.1; unfold maxLen; simp only [List.length_map, List.length_cons, List.length_nil]; omega) (by have := cZ_ (s := s) (c := c) z.1; rw [show Tryz.prog.bytesOf 44 = 200 by kernel_rfl]; simp only [List.length_map, List.length_cons, List.length_nil]; omega)) rfl (by intro k hk; simp [mids, It.mids, ownPc] at hk ⊢; simp [hk]) rfl rfl ?_
 rintro _ _ ⟨r44, rfl, rfl⟩
 refine ⟨[own 44 17 r44 ((asksF s c (z.1 + 1)).map Stp.abs)], rfl, hx_ fun hx9 =>qx_ 1 hx9 rfl<|F_<|w_<|b_<|a_<|q_ 1 rfl<|slvA (h_ (C := int ((s.n + (z.1 + 1) : Nat))) (y_ rfl rfl (by simp only [InR, lo, hi]; omega)) (congrArg int (by omega))) ?_⟩
 refine q_ 1 rfl<|d_<|I_ (z.1 + 1, r44) (by omega) ((by dsimp only; omega)) (by exact ⟨rfl, rfl, rfl, trivial⟩) sr_
end
section
variable {p bd bt N n me x : Nat}
theorem lgX_s (hn : 1 ≤ n ∧ n ≤ 7) : Spec Tryz.prog 40 [int (n : Nat)] [] (fun _ : Nat => []) (fun b => ptr b) := by
 refine t_ Tryz.func40 rfl Tryz.ntmps40 rfl fun G w =>c_<|a_<|q_ 1 rfl<|d_<|b_<|c_<|c_<|a_<|q_ 3 rfl<|A_ (t := 5) rfl (by intro hc5; exfalso; omega) ?_
 intro hc5
 refine q_ 3 rfl<|d_<|b_<|l_ rfl (by intro hc8; exfalso; omega) ?_
 intro hc8
 refine o_<|b_<|c_<|a_<|q_ 1 rfl<|eb_ (ak_ intK intOk pE (fun ac w => by simp [execOp, Instr.makeMap, newObj, Sem.run, Sem.run_bind, Result.andThen])) rfl rfl fun m10=>?_
 refine slvA (h_ (C := .agg [int (n : Nat), int 0, mapV m10]) (z_ tabOk rfl rfl rfl rfl) rfl)<|eb_ (B_ (cs := [int (n : Nat), int 0, mapV m10]) rfl) rfl rfl fun b12=>?_
 exact q_ 1 rfl<|d_<|b_<|k_<|f_ (rs := [.tmp 2]) rfl (RV.tmp rfl RV.nil) (b12) sn_<|rfl
theorem voX_s (hn : 1 ≤ n ∧ n ≤ 7) : Spec Tryz.prog 42 [int (n : Nat)] [] (fun _ : Nat => []) (fun b => ptr b) := by
 refine t_ Tryz.func42 rfl Tryz.ntmps42 rfl fun G w =>c_<|a_<|q_ 1 rfl<|d_<|b_<|c_<|c_<|a_<|q_ 3 rfl<|A_ (t := 5) rfl (by intro hc5; exfalso; omega) ?_
 intro hc5
 refine q_ 3 rfl<|d_<|b_<|l_ rfl (by intro hc8; exfalso; omega) ?_
 intro hc8
 refine o_<|b_<|c_<|a_<|q_ 1 rfl<|eb_ (ak_ paV paOk voE (fun ac w => by simp [execOp, Instr.makeMap, newObj, Sem.run, Sem.run_bind, Result.andThen])) rfl rfl fun m10=>?_
 refine slvA (h_ (C := .agg [int (n : Nat), mapV m10]) (z_ tabOk rfl rfl rfl rfl) rfl)<|eb_ (B_ (cs := [int (n : Nat), mapV m10]) rfl) rfl rfl fun b12=>?_
 exact q_ 1 rfl<|d_<|b_<|k_<|f_ (rs := [.tmp 2]) rfl (RV.tmp rfl RV.nil) (b12) sn_<|rfl
theorem exX_s (hn : 1 ≤ n ∧ n ≤ 7) : Spec Tryz.prog 46 [int (n : Nat)] [] (fun b : Nat => [.blk b 179 [int (n : Nat), int 0, int 0, .v (.slice none 0 0), .v (.slice none 0 0), .v (.slice none 0 0)]]) (fun b => ptr b) := by
 refine t_ Tryz.func46 rfl Tryz.ntmps46 rfl fun G w =>c_<|a_<|q_ 1 rfl<|d_<|b_<|c_<|c_<|a_<|q_ 3 rfl<|A_ (t := 5) rfl (by intro hc5; exfalso; omega) ?_
 intro hc5
 refine q_ 3 rfl<|d_<|b_<|l_ rfl (by intro hc8; exfalso; omega) ?_
 intro hc8
 refine o_<|b_<|c_<|a_<|q_ 1 rfl<|slvA (h_ (C := .agg [int (n : Nat), int 0, int 0, .v (.slice none 0 0), .v (.slice none 0 0), .v (.slice none 0 0)]) (z_ tabOk rfl rfl rfl rfl) rfl)<|eb_ (B_ (cs := [int (n : Nat), int 0, int 0, .v (.slice none 0 0), .v (.slice none 0 0), .v (.slice none 0 0)]) rfl) rfl rfl fun b11=>?_
 exact q_ 1 rfl<|d_<|b_<|k_<|f_ (rs := [.tmp 2]) rfl (RV.tmp rfl RV.nil) (b11) sr_<|rfl
theorem xbyX_s  : Spec Tryz.prog 47 [ptr x] [.rd x 179 [int (n : Nat), int 0, int 0, .v (.slice none 0 0), .v (.slice none 0 0), .v (.slice none 0 0)]] (fun _ : {l : List UInt8 // l.length ≤ 50} => []) (fun l => byt l.1) := by
 refine t_ Tryz.func47 rfl Tryz.ntmps47 rfl fun G w =>c_<|a_<|q_ 1 rfl<|d_<|b_<|c_<|c_<|a_<|q_ 1 rfl<|slvA (aD_ rfl rfl (by kernel_rfl)) ?_
 refine d_<|b_<|O_ rfl<|o_<|b_<|c_<|a_<|q_ 3 rfl<|slvA (h_ (C := .agg [int 0, int 0, .v (.slice none 0 0), .v (.slice none 0 0)]) (ad_ tabOk rfl rfl rfl r0_ List.not_mem_nil (Nat.le_of_ble_eq_true rfl)) rfl)<|slcA (lby0_s) ?_
 exact ap_<|fun z9=>q_ 1 rfl<|d_<|b_<|k_<|f_ (rs := [.tmp 2]) rfl (RV.tmp rfl RV.nil) (z9) sn_<|rfl
set_option maxHeartbeats 1000000 in
theorem hlX_s (hn : 1 ≤ n ∧ n ≤ 7) : Spec Tryz.prog 44 [bkI p, int (n : Nat)] [] (fun _ : Nat => []) (fun b => ptr b) := by
 refine t_ Tryz.func44 rfl Tryz.ntmps44 rfl fun G w =>c_<|a_<|q_ 1 rfl<|d_<|b_<|c_<|c_<|a_<|q_ 1 rfl<|slvA (aE_ Tryz.underlying68 rfl)<|q_ 5 rfl<|A_ (t := 12) rfl (by intro hc12; exfalso; omega) ?_
 intro hc12
 refine q_ 3 rfl<|d_<|b_<|l_ rfl (by intro hc15; exfalso; omega) ?_
 intro hc15
 refine o_<|b_<|c_<|a_<|q_ 2 rfl<|eb_ (ak_ intK intOk pE (fun ac w => by simp [execOp, Instr.makeMap, newObj, Sem.run, Sem.run_bind, Result.andThen])) rfl rfl fun m18=>?_
 refine slvA (h_ (C := .agg [bkI p, int (n : Nat), mapV m18, .v (.slice none 0 0)]) (z_ tabOk rfl rfl rfl rfl) rfl)<|eb_ (B_ (cs := [bkI p, int (n : Nat), mapV m18, .v (.slice none 0 0)]) rfl) rfl rfl fun b20=>?_
 refine q_ 1 rfl<|d_<|b_<|c_<|c_<|a_<|q_ 2 rfl<|d_<|b_<|u_<|aF_ 168 1<|P_ (ι := Nat × Value × List Nat) (fun z => [own 168 1 z.2.1 (z.2.2.map fun t : Nat => [ptr t]), .blk b20 167 [bkI p, int (n : Nat), mapV m18, .v z.2.1]]) (fun z => [(5, ptr b20), (21, int (n : Nat)), (22, int (z.1 : Nat))]) (fun z => z.1 ≤ n ∧ z.2.2.length = z.1) (fun z => n - z.1) (0, .slice none 0 0, []) (⟨Nat.zero_le _, rfl⟩) (by exact ⟨rfl, rfl, rfl, trivial⟩) (sc_ (sc_ sn_)) ?_
 intro z hz
 refine c_<|a_<|q_ 1 rfl<|d_<|b_<|c_<|l_ rfl ?_ ?_
 rotate_left
 ·intro hc23
  exact N_<|j_ nofun<|j_ nofun<|M_<|b_<|c_<|a_<|q_ 2 rfl<|d_<|b_<|k_<|f_ (rs := [.tmp 4]) rfl (RV.tmp rfl RV.nil) (b20) sn_<|rfl
 intro hc23
 refine o_<|b_<|c_<|u_<|hc_ fun hnod => ?_
 have hbx : b20 ∉ mids [own 168 1 z.2.1 (z.2.2.map fun t : Nat => [ptr t])] ++ [] := by
  intro hm
  have h9 : (z.2.1.ownBlock.toList ++ [b20]).Nodup := hnod
  exact (List.nodup_append.1 h9).2.2 b20 (by simpa [mids, It.mids, ownPc] using hm) b20 (by simp) rfl
 refine as_ (mids [own 168 1 z.2.1 (z.2.2.map fun t : Nat => [ptr t])] ++ []) (.q 0 (.q 1 (.q 2 (.q 3 (.q 4 (.e 5 (.e 6 (.e 7 (.q 8 (.q 9 .nil)))))))))) (by kernel_rfl) (by kernel_rfl) ?_
 refine hx_ fun hx9 =>qx_ 4 hx9 rfl<|sxvA rfl (h_ (C := .v z.2.1) (g_ tabOk rfl rfl l1_ hbx rfl) rfl) hx9<|D_ rfl (j4_) (by simp [mids, It.mids]) Casts.refl (by kernel_rfl) rfl rfl rfl ?_
 refine ap_<|fun zt=>ex_ rfl (G_ tabOk Tryz.underlying165 rfl rfl rfl rfl rfl rfl rfl) (by simp) rfl rfl ?_
 refine cs_ [own 168 1 z.2.1 (z.2.2.map fun t : Nat => [ptr t])] [] rfl (K_ (zs := (z.2.2 ++ [zt]).map fun t : Nat => [ptr t]) tabOk [] (by rw [List.map_append]; rfl) Tryz.underlying165 rfl rfl rfl rfl rfl rfl (by intro c hc; rw [List.mem_singleton] at hc; subst hc; rfl) (by unfold maxLen; simp only [List.length_map, List.length_cons, List.length_nil]; omega) (by rw [show Tryz.prog.bytesOf 168 = 8 by kernel_rfl]; simp only [List.length_map, List.length_cons, List.length_nil]; omega)) rfl (by intro k hk; simp [mids, It.mids, ownPc] at hk ⊢; simp [hk]) rfl rfl ?_
 rintro _ _ ⟨r31, rfl, rfl⟩
 refine ⟨[own 168 1 r31 ((z.2.2 ++ [zt]).map fun t : Nat => [ptr t])], rfl, hx_ fun hx9 =>qx_ 2 hx9 rfl<|F_<|aq_ rfl (az_ (L' := [bkI p, int (n : Nat), mapV m18, .v r31]) tabOk rfl rfl rfl rfl i0_ u1_ rfl (by rfl)) rfl rfl ?_⟩
 rintro _ _ ⟨rfl, rfl⟩
 refine w_<|b_<|a_<|slvA (y_ rfl rfl (by simp only [InR, lo, hi]; omega)) ?_
 refine q_ 1 rfl<|d_<|I_ (z.1 + 1, r31, z.2.2 ++ [zt]) (by omega) ((⟨by dsimp only; omega, by dsimp only; rw [List.length_append, List.length_singleton]; omega⟩)) (by exact ⟨rfl, rfl, rfl, trivial⟩) sr_
set_option maxHeartbeats 4000000 in
theorem rpX_s (hn : 1 ≤ n ∧ n ≤ 7) (hm : me < n) (hN : N ≤ 10000) : Spec Tryz.prog 26 [bkI p, int (n : Nat), int (me : Nat)] [wb p bd bt N] (fun _ : Nat => [wb p bd bt (N + 1)]) (fun r => ptr r) := by
 refine t_ Tryz.func26 rfl Tryz.ntmps26 rfl fun G w =>c_<|a_<|q_ 1 rfl<|d_<|b_<|c_<|c_<|a_<|q_ 1 rfl<|slvA (aE_ Tryz.underlying68 rfl)<|q_ 5 rfl<|A_ (t := 15) rfl (by intro hc15; exfalso; omega) ?_
 intro hc15
 refine q_ 4 rfl<|A_ (t := 19) rfl (by intro hc19; exfalso; omega) ?_
 intro hc19
 refine q_ 4 rfl<|A_ (t := 23) rfl (by intro hc23; exfalso; omega) ?_
 intro hc23
 refine q_ 4 rfl<|d_<|b_<|l_ rfl (by intro hc27; exfalso; omega) ?_
 intro hc27
 refine o_<|b_<|c_<|a_<|q_ 4 rfl<|slcA (lgX_s hn) ?_
 refine ap_<|fun z32=>q_ 2 rfl<|slcA (pnew_s (n := n) (me := me) (by omega) (by omega) hm) ?_
 refine bb_ (by repeat (first | exact Reads.nil | (refine Reads.blk ?_ ?_; focus ((repeat first|assumption|exact m0_|apply m1_); done)) | (refine Reads.rd ?_ ?_; focus ((repeat first|assumption|exact m0_|apply m1_); done)) | (refine Reads.pc ?_ ?_; focus ((repeat first|assumption|exact m0_|apply m1_); done)) | (refine Reads.rdpc ?_ ?_; focus ((repeat first|assumption|exact m0_|apply m1_); done)))) ?_
 intro z35
 refine q_ 1 rfl<|slcA (voX_s hn) ?_
 refine ap_<|fun z37=>slcA (kv_) ?_
 refine ap_<|fun z38=>q_ 2 rfl<|slcA (hlX_s (p := p) hn) ?_
 refine ap_<|fun z41=>slcA (j5_) ?_
 refine bb_ (by repeat (first | exact Reads.nil | (refine Reads.blk ?_ ?_; focus ((repeat first|assumption|exact m0_|apply m1_); done)) | (refine Reads.rd ?_ ?_; focus ((repeat first|assumption|exact m0_|apply m1_); done)) | (refine Reads.pc ?_ ?_; focus ((repeat first|assumption|exact m0_|apply m1_); done)) | (refine Reads.rdpc ?_ ?_; focus ((repeat first|assumption|exact m0_|apply m1_); done)))) ?_
 intro z42
 refine q_ 1 rfl<|slcA (exX_s hn) ?_
 refine bb_ (by repeat (first | exact Reads.nil | (refine Reads.blk ?_ ?_; focus ((repeat first|assumption|exact m0_|apply m1_); done)) | (refine Reads.rd ?_ ?_; focus ((repeat first|assumption|exact m0_|apply m1_); done)) | (refine Reads.pc ?_ ?_; focus ((repeat first|assumption|exact m0_|apply m1_); done)) | (refine Reads.rdpc ?_ ?_; focus ((repeat first|assumption|exact m0_|apply m1_); done)))) ?_
 intro z44
 refine eb_ (ak_ intK intOk coE (fun ac w => by simp [execOp, Instr.makeMap, newObj, Sem.run, Sem.run_bind, Result.andThen])) rfl rfl fun m45=>?_
 refine slvA (h_ (C := .agg [bkI p, int (n : Nat), int (me : Nat), int 0, boo true, int 0, .v (.slice none 0 0), .v (.slice none 0 0), int 0, ptr z32, ptr z35.1, ptr z37, ptr z38, ptr z41, ptr z42, ptr z44, mapV m45, int 0, .v (.slice none 0 0)]) (z_ tabOk rfl rfl rfl rfl) rfl)<|eb_ (B_ (cs := [bkI p, int (n : Nat), int (me : Nat), int 0, boo true, int 0, .v (.slice none 0 0), .v (.slice none 0 0), int 0, ptr z32, ptr z35.1, ptr z37, ptr z38, ptr z41, ptr z42, ptr z44, mapV m45, int 0, .v (.slice none 0 0)]) rfl) rfl rfl fun b47=>?_
 refine q_ 1 rfl<|d_<|b_<|c_<|a_<|q_ 3 rfl<|slvA (h_ (C := ptr z44) (g_ tabOk rfl rfl l0_ List.not_mem_nil rfl) rfl)<|slcA (xbyX_s (x := z44) (n := n)) ?_
 refine ap_<|fun z52=>q_ 1 rfl<|d_<|b_<|c_<|ao_ (p := b47 ∉ (mids [wb p bd bt N] ++ mids [.blk z35.1 157 [int (n : Nat), int (me : Nat), mapV z35.2.1, .v z35.2.2], own 199 1 z35.2.2 ((List.replicate n []).map fun l => [pntsA l]), .pc (tmPc z35.2.1 intK intOk Ow.enc [])])) (fun _ _ h => by
   have h1 := h.mem.nodup
   simp [mids, It.mids, ownPc, mapPc, tmPc, wbP, exP] at h1 ⊢
   grind) fun hX => ?_
 refine Q_ (mids [wb p bd bt N] ++ mids [.blk z35.1 157 [int (n : Nat), int (me : Nat), mapV z35.2.1, .v z35.2.2], own 199 1 z35.2.2 ((List.replicate n []).map fun l => [pntsA l]), .pc (tmPc z35.2.1 intK intOk Ow.enc [])]) (.q 0 (.q 1 (.q 2 (.q 3 (.q 4 (.q 5 (.q 7 (.e 6 (.e 8 .nil))))))))) (by kernel_rfl) (by kernel_rfl) ?_
 refine hxA fun hx9 => ?_
 refine qx_ 3 hx9 rfl<|sxvA rfl (h_ (C := ptr z35.1) (g_ tabOk rfl rfl l0_ hX rfl) rfl) hx9<|qx_ 3 hx9 rfl<|bs_ rfl (jS_ (p := p) (bd := bd) (bt := bt) (N := N) (k := 104) (l := z52.1) (by omega) (by have := z52.2; unfold maxLen; omega)) (by intro k hk; exact List.mem_append_left _ hk) rfl Casts.refl (fun _ _ _ => by kernel_rfl) rfl rfl rfl ?_
 refine x_ rfl i7_ (fun _ => rfl)<|fun z59=>⟨_, u7_, bV_ ([]) rfl (pown_s (n := n) (me := me) (bp := z35.1) (bm := z35.2.1) (vv := z35.2.2) (vs := List.replicate n []) (om := []) (k := 0) (o := ⟨z59.d, z52.1, z59.len⟩) (by simp only [InR, lo, hi]; omega) (by have := z52.2; show z52.1.length ≤ _; omega)) (by intro k hk; exact List.mem_append_right _ hk) (by intro k hk; cases hk) Casts.refl (by kernel_rfl) rfl rfl rfl ?_⟩
 refine W_ [_, _, _, _] (β := [_]) rfl (J_ rfl) ?_
 intro _
 exact F_<|b_<|c_<|a_<|q_ 2 rfl<|d_<|b_<|k_<|f_ (rs := [.tmp 6]) rfl (RV.tmp rfl RV.nil) (b47) (sk_ (sk_ (sk_ (sk_ (sk_ (sk_ (sk_ sr_)))))))<|rfl
theorem clX_s (hn : 1 ≤ n ∧ n ≤ 7) (hm : n ≤ me ∧ me < n + 4) : Spec Tryz.prog 27 [bkI p, int (n : Nat), int (me : Nat)] [] (fun _ : Nat => []) (fun c => ptr c) := by
 refine t_ Tryz.func27 rfl Tryz.ntmps27 rfl fun G w =>c_<|a_<|q_ 1 rfl<|d_<|b_<|c_<|c_<|a_<|q_ 1 rfl<|slvA (aE_ Tryz.underlying68 rfl)<|q_ 5 rfl<|A_ (t := 13) rfl (by intro hc13; exfalso; omega) ?_
 intro hc13
 refine q_ 4 rfl<|A_ (t := 17) rfl (by intro hc17; exfalso; omega) ?_
 intro hc17
 refine q_ 5 rfl<|A_ (t := 22) rfl (by intro hc22; exfalso; omega) ?_
 intro hc22
 refine q_ 2 rfl<|slvA (y_ rfl rfl (by simp only [InR, lo, hi]; omega)) ?_
 refine q_ 2 rfl<|d_<|b_<|l_ rfl (by intro hc27; exfalso; omega) ?_
 intro hc27
 refine o_<|b_<|c_<|a_<|q_ 3 rfl<|slvA (h_ (C := .agg [bkI p, int (n : Nat), int (me : Nat), int 0, .v (.pointer none), .v (.slice none 0 0)]) (z_ tabOk rfl rfl rfl rfl) rfl)<|eb_ (B_ (cs := [bkI p, int (n : Nat), int (me : Nat), int 0, .v (.pointer none), .v (.slice none 0 0)]) rfl) rfl rfl fun b32=>?_
 exact q_ 1 rfl<|d_<|b_<|k_<|f_ (rs := [.tmp 6]) rfl (RV.tmp rfl RV.nil) (b32) sn_<|rfl
end
def badB (s : Su) (j : Nat) : Bool := decide (s.li.getD j 0 < 0 ∨ ((s.n : Nat) : Int) + s.cl ≤ s.li.getD j 0 ∨ s.li.getD j 0 ∈ s.li.take j)
def lyN (s : Su) (k : Nat) : Nat := ((s.li.take k).filter fun w => decide (w < ((s.n : Nat) : Int))).length
def chkF (s : Su) : Int := if s.f < 1 ∨ 2 < s.f ∨ s.cl < 0 ∨ 4 < s.cl then 1 else if ∃ j, j < s.li.length ∧ badB s j = true then 17 else if s.f < ((lyN s s.li.length : Nat) : Int) then 4 else 0
theorem chk1 {s : Su} (h : s.f < 1 ∨ 2 < s.f ∨ s.cl < 0 ∨ 4 < s.cl) : chkF s = 1 := if_pos h
theorem chk17 {s : Su} {j : Nat} (h : ¬ (s.f < 1 ∨ 2 < s.f ∨ s.cl < 0 ∨ 4 < s.cl)) (hj : j < s.li.length) (hb : badB s j = true) : chkF s = 17 := by
  unfold chkF
  rw [if_neg h, if_pos ⟨j, hj, hb⟩]
theorem chk4 {s : Su} (h : ¬ (s.f < 1 ∨ 2 < s.f ∨ s.cl < 0 ∨ 4 < s.cl)) (hb : ∀ j, j < s.li.length → badB s j = false) : chkF s = if s.f < ((lyN s s.li.length : Nat) : Int) then 4 else 0 := by
  unfold chkF
  rw [if_neg h, if_neg]
  rintro ⟨j, hj, h2⟩
  rw [hb j hj] at h2
  cases h2
theorem ly_len {s : Su} (k : Nat) : lyN s k ≤ s.li.length := by
  unfold lyN
  refine Nat.le_trans (List.length_filter_le _ _) ?_
  rw [List.length_take]
  omega
theorem ly_yes {s : Su} {k : Nat} (hk : k < s.li.length) (h : s.li[k] < ((s.n : Nat) : Int)) : lyN s (k + 1) = lyN s k + 1 := by
  unfold lyN
  rw [List.take_succ_eq_append_getElem hk, List.filter_append, List.length_append]
  simp [h]
theorem ly_no {s : Su} {k : Nat} (hk : k < s.li.length) (h : ¬ s.li[k] < ((s.n : Nat) : Int)) : lyN s (k + 1) = lyN s k := by
  unfold lyN
  rw [List.take_succ_eq_append_getElem hk, List.filter_append, List.length_append]
  simp [h]
def SeenW (s : Su) (k : Nat) (m : List (Int × Bool)) : Prop := ∀ w, (aget m w).getD false = decide (w ∈ s.li.take k)
theorem ia_ {s : Su} {k : Nat} {m : List (Int × Bool)} (hk : k < s.li.length) (h : SeenW s k m) : SeenW s (k + 1) (aput m (s.li[k]) true) := by
  intro w
  rw [List.take_succ_eq_append_getElem hk, dD_]
  by_cases hw : w = s.li[k]
  · rw [if_pos hw]
    exact (decide_eq_true (List.mem_append_right _ (by rw [hw]; exact List.mem_singleton_self _))).symm
  · rw [if_neg hw, h w, decide_eq_decide, List.mem_append, List.mem_singleton]
    simp [hw]
theorem bad_no {s : Su} {k : Nat} (hk : k < s.li.length) (h1 : ¬ s.li[k] < 0) (h2 : ¬ ((s.n : Nat) : Int) + s.cl ≤ s.li[k]) (h3 : ¬ s.li[k] ∈ s.li.take k) : badB s k = false := by
  unfold badB
  rw [decide_eq_false_iff_not, List.getD_eq_getElem?_getD, List.getElem?_eq_getElem hk]
  exact fun h => h.elim h1 fun h => h.elim h2 h3
theorem hQ_ {s : Su} {k : Nat} (hk : k < s.li.length) (h : s.li[k] < 0 ∨ ((s.n : Nat) : Int) + s.cl ≤ s.li[k] ∨ s.li[k] ∈ s.li.take k) : badB s k = true := by
  unfold badB
  rw [decide_eq_true_iff, List.getD_eq_getElem?_getD, List.getElem?_eq_getElem hk]
  exact h
theorem zero_bo (w : World) : (zeroValue 4).run Tryz.prog w = .ok (.bool false) w := by kernel_rfl
theorem zb_rep (K : List Nat) (w : World) : rep K w (boo false) (.bool false) := rfl
section
variable {p bd bt N n me x : Nat} {s : Su}
set_option maxHeartbeats 4000000 in
theorem k5_ (hl : s.li.length ≤ 20) (hli : ∀ w ∈ s.li, intOk w) : Spec Tryz.prog 23 [.agg s.abs] [] (fun _ : Unit => []) (fun _ => int (chkF s)) := by
 refine t_ Tryz.func23 rfl Tryz.ntmps23 rfl fun G w =>c_<|a_<|eb_ (B_ (cs := s.abs) rfl) rfl rfl fun b1=>?_
 refine q_ 1 rfl<|d_<|b_<|c_<|c_<|a_<|q_ 1 rfl<|slvA (h_ (C := int s.f) (g_ tabOk rfl rfl l0_ List.not_mem_nil rfl) rfl)<|q_ 2 rfl<|A_ (t := 11) rfl ?_ ?_
 ·intro hc11
  refine q_ 14 rfl<|d_<|b_<|U_ rfl<|c_<|a_<|q_ 1 rfl<|d_<|b_<|k_<|j_ nofun<|f_ (rs := [.tmp 2]) rfl (RV.tmp rfl RV.nil) (()) sn_ ?_
  rw [chk1 (by omega)]
  rfl
 intro hc11
 refine q_ 1 rfl<|slvA (h_ (C := int s.f) (g_ tabOk rfl rfl l0_ List.not_mem_nil rfl) rfl)<|q_ 3 rfl<|A_ (t := 16) rfl ?_ ?_
 ·intro hc16
  refine q_ 9 rfl<|d_<|b_<|U_ rfl<|c_<|a_<|q_ 1 rfl<|d_<|b_<|k_<|j_ nofun<|f_ (rs := [.tmp 2]) rfl (RV.tmp rfl RV.nil) (()) sn_ ?_
  rw [chk1 (by omega)]
  rfl
 intro hc16
 refine q_ 1 rfl<|slvA (h_ (C := int s.cl) (g_ tabOk rfl rfl l0_ List.not_mem_nil rfl) rfl)<|q_ 3 rfl<|A_ (t := 21) rfl ?_ ?_
 ·intro hc21
  refine q_ 4 rfl<|d_<|b_<|U_ rfl<|c_<|a_<|q_ 1 rfl<|d_<|b_<|k_<|j_ nofun<|f_ (rs := [.tmp 2]) rfl (RV.tmp rfl RV.nil) (()) sn_ ?_
  rw [chk1 (by omega)]
  rfl
 intro hc21
 refine q_ 1 rfl<|slvA (h_ (C := int s.cl) (g_ tabOk rfl rfl l0_ List.not_mem_nil rfl) rfl)<|q_ 2 rfl<|d_<|b_<|l_ rfl ?_ ?_
 ·intro hc25
  refine c_<|a_<|q_ 1 rfl<|d_<|b_<|k_<|j_ nofun<|f_ (rs := [.tmp 2]) rfl (RV.tmp rfl RV.nil) (()) sn_ ?_
  rw [chk1 (by omega)]
  rfl
 intro hc25
 have hg : ¬ (s.f < 1 ∨ 2 < s.f ∨ s.cl < 0 ∨ 4 < s.cl) := by omega
 have hf : 1 ≤ s.f ∧ s.f ≤ 2 := by omega
 have hcl : 0 ≤ s.cl ∧ s.cl ≤ 4 := by omega
 have hn : 3 * s.f + 1 = (s.n : Nat) := by unfold Su.n; omega
 refine o_<|b_<|c_<|a_<|q_ 1 rfl<|slvA (h_ (C := int s.f) (g_ tabOk rfl rfl l0_ List.not_mem_nil rfl) rfl)<|slvA (bm_ rfl rfl (by simp only [InR, lo, hi]; omega)) ?_
 refine slvA (h_ (C := int (s.n : Nat)) (y_ rfl rfl (by simp only [InR, lo, hi]; omega)) (congrArg int (by omega))) ?_
 refine q_ 1 rfl<|d_<|b_<|c_<|a_<|eb_ (ak_ intK intOk boo (fun ac w => by simp [execOp, Instr.makeMap, newObj, Sem.run, Sem.run_bind, Result.andThen])) rfl rfl fun m30=>?_
 refine q_ 1 rfl<|d_<|b_<|c_<|a_<|q_ 1 rfl<|d_<|b_<|c_<|c_<|a_<|q_ 1 rfl<|slvA (h_ (C := ints s.li) (g_ tabOk rfl rfl l1_ List.not_mem_nil rfl) rfl)<|slvA (H_ (m := s.li.length) rfl Tryz.underlying22 (by rw [List.length_map])) ?_
 refine q_ 1 rfl<|d_<|b_<|u_<|ct_ [] (Re.perm (xs := [.pc (tmPc m30 intK intOk boo []), .blk b1 24 s.abs]) (ys := [.blk b1 24 s.abs, .pc (tmPc m30 intK intOk boo [])]) (List.Perm.swap _ _ _) (J_ rfl)) rfl<|P_ (ι := Nat × List (Int × Bool)) (fun z => [.blk b1 24 s.abs, .pc (tmPc m30 intK intOk boo z.2)]) (fun z => [(1, ptr b1), (3, int (s.n : Nat)), (4, mapV m30), (5, int (lyN s z.1 : Nat)), (32, ints s.li), (33, int (s.li.length : Nat)), (34, int (z.1 : Nat))]) (fun z => z.1 ≤ s.li.length ∧ (∀ j, j < z.1 → badB s j = false) ∧ SeenW s z.1 z.2) (fun z => s.li.length - z.1) (0, []) (⟨Nat.zero_le _, by omega, fun w => by simp [aget]⟩) (by exact ⟨rfl, rfl, rfl, rfl, rfl, rfl, rfl, trivial⟩) sr_ ?_
 intro z hz
 refine c_<|a_<|q_ 1 rfl<|d_<|b_<|c_<|l_ rfl ?_ ?_
 rotate_left
 ·intro hc35
  have hend : z.1 = s.li.length := by omega
  refine N_<|j_ nofun<|j_ nofun<|M_<|b_<|c_<|c_<|a_<|q_ 2 rfl<|slvA (h_ (C := int s.f) (g_ tabOk rfl rfl l0_ List.not_mem_nil rfl) rfl)<|q_ 1 rfl<|d_<|b_<|l_ rfl ?_ ?_
  ·intro hc64
   refine c_<|a_<|q_ 1 rfl<|d_<|b_<|k_<|j_ nofun<|f_ (rs := [.tmp 2]) rfl (RV.tmp rfl RV.nil) (()) sn_ ?_
   rw [chk4 hg (by rw [← hend]; exact hz.2.1), if_pos (by rw [← hend]; omega)]
   rfl
  intro hc64
  refine o_<|b_<|c_<|a_<|q_ 1 rfl<|d_<|b_<|k_<|f_ (rs := [.tmp 2]) rfl (RV.tmp rfl RV.nil) (()) sn_ ?_
  rw [chk4 hg (by rw [← hend]; exact hz.2.1), if_neg (by rw [← hend]; omega)]
  rfl
 intro hc35
 have hlt : z.1 < s.li.length := by omega
 have hli1 := hli _ (List.getElem_mem hlt)
 unfold intOk at hli1
 simp only [InR, lo, hi] at hli1
 have hly := ly_len (s := s) z.1
 refine o_<|b_<|c_<|u_<|c_<|a_<|slvA (L_ tabOk Tryz.underlying22 rfl rfl rfl rfl (a8_ (by omega)) rfl rfl) ?_
 refine slvA (h_ (C := int (s.li[z.1]'hlt)) (aa_ tabOk rfl rfl rfl) rfl)<|q_ 1 rfl<|d_<|b_<|c_<|c_<|a_<|q_ 3 rfl<|A_ (t := 40) rfl ?_ ?_
 ·intro hc40
  refine q_ 12 rfl<|d_<|b_<|U_ rfl<|c_<|a_<|q_ 1 rfl<|d_<|b_<|k_<|j_ nofun<|S_<|j_ nofun<|j_ nofun<|S_<|j_ nofun<|f_ (rs := [.tmp 2]) rfl (RV.tmp rfl RV.nil) (()) sn_ ?_
  rw [chk17 hg hlt (hQ_ hlt (by exact Or.inl hc40))]
  rfl
 intro hc40
 refine q_ 3 rfl<|slvA (h_ (C := int s.cl) (g_ tabOk rfl rfl l0_ List.not_mem_nil rfl) rfl)<|slvA (y_ rfl rfl (by simp only [InR, lo, hi]; omega)) ?_
 refine q_ 3 rfl<|A_ (t := 48) rfl ?_ ?_
 ·intro hc48
  refine q_ 4 rfl<|d_<|b_<|U_ rfl<|c_<|a_<|q_ 1 rfl<|d_<|b_<|k_<|j_ nofun<|S_<|j_ nofun<|j_ nofun<|S_<|j_ nofun<|f_ (rs := [.tmp 2]) rfl (RV.tmp rfl RV.nil) (()) sn_ ?_
  rw [chk17 hg hlt (hQ_ hlt (by exact Or.inr (Or.inl (by omega))))]
  rfl
 intro hc48
 refine q_ 2 rfl<|slvA (h_ (C := boo (decide ((s.li[z.1]'hlt) ∈ s.li.take z.1))) (aX_ (a := (s.li[z.1]'hlt)) (m := z.2) (enc := boo) (z0 := false) (zv := .bool false) (a0_ Tryz.underlying3) Tryz.underlying94 zero_bo zb_rep rfl l1_ List.not_mem_nil rfl is_v (hli _ (List.getElem_mem hlt))) (congrArg boo (hz.2.2 _)))<|q_ 1 rfl<|d_<|b_<|ar_ rfl ?_ ?_
 ·intro hc52
  refine c_<|a_<|q_ 1 rfl<|d_<|b_<|k_<|j_ nofun<|S_<|j_ nofun<|j_ nofun<|S_<|j_ nofun<|f_ (rs := [.tmp 2]) rfl (RV.tmp rfl RV.nil) (()) sn_ ?_
  rw [chk17 hg hlt (hQ_ hlt (by exact Or.inr (Or.inr (by simpa using hc52))))]
  rfl
 intro hc52
 refine o_<|b_<|c_<|a_<|q_ 2 rfl<|e_ (bh_ (enc := boo) (m := z.2) (a := (s.li[z.1]'hlt)) (v := true) (m' := aput z.2 (s.li[z.1]'hlt) true) (a0_ Tryz.underlying3) Tryz.underlying94 rfl u1_ rfl is_v (hli _ (List.getElem_mem hlt)) rfl rfl) rfl rfl<|d_<|b_<|c_<|a_<|q_ 3 rfl<|d_<|b_<|l_ rfl ?_ ?_
 rotate_left
 ·intro hc57
  refine o_<|w_<|b_<|a_<|slvA (y_ rfl rfl (by simp only [InR, lo, hi]; omega)) ?_
  refine q_ 1 rfl<|d_<|I_ (z.1 + 1, aput z.2 (s.li[z.1]'hlt) true) (by omega) ((⟨by dsimp only; omega, fun j hj => by rcases Nat.lt_or_ge j z.1 with h1 | h1; exact hz.2.1 j h1; obtain rfl : j = z.1 := (by dsimp only at hj; omega); exact bad_no hlt hc40 (by omega) (by simpa using hc52), ia_ hlt hz.2.2⟩)) (by exact ⟨rfl, rfl, rfl, congrArg (fun m : Nat => some (int (m : Nat))) (ly_no hlt (by omega)).symm, rfl, rfl, rfl, trivial⟩) sr_
 intro hc57
 refine a_<|q_ 1 rfl<|slvA (h_ (C := int ((lyN s (z.1 + 1) : Nat))) (y_ rfl rfl (by have := ly_len (s := s) z.1; simp only [InR, lo, hi]; omega)) (congrArg int (by rw [ly_yes hlt (by omega)]; omega))) ?_
 refine q_ 1 rfl<|d_<|w_<|b_<|a_<|slvA (y_ rfl rfl (by simp only [InR, lo, hi]; omega)) ?_
 refine q_ 1 rfl<|d_<|I_ (z.1 + 1, aput z.2 (s.li[z.1]'hlt) true) (by omega) ((⟨by dsimp only; omega, fun j hj => by rcases Nat.lt_or_ge j z.1 with h1 | h1; exact hz.2.1 j h1; obtain rfl : j = z.1 := (by dsimp only at hj; omega); exact bad_no hlt hc40 (by omega) (by simpa using hc52), ia_ hlt hz.2.2⟩)) (by exact ⟨rfl, rfl, rfl, rfl, rfl, rfl, rfl, trivial⟩) sr_
end
section
variable {p bd bt N x : Nat} {s : Su}
set_option maxHeartbeats 8000000 in
theorem iG_ (hl : s.li.length ≤ 20) (hli : ∀ w ∈ s.li, intOk w) (hN : N ≤ 1000) : Spec Tryz.prog 14 [bkI p, .agg s.abs] [wb p bd bt N] (fun z : Option Nat => []) (fun z => .tup [pE z, int (chkF s)]) := by
 refine t_ Tryz.func14 rfl Tryz.ntmps14 rfl fun G w =>c_<|a_<|eb_ (B_ (cs := s.abs) rfl) rfl rfl fun b3=>?_
 refine q_ 2 rfl<|d_<|b_<|c_<|c_<|a_<|q_ 1 rfl<|slvA (aE_ Tryz.underlying68 rfl)<|d_<|b_<|O_ rfl<|o_<|b_<|c_<|c_<|a_<|slvA (h_ (C := .agg s.abs) (r_ tabOk rfl rfl rfl l0_ List.not_mem_nil rfl) rfl)<|slcA (k5_ hl hli) ?_
 refine ap_<|fun _=>q_ 1 rfl<|d_<|b_<|c_<|a_<|q_ 2 rfl<|d_<|b_<|l_ rfl ?_ ?_
 ·intro hc15
  exact c_<|a_<|q_ 3 rfl<|d_<|b_<|k_<|j_ nofun<|f_ (rs := [.tmp 4, .tmp 5]) rfl (RV.tmp rfl (RV.tmp rfl RV.nil)) (none) sn_<|rfl
 intro hc15
 have hc0 : chkF s = 0 := by omega
 have hg : ¬ (s.f < 1 ∨ 2 < s.f ∨ s.cl < 0 ∨ 4 < s.cl) := fun h => by rw [chk1 h] at hc0; omega
 have hf : 1 ≤ s.f ∧ s.f ≤ 2 := by omega
 have hcl : 0 ≤ s.cl ∧ s.cl ≤ 4 := by omega
 have hn : 3 * s.f + 1 = (s.n : Nat) := by unfold Su.n; omega
 refine o_<|b_<|c_<|a_<|q_ 1 rfl<|slvA (h_ (C := int s.f) (g_ tabOk rfl rfl l0_ List.not_mem_nil rfl) rfl)<|slvA (bm_ rfl rfl (by simp only [InR, lo, hi]; omega)) ?_
 refine slvA (h_ (C := int (s.n : Nat)) (y_ rfl rfl (by simp only [InR, lo, hi]; omega)) (congrArg int (by omega))) ?_
 refine q_ 1 rfl<|d_<|b_<|bL_ (ι := Nat × Nat × Nat × Nat × Nat) (fun y => [.blk y.1 74 [bkI p, int (s.n : Nat), int ((s.n : Nat) + s.cl), mapV y.2.1, mapV y.2.2.1, ptr y.2.2.2.1, mapV y.2.2.2.2, .v (.slice none 0 0)], .pc (tmPc y.2.1 intK intOk pE []), .pc (tmPc y.2.2.1 intK intOk pE []), .blk b3 24 s.abs, wb p bd bt N]) (fun y => [(3, ptr b3), (7, int (s.n : Nat)), (8, ptr y.1)]) (fun y => True) ?_ ?_
 ·skip
  refine Q_ [] (.q 0 (.q 1 (.q 2 (.q 3 (.q 4 (.q 5 (four4 6 7 8 9 (.q 10 (.e 11 (.q 12 .nil)))))))))) (by kernel_rfl) (by kernel_rfl) ?_
  refine qs_ 4 rfl<|hxA fun hx9 => ?_
  refine sxvA rfl (h_ (C := int s.cl) (g_ tabOk rfl rfl l0_ List.not_mem_nil rfl) rfl) hx9<|sxvA rfl (h_ (C := int ((s.n : Nat) + s.cl)) (y_ rfl rfl (by simp only [InR, lo, hi]; omega)) rfl) hx9 ?_
  refine iT_ (show Makes _ _ _ _ _ _ 6 27 (fun m => [.pc (tmPc m intK intOk pE [])]) (fun m => mapV m) from fun _ _ _ k => by
   refine exb_ rfl (ak_ intK intOk pE (fun ac w => by simp [execOp, Instr.makeMap, newObj, Sem.run, Sem.run_bind, Result.andThen])) (by simp) rfl rfl fun m=>?_
   exact k m) (show Makes _ _ _ _ _ _ 7 28 (fun m => [.pc (tmPc m intK intOk pE [])]) (fun m => mapV m) from fun _ _ _ k => by
   refine exb_ rfl (ak_ intK intOk pE (fun ac w => by simp [execOp, Instr.makeMap, newObj, Sem.run, Sem.run_bind, Result.andThen])) (by simp) rfl rfl fun m=>?_
   exact k m) (show Makes _ _ _ _ _ _ 8 29 (fun c => [.blk c 97 [.v (.slice none 0 0)], own 143 6 (.slice none 0 0) []]) (fun c => ptr c) from fun _ _ _ k => by
   refine D_ rfl kX_ (by simp [mids]) Casts.refl (by kernel_rfl) rfl rfl rfl ?_
   exact bb_ Reads.nil k) (show Makes _ _ _ _ _ _ 9 30 (fun m => [.pc (tmPc m intK intOk boo [])]) (fun m => mapV m) from fun _ _ _ k => by
   refine exb_ rfl (ak_ intK intOk boo (fun ac w => by simp [execOp, Instr.makeMap, newObj, Sem.run, Sem.run_bind, Result.andThen])) (by simp) rfl rfl fun m=>?_
   exact k m) (by decide) fun m27 m28 z29 m30 => ?_
  dsimp only [List.cons_append, List.nil_append]
  refine hxA fun hx9 => ?_
  refine sxvA rfl (h_ (C := .agg [bkI p, int (s.n : Nat), int ((s.n : Nat) + s.cl), mapV m27, mapV m28, ptr z29, mapV m30, .v (.slice none 0 0)]) (z_ tabOk rfl rfl rfl rfl) rfl) hx9<|exb_ rfl (B_ (cs := [bkI p, int (s.n : Nat), int ((s.n : Nat) + s.cl), mapV m27, mapV m28, ptr z29, mapV m30, .v (.slice none 0 0)]) rfl) (by simp) rfl rfl fun b32=>?_
  refine qs_ 1 rfl<|F_<|e8_ (τ := [.blk b32 74 [bkI p, int (s.n : Nat), int ((s.n : Nat) + s.cl), mapV m27, mapV m28, ptr z29, mapV m30, .v (.slice none 0 0)], .pc (tmPc m27 intK intOk pE []), .pc (tmPc m28 intK intOk pE []), .blk b3 24 s.abs, wb p bd bt N, .blk z29 97 [.v (.slice none 0 0)], own 143 6 (.slice none 0 0) [], .pc (tmPc m30 intK intOk boo [])]) (by repeat (first | exact List.Perm.nil | refine pk_ (by repeat (first | exact Rem_.here | apply Rem_.there)) ?_)) ?_
  refine aw_ (b32, m27, m28, z29, m30) (trivial) (by exact ⟨rfl, rfl, rfl, trivial⟩) (sc_ (sc_ (sc_ (sc_ (sc_ sn_)))))
 intro y hy
 obtain ⟨b32, m27, m28, z29, m30⟩ := y
 dsimp only
 refine c_<|c_<|a_<|q_ 3 rfl<|slvA (h_ (C := int ((s.n : Nat) + s.cl)) (g_ tabOk rfl rfl l0_ List.not_mem_nil rfl) rfl)<|q_ 1 rfl<|d_<|b_<|u_<|P_ (ι := Nat × List (Int × Option Nat) × List (Int × Option Nat)) (fun z => [.blk b32 74 [bkI p, int (s.n : Nat), int ((s.n : Nat) + s.cl), mapV m27, mapV m28, ptr z29, mapV m30, .v (.slice none 0 0)], .pc (tmPc m27 intK intOk pE z.2.1), .pc (tmPc m28 intK intOk pE z.2.2), .blk b3 24 s.abs, wb p bd bt (N + z.1)]) (fun z => [(3, ptr b3), (7, int (s.n : Nat)), (8, ptr b32), (36, int ((s.n : Nat) + s.cl)), (37, int (z.1 : Nat))]) (fun z => ((z.1 : Nat) : Int) ≤ (s.n : Nat) + s.cl) (fun z => s.n + s.cl.toNat - z.1) (0, [], []) (by dsimp only; omega) (by exact ⟨rfl, rfl, rfl, rfl, rfl, trivial⟩) sr_ ?_
 intro z hz
 refine c_<|a_<|q_ 1 rfl<|d_<|b_<|c_<|l_ rfl ?_ ?_
 rotate_left
 ·intro hc38
  refine N_<|j_ nofun<|j_ nofun<|M_<|b_<|c_<|a_<|q_ 3 rfl<|d_<|b_<|k_<|f_ (rs := [.tmp 4, .tmp 5]) rfl (RV.tmp rfl (RV.tmp rfl RV.nil)) (some b32) sn_ ?_
  rw [hc0]
  rfl
 intro hc38
 refine o_<|b_<|c_<|u_<|c_<|a_<|q_ 2 rfl<|d_<|b_<|u_<|c_<|a_<|q_ 1 rfl<|slvA (h_ (C := ints s.li) (g_ tabOk rfl rfl l3_ List.not_mem_nil rfl) rfl)<|q_ 1 rfl<|slcA (hK_ (xs := s.li) (y := ((z.1 : Nat) : Int)) (by omega)) ?_
 refine ap_<|fun _=>q_ 1 rfl<|d_<|b_<|ar_ rfl ?_ ?_
 ·intro hc52
  refine o_<|w_<|w_<|b_<|a_<|slvA (y_ rfl rfl (by simp only [InR, lo, hi]; omega)) ?_
  refine q_ 1 rfl<|d_<|c2_ [_, _, _, _] (Re.wbUp (N := N + z.1) (M := N + (z.1 + 1)) (by omega)) rfl ?_
  refine I_ (z.1 + 1, z.2) (by omega) (by dsimp only; omega) (by exact ⟨rfl, rfl, rfl, rfl, rfl, trivial⟩) sr_
 intro hc52
 refine c_<|a_<|q_ 4 rfl<|d_<|b_<|l_ rfl ?_ ?_
 rotate_left
 ·intro hc57
  refine as_ [] (.q 0 (.q 1 (.q 2 (.q 3 (.q 4 (.q 5 (.q 6 (.q 7 (.q 8 (.q 9 (.q 10 (.e 11 .nil)))))))))))) (by kernel_rfl) (by kernel_rfl) ?_
  refine qs_ 3 rfl<|hx_ fun hx9 =>sxvA rfl (h_ (C := mapV m28) (g_ tabOk rfl rfl l0_ List.not_mem_nil rfl) rfl) hx9<|qs_ 4 rfl<|sxvA rfl (h_ (C := bkI p) (g_ tabOk rfl rfl l0_ List.not_mem_nil rfl) rfl) hx9<|qs_ 2 rfl<|D_ rfl (clX_s (p := p) (n := s.n) (me := z.1) (by omega) (by omega)) (by simp [mids, It.mids]) Casts.refl (by kernel_rfl) rfl rfl rfl ?_
  refine ap_<|fun z51=>F_<|aq_ rfl (bh_ (enc := pE) (m := z.2.2) (a := ((z.1 : Nat) : Int)) (v := some z51) (m' := aput z.2.2 ((z.1 : Nat) : Int) (some z51)) (a0_ Tryz.underlying3) Tryz.underlying70 rfl u2_ rfl is_v (by unfold intOk; simp only [InR, lo, hi]; omega) rfl rfl) rfl rfl ?_
  rintro _ _ ⟨rfl, rfl⟩
  refine w_<|w_<|b_<|a_<|slvA (y_ rfl rfl (by simp only [InR, lo, hi]; omega)) ?_
  refine q_ 1 rfl<|d_<|c2_ [_, _, _, _] (Re.wbUp (N := N + z.1) (M := N + (z.1 + 1)) (by omega)) rfl ?_
  refine I_ (z.1 + 1, z.2.1, aput z.2.2 ((z.1 : Nat) : Int) (some z51)) (by omega) (by dsimp only; omega) (by exact ⟨rfl, rfl, rfl, rfl, rfl, trivial⟩) sr_
 intro hc57
 refine ao_ (p := b32 ∉ [p, bd, bt]) (fun _ _ h => by
   have h1 := h.mem.nodup
   simp [mids, It.mids, ownPc, mapPc, tmPc, wbP, exP] at h1 ⊢
   grind) fun hB => ?_
 refine as_ [p, bd, bt] (.q 0 (.q 1 (.q 2 (.q 3 (.q 4 (.q 5 (.q 6 (.q 7 (.q 8 (.q 9 (.q 10 (.e 11 .nil)))))))))))) (by kernel_rfl) (by kernel_rfl) ?_
 refine hxA fun hx9 => ?_
 refine qx_ 3 hx9 rfl<|sxvA rfl (h_ (C := mapV m27) (g_ tabOk rfl rfl l0_ hB rfl) rfl) hx9<|qx_ 4 hx9 rfl<|sxvA rfl (h_ (C := bkI p) (g_ tabOk rfl rfl l0_ hB rfl) rfl) hx9<|qx_ 2 hx9 rfl<|D_ rfl (rpX_s (p := p) (bd := bd) (bt := bt) (N := N + z.1) (n := s.n) (me := z.1) (by omega) (by omega) (by omega)) (by simp [mids, It.mids, wbP, exP]) Casts.refl (by kernel_rfl) rfl rfl rfl ?_
 refine W_ [_, _, _, _] (β := []) rfl (J_ rfl) ?_
 intro z72
 refine F_<|aq_ rfl (bh_ (enc := pE) (m := z.2.1) (a := ((z.1 : Nat) : Int)) (v := some z72) (m' := aput z.2.1 ((z.1 : Nat) : Int) (some z72)) (a0_ Tryz.underlying3) Tryz.underlying69 rfl u1_ rfl is_v (by unfold intOk; simp only [InR, lo, hi]; omega) rfl rfl) rfl rfl ?_
 rintro _ _ ⟨rfl, rfl⟩
 refine w_<|w_<|b_<|a_<|slvA (y_ rfl rfl (by simp only [InR, lo, hi]; omega)) ?_
 refine q_ 1 rfl<|d_<|I_ (z.1 + 1, aput z.2.1 ((z.1 : Nat) : Int) (some z72), z.2.2) (by omega) (by dsimp only; omega) (by exact ⟨rfl, rfl, rfl, rfl, rfl, trivial⟩) sr_
end
end Go.Proofs.YtjclgkddfjbdiaaGreatDoor.A
