/-
  Packed out of the texts: CO3, CO4, CO5, CO6, CO7, EX1.
-/
import Derived.Test.YtickdhjljpnlpaaGreatDoorR010
set_option maxRecDepth 100000
set_option linter.unusedSimpArgs false
set_option linter.unusedVariables false
namespace Go.Proofs.YtickdhjljpnlpaaGreatDoor.A
open Go.RowKit
def dgA (l : Lg) (e : Ent) (n : Int) (x : Ltr) : List Abs := l.abs ++ entA e ++ [int n] ++ ltrA x
section
variable {l : Lg} {x : Ltr} {n : Int} {e : Ent} {d : Nat} {es er : Value}
set_option maxHeartbeats 1000000 in
theorem known_s (hf : l.Few) : Spec Tryz.prog 68 [ptr d] (.blk d 112 (dgA l e n x) :: (globs es er)) (fun _ : Unit => [.blk d 112 (dgA l e n (l.old e.core.letter))]) (fun _ => int (l.known e.core)) := by
 refine F_ Tryz.func68 rfl Tryz.ntmps68 rfl fun G w =>d_<|a_<|q_ 1 rfl<|g_<|c_<|d_<|a_<|q_ 1 rfl<|g_<|c_<|d_<|d_<|aa_ [d] (.q 0 (.q 1 (.q 2 (.q 3 (.q 5 (.q 6 (.q 7 (.q 8 (.q 9 (.two 4 10 (.e 10 (.e 11 (.q 12 (.q 13 (.q 14 (.q 15 (.q 16 (.e 17 (.q 18 .nil))))))))) (.e 4 (.e 11 (.q 12 (.q 13 (.q 14 (.q 15 (.q 16 (.e 17 (.q 18 .nil))))))))))))))))))) (by kernel_rfl) (by kernel_rfl) ?_
 refine hx_ fun hx9 =>qx_ 9 hx9 rfl<|aR_ ?_ ?_
 ·skip
  refine aU_ rfl (l_ (C := .agg l.abs) (x_ tabOk rfl rfl rfl l0_ List.not_mem_nil (lb_ (by rfl))) rfl) rfl rfl ?_
  refine aU_ rfl (l_ (C := st e.core.letter) (i_ tabOk rfl rfl l0_ List.not_mem_nil (by rfl)) rfl) rfl rfl ?_
  refine I_ rfl (kv_ (s := e.core.letter) hf) (by simp [mids, It.mids]) Casts.refl (by kernel_rfl) rfl rfl rfl ?_
  refine ap_<|fun _=>hx_ fun hx9 =>qx_ 5 hx9 rfl<|ex_ rfl (n_ (L' := dgA l e n (l.old e.core.letter)) tabOk rfl rfl rfl u0_ rfl (Nat.le_of_ble_eq_true rfl) rfl rfl) (by simp) rfl rfl ?_
  refine hx_ fun hx9 =>qx_ 1 hx9 rfl<|Q_<|c_<|d_<|a_<|q_ 1 rfl<|b_ (aj_ rfl) rfl rfl<|q_ 1 rfl<|aL_ (t := 23) rfl ?_ ?_
  rotate_left
  ·intro hc23
   refine q_ 8 rfl<|g_<|c_<|ad_ rfl<|p_<|c_<|d_<|a_<|q_ 1 rfl<|g_<|c_<|m_<|f_ (rs := [.tmp 2]) rfl (RV.tmp rfl RV.nil) (()) (sc_ sn_)<|congrArg int ?_
   unfold Lg.known
   split <;> simp_all
  intro hc23
  refine q_ 5 rfl<|b_ (l_ (C := int e.core.op) (i_ tabOk rfl rfl l0_ List.not_mem_nil rfl) rfl) rfl rfl<|q_ 2 rfl<|g_<|c_<|o_ rfl ?_ ?_
  ·intro hc31
   refine d_<|a_<|q_ 1 rfl<|g_<|c_<|m_<|h_ nofun<|f_ (rs := [.tmp 2]) rfl (RV.tmp rfl RV.nil) (()) (sc_ sn_)<|congrArg int ?_
   unfold Lg.known
   split <;> simp_all
  intro hc31
  refine p_<|c_<|d_<|a_<|q_ 1 rfl<|g_<|c_<|m_<|f_ (rs := [.tmp 2]) rfl (RV.tmp rfl RV.nil) (()) (sc_ sn_)<|congrArg int ?_
  unfold Lg.known
  split <;> simp_all
 skip
 refine aU_ rfl (l_ (C := st e.core.letter) (i_ tabOk rfl rfl l0_ List.not_mem_nil (by rfl)) rfl) rfl rfl ?_
 refine aU_ rfl (l_ (C := .agg l.abs) (x_ tabOk rfl rfl rfl l0_ List.not_mem_nil (lb_ (by rfl))) rfl) rfl rfl ?_
 refine I_ rfl (kv_ (s := e.core.letter) hf) (by simp [mids, It.mids]) Casts.refl (by kernel_rfl) rfl rfl rfl ?_
 refine ap_<|fun _=>hx_ fun hx9 =>qx_ 5 hx9 rfl<|ex_ rfl (n_ (L' := dgA l e n (l.old e.core.letter)) tabOk rfl rfl rfl u0_ rfl (Nat.le_of_ble_eq_true rfl) rfl rfl) (by simp) rfl rfl ?_
 refine hx_ fun hx9 =>qx_ 1 hx9 rfl<|Q_<|c_<|d_<|a_<|q_ 1 rfl<|b_ (aj_ rfl) rfl rfl<|q_ 1 rfl<|aL_ (t := 23) rfl ?_ ?_
 rotate_left
 ·intro hc23
  refine q_ 8 rfl<|g_<|c_<|ad_ rfl<|p_<|c_<|d_<|a_<|q_ 1 rfl<|g_<|c_<|m_<|f_ (rs := [.tmp 2]) rfl (RV.tmp rfl RV.nil) (()) (sc_ sn_)<|congrArg int ?_
  unfold Lg.known
  split <;> simp_all
 intro hc23
 refine q_ 5 rfl<|b_ (l_ (C := int e.core.op) (i_ tabOk rfl rfl l0_ List.not_mem_nil rfl) rfl) rfl rfl<|q_ 2 rfl<|g_<|c_<|o_ rfl ?_ ?_
 ·intro hc31
  refine d_<|a_<|q_ 1 rfl<|g_<|c_<|m_<|h_ nofun<|f_ (rs := [.tmp 2]) rfl (RV.tmp rfl RV.nil) (()) (sc_ sn_)<|congrArg int ?_
  unfold Lg.known
  split <;> simp_all
 intro hc31
 refine p_<|c_<|d_<|a_<|q_ 1 rfl<|g_<|c_<|m_<|f_ (rs := [.tmp 2]) rfl (RV.tmp rfl RV.nil) (()) (sc_ sn_)<|congrArg int ?_
 unfold Lg.known
 split <;> simp_all
set_option maxHeartbeats 1000000 in
theorem jx_ (he : isIf es) (hr : isIf er) (hm : e.mask < 4294967296) : Spec Tryz.prog 69 [ptr d] (.blk d 112 (dgA l e n x) :: (globs es er)) (fun _ : Unit => [.blk d 112 (dgA l e n x)]) (fun _ => int (endorsedF x e n)) := by
 refine F_ Tryz.func69 rfl Tryz.ntmps69 rfl fun G w =>d_<|a_<|q_ 1 rfl<|g_<|c_<|d_<|a_<|q_ 4 rfl<|b_ (l_ (C := st x.policy) (i_ tabOk rfl rfl l0_ List.not_mem_nil rfl) rfl) rfl rfl<|q_ 1 rfl<|g_<|c_<|a1_ (ι := Unit) (fun z => (.blk d 112 (dgA l e n x) :: (globs es er))) (fun z => [(0, ptr d), (3, st (polB x e.core))]) (fun z => True) ?_ ?_
 ·skip
  refine d_<|a_<|q_ 5 rfl<|b_ (l_ (C := int e.core.op) (i_ tabOk rfl rfl l0_ List.not_mem_nil rfl) rfl) rfl rfl<|q_ 1 rfl<|g_<|c_<|o_ rfl ?_ ?_
  rotate_left
  ·intro hc17
   refine p_<|ab_ (()) (trivial) (by exact ⟨rfl, congrArg (fun s => some (st s)) (show x.policy = (polB x e.core) from (if_neg hc17).symm), trivial⟩) sr_
  intro hc17
  refine a_<|q_ 5 rfl<|b_ (l_ (C := st e.core.text) (i_ tabOk rfl rfl l0_ List.not_mem_nil rfl) rfl) rfl rfl<|q_ 1 rfl<|g_<|ab_ (()) (trivial) (by exact ⟨rfl, congrArg (fun s => some (st s)) (show e.core.text = (polB x e.core) from (if_pos hc17).symm), trivial⟩) sr_
 intro z hz
 refine d_<|a_<|q_ 4 rfl<|b_ (l_ (C := int n) (i_ tabOk rfl rfl l0_ List.not_mem_nil rfl) rfl) rfl rfl<|s_ (parse_s (l := tx (polB x e.core)) (n := n) he hr) (Casts.of_eq (by rw [st_tx])) (by kernel_rfl) rfl rfl rfl ?_
 refine ap_<|fun _=>q_ 3 rfl<|eb_ (H_ tabOk rfl) rfl rfl fun b4=>?_
 refine e_ (n_ (L' := (parseF (tx (polB x e.core)) n).1.abs) tabOk rfl rfl rfl u0_ (by exact Frm.abs_len _) (Nat.le_of_ble_eq_true rfl) (by exact Frm.abs_ones _) (t_ (by exact Frm.abs_len _))) rfl rfl ?_
 refine q_ 1 rfl<|g_<|c_<|d_<|y_<|d_<|a_<|q_ 3 rfl<|g_<|c_<|o_ rfl ?_ ?_
 ·intro hc33
  refine d_<|a_<|q_ 1 rfl<|g_<|c_<|m_<|E_<|h_ nofun<|f_ (rs := [.tmp 2]) rfl (RV.tmp rfl RV.nil) (()) (sk_ (sc_ sn_)) ?_
  (refine congrArg int ?_; unfold endorsedF; rw [if_pos hc33])
 intro hc33
 have hpz : (parseF (tx (polB x e.core)) n).2 = 0 := Classical.byContradiction hc33
 have hck := gE_ hpz
 refine d_<|aa_ [] (.q 0 (.q 1 (.q 2 (.q 3 (.q 4 (.q 5 (.q 6 (.q 7 (.q 8 (.q 9 (.e 10 (.q 11 (.q 12 .nil))))))))))))) (by kernel_rfl) (by kernel_rfl) ?_
 refine hx_ fun hx9 =>r_ rfl (U_ tabOk rfl rfl rfl l0_ List.not_mem_nil (Frm.abs_len _)) hx9 rfl rfl<|qs_ 4 rfl<|r_ rfl (l_ (C := .v (.int .u32 (e.mask : Nat))) (i_ tabOk rfl rfl l1_ List.not_mem_nil rfl) rfl) hx9 rfl rfl<|qs_ 3 rfl<|r_ rfl (l_ (C := int n) (i_ tabOk rfl rfl l1_ List.not_mem_nil rfl) rfl) hx9 rfl rfl<|I_ rfl (enough_s (f := (parseF (tx (polB x e.core)) n).1) (s := BitVec.ofNat 32 e.mask) (n := n) (by have h9 := (Frm.check_ok.1 hck).2.1; omega)) (by simp [mids, It.mids]) (Casts.of_eq (by rw [iw_ hm])) (by kernel_rfl) rfl rfl rfl ?_
 refine ap_<|fun _=>r_ rfl (aj_ rfl) (by simp) rfl rfl ?_
 refine qs_ 1 rfl<|Q_<|c_<|X_ rfl ?_ ?_
 ·intro hc36
  refine d_<|a_<|q_ 1 rfl<|g_<|c_<|m_<|E_<|h_ nofun<|f_ (rs := [.tmp 2]) rfl (RV.tmp rfl RV.nil) (()) (sk_ (sc_ sn_)) ?_
  (refine congrArg int ?_; unfold endorsedF; rw [if_neg hc33, if_pos (by rw [hck] at hc36; simpa using hc36)])
 intro hc36
 refine p_<|u_<|c_<|d_<|a_<|q_ 1 rfl<|g_<|c_<|m_<|f_ (rs := [.tmp 2]) rfl (RV.tmp rfl RV.nil) (()) (sk_ (sc_ sn_)) ?_
 (refine congrArg int ?_; unfold endorsedF; rw [if_neg hc33, if_neg (by rw [hck] at hc36; simpa using hc36)])
set_option maxHeartbeats 1000000 in
theorem jQ_ (hf : l.Few) (hl : l.Wf) (hx : x.Wf) (ha : i64ok e.core.a) (ht : e.core.text.size ≤ 9223372036854775807) : Spec Tryz.prog 70 [ptr d] (.blk d 112 (dgA l e n x) :: (globs es er)) (fun _ : Unit => [.blk d 112 (dgA (l.stepped x e.core).1 e n x)]) (fun _ => int (l.stepped x e.core).2) := by
 have hsw := fM_ (op := e.core.op) (a := e.core.a) (b := e.core.b) (t := e.core.text) hx
 refine F_ Tryz.func70 rfl Tryz.ntmps70 rfl fun G w =>d_<|a_<|q_ 1 rfl<|g_<|c_<|d_<|a_<|q_ 4 rfl<|b_ (l_ (C := coreA e.core) (x_ tabOk rfl rfl rfl l0_ List.not_mem_nil (Nat.le_of_ble_eq_true rfl)) rfl) rfl rfl<|eb_ (H_ tabOk rfl) rfl rfl fun b3=>?_
 refine e_ (n_ (L' := e.core.cells.map .v) tabOk rfl rfl rfl u0_ rfl (Nat.le_of_ble_eq_true rfl) rfl (by exact t_ rfl)) rfl rfl ?_
 refine g_<|c_<|d_<|aa_ [] (.q 0 (.q 1 (.q 2 (.q 3 (.q 4 (.q 5 (.q 6 (.q 7 (.q 8 (.q 9 (.q 10 (.q 11 (.two 12 16 (.q 13 (.q 14 (.q 15 (.e 16 (.e 17 (.q 18 .nil)))))) (.e 12 (.q 13 (.q 14 (.q 15 (.e 17 (.q 18 .nil))))))))))))))))))) (by kernel_rfl) (by kernel_rfl) ?_
 refine qs_ 3 rfl<|hx_ fun hx9 =>r_ rfl (l_ (C := .agg (ltrA x)) (x_ tabOk rfl rfl rfl l1_ List.not_mem_nil (Nat.le_of_ble_eq_true rfl)) rfl) hx9 rfl rfl<|qs_ 1 rfl<|r_ rfl (l_ (C := int e.core.op) (i_ tabOk rfl rfl l0_ List.not_mem_nil rfl) rfl) hx9 rfl rfl<|qs_ 1 rfl<|r_ rfl (l_ (C := int e.core.a) (i_ tabOk rfl rfl l0_ List.not_mem_nil rfl) rfl) hx9 rfl rfl<|qs_ 1 rfl<|r_ rfl (l_ (C := int e.core.b) (i_ tabOk rfl rfl l0_ List.not_mem_nil rfl) rfl) hx9 rfl rfl<|qs_ 1 rfl<|r_ rfl (l_ (C := st e.core.text) (i_ tabOk rfl rfl l0_ List.not_mem_nil rfl) rfl) hx9 rfl rfl<|aR_ ?_ ?_
 ·skip
  refine I_ rfl (step_s (x := x) (op := e.core.op) (a := e.core.a) (b := e.core.b) (t := e.core.text) hx ha ht) (by simp [mids, It.mids]) Casts.refl (by kernel_rfl) rfl rfl rfl ?_
  refine ap_<|fun _=>qs_ 3 rfl<|aM_ tabOk rfl rfl rfl rfl fun b4 =>ex_ rfl (n_ (L' := ltrA (x.step e.core.op e.core.a e.core.b e.core.text).1) tabOk rfl rfl rfl u0_ rfl (Nat.le_of_ble_eq_true rfl) rfl (by exact t_ rfl)) (by simp) rfl rfl ?_
  refine hx_ fun hx9 =>qx_ 1 hx9 rfl<|Q_<|c_<|d_<|d_<|a_<|q_ 2 rfl<|g_<|c_<|o_ rfl ?_ ?_
  ·intro hc29
   refine d_<|a_<|q_ 2 rfl<|g_<|c_<|m_<|h_ nofun ?_
   have hst := en_ (l := l) hc29
   refine f_ (rs := [.tmp 2]) rfl (RV.tmp rfl RV.nil) (()) (by rw [hst]; repeat (first | exact List.nil_sublist _ | exact List.Sublist.refl _ | apply List.Sublist.cons_cons | apply List.Sublist.cons)) ?_
   rw [hst]; rfl
  intro hc29
  refine p_<|c_<|d_<|a_<|q_ 1 rfl<|b_ (l_ (C := st e.core.letter) (i_ tabOk rfl rfl l1_ List.not_mem_nil rfl) rfl) rfl rfl<|q_ 1 rfl<|e_ (n_ (L' := ltrA (nextL x e.core)) tabOk rfl rfl rfl u0_ rfl (Nat.le_of_ble_eq_true rfl) rfl rfl) rfl rfl<|g_<|c_<|d_<|aa_ [] (.q 0 (.q 1 (.q 2 (.q 3 (.q 4 (.two 5 9 (.q 6 (.q 7 (.q 8 (.e 9 (.e 10 (.q 11 .nil)))))) (.e 5 (.q 6 (.q 7 (.q 8 (.e 10 (.q 11 .nil)))))))))))) (by kernel_rfl) (by kernel_rfl) ?_
  refine qs_ 3 rfl<|hx_ fun hx9 =>r_ rfl (l_ (C := .agg l.abs) (x_ tabOk rfl rfl rfl l2_ List.not_mem_nil (Nat.le_of_ble_eq_true rfl)) rfl) hx9 rfl rfl<|r_ rfl (l_ (C := .agg (ltrA (nextL x e.core))) (x_ tabOk rfl rfl rfl l0_ List.not_mem_nil (Nat.le_of_ble_eq_true rfl)) rfl) hx9 rfl rfl<|aR_ ?_ ?_
  ·skip
   refine I_ rfl (fZ_ (x := (nextL x e.core)) hf) (by simp [mids, It.mids]) Casts.refl (by kernel_rfl) rfl rfl rfl ?_
   refine ap_<|fun _=>qs_ 3 rfl<|aM_ tabOk rfl rfl rfl rfl fun b6 =>ex_ rfl (n_ (L' := (l.with_ (nextL x e.core)).1.abs) tabOk rfl rfl rfl u0_ rfl (Nat.le_of_ble_eq_true rfl) rfl (by exact t_ rfl)) (by simp) rfl rfl ?_
   refine hx_ fun hx9 =>qx_ 1 hx9 rfl<|Q_<|c_<|d_<|d_<|a_<|q_ 2 rfl<|g_<|c_<|o_ rfl ?_ ?_
   ·intro hc44
    refine d_<|a_<|q_ 2 rfl<|g_<|c_<|m_<|h_ nofun ?_
    have hst := cq_ (l := l) hc29 hc44
    refine f_ (rs := [.tmp 2]) rfl (RV.tmp rfl RV.nil) (()) (by rw [hst]; repeat (first | exact List.nil_sublist _ | exact List.Sublist.refl _ | apply List.Sublist.cons_cons | apply List.Sublist.cons)) ?_
    rw [hst]; rfl
   intro hc44
   refine p_<|c_<|d_<|d_<|a_<|q_ 1 rfl<|b_ (l_ (C := int e.core.op) (i_ tabOk rfl rfl l2_ List.not_mem_nil rfl) rfl) rfl rfl<|q_ 1 rfl<|g_<|c_<|o_ rfl ?_ ?_
   rotate_left
   ·intro hc48
    refine p_<|c_<|d_<|a_<|q_ 1 rfl<|b_ (l_ (C := .agg (Lg.abs (l.with_ (nextL x e.core)).1)) (x_ tabOk rfl rfl rfl l0_ List.not_mem_nil (Nat.le_of_ble_eq_true rfl)) rfl) rfl rfl<|q_ 2 rfl<|e_ (n_ (L' := dgA (l.with_ (nextL x e.core)).1 e n x) tabOk rfl rfl rfl u3_ rfl (Nat.le_of_ble_eq_true rfl) rfl rfl) rfl rfl<|g_<|c_<|d_<|a_<|q_ 1 rfl<|g_<|c_<|m_ ?_
    have hst := cp_ (l := l) hc29 hc44 hc48
    refine f_ (rs := [.tmp 2]) rfl (RV.tmp rfl RV.nil) (()) (by rw [hst]; repeat (first | exact List.nil_sublist _ | exact List.Sublist.refl _ | apply List.Sublist.cons_cons | apply List.Sublist.cons)) ?_
    rw [hst]; rfl
   intro hc48
   refine d_<|a_<|q_ 1 rfl<|b_ (l_ (C := int l.total) (i_ tabOk rfl rfl l0_ List.not_mem_nil rfl) (congrArg int (cG_ hc44))) rfl rfl<|q_ 1 rfl<|b_ (l_ (C := int (nextL x e.core).amount) (i_ tabOk rfl rfl l1_ List.not_mem_nil rfl) rfl) rfl rfl<|s_ (ix_ (a := l.total) (b := (nextL x e.core).amount) hl.total hsw.amount) Casts.refl (by kernel_rfl) rfl rfl rfl ?_
   refine ap_<|fun _=>q_ 4 rfl<|e_ (n_ (L' := Lg.abs { (l.with_ (nextL x e.core)).1 with total := (amtAdd l.total (nextL x e.core).amount).1 }) tabOk rfl rfl rfl u0_ rfl (Nat.le_of_ble_eq_true rfl) rfl rfl) rfl rfl<|q_ 1 rfl<|g_<|c_<|d_<|a_<|q_ 2 rfl<|g_<|c_<|o_ rfl ?_ ?_
   ·intro hc59
    refine d_<|a_<|q_ 1 rfl<|g_<|c_<|m_<|h_ nofun ?_
    have hst := co_ (l := l) hc29 hc44 hc48 hc59
    refine f_ (rs := [.tmp 2]) rfl (RV.tmp rfl RV.nil) (()) (by rw [hst]; repeat (first | exact List.nil_sublist _ | exact List.Sublist.refl _ | apply List.Sublist.cons_cons | apply List.Sublist.cons)) ?_
    rw [hst]; rfl
   intro hc59
   refine p_<|c_<|d_<|a_<|q_ 1 rfl<|b_ (l_ (C := .agg (Lg.abs { (l.with_ (nextL x e.core)).1 with total := (amtAdd l.total (nextL x e.core).amount).1 })) (x_ tabOk rfl rfl rfl l0_ List.not_mem_nil (Nat.le_of_ble_eq_true rfl)) rfl) rfl rfl<|q_ 2 rfl<|e_ (n_ (L' := dgA { (l.with_ (nextL x e.core)).1 with total := (amtAdd l.total (nextL x e.core).amount).1 } e n x) tabOk rfl rfl rfl u3_ rfl (Nat.le_of_ble_eq_true rfl) rfl rfl) rfl rfl<|g_<|c_<|d_<|a_<|q_ 1 rfl<|g_<|c_<|m_ ?_
   have hst := cn_ (l := l) hc29 hc44 hc48 hc59
   refine f_ (rs := [.tmp 2]) rfl (RV.tmp rfl RV.nil) (()) (by rw [hst]; repeat (first | exact List.nil_sublist _ | exact List.Sublist.refl _ | apply List.Sublist.cons_cons | apply List.Sublist.cons)) ?_
   rw [hst]; rfl
  skip
  refine aM_ tabOk rfl rfl rfl rfl fun b6 =>I_ rfl (fZ_ (x := (nextL x e.core)) hf) (by simp [mids, It.mids]) Casts.refl (by kernel_rfl) rfl rfl rfl ?_
  refine ap_<|fun _=>hx_ fun hx9 =>qx_ 3 hx9 rfl<|ex_ rfl (n_ (L' := (l.with_ (nextL x e.core)).1.abs) tabOk rfl rfl rfl u0_ rfl (Nat.le_of_ble_eq_true rfl) rfl (by exact t_ rfl)) (by simp) rfl rfl ?_
  refine hx_ fun hx9 =>qx_ 1 hx9 rfl<|Q_<|c_<|d_<|d_<|a_<|q_ 2 rfl<|g_<|c_<|o_ rfl ?_ ?_
  ·intro hc44
   refine d_<|a_<|q_ 2 rfl<|g_<|c_<|m_<|h_ nofun ?_
   have hst := cq_ (l := l) hc29 hc44
   refine f_ (rs := [.tmp 2]) rfl (RV.tmp rfl RV.nil) (()) (by rw [hst]; repeat (first | exact List.nil_sublist _ | exact List.Sublist.refl _ | apply List.Sublist.cons_cons | apply List.Sublist.cons)) ?_
   rw [hst]; rfl
  intro hc44
  refine p_<|c_<|d_<|d_<|a_<|q_ 1 rfl<|b_ (l_ (C := int e.core.op) (i_ tabOk rfl rfl l2_ List.not_mem_nil rfl) rfl) rfl rfl<|q_ 1 rfl<|g_<|c_<|o_ rfl ?_ ?_
  rotate_left
  ·intro hc48
   refine p_<|c_<|d_<|a_<|q_ 1 rfl<|b_ (l_ (C := .agg (Lg.abs (l.with_ (nextL x e.core)).1)) (x_ tabOk rfl rfl rfl l0_ List.not_mem_nil (Nat.le_of_ble_eq_true rfl)) rfl) rfl rfl<|q_ 2 rfl<|e_ (n_ (L' := dgA (l.with_ (nextL x e.core)).1 e n x) tabOk rfl rfl rfl u3_ rfl (Nat.le_of_ble_eq_true rfl) rfl rfl) rfl rfl<|g_<|c_<|d_<|a_<|q_ 1 rfl<|g_<|c_<|m_ ?_
   have hst := cp_ (l := l) hc29 hc44 hc48
   refine f_ (rs := [.tmp 2]) rfl (RV.tmp rfl RV.nil) (()) (by rw [hst]; repeat (first | exact List.nil_sublist _ | exact List.Sublist.refl _ | apply List.Sublist.cons_cons | apply List.Sublist.cons)) ?_
   rw [hst]; rfl
  intro hc48
  refine d_<|a_<|q_ 1 rfl<|b_ (l_ (C := int l.total) (i_ tabOk rfl rfl l0_ List.not_mem_nil rfl) (congrArg int (cG_ hc44))) rfl rfl<|q_ 1 rfl<|b_ (l_ (C := int (nextL x e.core).amount) (i_ tabOk rfl rfl l1_ List.not_mem_nil rfl) rfl) rfl rfl<|s_ (ix_ (a := l.total) (b := (nextL x e.core).amount) hl.total hsw.amount) Casts.refl (by kernel_rfl) rfl rfl rfl ?_
  refine ap_<|fun _=>q_ 4 rfl<|e_ (n_ (L' := Lg.abs { (l.with_ (nextL x e.core)).1 with total := (amtAdd l.total (nextL x e.core).amount).1 }) tabOk rfl rfl rfl u0_ rfl (Nat.le_of_ble_eq_true rfl) rfl rfl) rfl rfl<|q_ 1 rfl<|g_<|c_<|d_<|a_<|q_ 2 rfl<|g_<|c_<|o_ rfl ?_ ?_
  ·intro hc59
   refine d_<|a_<|q_ 1 rfl<|g_<|c_<|m_<|h_ nofun ?_
   have hst := co_ (l := l) hc29 hc44 hc48 hc59
   refine f_ (rs := [.tmp 2]) rfl (RV.tmp rfl RV.nil) (()) (by rw [hst]; repeat (first | exact List.nil_sublist _ | exact List.Sublist.refl _ | apply List.Sublist.cons_cons | apply List.Sublist.cons)) ?_
   rw [hst]; rfl
  intro hc59
  refine p_<|c_<|d_<|a_<|q_ 1 rfl<|b_ (l_ (C := .agg (Lg.abs { (l.with_ (nextL x e.core)).1 with total := (amtAdd l.total (nextL x e.core).amount).1 })) (x_ tabOk rfl rfl rfl l0_ List.not_mem_nil (Nat.le_of_ble_eq_true rfl)) rfl) rfl rfl<|q_ 2 rfl<|e_ (n_ (L' := dgA { (l.with_ (nextL x e.core)).1 with total := (amtAdd l.total (nextL x e.core).amount).1 } e n x) tabOk rfl rfl rfl u3_ rfl (Nat.le_of_ble_eq_true rfl) rfl rfl) rfl rfl<|g_<|c_<|d_<|a_<|q_ 1 rfl<|g_<|c_<|m_ ?_
  have hst := cn_ (l := l) hc29 hc44 hc48 hc59
  refine f_ (rs := [.tmp 2]) rfl (RV.tmp rfl RV.nil) (()) (by rw [hst]; repeat (first | exact List.nil_sublist _ | exact List.Sublist.refl _ | apply List.Sublist.cons_cons | apply List.Sublist.cons)) ?_
  rw [hst]; rfl
 skip
 refine aM_ tabOk rfl rfl rfl rfl fun b4 =>I_ rfl (step_s (x := x) (op := e.core.op) (a := e.core.a) (b := e.core.b) (t := e.core.text) hx ha ht) (by simp [mids, It.mids]) Casts.refl (by kernel_rfl) rfl rfl rfl ?_
 refine ap_<|fun _=>hx_ fun hx9 =>qx_ 3 hx9 rfl<|ex_ rfl (n_ (L' := ltrA (x.step e.core.op e.core.a e.core.b e.core.text).1) tabOk rfl rfl rfl u0_ rfl (Nat.le_of_ble_eq_true rfl) rfl (by exact t_ rfl)) (by simp) rfl rfl ?_
 refine hx_ fun hx9 =>qx_ 1 hx9 rfl<|Q_<|c_<|d_<|d_<|a_<|q_ 2 rfl<|g_<|c_<|o_ rfl ?_ ?_
 ·intro hc29
  refine d_<|a_<|q_ 2 rfl<|g_<|c_<|m_<|h_ nofun ?_
  have hst := en_ (l := l) hc29
  refine f_ (rs := [.tmp 2]) rfl (RV.tmp rfl RV.nil) (()) (by rw [hst]; repeat (first | exact List.nil_sublist _ | exact List.Sublist.refl _ | apply List.Sublist.cons_cons | apply List.Sublist.cons)) ?_
  rw [hst]; rfl
 intro hc29
 refine p_<|c_<|d_<|a_<|q_ 1 rfl<|b_ (l_ (C := st e.core.letter) (i_ tabOk rfl rfl l1_ List.not_mem_nil rfl) rfl) rfl rfl<|q_ 1 rfl<|e_ (n_ (L' := ltrA (nextL x e.core)) tabOk rfl rfl rfl u0_ rfl (Nat.le_of_ble_eq_true rfl) rfl rfl) rfl rfl<|g_<|c_<|d_<|aa_ [] (.q 0 (.q 1 (.q 2 (.q 3 (.q 4 (.two 5 9 (.q 6 (.q 7 (.q 8 (.e 9 (.e 10 (.q 11 .nil)))))) (.e 5 (.q 6 (.q 7 (.q 8 (.e 10 (.q 11 .nil)))))))))))) (by kernel_rfl) (by kernel_rfl) ?_
 refine qs_ 3 rfl<|hx_ fun hx9 =>r_ rfl (l_ (C := .agg l.abs) (x_ tabOk rfl rfl rfl l2_ List.not_mem_nil (Nat.le_of_ble_eq_true rfl)) rfl) hx9 rfl rfl<|r_ rfl (l_ (C := .agg (ltrA (nextL x e.core))) (x_ tabOk rfl rfl rfl l0_ List.not_mem_nil (Nat.le_of_ble_eq_true rfl)) rfl) hx9 rfl rfl<|aR_ ?_ ?_
 ·skip
  refine I_ rfl (fZ_ (x := (nextL x e.core)) hf) (by simp [mids, It.mids]) Casts.refl (by kernel_rfl) rfl rfl rfl ?_
  refine ap_<|fun _=>qs_ 3 rfl<|aM_ tabOk rfl rfl rfl rfl fun b6 =>ex_ rfl (n_ (L' := (l.with_ (nextL x e.core)).1.abs) tabOk rfl rfl rfl u0_ rfl (Nat.le_of_ble_eq_true rfl) rfl (by exact t_ rfl)) (by simp) rfl rfl ?_
  refine hx_ fun hx9 =>qx_ 1 hx9 rfl<|Q_<|c_<|d_<|d_<|a_<|q_ 2 rfl<|g_<|c_<|o_ rfl ?_ ?_
  ·intro hc44
   refine d_<|a_<|q_ 2 rfl<|g_<|c_<|m_<|h_ nofun ?_
   have hst := cq_ (l := l) hc29 hc44
   refine f_ (rs := [.tmp 2]) rfl (RV.tmp rfl RV.nil) (()) (by rw [hst]; repeat (first | exact List.nil_sublist _ | exact List.Sublist.refl _ | apply List.Sublist.cons_cons | apply List.Sublist.cons)) ?_
   rw [hst]; rfl
  intro hc44
  refine p_<|c_<|d_<|d_<|a_<|q_ 1 rfl<|b_ (l_ (C := int e.core.op) (i_ tabOk rfl rfl l2_ List.not_mem_nil rfl) rfl) rfl rfl<|q_ 1 rfl<|g_<|c_<|o_ rfl ?_ ?_
  rotate_left
  ·intro hc48
   refine p_<|c_<|d_<|a_<|q_ 1 rfl<|b_ (l_ (C := .agg (Lg.abs (l.with_ (nextL x e.core)).1)) (x_ tabOk rfl rfl rfl l0_ List.not_mem_nil (Nat.le_of_ble_eq_true rfl)) rfl) rfl rfl<|q_ 2 rfl<|e_ (n_ (L' := dgA (l.with_ (nextL x e.core)).1 e n x) tabOk rfl rfl rfl u3_ rfl (Nat.le_of_ble_eq_true rfl) rfl rfl) rfl rfl<|g_<|c_<|d_<|a_<|q_ 1 rfl<|g_<|c_<|m_ ?_
   have hst := cp_ (l := l) hc29 hc44 hc48
   refine f_ (rs := [.tmp 2]) rfl (RV.tmp rfl RV.nil) (()) (by rw [hst]; repeat (first | exact List.nil_sublist _ | exact List.Sublist.refl _ | apply List.Sublist.cons_cons | apply List.Sublist.cons)) ?_
   rw [hst]; rfl
  intro hc48
  refine d_<|a_<|q_ 1 rfl<|b_ (l_ (C := int l.total) (i_ tabOk rfl rfl l0_ List.not_mem_nil rfl) (congrArg int (cG_ hc44))) rfl rfl<|q_ 1 rfl<|b_ (l_ (C := int (nextL x e.core).amount) (i_ tabOk rfl rfl l1_ List.not_mem_nil rfl) rfl) rfl rfl<|s_ (ix_ (a := l.total) (b := (nextL x e.core).amount) hl.total hsw.amount) Casts.refl (by kernel_rfl) rfl rfl rfl ?_
  refine ap_<|fun _=>q_ 4 rfl<|e_ (n_ (L' := Lg.abs { (l.with_ (nextL x e.core)).1 with total := (amtAdd l.total (nextL x e.core).amount).1 }) tabOk rfl rfl rfl u0_ rfl (Nat.le_of_ble_eq_true rfl) rfl rfl) rfl rfl<|q_ 1 rfl<|g_<|c_<|d_<|a_<|q_ 2 rfl<|g_<|c_<|o_ rfl ?_ ?_
  ·intro hc59
   refine d_<|a_<|q_ 1 rfl<|g_<|c_<|m_<|h_ nofun ?_
   have hst := co_ (l := l) hc29 hc44 hc48 hc59
   refine f_ (rs := [.tmp 2]) rfl (RV.tmp rfl RV.nil) (()) (by rw [hst]; repeat (first | exact List.nil_sublist _ | exact List.Sublist.refl _ | apply List.Sublist.cons_cons | apply List.Sublist.cons)) ?_
   rw [hst]; rfl
  intro hc59
  refine p_<|c_<|d_<|a_<|q_ 1 rfl<|b_ (l_ (C := .agg (Lg.abs { (l.with_ (nextL x e.core)).1 with total := (amtAdd l.total (nextL x e.core).amount).1 })) (x_ tabOk rfl rfl rfl l0_ List.not_mem_nil (Nat.le_of_ble_eq_true rfl)) rfl) rfl rfl<|q_ 2 rfl<|e_ (n_ (L' := dgA { (l.with_ (nextL x e.core)).1 with total := (amtAdd l.total (nextL x e.core).amount).1 } e n x) tabOk rfl rfl rfl u3_ rfl (Nat.le_of_ble_eq_true rfl) rfl rfl) rfl rfl<|g_<|c_<|d_<|a_<|q_ 1 rfl<|g_<|c_<|m_ ?_
  have hst := cn_ (l := l) hc29 hc44 hc48 hc59
  refine f_ (rs := [.tmp 2]) rfl (RV.tmp rfl RV.nil) (()) (by rw [hst]; repeat (first | exact List.nil_sublist _ | exact List.Sublist.refl _ | apply List.Sublist.cons_cons | apply List.Sublist.cons)) ?_
  rw [hst]; rfl
 skip
 refine aM_ tabOk rfl rfl rfl rfl fun b6 =>I_ rfl (fZ_ (x := (nextL x e.core)) hf) (by simp [mids, It.mids]) Casts.refl (by kernel_rfl) rfl rfl rfl ?_
 refine ap_<|fun _=>hx_ fun hx9 =>qx_ 3 hx9 rfl<|ex_ rfl (n_ (L' := (l.with_ (nextL x e.core)).1.abs) tabOk rfl rfl rfl u0_ rfl (Nat.le_of_ble_eq_true rfl) rfl (by exact t_ rfl)) (by simp) rfl rfl ?_
 refine hx_ fun hx9 =>qx_ 1 hx9 rfl<|Q_<|c_<|d_<|d_<|a_<|q_ 2 rfl<|g_<|c_<|o_ rfl ?_ ?_
 ·intro hc44
  refine d_<|a_<|q_ 2 rfl<|g_<|c_<|m_<|h_ nofun ?_
  have hst := cq_ (l := l) hc29 hc44
  refine f_ (rs := [.tmp 2]) rfl (RV.tmp rfl RV.nil) (()) (by rw [hst]; repeat (first | exact List.nil_sublist _ | exact List.Sublist.refl _ | apply List.Sublist.cons_cons | apply List.Sublist.cons)) ?_
  rw [hst]; rfl
 intro hc44
 refine p_<|c_<|d_<|d_<|a_<|q_ 1 rfl<|b_ (l_ (C := int e.core.op) (i_ tabOk rfl rfl l2_ List.not_mem_nil rfl) rfl) rfl rfl<|q_ 1 rfl<|g_<|c_<|o_ rfl ?_ ?_
 rotate_left
 ·intro hc48
  refine p_<|c_<|d_<|a_<|q_ 1 rfl<|b_ (l_ (C := .agg (Lg.abs (l.with_ (nextL x e.core)).1)) (x_ tabOk rfl rfl rfl l0_ List.not_mem_nil (Nat.le_of_ble_eq_true rfl)) rfl) rfl rfl<|q_ 2 rfl<|e_ (n_ (L' := dgA (l.with_ (nextL x e.core)).1 e n x) tabOk rfl rfl rfl u3_ rfl (Nat.le_of_ble_eq_true rfl) rfl rfl) rfl rfl<|g_<|c_<|d_<|a_<|q_ 1 rfl<|g_<|c_<|m_ ?_
  have hst := cp_ (l := l) hc29 hc44 hc48
  refine f_ (rs := [.tmp 2]) rfl (RV.tmp rfl RV.nil) (()) (by rw [hst]; repeat (first | exact List.nil_sublist _ | exact List.Sublist.refl _ | apply List.Sublist.cons_cons | apply List.Sublist.cons)) ?_
  rw [hst]; rfl
 intro hc48
 refine d_<|a_<|q_ 1 rfl<|b_ (l_ (C := int l.total) (i_ tabOk rfl rfl l0_ List.not_mem_nil rfl) (congrArg int (cG_ hc44))) rfl rfl<|q_ 1 rfl<|b_ (l_ (C := int (nextL x e.core).amount) (i_ tabOk rfl rfl l1_ List.not_mem_nil rfl) rfl) rfl rfl<|s_ (ix_ (a := l.total) (b := (nextL x e.core).amount) hl.total hsw.amount) Casts.refl (by kernel_rfl) rfl rfl rfl ?_
 refine ap_<|fun _=>q_ 4 rfl<|e_ (n_ (L' := Lg.abs { (l.with_ (nextL x e.core)).1 with total := (amtAdd l.total (nextL x e.core).amount).1 }) tabOk rfl rfl rfl u0_ rfl (Nat.le_of_ble_eq_true rfl) rfl rfl) rfl rfl<|q_ 1 rfl<|g_<|c_<|d_<|a_<|q_ 2 rfl<|g_<|c_<|o_ rfl ?_ ?_
 ·intro hc59
  refine d_<|a_<|q_ 1 rfl<|g_<|c_<|m_<|h_ nofun ?_
  have hst := co_ (l := l) hc29 hc44 hc48 hc59
  refine f_ (rs := [.tmp 2]) rfl (RV.tmp rfl RV.nil) (()) (by rw [hst]; repeat (first | exact List.nil_sublist _ | exact List.Sublist.refl _ | apply List.Sublist.cons_cons | apply List.Sublist.cons)) ?_
  rw [hst]; rfl
 intro hc59
 refine p_<|c_<|d_<|a_<|q_ 1 rfl<|b_ (l_ (C := .agg (Lg.abs { (l.with_ (nextL x e.core)).1 with total := (amtAdd l.total (nextL x e.core).amount).1 })) (x_ tabOk rfl rfl rfl l0_ List.not_mem_nil (Nat.le_of_ble_eq_true rfl)) rfl) rfl rfl<|q_ 2 rfl<|e_ (n_ (L' := dgA { (l.with_ (nextL x e.core)).1 with total := (amtAdd l.total (nextL x e.core).amount).1 } e n x) tabOk rfl rfl rfl u3_ rfl (Nat.le_of_ble_eq_true rfl) rfl rfl) rfl rfl<|g_<|c_<|d_<|a_<|q_ 1 rfl<|g_<|c_<|m_ ?_
 have hst := cn_ (l := l) hc29 hc44 hc48 hc59
 refine f_ (rs := [.tmp 2]) rfl (RV.tmp rfl RV.nil) (()) (by rw [hst]; repeat (first | exact List.nil_sublist _ | exact List.Sublist.refl _ | apply List.Sublist.cons_cons | apply List.Sublist.cons)) ?_
 rw [hst]; rfl
end
def fnAt : Nat → Nat
  | 0 => 68
  | 1 => 69
  | _ => 70
theorem fn_goes (z : Nat) : goesIn Tryz.prog (fnAt z) = true := by
  rcases z with _ | _ | z
  · kernel_rfl
  · kernel_rfl
  · kernel_rfl
abbrev fnRow (d : Nat) : List (List Abs) := [[.fn (.func 68) [ptr d] []], [.fn (.func 69) [ptr d] []], [.fn (.func 70) [ptr d] []]]
theorem fn_row {d z : Nat} (hz : z < 3) : (fnRow d)[z]? = some [.fn (.func (fnAt z)) [ptr d] []] := by
  rcases (by omega : z = 0 ∨ z = 1 ∨ z = 2) with rfl | rfl | rfl <;> rfl
theorem Lg.Few.more {l l2 : Lg} (h : l.ls.length ≤ 900 ∧ l.os.length ≤ 900) (h1 : l2.ls.length ≤ l.ls.length + 1) (h2 : l2.os = l.os) : l2.Few := ⟨by omega, by rw [h2]; omega⟩
section
variable {l : Lg} {x : Ltr} {n : Int} {e : Ent} {d : Nat} {es er : Value}
theorem dstep_s (he : isIf es) (hr : isIf er) (hm : e.mask < 4294967296) (hf : l.Few) (hl : l.Wf) (ha : i64ok e.core.a) (ht : e.core.text.size ≤ 9223372036854775807) {z : Nat} (hz : z < 3) :
    Spec Tryz.prog (fnAt z) [ptr d] (.blk d 112 (dgA (lgAt l e z) e n (oldAt l e z)) :: (globs es er)) (fun _ : Unit => [.blk d 112 (dgA (lgAt l e (z + 1)) e n (oldAt l e (z + 1)))]) (fun _ => int (erAt l e n z)) := by
  rcases (by omega : z = 0 ∨ z = 1 ∨ z = 2) with rfl | rfl | rfl
  · exact known_s hf
  · exact jx_ he hr hm
  · exact jQ_ hf hl (Lg.old_wf hl _) ha ht
set_option maxHeartbeats 2000000 in
theorem do_s (he : isIf es) (hr : isIf er) (hm : e.mask < 4294967296) (hq : l.ls.length ≤ 900 ∧ l.os.length ≤ 900) (hl : l.Wf) (ha : i64ok e.core.a) (ht : e.core.text.size ≤ 9223372036854775807) : Spec Tryz.prog 45 [.agg l.abs, .agg (entA e), int n] (globs es er) (fun _ : Unit => []) (fun _ => .tup [.agg (l.doF e n).1.abs, int (l.doF e n).2]) := by
 have hf : l.Few := ⟨by omega, by omega⟩
 have hrl := fQ_ (l := l) (e := e) (n := n)
 have hf2 : (l.res e n).1.Few := Lg.Few.more hq hrl.1 hrl.2
 refine F_ Tryz.func45 rfl Tryz.ntmps45 rfl fun G w =>d_<|a_<|eb_ (R_ (cs := l.abs) rfl) rfl rfl fun b3=>?_
 refine eb_ (R_ (cs := entA e) rfl) rfl rfl fun b4=>?_
 refine eb_ (H_ tabOk rfl) rfl rfl fun b6=>?_
 refine q_ 1 rfl<|g_<|c_<|d_<|iZ_ 7 [] (.q 0 (.q 1 (.q 3 (.q 4 (.e 2 (.q 6 (.e 5 .nil))))))) (.e 7 (.q 8 (.e 9 .nil))) (by kernel_rfl) (by kernel_rfl) ?_
 refine qs_ 1 rfl<|hx_ fun hx9 =>r_ rfl (l_ (C := ltrsA l.ls) (i_ tabOk rfl rfl l2_ List.not_mem_nil rfl) rfl) hx9 rfl rfl<|qs_ 1 rfl<|r_ rfl (l_ (C := .sl 3 (l.os.map Oc.abs)) (i_ tabOk rfl rfl l2_ List.not_mem_nil rfl) rfl) hx9 rfl rfl<|I_ rfl (bR_ (bP_ l.ls) (by rw [List.length_map]; omega)) (by simp [mids, It.mids]) Casts.refl (by kernel_rfl) rfl rfl rfl ?_
 refine ap_<|fun _=>qs_ 1 rfl<|I_ rfl (ca_ (ci_ l.os) (by rw [List.length_map]; omega)) (by simp [mids, It.mids]) Casts.refl (by kernel_rfl) rfl rfl rfl ?_
 refine ap_<|fun _=>Q_<|lj_ [b3]<|ex_ rfl (n_ (L' := l.abs) tabOk rfl rfl rfl u2_ rfl (Nat.le_of_ble_eq_true rfl) rfl rfl) (by simp) rfl rfl ?_
 refine hx_ fun hx9 =>qx_ 1 hx9 rfl<|ex_ rfl (n_ (L' := l.abs) tabOk rfl rfl rfl u2_ rfl (Nat.le_of_ble_eq_true rfl) rfl rfl) (by simp) rfl rfl ?_
 refine Q_<|c_<|d_<|d_<|a_<|b_ (l_ (C := .agg l.abs) (x_ tabOk rfl rfl rfl l2_ List.not_mem_nil (Nat.le_of_ble_eq_true rfl)) rfl) rfl rfl<|q_ 1 rfl<|b_ (l_ (C := coreA e.core) (x_ tabOk rfl rfl rfl l1_ List.not_mem_nil (Nat.le_of_ble_eq_true rfl)) rfl) rfl rfl<|s_ (iA_ (c := e.core) hf) Casts.refl (by kernel_rfl) rfl rfl rfl ?_
 refine ap_<|fun _=>g_<|c_<|X_ rfl ?_ ?_
 ·intro hc24
  refine d_<|a_<|b_ (l_ (C := .agg l.abs) (x_ tabOk rfl rfl rfl l2_ List.not_mem_nil (Nat.le_of_ble_eq_true rfl)) rfl) rfl rfl<|e_ (n_ (L' := l.abs) tabOk rfl rfl rfl u0_ rfl (Nat.le_of_ble_eq_true rfl) rfl (by exact t_ rfl)) rfl rfl ?_
  refine q_ 1 rfl<|g_<|c_<|m_<|h_ nofun<|f_ (rs := [.cell 6 30, .tmp 7]) rfl (RV.cell rfl (RV.cellA tabOk rfl rfl l0_ (by rfl)) (RV.tmp rfl RV.nil)) (()) sn_ ?_
  unfold Lg.doF
  rw [if_pos hc24]
  rfl
 intro hc24
 refine p_<|c_<|d_<|d_<|a_<|q_ 1 rfl<|b_ (l_ (C := coreA e.core) (x_ tabOk rfl rfl rfl l1_ List.not_mem_nil (Nat.le_of_ble_eq_true rfl)) rfl) rfl rfl<|q_ 1 rfl<|s_ (ccheck_s (c := e.core) (n := n)) Casts.refl (by kernel_rfl) rfl rfl rfl ?_
 refine ap_<|fun _=>q_ 1 rfl<|g_<|c_<|d_<|a_<|q_ 2 rfl<|g_<|c_<|o_ rfl ?_ ?_
 ·intro hc31
  refine d_<|a_<|b_ (l_ (C := .agg l.abs) (x_ tabOk rfl rfl rfl l2_ List.not_mem_nil (Nat.le_of_ble_eq_true rfl)) rfl) rfl rfl<|q_ 1 rfl<|e_ (n_ (L' := l.abs) tabOk rfl rfl rfl u0_ rfl (Nat.le_of_ble_eq_true rfl) rfl (by exact t_ rfl)) rfl rfl ?_
  refine q_ 1 rfl<|g_<|c_<|m_<|h_ nofun<|f_ (rs := [.cell 6 30, .tmp 7]) rfl (RV.cell rfl (RV.cellA tabOk rfl rfl l0_ (by rfl)) (RV.tmp rfl RV.nil)) (()) sn_ ?_
  unfold Lg.doF
  rw [if_neg (by rw [hc24]; decide), if_pos hc31]
  rfl
 intro hc31
 refine p_<|c_<|d_<|a_<|b_ (l_ (C := .agg l.abs) (x_ tabOk rfl rfl rfl l2_ List.not_mem_nil (Nat.le_of_ble_eq_true rfl)) rfl) rfl rfl<|b_ (l_ (C := .agg (entA e)) (x_ tabOk rfl rfl rfl l1_ List.not_mem_nil (Nat.le_of_ble_eq_true rfl)) rfl) rfl rfl<|q_ 1 rfl<|b_ (D_ (L := dgA l e n Ltr.none) tabOk rfl rfl rfl rfl) rfl rfl<|eb_ (R_ rfl) rfl rfl fun b38=>?_
 refine q_ 1 rfl<|g_<|c_<|d_<|a_<|q_ 1 rfl<|g_<|c_<|a1_ (ι := Ltr) (fun z => (.blk b38 112 (dgA (l.res e n).1 e n z) :: .blk b6 30 (zabs [.int .i64 0, .int .i64 0, .slice none 0 0, .slice none 0 0]) :: .blk b4 66 (entA e) :: (globs es er))) (fun z => [(4, ptr b4), (6, ptr b6), (9, ptr b38), (10, int (l.res e n).2)]) (fun z => True) ?_ ?_
 ·skip
  refine d_<|a_<|q_ 1 rfl<|b_ (aE_ rfl rfl) rfl rfl<|q_ 1 rfl<|b_ (aE_ rfl rfl) rfl rfl<|q_ 1 rfl<|b_ (aE_ rfl rfl) rfl rfl<|e_ (T_ tabOk Tryz.underlying113 rfl rfl rfl rfl rfl rfl rfl) rfl rfl<|b_ (l_ (C := int 3) (B_ rfl Tryz.underlying113 rfl) rfl) rfl rfl<|q_ 1 rfl<|g_<|c_<|y_<|ae_ (ι := Nat) (fun z => (.blk b38 112 (dgA (lgAt l e z) e n (oldAt l e z)) :: .blk b6 30 (zabs [.int .i64 0, .int .i64 0, .slice none 0 0, .slice none 0 0]) :: .blk b4 66 (entA e) :: (globs es er))) (fun z => [(4, ptr b4), (6, ptr b6), (9, ptr b38), (10, int 0), (45, .sl 1 (fnRow b38)), (46, int 3), (47, int (z : Nat))]) (fun z => z ≤ 3 ∧ ∀ j, j < z → erAt l e n j = 0) (fun z => 3 - z) (0) (⟨by omega, fun j hj => by omega⟩) (by exact ⟨rfl, rfl, rfl, rfl, rfl, rfl, rfl, trivial⟩) (sc_ (sc_ (sc_ (sk_ sr_)))) ?_
  intro z hz
  refine d_<|a_<|q_ 1 rfl<|g_<|c_<|d_<|o_ rfl ?_ ?_
  rotate_left
  ·intro hc48
   refine W_<|h_ nofun<|h_ nofun<|V_ ?_
   obtain rfl : z = 3 := by omega
   have hst := res_end (l := l) (e := e) (n := n) hz.2
   refine ab_ (oldAt l e 3) (trivial) (by exact ⟨rfl, rfl, rfl, congrArg (fun k => some (int k)) (congrArg Prod.snd hst).symm, trivial⟩) (by rw [hst]; repeat (first | exact List.nil_sublist _ | exact List.Sublist.refl _ | apply List.Sublist.cons_cons | apply List.Sublist.cons))
  intro hc48
  have hz3 : z < 3 := by omega
  refine p_<|c_<|d_<|y_<|d_<|a_<|b_ (J_ (q := z) tabOk Tryz.underlying113 rfl rfl rfl rfl (fn_row hz3) rfl rfl) rfl rfl<|b_ (aJ_ tabOk rfl rfl rfl) rfl rfl<|q_ 1 rfl<|g_<|c_<|d_<|a_<|q_ 1 rfl<|bF_ (dstep_s (l := l) (e := e) (n := n) he hr hm hf hl ha ht hz3) rfl Casts.refl (fn_goes z) rfl rfl rfl<|bb_ (ys := (globs es er)) rfl i0_ (by intro y hy; simp only [globs, List.mem_cons, List.not_mem_nil, or_false] at hy; rcases hy with rfl | rfl | rfl <;> exact ⟨by repeat first|assumption|exact m0_|apply m1_, by intro h; cases h⟩) rfl (fun _ => rfl) ?_
  intro _
  refine ⟨_, u0_, q_ 1 rfl<|g_<|c_<|d_<|a_<|q_ 2 rfl<|g_<|c_<|o_ rfl ?_ ?_⟩
  ·intro hc54
   refine W_<|dC_ rfl<|h_ nofun<|h_ nofun<|V_ ?_
   have hst := res_stop (l := l) (n := n) hz3 hz.2 hc54
   rw [kt_ hz3 hc54]
   refine ab_ (oldAt l e (z + 1)) (trivial) (by exact ⟨rfl, rfl, rfl, congrArg (fun k => some (int k)) (congrArg Prod.snd hst).symm, trivial⟩) (by rw [hst]; repeat (first | exact List.nil_sublist _ | exact List.Sublist.refl _ | apply List.Sublist.cons_cons | apply List.Sublist.cons))
  intro hc54
  refine p_<|u_<|c_<|a_<|b_ (C_ rfl rfl (by simp only [InR, lo, hi]; omega)) rfl rfl ?_
  refine q_ 1 rfl<|g_ ?_
  have her : erAt l e n z = 0 := Classical.byContradiction hc54
  refine G_ (z + 1) (by omega) (⟨by omega, fun j hj => by rcases Nat.lt_or_ge j z with h1 | h1; exact hz.2 j h1; obtain rfl : j = z := (by omega); exact her⟩) (by exact ⟨rfl, rfl, rfl, congrArg (fun k => some (int k)) her, rfl, rfl, rfl, trivial⟩) sr_
 intro z hz
 refine d_<|SC.known (p := b38 ∉ [b6] ∧ b4 ∉ [b6]) (fun _ _ h => by
   have h1 := h.mem.nodup
   simp [mids, It.mids] at h1 ⊢
   grind) fun hX => ?_
 refine aa_ [b6] (.q 0 (.q 1 (.q 2 (.q 3 (.q 4 (.q 5 (.q 6 (.q 7 (.q 8 (.q 9 (.q 10 (.q 11 (.q 13 (.e 12 (.e 14 (.q 15 .nil)))))))))))))))) (by kernel_rfl) (by kernel_rfl) ?_
 refine hx_ fun hx9 =>qx_ 3 hx9 rfl<|r_ rfl (l_ (C := .agg (l.res e n).1.abs) (x_ tabOk rfl rfl rfl l0_ (by exact hX.1) (Nat.le_of_ble_eq_true rfl)) rfl) hx9 rfl rfl ?_
 refine qx_ 2 hx9 rfl<|r_ rfl (l_ (C := int e.core.client) (i_ tabOk rfl rfl l2_ (by exact hX.2) rfl) rfl) hx9 rfl rfl ?_
 refine qx_ 2 hx9 rfl<|r_ rfl (l_ (C := int e.core.stamp) (i_ tabOk rfl rfl l2_ (by exact hX.2) rfl) rfl) hx9 rfl rfl ?_
 refine qx_ 1 hx9 rfl<|r_ rfl (D_ (L := Oc.abs ⟨e.core.client, e.core.stamp, (l.res e n).2⟩) tabOk rfl rfl rfl rfl) hx9 rfl rfl<|qx_ 1 hx9 rfl<|I_ rfl (ltold_s (l := (l.res e n).1) (o := ⟨e.core.client, e.core.stamp, (l.res e n).2⟩) hf2) (by simp [mids, It.mids]) Casts.refl (by kernel_rfl) rfl rfl rfl ?_
 refine ap_<|fun _=>ex_ rfl (n_ (L' := ((l.res e n).1.told ⟨e.core.client, e.core.stamp, (l.res e n).2⟩).abs) tabOk rfl rfl rfl u1_ rfl (Nat.le_of_ble_eq_true rfl) rfl (by exact t_ rfl)) (by simp) rfl rfl ?_
 refine hx_ fun hx9 =>qx_ 1 hx9 rfl<|Q_<|c_<|m_<|f_ (rs := [.cell 6 30, .tmp 7]) rfl (RV.cell rfl (RV.cellA tabOk rfl rfl l1_ (by rfl)) (RV.tmp rfl RV.nil)) (()) sn_ ?_
 unfold Lg.doF
 rw [if_neg (by rw [hc24]; decide), if_neg hc31]
 rfl
end
theorem boo_dec {p : Prop} [Decidable p] (h : p) : retA [boo true] = boo (decide p) := by rw [decide_eq_true h]; rfl
theorem ac_ {p : Prop} [Decidable p] (h : ¬ p) : retA [boo false] = boo (decide p) := by rw [decide_eq_false h]; rfl
section
variable {l a b : Lg} {x : Ltr} {o : Oc} {k n : Int} {s : ByteArray} {c : Core} {e : Ent} {p : Nat} {es : List Ent}
set_option maxHeartbeats 2000000 in
theorem hF_ (ha : a.Ins) (hb : b.Ins) : Spec Tryz.prog 17 [.agg a.abs, .agg b.abs] [] (fun _ : Unit => []) (fun _ => boo (decide (a = b))) := by
 refine F_ Tryz.func17 rfl Tryz.ntmps17 rfl fun G w =>d_<|a_<|eb_ (R_ (cs := a.abs) rfl) rfl rfl fun b2=>?_
 refine eb_ (R_ (cs := b.abs) rfl) rfl rfl fun b3=>?_
 refine q_ 1 rfl<|g_<|c_<|d_<|d_<|a_<|q_ 1 rfl<|b_ (l_ (C := int a.seq) (i_ tabOk rfl rfl l1_ List.not_mem_nil rfl) rfl) rfl rfl<|q_ 1 rfl<|b_ (l_ (C := int b.seq) (i_ tabOk rfl rfl l0_ List.not_mem_nil rfl) rfl) rfl rfl<|q_ 2 rfl<|z_ (t := 12) rfl ?_ ?_
 ·intro hc12
  refine q_ 24 rfl<|g_<|c_<|M_ rfl<|d_<|a_<|q_ 1 rfl<|g_<|c_<|m_<|h_ nofun<|f_ (rs := [.tmp 4]) rfl (RV.tmp rfl RV.nil) (()) sn_<|ac_ fun he => ?_
  subst he
  exact absurd rfl (by assumption)
 intro hc12
 refine q_ 1 rfl<|b_ (l_ (C := int a.total) (i_ tabOk rfl rfl l1_ List.not_mem_nil rfl) rfl) rfl rfl<|q_ 1 rfl<|b_ (l_ (C := int b.total) (i_ tabOk rfl rfl l0_ List.not_mem_nil rfl) rfl) rfl rfl<|q_ 3 rfl<|z_ (t := 19) rfl ?_ ?_
 ·intro hc19
  refine q_ 17 rfl<|g_<|c_<|M_ rfl<|d_<|a_<|q_ 1 rfl<|g_<|c_<|m_<|h_ nofun<|f_ (rs := [.tmp 4]) rfl (RV.tmp rfl RV.nil) (()) sn_<|ac_ fun he => ?_
  subst he
  exact absurd rfl (by assumption)
 intro hc19
 refine q_ 1 rfl<|b_ (l_ (C := .sl 6 (a.ls.map ltrA)) (i_ tabOk rfl rfl l1_ List.not_mem_nil rfl) rfl) rfl rfl<|b_ (B_ rfl Tryz.underlying27 (List.length_map _)) rfl rfl<|q_ 1 rfl<|b_ (l_ (C := .sl 6 (b.ls.map ltrA)) (i_ tabOk rfl rfl l0_ List.not_mem_nil rfl) rfl) rfl rfl<|b_ (B_ rfl Tryz.underlying27 (List.length_map _)) rfl rfl<|q_ 3 rfl<|z_ (t := 28) rfl ?_ ?_
 ·intro hc28
  refine q_ 8 rfl<|g_<|c_<|M_ rfl<|d_<|a_<|q_ 1 rfl<|g_<|c_<|m_<|h_ nofun<|f_ (rs := [.tmp 4]) rfl (RV.tmp rfl RV.nil) (()) sn_<|ac_ fun he => ?_
  subst he
  exact absurd rfl (by assumption)
 intro hc28
 refine q_ 1 rfl<|b_ (l_ (C := .sl 3 (a.os.map Oc.abs)) (i_ tabOk rfl rfl l1_ List.not_mem_nil rfl) rfl) rfl rfl<|b_ (B_ rfl Tryz.underlying28 (List.length_map _)) rfl rfl<|q_ 1 rfl<|b_ (l_ (C := .sl 3 (b.os.map Oc.abs)) (i_ tabOk rfl rfl l0_ List.not_mem_nil rfl) rfl) rfl rfl<|b_ (B_ rfl Tryz.underlying28 (List.length_map _)) rfl rfl<|q_ 2 rfl<|g_<|c_<|o_ rfl ?_ ?_
 ·intro hc36
  refine d_<|a_<|q_ 1 rfl<|g_<|c_<|m_<|h_ nofun<|f_ (rs := [.tmp 4]) rfl (RV.tmp rfl RV.nil) (()) sn_<|ac_ fun he => ?_
  subst he
  exact absurd rfl (by assumption)
 intro hc36
 refine p_<|c_<|a1_ (ι := Unit) (fun z => [.blk b3 30 b.abs, .blk b2 30 a.abs]) (fun z => [(2, ptr b2), (3, ptr b3)]) (fun z => a.ls = b.ls) ?_ ?_
 ·skip
  refine d_<|a_<|q_ 1 rfl<|b_ (l_ (C := .sl 6 (a.ls.map ltrA)) (i_ tabOk rfl rfl l1_ List.not_mem_nil rfl) rfl) rfl rfl<|b_ (B_ rfl Tryz.underlying27 (List.length_map _)) rfl rfl<|q_ 1 rfl<|g_<|c_<|y_<|bk_ (i := 38) rfl fun hrow => ?_
  rw [List.length_map] at hrow
  unfold maxLen at hrow
  refine ae_ (ι := Nat) (fun z => [.blk b3 30 b.abs, .blk b2 30 a.abs]) (fun z => [(2, ptr b2), (3, ptr b3), (39, int (a.ls.length : Nat)), (40, int (z : Nat))]) (fun z => z ≤ a.ls.length ∧ ∀ j (h1 : j < a.ls.length) (h2 : j < b.ls.length), j < z → a.ls[j] = b.ls[j]) (fun z => a.ls.length - z) (0) (⟨Nat.zero_le _, fun j h1 h2 h => by omega⟩) (by exact ⟨rfl, rfl, rfl, rfl, trivial⟩) sr_ ?_
  intro z hz
  refine d_<|a_<|q_ 1 rfl<|g_<|c_<|d_<|o_ rfl ?_ ?_
  rotate_left
  ·intro hc41
   refine W_<|h_ nofun<|h_ nofun<|V_<|ab_ (()) (List.ext_getElem (by omega) fun j h1 h2 => hz.2 j h1 h2 (by omega)) (by exact ⟨rfl, rfl, trivial⟩) sr_
  intro hc41
  have hlt : z < a.ls.length := by omega
  have hlt2 : z < b.ls.length := by omega
  refine p_<|c_<|d_<|y_<|d_<|a_<|q_ 2 rfl<|g_<|c_<|d_<|aa_ [] (.q 0 (.q 1 (.q 2 (.q 3 (.q 4 (.q 5 (.q 6 (.q 7 (.q 8 (.q 9 (.q 10 .nil))))))))))) (by kernel_rfl) (by kernel_rfl) ?_
  refine qs_ 1 rfl<|hx_ fun hx9 =>r_ rfl (l_ (C := .sl 6 (a.ls.map ltrA)) (i_ tabOk rfl rfl l1_ List.not_mem_nil rfl) rfl) hx9 rfl rfl<|qs_ 1 rfl<|r_ rfl (J_ (q := z) tabOk Tryz.underlying27 rfl rfl rfl rfl (aN_ hlt) rfl rfl) hx9 rfl rfl<|r_ rfl (Y_ tabOk rfl rfl rfl rfl) hx9 rfl rfl<|qs_ 1 rfl<|r_ rfl (l_ (C := .sl 6 (b.ls.map ltrA)) (i_ tabOk rfl rfl l0_ List.not_mem_nil rfl) rfl) hx9 rfl rfl<|qs_ 1 rfl<|r_ rfl (J_ (q := z) tabOk Tryz.underlying27 rfl rfl rfl rfl (aN_ hlt2) rfl rfl) hx9 rfl rfl<|r_ rfl (Y_ tabOk rfl rfl rfl rfl) hx9 rfl rfl<|r_ rfl (dP_ rfl rfl (fn_ _) (fn_ _) (by kernel_rfl) (neqLtr (ha.ls _ (List.getElem_mem hlt)) (hb.ls _ (List.getElem_mem hlt2)))) hx9 rfl rfl ?_
  refine Q_<|c_<|o_ rfl ?_ ?_
  rotate_left
  ·intro hc53
   refine p_<|u_<|c_<|a_<|b_ (C_ rfl rfl (by simp only [InR, lo, hi]; omega)) rfl rfl ?_
   refine q_ 1 rfl<|g_ ?_
   have heq : a.ls[z]'hlt = b.ls[z]'hlt2 := Classical.byContradiction hc53
   refine G_ (z + 1) (by omega) (⟨by omega, fun j h1 h2 h => by rcases Nat.lt_or_ge j z with h3 | h3; exact hz.2 j h1 h2 h3; obtain rfl : j = z := (by omega); exact heq⟩) (by exact ⟨rfl, rfl, rfl, rfl, trivial⟩) sr_
  intro hc53
  refine d_<|a_<|q_ 1 rfl<|g_<|c_<|m_<|E_<|h_ nofun<|h_ nofun<|E_<|h_ nofun<|f_ (rs := [.tmp 4]) rfl (RV.tmp rfl RV.nil) (()) sn_<|ac_ fun he => ?_
  subst he
  exact hc53 rfl
 intro z hz
 refine d_<|d_<|a_<|q_ 1 rfl<|b_ (l_ (C := .sl 3 (a.os.map Oc.abs)) (i_ tabOk rfl rfl l1_ List.not_mem_nil rfl) rfl) rfl rfl<|b_ (B_ rfl Tryz.underlying28 (List.length_map _)) rfl rfl<|q_ 1 rfl<|g_<|c_<|y_<|bk_ (i := 56) rfl fun hrow => ?_
 rw [List.length_map] at hrow
 unfold maxLen at hrow
 refine ae_ (ι := Nat) (fun z => [.blk b3 30 b.abs, .blk b2 30 a.abs]) (fun z => [(2, ptr b2), (3, ptr b3), (57, int (a.os.length : Nat)), (58, int (z : Nat))]) (fun z => z ≤ a.os.length ∧ ∀ j (h1 : j < a.os.length) (h2 : j < b.os.length), j < z → a.os[j] = b.os[j]) (fun z => a.os.length - z) (0) (⟨Nat.zero_le _, fun j h1 h2 h => by omega⟩) (by exact ⟨rfl, rfl, rfl, rfl, trivial⟩) sr_ ?_
 intro z hz
 refine d_<|a_<|q_ 1 rfl<|g_<|c_<|d_<|o_ rfl ?_ ?_
 rotate_left
 ·intro hc59
  refine W_<|h_ nofun<|h_ nofun<|V_<|c_<|d_<|a_<|q_ 1 rfl<|g_<|c_<|m_<|f_ (rs := [.tmp 4]) rfl (RV.tmp rfl RV.nil) (()) sn_<|boo_dec ?_
  have h2 : a.os = b.os := List.ext_getElem (by omega) fun j h1 h2 => hz.2 j h1 h2 (by omega)
  obtain ⟨a1, a2, a3, a4⟩ := a
  obtain ⟨b1, b2, b3, b4⟩ := b
  simp only [Lg.mk.injEq] at *
  exact ⟨by omega, by omega, by assumption, h2⟩
 intro hc59
 have hlt : z < a.os.length := by omega
 have hlt2 : z < b.os.length := by omega
 refine p_<|c_<|d_<|y_<|d_<|a_<|q_ 2 rfl<|g_<|c_<|d_<|aa_ [] (.q 0 (.q 1 (.q 2 (.q 3 (.q 4 (.q 5 (.q 6 (.q 7 (.q 8 (.q 9 (.q 10 .nil))))))))))) (by kernel_rfl) (by kernel_rfl) ?_
 refine qs_ 1 rfl<|hx_ fun hx9 =>r_ rfl (l_ (C := .sl 3 (a.os.map Oc.abs)) (i_ tabOk rfl rfl l1_ List.not_mem_nil rfl) rfl) hx9 rfl rfl<|qs_ 1 rfl<|r_ rfl (J_ (q := z) tabOk Tryz.underlying28 rfl rfl rfl rfl (aN_ hlt) rfl rfl) hx9 rfl rfl<|r_ rfl (Y_ tabOk rfl rfl rfl rfl) hx9 rfl rfl<|qs_ 1 rfl<|r_ rfl (l_ (C := .sl 3 (b.os.map Oc.abs)) (i_ tabOk rfl rfl l0_ List.not_mem_nil rfl) rfl) hx9 rfl rfl<|qs_ 1 rfl<|r_ rfl (J_ (q := z) tabOk Tryz.underlying28 rfl rfl rfl rfl (aN_ hlt2) rfl rfl) hx9 rfl rfl<|r_ rfl (Y_ tabOk rfl rfl rfl rfl) hx9 rfl rfl<|r_ rfl (dP_ rfl rfl (b8_ _) (b8_ _) (by kernel_rfl) (neqOc (ha.os _ (List.getElem_mem hlt)) (hb.os _ (List.getElem_mem hlt2)))) hx9 rfl rfl ?_
 refine Q_<|c_<|o_ rfl ?_ ?_
 rotate_left
 ·intro hc71
  refine p_<|u_<|c_<|a_<|b_ (C_ rfl rfl (by simp only [InR, lo, hi]; omega)) rfl rfl ?_
  refine q_ 1 rfl<|g_ ?_
  have heq : a.os[z]'hlt = b.os[z]'hlt2 := Classical.byContradiction hc71
  refine G_ (z + 1) (by omega) (⟨by omega, fun j h1 h2 h => by rcases Nat.lt_or_ge j z with h3 | h3; exact hz.2 j h1 h2 h3; obtain rfl : j = z := (by omega); exact heq⟩) (by exact ⟨rfl, rfl, rfl, rfl, trivial⟩) sr_
 intro hc71
 refine d_<|a_<|q_ 1 rfl<|g_<|c_<|m_<|E_<|h_ nofun<|h_ nofun<|E_<|h_ nofun<|f_ (rs := [.tmp 4]) rfl (RV.tmp rfl RV.nil) (()) sn_<|ac_ fun he => ?_
 subst he
 exact hc71 rfl
theorem j1_  : Spec Tryz.prog 87 [.agg l.abs, st s] [] (fun _ : Unit => []) (fun _ => .tup [.agg (ltrA ((l.find s).getD Ltr.none)), boo (l.find s).isSome]) := by
 refine F_ Tryz.func87 rfl Tryz.ntmps87 rfl fun G w =>d_<|a_<|eb_ (R_ (cs := l.abs) rfl) rfl rfl fun b2=>?_
 refine eb_ (H_ tabOk rfl) rfl rfl fun b4=>?_
 refine q_ 1 rfl<|g_<|c_<|d_<|d_<|a_<|q_ 1 rfl<|b_ (l_ (C := .sl 6 (l.ls.map ltrA)) (i_ tabOk rfl rfl l1_ List.not_mem_nil rfl) rfl) rfl rfl<|b_ (B_ rfl Tryz.underlying27 (List.length_map _)) rfl rfl<|q_ 1 rfl<|g_<|c_<|y_<|bk_ (i := 9) rfl fun hrow => ?_
 rw [List.length_map] at hrow
 unfold maxLen at hrow
 refine ae_ (ι := Nat) (fun z => [.blk b4 81 (ltrA Ltr.none)]) (fun z => [(1, st s), (4, ptr b4), (9, ltrsA l.ls), (10, int (l.ls.length : Nat)), (11, int (z : Nat))]) (fun z => z ≤ l.ls.length ∧ ∀ j (h : j < l.ls.length), j < z → ¬ l.ls[j].name = s) (fun z => l.ls.length - z) (0) (⟨Nat.zero_le _, fun j h h2 => by omega⟩) (by exact ⟨rfl, rfl, rfl, rfl, rfl, trivial⟩) (sc_ sn_) ?_
 intro z hz
 refine d_<|a_<|q_ 1 rfl<|g_<|c_<|d_<|o_ rfl ?_ ?_
 rotate_left
 ·intro hc12
  refine W_<|h_ nofun<|h_ nofun<|V_<|c_<|d_<|a_<|b_ (D_ tabOk rfl rfl rfl rfl) rfl rfl<|e_ (n_ (L' := ltrA Ltr.none) tabOk rfl rfl rfl u0_ rfl (Nat.le_of_ble_eq_true rfl) rfl (by exact t_ rfl)) rfl rfl ?_
  refine q_ 1 rfl<|g_<|c_<|m_ ?_
  have hfn : l.find s = none := by
   unfold Lg.find
   rw [List.find?_eq_none]
   intro y hy
   obtain ⟨j, hj, rfl⟩ := List.getElem_of_mem hy
   simpa using hz.2 j hj (by omega)
  refine f_ (rs := [.cell 4 81, .tmp 5]) rfl (RV.cell rfl (RV.cellA tabOk rfl rfl l0_ (by rfl)) (RV.tmp rfl RV.nil)) (()) sn_ ?_
  rw [hfn]
  rfl
 intro hc12
 have hlt : z < l.ls.length := by omega
 refine p_<|c_<|d_<|y_<|d_<|a_<|b_ (J_ tabOk Tryz.underlying27 rfl rfl rfl rfl (aN_ (by omega)) rfl rfl) rfl rfl ?_
 refine b_ (Y_ tabOk rfl rfl rfl rfl) rfl rfl<|eb_ (H_ tabOk rfl) rfl rfl fun b7=>?_
 refine e_ (n_ (L' := ltrA (l.ls[z]'hlt)) tabOk rfl rfl rfl u0_ rfl (Nat.le_of_ble_eq_true rfl) rfl (by exact t_ rfl)) rfl rfl ?_
 refine g_<|c_<|d_<|a_<|q_ 1 rfl<|b_ (l_ (C := st (l.ls[z]'hlt).name) (i_ tabOk rfl rfl l0_ List.not_mem_nil rfl) rfl) rfl rfl<|q_ 1 rfl<|b_ (cC_ rfl rfl) rfl rfl<|g_<|c_<|o_ rfl ?_ ?_
 rotate_left
 ·intro hc18
  refine p_<|u_<|c_<|a_<|b_ (C_ rfl rfl (by simp only [InR, lo, hi]; omega)) rfl rfl ?_
  refine q_ 1 rfl<|g_<|G_ (z + 1) (by omega) (⟨by omega, fun j h h2 => by rcases Nat.lt_or_ge j z with h3 | h3; exact hz.2 j h h3; obtain rfl : j = z := (by omega); exact hc18⟩) (by exact ⟨rfl, rfl, rfl, rfl, rfl, trivial⟩) (sk_ sr_)
 intro hc18
 refine d_<|a_<|b_ (U_ tabOk rfl rfl rfl l0_ List.not_mem_nil rfl) rfl rfl<|e_ (n_ (L' := ltrA (l.ls[z]'hlt)) tabOk rfl rfl rfl u1_ rfl (Nat.le_of_ble_eq_true rfl) rfl (by exact t_ rfl)) rfl rfl ?_
 refine q_ 1 rfl<|g_<|c_<|m_<|E_<|h_ nofun<|h_ nofun<|E_<|h_ nofun ?_
 have hfs : l.find s = some (l.ls[z]'hlt) := by
  unfold Lg.find
  rw [List.find?_eq_some_iff_getElem]
  exact ⟨decide_eq_true hc18, z, hlt, rfl, fun j hj => by simpa using hz.2 j (by omega) hj⟩
 refine f_ (rs := [.cell 4 81, .tmp 5]) rfl (RV.cell rfl (RV.cellA tabOk rfl rfl l1_ (by rfl)) (RV.tmp rfl RV.nil)) (()) sn_ ?_
 rw [hfs]
 rfl
end
section
variable {l a b : Lg} {x : Ltr} {o : Oc} {k n : Int} {s : ByteArray} {c : Core} {e : Ent} {p : Nat} {es : List Ent} {ls : List Ltr}
set_option maxHeartbeats 2000000 in
theorem kw_ (hs : ∀ x ∈ ls, x.name.size ≤ maxLen) : Spec Tryz.prog 32 [ltrsA ls] [] (fun _ : Unit => []) (fun _ => boo (decide (LtsR ls ∧ ls.length ≤ 16))) := by
 refine F_ Tryz.func32 rfl Tryz.ntmps32 rfl fun G w =>d_<|a_<|q_ 1 rfl<|g_<|c_<|d_<|d_<|a_<|q_ 1 rfl<|b_ (B_ rfl Tryz.underlying27 (List.length_map _)) rfl rfl<|q_ 1 rfl<|g_<|c_<|y_<|bk_ (i := 5) rfl fun hrow => ?_
 rw [List.length_map] at hrow
 unfold maxLen at hrow
 refine ae_ (ι := Nat) (fun y => []) (fun y => [(0, ltrsA ls), (5, ltrsA ls), (6, int (ls.length : Nat)), (7, int (y : Nat))]) (fun y => y ≤ ls.length ∧ ∀ j (h : j < ls.length), j < y → LtR ls[j] ∧ (0 < j → ltB (ls[j - 1]'(by omega)).name ls[j].name)) (fun y => ls.length - y) (0) (⟨Nat.zero_le _, fun j h h2 => by omega⟩) (by exact ⟨rfl, rfl, rfl, rfl, trivial⟩) sn_ ?_
 intro y hy
 refine d_<|a_<|q_ 1 rfl<|g_<|c_<|d_<|o_ rfl ?_ ?_
 rotate_left
 ·intro hc8
  refine W_<|h_ nofun<|h_ nofun<|V_<|c_<|d_<|a_<|q_ 1 rfl<|b_ (B_ rfl Tryz.underlying27 (List.length_map _)) rfl rfl<|q_ 2 rfl<|g_<|c_<|m_<|f_ (rs := [.tmp 2]) rfl (RV.tmp rfl RV.nil) (()) sn_ ?_
  have hr : LtsR ls := ⟨fun j h => (hy.2 j h (by omega)).1, fun j h => (hy.2 j h (by omega)).2⟩
  refine congrArg (fun b => Abs.v (Value.bool b)) ?_
  rw [decide_eq_decide]
  exact ⟨fun h => ⟨hr, by omega⟩, fun h => by have := h.2; omega⟩
 intro hc8
 have hlt : y < ls.length := by omega
 refine p_<|c_<|d_<|y_<|d_<|a_<|q_ 1 rfl<|b_ (J_ tabOk Tryz.underlying27 rfl rfl rfl rfl (aN_ (by omega)) rfl rfl) rfl rfl ?_
 refine b_ (Y_ tabOk rfl rfl rfl rfl) rfl rfl<|eb_ (H_ tabOk rfl) rfl rfl fun b4=>?_
 refine q_ 1 rfl<|e_ (n_ (L' := ltrA (ls[y]'hlt)) tabOk rfl rfl rfl u0_ rfl (Nat.le_of_ble_eq_true rfl) rfl (by exact t_ rfl)) rfl rfl ?_
 refine g_<|c_<|a1_ (ι := Unit) (fun z => [.blk b4 81 (ltrA (ls[y]'hlt))]) (fun z => [(0, ltrsA ls), (5, ltrsA ls), (6, int (ls.length : Nat)), (7, int (y : Nat)), (4, ptr b4)]) (fun z => 0 < y → ltB (ls[y - 1]'(by omega)).name (ls[y]'hlt).name) ?_ ?_
 ·skip
  refine d_<|aa_ [] (.q 0 (.q 1 (.q 2 (.q 3 (.q 4 (.q 5 (.q 6 (.q 7 (.q 8 (.q 9 (.q 10 (.q 11 (.q 12 .nil))))))))))))) (by kernel_rfl) (by kernel_rfl) ?_
  refine qs_ 3 rfl<|aT_ (t := 14) rfl ?_ ?_
  rotate_left
  ·intro hc14
   refine qs_ 10 rfl<|Q_<|c_<|ad_ rfl<|p_<|ab_ (()) (fun h0 => by omega) (by exact ⟨rfl, rfl, rfl, rfl, rfl, trivial⟩) sr_
  intro hc14
  refine qs_ 2 rfl<|hx_ fun hx9 =>r_ rfl (aC_ rfl rfl (by simp only [InR, lo, hi]; omega)) hx9 rfl rfl ?_
  refine r_ rfl (J_ (q := y - 1) tabOk Tryz.underlying27 rfl rfl rfl (by omega) (aN_ (by omega)) rfl rfl) hx9 rfl rfl ?_
  refine r_ rfl (ai_ tabOk rfl rfl rfl rfl rfl) (by simp) rfl rfl ?_
  refine r_ rfl (aJ_ tabOk rfl rfl rfl) (by simp) rfl rfl ?_
  refine qs_ 1 rfl<|r_ rfl (l_ (C := st (ls[y]'hlt).name) (i_ tabOk rfl rfl l0_ List.not_mem_nil rfl) rfl) hx9 rfl rfl<|r_ rfl (Val.geS rfl rfl) hx9 rfl rfl<|qs_ 1 rfl<|Q_<|c_<|o_ rfl ?_ ?_
  rotate_left
  ·intro hc24
   refine p_<|ab_ (()) (fun h0 => by exact Classical.byContradiction hc24) (by exact ⟨rfl, rfl, rfl, rfl, rfl, trivial⟩) sr_
  intro hc24
  exact d_<|a_<|q_ 1 rfl<|g_<|c_<|m_<|h_ nofun<|E_<|h_ nofun<|h_ nofun<|E_<|h_ nofun<|f_ (rs := [.tmp 2]) rfl (RV.tmp rfl RV.nil) (()) sn_<|ac_ fun he =>hc24 (he.1.rise y hlt (by omega))
 intro z hz
 refine d_<|a_<|q_ 1 rfl<|b_ (l_ (C := st (ls[y]'hlt).name) (i_ tabOk rfl rfl l0_ List.not_mem_nil rfl) rfl) rfl rfl<|s_ (gw_ (s := (ls[y]'hlt).name) (hs _ (List.getElem_mem hlt))) Casts.refl (by kernel_rfl) rfl rfl rfl ?_
 refine ap_<|fun _=>b_ (aj_ rfl) rfl rfl<|q_ 1 rfl<|aL_ (t := 29) rfl ?_ ?_
 ·intro hc29
  refine q_ 38 rfl<|g_<|c_<|M_ rfl<|d_<|a_<|q_ 1 rfl<|g_<|c_<|m_<|E_<|h_ nofun<|h_ nofun<|E_<|h_ nofun<|f_ (rs := [.tmp 2]) rfl (RV.tmp rfl RV.nil) (()) sn_<|ac_ fun he => ?_
  obtain ⟨g1, ⟨g2, g3⟩, ⟨g4, g5⟩, g6, g7, g8⟩ := he.1.each y hlt
  have g9 : isAmt (ls[y]'hlt).amount = true := aX_ (by omega) g5
  (simp [g1] at hc29; done)
 intro hc29
 refine q_ 1 rfl<|b_ (l_ (C := int (ls[y]'hlt).state) (i_ tabOk rfl rfl l0_ List.not_mem_nil rfl) rfl) rfl rfl<|q_ 3 rfl<|z_ (t := 34) rfl ?_ ?_
 ·intro hc34
  refine q_ 33 rfl<|g_<|c_<|M_ rfl<|d_<|a_<|q_ 1 rfl<|g_<|c_<|m_<|E_<|h_ nofun<|h_ nofun<|E_<|h_ nofun<|f_ (rs := [.tmp 2]) rfl (RV.tmp rfl RV.nil) (()) sn_<|ac_ fun he => ?_
  obtain ⟨g1, ⟨g2, g3⟩, ⟨g4, g5⟩, g6, g7, g8⟩ := he.1.each y hlt
  have g9 : isAmt (ls[y]'hlt).amount = true := aX_ (by omega) g5
  omega
 intro hc34
 refine q_ 1 rfl<|b_ (l_ (C := int (ls[y]'hlt).state) (i_ tabOk rfl rfl l0_ List.not_mem_nil rfl) rfl) rfl rfl<|q_ 3 rfl<|z_ (t := 39) rfl ?_ ?_
 ·intro hc39
  refine q_ 28 rfl<|g_<|c_<|M_ rfl<|d_<|a_<|q_ 1 rfl<|g_<|c_<|m_<|E_<|h_ nofun<|h_ nofun<|E_<|h_ nofun<|f_ (rs := [.tmp 2]) rfl (RV.tmp rfl RV.nil) (()) sn_<|ac_ fun he => ?_
  obtain ⟨g1, ⟨g2, g3⟩, ⟨g4, g5⟩, g6, g7, g8⟩ := he.1.each y hlt
  have g9 : isAmt (ls[y]'hlt).amount = true := aX_ (by omega) g5
  omega
 intro hc39
 refine q_ 1 rfl<|b_ (l_ (C := int (ls[y]'hlt).amount) (i_ tabOk rfl rfl l0_ List.not_mem_nil rfl) rfl) rfl rfl<|q_ 3 rfl<|z_ (t := 44) rfl ?_ ?_
 ·intro hc44
  refine q_ 23 rfl<|g_<|c_<|M_ rfl<|d_<|a_<|q_ 1 rfl<|g_<|c_<|m_<|E_<|h_ nofun<|h_ nofun<|E_<|h_ nofun<|f_ (rs := [.tmp 2]) rfl (RV.tmp rfl RV.nil) (()) sn_<|ac_ fun he => ?_
  obtain ⟨g1, ⟨g2, g3⟩, ⟨g4, g5⟩, g6, g7, g8⟩ := he.1.each y hlt
  have g9 : isAmt (ls[y]'hlt).amount = true := aX_ (by omega) g5
  omega
 intro hc44
 refine q_ 1 rfl<|b_ (l_ (C := int (ls[y]'hlt).amount) (i_ tabOk rfl rfl l0_ List.not_mem_nil rfl) rfl) rfl rfl<|s_ (rmis_s (a := (ls[y]'hlt).amount)) Casts.refl (by kernel_rfl) rfl rfl rfl ?_
 refine ap_<|fun _=>b_ (aj_ rfl) rfl rfl<|q_ 2 rfl<|aL_ (t := 50) rfl ?_ ?_
 ·intro hc50
  refine q_ 17 rfl<|g_<|c_<|M_ rfl<|d_<|a_<|q_ 1 rfl<|g_<|c_<|m_<|E_<|h_ nofun<|h_ nofun<|E_<|h_ nofun<|f_ (rs := [.tmp 2]) rfl (RV.tmp rfl RV.nil) (()) sn_<|ac_ fun he => ?_
  obtain ⟨g1, ⟨g2, g3⟩, ⟨g4, g5⟩, g6, g7, g8⟩ := he.1.each y hlt
  have g9 : isAmt (ls[y]'hlt).amount = true := aX_ (by omega) g5
  (simp [g9] at hc50; done)
 intro hc50
 refine q_ 1 rfl<|b_ (l_ (C := int (ls[y]'hlt).due) (i_ tabOk rfl rfl l0_ List.not_mem_nil rfl) rfl) rfl rfl<|s_ (rday_s (a := (ls[y]'hlt).due)) Casts.refl (by kernel_rfl) rfl rfl rfl ?_
 refine ap_<|fun _=>b_ (aj_ rfl) rfl rfl<|q_ 2 rfl<|aL_ (t := 56) rfl ?_ ?_
 ·intro hc56
  refine q_ 11 rfl<|g_<|c_<|M_ rfl<|d_<|a_<|q_ 1 rfl<|g_<|c_<|m_<|E_<|h_ nofun<|h_ nofun<|E_<|h_ nofun<|f_ (rs := [.tmp 2]) rfl (RV.tmp rfl RV.nil) (()) sn_<|ac_ fun he => ?_
  obtain ⟨g1, ⟨g2, g3⟩, ⟨g4, g5⟩, g6, g7, g8⟩ := he.1.each y hlt
  have g9 : isAmt (ls[y]'hlt).amount = true := aX_ (by omega) g5
  (simp [g6] at hc56; done)
 intro hc56
 refine q_ 1 rfl<|b_ (l_ (C := st (ls[y]'hlt).policy) (i_ tabOk rfl rfl l0_ List.not_mem_nil rfl) rfl) rfl rfl<|b_ (ao_ rfl Tryz.underlying9) rfl rfl<|q_ 3 rfl<|z_ (t := 62) rfl ?_ ?_
 ·intro hc62
  refine q_ 5 rfl<|g_<|c_<|M_ rfl<|d_<|a_<|q_ 1 rfl<|g_<|c_<|m_<|E_<|h_ nofun<|h_ nofun<|E_<|h_ nofun<|f_ (rs := [.tmp 2]) rfl (RV.tmp rfl RV.nil) (()) sn_<|ac_ fun he => ?_
  obtain ⟨g1, ⟨g2, g3⟩, ⟨g4, g5⟩, g6, g7, g8⟩ := he.1.each y hlt
  have g9 : isAmt (ls[y]'hlt).amount = true := aX_ (by omega) g5
  omega
 intro hc62
 refine q_ 1 rfl<|b_ (l_ (C := st (ls[y]'hlt).papers) (i_ tabOk rfl rfl l0_ List.not_mem_nil rfl) rfl) rfl rfl<|b_ (ao_ rfl Tryz.underlying9) rfl rfl<|q_ 2 rfl<|g_<|c_<|o_ rfl ?_ ?_
 rotate_left
 ·intro hc67
  refine p_<|u_<|c_<|a_<|b_ (C_ rfl rfl (by simp only [InR, lo, hi]; omega)) rfl rfl ?_
  refine q_ 1 rfl<|g_ ?_
  have hok : LtR (ls[y]'hlt) := ⟨by simpa using hc29, by omega, ⟨by omega, (aP_ (by simpa using hc50)).2⟩, by simpa using hc56, by omega, by omega⟩
  refine G_ (y + 1) (by omega) (⟨by omega, fun j h h2 => by rcases Nat.lt_or_ge j y with h3 | h3; exact hy.2 j h h3; obtain rfl : j = y := (by omega); exact ⟨hok, hz⟩⟩) (by exact ⟨rfl, rfl, rfl, rfl, trivial⟩) sn_
 intro hc67
 refine d_<|a_<|q_ 1 rfl<|g_<|c_<|m_<|E_<|h_ nofun<|h_ nofun<|E_<|h_ nofun<|f_ (rs := [.tmp 2]) rfl (RV.tmp rfl RV.nil) (()) sn_<|ac_ fun he => ?_
 obtain ⟨g1, ⟨g2, g3⟩, ⟨g4, g5⟩, g6, g7, g8⟩ := he.1.each y hlt
 have g9 : isAmt (ls[y]'hlt).amount = true := aX_ (by omega) g5
 omega
set_option maxHeartbeats 2000000 in
theorem fO_ (hs : ∀ x ∈ l.ls, x.name.size ≤ maxLen) : Spec Tryz.prog 13 [.agg l.abs] [] (fun _ : Unit => []) (fun _ => boo (decide l.Right)) := by
 refine F_ Tryz.func13 rfl Tryz.ntmps13 rfl fun G w =>d_<|a_<|eb_ (R_ (cs := l.abs) rfl) rfl rfl fun b1=>?_
 refine q_ 1 rfl<|g_<|c_<|d_<|d_<|a_<|q_ 1 rfl<|b_ (l_ (C := .sl 3 (l.os.map Oc.abs)) (i_ tabOk rfl rfl l0_ List.not_mem_nil rfl) rfl) rfl rfl<|b_ (B_ rfl Tryz.underlying28 (List.length_map _)) rfl rfl<|q_ 1 rfl<|g_<|c_<|y_<|bk_ (i := 6) rfl fun hrow => ?_
 rw [List.length_map] at hrow
 unfold maxLen at hrow
 refine ae_ (ι := Nat) (fun y => [.blk b1 30 l.abs]) (fun y => [(1, ptr b1), (6, outA l.os), (7, int (l.os.length : Nat)), (8, int (y : Nat))]) (fun y => y ≤ l.os.length ∧ ∀ j (h : j < l.os.length), j < y → OcR l.os[j] ∧ (0 < j → (l.os[j - 1]'(by omega)).client < l.os[j].client)) (fun y => l.os.length - y) (0) (⟨Nat.zero_le _, fun j h h2 => by omega⟩) (by exact ⟨rfl, rfl, rfl, rfl, trivial⟩) sr_ ?_
 intro y hy
 refine d_<|a_<|q_ 1 rfl<|g_<|c_<|d_<|o_ rfl ?_ ?_
 rotate_left
 ·intro hc9
  refine W_<|h_ nofun<|h_ nofun<|V_<|c_<|d_<|a_<|q_ 1 rfl<|b_ (l_ (C := int l.seq) (i_ tabOk rfl rfl l0_ List.not_mem_nil rfl) rfl) rfl rfl<|q_ 2 rfl<|z_ (t := 61) rfl ?_ ?_
  rotate_left
  ·intro hc61
   refine q_ 21 rfl<|g_<|c_<|m_ ?_
   have hr : OcsR l.os := ⟨fun j h => (hy.2 j h (by omega)).1, fun j h => (hy.2 j h (by omega)).2⟩
   refine f_ (rs := [.tmp 2]) rfl (RV.tmp rfl RV.nil) (()) sn_ ?_
   (refine ac_ fun he => ?_; obtain ⟨g1, ⟨g2, g2'⟩, g3, g4, g5, g6⟩ := he; omega)
  intro hc61
  refine q_ 1 rfl<|b_ (l_ (C := int l.seq) (i_ tabOk rfl rfl l0_ List.not_mem_nil rfl) rfl) rfl rfl<|q_ 3 rfl<|z_ (t := 66) rfl ?_ ?_
  rotate_left
  ·intro hc66
   refine q_ 16 rfl<|g_<|c_<|m_ ?_
   have hr : OcsR l.os := ⟨fun j h => (hy.2 j h (by omega)).1, fun j h => (hy.2 j h (by omega)).2⟩
   refine f_ (rs := [.tmp 2]) rfl (RV.tmp rfl RV.nil) (()) sn_ ?_
   (refine ac_ fun he => ?_; obtain ⟨g1, ⟨g2, g2'⟩, g3, g4, g5, g6⟩ := he; omega)
  intro hc66
  refine q_ 1 rfl<|b_ (l_ (C := int l.total) (i_ tabOk rfl rfl l0_ List.not_mem_nil rfl) rfl) rfl rfl<|s_ (rmis_s (a := l.total)) Casts.refl (by kernel_rfl) rfl rfl rfl ?_
  refine ap_<|fun _=>q_ 2 rfl<|aL_ (t := 71) rfl ?_ ?_
  rotate_left
  ·intro hc71
   refine q_ 11 rfl<|g_<|c_<|m_ ?_
   have hr : OcsR l.os := ⟨fun j h => (hy.2 j h (by omega)).1, fun j h => (hy.2 j h (by omega)).2⟩
   refine f_ (rs := [.tmp 2]) rfl (RV.tmp rfl RV.nil) (()) sn_ ?_
   (refine ac_ fun he => ?_; obtain ⟨g1, ⟨g2, g2'⟩, g3, g4, g5, g6⟩ := he; (rw [g3] at hc71; cases hc71; done))
  intro hc71
  refine q_ 1 rfl<|b_ (l_ (C := .sl 3 (l.os.map Oc.abs)) (i_ tabOk rfl rfl l0_ List.not_mem_nil rfl) rfl) rfl rfl<|b_ (B_ rfl Tryz.underlying28 (List.length_map _)) rfl rfl<|q_ 3 rfl<|z_ (t := 77) rfl ?_ ?_
  rotate_left
  ·intro hc77
   refine q_ 5 rfl<|g_<|c_<|m_ ?_
   have hr : OcsR l.os := ⟨fun j h => (hy.2 j h (by omega)).1, fun j h => (hy.2 j h (by omega)).2⟩
   refine f_ (rs := [.tmp 2]) rfl (RV.tmp rfl RV.nil) (()) sn_ ?_
   (refine ac_ fun he => ?_; obtain ⟨g1, ⟨g2, g2'⟩, g3, g4, g5, g6⟩ := he; omega)
  intro hc77
  refine q_ 1 rfl<|b_ (l_ (C := .sl 6 (l.ls.map ltrA)) (i_ tabOk rfl rfl l0_ List.not_mem_nil rfl) rfl) rfl rfl<|s_ (kw_ hs) Casts.refl (by kernel_rfl) rfl rfl rfl ?_
  refine ap_<|fun _=>q_ 2 rfl<|g_<|c_<|m_ ?_
  have hr : OcsR l.os := ⟨fun j h => (hy.2 j h (by omega)).1, fun j h => (hy.2 j h (by omega)).2⟩
  refine f_ (rs := [.tmp 2]) rfl (RV.tmp rfl RV.nil) (()) sn_ ?_
  (refine congrArg (fun b => Abs.v (Value.bool b)) ?_; rw [decide_eq_decide]; exact ⟨fun h => ⟨hr, by omega, by assumption, by omega, h.1, h.2⟩, fun h => ⟨h.ls, h.lsFew⟩⟩)
 intro hc9
 have hlt : y < l.os.length := by omega
 refine p_<|c_<|d_<|y_<|d_<|a_<|q_ 1 rfl<|b_ (J_ tabOk Tryz.underlying28 rfl rfl rfl rfl (aN_ (by omega)) rfl rfl) rfl rfl ?_
 refine b_ (Y_ tabOk rfl rfl rfl rfl) rfl rfl<|eb_ (H_ tabOk rfl) rfl rfl fun b4=>?_
 refine q_ 1 rfl<|e_ (n_ (L' := Oc.abs (l.os[y]'hlt)) tabOk rfl rfl rfl u0_ rfl (Nat.le_of_ble_eq_true rfl) rfl (by exact t_ rfl)) rfl rfl ?_
 refine g_<|c_<|d_<|aa_ [] (.q 0 (.q 1 (.q 2 (.q 3 (.q 4 (.q 5 (.q 6 (.q 7 (.q 8 (.q 9 (.q 10 (.q 11 (.q 12 (.q 13 (.q 14 (.q 15 (.q 16 (.q 17 (.q 18 (.q 19 (.q 20 (.q 21 (.q 22 (.q 23 (.q 24 (.q 25 (.q 26 (.q 27 (.q 28 (.q 29 (.q 30 (.q 31 (.q 32 (.q 33 (.q 34 (.q 35 (.q 36 (.q 37 (.q 38 (.q 39 (.q 40 (.q 41 (.q 42 (.q 43 .nil)))))))))))))))))))))))))))))))))))))))))))) (by kernel_rfl) (by kernel_rfl) ?_
 refine qs_ 3 rfl<|aT_ (t := 15) rfl ?_ ?_
 rotate_left
 ·intro hc15
  refine qs_ 13 rfl<|hx_ fun hx9 =>r_ rfl (l_ (C := int (l.os[y]'hlt).client) (i_ tabOk rfl rfl l0_ List.not_mem_nil rfl) rfl) hx9 rfl rfl<|qs_ 3 rfl<|aT_ (t := 32) rfl ?_ ?_
  ·intro hc32
   refine qs_ 24 rfl<|Q_<|c_<|M_ rfl<|d_<|a_<|q_ 1 rfl<|g_<|c_<|m_<|E_<|h_ nofun<|h_ nofun<|E_<|h_ nofun<|f_ (rs := [.tmp 2]) rfl (RV.tmp rfl RV.nil) (()) sn_<|ac_ fun he => ?_
   obtain ⟨g1, g2, g3⟩ := he.os.each y hlt
   have g4 := he.os.rise y hlt
   omega
  intro hc32
  refine qs_ 1 rfl<|r_ rfl (l_ (C := int (l.os[y]'hlt).client) (i_ tabOk rfl rfl l0_ List.not_mem_nil rfl) rfl) hx9 rfl rfl<|qs_ 3 rfl<|aT_ (t := 37) rfl ?_ ?_
  ·intro hc37
   refine qs_ 19 rfl<|Q_<|c_<|M_ rfl<|d_<|a_<|q_ 1 rfl<|g_<|c_<|m_<|E_<|h_ nofun<|h_ nofun<|E_<|h_ nofun<|f_ (rs := [.tmp 2]) rfl (RV.tmp rfl RV.nil) (()) sn_<|ac_ fun he => ?_
   obtain ⟨g1, g2, g3⟩ := he.os.each y hlt
   have g4 := he.os.rise y hlt
   omega
  intro hc37
  refine qs_ 1 rfl<|r_ rfl (l_ (C := int (l.os[y]'hlt).stamp) (i_ tabOk rfl rfl l0_ List.not_mem_nil rfl) rfl) hx9 rfl rfl<|qs_ 3 rfl<|aT_ (t := 42) rfl ?_ ?_
  ·intro hc42
   refine qs_ 14 rfl<|Q_<|c_<|M_ rfl<|d_<|a_<|q_ 1 rfl<|g_<|c_<|m_<|E_<|h_ nofun<|h_ nofun<|E_<|h_ nofun<|f_ (rs := [.tmp 2]) rfl (RV.tmp rfl RV.nil) (()) sn_<|ac_ fun he => ?_
   obtain ⟨g1, g2, g3⟩ := he.os.each y hlt
   have g4 := he.os.rise y hlt
   omega
  intro hc42
  refine qs_ 1 rfl<|r_ rfl (l_ (C := int (l.os[y]'hlt).stamp) (i_ tabOk rfl rfl l0_ List.not_mem_nil rfl) rfl) hx9 rfl rfl<|qs_ 3 rfl<|aT_ (t := 47) rfl ?_ ?_
  ·intro hc47
   refine qs_ 9 rfl<|Q_<|c_<|M_ rfl<|d_<|a_<|q_ 1 rfl<|g_<|c_<|m_<|E_<|h_ nofun<|h_ nofun<|E_<|h_ nofun<|f_ (rs := [.tmp 2]) rfl (RV.tmp rfl RV.nil) (()) sn_<|ac_ fun he => ?_
   obtain ⟨g1, g2, g3⟩ := he.os.each y hlt
   have g4 := he.os.rise y hlt
   omega
  intro hc47
  refine qs_ 1 rfl<|r_ rfl (l_ (C := int (l.os[y]'hlt).result) (i_ tabOk rfl rfl l0_ List.not_mem_nil rfl) rfl) hx9 rfl rfl<|qs_ 3 rfl<|aT_ (t := 52) rfl ?_ ?_
  ·intro hc52
   refine qs_ 4 rfl<|Q_<|c_<|M_ rfl<|d_<|a_<|q_ 1 rfl<|g_<|c_<|m_<|E_<|h_ nofun<|h_ nofun<|E_<|h_ nofun<|f_ (rs := [.tmp 2]) rfl (RV.tmp rfl RV.nil) (()) sn_<|ac_ fun he => ?_
   obtain ⟨g1, g2, g3⟩ := he.os.each y hlt
   have g4 := he.os.rise y hlt
   omega
  intro hc52
  refine qs_ 1 rfl<|r_ rfl (l_ (C := int (l.os[y]'hlt).result) (i_ tabOk rfl rfl l0_ List.not_mem_nil rfl) rfl) hx9 rfl rfl<|qs_ 2 rfl<|Q_<|c_<|o_ rfl ?_ ?_
  rotate_left
  ·intro hc56
   refine p_<|u_<|c_<|a_<|b_ (C_ rfl rfl (by simp only [InR, lo, hi]; omega)) rfl rfl ?_
   refine q_ 1 rfl<|g_ ?_
   have hok : OcR (l.os[y]'hlt) := ⟨by omega, by omega, by omega⟩
   have hri : 0 < y → (l.os[y - 1]'(by omega)).client < (l.os[y]'hlt).client := fun h => by omega
   refine G_ (y + 1) (by omega) (⟨by omega, fun j h h2 => by rcases Nat.lt_or_ge j y with h3 | h3; exact hy.2 j h h3; obtain rfl : j = y := (by omega); exact ⟨hok, hri⟩⟩) (by exact ⟨rfl, rfl, rfl, rfl, trivial⟩) (sk_ sr_)
  intro hc56
  refine d_<|a_<|q_ 1 rfl<|g_<|c_<|m_<|E_<|h_ nofun<|h_ nofun<|E_<|h_ nofun<|f_ (rs := [.tmp 2]) rfl (RV.tmp rfl RV.nil) (()) sn_<|ac_ fun he => ?_
  obtain ⟨g1, g2, g3⟩ := he.os.each y hlt
  have g4 := he.os.rise y hlt
  omega
 intro hc15
 refine qs_ 1 rfl<|hx_ fun hx9 =>r_ rfl (l_ (C := .sl 3 (l.os.map Oc.abs)) (i_ tabOk rfl rfl l1_ List.not_mem_nil rfl) rfl) hx9 rfl rfl<|qs_ 1 rfl<|r_ rfl (aC_ rfl rfl (by simp only [InR, lo, hi]; omega)) hx9 rfl rfl ?_
 refine r_ rfl (J_ (q := y - 1) tabOk Tryz.underlying28 rfl rfl rfl (by omega) (aN_ (by omega)) rfl rfl) hx9 rfl rfl ?_
 refine r_ rfl (ai_ tabOk rfl rfl rfl rfl rfl) (by simp) rfl rfl ?_
 refine r_ rfl (l_ (C := int (l.os[y - 1]'(by omega)).client) (aJ_ tabOk rfl rfl rfl) rfl) hx9 rfl rfl ?_
 refine qs_ 1 rfl<|r_ rfl (l_ (C := int (l.os[y]'hlt).client) (i_ tabOk rfl rfl l0_ List.not_mem_nil rfl) rfl) hx9 rfl rfl<|qs_ 3 rfl<|aT_ (t := 27) rfl ?_ ?_
 ·intro hc27
  refine qs_ 29 rfl<|Q_<|c_<|M_ rfl<|d_<|a_<|q_ 1 rfl<|g_<|c_<|m_<|E_<|h_ nofun<|h_ nofun<|E_<|h_ nofun<|f_ (rs := [.tmp 2]) rfl (RV.tmp rfl RV.nil) (()) sn_<|ac_ fun he => ?_
  obtain ⟨g1, g2, g3⟩ := he.os.each y hlt
  have g4 := he.os.rise y hlt
  omega
 intro hc27
 refine qs_ 1 rfl<|r_ rfl (l_ (C := int (l.os[y]'hlt).client) (i_ tabOk rfl rfl l0_ List.not_mem_nil rfl) rfl) hx9 rfl rfl<|qs_ 3 rfl<|aT_ (t := 32) rfl ?_ ?_
 ·intro hc32
  refine qs_ 24 rfl<|Q_<|c_<|M_ rfl<|d_<|a_<|q_ 1 rfl<|g_<|c_<|m_<|E_<|h_ nofun<|h_ nofun<|E_<|h_ nofun<|f_ (rs := [.tmp 2]) rfl (RV.tmp rfl RV.nil) (()) sn_<|ac_ fun he => ?_
  obtain ⟨g1, g2, g3⟩ := he.os.each y hlt
  have g4 := he.os.rise y hlt
  omega
 intro hc32
 refine qs_ 1 rfl<|r_ rfl (l_ (C := int (l.os[y]'hlt).client) (i_ tabOk rfl rfl l0_ List.not_mem_nil rfl) rfl) hx9 rfl rfl<|qs_ 3 rfl<|aT_ (t := 37) rfl ?_ ?_
 ·intro hc37
  refine qs_ 19 rfl<|Q_<|c_<|M_ rfl<|d_<|a_<|q_ 1 rfl<|g_<|c_<|m_<|E_<|h_ nofun<|h_ nofun<|E_<|h_ nofun<|f_ (rs := [.tmp 2]) rfl (RV.tmp rfl RV.nil) (()) sn_<|ac_ fun he => ?_
  obtain ⟨g1, g2, g3⟩ := he.os.each y hlt
  have g4 := he.os.rise y hlt
  omega
 intro hc37
 refine qs_ 1 rfl<|r_ rfl (l_ (C := int (l.os[y]'hlt).stamp) (i_ tabOk rfl rfl l0_ List.not_mem_nil rfl) rfl) hx9 rfl rfl<|qs_ 3 rfl<|aT_ (t := 42) rfl ?_ ?_
 ·intro hc42
  refine qs_ 14 rfl<|Q_<|c_<|M_ rfl<|d_<|a_<|q_ 1 rfl<|g_<|c_<|m_<|E_<|h_ nofun<|h_ nofun<|E_<|h_ nofun<|f_ (rs := [.tmp 2]) rfl (RV.tmp rfl RV.nil) (()) sn_<|ac_ fun he => ?_
  obtain ⟨g1, g2, g3⟩ := he.os.each y hlt
  have g4 := he.os.rise y hlt
  omega
 intro hc42
 refine qs_ 1 rfl<|r_ rfl (l_ (C := int (l.os[y]'hlt).stamp) (i_ tabOk rfl rfl l0_ List.not_mem_nil rfl) rfl) hx9 rfl rfl<|qs_ 3 rfl<|aT_ (t := 47) rfl ?_ ?_
 ·intro hc47
  refine qs_ 9 rfl<|Q_<|c_<|M_ rfl<|d_<|a_<|q_ 1 rfl<|g_<|c_<|m_<|E_<|h_ nofun<|h_ nofun<|E_<|h_ nofun<|f_ (rs := [.tmp 2]) rfl (RV.tmp rfl RV.nil) (()) sn_<|ac_ fun he => ?_
  obtain ⟨g1, g2, g3⟩ := he.os.each y hlt
  have g4 := he.os.rise y hlt
  omega
 intro hc47
 refine qs_ 1 rfl<|r_ rfl (l_ (C := int (l.os[y]'hlt).result) (i_ tabOk rfl rfl l0_ List.not_mem_nil rfl) rfl) hx9 rfl rfl<|qs_ 3 rfl<|aT_ (t := 52) rfl ?_ ?_
 ·intro hc52
  refine qs_ 4 rfl<|Q_<|c_<|M_ rfl<|d_<|a_<|q_ 1 rfl<|g_<|c_<|m_<|E_<|h_ nofun<|h_ nofun<|E_<|h_ nofun<|f_ (rs := [.tmp 2]) rfl (RV.tmp rfl RV.nil) (()) sn_<|ac_ fun he => ?_
  obtain ⟨g1, g2, g3⟩ := he.os.each y hlt
  have g4 := he.os.rise y hlt
  omega
 intro hc52
 refine qs_ 1 rfl<|r_ rfl (l_ (C := int (l.os[y]'hlt).result) (i_ tabOk rfl rfl l0_ List.not_mem_nil rfl) rfl) hx9 rfl rfl<|qs_ 2 rfl<|Q_<|c_<|o_ rfl ?_ ?_
 rotate_left
 ·intro hc56
  refine p_<|u_<|c_<|a_<|b_ (C_ rfl rfl (by simp only [InR, lo, hi]; omega)) rfl rfl ?_
  refine q_ 1 rfl<|g_ ?_
  have hok : OcR (l.os[y]'hlt) := ⟨by omega, by omega, by omega⟩
  have hri : 0 < y → (l.os[y - 1]'(by omega)).client < (l.os[y]'hlt).client := fun h => by omega
  refine G_ (y + 1) (by omega) (⟨by omega, fun j h h2 => by rcases Nat.lt_or_ge j y with h3 | h3; exact hy.2 j h h3; obtain rfl : j = y := (by omega); exact ⟨hok, hri⟩⟩) (by exact ⟨rfl, rfl, rfl, rfl, trivial⟩) (sk_ sr_)
 intro hc56
 refine d_<|a_<|q_ 1 rfl<|g_<|c_<|m_<|E_<|h_ nofun<|h_ nofun<|E_<|h_ nofun<|f_ (rs := [.tmp 2]) rfl (RV.tmp rfl RV.nil) (()) sn_<|ac_ fun he => ?_
 obtain ⟨g1, g2, g3⟩ := he.os.each y hlt
 have g4 := he.os.rise y hlt
 omega
end
section
variable {l a b : Lg} {x : Ltr} {o : Oc} {k n : Int} {s : ByteArray} {c : Core} {e : Ent} {p : Nat} {es : List Ent} {e1 e2 : Value}
set_option maxHeartbeats 2000000 in
theorem ku_ (he : isIf e1) (hr : isIf e2) (hes : ∀ e ∈ es, EnIns e) (hl : l.Wf) (h1 : l.ls.length ≤ 500) (h2 : l.os.length ≤ 500) (h3 : es.length ≤ 300) (hsq : l.seq ≤ 1000000000) : Spec Tryz.prog 27 [.agg l.abs, entsR es, int n] (globs e1 e2) (fun _ : Unit => []) (fun _ => .tup [.agg (l.foldF es n).1.abs, errsR (l.foldF es n).2]) := by
 have hseq0 : -9223372036854775808 ≤ l.seq ∧ l.seq ≤ 9223372036854775807 := hl.seq
 have hseq1 := dt_ n l es
 refine F_ Tryz.func27 rfl Tryz.ntmps27 rfl fun G w =>d_<|a_<|eb_ (R_ (cs := l.abs) rfl) rfl rfl fun b3=>?_
 refine eb_ (H_ tabOk rfl) rfl rfl fun b6=>?_
 refine q_ 1 rfl<|g_<|c_<|d_<|a_<|q_ 1 rfl<|b_ (B_ rfl Tryz.underlying26 (List.length_map _)) rfl rfl<|eb_ (ib_ (m := es.length) tabOk Tryz.underlying50 rfl rfl rfl rfl rfl rfl (by unfold maxLen; omega) (by rw [show Tryz.prog.bytesOf 35 = 8 by kernel_rfl]; omega)) rfl rfl fun v13=>?_
 rw [show List.replicate es.length [Abs.v (Value.int .i64 0)] = errsA n l es 0 from (List.nil_append _).symm]
 refine q_ 1 rfl<|g_<|c_<|d_<|d_<|a_<|q_ 1 rfl<|b_ (B_ rfl Tryz.underlying26 (List.length_map _)) rfl rfl<|q_ 1 rfl<|g_<|c_<|y_<|ae_ (ι := Nat) (fun z => (own 35 1 v13 (errsA n l es (z)) :: .blk b6 30 (zabs [.int .i64 0, .int .i64 0, .slice none 0 0, .slice none 0 0]) :: .blk b3 30 (Lg.goes n l (es.take (z))).1.abs :: (globs e1 e2))) (fun z => [(2, int n), (3, ptr b3), (6, ptr b6), (8, .v v13), (14, entsR es), (15, int (es.length : Nat)), (16, int (z : Nat))]) (fun z => z ≤ es.length) (fun z => es.length - z) (0) (Nat.zero_le _) (by exact ⟨rfl, rfl, rfl, rfl, rfl, rfl, rfl, trivial⟩) sr_ ?_
 intro z hz
 refine d_<|a_<|q_ 1 rfl<|g_<|c_<|d_<|o_ rfl ?_ ?_
 rotate_left
 ·intro hc17
  obtain rfl : z = es.length := by omega
  refine W_<|h_ nofun<|h_ nofun<|V_<|c_<|d_ ?_
  rw [kQ_]
  have htk : es.take es.length = es := List.take_length
  rw [htk]
  refine a_<|q_ 1 rfl<|b_ (l_ (C := int (Lg.goes n l es).1.seq) (i_ tabOk rfl rfl l2_ List.not_mem_nil rfl) rfl) rfl rfl<|b_ (C_ rfl rfl (by simp only [InR, lo, hi]; omega)) rfl rfl ?_
  refine q_ 1 rfl<|e_ (n_ (L' := (l.foldF es n).1.abs) tabOk rfl rfl rfl u2_ rfl (Nat.le_of_ble_eq_true rfl) rfl rfl) rfl rfl<|g_<|c_<|d_<|a_<|b_ (l_ (C := .agg (l.foldF es n).1.abs) (x_ tabOk rfl rfl rfl l2_ List.not_mem_nil (Nat.le_of_ble_eq_true rfl)) rfl) rfl rfl<|q_ 1 rfl<|e_ (n_ (L' := (l.foldF es n).1.abs) tabOk rfl rfl rfl u1_ rfl (Nat.le_of_ble_eq_true rfl) rfl (by exact t_ rfl)) rfl rfl ?_
  refine q_ 1 rfl<|g_<|c_<|m_<|bi_ [] (t := 7) rfl rfl<|f_ (rs := [.cell 6 30, .tmp 7]) rfl (RV.cell rfl (RV.cellA tabOk rfl rfl l0_ (by rfl)) (RV.tmp rfl RV.nil)) (()) sn_ ?_
  exact rfl
 intro hc17
 have hlt : z < es.length := by omega
 have hen := hes _ (List.getElem_mem hlt)
 have hgf := ea_ n l (es.take z)
 rw [List.length_take] at hgf
 refine p_<|c_<|d_<|y_<|d_<|a_<|q_ 1 rfl<|b_ (J_ tabOk Tryz.underlying26 rfl rfl rfl rfl (aN_ (by omega)) rfl rfl) rfl rfl ?_
 refine b_ (Y_ tabOk rfl rfl rfl rfl) rfl rfl<|eb_ (H_ tabOk rfl) rfl rfl fun b10=>?_
 refine q_ 1 rfl<|e_ (n_ (L' := entA (es[z]'hlt)) tabOk rfl rfl rfl u0_ rfl (Nat.le_of_ble_eq_true rfl) rfl (by exact t_ rfl)) rfl rfl ?_
 refine g_<|c_<|a_<|q_ 2 rfl<|b_ (l_ (C := .agg (Lg.goes n l (es.take (z))).1.abs) (x_ tabOk rfl rfl rfl l3_ List.not_mem_nil (Nat.le_of_ble_eq_true rfl)) rfl) rfl rfl<|b_ (l_ (C := .agg (entA (es[z]'hlt))) (x_ tabOk rfl rfl rfl l0_ List.not_mem_nil (Nat.le_of_ble_eq_true rfl)) rfl) rfl rfl<|q_ 1 rfl<|s_ (do_s (l := (Lg.goes n l (es.take (z))).1) (e := (es[z]'hlt)) (n := n) he hr hen.mask ⟨by omega, by omega⟩ (hM_ n hl) hen.a (by have := hen.text; unfold maxLen at this; omega)) Casts.refl (by kernel_rfl) rfl rfl rfl ?_
 refine ap_<|fun _=>q_ 3 rfl<|e_ (n_ (L' := (((Lg.goes n l (es.take (z))).1.doF (es[z]'hlt) n)).1.abs) tabOk rfl rfl rfl u3_ rfl (Nat.le_of_ble_eq_true rfl) rfl (by exact t_ rfl)) rfl rfl ?_
 refine b_ (bh_ (q := z) tabOk Tryz.underlying50 rfl rfl (.inl i1_) rfl rfl (by rw [iM_ (by omega)]; exact hlt) rfl rfl) rfl rfl ?_
 refine e_ (dT_ (q := z) (ys := [int (((Lg.goes n l (es.take (z))).1.doF (es[z]'hlt) n)).2]) tabOk rfl rfl rfl u1_ rfl rfl rfl (by rw [iM_ (by omega)]; exact hlt) rfl) rfl rfl ?_
 refine g_<|u_<|c_<|a_<|b_ (C_ rfl rfl (by simp only [InR, lo, hi]; omega)) rfl rfl ?_
 refine q_ 1 rfl<|g_<|G_ (z + 1) (by omega) (by omega) (by exact ⟨rfl, rfl, rfl, rfl, rfl, rfl, rfl, trivial⟩) (by rw [errs_set hlt, eO_ hlt]; repeat (first | exact List.nil_sublist _ | exact List.Sublist.refl _ | apply List.Sublist.cons_cons | apply List.Sublist.cons))
end
section
variable {l : Lg} {x y : Ltr} {o q : Oc} {a b c k n : Int} {ls : List Ltr} {os : List Oc} {m : List UInt8}
theorem cf_  : Spec Tryz.prog 80 [int a, int b, int c] [] (fun _ : Unit => []) (fun _ => boo (decide (b ≤ a ∧ a ≤ c))) := by
 refine F_ Tryz.func80 rfl Tryz.ntmps80 rfl fun G w =>d_<|a_<|q_ 1 rfl<|g_<|c_<|d_<|a_<|q_ 4 rfl<|z_ (t := 10) rfl ?_ ?_
 ·intro hc10
  refine q_ 5 rfl<|g_<|c_<|m_<|f_ (rs := [.tmp 6]) rfl (RV.tmp rfl RV.nil) (()) sn_<|congrArg (fun b => Abs.v (Value.bool b)) ?_
  (rw [decide_eq_decide]; omega)
 intro hc10
 refine q_ 5 rfl<|g_<|c_<|m_<|f_ (rs := [.tmp 6]) rfl (RV.tmp rfl RV.nil) (()) sn_<|congrArg (fun b => Abs.v (Value.bool b)) ?_
 (refine (decide_eq_false ?_).symm; omega)
theorem lessL_s  : Spec Tryz.prog 78 [.agg (ltrA x), .agg (ltrA y)] [] (fun _ : Unit => []) (fun _ => boo (decide (ltB x.name y.name))) := by
 refine F_ Tryz.func78 rfl Tryz.ntmps78 rfl fun G w =>d_<|a_<|eb_ (R_ (cs := ltrA x) rfl) rfl rfl fun b2=>?_
 refine eb_ (R_ (cs := ltrA y) rfl) rfl rfl fun b3=>?_
 exact q_ 1 rfl<|g_<|c_<|d_<|a_<|q_ 1 rfl<|b_ (l_ (C := st x.name) (i_ tabOk rfl rfl l1_ List.not_mem_nil rfl) rfl) rfl rfl<|q_ 1 rfl<|b_ (l_ (C := st y.name) (i_ tabOk rfl rfl l0_ List.not_mem_nil rfl) rfl) rfl rfl<|b_ (Val.ltS rfl rfl) rfl rfl<|q_ 1 rfl<|g_<|c_<|m_<|f_ (rs := [.tmp 4]) rfl (RV.tmp rfl RV.nil) (()) sn_<|rfl
theorem lessO_s  : Spec Tryz.prog 79 [.agg o.abs, .agg q.abs] [] (fun _ : Unit => []) (fun _ => boo (decide (o.client < q.client))) := by
 refine F_ Tryz.func79 rfl Tryz.ntmps79 rfl fun G w =>d_<|a_<|eb_ (R_ (cs := o.abs) rfl) rfl rfl fun b2=>?_
 refine eb_ (R_ (cs := q.abs) rfl) rfl rfl fun b3=>?_
 exact q_ 1 rfl<|g_<|c_<|d_<|a_<|q_ 1 rfl<|b_ (l_ (C := int o.client) (i_ tabOk rfl rfl l1_ List.not_mem_nil rfl) rfl) rfl rfl<|q_ 1 rfl<|b_ (l_ (C := int q.client) (i_ tabOk rfl rfl l0_ List.not_mem_nil rfl) rfl) rfl rfl<|q_ 2 rfl<|g_<|c_<|m_<|f_ (rs := [.tmp 4]) rfl (RV.tmp rfl RV.nil) (()) sn_<|rfl
theorem fp_  : Spec Tryz.prog 83 [.agg (ltrA x)] [] (fun _ : Unit => []) (fun _ => boo (decide (LtR x))) := by
 refine F_ Tryz.func83 rfl Tryz.ntmps83 rfl fun G w =>d_<|a_<|eb_ (R_ (cs := ltrA x) rfl) rfl rfl fun b1=>?_
 refine q_ 1 rfl<|g_<|c_<|d_<|a_<|q_ 1 rfl<|b_ (l_ (C := st x.name) (i_ tabOk rfl rfl l0_ List.not_mem_nil rfl) rfl) rfl rfl<|s_ (iD_ (s := x.name)) Casts.refl (by kernel_rfl) rfl rfl rfl ?_
 refine ap_<|fun _=>q_ 1 rfl<|aL_ (t := 6) rfl ?_ ?_
 rotate_left
 ·intro hc6
  refine q_ 27 rfl<|g_<|c_<|m_<|f_ (rs := [.tmp 2]) rfl (RV.tmp rfl RV.nil) (()) sn_ ?_
  (refine ac_ fun he => ?_; obtain ⟨g1, g2, g3, g4, g5, g6⟩ := he; have g7 := aP_ g4; (rw [g1] at hc6; cases hc6; done))
 intro hc6
 refine q_ 1 rfl<|b_ (l_ (C := int x.state) (i_ tabOk rfl rfl l0_ List.not_mem_nil rfl) rfl) rfl rfl<|s_ (cf_ (a := x.state) (b := 1) (c := 7)) Casts.refl (by kernel_rfl) rfl rfl rfl ?_
 refine ap_<|fun _=>q_ 2 rfl<|z_ (t := 11) rfl ?_ ?_
 rotate_left
 ·intro hc11
  refine q_ 22 rfl<|g_<|c_<|m_<|f_ (rs := [.tmp 2]) rfl (RV.tmp rfl RV.nil) (()) sn_ ?_
  (refine ac_ fun he => ?_; obtain ⟨g1, g2, g3, g4, g5, g6⟩ := he; have g7 := aP_ g4; omega)
 intro hc11
 refine q_ 1 rfl<|b_ (l_ (C := int x.amount) (i_ tabOk rfl rfl l0_ List.not_mem_nil rfl) rfl) rfl rfl<|s_ (cf_ (a := x.amount) (b := 1) (c := 1099511627776)) Casts.refl (by kernel_rfl) rfl rfl rfl ?_
 refine ap_<|fun _=>q_ 2 rfl<|z_ (t := 16) rfl ?_ ?_
 rotate_left
 ·intro hc16
  refine q_ 17 rfl<|g_<|c_<|m_<|f_ (rs := [.tmp 2]) rfl (RV.tmp rfl RV.nil) (()) sn_ ?_
  (refine ac_ fun he => ?_; obtain ⟨g1, g2, g3, g4, g5, g6⟩ := he; have g7 := aP_ g4; omega)
 intro hc16
 refine q_ 1 rfl<|b_ (l_ (C := int x.due) (i_ tabOk rfl rfl l0_ List.not_mem_nil rfl) rfl) rfl rfl<|s_ (cf_ (a := x.due) (b := 0) (c := 1099511627776)) Casts.refl (by kernel_rfl) rfl rfl rfl ?_
 refine ap_<|fun _=>q_ 2 rfl<|z_ (t := 21) rfl ?_ ?_
 rotate_left
 ·intro hc21
  refine q_ 12 rfl<|g_<|c_<|m_<|f_ (rs := [.tmp 2]) rfl (RV.tmp rfl RV.nil) (()) sn_ ?_
  (refine ac_ fun he => ?_; obtain ⟨g1, g2, g3, g4, g5, g6⟩ := he; have g7 := aP_ g4; omega)
 intro hc21
 refine q_ 1 rfl<|b_ (l_ (C := st x.policy) (i_ tabOk rfl rfl l0_ List.not_mem_nil rfl) rfl) rfl rfl<|b_ (ao_ rfl Tryz.underlying9) rfl rfl<|q_ 3 rfl<|z_ (t := 27) rfl ?_ ?_
 ·intro hc27
  refine q_ 1 rfl<|b_ (l_ (C := st x.papers) (i_ tabOk rfl rfl l0_ List.not_mem_nil rfl) rfl) rfl rfl<|b_ (ao_ rfl Tryz.underlying9) rfl rfl<|q_ 3 rfl<|g_<|c_<|m_<|f_ (rs := [.tmp 2]) rfl (RV.tmp rfl RV.nil) (()) sn_ ?_
  (refine congrArg (fun b => Abs.v (Value.bool b)) ?_; rw [decide_eq_decide]; exact ⟨fun h => ⟨hc6, hc11, hc16, aX_ hc21.1 hc21.2, by omega, by omega⟩, fun h => by have := h.papers; omega⟩)
 intro hc27
 refine q_ 6 rfl<|g_<|c_<|m_<|f_ (rs := [.tmp 2]) rfl (RV.tmp rfl RV.nil) (()) sn_ ?_
 (refine ac_ fun he => ?_; obtain ⟨g1, g2, g3, g4, g5, g6⟩ := he; have g7 := aP_ g4; omega)
theorem gJ_  : Spec Tryz.prog 85 [.agg o.abs] [] (fun _ : Unit => []) (fun _ => boo (decide (OcR o))) := by
 refine F_ Tryz.func85 rfl Tryz.ntmps85 rfl fun G w =>d_<|a_<|eb_ (R_ (cs := o.abs) rfl) rfl rfl fun b1=>?_
 refine q_ 1 rfl<|g_<|c_<|d_<|a_<|q_ 1 rfl<|b_ (l_ (C := int o.client) (i_ tabOk rfl rfl l0_ List.not_mem_nil rfl) rfl) rfl rfl<|s_ (cf_ (a := o.client) (b := 0) (c := 63)) Casts.refl (by kernel_rfl) rfl rfl rfl ?_
 refine ap_<|fun _=>q_ 1 rfl<|z_ (t := 6) rfl ?_ ?_
 rotate_left
 ·intro hc6
  refine q_ 10 rfl<|g_<|c_<|m_<|f_ (rs := [.tmp 2]) rfl (RV.tmp rfl RV.nil) (()) sn_ ?_
  (refine ac_ fun he => ?_; obtain ⟨g1, g2, g3⟩ := he; omega)
 intro hc6
 refine q_ 1 rfl<|b_ (l_ (C := int o.stamp) (i_ tabOk rfl rfl l0_ List.not_mem_nil rfl) rfl) rfl rfl<|s_ (cf_ (a := o.stamp) (b := 1) (c := 1099511627776)) Casts.refl (by kernel_rfl) rfl rfl rfl ?_
 refine ap_<|fun _=>q_ 2 rfl<|z_ (t := 11) rfl ?_ ?_
 rotate_left
 ·intro hc11
  refine q_ 5 rfl<|g_<|c_<|m_<|f_ (rs := [.tmp 2]) rfl (RV.tmp rfl RV.nil) (()) sn_ ?_
  (refine ac_ fun he => ?_; obtain ⟨g1, g2, g3⟩ := he; omega)
 intro hc11
 refine q_ 1 rfl<|b_ (l_ (C := int o.result) (i_ tabOk rfl rfl l0_ List.not_mem_nil rfl) rfl) rfl rfl<|s_ (cf_ (a := o.result) (b := 0) (c := 99)) Casts.refl (by kernel_rfl) rfl rfl rfl ?_
 refine ap_<|fun _=>q_ 2 rfl<|g_<|c_<|m_<|f_ (rs := [.tmp 2]) rfl (RV.tmp rfl RV.nil) (()) sn_ ?_
 (refine congrArg (fun b => Abs.v (Value.bool b)) ?_; rw [decide_eq_decide]; exact ⟨fun h => ⟨hc6, hc11, h⟩, fun h => h.result⟩)
set_option maxHeartbeats 1000000 in
theorem risesL_s  : Spec Tryz.prog 82 [.sl 6 (ls.map ltrA), .fn (.func 78) [] [], .fn (.func 83) [] []] [] (fun _ : Unit => []) (fun _ => boo (decide (LtsR ls))) := by
 refine F_ Tryz.func82 rfl Tryz.ntmps82 rfl fun G w =>d_<|a_<|q_ 1 rfl<|g_<|c_<|d_<|d_<|a_<|q_ 1 rfl<|b_ (B_ rfl Tryz.underlying27 (List.length_map _)) rfl rfl<|q_ 1 rfl<|g_<|c_<|y_<|bk_ (i := 9) rfl fun hrow => ?_
 rw [List.length_map] at hrow
 unfold maxLen at hrow
 refine ae_ (ι := Nat) (fun z => []) (fun z => [(0, .sl 6 (ls.map ltrA)), (1, .fn (.func 78) [] []), (2, .fn (.func 83) [] []), (9, .sl 6 (ls.map ltrA)), (10, int (ls.length : Nat)), (11, int (z : Nat))]) (fun z => z ≤ ls.length ∧ ∀ j (h : j < ls.length), j < z → LtR ls[j] ∧ (0 < j → ltB (ls[j - 1]'(by omega)).name ls[j].name)) (fun z => ls.length - z) (0) (⟨Nat.zero_le _, fun j h h2 => by omega⟩) (by exact ⟨rfl, rfl, rfl, rfl, rfl, rfl, trivial⟩) sn_ ?_
 intro z hz
 refine d_<|a_<|q_ 1 rfl<|g_<|c_<|d_<|o_ rfl ?_ ?_
 rotate_left
 ·intro hc12
  refine W_<|h_ nofun<|h_ nofun<|V_<|c_<|d_<|a_<|q_ 1 rfl<|g_<|c_<|m_<|f_ (rs := [.tmp 6]) rfl (RV.tmp rfl RV.nil) (()) sn_<|congrArg (fun b => Abs.v (Value.bool b)) (Eq.symm (decide_eq_true ?_))
  exact ⟨fun j h => (hz.2 j h (by omega)).1, fun j h => (hz.2 j h (by omega)).2⟩
 intro hc12
 have hlt : z < ls.length := by omega
 refine p_<|c_<|d_<|y_<|d_<|a_<|q_ 1 rfl<|b_ (J_ tabOk Tryz.underlying27 rfl rfl rfl rfl (aN_ (by omega)) rfl rfl) rfl rfl ?_
 refine b_ (Y_ tabOk rfl rfl rfl rfl) rfl rfl<|eb_ (H_ tabOk rfl) rfl rfl fun b8=>?_
 refine q_ 1 rfl<|e_ (n_ (L' := ltrA (ls[z]'hlt)) tabOk rfl rfl rfl u0_ rfl (Nat.le_of_ble_eq_true rfl) rfl (by exact t_ rfl)) rfl rfl ?_
 refine g_<|c_<|d_<|aa_ [] (.q 0 (.q 1 (.q 2 (.q 3 (.q 4 (.q 5 (.q 6 (.q 7 (.q 8 (.q 9 (.e 10 (.q 11 (.q 12 (.q 13 (.q 14 (.q 15 (.e 16 (.q 17 (.q 18 .nil))))))))))))))))))) (by kernel_rfl) (by kernel_rfl) ?_
 refine qs_ 3 rfl<|aT_ (t := 18) rfl ?_ ?_
 rotate_left
 ·intro hc18
  iterate 7 refine cD_ rfl rfl rfl ?_
  refine cW_ rfl rfl rfl<|qs_ 4 rfl<|hx_ fun hx9 =>r_ rfl (l_ (C := .agg (ltrA (ls[z]'hlt))) (x_ tabOk rfl rfl rfl l0_ List.not_mem_nil (Nat.le_of_ble_eq_true rfl)) rfl) hx9 rfl rfl<|a4_ rfl (fp_ (x := (ls[z]'hlt))) (by simp [mids, It.mids]) rfl Casts.refl (by kernel_rfl) rfl rfl rfl ?_
  refine ap_<|fun _=>r_ rfl (aH_ rfl) (by simp) rfl rfl ?_
  refine qs_ 1 rfl<|Q_<|c_<|o_ rfl ?_ ?_
  rotate_left
  ·intro hc34
   refine p_<|u_<|c_<|a_<|b_ (C_ rfl rfl (by simp only [InR, lo, hi]; omega)) rfl rfl ?_
   refine q_ 1 rfl<|g_<|G_ (z + 1) (by omega) (⟨by omega, fun j h h2 => by rcases Nat.lt_or_ge j z with h3 | h3; exact hz.2 j h h3; obtain rfl : j = z := (by omega); exact ⟨Classical.not_not.1 hc34, fun h0 => by omega⟩⟩) (by exact ⟨rfl, rfl, rfl, rfl, rfl, rfl, trivial⟩) sn_
  intro hc34
  refine d_<|a_<|q_ 1 rfl<|g_<|c_<|m_<|E_<|h_ nofun<|h_ nofun<|E_<|h_ nofun<|f_ (rs := [.tmp 6]) rfl (RV.tmp rfl RV.nil) (()) sn_<|ac_ fun he => ?_
  have g1 := he.each z hlt
  have g2 := he.rise z hlt
  exact hc34 g1
 intro hc18
 refine qs_ 3 rfl<|hx_ fun hx9 =>r_ rfl (aC_ rfl rfl (by simp only [InR, lo, hi]; omega)) hx9 rfl rfl ?_
 refine r_ rfl (J_ (q := z - 1) tabOk Tryz.underlying27 rfl rfl rfl (by omega) (aN_ (by omega)) rfl rfl) hx9 rfl rfl ?_
 refine r_ rfl (l_ (C := .agg (ltrA (ls[z - 1]'(by omega)))) (Y_ tabOk rfl rfl rfl rfl) rfl) hx9 rfl rfl ?_
 refine r_ rfl (l_ (C := .agg (ltrA (ls[z]'hlt))) (x_ tabOk rfl rfl rfl l0_ List.not_mem_nil (Nat.le_of_ble_eq_true rfl)) rfl) hx9 rfl rfl<|a4_ rfl (lessL_s (x := (ls[z - 1]'(by omega))) (y := (ls[z]'hlt))) (by simp [mids, It.mids]) rfl Casts.refl (by kernel_rfl) rfl rfl rfl ?_
 refine ap_<|fun _=>r_ rfl (aH_ rfl) (by simp) rfl rfl ?_
 refine qs_ 2 rfl<|aT_ (t := 29) rfl ?_ ?_
 ·intro hc29
  iterate 2 refine cD_ rfl rfl rfl ?_
  refine cW_ rfl rfl rfl<|qs_ 2 rfl<|Q_<|c_<|M_ rfl<|d_<|a_<|q_ 1 rfl<|g_<|c_<|m_<|E_<|h_ nofun<|h_ nofun<|E_<|h_ nofun<|f_ (rs := [.tmp 6]) rfl (RV.tmp rfl RV.nil) (()) sn_<|ac_ fun he => ?_
  have g1 := he.each z hlt
  have g2 := he.rise z hlt
  exact hc29 (g2 (by omega))
 intro hc29
 refine qs_ 1 rfl<|hx_ fun hx9 =>r_ rfl (l_ (C := .agg (ltrA (ls[z]'hlt))) (x_ tabOk rfl rfl rfl l0_ List.not_mem_nil (Nat.le_of_ble_eq_true rfl)) rfl) hx9 rfl rfl<|a4_ rfl (fp_ (x := (ls[z]'hlt))) (by simp [mids, It.mids]) rfl Casts.refl (by kernel_rfl) rfl rfl rfl ?_
 refine ap_<|fun _=>r_ rfl (aH_ rfl) (by simp) rfl rfl ?_
 refine qs_ 1 rfl<|Q_<|c_<|o_ rfl ?_ ?_
 rotate_left
 ·intro hc34
  refine p_<|u_<|c_<|a_<|b_ (C_ rfl rfl (by simp only [InR, lo, hi]; omega)) rfl rfl ?_
  refine q_ 1 rfl<|g_<|G_ (z + 1) (by omega) (⟨by omega, fun j h h2 => by rcases Nat.lt_or_ge j z with h3 | h3; exact hz.2 j h h3; obtain rfl : j = z := (by omega); exact ⟨Classical.not_not.1 hc34, fun h0 => by exact Classical.not_not.1 hc29⟩⟩) (by exact ⟨rfl, rfl, rfl, rfl, rfl, rfl, trivial⟩) sn_
 intro hc34
 refine d_<|a_<|q_ 1 rfl<|g_<|c_<|m_<|E_<|h_ nofun<|h_ nofun<|E_<|h_ nofun<|f_ (rs := [.tmp 6]) rfl (RV.tmp rfl RV.nil) (()) sn_<|ac_ fun he => ?_
 have g1 := he.each z hlt
 have g2 := he.rise z hlt
 exact hc34 g1
set_option maxHeartbeats 1000000 in
theorem risesO_s  : Spec Tryz.prog 84 [.sl 3 (os.map Oc.abs), .fn (.func 79) [] [], .fn (.func 85) [] []] [] (fun _ : Unit => []) (fun _ => boo (decide (OcsR os))) := by
 refine F_ Tryz.func84 rfl Tryz.ntmps84 rfl fun G w =>d_<|a_<|q_ 1 rfl<|g_<|c_<|d_<|d_<|a_<|q_ 1 rfl<|b_ (B_ rfl Tryz.underlying28 (List.length_map _)) rfl rfl<|q_ 1 rfl<|g_<|c_<|y_<|bk_ (i := 9) rfl fun hrow => ?_
 rw [List.length_map] at hrow
 unfold maxLen at hrow
 refine ae_ (ι := Nat) (fun z => []) (fun z => [(0, .sl 3 (os.map Oc.abs)), (1, .fn (.func 79) [] []), (2, .fn (.func 85) [] []), (9, .sl 3 (os.map Oc.abs)), (10, int (os.length : Nat)), (11, int (z : Nat))]) (fun z => z ≤ os.length ∧ ∀ j (h : j < os.length), j < z → OcR os[j] ∧ (0 < j → (os[j - 1]'(by omega)).client < os[j].client)) (fun z => os.length - z) (0) (⟨Nat.zero_le _, fun j h h2 => by omega⟩) (by exact ⟨rfl, rfl, rfl, rfl, rfl, rfl, trivial⟩) sn_ ?_
 intro z hz
 refine d_<|a_<|q_ 1 rfl<|g_<|c_<|d_<|o_ rfl ?_ ?_
 rotate_left
 ·intro hc12
  refine W_<|h_ nofun<|h_ nofun<|V_<|c_<|d_<|a_<|q_ 1 rfl<|g_<|c_<|m_<|f_ (rs := [.tmp 6]) rfl (RV.tmp rfl RV.nil) (()) sn_<|congrArg (fun b => Abs.v (Value.bool b)) (Eq.symm (decide_eq_true ?_))
  exact ⟨fun j h => (hz.2 j h (by omega)).1, fun j h => (hz.2 j h (by omega)).2⟩
 intro hc12
 have hlt : z < os.length := by omega
 refine p_<|c_<|d_<|y_<|d_<|a_<|q_ 1 rfl<|b_ (J_ tabOk Tryz.underlying28 rfl rfl rfl rfl (aN_ (by omega)) rfl rfl) rfl rfl ?_
 refine b_ (Y_ tabOk rfl rfl rfl rfl) rfl rfl<|eb_ (H_ tabOk rfl) rfl rfl fun b8=>?_
 refine q_ 1 rfl<|e_ (n_ (L' := Oc.abs (os[z]'hlt)) tabOk rfl rfl rfl u0_ rfl (Nat.le_of_ble_eq_true rfl) rfl (by exact t_ rfl)) rfl rfl ?_
 refine g_<|c_<|d_<|aa_ [] (.q 0 (.q 1 (.q 2 (.q 3 (.q 4 (.q 5 (.q 6 (.q 7 (.q 8 (.q 9 (.e 10 (.q 11 (.q 12 (.q 13 (.q 14 (.q 15 (.e 16 (.q 17 (.q 18 .nil))))))))))))))))))) (by kernel_rfl) (by kernel_rfl) ?_
 refine qs_ 3 rfl<|aT_ (t := 18) rfl ?_ ?_
 rotate_left
 ·intro hc18
  iterate 7 refine cD_ rfl rfl rfl ?_
  refine cW_ rfl rfl rfl<|qs_ 4 rfl<|hx_ fun hx9 =>r_ rfl (l_ (C := .agg (Oc.abs (os[z]'hlt))) (x_ tabOk rfl rfl rfl l0_ List.not_mem_nil (Nat.le_of_ble_eq_true rfl)) rfl) hx9 rfl rfl<|a4_ rfl (gJ_ (o := (os[z]'hlt))) (by simp [mids, It.mids]) rfl Casts.refl (by kernel_rfl) rfl rfl rfl ?_
  refine ap_<|fun _=>r_ rfl (aH_ rfl) (by simp) rfl rfl ?_
  refine qs_ 1 rfl<|Q_<|c_<|o_ rfl ?_ ?_
  rotate_left
  ·intro hc34
   refine p_<|u_<|c_<|a_<|b_ (C_ rfl rfl (by simp only [InR, lo, hi]; omega)) rfl rfl ?_
   refine q_ 1 rfl<|g_<|G_ (z + 1) (by omega) (⟨by omega, fun j h h2 => by rcases Nat.lt_or_ge j z with h3 | h3; exact hz.2 j h h3; obtain rfl : j = z := (by omega); exact ⟨Classical.not_not.1 hc34, fun h0 => by omega⟩⟩) (by exact ⟨rfl, rfl, rfl, rfl, rfl, rfl, trivial⟩) sn_
  intro hc34
  refine d_<|a_<|q_ 1 rfl<|g_<|c_<|m_<|E_<|h_ nofun<|h_ nofun<|E_<|h_ nofun<|f_ (rs := [.tmp 6]) rfl (RV.tmp rfl RV.nil) (()) sn_<|ac_ fun he => ?_
  have g1 := he.each z hlt
  have g2 := he.rise z hlt
  exact hc34 g1
 intro hc18
 refine qs_ 3 rfl<|hx_ fun hx9 =>r_ rfl (aC_ rfl rfl (by simp only [InR, lo, hi]; omega)) hx9 rfl rfl ?_
 refine r_ rfl (J_ (q := z - 1) tabOk Tryz.underlying28 rfl rfl rfl (by omega) (aN_ (by omega)) rfl rfl) hx9 rfl rfl ?_
 refine r_ rfl (l_ (C := .agg (Oc.abs (os[z - 1]'(by omega)))) (Y_ tabOk rfl rfl rfl rfl) rfl) hx9 rfl rfl ?_
 refine r_ rfl (l_ (C := .agg (Oc.abs (os[z]'hlt))) (x_ tabOk rfl rfl rfl l0_ List.not_mem_nil (Nat.le_of_ble_eq_true rfl)) rfl) hx9 rfl rfl<|a4_ rfl (lessO_s (o := (os[z - 1]'(by omega))) (q := (os[z]'hlt))) (by simp [mids, It.mids]) rfl Casts.refl (by kernel_rfl) rfl rfl rfl ?_
 refine ap_<|fun _=>r_ rfl (aH_ rfl) (by simp) rfl rfl ?_
 refine qs_ 2 rfl<|aT_ (t := 29) rfl ?_ ?_
 ·intro hc29
  iterate 2 refine cD_ rfl rfl rfl ?_
  refine cW_ rfl rfl rfl<|qs_ 2 rfl<|Q_<|c_<|M_ rfl<|d_<|a_<|q_ 1 rfl<|g_<|c_<|m_<|E_<|h_ nofun<|h_ nofun<|E_<|h_ nofun<|f_ (rs := [.tmp 6]) rfl (RV.tmp rfl RV.nil) (()) sn_<|ac_ fun he => ?_
  have g1 := he.each z hlt
  have g2 := he.rise z hlt
  exact hc29 (g2 (by omega))
 intro hc29
 refine qs_ 1 rfl<|hx_ fun hx9 =>r_ rfl (l_ (C := .agg (Oc.abs (os[z]'hlt))) (x_ tabOk rfl rfl rfl l0_ List.not_mem_nil (Nat.le_of_ble_eq_true rfl)) rfl) hx9 rfl rfl<|a4_ rfl (gJ_ (o := (os[z]'hlt))) (by simp [mids, It.mids]) rfl Casts.refl (by kernel_rfl) rfl rfl rfl ?_
 refine ap_<|fun _=>r_ rfl (aH_ rfl) (by simp) rfl rfl ?_
 refine qs_ 1 rfl<|Q_<|c_<|o_ rfl ?_ ?_
 rotate_left
 ·intro hc34
  refine p_<|u_<|c_<|a_<|b_ (C_ rfl rfl (by simp only [InR, lo, hi]; omega)) rfl rfl ?_
  refine q_ 1 rfl<|g_<|G_ (z + 1) (by omega) (⟨by omega, fun j h h2 => by rcases Nat.lt_or_ge j z with h3 | h3; exact hz.2 j h h3; obtain rfl : j = z := (by omega); exact ⟨Classical.not_not.1 hc34, fun h0 => by exact Classical.not_not.1 hc29⟩⟩) (by exact ⟨rfl, rfl, rfl, rfl, rfl, rfl, trivial⟩) sn_
 intro hc34
 refine d_<|a_<|q_ 1 rfl<|g_<|c_<|m_<|E_<|h_ nofun<|h_ nofun<|E_<|h_ nofun<|f_ (rs := [.tmp 6]) rfl (RV.tmp rfl RV.nil) (()) sn_<|ac_ fun he => ?_
 have g1 := he.each z hlt
 have g2 := he.rise z hlt
 exact hc34 g1
set_option maxHeartbeats 1000000 in
theorem iB_ (hl : i64ok l.total) : Spec Tryz.prog 51 [.agg l.abs] [] (fun _ : Unit => []) (fun _ => int l.chk) := by
 refine F_ Tryz.func51 rfl Tryz.ntmps51 rfl fun G w =>d_<|a_<|eb_ (R_ (cs := l.abs) rfl) rfl rfl fun b1=>?_
 refine q_ 1 rfl<|g_<|c_<|d_<|a_<|q_ 1 rfl<|g_<|c_<|d_<|a_<|q_ 1 rfl<|g_<|c_<|d_<|d_<|a_<|q_ 1 rfl<|b_ (l_ (C := int l.seq) (i_ tabOk rfl rfl l0_ List.not_mem_nil rfl) rfl) rfl rfl<|s_ (cf_ (a := l.seq) (b := 0) (c := 1048576)) Casts.refl (by kernel_rfl) rfl rfl rfl ?_
 refine ap_<|fun _=>b_ (aH_ rfl) rfl rfl<|q_ 1 rfl<|z_ (t := 9) rfl ?_ ?_
 ·intro hc9
  refine q_ 31 rfl<|g_<|c_<|M_ rfl<|d_<|a_<|q_ 1 rfl<|g_<|c_<|m_<|h_ nofun<|f_ (rs := [.tmp 2]) rfl (RV.tmp rfl RV.nil) (()) sn_ ?_
  show retA [int 2] = int (if l.Right then 0 else 2)
  rw [if_neg (fun he : l.Right => by
   obtain ⟨g1, g2, g3, g4, g5, g6⟩ := he
   omega)]
  rfl
 intro hc9
 refine q_ 1 rfl<|b_ (l_ (C := int l.total) (i_ tabOk rfl rfl l0_ List.not_mem_nil rfl) rfl) rfl rfl<|s_ (mis_s (a := l.total) hl) Casts.refl (by kernel_rfl) rfl rfl rfl ?_
 refine ap_<|fun _=>b_ (aj_ rfl) rfl rfl<|q_ 2 rfl<|aL_ (t := 15) rfl ?_ ?_
 ·intro hc15
  refine q_ 25 rfl<|g_<|c_<|M_ rfl<|d_<|a_<|q_ 1 rfl<|g_<|c_<|m_<|h_ nofun<|f_ (rs := [.tmp 2]) rfl (RV.tmp rfl RV.nil) (()) sn_ ?_
  show retA [int 2] = int (if l.Right then 0 else 2)
  rw [if_neg (fun he : l.Right => by
   obtain ⟨g1, g2, g3, g4, g5, g6⟩ := he
   (rw [g3] at hc15; cases hc15; done))]
  rfl
 intro hc15
 refine q_ 1 rfl<|b_ (l_ (C := .sl 6 (l.ls.map ltrA)) (i_ tabOk rfl rfl l0_ List.not_mem_nil rfl) rfl) rfl rfl<|b_ (B_ rfl Tryz.underlying27 (List.length_map _)) rfl rfl<|q_ 3 rfl<|z_ (t := 21) rfl ?_ ?_
 ·intro hc21
  refine q_ 19 rfl<|g_<|c_<|M_ rfl<|d_<|a_<|q_ 1 rfl<|g_<|c_<|m_<|h_ nofun<|f_ (rs := [.tmp 2]) rfl (RV.tmp rfl RV.nil) (()) sn_ ?_
  show retA [int 2] = int (if l.Right then 0 else 2)
  rw [if_neg (fun he : l.Right => by
   obtain ⟨g1, g2, g3, g4, g5, g6⟩ := he
   omega)]
  rfl
 intro hc21
 refine q_ 1 rfl<|b_ (l_ (C := .sl 3 (l.os.map Oc.abs)) (i_ tabOk rfl rfl l0_ List.not_mem_nil rfl) rfl) rfl rfl<|b_ (B_ rfl Tryz.underlying28 (List.length_map _)) rfl rfl<|q_ 3 rfl<|z_ (t := 27) rfl ?_ ?_
 ·intro hc27
  refine q_ 13 rfl<|g_<|c_<|M_ rfl<|d_<|a_<|q_ 1 rfl<|g_<|c_<|m_<|h_ nofun<|f_ (rs := [.tmp 2]) rfl (RV.tmp rfl RV.nil) (()) sn_ ?_
  show retA [int 2] = int (if l.Right then 0 else 2)
  rw [if_neg (fun he : l.Right => by
   obtain ⟨g1, g2, g3, g4, g5, g6⟩ := he
   omega)]
  rfl
 intro hc27
 refine q_ 1 rfl<|b_ (l_ (C := .sl 6 (l.ls.map ltrA)) (i_ tabOk rfl rfl l0_ List.not_mem_nil rfl) rfl) rfl rfl<|q_ 1 rfl<|s_ (risesL_s (ls := l.ls)) Casts.refl (by kernel_rfl) rfl rfl rfl ?_
 refine ap_<|fun _=>b_ (aH_ rfl) rfl rfl<|q_ 2 rfl<|z_ (t := 34) rfl ?_ ?_
 ·intro hc34
  refine q_ 6 rfl<|g_<|c_<|M_ rfl<|d_<|a_<|q_ 1 rfl<|g_<|c_<|m_<|h_ nofun<|f_ (rs := [.tmp 2]) rfl (RV.tmp rfl RV.nil) (()) sn_ ?_
  show retA [int 2] = int (if l.Right then 0 else 2)
  rw [if_neg (fun he : l.Right => by
   obtain ⟨g1, g2, g3, g4, g5, g6⟩ := he
   exact hc34 g5)]
  rfl
 intro hc34
 refine q_ 1 rfl<|b_ (l_ (C := .sl 3 (l.os.map Oc.abs)) (i_ tabOk rfl rfl l0_ List.not_mem_nil rfl) rfl) rfl rfl<|q_ 1 rfl<|s_ (risesO_s (os := l.os)) Casts.refl (by kernel_rfl) rfl rfl rfl ?_
 refine ap_<|fun _=>b_ (aH_ rfl) rfl rfl<|q_ 1 rfl<|g_<|c_<|o_ rfl ?_ ?_
 rotate_left
 ·intro hc40
  refine p_<|c_<|d_<|a_<|q_ 1 rfl<|g_<|c_<|m_<|f_ (rs := [.tmp 2]) rfl (RV.tmp rfl RV.nil) (()) sn_ ?_
  show retA [int 0] = int (if l.Right then 0 else 2)
  rw [if_pos (show l.Right from ⟨Classical.not_not.1 hc40, Classical.not_not.1 hc9, by simpa using hc15, by omega, Classical.not_not.1 hc34, by omega⟩)]
  rfl
 intro hc40
 refine d_<|a_<|q_ 1 rfl<|g_<|c_<|m_<|h_ nofun<|f_ (rs := [.tmp 2]) rfl (RV.tmp rfl RV.nil) (()) sn_ ?_
 show retA [int 2] = int (if l.Right then 0 else 2)
 rw [if_neg (fun he : l.Right => by
  obtain ⟨g1, g2, g3, g4, g5, g6⟩ := he
  exact hc40 g1)]
 rfl
end
end Go.Proofs.YtickdhjljpnlpaaGreatDoor.A
