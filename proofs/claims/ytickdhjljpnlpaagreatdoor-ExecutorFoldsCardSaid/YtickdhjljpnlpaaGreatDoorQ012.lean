/-
  Packed out of the texts: CT2, EX7, EX8, EX9, EX10.
-/
import Derived.Test.YtickdhjljpnlpaaGreatDoorQ011
set_option maxRecDepth 100000
set_option linter.unusedSimpArgs false
set_option linter.unusedVariables false
namespace Go.Proofs.YtickdhjljpnlpaaGreatDoor.A
open Go.RowKit
section
variable {l : Lg} {x : Ltr} {k n : Int} {s : ByteArray} {c : Core} {e : Ent} {es : List Ent} {h : List (List Ent)} {e1 e2 : Value}
theorem rstale_s  : Spec Tryz.prog 25 [.agg l.abs, coreA c] [] (fun _ : Unit => []) (fun _ => boo (l.stale c)) := by
 refine C_ Tryz.func25 rfl Tryz.ntmps25 rfl fun G w =>d_<|a_<|eb_ (L_ (cs := l.abs) rfl) rfl rfl fun b2=>?_
 refine eb_ (L_ (cs := c.cells.map .v) rfl) rfl rfl fun b3=>?_
 refine q_ 1 rfl<|g_<|b_<|d_<|a_<|c_ (k_ (C := .agg l.abs) (x_ tabOk rfl rfl rfl l1_ List.not_mem_nil (Nat.le_of_ble_eq_true rfl)) rfl) rfl rfl<|q_ 1 rfl<|c_ (i_ tabOk rfl rfl l0_ List.not_mem_nil rfl) rfl rfl<|r_ (jm_ (l := l) (k := c.client)) Casts.refl (by kernel_rfl) rfl rfl rfl ?_
 refine ap_<|fun _=>q_ 3 rfl<|eb_ (B_ tabOk rfl) rfl rfl fun b5=>?_
 refine e_ (m_ (L' := ((l.last c.client).getD Oc.zero).abs) tabOk rfl rfl rfl u0_ rfl (Nat.le_of_ble_eq_true rfl) rfl (by exact s_ rfl)) rfl rfl ?_
 refine q_ 1 rfl<|g_<|b_<|d_<|a_<|q_ 2 rfl<|aC_ (t := 15) rfl ?_ ?_
 ·intro hc15
  refine q_ 1 rfl<|c_ (i_ tabOk rfl rfl l0_ List.not_mem_nil rfl) rfl rfl<|q_ 1 rfl<|c_ (i_ tabOk rfl rfl l1_ List.not_mem_nil rfl) rfl rfl<|q_ 3 rfl<|g_<|b_<|l_<|f_ (rs := [.tmp 4]) rfl (RV.tmp rfl RV.nil) (()) sn_ ?_
  unfold Lg.stale
  cases hl : l.last c.client with
  | none => rw [hl] at hc15; cases hc15
  | some o9 => rw [hl] at hc15; rfl
 intro hc15
 refine q_ 7 rfl<|g_<|b_<|l_<|f_ (rs := [.tmp 4]) rfl (RV.tmp rfl RV.nil) (()) sn_ ?_
 unfold Lg.stale
 cases hl : l.last c.client with
 | none => rw [hl] at hc15; rfl
 | some o9 => rw [hl] at hc15; cases hc15
set_option maxHeartbeats 4000000 in
theorem ji_ (hf : l.Few) (hl : l.Wf) (ha : i64ok e.core.a) (ht : e.core.text.size ≤ 9223372036854775807) (hm : e.mask < 4294967296) (hs : e.core.letter.size ≤ lots) : Spec Tryz.prog 59 [.agg l.abs, .agg (entA e), int n] [] (fun _ : Unit => []) (fun _ => .tup [.agg (l.res e n).1.abs, int (l.res e n).2]) := by
 have hox := Lg.old_wf hl e.core.letter
 have hsw := fj_ (op := e.core.op) (a := e.core.a) (b := e.core.b) (t := e.core.text) hox
 refine C_ Tryz.func59 rfl Tryz.ntmps59 rfl fun G w =>d_<|a_<|eb_ (L_ (cs := l.abs) rfl) rfl rfl fun b3=>?_
 refine eb_ (L_ (cs := entA e) rfl) rfl rfl fun b4=>?_
 refine eb_ (B_ tabOk rfl) rfl rfl fun b6=>?_
 refine q_ 1 rfl<|g_<|b_<|d_<|a_<|q_ 1 rfl<|c_ (k_ (C := coreA e.core) (x_ tabOk rfl rfl rfl l1_ List.not_mem_nil (Nat.le_of_ble_eq_true rfl)) rfl) rfl rfl<|eb_ (B_ tabOk rfl) rfl rfl fun b8=>?_
 refine e_ (m_ (L' := e.core.cells.map .v) tabOk rfl rfl rfl u0_ rfl (Nat.le_of_ble_eq_true rfl) rfl (by exact s_ rfl)) rfl rfl ?_
 refine g_<|b_<|d_<|a_<|c_ (k_ (C := .agg l.abs) (x_ tabOk rfl rfl rfl l3_ List.not_mem_nil (Nat.le_of_ble_eq_true rfl)) rfl) rfl rfl<|q_ 1 rfl<|c_ (k_ (C := st e.core.letter) (i_ tabOk rfl rfl l0_ List.not_mem_nil rfl) rfl) rfl rfl<|r_ (jo_ (l := l) (s := e.core.letter)) Casts.refl (by kernel_rfl) rfl rfl rfl ?_
 refine ap_ ?_
 intro _
 rw [show (l.find e.core.letter).getD Ltr.none = (l.old e.core.letter) from rfl]
 refine q_ 3 rfl<|eb_ (B_ tabOk rfl) rfl rfl fun b9=>?_
 refine e_ (m_ (L' := ltrA (l.old e.core.letter)) tabOk rfl rfl rfl u0_ rfl (Nat.le_of_ble_eq_true rfl) rfl (by exact s_ rfl)) rfl rfl ?_
 refine q_ 1 rfl<|g_<|b_<|a8_ (ι := Unit) (fun z => (.blk b9 81 (ltrA (l.old e.core.letter)) :: .blk b8 59 (e.core.cells.map .v) :: .blk b6 30 (zabs [.int .i64 0, .int .i64 0, .slice none 0 0, .slice none 0 0]) :: .blk b4 66 (entA e) :: .blk b3 30 l.abs :: [])) (fun z => [(2, int n), (3, ptr b3), (4, ptr b4), (6, ptr b6), (8, ptr b8), (9, ptr b9)]) (fun z => ¬ l.known e.core ≠ 0) ?_ ?_
 ·skip
  refine d_<|a_<|q_ 1 rfl<|c_ (k_ (C := int e.core.op) (i_ tabOk rfl rfl l1_ List.not_mem_nil rfl) rfl) rfl rfl<|q_ 2 rfl<|z_ (t := 30) rfl ?_ ?_
  rotate_left
  ·intro hc30
   refine q_ 3 rfl<|g_<|b_<|ah_ rfl<|o_ ?_
   have hkn : ¬ l.known e.core ≠ 0 := by
    intro h9
    unfold Lg.known at h9
    split at h9
    ·next h8 =>
     have h7 := Option.isNone_iff_eq_none.1 h8.1
     exact hc30 h8.2
    exact h9 rfl
   refine ad_ (()) (hkn) (by exact ⟨rfl, rfl, rfl, rfl, rfl, rfl, trivial⟩) sr_
  intro hc30
  refine q_ 1 rfl<|c_ (ab_ rfl) rfl rfl<|q_ 1 rfl<|g_<|b_<|S_ rfl ?_ ?_
  rotate_left
  ·intro hc33
   refine o_ ?_
   have hkn : ¬ l.known e.core ≠ 0 := by
    intro h9
    unfold Lg.known at h9
    split at h9
    ·next h8 =>
     have h7 := Option.isNone_iff_eq_none.1 h8.1
     (rw [h7] at hc33; cases hc33)
    exact h9 rfl
   refine ad_ (()) (hkn) (by exact ⟨rfl, rfl, rfl, rfl, rfl, rfl, trivial⟩) sr_
  intro hc33
  refine d_<|a_<|c_ (k_ (C := .agg l.abs) (x_ tabOk rfl rfl rfl l4_ List.not_mem_nil (Nat.le_of_ble_eq_true rfl)) rfl) rfl rfl<|e_ (m_ (L' := l.abs) tabOk rfl rfl rfl u2_ rfl (Nat.le_of_ble_eq_true rfl) rfl (by exact s_ rfl)) rfl rfl ?_
  refine q_ 1 rfl<|g_<|b_<|l_<|h_ nofun ?_
  have hk7 : l.known e.core = 7 := if_pos ⟨by simpa using hc33, hc30⟩
  have hst := res_a (l := l) (e := e) (n := n) (by rw [hk7]; decide)
  rw [hk7] at hst
  refine f_ (rs := [.cell 6 30, .tmp 7]) rfl (RV.cell rfl (RV.cellA tabOk rfl rfl l2_ (by rfl)) (RV.tmp rfl RV.nil)) (()) sn_ ?_
  rw [hst]
  rfl
 intro z0 hkn
 refine d_<|a_<|q_ 1 rfl<|c_ (k_ (C := st (l.old e.core.letter).policy) (i_ tabOk rfl rfl l0_ List.not_mem_nil rfl) rfl) rfl rfl<|q_ 1 rfl<|g_<|b_<|a8_ (ι := Unit) (fun z => (.blk b9 81 (ltrA (l.old e.core.letter)) :: .blk b8 59 (e.core.cells.map .v) :: .blk b6 30 (zabs [.int .i64 0, .int .i64 0, .slice none 0 0, .slice none 0 0]) :: .blk b4 66 (entA e) :: .blk b3 30 l.abs :: [])) (fun z => [(2, int n), (3, ptr b3), (4, ptr b4), (6, ptr b6), (8, ptr b8), (9, ptr b9), (11, st (polB (l.old e.core.letter) e.core))]) (fun z => True) ?_ ?_
 ·skip
  refine d_<|a_<|q_ 1 rfl<|c_ (k_ (C := int e.core.op) (i_ tabOk rfl rfl l1_ List.not_mem_nil rfl) rfl) rfl rfl<|q_ 1 rfl<|g_<|b_<|p_ rfl ?_ ?_
  rotate_left
  ·intro hc39
   refine o_<|ad_ (()) (trivial) (by exact ⟨rfl, rfl, rfl, rfl, rfl, rfl, congrArg (fun s => some (st s)) (show (l.old e.core.letter).policy = (polB (l.old e.core.letter) e.core) from (if_neg hc39).symm), trivial⟩) sr_
  intro hc39
  refine a_<|q_ 1 rfl<|c_ (k_ (C := st e.core.text) (i_ tabOk rfl rfl l1_ List.not_mem_nil rfl) rfl) rfl rfl<|q_ 1 rfl<|g_<|ad_ (()) (trivial) (by exact ⟨rfl, rfl, rfl, rfl, rfl, rfl, congrArg (fun s => some (st s)) (show e.core.text = (polB (l.old e.core.letter) e.core) from (if_pos hc39).symm), trivial⟩) sr_
 intro z1 hz1
 refine d_<|a_<|q_ 2 rfl<|r_ (rparse_s (l := tx (polB (l.old e.core.letter) e.core)) (n := n)) (Casts.of_eq (by rw [st_tx])) (by kernel_rfl) rfl rfl rfl ?_
 refine ap_<|fun _=>q_ 3 rfl<|eb_ (B_ tabOk rfl) rfl rfl fun b12=>?_
 refine e_ (m_ (L' := (parseF (tx (polB (l.old e.core.letter) e.core)) n).1.abs) tabOk rfl rfl rfl u0_ (by exact Frm.abs_len _) (Nat.le_of_ble_eq_true rfl) (by exact Frm.abs_ones _) (s_ (by exact Frm.abs_len _))) rfl rfl ?_
 refine q_ 1 rfl<|g_<|b_<|d_<|d_<|a_<|q_ 2 rfl<|g_<|b_<|p_ rfl ?_ ?_
 ·intro hc49
  refine d_<|a_<|c_ (k_ (C := .agg l.abs) (x_ tabOk rfl rfl rfl l5_ List.not_mem_nil (Nat.le_of_ble_eq_true rfl)) rfl) rfl rfl<|e_ (m_ (L' := l.abs) tabOk rfl rfl rfl u3_ rfl (Nat.le_of_ble_eq_true rfl) rfl (by exact s_ rfl)) rfl rfl ?_
  refine q_ 1 rfl<|g_<|b_<|l_<|h_ nofun ?_
  have he9 : endorsedF (l.old e.core.letter) e n = 2 := if_pos hc49
  have hst := res_b (n := n) hkn (by rw [he9]; decide)
  rw [he9] at hst
  refine f_ (rs := [.cell 6 30, .tmp 7]) rfl (RV.cell rfl (RV.cellA tabOk rfl rfl l3_ (by rfl)) (RV.tmp rfl RV.nil)) (()) sn_ ?_
  rw [hst]
  rfl
 intro hc49
 have hpz : (parseF (tx (polB (l.old e.core.letter) e.core)) n).2 = 0 := Classical.byContradiction hc49
 have hck := gc_ hpz
 refine o_<|b_<|d_<|d_<|a_<|c_ (P_ tabOk rfl rfl rfl l0_ List.not_mem_nil (Frm.abs_len _)) rfl rfl<|q_ 1 rfl<|c_ (k_ (C := .v (.int .u32 (e.mask : Nat))) (i_ tabOk rfl rfl l4_ List.not_mem_nil rfl) rfl) rfl rfl<|r_ (rholds_s (BitVec.ofNat 32 e.mask) (parseF (tx (polB (l.old e.core.letter) e.core)) n).1 (by have h9 := (Frm.check_ok.1 hck).2.1; omega) (Frm.ranges_mono (by have h9 := (Frm.check_ok.1 hck).1; omega) _ (Frm.check_ok.1 hck).2.2.2)) (Casts.of_eq (by rw [hW_ hm])) (by kernel_rfl) rfl rfl rfl ?_
 refine ap_<|fun _=>c_ (ab_ rfl) rfl rfl<|g_<|b_<|S_ rfl ?_ ?_
 ·intro hc55
  refine d_<|a_<|c_ (k_ (C := .agg l.abs) (x_ tabOk rfl rfl rfl l5_ List.not_mem_nil (Nat.le_of_ble_eq_true rfl)) rfl) rfl rfl<|e_ (m_ (L' := l.abs) tabOk rfl rfl rfl u3_ rfl (Nat.le_of_ble_eq_true rfl) rfl (by exact s_ rfl)) rfl rfl ?_
  refine q_ 1 rfl<|g_<|b_<|l_<|h_ nofun ?_
  have he9 : endorsedF (l.old e.core.letter) e n = 9 := (if_neg hc49).trans (if_pos (by simpa using hc55))
  have hst := res_b (n := n) hkn (by rw [he9]; decide)
  rw [he9] at hst
  refine f_ (rs := [.cell 6 30, .tmp 7]) rfl (RV.cell rfl (RV.cellA tabOk rfl rfl l3_ (by rfl)) (RV.tmp rfl RV.nil)) (()) sn_ ?_
  rw [hst]
  rfl
 intro hc55
 refine o_<|b_<|d_<|a_<|c_ (k_ (C := .agg (ltrA (l.old e.core.letter))) (x_ tabOk rfl rfl rfl l1_ List.not_mem_nil (Nat.le_of_ble_eq_true rfl)) rfl) rfl rfl<|q_ 1 rfl<|c_ (k_ (C := int e.core.op) (i_ tabOk rfl rfl l2_ List.not_mem_nil rfl) rfl) rfl rfl<|q_ 1 rfl<|c_ (k_ (C := int e.core.a) (i_ tabOk rfl rfl l2_ List.not_mem_nil rfl) rfl) rfl rfl<|q_ 1 rfl<|c_ (k_ (C := int e.core.b) (i_ tabOk rfl rfl l2_ List.not_mem_nil rfl) rfl) rfl rfl<|q_ 1 rfl<|c_ (k_ (C := st e.core.text) (i_ tabOk rfl rfl l2_ List.not_mem_nil rfl) rfl) rfl rfl<|r_ (rstep_s (x := (l.old e.core.letter)) (op := e.core.op) (a := e.core.a) (b := e.core.b) (t := e.core.text) hox ha ht) Casts.refl (by kernel_rfl) rfl rfl rfl ?_
 refine ap_<|fun _=>q_ 3 rfl<|eb_ (B_ tabOk rfl) rfl rfl fun b14=>?_
 refine e_ (m_ (L' := ltrA ((l.old e.core.letter).step e.core.op e.core.a e.core.b e.core.text).1) tabOk rfl rfl rfl u0_ rfl (Nat.le_of_ble_eq_true rfl) rfl (by exact s_ rfl)) rfl rfl ?_
 refine q_ 1 rfl<|g_<|b_<|d_<|d_<|a_<|q_ 2 rfl<|g_<|b_<|p_ rfl ?_ ?_
 ·intro hc71
  refine d_<|a_<|c_ (k_ (C := .agg l.abs) (x_ tabOk rfl rfl rfl l6_ List.not_mem_nil (Nat.le_of_ble_eq_true rfl)) rfl) rfl rfl<|q_ 1 rfl<|e_ (m_ (L' := l.abs) tabOk rfl rfl rfl u4_ rfl (Nat.le_of_ble_eq_true rfl) rfl (by exact s_ rfl)) rfl rfl ?_
  refine q_ 1 rfl<|g_<|b_<|l_<|h_ nofun ?_
  have he9 : endorsedF (l.old e.core.letter) e n = 0 := (if_neg hc49).trans (if_neg (by simpa using hc55))
  have hst := (jq_ (n := n) hkn (by rw [he9]; decide)).trans (dZ_ hc71)
  refine f_ (rs := [.cell 6 30, .tmp 7]) rfl (RV.cell rfl (RV.cellA tabOk rfl rfl l4_ (by rfl)) (RV.tmp rfl RV.nil)) (()) sn_ ?_
  rw [hst]
  rfl
 intro hc71
 refine o_<|b_<|d_<|a_<|q_ 1 rfl<|c_ (k_ (C := st e.core.letter) (i_ tabOk rfl rfl l3_ List.not_mem_nil rfl) rfl) rfl rfl<|q_ 1 rfl<|e_ (m_ (L' := ltrA (nextL (l.old e.core.letter) e.core)) tabOk rfl rfl rfl u0_ rfl (Nat.le_of_ble_eq_true rfl) rfl rfl) rfl rfl<|g_<|b_<|d_<|a_<|c_ (k_ (C := .agg l.abs) (x_ tabOk rfl rfl rfl l6_ List.not_mem_nil (Nat.le_of_ble_eq_true rfl)) rfl) rfl rfl<|c_ (k_ (C := .agg (ltrA (nextL (l.old e.core.letter) e.core))) (x_ tabOk rfl rfl rfl l0_ List.not_mem_nil (Nat.le_of_ble_eq_true rfl)) rfl) rfl rfl<|r_ (rwith_s (x := (nextL (l.old e.core.letter) e.core)) hf hs) Casts.refl (by kernel_rfl) rfl rfl rfl ?_
 refine ap_<|fun _=>q_ 3 rfl<|eb_ (B_ tabOk rfl) rfl rfl fun b15=>?_
 refine e_ (m_ (L' := (l.with_ (nextL (l.old e.core.letter) e.core)).1.abs) tabOk rfl rfl rfl u0_ rfl (Nat.le_of_ble_eq_true rfl) rfl (by exact s_ rfl)) rfl rfl ?_
 refine q_ 1 rfl<|g_<|b_<|d_<|d_<|a_<|q_ 2 rfl<|g_<|b_<|p_ rfl ?_ ?_
 ·intro hc84
  refine d_<|a_<|c_ (k_ (C := .agg l.abs) (x_ tabOk rfl rfl rfl l7_ List.not_mem_nil (Nat.le_of_ble_eq_true rfl)) rfl) rfl rfl<|q_ 1 rfl<|e_ (m_ (L' := l.abs) tabOk rfl rfl rfl u5_ rfl (Nat.le_of_ble_eq_true rfl) rfl (by exact s_ rfl)) rfl rfl ?_
  refine q_ 1 rfl<|g_<|b_<|l_<|h_ nofun ?_
  have he9 : endorsedF (l.old e.core.letter) e n = 0 := (if_neg hc49).trans (if_neg (by simpa using hc55))
  have hst := (jq_ (n := n) hkn (by rw [he9]; decide)).trans (ce_ hc71 hc84)
  refine f_ (rs := [.cell 6 30, .tmp 7]) rfl (RV.cell rfl (RV.cellA tabOk rfl rfl l5_ (by rfl)) (RV.tmp rfl RV.nil)) (()) sn_ ?_
  rw [hst]
  rfl
 intro hc84
 refine o_<|b_<|d_<|d_<|a_<|q_ 1 rfl<|c_ (k_ (C := int e.core.op) (i_ tabOk rfl rfl l4_ List.not_mem_nil rfl) rfl) rfl rfl<|q_ 1 rfl<|g_<|b_<|p_ rfl ?_ ?_
 rotate_left
 ·intro hc89
  refine o_<|b_<|d_<|a_<|c_ (k_ (C := .agg (Lg.abs (l.with_ (nextL (l.old e.core.letter) e.core)).1)) (x_ tabOk rfl rfl rfl l0_ List.not_mem_nil (Nat.le_of_ble_eq_true rfl)) rfl) rfl rfl<|e_ (m_ (L' := Lg.abs (l.with_ (nextL (l.old e.core.letter) e.core)).1) tabOk rfl rfl rfl u5_ rfl (Nat.le_of_ble_eq_true rfl) rfl (by exact s_ rfl)) rfl rfl ?_
  refine q_ 1 rfl<|g_<|b_<|l_ ?_
  have he9 : endorsedF (l.old e.core.letter) e n = 0 := (if_neg hc49).trans (if_neg (by simpa using hc55))
  have hst := (jq_ (n := n) hkn (by rw [he9]; decide)).trans (cd_ hc71 hc84 hc89)
  refine f_ (rs := [.cell 6 30, .tmp 7]) rfl (RV.cell rfl (RV.cellA tabOk rfl rfl l5_ (by rfl)) (RV.tmp rfl RV.nil)) (()) sn_ ?_
  rw [hst]
  rfl
 intro hc89
 refine d_<|a_<|q_ 1 rfl<|c_ (k_ (C := int l.total) (i_ tabOk rfl rfl l7_ List.not_mem_nil rfl) rfl) rfl rfl<|q_ 1 rfl<|c_ (k_ (C := int (nextL (l.old e.core.letter) e.core).amount) (i_ tabOk rfl rfl l1_ List.not_mem_nil rfl) rfl) rfl rfl<|r_ (rmadd_s (a := l.total) (b := (nextL (l.old e.core.letter) e.core).amount) hl.total hsw.amount) Casts.refl (by kernel_rfl) rfl rfl rfl ?_
 refine ap_<|fun _=>q_ 5 rfl<|g_<|b_<|d_<|d_<|a_<|q_ 2 rfl<|g_<|b_<|p_ rfl ?_ ?_
 ·intro hc99
  refine d_<|a_<|c_ (k_ (C := .agg l.abs) (x_ tabOk rfl rfl rfl l7_ List.not_mem_nil (Nat.le_of_ble_eq_true rfl)) rfl) rfl rfl<|e_ (m_ (L' := l.abs) tabOk rfl rfl rfl u5_ rfl (Nat.le_of_ble_eq_true rfl) rfl (by exact s_ rfl)) rfl rfl ?_
  refine q_ 1 rfl<|g_<|b_<|l_<|h_ nofun<|h_ nofun ?_
  have he9 : endorsedF (l.old e.core.letter) e n = 0 := (if_neg hc49).trans (if_neg (by simpa using hc55))
  have hst := (jq_ (n := n) hkn (by rw [he9]; decide)).trans (cc_ hc71 hc84 hc89 hc99)
  refine f_ (rs := [.cell 6 30, .tmp 7]) rfl (RV.cell rfl (RV.cellA tabOk rfl rfl l5_ (by rfl)) (RV.tmp rfl RV.nil)) (()) sn_ ?_
  rw [hst]
  rfl
 intro hc99
 refine o_<|b_<|a_<|q_ 2 rfl<|e_ (m_ (L' := Lg.abs { (l.with_ (nextL (l.old e.core.letter) e.core)).1 with total := (amtAdd l.total (nextL (l.old e.core.letter) e.core).amount).1 }) tabOk rfl rfl rfl u0_ rfl (Nat.le_of_ble_eq_true rfl) rfl rfl) rfl rfl<|g_<|b_<|d_<|a_<|c_ (k_ (C := .agg (Lg.abs { (l.with_ (nextL (l.old e.core.letter) e.core)).1 with total := (amtAdd l.total (nextL (l.old e.core.letter) e.core).amount).1 })) (x_ tabOk rfl rfl rfl l0_ List.not_mem_nil (Nat.le_of_ble_eq_true rfl)) rfl) rfl rfl<|e_ (m_ (L' := Lg.abs { (l.with_ (nextL (l.old e.core.letter) e.core)).1 with total := (amtAdd l.total (nextL (l.old e.core.letter) e.core).amount).1 }) tabOk rfl rfl rfl u5_ rfl (Nat.le_of_ble_eq_true rfl) rfl (by exact s_ rfl)) rfl rfl ?_
 refine q_ 1 rfl<|g_<|b_<|l_ ?_
 have he9 : endorsedF (l.old e.core.letter) e n = 0 := (if_neg hc49).trans (if_neg (by simpa using hc55))
 have hst := (jq_ (n := n) hkn (by rw [he9]; decide)).trans (cb_ hc71 hc84 hc89 hc99)
 refine f_ (rs := [.cell 6 30, .tmp 7]) rfl (RV.cell rfl (RV.cellA tabOk rfl rfl l5_ (by rfl)) (RV.tmp rfl RV.nil)) (()) sn_ ?_
 rw [hst]
 rfl
set_option maxHeartbeats 2000000 in
theorem rdo_s (hq : l.ls.length ≤ 900 ∧ l.os.length ≤ 900) (hl : l.Wf) (he : EnIns e) (hs : e.core.letter.size ≤ lots) : Spec Tryz.prog 36 [.agg l.abs, .agg (entA e), int n] [] (fun _ : Unit => []) (fun _ => .tup [.agg (l.doF e n).1.abs, int (l.doF e n).2]) := by
 have hf : l.Few := ⟨by omega, by omega⟩
 have hrl := fl_ (l := l) (e := e) (n := n)
 have hf2 : (l.res e n).1.Few := ⟨by omega, by rw [hrl.2]; omega⟩
 refine C_ Tryz.func36 rfl Tryz.ntmps36 rfl fun G w =>d_<|a_<|eb_ (L_ (cs := l.abs) rfl) rfl rfl fun b3=>?_
 refine eb_ (L_ (cs := entA e) rfl) rfl rfl fun b4=>?_
 refine eb_ (B_ tabOk rfl) rfl rfl fun b6=>?_
 refine q_ 1 rfl<|g_<|b_<|d_<|d_<|a_<|c_ (k_ (C := .agg l.abs) (x_ tabOk rfl rfl rfl l2_ List.not_mem_nil (Nat.le_of_ble_eq_true rfl)) rfl) rfl rfl<|q_ 1 rfl<|c_ (k_ (C := coreA e.core) (x_ tabOk rfl rfl rfl l1_ List.not_mem_nil (Nat.le_of_ble_eq_true rfl)) rfl) rfl rfl<|r_ (rstale_s (l := l) (c := e.core)) Casts.refl (by kernel_rfl) rfl rfl rfl ?_
 refine ap_<|fun _=>g_<|b_<|S_ rfl ?_ ?_
 ·intro hc13
  refine d_<|a_<|c_ (k_ (C := .agg l.abs) (x_ tabOk rfl rfl rfl l2_ List.not_mem_nil (Nat.le_of_ble_eq_true rfl)) rfl) rfl rfl<|e_ (m_ (L' := l.abs) tabOk rfl rfl rfl u0_ rfl (Nat.le_of_ble_eq_true rfl) rfl (by exact s_ rfl)) rfl rfl ?_
  refine q_ 1 rfl<|g_<|b_<|l_<|h_ nofun<|f_ (rs := [.cell 6 30, .tmp 7]) rfl (RV.cell rfl (RV.cellA tabOk rfl rfl l0_ (by rfl)) (RV.tmp rfl RV.nil)) (()) sn_ ?_
  unfold Lg.doF
  rw [if_pos hc13]
  rfl
 intro hc13
 refine o_<|b_<|d_<|a_<|q_ 1 rfl<|c_ (k_ (C := coreA e.core) (x_ tabOk rfl rfl rfl l1_ List.not_mem_nil (Nat.le_of_ble_eq_true rfl)) rfl) rfl rfl<|q_ 1 rfl<|r_ (jt_ (c := e.core) (n := n) hs) Casts.refl (by kernel_rfl) rfl rfl rfl ?_
 refine ap_<|fun _=>q_ 1 rfl<|g_<|b_<|d_<|d_<|a_<|q_ 2 rfl<|g_<|b_<|p_ rfl ?_ ?_
 ·intro hc20
  refine d_<|a_<|c_ (k_ (C := .agg l.abs) (x_ tabOk rfl rfl rfl l2_ List.not_mem_nil (Nat.le_of_ble_eq_true rfl)) rfl) rfl rfl<|q_ 1 rfl<|e_ (m_ (L' := l.abs) tabOk rfl rfl rfl u0_ rfl (Nat.le_of_ble_eq_true rfl) rfl (by exact s_ rfl)) rfl rfl ?_
  refine q_ 1 rfl<|g_<|b_<|l_<|h_ nofun<|f_ (rs := [.cell 6 30, .tmp 7]) rfl (RV.cell rfl (RV.cellA tabOk rfl rfl l0_ (by rfl)) (RV.tmp rfl RV.nil)) (()) sn_ ?_
  unfold Lg.doF
  rw [if_neg (by rw [hc13]; decide), if_pos hc20]
  rfl
 intro hc20
 refine o_<|b_<|d_<|a_<|c_ (k_ (C := .agg l.abs) (x_ tabOk rfl rfl rfl l2_ List.not_mem_nil (Nat.le_of_ble_eq_true rfl)) rfl) rfl rfl<|c_ (k_ (C := .agg (entA e)) (x_ tabOk rfl rfl rfl l1_ List.not_mem_nil (Nat.le_of_ble_eq_true rfl)) rfl) rfl rfl<|q_ 1 rfl<|r_ (ji_ (n := n) hf hl he.a (by have := he.text; unfold maxLen at this; omega) he.mask hs) Casts.refl (by kernel_rfl) rfl rfl rfl ?_
 refine ap_<|fun _=>q_ 3 rfl<|eb_ (B_ tabOk rfl) rfl rfl fun b9=>?_
 refine e_ (m_ (L' := (l.res e n).1.abs) tabOk rfl rfl rfl u0_ rfl (Nat.le_of_ble_eq_true rfl) rfl (by exact s_ rfl)) rfl rfl ?_
 refine q_ 1 rfl<|g_<|b_<|d_<|a_<|c_ (k_ (C := .agg (l.res e n).1.abs) (x_ tabOk rfl rfl rfl l0_ List.not_mem_nil (Nat.le_of_ble_eq_true rfl)) rfl) rfl rfl<|q_ 2 rfl<|c_ (k_ (C := int e.core.client) (i_ tabOk rfl rfl l2_ List.not_mem_nil rfl) rfl) rfl rfl<|q_ 2 rfl<|c_ (k_ (C := int e.core.stamp) (i_ tabOk rfl rfl l2_ List.not_mem_nil rfl) rfl) rfl rfl<|q_ 1 rfl<|c_ (I_ (L := Oc.abs ⟨e.core.client, e.core.stamp, (l.res e n).2⟩) tabOk rfl rfl rfl rfl) rfl rfl<|r_ (rtold_s (l := (l.res e n).1) (x := ⟨e.core.client, e.core.stamp, (l.res e n).2⟩) hf2) Casts.refl (by kernel_rfl) rfl rfl rfl ?_
 refine ap_<|fun _=>q_ 1 rfl<|e_ (m_ (L' := ((l.res e n).1.told ⟨e.core.client, e.core.stamp, (l.res e n).2⟩).abs) tabOk rfl rfl rfl u1_ rfl (Nat.le_of_ble_eq_true rfl) rfl (by exact s_ rfl)) rfl rfl ?_
 refine q_ 1 rfl<|g_<|b_<|l_<|f_ (rs := [.cell 6 30, .tmp 7]) rfl (RV.cell rfl (RV.cellA tabOk rfl rfl l1_ (by rfl)) (RV.tmp rfl RV.nil)) (()) sn_ ?_
 unfold Lg.doF
 rw [if_neg (by rw [hc13]; decide), if_neg hc20]
 rfl
set_option maxHeartbeats 2000000 in
theorem rfold_s (hes : ∀ e ∈ es, EnIns e) (hss : ∀ e ∈ es, e.core.letter.size ≤ lots) (hl : l.Wf) (h1 : l.ls.length ≤ 500) (h2 : l.os.length ≤ 500) (h3 : es.length ≤ 300) (hsq : l.seq ≤ 1000000000) : Spec Tryz.prog 16 [.agg l.abs, entsR es, int n] [] (fun _ : Unit => []) (fun _ => .tup [.agg (l.foldF es n).1.abs, errsR (l.foldF es n).2]) := by
 have hseq0 : -9223372036854775808 ≤ l.seq ∧ l.seq ≤ 9223372036854775807 := hl.seq
 have hseq1 := db_ n l es
 refine C_ Tryz.func16 rfl Tryz.ntmps16 rfl fun G w =>d_<|a_<|eb_ (L_ (cs := l.abs) rfl) rfl rfl fun b3=>?_
 refine eb_ (B_ tabOk rfl) rfl rfl fun b6=>?_
 refine q_ 1 rfl<|g_<|b_<|d_<|a_<|q_ 1 rfl<|g_<|b_<|d_<|d_<|a_<|q_ 1 rfl<|c_ (E_ rfl Tryz.underlying26 (List.length_map _)) rfl rfl<|q_ 1 rfl<|g_<|b_<|w_<|bq_ 35 1<|aa_ (ι := Nat × Value) (fun z => (own 35 1 z.2 ((Lg.goes n l (es.take (z.1))).2.map fun x => [int x]) :: .blk b6 30 (zabs [.int .i64 0, .int .i64 0, .slice none 0 0, .slice none 0 0]) :: .blk b3 30 (Lg.goes n l (es.take (z.1))).1.abs :: [])) (fun z => [(2, int n), (3, ptr b3), (6, ptr b6), (8, .v z.2), (12, entsR es), (13, int (es.length : Nat)), (14, int (z.1 : Nat))]) (fun z => z.1 ≤ es.length) (fun z => es.length - z.1) (0, .slice none 0 0) (Nat.zero_le _) (by exact ⟨rfl, rfl, rfl, rfl, rfl, rfl, rfl, trivial⟩) sr_ ?_
 intro z hz
 refine d_<|a_<|q_ 1 rfl<|g_<|b_<|d_<|p_ rfl ?_ ?_
 rotate_left
 ·intro hc15
  have htk : es.take z.1 = es := List.take_of_length_le (by omega)
  rw [htk]
  refine X_<|h_ nofun<|h_ nofun<|W_<|b_<|d_<|a_<|q_ 1 rfl<|c_ (k_ (C := int (Lg.goes n l es).1.seq) (i_ tabOk rfl rfl l2_ List.not_mem_nil rfl) rfl) rfl rfl<|c_ (y_ rfl rfl (by simp only [InR, lo, hi]; omega)) rfl rfl ?_
  refine q_ 1 rfl<|e_ (m_ (L' := (l.foldF es n).1.abs) tabOk rfl rfl rfl u2_ rfl (Nat.le_of_ble_eq_true rfl) rfl rfl) rfl rfl<|g_<|b_<|d_<|a_<|c_ (k_ (C := .agg (l.foldF es n).1.abs) (x_ tabOk rfl rfl rfl l2_ List.not_mem_nil (Nat.le_of_ble_eq_true rfl)) rfl) rfl rfl<|q_ 1 rfl<|e_ (m_ (L' := (l.foldF es n).1.abs) tabOk rfl rfl rfl u1_ rfl (Nat.le_of_ble_eq_true rfl) rfl (by exact s_ rfl)) rfl rfl ?_
  refine q_ 1 rfl<|g_<|b_<|l_<|bb_ [] (t := 7) rfl rfl<|f_ (rs := [.cell 6 30, .tmp 7]) rfl (RV.cell rfl (RV.cellA tabOk rfl rfl l0_ (by rfl)) (RV.tmp rfl RV.nil)) (()) sn_ ?_
  exact rfl
 intro hc15
 have hlt : z.1 < es.length := by omega
 have hen := hes _ (List.getElem_mem hlt)
 have hgf := dd_ n l (es.take z.1)
 rw [List.length_take] at hgf
 have hgl : (Lg.goes n l (es.take z.1)).2.length = z.1 := by rw [dc_, List.length_take]; omega
 refine o_<|b_<|d_<|w_<|d_<|a_<|c_ (H_ tabOk Tryz.underlying26 rfl rfl rfl rfl (aw_ (by omega)) rfl rfl) rfl rfl ?_
 refine c_ (T_ tabOk rfl rfl rfl rfl) rfl rfl<|eb_ (B_ tabOk rfl) rfl rfl fun b10=>?_
 refine e_ (m_ (L' := entA (es[z.1]'hlt)) tabOk rfl rfl rfl u0_ rfl (Nat.le_of_ble_eq_true rfl) rfl (by exact s_ rfl)) rfl rfl ?_
 refine g_<|b_<|d_<|a_<|q_ 1 rfl<|g_<|b_<|d_<|a_<|c_ (k_ (C := .agg (Lg.goes n l (es.take (z.1))).1.abs) (x_ tabOk rfl rfl rfl l3_ List.not_mem_nil (Nat.le_of_ble_eq_true rfl)) rfl) rfl rfl<|c_ (k_ (C := .agg (entA (es[z.1]'hlt))) (x_ tabOk rfl rfl rfl l0_ List.not_mem_nil (Nat.le_of_ble_eq_true rfl)) rfl) rfl rfl<|q_ 1 rfl<|r_ (rdo_s (l := (Lg.goes n l (es.take (z.1))).1) (e := (es[z.1]'hlt)) (n := n) ⟨by omega, by omega⟩ (hl_ n hl) hen (hss _ (List.getElem_mem hlt))) Casts.refl (by kernel_rfl) rfl rfl rfl ?_
 refine ap_<|fun _=>q_ 3 rfl<|e_ (m_ (L' := ((Lg.goes n l (es.take (z.1))).1.doF (es[z.1]'hlt) n).1.abs) tabOk rfl rfl rfl u3_ rfl (Nat.le_of_ble_eq_true rfl) rfl (by exact s_ rfl)) rfl rfl ?_
 refine q_ 1 rfl<|g_<|b_<|a_<|q_ 2 rfl<|e_ (Z_ tabOk Tryz.underlying50 rfl rfl rfl rfl rfl rfl rfl) rfl rfl<|eb_ (V_ (zs := ((Lg.goes n l (es.take (z.1))).2 ++ [((Lg.goes n l (es.take (z.1))).1.doF (es[z.1]'hlt) n).2]).map fun x => [int x]) tabOk [_] (by simp only [List.map_append]; rfl) Tryz.underlying50 rfl rfl rfl rfl rfl rfl (by intro c hc; rw [List.mem_singleton] at hc; subst hc; rfl) (by unfold maxLen; simp only [List.length_map, List.length_append, List.length_cons, List.length_nil]; omega) (by rw [show Tryz.prog.bytesOf 35 = 8 by kernel_rfl]; simp only [List.length_map, List.length_append, List.length_cons, List.length_nil]; omega)) rfl rfl fun r28=>?_
 refine q_ 1 rfl<|g_<|u_<|b_<|a_<|c_ (y_ rfl rfl (by simp only [InR, lo, hi]; omega)) rfl rfl ?_
 refine q_ 1 rfl<|g_<|D_ (z.1 + 1, r28) (by omega) (by dsimp only; omega) (by exact ⟨rfl, rfl, rfl, rfl, rfl, rfl, rfl, trivial⟩) (by rw [en_ hlt]; repeat (first | exact List.nil_sublist _ | exact List.Sublist.refl _ | apply List.Sublist.cons_cons | apply List.Sublist.cons))
end
section
variable {x : Ex} {n seq k : Int} {es : List Ent} {m : List UInt8} {b : Nat} {r e1 e2 : Value} {c : Core} {xs : List Dd} {v : Value}
set_option maxHeartbeats 1000000 in
theorem few29_s  : Spec Tryz.prog 8 [entsR es] [] (fun _ : Unit => []) (fun _ => boo (decide (FewX es))) := by
 refine C_ Tryz.func8 rfl Tryz.ntmps8 rfl fun G w =>d_<|a_<|q_ 1 rfl<|g_<|b_<|d_<|d_<|a_<|q_ 1 rfl<|c_ (E_ rfl Tryz.underlying26 (List.length_map _)) rfl rfl<|q_ 1 rfl<|g_<|b_<|w_<|bp_ (i := 5) rfl fun hrow => ?_
 rw [List.length_map] at hrow
 unfold maxLen at hrow
 refine aa_ (ι := Nat) (fun z => []) (fun z => [(0, entsR es), (5, entsR es), (6, int (es.length : Nat)), (7, int (z : Nat))]) (fun z => z ≤ es.length ∧ ∀ i (hi9 : i < es.length), i < z → es[i].core.letter.size ≤ 100 ∧ es[i].core.text.size ≤ 300) (fun z => es.length - z) (0) (⟨Nat.zero_le _, fun j h h2 => by omega⟩) (by exact ⟨rfl, rfl, rfl, rfl, trivial⟩) sn_ ?_
 intro z hz
 refine d_<|a_<|q_ 1 rfl<|g_<|b_<|d_<|p_ rfl ?_ ?_
 rotate_left
 ·intro hc8
  refine X_<|h_ nofun<|h_ nofun<|W_<|b_<|d_<|a_<|q_ 1 rfl<|c_ (E_ rfl Tryz.underlying26 (List.length_map _)) rfl rfl<|q_ 2 rfl<|g_<|b_<|l_<|f_ (rs := [.tmp 2]) rfl (RV.tmp rfl RV.nil) (()) sn_<|congrArg (fun b => Abs.v (Value.bool b)) ?_
  rw [decide_eq_decide]
  exact ⟨fun h9 => ⟨fun i h1 => hz.2 i h1 (by omega), by omega⟩, fun h9 => by have := h9.len; omega⟩
 intro hc8
 have hlt : z < es.length := by omega
 refine o_<|b_<|d_<|w_<|d_<|a_<|c_ (H_ tabOk Tryz.underlying26 rfl rfl rfl rfl (aw_ (by omega)) rfl rfl) rfl rfl ?_
 refine c_ (T_ tabOk rfl rfl rfl rfl) rfl rfl<|eb_ (B_ tabOk rfl) rfl rfl fun b4=>?_
 refine e_ (m_ (L' := entA (es[z]'hlt)) tabOk rfl rfl rfl u0_ rfl (Nat.le_of_ble_eq_true rfl) rfl (by exact s_ rfl)) rfl rfl ?_
 refine g_<|b_<|d_<|a_<|q_ 2 rfl<|c_ (k_ (C := st (es[z]'hlt).core.letter) (i_ tabOk rfl rfl l0_ List.not_mem_nil rfl) rfl) rfl rfl<|c_ (ag_ rfl Tryz.underlying9) rfl rfl<|q_ 2 rfl<|z_ (t := 16) rfl ?_ ?_
 ·intro hc16
  refine q_ 6 rfl<|g_<|b_<|K_ rfl<|d_<|a_<|q_ 1 rfl<|g_<|b_<|l_<|A_<|h_ nofun<|h_ nofun<|A_<|h_ nofun<|f_ (rs := [.tmp 2]) rfl (RV.tmp rfl RV.nil) (()) sn_<|U_ fun he => ?_
  have := he.en z hlt
  omega
 intro hc16
 refine q_ 2 rfl<|c_ (k_ (C := st (es[z]'hlt).core.text) (i_ tabOk rfl rfl l0_ List.not_mem_nil rfl) rfl) rfl rfl<|c_ (ag_ rfl Tryz.underlying9) rfl rfl<|q_ 2 rfl<|g_<|b_<|p_ rfl ?_ ?_
 rotate_left
 ·intro hc22
  refine o_<|u_<|b_<|a_<|c_ (y_ rfl rfl (by simp only [InR, lo, hi]; omega)) rfl rfl ?_
  refine q_ 1 rfl<|g_<|D_ (z + 1) (by omega) (⟨by omega, fun j h1 h2 => by rcases Nat.lt_or_ge j z with h3 | h3; exact hz.2 j h1 h3; obtain rfl : j = z := (by omega); omega⟩) (by exact ⟨rfl, rfl, rfl, rfl, trivial⟩) sn_
 intro hc22
 refine d_<|a_<|q_ 1 rfl<|g_<|b_<|l_<|A_<|h_ nofun<|h_ nofun<|A_<|h_ nofun<|f_ (rs := [.tmp 2]) rfl (RV.tmp rfl RV.nil) (()) sn_<|U_ fun he => ?_
 have := he.en z hlt
 omega
end
def XA1 : Ex := ⟨⟨1, 0, [], []⟩, [⟨1, [], false⟩]⟩
def XA2 : Ex := ⟨⟨1, 0, [], []⟩, [⟨1, [], true⟩]⟩
theorem cn_ : XA1.l.Right := Lg.zero_keep.right (s := 1) (by omega)
theorem XA1_ok : XA1.Ok 1 := ⟨cn_.ins, by show (0 : Int) ≤ 1 ∧ (1 : Int) ≤ _; omega, Nat.zero_le _, Nat.zero_le _, Nat.le_refl _, fun d hd => by
  rw [List.mem_singleton.1 hd]
  exact ⟨⟨by show i64ok 1; unfold i64ok; omega, fun e he => (by cases he)⟩, Nat.zero_le _, fun e he => (by cases he)⟩⟩
theorem XA2_ok : XA2.Ok 1 := ⟨cn_.ins, by show (0 : Int) ≤ 1 ∧ (1 : Int) ≤ _; omega, Nat.zero_le _, Nat.zero_le _, Nat.le_refl _, fun d hd => by
  rw [List.mem_singleton.1 hd]
  exact ⟨⟨by show i64ok 1; unfold i64ok; omega, fun e he => (by cases he)⟩, Nat.zero_le _, fun e he => (by cases he)⟩⟩
theorem fx29a : Ex.zero.doX 4 1 [] = XA1 := by kernel_rfl
theorem fx29b : Ex.zero.doE 4 1 [] = 0 := by kernel_rfl
theorem fx29c : XA1.doX 4 3 [] = XA1 := by kernel_rfl
theorem fx29d : XA1.doE 4 3 [] = 14 := by kernel_rfl
theorem fx29e : Ex.zero.adX XA1.l.bytesR = XA2 ∧ Ex.zero.adE XA1.l.bytesR = 0 := by
  have hp := he_ cn_
  rw [ez_ cn_]
  obtain ⟨g1, g2⟩ := ku_ (x := Ex.zero) (m := XA1.l.bytes) (by rw [hp]; simp) (by rw [hp]; show ¬ (1 : Int) ≤ 0; omega)
  exact ⟨by rw [g1, hp]; rfl, g2⟩
theorem fx29f : XA2.adE XA1.l.bytesR = 14 := by
  have hp := he_ cn_
  rw [ez_ cn_]
  exact (fO_ (x := XA2) (m := XA1.l.bytes) (by rw [hp]; simp) (by rw [hp]; show (1 : Int) ≤ 1; omega)).2
theorem fx29g : XA1.l.bytesR.length ≤ 10000000 := by
  rw [ez_ cn_]
  have := cn_.bytes
  omega
section
variable {e1 e2 : Value}
set_option maxHeartbeats 4000000 in
theorem j3_ (he : isIf e1) (hr : isIf e2) : Spec Tryz.prog 6 [] (globs e1 e2) (fun _ : Unit => []) (fun _ => boo true) := by
 refine C_ Tryz.func6 rfl Tryz.ntmps6 rfl fun G w =>d_<|a_<|q_ 1 rfl<|g_<|b_<|d_<|a_<|r_ (ho_ (n := 4) (by omega)) Casts.refl (by kernel_rfl) rfl rfl rfl ?_
 refine bt_ (by repeat first|exact .nil|refine .blk (by repeat first|assumption|exact m0_|apply m1_) ?_|refine .rd (by repeat first|assumption|exact m0_|apply m1_) ?_|refine .pc (by repeat first|assumption|exact m0_|apply m1_) ?_|refine .rdpc (by repeat first|assumption|exact m0_|apply m1_) ?_) (fun _ => rfl) ?_
 intro b8
 refine q_ 1 rfl<|g_<|b_<|d_<|a_<|q_ 1 rfl<|r_ (gz_ (b := b8) (x := Ex.zero) (r := (.slice none 0 0)) (n := 4) (seq := 1) (es := []) (j := 0) he hr (fun e he => (by cases he)) (Nat.zero_le _) (by omega) Ex.zero_ok) (Casts.keep (Casts.keep (Casts.nils (s := 8) Casts.refl))) (by kernel_rfl) rfl rfl rfl ?_
 refine aO_ (ys := (globs e1 e2)) rfl i0_ (by intro y hy; simp only [globs, List.mem_cons, List.not_mem_nil, or_false] at hy; rcases hy with rfl | rfl | rfl <;> exact ⟨by repeat first|assumption|exact m0_|apply m1_, by intro h; cases h⟩) rfl (fun _ => rfl) ?_
 intro r1
 refine ⟨_, u0_, ?_⟩
 rw [fx29a, fx29b]
 refine q_ 2 rfl<|c_ (k_ (C := int 0) (a5_ rfl rfl) rfl) rfl rfl<|q_ 2 rfl<|g_<|b_<|d_<|a_<|q_ 1 rfl<|r_ (gz_ (b := b8) (x := XA1) (r := r1) (n := 4) (seq := 3) (es := []) (j := 1) he hr (fun e he => (by cases he)) (Nat.zero_le _) (by omega) XA1_ok) (Casts.keep (Casts.keep (Casts.nils (s := 8) Casts.refl))) (by kernel_rfl) rfl rfl rfl ?_
 refine aO_ (ys := (globs e1 e2)) rfl i0_ (by intro y hy; simp only [globs, List.mem_cons, List.not_mem_nil, or_false] at hy; rcases hy with rfl | rfl | rfl <;> exact ⟨by repeat first|assumption|exact m0_|apply m1_, by intro h; cases h⟩) rfl (fun _ => rfl) ?_
 intro r2
 refine ⟨_, u0_, ?_⟩
 rw [fx29c, fx29d]
 refine q_ 2 rfl<|c_ (k_ (C := int 14) (a5_ rfl rfl) rfl) rfl rfl<|q_ 2 rfl<|g_<|b_<|d_<|a_<|r_ (ho_ (n := 4) (by omega)) Casts.refl (by kernel_rfl) rfl rfl rfl ?_
 refine bt_ (by repeat first|exact .nil|refine .blk (by repeat first|assumption|exact m0_|apply m1_) ?_|refine .rd (by repeat first|assumption|exact m0_|apply m1_) ?_|refine .pc (by repeat first|assumption|exact m0_|apply m1_) ?_|refine .rdpc (by repeat first|assumption|exact m0_|apply m1_) ?_) (fun _ => rfl) ?_
 intro b19
 refine q_ 1 rfl<|g_<|b_<|d_<|a_<|q_ 2 rfl<|r_ (gA_ (b := b8) (x := XA1) (r := r2) (n := 4) XA1_ok.ins.total) Casts.refl (by kernel_rfl) rfl rfl rfl ?_
 refine J_ rfl i1_ (fun _ => rfl)<|fun _=>⟨_, u1_, r_ (j6_ (b := b19) (x := Ex.zero) (r := (.slice none 0 0)) (n := 4) (m := XA1.l.bytesR) (j := 0) fx29g (by omega) Ex.zero_ok) Casts.refl (by kernel_rfl) rfl rfl rfl ?_⟩
 refine J_ rfl i0_ (fun _ => rfl)<|fun r3=>⟨_, u0_, ?_⟩
 rw [fx29e.1, fx29e.2]
 refine q_ 1 rfl<|g_<|b_<|d_<|a_<|q_ 1 rfl<|c_ (k_ (C := boo true) (ax_ rfl rfl) (congrArg (fun b => Abs.v (Value.bool b)) (decide_eq_true (rfl)))) rfl rfl<|q_ 2 rfl<|c_ (k_ (C := boo true) (ax_ rfl rfl) (congrArg (fun b => Abs.v (Value.bool b)) (decide_eq_true (rfl)))) rfl rfl<|q_ 3 rfl<|c_ (k_ (C := boo true) (ax_ rfl rfl) (congrArg (fun b => Abs.v (Value.bool b)) (decide_eq_true (rfl)))) rfl rfl<|q_ 3 rfl<|r_ (b5_ (b := b8) (x := XA1) (r := r2) (n := 4)) Casts.refl (by kernel_rfl) rfl rfl rfl ?_
 refine J_ rfl i1_ (fun _ => rfl)<|fun _=>⟨_, u1_, c_ (k_ (C := boo true) (ax_ rfl rfl) (congrArg (fun b => Abs.v (Value.bool b)) (decide_eq_true (rfl)))) rfl rfl<|q_ 3 rfl<|r_ (b5_ (b := b19) (x := XA2) (r := r3) (n := 4)) Casts.refl (by kernel_rfl) rfl rfl rfl ?_⟩
 refine J_ rfl i0_ (fun _ => rfl)<|fun _=>⟨_, u0_, c_ (k_ (C := boo true) (ax_ rfl rfl) (congrArg (fun b => Abs.v (Value.bool b)) (decide_eq_true (rfl)))) rfl rfl<|q_ 3 rfl<|r_ (et_ (b := b19) (x := XA2) (r := r3) (n := 4) (by show (1 : Nat) ≤ _; omega) (fun d hd => Nat.le_trans (XA2_ok.ds d hd).2.1 (by omega))) Casts.refl (by kernel_rfl) rfl rfl rfl ?_⟩
 refine J_ rfl i0_ (fun _ => rfl)<|fun _=>⟨_, u0_, c_ (k_ (C := int ((1 : Nat) : Int)) (E_ (m := 1) rfl Tryz.underlying46 rfl) rfl) rfl rfl<|c_ (k_ (C := boo true) (ax_ rfl rfl) (congrArg (fun b => Abs.v (Value.bool b)) (decide_eq_true (rfl)))) rfl rfl<|q_ 3 rfl<|r_ (et_ (b := b19) (x := XA2) (r := r3) (n := 4) (by show (1 : Nat) ≤ _; omega) (fun d hd => Nat.le_trans (XA2_ok.ds d hd).2.1 (by omega))) Casts.refl (by kernel_rfl) rfl rfl rfl ?_⟩
 refine J_ rfl i0_ (fun _ => rfl)<|fun _=>⟨_, u0_, c_ (H_ (q := 0) (cs := Dd.abs ⟨1, [], true⟩) tabOk Tryz.underlying46 rfl rfl rfl rfl rfl rfl rfl) rfl rfl<|c_ (aR_ tabOk rfl rfl rfl rfl rfl) rfl rfl<|c_ (k_ (C := boo true) (bs_ tabOk rfl rfl rfl) rfl) rfl rfl<|q_ 4 rfl<|r_ (gA_ (b := b8) (x := XA1) (r := r2) (n := 4) XA1_ok.ins.total) Casts.refl (by kernel_rfl) rfl rfl rfl ?_⟩
 refine J_ rfl i1_ (fun _ => rfl)<|fun _=>⟨_, u1_, r_ (j6_ (b := b19) (x := XA2) (r := r3) (n := 4) (m := XA1.l.bytesR) (j := 1) fx29g (by omega) XA2_ok) Casts.refl (by kernel_rfl) rfl rfl rfl ?_⟩
 refine J_ rfl i0_ (fun _ => rfl)<|fun r4=>⟨_, u0_, ?_⟩
 rw [fx29f]
 exact c_ (k_ (C := boo true) (ax_ rfl rfl) (congrArg (fun b => Abs.v (Value.bool b)) (decide_eq_true (rfl)))) rfl rfl<|q_ 2 rfl<|g_<|b_<|l_<|f_ (rs := [.tmp 0]) rfl (RV.tmp rfl RV.nil) (()) sn_<|rfl
end
theorem dM_ {b : Nat} {t : TypeId} {cs : List Abs} {x : It} {σ : Blks} (h : (mids (It.blk b t cs :: σ)).Nodup) (hx : x ∈ σ) : b ∉ x.mids := fun hm => by
  rw [aq_, List.nodup_append] at h
  exact h.2.2 b (by simp [It.mids]) b (aI_.2 ⟨x, hx, hm⟩) rfl
theorem da_ {x : It} : ∀ k ∈ mids [x], k ∈ x.mids := fun k hk => by
  obtain ⟨y, hy, hk⟩ := aI_.1 hk
  rw [List.mem_singleton.1 hy] at hk
  exact hk
theorem ei_ {x : It} {e1 e2 : Value} : ∀ k ∈ mids (x :: globs e1 e2), k ∈ x.mids := fun k hk => by
  obtain ⟨y, hy, h9⟩ := aI_.1 hk
  rcases List.mem_cons.1 hy with rfl | hy
  · exact h9
  · simp only [globs, List.mem_cons, List.not_mem_nil, or_false] at hy
    rcases hy with rfl | rfl | rfl <;> cases h9
section
variable {l : List XAct} {n : Int} {e1 e2 : Value}
set_option maxHeartbeats 2000000 in
theorem xfolds_s (he : isIf e1) (hr : isIf e2) (hi9 : ∀ a ∈ l, a.Ins) : Spec Tryz.prog 4 [actsX l] (globs e1 e2) (fun _ : Unit => []) (fun _ => boo true) := by
 refine C_ Tryz.func4 rfl Tryz.ntmps4 rfl fun G w =>d_<|a_<|q_ 1 rfl<|g_<|b_<|d_<|d_<|a_<|r_ (j3_ he hr) Casts.refl (by kernel_rfl) rfl rfl rfl ?_
 refine ap_<|fun _=>c_ (b9_ rfl) rfl rfl<|g_<|b_<|ah_ rfl<|o_<|b_<|d_<|d_<|a_<|q_ 1 rfl<|c_ (E_ rfl Tryz.underlying22 (List.length_map _)) rfl rfl<|q_ 1 rfl<|g_<|b_<|p_ rfl ?_ ?_
 ·intro hc18
  exact d_<|a_<|q_ 1 rfl<|g_<|b_<|l_<|h_ nofun<|f_ (rs := [.tmp 2]) rfl (RV.tmp rfl RV.nil) (()) sn_<|rfl
 intro hc18
 refine o_<|b_<|d_<|a_<|r_ (ho_ (n := 4) (by omega)) Casts.refl (by kernel_rfl) rfl rfl rfl ?_
 refine bt_ (by repeat first|exact .nil|refine .blk (by repeat first|assumption|exact m0_|apply m1_) ?_|refine .rd (by repeat first|assumption|exact m0_|apply m1_) ?_|refine .pc (by repeat first|assumption|exact m0_|apply m1_) ?_|refine .rdpc (by repeat first|assumption|exact m0_|apply m1_) ?_) (fun _ => rfl) ?_
 intro b19
 refine q_ 1 rfl<|g_<|b_<|d_<|a_<|c_ (I_ (L := [int 0, int 0, .v (.slice none 0 0), .v (.slice none 0 0)]) tabOk rfl rfl rfl rfl) rfl rfl<|eb_ (B_ tabOk rfl) rfl rfl fun b4=>?_
 refine e_ (m_ (L' := [int 0, int 0, .v (.slice none 0 0), .v (.slice none 0 0)]) tabOk rfl rfl rfl u0_ rfl (Nat.le_of_ble_eq_true rfl) rfl (by exact s_ rfl)) rfl rfl ?_
 refine SL.re [] (Re.cast (ds := Lg.zero.abs) (Casts.keep (Casts.keep (Casts.nils (s := 6) (Casts.nils (s := 3) Casts.refl))))) rfl<|g_<|b_<|d_<|d_<|a_<|q_ 1 rfl<|c_ (E_ rfl Tryz.underlying22 (List.length_map _)) rfl rfl<|q_ 1 rfl<|g_<|b_<|w_<|aa_ (ι := Nat × Ex × Lg × Value) (fun z => (.blk b4 30 z.2.2.1.abs :: .pc (exP b19 4 z.2.1 z.2.2.2) :: (globs e1 e2))) (fun z => [(3, ptr b19), (4, ptr b4), (21, actsX l), (22, int (l.length : Nat)), (23, int (z.1 : Nat))]) (fun z => z.1 ≤ l.length ∧ z.2.1.Ok z.1 ∧ Since z.2.1 z.2.2.1 ∧ z.2.2.1.Ins ∧ (0 ≤ z.2.2.1.seq ∧ z.2.2.1.seq ≤ 1048576) ∧ z.2.2.1.ls.length ≤ 16 ∧ z.2.2.1.os.length ≤ 4) (fun z => l.length - z.1) (0, Ex.zero, Lg.zero, (.slice none 0 0)) (⟨Nat.zero_le _, Ex.zero_ok, Since.zero, Lg.zero_ins, by show (0 : Int) ≤ 0 ∧ (0 : Int) ≤ _; omega, Nat.zero_le _, Nat.zero_le _⟩) (by exact ⟨rfl, rfl, rfl, rfl, rfl, trivial⟩) sr_ ?_
 intro z hz
 refine d_<|a_<|q_ 1 rfl<|g_<|b_<|d_<|p_ rfl ?_ ?_
 rotate_left
 ·intro hc24
  have hok := hz.2.1
  have hdf := hok.few
  have hls9 := hok.ls
  have hos9 := hok.os
  have htl := fX_ z.2.1.ds
  have hsl := hz.2.2.2.2.2.1
  have hso := hz.2.2.2.2.2.2
  have hss9 := hz.2.2.2.2.1
  have hmb : ∀ b ∈ batT z.2.1.ds, b.length ≤ 10 := fun b hb => by
   obtain ⟨d, hd, rfl⟩ := List.mem_map.1 hb
   exact (hok.ds d (dX_ hd)).2.1
  have hme : ∀ b ∈ batT z.2.1.ds, ∀ e ∈ b, EnIns e := fun b hb => by
   obtain ⟨d, hd, rfl⟩ := List.mem_map.1 hb
   exact (hok.ds d (dX_ hd)).1.batch
  have hbl9 : (batT z.2.1.ds).length = (tailD z.2.1.ds).length := List.length_map _
  have hgi2 := fun u (hu : u ≤ (batT z.2.1.ds).length) => eZ_ (n := 4) (l := z.2.2.1) (h := batT z.2.1.ds) hz.2.2.2.1 hss9.1 (by omega) hme (by omega) u hu
  have hgf2 := fun u (hu : u ≤ (batT z.2.1.ds).length) => e0_ (n := 4) (l := z.2.2.1) (h := batT z.2.1.ds) hmb u hu
  refine X_<|h_ nofun<|h_ nofun<|W_<|b_<|d_<|a_<|c_ (k_ (C := .agg z.2.2.1.abs) (x_ tabOk rfl rfl rfl l0_ List.not_mem_nil (Nat.le_of_ble_eq_true rfl)) rfl) rfl rfl<|eb_ (B_ tabOk rfl) rfl rfl fun b7=>?_
  refine e_ (m_ (L' := z.2.2.1.abs) tabOk rfl rfl rfl u0_ rfl (Nat.le_of_ble_eq_true rfl) rfl (by exact s_ rfl)) rfl rfl ?_
  refine g_<|b_<|d_<|a_<|q_ 1 rfl<|c_ (k_ (C := int z.2.2.1.seq) (i_ tabOk rfl rfl l1_ List.not_mem_nil rfl) rfl) rfl rfl<|q_ 1 rfl<|g_<|b_<|d_<|a_<|q_ 1 rfl<|g_<|b_<|d_<|d_<|a_<|q_ 1 rfl<|r_ (et_ (b := b19) (x := z.2.1) (r := z.2.2.2) (n := 4) (by omega) (fun d hd => Nat.le_trans (hz.2.1.ds d hd).2.1 (by omega))) Casts.refl (by kernel_rfl) rfl rfl rfl ?_
  refine J_ rfl i2_ (fun _ => rfl)<|fun _=>⟨_, u2_, c_ (k_ (C := int ((z.2.1.ds.length : Nat) : Int)) (E_ (m := z.2.1.ds.length) rfl Tryz.underlying46 (List.length_map _)) rfl) rfl rfl<|q_ 1 rfl<|g_<|b_<|w_<|bq_ 49 3<|aa_ (ι := Nat × Value) (fun y => (own 49 3 y.2 ((tailD (z.2.1.ds.take y.1)).map Dd.abs) :: .blk b7 30 z.2.2.1.abs :: .pc (exP b19 4 z.2.1 z.2.2.2) :: [])) (fun y => [(3, ptr b19), (7, ptr b7), (8, int z.2.2.1.seq), (9, .v y.2), (79, ddsA z.2.1.ds), (80, int (z.2.1.ds.length : Nat)), (81, int (y.1 : Nat))]) (fun y => y.1 ≤ z.2.1.ds.length) (fun y => z.2.1.ds.length - y.1) (0, (.slice none 0 0)) (Nat.zero_le _) (by exact ⟨rfl, rfl, rfl, rfl, rfl, rfl, rfl, trivial⟩) (sc_ (sc_ (sk_ (sc_ sn_)))) ?_⟩
  intro y hy
  refine d_<|a_<|q_ 1 rfl<|g_<|b_<|d_<|p_ rfl ?_ ?_
  ·intro hc82
   have hyl : y.1 < z.2.1.ds.length := by omega
   have htt := io_ hyl
   have hty := fX_ (z.2.1.ds.take y.1)
   rw [List.length_take] at hty
   refine o_<|b_<|d_<|w_<|d_<|a_<|c_ (H_ tabOk Tryz.underlying46 rfl rfl rfl rfl (aw_ (by omega)) rfl rfl) rfl rfl ?_
   refine c_ (T_ tabOk rfl rfl rfl rfl) rfl rfl<|eb_ (B_ tabOk rfl) rfl rfl fun b11=>?_
   refine e_ (m_ (L' := Dd.abs (z.2.1.ds[y.1]'hyl)) tabOk rfl rfl rfl u0_ rfl (Nat.le_of_ble_eq_true rfl) rfl (by exact s_ rfl)) rfl rfl ?_
   refine g_<|b_<|d_<|d_<|a_<|q_ 1 rfl<|c_ (k_ (C := boo (z.2.1.ds[y.1]'hyl).adopted) (i_ tabOk rfl rfl l0_ List.not_mem_nil rfl) rfl) rfl rfl<|g_<|b_<|S_ rfl ?_ ?_
   ·intro hc86
    unfold tailStep at htt
    rw [if_pos hc86] at htt
    refine d_<|bq_ 49 3<|a_<|q_ 1 rfl<|g_<|b_<|X_<|h_ nofun<|W_<|b_<|a_<|c_ (y_ rfl rfl (by simp only [InR, lo, hi]; omega)) rfl rfl ?_
    refine q_ 1 rfl<|g_<|D_ (y.1 + 1, (.slice none 0 0)) (by omega) (by dsimp only; omega) (by exact ⟨rfl, rfl, rfl, rfl, rfl, rfl, rfl, trivial⟩) (by dsimp only; rw [htt]; repeat (first | exact List.nil_sublist _ | exact List.Sublist.refl _ | apply List.Sublist.cons_cons | apply List.Sublist.cons))
   intro hc86
   unfold tailStep at htt
   rw [if_neg (by rw [hc86]; decide)] at htt
   refine o_<|b_<|a_<|q_ 1 rfl<|c_ (k_ (C := .agg (Dd.abs (z.2.1.ds[y.1]'hyl))) (x_ tabOk rfl rfl rfl l0_ List.not_mem_nil (Nat.le_of_ble_eq_true rfl)) rfl) rfl rfl<|e_ (Z_ tabOk Tryz.underlying46 rfl rfl rfl rfl rfl rfl rfl) rfl rfl<|eb_ (V_ (zs := ((tailD (z.2.1.ds.take y.1)) ++ [(z.2.1.ds[y.1]'hyl)]).map Dd.abs) tabOk [_] (by simp only [List.map_append]; rfl) Tryz.underlying46 rfl rfl rfl rfl rfl rfl (by intro c hc; rw [List.mem_singleton] at hc; subst hc; rfl) (by unfold maxLen; simp only [List.length_map, List.length_append, List.length_cons, List.length_nil]; omega) (by rw [show Tryz.prog.bytesOf 49 = 40 by kernel_rfl]; simp only [List.length_map, List.length_append, List.length_cons, List.length_nil]; omega)) rfl rfl fun r90=>?_
   refine q_ 1 rfl<|g_<|u_<|b_<|a_<|c_ (y_ rfl rfl (by simp only [InR, lo, hi]; omega)) rfl rfl ?_
   refine q_ 1 rfl<|g_<|D_ (y.1 + 1, r90) (by omega) (by dsimp only; omega) (by exact ⟨rfl, rfl, rfl, rfl, rfl, rfl, rfl, trivial⟩) (by dsimp only; rw [htt]; repeat (first | exact List.nil_sublist _ | exact List.Sublist.refl _ | apply List.Sublist.cons_cons | apply List.Sublist.cons))
  intro hc82
  have htk : z.2.1.ds.take y.1 = z.2.1.ds := List.take_of_length_le (by omega)
  rw [htk]
  refine X_<|h_ nofun<|h_ nofun<|W_<|b_<|d_<|d_<|bJ_ [] (t := 9) rfl rfl<|a_<|q_ 1 rfl<|c_ (k_ (C := int (((tailD z.2.1.ds).length : Nat) : Int)) (E_ (m := (tailD z.2.1.ds).length) rfl Tryz.underlying46 (List.length_map _)) rfl) rfl rfl<|q_ 1 rfl<|g_<|b_<|w_<|aa_ (ι := Nat) (fun u => (.blk b7 30 (ldgAt 4 z.2.2.1 ((batT z.2.1.ds).take u)).abs :: .pc (exP b19 4 z.2.1 z.2.2.2) :: [])) (fun u => [(3, ptr b19), (7, ptr b7), (8, int (z.2.2.1.seq + (u : Nat))), (92, ddsA (tailD z.2.1.ds)), (93, int ((tailD z.2.1.ds).length : Nat)), (94, int (u : Nat))]) (fun u => u ≤ (tailD z.2.1.ds).length) (fun u => (tailD z.2.1.ds).length - u) (0) (Nat.zero_le _) (by exact ⟨rfl, rfl, congrArg (fun i : Int => some (int i)) (by simp), rfl, rfl, rfl, trivial⟩) sr_ ?_
  intro u hu
  refine d_<|a_<|q_ 1 rfl<|g_<|b_<|d_<|p_ rfl ?_ ?_
  rotate_left
  ·intro hc95
   have hgi := hgi2 u (by omega)
   have hgl : (ldgAt 4 z.2.2.1 ((batT z.2.1.ds).take u)) = z.2.1.l := by rw [List.take_of_length_le (by omega)]; exact hz.2.2.1.l.symm
   refine X_<|h_ nofun<|h_ nofun<|W_<|b_<|d_<|gV_ fun hnod => ?_
   have hb7 : b7 ∉ (It.pc (exP b19 4 z.2.1 z.2.2.2)).mids := dM_ hnod i0_
   refine Y_ (It.pc (exP b19 4 z.2.1 z.2.2.2)).mids (.q 0 (.q 1 (.e 2 (.e 3 (.q 4 (.q 5 (.q 6 (.e 7 (.q 8 (.q 9 (.q 10 .nil))))))))))) (by kernel_rfl) (by kernel_rfl) ?_
   refine fS_ (fun k hk => aI_.2 ⟨_, i1_, hk⟩) fun hx9 =>v_ rfl (k_ (C := .agg (ldgAt 4 z.2.2.1 ((batT z.2.1.ds).take u)).abs) (x_ tabOk rfl rfl rfl l0_ hb7 (Nat.le_of_ble_eq_true rfl)) rfl) hx9 rfl rfl<|qx_ 1 hx9 rfl<|Q_ rfl (exled_s (b := b19) (x := z.2.1) (r := z.2.2.2) (n := 4) (by omega) (by omega)) da_ Casts.refl (by kernel_rfl) rfl rfl rfl ?_
   refine J_ rfl i1_ (fun _ => rfl)<|fun _=>⟨_, u1_, Q_ rfl (lsame_s (a := (ldgAt 4 z.2.2.1 ((batT z.2.1.ds).take u))) (b := z.2.1.l) hgi.1 hz.2.1.ins) (by simp [mids, It.mids]) Casts.refl (by kernel_rfl) rfl rfl rfl ?_⟩
   refine ap_ ?_
   intro _
   rw [decide_eq_true hgl]
   refine fS_ (fun k hk => aI_.2 ⟨_, i1_, hk⟩) fun hx9 =>qx_ 3 hx9 rfl<|Q_ rfl (b5_ (b := b19) (x := z.2.1) (r := z.2.2.2) (n := 4)) da_ Casts.refl (by kernel_rfl) rfl rfl rfl ?_
   refine J_ rfl i1_ (fun _ => rfl)<|fun _=>⟨_, u1_, fS_ (fun k hk => aI_.2 ⟨_, i1_, hk⟩) fun hx9 =>v_ rfl (k_ (C := boo true) (ax_ rfl rfl) (congrArg (fun b => Abs.v (Value.bool b)) (decide_eq_true (by have h9 := hz.2.2.1.seq; omega)))) hx9 rfl rfl ?_⟩
   exact qx_ 2 hx9 rfl<|R_<|b_<|l_<|f_ (rs := [.tmp 2]) rfl (RV.tmp rfl RV.nil) (()) sn_<|rfl
  intro hc95
  have hul : u < (tailD z.2.1.ds).length := by omega
  have hub : u < (batT z.2.1.ds).length := by omega
  have hdu := hok.ds _ (dX_ (List.getElem_mem hul))
  have hgi := hgi2 u (by omega)
  have hgf := hgf2 u (by omega)
  have hnm := hz.2.2.1.num u hul
  have hgq := hgi.2
  have hgb : (batT z.2.1.ds)[u]'hub = ((tailD z.2.1.ds)[u]'hul).batch := List.getElem_map _
  refine o_<|b_<|d_<|w_<|d_<|a_<|c_ (H_ tabOk Tryz.underlying46 rfl rfl rfl rfl (aw_ (by omega)) rfl rfl) rfl rfl ?_
  refine c_ (T_ tabOk rfl rfl rfl rfl) rfl rfl<|eb_ (B_ tabOk rfl) rfl rfl fun b13=>?_
  refine e_ (m_ (L' := Dd.abs ((tailD z.2.1.ds)[u]'hul)) tabOk rfl rfl rfl u0_ rfl (Nat.le_of_ble_eq_true rfl) rfl (by exact s_ rfl)) rfl rfl ?_
  refine g_<|b_<|d_<|a_<|q_ 1 rfl<|c_ (y_ rfl rfl (by simp only [InR, lo, hi]; omega)) rfl rfl ?_
  refine q_ 1 rfl<|g_<|b_<|d_<|d_<|a_<|q_ 1 rfl<|c_ (k_ (C := int ((tailD z.2.1.ds)[u]'hul).seq) (i_ tabOk rfl rfl l0_ List.not_mem_nil rfl) rfl) rfl rfl<|q_ 1 rfl<|c_ (k_ (C := boo false) (ca_ rfl rfl) (congrArg (fun b => Abs.v (Value.bool b)) (decide_eq_false (fun h => h (by omega))))) rfl rfl ?_
  refine g_<|b_<|ah_ rfl<|o_<|b_<|a_<|c_ (k_ (C := .agg (ldgAt 4 z.2.2.1 ((batT z.2.1.ds).take u)).abs) (x_ tabOk rfl rfl rfl l1_ List.not_mem_nil (Nat.le_of_ble_eq_true rfl)) rfl) rfl rfl<|q_ 1 rfl<|c_ (k_ (C := entsR ((tailD z.2.1.ds)[u]'hul).batch) (i_ tabOk rfl rfl l0_ List.not_mem_nil rfl) rfl) rfl rfl<|r_ (rfold_s (l := (ldgAt 4 z.2.2.1 ((batT z.2.1.ds).take u))) (es := ((tailD z.2.1.ds)[u]'hul).batch) (n := 4) hdu.1.batch hdu.2.2 hgi.1.wf (by omega) (by omega) (by have := hdu.2.1; omega) (by omega)) Casts.refl (by kernel_rfl) rfl rfl rfl ?_
  refine ap_<|fun _=>q_ 3 rfl<|e_ (m_ (L' := ((ldgAt 4 z.2.2.1 ((batT z.2.1.ds).take u)).foldF ((tailD z.2.1.ds)[u]'hul).batch 4).1.abs) tabOk rfl rfl rfl u1_ rfl (Nat.le_of_ble_eq_true rfl) rfl (by exact s_ rfl)) rfl rfl ?_
  refine g_<|u_<|b_<|a_<|c_ (y_ rfl rfl (by simp only [InR, lo, hi]; omega)) rfl rfl ?_
  refine q_ 1 rfl<|g_<|D_ (u + 1) (by omega) (by omega) (by exact ⟨rfl, rfl, congrArg (fun i : Int => some (int i)) (by omega), rfl, rfl, rfl, trivial⟩) (by rw [ds_ hub, hgb]; repeat (first | exact List.nil_sublist _ | exact List.Sublist.refl _ | apply List.Sublist.cons_cons | apply List.Sublist.cons))
 intro hc24
 have hlt : z.1 < l.length := by omega
 have hae := hi9 _ (List.getElem_mem hlt)
 have hsq := hz.2.1.seq
 refine o_<|b_<|d_<|w_<|d_<|a_<|c_ (H_ tabOk Tryz.underlying22 rfl rfl rfl rfl (aw_ (by omega)) rfl rfl) rfl rfl ?_
 refine c_ (T_ tabOk rfl rfl rfl rfl) rfl rfl<|eb_ (B_ tabOk rfl) rfl rfl fun b6=>?_
 refine e_ (m_ (L' := XAct.abs (l[z.1]'hlt)) tabOk rfl rfl rfl u0_ rfl (Nat.le_of_ble_eq_true rfl) rfl (by exact s_ rfl)) rfl rfl ?_
 refine g_<|b_<|d_<|d_<|a_<|q_ 1 rfl<|c_ (k_ (C := entsR (l[z.1]'hlt).batch) (i_ tabOk rfl rfl l0_ List.not_mem_nil rfl) rfl) rfl rfl<|r_ (few29_s (es := (l[z.1]'hlt).batch)) Casts.refl (by kernel_rfl) rfl rfl rfl ?_
 refine ap_<|fun _=>c_ (aD_ rfl) rfl rfl<|q_ 1 rfl<|z_ (t := 31) rfl ?_ ?_
 ·intro hc31
  exact q_ 13 rfl<|g_<|b_<|K_ rfl<|d_<|a_<|q_ 1 rfl<|g_<|b_<|l_<|h_ nofun<|A_<|h_ nofun<|h_ nofun<|A_<|h_ nofun<|f_ (rs := [.tmp 2]) rfl (RV.tmp rfl RV.nil) (()) sn_<|rfl
 intro hc31
 refine q_ 2 rfl<|c_ (k_ (C := ltrsA (l[z.1]'hlt).l.ls) (i_ tabOk rfl rfl l0_ List.not_mem_nil rfl) rfl) rfl rfl<|c_ (k_ (C := int (((l[z.1]'hlt).l.ls.length : Nat) : Int)) (E_ (m := (l[z.1]'hlt).l.ls.length) rfl Tryz.underlying27 (List.length_map _)) rfl) rfl rfl<|q_ 3 rfl<|z_ (t := 38) rfl ?_ ?_
 ·intro hc38
  exact q_ 6 rfl<|g_<|b_<|K_ rfl<|d_<|a_<|q_ 1 rfl<|g_<|b_<|l_<|h_ nofun<|A_<|h_ nofun<|h_ nofun<|A_<|h_ nofun<|f_ (rs := [.tmp 2]) rfl (RV.tmp rfl RV.nil) (()) sn_<|rfl
 intro hc38
 refine q_ 2 rfl<|c_ (k_ (C := outA (l[z.1]'hlt).l.os) (i_ tabOk rfl rfl l0_ List.not_mem_nil rfl) rfl) rfl rfl<|c_ (k_ (C := int (((l[z.1]'hlt).l.os.length : Nat) : Int)) (E_ (m := (l[z.1]'hlt).l.os.length) rfl Tryz.underlying28 (List.length_map _)) rfl) rfl rfl<|q_ 2 rfl<|g_<|b_<|p_ rfl ?_ ?_
 ·intro hc44
  exact d_<|a_<|q_ 1 rfl<|g_<|b_<|l_<|h_ nofun<|A_<|h_ nofun<|h_ nofun<|A_<|h_ nofun<|f_ (rs := [.tmp 2]) rfl (RV.tmp rfl RV.nil) (()) sn_<|rfl
 intro hc44
 have hfw : FewX (l[z.1]'hlt).batch := Classical.byContradiction hc31
 refine o_<|b_<|d_<|a_<|q_ 1 rfl<|c_ (k_ (C := .v (.int .u8 ((l[z.1]'hlt).kind : Nat))) (i_ tabOk rfl rfl l0_ List.not_mem_nil rfl) rfl) rfl rfl<|c_ (fP_ rfl rfl (by omega)) rfl rfl ?_
 refine q_ 2 rfl<|z_ (t := 49) rfl ?_ ?_
 rotate_left
 ·intro hc49
  obtain ⟨rr, hrr⟩ : ∃ rr : Value, rr = z.2.2.2 := ⟨_, rfl⟩
  rw [← hrr]
  refine q_ 12 rfl<|g_<|b_<|ah_ rfl<|d_<|a_<|q_ 1 rfl<|r_ (b5_ (b := b19) (x := z.2.1) (r := rr) (n := 4)) Casts.refl (by kernel_rfl) rfl rfl rfl ?_
  refine J_ rfl i2_ (fun _ => rfl)<|fun _=>⟨_, u2_, q_ 1 rfl<|g_<|b_<|p_ rfl ?_ ?_⟩
  rotate_left
  ·intro hc66
   refine o_<|u_<|b_<|a_<|c_ (y_ rfl rfl (by simp only [InR, lo, hi]; omega)) rfl rfl ?_
   refine q_ 1 rfl<|g_<|D_ (z.1 + 1, z.2.1, z.2.2.1, rr) (by omega) (⟨by dsimp only; omega, by dsimp only; exact hz.2.1.up, by dsimp only; exact hz.2.2⟩) (by exact ⟨rfl, rfl, rfl, rfl, rfl, trivial⟩) (by dsimp only; repeat (first | exact List.nil_sublist _ | exact List.Sublist.refl _ | apply List.Sublist.cons_cons | apply List.Sublist.cons))
  intro hc66
  refine gV_ fun hnod => ?_
  have hb6 : b6 ∉ (It.pc (exP b19 4 z.2.1 rr)).mids := dM_ hnod i1_
  refine Y_ (It.pc (exP b19 4 z.2.1 rr)).mids (.q 0 (.q 1 (.q 4 (.q 5 (.e 2 (.q 3 (.e 6 .nil))))))) (by kernel_rfl) (by kernel_rfl) ?_
  refine fS_ (fun k hk => aI_.2 ⟨_, i2_, hk⟩) fun hx9 =>qx_ 3 hx9 rfl<|v_ rfl (k_ (C := entsR (l[z.1]'hlt).batch) (i_ tabOk rfl rfl l0_ hb6 rfl) rfl) hx9 rfl rfl<|Q_ rfl (b5_ (b := b19) (x := z.2.1) (r := rr) (n := 4)) da_ Casts.refl (by kernel_rfl) rfl rfl rfl ?_
  refine J_ rfl i2_ (fun _ => rfl)<|fun _=>⟨_, u2_, fS_ (fun k hk => aI_.2 ⟨_, i2_, hk⟩) fun hx9 =>v_ rfl (y_ rfl rfl (by simp only [InR, lo, hi]; omega)) hx9 rfl rfl ?_⟩
  refine fT_ ([]) rfl (gz_ (b := b19) (x := z.2.1) (r := rr) (n := 4) (seq := z.2.1.l.seq + 1) (es := (l[z.1]'hlt).batch) (j := z.1) he hr hae.batch hfw.len (by omega) hz.2.1) ei_ (by simp) Casts.refl (by kernel_rfl) rfl rfl rfl ?_
  refine aO_ (ys := (globs e1 e2)) rfl i2_ (by intro y hy; simp only [globs, List.mem_cons, List.not_mem_nil, or_false] at hy; rcases hy with rfl | rfl | rfl <;> exact ⟨by repeat first|assumption|exact m0_|apply m1_, by intro h; cases h⟩) rfl (fun _ => rfl) ?_
  intro r73
  refine ⟨_, u2_, R_<|u_<|b_<|a_<|c_ (y_ rfl rfl (by simp only [InR, lo, hi]; omega)) rfl rfl ?_⟩
  refine q_ 1 rfl<|g_<|D_ (z.1 + 1, (z.2.1.doX 4 (z.2.1.l.seq + 1) (l[z.1]'hlt).batch), z.2.2.1, r73) (by omega) (⟨by dsimp only; omega, by dsimp only; exact hz.2.1.do_ hae.batch hfw.szs hfw.len, by dsimp only; exact Since.do_ hz.2.2.1, by dsimp only; exact hz.2.2.2⟩) (by exact ⟨rfl, rfl, rfl, rfl, rfl, trivial⟩) (by dsimp only; repeat (first | exact List.nil_sublist _ | exact List.Sublist.refl _ | apply List.Sublist.cons_cons | apply List.Sublist.cons))
 intro hc49
 refine q_ 1 rfl<|c_ (k_ (C := .agg (l[z.1]'hlt).l.abs) (x_ tabOk rfl rfl rfl l0_ List.not_mem_nil (Nat.le_of_ble_eq_true rfl)) rfl) rfl rfl<|r_ (rright_w (l := (l[z.1]'hlt).l) (fun x hx => (hae.l.ls x hx).name)) Casts.refl (by kernel_rfl) rfl rfl rfl ?_
 refine ap_<|fun _=>q_ 2 rfl<|z_ (t := 54) rfl ?_ ?_
 rotate_left
 ·intro hc54
  obtain ⟨rr, hrr⟩ : ∃ rr : Value, rr = z.2.2.2 := ⟨_, rfl⟩
  rw [← hrr]
  refine q_ 7 rfl<|g_<|b_<|ah_ rfl<|d_<|a_<|q_ 1 rfl<|r_ (b5_ (b := b19) (x := z.2.1) (r := rr) (n := 4)) Casts.refl (by kernel_rfl) rfl rfl rfl ?_
  refine J_ rfl i2_ (fun _ => rfl)<|fun _=>⟨_, u2_, q_ 1 rfl<|g_<|b_<|p_ rfl ?_ ?_⟩
  rotate_left
  ·intro hc66
   refine o_<|u_<|b_<|a_<|c_ (y_ rfl rfl (by simp only [InR, lo, hi]; omega)) rfl rfl ?_
   refine q_ 1 rfl<|g_<|D_ (z.1 + 1, z.2.1, z.2.2.1, rr) (by omega) (⟨by dsimp only; omega, by dsimp only; exact hz.2.1.up, by dsimp only; exact hz.2.2⟩) (by exact ⟨rfl, rfl, rfl, rfl, rfl, trivial⟩) (by dsimp only; repeat (first | exact List.nil_sublist _ | exact List.Sublist.refl _ | apply List.Sublist.cons_cons | apply List.Sublist.cons))
  intro hc66
  refine gV_ fun hnod => ?_
  have hb6 : b6 ∉ (It.pc (exP b19 4 z.2.1 rr)).mids := dM_ hnod i1_
  refine Y_ (It.pc (exP b19 4 z.2.1 rr)).mids (.q 0 (.q 1 (.q 4 (.q 5 (.e 2 (.q 3 (.e 6 .nil))))))) (by kernel_rfl) (by kernel_rfl) ?_
  refine fS_ (fun k hk => aI_.2 ⟨_, i2_, hk⟩) fun hx9 =>qx_ 3 hx9 rfl<|v_ rfl (k_ (C := entsR (l[z.1]'hlt).batch) (i_ tabOk rfl rfl l0_ hb6 rfl) rfl) hx9 rfl rfl<|Q_ rfl (b5_ (b := b19) (x := z.2.1) (r := rr) (n := 4)) da_ Casts.refl (by kernel_rfl) rfl rfl rfl ?_
  refine J_ rfl i2_ (fun _ => rfl)<|fun _=>⟨_, u2_, fS_ (fun k hk => aI_.2 ⟨_, i2_, hk⟩) fun hx9 =>v_ rfl (y_ rfl rfl (by simp only [InR, lo, hi]; omega)) hx9 rfl rfl ?_⟩
  refine fT_ ([]) rfl (gz_ (b := b19) (x := z.2.1) (r := rr) (n := 4) (seq := z.2.1.l.seq + 1) (es := (l[z.1]'hlt).batch) (j := z.1) he hr hae.batch hfw.len (by omega) hz.2.1) ei_ (by simp) Casts.refl (by kernel_rfl) rfl rfl rfl ?_
  refine aO_ (ys := (globs e1 e2)) rfl i2_ (by intro y hy; simp only [globs, List.mem_cons, List.not_mem_nil, or_false] at hy; rcases hy with rfl | rfl | rfl <;> exact ⟨by repeat first|assumption|exact m0_|apply m1_, by intro h; cases h⟩) rfl (fun _ => rfl) ?_
  intro r73
  refine ⟨_, u2_, R_<|u_<|b_<|a_<|c_ (y_ rfl rfl (by simp only [InR, lo, hi]; omega)) rfl rfl ?_⟩
  refine q_ 1 rfl<|g_<|D_ (z.1 + 1, (z.2.1.doX 4 (z.2.1.l.seq + 1) (l[z.1]'hlt).batch), z.2.2.1, r73) (by omega) (⟨by dsimp only; omega, by dsimp only; exact hz.2.1.do_ hae.batch hfw.szs hfw.len, by dsimp only; exact Since.do_ hz.2.2.1, by dsimp only; exact hz.2.2.2⟩) (by exact ⟨rfl, rfl, rfl, rfl, rfl, trivial⟩) (by dsimp only; repeat (first | exact List.nil_sublist _ | exact List.Sublist.refl _ | apply List.Sublist.cons_cons | apply List.Sublist.cons))
 intro hc54
 refine q_ 2 rfl<|c_ (k_ (C := .agg (l[z.1]'hlt).l.abs) (x_ tabOk rfl rfl rfl l0_ List.not_mem_nil (Nat.le_of_ble_eq_true rfl)) rfl) rfl rfl<|r_ (jl_ (l := (l[z.1]'hlt).l) hc54) Casts.refl (by kernel_rfl) rfl rfl rfl ?_
 refine ap_<|fun _=>r_ (j6_ (b := b19) (x := z.2.1) (r := z.2.2.2) (n := 4) (m := (l[z.1]'hlt).l.bytes) (j := z.1) (by have := (show (l[z.1]'hlt).l.Right from hc54).bytes; omega) (by omega) hz.2.1) Casts.refl (by kernel_rfl) rfl rfl rfl ?_
 refine J_ rfl i2_ (fun _ => rfl)<|fun rr=>⟨_, u2_, q_ 2 rfl<|g_<|b_<|p_ rfl ?_ ?_⟩
 ·intro hc61
  refine a_<|q_ 1 rfl<|c_ (k_ (C := .agg (l[z.1]'hlt).l.abs) (x_ tabOk rfl rfl rfl l0_ List.not_mem_nil (Nat.le_of_ble_eq_true rfl)) rfl) rfl rfl<|e_ (m_ (L' := (l[z.1]'hlt).l.abs) tabOk rfl rfl rfl u1_ rfl (Nat.le_of_ble_eq_true rfl) rfl (by exact s_ rfl)) rfl rfl ?_
  refine g_<|u_<|b_<|a_<|c_ (y_ rfl rfl (by simp only [InR, lo, hi]; omega)) rfl rfl ?_
  refine q_ 1 rfl<|g_<|D_ (z.1 + 1, (z.2.1.adX (l[z.1]'hlt).l.bytes), (l[z.1]'hlt).l, rr) (by omega) (⟨by dsimp only; omega, by dsimp only; exact Ex.Ok.ad (x := z.2.1) (m := (l[z.1]'hlt).l.bytes) hz.2.1, by dsimp only; exact Since.ad (x := z.2.1) (l := (l[z.1]'hlt).l) hc54 hc61, by dsimp only; exact hae.l, by dsimp only; exact hc54.seq, by dsimp only; exact hc54.lsFew, by dsimp only; exact hc54.few⟩) (by exact ⟨rfl, rfl, rfl, rfl, rfl, trivial⟩) (by dsimp only; repeat (first | exact List.nil_sublist _ | exact List.Sublist.refl _ | apply List.Sublist.cons_cons | apply List.Sublist.cons))
 intro hc61
 rw [ad_no hc61]
 refine d_<|a_<|q_ 1 rfl<|r_ (b5_ (b := b19) (x := z.2.1) (r := rr) (n := 4)) Casts.refl (by kernel_rfl) rfl rfl rfl ?_
 refine J_ rfl i2_ (fun _ => rfl)<|fun _=>⟨_, u2_, q_ 1 rfl<|g_<|b_<|p_ rfl ?_ ?_⟩
 rotate_left
 ·intro hc66
  refine o_<|u_<|b_<|a_<|c_ (y_ rfl rfl (by simp only [InR, lo, hi]; omega)) rfl rfl ?_
  refine q_ 1 rfl<|g_<|D_ (z.1 + 1, z.2.1, z.2.2.1, rr) (by omega) (⟨by dsimp only; omega, by dsimp only; exact hz.2.1.up, by dsimp only; exact hz.2.2⟩) (by exact ⟨rfl, rfl, rfl, rfl, rfl, trivial⟩) (by dsimp only; repeat (first | exact List.nil_sublist _ | exact List.Sublist.refl _ | apply List.Sublist.cons_cons | apply List.Sublist.cons))
 intro hc66
 refine gV_ fun hnod => ?_
 have hb6 : b6 ∉ (It.pc (exP b19 4 z.2.1 rr)).mids := dM_ hnod i1_
 refine Y_ (It.pc (exP b19 4 z.2.1 rr)).mids (.q 0 (.q 1 (.q 4 (.q 5 (.e 2 (.q 3 (.e 6 .nil))))))) (by kernel_rfl) (by kernel_rfl) ?_
 refine fS_ (fun k hk => aI_.2 ⟨_, i2_, hk⟩) fun hx9 =>qx_ 3 hx9 rfl<|v_ rfl (k_ (C := entsR (l[z.1]'hlt).batch) (i_ tabOk rfl rfl l0_ hb6 rfl) rfl) hx9 rfl rfl<|Q_ rfl (b5_ (b := b19) (x := z.2.1) (r := rr) (n := 4)) da_ Casts.refl (by kernel_rfl) rfl rfl rfl ?_
 refine J_ rfl i2_ (fun _ => rfl)<|fun _=>⟨_, u2_, fS_ (fun k hk => aI_.2 ⟨_, i2_, hk⟩) fun hx9 =>v_ rfl (y_ rfl rfl (by simp only [InR, lo, hi]; omega)) hx9 rfl rfl ?_⟩
 refine fT_ ([]) rfl (gz_ (b := b19) (x := z.2.1) (r := rr) (n := 4) (seq := z.2.1.l.seq + 1) (es := (l[z.1]'hlt).batch) (j := z.1) he hr hae.batch hfw.len (by omega) hz.2.1) ei_ (by simp) Casts.refl (by kernel_rfl) rfl rfl rfl ?_
 refine aO_ (ys := (globs e1 e2)) rfl i2_ (by intro y hy; simp only [globs, List.mem_cons, List.not_mem_nil, or_false] at hy; rcases hy with rfl | rfl | rfl <;> exact ⟨by repeat first|assumption|exact m0_|apply m1_, by intro h; cases h⟩) rfl (fun _ => rfl) ?_
 intro r73
 refine ⟨_, u2_, R_<|u_<|b_<|a_<|c_ (y_ rfl rfl (by simp only [InR, lo, hi]; omega)) rfl rfl ?_⟩
 refine q_ 1 rfl<|g_<|D_ (z.1 + 1, (z.2.1.doX 4 (z.2.1.l.seq + 1) (l[z.1]'hlt).batch), z.2.2.1, r73) (by omega) (⟨by dsimp only; omega, by dsimp only; exact hz.2.1.do_ hae.batch hfw.szs hfw.len, by dsimp only; exact Since.do_ hz.2.2.1, by dsimp only; exact hz.2.2.2⟩) (by exact ⟨rfl, rfl, rfl, rfl, rfl, trivial⟩) (by dsimp only; repeat (first | exact List.nil_sublist _ | exact List.Sublist.refl _ | apply List.Sublist.cons_cons | apply List.Sublist.cons))
end
end Go.Proofs.YtickdhjljpnlpaaGreatDoor.A
