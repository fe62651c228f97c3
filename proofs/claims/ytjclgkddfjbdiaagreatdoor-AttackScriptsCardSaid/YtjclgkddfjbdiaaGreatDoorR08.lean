/-
  Packed out of the texts: E4, E5, V2, AWm, AN7, AWr, AN8, AN9, AGen, AN10, CorEq, AN11, Rng, Bwd, Pts, PT1, A33.
-/
import Derived.Test.YtjclgkddfjbdiaaGreatDoorR07
import Derived.RangeFuncNested
import Derived.RangeFuncBound
import Derived.RangeFuncCalls
import Derived.RangeFuncLeaves
import Derived.TacticsIn
import Derived.OrdersIn
import Derived.ControlIn
import Derived.WalkKit
set_option maxRecDepth 100000
set_option linter.unusedSimpArgs false
set_option linter.unusedVariables false
namespace Go.Proofs.YtjclgkddfjbdiaaGreatDoor.A
open Go.RowKit
abbrev chkB (T : TMap) (t : List UInt8) (who : Int) (o : Int) (M : List UInt8) : Bool := chkG T ((o, who), t) M
section
variable {q : Rq} {e : En} {n who : Int} {t : List UInt8} {c : Core} {p bd bt : Nat} {Dm : DMap} {Tb : TMap} {T : List (ByteArray × Nat)}
set_option maxHeartbeats 1000000 in
theorem holdsb_s (hl : t.length ≤ 1000000) (hn : Num1 Tb) (hT : Tb.length < 1000000) (hr : i64r e.org) (hw : i64r who) : Spec Tryz.prog 340 [.ifc 54 (.v (.pointer (some ⟨p, 0, none⟩))), .agg e.abs, byt t, int who] [.pc (bkPc p bd bt Dm Tb)] (fun _ : Unit => [.pc (bkPc p bd bt Dm Tb)]) (fun _ => boo (okE (chkB Tb t who) who e)) := by
 refine t_ Tryz.func340 rfl Tryz.ntmps340 rfl fun G w =>c_<|a_<|eb_ (B_ (cs := e.abs) rfl) rfl rfl fun b5=>?_
 refine q_ 1 rfl<|d_<|b_<|c_<|ao_ (p := b5 ∉ [p, bd, bt]) (fun _ _ h => by
   have h1 := h.mem.nodup
   simp [mids, It.mids, bkPc] at h1 ⊢
   grind) fun hX => ?_
 refine Q_ [p, bd, bt] (.q 0 (.q 1 (.q 2 (.q 3 (.q 4 (.q 5 (.q 6 (.q 7 (.q 8 (.q 9 (.q 10 (.q 11 (.q 12 (.q 13 (.q 14 (.q 15 (.q 16 (.q 17 (.q 18 (.q 19 (.q 20 (.q 21 (.q 22 (.e 23 (.q 24 (.q 25 .nil)))))))))))))))))))))))))) (by kernel_rfl) (by kernel_rfl) ?_
 refine cr_ (by (simp [mids, It.mids, ownPc, bkPc, mapPc]; done)) fun hx9 => ?_
 refine qx_ 3 hx9 rfl<|aK_ (t := 11) rfl ?_ ?_
 rotate_left
 ·intro hc11
  refine qx_ 20 hx9 rfl<|bi_ rfl rfl rfl<|qx_ 2 hx9 rfl<|F_<|b_<|k_<|f_ (rs := [.tmp 8]) rfl (RV.tmp rfl RV.nil) (()) (sk_ sr_) ?_
  (rw [okE_neg (by omega)]; rfl)
 intro hc11
 obtain ⟨m, rfl⟩ : ∃ m : Nat, who = (m : Nat) := ⟨who.toNat, by omega⟩
 refine qx_ 2 hx9 rfl<|sxvA rfl (g_ tabOk rfl rfl l0_ hX rfl) hx9<|sxvA rfl (H_ rfl Tryz.underlying40 (List.length_map _)) hx9<|qx_ 3 hx9 rfl<|aK_ (t := 18) rfl ?_ ?_
 rotate_left
 ·intro hc18
  iterate 13 refine d3_ rfl rfl rfl ?_
  refine bi_ rfl rfl rfl<|qx_ 2 hx9 rfl<|F_<|b_<|k_<|f_ (rs := [.tmp 8]) rfl (RV.tmp rfl RV.nil) (()) (sk_ sr_) ?_
  (rw [okE_far (by omega)]; rfl)
 intro hc18
 have hm : m < e.tags.length := by omega
 refine qx_ 2 hx9 rfl<|sxvA rfl (g_ tabOk rfl rfl l0_ hX rfl) hx9<|qx_ 3 hx9 rfl<|sxvA rfl (g_ tabOk rfl rfl l0_ hX rfl) hx9<|qx_ 1 hx9 rfl<|sxvA rfl (L_ (q := m) tabOk Tryz.underlying40 rfl rfl rfl rfl (a8_ hm) rfl rfl) hx9<|sxvA rfl (av_ tabOk rfl rfl rfl (Tg.size _)) hx9<|sxvA rfl (V_ rfl rfl) hx9<|sxvA rfl (cq_ rfl (fun w => by kernel_rfl)) hx9 ?_
 refine qx_ 1 hx9 rfl<|bs_ rfl (gZ_ (p := p) (bd := bd) (bt := bt) (D := Dm) (T := Tb) (from_ := e.org) (to_ := (m : Nat)) (l := t) (M := (e.tags[m]'hm).d) hr hw (by unfold maxLen; omega) (e.tags[m]'hm).len hT (Nat.lt_of_le_of_lt (hn.pl_le _) (by omega))) (by simp [mids, It.mids, bkPc]) rfl Casts.refl (fun _ _ _ => by kernel_rfl) rfl rfl rfl ?_
 refine x_ rfl i1_ (fun _ => rfl)<|fun _=>⟨_, u1_, cr_ (by (simp [mids, It.mids, ownPc, bkPc, mapPc]; done)) fun hx9 => ?_⟩
 refine qx_ 2 hx9 rfl<|F_<|b_<|k_<|f_ (rs := [.tmp 8]) rfl (RV.tmp rfl RV.nil) (()) (sk_ sr_) ?_
 (rw [okE_yes hm]; rfl)
theorem kD_ (n : Nat) (ok : En → Bool) : maskW n ok [] = 0#32 := by
  unfold maskW
  induction n with
  | zero => rfl
  | succ n ih => rw [bitsW, ih, show firstOk ok [] n = false from rfl, if_neg (by decide), BitVec.or_zero]
theorem kj_ (n : Nat) : seenW n [] = 0#32 := by
  unfold seenW
  induction n with
  | zero => rfl
  | succ n ih => rw [bitsW, ih, show hasE [] (n : Int) = false from rfl, if_neg (by decide), BitVec.or_zero]
set_option maxHeartbeats 2000000 in
theorem maskb_s (h1 : q.core.letter.size ≤ 1000) (h2 : q.core.text.size ≤ 1000) (hl : q.ends.length ≤ 100000) (hn : Num1 Tb) (hT : Tb.length < 1000000) (hr : ∀ e ∈ q.ends, i64r e.org) (hw : i64r who) : Spec Tryz.prog 272 [.ifc 54 (.v (.pointer (some ⟨p, 0, none⟩))), .agg q.abs, int n, int who] [.pc (bkPc p bd bt Dm Tb)] (fun _ : Unit => [.pc (bkPc p bd bt Dm Tb)]) (fun _ => u32 (maskN n (okE (chkB Tb (textV 100 q.core.bytes) who) who) q.ends)) := by
 refine t_ Tryz.func272 rfl Tryz.ntmps272 rfl fun G w =>c_<|a_<|eb_ (B_ (cs := q.abs) rfl) rfl rfl fun b5=>?_
 refine q_ 1 rfl<|d_<|b_<|c_<|c_<|a_<|q_ 1 rfl<|slvA (aE_ Tryz.underlying68 rfl)<|q_ 5 rfl<|A_ (t := 20) rfl ?_ ?_
 ·intro hc20
  refine q_ 3 rfl<|d_<|b_<|U_ rfl<|c_<|a_<|q_ 1 rfl<|d_<|b_<|k_<|j_ nofun<|f_ (rs := [.tmp 8]) rfl (RV.tmp rfl RV.nil) (()) (sk_ sr_) ?_
  unfold maskN
  rw [if_neg (by omega)]
  rfl
 intro hc20
 refine q_ 3 rfl<|d_<|b_<|l_ rfl ?_ ?_
 ·intro hc23
  refine c_<|a_<|q_ 1 rfl<|d_<|b_<|k_<|j_ nofun<|f_ (rs := [.tmp 8]) rfl (RV.tmp rfl RV.nil) (()) (sk_ sr_) ?_
  unfold maskN
  rw [if_neg (by omega)]
  rfl
 intro hc23
 refine o_<|b_<|c_<|a_<|q_ 1 rfl<|slvA (h_ (C := coreA q.core) (ad_ tabOk rfl rfl rfl l0_ List.not_mem_nil (Nat.le_of_ble_eq_true rfl)) (congrArg Abs.agg (Rq.part _)))<|slcA (etext_s (c := q.core) h1 h2) ?_
 refine ap_<|fun _=>q_ 1 rfl<|d_<|b_<|c_<|a_<|q_ 2 rfl<|d_<|b_<|c_<|c_<|a_<|q_ 1 rfl<|slvA (g_ tabOk rfl rfl l0_ List.not_mem_nil rfl)<|slvA (H_ rfl Tryz.underlying132 (List.length_map _))<|q_ 1 rfl<|d_<|b_<|u_ ?_
 obtain ⟨N, rfl⟩ : ∃ N : Nat, n = (N : Nat) := ⟨n.toNat, by omega⟩
 refine P_ (ι := Nat) (fun z => [.blk b5 134 q.abs, .pc (bkPc p bd bt Dm Tb)]) (fun z => [(0, .ifc 54 (.v (.pointer (some ⟨p, 0, none⟩)))), (2, int (N : Nat)), (3, int who), (5, ptr b5), (9, byt (textV 100 q.core.bytes)), (10, u32 (maskW N (okE (chkB Tb (textV 100 q.core.bytes) who) who) (q.ends.take z))), (11, u32 (seenW N (q.ends.take z))), (28, endsA q.ends), (29, int (q.ends.length : Nat)), (30, int (z : Nat))]) (fun z => z ≤ q.ends.length) (fun z => q.ends.length - z) (0) (Nat.zero_le _) (by exact ⟨rfl, rfl, rfl, rfl, rfl, congrArg (fun w : Wo => some (u32 w)) (show 0#32 = maskW N (okE (chkB Tb (textV 100 q.core.bytes) who) who) (q.ends.take 0) from (kD_ N _).symm), congrArg (fun w : Wo => some (u32 w)) (show 0#32 = seenW N (q.ends.take 0) from (kj_ N).symm), rfl, rfl, rfl, trivial⟩) sr_ ?_
 intro z hz
 refine c_<|a_<|q_ 1 rfl<|d_<|b_<|c_<|l_ rfl ?_ ?_
 rotate_left
 ·intro hc31
  refine N_<|j_ nofun<|j_ nofun<|M_<|b_<|c_<|a_<|q_ 2 rfl<|d_<|b_<|k_ ?_
  have hz2 : z = q.ends.length := by omega
  refine f_ (rs := [.tmp 8]) rfl (RV.tmp rfl RV.nil) (()) (sk_ sr_) ?_
  unfold maskN
  rw [if_pos (by omega), Int.toNat_natCast, hz2, List.take_length]
  rfl
 intro hc31
 have hlt : z < q.ends.length := by omega
 refine o_<|b_<|c_<|u_<|c_<|a_<|slvA (L_ tabOk Tryz.underlying132 rfl rfl rfl rfl (a8_ (by omega)) rfl rfl) ?_
 refine slvA (av_ tabOk rfl rfl rfl rfl)<|eb_ (C_ tabOk rfl) rfl rfl fun b13=>?_
 refine e_ (m_ (L' := (q.ends[z]'hlt).abs) tabOk rfl rfl rfl u0_ rfl (Nat.le_of_ble_eq_true rfl) rfl (by exact p_ rfl)) rfl rfl ?_
 refine d_<|b_<|c_<|c_<|a_<|q_ 1 rfl<|slvA (g_ tabOk rfl rfl l0_ List.not_mem_nil rfl)<|q_ 2 rfl<|A_ (t := 37) rfl ?_ ?_
 ·intro hc37
  have hout : ∀ o : Nat, o < N → ¬ (q.ends[z]'hlt).org = (o : Int) := fun o ho => by omega
  refine q_ 14 rfl<|d_<|b_<|U_ rfl<|N_<|j_ nofun<|M_<|b_<|a_<|slvA (y_ rfl rfl (by simp only [InR, lo, hi]; omega)) ?_
  refine q_ 1 rfl<|d_<|I_ (z + 1) (by omega) (by omega) (by exact ⟨rfl, rfl, rfl, rfl, rfl, congrArg (fun w : Wo => some (u32 w)) (show maskW N (okE (chkB Tb (textV 100 q.core.bytes) who) who) (q.ends.take z) = maskW N (okE (chkB Tb (textV 100 q.core.bytes) who) who) (q.ends.take (z + 1)) by rw [aZ_ hlt, gG_ (by omega) hout]), congrArg (fun w : Wo => some (u32 w)) (show seenW N (q.ends.take z) = seenW N (q.ends.take (z + 1)) by rw [aZ_ hlt, gp_ (by omega) hout]), rfl, rfl, rfl, trivial⟩) (sk_ sr_)
 intro hc37
 refine q_ 1 rfl<|slvA (g_ tabOk rfl rfl l0_ List.not_mem_nil rfl)<|q_ 4 rfl<|A_ (t := 43) rfl ?_ ?_
 ·intro hc43
  have hout : ∀ o : Nat, o < N → ¬ (q.ends[z]'hlt).org = (o : Int) := fun o ho => by omega
  refine q_ 8 rfl<|d_<|b_<|U_ rfl<|N_<|j_ nofun<|M_<|b_<|a_<|slvA (y_ rfl rfl (by simp only [InR, lo, hi]; omega)) ?_
  refine q_ 1 rfl<|d_<|I_ (z + 1) (by omega) (by omega) (by exact ⟨rfl, rfl, rfl, rfl, rfl, congrArg (fun w : Wo => some (u32 w)) (show maskW N (okE (chkB Tb (textV 100 q.core.bytes) who) who) (q.ends.take z) = maskW N (okE (chkB Tb (textV 100 q.core.bytes) who) who) (q.ends.take (z + 1)) by rw [aZ_ hlt, gG_ (by omega) hout]), congrArg (fun w : Wo => some (u32 w)) (show seenW N (q.ends.take z) = seenW N (q.ends.take (z + 1)) by rw [aZ_ hlt, gp_ (by omega) hout]), rfl, rfl, rfl, trivial⟩) (sk_ sr_)
 intro hc43
 obtain ⟨m, hm⟩ : ∃ m : Nat, (q.ends[z]'hlt).org = (m : Int) := ⟨(q.ends[z]'hlt).org.toNat, by omega⟩
 have hmN : m < N := by omega
 refine q_ 2 rfl<|slvA (g_ tabOk rfl rfl l0_ List.not_mem_nil rfl)<|slvA (h_ (C := .v (.int .u64 ((m : Nat) : Int))) (R_ rfl Tryz.underlying127 (by kernel_rfl) (by simp only [InR, lo, hi]; omega)) (congrArg (fun x => Abs.v (.int .u64 x)) hm)) ?_
 refine slvA (Val.shrB (m := m) rfl rfl rfl)<|slvA (Val.andW (q := 1#32) rfl rfl)<|slvA (h_ (C := boo (hasE (q.ends.take z) (m : Int))) (d2_ rfl rfl) (congrArg (fun b => Abs.v (Value.bool b)) (by rw [← seen_bit (n := N) (by omega) hmN, decide_eq_decide]; exact Int.ofNat_inj))) ?_
 refine q_ 1 rfl<|d_<|b_<|ar_ rfl ?_ ?_
 ·intro hc51
  refine N_<|j_ nofun<|M_<|b_<|a_<|slvA (y_ rfl rfl (by simp only [InR, lo, hi]; omega)) ?_
  refine q_ 1 rfl<|d_<|I_ (z + 1) (by omega) (by omega) (by exact ⟨rfl, rfl, rfl, rfl, rfl, congrArg (fun w : Wo => some (u32 w)) (show maskW N (okE (chkB Tb (textV 100 q.core.bytes) who) who) (q.ends.take z) = maskW N (okE (chkB Tb (textV 100 q.core.bytes) who) who) (q.ends.take (z + 1)) by rw [aZ_ hlt, kC_ (by omega) hm hc51]), congrArg (fun w : Wo => some (u32 w)) (show seenW N (q.ends.take z) = seenW N (q.ends.take (z + 1)) by rw [aZ_ hlt, ki_ (by omega) hm hc51]), rfl, rfl, rfl, trivial⟩) (sk_ sr_)
 intro hc51
 refine o_<|b_<|c_<|a_<|q_ 2 rfl<|slvA (g_ tabOk rfl rfl l0_ List.not_mem_nil rfl)<|slvA (h_ (C := .v (.int .u64 ((m : Nat) : Int))) (R_ rfl Tryz.underlying127 (by kernel_rfl) (by simp only [InR, lo, hi]; omega)) (congrArg (fun x => Abs.v (.int .u64 x)) hm)) ?_
 refine slvA (iS_ (p := 1#32) (m := m) rfl rfl rfl)<|slvA (lm_ rfl rfl)<|q_ 1 rfl<|d_<|b_<|c_<|a_<|q_ 1 rfl<|slvA (r_ tabOk rfl rfl rfl l0_ List.not_mem_nil rfl)<|q_ 2 rfl<|slcA (holdsb_s (p := p) (bd := bd) (bt := bt) (Dm := Dm) (Tb := Tb) (e := (q.ends[z]'hlt)) (t := (textV 100 q.core.bytes)) (who := who) (by simp [textV]; rw [dz_]; omega) hn hT (hr _ (List.getElem_mem hlt)) hw) ?_
 refine x_ rfl i2_ (fun _ => rfl)<|fun _=>⟨_, u2_, d_<|b_<|ar_ rfl ?_ ?_⟩
 rotate_left
 ·intro hc62
  refine o_<|w_<|b_<|a_<|slvA (y_ rfl rfl (by simp only [InR, lo, hi]; omega)) ?_
  refine q_ 1 rfl<|d_<|I_ (z + 1) (by omega) (by omega) (by exact ⟨rfl, rfl, rfl, rfl, rfl, congrArg (fun w : Wo => some (u32 w)) (show maskW N (okE (chkB Tb (textV 100 q.core.bytes) who) who) (q.ends.take z) = maskW N (okE (chkB Tb (textV 100 q.core.bytes) who) who) (q.ends.take (z + 1)) by rw [aZ_ hlt, gH_ (by omega) hmN hm hc51, if_neg (by rw [hc62]; decide)]), congrArg (fun w : Wo => some (u32 w)) (show seenW N (q.ends.take z) ||| 1#32 <<< m = seenW N (q.ends.take (z + 1)) by rw [aZ_ hlt, gq_ (by omega) hmN hm]), rfl, rfl, rfl, trivial⟩) (sk_ sr_)
 intro hc62
 refine a_<|q_ 2 rfl<|slvA (g_ tabOk rfl rfl l0_ List.not_mem_nil rfl)<|slvA (h_ (C := .v (.int .u64 ((m : Nat) : Int))) (R_ rfl Tryz.underlying127 (by kernel_rfl) (by simp only [InR, lo, hi]; omega)) (congrArg (fun x => Abs.v (.int .u64 x)) hm)) ?_
 refine slvA (iS_ (p := 1#32) (m := m) rfl rfl rfl)<|slvA (lm_ rfl rfl)<|q_ 1 rfl<|d_<|w_<|b_<|a_<|slvA (y_ rfl rfl (by simp only [InR, lo, hi]; omega)) ?_
 refine q_ 1 rfl<|d_<|I_ (z + 1) (by omega) (by omega) (by exact ⟨rfl, rfl, rfl, rfl, rfl, congrArg (fun w : Wo => some (u32 w)) (show maskW N (okE (chkB Tb (textV 100 q.core.bytes) who) who) (q.ends.take z) ||| 1#32 <<< m = maskW N (okE (chkB Tb (textV 100 q.core.bytes) who) who) (q.ends.take (z + 1)) by rw [aZ_ hlt, gH_ (by omega) hmN hm hc51, if_pos hc62]), congrArg (fun w : Wo => some (u32 w)) (show seenW N (q.ends.take z) ||| 1#32 <<< m = seenW N (q.ends.take (z + 1)) by rw [aZ_ hlt, gq_ (by omega) hmN hm]), rfl, rfl, rfl, trivial⟩) (sk_ sr_)
end
theorem lh_ (n : Int) : (allN n).length ≤ 7 := by
  unfold allN
  split
  · simp
  · simp; omega
def sgB (T : TMap) (o n : Int) (c : Core) : En := ⟨o, tagsG (gB o (textV 100 c.bytes)) T (allN n)⟩
section
variable {q : Rq} {e : En} {o n who : Int} {c : Core} {p bd bt : Nat} {Dm : DMap} {Tb : TMap} {T : List (ByteArray × Nat)}
theorem allN_i64 (n : Int) : ∀ w ∈ allN n, i64r w := fun w hw => by
  unfold allN at hw
  split at hw
  · cases hw
  · obtain ⟨i, hi, rfl⟩ := List.mem_map.1 hw
    rw [List.mem_range] at hi
    unfold i64r
    omega
theorem esignb_s (h1 : c.letter.size ≤ 1000) (h2 : c.text.size ≤ 1000) (hn : Num1 Tb) (hT : Tb.length ≤ 900000) (ho : i64r o) : Spec Tryz.prog 84 [.ifc 54 (.v (.pointer (some ⟨p, 0, none⟩))), int o, int n, coreA c] [.pc (bkPc p bd bt Dm (Tb))] (fun _ : Unit => [.pc (bkPc p bd bt Dm (tmG (gB o (textV 100 c.bytes)) Tb (allN n)))]) (fun _ => .agg (sgB Tb o n c).abs) := by
 refine t_ Tryz.func84 rfl Tryz.ntmps84 rfl fun G w =>c_<|a_<|eb_ (B_ (cs := c.cells.map .v) rfl) rfl rfl fun b7=>?_
 refine eb_ (C_ tabOk rfl) rfl rfl fun b8=>?_
 refine d_<|b_<|c_<|a_<|q_ 2 rfl<|slvA (r_ tabOk rfl rfl rfl l1_ List.not_mem_nil rfl)<|Y_ (dB_ (by omega) (by omega)) Casts.refl (by kernel_rfl) rfl rfl rfl ?_
 refine ap_<|fun _=>q_ 1 rfl<|Y_ (lg_ (n := n)) Casts.refl (by kernel_rfl) rfl rfl rfl ?_
 refine ap_<|fun _=>Y_ (h9_ (k := 100) (f := o) (body := c.bytes) (to := allN n) (p := p) (bd := bd) (bt := bt) (Dm := Dm) (Tb := Tb) (by rw [dz_]; omega) hn hT (by have := lh_ n; omega) ho (allN_i64 n)) Casts.refl (by kernel_rfl) rfl rfl rfl ?_
 refine x_ rfl i2_ (fun _ => rfl)<|fun _=>⟨_, u2_, eb_ (C_ tabOk rfl) rfl rfl fun b9=>?_⟩
 refine e_ (m_ (L' := (Msg.mk 100 o c.bytes (tagsG (gB o (textV 100 c.bytes)) Tb (allN n))).abs) tabOk rfl rfl rfl u0_ rfl (Nat.le_of_ble_eq_true rfl) rfl (by exact p_ rfl)) rfl rfl ?_
 refine d_<|b_<|c_<|a_<|q_ 2 rfl<|slvA (g_ tabOk rfl rfl l0_ List.not_mem_nil rfl)<|slvA (z_ (L := (sgB Tb o n c).abs) tabOk rfl rfl rfl rfl)<|e_ (m_ (L' := (sgB Tb o n c).abs) tabOk rfl rfl rfl u1_ rfl (Nat.le_of_ble_eq_true rfl) rfl (by exact p_ rfl)) rfl rfl ?_
 refine d_<|b_<|k_<|f_ (rs := [.cell 8 213]) rfl (RV.cell rfl (RV.cellA tabOk rfl rfl l1_ (by rfl)) RV.nil) (()) (sk_ (sk_ (sk_ sr_))) ?_
 exact rfl
end
def chkM (T : TMap) (m : Msg) (place who : Int) : Int :=
  if place < 0 ∨ (m.tags.length : Int) ≤ place then 12 else
  if ((aget T ((m.from_, who), textV m.kind m.body)).isSome && decide (((m.tags[place.toNat]?).map Tg.d).getD [] = numB 255 (pl T ((m.from_, who), textV m.kind m.body)))) = true then 0 else 12
section
variable {m : Msg} {place who k f n : Int} {body : List UInt8} {to : List Int} {p bd bt : Nat} {Dm : DMap} {T : TMap}
set_option maxHeartbeats 4000000 in
theorem checkb_s (hl : m.body.length ≤ 1000) (hx : i64r m.from_) (hy : i64r who) (hm : T.length < 1000000) (hpl : pl T ((m.from_, who), textV m.kind m.body) < 9223372036854775808) : Spec Tryz.prog 207 [.ifc 54 (.v (.pointer (some ⟨p, 0, none⟩))), .agg m.abs, int place, int who] [.pc (bkPc p bd bt Dm T)] (fun _ : Unit => [.pc (bkPc p bd bt Dm T)]) (fun _ => int (chkM T m place who)) := by
 refine t_ Tryz.func207 rfl Tryz.ntmps207 rfl fun G w =>c_<|a_<|eb_ (B_ rfl) rfl rfl fun b5=>?_
 refine q_ 1 rfl<|d_<|b_<|c_<|c_<|ao_ (p := b5 ∉ [p, bd, bt]) (fun _ _ h => by
   have h1 := h.mem.nodup
   simp [mids, It.mids, bkPc, ownPc] at h1 ⊢
   grind) fun hX => ?_
 refine Q_ [p, bd, bt] (.q 0 (.q 1 (.q 2 (.q 3 (.q 4 (.q 5 (.q 6 (.q 7 (.q 8 (.q 9 (.q 10 (.q 11 (.q 12 (.q 13 (.q 14 (.q 15 (.q 16 (.q 17 (.q 18 (.q 19 (.q 20 (.q 21 (.q 23 (.q 24 (.q 25 (.q 26 (.q 27 (.q 28 (.q 29 (.q 30 (.e 22 (.e 31 (.q 32 (.q 33 .nil)))))))))))))))))))))))))))))))))) (by kernel_rfl) (by kernel_rfl) ?_
 refine cr_ (by (simp [mids, It.mids, ownPc, bkPc]; done)) fun hx9 => ?_
 refine qx_ 1 hx9 rfl<|sxvA rfl (aE_ Tryz.underlying68 rfl) hx9<|qx_ 5 hx9 rfl<|aK_ (t := 15) rfl ?_ ?_
 ·intro hc15
  refine qx_ 23 hx9 rfl<|bi_ rfl rfl rfl<|bi_ rfl rfl rfl<|qx_ 2 hx9 rfl<|F_<|b_<|U_ rfl<|c_<|a_<|q_ 1 rfl<|d_<|b_<|k_<|j_ nofun<|f_ (rs := [.tmp 8]) rfl (RV.tmp rfl RV.nil) (()) (sk_ sr_)<|congrArg int ?_
  unfold chkM
  (rw [if_pos (by omega)])
 intro hc15
 refine qx_ 2 hx9 rfl<|sxvA rfl (g_ tabOk rfl rfl l0_ hX rfl) hx9<|sxvA rfl (H_ rfl Tryz.underlying40 (List.length_map _)) hx9<|qx_ 3 hx9 rfl<|aK_ (t := 22) rfl ?_ ?_
 ·intro hc22
  iterate 16 refine d3_ rfl rfl rfl ?_
  refine bi_ rfl rfl rfl<|bi_ rfl rfl rfl<|qx_ 2 hx9 rfl<|F_<|b_<|U_ rfl<|c_<|a_<|q_ 1 rfl<|d_<|b_<|k_<|j_ nofun<|f_ (rs := [.tmp 8]) rfl (RV.tmp rfl RV.nil) (()) (sk_ sr_)<|congrArg int ?_
  unfold chkM
  (rw [if_pos (by omega)])
 intro hc22
 obtain ⟨q, rfl⟩ : ∃ q : Nat, place = (q : Nat) := ⟨place.toNat, by omega⟩
 have hq : q < m.tags.length := by omega
 refine qx_ 2 hx9 rfl<|sxvA rfl (g_ tabOk rfl rfl l0_ hX rfl) hx9<|qx_ 2 hx9 rfl<|sxvA rfl (g_ tabOk rfl rfl l0_ hX rfl) hx9<|qx_ 1 hx9 rfl<|sxvA rfl (g_ tabOk rfl rfl l0_ hX rfl) hx9<|qx_ 1 hx9 rfl<|sxvA rfl (g_ tabOk rfl rfl l0_ hX rfl) hx9<|qx_ 1 hx9 rfl<|sxvA rfl (L_ tabOk Tryz.underlying40 rfl rfl rfl rfl (a8_ (by omega)) rfl rfl) hx9 ?_
 refine sxvA rfl (av_ tabOk rfl rfl rfl (Tg.size _)) hx9<|sxvA rfl (V_ rfl rfl) hx9<|sxvA rfl (cq_ rfl (fun w => by kernel_rfl)) hx9 ?_
 refine qx_ 1 hx9 rfl<|D_ rfl (j8_ (k := m.kind) (l := m.body) (by omega)) (by simp [mids, It.mids]) Casts.refl (by kernel_rfl) rfl rfl rfl ?_
 refine ap_<|fun _=>bs_ rfl (gZ_ (p := p) (bd := bd) (bt := bt) (D := Dm) (T := T) (from_ := m.from_) (to_ := who) (l := textV m.kind m.body) (M := (m.tags[q]'hq).d) hx hy (by unfold maxLen; simp [textV]; omega) (m.tags[q]'hq).len hm hpl) (by simp [mids, It.mids, bkPc]) rfl Casts.refl (fun _ _ _ => by kernel_rfl) rfl rfl rfl ?_
 refine x_ rfl i1_ (fun _ => rfl)<|fun _=>⟨_, u1_, cr_ (by (simp [mids, It.mids, ownPc, bkPc]; done)) fun hx9 => ?_⟩
 refine sxvA rfl (aL_ rfl) hx9<|qx_ 1 hx9 rfl<|F_<|b_<|ar_ rfl ?_ ?_
 rotate_left
 ·intro hc42
  refine o_<|b_<|c_<|a_<|q_ 1 rfl<|d_<|b_<|k_<|f_ (rs := [.tmp 8]) rfl (RV.tmp rfl RV.nil) (()) (sk_ sr_)<|congrArg int ?_
  unfold chkM
  rw [if_neg (by omega), if_pos (by
   have h8 := hc42
   simp only [Int.toNat_natCast, List.getElem?_eq_getElem hq, Option.map_some, Option.getD_some]
   simpa using h8)]
 intro hc42
 refine c_<|a_<|q_ 1 rfl<|d_<|b_<|k_<|j_ nofun<|f_ (rs := [.tmp 8]) rfl (RV.tmp rfl RV.nil) (()) (sk_ sr_)<|congrArg int ?_
 unfold chkM
 first
  | (rw [if_pos (by omega)])
  | (rw [if_neg (by omega), if_neg (by
    have h8 := hc42
    simp only [Int.toNat_natCast, List.getElem?_eq_getElem hq, Option.map_some, Option.getD_some]
    intro h9
    rw [h9] at h8
    simp at h8)])
end
section
variable {p bd bt N M : Nat} {k f o n who place : Int} {body : List UInt8} {to : List Int} {m : Msg} {c : Core} {q : Rq}
theorem fG_ (hb : body.length ≤ 999000) (hN : N ≤ 800000) (hl : to.length ≤ 1000) (hf : i64r f) (hto : ∀ w ∈ to, i64r w) : Spec Tryz.prog 70 [bkI p, int k, int f, byt body, ints to] [wb p bd bt N] (fun _ : {l : List Tg // l.length = to.length} => [wb p bd bt (N + to.length)]) (fun ts => .agg (Msg.mk k f body ts.1).abs) :=
  Spec.wbOpen fun D T h1 h2 => Spec.wbIn (fun ts : {l : List Tg // l.length = to.length} => .agg (Msg.mk k f body ts.1).abs) ⟨_, d6_ _ _ _⟩ rfl (h9_ hb h2.2 (by have := h2.1; omega) hl hf hto) (h1.mono (by omega)) (h2.tm _ _ (Nat.le_refl _))
theorem h3_ (h1 : c.letter.size ≤ 1000) (h2 : c.text.size ≤ 1000) (hN : N ≤ 800000) (ho : i64r o) : Spec Tryz.prog 84 [bkI p, int o, int n, coreA c] [wb p bd bt N] (fun _ : {l : List Tg // l.length = (allN n).length} => [wb p bd bt (N + 7)]) (fun ts => .agg (En.mk o ts.1).abs) :=
  Spec.wbOpen fun D T g1 g2 => Spec.wbIn (fun ts : {l : List Tg // l.length = (allN n).length} => .agg (En.mk o ts.1).abs) ⟨tagsG (gB o (textV 100 c.bytes)) T (allN n), d6_ _ _ _⟩ rfl (esignb_s h1 h2 g2.2 (by have := g2.1; omega) ho) (g1.mono (by omega)) (g2.tm _ _ (by have := lh_ n; omega))
theorem wvchk_s (hl : m.body.length ≤ 1000) (hx : i64r m.from_) (hy : i64r who) (hN : N ≤ 800000) : Spec Tryz.prog 207 [bkI p, .agg m.abs, int place, int who] [wb p bd bt N] (fun _ : Int => [wb p bd bt N]) (fun e => int e) :=
  Spec.wbOpen fun D T h1 h2 => Spec.wbIn (fun e : Int => int e) _ rfl (checkb_s hl hx hy (by have := h2.1; omega) (by have := h2.pl ((m.from_, who), textV m.kind m.body); omega)) h1 h2
theorem hn_ (h1 : q.core.letter.size ≤ 1000) (h2 : q.core.text.size ≤ 1000) (hl : q.ends.length ≤ 100000) (hr : ∀ e ∈ q.ends, i64r e.org) (hw : i64r who) (hN : N ≤ 800000) : Spec Tryz.prog 272 [bkI p, .agg q.abs, int n, int who] [wb p bd bt N] (fun _ : Wo => [wb p bd bt N]) (fun x => u32 x) :=
  Spec.wbOpen fun D T g1 g2 => Spec.wbIn (fun x : Wo => u32 x) _ rfl (maskb_s h1 h2 hl g2.2 (by have := g2.1; omega) hr hw) g1 g2
end
abbrev bysW (l : List UInt8) : List (List Abs) := l.map fun b => [Abs.v (bc b)]
theorem cY_ (a b : List UInt8) : bysW a ++ bysW b = bysW (a ++ b) := by simp [bysW]
theorem bI_ (l : List UInt8) : ∀ c ∈ bysW l, ones c = true := by
  intro c hc
  obtain ⟨b, _, rfl⟩ := List.mem_map.1 hc
  rfl
theorem dv_ {l : List UInt8} {x : Nat} {n : Int} (hl : l.length ≤ lots) (hx : x < 18446744073709551616) (hn : sizeB n = true) : Spec Tryz.prog 93 [byt l, wrd x, int n] [] (fun r : Value => [own 5 1 r (bysW (l ++ beBytes x n.toNat))]) (fun r => .v r) := Spec.ofOwnB fun K w vals hK hv => by
  obtain ⟨v, us', rfl, h1, u, us2, rfl, h2, u3, us3, rfl, h3, h4⟩ := hv
  have h2 : u = .int .u64 (x : Nat) := h2
  have h3 : u3 = .int .i64 n := h3
  have h4 : us3 = [] := h4
  subst h2 h3 h4
  have hw := (enter2 w K).add (z := bytesD v l) (row2 (aP_.1 h1))
  exact (fM_ (l := l) hw (hw.bytes (by simp)) hl hx hn).mono fun e w' ⟨r, he, hm⟩ => ⟨r, _, he, hm⟩
theorem Tg.row (t : Tg) : (t.abs.take 32).map (fun a => [a]) = bysW t.d := by
  rw [List.take_of_length_le (by rw [Tg.size]; exact Nat.le_refl _)]
  simp [Tg.abs, digA, bysW]
section
variable {q : Rq} {p bd bt N : Nat} {c : Core}
set_option maxHeartbeats 1000000 in
theorem reqb_s (h1 : q.core.letter.size ≤ 20) (h2 : q.core.text.size ≤ 20) (hn : q.ends.length ≤ 4) (ht : ∀ e ∈ q.ends, e.tags.length ≤ 4) (ho : ∀ e ∈ q.ends, 0 ≤ e.org ∧ e.org < 256) : Spec Tryz.prog 67 [.agg q.abs] [] (fun _ : {l : List UInt8 // l.length ≤ 720} => []) (fun l => byt l.1) := by
 have hL : lots = 100000000000 := rfl
 have hcl := dz_ q.core
 refine t_ Tryz.func67 rfl Tryz.ntmps67 rfl fun G w =>c_<|a_<|eb_ (B_ (cs := q.abs) rfl) rfl rfl fun b1=>?_
 refine q_ 1 rfl<|d_<|b_<|c_<|Q_ [] (.q 0 (.q 1 (.q 4 (.q 5 (.q 6 (.q 7 (.e 2 (.e 3 (.e 8 (.q 9 .nil)))))))))) (by kernel_rfl) (by kernel_rfl) ?_
 refine qs_ 1 rfl<|hx_ fun hx9 =>sxvA rfl (h_ (C := coreA q.core) (ad_ tabOk rfl rfl rfl l0_ List.not_mem_nil (Nat.le_of_ble_eq_true rfl)) (congrArg Abs.agg (Rq.part _))) hx9<|qs_ 1 rfl<|sxvA rfl (g_ tabOk rfl rfl l0_ List.not_mem_nil rfl) (by simp) ?_
 refine sxvA rfl (H_ rfl Tryz.underlying132 (List.length_map _)) (by simp) ?_
 refine sxvA rfl (R_ rfl Tryz.underlying27 (by kernel_rfl) (by simp only [InR, lo, hi]; omega)) (by simp) ?_
 refine D_ rfl (dB_ (c := q.core) (by omega) (by omega)) (by simp [mids, It.mids]) Casts.refl (by kernel_rfl) rfl rfl rfl ?_
 refine ap_<|fun _=>D_ rfl (row_s (l := []) (m := q.core.bytes) (by simp; omega) (by omega)) (by simp [mids, It.mids]) (Casts.cons (fun _ _ _ h => b3_ h) Casts.refl) (by kernel_rfl) rfl rfl rfl ?_
 refine ap_<|fun _=>D_ rfl (fa_ (l := [] ++ beBytes q.core.bytes.length 4 ++ q.core.bytes) (x := q.ends.length) (n := 2) (by simp only [List.length_append, v_, List.length_nil, List.length_cons] at *; omega) (by omega) rfl) (by simp [mids, It.mids]) Casts.refl (by kernel_rfl) rfl rfl rfl ?_
 refine ap_<|fun _=>qs_ 1 rfl<|F_<|b_<|c_<|c_<|a_<|q_ 1 rfl<|slvA (g_ tabOk rfl rfl l0_ List.not_mem_nil rfl)<|slvA (H_ rfl Tryz.underlying132 (List.length_map _))<|q_ 1 rfl<|d_<|b_<|u_<|P_ (ι := Nat × List UInt8) (fun z => [.blk b1 134 q.abs]) (fun z => [(1, ptr b1), (3, byt z.2), (18, endsA q.ends), (19, int (q.ends.length : Nat)), (20, int (z.1 : Nat))]) (fun z => z.1 ≤ q.ends.length ∧ z.2.length ≤ 200 + z.1 * 130) (fun z => q.ends.length - z.1) (0, [] ++ beBytes q.core.bytes.length 4 ++ q.core.bytes ++ beBytes q.ends.length 2) (⟨Nat.zero_le _, by simp only [List.length_append, v_, List.length_nil]; omega⟩) (by exact ⟨rfl, rfl, rfl, rfl, rfl, trivial⟩) sr_ ?_
 intro z hz
 refine c_<|a_<|q_ 1 rfl<|d_<|b_<|c_<|l_ rfl ?_ ?_
 rotate_left
 ·intro hc21
  refine N_<|j_ nofun<|j_ nofun<|M_<|b_<|c_<|a_<|q_ 2 rfl<|d_<|b_<|k_<|f_ (rs := [.tmp 2]) rfl (RV.tmp rfl RV.nil) (⟨z.2, by have := hz.2; omega⟩) sn_ ?_
  exact rfl
 intro hc21
 have hlt : z.1 < q.ends.length := by omega
 have hte := ht _ (List.getElem_mem hlt)
 have hoe := ho _ (List.getElem_mem hlt)
 refine o_<|b_<|c_<|u_<|c_<|a_<|slvA (L_ tabOk Tryz.underlying132 rfl rfl rfl rfl (a8_ (by omega)) rfl rfl) ?_
 refine slvA (av_ tabOk rfl rfl rfl rfl)<|eb_ (C_ tabOk rfl) rfl rfl fun b5=>?_
 refine e_ (m_ (L' := (q.ends[z.1]'hlt).abs) tabOk rfl rfl rfl u0_ rfl (Nat.le_of_ble_eq_true rfl) rfl (by exact p_ rfl)) rfl rfl ?_
 refine d_<|b_<|c_<|a_<|q_ 2 rfl<|slvA (g_ tabOk rfl rfl l0_ List.not_mem_nil rfl)<|slvA (h_ (C := wrd (q.ends[z.1]'hlt).org.toNat) (R_ rfl Tryz.underlying27 (by kernel_rfl) (by simp only [InR, lo, hi]; omega)) (congrArg (fun r => Abs.v (.int .u64 r)) (Int.toNat_of_nonneg hoe.1).symm)) ?_
 refine slcA (dv_ (l := z.2) (x := (q.ends[z.1]'hlt).org.toNat) (n := 1) (by have := hz.2; omega) (by omega) rfl) ?_
 refine aftM ?_
 intro r28
 refine q_ 1 rfl<|d_<|b_<|c_<|a_<|q_ 1 rfl<|slvA (g_ tabOk rfl rfl l1_ List.not_mem_nil rfl)<|slvA (H_ rfl Tryz.underlying40 (List.length_map _))<|q_ 1 rfl<|d_<|b_<|u_<|P_ (ι := Nat × Value × List UInt8) (fun y => [own 5 1 y.2.1 (bysW y.2.2), .blk b5 213 (q.ends[z.1]'hlt).abs, .blk b1 134 q.abs]) (fun y => [(1, ptr b1), (3, .v y.2.1), (5, ptr b5), (18, endsA q.ends), (19, int (q.ends.length : Nat)), (20, int (z.1 : Nat)), (30, .sl 32 ((q.ends[z.1]'hlt).tags.map Tg.abs)), (31, int ((q.ends[z.1]'hlt).tags.length : Nat)), (32, int (y.1 : Nat))]) (fun y => y.1 ≤ (q.ends[z.1]'hlt).tags.length ∧ y.2.2.length ≤ 200 + z.1 * 130 + 1 + y.1 * 32) (fun y => (q.ends[z.1]'hlt).tags.length - y.1) (0, r28, z.2 ++ beBytes (q.ends[z.1]'hlt).org.toNat (Int.toNat 1)) (⟨Nat.zero_le _, by simp only [List.length_append, v_]; have := hz.2; omega⟩) (by exact ⟨rfl, rfl, rfl, rfl, rfl, rfl, rfl, rfl, rfl, trivial⟩) sr_ ?_
 intro y hy
 refine c_<|a_<|q_ 1 rfl<|d_<|b_<|c_<|l_ rfl ?_ ?_
 rotate_left
 ·intro hc33
  refine N_<|j_ nofun<|j_ nofun<|M_<|w_<|b_<|a_<|slvA (y_ rfl rfl (by simp only [InR, lo, hi]; omega)) ?_
  refine q_ 1 rfl<|d_<|aT_ [] (t := 3) rfl rfl<|I_ (z.1 + 1, y.2.2) (by omega) ((⟨by dsimp only; omega, by dsimp only; omega⟩)) (by exact ⟨rfl, rfl, rfl, rfl, rfl, trivial⟩) (sk_ sr_)
 intro hc33
 have hlt2 : y.1 < (q.ends[z.1]'hlt).tags.length := by omega
 refine o_<|b_<|c_<|u_<|c_<|a_<|slvA (L_ tabOk Tryz.underlying40 rfl rfl rfl rfl (a8_ (by omega)) rfl rfl) ?_
 refine slvA (av_ tabOk rfl rfl rfl (Tg.size _))<|eb_ (C_ tabOk rfl) rfl rfl fun b7=>?_
 refine e_ (m_ (L' := ((q.ends[z.1]'hlt).tags[y.1]'hlt2).abs) tabOk rfl rfl rfl u0_ (Tg.size _) (Nat.le_of_ble_eq_true rfl) (by exact bO_ _) (by exact p_ (Tg.size _))) rfl rfl ?_
 refine d_<|b_<|ce_ [] 7 rfl rfl<|a_<|q_ 1 rfl<|slvA (bl_ tabOk Tryz.underlying64 rfl rfl rfl rfl (Tg.row _) (by rw [Tg.size]; exact Nat.le_refl _)) ?_
 refine eb_ (K_ (zs := bysW (y.2.2 ++ ((q.ends[z.1]'hlt).tags[y.1]'hlt2).d)) tabOk [] (cY_ _ _) Tryz.underlying39 rfl rfl rfl rfl rfl rfl (bI_ _) (by unfold maxLen; simp only [bysW, List.length_map, List.length_append]; rw [((q.ends[z.1]'hlt).tags[y.1]'hlt2).len]; have := hy.2; omega) (by rw [show Tryz.prog.bytesOf 5 = 1 by kernel_rfl]; simp only [bysW, List.length_map, List.length_append]; rw [((q.ends[z.1]'hlt).tags[y.1]'hlt2).len]; have := hy.2; omega)) rfl rfl fun r38=>?_
 refine q_ 1 rfl<|d_<|w_<|b_<|a_<|slvA (y_ rfl rfl (by simp only [InR, lo, hi]; omega)) ?_
 refine q_ 1 rfl<|d_<|I_ (y.1 + 1, r38, y.2.2 ++ ((q.ends[z.1]'hlt).tags[y.1]'hlt2).d) (by omega) ((⟨by dsimp only; omega, by dsimp only; rw [List.length_append, ((q.ends[z.1]'hlt).tags[y.1]'hlt2).len]; have := hy.2; omega⟩)) (by exact ⟨rfl, rfl, rfl, rfl, rfl, rfl, rfl, rfl, rfl, trivial⟩) sr_
end
theorem Rd.row_length (s : Rd) (m : Int) : (s.row m).l.length ≤ s.l.length := by
  have h := s.fixed_length 4
  have h2 := (s.fixed 4).fixed_length (s.num 4)
  unfold Rd.row
  split
  · exact h
  · split
    · exact h
    · omega
theorem Rd.cnt_length (s : Rd) (m : Int) : (s.count m).l.length ≤ s.l.length := by
  have h := s.fixed_length 2
  unfold Rd.count
  split <;> exact h
theorem Rd.cnt_le (s : Rd) {m : Int} (hm : 0 ≤ m) : (s.countN m : Int) ≤ m := by
  unfold Rd.countN
  split
  · exact hm
  · rename_i h
    by_cases he : (s.fixed 2).e = 0
    · have : ¬ m < s.num 2 := fun h2 => h ⟨he, h2⟩
      omega
    · rw [s.num0 he]
      exact hm
section
variable {p : Nat} {n : Int} {l : List UInt8}
def rwP (p : Nat) : Pc := exP [p] (fun s : Rd => blkP p TR [byt s.l, int s.e]) (fun _ => rfl) (fun s => s.l.length ≤ 1000)
abbrev rw_ (p : Nat) : It := .pc (rwP p)
theorem Spec.rw_ {f : FuncId} {args : List Abs} {g : Rd → Rd} {r : Rd → Abs} {κ : Type} {κr : κ → Abs} (u : ∀ s : Rd, s.l.length ≤ 1000 → κ) (hr : ∀ s h, r s = κr (u s h)) (hs : ∀ s : Rd, s.l.length ≤ lots → Spec Tryz.prog f args [rdA TR p s] (fun _ : Unit => [rdA TR p (g s)]) (fun _ => r s)) (hg : ∀ s : Rd, (g s).l.length ≤ s.l.length) : Spec Tryz.prog f args [A.rw_ p] (fun _ : κ => [A.rw_ p]) κr :=
  Spec.exOpen fun s hl => Spec.ex (c := fun s : Rd => blkP p TR [byt s.l, int s.e]) (i := s) (j := g s) κr (u s hl) (hr s hl) (Spec.reg (φ := []) (hs s (by unfold lots; omega)) (fun x h => by rw [List.mem_singleton.1 h]; rfl) (by rw [List.append_nil]; exact Re.blkOut) fun z => by rw [List.append_nil]; exact Re.blkIn) (Nat.le_trans (hg s) hl)
theorem jP_ (hl : l.length ≤ 1000) : Spec Tryz.prog 225 [byt l] [] (fun p : Nat => [rw_ p]) (fun p => ptr p) :=
  Spec.reg (φ := []) (read_s (by unfold lots; omega)) (fun x h => by cases h) (by rw [List.append_nil]; exact Re.refl (J_ rfl)) fun p => by rw [List.append_nil]; exact Re.trans Re.blkIn (Re.exIn (i := Rd.of l) (c := fun s : Rd => blkP p TR [byt s.l, int s.e]) hl)
theorem hm_ : Spec Tryz.prog 226 [ptr p, int 1] [rw_ p] (fun _ : {x : Nat // x < 256} => [rw_ p]) (fun x => wrd x.1) :=
  Spec.rw_ (fun s _ => ⟨s.num 1, s.num_lt (n := 1) (k := 1) (Nat.le_refl _)⟩) (fun _ _ => rfl) (fun s h => is_ h rfl) fun s => s.fixed_length 1
theorem hl_ : Spec Tryz.prog 226 [ptr p, int 8] [rw_ p] (fun _ : Nat => [rw_ p]) (fun x => wrd x) :=
  Spec.rw_ (fun s _ => s.num 8) (fun _ _ => rfl) (fun s h => is_ h rfl) fun s => s.fixed_length 8
theorem wcount_s (h0 : 0 ≤ n) : Spec Tryz.prog 227 [ptr p, int n] [rw_ p] (fun _ : {x : Nat // (x : Int) ≤ n} => [rw_ p]) (fun x => int (x.1 : Nat)) :=
  Spec.rw_ (fun s _ => ⟨s.countN n, Rd.cnt_le s h0⟩) (fun _ _ => rfl) (fun s h => count_s h) fun s => Rd.cnt_length s n
theorem wfixed_s : Spec Tryz.prog 228 [ptr p, int n] [rw_ p] (fun _ : {l : List UInt8 // l.length ≤ n.toNat} => [rw_ p]) (fun l => byt l.1) :=
  Spec.rw_ (fun s _ => ⟨s.out n, s.out_length n⟩) (fun _ _ => rfl) (fun s h => fixed_s h) fun s => s.fixed_length n
theorem jN_ (hn : 0 ≤ n ∧ n ≤ 9223372036854775807) : Spec Tryz.prog 308 [ptr p, int n] [rw_ p] (fun _ : {l : List UInt8 // l.length ≤ 1000} => [rw_ p]) (fun l => byt l.1) :=
  Spec.rw_ (fun s hl => ⟨s.rowOut n, Nat.le_trans (s.rowOut_length n) hl⟩) (fun _ _ => rfl) (fun s h => rowr_s h hn) fun s => Rd.row_length s n
theorem wend_s : Spec Tryz.prog 230 [ptr p] [rw_ p] (fun _ : Int => [rw_ p]) (fun e => int e) :=
  Spec.rw_ (fun s _ => s.end_) (fun _ _ => rfl) (fun s _ => end_s) fun s => Nat.le_refl _
end
theorem arr_le {l : List UInt8} {n : Nat} (h : l.length ≤ n) : (ByteArray.mk l.toArray).size ≤ n := by simpa [ByteArray.size] using h
abbrev CoW := {c : Core // c.letter.size ≤ 1000 ∧ c.text.size ≤ 1000}
def co0 : Core := ⟨0, 0, 0, ⟨#[]⟩, 0, 0, ⟨#[]⟩⟩
def coW : CoW := ⟨co0, by decide, by decide⟩
def EnOk (e : En) : Prop := 0 ≤ e.org ∧ e.org < 256 ∧ e.tags.length ≤ 4
theorem tg_copy {m : List UInt8} (h : m.length ≤ 32) : ∃ t : Tg, putL (zabs (List.replicate 32 (.int .u8 0))) 0 ((bysW m).take 32).flatten = t.abs := by
  refine ⟨⟨m ++ List.replicate (32 - m.length) 0, by simp; omega⟩, ?_⟩
  have e1 : ((bysW m).take 32).flatten = digA m := by
    rw [List.take_of_length_le (by simpa using h)]
    induction m with
    | nil => rfl
    | cons b m ih =>
      have := ih (by simp at h; omega)
      simp only [bysW, digA, List.map_cons, List.flatten_cons] at this ⊢
      rw [this]; rfl
  rw [e1, show zabs (List.replicate 32 (.int .u8 0)) = List.replicate 32 (.v (.int .u8 0)) from rfl, ck_ _ _ _ (Nat.zero_le _)]
  have e2 : (digA m).length = m.length := by simp [digA]
  rw [Nat.zero_add, e2, List.take_zero, List.nil_append, List.drop_replicate]
  unfold Tg.abs digA
  rw [List.map_append, List.map_replicate]
  rfl
section
variable {p : Nat} {l : List UInt8} {z : Nat}
theorem wpcore_s (hl : l.length ≤ 1000) : Spec Tryz.prog 337 [byt l, int 4] [] (fun _ : CoW × Int => []) (fun z => .tup [coreA z.1.1, int z.2]) := by
 refine t_ Tryz.func337 rfl Tryz.ntmps337 rfl fun G w =>c_<|a_<|eb_ (C_ tabOk rfl) rfl rfl fun b4=>?_
 refine q_ 1 rfl<|d_<|b_<|c_<|a_<|q_ 1 rfl<|slcA (jP_ hl) ?_
 refine aftM ?_
 intro p6
 refine q_ 1 rfl<|d_<|b_<|c_<|a_<|eb_ (C_ tabOk rfl) rfl rfl fun b7=>?_
 refine d_<|b_<|c_<|a_<|q_ 1 rfl<|slcA (hm_) ?_
 refine x_ rfl i1_ (fun _ => rfl)<|fun z12=>⟨_, u1_, ?_⟩
 have h12 := z12.2
 refine slvA (R_ rfl Tryz.underlying3 (by kernel_rfl) (by simp only [InR, lo, hi]; omega)) ?_
 refine q_ 1 rfl<|slcA (hl_) ?_
 refine x_ rfl i1_ (fun _ => rfl)<|fun z15=>⟨_, u1_, slvA (cc_ rfl Tryz.underlying2 (by kernel_rfl)) ?_⟩
 refine q_ 1 rfl<|slcA (hm_) ?_
 refine x_ rfl i1_ (fun _ => rfl)<|fun z18=>⟨_, u1_, ?_⟩
 have h18 := z18.2
 refine slvA (R_ rfl Tryz.underlying3 (by kernel_rfl) (by simp only [InR, lo, hi]; omega)) ?_
 refine q_ 1 rfl<|e_ (m_ tabOk rfl rfl rfl u0_ rfl (Nat.le_of_ble_eq_true rfl) rfl rfl) rfl rfl<|q_ 1 rfl<|e_ (m_ tabOk rfl rfl rfl u0_ rfl (Nat.le_of_ble_eq_true rfl) rfl rfl) rfl rfl<|q_ 1 rfl<|e_ (m_ tabOk rfl rfl rfl u0_ rfl (Nat.le_of_ble_eq_true rfl) rfl rfl) rfl rfl<|d_<|b_<|c_<|a_<|q_ 2 rfl<|slvA (H_ rfl Tryz.underlying39 (List.length_map _))<|slcA (jN_ (n := (l.length : Nat)) (by omega)) ?_
 refine x_ rfl i1_ (fun _ => rfl)<|fun z26=>⟨_, u1_, slvA (bw_ rfl)<|q_ 1 rfl<|e_ (m_ tabOk rfl rfl rfl u0_ rfl (Nat.le_of_ble_eq_true rfl) rfl rfl) rfl rfl<|d_<|b_<|c_<|a_<|q_ 1 rfl<|slcA (hl_) ?_⟩
 refine x_ rfl i1_ (fun _ => rfl)<|fun z30=>⟨_, u1_, slvA (cc_ rfl Tryz.underlying2 (by kernel_rfl)) ?_⟩
 refine q_ 1 rfl<|slcA (hl_) ?_
 refine x_ rfl i1_ (fun _ => rfl)<|fun z33=>⟨_, u1_, slvA (cc_ rfl Tryz.underlying2 (by kernel_rfl)) ?_⟩
 refine q_ 1 rfl<|e_ (m_ tabOk rfl rfl rfl u0_ rfl (Nat.le_of_ble_eq_true rfl) rfl rfl) rfl rfl<|q_ 1 rfl<|e_ (m_ tabOk rfl rfl rfl u0_ rfl (Nat.le_of_ble_eq_true rfl) rfl rfl) rfl rfl<|d_<|b_<|c_<|a_<|q_ 2 rfl<|slvA (H_ rfl Tryz.underlying39 (List.length_map _))<|slcA (jN_ (n := (l.length : Nat)) (by omega)) ?_
 refine x_ rfl i1_ (fun _ => rfl)<|fun z40=>⟨_, u1_, slvA (bw_ rfl)<|q_ 1 rfl<|e_ (m_ tabOk rfl rfl rfl u0_ rfl (Nat.le_of_ble_eq_true rfl) rfl rfl) rfl rfl<|d_<|b_<|c_<|c_<|a_<|q_ 1 rfl<|slcA (wend_s) ?_⟩
 refine x_ rfl i1_ (fun _ => rfl)<|fun z44=>⟨_, u1_, q_ 1 rfl<|d_<|b_<|l_ rfl ?_ ?_⟩
 ·intro hc45
  refine c_<|a_<|slvA (z_ tabOk rfl rfl rfl rfl)<|e_ (m_ (L' := co0.cells.map .v) tabOk rfl rfl rfl u2_ rfl (Nat.le_of_ble_eq_true rfl) rfl (by exact p_ rfl)) rfl rfl ?_
  refine q_ 1 rfl<|d_<|b_<|k_<|j_ nofun<|f_ (rs := [.cell 4 26, .tmp 5]) rfl (RV.cell rfl (RV.cellA tabOk rfl rfl l2_ (by rfl)) (RV.tmp rfl RV.nil)) ((coW, 2)) sn_ ?_
  exact rfl
 intro hc45
 refine o_<|b_<|c_<|c_<|a_<|slvA (h_ (C := coreA ⟨(z12.1 : Nat), IntKind.i64.wrap (z15 : Nat), (z18.1 : Nat), ⟨z26.1.toArray⟩, IntKind.i64.wrap (z30 : Nat), IntKind.i64.wrap (z33 : Nat), ⟨z40.1.toArray⟩⟩) (r_ tabOk rfl rfl rfl l0_ List.not_mem_nil rfl) rfl)<|q_ 1 rfl<|slcA (iI_ (c := ⟨(z12.1 : Nat), IntKind.i64.wrap (z15 : Nat), (z18.1 : Nat), ⟨z26.1.toArray⟩, IntKind.i64.wrap (z30 : Nat), IntKind.i64.wrap (z33 : Nat), ⟨z40.1.toArray⟩⟩) (n := 4)) ?_
 refine ap_<|fun _=>q_ 1 rfl<|d_<|b_<|c_<|a_<|q_ 2 rfl<|d_<|b_<|l_ rfl ?_ ?_
 ·intro hc51
  refine c_<|a_<|slvA (z_ tabOk rfl rfl rfl rfl)<|q_ 1 rfl<|e_ (m_ (L' := co0.cells.map .v) tabOk rfl rfl rfl u2_ rfl (Nat.le_of_ble_eq_true rfl) rfl (by exact p_ rfl)) rfl rfl ?_
  refine q_ 1 rfl<|d_<|b_<|k_<|j_ nofun<|f_ (rs := [.cell 4 26, .tmp 5]) rfl (RV.cell rfl (RV.cellA tabOk rfl rfl l2_ (by rfl)) (RV.tmp rfl RV.nil)) ((coW, (⟨(z12.1 : Nat), IntKind.i64.wrap (z15 : Nat), (z18.1 : Nat), ⟨z26.1.toArray⟩, IntKind.i64.wrap (z30 : Nat), IntKind.i64.wrap (z33 : Nat), ⟨z40.1.toArray⟩⟩ : Core).check 4)) sn_ ?_
  exact rfl
 intro hc51
 refine o_<|b_<|c_<|a_<|slvA (h_ (C := coreA ⟨(z12.1 : Nat), IntKind.i64.wrap (z15 : Nat), (z18.1 : Nat), ⟨z26.1.toArray⟩, IntKind.i64.wrap (z30 : Nat), IntKind.i64.wrap (z33 : Nat), ⟨z40.1.toArray⟩⟩) (r_ tabOk rfl rfl rfl l0_ List.not_mem_nil rfl) rfl)<|e_ (m_ (L' := (⟨(z12.1 : Nat), IntKind.i64.wrap (z15 : Nat), (z18.1 : Nat), ⟨z26.1.toArray⟩, IntKind.i64.wrap (z30 : Nat), IntKind.i64.wrap (z33 : Nat), ⟨z40.1.toArray⟩⟩ : Core).cells.map .v) tabOk rfl rfl rfl u2_ rfl (Nat.le_of_ble_eq_true rfl) rfl (by exact p_ rfl)) rfl rfl ?_
 refine q_ 1 rfl<|d_<|b_<|k_<|f_ (rs := [.cell 4 26, .tmp 5]) rfl (RV.cell rfl (RV.cellA tabOk rfl rfl l2_ (by rfl)) (RV.tmp rfl RV.nil)) ((⟨⟨(z12.1 : Nat), IntKind.i64.wrap (z15 : Nat), (z18.1 : Nat), ⟨z26.1.toArray⟩, IntKind.i64.wrap (z30 : Nat), IntKind.i64.wrap (z33 : Nat), ⟨z40.1.toArray⟩⟩, arr_le z26.2, arr_le z40.2⟩, 0)) sn_ ?_
 exact rfl
set_option maxHeartbeats 1000000 in
theorem wend1_s  : Spec Tryz.prog 336 [ptr p, int 4] [rw_ p] (fun _ : {e : En // EnOk e} => [rw_ p]) (fun e => .agg e.1.abs) := by
 refine t_ Tryz.func336 rfl Tryz.ntmps336 rfl fun G w =>c_<|a_<|eb_ (C_ tabOk rfl) rfl rfl fun b4=>?_
 refine d_<|b_<|c_<|a_<|q_ 1 rfl<|slcA (hm_) ?_
 refine x_ rfl i1_ (fun _ => rfl)<|fun z8=>⟨_, u1_, ?_⟩
 have h8 := z8.2
 refine slvA (R_ rfl Tryz.underlying3 (by kernel_rfl) (by simp only [InR, lo, hi]; omega)) ?_
 refine slvA (h_ (C := .agg [int (z8.1 : Nat), .v (.slice none 0 0)]) (z_ tabOk rfl rfl rfl rfl) rfl)<|eb_ (C_ tabOk rfl) rfl rfl fun b5=>?_
 refine e_ (m_ (L' := [int (z8.1 : Nat), .v (.slice none 0 0)]) tabOk rfl rfl rfl u0_ rfl (Nat.le_of_ble_eq_true rfl) rfl (by exact p_ rfl)) rfl rfl ?_
 refine d_<|b_<|c_<|c_<|a_<|q_ 2 rfl<|d_<|b_<|u_<|aF_ 64 32<|P_ (ι := Nat × Value × List Tg) (fun z => [own 64 32 z.2.1 (z.2.2.map Tg.abs), .blk b5 213 [int (z8.1 : Nat), .v z.2.1], .blk b4 213 [int 0, .v (.slice none 0 0)], rw_ p]) (fun z => [(0, ptr p), (4, ptr b4), (5, ptr b5), (11, int 4), (12, int (z.1 : Nat))]) (fun z => z.1 ≤ 4 ∧ z.2.2.length = z.1) (fun z => 4 - z.1) (0, .slice none 0 0, []) (⟨Nat.zero_le _, rfl⟩) (by exact ⟨rfl, rfl, rfl, rfl, rfl, trivial⟩) sr_ ?_
 intro z hz
 refine c_<|a_<|q_ 1 rfl<|d_<|b_<|c_<|l_ rfl ?_ ?_
 rotate_left
 ·intro hc13
  refine N_<|j_ nofun<|j_ nofun<|M_<|b_<|c_<|cd_ [] 1 rfl u0_ rfl<|a_<|slvA (r_ tabOk rfl rfl rfl l0_ List.not_mem_nil rfl)<|e_ (m_ tabOk rfl rfl rfl u1_ rfl (Nat.le_of_ble_eq_true rfl) rfl rfl) rfl rfl<|d_<|b_<|k_<|f_ (rs := [.cell 4 213]) rfl (RV.cell rfl (RV.cellA tabOk rfl rfl l1_ (by rfl)) RV.nil) (⟨⟨(z8.1 : Nat), z.2.2⟩, by dsimp only; omega, by dsimp only; omega, by dsimp only; omega⟩) (sk_ (sk_ sr_)) ?_
  exact rfl
 intro hc13
 refine o_<|b_<|c_<|u_<|c_<|a_<|eb_ (C_ tabOk rfl) rfl rfl fun b6=>?_
 refine d_<|b_<|c_<|Q_ [b6, p] (.q 0 (.q 1 (.e 2 (.e 3 .nil)))) (by kernel_rfl) (by kernel_rfl) ?_
 refine cr_ (by intro k hk; simp [mids, It.mids, ownPc, rwP, exP] at hk ⊢; grind) fun hx9 => ?_
 refine sxvA rfl (g4_ tabOk Tryz.underlying64 rfl rfl) hx9<|qx_ 1 hx9 rfl<|D_ rfl (wfixed_s (n := 32)) (by simp [mids, It.mids, rwP, exP]) Casts.refl (by kernel_rfl) rfl rfl rfl ?_
 refine x_ rfl i4_ (fun _ => rfl)<|fun z16=>⟨_, u4_, ?_⟩
 obtain ⟨tg, htg⟩ := tg_copy z16.2
 refine d4_ [] rfl (Eff.copy (L' := tg.abs) Tryz.underlying39 (by kernel_rfl) rfl rfl u0_ (by have : min (List.map (fun b => [Abs.v (bc b)]) z16.1).length 32 ≤ 32 := Nat.min_le_right _ _; show 0 + min (List.map (fun b => [Abs.v (bc b)]) z16.1).length 32 ≤ 32; omega) (bI_ _) (by exact htg)) (by simp) (by simp) rfl rfl ?_
 rintro _ _ ⟨rfl, rfl⟩
 refine F_<|b_<|a_<|q_ 1 rfl<|slvA (h_ (C := .v z.2.1) (g_ tabOk rfl rfl l2_ List.not_mem_nil rfl) rfl)<|slvA (h_ (C := .agg tg.abs) (r_ tabOk rfl rfl rfl l0_ List.not_mem_nil (Tg.size _)) rfl)<|e_ (G_ tabOk Tryz.underlying40 rfl rfl rfl (ah_ (Tg.size _)) rfl rfl rfl) rfl rfl<|eb_ (K_ (zs := (z.2.2 ++ [tg]).map Tg.abs) tabOk [.blk b6 64 tg.abs] (by rw [List.map_append]; rfl) Tryz.underlying40 rfl rfl rfl rfl rfl rfl (by intro c hc; rw [List.mem_singleton] at hc; subst hc; exact bO_ _) (by unfold maxLen; simp only [List.length_map, List.length_cons, List.length_nil]; omega) (by rw [show Tryz.prog.bytesOf 64 = 32 by kernel_rfl]; simp only [List.length_map, List.length_cons, List.length_nil]; omega)) rfl rfl fun r22=>?_
 refine q_ 1 rfl<|e_ (az_ (L' := [int (z8.1 : Nat), .v r22]) tabOk rfl rfl rfl rfl i1_ u2_ rfl rfl) rfl rfl<|d_<|w_<|b_<|a_<|slvA (y_ rfl rfl (by simp only [InR, lo, hi]; omega)) ?_
 refine q_ 1 rfl<|d_<|I_ (z.1 + 1, r22, z.2.2 ++ [tg]) (by omega) ((⟨by dsimp only; omega, by dsimp only; rw [List.length_append, List.length_singleton]; omega⟩)) (by exact ⟨rfl, rfl, rfl, rfl, rfl, trivial⟩) (sk_ sr_)
end
def RqOk (q : Rq) : Prop := q.core.letter.size ≤ 1000 ∧ q.core.text.size ≤ 1000 ∧ q.ends.length ≤ 4 ∧ ∀ e ∈ q.ends, EnOk e
def rq0 : Rq := ⟨co0, []⟩
theorem kn_ : RqOk rq0 := ⟨by decide, by decide, by decide, fun e h => by cases h⟩
theorem kA_ {e : Int} : Casts [.agg (co0.cells.map .v ++ [.v (.slice none 0 0)]), int e] [.agg rq0.abs, int e] := Casts.cons (cn_ (Casts.keep (Casts.keep (Casts.keep (Casts.keep (Casts.keep (Casts.keep (Casts.keep (Casts.nils Casts.refl))))))))) Casts.refl
section
variable {p : Nat} {l : List UInt8}
set_option maxHeartbeats 2000000 in
theorem h2_ (hl : l.length ≤ 1000) : Spec Tryz.prog 269 [byt l, int 4] [] (fun _ : {q : Rq // RqOk q} × Int => []) (fun z => .tup [.agg z.1.1.abs, int z.2]) := by
 refine t_ Tryz.func269 rfl Tryz.ntmps269 rfl fun G w =>c_<|a_<|eb_ (C_ tabOk rfl) rfl rfl fun b4=>?_
 refine q_ 1 rfl<|d_<|b_<|c_<|c_<|a_<|q_ 3 rfl<|A_ (t := 16) rfl (by intro hc16; exfalso; omega) ?_
 intro hc16
 refine q_ 3 rfl<|d_<|b_<|l_ rfl (by intro hc19; exfalso; omega) ?_
 intro hc19
 refine o_<|b_<|c_<|a_<|q_ 1 rfl<|slcA (jP_ hl) ?_
 refine aftM ?_
 intro p6
 refine q_ 1 rfl<|d_<|b_<|c_<|a_<|q_ 2 rfl<|slvA (H_ rfl Tryz.underlying39 (List.length_map _))<|slcA (jN_ (n := (l.length : Nat)) (by omega)) ?_
 refine x_ rfl i0_ (fun _ => rfl)<|fun z26=>⟨_, u0_, q_ 1 rfl<|d_<|b_<|c_<|a_<|eb_ (C_ tabOk rfl) rfl rfl fun b8=>?_⟩
 refine d_<|b_<|c_<|a_<|q_ 1 rfl<|d_<|b_<|c_<|c_<|a_<|q_ 2 rfl<|slcA (wcount_s (n := 4) (by omega)) ?_
 refine x_ rfl i1_ (fun _ => rfl)<|fun z29=>⟨_, u1_, ?_⟩
 have h29 := z29.2
 refine q_ 1 rfl<|d_<|b_<|u_<|aF_ 213 2<|P_ (ι := Nat × Value × List En × Bool) (fun z => [own 213 2 z.2.1 (z.2.2.1.map En.abs), .blk b8 134 (co0.cells.map .v ++ [.v z.2.1]), rw_ p6, .blk b4 134 (co0.cells.map .v ++ [.v (.slice none 0 0)])]) (fun z => [(1, int 4), (4, ptr b4), (6, ptr p6), (7, byt z26.1), (8, ptr b8), (29, int (z29.1 : Nat)), (30, int (z.1 : Nat)), (9, boo z.2.2.2)]) (fun z => z.1 ≤ z29.1 ∧ z.2.2.1.length = z.1 ∧ ∀ e ∈ z.2.2.1, EnOk e) (fun z => z29.1 - z.1) (0, .slice none 0 0, [], false) (⟨Nat.zero_le _, rfl, fun e h => by cases h⟩) (by exact ⟨rfl, rfl, rfl, rfl, rfl, rfl, rfl, rfl, trivial⟩) sr_ ?_
 intro z hz
 refine c_<|a_<|q_ 1 rfl<|d_<|b_<|c_<|l_ rfl ?_ ?_
 rotate_left
 ·intro hc31
  refine N_<|j_ nofun<|j_ nofun<|M_<|b_<|c_<|c_<|cd_ [] 7 rfl u0_ rfl<|a_<|q_ 1 rfl<|slcA (wend_s) ?_
  refine x_ rfl i1_ (fun _ => rfl)<|fun z67=>⟨_, u1_, q_ 2 rfl<|A_ (t := 69) rfl ?_ ?_⟩
  ·intro hc69
   refine q_ 2 rfl<|d_<|b_<|U_ rfl<|c_<|a_<|slvA (z_ tabOk rfl rfl rfl rfl)<|e_ (m_ (L' := co0.cells.map .v ++ [.v (.slice none 0 0)]) tabOk rfl rfl rfl u2_ rfl (Nat.le_of_ble_eq_true rfl) rfl (by exact p_ rfl)) rfl rfl ?_
   refine q_ 1 rfl<|d_<|b_<|k_<|j_ nofun<|fC_ (rs := [.cell 4 134, .tmp 5]) rfl (RV.cell rfl (RV.cellA tabOk rfl rfl l2_ (by rfl)) (RV.tmp rfl RV.nil)) (kA_) ((⟨rq0, kn_⟩, 2)) sn_ ?_
   exact rfl
  intro hc69
  refine q_ 2 rfl<|d_<|b_<|ar_ rfl ?_ ?_
  ·intro hc71
   refine c_<|a_<|slvA (z_ tabOk rfl rfl rfl rfl)<|e_ (m_ (L' := co0.cells.map .v ++ [.v (.slice none 0 0)]) tabOk rfl rfl rfl u2_ rfl (Nat.le_of_ble_eq_true rfl) rfl (by exact p_ rfl)) rfl rfl ?_
   refine q_ 1 rfl<|d_<|b_<|k_<|j_ nofun<|fC_ (rs := [.cell 4 134, .tmp 5]) rfl (RV.cell rfl (RV.cellA tabOk rfl rfl l2_ (by rfl)) (RV.tmp rfl RV.nil)) (kA_) ((⟨rq0, kn_⟩, 2)) sn_ ?_
   exact rfl
  intro hc71
  refine o_<|b_<|c_<|a_<|q_ 2 rfl<|slcA (wpcore_s z26.2) ?_
  refine ap_<|fun z76=>q_ 3 rfl<|eb_ (C_ tabOk rfl) rfl rfl fun b12=>?_
  refine e_ (m_ (L' := z76.1.1.cells.map .v) tabOk rfl rfl rfl u0_ rfl (Nat.le_of_ble_eq_true rfl) rfl (by exact p_ rfl)) rfl rfl ?_
  refine q_ 1 rfl<|d_<|b_<|c_<|c_<|a_<|q_ 2 rfl<|d_<|b_<|l_ rfl ?_ ?_
  ·intro hc80
   refine c_<|a_<|slvA (z_ tabOk rfl rfl rfl rfl)<|q_ 1 rfl<|e_ (m_ (L' := co0.cells.map .v ++ [.v (.slice none 0 0)]) tabOk rfl rfl rfl u3_ rfl (Nat.le_of_ble_eq_true rfl) rfl (by exact p_ rfl)) rfl rfl ?_
   refine q_ 1 rfl<|d_<|b_<|k_<|j_ nofun<|fC_ (rs := [.cell 4 134, .tmp 5]) rfl (RV.cell rfl (RV.cellA tabOk rfl rfl l3_ (by rfl)) (RV.tmp rfl RV.nil)) (kA_) ((⟨rq0, kn_⟩, z76.2)) sn_ ?_
   exact rfl
  intro hc80
  refine o_<|b_<|c_<|a_<|slvA (h_ (C := coreA z76.1.1) (r_ tabOk rfl rfl rfl l0_ List.not_mem_nil rfl) rfl)<|q_ 1 rfl<|e_ (m_ (L' := (Rq.mk z76.1.1 z.2.2.1).abs) tabOk rfl rfl rfl u1_ rfl (Nat.le_of_ble_eq_true rfl) rfl rfl) rfl rfl<|d_<|b_<|c_<|a_<|slvA (h_ (C := .agg (Rq.mk z76.1.1 z.2.2.1).abs) (r_ tabOk rfl rfl rfl l1_ List.not_mem_nil rfl) rfl)<|e_ (m_ (L' := (Rq.mk z76.1.1 z.2.2.1).abs) tabOk rfl rfl rfl u3_ rfl (Nat.le_of_ble_eq_true rfl) rfl (by exact p_ rfl)) rfl rfl ?_
  refine q_ 1 rfl<|d_<|b_<|k_<|f_ (rs := [.cell 4 134, .tmp 5]) rfl (RV.cell rfl (RV.cellA tabOk rfl rfl l3_ (by rfl)) (RV.tmp rfl RV.nil)) ((⟨⟨z76.1.1, z.2.2.1⟩, z76.1.2.1, z76.1.2.2, by dsimp only; omega, hz.2.2⟩, 0)) sn_ ?_
  exact rfl
 intro hc31
 refine o_<|b_<|c_<|u_<|c_<|a_<|q_ 2 rfl<|d_<|b_<|c_<|a_<|q_ 2 rfl<|slcA (wend1_s) ?_
 refine x_ rfl i2_ (fun _ => rfl)<|fun z35=>⟨_, u2_, eb_ (C_ tabOk rfl) rfl rfl fun b11=>?_⟩
 refine e_ (m_ (L' := z35.1.abs) tabOk rfl rfl rfl u0_ rfl (Nat.le_of_ble_eq_true rfl) rfl (by exact p_ rfl)) rfl rfl ?_
 refine d_<|b_<|bL_ (ι := Bool) (fun o => [.blk b11 213 z35.1.abs, own 213 2 z.2.1 (z.2.2.1.map En.abs), .blk b8 134 (co0.cells.map .v ++ [.v z.2.1]), rw_ p6, .blk b4 134 (co0.cells.map .v ++ [.v (.slice none 0 0)])]) (fun o => [(1, int 4), (4, ptr b4), (6, ptr p6), (7, byt z26.1), (8, ptr b8), (29, int (z29.1 : Nat)), (30, int (z.1 : Nat)), (9, boo o), (11, ptr b11)]) (fun o => True) ?_ ?_
 ·skip
  refine Q_ [] (.q 0 (.q 1 (.q 2 (.q 3 (.q 4 (.q 5 (.q 6 (.q 7 (.q 8 (.q 9 (.q 10 (.q 11 (.q 12 (.q 13 (.q 14 (.q 15 (.q 16 (.q 17 (.q 18 (.q 19 (.q 20 (.q 21 (.q 22 (.q 23 .nil)))))))))))))))))))))))) (by kernel_rfl) (by kernel_rfl) ?_
  refine qs_ 2 rfl<|gd_ (t := 37) rfl ?_ ?_
  ·intro hc37
   refine qs_ 22 rfl<|F_<|aw_ (true) (trivial) (by exact ⟨rfl, rfl, rfl, rfl, rfl, rfl, rfl, rfl, rfl, trivial⟩) sr_
  intro hc37
  refine qs_ 1 rfl<|hx_ fun hx9 =>sxvA rfl (h_ (C := int z35.1.org) (g_ tabOk rfl rfl l0_ List.not_mem_nil rfl) rfl) hx9<|qs_ 4 rfl<|aK_ (t := 43) rfl ?_ ?_
  ·intro hc43
   refine qs_ 16 rfl<|F_<|aw_ (true) (trivial) (by exact ⟨rfl, rfl, rfl, rfl, rfl, rfl, rfl, rfl, rfl, trivial⟩) sr_
  intro hc43
  refine qs_ 3 rfl<|aK_ (t := 46) rfl ?_ ?_
  rotate_left
  ·intro hc46
   refine qs_ 13 rfl<|F_<|aw_ (false) (trivial) (by exact ⟨rfl, rfl, rfl, rfl, rfl, rfl, rfl, rfl, rfl, trivial⟩) sr_
  intro hc46
  have hpk : z.1 - 1 < z.2.2.1.length := by omega
  refine qs_ 1 rfl<|sxvA rfl (h_ (C := .v z.2.1) (g_ tabOk rfl rfl l2_ List.not_mem_nil rfl) rfl) hx9<|qs_ 1 rfl<|sxvA rfl (h_ (C := int ((z.1 - 1) : Nat)) (cp_ rfl rfl (by simp only [InR, lo, hi]; omega)) (congrArg int (by omega))) hx9 ?_
  refine sxvA rfl (aU_ (q := (z.1 - 1)) tabOk Tryz.underlying132 rfl rfl l1_ rfl rfl (by rw [List.length_map]; exact hpk) rfl rfl) hx9 ?_
  refine sxvA rfl (g7_ (q := (z.1 - 1)) (s := 2) (cs := (z.2.2.1[z.1 - 1]'hpk).abs) tabOk rfl rfl l1_ rfl (by rw [List.getElem?_map, List.getElem?_eq_getElem hpk]; rfl) rfl rfl rfl) hx9 ?_
  refine sxvA rfl (h_ (C := int (z.2.2.1[z.1 - 1]'hpk).org) (cI_ (q := (z.1 - 1)) (s := 2) (jj := 0) (cs := (z.2.2.1[z.1 - 1]'hpk).abs) tabOk rfl rfl l1_ rfl (by rw [List.getElem?_map, List.getElem?_eq_getElem hpk]; rfl) rfl) rfl) hx9 ?_
  refine qs_ 1 rfl<|sxvA rfl (h_ (C := int z35.1.org) (g_ tabOk rfl rfl l0_ List.not_mem_nil rfl) rfl) hx9<|qs_ 4 rfl<|F_<|aw_ (decide ((z.2.2.1[z.1 - 1]'hpk).org ≥ z35.1.org)) (trivial) (by exact ⟨rfl, rfl, rfl, rfl, rfl, rfl, rfl, rfl, rfl, trivial⟩) sr_
 intro o ho
 refine a_<|q_ 1 rfl<|slvA (h_ (C := .v z.2.1) (g_ tabOk rfl rfl l2_ List.not_mem_nil rfl) rfl)<|slvA (h_ (C := .agg z35.1.abs) (r_ tabOk rfl rfl rfl l0_ List.not_mem_nil rfl) rfl)<|e_ (G_ tabOk Tryz.underlying132 rfl rfl rfl (ah_ rfl) rfl rfl rfl) rfl rfl<|eb_ (K_ (zs := (z.2.2.1 ++ [z35.1]).map En.abs) tabOk [.blk b11 213 z35.1.abs] (by rw [List.map_append]; rfl) Tryz.underlying132 rfl rfl rfl rfl rfl rfl (by intro c hc; rw [List.mem_singleton] at hc; subst hc; rfl) (by unfold maxLen; simp only [List.length_map, List.length_cons, List.length_nil]; omega) (by rw [show Tryz.prog.bytesOf 213 = 32 by kernel_rfl]; simp only [List.length_map, List.length_cons, List.length_nil]; omega)) rfl rfl fun r63=>?_
 refine q_ 1 rfl<|e_ (az_ (L' := co0.cells.map .v ++ [.v r63]) tabOk rfl rfl rfl rfl i1_ u2_ rfl rfl) rfl rfl<|d_<|w_<|b_<|a_<|slvA (y_ rfl rfl (by simp only [InR, lo, hi]; omega)) ?_
 refine q_ 1 rfl<|d_<|I_ (z.1 + 1, r63, z.2.2.1 ++ [z35.1], o) (by omega) ((⟨by dsimp only; omega, by dsimp only; rw [List.length_append, List.length_singleton]; omega, by intro e he; rcases List.mem_append.1 he with he | he; exact hz.2.2 e he; rw [List.mem_singleton] at he; subst he; exact z35.2⟩)) (by exact ⟨rfl, rfl, rfl, rfl, rfl, rfl, rfl, rfl, trivial⟩) (sk_ sr_)
end
end Go.Proofs.YtjclgkddfjbdiaaGreatDoor.A
namespace Go.Proofs.YtjclgkddfjbdiaaGreatDoor.A
open Go.RowKit
inductive Rem_ (y : It) : Blks → Blks → Prop
  | here {σ : Blks} : Rem_ y (y :: σ) σ
  | there {z : It} {σ τ : Blks} (h : Rem_ y σ τ) : Rem_ y (z :: σ) (z :: τ)
theorem Rem_.perm {y : It} {σ τ : Blks} (h : Rem_ y σ τ) : (y :: τ).Perm σ := by
  induction h with
  | here => exact List.Perm.refl _
  | there h ih => exact (List.Perm.swap _ _ _).trans (ih.cons _)
theorem pk_ {y : It} {ys σ τ : Blks} (h : Rem_ y σ τ) (k : ys.Perm τ) : (y :: ys).Perm σ := (k.cons y).trans h.perm
theorem bb_ {ι : Type} {σ σ1 : Blks} {τ' : ι → Blks} {K : Blks → ι → Prop} (h : Reads σ σ1) (k : ∀ z, K (τ' z ++ σ) z) : After σ σ1 τ' K := ⟨σ, h.split, fun z => ⟨_, List.Perm.refl _, k z⟩⟩
theorem bE_ {ι : Type} {σ σ1 : Blks} {τ' : ι → Blks} {K : Blks → ι → Prop} (φ : Blks) (ν : ι → Blks) (hp : (mids σ1 ++ mids φ).Perm (mids σ)) (hs : ∀ x ∈ σ1, (x ∈ σ ∧ x.rids = []) ∨ ∃ y ∈ φ, x = y.toRd) (hr : ∀ x ∈ φ, x ∈ σ) (hν : ∀ z, (ν z).Perm (τ' z ++ φ)) (k : ∀ z, K (ν z) z) : After σ σ1 τ' K := ⟨φ, ⟨hp, hs, hr⟩, fun z => ⟨_, hν z, k z⟩⟩
theorem f8_ {P : Program} {n : Nat} {W : Wd} {σ : Blks} {l : Slots} {X : List Nat} {x : Operand} {d : Option Nat} {ty tp : TypeId} {pos : String} {aft : Array Edge} {g : Option (Nat × Bool)} {A : Abs} (hx : look l x = some (.ifc tp A)) : Val P n W σ l X ⟨d, .nilCheck x, ty, pos, aft, g⟩ (.ifc tp A) := fun a w hs _ => by
  obtain ⟨u, h1, h2⟩ := hs.eval hx
  refine ⟨_, hs.eval hx, fun w' _ => ?_⟩
  simp [execOp, h1, Sem.run_bind, Sem.run, Result.andThen]
def wdV (p : Int × List UInt8) : Value := .agg #[.int .i64 p.1, txt p.2]
def wdOk (p : Int × List UInt8) : Prop := intOk p.1 ∧ p.2.length ≤ maxLen
theorem wd_lit (p : Int × List UInt8) (h : wdOk p) : ∃ l, keyOf Tryz.prog 216 (wdV p) = some l := by
  have h2 := h.2
  have e1 : IntKind.i64.min ≤ p.1 ∧ p.1 ≤ 9223372036854775807 := by
    have h3 := h.1
    unfold intOk at h3
    simp only [InR, lo, hi] at h3
    exact ⟨by show (-9223372036854775808 : Int) ≤ _; omega, by omega⟩
  have hk : (Tryz.prog.keyType 216 && (wdV p).formed Tryz.prog 216) = true := by kernel_rfl
  have hn : Tryz.prog.cellsOf 216 = 2 := by kernel_rfl
  have hn5 : Tryz.prog.cellsOf 3 = 1 := by kernel_rfl
  have hn9 : Tryz.prog.cellsOf 9 = 1 := by kernel_rfl
  obtain ⟨m, hm⟩ := et_
  unfold keyOf
  simp only [Tryz.underlying216, if_pos hk, hm]
  have e2 : (⟨p.2.toArray⟩ : ByteArray).size ≤ maxLen := by simpa [ByteArray.size] using h2
  simp [Program.keyLits, Tryz.underlying216, Tryz.underlying3, Tryz.underlying9, hn, hn5, hn9, wdV, Value.cells, txt, Lit.wf]
  simp [e1, e2]
theorem wd_fit : KeyFit Tryz.prog 216 wdV wdOk where
  keyed := Maps.Keyed.of_law (deep_law_laid laid (m := 4) (by decide) (of_decide_eq_true (by kernel_rfl)) (by kernel_rfl) (by kernel_rfl))
  lit a h := wd_lit a h
  inj a b _ _ h := by
    unfold wdV at h
    injection h with h
    simp at h
    obtain ⟨a1, a2⟩ := a
    obtain ⟨b1, b2⟩ := b
    have := hr_ h.2
    simp only at this h
    obtain ⟨rfl, _⟩ := h
    subst this
    rfl
theorem wd_is (o : Int) (l : List UInt8) : (Abs.agg [int o, .v (txt l)]).is (wdV (o, l)) := is_agg (us := [.int .i64 o, txt l])
def pE : Option Nat → Abs
  | none => .v (.pointer none)
  | some b => ptr b
theorem gg_ (K : List Nat) (w : World) : rep K w (pE none) (.pointer none) := rfl
theorem hg_ (w : World) : (zeroValue 78).run Tryz.prog w = .ok (.pointer none) w := by kernel_rfl
def rmL (r : Nat → Nat) : List (Int × Option Nat) := [(0, some (r 0)), (1, some (r 1)), (2, some (r 2)), (3, some (r 3))]
theorem ko_ {r : Nat → Nat} : ∀ {z : Nat}, z < 4 → (aget (rmL r) (z : Int)).getD none = some (r z)
  | 0, _ => rfl
  | 1, _ => rfl
  | 2, _ => rfl
  | 3, _ => rfl
def core1 : Core := ⟨4, 1, 1, ⟨#[97]⟩, 5, 0, ⟨#[48]⟩⟩
theorem fU_ {P : En → Prop} {e : En} (he : P e) {th : Bool} : ∀ {es : List En}, (∀ x ∈ es, P x) → ∀ x ∈ putE th e es, P x
  | [], _, x, hx => by rw [putE, List.mem_singleton] at hx; exact hx ▸ he
  | y :: es, h, x, hx => by
    unfold putE at hx
    split at hx
    · rcases List.mem_cons.1 hx with rfl | hx
      · exact he
      · exact h x (List.mem_cons_of_mem _ hx)
    · split at hx
      · rcases List.mem_cons.1 hx with rfl | hx
        · exact he
        · exact h x hx
      · rcases List.mem_cons.1 hx with rfl | hx
        · exact h _ List.mem_cons_self
        · exact fU_ he (fun z hz => h z (List.mem_cons_of_mem _ hz)) x hx
theorem fX_ {e : En} {th : Bool} : ∀ {es : List En}, (putE th e es).length ≤ es.length + 1
  | [] => Nat.le_refl _
  | y :: es => by
    unfold putE
    split
    · simp
    · split
      · simp
      · have := fX_ (e := e) (th := th) (es := es)
        simp only [List.length_cons]
        omega
def EnMd (e : En) : Prop := 0 ≤ e.org ∧ e.org < 256 ∧ e.tags.length ≤ 4
abbrev EnsM := {es : List En // es.length ≤ 4 ∧ ∀ e ∈ es, EnMd e}
theorem nil_rq1 : Casts (core1.cells.map .v ++ [.v (.slice none 0 0)]) (Rq.mk core1 []).abs := Casts.keep (Casts.keep (Casts.keep (Casts.keep (Casts.keep (Casts.keep (Casts.keep (Casts.nils Casts.refl)))))))
section
variable {c p bd bt rm cm cr em N : Nat} {av : Value} {r : Nat → Nat} {EM : List ((Int × List UInt8) × Bool)} {o : Int} {x : Core}
theorem kV_ (h1 : x.letter.size ≤ 1000) (h2 : x.text.size ≤ 1000) : Spec Tryz.prog 85 [int o, coreA x] [] (fun _ : Unit => []) (fun _ => .agg [int o, .v (txt x.bytes)]) := by
 refine t_ Tryz.func85 rfl Tryz.ntmps85 rfl fun G w =>c_<|a_<|eb_ (B_ (cs := x.cells.map .v) rfl) rfl rfl fun b3=>?_
 refine eb_ (C_ tabOk rfl) rfl rfl fun b4=>?_
 refine d_<|b_<|c_<|a_<|q_ 1 rfl<|slvA (h_ (C := coreA x) (r_ tabOk rfl rfl rfl l1_ List.not_mem_nil rfl) rfl)<|slcA (dB_ (c := x) (by omega) (by omega)) ?_
 refine ap_<|fun _=>slvA (bw_ rfl)<|slvA (h_ (C := .agg [int o, .v (txt x.bytes)]) (z_ tabOk rfl rfl rfl rfl) rfl)<|e_ (m_ (L' := [int o, .v (txt x.bytes)]) tabOk rfl rfl rfl u0_ rfl (Nat.le_of_ble_eq_true rfl) rfl (by exact p_ rfl)) rfl rfl ?_
 refine d_<|b_<|k_<|f_ (rs := [.cell 4 216]) rfl (RV.cell rfl (RV.cellA tabOk rfl rfl l0_ (by rfl)) RV.nil) (()) sn_ ?_
 exact rfl
set_option maxHeartbeats 2000000 in
theorem creq_s (hN : N ≤ 1000) : Spec Tryz.prog 57 [ptr c, coreA core1, hon0, .v (.int .u32 0)] [.blk c 74 [bkI p, int 4, int 5, mapV rm, mapV cm, ptr cr, mapV em, .v av], .rdpc (tmPc rm intK intOk pE (rmL r)), .pc (tmPc em wdV wdOk boo EM), wb p bd bt N] (fun z : EnsM × List ((Int × List UInt8) × Bool) => [.blk c 74 [bkI p, int 4, int 5, mapV rm, mapV cm, ptr cr, mapV em, .v av], .pc (tmPc em wdV wdOk boo z.2), wb p bd bt (N + 28)]) (fun z => .agg (Rq.mk core1 z.1.1).abs) := by
 refine t_ Tryz.func57 rfl Tryz.ntmps57 rfl fun G w =>c_<|a_<|eb_ (B_ (cs := core1.cells.map .v) rfl) rfl rfl fun b5=>?_
 refine eb_ (C_ tabOk rfl) rfl rfl fun b8=>?_
 refine d_<|b_<|c_<|a_<|slvA (h_ (C := coreA core1) (r_ tabOk rfl rfl rfl l1_ List.not_mem_nil rfl) rfl)<|slvA (h_ (C := .agg (core1.cells.map .v ++ [.v (.slice none 0 0)])) (z_ tabOk rfl rfl rfl rfl) rfl)<|eb_ (C_ tabOk rfl) rfl rfl fun b9=>?_
 refine e_ (m_ (L' := core1.cells.map .v ++ [.v (.slice none 0 0)]) tabOk rfl rfl rfl u0_ rfl (Nat.le_of_ble_eq_true rfl) rfl (by exact p_ rfl)) rfl rfl ?_
 refine d_<|b_<|c_<|c_<|a_<|q_ 1 rfl<|slvA (H_ (m := 4) rfl Tryz.underlying22 rfl)<|q_ 1 rfl<|d_<|b_<|u_<|ct_ [] (Re.cast nil_rq1) rfl<|P_ (ι := Nat × Unit × List En × List ((Int × List UInt8) × Bool)) (fun z => [.blk b9 134 (Rq.mk core1 z.2.2.1).abs, .blk b8 134 (co0.cells.map .v ++ [.v (.slice none 0 0)]), .blk b5 26 (core1.cells.map .v), .blk c 74 [bkI p, int 4, int 5, mapV rm, mapV cm, ptr cr, mapV em, .v av], .rdpc (tmPc rm intK intOk pE (rmL r)), .pc (tmPc em wdV wdOk boo z.2.2.2), wb p bd bt (N + 7 * z.1)]) (fun z => [(0, ptr c), (5, ptr b5), (8, ptr b8), (9, ptr b9), (16, hon0), (17, int (4 : Nat)), (18, int (z.1 : Nat))]) (fun z => z.1 ≤ 4 ∧ z.2.2.1.length ≤ z.1 ∧ ∀ e ∈ z.2.2.1, EnMd e) (fun z => 4 - z.1) (0, (), [], EM) (⟨Nat.zero_le _, Nat.le_refl _, fun e h => by cases h⟩) (by exact ⟨rfl, rfl, rfl, rfl, rfl, rfl, rfl, trivial⟩) sr_ ?_
 intro z hz
 refine c_<|a_<|q_ 1 rfl<|d_<|b_<|c_<|l_ rfl ?_ ?_
 rotate_left
 ·intro hc19
  have hz4 : z.1 = 4 := by omega
  refine N_<|j_ nofun<|j_ nofun<|M_<|b_<|c_<|a_<|slvA (h_ (C := .agg (Rq.mk core1 z.2.2.1).abs) (r_ tabOk rfl rfl rfl l0_ List.not_mem_nil rfl) rfl)<|e_ (m_ (L' := (Rq.mk core1 z.2.2.1).abs) tabOk rfl rfl rfl u1_ rfl (Nat.le_of_ble_eq_true rfl) rfl (by exact p_ rfl)) rfl rfl ?_
  refine d_<|b_<|k_<|f_ (rs := [.cell 8 134]) rfl (RV.cell rfl (RV.cellA tabOk rfl rfl l1_ (by rfl)) RV.nil) ((⟨z.2.2.1, by omega, hz.2.2⟩, z.2.2.2)) (by rw [show N + 28 = N + 7 * z.1 by omega]; repeat (first | exact List.nil_sublist _ | exact List.Sublist.refl _ | apply List.Sublist.cons_cons | apply List.Sublist.cons)) ?_
  exact rfl
 intro hc19
 have hz4 : z.1 < 4 := by omega
 have hlr : z.1 < (rng 4).length := by rw [rng_len]; exact hz4
 have hrg : (rng 4)[z.1] = [int ((z.1 : Nat) : Int)] := by simp [rng]
 refine o_<|b_<|c_<|u_<|c_<|a_<|slvA (L_ (q := z.1) (xs := rng 4) tabOk Tryz.underlying22 rfl rfl rfl rfl (List.getElem?_eq_getElem hlr) rfl rfl) ?_
 refine slvA (h_ (C := int ((z.1 : Nat) : Int)) (aa_ tabOk rfl rfl (by rw [hrg]; rfl)) rfl) ?_
 refine q_ 1 rfl<|d_<|b_<|c_<|c_<|a_<|q_ 3 rfl<|A_ (t := 24) rfl (by intro hc24; exfalso; omega) ?_
 intro hc24
 refine q_ 4 rfl<|slvA (h_ (C := int 4) (g_ tabOk rfl rfl l3_ List.not_mem_nil rfl) rfl)<|q_ 2 rfl<|d_<|b_<|l_ rfl (by intro hc31; exfalso; omega) ?_
 intro hc31
 refine o_<|b_<|c_<|ao_ (p := c ∉ [p, bd, bt] ∧ b5 ∉ [p, bd, bt]) (fun _ _ h => by
   have h1 := h.mem.nodup
   simp [mids, It.mids, ownPc, mapPc, tmPc, wbP, exP] at h1 ⊢
   grind) fun hX => ?_
 refine as_ [p, bd, bt] (.q 0 (.q 1 (.q 2 (.q 3 (.q 4 (.q 5 (.q 6 (.q 7 (.q 8 (.q 9 (.two 10 11 (.e 11 .nil) (.e 10 .nil)))))))))))) (by kernel_rfl) (by kernel_rfl) ?_
 refine hxA fun hx9 => ?_
 refine qx_ 3 hx9 rfl<|sxvA rfl (h_ (C := bkI p) (g_ tabOk rfl rfl l3_ (by exact hX.1) rfl) rfl) hx9 ?_
 refine qx_ 4 hx9 rfl<|sxvA rfl (h_ (C := int 4) (g_ tabOk rfl rfl l3_ (by exact hX.1) rfl) rfl) hx9 ?_
 refine sxvA rfl (h_ (C := coreA core1) (r_ tabOk rfl rfl rfl l2_ (by exact hX.2) rfl) rfl) hx9 ?_
 refine aV_ ?_ ?_
 ·skip
  refine D_ rfl (h3_ (p := p) (bd := bd) (bt := bt) (N := N + 7 * z.1) (o := ((z.1 : Nat) : Int)) (n := 4) (c := core1) (by decide) (by decide) (by omega) (by unfold i64r; omega)) (by simp [mids, It.mids, wbP, exP]) Casts.refl (by kernel_rfl) rfl rfl rfl ?_
  refine W_ [_, _, _, _, _, _] (β := []) rfl (J_ rfl) ?_
  intro z42
  refine exb_ rfl (C_ tabOk rfl) (by simp) rfl rfl fun b12=>?_
  refine F_<|aq_ rfl (m_ (L' := (En.mk ((z.1 : Nat) : Int) z42.1).abs) tabOk rfl rfl rfl u0_ rfl (lb_ (by rfl)) rfl (by exact p_ rfl)) rfl rfl ?_
  rintro _ _ ⟨rfl, rfl⟩
  refine b_<|c_<|c_<|a_<|q_ 3 rfl<|slvA (h_ (C := mapV rm) (g_ tabOk rfl rfl l4_ List.not_mem_nil rfl) rfl)<|q_ 1 rfl<|slvA (h_ (C := ptr (r z.1)) (aX_ (a := ((z.1 : Nat) : Int)) (m := rmL r) (enc := pE) (z0 := none) (zv := .pointer none) (a0_ Tryz.underlying3) Tryz.underlying69 hg_ gg_ rfl r5_ List.not_mem_nil rfl is_v (by unfold intOk; simp only [InR, lo, hi]; omega)) (by rw [ko_ hz4]; rfl)) ?_
  refine slvA (bK_ rfl rfl (by kernel_rfl)) ?_
  refine d_<|b_<|U_ rfl<|as_ [] (.q 0 (.q 1 (.q 2 (.q 3 (.q 4 (.q 5 (.e 6 .nil))))))) (by kernel_rfl) (by kernel_rfl) ?_
  refine qs_ 3 rfl<|hx_ fun hx9 =>sxvA rfl (h_ (C := mapV em) (g_ tabOk rfl rfl l4_ List.not_mem_nil rfl) rfl) hx9<|qs_ 1 rfl<|sxvA rfl (h_ (C := coreA core1) (r_ tabOk rfl rfl rfl l3_ List.not_mem_nil rfl) rfl) hx9<|D_ rfl (kV_ (o := ((z.1 : Nat) : Int)) (x := core1) (by decide) (by decide)) (by simp [mids, It.mids]) Casts.refl (by kernel_rfl) rfl rfl rfl ?_
  refine ap_<|fun _=>F_<|aq_ rfl (bh_ (enc := boo) (m := z.2.2.2) (a := (((((z.1 : Nat) : Int), core1.bytes) : Int × List UInt8))) (v := true) (m' := aput z.2.2.2 (((((z.1 : Nat) : Int), core1.bytes) : Int × List UInt8)) true) wd_fit Tryz.underlying72 rfl u6_ rfl (wd_is _ _) ⟨by unfold intOk; simp only [InR, lo, hi]; omega, by show core1.bytes.length ≤ maxLen; decide⟩ rfl rfl) rfl rfl ?_
  rintro _ _ ⟨rfl, rfl⟩
  refine b_<|a_<|slvA (h_ (C := .agg (Rq.mk core1 z.2.2.1).abs) (r_ tabOk rfl rfl rfl l1_ List.not_mem_nil rfl) rfl)<|slvA (h_ (C := .agg (En.mk ((z.1 : Nat) : Int) z42.1).abs) (r_ tabOk rfl rfl rfl l0_ List.not_mem_nil rfl) rfl)<|slcA (with_s (q := (Rq.mk core1 z.2.2.1)) (e := (En.mk ((z.1 : Nat) : Int) z42.1)) (by show z.2.2.1.length ≤ _; omega) (by show z42.1.length ≤ _; rw [z42.2]; decide)) ?_
  refine ap_<|fun _=>e_ (m_ (L' := (Rq.mk core1 (withL z.2.2.1 (En.mk ((z.1 : Nat) : Int) z42.1))).abs) tabOk rfl rfl rfl u1_ rfl (Nat.le_of_ble_eq_true rfl) rfl (by exact p_ rfl)) rfl rfl ?_
  refine d_<|w_<|b_<|a_<|slvA (y_ rfl rfl (by simp only [InR, lo, hi]; omega)) ?_
  refine q_ 1 rfl<|d_<|I_ (z.1 + 1, (), (withL z.2.2.1 (En.mk ((z.1 : Nat) : Int) z42.1)), aput z.2.2.2 (((((z.1 : Nat) : Int), core1.bytes) : Int × List UInt8)) true) (by omega) ((⟨by dsimp only; omega, by dsimp only; exact Nat.le_trans (fX_ (es := z.2.2.1)) (by omega), fU_ (P := EnMd) ⟨by dsimp only; omega, by dsimp only; omega, by dsimp only; rw [z42.2]; decide⟩ hz.2.2⟩)) (by exact ⟨rfl, rfl, rfl, rfl, rfl, rfl, rfl, trivial⟩) (sk_ sr_)
 skip
 refine exb_ rfl (C_ tabOk rfl) (by simp) rfl rfl fun b12=>?_
 refine D_ rfl (h3_ (p := p) (bd := bd) (bt := bt) (N := N + 7 * z.1) (o := ((z.1 : Nat) : Int)) (n := 4) (c := core1) (by decide) (by decide) (by omega) (by unfold i64r; omega)) (by simp [mids, It.mids, wbP, exP]) Casts.refl (by kernel_rfl) rfl rfl rfl ?_
 refine W_ [_, _, _, _, _, _, _] (β := []) rfl (J_ rfl) ?_
 intro z42
 refine F_<|aq_ rfl (m_ (L' := (En.mk ((z.1 : Nat) : Int) z42.1).abs) tabOk rfl rfl rfl u0_ rfl (lb_ (by rfl)) rfl (by exact p_ rfl)) rfl rfl ?_
 rintro _ _ ⟨rfl, rfl⟩
 refine b_<|c_<|c_<|a_<|q_ 3 rfl<|slvA (h_ (C := mapV rm) (g_ tabOk rfl rfl l4_ List.not_mem_nil rfl) rfl)<|q_ 1 rfl<|slvA (h_ (C := ptr (r z.1)) (aX_ (a := ((z.1 : Nat) : Int)) (m := rmL r) (enc := pE) (z0 := none) (zv := .pointer none) (a0_ Tryz.underlying3) Tryz.underlying69 hg_ gg_ rfl r5_ List.not_mem_nil rfl is_v (by unfold intOk; simp only [InR, lo, hi]; omega)) (by rw [ko_ hz4]; rfl)) ?_
 refine slvA (bK_ rfl rfl (by kernel_rfl)) ?_
 refine d_<|b_<|U_ rfl<|as_ [] (.q 0 (.q 1 (.q 2 (.q 3 (.q 4 (.q 5 (.e 6 .nil))))))) (by kernel_rfl) (by kernel_rfl) ?_
 refine qs_ 3 rfl<|hx_ fun hx9 =>sxvA rfl (h_ (C := mapV em) (g_ tabOk rfl rfl l4_ List.not_mem_nil rfl) rfl) hx9<|qs_ 1 rfl<|sxvA rfl (h_ (C := coreA core1) (r_ tabOk rfl rfl rfl l3_ List.not_mem_nil rfl) rfl) hx9<|D_ rfl (kV_ (o := ((z.1 : Nat) : Int)) (x := core1) (by decide) (by decide)) (by simp [mids, It.mids]) Casts.refl (by kernel_rfl) rfl rfl rfl ?_
 refine ap_<|fun _=>F_<|aq_ rfl (bh_ (enc := boo) (m := z.2.2.2) (a := (((((z.1 : Nat) : Int), core1.bytes) : Int × List UInt8))) (v := true) (m' := aput z.2.2.2 (((((z.1 : Nat) : Int), core1.bytes) : Int × List UInt8)) true) wd_fit Tryz.underlying72 rfl u6_ rfl (wd_is _ _) ⟨by unfold intOk; simp only [InR, lo, hi]; omega, by show core1.bytes.length ≤ maxLen; decide⟩ rfl rfl) rfl rfl ?_
 rintro _ _ ⟨rfl, rfl⟩
 refine b_<|a_<|slvA (h_ (C := .agg (Rq.mk core1 z.2.2.1).abs) (r_ tabOk rfl rfl rfl l1_ List.not_mem_nil rfl) rfl)<|slvA (h_ (C := .agg (En.mk ((z.1 : Nat) : Int) z42.1).abs) (r_ tabOk rfl rfl rfl l0_ List.not_mem_nil rfl) rfl)<|slcA (with_s (q := (Rq.mk core1 z.2.2.1)) (e := (En.mk ((z.1 : Nat) : Int) z42.1)) (by show z.2.2.1.length ≤ _; omega) (by show z42.1.length ≤ _; rw [z42.2]; decide)) ?_
 refine ap_<|fun _=>e_ (m_ (L' := (Rq.mk core1 (withL z.2.2.1 (En.mk ((z.1 : Nat) : Int) z42.1))).abs) tabOk rfl rfl rfl u1_ rfl (Nat.le_of_ble_eq_true rfl) rfl (by exact p_ rfl)) rfl rfl ?_
 refine d_<|w_<|b_<|a_<|slvA (y_ rfl rfl (by simp only [InR, lo, hi]; omega)) ?_
 refine q_ 1 rfl<|d_<|I_ (z.1 + 1, (), (withL z.2.2.1 (En.mk ((z.1 : Nat) : Int) z42.1)), aput z.2.2.2 (((((z.1 : Nat) : Int), core1.bytes) : Int × List UInt8)) true) (by omega) ((⟨by dsimp only; omega, by dsimp only; exact Nat.le_trans (fX_ (es := z.2.2.1)) (by omega), fU_ (P := EnMd) ⟨by dsimp only; omega, by dsimp only; omega, by dsimp only; rw [z42.2]; decide⟩ hz.2.2⟩)) (by exact ⟨rfl, rfl, rfl, rfl, rfl, rfl, rfl, trivial⟩) (sk_ sr_)
end
def Core.ins (c : Core) : Prop := InR .i64 c.client ∧ InR .i64 c.stamp ∧ InR .i64 c.op ∧ InR .i64 c.a ∧ InR .i64 c.b ∧ c.letter.size ≤ maxLen ∧ c.text.size ≤ maxLen
theorem wfIc {a : Int} (h : InR .i64 a) : (Lit.int .i64 a).wf = true := by
  obtain ⟨h0, h1⟩ := h
  simp only [lo, hi] at h0 h1
  simp [Lit.wf, IntKind.min, IntKind.max, IntKind.signed, IntKind.bits]; omega
def Core.lits (c : Core) : List Lit := [.int .i64 c.client, .int .i64 c.stamp, .int .i64 c.op, .string c.letter.data.toList, .int .i64 c.a, .int .i64 c.b, .string c.text.data.toList]
theorem gR_ (c : Core) (h : Core.ins c) : Tryz.prog.keyLits 4 26 c.cells = some (Core.lits c) := by
  obtain ⟨a1, a2, a3, a4, a5, h6, h7⟩ := h
  have h1 := wfIc a1
  have h2 := wfIc a2
  have h3 := wfIc a3
  have h4 := wfIc a4
  have h5 := wfIc a5
  have c2 : Tryz.prog.cellsOf 26 = 7 := by kernel_rfl
  have c3 : Tryz.prog.cellsOf 9 = 1 := by kernel_rfl
  have c4 : Tryz.prog.cellsOf 3 = 1 := by kernel_rfl
  have c5 : Tryz.prog.cellsOf 2 = 1 := by kernel_rfl
  simp [Program.keyLits, Tryz.underlying26, Tryz.underlying9, Tryz.underlying3, Tryz.underlying2, c2, c3, c4, c5, Core.cells, Core.lits, h1, h2, h3, h4, h5, h6, h7]
theorem eZ_ (c : Core) : (Value.agg c.cells.toArray).formed Tryz.prog 26 = true := by kernel_rfl
theorem fy_ {a b : ByteArray} (h : a.data.toList = b.data.toList) : a = b := by
  cases a; cases b; simp at h; simp [h]
theorem Core.lits_inj {c d : Core} (h : Core.lits c = Core.lits d) : c = d := by
  simp only [Core.lits, List.cons.injEq, Lit.string.injEq, Lit.int.injEq, true_and, and_true] at h
  obtain ⟨h1, h2, h3, h4, h5, h6, h7⟩ := h
  obtain ⟨a1, a2, a3, a4, a5, a6, a7⟩ := c
  obtain ⟨b1, b2, b3, b4, b5, b6, b7⟩ := d
  simp only [Core.mk.injEq]
  exact ⟨h1, h2, h3, fy_ h4, h5, h6, fy_ h7⟩
noncomputable instance : DecidableEq Core := fun _ _ => Classical.propDecidable _
theorem neqCo {c d : Core} (hc : Core.ins c) (hd : Core.ins d) (w : World) : (binOp .neq 26 (.agg c.cells.toArray) (.agg d.cells.toArray)).run Tryz.prog w = .ok (.bool (decide (c ≠ d))) w :=
  gr_ (m := 10) (by decide) (by kernel_rfl) (eZ_ c) (eZ_ d) (by simpa using gR_ c hc) (by simpa using gR_ d hd) _ (by
    rw [decide_eq_true_eq]
    exact ⟨fun h h2 => h (Core.lits_inj h2), fun h h2 => h (by rw [h2])⟩) w
theorem cm_ (c : Core) : plains (c.cells.map .v) = some c.cells := by
  have h := fp_ (fun x : Value => x) c.cells
  simpa using h
def parcels (m : Msg) (l : List Int) : List (List Abs) := l.map fun to => int to :: m.abs
def wtL (c : Core) (m : Msg) (t : Nat) : List Abs := c.cells.map .v ++ m.abs ++ [ptr t]
theorem wtl_msg (c : Core) (m : Msg) (t : Nat) : A.part (wtL c m t) 7 4 = m.abs := rfl
def nextC (x : Core) : Core := { x with client := 4, stamp := 1 }
theorem alN4 : allN 4 = [0, 1, 2, 3] := rfl
theorem gS_ : Core.ins core1 := ⟨by simp only [InR, lo, hi, core1]; omega, by simp only [InR, lo, hi, core1]; omega, by simp only [InR, lo, hi, core1]; omega, by simp only [InR, lo, hi, core1]; omega, by simp only [InR, lo, hi, core1]; omega, by decide, by decide⟩
def MsOk (m : Msg) : Prop := m.kind = 1 ∧ m.from_ = 4 ∧ m.body.length ≤ 1000 ∧ m.tags.length = 4
section
variable {c p bd bt N b62 t : Nat} {x : Core} {m : Msg} {es : List En}
theorem tner_s  : Spec Tryz.prog 83 [] [] (fun _ : Nat => []) (fun t => ptr t) := by
 refine t_ Tryz.func83 rfl Tryz.ntmps83 rfl fun G w =>c_<|a_<|q_ 1 rfl<|d_<|b_<|c_<|a_<|eb_ (ak_ intK intOk pE (fun ac w => by simp [execOp, Instr.makeMap, newObj, Sem.run, Sem.run_bind, Result.andThen])) rfl rfl fun m1=>?_
 refine eb_ (ak_ intK intOk pE (fun ac w => by simp [execOp, Instr.makeMap, newObj, Sem.run, Sem.run_bind, Result.andThen])) rfl rfl fun m2=>?_
 refine slvA (h_ (C := .agg [mapV m1, mapV m2]) (z_ tabOk rfl rfl rfl rfl) rfl)<|eb_ (B_ (cs := [mapV m1, mapV m2]) rfl) rfl rfl fun b4=>?_
 exact q_ 1 rfl<|d_<|b_<|k_<|f_ (rs := [.tmp 0]) rfl (RV.tmp rfl RV.nil) (b4) sn_<|rfl
theorem cnew_s  : Spec Tryz.prog 27 [bkI p, int 4, int 4] [] (fun c : Nat => [.blk c 126 [bkI p, int 4, int 4, int 0, .v (.pointer none), .v (.slice none 0 0)]]) (fun c => ptr c) := by
 refine t_ Tryz.func27 rfl Tryz.ntmps27 rfl fun G w =>c_<|a_<|q_ 1 rfl<|d_<|b_<|c_<|c_<|a_<|q_ 1 rfl<|slvA (aE_ Tryz.underlying68 rfl)<|q_ 5 rfl<|A_ (t := 13) rfl (by intro hc13; exfalso; omega) ?_
 intro hc13
 refine q_ 4 rfl<|A_ (t := 17) rfl (by intro hc17; exfalso; omega) ?_
 intro hc17
 refine q_ 5 rfl<|A_ (t := 22) rfl (by intro hc22; exfalso; omega) ?_
 intro hc22
 refine q_ 2 rfl<|slvA (y_ rfl rfl (by simp only [InR, lo, hi]; omega)) ?_
 refine q_ 2 rfl<|d_<|b_<|l_ rfl (by intro hc27; exfalso; omega) ?_
 intro hc27
 refine o_<|b_<|c_<|a_<|q_ 3 rfl<|slvA (h_ (C := .agg [bkI p, int 4, int 4, int 0, .v (.pointer none), .v (.slice none 0 0)]) (z_ tabOk rfl rfl rfl rfl) rfl)<|eb_ (B_ (cs := [bkI p, int 4, int 4, int 0, .v (.pointer none), .v (.slice none 0 0)]) rfl) rfl rfl fun b32=>?_
 exact q_ 1 rfl<|d_<|b_<|k_<|f_ (rs := [.tmp 6]) rfl (RV.tmp rfl RV.nil) (b32) sr_<|rfl
theorem k0_  : Spec Tryz.prog 55 [ptr c, coreA x] [.rd c 126 [bkI p, int 4, int 4, int 0, .v (.pointer none), .v (.slice none 0 0)]] (fun _ : Unit => []) (fun _ => coreA (nextC x)) := by
 refine t_ Tryz.func55 rfl Tryz.ntmps55 rfl fun G w =>c_<|a_<|eb_ (B_ (cs := x.cells.map .v) rfl) rfl rfl fun b3=>?_
 refine eb_ (C_ tabOk rfl) rfl rfl fun b4=>?_
 refine d_<|b_<|c_<|c_<|a_<|q_ 1 rfl<|slvA (aD_ rfl rfl (by kernel_rfl)) ?_
 refine d_<|b_<|O_ rfl<|o_<|b_<|c_<|a_<|q_ 3 rfl<|slvA (h_ (C := int 4) (g_ tabOk rfl rfl r2_ List.not_mem_nil rfl) rfl)<|q_ 1 rfl<|e_ (m_ tabOk rfl rfl rfl u1_ rfl (Nat.le_of_ble_eq_true rfl) rfl rfl) rfl rfl<|d_<|b_<|c_<|a_<|q_ 3 rfl<|slvA (h_ (C := int 0) (g_ tabOk rfl rfl r2_ List.not_mem_nil rfl) rfl)<|slvA (h_ (C := int 1) (y_ rfl rfl (by simp only [InR, lo, hi]; omega)) rfl) ?_
 refine q_ 1 rfl<|e_ (m_ tabOk rfl rfl rfl u1_ rfl (Nat.le_of_ble_eq_true rfl) rfl rfl) rfl rfl<|d_<|b_<|c_<|a_<|slvA (r_ tabOk rfl rfl rfl l1_ List.not_mem_nil rfl)<|e_ (m_ tabOk rfl rfl rfl u0_ rfl (Nat.le_of_ble_eq_true rfl) rfl rfl) rfl rfl<|d_<|b_<|k_<|f_ (rs := [.cell 4 26]) rfl (RV.cell rfl (RV.cellA tabOk rfl rfl l0_ (by rfl)) RV.nil) (()) sn_ ?_
 exact rfl
set_option maxHeartbeats 1000000 in
theorem cagain_s  : Spec Tryz.prog 59 [ptr c] [.rd c 126 [bkI p, int 4, int 4, int 1, ptr b62, .v (.slice none 0 0)], .rd b62 211 (wtL x m t)] (fun _ : Unit => []) (fun _ => .sl 5 (parcels m (allN 4))) := by
 have hal : (allN 4).length = 4 := rfl
 refine t_ Tryz.func59 rfl Tryz.ntmps59 rfl fun G w =>c_<|a_<|q_ 1 rfl<|d_<|b_<|c_<|c_<|a_<|q_ 1 rfl<|slvA (aD_ rfl rfl (by kernel_rfl)) ?_
 refine q_ 4 rfl<|slvA (h_ (C := ptr b62) (g_ tabOk rfl rfl r0_ List.not_mem_nil rfl) rfl)<|slvA (aD_ rfl rfl (by kernel_rfl)) ?_
 refine q_ 1 rfl<|d_<|b_<|O_ rfl<|o_<|b_<|c_<|a_<|q_ 1 rfl<|d_<|b_<|c_<|c_<|a_<|q_ 3 rfl<|slvA (g_ tabOk rfl rfl r0_ List.not_mem_nil rfl)<|slcA (lg_ (n := 4)) ?_
 refine ap_<|fun _=>slvA (H_ rfl Tryz.underlying22 (List.length_map _))<|q_ 1 rfl<|d_<|b_<|u_<|aF_ 141 5<|P_ (ι := Nat × Value) (fun z => [own 141 5 z.2 (parcels m ((allN 4).take z.1)), .rd c 126 [bkI p, int 4, int 4, int 1, ptr b62, .v (.slice none 0 0)], .rd b62 211 (wtL x m t)]) (fun z => [(0, ptr c), (3, .v z.2), (19, ints (allN 4)), (20, int ((allN 4).length : Nat)), (21, int (z.1 : Nat))]) (fun z => z.1 ≤ (allN 4).length) (fun z => (allN 4).length - z.1) (0, .slice none 0 0) (Nat.zero_le _) (by exact ⟨rfl, rfl, rfl, rfl, rfl, trivial⟩) sr_ ?_
 intro z hz
 refine c_<|a_<|q_ 1 rfl<|d_<|b_<|c_<|l_ rfl ?_ ?_
 rotate_left
 ·intro hc22
  refine N_<|j_ nofun<|j_ nofun<|M_<|b_<|c_<|a_<|q_ 2 rfl<|d_<|b_<|k_<|aT_ [] (t := 2) rfl rfl ?_
  rw [List.take_of_length_le (show (allN 4).length ≤ z.1 by omega)]
  exact f_ (rs := [.tmp 2]) rfl (RV.tmp rfl RV.nil) (()) sn_<|rfl
 intro hc22
 have hlt : z.1 < (allN 4).length := by omega
 refine o_<|b_<|c_<|u_<|c_<|a_<|slvA (L_ tabOk Tryz.underlying22 rfl rfl rfl rfl (a8_ (by omega)) rfl rfl) ?_
 refine slvA (h_ (C := int ((allN 4)[z.1]'hlt)) (aa_ tabOk rfl rfl rfl) rfl)<|q_ 1 rfl<|d_<|b_<|a_<|q_ 5 rfl<|slvA (h_ (C := ptr b62) (g_ tabOk rfl rfl r1_ List.not_mem_nil rfl) rfl)<|q_ 2 rfl<|slvA (h_ (C := .agg m.abs) (ad_ tabOk rfl rfl rfl r2_ List.not_mem_nil (Nat.le_of_ble_eq_true rfl)) (congrArg Abs.agg (wtl_msg _ _ _)))<|slvA (z_ (L := int ((allN 4)[z.1]'hlt) :: m.abs) tabOk rfl rfl rfl rfl)<|e_ (G_ tabOk Tryz.underlying116 rfl rfl rfl rfl rfl rfl rfl) rfl rfl<|eb_ (K_ (zs := parcels m ((allN 4).take (z.1 + 1))) tabOk [] (by rw [List.take_succ_eq_append_getElem hlt]; unfold parcels; rw [List.map_append]; rfl) Tryz.underlying116 rfl rfl rfl rfl rfl rfl (by intro c hc; rw [List.mem_singleton] at hc; subst hc; rfl) (by unfold maxLen parcels; simp only [List.length_map, List.length_take, List.length_cons, List.length_nil]; omega) (by rw [show Tryz.prog.bytesOf 141 = 72 by kernel_rfl]; unfold parcels; simp only [List.length_map, List.length_take, List.length_cons, List.length_nil]; omega)) rfl rfl fun r36=>?_
 refine q_ 1 rfl<|d_<|w_<|b_<|a_<|slvA (y_ rfl rfl (by simp only [InR, lo, hi]; omega)) ?_
 refine q_ 1 rfl<|d_<|I_ (z.1 + 1, r36) (by omega) (by dsimp only; omega) (by exact ⟨rfl, rfl, rfl, rfl, rfl, trivial⟩) sr_
set_option maxHeartbeats 2000000 in
theorem cask_s (hE : es.length ≤ 4 ∧ ∀ e ∈ es, EnMd e) (hN : N ≤ 10000) : Spec Tryz.prog 56 [ptr c, coreA core1, endsA es] [.blk c 126 [bkI p, int 4, int 4, int 0, .v (.pointer none), .v (.slice none 0 0)], wb p bd bt N] (fun _ : {m : Msg // MsOk m} => [wb p bd bt (N + 4)]) (fun m => .tup [.sl 5 (parcels m.1 (allN 4)), int 0]) := by
 refine t_ Tryz.func56 rfl Tryz.ntmps56 rfl fun G w =>c_<|a_<|eb_ (B_ (cs := core1.cells.map .v) rfl) rfl rfl fun b4=>?_
 refine q_ 2 rfl<|d_<|b_<|c_<|u_<|c_<|a_<|q_ 1 rfl<|slvA (aD_ rfl rfl (by kernel_rfl)) ?_
 refine q_ 1 rfl<|d_<|b_<|O_ rfl<|c_<|a_<|q_ 3 rfl<|slvA (h_ (C := .v (.pointer none)) (g_ tabOk rfl rfl l1_ List.not_mem_nil rfl) rfl)<|slvA (bK_ rfl rfl (by kernel_rfl)) ?_
 refine q_ 1 rfl<|d_<|b_<|O_ rfl<|c_<|Q_ [] (.q 0 (.q 1 (.q 2 (.e 3 (.q 4 (.q 5 .nil)))))) (by kernel_rfl) (by kernel_rfl) ?_
 refine hx_ fun hx9 =>sxvA rfl (h_ (C := coreA core1) (r_ tabOk rfl rfl rfl l0_ List.not_mem_nil rfl) rfl) hx9<|qs_ 1 rfl<|sxvA rfl (h_ (C := coreA core1) (r_ tabOk rfl rfl rfl l0_ List.not_mem_nil rfl) rfl) hx9<|D_ rfl (k0_ (c := c) (p := p) (x := core1)) (by simp [mids, It.mids]) Casts.refl (by kernel_rfl) rfl rfl rfl ?_
 refine ap_<|fun _=>hx_ fun hx9 =>sxvA rfl (hT_ rfl rfl (cm_ _) (cm_ _) (by kernel_rfl) (neqCo gS_ gS_)) hx9 ?_
 refine qs_ 1 rfl<|F_<|b_<|l_ rfl (by intro hc19; exfalso; exact hc19 rfl) ?_
 intro hc19
 refine o_<|w_<|b_<|c_<|c_<|Q_ [] (.q 0 (.q 1 (.q 2 (.q 3 (.q 4 (.e 5 (.q 6 .nil))))))) (by kernel_rfl) (by kernel_rfl) ?_
 refine hx_ fun hx9 =>sxvA rfl (h_ (C := coreA core1) (r_ tabOk rfl rfl rfl l0_ List.not_mem_nil rfl) rfl) hx9<|qs_ 3 rfl<|sxvA rfl (h_ (C := int 4) (g_ tabOk rfl rfl l1_ List.not_mem_nil rfl) rfl) hx9<|D_ rfl (iI_ (c := core1) (n := 4)) (by simp [mids, It.mids]) Casts.refl (by kernel_rfl) rfl rfl rfl ?_
 refine ap_<|fun _=>qs_ 1 rfl<|F_<|b_<|c_<|a_<|q_ 2 rfl<|d_<|b_<|l_ rfl (by intro hc32; exfalso; exact hc32 (by decide +kernel)) ?_
 intro hc32
 refine o_<|b_<|c_<|a_<|slvA (h_ (C := coreA core1) (r_ tabOk rfl rfl rfl l0_ List.not_mem_nil rfl) rfl)<|q_ 1 rfl<|slvA (h_ (C := .agg (Rq.mk core1 es).abs) (z_ tabOk rfl rfl rfl rfl) rfl)<|slcA (reqb_s (q := ⟨core1, es⟩) (by show core1.letter.size ≤ 20; decide) (by show core1.text.size ≤ 20; decide) hE.1 (fun e he => (hE.2 e he).2.2) (fun e he => ⟨(hE.2 e he).1, (hE.2 e he).2.1⟩)) ?_
 refine ap_<|fun z37=>q_ 1 rfl<|d_<|b_<|c_<|a_<|q_ 2 rfl<|slvA (h_ (C := int 1) (g_ tabOk rfl rfl l0_ List.not_mem_nil rfl) rfl)<|q_ 2 rfl<|e_ (m_ tabOk rfl rfl rfl u1_ rfl (Nat.le_of_ble_eq_true rfl) rfl rfl) rfl rfl<|d_<|b_<|c_<|ao_ (p := c ∉ [p, bd, bt] ∧ b4 ∉ [p, bd, bt]) (fun _ _ h => by
   have h1 := h.mem.nodup
   simp [mids, It.mids, ownPc, mapPc, tmPc, wbP, exP] at h1 ⊢
   grind) fun hX => ?_
 refine as_ [p, bd, bt] (.q 0 (.q 1 (.q 2 (.q 3 (.q 4 (.q 5 (.q 6 (.q 7 (.q 8 (.q 9 (.q 10 (.q 11 (.q 12 (.q 13 (.q 14 (.e 15 (.e 16 (.e 17 (.q 18 (.e 19 (.q 20 (.q 21 .nil)))))))))))))))))))))) (by kernel_rfl) (by kernel_rfl) ?_
 refine hxA fun hx9 => ?_
 refine qx_ 1 hx9 rfl<|sxvA rfl (h_ (C := coreA core1) (r_ tabOk rfl rfl rfl l0_ (by exact hX.2) rfl) rfl) hx9 ?_
 refine qx_ 3 hx9 rfl<|sxvA rfl (h_ (C := bkI p) (g_ tabOk rfl rfl l1_ (by exact hX.1) rfl) rfl) hx9 ?_
 refine qx_ 3 hx9 rfl<|sxvA rfl (h_ (C := int 4) (g_ tabOk rfl rfl l1_ (by exact hX.1) rfl) rfl) hx9 ?_
 refine qx_ 4 hx9 rfl<|sxvA rfl (h_ (C := int 4) (g_ tabOk rfl rfl l1_ (by exact hX.1) rfl) rfl) hx9 ?_
 refine D_ rfl (lg_ (n := 4)) (by simp [mids, It.mids]) Casts.refl (by kernel_rfl) rfl rfl rfl ?_
 refine ap_<|fun _=>D_ rfl (fG_ (p := p) (bd := bd) (bt := bt) (N := N) (k := 1) (f := 4) (body := z37.1) (to := allN 4) (by have := z37.2; omega) (by omega) (by decide) (by unfold i64r; omega) (by intro w hw; rw [alN4] at hw; simp at hw; unfold i64r; omega)) (by simp [mids, It.mids, wbP, exP]) Casts.refl (by kernel_rfl) rfl rfl rfl ?_
 refine W_ [_, _] (β := []) rfl (J_ rfl) ?_
 intro z59
 refine D_ rfl (tner_s) (by simp [mids, It.mids]) Casts.refl (by kernel_rfl) rfl rfl rfl ?_
 refine ap_<|fun t60=>hxA fun hx9 => ?_
 refine sxvA rfl (z_ (L := wtL core1 (Msg.mk 1 4 z37.1 z59.1) t60) tabOk rfl rfl rfl rfl) hx9<|exb_ rfl (B_ (cs := wtL core1 (Msg.mk 1 4 z37.1 z59.1) t60) rfl) (by simp) rfl rfl fun b62=>?_
 refine hxA fun hx9 => ?_
 refine qx_ 2 hx9 rfl<|F_<|aq_ rfl (m_ tabOk rfl rfl rfl u2_ (by rfl) (lb_ (by rfl)) (by rfl) (by rfl)) rfl rfl ?_
 rintro _ _ ⟨rfl, rfl⟩
 refine b_<|c_<|a_<|q_ 1 rfl<|slcA (cagain_s (c := c) (p := p) (b62 := b62) (t := t60) (x := core1) (m := (Msg.mk 1 4 z37.1 z59.1))) ?_
 refine ap_<|fun _=>q_ 2 rfl<|d_<|b_<|k_<|f_ (rs := [.tmp 6, .tmp 7]) rfl (RV.tmp rfl (RV.tmp rfl RV.nil)) (⟨(Msg.mk 1 4 z37.1 z59.1), rfl, rfl, by show z37.1.length ≤ _; have := z37.2; omega, z59.2⟩) (sk_ (sk_ (sk_ sr_))) ?_
 exact rfl
end
def NormOf (Q : Exit → Act → World → Prop) : Exit → Act → World → Prop
  | .normal, a, w => Q .normal a w
  | _, _, _ => False
theorem dR_ {Q : Exit → Act → World → Prop} : ¬ LetsOut (NormOf Q) := fun ⟨_, _, h⟩ => h
theorem eM_ {Q : Exit → Act → World → Prop} {e : Exit} {a : Act} {w : World} (h : NormOf Q e a w) : Q e a w := by
  cases e <;> first | exact h | exact h.elim
section
variable {P : Program} {l : Option Nat} {n : Nat} {ops : Array Oper} {Q : Exit → Act → World → Prop} {a : Act} {w : World} {o : Oper} {rest : List Oper}
abbrev RF (r : Option Nat) : Fence := { Fence.wide with round := r }
theorem gt_ {row : String} {args : Array Value} {R : Value → World → Prop} (h : Rows P row args w R) : RowsIn (RF l) n P row args w R := fun c cs _ =>
  let ⟨v, w', r, s⟩ := h c cs
  ⟨v, w', r, stepsIn_wide.2 s⟩
def notDefer (o : Oper) : Bool := match o.op with
  | .defer _ => false
  | _ => true
theorem sem_at {ρ : Operand → Value} (hd : notDefer o = true) : Oper.semAt (RF l).round ρ o = execOp ρ o := by
  cases l with
  | none => rfl
  | some l => exact Oper.semAt_some l ρ o fun c hc => by unfold notDefer at hd; rw [hc] at hd; cases hd
theorem calls_in {f : FuncId} {args : Array Value} {R : Ending → World → Prop} (h : Calls P f args w R) : CallsIn (RF l) n P f args w R := (callsIn_wide.2 h : CallsIn Fence.wide n P f args w R)
theorem fR_ {next : Act → World → Prop} (hd : notDefer o = true) (h : o.wp P a w next Q) : o.wpIn (RF l) n P a w next Q := by
  refine ⟨fun _ _ => trivial, ?_⟩
  rw [sem_at hd]
  unfold Oper.wp at h
  generalize (execOp a.eval o).run P w = r at h
  match r, h with
  | .ok (.value v) w', h => exact h
  | .ok .skip w', h => exact h
  | .ok (.defer d) w', h => exact h
  | .ok (.enter f args) w', h => exact ⟨fun hn => (by cases hn), calls_in h⟩
  | .ok (.row row args) w', h => exact ⟨fun hn => (by cases hn), gt_ h⟩
  | .halt (.panic v) w', h => exact h
theorem fW_ (hQ : ¬ LetsOut Q) : ∀ {rest : List Oper} {a : Act} {w : World}, rest.all notDefer = true → wpList P ops Q rest a w → wpListIn (RF l) n P ops Q rest a w
  | [], a, w, _, h => h
  | o :: rest, a, w, hd, h => by
    simp only [List.all_cons, Bool.and_eq_true] at hd
    unfold wpListIn
    unfold wpList at h
    split
    · next hw =>
      rw [if_pos hw] at h
      refine fR_ hd.1 ?_
      rcases h with h | ⟨_, h⟩
      · exact Oper.wp_mono (fun a w h => fW_ hQ hd.2 h) h
      · exact absurd h hQ
    · next hw =>
      rw [if_neg hw] at h
      exact ⟨fun _ _ => trivial, fW_ hQ hd.2 h⟩
theorem op_in (hQ : ¬ LetsOut Q) (hd : ops.all notDefer = true) {i : Nat} {K : Act → World → Prop} (h : wpOp P ops Q i K a w) : wpOpIn (RF l) n P ops Q i K a w := by
  unfold wpOpIn
  unfold wpOp at h
  cases ho : ops[i]? with
  | none => rw [ho] at h; exact h
  | some o =>
    rw [ho] at h
    dsimp only at h ⊢
    have hdo : notDefer o = true := (Array.all_eq_true'.1 hd) o (Array.mem_of_getElem? ho)
    split
    · next hw =>
      rw [if_pos hw] at h
      rcases h with h | ⟨_, h⟩
      · exact fR_ hdo h
      · exact absurd h hQ
    · next hw =>
      rw [if_neg hw] at h
      exact ⟨fun _ _ => trivial, h⟩
theorem any_in (hQ : ¬ LetsOut Q) (hd : ops.all notDefer = true) {md : Region.Mode} : ∀ (k : Nat) {listed : Array Bool} {a : Act} {w : World}, wpAny P md ops Q k listed a w → wpAnyIn (RF l) n P md ops Q k listed a w
  | 0, _, _, _, h => h
  | k + 1, _, _, _, h => ⟨h.1, fun i hi => op_in hQ hd (wpOp_mono (fun _ _ h => any_in hQ hd k h) (h.2 i hi))⟩
end
/-! ### Codes in a round -/
def RC (P : Program) (l : Option Nat) (n : Nat) (c : Code) (T : Act → World → Prop) (Q : Exit → Act → World → Prop) : Prop := ∀ a w, T a w → c.wpIn (RF l) n P Q a w
section
variable {P : Program} {l : Option Nat} {n m : Nat} {W : Wd} {σ : Blks} {ls : Slots} {X : List Nat} {Q : Exit → Act → World → Prop} {T : Act → World → Prop} {x y : Code} {id : Nat} {ops : Array Oper}
theorem RC.seq (h : RC P l n x T (Exit.then (y.wpIn (RF l) n P Q) Q)) : RC P l n (.seq x y) T Q := fun a w hs => wpIn_seq (h a w hs)
theorem RC.block (h : RC P l n x T (Exit.inBlock id Q)) : RC P l n (.block id x) T Q := fun a w hs => wpIn_block (h a w hs)
theorem RC.ret (h : SE .ret T Q) : RC P l n .ret T Q := fun a w hs => wpIn_ret (h a w hs)
theorem RC.skip (h : SE .normal T Q) : RC P l n .skip T Q := fun a w hs => wpIn_skip (h a w hs)
theorem RC.exit (h : SE (.exit id) T Q) : RC P l n (.exit id) T Q := fun a w hs => wpIn_exit (h a w hs)
theorem RC.mono {Q' : Exit → Act → World → Prop} (hq : ∀ e a w, Q e a w → Q' e a w) (h : RC P l n x T Q) : RC P l n x T Q' := fun a w hs => Code.wpIn_mono hq (h a w hs)
theorem RC.region {os : List Oper} (hd : os.all notDefer = true) (h : SL P os.toArray os T (NormOf Q)) : RC P l n (.region id os.toArray false) T Q := fun a w hs =>
  Code.wpIn_mono (fun _ _ _ h => eM_ h) (wpIn_region_lit (fW_ dR_ hd (h a w hs)))
theorem RC.cond {c : Operand} {b : Bool} (hc : look ls c = some (.v (.bool b))) (ht : b = true → RC P l n x (St m W σ ls) Q) (hf : b = false → RC P l n y (St m W σ ls) Q) : RC P l n (.cond c x y) (St m W σ ls) Q := fun a w hs =>
  wpIn_cond_split (hs.plain hc) (fun h => ht h a w hs) (fun h => hf h a w hs)
theorem RE.seq (h : RC P l n y T Q) : SE .normal T (Exit.then (y.wpIn (RF l) n P Q) Q) := fun a w hs => h a w hs
theorem RE.norm (h : SE .normal T Q) : SE .normal T (NormOf Q) := h
theorem RC.draw (X : List Nat) (ix : Proofs.YtjclgkddfjbdiaaGreatDoor.Plan) (hm : P.follows .mixedOrders = true) (hd : ops.all notDefer = true)
    (hok : (Region.noSelect ops && Proofs.YtjclgkddfjbdiaaGreatDoor.planOk ops ops.size (Array.replicate ops.size false) ix) = true) (h : SX P ops ix X (St m W σ ls) Q) : RC P l n (.region id ops true) (St m W σ ls) Q := fun a w hs => by
  simp only [Bool.and_eq_true] at hok
  refine Code.wpIn_mono (fun _ _ _ h => eM_ h) (wpIn_region_any (Q := NormOf Q) hm (any_in dR_ hd _ ?_))
  refine Proofs.YtjclgkddfjbdiaaGreatDoor.anyD.wpAny _ _ _ _ (Proofs.YtjclgkddfjbdiaaGreatDoor.planW.anyD hok.1 _ ix (fun w' => Ext X w.drew w') _ a _ hok.2 (Ext.refl _) ?_)
  exact h a _ hs.drew
theorem eN_ {p : Nat → Prop} (h : ∃ k, p k) : ∃ k, p k ∧ ∀ j, p j → k ≤ j := by
  obtain ⟨k, hk⟩ := h
  induction k using Nat.strongRecOn with
  | _ k ih =>
    by_cases h2 : ∃ j, j < k ∧ p j
    · obtain ⟨j, hj, hp⟩ := h2
      exact ih j hj hp
    · exact ⟨k, hk, fun j hp => Nat.le_of_not_lt fun hl => h2 ⟨j, hl, hp⟩⟩
open Classical in
end
/-! ### Operations, one behind the other, in a round -/
def RL (P : Program) (l : Option Nat) (n : Nat) (ops : Array Oper) (rest : List Oper) (T : Act → World → Prop) (Q : Exit → Act → World → Prop) : Prop := ∀ a w, T a w → wpListIn (RF l) n P ops Q rest a w
section
variable {P : Program} {l : Option Nat} {n m : Nat} {W : Wd} {σ : Blks} {ls : Slots} {Q : Exit → Act → World → Prop} {T : Act → World → Prop} {id : Nat} {ops : Array Oper} {o : Oper} {rest : List Oper} {y : Abs} {x : Operand} {d : Option Nat} {xs : List Operand} {ats : Array TypeId} {ty : TypeId} {pos : String} {aft : Array Edge} {g : Option (Nat × Bool)} {k : Nat} {bs : List Abs}
theorem RC.regionL {os : List Oper} (h : RL P l n os.toArray os T Q) : RC P l n (.region id os.toArray false) T Q := fun a w hs => wpIn_region_lit (h a w hs)
theorem RL.nil (h : SE .normal T Q) : RL P l n ops [] T Q := h
theorem RL.val (hv : Val P m W σ ls [] o y) (hg : gd ops ls o = some true) (hd : lt? o.dst m = true) (hn : notDefer o = true) (h : RL P l n ops rest (St m W σ (put? ls o.dst y)) Q) : RL P l n ops (o :: rest) (St m W σ ls) Q := fun a w hs => by
  unfold wpListIn
  rw [if_pos (hs.wanted hg)]
  obtain ⟨v, hr, hrun⟩ := hv a w hs (by simp)
  refine fR_ hn ?_
  unfold Oper.wp
  rw [hrun w (Ext.refl w)]
  exact h _ _ (hs.put hd hr)
/-! ### With a word about the world beside -/
variable {J : World → Prop}
abbrev StJ (m : Nat) (W : Wd) (σ : Blks) (ls : Slots) (J : World → Prop) : Act → World → Prop := fun a w => St m W σ ls a w ∧ J w
theorem RL.valJ (hv : Val P m W σ ls [] o y) (hg : gd ops ls o = some true) (hd : lt? o.dst m = true) (hn : notDefer o = true) (h : RL P l n ops rest (StJ m W σ (put? ls o.dst y) J) Q) : RL P l n ops (o :: rest) (StJ m W σ ls J) Q := fun a w hs => by
  unfold wpListIn
  rw [if_pos (hs.1.wanted hg)]
  obtain ⟨v, hr, hrun⟩ := hv a w hs.1 (by simp)
  refine fR_ hn ?_
  unfold Oper.wp
  rw [hrun w (Ext.refl w)]
  exact h _ _ ⟨hs.1.put hd hr, hs.2⟩
theorem RC.condJ {c : Operand} {b : Bool} {x y : Code} (hc : look ls c = some (.v (.bool b))) (ht : b = true → RC P l n x (StJ m W σ ls J) Q) (hf : b = false → RC P l n y (StJ m W σ ls J) Q) : RC P l n (.cond c x y) (StJ m W σ ls J) Q := fun a w hs =>
  wpIn_cond_split (hs.1.plain hc) (fun h => ht h a w hs) (fun h => hf h a w hs)
open Classical in
theorem RC.loopJ {ι : Type} {c : Code} (K : ι → Act → World → Prop) (μ : ι → Nat) (x₀ : ι) (h0 : ∀ a w, T a w → K x₀ a w)
    (round : ∀ z, RC P l n c (K z) (Exit.then (fun a w => ∃ u, μ u < μ z ∧ K u a w) Q)) : RC P l n (.loop c) T Q := by
  intro a0 w0 hf0
  let p : Act → World → Nat → Prop := fun a w k => ∃ z, K z a w ∧ μ z = k
  refine wpIn_loop (fun a w => ∃ z, K z a w) (fun a w => if h : ∃ k, p a w k then (eN_ h).choose else 0) ⟨x₀, h0 _ _ hf0⟩ fun a w hI => ?_
  obtain ⟨z0, hz0⟩ := hI
  have he : ∃ k, p a w k := ⟨_, z0, hz0, rfl⟩
  obtain ⟨⟨z, hz, hzk⟩, _⟩ := (eN_ he).choose_spec
  refine Code.wpIn_mono (fun e a' w' q => ?_) (round z a w hz)
  cases e with
  | normal =>
    obtain ⟨u, hu, hh⟩ := q
    have hu2 : ∃ k, p a' w' k := ⟨_, u, hh, rfl⟩
    have h3 := (eN_ hu2).choose_spec.2 _ ⟨u, hh, rfl⟩
    refine ⟨⟨u, hh⟩, ?_⟩
    show (if h : ∃ k, p a' w' k then (eN_ h).choose else 0) < (if h : ∃ k, p a w k then (eN_ h).choose else 0)
    rw [dif_pos hu2, dif_pos he]
    omega
  | _ => exact q
theorem RL.yieldJ {L : Nat} {R : Ending → World → Prop} (hx : look ls x = some (.v (.func (.yield L) #[] #[]))) (hxs : looks ls xs = some bs) (hg : gd ops ls ⟨d, .call { callee := .value x, args := xs.toArray, argTypes := ats }, ty, pos, aft, g⟩ = some true)
    (hy : ∀ w vals, J w → reps (mids σ ++ W.G) w bs vals → YieldAt (RF l) (n - 1) P L vals.toArray w R)
    (h : ∀ a w e w', StJ m W σ ls J a w → R e w' → ∃ v, e = .returned v ∧ wpListIn (RF l) n P ops Q rest (a.put d v) w') : RL P l n ops (⟨d, .call { callee := .value x, args := xs.toArray, argTypes := ats }, ty, pos, aft, g⟩ :: rest) (StJ m W σ ls J) Q := fun a w hs => by
  unfold wpListIn
  rw [if_pos (hs.1.wanted hg)]
  obtain ⟨fn, tmps, assign, body, hrun, hR⟩ := hy w _ hs.2 (hs.1.evals hxs)
  refine ⟨fun _ _ => trivial, ?_⟩
  rw [sem_at rfl]
  have hr : (execOp a.eval ⟨d, .call { callee := .value x, args := xs.toArray, argTypes := ats }, ty, pos, aft, g⟩).run P w = .ok (.round L fn tmps assign body) w := by
    have e1 : a.eval x = .func (.yield L) #[] #[] := hs.1.plain hx
    simpa [execOp, resolve, e1, Deferred.ofValue, invoke, Sem.run_bind, Sem.run, Result.andThen] using hrun
  rw [hr]
  refine ⟨fun hn => (by cases hn), hR.mono fun e w' he => ?_⟩
  obtain ⟨v, rfl, hk⟩ := h a w e w' hs he
  exact hk
end
def bwdL {β : Type} (xs : List β) : List (Int × β) := (xs.zipIdx.map fun x => ((x.2 : Int), x.1)).reverse
section
variable {β : Type} {xs : List β} {z : Nat}
theorem co_ (xs : List β) : (bwdL xs).length = xs.length := by simp [bwdL]
theorem bwdL_get (h : z < xs.length) : (bwdL xs)[z]'(by rw [co_]; exact h) = (((xs.length - 1 - z : Nat) : Int), xs[xs.length - 1 - z]) := by
  simp [bwdL, List.getElem_reverse]
theorem gW_ (h : z < xs.length) : (bwdL xs).take (z + 1) = (bwdL xs).take z ++ [(((xs.length - 1 - z : Nat) : Int), xs[xs.length - 1 - z])] := by
  rw [List.take_succ_eq_append_getElem (by rw [co_]; exact h), bwdL_get h]
end
def encP {β : Type} (f : β → Pnt) (x : Int × β) : Array Value := #[.int .i64 x.1, .agg (f x.2).cells.toArray]
theorem RC.apply {P : Program} {l : Option Nat} {n : Nat} {c : Code} {T : Act → World → Prop} {Q : Exit → Act → World → Prop} {a : Act} {w : World} (h : RC P l n c T Q) (ht : T a w) : c.wpIn (RF l) n P Q a w := h a w ht
theorem kP_ {w W : World} (h : Below w.heap.size w W) : Ext [] w W := ⟨h.os, h.tape, h.output, h.size, fun k hk _ => h.block k hk⟩
theorem in_of {P : Program} {f : FuncId} {fn : Func} {c : Code} {n m : Nat} {args : List Abs} {σ : Blks} {w0 w : World} {F G : List Nat} {J : World → Prop} {R : Ending → World → Prop} (vals : List Value) (hf : P.funcs[f]? = some fn) (hb : fn.body = some c) (hn : fn.ntmps = m) (hle : Nat.ble args.length m = true)
    (hv : reps (mids σ ++ G) w args vals) (hm : Mem w0 F G σ w) (hJ : J w) (h : RC P none n c (StJ m ⟨w0, F, G⟩ σ (args0 args 0) J) (bodyPost P fn R)) : CallsIn (RF none) n P f vals.toArray w R := by
  have hlen := ac_ hv
  have hl := Nat.le_of_ble_eq_true hle
  refine callsIn_of_wp hf hb trivial (h _ w ⟨⟨rfl, ?_, fun t x hx => ?_, hm⟩, hJ⟩) rfl
  · simp [hn]; omega
  · have h1 := (cN_ args 0 t x hx).2
    rw [Nat.sub_zero] at h1
    obtain ⟨u, h2, h3⟩ := a2_ hv h1
    refine ⟨u, ?_, h3⟩
    have hlt : t < vals.length := (List.getElem?_eq_some_iff.1 h2).1
    simp [Array.getElem?_append, hlt]
    exact (List.getElem?_eq_some_iff.1 h2).2
theorem St.world {n : Nat} {W W' : Wd} {σ σ' : Blks} {l l' : Slots} {a : Act} {w w' : World} (h : St n W σ l a w) (hs : Subs l l') (hp : ∀ t x, slot l' t = some x → ∃ u, x = .v u) (hm : Mem W'.w0 W'.F W'.G σ' w') : St n W' σ' l' a w' :=
  ⟨h.defers, h.size, fun t x hx => by
    obtain ⟨v, rfl⟩ := hp t x hx
    obtain ⟨u, h1, h2⟩ := h.slots t _ (hs.slot t _ hx)
    exact ⟨u, h1, h2⟩, hm⟩
theorem ext_step {w a b : World} (h : Ext [] w a) (k : Below w.heap.size a b) : Ext [] w b := ⟨k.os.trans h.os, k.tape.trans h.tape, k.output.trans h.output, Nat.le_trans h.size k.size, fun i hi hn => (k.block i hi).trans (h.block i hi hn)⟩
set_option maxHeartbeats 1000000 in
theorem k7_ {β : Type} (f : β → Pnt) {b : Nat} {xs : List β} {w0 w : World} {F G : List Nat} (hm : Mem w0 F G [.rd b 199 [pntsA (xs.map f)]] w) (hn : xs.length ≤ 100000) :
    SeqStopsK (RF none) 5 Tryz.prog 335 #[.pointer (some ⟨b, 0, none⟩)] (encP f) (Below w.heap.size) (fun ys => ys = bwdL xs) (fun pre => pre <+: bwdL xs) xs.length w := fun L J Jx W hW hJ hJx hY h0 => by
  have hx := kP_ hW
  obtain ⟨hmW, _⟩ := hm.same hx
  obtain ⟨JJ, hJJ⟩ : ∃ JJ : Nat → World → Prop, JJ = fun k w' => J ((bwdL xs).take k) w' ∧ Ext [] w w' := ⟨_, rfl⟩
  refine in_of (J := JJ 0) (σ := [.rd b 199 [pntsA (xs.map f)]]) (args := [.v (.func (.yield L) #[] #[]), .v (.pointer (some ⟨b, 0, none⟩))]) [.func (.yield L) #[] #[], .pointer (some ⟨b, 0, none⟩)] Tryz.func335 rfl Tryz.ntmps335 rfl ⟨_, _, rfl, rfl, _, _, rfl, rfl, rfl⟩ hmW (by rw [hJJ]; exact ⟨h0, hx⟩) ?_
  refine RC.seq (RC.regionL ?_)
  refine RL.valJ (h_ (C := pntsA (xs.map f)) (g_ tabOk rfl rfl (.inr List.mem_cons_self) List.not_mem_nil (by rfl)) rfl) rfl rfl rfl ?_
  refine RL.valJ (H_ (m := xs.length) rfl Tryz.underlying199 (by simp)) rfl rfl rfl ?_
  refine RL.valJ (cp_ rfl rfl (by simp only [InR, lo, hi]; omega)) rfl rfl rfl ?_
  refine RL.valJ (n_ rfl) rfl rfl rfl ?_
  refine RL.nil (RE.seq ?_)
  refine RC.block (RC.loopJ (fun z a w' => z ≤ xs.length ∧ StJ 19 ⟨w0, F, G⟩ [.rd b 199 [pntsA (xs.map f)]] [(0, .v (.func (.yield L) #[] #[])), (1, .v (.pointer (some ⟨b, 0, none⟩))), (3, .v (.int .i64 ((xs.length : Int) - 1 - (z : Nat))))] (JJ z) a w') (fun z => xs.length - z) 0 (fun a w' h => ⟨Nat.zero_le _, h.1.sub ⟨rfl, rfl, (by show some (Abs.v (Value.int _ _)) = some (Abs.v (Value.int _ _)); simp), trivial⟩, h.2⟩) fun z a w' hzs => ?_)
  obtain ⟨hz, hs⟩ := hzs
  refine RC.apply (T := StJ 19 ⟨w0, F, G⟩ [.rd b 199 [pntsA (xs.map f)]] [(0, .v (.func (.yield L) #[] #[])), (1, .v (.pointer (some ⟨b, 0, none⟩))), (3, .v (.int .i64 ((xs.length : Int) - 1 - (z : Nat))))] (JJ z)) ?_ hs
  refine RC.seq (RC.seq (RC.regionL ?_))
  refine RL.valJ (s_ rfl) rfl rfl rfl ?_
  refine RL.valJ (d1_ rfl rfl) rfl rfl rfl ?_
  refine RL.nil (RE.seq ?_)
  refine RC.condJ rfl (fun hc => ?_) (fun hc => ?_)
  · have hc1 : (0 : Int) ≤ (xs.length : Int) - 1 - (z : Nat) := of_decide_eq_true hc
    have hlt : z < xs.length := by omega
    refine RC.skip (RE.seq ?_)
    refine RC.seq (RC.block (RC.seq (RC.regionL ?_)))
    have hq : xs.length - 1 - z < xs.length := by omega
    refine RL.valJ (s_ rfl) rfl rfl rfl ?_
    refine RL.valJ (s_ rfl) rfl rfl rfl ?_
    refine RL.valJ (h_ (C := pntsA (xs.map f)) (g_ tabOk rfl rfl (.inr List.mem_cons_self) List.not_mem_nil (by rfl)) rfl) rfl rfl rfl ?_
    refine RL.valJ (s_ rfl) rfl rfl rfl ?_
    refine RL.valJ (L_ (q := xs.length - 1 - z) (cs := (f (xs[xs.length - 1 - z]'hq)).abs) tabOk Tryz.underlying199 rfl rfl rfl (by omega) (by rw [List.getElem?_map, List.getElem?_map, List.getElem?_eq_getElem hq]; rfl) rfl rfl) rfl rfl rfl ?_
    refine RL.valJ (av_ tabOk rfl rfl rfl (Pnt.size _)) rfl rfl rfl ?_
    refine RL.yieldJ (R := fun e W' => (e = .returned (.bool true) ∧ JJ (z + 1) W') ∨ (e = .returned (.bool false) ∧ ∃ pre, pre <+: bwdL xs ∧ Jx pre W')) rfl rfl rfl ?_ ?_
    · intro w2 vals hj hv
      rw [hJJ] at hj
      obtain ⟨v1, _, rfl, h1, v2, _, rfl, h2, h2'⟩ := hv
      have h2' : _ = [] := h2'
      subst h2'
      have h1 : v1 = .int .i64 _ := h1
      subst h1
      obtain ⟨us, rfl, h3⟩ := h2
      rw [Pnt.abs_cells] at h3
      have h4 := ai_.1 h3
      subst h4
      have h5 := hY ((bwdL xs).take z) (((xs.length - 1 - z : Nat) : Int), xs[xs.length - 1 - z]'hq) w2 hj.1 (by rw [List.length_take, co_]; omega)
      rw [show (xs.length : Int) - 1 - (z : Nat) = ((xs.length - 1 - z : Nat) : Int) by omega]
      refine YieldAt.mono h5 ?_
      rintro e W2 (⟨rfl, h6, h7⟩ | ⟨rfl, h6⟩)
      · exact .inl ⟨rfl, by rw [hJJ]; exact ⟨by rw [gW_ hlt]; exact h6, ext_step hj.2 h7⟩⟩
      · exact .inr ⟨rfl, _, by rw [← gW_ hlt]; exact List.take_prefix _ _, h6⟩
    · intro a2 w2 e W2 hst he
      have hpl : ∀ t x, slot [(0, .v (.func (.yield L) #[] #[])), (1, .v (.pointer (some ⟨b, 0, none⟩))), (3, .v (.int .i64 ((xs.length : Int) - 1 - (z : Nat))))] t = some x → ∃ u, x = .v u := by
        intro t x ht
        simp only [slot] at ht
        repeat' (cases hb9 : Nat.beq _ t <;> rw [hb9] at ht <;> simp only [cond] at ht)
        all_goals first | (cases ht; exact ⟨_, rfl⟩) | cases ht
      rcases he with ⟨rfl, hj⟩ | ⟨rfl, pre, hp, hj⟩
      · refine ⟨_, rfl, ?_⟩
        have hj9 := hj
        rw [hJJ] at hj9
        obtain ⟨hm2, _⟩ := hm.same hj9.2
        have hst2 : St 19 ⟨w0, F, G⟩ [.rd b 199 [pntsA (xs.map f)]] [(0, .v (.func (.yield L) #[] #[])), (1, .v (.pointer (some ⟨b, 0, none⟩))), (3, .v (.int .i64 ((xs.length : Int) - 1 - (z : Nat))))] a2 W2 := hst.1.world ⟨rfl, rfl, rfl, trivial⟩ hpl hm2
        have hst3 : St 19 ⟨w0, F, G⟩ [.rd b 199 [pntsA (xs.map f)]] (put? [(0, .v (.func (.yield L) #[] #[])), (1, .v (.pointer (some ⟨b, 0, none⟩))), (3, .v (.int .i64 ((xs.length : Int) - 1 - (z : Nat))))] (some 17) (.v (.bool true))) (a2.put (some 17) (.bool true)) W2 := hst2.put rfl rfl
        refine (show RL Tryz.prog none 5 _ _ (StJ 19 ⟨w0, F, G⟩ [.rd b 199 [pntsA (xs.map f)]] (put? [(0, .v (.func (.yield L) #[] #[])), (1, .v (.pointer (some ⟨b, 0, none⟩))), (3, .v (.int .i64 ((xs.length : Int) - 1 - (z : Nat))))] (some 17) (.v (.bool true))) (JJ (z + 1))) _ from ?_) _ _ ⟨hst3, hj⟩
        refine RL.valJ (aL_ rfl) rfl rfl rfl ?_
        refine RL.nil (RE.seq ?_)
        refine RC.condJ rfl (fun h => by cases h) (fun _ => ?_)
        refine RC.skip fun a3 w3 h3 => ?_
        refine (show RC Tryz.prog none 5 _ (StJ 19 ⟨w0, F, G⟩ [.rd b 199 [pntsA (xs.map f)]] _ (JJ (z + 1))) _ from RC.regionL ?_) a3 w3 h3
        refine RL.valJ (s_ rfl) rfl rfl rfl ?_
        refine RL.valJ (cp_ rfl rfl (by simp only [InR, lo, hi]; omega)) rfl rfl rfl ?_
        refine RL.valJ (n_ rfl) rfl rfl rfl ?_
        refine RL.nil fun a4 w4 h4 => ⟨z + 1, by omega, by omega, h4.1.sub ⟨rfl, rfl, ?_, trivial⟩, h4.2⟩
        show some (Abs.v (Value.int _ _)) = some (Abs.v (Value.int _ _))
        congr 3
        omega
      · refine ⟨_, rfl, ?_⟩
        have hst2 : St 19 ⟨W2, [], []⟩ [] [(0, .v (.func (.yield L) #[] #[])), (1, .v (.pointer (some ⟨b, 0, none⟩))), (3, .v (.int .i64 ((xs.length : Int) - 1 - (z : Nat))))] a2 W2 := hst.1.world ⟨rfl, rfl, rfl, trivial⟩ hpl ⟨Ext.refl _, by simp [mids], by simp [mids], by simp, by simp, by simp [mids], by simp⟩
        have hst3 : St 19 ⟨W2, [], []⟩ [] (put? [(0, .v (.func (.yield L) #[] #[])), (1, .v (.pointer (some ⟨b, 0, none⟩))), (3, .v (.int .i64 ((xs.length : Int) - 1 - (z : Nat))))] (some 17) (.v (.bool false))) (a2.put (some 17) (.bool false)) W2 := hst2.put rfl rfl
        refine (show RL Tryz.prog none 5 _ _ (StJ 19 ⟨W2, [], []⟩ [] (put? [(0, .v (.func (.yield L) #[] #[])), (1, .v (.pointer (some ⟨b, 0, none⟩))), (3, .v (.int .i64 ((xs.length : Int) - 1 - (z : Nat))))] (some 17) (.v (.bool false))) (fun w' => Jx pre w')) _ from ?_) _ _ ⟨hst3, hj⟩
        refine RL.valJ (aL_ rfl) rfl rfl rfl ?_
        refine RL.nil (RE.seq ?_)
        refine RC.condJ rfl (fun _ => ?_) (fun h => by cases h)
        refine RC.ret fun a3 w3 h3 => ?_
        exact ⟨h3.1.defers, _, results_none rfl _ _ _, ⟨_, rfl⟩, .inr ⟨pre, hp, h3.2⟩⟩
  · have hc1 : ¬ (0 : Int) ≤ (xs.length : Int) - 1 - (z : Nat) := of_decide_eq_false hc
    obtain rfl : z = xs.length := by omega
    refine RC.exit fun a1 w1 h1 => ?_
    have h2 := h1.2
    rw [hJJ, List.take_of_length_le (by rw [co_]; exact Nat.le_refl _)] at h2
    exact ⟨h1.1.defers, _, results_none rfl _ _ _, ⟨_, rfl⟩, .inl ⟨_, rfl, h2.1⟩⟩
theorem h0_ : (List.replicate 32 (0 : UInt8)).length = 32 := by simp
def Pnt.zero : Pnt := ⟨0, List.replicate 32 0, h0_⟩
structure Ow where
  dig : List UInt8
  b : List UInt8
  len : dig.length = 32
def Ow.cells (o : Ow) : List Abs := digA o.dig ++ [byt o.b]
def Ow.enc (o : Ow) : Abs := .agg o.cells
def Ow.zero : Ow := ⟨List.replicate 32 0, [], h0_⟩
def ownP (om : List (Int × Ow)) : List Pnt := (srt (om.map (·.1))).map fun k => ⟨k, ((aget om k).getD Ow.zero).dig, ((aget om k).getD Ow.zero).len⟩
def ownHas (om : List (Int × Ow)) (x : Pnt) : Bool := (aget om x.seq).isSome && decide (((aget om x.seq).getD Ow.zero).dig = x.dig)
def supF (om : List (Int × Ow)) (vs : List (List Pnt)) (x : Pnt) : Nat := (if ownHas om x then 1 else 0) + (vs.filter fun l => decide (x ∈ l)).length
def votesF (me : Nat) (om : List (Int × Ow)) (vs : List (List Pnt)) (who : Nat) : List Pnt := if who = me then ownP om else (vs[who]?).getD []
def bestF (om : List (Int × Ow)) (vs : List (List Pnt)) (l : List Pnt) (above at_ : Int) : Option Pnt := l.reverse.find? fun x => decide (above < x.seq) && decide (at_ ≤ (supF om vs x : Nat))
def Rising (l : List Pnt) : Prop := l.Pairwise fun a b => a.seq < b.seq
structure PtsOk (n me : Nat) (om : List (Int × Ow)) (vs : List (List Pnt)) : Prop where
  n1 : 1 ≤ n
  n7 : n ≤ 7
  slf : me < n
  len : vs.length = n
  rise : ∀ l ∈ vs, Rising l
  few : ∀ l ∈ vs, l.length ≤ 3
  ins : ∀ l ∈ vs, ∀ x ∈ l, InR .i64 x.seq
  keys : ∀ e ∈ om, InR .i64 e.1
  nd : (om.map (·.1)).Nodup
  om : om.length ≤ 100000
theorem kb_ {ks : List Int} {k : Int} : k ∈ srt ks ↔ k ∈ ks := (ej_ ks).mem_iff
theorem eI_ (om : List (Int × Ow)) : (ownP om).length = om.length := by simp [ownP, b7_]
theorem ownP_in {om : List (Int × Ow)} (h : ∀ e ∈ om, InR .i64 e.1) : ∀ x ∈ ownP om, InR .i64 x.seq := fun x hx => by
  obtain ⟨k, hk, rfl⟩ := List.mem_map.1 hx
  obtain ⟨e, he, rfl⟩ := List.mem_map.1 (kb_.1 hk)
  exact h e he
theorem jW_ {n me : Nat} {om : List (Int × Ow)} {vs : List (List Pnt)} (h : PtsOk n me om vs) (who : Nat) : ∀ x ∈ votesF me om vs who, InR .i64 x.seq := fun x hx => by
  unfold votesF at hx
  split at hx
  · exact ownP_in h.keys x hx
  · cases hv : vs[who]? with
    | none => rw [hv] at hx; cases hx
    | some l => rw [hv] at hx; exact h.ins l (List.mem_of_getElem? hv) x hx
theorem iX_ {n me : Nat} {om : List (Int × Ow)} {vs : List (List Pnt)} (h : PtsOk n me om vs) (who : Nat) : (votesF me om vs who).length ≤ 100000 := by
  unfold votesF
  split
  · rw [eI_]; exact h.om
  · cases hv : vs[who]? with
    | none => simp
    | some l => have := h.few l (List.mem_of_getElem? hv); simp; omega
theorem PtsOk.own {n me : Nat} {om : List (Int × Ow)} {vs : List (List Pnt)} (h : PtsOk n me om vs) {k : Int} (hk : InR .i64 k) (o : Ow) (hl : om.length < 100000) : PtsOk n me (aput om k o) vs where
  n1 := h.n1
  n7 := h.n7
  slf := h.slf
  len := h.len
  rise := h.rise
  few := h.few
  ins := h.ins
  keys := fun e he => by
    unfold aput at he
    split at he
    · obtain ⟨d, hd, rfl⟩ := List.mem_map.1 he
      split
      · exact hk
      · exact h.keys d hd
    · rcases List.mem_append.1 he with he | he
      · exact h.keys e he
      · rw [List.mem_singleton.1 he]; exact hk
  nd := dX_ h.nd _ _
  om := by
    unfold aput
    split
    · rw [List.length_map]; exact h.om
    · simp only [List.length_append, List.length_cons, List.length_nil]; omega
theorem PtsOk.move {n me : Nat} {om : List (Int × Ow)} {vs : List (List Pnt)} (h : PtsOk n me om vs) (p : Int × Ow → Bool) : PtsOk n me (om.filter p) vs where
  n1 := h.n1
  n7 := h.n7
  slf := h.slf
  len := h.len
  rise := h.rise
  few := h.few
  ins := h.ins
  keys := fun e he => h.keys e (List.mem_filter.1 he).1
  nd := h.nd.sublist (List.filter_sublist.map _)
  om := Nat.le_trans (List.length_filter_le _ _) h.om
theorem ku_ (ps : List Pnt) : ∀ c ∈ ps.map Pnt.abs, ones c = true := fun c hc => by
  obtain ⟨p, _, rfl⟩ := List.mem_map.1 hc
  exact p.ones
section
variable {x : Pnt} {l : List Pnt} {s : Int}
theorem hL_ {xs : List (List Abs)} (h1 : ∀ c ∈ xs, ones c = true) (hn : xs.length ≤ 1000000) : Spec Tryz.prog 212 [.sl 33 xs] [] (fun r : Value => [own 203 33 r xs]) (fun r => .v r) := by
 refine t_ Tryz.func212 rfl Tryz.ntmps212 rfl fun G w =>c_<|a_<|q_ 1 rfl<|d_<|b_<|c_<|c_<|a_<|q_ 1 rfl<|bW_ Tryz.underlying199 rfl rfl rfl<|fun b hb=>d_<|b_<|ar_ rfl ?_ ?_
 ·intro hc4
  have hnil : xs = [] := hb hc4
  subst hnil
  exact c_<|aF_ 203 33<|a_<|q_ 1 rfl<|d_<|b_<|k_<|j_ nofun<|f_ (rs := [.tmp 2]) rfl (RV.tmp rfl RV.nil) (.slice none 0 0) sr_<|rfl
 intro hc4
 refine o_<|b_<|c_<|a_<|eb_ (aA_ tabOk Tryz.underlying199 rfl rfl rfl rfl rfl rfl rfl) rfl rfl fun r5=>?_
 refine q_ 1 rfl<|eb_ (K_ (zs := xs) tabOk [] rfl Tryz.underlying199 rfl rfl rfl rfl rfl rfl h1 (by unfold maxLen; simp only [List.length_nil]; omega) (by rw [show Tryz.prog.bytesOf 203 = 40 by kernel_rfl]; simp only [List.length_nil]; omega)) rfl rfl fun r7=>?_
 exact q_ 1 rfl<|d_<|b_<|k_<|f_ (rs := [.tmp 2]) rfl (RV.tmp rfl RV.nil) (r7) sr_<|rfl
theorem pindex_s (hx : InR .i64 x.seq) (hl : ∀ y ∈ l, InR .i64 y.seq) (hn : l.length ≤ 1000000) : Spec Tryz.prog 375 [pntsA l, .agg x.abs] [] (fun _ : {q : Int // 0 ≤ q ↔ x ∈ l} => []) (fun q => int q.1) := by
 refine t_ Tryz.func375 rfl Tryz.ntmps375 rfl fun G w =>c_<|a_<|eb_ (B_ (cs := x.abs) rfl) rfl rfl fun b3=>?_
 refine q_ 1 rfl<|d_<|b_<|c_<|c_<|a_<|q_ 1 rfl<|slvA (H_ rfl Tryz.underlying199 (List.length_map _))<|q_ 1 rfl<|d_<|b_<|u_<|P_ (ι := Nat) (fun z => [.blk b3 203 x.abs]) (fun z => [(0, pntsA l), (3, ptr b3), (7, int (l.length : Nat)), (8, int (z : Nat))]) (fun z => z ≤ l.length ∧ ∀ j (hj : j < l.length), j < z → ¬ x = l[j]) (fun z => l.length - z) (0) (⟨Nat.zero_le _, fun j hj h => by omega⟩) (by exact ⟨rfl, rfl, rfl, rfl, trivial⟩) sr_ ?_
 intro z hz
 refine c_<|a_<|q_ 1 rfl<|d_<|b_<|c_<|l_ rfl ?_ ?_
 rotate_left
 ·intro hc9
  refine N_<|j_ nofun<|j_ nofun<|M_<|b_<|c_<|a_<|q_ 1 rfl<|d_<|b_<|k_<|f_ (rs := [.tmp 4]) rfl (RV.tmp rfl RV.nil) (⟨-1, ⟨fun h => by omega, fun h => by obtain ⟨j, hj, h2⟩ := List.getElem_of_mem h; exact absurd h2.symm (hz.2 j hj (by omega))⟩⟩) sn_ ?_
  exact rfl
 intro hc9
 have hlt : z < l.length := by omega
 refine o_<|b_<|c_<|u_<|c_<|a_<|q_ 2 rfl<|d_<|b_<|c_<|Q_ [] (.q 0 (.q 1 (.q 2 (.q 3 (.q 4 (.q 5 .nil)))))) (by kernel_rfl) (by kernel_rfl) ?_
 refine hx_ fun hx9 =>sxvA rfl (h_ (C := .agg x.abs) (r_ tabOk rfl rfl rfl l0_ List.not_mem_nil (Pnt.size _)) rfl) hx9<|qs_ 2 rfl<|sxvA rfl (L_ tabOk Tryz.underlying199 rfl rfl rfl rfl (a8_ (by omega)) rfl rfl) (by simp) ?_
 refine sxvA rfl (av_ tabOk rfl rfl rfl (Pnt.size _)) hx9<|sxvA rfl (e7_ rfl rfl (fn_ _) (fn_ _) (by kernel_rfl) (eqP hx (hl _ (List.getElem_mem hlt)))) hx9 ?_
 refine F_<|b_<|l_ rfl ?_ ?_
 ·intro hc16
  refine c_<|a_<|q_ 2 rfl<|d_<|b_<|k_<|S_<|j_ nofun<|j_ nofun<|S_<|j_ nofun<|f_ (rs := [.tmp 4]) rfl (RV.tmp rfl RV.nil) (⟨(z : Nat), ⟨fun _ => by rw [hc16]; exact List.getElem_mem hlt, fun _ => by omega⟩⟩) sn_ ?_
  exact rfl
 intro hc16
 refine o_<|w_<|b_<|a_<|slvA (y_ rfl rfl (by simp only [InR, lo, hi]; omega)) ?_
 refine q_ 1 rfl<|d_<|I_ (z + 1) (by omega) (⟨by omega, fun j hj hjz => by
  rcases Nat.lt_or_ge j z with h1 | h1
  ·exact hz.2 j hj h1
  obtain rfl : j = z := (by omega)
  exact hc16⟩) (by exact ⟨rfl, rfl, rfl, rfl, trivial⟩) sr_
theorem hB_ (hx : InR .i64 x.seq) (hl : ∀ y ∈ l, InR .i64 y.seq) (hn : l.length ≤ 1000000) : Spec Tryz.prog 323 [pntsA l, .agg x.abs] [] (fun _ : Unit => []) (fun _ => boo (decide (x ∈ l))) := by
 refine t_ Tryz.func323 rfl Tryz.ntmps323 rfl fun G w =>c_<|a_<|eb_ (B_ (cs := x.abs) rfl) rfl rfl fun b3=>?_
 refine q_ 1 rfl<|d_<|b_<|c_<|a_<|q_ 1 rfl<|slvA (h_ (C := .agg x.abs) (r_ tabOk rfl rfl rfl l0_ List.not_mem_nil (Pnt.size _)) rfl)<|slcA (pindex_s hx hl hn) ?_
 exact ap_<|fun q0=>q_ 2 rfl<|d_<|b_<|k_<|f_ (rs := [.tmp 4]) rfl (RV.tmp rfl RV.nil) (()) sn_<|congrArg (fun b => Abs.v (Value.bool b))<|decide_eq_decide.2 q0.2
end
section
variable {P : Program} {n : Nat} {W : Wd} {σ τ : Blks} {l : Slots} {X : List Nat} {x y : Operand} {d : Option Nat} {ty t e : TypeId} {pos : String} {aft : Array Edge} {g : Option (Nat × Bool)} {tab : List (Nat × TI)}
theorem jC_ (hT : TabOk P tab) {sz fo ft f : Nat} {gs : List (Nat × Nat)} {zs : List Value} {cs : List Abs} {j : TI} (ht : ti tab t = some ⟨sz, .struct gs, zs⟩) (hx : look l x = some (.agg cs)) (hfo : gs[f]? = some (fo, ft)) (hj : ti tab ft = some j) (hk : (match j.k with | .one => false | _ => true) = true) (hl : fo + j.size ≤ cs.length) :
    Val P n W σ l X ⟨d, .field t x f, ty, pos, aft, g⟩ (.agg (part cs fo j.size)) := aB_ fun a w hs hX => by
  obtain ⟨us, h1, h2⟩ := hs.eval hx
  have hlen := ac_ h2
  refine ⟨.agg ((us.drop fo).take j.size).toArray, ⟨_, rfl, cF_ (du_ h2 fo) j.size⟩, fun w' _ => ?_⟩
  obtain ⟨fs, hu, hm⟩ := (hT t _ ht).fields
  rw [← hm, List.getElem?_map] at hfo
  intro A w1 hf hD
  cases hf2 : fs.toList[f]? with
  | none => simp [hf2] at hfo
  | some fd =>
    simp only [hf2, Option.map_some, Option.some.injEq, Prod.mk.injEq] at hfo
    obtain ⟨rfl, rfl⟩ := hfo
    have hf3 : fs[f]? = some fd := by simpa using hf2
    have h3 := (hT _ _ hj).isAgg (w := w1)
    have h4 := (hT _ _ hj).sizeOf (w := w1)
    have e1 : A.eval x = .agg us.toArray := hf.eval (by rw [hs.at2 hx, h1])
    have hle : fd.offset + j.size ≤ us.length := by omega
    have h3 : (isAgg fd.type).run P w1 = .ok true w1 := by
      rw [h3]
      cases hq : j.k <;> simp [hq] at hk ⊢
    simp [execOp, e1, Instr.field, run_underlying hu, Sem.run_bind, hf3, Result.andThen, asAgg, Go.part, h3, h4, hle]
end
theorem gb_ (ν : Blks) (X0 : List Nat) {P : Program} {n : Nat} {W : Wd} {σ σ0 : Blks} {l : Slots} {X : List Nat} {ops : Array Oper} {Q : Exit → Act → World → Prop} {ix : Plan} {o : Oper} {i : Nat} {Y : List Nat} {R : Abs → Blks → Prop} (hX : X = mids ν ++ X0) (hi : ops[i]? = some o) (hv : Eff P n W σ l Y o R) (hσ : σ = ν ++ σ0) (hY : ∀ k ∈ Y, k ∈ mids ν ++ X0) (hg : gd ops l o = some true) (hd : lt? o.dst n = true)
    (k : ∀ y τ, R y τ → ∃ ν' : Blks, τ = ν' ++ σ0 ∧ SX P ops ix (mids ν' ++ X0) (St n W τ (put? l o.dst y)) Q) : SX P ops (.e i ix) X (St n W σ l) Q := hX ▸ cs_ ν X0 hi hv hσ hY hg hd k
theorem hV_ {ops : Array Oper} {rest : List Oper} {Q : Exit → Act → World → Prop} {P : Program} {n : Nat} {W : Wd} {σ : Blks} {l : Slots} {e : TypeId} {s : Nat} {v : Value} {xs : List (List Abs)} (hb : own e s v xs ∈ σ) (k : ∀ A m c, v = .slice A m c → SL P ops rest (St n W σ l) Q) : SL P ops rest (St n W σ l) Q := fun a w h => by
  obtain ⟨us, hown, _⟩ := aN_ h hb
  obtain ⟨A, c, hv, _⟩ := dP_ hown
  exact k A _ c hv a w h
theorem iB_ {place : Nat → Option (Nat × Nat)} {Z : List Abs} {x y : Abs} {a b : Nat} (hx : (cellsA x).length = a) (hy : (cellsA y).length = b) (hZ : Z.length = a + b) (h0 : place 0 = some (0, a)) (h1 : place 1 = some (a, b)) : fillA place Z [(0, x), (1, y)] = some (cellsA x ++ cellsA y) := by
  simp only [fillA, h0, h1, hx, hy, Nat.beq_refl, Bool.true_and, putL]
  rw [Nat.ble_eq_true_of_le (by omega)]
  simp only [cond_true]
  rw [Nat.ble_eq_true_of_le (by simp only [List.length_append, List.length_drop]; omega)]
  simp only [cond_true]
  rw [ck_ _ _ _ (by simp only [List.length_append]; omega)]
  rw [← hx, List.take_left, List.drop_eq_nil_of_le (by simp only [List.length_append, List.length_drop]; omega), List.append_nil]
section
variable {e : TypeId} {s : Nat} {v : Value} {xs ys : List (List Abs)}
theorem Re.ownMap (h : ∀ K w us, repss K w s xs us → repss K w s ys us) (hl : xs.length = ys.length) : Re [own e s v xs] [own e s v ys] := ⟨⟨[], by rw [List.append_nil]; exact List.Perm.refl _⟩, by simp [It.rids], fun K w hx y hy => by
  rw [List.mem_singleton.1 hy]
  obtain ⟨us, h1, h2⟩ : (ownPc e s v xs).p K w := hx _ List.mem_cons_self
  exact ⟨us, by rw [← hl]; exact h1, h _ _ _ h2⟩⟩
theorem gz_ {K : List Nat} {w : World} {ds es : List Abs} (h : ∀ us, reps K w ds us → reps K w es us) : ∀ (m : Nat) (us : List Value), repss K w s (List.replicate m ds) us → repss K w s (List.replicate m es) us
  | 0, _, h2 => h2
  | m + 1, _, ⟨u1, u2, h2, h3, h4, h5⟩ => ⟨u1, u2, h2, h3, h _ h4, gz_ h m u2 h5⟩
end
end Go.Proofs.YtjclgkddfjbdiaaGreatDoor.A
