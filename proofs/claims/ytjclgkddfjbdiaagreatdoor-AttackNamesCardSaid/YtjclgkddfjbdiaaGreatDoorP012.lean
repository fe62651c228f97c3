/-
  Packed out of the texts: AN23, AN24, AN25, AN26, AN27, AN28, AN29.
-/
import Derived.Test.YtjclgkddfjbdiaaGreatDoorP011
set_option maxRecDepth 100000
set_option linter.unusedSimpArgs false
set_option linter.unusedVariables false
namespace Go.Proofs.YtjclgkddfjbdiaaGreatDoor.A
open Go.RowKit
def rpP (p : Nat) (x : Nat × RI) : Pc := bigI [.blk x.2.r 118 (x.2.cells p x.1 0 (.v (.slice none 0 0))), .pc (tmPc x.2.pd intK intOk coE []), .blk x.2.x 179 [int 4, int 0, int 0, .v (.slice none 0 0), .v (.slice none 0 0), .v (.slice none 0 0)], .blk x.2.t 173 [int 32, int 0], .blk x.2.h 167 [bkI p, int 4, mapV x.2.hm, .v x.2.hv], .pc (tmPc x.2.hm intK intOk pE []), .blk x.2.vv 160 [int 4, mapV x.2.vm], .pc (tmPc x.2.vm paV paOk voE []), .blk x.2.pp 157 [int ((4 : Nat) : Int), int (x.1 : Nat), mapV x.2.om, .v x.2.pv], own 199 1 x.2.pv ((List.replicate 4 []).map fun l => [pntsA l]), .pc (tmPc x.2.om intK intOk Ow.enc [(0, x.2.ow)]), .blk x.2.lg 153 [int 4, int 0, mapV x.2.lm], .pc (tmPc x.2.lm intK intOk pE [])]
def clP (p : Nat) (ca : Nat) : Pc := blkP ca 126 [bkI p, int 4, int 4, int 0, .v (.pointer none), .v (.slice none 0 0)]
def mK (Rs : List (Nat × RI)) : List (Int × Option Nat) := Rs.map fun x => (((x.1 : Nat) : Int), some x.2.r)
def mC (Cs : List Nat) : List (Int × Option Nat) := Cs.map fun ca => ((4 : Int), some ca)
theorem aput_nw {β : Type} {a : Int} {v : β} {m : List (Int × β)} (h : ∀ e ∈ m, e.1 ≠ a) : aput m a v = m ++ [(a, v)] := by
  unfold aput
  rw [if_neg]
  rw [bf_]
  intro hm
  obtain ⟨e, he, h2⟩ := List.mem_map.1 hm
  exact h e he h2
theorem mK_snoc {Rs : List (Nat × RI)} {k : Nat} {R : RI} (h : Rs.map (·.1) = List.range k) : aput (mK Rs) ((k : Nat) : Int) (some R.r) = mK (Rs ++ [(k, R)]) := by
  rw [aput_nw, mK, mK, List.map_append]
  · rfl
  · intro e he
    obtain ⟨x, hx, rfl⟩ := List.mem_map.1 he
    have h2 : x.1 ∈ List.range k := h ▸ List.mem_map.2 ⟨x, hx, rfl⟩
    rw [List.mem_range] at h2
    dsimp only
    omega
theorem mC_snoc {Cs : List Nat} {k b : Nat} (h : Cs = []) (hk : k = 4) : aput (mC Cs) ((k : Nat) : Int) (some b) = mC (Cs ++ [b]) := by
  subst h hk
  rfl
theorem Re.bigSnoc {l : List Pc} {c : Pc} : Re [.pc c, .pc (bigP l)] [.pc (bigP (l ++ [c]))] := by
  have h := Re.back (l1 := l) (l2 := []) (c := c)
  rwa [List.append_nil] at h
theorem rs4 {Rs : List (Nat × RI)} (h : Rs.map (·.1) = List.range 4) : ∃ R0 R1 R2 R3, Rs = [(0, R0), (1, R1), (2, R2), (3, R3)] := by
  match Rs, h with
  | [(a, R0), (b, R1), (c, R2), (d, R3)], h =>
    have h2 : [a, b, c, d] = [0, 1, 2, 3] := h
    simp only [List.cons.injEq, and_true] at h2
    obtain ⟨rfl, rfl, rfl, rfl⟩ := h2
    exact ⟨R0, R1, R2, R3, rfl⟩
theorem cs1 {Cs : List Nat} (h : Cs.length = 1) : ∃ ca, Cs = [ca] := List.length_eq_one_iff.1 h
def r4 (R0 R1 R2 R3 : RI) : Nat → Nat
  | 0 => R0.r
  | 1 => R1.r
  | 2 => R2.r
  | _ => R3.r
structure CI where
  c : Nat
  rm : Nat
  cm : Nat
  cr : Nat
  em : Nat
  ca : Nat
  R0 : RI
  R1 : RI
  R2 : RI
  R3 : RI
section
variable {p bd bt N : Nat}
theorem jE_  : Spec Tryz.prog 23 [.agg set0] [] (fun _ : Unit => []) (fun _ => int 0) := by
 refine t_ Tryz.func23 rfl Tryz.ntmps23 rfl fun G w =>c_<|a_<|eb_ (z_ (cs := set0) rfl) rfl rfl fun b1=>?_
 refine q_ 1 rfl<|g_<|b_<|c_<|c_<|a_<|q_ 1 rfl<|d_ (i_ (C := int 1) (h_ tabOk rfl rfl l0_ List.not_mem_nil rfl) rfl) rfl rfl<|q_ 2 rfl<|D_ (t := 11) rfl (by intro hc11; exfalso; omega) ?_
 intro hc11
 refine q_ 1 rfl<|d_ (i_ (C := int 1) (h_ tabOk rfl rfl l0_ List.not_mem_nil rfl) rfl) rfl rfl<|q_ 3 rfl<|D_ (t := 16) rfl (by intro hc16; exfalso; omega) ?_
 intro hc16
 refine q_ 1 rfl<|d_ (i_ (C := int 1) (h_ tabOk rfl rfl l0_ List.not_mem_nil rfl) rfl) rfl rfl<|q_ 3 rfl<|D_ (t := 21) rfl (by intro hc21; exfalso; omega) ?_
 intro hc21
 refine q_ 1 rfl<|d_ (i_ (C := int 1) (h_ tabOk rfl rfl l0_ List.not_mem_nil rfl) rfl) rfl rfl<|q_ 2 rfl<|g_<|b_<|n_ rfl (by intro hc25; exfalso; omega) ?_
 intro hc25
 refine s_<|b_<|c_<|a_<|q_ 1 rfl<|d_ (i_ (C := int 1) (h_ tabOk rfl rfl l0_ List.not_mem_nil rfl) rfl) rfl rfl<|d_ (i_ (C := int 3) (c8_ rfl rfl (by simp only [InR, lo, hi]; omega)) rfl) rfl rfl ?_
 refine d_ (i_ (C := int 4) (E_ rfl rfl (by simp only [InR, lo, hi]; omega)) rfl) rfl rfl ?_
 refine q_ 1 rfl<|g_<|b_<|c_<|a_<|eb_ (B_ intK intOk pE (fun ac w => by simp [execOp, Instr.makeMap, newObj, Sem.run, Sem.run_bind, Result.andThen])) rfl rfl fun m30=>?_
 refine q_ 1 rfl<|g_<|b_<|c_<|a_<|q_ 1 rfl<|g_<|b_<|c_<|c_<|a_<|q_ 1 rfl<|d_ (i_ (C := .v (.slice none 0 0)) (h_ tabOk rfl rfl l1_ List.not_mem_nil rfl) rfl) rfl rfl<|d_ (af_ (m := 0) rfl Tryz.underlying22) rfl rfl<|q_ 1 rfl<|g_<|b_<|w_<|S_ (ι := Unit) (fun z => [.blk b1 24 set0]) (fun z => [(1, ptr b1), (5, int 0), (33, int (0 : Nat)), (34, int 0)]) (fun z => True) (fun z => 0) (()) (trivial) (by exact ⟨rfl, rfl, rfl, rfl, trivial⟩) (sk_ sr_) ?_
 intro z hz
 refine c_<|a_<|q_ 1 rfl<|g_<|b_<|c_<|n_ rfl (by intro hc35; exfalso; omega) ?_
 intro hc35
 refine O_<|k_ nofun<|k_ nofun<|N_<|b_<|c_<|c_<|a_<|q_ 2 rfl<|d_ (i_ (C := int 1) (h_ tabOk rfl rfl l0_ List.not_mem_nil rfl) rfl) rfl rfl<|q_ 1 rfl<|g_<|b_<|n_ rfl (by intro hc64; exfalso; omega) ?_
 intro hc64
 exact s_<|b_<|c_<|a_<|q_ 1 rfl<|g_<|b_<|o_<|f_ (rs := [.tmp 2]) rfl (RV.tmp rfl RV.nil) (()) sn_<|rfl
set_option maxHeartbeats 8000000 in
theorem jC_ (hN : N ≤ 1000) : Spec Tryz.prog 14 [bkI p, .agg set0] [wb p bd bt N] (fun z : CI => [wb p bd bt (N + 5), .pc (bigP [rpP p (0, z.R0), rpP p (1, z.R1), rpP p (2, z.R2), rpP p (3, z.R3)]), .pc (bigP [clP p z.ca]), .blk z.c 74 [bkI p, int 4, int 5, mapV z.rm, mapV z.cm, ptr z.cr, mapV z.em, .v (.slice none 0 0)], .pc (tmPc z.rm intK intOk pE (rmL (r4 z.R0 z.R1 z.R2 z.R3))), .pc (tmPc z.cm intK intOk pE [((4 : Int), some z.ca)]), .blk z.cr 97 [.v (.slice none 0 0)], own 143 6 (.slice none 0 0) [], .pc (tmPc z.em wdV wdOk boo [])]) (fun z => .tup [ptr z.c, int 0]) := by
 refine t_ Tryz.func14 rfl Tryz.ntmps14 rfl fun G w =>c_<|a_<|eb_ (z_ (cs := set0) rfl) rfl rfl fun b3=>?_
 refine q_ 2 rfl<|g_<|b_<|c_<|c_<|a_<|q_ 1 rfl<|d_ (a0_ Tryz.underlying68 rfl) rfl rfl<|g_<|b_<|I_ rfl<|s_<|b_<|c_<|c_<|a_<|d_ (i_ (C := .agg set0) (y_ tabOk rfl rfl rfl l0_ List.not_mem_nil rfl) rfl) rfl rfl<|m_ (jE_) Casts.refl (by kernel_rfl) rfl rfl rfl ?_
 refine ap_<|fun _=>q_ 1 rfl<|g_<|b_<|c_<|a_<|q_ 2 rfl<|g_<|b_<|n_ rfl (by intro hc15; exfalso; omega) ?_
 intro hc15
 refine s_<|b_<|c_<|a_<|q_ 1 rfl<|d_ (i_ (C := int 1) (h_ tabOk rfl rfl l0_ List.not_mem_nil rfl) rfl) rfl rfl<|d_ (i_ (C := int 3) (c8_ rfl rfl (by simp only [InR, lo, hi]; omega)) rfl) rfl rfl ?_
 refine d_ (i_ (C := int 4) (E_ rfl rfl (by simp only [InR, lo, hi]; omega)) rfl) rfl rfl ?_
 refine q_ 1 rfl<|g_<|b_<|cj_ (ι := Nat × Nat × Nat × Nat × Nat) (fun y => [.blk y.1 74 [bkI p, int 4, int 5, mapV y.2.1, mapV y.2.2.1, ptr y.2.2.2.1, mapV y.2.2.2.2, .v (.slice none 0 0)], .pc (tmPc y.2.1 intK intOk pE []), .pc (tmPc y.2.2.1 intK intOk pE []), .blk y.2.2.2.1 97 [.v (.slice none 0 0)], own 143 6 (.slice none 0 0) [], .pc (tmPc y.2.2.2.2 wdV wdOk boo []), .blk b3 24 set0, wb p bd bt N]) (fun y => [(3, ptr b3), (7, int 4), (8, ptr y.1)]) (fun y => True) ?_ ?_
 ·skip
  refine T_ [] (.q 0 (.q 1 (.q 2 (.q 3 (.q 4 (.q 5 (.four 6 7 8 9 (.three 7 8 9 (.two 8 9 (.e 9 (.q 10 (.e 11 (.q 12 .nil)))) (.e 8 (.q 10 (.e 11 (.q 12 .nil))))) (.two 7 9 (.e 9 (.q 10 (.e 11 (.q 12 .nil)))) (.e 7 (.q 10 (.e 11 (.q 12 .nil))))) (.two 7 8 (.e 8 (.q 10 (.e 11 (.q 12 .nil)))) (.e 7 (.q 10 (.e 11 (.q 12 .nil)))))) (.three 6 8 9 (.two 8 9 (.e 9 (.q 10 (.e 11 (.q 12 .nil)))) (.e 8 (.q 10 (.e 11 (.q 12 .nil))))) (.two 6 9 (.e 9 (.q 10 (.e 11 (.q 12 .nil)))) (.e 6 (.q 10 (.e 11 (.q 12 .nil))))) (.two 6 8 (.e 8 (.q 10 (.e 11 (.q 12 .nil)))) (.e 6 (.q 10 (.e 11 (.q 12 .nil)))))) (.three 6 7 9 (.two 7 9 (.e 9 (.q 10 (.e 11 (.q 12 .nil)))) (.e 7 (.q 10 (.e 11 (.q 12 .nil))))) (.two 6 9 (.e 9 (.q 10 (.e 11 (.q 12 .nil)))) (.e 6 (.q 10 (.e 11 (.q 12 .nil))))) (.two 6 7 (.e 7 (.q 10 (.e 11 (.q 12 .nil)))) (.e 6 (.q 10 (.e 11 (.q 12 .nil)))))) (.three 6 7 8 (.two 7 8 (.e 8 (.q 10 (.e 11 (.q 12 .nil)))) (.e 7 (.q 10 (.e 11 (.q 12 .nil))))) (.two 6 8 (.e 8 (.q 10 (.e 11 (.q 12 .nil)))) (.e 6 (.q 10 (.e 11 (.q 12 .nil))))) (.two 6 7 (.e 7 (.q 10 (.e 11 (.q 12 .nil)))) (.e 6 (.q 10 (.e 11 (.q 12 .nil))))))))))))) (by kernel_rfl) (by kernel_rfl) ?_
  refine qs_ 4 rfl<|X_ (by (simp [mids, It.mids, ownPc, mapPc, tmPc, wbP, exP]; done)) fun hx9 => ?_
  refine j_ rfl (i_ (C := int 1) (h_ tabOk rfl rfl l0_ List.not_mem_nil rfl) rfl) hx9 rfl rfl<|j_ rfl (i_ (C := int 5) (E_ rfl rfl (by simp only [InR, lo, hi]; omega)) rfl) hx9 rfl rfl ?_
  refine SX.four ?_ ?_ ?_ ?_
  ·skip
   refine exb_ rfl (B_ intK intOk pE (fun ac w => by simp [execOp, Instr.makeMap, newObj, Sem.run, Sem.run_bind, Result.andThen])) (by simp) rfl rfl fun m27=>?_
   refine dP_ ?_ ?_ ?_
   ·skip
    refine exb_ rfl (B_ intK intOk pE (fun ac w => by simp [execOp, Instr.makeMap, newObj, Sem.run, Sem.run_bind, Result.andThen])) (by simp) rfl rfl fun m28=>?_
    refine aQ_ ?_ ?_
    ·skip
     refine H_ rfl (a5_) (by simp [mids, It.mids]) Casts.refl (by kernel_rfl) rfl rfl rfl ?_
     refine am_ (by repeat (first | exact Reads.nil | (refine Reads.blk ?_ ?_; focus ((repeat first|assumption|exact m0_|apply m1_); done)) | (refine Reads.rd ?_ ?_; focus ((repeat first|assumption|exact m0_|apply m1_); done)) | (refine Reads.pc ?_ ?_; focus ((repeat first|assumption|exact m0_|apply m1_); done)) | (refine Reads.rdpc ?_ ?_; focus ((repeat first|assumption|exact m0_|apply m1_); done)))) ?_
     intro z29
     refine exb_ rfl (B_ wdV wdOk boo (fun ac w => by simp [execOp, Instr.makeMap, newObj, Sem.run, Sem.run_bind, Result.andThen])) (by simp) rfl rfl fun m30=>?_
     refine X_ (by (simp [mids, It.mids, ownPc, mapPc, tmPc, wbP, exP]; done)) fun hx9 => ?_
     refine j_ rfl (i_ (C := .agg [bkI p, int 4, int 5, mapV m27, mapV m28, ptr z29, mapV m30, .v (.slice none 0 0)]) (u_ tabOk rfl rfl rfl rfl) rfl) hx9 rfl rfl<|exb_ rfl (z_ (cs := [bkI p, int 4, int 5, mapV m27, mapV m28, ptr z29, mapV m30, .v (.slice none 0 0)]) rfl) (by simp) rfl rfl fun b32=>?_
     refine qs_ 1 rfl<|C_<|aB_ (τ := [.blk b32 74 [bkI p, int 4, int 5, mapV m27, mapV m28, ptr z29, mapV m30, .v (.slice none 0 0)], .pc (tmPc m27 intK intOk pE []), .pc (tmPc m28 intK intOk pE []), .blk z29 97 [.v (.slice none 0 0)], own 143 6 (.slice none 0 0) [], .pc (tmPc m30 wdV wdOk boo []), .blk b3 24 set0, wb p bd bt N]) (by repeat (first | exact List.Perm.nil | refine pk_ (by repeat (first | exact Rem_.here | apply Rem_.there)) ?_)) ?_
     refine R_ (b32, m27, m28, z29, m30) (trivial) (by exact ⟨rfl, rfl, rfl, trivial⟩) sr_
    skip
    refine exb_ rfl (B_ wdV wdOk boo (fun ac w => by simp [execOp, Instr.makeMap, newObj, Sem.run, Sem.run_bind, Result.andThen])) (by simp) rfl rfl fun m30=>?_
    refine H_ rfl (a5_) (by simp [mids, It.mids]) Casts.refl (by kernel_rfl) rfl rfl rfl ?_
    refine am_ (by repeat (first | exact Reads.nil | (refine Reads.blk ?_ ?_; focus ((repeat first|assumption|exact m0_|apply m1_); done)) | (refine Reads.rd ?_ ?_; focus ((repeat first|assumption|exact m0_|apply m1_); done)) | (refine Reads.pc ?_ ?_; focus ((repeat first|assumption|exact m0_|apply m1_); done)) | (refine Reads.rdpc ?_ ?_; focus ((repeat first|assumption|exact m0_|apply m1_); done)))) ?_
    intro z29
    refine X_ (by (simp [mids, It.mids, ownPc, mapPc, tmPc, wbP, exP]; done)) fun hx9 => ?_
    refine j_ rfl (i_ (C := .agg [bkI p, int 4, int 5, mapV m27, mapV m28, ptr z29, mapV m30, .v (.slice none 0 0)]) (u_ tabOk rfl rfl rfl rfl) rfl) hx9 rfl rfl<|exb_ rfl (z_ (cs := [bkI p, int 4, int 5, mapV m27, mapV m28, ptr z29, mapV m30, .v (.slice none 0 0)]) rfl) (by simp) rfl rfl fun b32=>?_
    refine qs_ 1 rfl<|C_<|aB_ (τ := [.blk b32 74 [bkI p, int 4, int 5, mapV m27, mapV m28, ptr z29, mapV m30, .v (.slice none 0 0)], .pc (tmPc m27 intK intOk pE []), .pc (tmPc m28 intK intOk pE []), .blk z29 97 [.v (.slice none 0 0)], own 143 6 (.slice none 0 0) [], .pc (tmPc m30 wdV wdOk boo []), .blk b3 24 set0, wb p bd bt N]) (by repeat (first | exact List.Perm.nil | refine pk_ (by repeat (first | exact Rem_.here | apply Rem_.there)) ?_)) ?_
    refine R_ (b32, m27, m28, z29, m30) (trivial) (by exact ⟨rfl, rfl, rfl, trivial⟩) sr_
   ·skip
    refine H_ rfl (a5_) (by simp [mids, It.mids]) Casts.refl (by kernel_rfl) rfl rfl rfl ?_
    refine am_ (by repeat (first | exact Reads.nil | (refine Reads.blk ?_ ?_; focus ((repeat first|assumption|exact m0_|apply m1_); done)) | (refine Reads.rd ?_ ?_; focus ((repeat first|assumption|exact m0_|apply m1_); done)) | (refine Reads.pc ?_ ?_; focus ((repeat first|assumption|exact m0_|apply m1_); done)) | (refine Reads.rdpc ?_ ?_; focus ((repeat first|assumption|exact m0_|apply m1_); done)))) ?_
    intro z29
    refine aQ_ ?_ ?_
    ·skip
     refine exb_ rfl (B_ intK intOk pE (fun ac w => by simp [execOp, Instr.makeMap, newObj, Sem.run, Sem.run_bind, Result.andThen])) (by simp) rfl rfl fun m28=>?_
     refine exb_ rfl (B_ wdV wdOk boo (fun ac w => by simp [execOp, Instr.makeMap, newObj, Sem.run, Sem.run_bind, Result.andThen])) (by simp) rfl rfl fun m30=>?_
     refine X_ (by (simp [mids, It.mids, ownPc, mapPc, tmPc, wbP, exP]; done)) fun hx9 => ?_
     refine j_ rfl (i_ (C := .agg [bkI p, int 4, int 5, mapV m27, mapV m28, ptr z29, mapV m30, .v (.slice none 0 0)]) (u_ tabOk rfl rfl rfl rfl) rfl) hx9 rfl rfl<|exb_ rfl (z_ (cs := [bkI p, int 4, int 5, mapV m27, mapV m28, ptr z29, mapV m30, .v (.slice none 0 0)]) rfl) (by simp) rfl rfl fun b32=>?_
     refine qs_ 1 rfl<|C_<|aB_ (τ := [.blk b32 74 [bkI p, int 4, int 5, mapV m27, mapV m28, ptr z29, mapV m30, .v (.slice none 0 0)], .pc (tmPc m27 intK intOk pE []), .pc (tmPc m28 intK intOk pE []), .blk z29 97 [.v (.slice none 0 0)], own 143 6 (.slice none 0 0) [], .pc (tmPc m30 wdV wdOk boo []), .blk b3 24 set0, wb p bd bt N]) (by repeat (first | exact List.Perm.nil | refine pk_ (by repeat (first | exact Rem_.here | apply Rem_.there)) ?_)) ?_
     refine R_ (b32, m27, m28, z29, m30) (trivial) (by exact ⟨rfl, rfl, rfl, trivial⟩) sr_
    skip
    refine exb_ rfl (B_ wdV wdOk boo (fun ac w => by simp [execOp, Instr.makeMap, newObj, Sem.run, Sem.run_bind, Result.andThen])) (by simp) rfl rfl fun m30=>?_
    refine exb_ rfl (B_ intK intOk pE (fun ac w => by simp [execOp, Instr.makeMap, newObj, Sem.run, Sem.run_bind, Result.andThen])) (by simp) rfl rfl fun m28=>?_
    refine X_ (by (simp [mids, It.mids, ownPc, mapPc, tmPc, wbP, exP]; done)) fun hx9 => ?_
    refine j_ rfl (i_ (C := .agg [bkI p, int 4, int 5, mapV m27, mapV m28, ptr z29, mapV m30, .v (.slice none 0 0)]) (u_ tabOk rfl rfl rfl rfl) rfl) hx9 rfl rfl<|exb_ rfl (z_ (cs := [bkI p, int 4, int 5, mapV m27, mapV m28, ptr z29, mapV m30, .v (.slice none 0 0)]) rfl) (by simp) rfl rfl fun b32=>?_
    refine qs_ 1 rfl<|C_<|aB_ (τ := [.blk b32 74 [bkI p, int 4, int 5, mapV m27, mapV m28, ptr z29, mapV m30, .v (.slice none 0 0)], .pc (tmPc m27 intK intOk pE []), .pc (tmPc m28 intK intOk pE []), .blk z29 97 [.v (.slice none 0 0)], own 143 6 (.slice none 0 0) [], .pc (tmPc m30 wdV wdOk boo []), .blk b3 24 set0, wb p bd bt N]) (by repeat (first | exact List.Perm.nil | refine pk_ (by repeat (first | exact Rem_.here | apply Rem_.there)) ?_)) ?_
    refine R_ (b32, m27, m28, z29, m30) (trivial) (by exact ⟨rfl, rfl, rfl, trivial⟩) sr_
   skip
   refine exb_ rfl (B_ wdV wdOk boo (fun ac w => by simp [execOp, Instr.makeMap, newObj, Sem.run, Sem.run_bind, Result.andThen])) (by simp) rfl rfl fun m30=>?_
   refine aQ_ ?_ ?_
   ·skip
    refine exb_ rfl (B_ intK intOk pE (fun ac w => by simp [execOp, Instr.makeMap, newObj, Sem.run, Sem.run_bind, Result.andThen])) (by simp) rfl rfl fun m28=>?_
    refine H_ rfl (a5_) (by simp [mids, It.mids]) Casts.refl (by kernel_rfl) rfl rfl rfl ?_
    refine am_ (by repeat (first | exact Reads.nil | (refine Reads.blk ?_ ?_; focus ((repeat first|assumption|exact m0_|apply m1_); done)) | (refine Reads.rd ?_ ?_; focus ((repeat first|assumption|exact m0_|apply m1_); done)) | (refine Reads.pc ?_ ?_; focus ((repeat first|assumption|exact m0_|apply m1_); done)) | (refine Reads.rdpc ?_ ?_; focus ((repeat first|assumption|exact m0_|apply m1_); done)))) ?_
    intro z29
    refine X_ (by (simp [mids, It.mids, ownPc, mapPc, tmPc, wbP, exP]; done)) fun hx9 => ?_
    refine j_ rfl (i_ (C := .agg [bkI p, int 4, int 5, mapV m27, mapV m28, ptr z29, mapV m30, .v (.slice none 0 0)]) (u_ tabOk rfl rfl rfl rfl) rfl) hx9 rfl rfl<|exb_ rfl (z_ (cs := [bkI p, int 4, int 5, mapV m27, mapV m28, ptr z29, mapV m30, .v (.slice none 0 0)]) rfl) (by simp) rfl rfl fun b32=>?_
    refine qs_ 1 rfl<|C_<|aB_ (τ := [.blk b32 74 [bkI p, int 4, int 5, mapV m27, mapV m28, ptr z29, mapV m30, .v (.slice none 0 0)], .pc (tmPc m27 intK intOk pE []), .pc (tmPc m28 intK intOk pE []), .blk z29 97 [.v (.slice none 0 0)], own 143 6 (.slice none 0 0) [], .pc (tmPc m30 wdV wdOk boo []), .blk b3 24 set0, wb p bd bt N]) (by repeat (first | exact List.Perm.nil | refine pk_ (by repeat (first | exact Rem_.here | apply Rem_.there)) ?_)) ?_
    refine R_ (b32, m27, m28, z29, m30) (trivial) (by exact ⟨rfl, rfl, rfl, trivial⟩) sr_
   skip
   refine H_ rfl (a5_) (by simp [mids, It.mids]) Casts.refl (by kernel_rfl) rfl rfl rfl ?_
   refine am_ (by repeat (first | exact Reads.nil | (refine Reads.blk ?_ ?_; focus ((repeat first|assumption|exact m0_|apply m1_); done)) | (refine Reads.rd ?_ ?_; focus ((repeat first|assumption|exact m0_|apply m1_); done)) | (refine Reads.pc ?_ ?_; focus ((repeat first|assumption|exact m0_|apply m1_); done)) | (refine Reads.rdpc ?_ ?_; focus ((repeat first|assumption|exact m0_|apply m1_); done)))) ?_
   intro z29
   refine exb_ rfl (B_ intK intOk pE (fun ac w => by simp [execOp, Instr.makeMap, newObj, Sem.run, Sem.run_bind, Result.andThen])) (by simp) rfl rfl fun m28=>?_
   refine X_ (by (simp [mids, It.mids, ownPc, mapPc, tmPc, wbP, exP]; done)) fun hx9 => ?_
   refine j_ rfl (i_ (C := .agg [bkI p, int 4, int 5, mapV m27, mapV m28, ptr z29, mapV m30, .v (.slice none 0 0)]) (u_ tabOk rfl rfl rfl rfl) rfl) hx9 rfl rfl<|exb_ rfl (z_ (cs := [bkI p, int 4, int 5, mapV m27, mapV m28, ptr z29, mapV m30, .v (.slice none 0 0)]) rfl) (by simp) rfl rfl fun b32=>?_
   refine qs_ 1 rfl<|C_<|aB_ (τ := [.blk b32 74 [bkI p, int 4, int 5, mapV m27, mapV m28, ptr z29, mapV m30, .v (.slice none 0 0)], .pc (tmPc m27 intK intOk pE []), .pc (tmPc m28 intK intOk pE []), .blk z29 97 [.v (.slice none 0 0)], own 143 6 (.slice none 0 0) [], .pc (tmPc m30 wdV wdOk boo []), .blk b3 24 set0, wb p bd bt N]) (by repeat (first | exact List.Perm.nil | refine pk_ (by repeat (first | exact Rem_.here | apply Rem_.there)) ?_)) ?_
   refine R_ (b32, m27, m28, z29, m30) (trivial) (by exact ⟨rfl, rfl, rfl, trivial⟩) sr_
  ·skip
   refine exb_ rfl (B_ intK intOk pE (fun ac w => by simp [execOp, Instr.makeMap, newObj, Sem.run, Sem.run_bind, Result.andThen])) (by simp) rfl rfl fun m28=>?_
   refine dP_ ?_ ?_ ?_
   ·skip
    refine exb_ rfl (B_ intK intOk pE (fun ac w => by simp [execOp, Instr.makeMap, newObj, Sem.run, Sem.run_bind, Result.andThen])) (by simp) rfl rfl fun m27=>?_
    refine aQ_ ?_ ?_
    ·skip
     refine H_ rfl (a5_) (by simp [mids, It.mids]) Casts.refl (by kernel_rfl) rfl rfl rfl ?_
     refine am_ (by repeat (first | exact Reads.nil | (refine Reads.blk ?_ ?_; focus ((repeat first|assumption|exact m0_|apply m1_); done)) | (refine Reads.rd ?_ ?_; focus ((repeat first|assumption|exact m0_|apply m1_); done)) | (refine Reads.pc ?_ ?_; focus ((repeat first|assumption|exact m0_|apply m1_); done)) | (refine Reads.rdpc ?_ ?_; focus ((repeat first|assumption|exact m0_|apply m1_); done)))) ?_
     intro z29
     refine exb_ rfl (B_ wdV wdOk boo (fun ac w => by simp [execOp, Instr.makeMap, newObj, Sem.run, Sem.run_bind, Result.andThen])) (by simp) rfl rfl fun m30=>?_
     refine X_ (by (simp [mids, It.mids, ownPc, mapPc, tmPc, wbP, exP]; done)) fun hx9 => ?_
     refine j_ rfl (i_ (C := .agg [bkI p, int 4, int 5, mapV m27, mapV m28, ptr z29, mapV m30, .v (.slice none 0 0)]) (u_ tabOk rfl rfl rfl rfl) rfl) hx9 rfl rfl<|exb_ rfl (z_ (cs := [bkI p, int 4, int 5, mapV m27, mapV m28, ptr z29, mapV m30, .v (.slice none 0 0)]) rfl) (by simp) rfl rfl fun b32=>?_
     refine qs_ 1 rfl<|C_<|aB_ (τ := [.blk b32 74 [bkI p, int 4, int 5, mapV m27, mapV m28, ptr z29, mapV m30, .v (.slice none 0 0)], .pc (tmPc m27 intK intOk pE []), .pc (tmPc m28 intK intOk pE []), .blk z29 97 [.v (.slice none 0 0)], own 143 6 (.slice none 0 0) [], .pc (tmPc m30 wdV wdOk boo []), .blk b3 24 set0, wb p bd bt N]) (by repeat (first | exact List.Perm.nil | refine pk_ (by repeat (first | exact Rem_.here | apply Rem_.there)) ?_)) ?_
     refine R_ (b32, m27, m28, z29, m30) (trivial) (by exact ⟨rfl, rfl, rfl, trivial⟩) sr_
    skip
    refine exb_ rfl (B_ wdV wdOk boo (fun ac w => by simp [execOp, Instr.makeMap, newObj, Sem.run, Sem.run_bind, Result.andThen])) (by simp) rfl rfl fun m30=>?_
    refine H_ rfl (a5_) (by simp [mids, It.mids]) Casts.refl (by kernel_rfl) rfl rfl rfl ?_
    refine am_ (by repeat (first | exact Reads.nil | (refine Reads.blk ?_ ?_; focus ((repeat first|assumption|exact m0_|apply m1_); done)) | (refine Reads.rd ?_ ?_; focus ((repeat first|assumption|exact m0_|apply m1_); done)) | (refine Reads.pc ?_ ?_; focus ((repeat first|assumption|exact m0_|apply m1_); done)) | (refine Reads.rdpc ?_ ?_; focus ((repeat first|assumption|exact m0_|apply m1_); done)))) ?_
    intro z29
    refine X_ (by (simp [mids, It.mids, ownPc, mapPc, tmPc, wbP, exP]; done)) fun hx9 => ?_
    refine j_ rfl (i_ (C := .agg [bkI p, int 4, int 5, mapV m27, mapV m28, ptr z29, mapV m30, .v (.slice none 0 0)]) (u_ tabOk rfl rfl rfl rfl) rfl) hx9 rfl rfl<|exb_ rfl (z_ (cs := [bkI p, int 4, int 5, mapV m27, mapV m28, ptr z29, mapV m30, .v (.slice none 0 0)]) rfl) (by simp) rfl rfl fun b32=>?_
    refine qs_ 1 rfl<|C_<|aB_ (τ := [.blk b32 74 [bkI p, int 4, int 5, mapV m27, mapV m28, ptr z29, mapV m30, .v (.slice none 0 0)], .pc (tmPc m27 intK intOk pE []), .pc (tmPc m28 intK intOk pE []), .blk z29 97 [.v (.slice none 0 0)], own 143 6 (.slice none 0 0) [], .pc (tmPc m30 wdV wdOk boo []), .blk b3 24 set0, wb p bd bt N]) (by repeat (first | exact List.Perm.nil | refine pk_ (by repeat (first | exact Rem_.here | apply Rem_.there)) ?_)) ?_
    refine R_ (b32, m27, m28, z29, m30) (trivial) (by exact ⟨rfl, rfl, rfl, trivial⟩) sr_
   ·skip
    refine H_ rfl (a5_) (by simp [mids, It.mids]) Casts.refl (by kernel_rfl) rfl rfl rfl ?_
    refine am_ (by repeat (first | exact Reads.nil | (refine Reads.blk ?_ ?_; focus ((repeat first|assumption|exact m0_|apply m1_); done)) | (refine Reads.rd ?_ ?_; focus ((repeat first|assumption|exact m0_|apply m1_); done)) | (refine Reads.pc ?_ ?_; focus ((repeat first|assumption|exact m0_|apply m1_); done)) | (refine Reads.rdpc ?_ ?_; focus ((repeat first|assumption|exact m0_|apply m1_); done)))) ?_
    intro z29
    refine aQ_ ?_ ?_
    ·skip
     refine exb_ rfl (B_ intK intOk pE (fun ac w => by simp [execOp, Instr.makeMap, newObj, Sem.run, Sem.run_bind, Result.andThen])) (by simp) rfl rfl fun m27=>?_
     refine exb_ rfl (B_ wdV wdOk boo (fun ac w => by simp [execOp, Instr.makeMap, newObj, Sem.run, Sem.run_bind, Result.andThen])) (by simp) rfl rfl fun m30=>?_
     refine X_ (by (simp [mids, It.mids, ownPc, mapPc, tmPc, wbP, exP]; done)) fun hx9 => ?_
     refine j_ rfl (i_ (C := .agg [bkI p, int 4, int 5, mapV m27, mapV m28, ptr z29, mapV m30, .v (.slice none 0 0)]) (u_ tabOk rfl rfl rfl rfl) rfl) hx9 rfl rfl<|exb_ rfl (z_ (cs := [bkI p, int 4, int 5, mapV m27, mapV m28, ptr z29, mapV m30, .v (.slice none 0 0)]) rfl) (by simp) rfl rfl fun b32=>?_
     refine qs_ 1 rfl<|C_<|aB_ (τ := [.blk b32 74 [bkI p, int 4, int 5, mapV m27, mapV m28, ptr z29, mapV m30, .v (.slice none 0 0)], .pc (tmPc m27 intK intOk pE []), .pc (tmPc m28 intK intOk pE []), .blk z29 97 [.v (.slice none 0 0)], own 143 6 (.slice none 0 0) [], .pc (tmPc m30 wdV wdOk boo []), .blk b3 24 set0, wb p bd bt N]) (by repeat (first | exact List.Perm.nil | refine pk_ (by repeat (first | exact Rem_.here | apply Rem_.there)) ?_)) ?_
     refine R_ (b32, m27, m28, z29, m30) (trivial) (by exact ⟨rfl, rfl, rfl, trivial⟩) sr_
    skip
    refine exb_ rfl (B_ wdV wdOk boo (fun ac w => by simp [execOp, Instr.makeMap, newObj, Sem.run, Sem.run_bind, Result.andThen])) (by simp) rfl rfl fun m30=>?_
    refine exb_ rfl (B_ intK intOk pE (fun ac w => by simp [execOp, Instr.makeMap, newObj, Sem.run, Sem.run_bind, Result.andThen])) (by simp) rfl rfl fun m27=>?_
    refine X_ (by (simp [mids, It.mids, ownPc, mapPc, tmPc, wbP, exP]; done)) fun hx9 => ?_
    refine j_ rfl (i_ (C := .agg [bkI p, int 4, int 5, mapV m27, mapV m28, ptr z29, mapV m30, .v (.slice none 0 0)]) (u_ tabOk rfl rfl rfl rfl) rfl) hx9 rfl rfl<|exb_ rfl (z_ (cs := [bkI p, int 4, int 5, mapV m27, mapV m28, ptr z29, mapV m30, .v (.slice none 0 0)]) rfl) (by simp) rfl rfl fun b32=>?_
    refine qs_ 1 rfl<|C_<|aB_ (τ := [.blk b32 74 [bkI p, int 4, int 5, mapV m27, mapV m28, ptr z29, mapV m30, .v (.slice none 0 0)], .pc (tmPc m27 intK intOk pE []), .pc (tmPc m28 intK intOk pE []), .blk z29 97 [.v (.slice none 0 0)], own 143 6 (.slice none 0 0) [], .pc (tmPc m30 wdV wdOk boo []), .blk b3 24 set0, wb p bd bt N]) (by repeat (first | exact List.Perm.nil | refine pk_ (by repeat (first | exact Rem_.here | apply Rem_.there)) ?_)) ?_
    refine R_ (b32, m27, m28, z29, m30) (trivial) (by exact ⟨rfl, rfl, rfl, trivial⟩) sr_
   skip
   refine exb_ rfl (B_ wdV wdOk boo (fun ac w => by simp [execOp, Instr.makeMap, newObj, Sem.run, Sem.run_bind, Result.andThen])) (by simp) rfl rfl fun m30=>?_
   refine aQ_ ?_ ?_
   ·skip
    refine exb_ rfl (B_ intK intOk pE (fun ac w => by simp [execOp, Instr.makeMap, newObj, Sem.run, Sem.run_bind, Result.andThen])) (by simp) rfl rfl fun m27=>?_
    refine H_ rfl (a5_) (by simp [mids, It.mids]) Casts.refl (by kernel_rfl) rfl rfl rfl ?_
    refine am_ (by repeat (first | exact Reads.nil | (refine Reads.blk ?_ ?_; focus ((repeat first|assumption|exact m0_|apply m1_); done)) | (refine Reads.rd ?_ ?_; focus ((repeat first|assumption|exact m0_|apply m1_); done)) | (refine Reads.pc ?_ ?_; focus ((repeat first|assumption|exact m0_|apply m1_); done)) | (refine Reads.rdpc ?_ ?_; focus ((repeat first|assumption|exact m0_|apply m1_); done)))) ?_
    intro z29
    refine X_ (by (simp [mids, It.mids, ownPc, mapPc, tmPc, wbP, exP]; done)) fun hx9 => ?_
    refine j_ rfl (i_ (C := .agg [bkI p, int 4, int 5, mapV m27, mapV m28, ptr z29, mapV m30, .v (.slice none 0 0)]) (u_ tabOk rfl rfl rfl rfl) rfl) hx9 rfl rfl<|exb_ rfl (z_ (cs := [bkI p, int 4, int 5, mapV m27, mapV m28, ptr z29, mapV m30, .v (.slice none 0 0)]) rfl) (by simp) rfl rfl fun b32=>?_
    refine qs_ 1 rfl<|C_<|aB_ (τ := [.blk b32 74 [bkI p, int 4, int 5, mapV m27, mapV m28, ptr z29, mapV m30, .v (.slice none 0 0)], .pc (tmPc m27 intK intOk pE []), .pc (tmPc m28 intK intOk pE []), .blk z29 97 [.v (.slice none 0 0)], own 143 6 (.slice none 0 0) [], .pc (tmPc m30 wdV wdOk boo []), .blk b3 24 set0, wb p bd bt N]) (by repeat (first | exact List.Perm.nil | refine pk_ (by repeat (first | exact Rem_.here | apply Rem_.there)) ?_)) ?_
    refine R_ (b32, m27, m28, z29, m30) (trivial) (by exact ⟨rfl, rfl, rfl, trivial⟩) sr_
   skip
   refine H_ rfl (a5_) (by simp [mids, It.mids]) Casts.refl (by kernel_rfl) rfl rfl rfl ?_
   refine am_ (by repeat (first | exact Reads.nil | (refine Reads.blk ?_ ?_; focus ((repeat first|assumption|exact m0_|apply m1_); done)) | (refine Reads.rd ?_ ?_; focus ((repeat first|assumption|exact m0_|apply m1_); done)) | (refine Reads.pc ?_ ?_; focus ((repeat first|assumption|exact m0_|apply m1_); done)) | (refine Reads.rdpc ?_ ?_; focus ((repeat first|assumption|exact m0_|apply m1_); done)))) ?_
   intro z29
   refine exb_ rfl (B_ intK intOk pE (fun ac w => by simp [execOp, Instr.makeMap, newObj, Sem.run, Sem.run_bind, Result.andThen])) (by simp) rfl rfl fun m27=>?_
   refine X_ (by (simp [mids, It.mids, ownPc, mapPc, tmPc, wbP, exP]; done)) fun hx9 => ?_
   refine j_ rfl (i_ (C := .agg [bkI p, int 4, int 5, mapV m27, mapV m28, ptr z29, mapV m30, .v (.slice none 0 0)]) (u_ tabOk rfl rfl rfl rfl) rfl) hx9 rfl rfl<|exb_ rfl (z_ (cs := [bkI p, int 4, int 5, mapV m27, mapV m28, ptr z29, mapV m30, .v (.slice none 0 0)]) rfl) (by simp) rfl rfl fun b32=>?_
   refine qs_ 1 rfl<|C_<|aB_ (τ := [.blk b32 74 [bkI p, int 4, int 5, mapV m27, mapV m28, ptr z29, mapV m30, .v (.slice none 0 0)], .pc (tmPc m27 intK intOk pE []), .pc (tmPc m28 intK intOk pE []), .blk z29 97 [.v (.slice none 0 0)], own 143 6 (.slice none 0 0) [], .pc (tmPc m30 wdV wdOk boo []), .blk b3 24 set0, wb p bd bt N]) (by repeat (first | exact List.Perm.nil | refine pk_ (by repeat (first | exact Rem_.here | apply Rem_.there)) ?_)) ?_
   refine R_ (b32, m27, m28, z29, m30) (trivial) (by exact ⟨rfl, rfl, rfl, trivial⟩) sr_
  ·skip
   refine H_ rfl (a5_) (by simp [mids, It.mids]) Casts.refl (by kernel_rfl) rfl rfl rfl ?_
   refine am_ (by repeat (first | exact Reads.nil | (refine Reads.blk ?_ ?_; focus ((repeat first|assumption|exact m0_|apply m1_); done)) | (refine Reads.rd ?_ ?_; focus ((repeat first|assumption|exact m0_|apply m1_); done)) | (refine Reads.pc ?_ ?_; focus ((repeat first|assumption|exact m0_|apply m1_); done)) | (refine Reads.rdpc ?_ ?_; focus ((repeat first|assumption|exact m0_|apply m1_); done)))) ?_
   intro z29
   refine dP_ ?_ ?_ ?_
   ·skip
    refine exb_ rfl (B_ intK intOk pE (fun ac w => by simp [execOp, Instr.makeMap, newObj, Sem.run, Sem.run_bind, Result.andThen])) (by simp) rfl rfl fun m27=>?_
    refine aQ_ ?_ ?_
    ·skip
     refine exb_ rfl (B_ intK intOk pE (fun ac w => by simp [execOp, Instr.makeMap, newObj, Sem.run, Sem.run_bind, Result.andThen])) (by simp) rfl rfl fun m28=>?_
     refine exb_ rfl (B_ wdV wdOk boo (fun ac w => by simp [execOp, Instr.makeMap, newObj, Sem.run, Sem.run_bind, Result.andThen])) (by simp) rfl rfl fun m30=>?_
     refine X_ (by (simp [mids, It.mids, ownPc, mapPc, tmPc, wbP, exP]; done)) fun hx9 => ?_
     refine j_ rfl (i_ (C := .agg [bkI p, int 4, int 5, mapV m27, mapV m28, ptr z29, mapV m30, .v (.slice none 0 0)]) (u_ tabOk rfl rfl rfl rfl) rfl) hx9 rfl rfl<|exb_ rfl (z_ (cs := [bkI p, int 4, int 5, mapV m27, mapV m28, ptr z29, mapV m30, .v (.slice none 0 0)]) rfl) (by simp) rfl rfl fun b32=>?_
     refine qs_ 1 rfl<|C_<|aB_ (τ := [.blk b32 74 [bkI p, int 4, int 5, mapV m27, mapV m28, ptr z29, mapV m30, .v (.slice none 0 0)], .pc (tmPc m27 intK intOk pE []), .pc (tmPc m28 intK intOk pE []), .blk z29 97 [.v (.slice none 0 0)], own 143 6 (.slice none 0 0) [], .pc (tmPc m30 wdV wdOk boo []), .blk b3 24 set0, wb p bd bt N]) (by repeat (first | exact List.Perm.nil | refine pk_ (by repeat (first | exact Rem_.here | apply Rem_.there)) ?_)) ?_
     refine R_ (b32, m27, m28, z29, m30) (trivial) (by exact ⟨rfl, rfl, rfl, trivial⟩) sr_
    skip
    refine exb_ rfl (B_ wdV wdOk boo (fun ac w => by simp [execOp, Instr.makeMap, newObj, Sem.run, Sem.run_bind, Result.andThen])) (by simp) rfl rfl fun m30=>?_
    refine exb_ rfl (B_ intK intOk pE (fun ac w => by simp [execOp, Instr.makeMap, newObj, Sem.run, Sem.run_bind, Result.andThen])) (by simp) rfl rfl fun m28=>?_
    refine X_ (by (simp [mids, It.mids, ownPc, mapPc, tmPc, wbP, exP]; done)) fun hx9 => ?_
    refine j_ rfl (i_ (C := .agg [bkI p, int 4, int 5, mapV m27, mapV m28, ptr z29, mapV m30, .v (.slice none 0 0)]) (u_ tabOk rfl rfl rfl rfl) rfl) hx9 rfl rfl<|exb_ rfl (z_ (cs := [bkI p, int 4, int 5, mapV m27, mapV m28, ptr z29, mapV m30, .v (.slice none 0 0)]) rfl) (by simp) rfl rfl fun b32=>?_
    refine qs_ 1 rfl<|C_<|aB_ (τ := [.blk b32 74 [bkI p, int 4, int 5, mapV m27, mapV m28, ptr z29, mapV m30, .v (.slice none 0 0)], .pc (tmPc m27 intK intOk pE []), .pc (tmPc m28 intK intOk pE []), .blk z29 97 [.v (.slice none 0 0)], own 143 6 (.slice none 0 0) [], .pc (tmPc m30 wdV wdOk boo []), .blk b3 24 set0, wb p bd bt N]) (by repeat (first | exact List.Perm.nil | refine pk_ (by repeat (first | exact Rem_.here | apply Rem_.there)) ?_)) ?_
    refine R_ (b32, m27, m28, z29, m30) (trivial) (by exact ⟨rfl, rfl, rfl, trivial⟩) sr_
   ·skip
    refine exb_ rfl (B_ intK intOk pE (fun ac w => by simp [execOp, Instr.makeMap, newObj, Sem.run, Sem.run_bind, Result.andThen])) (by simp) rfl rfl fun m28=>?_
    refine aQ_ ?_ ?_
    ·skip
     refine exb_ rfl (B_ intK intOk pE (fun ac w => by simp [execOp, Instr.makeMap, newObj, Sem.run, Sem.run_bind, Result.andThen])) (by simp) rfl rfl fun m27=>?_
     refine exb_ rfl (B_ wdV wdOk boo (fun ac w => by simp [execOp, Instr.makeMap, newObj, Sem.run, Sem.run_bind, Result.andThen])) (by simp) rfl rfl fun m30=>?_
     refine X_ (by (simp [mids, It.mids, ownPc, mapPc, tmPc, wbP, exP]; done)) fun hx9 => ?_
     refine j_ rfl (i_ (C := .agg [bkI p, int 4, int 5, mapV m27, mapV m28, ptr z29, mapV m30, .v (.slice none 0 0)]) (u_ tabOk rfl rfl rfl rfl) rfl) hx9 rfl rfl<|exb_ rfl (z_ (cs := [bkI p, int 4, int 5, mapV m27, mapV m28, ptr z29, mapV m30, .v (.slice none 0 0)]) rfl) (by simp) rfl rfl fun b32=>?_
     refine qs_ 1 rfl<|C_<|aB_ (τ := [.blk b32 74 [bkI p, int 4, int 5, mapV m27, mapV m28, ptr z29, mapV m30, .v (.slice none 0 0)], .pc (tmPc m27 intK intOk pE []), .pc (tmPc m28 intK intOk pE []), .blk z29 97 [.v (.slice none 0 0)], own 143 6 (.slice none 0 0) [], .pc (tmPc m30 wdV wdOk boo []), .blk b3 24 set0, wb p bd bt N]) (by repeat (first | exact List.Perm.nil | refine pk_ (by repeat (first | exact Rem_.here | apply Rem_.there)) ?_)) ?_
     refine R_ (b32, m27, m28, z29, m30) (trivial) (by exact ⟨rfl, rfl, rfl, trivial⟩) sr_
    skip
    refine exb_ rfl (B_ wdV wdOk boo (fun ac w => by simp [execOp, Instr.makeMap, newObj, Sem.run, Sem.run_bind, Result.andThen])) (by simp) rfl rfl fun m30=>?_
    refine exb_ rfl (B_ intK intOk pE (fun ac w => by simp [execOp, Instr.makeMap, newObj, Sem.run, Sem.run_bind, Result.andThen])) (by simp) rfl rfl fun m27=>?_
    refine X_ (by (simp [mids, It.mids, ownPc, mapPc, tmPc, wbP, exP]; done)) fun hx9 => ?_
    refine j_ rfl (i_ (C := .agg [bkI p, int 4, int 5, mapV m27, mapV m28, ptr z29, mapV m30, .v (.slice none 0 0)]) (u_ tabOk rfl rfl rfl rfl) rfl) hx9 rfl rfl<|exb_ rfl (z_ (cs := [bkI p, int 4, int 5, mapV m27, mapV m28, ptr z29, mapV m30, .v (.slice none 0 0)]) rfl) (by simp) rfl rfl fun b32=>?_
    refine qs_ 1 rfl<|C_<|aB_ (τ := [.blk b32 74 [bkI p, int 4, int 5, mapV m27, mapV m28, ptr z29, mapV m30, .v (.slice none 0 0)], .pc (tmPc m27 intK intOk pE []), .pc (tmPc m28 intK intOk pE []), .blk z29 97 [.v (.slice none 0 0)], own 143 6 (.slice none 0 0) [], .pc (tmPc m30 wdV wdOk boo []), .blk b3 24 set0, wb p bd bt N]) (by repeat (first | exact List.Perm.nil | refine pk_ (by repeat (first | exact Rem_.here | apply Rem_.there)) ?_)) ?_
    refine R_ (b32, m27, m28, z29, m30) (trivial) (by exact ⟨rfl, rfl, rfl, trivial⟩) sr_
   skip
   refine exb_ rfl (B_ wdV wdOk boo (fun ac w => by simp [execOp, Instr.makeMap, newObj, Sem.run, Sem.run_bind, Result.andThen])) (by simp) rfl rfl fun m30=>?_
   refine aQ_ ?_ ?_
   ·skip
    refine exb_ rfl (B_ intK intOk pE (fun ac w => by simp [execOp, Instr.makeMap, newObj, Sem.run, Sem.run_bind, Result.andThen])) (by simp) rfl rfl fun m27=>?_
    refine exb_ rfl (B_ intK intOk pE (fun ac w => by simp [execOp, Instr.makeMap, newObj, Sem.run, Sem.run_bind, Result.andThen])) (by simp) rfl rfl fun m28=>?_
    refine X_ (by (simp [mids, It.mids, ownPc, mapPc, tmPc, wbP, exP]; done)) fun hx9 => ?_
    refine j_ rfl (i_ (C := .agg [bkI p, int 4, int 5, mapV m27, mapV m28, ptr z29, mapV m30, .v (.slice none 0 0)]) (u_ tabOk rfl rfl rfl rfl) rfl) hx9 rfl rfl<|exb_ rfl (z_ (cs := [bkI p, int 4, int 5, mapV m27, mapV m28, ptr z29, mapV m30, .v (.slice none 0 0)]) rfl) (by simp) rfl rfl fun b32=>?_
    refine qs_ 1 rfl<|C_<|aB_ (τ := [.blk b32 74 [bkI p, int 4, int 5, mapV m27, mapV m28, ptr z29, mapV m30, .v (.slice none 0 0)], .pc (tmPc m27 intK intOk pE []), .pc (tmPc m28 intK intOk pE []), .blk z29 97 [.v (.slice none 0 0)], own 143 6 (.slice none 0 0) [], .pc (tmPc m30 wdV wdOk boo []), .blk b3 24 set0, wb p bd bt N]) (by repeat (first | exact List.Perm.nil | refine pk_ (by repeat (first | exact Rem_.here | apply Rem_.there)) ?_)) ?_
    refine R_ (b32, m27, m28, z29, m30) (trivial) (by exact ⟨rfl, rfl, rfl, trivial⟩) sr_
   skip
   refine exb_ rfl (B_ intK intOk pE (fun ac w => by simp [execOp, Instr.makeMap, newObj, Sem.run, Sem.run_bind, Result.andThen])) (by simp) rfl rfl fun m28=>?_
   refine exb_ rfl (B_ intK intOk pE (fun ac w => by simp [execOp, Instr.makeMap, newObj, Sem.run, Sem.run_bind, Result.andThen])) (by simp) rfl rfl fun m27=>?_
   refine X_ (by (simp [mids, It.mids, ownPc, mapPc, tmPc, wbP, exP]; done)) fun hx9 => ?_
   refine j_ rfl (i_ (C := .agg [bkI p, int 4, int 5, mapV m27, mapV m28, ptr z29, mapV m30, .v (.slice none 0 0)]) (u_ tabOk rfl rfl rfl rfl) rfl) hx9 rfl rfl<|exb_ rfl (z_ (cs := [bkI p, int 4, int 5, mapV m27, mapV m28, ptr z29, mapV m30, .v (.slice none 0 0)]) rfl) (by simp) rfl rfl fun b32=>?_
   refine qs_ 1 rfl<|C_<|aB_ (τ := [.blk b32 74 [bkI p, int 4, int 5, mapV m27, mapV m28, ptr z29, mapV m30, .v (.slice none 0 0)], .pc (tmPc m27 intK intOk pE []), .pc (tmPc m28 intK intOk pE []), .blk z29 97 [.v (.slice none 0 0)], own 143 6 (.slice none 0 0) [], .pc (tmPc m30 wdV wdOk boo []), .blk b3 24 set0, wb p bd bt N]) (by repeat (first | exact List.Perm.nil | refine pk_ (by repeat (first | exact Rem_.here | apply Rem_.there)) ?_)) ?_
   refine R_ (b32, m27, m28, z29, m30) (trivial) (by exact ⟨rfl, rfl, rfl, trivial⟩) sr_
  skip
  refine exb_ rfl (B_ wdV wdOk boo (fun ac w => by simp [execOp, Instr.makeMap, newObj, Sem.run, Sem.run_bind, Result.andThen])) (by simp) rfl rfl fun m30=>?_
  refine dP_ ?_ ?_ ?_
  ·skip
   refine exb_ rfl (B_ intK intOk pE (fun ac w => by simp [execOp, Instr.makeMap, newObj, Sem.run, Sem.run_bind, Result.andThen])) (by simp) rfl rfl fun m27=>?_
   refine aQ_ ?_ ?_
   ·skip
    refine exb_ rfl (B_ intK intOk pE (fun ac w => by simp [execOp, Instr.makeMap, newObj, Sem.run, Sem.run_bind, Result.andThen])) (by simp) rfl rfl fun m28=>?_
    refine H_ rfl (a5_) (by simp [mids, It.mids]) Casts.refl (by kernel_rfl) rfl rfl rfl ?_
    refine am_ (by repeat (first | exact Reads.nil | (refine Reads.blk ?_ ?_; focus ((repeat first|assumption|exact m0_|apply m1_); done)) | (refine Reads.rd ?_ ?_; focus ((repeat first|assumption|exact m0_|apply m1_); done)) | (refine Reads.pc ?_ ?_; focus ((repeat first|assumption|exact m0_|apply m1_); done)) | (refine Reads.rdpc ?_ ?_; focus ((repeat first|assumption|exact m0_|apply m1_); done)))) ?_
    intro z29
    refine X_ (by (simp [mids, It.mids, ownPc, mapPc, tmPc, wbP, exP]; done)) fun hx9 => ?_
    refine j_ rfl (i_ (C := .agg [bkI p, int 4, int 5, mapV m27, mapV m28, ptr z29, mapV m30, .v (.slice none 0 0)]) (u_ tabOk rfl rfl rfl rfl) rfl) hx9 rfl rfl<|exb_ rfl (z_ (cs := [bkI p, int 4, int 5, mapV m27, mapV m28, ptr z29, mapV m30, .v (.slice none 0 0)]) rfl) (by simp) rfl rfl fun b32=>?_
    refine qs_ 1 rfl<|C_<|aB_ (τ := [.blk b32 74 [bkI p, int 4, int 5, mapV m27, mapV m28, ptr z29, mapV m30, .v (.slice none 0 0)], .pc (tmPc m27 intK intOk pE []), .pc (tmPc m28 intK intOk pE []), .blk z29 97 [.v (.slice none 0 0)], own 143 6 (.slice none 0 0) [], .pc (tmPc m30 wdV wdOk boo []), .blk b3 24 set0, wb p bd bt N]) (by repeat (first | exact List.Perm.nil | refine pk_ (by repeat (first | exact Rem_.here | apply Rem_.there)) ?_)) ?_
    refine R_ (b32, m27, m28, z29, m30) (trivial) (by exact ⟨rfl, rfl, rfl, trivial⟩) sr_
   skip
   refine H_ rfl (a5_) (by simp [mids, It.mids]) Casts.refl (by kernel_rfl) rfl rfl rfl ?_
   refine am_ (by repeat (first | exact Reads.nil | (refine Reads.blk ?_ ?_; focus ((repeat first|assumption|exact m0_|apply m1_); done)) | (refine Reads.rd ?_ ?_; focus ((repeat first|assumption|exact m0_|apply m1_); done)) | (refine Reads.pc ?_ ?_; focus ((repeat first|assumption|exact m0_|apply m1_); done)) | (refine Reads.rdpc ?_ ?_; focus ((repeat first|assumption|exact m0_|apply m1_); done)))) ?_
   intro z29
   refine exb_ rfl (B_ intK intOk pE (fun ac w => by simp [execOp, Instr.makeMap, newObj, Sem.run, Sem.run_bind, Result.andThen])) (by simp) rfl rfl fun m28=>?_
   refine X_ (by (simp [mids, It.mids, ownPc, mapPc, tmPc, wbP, exP]; done)) fun hx9 => ?_
   refine j_ rfl (i_ (C := .agg [bkI p, int 4, int 5, mapV m27, mapV m28, ptr z29, mapV m30, .v (.slice none 0 0)]) (u_ tabOk rfl rfl rfl rfl) rfl) hx9 rfl rfl<|exb_ rfl (z_ (cs := [bkI p, int 4, int 5, mapV m27, mapV m28, ptr z29, mapV m30, .v (.slice none 0 0)]) rfl) (by simp) rfl rfl fun b32=>?_
   refine qs_ 1 rfl<|C_<|aB_ (τ := [.blk b32 74 [bkI p, int 4, int 5, mapV m27, mapV m28, ptr z29, mapV m30, .v (.slice none 0 0)], .pc (tmPc m27 intK intOk pE []), .pc (tmPc m28 intK intOk pE []), .blk z29 97 [.v (.slice none 0 0)], own 143 6 (.slice none 0 0) [], .pc (tmPc m30 wdV wdOk boo []), .blk b3 24 set0, wb p bd bt N]) (by repeat (first | exact List.Perm.nil | refine pk_ (by repeat (first | exact Rem_.here | apply Rem_.there)) ?_)) ?_
   refine R_ (b32, m27, m28, z29, m30) (trivial) (by exact ⟨rfl, rfl, rfl, trivial⟩) sr_
  ·skip
   refine exb_ rfl (B_ intK intOk pE (fun ac w => by simp [execOp, Instr.makeMap, newObj, Sem.run, Sem.run_bind, Result.andThen])) (by simp) rfl rfl fun m28=>?_
   refine aQ_ ?_ ?_
   ·skip
    refine exb_ rfl (B_ intK intOk pE (fun ac w => by simp [execOp, Instr.makeMap, newObj, Sem.run, Sem.run_bind, Result.andThen])) (by simp) rfl rfl fun m27=>?_
    refine H_ rfl (a5_) (by simp [mids, It.mids]) Casts.refl (by kernel_rfl) rfl rfl rfl ?_
    refine am_ (by repeat (first | exact Reads.nil | (refine Reads.blk ?_ ?_; focus ((repeat first|assumption|exact m0_|apply m1_); done)) | (refine Reads.rd ?_ ?_; focus ((repeat first|assumption|exact m0_|apply m1_); done)) | (refine Reads.pc ?_ ?_; focus ((repeat first|assumption|exact m0_|apply m1_); done)) | (refine Reads.rdpc ?_ ?_; focus ((repeat first|assumption|exact m0_|apply m1_); done)))) ?_
    intro z29
    refine X_ (by (simp [mids, It.mids, ownPc, mapPc, tmPc, wbP, exP]; done)) fun hx9 => ?_
    refine j_ rfl (i_ (C := .agg [bkI p, int 4, int 5, mapV m27, mapV m28, ptr z29, mapV m30, .v (.slice none 0 0)]) (u_ tabOk rfl rfl rfl rfl) rfl) hx9 rfl rfl<|exb_ rfl (z_ (cs := [bkI p, int 4, int 5, mapV m27, mapV m28, ptr z29, mapV m30, .v (.slice none 0 0)]) rfl) (by simp) rfl rfl fun b32=>?_
    refine qs_ 1 rfl<|C_<|aB_ (τ := [.blk b32 74 [bkI p, int 4, int 5, mapV m27, mapV m28, ptr z29, mapV m30, .v (.slice none 0 0)], .pc (tmPc m27 intK intOk pE []), .pc (tmPc m28 intK intOk pE []), .blk z29 97 [.v (.slice none 0 0)], own 143 6 (.slice none 0 0) [], .pc (tmPc m30 wdV wdOk boo []), .blk b3 24 set0, wb p bd bt N]) (by repeat (first | exact List.Perm.nil | refine pk_ (by repeat (first | exact Rem_.here | apply Rem_.there)) ?_)) ?_
    refine R_ (b32, m27, m28, z29, m30) (trivial) (by exact ⟨rfl, rfl, rfl, trivial⟩) sr_
   skip
   refine H_ rfl (a5_) (by simp [mids, It.mids]) Casts.refl (by kernel_rfl) rfl rfl rfl ?_
   refine am_ (by repeat (first | exact Reads.nil | (refine Reads.blk ?_ ?_; focus ((repeat first|assumption|exact m0_|apply m1_); done)) | (refine Reads.rd ?_ ?_; focus ((repeat first|assumption|exact m0_|apply m1_); done)) | (refine Reads.pc ?_ ?_; focus ((repeat first|assumption|exact m0_|apply m1_); done)) | (refine Reads.rdpc ?_ ?_; focus ((repeat first|assumption|exact m0_|apply m1_); done)))) ?_
   intro z29
   refine exb_ rfl (B_ intK intOk pE (fun ac w => by simp [execOp, Instr.makeMap, newObj, Sem.run, Sem.run_bind, Result.andThen])) (by simp) rfl rfl fun m27=>?_
   refine X_ (by (simp [mids, It.mids, ownPc, mapPc, tmPc, wbP, exP]; done)) fun hx9 => ?_
   refine j_ rfl (i_ (C := .agg [bkI p, int 4, int 5, mapV m27, mapV m28, ptr z29, mapV m30, .v (.slice none 0 0)]) (u_ tabOk rfl rfl rfl rfl) rfl) hx9 rfl rfl<|exb_ rfl (z_ (cs := [bkI p, int 4, int 5, mapV m27, mapV m28, ptr z29, mapV m30, .v (.slice none 0 0)]) rfl) (by simp) rfl rfl fun b32=>?_
   refine qs_ 1 rfl<|C_<|aB_ (τ := [.blk b32 74 [bkI p, int 4, int 5, mapV m27, mapV m28, ptr z29, mapV m30, .v (.slice none 0 0)], .pc (tmPc m27 intK intOk pE []), .pc (tmPc m28 intK intOk pE []), .blk z29 97 [.v (.slice none 0 0)], own 143 6 (.slice none 0 0) [], .pc (tmPc m30 wdV wdOk boo []), .blk b3 24 set0, wb p bd bt N]) (by repeat (first | exact List.Perm.nil | refine pk_ (by repeat (first | exact Rem_.here | apply Rem_.there)) ?_)) ?_
   refine R_ (b32, m27, m28, z29, m30) (trivial) (by exact ⟨rfl, rfl, rfl, trivial⟩) sr_
  skip
  refine H_ rfl (a5_) (by simp [mids, It.mids]) Casts.refl (by kernel_rfl) rfl rfl rfl ?_
  refine am_ (by repeat (first | exact Reads.nil | (refine Reads.blk ?_ ?_; focus ((repeat first|assumption|exact m0_|apply m1_); done)) | (refine Reads.rd ?_ ?_; focus ((repeat first|assumption|exact m0_|apply m1_); done)) | (refine Reads.pc ?_ ?_; focus ((repeat first|assumption|exact m0_|apply m1_); done)) | (refine Reads.rdpc ?_ ?_; focus ((repeat first|assumption|exact m0_|apply m1_); done)))) ?_
  intro z29
  refine aQ_ ?_ ?_
  ·skip
   refine exb_ rfl (B_ intK intOk pE (fun ac w => by simp [execOp, Instr.makeMap, newObj, Sem.run, Sem.run_bind, Result.andThen])) (by simp) rfl rfl fun m27=>?_
   refine exb_ rfl (B_ intK intOk pE (fun ac w => by simp [execOp, Instr.makeMap, newObj, Sem.run, Sem.run_bind, Result.andThen])) (by simp) rfl rfl fun m28=>?_
   refine X_ (by (simp [mids, It.mids, ownPc, mapPc, tmPc, wbP, exP]; done)) fun hx9 => ?_
   refine j_ rfl (i_ (C := .agg [bkI p, int 4, int 5, mapV m27, mapV m28, ptr z29, mapV m30, .v (.slice none 0 0)]) (u_ tabOk rfl rfl rfl rfl) rfl) hx9 rfl rfl<|exb_ rfl (z_ (cs := [bkI p, int 4, int 5, mapV m27, mapV m28, ptr z29, mapV m30, .v (.slice none 0 0)]) rfl) (by simp) rfl rfl fun b32=>?_
   refine qs_ 1 rfl<|C_<|aB_ (τ := [.blk b32 74 [bkI p, int 4, int 5, mapV m27, mapV m28, ptr z29, mapV m30, .v (.slice none 0 0)], .pc (tmPc m27 intK intOk pE []), .pc (tmPc m28 intK intOk pE []), .blk z29 97 [.v (.slice none 0 0)], own 143 6 (.slice none 0 0) [], .pc (tmPc m30 wdV wdOk boo []), .blk b3 24 set0, wb p bd bt N]) (by repeat (first | exact List.Perm.nil | refine pk_ (by repeat (first | exact Rem_.here | apply Rem_.there)) ?_)) ?_
   refine R_ (b32, m27, m28, z29, m30) (trivial) (by exact ⟨rfl, rfl, rfl, trivial⟩) sr_
  skip
  refine exb_ rfl (B_ intK intOk pE (fun ac w => by simp [execOp, Instr.makeMap, newObj, Sem.run, Sem.run_bind, Result.andThen])) (by simp) rfl rfl fun m28=>?_
  refine exb_ rfl (B_ intK intOk pE (fun ac w => by simp [execOp, Instr.makeMap, newObj, Sem.run, Sem.run_bind, Result.andThen])) (by simp) rfl rfl fun m27=>?_
  refine X_ (by (simp [mids, It.mids, ownPc, mapPc, tmPc, wbP, exP]; done)) fun hx9 => ?_
  refine j_ rfl (i_ (C := .agg [bkI p, int 4, int 5, mapV m27, mapV m28, ptr z29, mapV m30, .v (.slice none 0 0)]) (u_ tabOk rfl rfl rfl rfl) rfl) hx9 rfl rfl<|exb_ rfl (z_ (cs := [bkI p, int 4, int 5, mapV m27, mapV m28, ptr z29, mapV m30, .v (.slice none 0 0)]) rfl) (by simp) rfl rfl fun b32=>?_
  refine qs_ 1 rfl<|C_<|aB_ (τ := [.blk b32 74 [bkI p, int 4, int 5, mapV m27, mapV m28, ptr z29, mapV m30, .v (.slice none 0 0)], .pc (tmPc m27 intK intOk pE []), .pc (tmPc m28 intK intOk pE []), .blk z29 97 [.v (.slice none 0 0)], own 143 6 (.slice none 0 0) [], .pc (tmPc m30 wdV wdOk boo []), .blk b3 24 set0, wb p bd bt N]) (by repeat (first | exact List.Perm.nil | refine pk_ (by repeat (first | exact Rem_.here | apply Rem_.there)) ?_)) ?_
  refine R_ (b32, m27, m28, z29, m30) (trivial) (by exact ⟨rfl, rfl, rfl, trivial⟩) sr_
 intro y hy
 obtain ⟨b32, m27, m28, z29, m30⟩ := y
 dsimp only
 refine c_<|c_<|a_<|q_ 3 rfl<|d_ (i_ (C := int 5) (h_ tabOk rfl rfl l0_ List.not_mem_nil rfl) rfl) rfl rfl<|q_ 1 rfl<|g_<|b_<|w_<|b8_ [] Re.empty rfl<|b8_ [] Re.empty rfl<|b8_ [] (Re.perm (xs := [.pc (bigP []), .pc (bigP []), .blk b32 74 [bkI p, int 4, int 5, mapV m27, mapV m28, ptr z29, mapV m30, .v (.slice none 0 0)], .pc (tmPc m27 intK intOk pE []), .pc (tmPc m28 intK intOk pE []), .blk z29 97 [.v (.slice none 0 0)], own 143 6 (.slice none 0 0) [], .pc (tmPc m30 wdV wdOk boo []), .blk b3 24 set0, wb p bd bt N]) (ys := [wb p bd bt N, .pc (bigP []), .pc (bigP []), .blk b32 74 [bkI p, int 4, int 5, mapV m27, mapV m28, ptr z29, mapV m30, .v (.slice none 0 0)], .pc (tmPc m27 intK intOk pE []), .pc (tmPc m28 intK intOk pE []), .blk z29 97 [.v (.slice none 0 0)], own 143 6 (.slice none 0 0) [], .pc (tmPc m30 wdV wdOk boo []), .blk b3 24 set0]) (by repeat (first | exact List.Perm.nil | refine pk_ (by repeat (first | exact Rem_.here | apply Rem_.there)) ?_)) (ar_ rfl)) rfl ?_
 refine S_ (ι := Nat × List (Nat × RI) × List Nat) (fun z => [wb p bd bt (N + z.1), .pc (bigP (z.2.1.map (rpP p))), .pc (bigP (z.2.2.map (clP p))), .blk b32 74 [bkI p, int 4, int 5, mapV m27, mapV m28, ptr z29, mapV m30, .v (.slice none 0 0)], .pc (tmPc m27 intK intOk pE (mK z.2.1)), .pc (tmPc m28 intK intOk pE (mC z.2.2)), .blk z29 97 [.v (.slice none 0 0)], own 143 6 (.slice none 0 0) [], .pc (tmPc m30 wdV wdOk boo []), .blk b3 24 set0]) (fun z => [(3, ptr b3), (7, int 4), (8, ptr b32), (36, int 5), (37, int (z.1 : Nat))]) (fun z => z.1 ≤ 5 ∧ z.2.1.map (·.1) = List.range (min z.1 4) ∧ z.2.2.length = z.1 - 4) (fun z => 5 - z.1) (0, [], []) (⟨Nat.zero_le _, rfl, rfl⟩) (by exact ⟨rfl, rfl, rfl, rfl, rfl, trivial⟩) sr_ ?_
 intro z hz
 refine c_<|a_<|q_ 1 rfl<|g_<|b_<|c_<|n_ rfl ?_ ?_
 rotate_left
 ·intro hc38
  have hk5 : z.1 = 5 := by omega
  obtain ⟨R0, R1, R2, R3, hRs⟩ := rs4 (by rw [hz.2.1, hk5]; rfl)
  obtain ⟨ca, hCs⟩ := cs1 (by rw [hz.2.2, hk5])
  rw [hRs, hCs, hk5]
  exact O_<|k_ nofun<|k_ nofun<|N_<|b_<|c_<|a_<|q_ 3 rfl<|g_<|b_<|o_<|f_ (rs := [.tmp 4, .tmp 5]) rfl (RV.tmp rfl (RV.tmp rfl RV.nil)) (⟨b32, m27, m28, z29, m30, ca, R0, R1, R2, R3⟩) (sc_ (sc_ (sc_ (sc_ (sc_ (sc_ (sc_ (sc_ (sc_ sn_)))))))))<|rfl
 intro hc38
 refine s_<|b_<|c_<|w_<|c_<|a_<|q_ 2 rfl<|g_<|b_<|w_<|c_<|a_<|q_ 1 rfl<|d_ (i_ (C := .v (.slice none 0 0)) (h_ tabOk rfl rfl l9_ List.not_mem_nil rfl) rfl) rfl rfl<|q_ 1 rfl<|m_ (cG_ (x := ((z.1 : Nat) : Int))) Casts.refl (by kernel_rfl) rfl rfl rfl ?_
 refine ap_<|fun _=>q_ 1 rfl<|g_<|b_<|I_ rfl<|c_<|a_<|q_ 4 rfl<|g_<|b_<|n_ rfl ?_ ?_
 rotate_left
 ·intro hc57
  have hk4 : z.1 = 4 := by omega
  have hcs : z.2.2 = [] := List.eq_nil_of_length_eq_zero (by rw [hz.2.2, hk4])
  refine ah_ [] (.q 0 (.q 1 (.q 2 (.q 3 (.q 4 (.q 5 (.q 6 (.q 7 (.q 8 (.q 9 (.q 10 (.e 11 .nil)))))))))))) (by kernel_rfl) (by kernel_rfl) ?_
  refine qs_ 3 rfl<|hx_ fun hx9 =>j_ rfl (i_ (C := mapV m28) (h_ tabOk rfl rfl l3_ List.not_mem_nil rfl) rfl) hx9 rfl rfl<|qs_ 4 rfl<|j_ rfl (i_ (C := bkI p) (h_ tabOk rfl rfl l3_ List.not_mem_nil rfl) rfl) hx9 rfl rfl<|qs_ 1 rfl<|j_ rfl (i_ (C := int 4) (r_ rfl) (congrArg int (by omega))) hx9 rfl rfl ?_
  refine H_ rfl (cnew_s (p := p)) (by simp [mids, It.mids]) Casts.refl (by kernel_rfl) rfl rfl rfl ?_
  refine Y_ (by repeat (first | exact Reads.nil | (refine Reads.blk ?_ ?_; focus ((repeat first|assumption|exact m0_|apply m1_); done)) | (refine Reads.rd ?_ ?_; focus ((repeat first|assumption|exact m0_|apply m1_); done)) | (refine Reads.pc ?_ ?_; focus ((repeat first|assumption|exact m0_|apply m1_); done)) | (refine Reads.rdpc ?_ ?_; focus ((repeat first|assumption|exact m0_|apply m1_); done)))) (fun _ => rfl) ?_
  intro z51
  refine C_<|ao_ rfl (bB_ (enc := pE) (m := mC z.2.2) (a := ((z.1 : Nat) : Int)) (v := some z51) (m' := mC (z.2.2 ++ [z51])) (bh_ Tryz.underlying3) Tryz.underlying70 rfl u6_ rfl is_v (by unfold intOk; simp only [InR, lo, hi]; omega) rfl (mC_snoc hcs hk4)) rfl rfl ?_
  rintro _ _ ⟨rfl, rfl⟩
  refine A_<|A_<|b_<|a_<|d_ (E_ rfl rfl (by simp only [InR, lo, hi]; omega)) rfl rfl ?_
  refine q_ 1 rfl<|g_<|da_ [] Re.blkIn rfl<|da_ [] (Re.perm (xs := [.pc (clP p z51), wb p bd bt (N + z.1), .pc (bigP (z.2.1.map (rpP p)))]) (ys := [wb p bd bt (N + z.1), .pc (bigP (z.2.1.map (rpP p))), .pc (clP p z51)]) ((List.Perm.swap _ _ _).trans ((List.Perm.swap _ _ _).cons _)) (ar_ rfl)) rfl<|da_ [_, _] (Re.bigSnoc (l := z.2.2.map (clP p)) (c := clP p z51)) rfl ?_
  rw [show z.2.2.map (clP p) ++ [clP p z51] = (z.2.2 ++ [z51]).map (clP p) from by rw [List.map_append]; rfl]
  refine da_ [] (Re.wbUp (N := N + z.1) (M := N + (z.1 + 1)) (by omega)) rfl ?_
  refine J_ (z.1 + 1, z.2.1, z.2.2 ++ [z51]) (by omega) ((⟨by dsimp only; omega, by dsimp only; rw [hz.2.1, hk4]; rfl, by dsimp only; rw [List.length_append, hz.2.2, List.length_singleton]; omega⟩)) (by exact ⟨rfl, rfl, rfl, rfl, rfl, trivial⟩) sr_
 intro hc57
 have hz4 : z.1 < 4 := by omega
 refine aw_ (p := b32 ∉ [p, bd, bt]) (fun _ _ h => by
   have h1 := h.mem.nodup
   simp [mids, It.mids, ownPc, mapPc, tmPc, wbP, exP] at h1 ⊢
   grind) fun hB => ?_
 refine ah_ [p, bd, bt] (.q 0 (.q 1 (.q 2 (.q 3 (.q 4 (.q 5 (.q 6 (.q 7 (.q 8 (.q 9 (.q 10 (.e 11 .nil)))))))))))) (by kernel_rfl) (by kernel_rfl) ?_
 refine X_ (by (simp [mids, It.mids, ownPc, mapPc, tmPc, wbP, exP]; done)) fun hx9 => ?_
 refine qx_ 3 hx9 rfl<|j_ rfl (i_ (C := mapV m27) (h_ tabOk rfl rfl l3_ hB rfl) rfl) hx9 rfl rfl<|qx_ 4 hx9 rfl<|j_ rfl (i_ (C := bkI p) (h_ tabOk rfl rfl l3_ hB rfl) rfl) hx9 rfl rfl<|qx_ 2 hx9 rfl<|H_ rfl (rpnew_s (p := p) (bd := bd) (bt := bt) (N := N + z.1) (me := z.1) hz4 (by omega)) (by simp [mids, It.mids, wbP, exP]) Casts.refl (by kernel_rfl) rfl rfl rfl ?_
 refine M_ [] (β := _) rfl (by intro x hx; simp only [List.mem_cons, List.not_mem_nil, or_false] at hx; rcases hx with rfl; rfl) ?_
 intro z72
 refine C_<|ao_ rfl (bB_ (enc := pE) (m := mK z.2.1) (a := ((z.1 : Nat) : Int)) (v := some z72.r) (m' := mK (z.2.1 ++ [(z.1, z72)])) (bh_ Tryz.underlying3) Tryz.underlying69 rfl (by repeat first|assumption|exact Upd.here|apply Upd.there) rfl is_v (by unfold intOk; simp only [InR, lo, hi]; omega) rfl (mK_snoc (by rw [hz.2.1, Nat.min_eq_left (by omega)]))) rfl rfl ?_
 rintro _ _ ⟨rfl, rfl⟩
 refine A_<|A_<|b_<|a_<|d_ (E_ rfl rfl (by simp only [InR, lo, hi]; omega)) rfl rfl ?_
 refine q_ 1 rfl<|g_<|da_ [] (Re.bigIn (xs := [.blk z72.r 118 (z72.cells p z.1 0 (.v (.slice none 0 0))), .pc (tmPc z72.pd intK intOk coE []), .blk z72.x 179 [int 4, int 0, int 0, .v (.slice none 0 0), .v (.slice none 0 0), .v (.slice none 0 0)], .blk z72.t 173 [int 32, int 0], .blk z72.h 167 [bkI p, int 4, mapV z72.hm, .v z72.hv], .pc (tmPc z72.hm intK intOk pE []), .blk z72.vv 160 [int 4, mapV z72.vm], .pc (tmPc z72.vm paV paOk voE []), .blk z72.pp 157 [int ((4 : Nat) : Int), int (z.1 : Nat), mapV z72.om, .v z72.pv], own 199 1 z72.pv ((List.replicate 4 []).map fun l => [pntsA l]), .pc (tmPc z72.om intK intOk Ow.enc [(0, z72.ow)]), .blk z72.lg 153 [int 4, int 0, mapV z72.lm], .pc (tmPc z72.lm intK intOk pE [])]) rfl) rfl<|da_ [] (Re.perm (xs := [.pc (rpP p (z.1, z72)), wb p bd bt (N + z.1 + 1)]) (ys := [wb p bd bt (N + z.1 + 1), .pc (rpP p (z.1, z72))]) (List.Perm.swap _ _ _) (ar_ rfl)) rfl<|da_ [_] (Re.bigSnoc (l := z.2.1.map (rpP p)) (c := rpP p (z.1, z72))) rfl ?_
 rw [show z.2.1.map (rpP p) ++ [rpP p (z.1, z72)] = (z.2.1 ++ [(z.1, z72)]).map (rpP p) from by rw [List.map_append]; rfl]
 refine J_ (z.1 + 1, z.2.1 ++ [(z.1, z72)], z.2.2) (by omega) ((⟨by dsimp only; omega, by dsimp only; rw [List.map_append, hz.2.1, Nat.min_eq_left (by omega), Nat.min_eq_left (by omega), List.range_succ]; rfl, by dsimp only; rw [hz.2.2]; omega⟩)) (by exact ⟨rfl, rfl, rfl, rfl, rfl, trivial⟩) sr_
end
theorem is_ (w : World) : (zeroValue 80).run Tryz.prog w = .ok (.pointer none) w := by kernel_rfl
section
variable {c p bd bt rm cm cr em N ca i k : Nat} {av cv : Value} {r : Nat → Nat} {R : RI} {m : Msg} {rows : List (List Abs)} {l1 l2 : List Pc}
set_option maxHeartbeats 4000000 in
theorem cgive_s (h4 : i < 4) (hr : r i = R.r) (hm : MsOk m) (hN : N ≤ 60000) (hl : rows.length ≤ 1000) : Spec Tryz.prog 69 [ptr c, int (i : Nat), .agg m.abs] [wb p bd bt N, .pc (bigP (l1 ++ rpP p (i, R) :: l2)), .blk c 74 [bkI p, int 4, int 5, mapV rm, mapV cm, ptr cr, mapV em, .v av], .pc (tmPc rm intK intOk pE (rmL r)), .pc (tmPc cm intK intOk pE [((4 : Int), some ca)]), .blk cr 97 [.v cv], own 143 6 cv rows] (fun z : Value × {ps : List (List Abs) // ParOk 4 ps} => [wb p bd bt (N + 20), .pc (bigP (l1 ++ l2)), .blk c 74 [bkI p, int 4, int 5, mapV rm, mapV cm, ptr cr, mapV em, .v av], .pc (tmPc rm intK intOk pE (rmL r)), .pc (tmPc cm intK intOk pE [((4 : Int), some ca)]), .blk cr 97 [.v z.1], own 143 6 z.1 (rows ++ z.2.1.map fun x => int (i : Nat) :: x)]) (fun _ => .tup []) := by
 refine t_ Tryz.func69 rfl Tryz.ntmps69 rfl fun G w =>c_<|a_<|eb_ (z_ (cs := m.abs) rfl) rfl rfl fun b5=>?_
 refine g_<|b_<|c_<|c_<|a_<|q_ 3 rfl<|d_ (i_ (C := mapV rm) (h_ tabOk rfl rfl l3_ List.not_mem_nil rfl) rfl) rfl rfl<|q_ 1 rfl<|d_ (i_ (C := ptr R.r) (aZ_ (a := ((i : Nat) : Int)) (m := rmL r) (enc := pE) (z0 := none) (zv := .pointer none) (bh_ Tryz.underlying3) Tryz.underlying69 gi_ fs_ rfl l4_ List.not_mem_nil rfl is_v (by unfold intOk; simp only [InR, lo, hi]; omega)) (by rw [iU_ h4, hr]; rfl)) rfl rfl ?_
 refine q_ 1 rfl<|g_<|b_<|c_<|a_<|q_ 1 rfl<|d_ (bz_ rfl rfl (by kernel_rfl)) rfl rfl ?_
 refine g_<|b_<|ab_ rfl<|c_<|b8_ [_, _] (Re.out (l1 := l1) (l2 := l2) (c := rpP p (i, R))) rfl<|b8_ [_, _] (Re.bigOut (xs := [.blk R.r 118 (R.cells p i 0 (.v (.slice none 0 0))), .pc (tmPc R.pd intK intOk coE []), .blk R.x 179 [int 4, int 0, int 0, .v (.slice none 0 0), .v (.slice none 0 0), .v (.slice none 0 0)], .blk R.t 173 [int 32, int 0], .blk R.h 167 [bkI p, int 4, mapV R.hm, .v R.hv], .pc (tmPc R.hm intK intOk pE []), .blk R.vv 160 [int 4, mapV R.vm], .pc (tmPc R.vm paV paOk voE []), .blk R.pp 157 [int ((4 : Nat) : Int), int (i : Nat), mapV R.om, .v R.pv], own 199 1 R.pv ((List.replicate 4 []).map fun l => [pntsA l]), .pc (tmPc R.om intK intOk Ow.enc [(0, R.ow)]), .blk R.lg 153 [int 4, int 0, mapV R.lm], .pc (tmPc R.lm intK intOk pE [])]) rfl) rfl<|b8_ [_] (Re.perm (xs := [wb p bd bt N, .blk R.r 118 (R.cells p i 0 (.v (.slice none 0 0))), .pc (tmPc R.pd intK intOk coE []), .blk R.x 179 [int 4, int 0, int 0, .v (.slice none 0 0), .v (.slice none 0 0), .v (.slice none 0 0)], .blk R.t 173 [int 32, int 0], .blk R.h 167 [bkI p, int 4, mapV R.hm, .v R.hv], .pc (tmPc R.hm intK intOk pE []), .blk R.vv 160 [int 4, mapV R.vm], .pc (tmPc R.vm paV paOk voE []), .blk R.pp 157 [int ((4 : Nat) : Int), int (i : Nat), mapV R.om, .v R.pv], own 199 1 R.pv ((List.replicate 4 []).map fun l => [pntsA l]), .pc (tmPc R.om intK intOk Ow.enc [(0, R.ow)]), .blk R.lg 153 [int 4, int 0, mapV R.lm], .pc (tmPc R.lm intK intOk pE [])]) (ys := [.blk R.r 118 (R.cells p i 0 (.v (.slice none 0 0))), .pc (tmPc R.pd intK intOk coE []), .blk R.x 179 [int 4, int 0, int 0, .v (.slice none 0 0), .v (.slice none 0 0), .v (.slice none 0 0)], .blk R.t 173 [int 32, int 0], .blk R.h 167 [bkI p, int 4, mapV R.hm, .v R.hv], .pc (tmPc R.hm intK intOk pE []), .blk R.vv 160 [int 4, mapV R.vm], .pc (tmPc R.vm paV paOk voE []), .blk R.pp 157 [int ((4 : Nat) : Int), int (i : Nat), mapV R.om, .v R.pv], own 199 1 R.pv ((List.replicate 4 []).map fun l => [pntsA l]), .pc (tmPc R.om intK intOk Ow.enc [(0, R.ow)]), .blk R.lg 153 [int 4, int 0, mapV R.lm], .pc (tmPc R.lm intK intOk pE []), wb p bd bt N]) (by repeat (first | exact List.Perm.nil | refine pk_ (by repeat (first | exact Rem_.here | apply Rem_.there)) ?_)) (ar_ rfl)) rfl ?_
 refine a_<|q_ 1 rfl<|d_ (i_ (C := .agg m.abs) (y_ tabOk rfl rfl rfl l0_ List.not_mem_nil rfl) rfl) rfl rfl<|m_ (rrecv_s (p := p) (bd := bd) (bt := bt) (N := N) (me := i) (R := R) (m := m) hm h4 (by omega)) Casts.refl (by kernel_rfl) rfl rfl rfl ?_
 refine M_ [_] (β := _) rfl (by intro x hx; simp only [List.mem_cons, List.not_mem_nil, or_false] at hx; rcases hx with rfl | rfl | rfl | rfl | rfl | rfl | rfl | rfl | rfl | rfl | rfl | rfl | rfl | rfl <;> rfl) ?_
 intro z21
 refine q_ 5 rfl<|g_<|b_<|a_<|q_ 3 rfl<|d_ (i_ (C := ptr cr) (h_ tabOk rfl rfl l3_ List.not_mem_nil rfl) rfl) rfl rfl<|q_ 2 rfl<|m_ (jx_ (c := cr) (v := cv) (rows := rows) (from_ := ((i : Nat) : Int)) (ps := z21.1.1) z21.1.2.2 (by have := z21.1.2.1; omega)) Casts.refl (by kernel_rfl) rfl rfl rfl ?_
 refine M_ [_, _, _, _, _, _] (β := _) rfl (by intro x hx; simp only [List.mem_cons, List.not_mem_nil, or_false] at hx; rcases hx with rfl | rfl <;> rfl) ?_
 intro v30
 refine g_<|b_<|c_<|a_<|q_ 3 rfl<|d_ (i_ (C := mapV cm) (h_ tabOk rfl rfl l3_ List.not_mem_nil rfl) rfl) rfl rfl<|q_ 1 rfl<|d_ (i_ (C := .v (.pointer none)) (aZ_ (a := ((i : Nat) : Int)) (m := [((4 : Int), some ca)]) (enc := pE) (z0 := none) (zv := .pointer none) (bh_ Tryz.underlying3) Tryz.underlying70 is_ fs_ rfl l5_ List.not_mem_nil rfl is_v (by unfold intOk; simp only [InR, lo, hi]; omega)) (by rw [show aget [((4 : Int), some ca)] ((i : Nat) : Int) = none from by simp [aget]; omega]; rfl)) rfl rfl ?_
 refine q_ 1 rfl<|g_<|b_<|c_<|a_<|q_ 1 rfl<|d_ (bz_ rfl rfl (by kernel_rfl)) rfl rfl ?_
 refine g_<|b_<|I_ rfl<|s_<|bK_ (rs := []) rfl RV.nil ((v30, z21.1)) (sk_ sr_) (by simp [It.rids]) ?_
 exact rfl
theorem cdel_s (h4 : i < 4) (hr : r i = R.r) (hm : MsOk m) (hN : N ≤ 60000) (hl : rows.length ≤ 1000) : Spec Tryz.prog 63 [ptr c, .agg (int 4 :: int (i : Nat) :: m.abs)] [wb p bd bt N, .pc (bigP (l1 ++ rpP p (i, R) :: l2)), .blk c 74 [bkI p, int 4, int 5, mapV rm, mapV cm, ptr cr, mapV em, .v av], .pc (tmPc rm intK intOk pE (rmL r)), .pc (tmPc cm intK intOk pE [((4 : Int), some ca)]), .blk cr 97 [.v cv], own 143 6 cv rows] (fun z : Value × {ps : List (List Abs) // ParOk 4 ps} => [wb p bd bt (N + 20), .pc (bigP (l1 ++ l2)), .blk c 74 [bkI p, int 4, int 5, mapV rm, mapV cm, ptr cr, mapV em, .v av], .pc (tmPc rm intK intOk pE (rmL r)), .pc (tmPc cm intK intOk pE [((4 : Int), some ca)]), .blk cr 97 [.v z.1], own 143 6 z.1 (rows ++ z.2.1.map fun x => int (i : Nat) :: x)]) (fun _ => .tup []) := by
 refine t_ Tryz.func63 rfl Tryz.ntmps63 rfl fun G w =>c_<|a_<|eb_ (z_ (cs := (int 4 :: int (i : Nat) :: m.abs)) rfl) rfl rfl fun b3=>?_
 refine g_<|b_<|c_<|a_<|q_ 1 rfl<|d_ (bz_ rfl rfl (by kernel_rfl)) rfl rfl ?_
 refine g_<|b_<|ab_ rfl<|a_<|q_ 3 rfl<|d_ (i_ (C := int (i : Nat)) (h_ tabOk rfl rfl l0_ List.not_mem_nil rfl) rfl) rfl rfl<|q_ 2 rfl<|d_ (i_ (C := .agg m.abs) (al_ tabOk rfl rfl rfl l0_ List.not_mem_nil (Nat.le_of_ble_eq_true rfl)) rfl) rfl rfl<|m_ (cgive_s (c := c) (p := p) (bd := bd) (bt := bt) (rm := rm) (cm := cm) (cr := cr) (em := em) (N := N) (ca := ca) (i := i) (av := av) (cv := cv) (r := r) (R := R) (m := m) (rows := rows) (l1 := l1) (l2 := l2) h4 hr hm hN hl) Casts.refl (by kernel_rfl) rfl rfl rfl ?_
 refine M_ [_] (β := []) rfl (by intro x hx; simp only [List.mem_cons, List.not_mem_nil, or_false] at hx; rcases hx with rfl | rfl | rfl | rfl | rfl | rfl | rfl <;> rfl) ?_
 intro z13
 refine g_<|bK_ (rs := []) rfl RV.nil (z13) (sk_ sr_) (by simp [It.rids]) ?_
 exact rfl
set_option maxHeartbeats 2000000 in
theorem cmove_s (h4 : i < 4) (hr : r i = R.r) (hm : MsOk m) (hN : N ≤ 60000) (h1 : 1 ≤ rows.length) (hl : rows.length ≤ 900) (ho : ∀ x ∈ rows, ones x = true) : Spec Tryz.prog 34 [ptr c, .agg deliver0] [wb p bd bt N, .pc (bigP (l1 ++ rpP p (i, R) :: l2)), .blk c 74 [bkI p, int 4, int 5, mapV rm, mapV cm, ptr cr, mapV em, .v av], .pc (tmPc rm intK intOk pE (rmL r)), .pc (tmPc cm intK intOk pE [((4 : Int), some ca)]), .blk cr 97 [.v cv], own 143 6 cv ((int 4 :: int (i : Nat) :: m.abs) :: rows)] (fun z : Value × {ps : List (List Abs) // ParOk 4 ps} => [wb p bd bt (N + 20), .pc (bigP (l1 ++ l2)), .blk c 74 [bkI p, int 4, int 5, mapV rm, mapV cm, ptr cr, mapV em, .v av], .pc (tmPc rm intK intOk pE (rmL r)), .pc (tmPc cm intK intOk pE [((4 : Int), some ca)]), .blk cr 97 [.v z.1], own 143 6 z.1 (rows ++ z.2.1.map fun x => int (i : Nat) :: x)]) (fun _ => int 0) := by
 refine t_ Tryz.func34 rfl Tryz.ntmps34 rfl fun G w =>c_<|a_<|eb_ (z_ (cs := deliver0) rfl) rfl rfl fun b3=>?_
 refine q_ 1 rfl<|g_<|b_<|c_<|w_<|c_<|a_<|q_ 1 rfl<|d_ (i_ (C := int 0) (h_ tabOk rfl rfl l0_ List.not_mem_nil rfl) rfl) rfl rfl<|q_ 2 rfl<|g_<|b_<|n_ rfl (by intro hc9; exfalso; omega) ?_
 intro hc9
 refine c_<|a_<|q_ 3 rfl<|d_ (i_ (C := ptr cr) (h_ tabOk rfl rfl l3_ List.not_mem_nil rfl) rfl) rfl rfl<|m_ (gI_ (c := cr) (v := cv) (rows := (int 4 :: int (i : Nat) :: m.abs) :: rows)) Casts.refl (by kernel_rfl) rfl rfl rfl ?_
 refine ap_<|fun _=>q_ 2 rfl<|g_<|b_<|n_ rfl (by intro hc13; exfalso; rw [List.length_cons] at hc13; omega) ?_
 intro hc13
 refine s_<|A_<|b_<|c_<|T_ [] (.q 0 (.q 1 (.q 2 (.q 3 (.q 4 (.q 5 (.e 6 (.q 7 (.q 8 .nil))))))))) (by kernel_rfl) (by kernel_rfl) ?_
 refine qs_ 1 rfl<|hx_ fun hx9 =>j_ rfl (i_ (C := int 0) (h_ tabOk rfl rfl l0_ List.not_mem_nil rfl) rfl) hx9 rfl rfl<|qs_ 3 rfl<|j_ rfl (i_ (C := ptr cr) (h_ tabOk rfl rfl l3_ List.not_mem_nil rfl) rfl) hx9 rfl rfl<|H_ rfl (gI_ (c := cr) (v := cv) (rows := (int 4 :: int (i : Nat) :: m.abs) :: rows)) (by simp [mids, It.mids]) Casts.refl (by kernel_rfl) rfl rfl rfl ?_
 refine ap_<|fun _=>hx_ fun hx9 =>j_ rfl (i_ (C := int 0) (b1_ rfl rfl (by rw [List.length_cons]; omega)) (congrArg int (by simp))) hx9 rfl rfl ?_
 refine qs_ 1 rfl<|C_<|b_<|c_<|a_<|q_ 3 rfl<|d_ (i_ (C := ptr cr) (h_ tabOk rfl rfl l3_ List.not_mem_nil rfl) rfl) rfl rfl<|d_ (ag_ rfl rfl) rfl rfl<|q_ 1 rfl<|g_<|b_<|c_<|c_<|a_<|q_ 1 rfl<|d_ (i_ (C := int 3) (h_ tabOk rfl rfl l0_ List.not_mem_nil rfl) rfl) rfl rfl<|q_ 1 rfl<|g_<|b_<|n_ rfl (by intro hc35; exfalso; omega) ?_
 intro hc35
 refine s_<|b_<|c_<|c_<|a_<|q_ 2 rfl<|c9_ (crtake_s (c := cr) (v := cv) (rows := rows) (r0 := (int 4 :: int (i : Nat) :: m.abs)) ⟨rfl, rfl⟩ ho h1 (by omega)) rfl Casts.refl (by kernel_rfl) rfl rfl rfl ?_
 refine M_ [_, _, _, _, _, _] (β := _) rfl (by intro x hx; simp only [List.mem_cons, List.not_mem_nil, or_false] at hx; rcases hx with rfl | rfl <;> rfl) ?_
 intro _
 refine q_ 3 rfl<|eb_ (F_ tabOk rfl) rfl rfl fun b7=>?_
 refine e_ (p_ (L' := (int 4 :: int (i : Nat) :: m.abs)) tabOk rfl rfl rfl u0_ rfl (Nat.le_of_ble_eq_true rfl) rfl (by exact x_ rfl)) rfl rfl ?_
 refine q_ 1 rfl<|g_<|b_<|c_<|a_<|q_ 3 rfl<|d_ (i_ (C := int 3) (h_ tabOk rfl rfl l1_ List.not_mem_nil rfl) rfl) rfl rfl<|q_ 2 rfl<|g_<|b_<|n_ rfl ?_ (by intro hc52; exfalso; omega)
 intro hc52
 refine a_<|q_ 1 rfl<|d_ (i_ (C := .agg (int 4 :: int (i : Nat) :: m.abs)) (y_ tabOk rfl rfl rfl l0_ List.not_mem_nil rfl) rfl) rfl rfl<|m_ (cdel_s (c := c) (p := p) (bd := bd) (bt := bt) (rm := rm) (cm := cm) (cr := cr) (em := em) (N := N) (ca := ca) (i := i) (av := av) (cv := cutTo cv rows.length) (r := r) (R := R) (m := m) (rows := rows) (l1 := l1) (l2 := l2) h4 hr hm hN (by omega)) Casts.refl (by kernel_rfl) rfl rfl rfl ?_
 refine M_ [_, _] (β := []) rfl (by intro x hx; simp only [List.mem_cons, List.not_mem_nil, or_false] at hx; rcases hx with rfl | rfl | rfl | rfl | rfl | rfl | rfl <;> rfl) ?_
 intro z55
 exact g_<|b_<|c_<|a_<|q_ 1 rfl<|g_<|b_<|o_<|f_ (rs := [.tmp 4]) rfl (RV.tmp rfl RV.nil) (z55) (sk_ (sk_ sr_))<|rfl
theorem hz_ (h4 : i < 4) (hr : r i = R.r) (hm : MsOk m) (hN : N ≤ 60000) (h1 : 1 ≤ rows.length) (hl : rows.length ≤ 900) (ho : ∀ x ∈ rows, ones x = true) : Spec Tryz.prog 19 [ptr c, .agg deliver0] [wb p bd bt N, .pc (bigP (l1 ++ rpP p (i, R) :: l2)), .blk c 74 [bkI p, int 4, int 5, mapV rm, mapV cm, ptr cr, mapV em, .v av], .pc (tmPc rm intK intOk pE (rmL r)), .pc (tmPc cm intK intOk pE [((4 : Int), some ca)]), .blk cr 97 [.v cv], own 143 6 cv ((int 4 :: int (i : Nat) :: m.abs) :: rows)] (fun z : Value × {ps : List (List Abs) // ParOk 4 ps} => [wb p bd bt (N + 20), .pc (bigP (l1 ++ l2)), .blk c 74 [bkI p, int 4, int 5, mapV rm, mapV cm, ptr cr, mapV em, .v av], .pc (tmPc rm intK intOk pE (rmL r)), .pc (tmPc cm intK intOk pE [((4 : Int), some ca)]), .blk cr 97 [.v z.1], own 143 6 z.1 (rows ++ z.2.1.map fun x => int (i : Nat) :: x)]) (fun _ => int 0) := by
 refine t_ Tryz.func19 rfl Tryz.ntmps19 rfl fun G w =>c_<|a_<|eb_ (z_ (cs := deliver0) rfl) rfl rfl fun b3=>?_
 refine q_ 1 rfl<|g_<|b_<|c_<|c_<|a_<|q_ 1 rfl<|d_ (ax_ rfl rfl (by kernel_rfl)) rfl rfl ?_
 refine g_<|b_<|I_ rfl<|s_<|b_<|c_<|c_<|a_<|q_ 1 rfl<|d_ (i_ (C := int 3) (h_ tabOk rfl rfl l0_ List.not_mem_nil rfl) rfl) rfl rfl<|g_<|b_<|w_<|c_<|a_<|q_ 2 rfl<|g_<|b_<|n_ rfl (by intro hc9; exfalso; omega) ?_
 intro hc9
 refine c_<|a_<|q_ 2 rfl<|g_<|b_<|n_ rfl (by intro hc14; exfalso; omega) ?_
 intro hc14
 refine c_<|c_<|a_<|q_ 2 rfl<|g_<|b_<|n_ rfl ?_ (by intro hc19; exfalso; omega)
 intro hc19
 refine s_<|b_<|n_ rfl ?_ (by intro hc19; exfalso; omega)
 intro hc19
 refine c_<|a_<|q_ 1 rfl<|d_ (i_ (C := .agg deliver0) (y_ tabOk rfl rfl rfl l0_ List.not_mem_nil rfl) rfl) rfl rfl<|m_ (cmove_s (c := c) (p := p) (bd := bd) (bt := bt) (rm := rm) (cm := cm) (cr := cr) (em := em) (N := N) (ca := ca) (i := i) (av := av) (cv := cv) (r := r) (R := R) (m := m) (rows := rows) (l1 := l1) (l2 := l2) h4 hr hm hN h1 hl ho) Casts.refl (by kernel_rfl) rfl rfl rfl ?_
 refine M_ [_] (β := []) rfl (by intro x hx; simp only [List.mem_cons, List.not_mem_nil, or_false] at hx; rcases hx with rfl | rfl | rfl | rfl | rfl | rfl | rfl <;> rfl) ?_
 intro z25
 exact q_ 1 rfl<|g_<|b_<|o_<|aF_<|k_ nofun<|f_ (rs := [.tmp 4]) rfl (RV.tmp rfl RV.nil) (z25) (sk_ sr_)<|rfl
end
def coIn : Core := ⟨0, 0, 1, ⟨#[97]⟩, 5, 0, ⟨#[48]⟩⟩
section
variable {c p bd bt rm cm cr em N ca i k : Nat} {av cv : Value} {r : Nat → Nat} {R : RI} {m : Msg} {rows : List (List Abs)} {l1 l2 : List Pc}
set_option maxHeartbeats 4000000 in
theorem cask0_s (hN : N ≤ 900) : Spec Tryz.prog 32 [ptr c, .agg ask0] [wb p bd bt N, .blk c 74 [bkI p, int 4, int 5, mapV rm, mapV cm, ptr cr, mapV em, .v (.slice none 0 0)], .pc (tmPc rm intK intOk pE (rmL r)), .pc (tmPc cm intK intOk pE [((4 : Int), some ca)]), .blk cr 97 [.v (.slice none 0 0)], own 143 6 (.slice none 0 0) [], .pc (tmPc em wdV wdOk boo []), .blk ca 126 [bkI p, int 4, int 4, int 0, .v (.pointer none), .v (.slice none 0 0)]] (fun z : Value × {m : Msg // MsOk m} × Value × List ((Int × List UInt8) × Bool) => [wb p bd bt (N + 32), .blk c 74 [bkI p, int 4, int 5, mapV rm, mapV cm, ptr cr, mapV em, .v z.1], .pc (tmPc rm intK intOk pE (rmL r)), .pc (tmPc cm intK intOk pE [((4 : Int), some ca)]), .blk cr 97 [.v z.2.2.1], own 143 6 z.2.2.1 ((parcels z.2.1.1 (allN 4)).map fun x => int 4 :: x), .pc (tmPc em wdV wdOk boo z.2.2.2), own 26 7 z.1 [core1.cells.map .v]]) (fun _ => int 0) := by
 refine t_ Tryz.func32 rfl Tryz.ntmps32 rfl fun G w =>c_<|a_<|eb_ (z_ (cs := ask0) rfl) rfl rfl fun b3=>?_
 refine q_ 1 rfl<|g_<|b_<|c_<|T_ [] (.q 0 (.q 1 (.q 2 (.q 3 (.q 4 (.q 5 (.q 6 (.q 7 .nil)))))))) (by kernel_rfl) (by kernel_rfl) ?_
 refine qs_ 3 rfl<|hx_ fun hx9 =>j_ rfl (i_ (C := mapV cm) (h_ tabOk rfl rfl l2_ List.not_mem_nil rfl) rfl) hx9 rfl rfl<|qs_ 1 rfl<|j_ rfl (i_ (C := int 4) (h_ tabOk rfl rfl l0_ List.not_mem_nil rfl) rfl) hx9 rfl rfl<|j_ rfl (i_ (C := ptr ca) (aZ_ (a := (4 : Int)) (m := [((4 : Int), some ca)]) (enc := pE) (z0 := none) (zv := .pointer none) (bh_ Tryz.underlying3) Tryz.underlying70 is_ fs_ rfl l4_ List.not_mem_nil rfl is_v (by unfold intOk; simp only [InR, lo, hi]; omega)) rfl) hx9 rfl rfl ?_
 refine qs_ 1 rfl<|C_<|b_<|c_<|c_<|a_<|q_ 1 rfl<|d_ (ax_ rfl rfl (by kernel_rfl)) rfl rfl ?_
 refine g_<|b_<|I_ rfl<|s_<|b_<|c_<|a_<|q_ 2 rfl<|d_ (i_ (C := coreA coIn) (al_ tabOk rfl rfl rfl l0_ List.not_mem_nil (Nat.le_of_ble_eq_true rfl)) rfl) rfl rfl<|m_ (jA_ (c := ca) (p := p) (x := coIn)) Casts.refl (by kernel_rfl) rfl rfl rfl ?_
 refine ap_<|fun _=>eb_ (F_ tabOk rfl) rfl rfl fun b6=>?_
 refine e_ (p_ (L' := core1.cells.map .v) tabOk rfl rfl rfl u0_ rfl (Nat.le_of_ble_eq_true rfl) rfl (by exact x_ rfl)) rfl rfl ?_
 refine g_<|b_<|c_<|aw_ (p := b3 ∉ [c, em, p, bd, bt, ca] ∧ b6 ∉ [c, em, p, bd, bt, ca]) (fun _ _ h => by
   have h1 := h.mem.nodup
   simp [mids, It.mids, ownPc, mapPc, tmPc, wbP, exP] at h1 ⊢
   grind) fun hX => ?_
 refine T_ [c, em, p, bd, bt, ca] (.q 0 (.q 1 (.q 2 (.q 3 (.q 4 (.q 5 (.q 6 (.q 7 (.e 8 (.q 9 (.e 10 (.q 11 (.q 12 (.q 13 (.q 14 (.q 15 .nil)))))))))))))))) (by kernel_rfl) (by kernel_rfl) ?_
 refine X_ (by intro k hk; simp only [List.mem_cons, List.not_mem_nil, or_false] at hk; rcases hk with rfl | rfl | rfl | rfl | rfl | rfl <;> simp [mids, It.mids, ownPc, mapPc, tmPc, wbP, exP, blkP, Value.ownBlock]) fun hx9 => ?_
 refine qx_ 1 hx9 rfl<|j_ rfl (i_ (C := coreA core1) (y_ tabOk rfl rfl rfl l0_ (by exact hX.2) rfl) rfl) hx9 rfl rfl ?_
 refine qx_ 1 hx9 rfl<|j_ rfl (i_ (C := coreA core1) (y_ tabOk rfl rfl rfl l0_ (by exact hX.2) rfl) rfl) hx9 rfl rfl ?_
 refine qx_ 1 hx9 rfl<|j_ rfl (i_ (C := hon0) (h_ tabOk rfl rfl l1_ (by exact hX.1) rfl) rfl) hx9 rfl rfl ?_
 refine qx_ 1 hx9 rfl<|j_ rfl (i_ (C := .v (.int .u32 0)) (h_ tabOk rfl rfl l1_ (by exact hX.1) rfl) rfl) hx9 rfl rfl ?_
 refine H_ rfl (creq_s (c := c) (p := p) (bd := bd) (bt := bt) (rm := rm) (cm := cm) (cr := cr) (em := em) (N := N) (av := .slice none 0 0) (r := r) (EM := []) (by omega)) (by intro k hk; simp [mids, It.mids, tmPc, wbP, exP] at hk ⊢; grind) Casts.refl (by kernel_rfl) rfl rfl rfl ?_
 refine bu_ [.blk b6 26 (core1.cells.map .v), .blk b3 44 ask0, .pc (tmPc rm intK intOk pE (rmL r)), .pc (tmPc cm intK intOk pE [((4 : Int), some ca)]), .blk cr 97 [.v (.slice none 0 0)], own 143 6 (.slice none 0 0) [], .blk ca 126 [bkI p, int 4, int 4, int 0, .v (.pointer none), .v (.slice none 0 0)]] (fun z31 => [.blk ca 126 [bkI p, int 4, int 4, int 0, .v (.pointer none), .v (.slice none 0 0)], wb p bd bt (N + 28), .blk c 74 [bkI p, int 4, int 5, mapV rm, mapV cm, ptr cr, mapV em, .v (.slice none 0 0)], .blk b6 26 (core1.cells.map .v), .blk b3 44 ask0, .pc (tmPc rm intK intOk pE (rmL r)), .pc (tmPc cm intK intOk pE [((4 : Int), some ca)]), .blk cr 97 [.v (.slice none 0 0)], own 143 6 (.slice none 0 0) [], .pc (tmPc em wdV wdOk boo z31.2)]) (by rw [List.perm_iff_count]; intro a; simp only [mids, It.mids, List.flatMap_cons, List.flatMap_nil, List.append_nil, List.nil_append, List.count_append, List.count_cons, List.count_nil, List.cons_append]; omega) (by intro x hx; simp only [List.mem_cons, List.not_mem_nil, or_false] at hx; rcases hx with rfl | rfl | rfl | rfl <;> first | exact .inl ⟨(by repeat first|assumption|exact m0_|apply m1_), rfl⟩ | exact .inr ⟨_, List.mem_cons_self, rfl⟩ | exact .inr ⟨_, (List.mem_cons_of_mem _ List.mem_cons_self), rfl⟩ | exact .inr ⟨_, (List.mem_cons_of_mem _ (List.mem_cons_of_mem _ List.mem_cons_self)), rfl⟩ | exact .inr ⟨_, (List.mem_cons_of_mem _ (List.mem_cons_of_mem _ (List.mem_cons_of_mem _ List.mem_cons_self))), rfl⟩ | exact .inr ⟨_, (List.mem_cons_of_mem _ (List.mem_cons_of_mem _ (List.mem_cons_of_mem _ (List.mem_cons_of_mem _ List.mem_cons_self)))), rfl⟩ | exact .inr ⟨_, (List.mem_cons_of_mem _ (List.mem_cons_of_mem _ (List.mem_cons_of_mem _ (List.mem_cons_of_mem _ (List.mem_cons_of_mem _ List.mem_cons_self))))), rfl⟩ | exact .inr ⟨_, (List.mem_cons_of_mem _ (List.mem_cons_of_mem _ (List.mem_cons_of_mem _ (List.mem_cons_of_mem _ (List.mem_cons_of_mem _ (List.mem_cons_of_mem _ List.mem_cons_self)))))), rfl⟩) (by intro x hx; simp only [List.mem_cons, List.not_mem_nil, or_false] at hx; rcases hx with rfl | rfl | rfl | rfl | rfl | rfl | rfl <;> repeat first|assumption|exact m0_|apply m1_) (fun _ => (by repeat (first | exact List.Perm.nil | refine pk_ (by repeat (first | exact Rem_.here | apply Rem_.there)) ?_))) ?_
 intro z31
 refine X_ (by intro k hk; simp only [List.mem_cons, List.not_mem_nil, or_false] at hk; rcases hk with rfl | rfl | rfl | rfl | rfl | rfl <;> simp [mids, It.mids, ownPc, mapPc, tmPc, wbP, exP, blkP, Value.ownBlock]) fun hx9 => ?_
 refine j_ rfl (i_ (C := endsA z31.1.1) (eY_ tabOk rfl rfl rfl rfl rfl) rfl) hx9 rfl rfl<|cv_ ([]) rfl (cask_s (c := ca) (p := p) (bd := bd) (bt := bt) (N := N + 28) (es := z31.1.1) z31.1.2 (by omega)) (by intro k hk; simp [mids, It.mids, tmPc, wbP, exP] at hk ⊢; grind) (by intro k hk; cases hk) Casts.refl (by kernel_rfl) rfl rfl rfl ?_
 refine M_ [] (β := _) rfl (by intro x hx; simp only [List.mem_cons, List.not_mem_nil, or_false] at hx; rcases hx with rfl | rfl <;> rfl) ?_
 intro z33
 refine qs_ 5 rfl<|C_<|b_<|c_<|c_<|a_<|q_ 2 rfl<|g_<|b_<|n_ rfl (by intro hc37; exfalso; omega) ?_
 intro hc37
 refine s_<|b_<|c_<|aO_ 26 7<|ah_ (mids [own 26 7 (.slice none 0 0) []] ++ []) (.q 0 (.q 1 (.q 2 (.q 3 (.q 4 (.q 5 (.e 6 (.e 7 (.q 8 (.q 9 .nil)))))))))) (by kernel_rfl) (by kernel_rfl) ?_
 refine hx_ fun hx9 =>qx_ 4 hx9 rfl<|j_ rfl (i_ (C := .v (.slice none 0 0)) (h_ tabOk rfl rfl l2_ (by simp [mids, It.mids, ownPc, Value.ownBlock]) rfl) rfl) hx9 rfl rfl ?_
 refine j_ rfl (i_ (C := coreA core1) (y_ tabOk rfl rfl rfl l3_ (by simp [mids, It.mids, ownPc, Value.ownBlock]) rfl) rfl) hx9 rfl rfl ?_
 refine ex_ rfl (ac_ tabOk Tryz.underlying51 rfl rfl rfl (aS_ rfl) rfl rfl rfl) (by simp) rfl rfl ?_
 refine ch_ [own 26 7 (.slice none 0 0) []] [] rfl (K_ (zs := [core1.cells.map .v]) tabOk [] rfl Tryz.underlying51 rfl rfl rfl rfl rfl rfl (by intro c hc; rw [List.mem_singleton] at hc; subst hc; rfl) (by unfold maxLen; simp only [List.length_cons, List.length_nil]; omega) (by rw [show Tryz.prog.bytesOf 26 = 72 by kernel_rfl]; simp only [List.length_cons, List.length_nil]; omega)) rfl (by intro k hk; simp [mids, It.mids, ownPc] at hk ⊢; simp [hk]) rfl rfl ?_
 rintro _ _ ⟨r46, rfl, rfl⟩
 refine ⟨[own 26 7 r46 [core1.cells.map .v]], rfl, hx_ fun hx9 =>qx_ 2 hx9 rfl<|C_<|ao_ rfl (az_ (L' := [bkI p, int 4, int 5, mapV rm, mapV cm, ptr cr, mapV em, .v r46]) tabOk rfl rfl rfl rfl i0_ u2_ rfl (by rfl)) rfl rfl ?_⟩
 rintro _ _ ⟨rfl, rfl⟩
 refine b_<|c_ ?_
 have hps : ∀ m ∈ parcels z33.1 (allN 4), m.length = 5 ∧ ones m = true := by
  intro x hx
  obtain ⟨w, _, rfl⟩ := List.mem_map.1 hx
  exact ⟨rfl, rfl⟩
 refine aw_ (p := c ∉ mids [.blk cr 97 [.v (.slice none 0 0)], own 143 6 (.slice none 0 0) []] ∧ b3 ∉ mids [.blk cr 97 [.v (.slice none 0 0)], own 143 6 (.slice none 0 0) []]) (fun _ _ h => by
   have h1 := h.mem.nodup
   refine ⟨?_, ?_⟩ <;> (intro hm; simp [mids, It.mids, ownPc, Value.ownBlock] at hm; subst hm; simp [mids, It.mids, ownPc, mapPc, tmPc, wbP, exP, Value.ownBlock] at h1; exact absurd (List.nodup_append.1 h1).2.1 (by simp))) fun hX => ?_
 refine T_ (mids [.blk cr 97 [.v (.slice none 0 0)], own 143 6 (.slice none 0 0) []]) (.q 0 (.q 1 (.q 2 (.q 3 (.q 4 (.q 5 (.q 6 (.e 7 .nil)))))))) (by kernel_rfl) (by kernel_rfl) ?_
 refine X_ (by (intro k hk; simp [mids, It.mids, ownPc, mapPc, tmPc, wbP, exP] at hk ⊢; grind)) fun hx9 => ?_
 refine qx_ 3 hx9 rfl<|j_ rfl (i_ (C := ptr cr) (h_ tabOk rfl rfl l2_ (by exact hX.1) rfl) rfl) hx9 rfl rfl ?_
 refine qx_ 1 hx9 rfl<|j_ rfl (i_ (C := int 4) (h_ tabOk rfl rfl l4_ (by exact hX.2) rfl) rfl) hx9 rfl rfl ?_
 refine qx_ 1 hx9 rfl<|H_ rfl (jx_ (c := cr) (v := .slice none 0 0) (rows := []) (from_ := 4) (ps := parcels z33.1 (allN 4)) hps (by simp [parcels, alN4])) (by intro k hk; exact hk) Casts.refl (by kernel_rfl) rfl rfl rfl ?_
 refine bu_ [own 26 7 r46 [core1.cells.map .v], wb p bd bt (N + 28 + 4), .blk c 74 [bkI p, int 4, int 5, mapV rm, mapV cm, ptr cr, mapV em, .v r46], .blk b6 26 (core1.cells.map .v), .blk b3 44 ask0, .pc (tmPc rm intK intOk pE (rmL r)), .pc (tmPc cm intK intOk pE [((4 : Int), some ca)]), .pc (tmPc em wdV wdOk boo z31.2)] (fun v56 => [wb p bd bt (N + 28 + 4), .blk c 74 [bkI p, int 4, int 5, mapV rm, mapV cm, ptr cr, mapV em, .v r46], .pc (tmPc rm intK intOk pE (rmL r)), .pc (tmPc cm intK intOk pE [((4 : Int), some ca)]), .blk cr 97 [.v v56], own 143 6 v56 ([] ++ (parcels z33.1 (allN 4)).map fun m => int 4 :: m), .pc (tmPc em wdV wdOk boo z31.2), own 26 7 r46 [core1.cells.map .v], .blk b6 26 (core1.cells.map .v), .blk b3 44 ask0]) (by rw [List.perm_iff_count]; intro a; simp only [mids, It.mids, List.flatMap_cons, List.flatMap_nil, List.append_nil, List.nil_append, List.count_append, List.count_cons, List.count_nil, List.cons_append]; omega) (by intro x hx; simp only [List.mem_cons, List.not_mem_nil, or_false] at hx; rcases hx with rfl | rfl <;> exact .inl ⟨(by repeat first|assumption|exact m0_|apply m1_), rfl⟩) (by intro x hx; simp only [List.mem_cons, List.not_mem_nil, or_false] at hx; rcases hx with rfl | rfl | rfl | rfl | rfl | rfl | rfl | rfl <;> repeat first|assumption|exact m0_|apply m1_) (fun _ => (by repeat (first | exact List.Perm.nil | refine pk_ (by repeat (first | exact Rem_.here | apply Rem_.there)) ?_))) ?_
 intro v56
 exact C_<|b_<|c_<|a_<|q_ 1 rfl<|g_<|b_<|o_<|f_ (rs := [.tmp 4]) rfl (RV.tmp rfl RV.nil) ((r46, z33, v56, z31.2)) (sc_ (sc_ (sc_ (sc_ (sc_ (sc_ (sc_ (sc_ sn_))))))))<|rfl
end
def xk : Nat → Int
  | 0 => 7
  | 1 => 8070950887952051652
  | _ => 8698583309276795107
def scr : Nat → List (List Abs)
  | 0 => [ask0]
  | 1 => [ask0, deliver0]
  | _ => [ask0, deliver0, deliver0]
theorem scr_succ : ∀ {k : Nat}, k < 2 → scr k ++ [deliver0] = scr (k + 1)
  | 0, _ => rfl
  | 1, _ => rfl
theorem gv_ : ∀ {k : Nat}, k ≤ 2 → (scr k).length = k + 1
  | 0, _ => rfl
  | 1, _ => rfl
  | 2, _ => rfl
def nmL : List Abs := [.v (.string ⟨#[63]⟩), .v (.string ⟨#[115, 105, 108, 101, 110, 99, 101]⟩), .v (.string ⟨#[102, 97, 99, 101, 115]⟩), .v (.string ⟨#[118, 111, 116, 101, 115]⟩), .v (.string ⟨#[118, 111, 117, 99, 104, 101, 115]⟩), .v (.string ⟨#[99, 104, 97, 110, 103, 101, 115]⟩), .v (.string ⟨#[115, 116, 111, 114, 109]⟩)]
section
variable {c p bd bt rm cm cr em N ca i k : Nat} {av cv : Value} {r : Nat → Nat} {x : Int}
theorem stepk_s : ∀ {k : Nat}, k < 2 → Spec Tryz.prog 18 [ptr p, int 1] [.blk p 87 (plL (xk k) hon0)] (fun _ : Unit => [.blk p 87 (plL (xk (k + 1)) hon0)]) (fun _ => .agg deliver0)
  | 0, _ => step0_s
  | 1, _ => step2_s
theorem clc_s {xs : List (List Abs)} (h1 : ∀ c ∈ xs, ones c = true) (hn : xs.length ≤ 1000000) : Spec Tryz.prog 22 [.sl 7 xs] [] (fun _ : Unit => []) (fun _ => .sl 7 xs) := by
 refine t_ Tryz.func22 rfl Tryz.ntmps22 rfl fun G w =>c_<|a_<|q_ 1 rfl<|g_<|b_<|c_<|c_<|a_<|q_ 1 rfl<|bH_ Tryz.underlying51 rfl rfl rfl<|fun b hb=>g_<|b_<|ay_ rfl ?_ ?_
 ·intro hc4
  have hnil : xs = [] := hb hc4
  subst hnil
  refine c_<|a_<|q_ 1 rfl<|g_<|b_<|o_<|k_ nofun<|ci_ (rs := [.tmp 2]) rfl (RV.tmp rfl RV.nil) (Casts.nils (s := 7) Casts.refl) () sn_ (by simp [It.rids]) rfl
 intro hc4
 refine s_<|b_<|c_<|a_<|eb_ (as_ tabOk Tryz.underlying51 rfl rfl rfl rfl rfl rfl rfl) rfl rfl fun r5=>?_
 refine q_ 1 rfl<|eb_ (K_ (zs := xs) tabOk [] rfl Tryz.underlying51 rfl rfl rfl rfl rfl rfl h1 (by unfold maxLen; simp only [List.length_nil]; omega) (by rw [show Tryz.prog.bytesOf 26 = 72 by kernel_rfl]; simp only [List.length_nil]; omega)) rfl rfl fun r7=>?_
 exact q_ 1 rfl<|g_<|b_<|o_<|a8_ [] (t := 2) rfl rfl<|f_ (rs := [.tmp 2]) rfl (RV.tmp rfl RV.nil) (()) sn_<|rfl
theorem casked_s  : Spec Tryz.prog 13 [ptr c] [.blk c 74 [bkI p, int 4, int 5, mapV rm, mapV cm, ptr cr, mapV em, .v av], own 26 7 av [core1.cells.map .v]] (fun _ : Unit => []) (fun _ => .sl 7 [core1.cells.map .v]) := by
 refine t_ Tryz.func13 rfl Tryz.ntmps13 rfl fun G w =>c_<|a_<|q_ 1 rfl<|g_<|b_<|c_<|c_<|a_<|q_ 1 rfl<|d_ (ax_ rfl rfl (by kernel_rfl)) rfl rfl ?_
 refine g_<|b_<|I_ rfl<|s_<|b_<|c_<|bR_ [_] 7 rfl u0_ rfl<|a_<|q_ 3 rfl<|d_ (i_ (C := .sl 7 [core1.cells.map .v]) (h_ tabOk rfl rfl l0_ List.not_mem_nil rfl) rfl) rfl rfl<|m_ (clc_s (xs := [core1.cells.map .v]) (by intro c hc; rw [List.mem_singleton] at hc; subst hc; rfl) (by simp)) Casts.refl (by kernel_rfl) rfl rfl rfl ?_
 exact ap_<|fun _=>q_ 1 rfl<|g_<|b_<|o_<|f_ (rs := [.tmp 2]) rfl (RV.tmp rfl RV.nil) (()) sn_<|rfl
theorem cstepa_s (hN : N ≤ 900) : Spec Tryz.prog 19 [ptr c, .agg ask0] [wb p bd bt N, .blk c 74 [bkI p, int 4, int 5, mapV rm, mapV cm, ptr cr, mapV em, .v (.slice none 0 0)], .pc (tmPc rm intK intOk pE (rmL r)), .pc (tmPc cm intK intOk pE [((4 : Int), some ca)]), .blk cr 97 [.v (.slice none 0 0)], own 143 6 (.slice none 0 0) [], .pc (tmPc em wdV wdOk boo []), .blk ca 126 [bkI p, int 4, int 4, int 0, .v (.pointer none), .v (.slice none 0 0)]] (fun z : Value × {m : Msg // MsOk m} × Value × List ((Int × List UInt8) × Bool) => [wb p bd bt (N + 32), .blk c 74 [bkI p, int 4, int 5, mapV rm, mapV cm, ptr cr, mapV em, .v z.1], .pc (tmPc rm intK intOk pE (rmL r)), .pc (tmPc cm intK intOk pE [((4 : Int), some ca)]), .blk cr 97 [.v z.2.2.1], own 143 6 z.2.2.1 ((parcels z.2.1.1 (allN 4)).map fun x => int 4 :: x), .pc (tmPc em wdV wdOk boo z.2.2.2), own 26 7 z.1 [core1.cells.map .v]]) (fun _ => int 0) := by
 refine t_ Tryz.func19 rfl Tryz.ntmps19 rfl fun G w =>c_<|a_<|eb_ (z_ (cs := ask0) rfl) rfl rfl fun b3=>?_
 refine q_ 1 rfl<|g_<|b_<|c_<|c_<|a_<|q_ 1 rfl<|d_ (ax_ rfl rfl (by kernel_rfl)) rfl rfl ?_
 refine g_<|b_<|I_ rfl<|s_<|b_<|c_<|c_<|a_<|q_ 1 rfl<|d_ (i_ (C := int 1) (h_ tabOk rfl rfl l0_ List.not_mem_nil rfl) rfl) rfl rfl<|g_<|b_<|w_<|c_<|a_<|q_ 2 rfl<|g_<|b_<|n_ rfl ?_ (by intro hc9; exfalso; omega)
 intro hc9
 refine c_<|a_<|q_ 1 rfl<|d_ (i_ (C := .agg ask0) (y_ tabOk rfl rfl rfl l0_ List.not_mem_nil rfl) rfl) rfl rfl<|m_ (cask0_s (c := c) (p := p) (bd := bd) (bt := bt) (rm := rm) (cm := cm) (cr := cr) (em := em) (N := N) (ca := ca) (r := r) hN) Casts.refl (by kernel_rfl) rfl rfl rfl ?_
 refine M_ [_] (β := []) rfl (by intro x hx; simp only [List.mem_cons, List.not_mem_nil, or_false] at hx; rcases hx with rfl | rfl | rfl | rfl | rfl | rfl | rfl | rfl <;> rfl) ?_
 intro z13
 exact q_ 1 rfl<|g_<|b_<|o_<|aF_<|k_ nofun<|f_ (rs := [.tmp 4]) rfl (RV.tmp rfl RV.nil) (z13) (sk_ sr_)<|rfl
set_option maxHeartbeats 4000000 in
theorem g7_  : Spec Tryz.prog 7 [int 1, .agg set0, .agg core0, .v (.int .u64 7), int 3] [] (fun _ : Unit => []) (fun _ => .tup [.sl 17 (scr 2), int 0]) := by
 refine t_ Tryz.func7 rfl Tryz.ntmps7 rfl fun G w =>c_<|a_<|eb_ (z_ (cs := set0) rfl) rfl rfl fun b6=>?_
 refine eb_ (z_ (cs := core0) rfl) rfl rfl fun b7=>?_
 refine q_ 2 rfl<|g_<|b_<|c_<|c_<|a_<|q_ 3 rfl<|D_ (t := 18) rfl (by intro hc18; exfalso; omega) ?_
 intro hc18
 refine q_ 4 rfl<|D_ (t := 22) rfl (by intro hc22; exfalso; omega) ?_
 intro hc22
 refine q_ 4 rfl<|D_ (t := 26) rfl (by intro hc26; exfalso; omega) ?_
 intro hc26
 refine q_ 3 rfl<|g_<|b_<|n_ rfl (by intro hc29; exfalso; omega) ?_
 intro hc29
 refine s_<|b_<|c_<|c_<|T_ [] (.q 2 (.e 0 (.q 1 (.e 3 (.q 4 (.q 5 (.q 6 (.q 7 (.q 8 .nil))))))))) (by kernel_rfl) (by kernel_rfl) ?_
 refine X_ (by (simp [mids, It.mids, ownPc, mapPc, tmPc, wbP, exP]; done)) fun hx9 => ?_
 refine j_ rfl (i_ (C := .agg set0) (y_ tabOk rfl rfl rfl l1_ List.not_mem_nil rfl) rfl) hx9 rfl rfl<|cw_ rfl (wnew_s) (by simp [mids, It.mids]) Casts.refl (by kernel_rfl) rfl rfl rfl ?_
 refine Y_ (by repeat (first | exact Reads.nil | (refine Reads.blk ?_ ?_; focus ((repeat first|assumption|exact m0_|apply m1_); done)) | (refine Reads.rd ?_ ?_; focus ((repeat first|assumption|exact m0_|apply m1_); done)) | (refine Reads.pc ?_ ?_; focus ((repeat first|assumption|exact m0_|apply m1_); done)) | (refine Reads.rdpc ?_ ?_; focus ((repeat first|assumption|exact m0_|apply m1_); done)))) (fun _ => rfl) ?_
 intro z31
 refine X_ (by (simp [mids, It.mids, ownPc, mapPc, tmPc, wbP, exP]; done)) fun hx9 => ?_
 refine j_ rfl (b3_ rfl (fun _ _ => by kernel_rfl)) hx9 rfl rfl ?_
 refine cv_ ([]) rfl (jC_ (p := z31.1) (bd := z31.2.1) (bt := z31.2.2) (N := 0) (by omega)) (by intro k hk; exact List.mem_append_left _ hk) (by intro k hk; cases hk) Casts.refl (by kernel_rfl) rfl rfl rfl ?_
 refine M_ [] (β := _) rfl (by intro x hx; simp only [List.mem_cons, List.not_mem_nil, or_false] at hx; rcases hx with rfl; rfl) ?_
 intro z34
 refine qs_ 5 rfl<|C_<|b_<|c_<|a_<|q_ 2 rfl<|g_<|b_<|n_ rfl (by intro hc38; exfalso; omega) ?_
 intro hc38
 refine s_<|b_<|c_<|a_<|d_ (i_ (C := .agg set0) (y_ tabOk rfl rfl rfl (by (apply Or.inl; (repeat first|assumption|exact m0_|apply m1_); done)) List.not_mem_nil rfl) rfl) rfl rfl ?_
 refine d_ (i_ (C := .agg core0) (y_ tabOk rfl rfl rfl l9_ List.not_mem_nil rfl) rfl) rfl rfl<|q_ 1 rfl<|m_ (jd_) Casts.refl (by kernel_rfl) rfl rfl rfl ?_
 refine Y_ (by repeat (first | exact Reads.nil | (refine Reads.blk ?_ ?_; focus ((repeat first|assumption|exact m0_|apply m1_); done)) | (refine Reads.rd ?_ ?_; focus ((repeat first|assumption|exact m0_|apply m1_); done)) | (refine Reads.pc ?_ ?_; focus ((repeat first|assumption|exact m0_|apply m1_); done)) | (refine Reads.rdpc ?_ ?_; focus ((repeat first|assumption|exact m0_|apply m1_); done)))) (fun _ => rfl) ?_
 intro z43
 refine q_ 1 rfl<|g_<|b_<|c_<|a_<|q_ 1 rfl<|m_ (asks_s (p := z43)) Casts.refl (by kernel_rfl) rfl rfl rfl ?_
 refine M_ [] (β := _) rfl (by intro x hx; simp only [List.mem_cons, List.not_mem_nil, or_false] at hx; rcases hx with rfl; rfl) ?_
 intro z45
 refine q_ 1 rfl<|g_<|b_<|c_<|w_<|S_ (ι := Nat × Value) (fun z => [own 44 17 z.2 (scr z.1), .blk z43 87 (plL (xk z.1) hon0)]) (fun z => [(0, int 1), (4, int 3), (14, ptr z43), (15, .v z.2)]) (fun z => z.1 ≤ 2) (fun z => 2 - z.1) (0, z45) (Nat.zero_le _) (by exact ⟨rfl, rfl, rfl, rfl, trivial⟩) (sc_ (sc_ sn_)) ?_
 intro z hz
 refine c_<|c_<|a_<|q_ 1 rfl<|d_ (aG_ (m := z.1 + 1) rfl i0_ Tryz.underlying30 (gv_ hz)) rfl rfl<|q_ 2 rfl<|g_<|b_<|n_ rfl ?_ ?_
 ·intro hc49
  have hk2 : z.1 < 2 := by omega
  refine s_<|b_<|w_<|a_<|q_ 3 rfl<|m_ (stepk_s (p := z43) (k := z.1) hk2) Casts.refl (by kernel_rfl) rfl rfl rfl ?_
  refine Q_ rfl i1_ (fun _ => rfl)<|fun _=>⟨_, u1_, e_ (ac_ tabOk Tryz.underlying30 rfl rfl rfl (aS_ rfl) rfl rfl rfl) rfl rfl<|eb_ (K_ (zs := scr (z.1 + 1)) tabOk [] (scr_succ hk2) Tryz.underlying30 rfl rfl rfl rfl rfl rfl (by intro c hc; rw [List.mem_singleton] at hc; subst hc; rfl) (by unfold maxLen; rw [gv_ (by omega)]; simp only [List.length_cons, List.length_nil]; omega) (by rw [show Tryz.prog.bytesOf 44 = 200 by kernel_rfl, gv_ (by omega)]; simp only [List.length_cons, List.length_nil]; omega)) rfl rfl fun r55=>?_⟩
  refine q_ 1 rfl<|g_<|A_<|J_ (z.1 + 1, r55) (by omega) ((by dsimp only; omega)) (by exact ⟨rfl, rfl, rfl, rfl, trivial⟩) sr_
 intro hc49
 have hk2 : z.1 = 2 := by omega
 refine O_<|k_ nofun<|k_ nofun<|N_<|b_<|c_ ?_
 rw [hk2]
 refine bj_ [] (t := 15) rfl rfl<|a_<|q_ 2 rfl<|d_ (i_ (C := .sl 17 (scr 2)) (cI_ (q := 3) tabOk Tryz.underlying30 rfl rfl rfl rfl rfl (by decide)) rfl) rfl rfl ?_
 exact q_ 2 rfl<|g_<|b_<|o_<|f_ (rs := [.tmp 10, .tmp 11]) rfl (RV.tmp rfl (RV.tmp rfl RV.nil)) (()) sn_<|rfl
end
def nmF (k : Int) : ByteArray := if k < 1 ∨ 6 < k then ⟨#[63]⟩ else match k.toNat with
  | 1 => ⟨#[115, 105, 108, 101, 110, 99, 101]⟩
  | 2 => ⟨#[102, 97, 99, 101, 115]⟩
  | 3 => ⟨#[118, 111, 116, 101, 115]⟩
  | 4 => ⟨#[118, 111, 117, 99, 104, 101, 115]⟩
  | 5 => ⟨#[99, 104, 97, 110, 103, 101, 115]⟩
  | _ => ⟨#[115, 116, 111, 114, 109]⟩
theorem nm_at : ∀ {q : Nat}, 1 ≤ q → q ≤ 6 → nmL[0 + q * 1]? = some (.v (.string (nmF (q : Int))))
  | 1, _, _ => rfl
  | 2, _, _ => rfl
  | 3, _, _ => rfl
  | 4, _, _ => rfl
  | 5, _, _ => rfl
  | 6, _, _ => rfl
def nm6 : List (List Abs) := [[.v (.string ⟨#[115, 105, 108, 101, 110, 99, 101]⟩)], [.v (.string ⟨#[102, 97, 99, 101, 115]⟩)], [.v (.string ⟨#[118, 111, 116, 101, 115]⟩)], [.v (.string ⟨#[118, 111, 117, 99, 104, 101, 115]⟩)], [.v (.string ⟨#[99, 104, 97, 110, 103, 101, 115]⟩)], [.v (.string ⟨#[115, 116, 111, 114, 109]⟩)]]
theorem nm6_at : ∀ {q : Nat}, q < 6 → nm6[q]? = some [.v (.string (nmF ((q : Int) + 1)))]
  | 0, _ => rfl
  | 1, _ => rfl
  | 2, _ => rfl
  | 3, _ => rfl
  | 4, _ => rfl
  | 5, _ => rfl
def wF (k : Int) (z : Nat) : ByteArray := if 1 ≤ k ∧ k ≤ (z : Int) then nmF k else ⟨#[63]⟩
theorem wF_end {k : Int} : wF k 6 = nmF k := by
  unfold wF nmF
  by_cases h : 1 ≤ k ∧ k ≤ ((6 : Nat) : Int)
  · rw [if_pos h]
  · rw [if_neg h, if_pos (by omega)]
theorem wF_yes {k : Int} {z : Nat} (h : k = (z : Int) + 1) : wF k (z + 1) = nmF ((z : Int) + 1) := by
  unfold wF
  rw [if_pos (by omega), h]
theorem wF_no {k : Int} {z : Nat} (h : ¬ k = (z : Int) + 1) : wF k (z + 1) = wF k z := by
  unfold wF
  by_cases h2 : 1 ≤ k ∧ k ≤ (z : Int)
  · rw [if_pos h2, if_pos (by omega)]
  · rw [if_neg h2, if_neg (by omega)]
theorem g0_ {k : Int} {z : Nat} (hk : InR .i64 k) (hz : z < 6) : IntKind.i64.wrap (k - 1) = ((z : Nat) : Int) ↔ k = (z : Int) + 1 := by
  simp only [InR, lo, hi] at hk
  by_cases h : k = -9223372036854775808
  · subst h
    rw [show IntKind.i64.wrap (-9223372036854775808 - 1) = 9223372036854775807 from by decide]
    omega
  · rw [ca_ ⟨by simp only [lo]; omega, by simp only [hi]; omega⟩]
    omega
section
variable {k : Int}
theorem name_s  : Spec Tryz.prog 12 [int k] [] (fun _ : Unit => []) (fun _ => .v (.string (nmF k))) := by
 refine t_ Tryz.func12 rfl Tryz.ntmps12 rfl fun G w =>c_<|a_<|q_ 1 rfl<|g_<|b_<|c_<|a_<|d_ (i_ (C := .agg nmL) (cu_ tabOk rfl rfl rfl rfl) rfl) rfl rfl<|eb_ (F_ tabOk rfl) rfl rfl fun b3=>?_
 refine e_ (p_ (L' := nmL) tabOk rfl rfl rfl u0_ rfl (Nat.le_of_ble_eq_true rfl) rfl (by exact x_ rfl)) rfl rfl ?_
 refine g_<|b_<|c_<|c_<|a_<|q_ 3 rfl<|D_ (t := 7) rfl ?_ ?_
 ·intro hc7
  refine q_ 3 rfl<|g_<|b_<|ab_ rfl<|c_<|a_<|d_ (cg_ (q := 0) tabOk Tryz.underlying65 rfl rfl rfl rfl (by decide) rfl) rfl rfl ?_
  refine d_ (i_ (C := .v (.string ⟨#[63]⟩)) (h_ tabOk rfl rfl l0_ List.not_mem_nil rfl) rfl) rfl rfl<|q_ 1 rfl<|g_<|b_<|o_<|k_ nofun<|f_ (rs := [.tmp 2]) rfl (RV.tmp rfl RV.nil) (()) sn_ ?_
  show Abs.v (.string _) = _
  unfold nmF
  rw [if_pos (by omega)]
 intro hc7
 refine q_ 3 rfl<|g_<|b_<|n_ rfl ?_ ?_
 ·intro hc10
  refine c_<|a_<|d_ (cg_ (q := 0) tabOk Tryz.underlying65 rfl rfl rfl rfl (by decide) rfl) rfl rfl ?_
  refine d_ (i_ (C := .v (.string ⟨#[63]⟩)) (h_ tabOk rfl rfl l0_ List.not_mem_nil rfl) rfl) rfl rfl<|q_ 1 rfl<|g_<|b_<|o_<|k_ nofun<|f_ (rs := [.tmp 2]) rfl (RV.tmp rfl RV.nil) (()) sn_ ?_
  show Abs.v (.string _) = _
  unfold nmF
  rw [if_pos (by omega)]
 intro hc10
 refine s_<|b_<|c_<|a_<|q_ 1 rfl<|d_ (cg_ (q := k.toNat) tabOk Tryz.underlying65 rfl rfl rfl (by omega) (by omega) rfl) rfl rfl ?_
 refine d_ (i_ (C := .v (.string (nmF (k.toNat : Int)))) (h_ tabOk rfl rfl l0_ List.not_mem_nil (nm_at (by omega) (by omega))) rfl) rfl rfl ?_
 refine q_ 1 rfl<|g_<|b_<|o_<|f_ (rs := [.tmp 2]) rfl (RV.tmp rfl RV.nil) (()) sn_ ?_
 rw [Int.toNat_of_nonneg (by omega)]
 rfl
set_option maxHeartbeats 1000000 in
theorem names_s (hk : InR .i64 k) (hfix : Spec Tryz.prog 5 [] [] (fun _ : Unit => []) (fun _ => boo true)) : Spec Tryz.prog 4 [int k] [] (fun _ : Unit => []) (fun _ => boo true) := by
 refine t_ Tryz.func4 rfl Tryz.ntmps4 rfl fun G w =>c_<|a_<|q_ 1 rfl<|g_<|b_<|c_<|c_<|a_<|m_ (hfix) Casts.refl (by kernel_rfl) rfl rfl rfl ?_
 refine ap_<|fun _=>d_ (bb_ rfl) rfl rfl<|g_<|b_<|I_ rfl<|s_<|b_<|c_<|a_<|q_ 1 rfl<|g_<|b_<|c_<|c_<|a_<|e_ (ac_ tabOk Tryz.underlying48 rfl rfl rfl rfl rfl rfl rfl) rfl rfl<|d_ (P_ (m := 6) rfl Tryz.underlying48 rfl) rfl rfl<|q_ 1 rfl<|g_<|b_<|w_<|S_ (ι := Nat × ByteArray) (fun z => []) (fun z => [(0, int k), (3, .v (.string z.2)), (8, .sl 1 nm6), (9, int (6 : Nat)), (10, int (z.1 : Nat))]) (fun z => z.1 ≤ 6 ∧ z.2 = wF k z.1) (fun z => 6 - z.1) (0, ⟨#[63]⟩) (⟨Nat.zero_le _, by unfold wF; rw [if_neg (by omega)]⟩) (by exact ⟨rfl, rfl, rfl, rfl, rfl, trivial⟩) sn_ ?_
 intro z hz
 refine c_<|a_<|q_ 1 rfl<|g_<|b_<|c_<|n_ rfl ?_ ?_
 rotate_left
 ·intro hc11
  have hz6 : z.1 = 6 := by omega
  refine O_<|k_ nofun<|k_ nofun<|N_<|b_<|c_<|a_<|q_ 1 rfl<|m_ (name_s (k := k)) Casts.refl (by kernel_rfl) rfl rfl rfl ?_
  refine ap_<|fun _=>q_ 1 rfl<|d_ (gS_ rfl rfl) rfl rfl<|q_ 1 rfl<|g_<|b_<|o_<|f_ (rs := [.tmp 2]) rfl (RV.tmp rfl RV.nil) (()) sn_<|congrArg (fun b => Abs.v (Value.bool b)) (decide_eq_true ?_)
  rw [hz.2, hz6, wF_end]
 intro hc11
 have hz6 : z.1 < 6 := by omega
 refine s_<|b_<|c_<|w_<|c_<|a_<|q_ 1 rfl<|d_ (W_ (q := z.1) (xs := nm6) tabOk Tryz.underlying48 rfl rfl rfl rfl (nm6_at hz6) rfl rfl) rfl rfl<|d_ (i_ (C := .v (.string (nmF ((z.1 : Int) + 1)))) (aI_ tabOk rfl rfl rfl) rfl) rfl rfl<|q_ 2 rfl<|g_<|b_<|c_<|a_<|q_ 1 rfl<|d_ (hK_ rfl rfl) rfl rfl<|q_ 2 rfl<|g_<|b_<|n_ rfl ?_ ?_
 rotate_left
 ·intro hc18
  have hq := fun h => hc18 ((g0_ hk hz6).2 h)
  refine s_<|A_<|b_<|a_<|d_ (E_ rfl rfl (by simp only [InR, lo, hi]; omega)) rfl rfl ?_
  refine q_ 1 rfl<|g_<|J_ (z.1 + 1, z.2) (by omega) ((⟨by dsimp only; omega, hz.2.trans (wF_no hq).symm⟩)) (by exact ⟨rfl, rfl, rfl, rfl, rfl, trivial⟩) sn_
 intro hc18
 have hq := (g0_ hk hz6).1 hc18
 refine a_<|q_ 2 rfl<|g_<|A_<|b_<|a_<|d_ (E_ rfl rfl (by simp only [InR, lo, hi]; omega)) rfl rfl ?_
 refine q_ 1 rfl<|g_<|J_ (z.1 + 1, nmF ((z.1 : Int) + 1)) (by omega) ((⟨by dsimp only; omega, (wF_yes hq).symm⟩)) (by exact ⟨rfl, rfl, rfl, rfl, rfl, trivial⟩) sn_
end
structure PD where
  z : CI
  p : Nat
  bd : Nat
  bt : Nat
  av : Value
  cv : Value
  m : Msg
  rows : List (List Abs)
  EM : List ((Int × List UInt8) × Bool)
def sntA (i : Nat) (m : Msg) : List Abs := int 4 :: int (i : Nat) :: m.abs
theorem Re.cut {xs ys : Blks} (φ : Blks) (h : (ys ++ φ).Perm xs) (hr : ∀ x ∈ xs, x.rids = []) : Re xs ys := ⟨⟨mids φ, by rw [show mids ys ++ mids φ = mids (ys ++ φ) from by simp [mids]]; exact cd_ h.symm⟩, fun y hy => hr y (h.mem_iff.1 (List.mem_append_left _ hy)), fun K w hx y hy => hx y (h.mem_iff.1 (List.mem_append_left _ hy))⟩
theorem ones_par {i : Nat} {ps : List (List Abs)} (h : ParOk 4 ps) : ∀ x ∈ ps.map (fun x => int (i : Nat) :: x), ones x = true := by
  intro x hx
  obtain ⟨y, hy, rfl⟩ := List.mem_map.1 hx
  exact fz_ rfl (h.2 y hy).2
theorem play0 {z : CI} {p bd bt : Nat} : Spec Tryz.prog 19 [ptr z.c, .agg ask0] [wb p bd bt 5, .pc (bigP [rpP p (0, z.R0), rpP p (1, z.R1), rpP p (2, z.R2), rpP p (3, z.R3)]), .blk z.c 74 [bkI p, int 4, int 5, mapV z.rm, mapV z.cm, ptr z.cr, mapV z.em, .v (.slice none 0 0)], .pc (tmPc z.rm intK intOk pE (rmL (r4 z.R0 z.R1 z.R2 z.R3))), .pc (tmPc z.cm intK intOk pE [((4 : Int), some z.ca)]), .blk z.cr 97 [.v (.slice none 0 0)], own 143 6 (.slice none 0 0) [], .pc (tmPc z.em wdV wdOk boo []), .blk z.ca 126 [bkI p, int 4, int 4, int 0, .v (.pointer none), .v (.slice none 0 0)]] (fun y : Value × {m : Msg // MsOk m} × Value × List ((Int × List UInt8) × Bool) => [wb p bd bt 37, .pc (bigP [rpP p (0, z.R0), rpP p (1, z.R1), rpP p (2, z.R2), rpP p (3, z.R3)]), .blk z.c 74 [bkI p, int 4, int 5, mapV z.rm, mapV z.cm, ptr z.cr, mapV z.em, .v y.1], .pc (tmPc z.rm intK intOk pE (rmL (r4 z.R0 z.R1 z.R2 z.R3))), .pc (tmPc z.cm intK intOk pE [((4 : Int), some z.ca)]), .blk z.cr 97 [.v y.2.2.1], own 143 6 y.2.2.1 ((parcels y.2.1.1 (allN 4)).map fun x => int 4 :: x), own 26 7 y.1 [core1.cells.map .v]]) (fun _ => int 0) :=
  Spec.reg (φ := [.pc (bigP [rpP p (0, z.R0), rpP p (1, z.R1), rpP p (2, z.R2), rpP p (3, z.R3)])]) (cstepa_s (c := z.c) (p := p) (bd := bd) (bt := bt) (rm := z.rm) (cm := z.cm) (cr := z.cr) (em := z.em) (N := 5) (ca := z.ca) (r := r4 z.R0 z.R1 z.R2 z.R3) (by omega)) (ar_ rfl)
    (Re.perm (by repeat (first | exact List.Perm.nil | refine pk_ (by repeat (first | exact Rem_.here | apply Rem_.there)) ?_)) (ar_ rfl)) fun y => Re.cut [.pc (tmPc z.em wdV wdOk boo y.2.2.2)] (by repeat (first | exact List.Perm.nil | refine pk_ (by repeat (first | exact Rem_.here | apply Rem_.there)) ?_)) (ar_ rfl)
theorem play1 {z : CI} {p bd bt : Nat} {av cv : Value} {m : Msg} {EM : List ((Int × List UInt8) × Bool)} {l : List (List Abs)} (hm : MsOk m) (h1 : 1 ≤ l.length) (hl : l.length ≤ 20) (ho : ∀ x ∈ l, ones x = true) : Spec Tryz.prog 19 [ptr z.c, .agg deliver0] [wb p bd bt 37, .pc (bigP [rpP p (0, z.R0), rpP p (1, z.R1), rpP p (2, z.R2), rpP p (3, z.R3)]), .blk z.c 74 [bkI p, int 4, int 5, mapV z.rm, mapV z.cm, ptr z.cr, mapV z.em, .v av], .pc (tmPc z.rm intK intOk pE (rmL (r4 z.R0 z.R1 z.R2 z.R3))), .pc (tmPc z.cm intK intOk pE [((4 : Int), some z.ca)]), .blk z.cr 97 [.v cv], own 143 6 cv (sntA 0 m :: l), own 26 7 av [core1.cells.map .v]] (fun y : Value × {ps : List (List Abs) // ParOk 4 ps} => [wb p bd bt 57, .pc (bigP [rpP p (1, z.R1), rpP p (2, z.R2), rpP p (3, z.R3)]), .blk z.c 74 [bkI p, int 4, int 5, mapV z.rm, mapV z.cm, ptr z.cr, mapV z.em, .v av], .pc (tmPc z.rm intK intOk pE (rmL (r4 z.R0 z.R1 z.R2 z.R3))), .pc (tmPc z.cm intK intOk pE [((4 : Int), some z.ca)]), .blk z.cr 97 [.v y.1], own 143 6 y.1 (l ++ y.2.1.map fun x => int ((0 : Nat) : Int) :: x), own 26 7 av [core1.cells.map .v]]) (fun _ => int 0) :=
  Spec.reg (xs := [wb p bd bt 37, .pc (bigP ([] ++ rpP p (0, z.R0) :: [rpP p (1, z.R1), rpP p (2, z.R2), rpP p (3, z.R3)])), .blk z.c 74 [bkI p, int 4, int 5, mapV z.rm, mapV z.cm, ptr z.cr, mapV z.em, .v av], .pc (tmPc z.rm intK intOk pE (rmL (r4 z.R0 z.R1 z.R2 z.R3))), .pc (tmPc z.cm intK intOk pE [((4 : Int), some z.ca)]), .blk z.cr 97 [.v cv], own 143 6 cv (sntA 0 m :: l)]) (φ := [own 26 7 av [core1.cells.map .v]]) (hz_ (c := z.c) (p := p) (bd := bd) (bt := bt) (rm := z.rm) (cm := z.cm) (cr := z.cr) (em := z.em) (N := 37) (ca := z.ca) (i := 0) (av := av) (cv := cv) (r := r4 z.R0 z.R1 z.R2 z.R3) (R := z.R0) (m := m) (rows := l) (l1 := []) (l2 := [rpP p (1, z.R1), rpP p (2, z.R2), rpP p (3, z.R3)]) (by omega) rfl hm (by omega) h1 (by omega) ho) (ar_ rfl)
    (Re.perm (xs := [wb p bd bt 37, .pc (bigP [rpP p (0, z.R0), rpP p (1, z.R1), rpP p (2, z.R2), rpP p (3, z.R3)]), .blk z.c 74 [bkI p, int 4, int 5, mapV z.rm, mapV z.cm, ptr z.cr, mapV z.em, .v av], .pc (tmPc z.rm intK intOk pE (rmL (r4 z.R0 z.R1 z.R2 z.R3))), .pc (tmPc z.cm intK intOk pE [((4 : Int), some z.ca)]), .blk z.cr 97 [.v cv], own 143 6 cv (sntA 0 m :: l), own 26 7 av [core1.cells.map .v]]) (ys := [wb p bd bt 37, .pc (bigP ([] ++ rpP p (0, z.R0) :: [rpP p (1, z.R1), rpP p (2, z.R2), rpP p (3, z.R3)])), .blk z.c 74 [bkI p, int 4, int 5, mapV z.rm, mapV z.cm, ptr z.cr, mapV z.em, .v av], .pc (tmPc z.rm intK intOk pE (rmL (r4 z.R0 z.R1 z.R2 z.R3))), .pc (tmPc z.cm intK intOk pE [((4 : Int), some z.ca)]), .blk z.cr 97 [.v cv], own 143 6 cv (sntA 0 m :: l), own 26 7 av [core1.cells.map .v]]) (by repeat (first | exact List.Perm.nil | refine pk_ (by repeat (first | exact Rem_.here | apply Rem_.there)) ?_)) (ar_ rfl)) fun y => Re.cut (xs := [wb p bd bt (37 + 20), .pc (bigP ([] ++ [rpP p (1, z.R1), rpP p (2, z.R2), rpP p (3, z.R3)])), .blk z.c 74 [bkI p, int 4, int 5, mapV z.rm, mapV z.cm, ptr z.cr, mapV z.em, .v av], .pc (tmPc z.rm intK intOk pE (rmL (r4 z.R0 z.R1 z.R2 z.R3))), .pc (tmPc z.cm intK intOk pE [((4 : Int), some z.ca)]), .blk z.cr 97 [.v y.1], own 143 6 y.1 (l ++ y.2.1.map fun x => int ((0 : Nat) : Int) :: x), own 26 7 av [core1.cells.map .v]]) (ys := [wb p bd bt 57, .pc (bigP [rpP p (1, z.R1), rpP p (2, z.R2), rpP p (3, z.R3)]), .blk z.c 74 [bkI p, int 4, int 5, mapV z.rm, mapV z.cm, ptr z.cr, mapV z.em, .v av], .pc (tmPc z.rm intK intOk pE (rmL (r4 z.R0 z.R1 z.R2 z.R3))), .pc (tmPc z.cm intK intOk pE [((4 : Int), some z.ca)]), .blk z.cr 97 [.v y.1], own 143 6 y.1 (l ++ y.2.1.map fun x => int ((0 : Nat) : Int) :: x), own 26 7 av [core1.cells.map .v]]) [] (by repeat (first | exact List.Perm.nil | refine pk_ (by repeat (first | exact Rem_.here | apply Rem_.there)) ?_)) (ar_ rfl)
theorem play2 {z : CI} {p bd bt : Nat} {av cv : Value} {m : Msg} {EM : List ((Int × List UInt8) × Bool)} {l : List (List Abs)} (hm : MsOk m) (h1 : 1 ≤ l.length) (hl : l.length ≤ 20) (ho : ∀ x ∈ l, ones x = true) : Spec Tryz.prog 19 [ptr z.c, .agg deliver0] [wb p bd bt 57, .pc (bigP [rpP p (1, z.R1), rpP p (2, z.R2), rpP p (3, z.R3)]), .blk z.c 74 [bkI p, int 4, int 5, mapV z.rm, mapV z.cm, ptr z.cr, mapV z.em, .v av], .pc (tmPc z.rm intK intOk pE (rmL (r4 z.R0 z.R1 z.R2 z.R3))), .pc (tmPc z.cm intK intOk pE [((4 : Int), some z.ca)]), .blk z.cr 97 [.v cv], own 143 6 cv (sntA 1 m :: l), own 26 7 av [core1.cells.map .v]] (fun y : Value × {ps : List (List Abs) // ParOk 4 ps} => [.blk z.c 74 [bkI p, int 4, int 5, mapV z.rm, mapV z.cm, ptr z.cr, mapV z.em, .v av], .pc (tmPc z.rm intK intOk pE (rmL (r4 z.R0 z.R1 z.R2 z.R3))), .pc (tmPc z.cm intK intOk pE [((4 : Int), some z.ca)]), .blk z.cr 97 [.v y.1], own 143 6 y.1 (l ++ y.2.1.map fun x => int ((1 : Nat) : Int) :: x), own 26 7 av [core1.cells.map .v]]) (fun _ => int 0) :=
  Spec.reg (xs := [wb p bd bt 57, .pc (bigP ([] ++ rpP p (1, z.R1) :: [rpP p (2, z.R2), rpP p (3, z.R3)])), .blk z.c 74 [bkI p, int 4, int 5, mapV z.rm, mapV z.cm, ptr z.cr, mapV z.em, .v av], .pc (tmPc z.rm intK intOk pE (rmL (r4 z.R0 z.R1 z.R2 z.R3))), .pc (tmPc z.cm intK intOk pE [((4 : Int), some z.ca)]), .blk z.cr 97 [.v cv], own 143 6 cv (sntA 1 m :: l)]) (φ := [own 26 7 av [core1.cells.map .v]]) (hz_ (c := z.c) (p := p) (bd := bd) (bt := bt) (rm := z.rm) (cm := z.cm) (cr := z.cr) (em := z.em) (N := 57) (ca := z.ca) (i := 1) (av := av) (cv := cv) (r := r4 z.R0 z.R1 z.R2 z.R3) (R := z.R1) (m := m) (rows := l) (l1 := []) (l2 := [rpP p (2, z.R2), rpP p (3, z.R3)]) (by omega) rfl hm (by omega) h1 (by omega) ho) (ar_ rfl)
    (Re.perm (xs := [wb p bd bt 57, .pc (bigP [rpP p (1, z.R1), rpP p (2, z.R2), rpP p (3, z.R3)]), .blk z.c 74 [bkI p, int 4, int 5, mapV z.rm, mapV z.cm, ptr z.cr, mapV z.em, .v av], .pc (tmPc z.rm intK intOk pE (rmL (r4 z.R0 z.R1 z.R2 z.R3))), .pc (tmPc z.cm intK intOk pE [((4 : Int), some z.ca)]), .blk z.cr 97 [.v cv], own 143 6 cv (sntA 1 m :: l), own 26 7 av [core1.cells.map .v]]) (ys := [wb p bd bt 57, .pc (bigP ([] ++ rpP p (1, z.R1) :: [rpP p (2, z.R2), rpP p (3, z.R3)])), .blk z.c 74 [bkI p, int 4, int 5, mapV z.rm, mapV z.cm, ptr z.cr, mapV z.em, .v av], .pc (tmPc z.rm intK intOk pE (rmL (r4 z.R0 z.R1 z.R2 z.R3))), .pc (tmPc z.cm intK intOk pE [((4 : Int), some z.ca)]), .blk z.cr 97 [.v cv], own 143 6 cv (sntA 1 m :: l), own 26 7 av [core1.cells.map .v]]) (by repeat (first | exact List.Perm.nil | refine pk_ (by repeat (first | exact Rem_.here | apply Rem_.there)) ?_)) (ar_ rfl)) fun y => Re.cut (xs := [wb p bd bt (57 + 20), .pc (bigP ([] ++ [rpP p (2, z.R2), rpP p (3, z.R3)])), .blk z.c 74 [bkI p, int 4, int 5, mapV z.rm, mapV z.cm, ptr z.cr, mapV z.em, .v av], .pc (tmPc z.rm intK intOk pE (rmL (r4 z.R0 z.R1 z.R2 z.R3))), .pc (tmPc z.cm intK intOk pE [((4 : Int), some z.ca)]), .blk z.cr 97 [.v y.1], own 143 6 y.1 (l ++ y.2.1.map fun x => int ((1 : Nat) : Int) :: x), own 26 7 av [core1.cells.map .v]]) (ys := [.blk z.c 74 [bkI p, int 4, int 5, mapV z.rm, mapV z.cm, ptr z.cr, mapV z.em, .v av], .pc (tmPc z.rm intK intOk pE (rmL (r4 z.R0 z.R1 z.R2 z.R3))), .pc (tmPc z.cm intK intOk pE [((4 : Int), some z.ca)]), .blk z.cr 97 [.v y.1], own 143 6 y.1 (l ++ y.2.1.map fun x => int ((1 : Nat) : Int) :: x), own 26 7 av [core1.cells.map .v]]) [wb p bd bt (57 + 20), .pc (bigP ([] ++ [rpP p (2, z.R2), rpP p (3, z.R3)]))] (by repeat (first | exact List.Perm.nil | refine pk_ (by repeat (first | exact Rem_.here | apply Rem_.there)) ?_)) (ar_ rfl)
def plH : Nat → PD → Blks
  | 0, D => [wb D.p D.bd D.bt 5, .pc (bigP [rpP D.p (0, D.z.R0), rpP D.p (1, D.z.R1), rpP D.p (2, D.z.R2), rpP D.p (3, D.z.R3)]), .blk D.z.c 74 [bkI D.p, int 4, int 5, mapV D.z.rm, mapV D.z.cm, ptr D.z.cr, mapV D.z.em, .v D.av], .pc (tmPc D.z.rm intK intOk pE (rmL (r4 D.z.R0 D.z.R1 D.z.R2 D.z.R3))), .pc (tmPc D.z.cm intK intOk pE [((4 : Int), some D.z.ca)]), .blk D.z.cr 97 [.v D.cv], own 143 6 D.cv D.rows, .pc (tmPc D.z.em wdV wdOk boo []), .blk D.z.ca 126 [bkI D.p, int 4, int 4, int 0, .v (.pointer none), .v (.slice none 0 0)]]
  | 1, D => [wb D.p D.bd D.bt 37, .pc (bigP [rpP D.p (0, D.z.R0), rpP D.p (1, D.z.R1), rpP D.p (2, D.z.R2), rpP D.p (3, D.z.R3)]), .blk D.z.c 74 [bkI D.p, int 4, int 5, mapV D.z.rm, mapV D.z.cm, ptr D.z.cr, mapV D.z.em, .v D.av], .pc (tmPc D.z.rm intK intOk pE (rmL (r4 D.z.R0 D.z.R1 D.z.R2 D.z.R3))), .pc (tmPc D.z.cm intK intOk pE [((4 : Int), some D.z.ca)]), .blk D.z.cr 97 [.v D.cv], own 143 6 D.cv D.rows, own 26 7 D.av [core1.cells.map .v]]
  | 2, D => [wb D.p D.bd D.bt 57, .pc (bigP [rpP D.p (1, D.z.R1), rpP D.p (2, D.z.R2), rpP D.p (3, D.z.R3)]), .blk D.z.c 74 [bkI D.p, int 4, int 5, mapV D.z.rm, mapV D.z.cm, ptr D.z.cr, mapV D.z.em, .v D.av], .pc (tmPc D.z.rm intK intOk pE (rmL (r4 D.z.R0 D.z.R1 D.z.R2 D.z.R3))), .pc (tmPc D.z.cm intK intOk pE [((4 : Int), some D.z.ca)]), .blk D.z.cr 97 [.v D.cv], own 143 6 D.cv D.rows, own 26 7 D.av [core1.cells.map .v]]
  | _, D => [.blk D.z.c 74 [bkI D.p, int 4, int 5, mapV D.z.rm, mapV D.z.cm, ptr D.z.cr, mapV D.z.em, .v D.av], .pc (tmPc D.z.rm intK intOk pE (rmL (r4 D.z.R0 D.z.R1 D.z.R2 D.z.R3))), .pc (tmPc D.z.cm intK intOk pE [((4 : Int), some D.z.ca)]), .blk D.z.cr 97 [.v D.cv], own 143 6 D.cv D.rows, own 26 7 D.av [core1.cells.map .v]]
def plOk : Nat → PD → Prop
  | 0, D => D.av = .slice none 0 0 ∧ D.cv = .slice none 0 0 ∧ D.rows = []
  | 1, D => MsOk D.m ∧ D.rows = [sntA 0 D.m, sntA 1 D.m, sntA 2 D.m, sntA 3 D.m]
  | 2, D => MsOk D.m ∧ ∃ l, D.rows = sntA 1 D.m :: l ∧ 1 ≤ l.length ∧ l.length ≤ 20 ∧ ∀ x ∈ l, ones x = true
  | _, _ => True
def plP (k : Nat) (D : PD) : Pc := bigI (plH k D)
def scA : Nat → List Abs
  | 0 => ask0
  | _ => deliver0
theorem scr_at : ∀ {q : Nat}, q < 3 → (scr 2)[q]? = some (scA q)
  | 0, _ => rfl
  | 1, _ => rfl
  | 2, _ => rfl
theorem e5_ : ∀ {q : Nat}, (scA q).length = 17
  | 0 => rfl
  | _ + 1 => rfl
theorem scA_ones : ∀ {q : Nat}, ones (scA q) = true
  | 0 => rfl
  | _ + 1 => rfl
theorem playK : ∀ {k : Nat} {D : PD}, k < 3 → plOk k D → Spec Tryz.prog 19 [ptr D.z.c, .agg (scA k)] [.pc (plP k D)] (fun D' : {D' : PD // plOk (k + 1) D' ∧ D'.z = D.z} => [.pc (plP (k + 1) D'.1)]) (fun _ => int 0)
  | 0, ⟨z, p, bd, bt, av, cv, m, rows, EM⟩, _, ⟨h1, h2, h3⟩ => by
    dsimp only at h1 h2 h3
    subst h1 h2 h3
    exact Spec.mapI (fun y : Value × {m : Msg // MsOk m} × Value × List ((Int × List UInt8) × Bool) => ⟨⟨z, p, bd, bt, y.1, y.2.2.1, y.2.1.1, (parcels y.2.1.1 (allN 4)).map fun x => int 4 :: x, []⟩, ⟨y.2.1.2, rfl⟩, rfl⟩) (Spec.big play0 rfl fun _ => rfl) (fun _ => rfl) (fun _ => rfl)
  | 1, ⟨z, p, bd, bt, av, cv, m, rows, EM⟩, _, ⟨h1, h2⟩ => by
    dsimp only at h1 h2
    subst h2
    exact Spec.mapI (fun y : Value × {ps : List (List Abs) // ParOk 4 ps} => ⟨⟨z, p, bd, bt, av, y.1, m, [sntA 1 m, sntA 2 m, sntA 3 m] ++ y.2.1.map fun x => int ((0 : Nat) : Int) :: x, []⟩, ⟨h1, [sntA 2 m, sntA 3 m] ++ y.2.1.map fun x => int ((0 : Nat) : Int) :: x, rfl, by simp, by have := y.2.2.1; simp only [List.length_append, List.length_map, List.length_cons, List.length_nil]; omega, fun x hx => by
      rcases List.mem_append.1 hx with hx | hx
      · simp only [List.mem_cons, List.not_mem_nil, or_false] at hx
        rcases hx with rfl | rfl <;> rfl
      · exact ones_par (i := 0) y.2.2 x hx⟩, rfl⟩) (Spec.big (play1 (m := m) (EM := []) (l := [sntA 1 m, sntA 2 m, sntA 3 m]) h1 (by simp) (by simp) (by intro x hx; simp only [List.mem_cons, List.not_mem_nil, or_false] at hx; rcases hx with rfl | rfl | rfl <;> rfl)) rfl fun _ => rfl) (fun _ => rfl) (fun _ => rfl)
  | 2, ⟨z, p, bd, bt, av, cv, m, rows, EM⟩, _, ⟨h1, l, h2, h3, h4, h5⟩ => by
    dsimp only at h1 h2
    subst h2
    exact Spec.mapI (fun y : Value × {ps : List (List Abs) // ParOk 4 ps} => ⟨⟨z, p, bd, bt, av, y.1, m, l ++ y.2.1.map fun x => int ((1 : Nat) : Int) :: x, []⟩, trivial, rfl⟩) (Spec.big (play2 (m := m) (EM := []) (l := l) h1 h3 h4 h5) rfl fun _ => rfl) (fun _ => rfl) (fun _ => rfl)
  | k + 3, _, h, _ => by omega
section
variable {k : Int}
set_option maxHeartbeats 4000000 in
theorem play_s  : Spec Tryz.prog 8 [int 1, .agg set0, .agg core0, .v (.int .u64 7), int 3] [] (fun D : PD => [.pc (plP 3 D)]) (fun D => .tup [ptr D.z.c, int 0]) := by
 refine t_ Tryz.func8 rfl Tryz.ntmps8 rfl fun G w =>c_<|a_<|eb_ (z_ (cs := set0) rfl) rfl rfl fun b6=>?_
 refine eb_ (z_ (cs := core0) rfl) rfl rfl fun b7=>?_
 refine q_ 2 rfl<|g_<|b_<|c_<|a_<|q_ 1 rfl<|d_ (i_ (C := .agg set0) (y_ tabOk rfl rfl rfl l1_ List.not_mem_nil rfl) rfl) rfl rfl<|d_ (i_ (C := .agg core0) (y_ tabOk rfl rfl rfl l0_ List.not_mem_nil rfl) rfl) rfl rfl<|q_ 2 rfl<|m_ (g7_) Casts.refl (by kernel_rfl) rfl rfl rfl ?_
 refine ap_<|fun _=>q_ 5 rfl<|g_<|b_<|c_<|c_<|a_<|q_ 2 rfl<|g_<|b_<|n_ rfl (by intro hc27; exfalso; omega) ?_
 intro hc27
 refine s_<|b_<|c_<|T_ [] (.q 2 (.e 0 (.q 1 (.e 3 (.q 4 (.q 5 (.q 6 (.q 7 (.q 8 .nil))))))))) (by kernel_rfl) (by kernel_rfl) ?_
 refine X_ (by (simp [mids, It.mids, ownPc, mapPc, tmPc, wbP, exP]; done)) fun hx9 => ?_
 refine j_ rfl (i_ (C := .agg set0) (y_ tabOk rfl rfl rfl l1_ List.not_mem_nil rfl) rfl) hx9 rfl rfl<|cw_ rfl (wnew_s) (by simp [mids, It.mids]) Casts.refl (by kernel_rfl) rfl rfl rfl ?_
 refine Y_ (by repeat (first | exact Reads.nil | (refine Reads.blk ?_ ?_; focus ((repeat first|assumption|exact m0_|apply m1_); done)) | (refine Reads.rd ?_ ?_; focus ((repeat first|assumption|exact m0_|apply m1_); done)) | (refine Reads.pc ?_ ?_; focus ((repeat first|assumption|exact m0_|apply m1_); done)) | (refine Reads.rdpc ?_ ?_; focus ((repeat first|assumption|exact m0_|apply m1_); done)))) (fun _ => rfl) ?_
 intro z30
 refine X_ (by (simp [mids, It.mids, ownPc, mapPc, tmPc, wbP, exP]; done)) fun hx9 => ?_
 refine j_ rfl (b3_ rfl (fun _ _ => by kernel_rfl)) hx9 rfl rfl ?_
 refine cv_ ([]) rfl (jC_ (p := z30.1) (bd := z30.2.1) (bt := z30.2.2) (N := 0) (by omega)) (by intro k hk; exact List.mem_append_left _ hk) (by intro k hk; cases hk) Casts.refl (by kernel_rfl) rfl rfl rfl ?_
 refine M_ [] (β := _) rfl (by intro x hx; simp only [List.mem_cons, List.not_mem_nil, or_false] at hx; rcases hx with rfl; rfl) ?_
 intro z33
 refine qs_ 5 rfl<|C_<|b_<|c_<|c_<|a_<|q_ 1 rfl<|d_ (P_ (m := 3) rfl Tryz.underlying30 rfl) rfl rfl<|q_ 1 rfl<|g_<|b_<|w_<|b8_ [_, _] (Re.out (l1 := []) (l2 := []) (c := clP z30.1 z33.ca)) rfl<|b8_ [_, _] (Re.blkOut (b := z33.ca) (t := 126) (cs := [bkI z30.1, int 4, int 4, int 0, .v (.pointer none), .v (.slice none 0 0)])) rfl<|b8_ [] (Re.cut (xs := [wb z30.1 z30.2.1 z30.2.2 5, .pc (bigP [rpP z30.1 (0, z33.R0), rpP z30.1 (1, z33.R1), rpP z30.1 (2, z33.R2), rpP z30.1 (3, z33.R3)]), .blk z33.ca 126 [bkI z30.1, int 4, int 4, int 0, .v (.pointer none), .v (.slice none 0 0)], .pc (bigP []), .blk z33.c 74 [bkI z30.1, int 4, int 5, mapV z33.rm, mapV z33.cm, ptr z33.cr, mapV z33.em, .v (.slice none 0 0)], .pc (tmPc z33.rm intK intOk pE (rmL (r4 z33.R0 z33.R1 z33.R2 z33.R3))), .pc (tmPc z33.cm intK intOk pE [((4 : Int), some z33.ca)]), .blk z33.cr 97 [.v (.slice none 0 0)], own 143 6 (.slice none 0 0) [], .pc (tmPc z33.em wdV wdOk boo [])]) (ys := [wb z30.1 z30.2.1 z30.2.2 5, .pc (bigP [rpP z30.1 (0, z33.R0), rpP z30.1 (1, z33.R1), rpP z30.1 (2, z33.R2), rpP z30.1 (3, z33.R3)]), .blk z33.c 74 [bkI z30.1, int 4, int 5, mapV z33.rm, mapV z33.cm, ptr z33.cr, mapV z33.em, .v (.slice none 0 0)], .pc (tmPc z33.rm intK intOk pE (rmL (r4 z33.R0 z33.R1 z33.R2 z33.R3))), .pc (tmPc z33.cm intK intOk pE [((4 : Int), some z33.ca)]), .blk z33.cr 97 [.v (.slice none 0 0)], own 143 6 (.slice none 0 0) [], .pc (tmPc z33.em wdV wdOk boo []), .blk z33.ca 126 [bkI z30.1, int 4, int 4, int 0, .v (.pointer none), .v (.slice none 0 0)]]) [.pc (bigP [])] (by repeat (first | exact List.Perm.nil | refine pk_ (by repeat (first | exact Rem_.here | apply Rem_.there)) ?_)) (ar_ rfl)) rfl ?_
 refine b8_ [] (Re.bigIn (xs := plH 0 ⟨z33, z30.1, z30.2.1, z30.2.2, .slice none 0 0, .slice none 0 0, ⟨0, 0, [], []⟩, [], []⟩) rfl) rfl<|S_ (ι := Nat × PD) (fun z => [.pc (plP z.1 z.2)]) (fun z => [(36, .sl 17 (scr 2)), (13, int 0), (14, ptr z33.c), (37, int (3 : Nat)), (38, int (z.1 : Nat))]) (fun z => z.1 ≤ 3 ∧ plOk z.1 z.2 ∧ z.2.z = z33) (fun z => 3 - z.1) (0, ⟨z33, z30.1, z30.2.1, z30.2.2, .slice none 0 0, .slice none 0 0, ⟨0, 0, [], []⟩, [], []⟩) (⟨Nat.zero_le _, ⟨rfl, rfl, rfl⟩, rfl⟩) (by exact ⟨rfl, rfl, rfl, rfl, rfl, trivial⟩) (sc_ sn_) ?_
 intro z hz
 refine c_<|a_<|q_ 1 rfl<|g_<|b_<|c_<|n_ rfl ?_ ?_
 rotate_left
 ·intro hc39
  have hz3 : z.1 = 3 := by omega
  rw [hz3]
  refine O_<|k_ nofun<|k_ nofun<|N_<|b_<|c_<|a_<|q_ 4 rfl<|g_<|b_<|o_<|f_ (rs := [.tmp 10, .tmp 11]) rfl (RV.tmp rfl (RV.tmp rfl RV.nil)) (z.2) sr_ ?_
  rw [← hz.2.2]
  rfl
 intro hc39
 have hz3 : z.1 < 3 := by omega
 refine s_<|b_<|c_<|w_<|c_<|a_<|d_ (W_ (s := 17) (q := z.1) (xs := scr 2) (cs := scA z.1) tabOk Tryz.underlying30 rfl rfl rfl rfl (scr_at hz3) rfl rfl) rfl rfl<|d_ (aH_ tabOk rfl rfl rfl e5_) rfl rfl<|eb_ (F_ tabOk rfl) rfl rfl fun b16=>?_
 refine e_ (p_ (L' := scA z.1) tabOk rfl rfl rfl u0_ e5_ (Nat.le_of_ble_eq_true rfl) scA_ones (by exact x_ e5_)) rfl rfl ?_
 refine g_<|b_<|a_<|q_ 1 rfl<|d_ (i_ (C := .agg (scA z.1)) (y_ tabOk rfl rfl rfl l0_ List.not_mem_nil e5_) rfl) rfl rfl<|m_ ((show Spec Tryz.prog 19 [ptr z33.c, .agg (scA z.1)] [.pc (plP z.1 z.2)] (fun D' : {D' : PD // plOk (z.1 + 1) D' ∧ D'.z = z33} => [.pc (plP (z.1 + 1) D'.1)]) (fun _ => int 0) from by have h := playK (k := z.1) (D := z.2) hz3 hz.2.1; rw [hz.2.2] at h; exact h)) Casts.refl (by kernel_rfl) rfl rfl rfl ?_
 refine Q_ rfl i1_ (fun _ => rfl)<|fun D1=>⟨_, u1_, g_<|A_<|b_<|a_<|d_ (E_ rfl rfl (by simp only [InR, lo, hi]; omega)) rfl rfl ?_⟩
 refine q_ 1 rfl<|g_<|J_ (z.1 + 1, D1.1) (by omega) ((⟨by dsimp only; omega, D1.2.1, D1.2.2⟩)) (by exact ⟨rfl, rfl, rfl, rfl, rfl, trivial⟩) (sk_ sr_)
end
end Go.Proofs.YtjclgkddfjbdiaaGreatDoor.A
