/-
  Packed out of the texts: Four, AN23, AN24, AN25, AS1, AS2, EntD, Batch1, Batch2, Batch3, RdCan, Batch4, Batch5, Batch6, BatchTwo, A7, C1, C2, C3, C4, Chg1, Chg3, C5.
-/
import Derived.Test.YtjclgkddfjbdiaaGreatDoorR010
set_option maxRecDepth 100000
set_option linter.unusedVariables false
set_option linter.unusedSimpArgs false
namespace Go.Proofs.YtjclgkddfjbdiaaGreatDoor.A
open Go.RowKit
def two4 (a b : Nat) (r : Plan) : Plan := .two a b (.e b r) (.e a r)
def three4 (a b c : Nat) (r : Plan) : Plan := .three a b c (two4 b c r) (two4 a c r) (two4 a b r)
def four4 (a b c d : Nat) (r : Plan) : Plan := .four a b c d (three4 b c d r) (three4 a c d r) (three4 a b d r) (three4 a b c r)
section
variable {P : Program} {n : Nat} {W : Wd} {ops : Array Oper} {X : List Nat} {Q : Exit → Act → World → Prop} {ix : Plan} {σ : Blks} {l : Slots} {a b c d da db dc dd : Nat}
def Makes (P : Program) (n : Nat) (W : Wd) (ops : Array Oper) (X : List Nat) (Q : Exit → Act → World → Prop) (i d : Nat) (new : Nat → Blks) (val : Nat → Abs) : Prop := ∀ (ix : Plan) (σ : Blks) (l : Slots), (∀ x, SX P ops ix X (St n W (new x ++ σ) ((d, val x) :: l)) Q) → SX P ops (.e i ix) X (St n W σ l) Q
theorem SX.imp {T1 T2 : Act → World → Prop} (h : SX P ops ix X T2 Q) (k : ∀ a w, T1 a w → T2 a w) : SX P ops ix X T1 Q := fun a w ha => h a w (k a w ha)
theorem St.conv {τ : Blks} {l' : Slots} {A : Act} {w : World} (h : St n W σ l A w) (hs : τ.Perm σ) (hl : ∀ t x, slot l' t = some x → slot l t = some x) : St n W τ l' A w :=
  have h2 := h.perm hs
  ⟨h2.defers, h2.size, fun t x hx => h2.slots t x (hl t x hx), h2.mem⟩
theorem sw_ {a b s : Blks} : (a ++ (b ++ s)).Perm (b ++ (a ++ s)) := by
  rw [← List.append_assoc, ← List.append_assoc]
  exact List.perm_append_comm.append_right _
variable {na nb nc nd : Nat → Blks} {va vb vc vd : Nat → Abs}
theorem j3_ (hA : Makes P n W ops X Q a da na va) (hB : Makes P n W ops X Q b db nb vb) (hab : da ≠ db) (k : ∀ x y, SX P ops ix X (St n W (nb y ++ (na x ++ σ)) ((db, vb y) :: (da, va x) :: l)) Q) : SX P ops (two4 a b ix) X (St n W σ l) Q :=
  aV_ (hA _ _ _ fun x => hB _ _ _ fun y => k x y) (hB _ _ _ fun y => hA _ _ _ fun x => (k x y).imp fun _ _ h => h.conv (sw_).symm (fun t v => by simp only [slot, cond_eq_ite, Nat.beq_eq]; grind))
theorem eh_ (hA : Makes P n W ops X Q a da na va) (hB : Makes P n W ops X Q b db nb vb) (hC : Makes P n W ops X Q c dc nc vc) (hab : da ≠ db) (hac : da ≠ dc) (hbc : db ≠ dc) (k : ∀ x y z, SX P ops ix X (St n W (nc z ++ (nb y ++ (na x ++ σ))) ((dc, vc z) :: (db, vb y) :: (da, va x) :: l)) Q) : SX P ops (three4 a b c ix) X (St n W σ l) Q :=
  SX.three (hA _ _ _ fun x => j3_ hB hC hbc fun y z => k x y z)
    (hB _ _ _ fun y => j3_ hA hC hac fun x z => (k x y z).imp fun _ _ h => h.conv ((sw_.append_left _)).symm (fun t v => by simp only [slot, cond_eq_ite, Nat.beq_eq]; grind))
    (hC _ _ _ fun z => j3_ hA hB hab fun x y => (k x y z).imp fun _ _ h => h.conv (((sw_.append_left _).trans sw_)).symm (fun t v => by simp only [slot, cond_eq_ite, Nat.beq_eq]; grind))
theorem iT_ (hA : Makes P n W ops X Q a da na va) (hB : Makes P n W ops X Q b db nb vb) (hC : Makes P n W ops X Q c dc nc vc) (hD : Makes P n W ops X Q d dd nd vd) (hd : [da, db, dc, dd].Nodup) (k : ∀ x y z u, SX P ops ix X (St n W (nd u ++ (nc z ++ (nb y ++ (na x ++ σ)))) ((dd, vd u) :: (dc, vc z) :: (db, vb y) :: (da, va x) :: l)) Q) : SX P ops (four4 a b c d ix) X (St n W σ l) Q := by
  simp only [List.nodup_cons, List.mem_cons, List.not_mem_nil, or_false, not_or] at hd
  obtain ⟨⟨hab, hac, had⟩, ⟨hbc, hbd⟩, hcd, _⟩ := hd
  refine SX.four (hA _ _ _ fun x => eh_ hB hC hD hbc hbd hcd fun y z u => k x y z u) ?_ ?_ ?_
  · exact hB _ _ _ fun y => eh_ hA hC hD hac had hcd fun x z u => (k x y z u).imp fun _ _ h => h.conv (((sw_.append_left _).append_left _)).symm (fun t v => by simp only [slot, cond_eq_ite, Nat.beq_eq]; grind)
  · exact hC _ _ _ fun z => eh_ hA hB hD hab had hbd fun x y u => (k x y z u).imp fun _ _ h => h.conv ((((sw_.append_left _).trans sw_).append_left _)).symm (fun t v => by simp only [slot, cond_eq_ite, Nat.beq_eq]; grind)
  · exact hD _ _ _ fun u => eh_ hA hB hC hab hac hbc fun x y z => (k x y z u).imp fun _ _ h => h.conv (((((sw_.append_left _).trans sw_).append_left _).trans sw_)).symm (fun t v => by simp only [slot, cond_eq_ite, Nat.beq_eq]; grind)
end
def rpP (p : Nat) (x : Nat × RI) : Pc := bigI [.blk x.2.r 118 (x.2.cells p x.1 0 (.v (.slice none 0 0))), .pc (tmPc x.2.pd intK intOk coE []), .blk x.2.x 179 [int 4, int 0, int 0, .v (.slice none 0 0), .v (.slice none 0 0), .v (.slice none 0 0)], .blk x.2.t 173 [int 32, int 0], .blk x.2.h 167 [bkI p, int 4, mapV x.2.hm, .v x.2.hv], .pc (tmPc x.2.hm intK intOk pE []), .blk x.2.vv 160 [int 4, mapV x.2.vm], .pc (tmPc x.2.vm paV paOk voE []), .blk x.2.pp 157 [int ((4 : Nat) : Int), int (x.1 : Nat), mapV x.2.om, .v x.2.pv], own 199 1 x.2.pv ((List.replicate 4 []).map fun l => [pntsA l]), .pc (tmPc x.2.om intK intOk Ow.enc [(0, x.2.ow)]), .blk x.2.lg 153 [int 4, int 0, mapV x.2.lm], .pc (tmPc x.2.lm intK intOk pE [])]
def clP (p : Nat) (ca : Nat) : Pc := blkP ca 126 [bkI p, int 4, int 4, int 0, .v (.pointer none), .v (.slice none 0 0)]
def mK (Rs : List (Nat × RI)) : List (Int × Option Nat) := Rs.map fun x => (((x.1 : Nat) : Int), some x.2.r)
def mC (Cs : List Nat) : List (Int × Option Nat) := Cs.map fun ca => ((4 : Int), some ca)
theorem aput_nw {β : Type} {a : Int} {v : β} {m : List (Int × β)} (h : ∀ e ∈ m, e.1 ≠ a) : aput m a v = m ++ [(a, v)] := by
  unfold aput
  rw [if_neg]
  rw [bj_]
  intro hm
  obtain ⟨e, he, h2⟩ := List.mem_map.1 hm
  exact h e he h2
theorem mK_snoc {Rs : List (Nat × RI)} {k : Nat} {R : RI} (h : Rs.map (·.1) = List.range k) : aput (mK Rs) ((k : Nat) : Int) (some R.r) = mK (Rs ++ [(k, R)]) := by
  rw [aput_nw, mK, mK, List.map_append]
  · rfl
  · intro e he
    obtain ⟨x, hx, rfl⟩ := List.mem_map.1 he
    have h2 : x.1 ∈ List.range k := h ▸ List.mem_map.2 ⟨x, hx, rfl⟩
    rw [List.mem_range] at h2
    dsimp only
    omega
theorem mC_snoc {Cs : List Nat} {k b : Nat} (h : Cs = []) (hk : k = 4) : aput (mC Cs) ((k : Nat) : Int) (some b) = mC (Cs ++ [b]) := by
  subst h hk
  rfl
theorem Re.bigSnoc {l : List Pc} {c : Pc} : Re [.pc c, .pc (bigP l)] [.pc (bigP (l ++ [c]))] := by
  have h := Re.back (l1 := l) (l2 := []) (c := c)
  rwa [List.append_nil] at h
theorem rs4 {Rs : List (Nat × RI)} (h : Rs.map (·.1) = List.range 4) : ∃ R0 R1 R2 R3, Rs = [(0, R0), (1, R1), (2, R2), (3, R3)] := by
  match Rs, h with
  | [(a, R0), (b, R1), (c, R2), (d, R3)], h =>
    have h2 : [a, b, c, d] = [0, 1, 2, 3] := h
    simp only [List.cons.injEq, and_true] at h2
    obtain ⟨rfl, rfl, rfl, rfl⟩ := h2
    exact ⟨R0, R1, R2, R3, rfl⟩
theorem cs1 {Cs : List Nat} (h : Cs.length = 1) : ∃ ca, Cs = [ca] := List.length_eq_one_iff.1 h
def r4 (R0 R1 R2 R3 : RI) : Nat → Nat
  | 0 => R0.r
  | 1 => R1.r
  | 2 => R2.r
  | _ => R3.r
structure CI where
  c : Nat
  rm : Nat
  cm : Nat
  cr : Nat
  em : Nat
  ca : Nat
  R0 : RI
  R1 : RI
  R2 : RI
  R3 : RI
section
variable {p bd bt N : Nat}
theorem k6_  : Spec Tryz.prog 23 [.agg set0] [] (fun _ : Unit => []) (fun _ => int 0) := by
 refine t_ Tryz.func23 rfl Tryz.ntmps23 rfl fun G w =>c_<|a_<|eb_ (B_ (cs := set0) rfl) rfl rfl fun b1=>?_
 refine q_ 1 rfl<|d_<|b_<|c_<|c_<|a_<|q_ 1 rfl<|slvA (h_ (C := int 1) (g_ tabOk rfl rfl l0_ List.not_mem_nil rfl) rfl)<|q_ 2 rfl<|A_ (t := 11) rfl (by intro hc11; exfalso; omega) ?_
 intro hc11
 refine q_ 1 rfl<|slvA (h_ (C := int 1) (g_ tabOk rfl rfl l0_ List.not_mem_nil rfl) rfl)<|q_ 3 rfl<|A_ (t := 16) rfl (by intro hc16; exfalso; omega) ?_
 intro hc16
 refine q_ 1 rfl<|slvA (h_ (C := int 1) (g_ tabOk rfl rfl l0_ List.not_mem_nil rfl) rfl)<|q_ 3 rfl<|A_ (t := 21) rfl (by intro hc21; exfalso; omega) ?_
 intro hc21
 refine q_ 1 rfl<|slvA (h_ (C := int 1) (g_ tabOk rfl rfl l0_ List.not_mem_nil rfl) rfl)<|q_ 2 rfl<|d_<|b_<|l_ rfl (by intro hc25; exfalso; omega) ?_
 intro hc25
 refine o_<|b_<|c_<|a_<|q_ 1 rfl<|slvA (h_ (C := int 1) (g_ tabOk rfl rfl l0_ List.not_mem_nil rfl) rfl)<|slvA (h_ (C := int 3) (bm_ rfl rfl (by simp only [InR, lo, hi]; omega)) rfl) ?_
 refine slvA (h_ (C := int 4) (y_ rfl rfl (by simp only [InR, lo, hi]; omega)) rfl) ?_
 refine q_ 1 rfl<|d_<|b_<|c_<|a_<|eb_ (ak_ intK intOk pE (fun ac w => by simp [execOp, Instr.makeMap, newObj, Sem.run, Sem.run_bind, Result.andThen])) rfl rfl fun m30=>?_
 refine q_ 1 rfl<|d_<|b_<|c_<|a_<|q_ 1 rfl<|d_<|b_<|c_<|c_<|a_<|q_ 1 rfl<|slvA (h_ (C := .v (.slice none 0 0)) (g_ tabOk rfl rfl l1_ List.not_mem_nil rfl) rfl)<|slvA (ae_ (m := 0) rfl Tryz.underlying22)<|q_ 1 rfl<|d_<|b_<|u_<|P_ (ι := Unit) (fun z => [.blk b1 24 set0]) (fun z => [(1, ptr b1), (5, int 0), (33, int (0 : Nat)), (34, int 0)]) (fun z => True) (fun z => 0) (()) (trivial) (by exact ⟨rfl, rfl, rfl, rfl, trivial⟩) (sk_ sr_) ?_
 intro z hz
 refine c_<|a_<|q_ 1 rfl<|d_<|b_<|c_<|l_ rfl (by intro hc35; exfalso; omega) ?_
 intro hc35
 refine N_<|j_ nofun<|j_ nofun<|M_<|b_<|c_<|c_<|a_<|q_ 2 rfl<|slvA (h_ (C := int 1) (g_ tabOk rfl rfl l0_ List.not_mem_nil rfl) rfl)<|q_ 1 rfl<|d_<|b_<|l_ rfl (by intro hc64; exfalso; omega) ?_
 intro hc64
 exact o_<|b_<|c_<|a_<|q_ 1 rfl<|d_<|b_<|k_<|f_ (rs := [.tmp 2]) rfl (RV.tmp rfl RV.nil) (()) sn_<|rfl
set_option maxHeartbeats 8000000 in
theorem clnew_s (hN : N ≤ 1000) : Spec Tryz.prog 14 [bkI p, .agg set0] [wb p bd bt N] (fun z : CI => [wb p bd bt (N + 5), .pc (bigP [rpP p (0, z.R0), rpP p (1, z.R1), rpP p (2, z.R2), rpP p (3, z.R3)]), .pc (bigP [clP p z.ca]), .blk z.c 74 [bkI p, int 4, int 5, mapV z.rm, mapV z.cm, ptr z.cr, mapV z.em, .v (.slice none 0 0)], .pc (tmPc z.rm intK intOk pE (rmL (r4 z.R0 z.R1 z.R2 z.R3))), .pc (tmPc z.cm intK intOk pE [((4 : Int), some z.ca)]), .blk z.cr 97 [.v (.slice none 0 0)], own 143 6 (.slice none 0 0) [], .pc (tmPc z.em wdV wdOk boo [])]) (fun z => .tup [ptr z.c, int 0]) := by
 refine t_ Tryz.func14 rfl Tryz.ntmps14 rfl fun G w =>c_<|a_<|eb_ (B_ (cs := set0) rfl) rfl rfl fun b3=>?_
 refine q_ 2 rfl<|d_<|b_<|c_<|c_<|a_<|q_ 1 rfl<|slvA (aE_ Tryz.underlying68 rfl)<|d_<|b_<|O_ rfl<|o_<|b_<|c_<|c_<|a_<|slvA (h_ (C := .agg set0) (r_ tabOk rfl rfl rfl l0_ List.not_mem_nil rfl) rfl)<|slcA (k6_) ?_
 refine ap_<|fun _=>q_ 1 rfl<|d_<|b_<|c_<|a_<|q_ 2 rfl<|d_<|b_<|l_ rfl (by intro hc15; exfalso; omega) ?_
 intro hc15
 refine o_<|b_<|c_<|a_<|q_ 1 rfl<|slvA (h_ (C := int 1) (g_ tabOk rfl rfl l0_ List.not_mem_nil rfl) rfl)<|slvA (h_ (C := int 3) (bm_ rfl rfl (by simp only [InR, lo, hi]; omega)) rfl) ?_
 refine slvA (h_ (C := int 4) (y_ rfl rfl (by simp only [InR, lo, hi]; omega)) rfl) ?_
 refine q_ 1 rfl<|d_<|b_<|bL_ (ι := Nat × Nat × Nat × Nat × Nat) (fun y => [.blk y.1 74 [bkI p, int 4, int 5, mapV y.2.1, mapV y.2.2.1, ptr y.2.2.2.1, mapV y.2.2.2.2, .v (.slice none 0 0)], .pc (tmPc y.2.1 intK intOk pE []), .pc (tmPc y.2.2.1 intK intOk pE []), .blk y.2.2.2.1 97 [.v (.slice none 0 0)], own 143 6 (.slice none 0 0) [], .pc (tmPc y.2.2.2.2 wdV wdOk boo []), .blk b3 24 set0, wb p bd bt N]) (fun y => [(3, ptr b3), (7, int 4), (8, ptr y.1)]) (fun y => True) ?_ ?_
 ·skip
  refine Q_ [] (.q 0 (.q 1 (.q 2 (.q 3 (.q 4 (.q 5 (four4 6 7 8 9 (.q 10 (.e 11 (.q 12 .nil)))))))))) (by kernel_rfl) (by kernel_rfl) ?_
  refine qs_ 4 rfl<|hxA fun hx9 => ?_
  refine sxvA rfl (h_ (C := int 1) (g_ tabOk rfl rfl l0_ List.not_mem_nil rfl) rfl) hx9<|sxvA rfl (h_ (C := int 5) (y_ rfl rfl (by simp only [InR, lo, hi]; omega)) rfl) hx9 ?_
  refine iT_ (show Makes _ _ _ _ _ _ 6 27 (fun m => [.pc (tmPc m intK intOk pE [])]) (fun m => mapV m) from fun _ _ _ k => by
   refine exb_ rfl (ak_ intK intOk pE (fun ac w => by simp [execOp, Instr.makeMap, newObj, Sem.run, Sem.run_bind, Result.andThen])) (by simp) rfl rfl fun m=>?_
   exact k m) (show Makes _ _ _ _ _ _ 7 28 (fun m => [.pc (tmPc m intK intOk pE [])]) (fun m => mapV m) from fun _ _ _ k => by
   refine exb_ rfl (ak_ intK intOk pE (fun ac w => by simp [execOp, Instr.makeMap, newObj, Sem.run, Sem.run_bind, Result.andThen])) (by simp) rfl rfl fun m=>?_
   exact k m) (show Makes _ _ _ _ _ _ 8 29 (fun c => [.blk c 97 [.v (.slice none 0 0)], own 143 6 (.slice none 0 0) []]) (fun c => ptr c) from fun _ _ _ k => by
   refine D_ rfl kX_ (by simp [mids]) Casts.refl (by kernel_rfl) rfl rfl rfl ?_
   exact bb_ Reads.nil k) (show Makes _ _ _ _ _ _ 9 30 (fun m => [.pc (tmPc m wdV wdOk boo [])]) (fun m => mapV m) from fun _ _ _ k => by
   refine exb_ rfl (ak_ wdV wdOk boo (fun ac w => by simp [execOp, Instr.makeMap, newObj, Sem.run, Sem.run_bind, Result.andThen])) (by simp) rfl rfl fun m=>?_
   exact k m) (by decide) fun m27 m28 z29 m30 => ?_
  dsimp only [List.cons_append, List.nil_append]
  refine hxA fun hx9 => ?_
  refine sxvA rfl (h_ (C := .agg [bkI p, int 4, int 5, mapV m27, mapV m28, ptr z29, mapV m30, .v (.slice none 0 0)]) (z_ tabOk rfl rfl rfl rfl) rfl) hx9<|exb_ rfl (B_ (cs := [bkI p, int 4, int 5, mapV m27, mapV m28, ptr z29, mapV m30, .v (.slice none 0 0)]) rfl) (by simp) rfl rfl fun b32=>?_
  refine qs_ 1 rfl<|F_<|e8_ (τ := [.blk b32 74 [bkI p, int 4, int 5, mapV m27, mapV m28, ptr z29, mapV m30, .v (.slice none 0 0)], .pc (tmPc m27 intK intOk pE []), .pc (tmPc m28 intK intOk pE []), .blk z29 97 [.v (.slice none 0 0)], own 143 6 (.slice none 0 0) [], .pc (tmPc m30 wdV wdOk boo []), .blk b3 24 set0, wb p bd bt N]) (by repeat (first | exact List.Perm.nil | refine pk_ (by repeat (first | exact Rem_.here | apply Rem_.there)) ?_)) ?_
  refine aw_ (b32, m27, m28, z29, m30) (trivial) (by exact ⟨rfl, rfl, rfl, trivial⟩) sr_
 intro y hy
 obtain ⟨b32, m27, m28, z29, m30⟩ := y
 dsimp only
 refine c_<|c_<|a_<|q_ 3 rfl<|slvA (h_ (C := int 5) (g_ tabOk rfl rfl l0_ List.not_mem_nil rfl) rfl)<|q_ 1 rfl<|d_<|b_<|u_<|ct_ [] Re.empty rfl<|ct_ [] Re.empty rfl<|ct_ [] (Re.perm (xs := [.pc (bigP []), .pc (bigP []), .blk b32 74 [bkI p, int 4, int 5, mapV m27, mapV m28, ptr z29, mapV m30, .v (.slice none 0 0)], .pc (tmPc m27 intK intOk pE []), .pc (tmPc m28 intK intOk pE []), .blk z29 97 [.v (.slice none 0 0)], own 143 6 (.slice none 0 0) [], .pc (tmPc m30 wdV wdOk boo []), .blk b3 24 set0, wb p bd bt N]) (ys := [wb p bd bt N, .pc (bigP []), .pc (bigP []), .blk b32 74 [bkI p, int 4, int 5, mapV m27, mapV m28, ptr z29, mapV m30, .v (.slice none 0 0)], .pc (tmPc m27 intK intOk pE []), .pc (tmPc m28 intK intOk pE []), .blk z29 97 [.v (.slice none 0 0)], own 143 6 (.slice none 0 0) [], .pc (tmPc m30 wdV wdOk boo []), .blk b3 24 set0]) (by repeat (first | exact List.Perm.nil | refine pk_ (by repeat (first | exact Rem_.here | apply Rem_.there)) ?_)) (J_ rfl)) rfl ?_
 refine P_ (ι := Nat × List (Nat × RI) × List Nat) (fun z => [wb p bd bt (N + z.1), .pc (bigP (z.2.1.map (rpP p))), .pc (bigP (z.2.2.map (clP p))), .blk b32 74 [bkI p, int 4, int 5, mapV m27, mapV m28, ptr z29, mapV m30, .v (.slice none 0 0)], .pc (tmPc m27 intK intOk pE (mK z.2.1)), .pc (tmPc m28 intK intOk pE (mC z.2.2)), .blk z29 97 [.v (.slice none 0 0)], own 143 6 (.slice none 0 0) [], .pc (tmPc m30 wdV wdOk boo []), .blk b3 24 set0]) (fun z => [(3, ptr b3), (7, int 4), (8, ptr b32), (36, int 5), (37, int (z.1 : Nat))]) (fun z => z.1 ≤ 5 ∧ z.2.1.map (·.1) = List.range (min z.1 4) ∧ z.2.2.length = z.1 - 4) (fun z => 5 - z.1) (0, [], []) (⟨Nat.zero_le _, rfl, rfl⟩) (by exact ⟨rfl, rfl, rfl, rfl, rfl, trivial⟩) sr_ ?_
 intro z hz
 refine c_<|a_<|q_ 1 rfl<|d_<|b_<|c_<|l_ rfl ?_ ?_
 rotate_left
 ·intro hc38
  have hk5 : z.1 = 5 := by omega
  obtain ⟨R0, R1, R2, R3, hRs⟩ := rs4 (by rw [hz.2.1, hk5]; rfl)
  obtain ⟨ca, hCs⟩ := cs1 (by rw [hz.2.2, hk5])
  rw [hRs, hCs, hk5]
  exact N_<|j_ nofun<|j_ nofun<|M_<|b_<|c_<|a_<|q_ 3 rfl<|d_<|b_<|k_<|f_ (rs := [.tmp 4, .tmp 5]) rfl (RV.tmp rfl (RV.tmp rfl RV.nil)) (⟨b32, m27, m28, z29, m30, ca, R0, R1, R2, R3⟩) (sc_ (sc_ (sc_ (sc_ (sc_ (sc_ (sc_ (sc_ (sc_ sn_)))))))))<|rfl
 intro hc38
 refine o_<|b_<|c_<|u_<|c_<|a_<|q_ 2 rfl<|d_<|b_<|u_<|c_<|a_<|q_ 1 rfl<|slvA (h_ (C := .v (.slice none 0 0)) (g_ tabOk rfl rfl l9_ List.not_mem_nil rfl) rfl)<|q_ 1 rfl<|slcA (hJ_ (x := ((z.1 : Nat) : Int))) ?_
 refine ap_<|fun _=>q_ 1 rfl<|d_<|b_<|O_ rfl<|c_<|a_<|q_ 4 rfl<|d_<|b_<|l_ rfl ?_ ?_
 rotate_left
 ·intro hc57
  have hk4 : z.1 = 4 := by omega
  have hcs : z.2.2 = [] := List.eq_nil_of_length_eq_zero (by rw [hz.2.2, hk4])
  refine as_ [] (.q 0 (.q 1 (.q 2 (.q 3 (.q 4 (.q 5 (.q 6 (.q 7 (.q 8 (.q 9 (.q 10 (.e 11 .nil)))))))))))) (by kernel_rfl) (by kernel_rfl) ?_
  refine qs_ 3 rfl<|hx_ fun hx9 =>sxvA rfl (h_ (C := mapV m28) (g_ tabOk rfl rfl l3_ List.not_mem_nil rfl) rfl) hx9<|qs_ 4 rfl<|sxvA rfl (h_ (C := bkI p) (g_ tabOk rfl rfl l3_ List.not_mem_nil rfl) rfl) hx9<|qs_ 1 rfl<|sxvA rfl (h_ (C := int 4) (s_ rfl) (congrArg int (by omega))) hx9 ?_
  refine D_ rfl (cnew_s (p := p)) (by simp [mids, It.mids]) Casts.refl (by kernel_rfl) rfl rfl rfl ?_
  refine aftM ?_
  intro z51
  refine F_<|aq_ rfl (bh_ (enc := pE) (m := mC z.2.2) (a := ((z.1 : Nat) : Int)) (v := some z51) (m' := mC (z.2.2 ++ [z51])) (a0_ Tryz.underlying3) Tryz.underlying70 rfl u6_ rfl is_v (by unfold intOk; simp only [InR, lo, hi]; omega) rfl (mC_snoc hcs hk4)) rfl rfl ?_
  rintro _ _ ⟨rfl, rfl⟩
  refine w_<|w_<|b_<|a_<|slvA (y_ rfl rfl (by simp only [InR, lo, hi]; omega)) ?_
  refine q_ 1 rfl<|d_<|c2_ [] Re.blkIn rfl<|c2_ [] (Re.perm (xs := [.pc (clP p z51), wb p bd bt (N + z.1), .pc (bigP (z.2.1.map (rpP p)))]) (ys := [wb p bd bt (N + z.1), .pc (bigP (z.2.1.map (rpP p))), .pc (clP p z51)]) ((List.Perm.swap _ _ _).trans ((List.Perm.swap _ _ _).cons _)) (J_ rfl)) rfl<|c2_ [_, _] (Re.bigSnoc (l := z.2.2.map (clP p)) (c := clP p z51)) rfl ?_
  rw [show z.2.2.map (clP p) ++ [clP p z51] = (z.2.2 ++ [z51]).map (clP p) from by rw [List.map_append]; rfl]
  refine c2_ [] (Re.wbUp (N := N + z.1) (M := N + (z.1 + 1)) (by omega)) rfl ?_
  refine I_ (z.1 + 1, z.2.1, z.2.2 ++ [z51]) (by omega) ((⟨by dsimp only; omega, by dsimp only; rw [hz.2.1, hk4]; rfl, by dsimp only; rw [List.length_append, hz.2.2, List.length_singleton]; omega⟩)) (by exact ⟨rfl, rfl, rfl, rfl, rfl, trivial⟩) sr_
 intro hc57
 have hz4 : z.1 < 4 := by omega
 refine ao_ (p := b32 ∉ [p, bd, bt]) (fun _ _ h => by
   have h1 := h.mem.nodup
   simp [mids, It.mids, ownPc, mapPc, tmPc, wbP, exP] at h1 ⊢
   grind) fun hB => ?_
 refine as_ [p, bd, bt] (.q 0 (.q 1 (.q 2 (.q 3 (.q 4 (.q 5 (.q 6 (.q 7 (.q 8 (.q 9 (.q 10 (.e 11 .nil)))))))))))) (by kernel_rfl) (by kernel_rfl) ?_
 refine hxA fun hx9 => ?_
 refine qx_ 3 hx9 rfl<|sxvA rfl (h_ (C := mapV m27) (g_ tabOk rfl rfl l3_ hB rfl) rfl) hx9<|qx_ 4 hx9 rfl<|sxvA rfl (h_ (C := bkI p) (g_ tabOk rfl rfl l3_ hB rfl) rfl) hx9<|qx_ 2 hx9 rfl<|D_ rfl (rpnew_s (p := p) (bd := bd) (bt := bt) (N := N + z.1) (me := z.1) hz4 (by omega)) (by simp [mids, It.mids, wbP, exP]) Casts.refl (by kernel_rfl) rfl rfl rfl ?_
 refine W_ [] (β := _) rfl (J_ rfl) ?_
 intro z72
 refine F_<|aq_ rfl (bh_ (enc := pE) (m := mK z.2.1) (a := ((z.1 : Nat) : Int)) (v := some z72.r) (m' := mK (z.2.1 ++ [(z.1, z72)])) (a0_ Tryz.underlying3) Tryz.underlying69 rfl (by repeat first|assumption|exact Upd.here|apply Upd.there) rfl is_v (by unfold intOk; simp only [InR, lo, hi]; omega) rfl (mK_snoc (by rw [hz.2.1, Nat.min_eq_left (by omega)]))) rfl rfl ?_
 rintro _ _ ⟨rfl, rfl⟩
 refine w_<|w_<|b_<|a_<|slvA (y_ rfl rfl (by simp only [InR, lo, hi]; omega)) ?_
 refine q_ 1 rfl<|d_<|c2_ [] (Re.bigIn (xs := [.blk z72.r 118 (z72.cells p z.1 0 (.v (.slice none 0 0))), .pc (tmPc z72.pd intK intOk coE []), .blk z72.x 179 [int 4, int 0, int 0, .v (.slice none 0 0), .v (.slice none 0 0), .v (.slice none 0 0)], .blk z72.t 173 [int 32, int 0], .blk z72.h 167 [bkI p, int 4, mapV z72.hm, .v z72.hv], .pc (tmPc z72.hm intK intOk pE []), .blk z72.vv 160 [int 4, mapV z72.vm], .pc (tmPc z72.vm paV paOk voE []), .blk z72.pp 157 [int ((4 : Nat) : Int), int (z.1 : Nat), mapV z72.om, .v z72.pv], own 199 1 z72.pv ((List.replicate 4 []).map fun l => [pntsA l]), .pc (tmPc z72.om intK intOk Ow.enc [(0, z72.ow)]), .blk z72.lg 153 [int 4, int 0, mapV z72.lm], .pc (tmPc z72.lm intK intOk pE [])]) rfl) rfl<|c2_ [] (Re.perm (xs := [.pc (rpP p (z.1, z72)), wb p bd bt (N + z.1 + 1)]) (ys := [wb p bd bt (N + z.1 + 1), .pc (rpP p (z.1, z72))]) (List.Perm.swap _ _ _) (J_ rfl)) rfl<|c2_ [_] (Re.bigSnoc (l := z.2.1.map (rpP p)) (c := rpP p (z.1, z72))) rfl ?_
 rw [show z.2.1.map (rpP p) ++ [rpP p (z.1, z72)] = (z.2.1 ++ [(z.1, z72)]).map (rpP p) from by rw [List.map_append]; rfl]
 refine I_ (z.1 + 1, z.2.1 ++ [(z.1, z72)], z.2.2) (by omega) ((⟨by dsimp only; omega, by dsimp only; rw [List.map_append, hz.2.1, Nat.min_eq_left (by omega), Nat.min_eq_left (by omega), List.range_succ]; rfl, by dsimp only; rw [hz.2.2]; omega⟩)) (by exact ⟨rfl, rfl, rfl, rfl, rfl, trivial⟩) sr_
end
theorem jM_ (w : World) : (zeroValue 80).run Tryz.prog w = .ok (.pointer none) w := by kernel_rfl
section
variable {c p bd bt rm cm cr em N ca i k : Nat} {av cv : Value} {r : Nat → Nat} {R : RI} {m : Msg} {rows : List (List Abs)} {l1 l2 : List Pc}
set_option maxHeartbeats 4000000 in
theorem cgive_s (h4 : i < 4) (hr : r i = R.r) (hm : MsOk m) (hN : N ≤ 60000) (hl : rows.length ≤ 1000) : Spec Tryz.prog 69 [ptr c, int (i : Nat), .agg m.abs] [wb p bd bt N, .pc (bigP (l1 ++ rpP p (i, R) :: l2)), .blk c 74 [bkI p, int 4, int 5, mapV rm, mapV cm, ptr cr, mapV em, .v av], .pc (tmPc rm intK intOk pE (rmL r)), .pc (tmPc cm intK intOk pE [((4 : Int), some ca)]), .blk cr 97 [.v cv], own 143 6 cv rows] (fun z : Value × {ps : List (List Abs) // ParOk 4 ps} => [wb p bd bt (N + 20), .pc (bigP (l1 ++ l2)), .blk c 74 [bkI p, int 4, int 5, mapV rm, mapV cm, ptr cr, mapV em, .v av], .pc (tmPc rm intK intOk pE (rmL r)), .pc (tmPc cm intK intOk pE [((4 : Int), some ca)]), .blk cr 97 [.v z.1], own 143 6 z.1 (rows ++ z.2.1.map fun x => int (i : Nat) :: x)]) (fun _ => .tup []) := by
 refine t_ Tryz.func69 rfl Tryz.ntmps69 rfl fun G w =>c_<|a_<|eb_ (B_ (cs := m.abs) rfl) rfl rfl fun b5=>?_
 refine d_<|b_<|c_<|c_<|a_<|q_ 3 rfl<|slvA (h_ (C := mapV rm) (g_ tabOk rfl rfl l3_ List.not_mem_nil rfl) rfl)<|q_ 1 rfl<|slvA (h_ (C := ptr R.r) (aX_ (a := ((i : Nat) : Int)) (m := rmL r) (enc := pE) (z0 := none) (zv := .pointer none) (a0_ Tryz.underlying3) Tryz.underlying69 hg_ gg_ rfl l4_ List.not_mem_nil rfl is_v (by unfold intOk; simp only [InR, lo, hi]; omega)) (by rw [ko_ h4, hr]; rfl)) ?_
 refine q_ 1 rfl<|d_<|b_<|c_<|a_<|q_ 1 rfl<|slvA (bK_ rfl rfl (by kernel_rfl)) ?_
 refine d_<|b_<|U_ rfl<|c_<|ct_ [_, _] (Re.out (l1 := l1) (l2 := l2) (c := rpP p (i, R))) rfl<|ct_ [_, _] (Re.bigOut (xs := [.blk R.r 118 (R.cells p i 0 (.v (.slice none 0 0))), .pc (tmPc R.pd intK intOk coE []), .blk R.x 179 [int 4, int 0, int 0, .v (.slice none 0 0), .v (.slice none 0 0), .v (.slice none 0 0)], .blk R.t 173 [int 32, int 0], .blk R.h 167 [bkI p, int 4, mapV R.hm, .v R.hv], .pc (tmPc R.hm intK intOk pE []), .blk R.vv 160 [int 4, mapV R.vm], .pc (tmPc R.vm paV paOk voE []), .blk R.pp 157 [int ((4 : Nat) : Int), int (i : Nat), mapV R.om, .v R.pv], own 199 1 R.pv ((List.replicate 4 []).map fun l => [pntsA l]), .pc (tmPc R.om intK intOk Ow.enc [(0, R.ow)]), .blk R.lg 153 [int 4, int 0, mapV R.lm], .pc (tmPc R.lm intK intOk pE [])]) rfl) rfl<|ct_ [_] (Re.perm (xs := [wb p bd bt N, .blk R.r 118 (R.cells p i 0 (.v (.slice none 0 0))), .pc (tmPc R.pd intK intOk coE []), .blk R.x 179 [int 4, int 0, int 0, .v (.slice none 0 0), .v (.slice none 0 0), .v (.slice none 0 0)], .blk R.t 173 [int 32, int 0], .blk R.h 167 [bkI p, int 4, mapV R.hm, .v R.hv], .pc (tmPc R.hm intK intOk pE []), .blk R.vv 160 [int 4, mapV R.vm], .pc (tmPc R.vm paV paOk voE []), .blk R.pp 157 [int ((4 : Nat) : Int), int (i : Nat), mapV R.om, .v R.pv], own 199 1 R.pv ((List.replicate 4 []).map fun l => [pntsA l]), .pc (tmPc R.om intK intOk Ow.enc [(0, R.ow)]), .blk R.lg 153 [int 4, int 0, mapV R.lm], .pc (tmPc R.lm intK intOk pE [])]) (ys := [.blk R.r 118 (R.cells p i 0 (.v (.slice none 0 0))), .pc (tmPc R.pd intK intOk coE []), .blk R.x 179 [int 4, int 0, int 0, .v (.slice none 0 0), .v (.slice none 0 0), .v (.slice none 0 0)], .blk R.t 173 [int 32, int 0], .blk R.h 167 [bkI p, int 4, mapV R.hm, .v R.hv], .pc (tmPc R.hm intK intOk pE []), .blk R.vv 160 [int 4, mapV R.vm], .pc (tmPc R.vm paV paOk voE []), .blk R.pp 157 [int ((4 : Nat) : Int), int (i : Nat), mapV R.om, .v R.pv], own 199 1 R.pv ((List.replicate 4 []).map fun l => [pntsA l]), .pc (tmPc R.om intK intOk Ow.enc [(0, R.ow)]), .blk R.lg 153 [int 4, int 0, mapV R.lm], .pc (tmPc R.lm intK intOk pE []), wb p bd bt N]) (by repeat (first | exact List.Perm.nil | refine pk_ (by repeat (first | exact Rem_.here | apply Rem_.there)) ?_)) (J_ rfl)) rfl ?_
 refine a_<|q_ 1 rfl<|slvA (h_ (C := .agg m.abs) (r_ tabOk rfl rfl rfl l0_ List.not_mem_nil rfl) rfl)<|slcA (rrecv_s (p := p) (bd := bd) (bt := bt) (N := N) (me := i) (R := R) (m := m) hm h4 (by omega)) ?_
 refine W_ [_] (β := _) rfl (J_ rfl) ?_
 intro z21
 refine q_ 5 rfl<|d_<|b_<|a_<|q_ 3 rfl<|slvA (h_ (C := ptr cr) (g_ tabOk rfl rfl l3_ List.not_mem_nil rfl) rfl)<|q_ 2 rfl<|slcA (kW_ (c := cr) (v := cv) (rows := rows) (from_ := ((i : Nat) : Int)) (ps := z21.1.1) z21.1.2.2 (by have := z21.1.2.1; omega)) ?_
 refine W_ [_, _, _, _, _, _] (β := _) rfl (J_ rfl) ?_
 intro v30
 refine d_<|b_<|c_<|a_<|q_ 3 rfl<|slvA (h_ (C := mapV cm) (g_ tabOk rfl rfl l3_ List.not_mem_nil rfl) rfl)<|q_ 1 rfl<|slvA (h_ (C := .v (.pointer none)) (aX_ (a := ((i : Nat) : Int)) (m := [((4 : Int), some ca)]) (enc := pE) (z0 := none) (zv := .pointer none) (a0_ Tryz.underlying3) Tryz.underlying70 jM_ gg_ rfl l5_ List.not_mem_nil rfl is_v (by unfold intOk; simp only [InR, lo, hi]; omega)) (by rw [show aget [((4 : Int), some ca)] ((i : Nat) : Int) = none from by simp [aget]; omega]; rfl)) ?_
 refine q_ 1 rfl<|d_<|b_<|c_<|a_<|q_ 1 rfl<|slvA (bK_ rfl rfl (by kernel_rfl)) ?_
 refine d_<|b_<|O_ rfl<|o_<|b6_ (rs := []) rfl RV.nil ((v30, z21.1)) (sk_ sr_) (by simp [It.rids]) ?_
 exact rfl
theorem cdel_s (h4 : i < 4) (hr : r i = R.r) (hm : MsOk m) (hN : N ≤ 60000) (hl : rows.length ≤ 1000) : Spec Tryz.prog 63 [ptr c, .agg (int 4 :: int (i : Nat) :: m.abs)] [wb p bd bt N, .pc (bigP (l1 ++ rpP p (i, R) :: l2)), .blk c 74 [bkI p, int 4, int 5, mapV rm, mapV cm, ptr cr, mapV em, .v av], .pc (tmPc rm intK intOk pE (rmL r)), .pc (tmPc cm intK intOk pE [((4 : Int), some ca)]), .blk cr 97 [.v cv], own 143 6 cv rows] (fun z : Value × {ps : List (List Abs) // ParOk 4 ps} => [wb p bd bt (N + 20), .pc (bigP (l1 ++ l2)), .blk c 74 [bkI p, int 4, int 5, mapV rm, mapV cm, ptr cr, mapV em, .v av], .pc (tmPc rm intK intOk pE (rmL r)), .pc (tmPc cm intK intOk pE [((4 : Int), some ca)]), .blk cr 97 [.v z.1], own 143 6 z.1 (rows ++ z.2.1.map fun x => int (i : Nat) :: x)]) (fun _ => .tup []) := by
 refine t_ Tryz.func63 rfl Tryz.ntmps63 rfl fun G w =>c_<|a_<|eb_ (B_ (cs := (int 4 :: int (i : Nat) :: m.abs)) rfl) rfl rfl fun b3=>?_
 refine d_<|b_<|c_<|a_<|q_ 1 rfl<|slvA (bK_ rfl rfl (by kernel_rfl)) ?_
 refine d_<|b_<|U_ rfl<|a_<|q_ 3 rfl<|slvA (h_ (C := int (i : Nat)) (g_ tabOk rfl rfl l0_ List.not_mem_nil rfl) rfl)<|q_ 2 rfl<|slvA (h_ (C := .agg m.abs) (ad_ tabOk rfl rfl rfl l0_ List.not_mem_nil (Nat.le_of_ble_eq_true rfl)) rfl)<|slcA (cgive_s (c := c) (p := p) (bd := bd) (bt := bt) (rm := rm) (cm := cm) (cr := cr) (em := em) (N := N) (ca := ca) (i := i) (av := av) (cv := cv) (r := r) (R := R) (m := m) (rows := rows) (l1 := l1) (l2 := l2) h4 hr hm hN hl) ?_
 refine W_ [_] (β := []) rfl (J_ rfl) ?_
 intro z13
 refine d_<|b6_ (rs := []) rfl RV.nil (z13) (sk_ sr_) (by simp [It.rids]) ?_
 exact rfl
set_option maxHeartbeats 2000000 in
theorem cmove_s (h4 : i < 4) (hr : r i = R.r) (hm : MsOk m) (hN : N ≤ 60000) (h1 : 1 ≤ rows.length) (hl : rows.length ≤ 900) (ho : ∀ x ∈ rows, ones x = true) : Spec Tryz.prog 34 [ptr c, .agg deliver0] [wb p bd bt N, .pc (bigP (l1 ++ rpP p (i, R) :: l2)), .blk c 74 [bkI p, int 4, int 5, mapV rm, mapV cm, ptr cr, mapV em, .v av], .pc (tmPc rm intK intOk pE (rmL r)), .pc (tmPc cm intK intOk pE [((4 : Int), some ca)]), .blk cr 97 [.v cv], own 143 6 cv ((int 4 :: int (i : Nat) :: m.abs) :: rows)] (fun z : Value × {ps : List (List Abs) // ParOk 4 ps} => [wb p bd bt (N + 20), .pc (bigP (l1 ++ l2)), .blk c 74 [bkI p, int 4, int 5, mapV rm, mapV cm, ptr cr, mapV em, .v av], .pc (tmPc rm intK intOk pE (rmL r)), .pc (tmPc cm intK intOk pE [((4 : Int), some ca)]), .blk cr 97 [.v z.1], own 143 6 z.1 (rows ++ z.2.1.map fun x => int (i : Nat) :: x)]) (fun _ => int 0) := by
 refine t_ Tryz.func34 rfl Tryz.ntmps34 rfl fun G w =>c_<|a_<|eb_ (B_ (cs := deliver0) rfl) rfl rfl fun b3=>?_
 refine q_ 1 rfl<|d_<|b_<|c_<|u_<|c_<|a_<|q_ 1 rfl<|slvA (h_ (C := int 0) (g_ tabOk rfl rfl l0_ List.not_mem_nil rfl) rfl)<|q_ 2 rfl<|d_<|b_<|l_ rfl (by intro hc9; exfalso; omega) ?_
 intro hc9
 refine c_<|a_<|q_ 3 rfl<|slvA (h_ (C := ptr cr) (g_ tabOk rfl rfl l3_ List.not_mem_nil rfl) rfl)<|slcA (hI_ (c := cr) (v := cv) (rows := (int 4 :: int (i : Nat) :: m.abs) :: rows)) ?_
 refine ap_<|fun _=>q_ 2 rfl<|d_<|b_<|l_ rfl (by intro hc13; exfalso; rw [List.length_cons] at hc13; omega) ?_
 intro hc13
 refine o_<|w_<|b_<|c_<|Q_ [] (.q 0 (.q 1 (.q 2 (.q 3 (.q 4 (.q 5 (.e 6 (.q 7 (.q 8 .nil))))))))) (by kernel_rfl) (by kernel_rfl) ?_
 refine qs_ 1 rfl<|hx_ fun hx9 =>sxvA rfl (h_ (C := int 0) (g_ tabOk rfl rfl l0_ List.not_mem_nil rfl) rfl) hx9<|qs_ 3 rfl<|sxvA rfl (h_ (C := ptr cr) (g_ tabOk rfl rfl l3_ List.not_mem_nil rfl) rfl) hx9<|D_ rfl (hI_ (c := cr) (v := cv) (rows := (int 4 :: int (i : Nat) :: m.abs) :: rows)) (by simp [mids, It.mids]) Casts.refl (by kernel_rfl) rfl rfl rfl ?_
 refine ap_<|fun _=>hx_ fun hx9 =>sxvA rfl (h_ (C := int 0) (c0_ rfl rfl (by rw [List.length_cons]; omega)) (congrArg int (by simp))) hx9 ?_
 refine qs_ 1 rfl<|F_<|b_<|c_<|a_<|q_ 3 rfl<|slvA (h_ (C := ptr cr) (g_ tabOk rfl rfl l3_ List.not_mem_nil rfl) rfl)<|slvA (V_ rfl rfl)<|q_ 1 rfl<|d_<|b_<|c_<|c_<|a_<|q_ 1 rfl<|slvA (h_ (C := int 3) (g_ tabOk rfl rfl l0_ List.not_mem_nil rfl) rfl)<|q_ 1 rfl<|d_<|b_<|l_ rfl (by intro hc35; exfalso; omega) ?_
 intro hc35
 refine o_<|b_<|c_<|c_<|a_<|q_ 2 rfl<|bX_ (crtake_s (c := cr) (v := cv) (rows := rows) (r0 := (int 4 :: int (i : Nat) :: m.abs)) ⟨rfl, rfl⟩ ho h1 (by omega)) rfl Casts.refl (by kernel_rfl) rfl rfl rfl ?_
 refine W_ [_, _, _, _, _, _] (β := _) rfl (J_ rfl) ?_
 intro _
 refine q_ 3 rfl<|eb_ (C_ tabOk rfl) rfl rfl fun b7=>?_
 refine e_ (m_ (L' := (int 4 :: int (i : Nat) :: m.abs)) tabOk rfl rfl rfl u0_ rfl (Nat.le_of_ble_eq_true rfl) rfl (by exact p_ rfl)) rfl rfl ?_
 refine q_ 1 rfl<|d_<|b_<|c_<|a_<|q_ 3 rfl<|slvA (h_ (C := int 3) (g_ tabOk rfl rfl l1_ List.not_mem_nil rfl) rfl)<|q_ 2 rfl<|d_<|b_<|l_ rfl ?_ (by intro hc52; exfalso; omega)
 intro hc52
 refine a_<|q_ 1 rfl<|slvA (h_ (C := .agg (int 4 :: int (i : Nat) :: m.abs)) (r_ tabOk rfl rfl rfl l0_ List.not_mem_nil rfl) rfl)<|slcA (cdel_s (c := c) (p := p) (bd := bd) (bt := bt) (rm := rm) (cm := cm) (cr := cr) (em := em) (N := N) (ca := ca) (i := i) (av := av) (cv := cutTo cv rows.length) (r := r) (R := R) (m := m) (rows := rows) (l1 := l1) (l2 := l2) h4 hr hm hN (by omega)) ?_
 refine W_ [_, _] (β := []) rfl (J_ rfl) ?_
 intro z55
 exact d_<|b_<|c_<|a_<|q_ 1 rfl<|d_<|b_<|k_<|f_ (rs := [.tmp 4]) rfl (RV.tmp rfl RV.nil) (z55) (sk_ (sk_ sr_))<|rfl
theorem iF_ (h4 : i < 4) (hr : r i = R.r) (hm : MsOk m) (hN : N ≤ 60000) (h1 : 1 ≤ rows.length) (hl : rows.length ≤ 900) (ho : ∀ x ∈ rows, ones x = true) : Spec Tryz.prog 19 [ptr c, .agg deliver0] [wb p bd bt N, .pc (bigP (l1 ++ rpP p (i, R) :: l2)), .blk c 74 [bkI p, int 4, int 5, mapV rm, mapV cm, ptr cr, mapV em, .v av], .pc (tmPc rm intK intOk pE (rmL r)), .pc (tmPc cm intK intOk pE [((4 : Int), some ca)]), .blk cr 97 [.v cv], own 143 6 cv ((int 4 :: int (i : Nat) :: m.abs) :: rows)] (fun z : Value × {ps : List (List Abs) // ParOk 4 ps} => [wb p bd bt (N + 20), .pc (bigP (l1 ++ l2)), .blk c 74 [bkI p, int 4, int 5, mapV rm, mapV cm, ptr cr, mapV em, .v av], .pc (tmPc rm intK intOk pE (rmL r)), .pc (tmPc cm intK intOk pE [((4 : Int), some ca)]), .blk cr 97 [.v z.1], own 143 6 z.1 (rows ++ z.2.1.map fun x => int (i : Nat) :: x)]) (fun _ => int 0) := by
 refine t_ Tryz.func19 rfl Tryz.ntmps19 rfl fun G w =>c_<|a_<|eb_ (B_ (cs := deliver0) rfl) rfl rfl fun b3=>?_
 refine q_ 1 rfl<|d_<|b_<|c_<|c_<|a_<|q_ 1 rfl<|slvA (aD_ rfl rfl (by kernel_rfl)) ?_
 refine d_<|b_<|O_ rfl<|o_<|b_<|c_<|c_<|a_<|q_ 1 rfl<|slvA (h_ (C := int 3) (g_ tabOk rfl rfl l0_ List.not_mem_nil rfl) rfl)<|d_<|b_<|u_<|c_<|a_<|q_ 2 rfl<|d_<|b_<|l_ rfl (by intro hc9; exfalso; omega) ?_
 intro hc9
 refine c_<|a_<|q_ 2 rfl<|d_<|b_<|l_ rfl (by intro hc14; exfalso; omega) ?_
 intro hc14
 refine c_<|c_<|a_<|q_ 2 rfl<|d_<|b_<|l_ rfl ?_ (by intro hc19; exfalso; omega)
 intro hc19
 refine o_<|b_<|l_ rfl ?_ (by intro hc19; exfalso; omega)
 intro hc19
 refine c_<|a_<|q_ 1 rfl<|slvA (h_ (C := .agg deliver0) (r_ tabOk rfl rfl rfl l0_ List.not_mem_nil rfl) rfl)<|slcA (cmove_s (c := c) (p := p) (bd := bd) (bt := bt) (rm := rm) (cm := cm) (cr := cr) (em := em) (N := N) (ca := ca) (i := i) (av := av) (cv := cv) (r := r) (R := R) (m := m) (rows := rows) (l1 := l1) (l2 := l2) h4 hr hm hN h1 hl ho) ?_
 refine W_ [_] (β := []) rfl (J_ rfl) ?_
 intro z25
 exact q_ 1 rfl<|d_<|b_<|k_<|S_<|j_ nofun<|f_ (rs := [.tmp 4]) rfl (RV.tmp rfl RV.nil) (z25) (sk_ sr_)<|rfl
end
def coIn : Core := ⟨0, 0, 1, ⟨#[97]⟩, 5, 0, ⟨#[48]⟩⟩
section
variable {c p bd bt rm cm cr em N ca i k : Nat} {av cv : Value} {r : Nat → Nat} {R : RI} {m : Msg} {rows : List (List Abs)} {l1 l2 : List Pc}
set_option maxHeartbeats 4000000 in
theorem cask0_s (hN : N ≤ 900) : Spec Tryz.prog 32 [ptr c, .agg ask0] [wb p bd bt N, .blk c 74 [bkI p, int 4, int 5, mapV rm, mapV cm, ptr cr, mapV em, .v (.slice none 0 0)], .pc (tmPc rm intK intOk pE (rmL r)), .pc (tmPc cm intK intOk pE [((4 : Int), some ca)]), .blk cr 97 [.v (.slice none 0 0)], own 143 6 (.slice none 0 0) [], .pc (tmPc em wdV wdOk boo []), .blk ca 126 [bkI p, int 4, int 4, int 0, .v (.pointer none), .v (.slice none 0 0)]] (fun z : Value × {m : Msg // MsOk m} × Value × List ((Int × List UInt8) × Bool) => [wb p bd bt (N + 32), .blk c 74 [bkI p, int 4, int 5, mapV rm, mapV cm, ptr cr, mapV em, .v z.1], .pc (tmPc rm intK intOk pE (rmL r)), .pc (tmPc cm intK intOk pE [((4 : Int), some ca)]), .blk cr 97 [.v z.2.2.1], own 143 6 z.2.2.1 ((parcels z.2.1.1 (allN 4)).map fun x => int 4 :: x), .pc (tmPc em wdV wdOk boo z.2.2.2), own 26 7 z.1 [core1.cells.map .v]]) (fun _ => int 0) := by
 refine t_ Tryz.func32 rfl Tryz.ntmps32 rfl fun G w =>c_<|a_<|eb_ (B_ (cs := ask0) rfl) rfl rfl fun b3=>?_
 refine q_ 1 rfl<|d_<|b_<|c_<|Q_ [] (.q 0 (.q 1 (.q 2 (.q 3 (.q 4 (.q 5 (.q 6 (.q 7 .nil)))))))) (by kernel_rfl) (by kernel_rfl) ?_
 refine qs_ 3 rfl<|hx_ fun hx9 =>sxvA rfl (h_ (C := mapV cm) (g_ tabOk rfl rfl l2_ List.not_mem_nil rfl) rfl) hx9<|qs_ 1 rfl<|sxvA rfl (h_ (C := int 4) (g_ tabOk rfl rfl l0_ List.not_mem_nil rfl) rfl) hx9<|sxvA rfl (h_ (C := ptr ca) (aX_ (a := (4 : Int)) (m := [((4 : Int), some ca)]) (enc := pE) (z0 := none) (zv := .pointer none) (a0_ Tryz.underlying3) Tryz.underlying70 jM_ gg_ rfl l4_ List.not_mem_nil rfl is_v (by unfold intOk; simp only [InR, lo, hi]; omega)) rfl) hx9 ?_
 refine qs_ 1 rfl<|F_<|b_<|c_<|c_<|a_<|q_ 1 rfl<|slvA (aD_ rfl rfl (by kernel_rfl)) ?_
 refine d_<|b_<|O_ rfl<|o_<|b_<|c_<|a_<|q_ 2 rfl<|slvA (h_ (C := coreA coIn) (ad_ tabOk rfl rfl rfl l0_ List.not_mem_nil (Nat.le_of_ble_eq_true rfl)) rfl)<|slcA (k0_ (c := ca) (p := p) (x := coIn)) ?_
 refine ap_<|fun _=>eb_ (C_ tabOk rfl) rfl rfl fun b6=>?_
 refine e_ (m_ (L' := core1.cells.map .v) tabOk rfl rfl rfl u0_ rfl (Nat.le_of_ble_eq_true rfl) rfl (by exact p_ rfl)) rfl rfl ?_
 refine d_<|b_<|c_<|ao_ (p := b3 ∉ [c, em, p, bd, bt, ca] ∧ b6 ∉ [c, em, p, bd, bt, ca]) (fun _ _ h => by
   have h1 := h.mem.nodup
   simp [mids, It.mids, ownPc, mapPc, tmPc, wbP, exP] at h1 ⊢
   grind) fun hX => ?_
 refine Q_ [c, em, p, bd, bt, ca] (.q 0 (.q 1 (.q 2 (.q 3 (.q 4 (.q 5 (.q 6 (.q 7 (.e 8 (.q 9 (.e 10 (.q 11 (.q 12 (.q 13 (.q 14 (.q 15 .nil)))))))))))))))) (by kernel_rfl) (by kernel_rfl) ?_
 refine cr_ (by intro k hk; simp only [List.mem_cons, List.not_mem_nil, or_false] at hk; rcases hk with rfl | rfl | rfl | rfl | rfl | rfl <;> simp [mids, It.mids, ownPc, mapPc, tmPc, wbP, exP, blkP, Value.ownBlock]) fun hx9 => ?_
 refine qx_ 1 hx9 rfl<|sxvA rfl (h_ (C := coreA core1) (r_ tabOk rfl rfl rfl l0_ (by exact hX.2) rfl) rfl) hx9 ?_
 refine qx_ 1 hx9 rfl<|sxvA rfl (h_ (C := coreA core1) (r_ tabOk rfl rfl rfl l0_ (by exact hX.2) rfl) rfl) hx9 ?_
 refine qx_ 1 hx9 rfl<|sxvA rfl (h_ (C := hon0) (g_ tabOk rfl rfl l1_ (by exact hX.1) rfl) rfl) hx9 ?_
 refine qx_ 1 hx9 rfl<|sxvA rfl (h_ (C := .v (.int .u32 0)) (g_ tabOk rfl rfl l1_ (by exact hX.1) rfl) rfl) hx9 ?_
 refine D_ rfl (creq_s (c := c) (p := p) (bd := bd) (bt := bt) (rm := rm) (cm := cm) (cr := cr) (em := em) (N := N) (av := .slice none 0 0) (r := r) (EM := []) (by omega)) (by intro k hk; simp [mids, It.mids, tmPc, wbP, exP] at hk ⊢; grind) Casts.refl (by kernel_rfl) rfl rfl rfl ?_
 refine bE_ [.blk b6 26 (core1.cells.map .v), .blk b3 44 ask0, .pc (tmPc rm intK intOk pE (rmL r)), .pc (tmPc cm intK intOk pE [((4 : Int), some ca)]), .blk cr 97 [.v (.slice none 0 0)], own 143 6 (.slice none 0 0) [], .blk ca 126 [bkI p, int 4, int 4, int 0, .v (.pointer none), .v (.slice none 0 0)]] (fun z31 => [.blk ca 126 [bkI p, int 4, int 4, int 0, .v (.pointer none), .v (.slice none 0 0)], wb p bd bt (N + 28), .blk c 74 [bkI p, int 4, int 5, mapV rm, mapV cm, ptr cr, mapV em, .v (.slice none 0 0)], .blk b6 26 (core1.cells.map .v), .blk b3 44 ask0, .pc (tmPc rm intK intOk pE (rmL r)), .pc (tmPc cm intK intOk pE [((4 : Int), some ca)]), .blk cr 97 [.v (.slice none 0 0)], own 143 6 (.slice none 0 0) [], .pc (tmPc em wdV wdOk boo z31.2)]) (by rw [List.perm_iff_count]; intro a; simp only [mids, It.mids, List.flatMap_cons, List.flatMap_nil, List.append_nil, List.nil_append, List.count_append, List.count_cons, List.count_nil, List.cons_append]; omega) (by intro x hx; simp only [List.mem_cons, List.not_mem_nil, or_false] at hx; rcases hx with rfl | rfl | rfl | rfl <;> first | exact .inl ⟨(by repeat first|assumption|exact m0_|apply m1_), rfl⟩ | exact .inr ⟨_, List.mem_cons_self, rfl⟩ | exact .inr ⟨_, (List.mem_cons_of_mem _ List.mem_cons_self), rfl⟩ | exact .inr ⟨_, (List.mem_cons_of_mem _ (List.mem_cons_of_mem _ List.mem_cons_self)), rfl⟩ | exact .inr ⟨_, (List.mem_cons_of_mem _ (List.mem_cons_of_mem _ (List.mem_cons_of_mem _ List.mem_cons_self))), rfl⟩ | exact .inr ⟨_, (List.mem_cons_of_mem _ (List.mem_cons_of_mem _ (List.mem_cons_of_mem _ (List.mem_cons_of_mem _ List.mem_cons_self)))), rfl⟩ | exact .inr ⟨_, (List.mem_cons_of_mem _ (List.mem_cons_of_mem _ (List.mem_cons_of_mem _ (List.mem_cons_of_mem _ (List.mem_cons_of_mem _ List.mem_cons_self))))), rfl⟩ | exact .inr ⟨_, (List.mem_cons_of_mem _ (List.mem_cons_of_mem _ (List.mem_cons_of_mem _ (List.mem_cons_of_mem _ (List.mem_cons_of_mem _ (List.mem_cons_of_mem _ List.mem_cons_self)))))), rfl⟩) (by intro x hx; simp only [List.mem_cons, List.not_mem_nil, or_false] at hx; rcases hx with rfl | rfl | rfl | rfl | rfl | rfl | rfl <;> repeat first|assumption|exact m0_|apply m1_) (fun _ => (by repeat (first | exact List.Perm.nil | refine pk_ (by repeat (first | exact Rem_.here | apply Rem_.there)) ?_))) ?_
 intro z31
 refine cr_ (by intro k hk; simp only [List.mem_cons, List.not_mem_nil, or_false] at hk; rcases hk with rfl | rfl | rfl | rfl | rfl | rfl <;> simp [mids, It.mids, ownPc, mapPc, tmPc, wbP, exP, blkP, Value.ownBlock]) fun hx9 => ?_
 refine sxvA rfl (h_ (C := endsA z31.1.1) (fB_ tabOk rfl rfl rfl rfl rfl) rfl) hx9<|bV_ ([]) rfl (cask_s (c := ca) (p := p) (bd := bd) (bt := bt) (N := N + 28) (es := z31.1.1) z31.1.2 (by omega)) (by intro k hk; simp [mids, It.mids, tmPc, wbP, exP] at hk ⊢; grind) (by intro k hk; cases hk) Casts.refl (by kernel_rfl) rfl rfl rfl ?_
 refine W_ [] (β := _) rfl (J_ rfl) ?_
 intro z33
 refine qs_ 5 rfl<|F_<|b_<|c_<|c_<|a_<|q_ 2 rfl<|d_<|b_<|l_ rfl (by intro hc37; exfalso; omega) ?_
 intro hc37
 refine o_<|b_<|c_<|aF_ 26 7<|as_ (mids [own 26 7 (.slice none 0 0) []] ++ []) (.q 0 (.q 1 (.q 2 (.q 3 (.q 4 (.q 5 (.e 6 (.e 7 (.q 8 (.q 9 .nil)))))))))) (by kernel_rfl) (by kernel_rfl) ?_
 refine hx_ fun hx9 =>qx_ 4 hx9 rfl<|sxvA rfl (h_ (C := .v (.slice none 0 0)) (g_ tabOk rfl rfl l2_ (by simp [mids, It.mids, ownPc, Value.ownBlock]) rfl) rfl) hx9 ?_
 refine sxvA rfl (h_ (C := coreA core1) (r_ tabOk rfl rfl rfl l3_ (by simp [mids, It.mids, ownPc, Value.ownBlock]) rfl) rfl) hx9 ?_
 refine ex_ rfl (G_ tabOk Tryz.underlying51 rfl rfl rfl (ah_ rfl) rfl rfl rfl) (by simp) rfl rfl ?_
 refine cs_ [own 26 7 (.slice none 0 0) []] [] rfl (K_ (zs := [core1.cells.map .v]) tabOk [] rfl Tryz.underlying51 rfl rfl rfl rfl rfl rfl (by intro c hc; rw [List.mem_singleton] at hc; subst hc; rfl) (by unfold maxLen; simp only [List.length_cons, List.length_nil]; omega) (by rw [show Tryz.prog.bytesOf 26 = 72 by kernel_rfl]; simp only [List.length_cons, List.length_nil]; omega)) rfl (by intro k hk; simp [mids, It.mids, ownPc] at hk ⊢; simp [hk]) rfl rfl ?_
 rintro _ _ ⟨r46, rfl, rfl⟩
 refine ⟨[own 26 7 r46 [core1.cells.map .v]], rfl, hx_ fun hx9 =>qx_ 2 hx9 rfl<|F_<|aq_ rfl (az_ (L' := [bkI p, int 4, int 5, mapV rm, mapV cm, ptr cr, mapV em, .v r46]) tabOk rfl rfl rfl rfl i0_ u2_ rfl (by rfl)) rfl rfl ?_⟩
 rintro _ _ ⟨rfl, rfl⟩
 refine b_<|c_ ?_
 have hps : ∀ m ∈ parcels z33.1 (allN 4), m.length = 5 ∧ ones m = true := by
  intro x hx
  obtain ⟨w, _, rfl⟩ := List.mem_map.1 hx
  exact ⟨rfl, rfl⟩
 refine ao_ (p := c ∉ mids [.blk cr 97 [.v (.slice none 0 0)], own 143 6 (.slice none 0 0) []] ∧ b3 ∉ mids [.blk cr 97 [.v (.slice none 0 0)], own 143 6 (.slice none 0 0) []]) (fun _ _ h => by
   have h1 := h.mem.nodup
   refine ⟨?_, ?_⟩ <;> (intro hm; simp [mids, It.mids, ownPc, Value.ownBlock] at hm; subst hm; simp [mids, It.mids, ownPc, mapPc, tmPc, wbP, exP, Value.ownBlock] at h1; exact absurd (List.nodup_append.1 h1).2.1 (by simp))) fun hX => ?_
 refine Q_ (mids [.blk cr 97 [.v (.slice none 0 0)], own 143 6 (.slice none 0 0) []]) (.q 0 (.q 1 (.q 2 (.q 3 (.q 4 (.q 5 (.q 6 (.e 7 .nil)))))))) (by kernel_rfl) (by kernel_rfl) ?_
 refine hxA fun hx9 => ?_
 refine qx_ 3 hx9 rfl<|sxvA rfl (h_ (C := ptr cr) (g_ tabOk rfl rfl l2_ (by exact hX.1) rfl) rfl) hx9 ?_
 refine qx_ 1 hx9 rfl<|sxvA rfl (h_ (C := int 4) (g_ tabOk rfl rfl l4_ (by exact hX.2) rfl) rfl) hx9 ?_
 refine qx_ 1 hx9 rfl<|D_ rfl (kW_ (c := cr) (v := .slice none 0 0) (rows := []) (from_ := 4) (ps := parcels z33.1 (allN 4)) hps (by simp [parcels, alN4])) (by intro k hk; exact hk) Casts.refl (by kernel_rfl) rfl rfl rfl ?_
 refine bE_ [own 26 7 r46 [core1.cells.map .v], wb p bd bt (N + 28 + 4), .blk c 74 [bkI p, int 4, int 5, mapV rm, mapV cm, ptr cr, mapV em, .v r46], .blk b6 26 (core1.cells.map .v), .blk b3 44 ask0, .pc (tmPc rm intK intOk pE (rmL r)), .pc (tmPc cm intK intOk pE [((4 : Int), some ca)]), .pc (tmPc em wdV wdOk boo z31.2)] (fun v56 => [wb p bd bt (N + 28 + 4), .blk c 74 [bkI p, int 4, int 5, mapV rm, mapV cm, ptr cr, mapV em, .v r46], .pc (tmPc rm intK intOk pE (rmL r)), .pc (tmPc cm intK intOk pE [((4 : Int), some ca)]), .blk cr 97 [.v v56], own 143 6 v56 ([] ++ (parcels z33.1 (allN 4)).map fun m => int 4 :: m), .pc (tmPc em wdV wdOk boo z31.2), own 26 7 r46 [core1.cells.map .v], .blk b6 26 (core1.cells.map .v), .blk b3 44 ask0]) (by rw [List.perm_iff_count]; intro a; simp only [mids, It.mids, List.flatMap_cons, List.flatMap_nil, List.append_nil, List.nil_append, List.count_append, List.count_cons, List.count_nil, List.cons_append]; omega) (by intro x hx; simp only [List.mem_cons, List.not_mem_nil, or_false] at hx; rcases hx with rfl | rfl <;> exact .inl ⟨(by repeat first|assumption|exact m0_|apply m1_), rfl⟩) (by intro x hx; simp only [List.mem_cons, List.not_mem_nil, or_false] at hx; rcases hx with rfl | rfl | rfl | rfl | rfl | rfl | rfl | rfl <;> repeat first|assumption|exact m0_|apply m1_) (fun _ => (by repeat (first | exact List.Perm.nil | refine pk_ (by repeat (first | exact Rem_.here | apply Rem_.there)) ?_))) ?_
 intro v56
 exact F_<|b_<|c_<|a_<|q_ 1 rfl<|d_<|b_<|k_<|f_ (rs := [.tmp 4]) rfl (RV.tmp rfl RV.nil) ((r46, z33, v56, z31.2)) (sc_ (sc_ (sc_ (sc_ (sc_ (sc_ (sc_ (sc_ sn_))))))))<|rfl
end
def xo (x y : Nat) : Nat := (x % 18446744073709551616) ^^^ (y % 18446744073709551616)
theorem xo_lt (x y : Nat) : xo x y < 18446744073709551616 := Nat.xor_lt_two_pow (n := 64) (Nat.mod_lt _ (by decide)) (Nat.mod_lt _ (by decide))
section
variable {P : Program} {n : Nat} {W : Wd} {σ τ : Blks} {l : Slots} {X : List Nat} {x y z : Operand} {d : Option Nat} {ty t t' e : TypeId} {pos : String} {aft : Array Edge} {g : Option (Nat × Bool)} {a b : Int}
theorem f6_ (hx : look l x = some (.v (.int .u64 a))) (hy : look l y = some (.v (.int .u64 b))) (p q : Nat) (ha : a = (p : Nat)) (hb : b = (q : Nat)) : Val P n W σ l X ⟨d, .binOp .xor t x y t', ty, pos, aft, g⟩ (wrd (xo p q)) := by
  subst ha hb
  refine bU_ hx hy (fun w => ?_) rfl
  simp only [Op.intBits, ofInt64]
  refine congrArg (fun r => Result.ok (Value.int .u64 r) w) ?_
  rw [wrap64]
  have h : (BitVec.ofNat 64 p ^^^ BitVec.ofNat 64 q).toNat = xo p q := by rw [BitVec.toNat_xor, BitVec.toNat_ofNat, BitVec.toNat_ofNat]; rfl
  have h2 := (BitVec.ofNat 64 p ^^^ BitVec.ofNat 64 q).isLt
  show (((BitVec.ofNat 64 p ^^^ BitVec.ofNat 64 q).toNat : Nat) : Int) % _ = _
  rw [← h]
  omega
end
def xA (x : Nat) : Nat := xo x (x * 2 ^ 13 % 18446744073709551616)
def xB (x : Nat) : Nat := xo (xA x) (xA x / 2 ^ 7)
def xS (x : Nat) : Nat := xo (xB x) (xB x * 2 ^ 17 % 18446744073709551616)
def dr (x b : Nat) : Nat := xS x / 2 ^ 33 % max b 1
theorem cA_ (x : Nat) {b : Nat} (h : 0 < b) : dr x b < b := by
  unfold dr
  rw [Nat.max_eq_left h]
  exact Nat.mod_lt _ h
structure PW where
  f : Int
  li : List Int
  cl : Int
  n : Nat
  c : Core
  ho : List Int
def plG (P : PW) (x : Nat) (h : Abs) : List Abs := [int P.f, ints P.li, int P.cl, int (P.n : Nat), int P.c.client, int P.c.stamp, int P.c.op, .v (.string P.c.letter), int P.c.a, int P.c.b, .v (.string P.c.text), wrd x, h]
section
variable {p x b : Nat} {P : PW} {h : Abs}
theorem ay_ (hb : b < 4611686018427387904) : Spec Tryz.prog 29 [ptr p, int (b : Nat)] [.blk p 87 (plG P x (h))] (fun _ : Unit => [.blk p 87 (plG P (xS x) (h))]) (fun _ => int (dr x b : Nat)) := by
 refine t_ Tryz.func29 rfl Tryz.ntmps29 rfl fun G w =>c_<|a_<|q_ 1 rfl<|d_<|b_<|c_<|as_ [] (.q 0 (.q 1 (.q 2 (.q 3 (.q 4 (.q 5 (.q 6 (.q 7 (.q 8 (.q 9 (.q 10 (.q 11 .nil)))))))))))) (by kernel_rfl) (by kernel_rfl) ?_
 refine qs_ 3 rfl<|hx_ fun hx9 =>sxvA rfl (h_ (C := wrd x) (g_ tabOk rfl rfl l0_ List.not_mem_nil rfl) rfl) hx9<|qs_ 3 rfl<|sxvA rfl (h_ (C := wrd x) (g_ tabOk rfl rfl l0_ List.not_mem_nil rfl) rfl) hx9<|sxvA rfl (g6_ rfl rfl (x) 13 rfl rfl (by omega)) hx9 ?_
 refine sxvA rfl (f6_ rfl rfl (x) (x * 2 ^ 13 % 18446744073709551616) rfl rfl) hx9<|qs_ 2 rfl<|F_<|aq_ rfl (m_ (L' := plG P (xA x) h) tabOk rfl rfl rfl u0_ rfl (lb_ (by rfl)) rfl (by rfl)) rfl rfl ?_
 rintro _ _ ⟨rfl, rfl⟩
 refine b_<|c_<|as_ [] (.q 0 (.q 1 (.q 2 (.q 3 (.q 4 (.q 5 (.q 6 (.q 7 (.q 8 (.q 9 (.q 10 (.q 11 .nil)))))))))))) (by kernel_rfl) (by kernel_rfl) ?_
 refine qs_ 3 rfl<|hx_ fun hx9 =>sxvA rfl (h_ (C := wrd (xA x)) (g_ tabOk rfl rfl l0_ List.not_mem_nil rfl) rfl) hx9<|qs_ 3 rfl<|sxvA rfl (h_ (C := wrd (xA x)) (g_ tabOk rfl rfl l0_ List.not_mem_nil rfl) rfl) hx9<|sxvA rfl (g5_ rfl rfl (xA x) 7 rfl rfl (by omega)) hx9 ?_
 refine sxvA rfl (f6_ rfl rfl (xA x) (xA x / 2 ^ 7) rfl rfl) hx9<|qs_ 2 rfl<|F_<|aq_ rfl (m_ (L' := plG P (xB x) h) tabOk rfl rfl rfl u0_ rfl (lb_ (by rfl)) rfl (by rfl)) rfl rfl ?_
 rintro _ _ ⟨rfl, rfl⟩
 refine b_<|c_<|as_ [] (.q 0 (.q 1 (.q 2 (.q 3 (.q 4 (.q 5 (.q 6 (.q 7 (.q 8 (.q 9 (.q 10 (.q 11 .nil)))))))))))) (by kernel_rfl) (by kernel_rfl) ?_
 refine qs_ 3 rfl<|hx_ fun hx9 =>sxvA rfl (h_ (C := wrd (xB x)) (g_ tabOk rfl rfl l0_ List.not_mem_nil rfl) rfl) hx9<|qs_ 3 rfl<|sxvA rfl (h_ (C := wrd (xB x)) (g_ tabOk rfl rfl l0_ List.not_mem_nil rfl) rfl) hx9<|sxvA rfl (g6_ rfl rfl (xB x) 17 rfl rfl (by omega)) hx9 ?_
 refine sxvA rfl (f6_ rfl rfl (xB x) (xB x * 2 ^ 17 % 18446744073709551616) rfl rfl) hx9<|qs_ 2 rfl<|F_<|aq_ rfl (m_ (L' := plG P (xS x) h) tabOk rfl rfl rfl u0_ rfl (lb_ (by rfl)) rfl (by rfl)) rfl rfl ?_
 rintro _ _ ⟨rfl, rfl⟩
 refine b_<|c_<|a_<|q_ 3 rfl<|slvA (h_ (C := wrd (xS x)) (g_ tabOk rfl rfl l0_ List.not_mem_nil rfl) rfl)<|slvA (g5_ rfl rfl (xS x) 33 rfl rfl (by omega)) ?_
 refine slvA (h_ (C := int ((xS x / 2 ^ 33 : Nat) : Int)) (R_ rfl Tryz.underlying3 (by kernel_rfl) (by have := xo_lt (xB x) (xB x * 2 ^ 17 % 18446744073709551616); simp only [InR, lo, hi]; unfold xS; omega)) rfl) ?_
 refine q_ 1 rfl<|slvA (h_ (C := int ((max b 1 : Nat) : Int)) (ga_ rfl rfl) (congrArg int (by omega))) ?_
 refine slvA (h_ (C := int (dr x b : Nat)) (c0_ rfl rfl (by omega)) (congrArg int (by unfold dr; omega))) ?_
 exact q_ 1 rfl<|d_<|b_<|k_<|f_ (rs := [.tmp 4]) rfl (RV.tmp rfl RV.nil) (()) sr_<|rfl
theorem b4_ {xs : List Int} (h0 : 0 < xs.length) (hb : xs.length < 1000) : Spec Tryz.prog 49 [ptr p, ints xs] [.blk p 87 (plG P x (h))] (fun _ : Unit => [.blk p 87 (plG P (xS x) (h))]) (fun _ => int (xs.getD (dr x xs.length) 0)) := by
 have hd := cA_ x h0
 refine t_ Tryz.func49 rfl Tryz.ntmps49 rfl fun G w =>c_<|a_<|q_ 1 rfl<|d_<|b_<|c_<|a_<|q_ 3 rfl<|slvA (h_ (C := int (xs.length : Nat)) (H_ (m := xs.length) rfl Tryz.underlying22 (by rw [List.length_map])) rfl) ?_
 refine slcA (ay_ (p := p) (P := P) (h := h) (x := x) (b := xs.length) (by omega)) ?_
 refine x_ rfl i0_ (fun _ => rfl)<|fun _=>⟨_, u0_, slvA (L_ (q := dr x xs.length) (xs := xs.map fun x => [int x]) (cs := [int (xs.getD (dr x xs.length) 0)]) tabOk Tryz.underlying22 rfl rfl rfl rfl (by rw [List.getElem?_map, List.getElem?_eq_getElem hd, List.getD_eq_getElem?_getD, List.getElem?_eq_getElem hd]; rfl) rfl rfl) ?_⟩
 exact slvA (h_ (C := int (xs.getD (dr x xs.length) 0)) (aa_ tabOk rfl rfl rfl) rfl)<|q_ 1 rfl<|d_<|b_<|k_<|f_ (rs := [.tmp 4]) rfl (RV.tmp rfl RV.nil) (()) sr_<|rfl
end
theorem aS_ {P : Program} {n : Nat} {W : Wd} {σ : Blks} {l : Slots} {X : List Nat} {o : Oper} {x y : Abs} (h : Val P n W σ l X o x) (c : ∀ K w u, rep K w x u → rep K w y u) : Val P n W σ l X o y := fun a w hs hX => by
  obtain ⟨v, h1, h2⟩ := h a w hs hX
  exact ⟨v, c _ _ _ h1, h2⟩
structure Stp where
  kind : Int
  who : Int
  to : Int
  at_ : Int
  c : Core
  orgs : List Int
  mkd : Int
  body : List UInt8
def cz : Core := ⟨0, 0, 0, ⟨#[]⟩, 0, 0, ⟨#[]⟩⟩
def stR (k w t a : Int) (c : Core) (o : Abs) (m : Int) (b : Abs) : List Abs := [int k, int w, int t, int a, int c.client, int c.stamp, int c.op, .v (.string c.letter), int c.a, int c.b, .v (.string c.text), o, .v (.int .u32 0), int m, int 0, b, .v (.slice none 0 0)]
def Stp.abs (s : Stp) : List Abs := stR s.kind s.who s.to s.at_ s.c (ints s.orgs) s.mkd (byt s.body)
theorem dK_ {k w t a : Int} {c : Core} {m : Int} : ∀ K z u, rep K z (.agg (stR k w t a c (.v (.slice none 0 0)) m (.v (.slice none 0 0)))) u → rep K z (.agg (Stp.mk k w t a c [] m []).abs) u :=
  cn_ (Casts.keep (Casts.keep (Casts.keep (Casts.keep (Casts.keep (Casts.keep (Casts.keep (Casts.keep (Casts.keep (Casts.keep (Casts.keep (Casts.nils (Casts.keep (Casts.keep (Casts.keep (Casts.nils Casts.refl))))))))))))))))
theorem hs_ {k w t a : Int} {c : Core} {m : Int} {b : List UInt8} : ∀ K z u, rep K z (.agg (stR k w t a c (.v (.slice none 0 0)) m (byt b))) u → rep K z (.agg (Stp.mk k w t a c [] m b).abs) u :=
  cn_ (Casts.keep (Casts.keep (Casts.keep (Casts.keep (Casts.keep (Casts.keep (Casts.keep (Casts.keep (Casts.keep (Casts.keep (Casts.keep (Casts.nils Casts.refl))))))))))))
theorem ka_ {k w t a : Int} {c : Core} {m : Int} {o : List Int} : ∀ K z u, rep K z (.agg (stR k w t a c (ints o) m (.v (.slice none 0 0)))) u → rep K z (.agg (Stp.mk k w t a c o m []).abs) u :=
  cn_ (Casts.keep (Casts.keep (Casts.keep (Casts.keep (Casts.keep (Casts.keep (Casts.keep (Casts.keep (Casts.keep (Casts.keep (Casts.keep (Casts.keep (Casts.keep (Casts.keep (Casts.keep (Casts.nils Casts.refl))))))))))))))))
def dgD (k : UInt8) (v : Nat) : List UInt8 := k :: (List.replicate 30 0 ++ [UInt8.ofNat v])
def dgT (k : UInt8) (v : Nat) : Tg := ⟨dgD k v, by simp [dgD]⟩
def askC (P : PW) (x : Nat) : Core := { P.c with client := (P.n : Nat), stamp := ((1 + dr x 2 : Nat) : Int) }
def lieF (P : PW) (x : Nat) (k : Int) (b : List UInt8) : Stp × Nat := (⟨7, P.li.getD (dr x P.li.length) 0, P.ho.getD (dr (xS x) P.ho.length) 0, 0, cz, [], k, b⟩, xS (xS x))
def plainF (P : PW) (x : Nat) : Stp × Nat :=
  if dr x 12 = 0 then (⟨2, (P.n : Nat), 0, 0, cz, [], 0, []⟩, xS x)
  else if dr x 12 = 1 ∨ dr x 12 = 2 then (⟨6, P.ho.getD (dr (xS x) P.ho.length) 0, 0, 0, cz, [], 0, []⟩, xS (xS x))
  else (⟨3, 0, 0, 0, cz, [], 0, []⟩, xS x)
def stormF (P : PW) (x : Nat) : Stp × Nat := (⟨[3, 3, 4, 5].getD (dr x 4) 0, 0, 0, (dr (xS x) 64 : Nat), cz, [], 0, []⟩, xS (xS x))
structure PW.Ok (P : PW) : Prop where
  ho0 : 0 < P.ho.length
  hoL : P.ho.length < 1000
  liL : P.li.length < 1000
  n7 : P.n = 4 ∨ P.n = 7
section
variable {p x b : Nat} {P : PW} {k : UInt8} {kk : Int} {bd : List UInt8}
theorem gL_  : Spec Tryz.prog 78 [ptr p, .v (bc k)] [.blk p 87 (plG P x ((ints P.ho)))] (fun _ : Unit => [.blk p 87 (plG P (xS x) ((ints P.ho)))]) (fun _ => .agg (dgT k (1 + dr x 12)).abs) := by
 have hd := cA_ x (b := 12) (by omega)
 refine t_ Tryz.func78 rfl Tryz.ntmps78 rfl fun G w =>c_<|a_<|eb_ (C_ tabOk rfl) rfl rfl fun b4=>?_
 refine d_<|b_<|c_<|a_<|q_ 2 rfl<|slcA (ay_ (p := p) (P := P) (h := (ints P.ho)) (x := x) (b := 12) (by omega)) ?_
 refine x_ rfl i1_ (fun _ => rfl)<|fun _=>⟨_, u1_, slvA (h_ (C := int ((1 + dr x 12 : Nat) : Int)) (y_ rfl rfl (by simp only [InR, lo, hi]; omega)) (congrArg int (by omega))) ?_⟩
 refine slvA (h_ (C := .v (bc (UInt8.ofNat (1 + dr x 12)))) (R_ rfl Tryz.underlying5 (by kernel_rfl) (by simp only [InR, lo, hi]; omega)) (congrArg (fun r => Abs.v (.int .u8 r)) (by rw [UInt8.toNat_ofNat_of_lt' (by show 1 + dr x 12 < 256; omega)]))) ?_
 refine slvA (h_ (C := .agg (dgT k (1 + dr x 12)).abs) (bC_ tabOk rfl rfl rfl rfl) rfl)<|e_ (m_ (L' := (dgT k (1 + dr x 12)).abs) tabOk rfl rfl rfl u0_ (Tg.size _) (Nat.le_of_ble_eq_true rfl) (bO_ _) (by exact p_ (Tg.size _))) rfl rfl ?_
 exact d_<|b_<|k_<|f_ (rs := [.cell 4 121]) rfl (RV.cell rfl (RV.cellA tabOk rfl rfl l0_ (Tg.size _)) RV.nil) (()) (sk_ sr_)<|rfl
set_option maxHeartbeats 1000000 in
theorem gask_s  : Spec Tryz.prog 75 [ptr p] [.blk p 87 (plG P x ((ints P.ho)))] (fun _ : Unit => [.blk p 87 (plG P (xS x) ((ints P.ho)))]) (fun _ => coreA (askC P x)) := by
 have hd := cA_ x (b := 2) (by omega)
 refine t_ Tryz.func75 rfl Tryz.ntmps75 rfl fun G w =>c_<|a_<|eb_ (C_ tabOk rfl) rfl rfl fun b2=>?_
 refine d_<|b_<|c_<|a_<|q_ 3 rfl<|slvA (h_ (C := coreA P.c) (ad_ tabOk rfl rfl rfl l1_ List.not_mem_nil (Nat.le_of_ble_eq_true rfl)) rfl)<|eb_ (C_ tabOk rfl) rfl rfl fun b3=>?_
 refine e_ (m_ (L' := P.c.cells.map .v) tabOk rfl rfl rfl u0_ rfl (Nat.le_of_ble_eq_true rfl) rfl (by exact p_ rfl)) rfl rfl ?_
 refine d_<|b_<|c_<|Q_ [p, b3] (.q 0 (.q 1 (.q 2 (.q 4 (.two 3 5 (.q 7 (.e 5 (.q 6 (.e 8 (.q 9 (.e 10 .nil)))))) (.q 6 (.e 3 (.q 7 (.e 8 (.q 9 (.e 10 .nil))))))))))) (by kernel_rfl) (by kernel_rfl) ?_
 refine hx_ fun hx9 =>qx_ 4 hx9 rfl<|aV_ ?_ ?_
 ·skip
  refine bn_ rfl (h_ (C := int (P.n : Nat)) (g_ tabOk rfl rfl l2_ List.not_mem_nil (by rfl)) rfl) rfl rfl ?_
  refine hx_ fun hx9 =>qx_ 1 hx9 rfl<|D_ rfl (ay_ (p := p) (P := P) (h := (ints P.ho)) (x := x) (b := 2) (by omega)) (by simp [mids, It.mids]) Casts.refl (by kernel_rfl) rfl rfl rfl ?_
  refine x_ rfl i2_ (fun _ => rfl)<|fun _=>⟨_, u2_, hx_ fun hx9 =>sxvA rfl (h_ (C := int ((1 + dr x 2 : Nat) : Int)) (y_ rfl rfl (by simp only [InR, lo, hi]; omega)) (congrArg int (by omega))) hx9 ?_⟩
  refine ex_ rfl (m_ tabOk rfl rfl rfl u0_ rfl (Nat.le_of_ble_eq_true rfl) rfl rfl) (by simp) rfl rfl ?_
  refine hx_ fun hx9 =>qx_ 1 hx9 rfl<|ex_ rfl (m_ tabOk rfl rfl rfl u0_ rfl (Nat.le_of_ble_eq_true rfl) rfl rfl) (by simp) rfl rfl ?_
  refine F_<|b_<|c_<|a_<|slvA (h_ (C := coreA (askC P x)) (r_ tabOk rfl rfl rfl l0_ List.not_mem_nil rfl) rfl)<|e_ (m_ (L' := (askC P x).cells.map .v) tabOk rfl rfl rfl u1_ rfl (Nat.le_of_ble_eq_true rfl) rfl (by exact p_ rfl)) rfl rfl ?_
  refine d_<|b_<|k_<|f_ (rs := [.cell 2 26]) rfl (RV.cell rfl (RV.cellA tabOk rfl rfl l1_ (by rfl)) RV.nil) (()) (sk_ (sk_ sr_)) ?_
  exact rfl
 skip
 refine D_ rfl (ay_ (p := p) (P := P) (h := (ints P.ho)) (x := x) (b := 2) (by omega)) (by simp [mids, It.mids]) Casts.refl (by kernel_rfl) rfl rfl rfl ?_
 refine x_ rfl i2_ (fun _ => rfl)<|fun _=>⟨_, u2_, hx_ fun hx9 =>sxvA rfl (h_ (C := int ((1 + dr x 2 : Nat) : Int)) (y_ rfl rfl (by simp only [InR, lo, hi]; omega)) (congrArg int (by omega))) hx9 ?_⟩
 refine bn_ rfl (h_ (C := int (P.n : Nat)) (g_ tabOk rfl rfl l2_ List.not_mem_nil (by rfl)) rfl) rfl rfl ?_
 refine hx_ fun hx9 =>qx_ 1 hx9 rfl<|ex_ rfl (m_ tabOk rfl rfl rfl u0_ rfl (Nat.le_of_ble_eq_true rfl) rfl rfl) (by simp) rfl rfl ?_
 refine hx_ fun hx9 =>qx_ 1 hx9 rfl<|ex_ rfl (m_ tabOk rfl rfl rfl u0_ rfl (Nat.le_of_ble_eq_true rfl) rfl rfl) (by simp) rfl rfl ?_
 refine F_<|b_<|c_<|a_<|slvA (h_ (C := coreA (askC P x)) (r_ tabOk rfl rfl rfl l0_ List.not_mem_nil rfl) rfl)<|e_ (m_ (L' := (askC P x).cells.map .v) tabOk rfl rfl rfl u1_ rfl (Nat.le_of_ble_eq_true rfl) rfl (by exact p_ rfl)) rfl rfl ?_
 refine d_<|b_<|k_<|f_ (rs := [.cell 2 26]) rfl (RV.cell rfl (RV.cellA tabOk rfl rfl l1_ (by rfl)) RV.nil) (()) (sk_ (sk_ sr_)) ?_
 exact rfl
set_option maxHeartbeats 1000000 in
theorem cx_ (hP : P.Ok) (hl : 0 < P.li.length) : Spec Tryz.prog 76 [ptr p, int kk, byt bd] [.blk p 87 (plG P x ((ints P.ho)))] (fun _ : Unit => [.blk p 87 (plG P (lieF P x kk bd).2 ((ints P.ho)))]) (fun _ => .agg (lieF P x kk bd).1.abs) := by
 refine t_ Tryz.func76 rfl Tryz.ntmps76 rfl fun G w =>c_<|a_<|eb_ (C_ tabOk rfl) rfl rfl fun b6=>?_
 refine d_<|b_<|c_<|as_ [p] (.q 0 (.q 1 (.q 2 (.q 3 (.q 4 (.q 7 (.q 8 (.q 9 (.q 10 (.q 13 (.q 14 (.q 15 (.two 5 11 (.two 6 11 (.e 11 (.e 12 (.q 16 .nil))) (.e 6 (.e 12 (.q 16 .nil)))) (.e 5 (.e 6 (.e 12 (.q 16 .nil))))))))))))))))) (by kernel_rfl) (by kernel_rfl) ?_
 refine hx_ fun hx9 =>qx_ 11 hx9 rfl<|sxvA rfl (h_ (C := .agg [int kk, int 0, byt bd, .v (.slice none 0 0)]) (z_ tabOk rfl rfl rfl rfl) rfl) hx9<|aV_ ?_ ?_
 ·skip
  refine bn_ rfl (h_ (C := ints P.li) (g_ tabOk rfl rfl l1_ List.not_mem_nil (by rfl)) rfl) rfl rfl ?_
  refine aV_ ?_ ?_
  ·skip
   refine D_ rfl (b4_ (p := p) (P := P) (h := (ints P.ho)) (x := x) (xs := P.li) hl hP.liL) (by simp [mids, It.mids]) Casts.refl (by kernel_rfl) rfl rfl rfl ?_
   refine x_ rfl i1_ (fun _ => rfl)<|fun _=>⟨_, u1_, bn_ rfl (h_ (C := ints P.ho) (g_ tabOk rfl rfl l1_ List.not_mem_nil (by rfl)) rfl) rfl rfl ?_⟩
   refine D_ rfl (b4_ (p := p) (P := P) (h := (ints P.ho)) (x := (xS x)) (xs := P.ho) hP.ho0 hP.hoL) (by simp [mids, It.mids]) Casts.refl (by kernel_rfl) rfl rfl rfl ?_
   refine x_ rfl i1_ (fun _ => rfl)<|fun _=>⟨_, u1_, hx_ fun hx9 =>sxvA rfl (aS_ (h_ (C := .agg (stR 7 (P.li.getD (dr x P.li.length) 0) (P.ho.getD (dr (xS x) P.ho.length) 0) 0 cz (.v (.slice none 0 0)) kk (byt bd))) (z_ tabOk rfl rfl rfl rfl) rfl) hs_) hx9<|F_<|aq_ rfl (m_ (L' := (lieF P x kk bd).1.abs) tabOk rfl rfl rfl u0_ rfl (lb_ (by rfl)) rfl (by exact p_ rfl)) rfl rfl ?_⟩
   rintro _ _ ⟨rfl, rfl⟩
   refine b_<|k_<|f_ (rs := [.cell 6 44]) rfl (RV.cell rfl (RV.cellA tabOk rfl rfl l0_ (by rfl)) RV.nil) (()) (sk_ sr_) ?_
   exact rfl
  skip
  refine bn_ rfl (h_ (C := ints P.ho) (g_ tabOk rfl rfl l1_ List.not_mem_nil (by rfl)) rfl) rfl rfl ?_
  refine D_ rfl (b4_ (p := p) (P := P) (h := (ints P.ho)) (x := x) (xs := P.li) hl hP.liL) (by simp [mids, It.mids]) Casts.refl (by kernel_rfl) rfl rfl rfl ?_
  refine x_ rfl i1_ (fun _ => rfl)<|fun _=>⟨_, u1_, D_ rfl (b4_ (p := p) (P := P) (h := (ints P.ho)) (x := (xS x)) (xs := P.ho) hP.ho0 hP.hoL) (by simp [mids, It.mids]) Casts.refl (by kernel_rfl) rfl rfl rfl ?_⟩
  refine x_ rfl i1_ (fun _ => rfl)<|fun _=>⟨_, u1_, hx_ fun hx9 =>sxvA rfl (aS_ (h_ (C := .agg (stR 7 (P.li.getD (dr x P.li.length) 0) (P.ho.getD (dr (xS x) P.ho.length) 0) 0 cz (.v (.slice none 0 0)) kk (byt bd))) (z_ tabOk rfl rfl rfl rfl) rfl) hs_) hx9<|F_<|aq_ rfl (m_ (L' := (lieF P x kk bd).1.abs) tabOk rfl rfl rfl u0_ rfl (lb_ (by rfl)) rfl (by exact p_ rfl)) rfl rfl ?_⟩
  rintro _ _ ⟨rfl, rfl⟩
  refine b_<|k_<|f_ (rs := [.cell 6 44]) rfl (RV.cell rfl (RV.cellA tabOk rfl rfl l0_ (by rfl)) RV.nil) (()) (sk_ sr_) ?_
  exact rfl
 skip
 refine bn_ rfl (h_ (C := ints P.ho) (g_ tabOk rfl rfl l1_ List.not_mem_nil (by rfl)) rfl) rfl rfl ?_
 refine bn_ rfl (h_ (C := ints P.li) (g_ tabOk rfl rfl l1_ List.not_mem_nil (by rfl)) rfl) rfl rfl ?_
 refine D_ rfl (b4_ (p := p) (P := P) (h := (ints P.ho)) (x := x) (xs := P.li) hl hP.liL) (by simp [mids, It.mids]) Casts.refl (by kernel_rfl) rfl rfl rfl ?_
 refine x_ rfl i1_ (fun _ => rfl)<|fun _=>⟨_, u1_, D_ rfl (b4_ (p := p) (P := P) (h := (ints P.ho)) (x := (xS x)) (xs := P.ho) hP.ho0 hP.hoL) (by simp [mids, It.mids]) Casts.refl (by kernel_rfl) rfl rfl rfl ?_⟩
 refine x_ rfl i1_ (fun _ => rfl)<|fun _=>⟨_, u1_, hx_ fun hx9 =>sxvA rfl (aS_ (h_ (C := .agg (stR 7 (P.li.getD (dr x P.li.length) 0) (P.ho.getD (dr (xS x) P.ho.length) 0) 0 cz (.v (.slice none 0 0)) kk (byt bd))) (z_ tabOk rfl rfl rfl rfl) rfl) hs_) hx9<|F_<|aq_ rfl (m_ (L' := (lieF P x kk bd).1.abs) tabOk rfl rfl rfl u0_ rfl (lb_ (by rfl)) rfl (by exact p_ rfl)) rfl rfl ?_⟩
 rintro _ _ ⟨rfl, rfl⟩
 refine b_<|k_<|f_ (rs := [.cell 6 44]) rfl (RV.cell rfl (RV.cellA tabOk rfl rfl l0_ (by rfl)) RV.nil) (()) (sk_ sr_) ?_
 exact rfl
set_option maxHeartbeats 1000000 in
theorem dx_ (hP : P.Ok) : Spec Tryz.prog 30 [ptr p] [.blk p 87 (plG P x ((ints P.ho)))] (fun _ : Unit => [.blk p 87 (plG P (plainF P x).2 ((ints P.ho)))]) (fun _ => .agg (plainF P x).1.abs) := by
 refine t_ Tryz.func30 rfl Tryz.ntmps30 rfl fun G w =>c_<|a_<|eb_ (C_ tabOk rfl) rfl rfl fun b2=>?_
 refine d_<|b_<|c_<|c_<|a_<|q_ 1 rfl<|slcA (ay_ (p := p) (P := P) (h := (ints P.ho)) (x := x) (b := 12) (by omega)) ?_
 refine x_ rfl i1_ (fun _ => rfl)<|fun _=>⟨_, u1_, d_<|b_<|u_<|c_<|a_<|q_ 2 rfl<|d_<|b_<|l_ rfl ?_ ?_⟩
 ·intro hc5
  refine c_<|a_<|q_ 3 rfl<|slvA (h_ (C := int (P.n : Nat)) (g_ tabOk rfl rfl l1_ List.not_mem_nil rfl) rfl)<|slvA (aS_ (h_ (C := .agg (stR 2 (P.n : Nat) 0 0 cz (.v (.slice none 0 0)) 0 (.v (.slice none 0 0)))) (z_ tabOk rfl rfl rfl rfl) rfl) dK_)<|e_ (m_ (L' := (Stp.mk 2 (P.n : Nat) 0 0 cz [] 0 []).abs) tabOk rfl rfl rfl u0_ rfl (Nat.le_of_ble_eq_true rfl) rfl (by exact p_ rfl)) rfl rfl ?_
  refine d_<|b_<|k_<|S_<|j_ nofun ?_
  have hE : plainF P x = (⟨2, (P.n : Nat), 0, 0, cz, [], 0, []⟩, xS x) := by
   unfold plainF
   rw [if_pos (by omega)]
  refine f_ (rs := [.cell 2 44]) rfl (RV.cell rfl (RV.cellA tabOk rfl rfl l0_ (by rfl)) RV.nil) (()) (by rw [hE]; repeat (first | exact List.nil_sublist _ | exact List.Sublist.refl _ | apply List.Sublist.cons_cons | apply List.Sublist.cons)) ?_
  rw [hE]
  rfl
 intro hc5
 refine c_<|c_<|a_<|q_ 2 rfl<|d_<|b_<|l_ rfl ?_ ?_
 ·intro hc12
  refine o_<|b_<|l_ rfl ?_ ?_
  rotate_left
  ·intro hc12
   refine o_<|w_<|b_<|c_<|a_<|slvA (aS_ (h_ (C := .agg (stR 3 0 0 0 cz (.v (.slice none 0 0)) 0 (.v (.slice none 0 0)))) (z_ tabOk rfl rfl rfl rfl) rfl) dK_)<|e_ (m_ (L' := (Stp.mk 3 0 0 0 cz [] 0 []).abs) tabOk rfl rfl rfl u0_ rfl (Nat.le_of_ble_eq_true rfl) rfl (by exact p_ rfl)) rfl rfl ?_
   refine d_<|b_<|k_ ?_
   have hE : plainF P x = (⟨3, 0, 0, 0, cz, [], 0, []⟩, xS x) := by
    unfold plainF
    rw [if_neg (by omega), if_neg (by omega)]
   refine f_ (rs := [.cell 2 44]) rfl (RV.cell rfl (RV.cellA tabOk rfl rfl l0_ (by rfl)) RV.nil) (()) (by rw [hE]; repeat (first | exact List.nil_sublist _ | exact List.Sublist.refl _ | apply List.Sublist.cons_cons | apply List.Sublist.cons)) ?_
   rw [hE]
   rfl
  intro hc12
  refine c_<|a_<|q_ 4 rfl<|slvA (h_ (C := ints P.ho) (g_ tabOk rfl rfl l1_ List.not_mem_nil rfl) rfl)<|slcA (b4_ (p := p) (P := P) (h := (ints P.ho)) (x := (xS x)) (xs := P.ho) hP.ho0 hP.hoL) ?_
  refine x_ rfl i1_ (fun _ => rfl)<|fun _=>⟨_, u1_, slvA (aS_ (h_ (C := .agg (stR 6 (P.ho.getD (dr (xS x) P.ho.length) 0) 0 0 cz (.v (.slice none 0 0)) 0 (.v (.slice none 0 0)))) (z_ tabOk rfl rfl rfl rfl) rfl) dK_)<|e_ (m_ (L' := (Stp.mk 6 (P.ho.getD (dr (xS x) P.ho.length) 0) 0 0 cz [] 0 []).abs) tabOk rfl rfl rfl u0_ rfl (Nat.le_of_ble_eq_true rfl) rfl (by exact p_ rfl)) rfl rfl ?_⟩
  refine d_<|b_<|k_<|S_<|j_ nofun ?_
  have hE : plainF P x = (⟨6, P.ho.getD (dr (xS x) P.ho.length) 0, 0, 0, cz, [], 0, []⟩, xS (xS x)) := by
   unfold plainF
   rw [if_neg (by omega), if_pos (by omega)]
  refine f_ (rs := [.cell 2 44]) rfl (RV.cell rfl (RV.cellA tabOk rfl rfl l0_ (by rfl)) RV.nil) (()) (by rw [hE]; repeat (first | exact List.nil_sublist _ | exact List.Sublist.refl _ | apply List.Sublist.cons_cons | apply List.Sublist.cons)) ?_
  rw [hE]
  rfl
 intro hc12
 refine a_<|q_ 2 rfl<|d_<|b_<|l_ rfl ?_ ?_
 rotate_left
 ·intro hc12
  refine o_<|w_<|b_<|c_<|a_<|slvA (aS_ (h_ (C := .agg (stR 3 0 0 0 cz (.v (.slice none 0 0)) 0 (.v (.slice none 0 0)))) (z_ tabOk rfl rfl rfl rfl) rfl) dK_)<|e_ (m_ (L' := (Stp.mk 3 0 0 0 cz [] 0 []).abs) tabOk rfl rfl rfl u0_ rfl (Nat.le_of_ble_eq_true rfl) rfl (by exact p_ rfl)) rfl rfl ?_
  refine d_<|b_<|k_ ?_
  have hE : plainF P x = (⟨3, 0, 0, 0, cz, [], 0, []⟩, xS x) := by
   unfold plainF
   rw [if_neg (by omega), if_neg (by omega)]
  refine f_ (rs := [.cell 2 44]) rfl (RV.cell rfl (RV.cellA tabOk rfl rfl l0_ (by rfl)) RV.nil) (()) (by rw [hE]; repeat (first | exact List.nil_sublist _ | exact List.Sublist.refl _ | apply List.Sublist.cons_cons | apply List.Sublist.cons)) ?_
  rw [hE]
  rfl
 intro hc12
 refine c_<|a_<|q_ 4 rfl<|slvA (h_ (C := ints P.ho) (g_ tabOk rfl rfl l1_ List.not_mem_nil rfl) rfl)<|slcA (b4_ (p := p) (P := P) (h := (ints P.ho)) (x := (xS x)) (xs := P.ho) hP.ho0 hP.hoL) ?_
 refine x_ rfl i1_ (fun _ => rfl)<|fun _=>⟨_, u1_, slvA (aS_ (h_ (C := .agg (stR 6 (P.ho.getD (dr (xS x) P.ho.length) 0) 0 0 cz (.v (.slice none 0 0)) 0 (.v (.slice none 0 0)))) (z_ tabOk rfl rfl rfl rfl) rfl) dK_)<|e_ (m_ (L' := (Stp.mk 6 (P.ho.getD (dr (xS x) P.ho.length) 0) 0 0 cz [] 0 []).abs) tabOk rfl rfl rfl u0_ rfl (Nat.le_of_ble_eq_true rfl) rfl (by exact p_ rfl)) rfl rfl ?_⟩
 refine d_<|b_<|k_<|S_<|j_ nofun ?_
 have hE : plainF P x = (⟨6, P.ho.getD (dr (xS x) P.ho.length) 0, 0, 0, cz, [], 0, []⟩, xS (xS x)) := by
  unfold plainF
  rw [if_neg (by omega), if_pos (by omega)]
 refine f_ (rs := [.cell 2 44]) rfl (RV.cell rfl (RV.cellA tabOk rfl rfl l0_ (by rfl)) RV.nil) (()) (by rw [hE]; repeat (first | exact List.nil_sublist _ | exact List.Sublist.refl _ | apply List.Sublist.cons_cons | apply List.Sublist.cons)) ?_
 rw [hE]
 rfl
set_option maxHeartbeats 1000000 in
theorem gstorm_s  : Spec Tryz.prog 54 [ptr p] [.blk p 87 (plG P x ((ints P.ho)))] (fun _ : Unit => [.blk p 87 (plG P (stormF P x).2 ((ints P.ho)))]) (fun _ => .agg (stormF P x).1.abs) := by
 refine t_ Tryz.func54 rfl Tryz.ntmps54 rfl fun G w =>c_<|a_<|eb_ (C_ tabOk rfl) rfl rfl fun b2=>?_
 refine d_<|b_<|c_<|a_<|q_ 1 rfl<|e_ (G_ tabOk Tryz.underlying22 rfl rfl rfl rfl rfl rfl rfl) rfl rfl<|slcA (b4_ (p := p) (P := P) (h := (ints P.ho)) (x := x) (xs := [3, 3, 4, 5]) (by decide) (by decide)) ?_
 refine x_ rfl i1_ (fun _ => rfl)<|fun _=>⟨_, u1_, q_ 1 rfl<|d_<|b_<|c_<|a_<|q_ 2 rfl<|slcA (ay_ (p := p) (P := P) (h := (ints P.ho)) (x := (xS x)) (b := 64) (by omega)) ?_⟩
 refine x_ rfl i1_ (fun _ => rfl)<|fun _=>⟨_, u1_, slvA (aS_ (h_ (C := .agg (stR ([3, 3, 4, 5].getD (dr x 4) 0) 0 0 (dr (xS x) 64 : Nat) cz (.v (.slice none 0 0)) 0 (.v (.slice none 0 0)))) (z_ tabOk rfl rfl rfl rfl) rfl) dK_)<|e_ (m_ (L' := (stormF P x).1.abs) tabOk rfl rfl rfl u0_ rfl (Nat.le_of_ble_eq_true rfl) rfl (by exact p_ rfl)) rfl rfl ?_⟩
 refine d_<|b_<|k_<|f_ (rs := [.cell 2 44]) rfl (RV.cell rfl (RV.cellA tabOk rfl rfl l0_ (by rfl)) RV.nil) (()) (sk_ sr_) ?_
 exact rfl
end
end Go.Proofs.YtjclgkddfjbdiaaGreatDoor.A
namespace Go.Proofs.YtjclgkddfjbdiaaGreatDoor
open Go.RowKit
structure Ent where
  core : Core
  mask : Nat
def Ent.cells (e : Ent) : List Value := [.int .i64 e.core.client, .int .i64 e.core.stamp, .int .i64 e.core.op, .string e.core.letter, .int .i64 e.core.a, .int .i64 e.core.b, .string e.core.text, .int .u32 e.mask]
theorem Ent.one (e : Ent) : ∀ u ∈ e.cells, u.oneCell' = true := by
  intro u hu
  simp only [Ent.cells, List.mem_cons, List.not_mem_nil, or_false] at hu
  rcases hu with rfl | rfl | rfl | rfl | rfl | rfl | rfl | rfl <;> rfl
abbrev entsD (v : Value) (es : List Ent) : Dt := rowD v es.length (es.flatMap Ent.cells)
def chkL (n : Int) : Option Int → List Ent → Int
  | _, [] => 0
  | p, e :: es => if e.core.check n ≠ 0 then e.core.check n else if 2 ^ n.toNat ≤ e.mask then 5 else if (match p with | some c => decide (e.core.client ≤ c) | none => false) = true then 15 else chkL n (some e.core.client) es
def chkB (es : List Ent) (n : Int) : Int := if n < 1 ∨ 7 < n then 1 else if 4 < es.length then 4 else chkL n none es
def ahead (es : List Ent) (k : Nat) : Option Int := if k = 0 then none else (es[k - 1]?).map (·.core.client)
def Ent.bytes (e : Ent) : List UInt8 := rowB e.core.bytes ++ beBytes e.mask 1
def batchB (es : List Ent) : List UInt8 := beBytes es.length 2 ++ es.flatMap Ent.bytes
structure Ent.Few (e : Ent) : Prop where
  mask : e.mask < 4294967296
  letter : e.core.letter.size ≤ 1000
  text : e.core.text.size ≤ 1000
theorem Core.bytes_length (c : Core) : c.bytes.length = 34 + c.letter.size + c.text.size := by
  have h1 : c.letter.data.toList.length = c.letter.size := by simp
  have h2 : c.text.data.toList.length = c.text.size := by simp
  simp only [Core.bytes, rowB, List.length_append, v_, h1, h2]
  omega
theorem Ent.bytes_length (e : Ent) : e.bytes.length = 39 + e.core.letter.size + e.core.text.size := by
  simp only [Ent.bytes, rowB, List.length_append, v_, Core.bytes_length]
  omega
theorem eX_ {es : List Ent} (h : ∀ e ∈ es, e.Few) : (es.flatMap Ent.bytes).length ≤ es.length * 2100 := by
  induction es with
  | nil => simp
  | cons e es ih =>
    have h1 := h e (by simp)
    have h2 := ih (fun x hx => h x (by simp [hx]))
    have := h1.letter
    have := h1.text
    rw [List.flatMap_cons, List.length_append, Ent.bytes_length, List.length_cons, Nat.succ_mul]
    omega
section
variable {S : List (World × List Nat)} {σ τ : Blks} {ρ : List Dt} {w : World}
set_option maxHeartbeats 1000000 in
theorem g1_ {v : Value} {es : List Ent} (hw : Mem S σ ρ w) (he : entsD v es ∈ ρ) (hl : es.length ≤ 1000000) (hf : ∀ e ∈ es, e.Few) : Calls Tryz.prog 102 #[v] w fun e w' => ∃ r, e = .returned r ∧ Mem S σ (bytesD r (batchB es) :: ρ) w' := by
  obtain ⟨A, c, rfl, hs1, hs2, hs3⟩ := (hw.data he).shape
  have hA : es ≠ [] → ∃ b off, A = some ⟨b, off, none⟩ := fun h => gw_ (hw.data he) (by cases es with | nil => exact absurd rfl h | cons e es => simp [Ent.cells])
  refine au_ [.slice A es.length c] Tryz.func102 rfl Tryz.ntmps102 rfl (Mem S σ ρ) hw ?_
  refine c_ (a_ ?_)
  refine i_ (n_ rfl) rfl rfl ?_
  refine d_ (b_ ?_)
  refine c_ (a_ ?_)
  refine i_ (s_ rfl) rfl rfl ?_
  refine i_ (H_ rfl Tryz.underlying184) rfl rfl ?_
  refine i_ (R_ rfl Tryz.underlying27 (by kernel_rfl) (by simp only [InR, lo, hi]; omega)) rfl rfl ?_
  refine Y_ (by kernel_rfl) rfl rfl rfl ?_
  intro w hw
  refine (fb_ (l := []) (x := es.length) (n := 2) hw (BytesV.nil _) (Nat.zero_le _) (by omega) rfl).mono ?_; rintro _ _ ⟨r, rfl, hm⟩; refine ⟨_, _, rfl, hm, ?_⟩; clear hm hw w
  refine i_ (n_ rfl) rfl rfl ?_
  refine d_ (b_ ?_)
  refine c_ ?_
  refine c_ (a_ ?_)
  refine i_ (s_ rfl) rfl rfl ?_
  refine i_ (H_ rfl Tryz.underlying184) rfl rfl ?_
  refine i_ (s_ rfl) rfl rfl ?_
  refine d_ (b_ ?_)
  refine u_ ?_
  refine P_ (ι := Nat × Value) (fun z => [(10, .slice A es.length c), (11, .int .i64 (es.length : Nat)), (12, .int .i64 (z.1 : Nat)), (3, z.2)]) (fun z w' => z.1 ≤ es.length ∧ Mem S σ (bytesD z.2 (([] ++ beBytes es.length (Int.toNat 2)) ++ (es.take z.1).flatMap Ent.bytes) :: ρ) w') (fun z => es.length - z.1) (0, _) (by exact ⟨rfl, rfl, rfl, rfl, trivial⟩) (fun w' hw' => ⟨Nat.zero_le _, hw'.less (by intro x hx; simp only [List.take_zero, List.flatMap_nil, List.append_nil] at hx; rcases List.mem_cons.1 hx with rfl | hx <;> simp [*])⟩) ?_
  intro z
  refine cu_ ?_
  intro hz
  have hlen : (([] ++ beBytes es.length (Int.toNat 2)) ++ (es.take z.1).flatMap Ent.bytes).length ≤ 2 + 1000000 * 2100 := by
    have h0 := eX_ (es := es.take z.1) (fun e he' => hf e (List.mem_of_mem_take he'))
    have h9 : (es.take z.1).length ≤ es.length := by simp; omega
    have h8 : (es.take z.1).length * 2100 ≤ 1000000 * 2100 := Nat.mul_le_mul_right _ (by omega)
    simp only [List.length_append, v_, List.length_nil]
    simp only [show Int.toNat 2 = 2 from rfl]
    omega
  refine c_ (a_ ?_)
  refine i_ (a9_ rfl rfl) rfl rfl ?_
  refine d_ (b_ ?_)
  refine c_ ?_
  refine l_ rfl ?_ ?_
  rotate_left
  · intro hc13
    refine N_ ?_
    refine j_ (by intro h; cases h) ?_
    refine j_ (by intro h; cases h) ?_
    refine M_ ?_
    refine b_ ?_
    refine c_ (a_ ?_)
    refine i_ (s_ rfl) rfl rfl ?_
    refine i_ (n_ rfl) rfl rfl ?_
    refine d_ (b_ ?_)
    refine k_ ?_
    refine Z_ rfl rfl ?_
    intro w' hw'
    have e2 : (([] ++ beBytes es.length (Int.toNat 2)) ++ (es.take z.1).flatMap Ent.bytes) = batchB es := by
      rw [List.take_of_length_le (by omega)]
      simp [batchB]
    rw [e2] at hw'
    exact ⟨_, rfl, hw'⟩
  intro hc13
  have hlt : z.1 < es.length := by omega
  have hfew := hf _ (List.getElem_mem hlt)
  have hmask := hfew.mask
  have hlet := hfew.letter
  have htex := hfew.text
  obtain ⟨bb, off, rfl⟩ := hA (by intro h0; rw [h0] at hlt; simp at hlt)
  refine o_ ?_
  refine b_ ?_
  refine c_ ?_
  refine u_ ?_
  refine c_ (a_ ?_)
  refine i_ (bT_ tabOk Tryz.underlying184 rfl rfl rfl (by omega)) rfl rfl ?_
  refine i_ (jB_ (f := Ent.cells) tabOk rfl rfl rfl (by repeat (first | assumption | exact List.mem_cons_self | exact hmem _ | apply List.mem_cons_of_mem)) (fun _ => rfl) hlt) rfl rfl ?_
  refine by_ (C_ tabOk rfl) rfl rfl ?_
  rintro _ _ ⟨b5, rfl, rfl⟩
  refine by_ (jG_ (L' := (es[z.1]'hlt).cells) (vs := (es[z.1]'hlt).cells) tabOk rfl rfl rfl (by repeat (first | assumption | exact Upd.here | exact hrep _ _ | apply Upd.there)) (by rfl) (Nat.le_of_ble_eq_true (by rfl)) (Ent.one _) (by rfl)) rfl rfl ?_; rintro _ _ ⟨rfl, rfl⟩
  refine d_ (b_ ?_)
  refine Q_ _ (.q 0 (.q 1 (.q 2 (.q 5 (.q 6 (.q 7 (.e 3 (.e 4 (.e 8 (.q 9 .nil)))))))))) (by kernel_rfl) (by kernel_rfl) (fun _ h => h) (fun _ h => h.drew) ?_
  refine bo_ rfl (s_ rfl) rfl rfl ?_
  refine bo_ rfl (E_ tabOk rfl rfl rfl rfl rfl) rfl rfl ?_
  refine bo_ rfl (ad_ tabOk rfl rfl rfl (by repeat (first | assumption | exact List.mem_cons_self | exact hmem _ | apply List.mem_cons_of_mem)) (Nat.le_of_ble_eq_true (by rfl))) rfl rfl ?_
  refine bo_ rfl (E_ tabOk rfl rfl rfl rfl rfl) rfl rfl ?_
  refine bo_ rfl (g_ tabOk rfl rfl (by repeat (first | assumption | exact List.mem_cons_self | exact hmem _ | apply List.mem_cons_of_mem)) (by rfl)) rfl rfl ?_
  refine bo_ rfl (R_ rfl Tryz.underlying27 (by kernel_rfl) (by simp only [InR, lo, hi]; omega)) rfl rfl ?_
  refine D_ rfl (by kernel_rfl) rfl rfl rfl ?_
  intro w hw
  refine (e0_ (c := (es[z.1]'hlt).core) hw (by have := hfew.letter; omega) (by have := hfew.text; omega)).mono ?_; rintro _ _ ⟨r, rfl, hm⟩; refine ⟨_, _, rfl, hm, _, fun _ h => h.less (fun _ hx => List.mem_cons_of_mem _ hx), fun _ h => h, ?_⟩; clear hm hw w
  refine D_ rfl (by kernel_rfl) rfl rfl rfl ?_
  intro w hw
  refine (dQ_ (l := (([] ++ beBytes es.length (Int.toNat 2)) ++ (es.take z.1).flatMap Ent.bytes)) (m := (es[z.1]'hlt).core.bytes) hw (by repeat (first | assumption | exact List.mem_cons_self | exact hmem _ | apply List.mem_cons_of_mem)) (by repeat (first | assumption | exact List.mem_cons_self | exact hmem _ | apply List.mem_cons_of_mem)) (by have := hlen; simp only [List.length_append, v_, Core.bytes_length] at *; unfold lots; omega) (by rw [Core.bytes_length]; have := hfew.letter; have := hfew.text; omega)).mono ?_; rintro _ _ ⟨r, rfl, hm⟩; refine ⟨_, _, rfl, hm, _, fun _ h => h.less (fun _ hx => List.mem_cons_of_mem _ hx), fun _ h => h, ?_⟩; clear hm hw w
  refine D_ rfl (by kernel_rfl) rfl rfl rfl ?_
  intro w hw
  refine (fb_ (l := (([] ++ beBytes es.length (Int.toNat 2)) ++ (es.take z.1).flatMap Ent.bytes) ++ beBytes (es[z.1]'hlt).core.bytes.length 4 ++ (es[z.1]'hlt).core.bytes) (x := (es[z.1]'hlt).mask) (n := 1) hw (hw.bytes (by repeat (first | assumption | exact List.mem_cons_self | exact hmem _ | apply List.mem_cons_of_mem))) (by have := hlen; simp only [List.length_append, v_, Core.bytes_length] at *; unfold lots; omega) (by omega) rfl).mono ?_; rintro _ _ ⟨r, rfl, hm⟩; refine ⟨_, _, rfl, hm, _, fun _ h => h.less (fun _ hx => List.mem_cons_of_mem _ hx), fun _ h => h, ?_⟩; clear hm hw w
  refine bo_ rfl (n_ rfl) rfl rfl ?_
  refine F_ ?_
  refine w_ ?_
  refine b_ ?_
  refine a_ ?_
  refine i_ (y_ rfl rfl (by simp only [InR, lo, hi]; omega)) rfl rfl ?_
  refine i_ (s_ rfl) rfl rfl ?_
  refine d_ ?_
  refine I_ (z.1 + 1, r) (by show es.length - (z.1 + 1) < es.length - z.1; omega) (by exact ⟨rfl, rfl, rfl, rfl, trivial⟩) (fun w' hw' => ⟨hlt, ?_⟩)
  have e1 : (([] ++ beBytes es.length (Int.toNat 2)) ++ (es.take (z.1 + 1)).flatMap Ent.bytes) = (([] ++ beBytes es.length (Int.toNat 2)) ++ (es.take z.1).flatMap Ent.bytes) ++ beBytes (es[z.1]'hlt).core.bytes.length 4 ++ (es[z.1]'hlt).core.bytes ++ beBytes (es[z.1]'hlt).mask (Int.toNat 1) := by
    rw [List.take_succ_eq_append_getElem hlt, List.flatMap_append]
    simp [Ent.bytes, rowB]
  show Mem S σ (bytesD r (([] ++ beBytes es.length (Int.toNat 2)) ++ (es.take (z.1 + 1)).flatMap Ent.bytes) :: ρ) w'
  rw [e1]
  exact (hw'.sub (fun _ h => h) (List.sublist_cons_self _ _)).less (fun x hx => by rcases List.mem_cons.1 hx with rfl | hx <;> simp [*])
end
def sg (x : Nat) : Int := IntKind.i64.wrap (x : Int)
def txtB (l : List UInt8) : ByteArray := ⟨l.toArray⟩
def Rd.c3 (s : Rd) : Rd := ((s.fixed 1).fixed 8).fixed 1
def Rd.c4 (s : Rd) (most : Int) : Rd := s.c3.row most
def Rd.c6 (s : Rd) (most : Int) : Rd := ((s.c4 most).fixed 8).fixed 8
def Rd.core (s : Rd) (most : Int) : Core where
  client := s.num 1
  stamp := sg ((s.fixed 1).num 8)
  op := ((s.fixed 1).fixed 8).num 1
  letter := txtB (s.c3.rowOut most)
  a := sg ((s.c4 most).num 8)
  b := sg (((s.c4 most).fixed 8).num 8)
  text := txtB ((s.c6 most).rowOut most)
theorem Rd.row_length (s : Rd) (most : Int) : (s.row most).l.length ≤ s.l.length := by
  have h1 := s.fixed_length 4
  have h2 := (s.fixed 4).fixed_length (s.num 4)
  unfold Rd.row
  split
  · exact h1
  · split
    · exact h1
    · omega
section
variable {S : List (World × List Nat)} {σ τ : Blks} {ρ : List Dt} {w : World}
theorem Core.one (c : Core) : ∀ u ∈ c.cells, u.oneCell' = true := by
  intro u hu
  simp only [Core.cells, List.mem_cons, List.not_mem_nil, or_false] at hu
  rcases hu with rfl | rfl | rfl | rfl | rfl | rfl | rfl <;> rfl
end
section
variable {s t : Rd}
theorem Rd.as.c3 (h : s.as t) : s.c3.as t.c3 := ((h.fixed 1).fixed 8).fixed 1
theorem Rd.as.c4 (h : s.as t) (m : Int) : (s.c4 m).as (t.c4 m) := h.c3.row m
theorem Rd.as.c6 (h : s.as t) (m : Int) : (s.c6 m).as (t.c6 m) := ((h.c4 m).fixed 8).fixed 8
theorem Rd.as.core (h : s.as t) (m : Int) : s.core m = t.core m := by
  unfold Rd.core
  rw [h.num, (h.fixed 1).num, ((h.fixed 1).fixed 8).num, h.c3.rowOut, (h.c4 m).num, ((h.c4 m).fixed 8).num, (h.c6 m).rowOut]
end
theorem Upd.fn {x y : It} {σ τ : Blks} (h : Upd x y σ τ) : ∃ rep : It → Blks, rep x = σ ∧ rep y = τ ∧ ∀ a b, Upd a b (rep a) (rep b) := by
  induction h with
  | here => exact ⟨fun a => a :: _, rfl, rfl, fun a b => .here⟩
  | @there z σ0 τ0 _ ih =>
    obtain ⟨rep, h1, h2, h3⟩ := ih
    exact ⟨fun a => z :: rep a, by show z :: rep x = _; rw [h1], by show z :: rep y = _; rw [h2], fun a b => .there (h3 a b)⟩
section
variable {S : List (World × List Nat)} {σ τ : Blks} {ρ : List Dt} {w : World} {p : Nat} {s : Rd}
theorem Mem.swap {x y : It} (h : Mem S (x :: y :: σ) ρ w) : Mem S (y :: x :: σ) ρ w := by
  have hp : ((x :: y :: σ).flatMap It.ids).Perm ((y :: x :: σ).flatMap It.ids) := by
    simp only [List.flatMap_cons, ← List.append_assoc]
    exact List.Perm.append_right _ List.perm_append_comm
  refine ⟨h.ext, fun z hz => h.out z ?_, hp.nodup_iff.1 h.nodup, fun z hz => h.hold z ?_, fun z hz => z.grow _ _ w (fun k hk => .inl (hp.mem_iff.2 hk)) (h.dat z hz)⟩
  all_goals
    simp only [List.mem_cons] at hz ⊢
    rcases hz with h1 | h1 | h1 <;> simp [h1]
end
/-! ### The same -/
structure Ent.Lits (e : Ent) : Prop where
  client : InR .i64 e.core.client
  stamp : InR .i64 e.core.stamp
  op : InR .i64 e.core.op
  a : InR .i64 e.core.a
  b : InR .i64 e.core.b
  letter : e.core.letter.size ≤ maxLen
  text : e.core.text.size ≤ maxLen
  mask : e.mask < 4294967296
noncomputable instance : DecidableEq Ent := fun _ _ => Classical.propDecidable _
section
variable {S : List (World × List Nat)} {σ τ : Blks} {ρ : List Dt} {w : World} {P : Program} {n : Nat} {l : Slots} {D : World → Prop} {o : Oper} {v u : Value}
theorem h_ (h : Val P n l D o v) (e : v = u) : Val P n l D o u := e ▸ h
theorem Mem.ownRow {e : TypeId} {size k : Nat} {cs : List Value} (hw : Mem S σ ρ w) (ho : It.pc (ownPc e size v k cs) ∈ σ) : IsRow [] w v k cs := ownsRow.isRow (hw.hold _ ho) (by simp)
end
end Go.Proofs.YtjclgkddfjbdiaaGreatDoor
namespace Go.Proofs.YtjclgkddfjbdiaaGreatDoor.A
open Go.RowKit
abbrev entsA (es : List Ent) : Abs := flat 8 Ent.cells es
theorem ent8 (e : Ent) : e.cells.length = 8 := rfl
section
variable {K : List Nat} {w : World} {v u : Value} {es fs : List Ent} {n : Int} {l : List UInt8} {p : Nat} {s : Rd}
theorem ent2 {ρ : List Dt} {σ2 : Proofs.YtjclgkddfjbdiaaGreatDoor.Blks} {w' : World} (h : Proofs.YtjclgkddfjbdiaaGreatDoor.Mem [(w, K)] (old2 w K :: σ2) ρ w') : ∀ k, k < w.heap.size → k ∈ K → k ∈ (old2 w K :: σ2).flatMap Proofs.YtjclgkddfjbdiaaGreatDoor.It.ids := fun k hk hm => by
  simp only [List.flatMap_cons, List.mem_append]
  exact .inl (bc_.2 ⟨hk, hm⟩)
theorem iR_ (hl : es.length ≤ 1000000) (hf : ∀ e ∈ es, e.Few) : Pure Tryz.prog 102 [entsA es] (byt (batchB es)) := Pure.of2 fun K w vals hK hv => by
  obtain ⟨v, us', rfl, h1, h2⟩ := hv
  have h2 : us' = [] := h2
  subst h2
  refine (g1_ ((enter2 w K).add (z := entsD v es) (row2 ((rep_flat ent8).1 h1))) (by simp) hl hf).mono fun e w' ⟨r, he, hm⟩ => ⟨r, he, leave2 hm (by simp), aP_.2 (row3 hK (ent2 hm) (hm.data (z := bytesD r _) (by simp)))⟩
end
def isSeq (x : Int) : Prop := 0 ≤ x ∧ x ≤ 1048576
instance (x : Int) : Decidable (isSeq x) := inferInstanceAs (Decidable (_ ∧ _))
def isMark (x : Int) : Prop := isSeq x ∧ x % 4 = 0
instance (x : Int) : Decidable (isMark x) := inferInstanceAs (Decidable (_ ∧ _))
def Rises {α : Type} (p : α → α → Bool) (xs : List α) : Prop := ∀ j (h : j + 1 < xs.length), p xs[j] xs[j + 1] = true
structure Prf where
  seq : Int
  view : Int
  batch : List Ent
def Prf.abs (p : Prf) : List Abs := [int p.seq, int p.view, entsA p.batch]
abbrev prfsA (ps : List Prf) : Abs := .sl 3 (ps.map Prf.abs)
structure Chg where
  view : Int
  low : Int
  points : List Pnt
  prepared : List Prf
  proposed : List Prf
def Chg.abs (c : Chg) : List Abs := [int c.view, int c.low, pntsA c.points, prfsA c.prepared, prfsA c.proposed]
noncomputable def yes (p : Prop) : Bool := @decide p (Classical.propDecidable p)
def Prf.fits (p : Prf) (low view n : Int) : Prop := low < p.seq ∧ p.seq ≤ low + 8 ∧ 0 ≤ p.view ∧ p.view < view ∧ Proofs.YtjclgkddfjbdiaaGreatDoor.chkB p.batch n = 0
def Prf.lt (p q : Prf) : Prop := p.seq < q.seq
instance (p q : Prf) : Decidable (p.lt q) := inferInstanceAs (Decidable (_ < _))
def Prf.lt2 (p q : Prf) : Prop := p.seq < q.seq ∨ p.seq = q.seq ∧ p.view < q.view
instance (p q : Prf) : Decidable (p.lt2 q) := inferInstanceAs (Decidable (_ ∨ _ ∧ _))
def prfsOk (r : Prf → Prf → Bool) (most low view n : Int) (ps : List Prf) : Prop := (ps.length : Int) ≤ most ∧ Rises r ps ∧ ∀ p ∈ ps, p.fits low view n
def pntsOk (low : Int) (ps : List Pnt) : Prop := 1 ≤ ps.length ∧ ps.length ≤ 4 ∧ (∀ p, ps[0]? = some p → p.seq = low) ∧ (∀ p ∈ ps, isMark p.seq) ∧ Rises (fun a b : Pnt => decide (a.seq < b.seq)) ps
def Chg.Right (c : Chg) (n : Int) : Prop := 1 ≤ c.view ∧ c.view ≤ 1048576 ∧ isMark c.low ∧ pntsOk c.low c.points ∧ prfsOk (fun p q => decide (p.lt q)) 8 c.low c.view n c.prepared ∧ prfsOk (fun p q => decide (p.lt2 q)) 64 c.low c.view n c.proposed
noncomputable def Chg.check (c : Chg) (n : Int) : Int := if n < 1 ∨ 7 < n then 1 else bif yes (c.Right n) then 0 else 2
theorem putL_all {L ys : List Abs} (h : ys.length = L.length) : putL L 0 ys = ys := by
  simp [putL, h]
end Go.Proofs.YtjclgkddfjbdiaaGreatDoor.A
namespace Go.Proofs.YtjclgkddfjbdiaaGreatDoor
open Go.RowKit
abbrev intsD (v : Value) (xs : List Int) : Dt := rowD v xs.length (xs.map fun x => Value.int .i64 x)
def long8 (xs : List Int) : List UInt8 := xs.flatMap fun x => beBytes (u64 x) 8
theorem al_ (xs : List Int) : (long8 xs).length = xs.length * 8 := by
  unfold long8
  induction xs with
  | nil => rfl
  | cons x xs ih => rw [List.flatMap_cons, List.length_append, ih, v_, List.length_cons]; omega
theorem fr_ {xs : List Int} {k : Nat} (h : k < xs.length) : long8 (xs.take (k + 1)) = long8 (xs.take k) ++ beBytes (u64 xs[k]) 8 := by
  unfold long8
  rw [List.take_succ_eq_append_getElem h, List.flatMap_append]
  simp
section
variable {S : List (World × List Nat)} {σ τ : Blks} {ρ : List Dt} {w : World}
set_option maxHeartbeats 1000000 in
theorem long_c {v u : Value} {l : List UInt8} {xs : List Int} (hw : Mem S σ ρ w) (hb : bytesD v l ∈ ρ) (hx : intsD u xs ∈ ρ) (hl : l.length + xs.length * 8 ≤ lots) : Calls Tryz.prog 103 #[v, u] w fun e w' => ∃ r, e = .returned r ∧ Mem S σ (bytesD r (l ++ long8 xs) :: ρ) w' := by
  have hL : lots = 100000000000 := rfl
  obtain ⟨A, c, rfl, hs1, hs2, hs3⟩ := (hw.data hx).shape
  have hA : xs ≠ [] → ∃ b off, A = some ⟨b, off, none⟩ := fun h => gw_ (hw.data hx) (by cases xs with | nil => exact absurd rfl h | cons e es => simp)
  refine au_ [v, .slice A xs.length c] Tryz.func103 rfl Tryz.ntmps103 rfl (Mem S σ ρ) hw ?_
  refine c_ (a_ ?_)
  refine i_ (n_ rfl) rfl rfl ?_
  refine d_ (b_ ?_)
  refine c_ ?_
  refine c_ (a_ ?_)
  refine i_ (s_ rfl) rfl rfl ?_
  refine i_ (H_ rfl Tryz.underlying282) rfl rfl ?_
  refine i_ (s_ rfl) rfl rfl ?_
  refine d_ (b_ ?_)
  refine u_ ?_
  refine P_ (ι := Nat × Value) (fun z => [(0, z.2), (7, .slice A xs.length c), (8, .int .i64 (xs.length : Nat)), (9, .int .i64 (z.1 : Nat))]) (fun z w' => z.1 ≤ xs.length ∧ Mem S σ (bytesD z.2 (l ++ long8 (xs.take z.1)) :: ρ) w') (fun z => xs.length - z.1) (0, v) (by exact ⟨rfl, rfl, rfl, rfl, trivial⟩) (fun w' hw' => ⟨Nat.zero_le _, hw'.less (by intro x hx; simp only [List.take_zero, long8, List.flatMap_nil, List.append_nil] at hx; rcases List.mem_cons.1 hx with rfl | hx <;> simp [*])⟩) ?_
  intro z
  refine cu_ ?_
  intro hz
  refine c_ (a_ ?_)
  refine i_ (a9_ rfl rfl) rfl rfl ?_
  refine d_ (b_ ?_)
  refine c_ ?_
  refine l_ rfl ?_ ?_
  rotate_left
  · intro hc10
    refine N_ ?_
    refine j_ (by intro h; cases h) ?_
    refine j_ (by intro h; cases h) ?_
    refine M_ ?_
    refine b_ ?_
    refine c_ (a_ ?_)
    refine i_ (s_ rfl) rfl rfl ?_
    refine i_ (n_ rfl) rfl rfl ?_
    refine d_ (b_ ?_)
    refine k_ ?_
    refine Z_ rfl rfl ?_
    intro w' hw'
    rw [List.take_of_length_le (by omega)] at hw'
    exact ⟨_, rfl, hw'⟩
  intro hc10
  have hlt : z.1 < xs.length := by omega
  obtain ⟨bb, off, rfl⟩ := hA (by intro h0; rw [h0] at hlt; simp at hlt)
  refine o_ ?_
  refine b_ ?_
  refine c_ ?_
  refine u_ ?_
  refine c_ (a_ ?_)
  refine i_ (bT_ tabOk Tryz.underlying282 rfl rfl rfl (by omega)) rfl rfl ?_
  refine i_ (d0_ (u := .int .i64 (xs[z.1]'hlt)) (j := z.1 * 1) tabOk rfl rfl (by repeat (first | assumption | exact List.mem_cons_self | exact hmem _ | apply List.mem_cons_of_mem)) (by simp [hlt])) rfl rfl ?_
  refine i_ (n_ rfl) rfl rfl ?_
  refine d_ (b_ ?_)
  refine a_ ?_
  iterate 2 refine i_ (s_ rfl) rfl rfl ?_
  refine i_ (aY_ rfl Tryz.underlying27 (by kernel_rfl)) rfl rfl ?_
  refine Y_ (by kernel_rfl) rfl rfl rfl ?_
  intro w hw
  refine (fb_ (l := l ++ long8 (xs.take z.1)) (x := u64 (xs[z.1]'hlt)) (n := 8) hw (hw.bytes (by repeat (first | assumption | exact List.mem_cons_self | exact hmem _ | apply List.mem_cons_of_mem))) (by rw [List.length_append, al_, List.length_take]; omega) (cw_ _) rfl).mono ?_; rintro _ _ ⟨r, rfl, hm⟩; refine ⟨_, _, rfl, hm, ?_⟩; clear hm hw w
  refine i_ (n_ rfl) rfl rfl ?_
  refine d_ ?_
  refine w_ ?_
  refine b_ ?_
  refine a_ ?_
  refine i_ (y_ rfl rfl (by simp only [InR, lo, hi]; omega)) rfl rfl ?_
  refine i_ (s_ rfl) rfl rfl ?_
  refine d_ ?_
  refine I_ (z.1 + 1, r) (by show xs.length - (z.1 + 1) < xs.length - z.1; omega) (by exact ⟨rfl, rfl, rfl, rfl, trivial⟩) (fun w' hw' => ⟨hlt, ?_⟩)
  show Mem S σ (bytesD r (l ++ long8 (xs.take (z.1 + 1))) :: ρ) w'
  rw [fr_ hlt, ← List.append_assoc]
  exact hw'.less (fun x hx => by rcases List.mem_cons.1 hx with rfl | hx <;> simp [*])
end
abbrev ownB (v : Value) (l : List UInt8) : It := .pc (ownPc 5 1 v l.length (l.map bc))
def accS (σ : Blks) (l : List UInt8) (xs : List Int) (z : Nat × Value) : Blks := if z.1 = 0 then σ else ownB z.2 (l ++ long8 (xs.take z.1)) :: σ
section
variable {S : List (World × List Nat)} {σ τ : Blks} {ρ : List Dt} {w : World} {v : Value} {l : List UInt8} {xs : List Int}
theorem ll_ {z : Nat × Value} (hz : z.1 = 0 → z.2 = v) (hb : bytesD v l ∈ ρ) (hw : Mem S (accS σ l xs z) ρ w) : BytesV w z.2 (l ++ long8 (xs.take z.1)) := by
  by_cases h0 : z.1 = 0
  · rw [h0, hz h0]
    simpa [long8] using hw.bytes hb
  · unfold accS at hw
    rw [if_neg h0] at hw
    exact db_ (hw.ownRow (e := 5) (size := 1) List.mem_cons_self)
theorem acc_drop {z : Nat × Value} {x : It} (hw : Mem S (x :: accS σ l xs z) ρ w) : Mem S (x :: σ) ρ w := by
  unfold accS at hw
  split at hw
  · exact hw
  · exact hw.sub (fun _ h => h) (List.Sublist.cons_cons _ (List.sublist_cons_self _ _))
set_option maxHeartbeats 1000000 in
theorem long_own {u : Value} (hw : Mem S σ ρ w) (hb : bytesD v l ∈ ρ) (hx : intsD u xs ∈ ρ) (hl : l.length + xs.length * 8 ≤ lots) (hn : xs ≠ []) : Calls Tryz.prog 103 #[v, u] w fun e w' => ∃ r, e = .returned r ∧ Mem S (ownB r (l ++ long8 xs) :: σ) ρ w' := by
  have hL : lots = 100000000000 := rfl
  obtain ⟨A, c, rfl, hs1, hs2, hs3⟩ := (hw.data hx).shape
  have hA : xs ≠ [] → ∃ b off, A = some ⟨b, off, none⟩ := fun h => gw_ (hw.data hx) (by cases xs with | nil => exact absurd rfl h | cons e es => simp)
  have hpos : 0 < xs.length := List.length_pos_iff.2 hn
  refine au_ [v, .slice A xs.length c] Tryz.func103 rfl Tryz.ntmps103 rfl (Mem S σ ρ) hw ?_
  refine c_ (a_ ?_)
  refine i_ (n_ rfl) rfl rfl ?_
  refine d_ (b_ ?_)
  refine c_ ?_
  refine c_ (a_ ?_)
  refine i_ (s_ rfl) rfl rfl ?_
  refine i_ (H_ rfl Tryz.underlying282) rfl rfl ?_
  refine i_ (s_ rfl) rfl rfl ?_
  refine d_ (b_ ?_)
  refine u_ ?_
  refine P_ (ι := Nat × Value) (fun z => [(0, z.2), (7, .slice A xs.length c), (8, .int .i64 (xs.length : Nat)), (9, .int .i64 (z.1 : Nat))]) (fun z w' => (z.1 ≤ xs.length ∧ (z.1 = 0 → z.2 = v)) ∧ Mem S (accS σ l xs z) ρ w') (fun z => xs.length - z.1) (0, v) (by exact ⟨rfl, rfl, rfl, rfl, trivial⟩) (fun w' hw' => ⟨⟨Nat.zero_le _, fun _ => rfl⟩, hw'⟩) ?_
  intro z
  refine cu_ ?_
  rintro ⟨hz, hz1⟩
  refine c_ (a_ ?_)
  refine i_ (a9_ rfl rfl) rfl rfl ?_
  refine d_ (b_ ?_)
  refine c_ ?_
  refine l_ rfl ?_ ?_
  rotate_left
  · intro hc10
    refine N_ ?_
    refine j_ (by intro h; cases h) ?_
    refine j_ (by intro h; cases h) ?_
    refine M_ ?_
    refine b_ ?_
    refine c_ (a_ ?_)
    refine i_ (s_ rfl) rfl rfl ?_
    refine i_ (n_ rfl) rfl rfl ?_
    refine d_ (b_ ?_)
    refine k_ ?_
    refine Z_ rfl rfl ?_
    intro w' hw'
    unfold accS at hw'
    rw [if_neg (by omega), List.take_of_length_le (by omega)] at hw'
    exact ⟨_, rfl, hw'⟩
  intro hc10
  have hlt : z.1 < xs.length := by omega
  obtain ⟨bb, off, rfl⟩ := hA (by intro h0; rw [h0] at hlt; simp at hlt)
  refine o_ ?_
  refine b_ ?_
  refine c_ ?_
  refine u_ ?_
  refine c_ (a_ ?_)
  refine i_ (bT_ tabOk Tryz.underlying282 rfl rfl rfl (by omega)) rfl rfl ?_
  refine i_ (d0_ (u := .int .i64 (xs[z.1]'hlt)) (j := z.1 * 1) tabOk rfl rfl (by repeat (first | assumption | exact List.mem_cons_self | exact hmem _ | apply List.mem_cons_of_mem)) (by simp [hlt])) rfl rfl ?_
  refine i_ (n_ rfl) rfl rfl ?_
  refine d_ (b_ ?_)
  refine a_ ?_
  iterate 2 refine i_ (s_ rfl) rfl rfl ?_
  refine i_ (aY_ rfl Tryz.underlying27 (by kernel_rfl)) rfl rfl ?_
  refine Y_ (by kernel_rfl) rfl rfl rfl ?_
  intro w hw
  refine (fM_ (l := l ++ long8 (xs.take z.1)) (x := u64 (xs[z.1]'hlt)) (n := 8) hw (ll_ hz1 hb hw) (by rw [List.length_append, al_, List.length_take]; omega) (cw_ _) rfl).mono ?_; rintro _ _ ⟨r, rfl, hm⟩; refine ⟨_, _, rfl, hm, ?_⟩; clear hm hw w
  refine i_ (n_ rfl) rfl rfl ?_
  refine d_ ?_
  refine w_ ?_
  refine b_ ?_
  refine a_ ?_
  refine i_ (y_ rfl rfl (by simp only [InR, lo, hi]; omega)) rfl rfl ?_
  refine i_ (s_ rfl) rfl rfl ?_
  refine d_ ?_
  refine I_ (z.1 + 1, r) (by show xs.length - (z.1 + 1) < xs.length - z.1; omega) (by exact ⟨rfl, rfl, rfl, rfl, trivial⟩) (fun w' hw' => ⟨⟨hlt, fun h => absurd h (by simp)⟩, ?_⟩)
  show Mem S (accS σ l xs (z.1 + 1, r)) ρ w'
  unfold accS
  rw [if_neg (by simp)]
  show Mem S (ownB r (l ++ long8 (xs.take (z.1 + 1))) :: σ) ρ w'
  rw [fr_ hlt, ← List.append_assoc]
  exact acc_drop hw'
end
end Go.Proofs.YtjclgkddfjbdiaaGreatDoor
namespace Go.Proofs.YtjclgkddfjbdiaaGreatDoor.A
open Go.RowKit
structure Prf.Few (p : Prf) : Prop where
  len : p.batch.length ≤ 10
  all : ∀ e ∈ p.batch, e.Few
theorem Prf.Few.bytes {p : Prf} (h : p.Few) : (batchB p.batch).length ≤ 30000 := by
  have h1 := eX_ h.all
  have h2 := h.len
  unfold batchB
  rw [List.length_append, v_]
  omega
def Prf.bytes (p : Prf) : List UInt8 := long8 [p.seq, p.view] ++ rowB (batchB p.batch)
def prfsB (ps : List Prf) : List UInt8 := beBytes ps.length 2 ++ ps.flatMap Prf.bytes
theorem eH_ {ps : List Prf} (h : ∀ p ∈ ps, p.Few) : (ps.flatMap Prf.bytes).length ≤ ps.length * 40000 := by
  induction ps with
  | nil => simp
  | cons p ps ih =>
    have h1 := (h p (by simp)).bytes
    have h2 := ih (fun x hx => h x (by simp [hx]))
    have h3 := al_ [p.seq, p.view]
    rw [List.flatMap_cons, List.length_append, Prf.bytes, rowB, List.length_append, List.length_append, v_, h3, List.length_cons, Nat.succ_mul]
    simp only [List.length_cons, List.length_nil]
    omega
def Pnt.bytes (p : Pnt) : List UInt8 := long8 [p.seq] ++ p.dig
theorem hA_ (ps : List Pnt) : (ps.flatMap Pnt.bytes).length = ps.length * 40 := by
  induction ps with
  | nil => rfl
  | cons p ps ih =>
    have h := p.len
    rw [List.flatMap_cons, List.length_append, ih, Pnt.bytes, List.length_append, al_, List.length_cons]
    simp only [List.length_cons, List.length_nil]
    omega
structure Chg.Few (x : Chg) : Prop where
  pts : x.points.length ≤ 1000
  prep : x.prepared.length ≤ 1000
  prop : x.proposed.length ≤ 1000
  fprep : ∀ p ∈ x.prepared, p.Few
  fprop : ∀ p ∈ x.proposed, p.Few
def Chg.head (x : Chg) (k : Nat) : List UInt8 := [] ++ long8 [x.view, x.low] ++ beBytes x.points.length 2 ++ (x.points.take k).flatMap Pnt.bytes
def Chg.bytes (x : Chg) : List UInt8 := x.head x.points.length ++ prfsB x.prepared ++ prfsB x.proposed
theorem Chg.head_length (x : Chg) (k : Nat) (h : x.points.length ≤ 1000) : (x.head k).length ≤ 50000 := by
  unfold Chg.head
  have h1 : (x.points.take k).length ≤ x.points.length := by rw [List.length_take]; omega
  simp only [List.length_append, al_, v_, hA_, List.length_cons, List.length_nil]
  omega
theorem gA_ {ps : List Prf} (h : ∀ p ∈ ps, p.Few) (hn : ps.length ≤ 1000) : (prfsB ps).length ≤ 40000002 := by
  have := eH_ h
  unfold prfsB
  rw [List.length_append, v_]
  omega
theorem ii_ {K : List Nat} {w : World} {x : Value} {xs : List Int} : rep K w (ints xs) x ↔ IsRow K w x xs.length (xs.map fun y => .int .i64 y) := by
  have e : (xs.map fun x => [int x]) = (xs.map fun y : Int => (.int .i64 y : Value)).map fun u => [.v u] := by rw [List.map_map]; rfl
  constructor
  · rintro ⟨us, h1, h2⟩
    rw [e] at h2
    have := cj_ h2
    subst this
    simpa using h1
  · intro h
    refine ⟨_, by simpa using h, ?_⟩
    rw [e]; exact cO_
section
variable {l : List UInt8} {xs : List Int} {ps : List Prf}
theorem long_s (hl : l.length + xs.length * 8 ≤ lots) : Pure Tryz.prog 103 [byt l, ints xs] (byt (l ++ long8 xs)) := Pure.of2 fun K w vals hK hv => by
  obtain ⟨v, us', rfl, h1, u, us2, rfl, h2, h3⟩ := hv
  have h3 : us2 = [] := h3
  subst h3
  refine (long_c (((enter2 w K).add (z := bytesD v l) (row2 (aP_.1 h1))).add (z := intsD u xs) (row2 (ii_.1 h2))) (by simp) (by simp) hl).mono fun e w' ⟨r, he, hm⟩ => ⟨r, he, leave2 hm (by simp), aP_.2 (row3 hK (ent2 hm) (hm.data (z := bytesD r _) (by simp)))⟩
theorem long_o (hl : l.length + xs.length * 8 ≤ lots) (hn : xs ≠ []) : Spec Tryz.prog 103 [byt l, ints xs] [] (fun r : Value => [own 5 1 r ((l ++ long8 xs).map fun b => [.v (bc b)])]) (fun r => .v r) := Spec.ofOwnB fun K w vals hK hv => by
  obtain ⟨v, us', rfl, h1, u, us2, rfl, h2, h3⟩ := hv
  have h3 : us2 = [] := h3
  subst h3
  refine (long_own (((enter2 w K).add (z := bytesD v l) (row2 (aP_.1 h1))).add (z := intsD u xs) (row2 (ii_.1 h2))) (by simp) (by simp) hl hn).mono fun e w' ⟨r, he, hm⟩ => ⟨r, _, he, hm⟩
set_option maxHeartbeats 2000000 in
theorem jO_ (hl : l.length ≤ 100000000) (hn : ps.length ≤ 1000) (hf : ∀ p ∈ ps, p.Few) : Spec Tryz.prog 104 [byt l, prfsA ps] [] (fun _ : Unit => []) (fun _ => byt (l ++ prfsB ps)) := by
 have hL : lots = 100000000000 := rfl
 refine t_ Tryz.func104 rfl Tryz.ntmps104 rfl fun G w =>c_<|a_<|q_ 1 rfl<|d_<|b_<|c_<|a_<|q_ 2 rfl<|slvA (H_ rfl Tryz.underlying161 (List.length_map _))<|slvA (R_ rfl Tryz.underlying27 (by kernel_rfl) (by simp only [InR, lo, hi]; omega)) ?_
 refine slcA (fa_ (l := l) (x := ps.length) (n := 2) (by omega) (by omega) rfl) ?_
 refine ap_<|fun _=>q_ 1 rfl<|d_<|b_<|c_<|c_<|a_<|q_ 1 rfl<|slvA (H_ rfl Tryz.underlying161 (List.length_map _))<|q_ 1 rfl<|d_<|b_<|u_<|P_ (ι := Nat) (fun z => []) (fun z => [(0, byt (l ++ beBytes ps.length 2 ++ (ps.take z).flatMap Prf.bytes)), (12, prfsA ps), (13, int (ps.length : Nat)), (14, int (z : Nat))]) (fun z => z ≤ ps.length) (fun z => ps.length - z) (0) (Nat.zero_le _) ⟨congrArg (fun m => some (byt m)) (by simp), rfl, rfl, rfl, trivial⟩ sn_ ?_
 intro z hz
 have hlen : (l ++ beBytes ps.length 2 ++ (ps.take z).flatMap Prf.bytes).length ≤ 100000000 + 2 + 1000 * 40000 := by
  have h0 := eH_ (ps := ps.take z) (fun p hp' => hf p (List.mem_of_mem_take hp'))
  have h9 : (ps.take z).length ≤ ps.length := by simp; omega
  have h8 : (ps.take z).length * 40000 ≤ 1000 * 40000 := Nat.mul_le_mul_right _ (by omega)
  simp only [List.length_append, v_]
  omega
 refine c_<|a_<|q_ 1 rfl<|d_<|b_<|c_<|l_ rfl ?_ ?_
 rotate_left
 ·intro hc15
  refine N_<|j_ nofun<|j_ nofun<|M_<|b_<|c_<|a_<|q_ 2 rfl<|d_<|b_<|k_<|f_ (rs := [.tmp 4]) rfl (RV.tmp rfl RV.nil) (()) sn_ ?_
  have e2 : (l ++ beBytes ps.length 2 ++ (ps.take z).flatMap Prf.bytes) = l ++ prfsB ps := by
   rw [List.take_of_length_le (by omega)]
   simp [prfsB]
  exact congrArg byt e2
 intro hc15
 have hlt : z < ps.length := by omega
 have hfp := hf _ (List.getElem_mem hlt)
 have hbl := hfp.bytes
 refine o_<|b_<|c_<|u_<|c_<|a_<|slvA (L_ tabOk Tryz.underlying161 rfl rfl rfl rfl (a8_ (by omega)) rfl rfl) ?_
 refine slvA (av_ tabOk rfl rfl rfl rfl)<|eb_ (C_ tabOk rfl) rfl rfl fun b6=>?_
 refine e_ (m_ tabOk rfl rfl rfl u0_ rfl (Nat.le_of_ble_eq_true rfl) rfl rfl) rfl rfl<|d_<|b_<|Q_ [] (.q 0 (.q 1 (.q 2 (.q 3 (.q 4 (.q 7 (.q 8 (.e 5 (.e 6 (.e 9 (.e 10 (.q 11 .nil)))))))))))) (by kernel_rfl) (by kernel_rfl) ?_
 refine qs_ 2 rfl<|sxvA rfl (g_ tabOk rfl rfl l0_ List.not_mem_nil rfl) (by simp) ?_
 refine qs_ 1 rfl<|sxvA rfl (g_ tabOk rfl rfl l0_ List.not_mem_nil rfl) (by simp) ?_
 refine qs_ 1 rfl<|sxvA rfl (g_ tabOk rfl rfl l0_ List.not_mem_nil rfl) (by simp) ?_
 refine ex_ rfl (G_ tabOk Tryz.underlying282 rfl rfl rfl rfl rfl rfl rfl) (by simp) rfl rfl ?_
 refine D_ rfl (long_s (l := (l ++ beBytes ps.length 2 ++ (ps.take z).flatMap Prf.bytes)) (xs := [(ps[z]'hlt).seq, (ps[z]'hlt).view]) (by simp only [List.length_append, v_, al_, List.length_cons, List.length_nil] at *; omega)) (by simp [mids, It.mids]) Casts.refl (by kernel_rfl) rfl rfl rfl ?_
 refine ap_<|fun _=>D_ rfl (iR_ (es := (ps[z]'hlt).batch) (by have := hfp.len; omega) hfp.all) (by simp [mids, It.mids]) Casts.refl (by kernel_rfl) rfl rfl rfl ?_
 refine ap_<|fun _=>D_ rfl (row_s (l := (l ++ beBytes ps.length 2 ++ (ps.take z).flatMap Prf.bytes) ++ long8 [(ps[z]'hlt).seq, (ps[z]'hlt).view]) (m := batchB (ps[z]'hlt).batch) (by simp only [List.length_append, v_, al_, List.length_cons, List.length_nil] at *; omega) (by omega)) (by simp [mids, It.mids]) Casts.refl (by kernel_rfl) rfl rfl rfl ?_
 refine ap_<|fun _=>qs_ 1 rfl<|F_<|w_<|b_<|a_<|slvA (y_ rfl rfl (by simp only [InR, lo, hi]; omega)) ?_
 refine q_ 1 rfl<|d_ ?_
 have e1 : (l ++ beBytes ps.length 2 ++ (ps.take z).flatMap Prf.bytes) ++ long8 [(ps[z]'hlt).seq, (ps[z]'hlt).view] ++ beBytes (batchB (ps[z]'hlt).batch).length 4 ++ batchB (ps[z]'hlt).batch = (l ++ beBytes ps.length 2 ++ (ps.take (z + 1)).flatMap Prf.bytes) := by
  rw [List.take_succ_eq_append_getElem hlt, List.flatMap_append]
  simp [Prf.bytes, rowB, long8]
 refine I_ (z + 1) (by omega) (by omega) ⟨congrArg (fun m => some (byt m)) e1, rfl, rfl, rfl, trivial⟩ sn_
abbrev bys (l : List UInt8) : List (List Abs) := l.map fun b => [Abs.v (bc b)]
theorem bys_app (a b : List UInt8) : bys a ++ bys b = bys (a ++ b) := by simp [bys]
theorem bys_ones (l : List UInt8) : ∀ c ∈ bys l, ones c = true := by
  intro c hc
  obtain ⟨b, _, rfl⟩ := List.mem_map.1 hc
  rfl
theorem Pnt.tail (p : Pnt) : ((p.abs.drop 1).take 32).map (fun a => [a]) = bys p.dig := by
  show ((digA p.dig).take 32).map _ = _
  rw [List.take_of_length_le (by simp [digA, p.len])]
  simp [digA, bys]
theorem Pnt.tail_length (p : Pnt) : (p.abs.drop 1).length = 32 := by simp [Pnt.size]
variable {c : Chg}
set_option maxHeartbeats 2000000 in
theorem dV_ (hf : c.Few) : Spec Tryz.prog 81 [.agg c.abs] [] (fun _ : Unit => []) (fun _ => byt c.bytes) := by
 have hL : lots = 100000000000 := rfl
 have hn0 := hf.pts
 refine t_ Tryz.func81 rfl Tryz.ntmps81 rfl fun G w =>c_<|a_<|eb_ (B_ rfl) rfl rfl fun b1=>?_
 refine q_ 1 rfl<|d_<|b_<|c_<|Q_ [] (.q 0 (.q 1 (.q 2 (.q 3 (.q 6 (.q 7 (.q 8 (.q 9 (.e 4 (.e 5 (.e 10 (.q 11 .nil)))))))))))) (by kernel_rfl) (by kernel_rfl) ?_
 refine qs_ 1 rfl<|sxvA rfl (g_ tabOk rfl rfl l0_ List.not_mem_nil rfl) (by simp) ?_
 refine qs_ 1 rfl<|sxvA rfl (g_ tabOk rfl rfl l0_ List.not_mem_nil rfl) (by simp) ?_
 refine qs_ 1 rfl<|sxvA rfl (g_ tabOk rfl rfl l0_ List.not_mem_nil rfl) (by simp) ?_
 refine sxvA rfl (H_ rfl Tryz.underlying199 (List.length_map _)) (by simp) ?_
 refine sxvA rfl (R_ rfl Tryz.underlying27 (by kernel_rfl) (by simp only [InR, lo, hi]; omega)) (by simp) ?_
 refine ex_ rfl (G_ tabOk Tryz.underlying282 rfl rfl rfl rfl rfl rfl rfl) (by simp) rfl rfl ?_
 refine D_ rfl (long_s (l := []) (xs := [c.view, c.low]) (by simp; omega)) (by simp [mids, It.mids]) (Casts.cons (fun _ _ _ h => b3_ h) Casts.refl) (by kernel_rfl) rfl rfl rfl ?_
 refine ap_<|fun _=>D_ rfl (fa_ (l := [] ++ long8 [c.view, c.low]) (x := c.points.length) (n := 2) (by simp only [List.nil_append, al_, List.length_cons, List.length_nil]; omega) (by omega) rfl) (by simp [mids, It.mids]) Casts.refl (by kernel_rfl) rfl rfl rfl ?_
 refine ap_<|fun _=>qs_ 1 rfl<|F_<|b_<|c_<|c_<|a_<|q_ 1 rfl<|slvA (g_ tabOk rfl rfl l0_ List.not_mem_nil rfl)<|slvA (H_ rfl Tryz.underlying199 (List.length_map _))<|q_ 1 rfl<|d_<|b_<|u_<|P_ (ι := Nat) (fun z => [.blk b1 201 c.abs]) (fun z => [(1, ptr b1), (3, byt (c.head z)), (18, pntsA c.points), (19, int (c.points.length : Nat)), (20, int (z : Nat))]) (fun z => z ≤ c.points.length) (fun z => c.points.length - z) (0) (Nat.zero_le _) ⟨rfl, congrArg (fun m => some (byt m)) (by simp [Chg.head, long8]), rfl, rfl, rfl, trivial⟩ sr_ ?_
 intro z hz
 have hlen := c.head_length z hf.pts
 have hpp := gA_ hf.fprep hf.prep
 refine c_<|a_<|q_ 1 rfl<|d_<|b_<|c_<|l_ rfl ?_ ?_
 rotate_left
 ·intro hc21
  refine N_<|j_ nofun<|j_ nofun<|M_<|b_<|c_<|Q_ [] (.q 0 (.q 1 (.q 2 (.q 4 (.q 5 (.e 3 (.e 6 (.q 7 .nil)))))))) (by kernel_rfl) (by kernel_rfl) ?_
  refine qs_ 2 rfl<|sxvA rfl (g_ tabOk rfl rfl l0_ List.not_mem_nil rfl) (by simp) ?_
  refine qs_ 1 rfl<|sxvA rfl (g_ tabOk rfl rfl l0_ List.not_mem_nil rfl) (by simp) ?_
  refine D_ rfl (jO_ (l := c.head z) (ps := c.prepared) (by omega) hf.prep hf.fprep) (by simp [mids, It.mids]) Casts.refl (by kernel_rfl) rfl rfl rfl ?_
  refine ap_<|fun _=>D_ rfl (jO_ (l := c.head z ++ prfsB c.prepared) (ps := c.proposed) (by rw [List.length_append]; omega) hf.prop hf.fprop) (by simp [mids, It.mids]) Casts.refl (by kernel_rfl) rfl rfl rfl ?_
  refine ap_<|fun _=>qs_ 1 rfl<|F_<|b_<|k_<|f_ (rs := [.tmp 2]) rfl (RV.tmp rfl RV.nil) (()) sn_ ?_
  have e2 : z = c.points.length := by omega
  subst e2
  exact congrArg byt (by simp [Chg.bytes])
 intro hc21
 have hlt : z < c.points.length := by omega
 have hd9 := (c.points[z]'hlt).len
 have hl8 := al_ [(c.points[z]'hlt).seq]
 simp only [List.length_cons, List.length_nil] at hl8
 refine o_<|b_<|c_<|u_<|c_<|a_<|slvA (L_ tabOk Tryz.underlying199 rfl rfl rfl rfl (a8_ (by omega)) rfl rfl) ?_
 refine slvA (av_ tabOk rfl rfl rfl (Pnt.size _))<|eb_ (C_ tabOk rfl) rfl rfl fun b5=>?_
 refine e_ (m_ (L' := (c.points[z]'hlt).abs) tabOk rfl rfl rfl u0_ (Pnt.size _) (Nat.le_of_ble_eq_true rfl) (Pnt.ones _) (by exact putL_all (Pnt.size _))) rfl rfl ?_
 refine d_<|b_<|ce_ [] 5 rfl rfl<|Q_ [] (.q 0 (.q 1 (.q 2 (.q 5 (.q 6 (.e 3 (.e 4 (.e 7 (.q 8 .nil))))))))) (by kernel_rfl) (by kernel_rfl) ?_
 refine qs_ 1 rfl<|sxvA rfl (X_ tabOk rfl rfl rfl rfl rfl) (by simp) ?_
 refine sxvA rfl (aa_ tabOk rfl rfl rfl) (by simp) ?_
 refine sxvA rfl (X_ tabOk rfl rfl rfl rfl rfl) (by simp) ?_
 refine hx_ fun hx9 =>sxvA rfl (bl_ tabOk Tryz.underlying121 rfl rfl rfl rfl (Pnt.tail _) (by rw [Pnt.tail_length]; exact Nat.le_refl _)) hx9 ?_
 refine ex_ rfl (G_ tabOk Tryz.underlying282 rfl rfl rfl rfl rfl rfl rfl) (by simp) rfl rfl ?_
 refine bd_ rfl (long_o (l := c.head z) (xs := [(c.points[z]'hlt).seq]) (by simp; omega) (by simp)) (by simp [mids, It.mids]) Casts.refl (by kernel_rfl) rfl rfl rfl ?_
 refine aftM ?_
 intro r28
 refine d4_ [] rfl (bD_ tabOk [] Tryz.underlying39 rfl rfl rfl rfl rfl rfl (bys_ones _) (by unfold maxLen; simp only [bys, List.length_map, List.length_append, List.length_take, List.length_cons, List.length_nil]; omega) (by rw [show Tryz.prog.bytesOf 5 = 1 by kernel_rfl]; simp only [bys, List.length_map, List.length_append, List.length_take, List.length_cons, List.length_nil]; omega)) (by simp [mids, It.mids, ownPc]) (by simp) rfl rfl ?_
 rintro _ _ ⟨r31, rfl, rfl⟩
 refine hx_ fun hx9 =>qx_ 1 hx9 rfl<|F_<|w_<|b_<|a_<|slvA (y_ rfl rfl (by simp only [InR, lo, hi]; omega)) ?_
 refine q_ 1 rfl<|d_ ?_
 have e1 : c.head z ++ long8 [(c.points[z]'hlt).seq] ++ (c.points[z]'hlt).dig = c.head (z + 1) := by
  unfold Chg.head
  rw [List.take_succ_eq_append_getElem hlt, List.flatMap_append]
  simp [Pnt.bytes]
 refine aT_ [] (t := 3) rfl rfl<|I_ (z + 1) (by omega) (by omega) ⟨rfl, congrArg (fun m => some (Abs.sl 1 m)) ((bys_app _ _).trans (congrArg bys e1)), rfl, rfl, rfl, trivial⟩ sr_
end
end Go.Proofs.YtjclgkddfjbdiaaGreatDoor.A
