/-
  Packed out of the texts: Chg3, C5, C6, Y1, Lay, Iter, Y2, Y3, Y4, AD1, A21, AD4, AD2, C7, C8, C9, BatchBack.
-/
import Derived.Test.YtggajaigfkekhaaGreatP07
import Derived.DataShut
import Derived.Shelf.SlIterI.Nil
import Derived.Shelf.SlIterI.Sorted
import Derived.Shelf.SortM.Plain
import Derived.Shelf.SortM.SortNone
import Derived.Test.YtggajaigfkekhaaGreatProg
set_option maxRecDepth 100000
set_option linter.unusedSimpArgs false
set_option linter.unusedVariables false
namespace Go.Proofs.YtggajaigfkekhaaGreat
open Go.RowKit
abbrev ownB (v : Value) (l : List UInt8) : It := .pc (ownPc 5 1 v l.length (l.map bc))
def accS (σ : Blks) (l : List UInt8) (xs : List Int) (z : Nat × Value) : Blks := if z.1 = 0 then σ else ownB z.2 (l ++ long8 (xs.take z.1)) :: σ
section
variable {S : List (World × List Nat)} {σ τ : Blks} {ρ : List Dt} {w : World} {v : Value} {l : List UInt8} {xs : List Int}
theorem ju_ {z : Nat × Value} (hz : z.1 = 0 → z.2 = v) (hb : bytesD v l ∈ ρ) (hw : Mem S (accS σ l xs z) ρ w) : BytesV w z.2 (l ++ long8 (xs.take z.1)) := by
  by_cases h0 : z.1 = 0
  · rw [h0, hz h0]
    simpa [long8] using hw.bytes hb
  · unfold accS at hw
    rw [if_neg h0] at hw
    exact cV_ (hw.ownRow (e := 5) (size := 1) List.mem_cons_self)
theorem acc_drop {z : Nat × Value} {x : It} (hw : Mem S (x :: accS σ l xs z) ρ w) : Mem S (x :: σ) ρ w := by
  unfold accS at hw
  split at hw
  · exact hw
  · exact hw.sub (fun _ h => h) (List.Sublist.cons_cons _ (List.sublist_cons_self _ _))
set_option maxHeartbeats 1000000 in
theorem long_own {u : Value} (hw : Mem S σ ρ w) (hb : bytesD v l ∈ ρ) (hx : intsD u xs ∈ ρ) (hl : l.length + xs.length * 8 ≤ lots) (hn : xs ≠ []) : Calls Tryz.prog 77 #[v, u] w fun e w' => ∃ r, e = .returned r ∧ Mem S (ownB r (l ++ long8 xs) :: σ) ρ w' := by
  have hL : lots = 100000000000 := rfl
  obtain ⟨A, c, rfl, hs1, hs2, hs3⟩ := (hw.data hx).shape
  have hA : xs ≠ [] → ∃ b off, A = some ⟨b, off, none⟩ := fun h => cl_ (hw.data hx) (by cases xs with | nil => exact absurd rfl h | cons e es => simp)
  have hpos : 0 < xs.length := List.length_pos_iff.2 hn
  refine R_ [v, .slice A xs.length c] Tryz.func77 rfl Tryz.ntmps77 rfl (Mem S σ ρ) hw ?_
  refine d_ (a_ ?_)
  refine b_ (h_ rfl) rfl rfl ?_
  refine g_ (c_ ?_)
  refine d_ ?_
  refine d_ (a_ ?_)
  refine b_ (k_ rfl) rfl rfl ?_
  refine b_ (w_ rfl Tryz.underlying113) rfl rfl ?_
  refine b_ (k_ rfl) rfl rfl ?_
  refine g_ (c_ ?_)
  refine u_ ?_
  refine W_ (ι := Nat × Value) (fun z => [(0, z.2), (7, .slice A xs.length c), (8, .int .i64 (xs.length : Nat)), (9, .int .i64 (z.1 : Nat))]) (fun z w' => (z.1 ≤ xs.length ∧ (z.1 = 0 → z.2 = v)) ∧ Mem S (accS σ l xs z) ρ w') (fun z => xs.length - z.1) (0, v) (by exact ⟨rfl, rfl, rfl, rfl, trivial⟩) (fun w' hw' => ⟨⟨Nat.zero_le _, fun _ => rfl⟩, hw'⟩) ?_
  intro z
  refine aU_ ?_
  rintro ⟨hz, hz1⟩
  refine d_ (a_ ?_)
  refine b_ (an_ rfl rfl) rfl rfl ?_
  refine g_ (c_ ?_)
  refine d_ ?_
  refine o_ rfl ?_ ?_
  rotate_left
  · intro hc10
    refine T_ ?_
    refine i_ (by intro h; cases h) ?_
    refine i_ (by intro h; cases h) ?_
    refine S_ ?_
    refine c_ ?_
    refine d_ (a_ ?_)
    refine b_ (k_ rfl) rfl rfl ?_
    refine b_ (h_ rfl) rfl rfl ?_
    refine g_ (c_ ?_)
    refine n_ ?_
    refine C_ rfl rfl ?_
    intro w' hw'
    unfold accS at hw'
    rw [if_neg (by omega), List.take_of_length_le (by omega)] at hw'
    exact ⟨_, rfl, hw'⟩
  intro hc10
  have hlt : z.1 < xs.length := by omega
  obtain ⟨bb, off, rfl⟩ := hA (by intro h0; rw [h0] at hlt; simp at hlt)
  refine s_ ?_
  refine c_ ?_
  refine d_ ?_
  refine u_ ?_
  refine d_ (a_ ?_)
  refine b_ (au_ tabOk Tryz.underlying113 rfl rfl rfl (by omega)) rfl rfl ?_
  refine b_ (dw_ (u := .int .i64 (xs[z.1]'hlt)) (j := z.1 * 1) tabOk rfl rfl (by repeat (first | assumption | exact List.mem_cons_self | exact hmem _ | apply List.mem_cons_of_mem)) (by simp [hlt])) rfl rfl ?_
  refine b_ (h_ rfl) rfl rfl ?_
  refine g_ (c_ ?_)
  refine a_ ?_
  iterate 2 refine b_ (k_ rfl) rfl rfl ?_
  refine b_ (az_ rfl Tryz.underlying134 (by kernel_rfl)) rfl rfl ?_
  refine t_ (by kernel_rfl) rfl rfl rfl ?_
  intro w hw
  refine (gB_ (l := l ++ long8 (xs.take z.1)) (x := u64 (xs[z.1]'hlt)) (n := 8) hw (ju_ hz1 hb hw) (by rw [List.length_append, ar_, List.length_take]; omega) (ck_ _) rfl).mono ?_; rintro _ _ ⟨r, rfl, hm⟩; refine ⟨_, _, rfl, hm, ?_⟩; clear hm hw w
  refine b_ (h_ rfl) rfl rfl ?_
  refine g_ ?_
  refine r_ ?_
  refine c_ ?_
  refine a_ ?_
  refine b_ (v_ rfl rfl (by simp only [InR, lo, hi]; omega)) rfl rfl ?_
  refine b_ (k_ rfl) rfl rfl ?_
  refine g_ ?_
  refine A_ (z.1 + 1, r) (by show xs.length - (z.1 + 1) < xs.length - z.1; omega) (by exact ⟨rfl, rfl, rfl, rfl, trivial⟩) (fun w' hw' => ⟨⟨hlt, fun h => absurd h (by simp)⟩, ?_⟩)
  show Mem S (accS σ l xs (z.1 + 1, r)) ρ w'
  unfold accS
  rw [if_neg (by simp)]
  show Mem S (ownB r (l ++ long8 (xs.take (z.1 + 1))) :: σ) ρ w'
  rw [eS_ hlt, ← List.append_assoc]
  exact acc_drop hw'
end
end Go.Proofs.YtggajaigfkekhaaGreat
namespace Go.Proofs.YtggajaigfkekhaaGreat.A
open Go.RowKit
structure Prf.Few (p : Prf) : Prop where
  len : p.batch.length ≤ 10
  all : ∀ e ∈ p.batch, e.Few
theorem Prf.Few.bytes {p : Prf} (h : p.Few) : (batchB p.batch).length ≤ 30000 := by
  have h1 := cY_ h.all
  have h2 := h.len
  unfold batchB
  rw [List.length_append, m_]
  omega
def Prf.bytes (p : Prf) : List UInt8 := long8 [p.seq, p.view] ++ rowB (batchB p.batch)
def prfsB (ps : List Prf) : List UInt8 := beBytes ps.length 2 ++ ps.flatMap Prf.bytes
theorem cR_ {ps : List Prf} (h : ∀ p ∈ ps, p.Few) : (ps.flatMap Prf.bytes).length ≤ ps.length * 40000 := by
  induction ps with
  | nil => simp
  | cons p ps ih =>
    have h1 := (h p (by simp)).bytes
    have h2 := ih (fun x hx => h x (by simp [hx]))
    have h3 := ar_ [p.seq, p.view]
    rw [List.flatMap_cons, List.length_append, Prf.bytes, rowB, List.length_append, List.length_append, m_, h3, List.length_cons, Nat.succ_mul]
    simp only [List.length_cons, List.length_nil]
    omega
def Pnt.bytes (p : Pnt) : List UInt8 := long8 [p.seq] ++ p.dig
theorem ej_ (ps : List Pnt) : (ps.flatMap Pnt.bytes).length = ps.length * 40 := by
  induction ps with
  | nil => rfl
  | cons p ps ih =>
    have h := p.len
    rw [List.flatMap_cons, List.length_append, ih, Pnt.bytes, List.length_append, ar_, List.length_cons]
    simp only [List.length_cons, List.length_nil]
    omega
structure Chg.Few (x : Chg) : Prop where
  pts : x.points.length ≤ 1000
  prep : x.prepared.length ≤ 1000
  prop : x.proposed.length ≤ 1000
  fprep : ∀ p ∈ x.prepared, p.Few
  fprop : ∀ p ∈ x.proposed, p.Few
def Chg.head (x : Chg) (k : Nat) : List UInt8 := [] ++ long8 [x.view, x.low] ++ beBytes x.points.length 2 ++ (x.points.take k).flatMap Pnt.bytes
def Chg.bytes (x : Chg) : List UInt8 := x.head x.points.length ++ prfsB x.prepared ++ prfsB x.proposed
theorem Chg.head_length (x : Chg) (k : Nat) (h : x.points.length ≤ 1000) : (x.head k).length ≤ 50000 := by
  unfold Chg.head
  have h1 : (x.points.take k).length ≤ x.points.length := by rw [List.length_take]; omega
  simp only [List.length_append, ar_, m_, ej_, List.length_cons, List.length_nil]
  omega
theorem dE_ {ps : List Prf} (h : ∀ p ∈ ps, p.Few) (hn : ps.length ≤ 1000) : (prfsB ps).length ≤ 40000002 := by
  have := cR_ h
  unfold prfsB
  rw [List.length_append, m_]
  omega
theorem hi_ {K : List Nat} {w : World} {x : Value} {xs : List Int} : rep K w (ints xs) x ↔ IsRow K w x xs.length (xs.map fun y => .int .i64 y) := by
  have e : (xs.map fun x => [int x]) = (xs.map fun y : Int => (.int .i64 y : Value)).map fun u => [.v u] := by rw [List.map_map]; rfl
  constructor
  · rintro ⟨us, h1, h2⟩
    rw [e] at h2
    have := cc_ h2
    subst this
    simpa using h1
  · intro h
    refine ⟨_, by simpa using h, ?_⟩
    rw [e]; exact cC_
section
variable {l : List UInt8} {xs : List Int} {ps : List Prf}
theorem long_s (hl : l.length + xs.length * 8 ≤ lots) : Pure Tryz.prog 77 [byt l, ints xs] (byt (l ++ long8 xs)) := Pure.of2 fun K w vals hK hv => by
  obtain ⟨v, us', rfl, h1, u, us2, rfl, h2, h3⟩ := hv
  have h3 : us2 = [] := h3
  subst h3
  refine (long_c (((enter2 w K).add (z := bytesD v l) (row2 (a7_.1 h1))).add (z := intsD u xs) (row2 (hi_.1 h2))) (by simp) (by simp) hl).mono fun e w' ⟨r, he, hm⟩ => ⟨r, he, leave2 hm (by simp), a7_.2 (row3 hK (ent2 hm) (hm.data (z := bytesD r _) (by simp)))⟩
theorem long_o (hl : l.length + xs.length * 8 ≤ lots) (hn : xs ≠ []) : Spec Tryz.prog 77 [byt l, ints xs] [] (fun r : Value => [own 5 1 r ((l ++ long8 xs).map fun b => [.v (bc b)])]) (fun r => .v r) := Spec.ofOwnB fun K w vals hK hv => by
  obtain ⟨v, us', rfl, h1, u, us2, rfl, h2, h3⟩ := hv
  have h3 : us2 = [] := h3
  subst h3
  refine (long_own (((enter2 w K).add (z := bytesD v l) (row2 (a7_.1 h1))).add (z := intsD u xs) (row2 (hi_.1 h2))) (by simp) (by simp) hl hn).mono fun e w' ⟨r, he, hm⟩ => ⟨r, _, he, hm⟩
set_option maxHeartbeats 2000000 in
theorem ik_ (hl : l.length ≤ 100000000) (hn : ps.length ≤ 1000) (hf : ∀ p ∈ ps, p.Few) : Spec Tryz.prog 78 [byt l, prfsA ps] [] (fun _ : Unit => []) (fun _ => byt (l ++ prfsB ps)) := by
 have hL : lots = 100000000000 := rfl
 refine K_ Tryz.func78 rfl Tryz.ntmps78 rfl fun G w =>d_<|a_<|q_ 1 rfl<|g_<|c_<|d_<|a_<|q_ 2 rfl<|b_ (w_ rfl Tryz.underlying24 (List.length_map _)) rfl rfl<|b_ (ab_ rfl Tryz.underlying134 (by kernel_rfl) (by simp only [InR, lo, hi]; omega)) rfl rfl ?_
 refine t_ (put_s (l := l) (x := ps.length) (n := 2) (by omega) (by omega) rfl) Casts.refl (by kernel_rfl) rfl rfl rfl ?_
 refine ap_<|fun _=>q_ 1 rfl<|g_<|c_<|d_<|d_<|a_<|q_ 1 rfl<|b_ (w_ rfl Tryz.underlying24 (List.length_map _)) rfl rfl<|q_ 1 rfl<|g_<|c_<|u_<|W_ (ι := Nat) (fun z => []) (fun z => [(0, byt (l ++ beBytes ps.length 2 ++ (ps.take z).flatMap Prf.bytes)), (12, prfsA ps), (13, int (ps.length : Nat)), (14, int (z : Nat))]) (fun z => z ≤ ps.length) (fun z => ps.length - z) (0) (Nat.zero_le _) ⟨congrArg (fun m => some (byt m)) (by simp), rfl, rfl, rfl, trivial⟩ sn_ ?_
 intro z hz
 have hlen : (l ++ beBytes ps.length 2 ++ (ps.take z).flatMap Prf.bytes).length ≤ 100000000 + 2 + 1000 * 40000 := by
  have h0 := cR_ (ps := ps.take z) (fun p hp' => hf p (List.mem_of_mem_take hp'))
  have h9 : (ps.take z).length ≤ ps.length := by simp; omega
  have h8 : (ps.take z).length * 40000 ≤ 1000 * 40000 := Nat.mul_le_mul_right _ (by omega)
  simp only [List.length_append, m_]
  omega
 refine d_<|a_<|q_ 1 rfl<|g_<|c_<|d_<|o_ rfl ?_ ?_
 rotate_left
 ·intro hc15
  refine T_<|i_ nofun<|i_ nofun<|S_<|c_<|d_<|a_<|q_ 2 rfl<|g_<|c_<|n_<|f_ (rs := [.tmp 4]) rfl (RV.tmp rfl RV.nil) (()) sn_ ?_
  have e2 : (l ++ beBytes ps.length 2 ++ (ps.take z).flatMap Prf.bytes) = l ++ prfsB ps := by
   rw [List.take_of_length_le (by omega)]
   simp [prfsB]
  exact congrArg byt e2
 intro hc15
 have hlt : z < ps.length := by omega
 have hfp := hf _ (List.getElem_mem hlt)
 have hbl := hfp.bytes
 refine s_<|c_<|d_<|u_<|d_<|a_<|b_ (E_ tabOk Tryz.underlying24 rfl rfl rfl rfl (ah_ (by omega)) rfl rfl) rfl rfl ?_
 refine b_ (V_ tabOk rfl rfl rfl rfl) rfl rfl<|eb_ (H_ tabOk rfl) rfl rfl fun b6=>?_
 refine e_ (D_ tabOk rfl rfl rfl u0_ rfl (Nat.le_of_ble_eq_true rfl) rfl rfl) rfl rfl<|g_<|c_<|U_ [] (.q 0 (.q 1 (.q 2 (.q 3 (.q 4 (.q 7 (.q 8 (.e 5 (.e 6 (.e 9 (.e 10 (.q 11 .nil)))))))))))) (by kernel_rfl) (by kernel_rfl) ?_
 refine qs_ 2 rfl<|l_ rfl (j_ tabOk rfl rfl l0_ List.not_mem_nil rfl) (by simp) rfl rfl ?_
 refine qs_ 1 rfl<|l_ rfl (j_ tabOk rfl rfl l0_ List.not_mem_nil rfl) (by simp) rfl rfl ?_
 refine qs_ 1 rfl<|l_ rfl (j_ tabOk rfl rfl l0_ List.not_mem_nil rfl) (by simp) rfl rfl ?_
 refine ex_ rfl (ax_ tabOk Tryz.underlying113 rfl rfl rfl rfl rfl rfl rfl) (by simp) rfl rfl ?_
 refine J_ rfl (long_s (l := (l ++ beBytes ps.length 2 ++ (ps.take z).flatMap Prf.bytes)) (xs := [(ps[z]'hlt).seq, (ps[z]'hlt).view]) (by simp only [List.length_append, m_, ar_, List.length_cons, List.length_nil] at *; omega)) (by simp [mids, It.mids]) Casts.refl (by kernel_rfl) rfl rfl rfl ?_
 refine ap_<|fun _=>J_ rfl (bbytes_s (es := (ps[z]'hlt).batch) (by have := hfp.len; omega) hfp.all) (by simp [mids, It.mids]) Casts.refl (by kernel_rfl) rfl rfl rfl ?_
 refine ap_<|fun _=>J_ rfl (row_s (l := (l ++ beBytes ps.length 2 ++ (ps.take z).flatMap Prf.bytes) ++ long8 [(ps[z]'hlt).seq, (ps[z]'hlt).view]) (m := batchB (ps[z]'hlt).batch) (by simp only [List.length_append, m_, ar_, List.length_cons, List.length_nil] at *; omega) (by omega)) (by simp [mids, It.mids]) Casts.refl (by kernel_rfl) rfl rfl rfl ?_
 refine ap_<|fun _=>qs_ 1 rfl<|I_<|r_<|c_<|a_<|b_ (v_ rfl rfl (by simp only [InR, lo, hi]; omega)) rfl rfl ?_
 refine q_ 1 rfl<|g_ ?_
 have e1 : (l ++ beBytes ps.length 2 ++ (ps.take z).flatMap Prf.bytes) ++ long8 [(ps[z]'hlt).seq, (ps[z]'hlt).view] ++ beBytes (batchB (ps[z]'hlt).batch).length 4 ++ batchB (ps[z]'hlt).batch = (l ++ beBytes ps.length 2 ++ (ps.take (z + 1)).flatMap Prf.bytes) := by
  rw [List.take_succ_eq_append_getElem hlt, List.flatMap_append]
  simp [Prf.bytes, rowB, long8]
 refine A_ (z + 1) (by omega) (by omega) ⟨congrArg (fun m => some (byt m)) e1, rfl, rfl, rfl, trivial⟩ sn_
abbrev bys (l : List UInt8) : List (List Abs) := l.map fun b => [Abs.v (bc b)]
theorem jl_ (a b : List UInt8) : bys a ++ bys b = bys (a ++ b) := by simp [bys]
theorem d1_ (l : List UInt8) : ∀ c ∈ bys l, ones c = true := by
  intro c hc
  obtain ⟨b, _, rfl⟩ := List.mem_map.1 hc
  rfl
theorem Pnt.tail (p : Pnt) : ((p.abs.drop 1).take 32).map (fun a => [a]) = bys p.dig := by
  show ((digA p.dig).take 32).map _ = _
  rw [List.take_of_length_le (by simp [digA, p.len])]
  simp [digA, bys]
theorem Pnt.tail_length (p : Pnt) : (p.abs.drop 1).length = 32 := by simp [Pnt.size]
variable {c : Chg}
set_option maxHeartbeats 2000000 in
theorem fu_ (hf : c.Few) : Spec Tryz.prog 38 [.agg c.abs] [] (fun _ : Unit => []) (fun _ => byt c.bytes) := by
 have hL : lots = 100000000000 := rfl
 have hn0 := hf.pts
 refine K_ Tryz.func38 rfl Tryz.ntmps38 rfl fun G w =>d_<|a_<|eb_ (O_ rfl) rfl rfl fun b1=>?_
 refine q_ 1 rfl<|g_<|c_<|d_<|U_ [] (.q 0 (.q 1 (.q 2 (.q 3 (.q 6 (.q 7 (.q 8 (.q 9 (.e 4 (.e 5 (.e 10 (.q 11 .nil)))))))))))) (by kernel_rfl) (by kernel_rfl) ?_
 refine qs_ 1 rfl<|l_ rfl (j_ tabOk rfl rfl l0_ List.not_mem_nil rfl) (by simp) rfl rfl ?_
 refine qs_ 1 rfl<|l_ rfl (j_ tabOk rfl rfl l0_ List.not_mem_nil rfl) (by simp) rfl rfl ?_
 refine qs_ 1 rfl<|l_ rfl (j_ tabOk rfl rfl l0_ List.not_mem_nil rfl) (by simp) rfl rfl ?_
 refine l_ rfl (w_ rfl Tryz.underlying23 (List.length_map _)) (by simp) rfl rfl ?_
 refine l_ rfl (ab_ rfl Tryz.underlying134 (by kernel_rfl) (by simp only [InR, lo, hi]; omega)) (by simp) rfl rfl ?_
 refine ex_ rfl (ax_ tabOk Tryz.underlying113 rfl rfl rfl rfl rfl rfl rfl) (by simp) rfl rfl ?_
 refine J_ rfl (long_s (l := []) (xs := [c.view, c.low]) (by simp; omega)) (by simp [mids, It.mids]) (Casts.cons (fun _ _ _ h => dm_ h) Casts.refl) (by kernel_rfl) rfl rfl rfl ?_
 refine ap_<|fun _=>J_ rfl (put_s (l := [] ++ long8 [c.view, c.low]) (x := c.points.length) (n := 2) (by simp only [List.nil_append, ar_, List.length_cons, List.length_nil]; omega) (by omega) rfl) (by simp [mids, It.mids]) Casts.refl (by kernel_rfl) rfl rfl rfl ?_
 refine ap_<|fun _=>qs_ 1 rfl<|I_<|c_<|d_<|d_<|a_<|q_ 1 rfl<|b_ (j_ tabOk rfl rfl l0_ List.not_mem_nil rfl) rfl rfl<|b_ (w_ rfl Tryz.underlying23 (List.length_map _)) rfl rfl<|q_ 1 rfl<|g_<|c_<|u_<|W_ (ι := Nat) (fun z => [.blk b1 26 c.abs]) (fun z => [(1, ptr b1), (3, byt (c.head z)), (18, pntsA c.points), (19, int (c.points.length : Nat)), (20, int (z : Nat))]) (fun z => z ≤ c.points.length) (fun z => c.points.length - z) (0) (Nat.zero_le _) ⟨rfl, congrArg (fun m => some (byt m)) (by simp [Chg.head, long8]), rfl, rfl, rfl, trivial⟩ sr_ ?_
 intro z hz
 have hlen := c.head_length z hf.pts
 have hpp := dE_ hf.fprep hf.prep
 refine d_<|a_<|q_ 1 rfl<|g_<|c_<|d_<|o_ rfl ?_ ?_
 rotate_left
 ·intro hc21
  refine T_<|i_ nofun<|i_ nofun<|S_<|c_<|d_<|U_ [] (.q 0 (.q 1 (.q 2 (.q 4 (.q 5 (.e 3 (.e 6 (.q 7 .nil)))))))) (by kernel_rfl) (by kernel_rfl) ?_
  refine qs_ 2 rfl<|l_ rfl (j_ tabOk rfl rfl l0_ List.not_mem_nil rfl) (by simp) rfl rfl ?_
  refine qs_ 1 rfl<|l_ rfl (j_ tabOk rfl rfl l0_ List.not_mem_nil rfl) (by simp) rfl rfl ?_
  refine J_ rfl (ik_ (l := c.head z) (ps := c.prepared) (by omega) hf.prep hf.fprep) (by simp [mids, It.mids]) Casts.refl (by kernel_rfl) rfl rfl rfl ?_
  refine ap_<|fun _=>J_ rfl (ik_ (l := c.head z ++ prfsB c.prepared) (ps := c.proposed) (by rw [List.length_append]; omega) hf.prop hf.fprop) (by simp [mids, It.mids]) Casts.refl (by kernel_rfl) rfl rfl rfl ?_
  refine ap_<|fun _=>qs_ 1 rfl<|I_<|c_<|n_<|f_ (rs := [.tmp 2]) rfl (RV.tmp rfl RV.nil) (()) sn_ ?_
  have e2 : z = c.points.length := by omega
  subst e2
  exact congrArg byt (by simp [Chg.bytes])
 intro hc21
 have hlt : z < c.points.length := by omega
 have hd9 := (c.points[z]'hlt).len
 have hl8 := ar_ [(c.points[z]'hlt).seq]
 simp only [List.length_cons, List.length_nil] at hl8
 refine s_<|c_<|d_<|u_<|d_<|a_<|b_ (E_ tabOk Tryz.underlying23 rfl rfl rfl rfl (ah_ (by omega)) rfl rfl) rfl rfl ?_
 refine b_ (V_ tabOk rfl rfl rfl (Pnt.size _)) rfl rfl<|eb_ (H_ tabOk rfl) rfl rfl fun b5=>?_
 refine e_ (D_ (L' := (c.points[z]'hlt).abs) tabOk rfl rfl rfl u0_ (Pnt.size _) (Nat.le_of_ble_eq_true rfl) (Pnt.ones _) (by exact fh_ (Pnt.size _))) rfl rfl ?_
 refine g_<|c_<|e4_ [] 5 rfl rfl<|U_ [] (.q 0 (.q 1 (.q 2 (.q 5 (.q 6 (.e 3 (.e 4 (.e 7 (.q 8 .nil))))))))) (by kernel_rfl) (by kernel_rfl) ?_
 refine qs_ 1 rfl<|l_ rfl (aa_ tabOk rfl rfl rfl rfl rfl) (by simp) rfl rfl ?_
 refine l_ rfl (as_ tabOk rfl rfl rfl) (by simp) rfl rfl ?_
 refine l_ rfl (aa_ tabOk rfl rfl rfl rfl rfl) (by simp) rfl rfl ?_
 refine hx_ fun hx9 =>l_ rfl (fB_ tabOk Tryz.underlying40 rfl rfl rfl rfl (Pnt.tail _) (by rw [Pnt.tail_length]; exact Nat.le_refl _)) hx9 rfl rfl ?_
 refine ex_ rfl (ax_ tabOk Tryz.underlying113 rfl rfl rfl rfl rfl rfl rfl) (by simp) rfl rfl ?_
 refine SX.callM rfl (long_o (l := c.head z) (xs := [(c.points[z]'hlt).seq]) (by simp; omega) (by simp)) (by simp [mids, It.mids]) Casts.refl (by kernel_rfl) rfl rfl rfl ?_
 refine dz_ (by repeat first|exact .nil|refine .blk (by repeat first|assumption|exact m0_|apply m1_) ?_|refine .rd (by repeat first|assumption|exact m0_|apply m1_) ?_|refine .pc (by repeat first|assumption|exact m0_|apply m1_) ?_|refine .rdpc (by repeat first|assumption|exact m0_|apply m1_) ?_) (fun _ => rfl) ?_
 intro r28
 refine jA_ [] rfl (a3_ tabOk [] Tryz.underlying27 rfl rfl rfl rfl rfl rfl (d1_ _) (by unfold maxLen; simp only [bys, List.length_map, List.length_append, List.length_take, List.length_cons, List.length_nil]; omega) (by rw [show Tryz.prog.bytesOf 5 = 1 by kernel_rfl]; simp only [bys, List.length_map, List.length_append, List.length_take, List.length_cons, List.length_nil]; omega)) (by simp [mids, It.mids, ownPc]) (by simp) rfl rfl ?_
 rintro _ _ ⟨r31, rfl, rfl⟩
 refine hx_ fun hx9 =>qx_ 1 hx9 rfl<|I_<|r_<|c_<|a_<|b_ (v_ rfl rfl (by simp only [InR, lo, hi]; omega)) rfl rfl ?_
 refine q_ 1 rfl<|g_ ?_
 have e1 : c.head z ++ long8 [(c.points[z]'hlt).seq] ++ (c.points[z]'hlt).dig = c.head (z + 1) := by
  unfold Chg.head
  rw [List.take_succ_eq_append_getElem hlt, List.flatMap_append]
  simp [Pnt.bytes]
 refine eA_ [] (t := 3) rfl rfl<|A_ (z + 1) (by omega) (by omega) ⟨rfl, congrArg (fun m => some (Abs.sl 1 m)) ((jl_ _ _).trans (congrArg bys e1)), rfl, rfl, rfl, trivial⟩ sr_
end
section
variable {l m : List UInt8} {ps : List Prf} {c : Chg}
theorem rdig_s (hl : l.length + 32 ≤ lots) (hm : m.length = 32) : Spec Tryz.prog 81 [byt l, .agg (digA m)] [] (fun _ : Unit => []) (fun _ => byt (l ++ m)) := by
 have hL : lots = 100000000000 := rfl
 refine K_ Tryz.func81 rfl Tryz.ntmps81 rfl fun G w =>d_<|a_<|eb_ (O_ rfl) rfl rfl fun b3=>?_
 refine q_ 1 rfl<|g_<|c_<|d_<|a_<|eb_ (dK_ tabOk Tryz.underlying27 rfl rfl rfl rfl rfl rfl rfl) rfl rfl fun r8=>?_
 refine q_ 1 rfl<|eb_ (a3_ tabOk [] Tryz.underlying27 rfl rfl rfl rfl rfl rfl (d1_ _) (by unfold maxLen; simp only [bys, List.length_map, List.length_append, List.length_take, List.length_cons, List.length_nil]; omega) (by rw [show Tryz.prog.bytesOf 5 = 1 by kernel_rfl]; simp only [bys, List.length_map, List.length_append, List.length_take, List.length_cons, List.length_nil]; omega)) rfl rfl fun r10=>?_
 rw [show ([] : List (List Abs)) ++ (l.map fun b => [Abs.v (bc b)]) = bys (l ++ m.take 0) by simp]
 refine q_ 1 rfl<|g_<|c_<|d_<|d_<|a_<|b_ (x_ tabOk rfl rfl rfl l1_ List.not_mem_nil (by simp [digA, hm])) rfl rfl ?_
 refine q_ 1 rfl<|g_<|c_<|u_<|W_ (ι := Nat × Value) (fun z => [own 5 1 z.2 (bys (l ++ m.take z.1))]) (fun z => [(5, .v z.2), (11, .agg (digA m)), (12, int (z.1 : Nat))]) (fun z => z.1 ≤ 32) (fun z => 32 - z.1) ((0, r10)) (Nat.zero_le _) (by exact ⟨rfl, rfl, rfl, trivial⟩) (sc_ sn_) ?_
 intro z hz
 refine d_<|a_<|q_ 1 rfl<|g_<|c_<|d_<|o_ rfl ?_ ?_
 rotate_left
 ·intro hc13
  exact T_<|i_ nofun<|i_ nofun<|S_<|c_<|d_<|a_<|q_ 2 rfl<|g_<|c_<|n_<|eA_ [] (t := 4) rfl rfl<|f_ (rs := [.tmp 4]) rfl (RV.tmp rfl RV.nil) (()) sn_<|congrArg byt (by rw [List.take_of_length_le (by omega)])
 intro hc13
 have hlt : z.1 < 32 := by omega
 refine s_<|c_<|d_<|u_<|d_<|a_<|b_ (g4_ (q := z.1) tabOk Tryz.underlying40 rfl rfl rfl rfl rfl (by omega) (at_map1 (by omega))) rfl rfl ?_
 refine q_ 1 rfl<|g_<|c_<|a_<|q_ 2 rfl<|e_ (ax_ tabOk Tryz.underlying27 rfl rfl rfl rfl rfl rfl rfl) rfl rfl<|eb_ (a3_ tabOk [] Tryz.underlying27 rfl rfl rfl rfl rfl rfl (d1_ [m[z.1]'(by omega)]) (by unfold maxLen; simp only [bys, List.length_map, List.length_append, List.length_take, List.length_cons, List.length_nil]; omega) (by rw [show Tryz.prog.bytesOf 5 = 1 by kernel_rfl]; simp only [bys, List.length_map, List.length_append, List.length_take, List.length_cons, List.length_nil]; omega)) rfl rfl fun r18=>?_
 have e9 : bys (l ++ m.take z.1) ++ [cellsA (Abs.v (bc (m[z.1]'(by omega))))] = bys (l ++ m.take (z.1 + 1)) := by
  show bys (l ++ m.take z.1) ++ bys [m[z.1]'(by omega)] = _
  rw [jl_, List.append_assoc, ← List.take_succ_eq_append_getElem]
 rw [e9]
 refine q_ 1 rfl<|g_<|r_<|c_<|a_<|b_ (v_ rfl rfl (by simp only [InR, lo, hi]; omega)) rfl rfl ?_
 refine q_ 1 rfl<|g_<|A_ ((z.1 + 1, r18)) (by omega) (by omega) (by exact ⟨rfl, rfl, rfl, trivial⟩) sr_
set_option maxHeartbeats 2000000 in
theorem fT_ (hl : l.length ≤ 100000000) (hn : ps.length ≤ 1000) (hf : ∀ p ∈ ps, p.Few) : Spec Tryz.prog 82 [byt l, prfsA ps] [] (fun _ : Unit => []) (fun _ => byt (l ++ prfsB ps)) := by
 have hL : lots = 100000000000 := rfl
 refine K_ Tryz.func82 rfl Tryz.ntmps82 rfl fun G w =>d_<|a_<|q_ 1 rfl<|g_<|c_<|d_<|a_<|q_ 2 rfl<|b_ (w_ rfl Tryz.underlying24 (List.length_map _)) rfl rfl<|b_ (ab_ rfl Tryz.underlying134 (by kernel_rfl) (by simp only [InR, lo, hi]; omega)) rfl rfl ?_
 refine t_ (dD_ (l := l) (x := ps.length) (n := 2) (by omega) rfl) Casts.refl (by kernel_rfl) rfl rfl rfl ?_
 refine ap_<|fun _=>q_ 1 rfl<|g_<|c_<|d_<|d_<|a_<|q_ 1 rfl<|b_ (w_ rfl Tryz.underlying24 (List.length_map _)) rfl rfl<|q_ 1 rfl<|g_<|c_<|u_<|W_ (ι := Nat) (fun z => []) (fun z => [(0, byt (l ++ beBytes ps.length 2 ++ (ps.take z).flatMap Prf.bytes)), (12, prfsA ps), (13, int (ps.length : Nat)), (14, int (z : Nat))]) (fun z => z ≤ ps.length) (fun z => ps.length - z) (0) (Nat.zero_le _) ⟨congrArg (fun m => some (byt m)) (by simp), rfl, rfl, rfl, trivial⟩ sn_ ?_
 intro z hz
 have hlen : (l ++ beBytes ps.length 2 ++ (ps.take z).flatMap Prf.bytes).length ≤ 100000000 + 2 + 1000 * 40000 := by
  have h0 := cR_ (ps := ps.take z) (fun p hp' => hf p (List.mem_of_mem_take hp'))
  have h9 : (ps.take z).length ≤ ps.length := by simp; omega
  have h8 : (ps.take z).length * 40000 ≤ 1000 * 40000 := Nat.mul_le_mul_right _ (by omega)
  simp only [List.length_append, m_]
  omega
 refine d_<|a_<|q_ 1 rfl<|g_<|c_<|d_<|o_ rfl ?_ ?_
 rotate_left
 ·intro hc15
  refine T_<|i_ nofun<|i_ nofun<|S_<|c_<|d_<|a_<|q_ 2 rfl<|g_<|c_<|n_<|f_ (rs := [.tmp 4]) rfl (RV.tmp rfl RV.nil) (()) sn_ ?_
  have e2 : (l ++ beBytes ps.length 2 ++ (ps.take z).flatMap Prf.bytes) = l ++ prfsB ps := by
   rw [List.take_of_length_le (by omega)]
   simp [prfsB]
  exact congrArg byt e2
 intro hc15
 have hlt : z < ps.length := by omega
 have hfp := hf _ (List.getElem_mem hlt)
 have hbl := hfp.bytes
 refine s_<|c_<|d_<|u_<|d_<|a_<|b_ (E_ tabOk Tryz.underlying24 rfl rfl rfl rfl (ah_ (by omega)) rfl rfl) rfl rfl ?_
 refine b_ (V_ tabOk rfl rfl rfl rfl) rfl rfl<|eb_ (H_ tabOk rfl) rfl rfl fun b6=>?_
 refine e_ (D_ tabOk rfl rfl rfl u0_ rfl (Nat.le_of_ble_eq_true rfl) rfl rfl) rfl rfl<|g_<|c_<|d_<|U_ [] (.q 0 (.q 1 (.q 2 (.q 3 (.q 5 (.q 6 (.q 7 (.e 4 (.e 8 (.q 9 .nil)))))))))) (by kernel_rfl) (by kernel_rfl) ?_
 refine qs_ 2 rfl<|l_ rfl (j_ tabOk rfl rfl l0_ List.not_mem_nil rfl) (by simp) rfl rfl ?_
 refine hx_ fun hx9 =>l_ rfl (az_ rfl Tryz.underlying134 (by kernel_rfl)) hx9 rfl rfl ?_
 refine qs_ 1 rfl<|l_ rfl (j_ tabOk rfl rfl l0_ List.not_mem_nil rfl) (by simp) rfl rfl ?_
 refine l_ rfl (az_ rfl Tryz.underlying134 (by kernel_rfl)) hx9 rfl rfl ?_
 refine J_ rfl (dD_ (l := (l ++ beBytes ps.length 2 ++ (ps.take z).flatMap Prf.bytes)) (x := u64 (ps[z]'hlt).seq) (n := 8) (by omega) rfl) (by simp [mids, It.mids]) Casts.refl (by kernel_rfl) rfl rfl rfl ?_
 refine ap_<|fun _=>J_ rfl (dD_ (l := (l ++ beBytes ps.length 2 ++ (ps.take z).flatMap Prf.bytes) ++ beBytes (u64 (ps[z]'hlt).seq) 8) (x := u64 (ps[z]'hlt).view) (n := 8) (by simp only [List.length_append, m_, ar_, List.length_cons, List.length_nil] at *; omega) rfl) (by simp [mids, It.mids]) Casts.refl (by kernel_rfl) rfl rfl rfl ?_
 refine ap_<|fun _=>qs_ 1 rfl<|I_<|c_<|a_<|q_ 2 rfl<|b_ (j_ tabOk rfl rfl l0_ List.not_mem_nil rfl) rfl rfl<|t_ (iB_ (es := (ps[z]'hlt).batch) (by have := hfp.len; omega) hfp.all) Casts.refl (by kernel_rfl) rfl rfl rfl ?_
 refine ap_<|fun _=>t_ (rrow_s (l := (l ++ beBytes ps.length 2 ++ (ps.take z).flatMap Prf.bytes) ++ beBytes (u64 (ps[z]'hlt).seq) 8 ++ beBytes (u64 (ps[z]'hlt).view) 8) (m := batchB (ps[z]'hlt).batch) (by simp only [List.length_append, m_, ar_, List.length_cons, List.length_nil] at *; omega) (by omega)) Casts.refl (by kernel_rfl) rfl rfl rfl ?_
 refine ap_<|fun _=>q_ 1 rfl<|g_<|r_<|c_<|a_<|b_ (v_ rfl rfl (by simp only [InR, lo, hi]; omega)) rfl rfl ?_
 refine q_ 1 rfl<|g_ ?_
 have e1 : (l ++ beBytes ps.length 2 ++ (ps.take z).flatMap Prf.bytes) ++ beBytes (u64 (ps[z]'hlt).seq) 8 ++ beBytes (u64 (ps[z]'hlt).view) 8 ++ beBytes (batchB (ps[z]'hlt).batch).length 4 ++ batchB (ps[z]'hlt).batch = (l ++ beBytes ps.length 2 ++ (ps.take (z + 1)).flatMap Prf.bytes) := by
  rw [List.take_succ_eq_append_getElem hlt, List.flatMap_append]
  simp [Prf.bytes, rowB, long8]
 refine A_ (z + 1) (by omega) (by omega) ⟨congrArg (fun m => some (byt m)) e1, rfl, rfl, rfl, trivial⟩ sn_
set_option maxHeartbeats 2000000 in
theorem rbytes_s (hf : c.Few) : Spec Tryz.prog 41 [.agg c.abs] [] (fun _ : Unit => []) (fun _ => byt c.bytes) := by
 have hL : lots = 100000000000 := rfl
 have hn0 := hf.pts
 refine K_ Tryz.func41 rfl Tryz.ntmps41 rfl fun G w =>d_<|a_<|eb_ (O_ rfl) rfl rfl fun b1=>?_
 refine q_ 1 rfl<|g_<|c_<|d_<|U_ [] (.q 0 (.q 1 (.q 2 (.q 4 (.q 5 (.q 6 (.e 3 (.e 7 (.q 8 .nil))))))))) (by kernel_rfl) (by kernel_rfl) ?_
 refine qs_ 1 rfl<|l_ rfl (j_ tabOk rfl rfl l0_ List.not_mem_nil rfl) (by simp) rfl rfl ?_
 refine hx_ fun hx9 =>l_ rfl (az_ rfl Tryz.underlying134 (by kernel_rfl)) hx9 rfl rfl ?_
 refine qs_ 1 rfl<|l_ rfl (j_ tabOk rfl rfl l0_ List.not_mem_nil rfl) (by simp) rfl rfl ?_
 refine l_ rfl (az_ rfl Tryz.underlying134 (by kernel_rfl)) hx9 rfl rfl ?_
 refine J_ rfl (dD_ (l := []) (x := u64 c.view) (n := 8) (by simp; omega) rfl) (by simp [mids, It.mids]) (Casts.cons (fun _ _ _ h => dm_ h) Casts.refl) (by kernel_rfl) rfl rfl rfl ?_
 refine ap_<|fun _=>J_ rfl (dD_ (l := [] ++ beBytes (u64 c.view) 8) (x := u64 c.low) (n := 8) (by simp [m_]; omega) rfl) (by simp [mids, It.mids]) Casts.refl (by kernel_rfl) rfl rfl rfl ?_
 refine ap_<|fun _=>qs_ 1 rfl<|I_<|c_<|d_<|a_<|q_ 2 rfl<|b_ (j_ tabOk rfl rfl l0_ List.not_mem_nil rfl) rfl rfl<|b_ (w_ rfl Tryz.underlying23 (List.length_map _)) rfl rfl<|b_ (ab_ rfl Tryz.underlying134 (by kernel_rfl) (by simp only [InR, lo, hi]; omega)) rfl rfl ?_
 refine t_ (dD_ (l := [] ++ beBytes (u64 c.view) 8 ++ beBytes (u64 c.low) 8) (x := c.points.length) (n := 2) (by simp [m_]; omega) rfl) Casts.refl (by kernel_rfl) rfl rfl rfl ?_
 refine ap_<|fun _=>q_ 1 rfl<|g_<|c_<|d_<|d_<|a_<|q_ 1 rfl<|b_ (j_ tabOk rfl rfl l0_ List.not_mem_nil rfl) rfl rfl<|b_ (w_ rfl Tryz.underlying23 (List.length_map _)) rfl rfl<|q_ 1 rfl<|g_<|c_<|u_<|W_ (ι := Nat) (fun z => [.blk b1 26 c.abs]) (fun z => [(1, ptr b1), (3, byt (c.head z)), (21, pntsA c.points), (22, int (c.points.length : Nat)), (23, int (z : Nat))]) (fun z => z ≤ c.points.length) (fun z => c.points.length - z) (0) (Nat.zero_le _) ⟨rfl, congrArg (fun m => some (byt m)) (by simp [Chg.head, long8]), rfl, rfl, rfl, trivial⟩ sr_ ?_
 intro z hz
 have hlen := c.head_length z hf.pts
 have hpp := dE_ hf.fprep hf.prep
 refine d_<|a_<|q_ 1 rfl<|g_<|c_<|d_<|o_ rfl ?_ ?_
 rotate_left
 ·intro hc24
  refine T_<|i_ nofun<|i_ nofun<|S_<|c_<|d_<|U_ [] (.q 0 (.q 1 (.q 2 (.q 4 (.q 5 (.e 3 (.e 6 (.q 7 .nil)))))))) (by kernel_rfl) (by kernel_rfl) ?_
  refine qs_ 2 rfl<|l_ rfl (j_ tabOk rfl rfl l0_ List.not_mem_nil rfl) (by simp) rfl rfl ?_
  refine qs_ 1 rfl<|l_ rfl (j_ tabOk rfl rfl l0_ List.not_mem_nil rfl) (by simp) rfl rfl ?_
  refine J_ rfl (fT_ (l := c.head z) (ps := c.prepared) (by omega) hf.prep hf.fprep) (by simp [mids, It.mids]) Casts.refl (by kernel_rfl) rfl rfl rfl ?_
  refine ap_<|fun _=>J_ rfl (fT_ (l := c.head z ++ prfsB c.prepared) (ps := c.proposed) (by rw [List.length_append]; omega) hf.prop hf.fprop) (by simp [mids, It.mids]) Casts.refl (by kernel_rfl) rfl rfl rfl ?_
  refine ap_<|fun _=>qs_ 1 rfl<|I_<|c_<|n_<|f_ (rs := [.tmp 2]) rfl (RV.tmp rfl RV.nil) (()) sn_ ?_
  have e2 : z = c.points.length := by omega
  subst e2
  exact congrArg byt (by simp [Chg.bytes])
 intro hc24
 have hlt : z < c.points.length := by omega
 refine s_<|c_<|d_<|u_<|d_<|a_<|b_ (E_ tabOk Tryz.underlying23 rfl rfl rfl rfl (ah_ (by omega)) rfl rfl) rfl rfl ?_
 refine b_ (V_ tabOk rfl rfl rfl (Pnt.size _)) rfl rfl<|eb_ (H_ tabOk rfl) rfl rfl fun b5=>?_
 refine e_ (D_ (L' := (c.points[z]'hlt).abs) tabOk rfl rfl rfl u0_ (Pnt.size _) (Nat.le_of_ble_eq_true rfl) (Pnt.ones _) (by exact fh_ (Pnt.size _))) rfl rfl ?_
 refine g_<|c_<|e4_ [] 5 rfl rfl<|U_ [] (.q 0 (.q 1 (.q 2 (.q 3 (.q 5 (.q 6 (.e 4 (.e 7 (.q 8 .nil))))))))) (by kernel_rfl) (by kernel_rfl) ?_
 refine qs_ 1 rfl<|l_ rfl (aa_ tabOk rfl rfl rfl rfl rfl) (by simp) rfl rfl ?_
 refine l_ rfl (as_ tabOk rfl rfl rfl) (by simp) rfl rfl ?_
 refine hx_ fun hx9 =>l_ rfl (az_ rfl Tryz.underlying134 (by kernel_rfl)) hx9 rfl rfl ?_
 refine l_ rfl (aa_ tabOk rfl rfl rfl rfl rfl) (by simp) rfl rfl ?_
 refine l_ rfl (V_ tabOk rfl rfl rfl (Pnt.tail_length _)) hx9 rfl rfl<|J_ rfl (dD_ (l := c.head z) (x := u64 (c.points[z]'hlt).seq) (n := 8) (by omega) rfl) (by simp [mids, It.mids]) Casts.refl (by kernel_rfl) rfl rfl rfl ?_
 refine ap_<|fun _=>J_ rfl (rdig_s (l := c.head z ++ beBytes (u64 (c.points[z]'hlt).seq) 8) (m := (c.points[z]'hlt).dig) (by rw [List.length_append, m_]; omega) (c.points[z]'hlt).len) (by simp [mids, It.mids]) Casts.refl (by kernel_rfl) rfl rfl rfl ?_
 refine ap_<|fun _=>qs_ 1 rfl<|I_<|r_<|c_<|a_<|b_ (v_ rfl rfl (by simp only [InR, lo, hi]; omega)) rfl rfl ?_
 refine q_ 1 rfl<|g_ ?_
 have e1 : c.head z ++ beBytes (u64 (c.points[z]'hlt).seq) 8 ++ (c.points[z]'hlt).dig = c.head (z + 1) := by
  unfold Chg.head
  rw [List.take_succ_eq_append_getElem hlt, List.flatMap_append]
  simp [Pnt.bytes, long8]
 refine A_ (z + 1) (by omega) (by omega) ⟨rfl, congrArg (fun m => some (byt m)) e1, rfl, rfl, rfl, trivial⟩ sr_
end
end Go.Proofs.YtggajaigfkekhaaGreat.A
namespace Go.Proofs.YtggajaigfkekhaaGreat
open Go.Shelf Go.RowKit
def gt_ : Ren := ⟨fun | 5 => 88 | 8 => 119 | 7 => 118 | 19 => 145 | 20 => 146 | 10 => 136 | 11 => 137 | 12 => 138 | 13 => 139 | 14 => 140 | 15 => 141 | 16 => 142 | 17 => 143 | 18 => 144 | 30 => 156 | 31 => 157 | 32 => 158 | 33 => 159 | 34 => 160 | 35 => 161 | 40 => 164 | n => n, fun | 23 => 113 | 25 => 2 | 3 => 3 | 32 => 172 | 22 => 113 | 0 => 0 | 44 => 80 | 46 => 134 | 4 => 4 | 36 => 193 | 35 => 192 | 41 => 198 | 5 => 5 | 9 => 9 | 53 => 206 | 57 => 210 | 63 => 214 | 64 => 215 | n => n, fun n => n⟩
theorem d7_ : SlLaysM.n5 Tryz.prog gt_ := {
  mixed := by kernel_rfl,
  f5 := ⟨Tryz.f88.name, by decide, Tryz.func88.trans (congrArg some (by kernel_rfl))⟩,
  f7 := ⟨Tryz.f118.name, by decide, Tryz.func118.trans (congrArg some (by kernel_rfl))⟩,
  f8 := Tryz.func119.trans (congrArg some (by kernel_rfl)),
  f10 := ⟨Tryz.f136.name, by decide, Tryz.func136.trans (congrArg some (by kernel_rfl))⟩,
  f11 := ⟨Tryz.f137.name, by decide, Tryz.func137.trans (congrArg some (by kernel_rfl))⟩,
  f12 := ⟨Tryz.f138.name, by decide, Tryz.func138.trans (congrArg some (by kernel_rfl))⟩,
  f13 := ⟨Tryz.f139.name, by decide, Tryz.func139.trans (congrArg some (by kernel_rfl))⟩,
  f14 := ⟨Tryz.f140.name, by decide, Tryz.func140.trans (congrArg some (by kernel_rfl))⟩,
  f15 := ⟨Tryz.f141.name, by decide, Tryz.func141.trans (congrArg some (by kernel_rfl))⟩,
  f16 := ⟨Tryz.f142.name, by decide, Tryz.func142.trans (congrArg some (by kernel_rfl))⟩,
  f17 := ⟨Tryz.f143.name, by decide, Tryz.func143.trans (congrArg some (by kernel_rfl))⟩,
  f18 := ⟨Tryz.f144.name, by decide, Tryz.func144.trans (congrArg some (by kernel_rfl))⟩,
  f19 := Tryz.func145.trans (congrArg some (by kernel_rfl)),
  f20 := Tryz.func146.trans (congrArg some (by kernel_rfl)),
  f30 := ⟨Tryz.f156.name, by decide, Tryz.func156.trans (congrArg some (by kernel_rfl))⟩,
  f31 := Tryz.func157.trans (congrArg some (by kernel_rfl)),
  f32 := Tryz.func158.trans (congrArg some (by kernel_rfl)),
  f33 := ⟨Tryz.f159.name, by decide, Tryz.func159.trans (congrArg some (by kernel_rfl))⟩,
  f34 := ⟨Tryz.f160.name, by decide, Tryz.func160.trans (congrArg some (by kernel_rfl))⟩,
  f35 := ⟨Tryz.f161.name, by decide, Tryz.func161.trans (congrArg some (by kernel_rfl))⟩,
  f40 := ⟨Tryz.f164.name, by decide, Tryz.func164.trans (congrArg some (by kernel_rfl))⟩,
  t0 := Tryz.underlying0,
  a0 := Tryz.isAgg0,
  z0 := Tryz.sizeOf0,
  v0 := Tryz.zeroValue0,
  t3 := Tryz.underlying3,
  a3 := Tryz.isAgg3,
  z3 := Tryz.sizeOf3,
  v3 := Tryz.zeroValue3,
  t4 := Tryz.underlying4,
  a4 := Tryz.isAgg4,
  z4 := Tryz.sizeOf4,
  v4 := Tryz.zeroValue4,
  t5 := Tryz.underlying5,
  a5 := Tryz.isAgg5,
  z5 := Tryz.sizeOf5,
  v5 := Tryz.zeroValue5,
  t9 := Tryz.underlying9,
  a9 := Tryz.isAgg9,
  z9 := Tryz.sizeOf9,
  v9 := Tryz.zeroValue9,
  t22 := Tryz.underlying113,
  a22 := Tryz.isAgg113,
  z22 := Tryz.sizeOf113,
  v22 := Tryz.zeroValue113,
  t23 := Tryz.underlying113,
  a23 := Tryz.isAgg113,
  z23 := Tryz.sizeOf113,
  v23 := Tryz.zeroValue113,
  t25 := Tryz.underlying2,
  a25 := Tryz.isAgg2,
  z25 := Tryz.sizeOf2,
  v25 := Tryz.zeroValue2,
  t32 := Tryz.underlying172,
  a32 := Tryz.isAgg172,
  z32 := Tryz.sizeOf172,
  v32 := Tryz.zeroValue172,
  t35 := Tryz.underlying192,
  a35 := Tryz.isAgg192,
  z35 := Tryz.sizeOf192,
  v35 := Tryz.zeroValue192,
  t36 := Tryz.underlying193,
  a36 := Tryz.isAgg193,
  z36 := Tryz.sizeOf193,
  v36 := Tryz.zeroValue193,
  t41 := Tryz.underlying198,
  a41 := Tryz.isAgg198,
  z41 := Tryz.sizeOf198,
  v41 := Tryz.zeroValue198,
  t44 := Tryz.underlying80,
  a44 := Tryz.isAgg80,
  z44 := Tryz.sizeOf80,
  v44 := Tryz.zeroValue80,
  t46 := Tryz.underlying134,
  a46 := Tryz.isAgg134,
  z46 := Tryz.sizeOf134,
  v46 := Tryz.zeroValue134,
  t53 := Tryz.underlying206,
  a53 := Tryz.isAgg206,
  z53 := Tryz.sizeOf206,
  v53 := Tryz.zeroValue206,
  t57 := Tryz.underlying210,
  a57 := Tryz.isAgg210,
  z57 := Tryz.sizeOf210,
  v57 := Tryz.zeroValue210,
  t63 := Tryz.underlying214,
  a63 := Tryz.isAgg214,
  z63 := Tryz.sizeOf214,
  v63 := Tryz.zeroValue214,
  t64 := Tryz.underlying215,
  a64 := Tryz.isAgg215,
  z64 := Tryz.sizeOf215,
  v64 := Tryz.zeroValue215 }
end Go.Proofs.YtggajaigfkekhaaGreat
namespace Go.Proofs.YtggajaigfkekhaaGreat.A
open Go.RowKit Go.Maps Go.Sort Go.Shelf
theorem eQ_ {K : List Nat} {w : World} : ∀ {xs : List Int}, repss K w 1 (xs.map fun x => [int x]) (xs.map encZ)
  | [] => rfl
  | x :: xs => ⟨[encZ x], _, rfl, rfl, ⟨_, _, rfl, rfl, rfl⟩, eQ_⟩
end Go.Proofs.YtggajaigfkekhaaGreat.A
namespace Go.Proofs.YtggajaigfkekhaaGreat.A
open Go.RowKit Go.Maps Go.Sort Go.Shelf
theorem getD_is {α : Type} {enc : α → Abs} {V : α → Value} {z : Abs} {zv : Value} (h : ∀ a, (enc a).is (V a)) (hz : z.is zv) (o : Option α) : ((o.map enc).getD z).is ((o.map V).getD zv) := by
  cases o with
  | none => exact hz
  | some a => exact h a
theorem cT_ {α : Type} {o : Option α} (h : o.isSome = true) : ∃ v, o = some v := Option.isSome_iff_exists.1 h
theorem cU_ {α : Type} {o : Option α} (h : o.isSome = false) : o = none := by simpa using h
section
variable {t bv bn : Nat} {m : List (Int × UInt8)} {c : List (UInt8 × Nat)} {k : UInt8} {who at_ : Int}
theorem aj_ : ∀ w, (zeroValue 3).run Tryz.prog w = .ok (cntV 0) w := fun w => by
  kernel_rfl
end
end Go.Proofs.YtggajaigfkekhaaGreat.A
namespace Go.Proofs.YtggajaigfkekhaaGreat.A
open Go.RowKit Go.Maps Go.Sort Go.Shelf
end Go.Proofs.YtggajaigfkekhaaGreat.A
namespace Go.Proofs.YtggajaigfkekhaaGreat.A
open Go.RowKit Go.Maps Go.Sort Go.Shelf
section
variable {α : Type} [DecidableEq α] {m : List (Int × α)} {c : List (α × Nat)} {who : Int} {k v : α}
theorem hB_ (hv : aget m who = none) : chgC m c who k = aput c k (cget c k + 1) := by
  unfold chgC
  rw [hv]
  rfl
theorem bX_ (hv : aget m who = some v) : chgC m c who k = aput (decO c (some v)) k (cget (decO c (some v)) k + 1) := by
  unfold chgC
  rw [hv]
theorem bv_ (c : List (α × Nat)) (v : α) : (int ((cget c v : Nat) : Int)).is (((aget (aent c v 0) v).map cntV).getD (cntV 0)) := by
  have h := aK_ (aent c v 0) v
  have e : cget (aent c v 0) v = cget c v := by
    unfold aent
    split
    · rfl
    · next hn =>
      rw [cu_, if_pos rfl]
      have : aget c v = none := by simpa using hn
      unfold cget
      rw [this]
      rfl
  rw [e] at h
  exact h
end
section
variable {P : Program} {n : Nat} {W : Wd} {σ : Blks} {l : Slots} {X : List Nat} {x y : Operand} {d : Option Nat} {ty t k e : TypeId} {pos : String} {aft : Array Edge} {g : Option (Nat × Bool)} {b s : Nat} {A C : Abs}
variable {α β : Type} [DecidableEq α] {K : α → Value} {V : β → Value} {Good : α → Prop} {m : List (α × β)} {a a' : α} {zv : Value}
theorem bk_ (kf : KeyFit P k K Good) (ht : P.underlying t = some (.map k e)) (hz : ∀ w, (zeroValue e).run P w = .ok zv w) (hx : look l x = some (mapV b)) (hb : It.pc (mapAtPc b K V Good m a' s) ∈ σ)
    (hy : look l y = some A) (hA : A.is (K a)) (ha : Good a) (hC : C.is (((aget m a).map V).getD zv)) : Val P n W σ l [] ⟨d, .lookup t x y false, ty, pos, aft, g⟩ C := fun ac w hs _ => by
  have h0 : MapAt w b K V Good m a' s := hs.mem.hold _ hb
  have h1 : MapOf w b K V Good m := by
    obtain ⟨es, clock, h1, h2, h3, h4, h5, h6, _⟩ := h0
    exact ⟨es, clock, h1, h2, h3, h4, h5, h6⟩
  have e1 := hs.plain hx
  have e2 := hA.1 _ _ _ (hs.eval hy)
  refine ⟨((aget m a).map V).getD zv, hC.2 _ _, fun w' hw' => ?_⟩
  simp only [execOp, e1, e2, Sem.run_bind, (h1.ext hw' (by simp)).look_run kf ht (hz w') ha false, Bool.false_eq_true, if_false, Result.andThen_ok, Sem.run_pure]
end
structure Sd where
  view : Int
  dig : List UInt8
  len : dig.length = 32
theorem Sd.same {p q : Sd} (h0 : p.view = q.view) (h2 : p.dig = q.dig) : p = q := by
  obtain ⟨a, c, _⟩ := p
  obtain ⟨d, f, _⟩ := q
  dsimp only at h0 h2
  subst h0 h2
  rfl
instance : DecidableEq Sd := fun p q => if h : p.view = q.view ∧ p.dig = q.dig then isTrue (Sd.same h.1 h.2) else isFalse fun e => h (by rw [e]; exact ⟨rfl, rfl⟩)
def sd0 : Sd := ⟨0, List.replicate 32 0, rfl⟩
def sdOk (v : Sd) : Prop := intOk v.view
def sdU (v : Sd) : List Value := .int .i64 v.view :: v.dig.map bc
def sdV (v : Sd) : Value := .agg (sdU v).toArray
def sdC (v : Sd) : List Abs := (sdU v).map .v
abbrev sdZ : List Abs := sdC sd0
theorem it_ (v : Sd) : (sdU v).length = 33 := by simp [sdU, v.len]
theorem aC_ (v : Sd) : (sdC v).length = 33 := by simp [sdC, it_]
theorem sd_ones (l : List Value) (h : ∀ u ∈ l, (Abs.v u).one = true) : ones (l.map .v) = true := bU_.2 fun a ha => by
  obtain ⟨u, hu, rfl⟩ := List.mem_map.1 ha
  exact h u hu
theorem dP_ (v : Sd) : ones (sdC v) = true := sd_ones _ fun u hu => by
  simp only [sdU, List.mem_cons, List.mem_map] at hu
  rcases hu with rfl | ⟨b, _, rfl⟩ <;> rfl
def sdL (v : Sd) : List Lit := .int .i64 v.view :: v.dig.map litB
theorem sd_lits {m : Nat} (v : Sd) (h : sdOk v) : Tryz.prog.keyLits (m + 3) 96 (sdU v) = some (sdL v) := by
  have h1 := int_wf h
  have c1 : Tryz.prog.cellsOf 96 = 33 := by kernel_rfl
  have c2 : Tryz.prog.cellsOf 40 = 32 := by kernel_rfl
  have c3 : Tryz.prog.cellsOf 2 = 1 := by kernel_rfl
  have h3 := eT_ (m := m) Tryz.underlying40 c2 v.dig v.len
  have h4 : ∀ x : Int, (Lit.int .i64 x).wf = true → Tryz.prog.keyLits (m + 2) 2 [.int .i64 x] = some [.int .i64 x] := fun x hx => by
    simp [Program.keyLits, Tryz.underlying2, hx]
  have hl : (v.dig.map bc).length = 32 := by simp [v.len]
  have h5 : (v.dig.map bc).take 32 = v.dig.map bc := List.take_of_length_le (by omega)
  unfold Program.keyLits sdU sdL
  rw [Tryz.underlying96]
  simp [c1, c2, c3, h4 _ h1, h3, h5, v.len]
theorem ir_ (v : Sd) : (sdV v).formed Tryz.prog 96 = true := by
  have c1 : Tryz.prog.cellsOf 96 = 33 := by kernel_rfl
  simp [Value.formed, sdV, Tryz.underlying96, c1, it_]
theorem sd_lit (v : Sd) (h : sdOk v) : ∃ l, keyOf Tryz.prog 96 (sdV v) = some l := by
  have hk : Tryz.prog.keyType 96 = true := by kernel_rfl
  have hd : ∃ k, Tryz.prog.types.size + 1 = k + 3 := ⟨_, (rfl : Tryz.prog.types.size + 1 = (Tryz.prog.types.size - 2) + 3)⟩
  obtain ⟨k, hd⟩ := hd
  have hl := sd_lits (m := k) v h
  unfold keyOf
  simp only [Tryz.underlying96, hk, ir_, Bool.and_self, if_true, hd]
  rw [show (sdV v).cells.toList = sdU v from rfl, hl]
  exact ⟨_, rfl⟩
theorem aP_ : KeyFit Tryz.prog 96 sdV sdOk where
  keyed := Maps.Keyed.of_law (deep_law_laid laid (m := 4) (by decide) (of_decide_eq_true (by kernel_rfl)) (by kernel_rfl) (by kernel_rfl))
  lit a h := sd_lit a h
  inj a b _ _ h := by
    unfold sdV at h
    injection h with h
    have h := congrArg Array.toList h
    simp only [sdU, List.cons.injEq, Value.int.injEq, true_and] at h
    refine Sd.same h.1 (fn_ ?_)
    have e : ∀ l : List UInt8, l.map litB = (l.map bc).map fun v => match v with | .int q n => Lit.int q n | _ => litB 0 := fun l => by
      rw [List.map_map]
      exact List.map_congr_left fun x _ => rfl
    rw [e, e, h.2]
def factsPc (l : List (Value × Abs)) : Pc where
  ids := []
  p := fun K w => ∀ x ∈ l, rep K w x.2 x.1
  carry := fun _ _ _ _ hc _ h x hx => bb_ hc _ _ (h x hx)
  lt := fun _ _ _ k hk => by cases hk
abbrev facts (l : List (Value × Abs)) : It := .pc (factsPc l)
section
variable {P : Program} {n : Nat} {W : Wd} {σ τ : Blks} {l : Slots} {X : List Nat} {ops : Array Oper} {rest : List Oper} {Q : Exit → Act → World → Prop} {ix : Plan} {L L' : List (Value × Abs)} {t : Nat} {A : Abs} {u : Value}
theorem fact_rep {w0 w : World} {F G : List Nat} (h : Mem w0 F G σ w) (hf : It.pc (factsPc L) ∈ σ ∨ It.rdpc (factsPc L) ∈ σ) (hm : (u, A) ∈ L) : rep (mids σ ++ G) w A u := by
  rcases hf with hf | hf
  · exact (h.hold _ hf : ∀ x ∈ L, rep (mids σ ++ G) w x.2 x.1) (u, A) hm
  · exact (h.hold _ hf : ∀ x ∈ L, rep (mids σ ++ G) w x.2 x.1) (u, A) hm
theorem SL.fact (hs : slot l t = some (.v u)) (hf : It.pc (factsPc L) ∈ σ ∨ It.rdpc (factsPc L) ∈ σ) (hm : (u, A) ∈ L) (k : SL P ops rest (St n W σ ((t, A) :: l)) Q) : SL P ops rest (St n W σ l) Q := fun a w h =>
  k a w (h.cast hs fun x hx => by rw [show x = u from hx]; exact fact_rep h.mem hf hm)
end
/-! ### Maps whose values are trees: the map's own values, and what they are -/
section
variable {α β : Type} [DecidableEq α] {tm tm' : List (α × (Value × β))} {a c : α} {u : Value} {x : β}
def rawM (tm : List (α × (Value × β))) : List (α × Value) := tm.map fun e => (e.1, e.2.1)
def facM (enc : β → Abs) (tm : List (α × (Value × β))) : List (Value × Abs) := tm.map fun e => (e.2.1, enc e.2.2)
theorem dS_ : ∀ (tm : List (α × (Value × β))), aget (rawM tm) a = (aget tm a).map (·.1)
  | [] => rfl
  | e :: tm => by
    have h := dS_ tm
    unfold rawM aget at h ⊢
    rw [List.map_cons, List.find?_cons, List.find?_cons]
    by_cases he : e.1 = a
    · simp [he]
    · simpa [he] using h
omit [DecidableEq α] in
theorem iC_ (tm : List (α × (Value × β))) : (rawM tm).map (·.1) = tm.map (·.1) := by
  unfold rawM
  rw [List.map_map]
  rfl
theorem rawM_put (tm : List (α × (Value × β))) (a : α) (u : Value) (x : β) : rawM (aput tm a (u, x)) = aput (rawM tm) a u := by
  have hg := dS_ tm (a := a)
  unfold aput
  rw [hg, Option.isSome_map]
  split
  · unfold rawM
    rw [List.map_map, List.map_map]
    refine List.map_congr_left fun e _ => ?_
    show ((if e.1 = a then (a, (u, x)) else e).1, (if e.1 = a then (a, (u, x)) else e).2.1) = if e.1 = a then (a, u) else (e.1, e.2.1)
    split <;> rfl
  · unfold rawM
    rw [List.map_append]
    rfl
theorem facM_put {enc : β → Abs} (tm : List (α × (Value × β))) (a : α) (u : Value) (x : β) : ∀ y ∈ facM enc (aput tm a (u, x)), y ∈ (u, enc x) :: facM enc tm := by
  intro y hy
  obtain ⟨e, he, rfl⟩ := List.mem_map.1 hy
  unfold aput at he
  split at he
  · obtain ⟨d, hd, rfl⟩ := List.mem_map.1 he
    split
    · exact List.mem_cons_self
    · exact List.mem_cons_of_mem _ (List.mem_map.2 ⟨d, hd, rfl⟩)
  · rcases List.mem_append.1 he with he | he
    · exact List.mem_cons_of_mem _ (List.mem_map.2 ⟨e, he, rfl⟩)
    · rw [List.mem_singleton.1 he]; exact List.mem_cons_self
theorem g1_ {γ : Type} : ∀ {m : List (α × γ)} {v : γ}, aget m a = some v → (a, v) ∈ m
  | [], v, h => by simp [aget] at h
  | e :: m, v, h => by
    unfold aget at h
    rw [List.find?_cons] at h
    by_cases he : e.1 = a
    · simp [he] at h
      obtain ⟨e1, e2⟩ := e
      dsimp only at h he
      subst h he
      exact List.mem_cons_self
    · simp only [he, decide_false] at h
      exact List.mem_cons_of_mem _ (g1_ (by unfold aget; exact h))
end
section
variable {σ σ1 : Blks} {ι : Type} {τ' : ι → Blks} {K : Blks → ι → Prop}
theorem cb_ (φ : Blks) (hσ : σ.Perm (σ1 ++ φ)) (hr : ∀ x ∈ σ1, x.rids = []) (hk : ∀ z, ∃ ν : Blks, ν.Perm (τ' z ++ φ) ∧ K ν z) : After σ σ1 τ' K :=
  ⟨φ, ⟨by rw [← Q_]; exact da_ hσ.symm, fun x hx => .inl ⟨hσ.mem_iff.2 (List.mem_append_left _ hx), hr x hx⟩, fun x hx => hσ.mem_iff.2 (List.mem_append_right _ hx)⟩, hk⟩
end
def dKey (l : List UInt8) : ByteArray := ⟨((102 : UInt8) :: l).toArray⟩
theorem gP_ {l : List UInt8} (h : l.length ≤ 1000000) : sOk (dKey l) := by
  unfold sOk dKey maxLen
  simp [ByteArray.size]
  omega
theorem dKey_inj {l m : List UInt8} (h : dKey l = dKey m) : l = m := by
  unfold dKey at h
  injection h with h
  have h2 := congrArg Array.toList h
  simpa using h2
section
variable {q bd bt : Nat} {D : List (ByteArray × Nat)} {l : List UInt8} {c : Chg}
set_option maxHeartbeats 1000000 in
theorem f7_ (hl : l.length ≤ 1000000) (hn : Num1 D) (hT : D.length < 1000000) : Spec Tryz.prog 40 [ptr q, int 102, byt l] [.blk q 86 [mapV bd, mapV bt], .pc (mapPc bd Value.string cntV sOk D)] (fun _ : Unit => [.blk q 86 [mapV bd, mapV bt], .pc (mapPc bd Value.string cntV sOk (pm D (dKey l)))]) (fun _ => .agg (digA (numB 102 (pl D (dKey l))))) := by
 have hp := hn.pl_le (dKey l)
 refine K_ Tryz.func40 rfl Tryz.ntmps40 rfl fun G w =>d_<|a_<|eb_ (H_ tabOk rfl) rfl rfl fun b6=>?_
 refine g_<|c_<|d_<|a_<|q_ 1 rfl<|b_ (y_ (C := .v (.int .u8 (102 : Nat))) (aV_ rfl Tryz.underlying5 (by kernel_rfl)) rfl) rfl rfl ?_
 refine eb_ (dK_ tabOk Tryz.underlying27 rfl rfl rfl rfl rfl rfl rfl) rfl rfl fun r10=>?_
 refine q_ 1 rfl<|eb_ (bh_ (zs := ((102 : UInt8) :: l).map fun b => [Abs.v (bc b)]) tabOk [] rfl Tryz.underlying27 rfl rfl rfl rfl rfl rfl (bs_ones _) (by unfold maxLen; simp only [List.length_map, List.length_cons, List.length_nil]; omega) (by rw [show Tryz.prog.bytesOf 5 = 1 by kernel_rfl]; simp only [List.length_map, List.length_cons, List.length_nil]; omega)) rfl rfl fun r12=>?_
 refine gp_ [] (t := 12) rfl rfl<|b_ (y_ (C := .v (.string (dKey l))) (dg_ rfl) rfl) rfl rfl<|q_ 1 rfl<|g_<|c_<|g8_ (ι := Unit) (fun z => [.blk b6 40 (zabs (List.replicate 32 (.int .u8 0))), .blk q 86 [mapV bd, mapV bt], .pc (mapPc bd Value.string cntV sOk (pm D (dKey l)))]) (fun z => [(0, ptr q), (1, int 102), (6, ptr b6), (7, .v (.string (dKey l)))]) (fun z => True) ?_ ?_
 ·skip
  refine d_<|a_<|q_ 3 rfl<|b_ (j_ tabOk rfl rfl l1_ List.not_mem_nil rfl) rfl rfl<|q_ 1 rfl<|b_ (aG_ (a := (dKey l)) (zv := cntV 0) (C := int ((cget D (dKey l) : Nat) : Int)) s_fit Tryz.underlying84 f6_ rfl l2_ List.not_mem_nil rfl is_v (gP_ hl) (cg_is _ _)) rfl rfl<|q_ 1 rfl<|g_<|c_<|o_ rfl ?_ ?_
  rotate_left
  ·intro hc20
   have hz0 : ¬ aget D (dKey l) = none := fun h => hc20 (by have := (hn.zero _).2 h; omega)
   refine s_<|cj_ (()) (trivial) (by exact ⟨rfl, rfl, rfl, rfl, trivial⟩) (by rw [iF_ hz0]; exact List.Sublist.refl _)
  intro hc20
  have hz0 : aget D (dKey l) = none := (hn.zero _).1 (by omega)
  refine aZ_ [] (.q 0 (.q 1 (.q 2 (.q 3 (.q 4 (.q 5 (.q 6 (.q 7 (.q 8 (.q 9 (.q 10 .nil))))))))))) (by kernel_rfl) (by kernel_rfl) ?_
  refine qs_ 3 rfl<|l_ rfl (j_ tabOk rfl rfl l1_ List.not_mem_nil rfl) (by simp) rfl rfl ?_
  refine qs_ 4 rfl<|l_ rfl (j_ tabOk rfl rfl l1_ List.not_mem_nil rfl) (by simp) rfl rfl ?_
  refine af_ (by (simp [mids, It.mids, ownPc, mapPc]; done)) fun hx9 => ?_
  refine l_ rfl (ib_ Tryz.underlying84 rfl l2_ List.not_mem_nil) hx9 rfl rfl<|l_ rfl (y_ (C := int ((D.length + 1 : Nat) : Int)) (v_ rfl rfl (by simp only [InR, lo, hi]; omega)) rfl) hx9 rfl rfl ?_
  refine I_<|bg_ rfl (by_ (a := (dKey l)) (v := D.length + 1) (m' := pm D (dKey l)) s_fit Tryz.underlying84 rfl u2_ rfl is_v (gP_ hl) rfl is_v (iG_ hz0).symm) rfl rfl ?_
  rintro _ _ ⟨rfl, rfl⟩
  refine cj_ (()) (trivial) (by exact ⟨rfl, rfl, rfl, rfl, trivial⟩) sr_
 intro z hz
 refine d_<|a_<|q_ 1 rfl<|b_ (y_ (C := .v (.int .u8 (102 : Nat))) (aV_ rfl Tryz.underlying5 (by kernel_rfl)) rfl) rfl rfl ?_
 refine q_ 3 rfl<|b_ (j_ tabOk rfl rfl l1_ List.not_mem_nil rfl) rfl rfl<|q_ 1 rfl<|b_ (aG_ (a := (dKey l)) (zv := cntV 0) (C := int ((pl D (dKey l) : Nat) : Int)) s_fit Tryz.underlying84 f6_ rfl l2_ List.not_mem_nil rfl is_v (gP_ hl) (by rw [← cget_pm]; exact cg_is _ _)) rfl rfl ?_
 refine t_ (inum_s (f := 102) (n := pl D (dKey l)) (by omega) (by omega)) Casts.refl (by kernel_rfl) rfl rfl rfl ?_
 refine ap_<|fun _=>e_ (D_ (L' := digA (numB 102 (pl D (dKey l)))) tabOk rfl rfl rfl u0_ (by simp only [cellsA, digA, List.length_map]; rw [aI_]) (Nat.le_of_ble_eq_true rfl) (dZ_ _) (by exact N_ (by simp only [cellsA, digA, List.length_map]; rw [aI_]; rfl))) rfl rfl ?_
 refine g_<|c_<|n_<|f_ (rs := [.cell 6 40]) rfl (RV.cell rfl (RV.cellA tabOk rfl rfl l0_ (by simp only [digA, List.length_map]; rw [aI_])) RV.nil) (()) (sk_ sr_) ?_
 exact rfl
theorem dn_ (hf : c.Few) (hl : c.bytes.length ≤ 1000000) (hn : Num1 D) (hT : D.length < 1000000) : Spec Tryz.prog 11 [ptr q, .agg c.abs] [.blk q 86 [mapV bd, mapV bt], .pc (mapPc bd Value.string cntV sOk D)] (fun _ : Unit => [.blk q 86 [mapV bd, mapV bt], .pc (mapPc bd Value.string cntV sOk (pm D (dKey c.bytes)))]) (fun _ => .agg (digA (numB 102 (pl D (dKey c.bytes))))) := by
 refine K_ Tryz.func11 rfl Tryz.ntmps11 rfl fun G w =>d_<|a_<|eb_ (O_ (cs := c.abs) rfl) rfl rfl fun b3=>?_
 refine eb_ (H_ tabOk rfl) rfl rfl fun b4=>?_
 refine g_<|c_<|d_<|a_<|q_ 1 rfl<|b_ (x_ tabOk rfl rfl rfl l1_ List.not_mem_nil rfl) rfl rfl<|t_ (rbytes_s (c := c) hf) Casts.refl (by kernel_rfl) rfl rfl rfl ?_
 refine ap_<|fun _=>t_ (f7_ (q := q) (bd := bd) (bt := bt) (D := D) (l := c.bytes) hl hn hT) Casts.refl (by kernel_rfl) rfl rfl rfl ?_
 refine bc_ [_, _] (β := []) rfl (by intro x hx; simp only [List.mem_cons, List.not_mem_nil, or_false] at hx; rcases hx with rfl | rfl <;> rfl) ?_
 intro _
 refine e_ (D_ (L' := digA (numB 102 (pl D (dKey c.bytes)))) tabOk rfl rfl rfl u0_ (by simp only [cellsA, digA, List.length_map]; rw [aI_]) (Nat.le_of_ble_eq_true rfl) (dZ_ _) (by exact N_ (by simp only [cellsA, digA, List.length_map]; rw [aI_]; rfl))) rfl rfl ?_
 refine g_<|c_<|n_<|f_ (rs := [.cell 4 40]) rfl (RV.cell rfl (RV.cellA tabOk rfl rfl l0_ (by simp only [digA, List.length_map]; rw [aI_])) RV.nil) (()) (sk_ (sk_ sr_)) ?_
 exact rfl
end
end Go.Proofs.YtggajaigfkekhaaGreat.A
namespace Go.Proofs.YtggajaigfkekhaaGreat.A
open Go.RowKit Go.Maps Go.Sort Go.Shelf
def sdE (x : Sd) : Abs := .agg (sdC x)
theorem a6_ (x : Sd) : (sdE x).is (sdV x) := hs_ (us := sdU x)
abbrev sdA (o : Option Sd) : Abs := (o.map sdE).getD (.agg sdZ)
theorem gw_ : ∀ w, (zeroValue 96).run Tryz.prog w = .ok (sdV sd0) w := fun w => by
  kernel_rfl
theorem sdA_is (o : Option Sd) : (sdA o).is ((o.map sdV).getD (sdV sd0)) := getD_is a6_ (hs_ (us := sdU sd0)) o
section
variable {t bv bn : Nat} {m : List (Int × Sd)} {c : List (Sd × Nat)} {k : Sd} {who at_ : Int}
theorem sd_new_s  : Spec Tryz.prog 33 [] [] (fun z : Nat × Nat × Nat => [.blk z.1 128 [mapV z.2.1, mapV z.2.2], .pc (mapPc z.2.1 intK sdV intOk []), .pc (mapPc z.2.2 sdV cntV sdOk [])]) (fun z => ptr z.1) := by
 refine K_ Tryz.func33 rfl Tryz.ntmps33 rfl fun G w =>d_<|a_<|q_ 1 rfl<|g_<|c_<|d_<|a_<|eb_ (bS_ intK sdV intOk (fun ac w => by simp [execOp, Instr.makeMap, newObj, Sem.run, Sem.run_bind, Result.andThen])) rfl rfl fun m1=>?_
 refine eb_ (bS_ sdV cntV sdOk (fun ac w => by simp [execOp, Instr.makeMap, newObj, Sem.run, Sem.run_bind, Result.andThen])) rfl rfl fun m2=>?_
 refine b_ (L_ tabOk rfl rfl rfl rfl) rfl rfl<|eb_ (O_ rfl) rfl rfl fun b4=>?_
 exact q_ 1 rfl<|g_<|c_<|n_<|g7_ (List.Perm.cons _ (List.Perm.swap _ _ _))<|f_ (rs := [.tmp 0]) rfl (RV.tmp rfl RV.nil) (b4, m1, m2) sr_<|rfl
end
section
variable {t bv bn : Nat} {m : List (Int × Sd)} {c : List (Sd × Nat)} {k v : Sd} {who at_ : Int}
set_option maxHeartbeats 2000000 in
theorem fQ_ (hw : intOk who) (hti : TInv m c) (hl : m.length ≤ 1000)  (hk : sdOk k) (hok : ∀ w v, aget m w = some v → sdOk v) (hv : aget m who = none) : Spec Tryz.prog 43 [ptr t, int who, sdE k] [.blk t 128 [mapV bv, mapV bn], .pc (mapPc bv intK sdV intOk m), .pc (mapPc bn sdV cntV sdOk c)] (fun _ : Unit => [.blk t 128 [mapV bv, mapV bn], .pc (mapPc bv intK sdV intOk (aput m who k)), .pc (mapPc bn sdV cntV sdOk (chgC m c who k))]) (fun _ => .tup []) := by
 refine K_ Tryz.func43 rfl Tryz.ntmps43 rfl fun G w =>d_<|a_<|eb_ (O_ (cs := sdC k) rfl) rfl rfl fun b5=>?_
 refine g_<|c_<|d_<|d_<|a_<|q_ 1 rfl<|b_ (bq_ rfl rfl (by kernel_rfl)) rfl rfl ?_
 refine g_<|c_<|Z_ rfl<|s_<|c_<|d_<|d_<|a_<|q_ 3 rfl<|b_ (j_ tabOk rfl rfl l1_ List.not_mem_nil rfl) rfl rfl<|q_ 1 rfl<|b_ (y_ (C := .tup [.agg sdZ, boo false]) (cw_ (a := who) (zv := (sdV sd0)) (C := sdA (aget m who)) (a4_ Tryz.underlying3) Tryz.underlying125 gw_ rfl l2_ List.not_mem_nil rfl is_v hw (sdA_is _)) (by rw [hv]; rfl)) rfl rfl ?_
 refine q_ 3 rfl<|eb_ (H_ tabOk rfl) rfl rfl fun b6=>?_
 refine e_ (D_ (L' := sdZ) tabOk rfl rfl rfl u0_ (by exact rfl) (Nat.le_of_ble_eq_true rfl) (by exact rfl) (N_ (by exact rfl))) rfl rfl ?_
 refine q_ 1 rfl<|g_<|c_<|d_<|a_<|q_ 1 rfl<|g_<|c_<|Z_ rfl<|s_<|c_<|d_<|aZ_ [] (.q 0 (.q 1 (.q 2 (.q 3 (.q 4 (.q 5 .nil)))))) (by kernel_rfl) (by kernel_rfl) ?_
 refine qs_ 3 rfl<|af_ (by (simp [mids, It.mids, ownPc, mapPc]; done)) fun hx9 => ?_
 refine l_ rfl (j_ tabOk rfl rfl l2_ List.not_mem_nil rfl) hx9 rfl rfl<|qs_ 1 rfl<|l_ rfl (x_ tabOk rfl rfl rfl l1_ List.not_mem_nil (aC_ _)) hx9 rfl rfl<|I_<|bg_ rfl (by_ (a := who) (v := k) (m' := aput m who k) (a4_ Tryz.underlying3) Tryz.underlying125 rfl u3_ rfl is_v hw rfl (a6_ _) rfl) rfl rfl ?_
 rintro _ _ ⟨rfl, rfl⟩
 refine c_<|aT_ (p := t ∉ [bn] ∧ b5 ∉ [bn]) (fun _ _ h => by
   have h1 := h.mem.nodup
   simp [mids, It.mids, mapPc, ownPc] at h1 ⊢
   grind) fun hX => ?_
 refine U_ [bn] (.q 0 (.q 1 (.q 2 (.q 3 (.q 4 (.two 5 7 (.q 6 (.e 7 (.q 8 (.e 9 .nil)))) (.q 8 (.e 5 (.q 6 (.e 9 .nil)))))))))) (by kernel_rfl) (by kernel_rfl) ?_
 refine af_ (by (simp [mids, It.mids, ownPc, mapPc]; done)) fun hx9 => ?_
 refine qx_ 3 hx9 rfl<|l_ rfl (j_ tabOk rfl rfl l2_ (by exact hX.1) rfl) hx9 rfl rfl ?_
 refine l_ rfl (x_ tabOk rfl rfl rfl l1_ (by exact hX.2) (aC_ _)) hx9 rfl rfl ?_
 refine co_ ?_ ?_
 ·skip
  (refine bI_ rfl (aG_ (a := k) (zv := cntV 0) (C := int ((cget c k : Nat) : Int)) aP_ Tryz.underlying126 aj_ rfl ?_ List.not_mem_nil rfl (a6_ _) hk (aK_ _ _)) rfl rfl ?_; focus (apply Or.inl; (repeat first|assumption|exact m0_|apply m1_); done))
  refine l_ rfl (y_ (C := int ((cget c k + 1 : Nat) : Int)) (v_ rfl rfl (by have := hti.dec_le (aget m who) k; rw [hv] at this; have e : cget c k ≤ m.length := this; simp only [InR, lo, hi]; omega)) (congrArg int (by omega))) hx9 rfl rfl ?_
  refine exb_ rfl (ay_ (a := k) (zv := 0) (V := cntV) (C := int ((cget c k : Nat) : Int)) aP_ Tryz.underlying126 aj_ rfl (fun s => u4_) rfl (a6_ _) hk (aK_ _ _)) (by simp) rfl rfl fun s54=>?_
  refine af_ (by (intro k hk; simp [mids, It.mids, ownPc, mapPc, mapAtPc] at hk ⊢; grind)) fun hx9 => ?_
  refine qx_ 1 hx9 rfl<|ex_ rfl (ag_ (v := cget c k + 1) (m' := aput c k (cget c k + 1)) rfl u4_ rfl rfl is_v (a0_ _ _ _ _)) (by simp) rfl rfl ?_
  refine I_<|b4_ (rs := []) rfl RV.nil (()) (by rw [hB_ hv]; repeat (first | exact List.nil_sublist _ | exact List.Sublist.refl _ | apply List.Sublist.cons_cons | apply List.Sublist.cons)) (by simp [It.rids]) ?_
  exact rfl
 skip
 refine exb_ rfl (ay_ (a := k) (zv := 0) (V := cntV) (C := int ((cget c k : Nat) : Int)) aP_ Tryz.underlying126 aj_ rfl (fun s => u4_) rfl (a6_ _) hk (aK_ _ _)) (by simp) rfl rfl fun s54=>?_
 refine af_ (by (intro k hk; simp [mids, It.mids, ownPc, mapPc, mapAtPc] at hk ⊢; grind)) fun hx9 => ?_
 refine qx_ 1 hx9 rfl ?_
 (refine bI_ rfl (bk_ (a := k) (a' := k) (s := s54) (zv := cntV 0) (C := int ((cget c k : Nat) : Int)) aP_ Tryz.underlying126 aj_ rfl ?_ rfl (a6_ _) hk (bv_ _ _)) rfl rfl ?_; focus ((repeat first|assumption|exact m0_|apply m1_); done))
 refine l_ rfl (y_ (C := int ((cget c k + 1 : Nat) : Int)) (v_ rfl rfl (by have := hti.dec_le (aget m who) k; rw [hv] at this; have e : cget c k ≤ m.length := this; simp only [InR, lo, hi]; omega)) (congrArg int (by omega))) hx9 rfl rfl ?_
 refine ex_ rfl (ag_ (v := cget c k + 1) (m' := aput c k (cget c k + 1)) rfl u4_ rfl rfl is_v (a0_ _ _ _ _)) (by simp) rfl rfl ?_
 refine I_<|b4_ (rs := []) rfl RV.nil (()) (by rw [hB_ hv]; repeat (first | exact List.nil_sublist _ | exact List.Sublist.refl _ | apply List.Sublist.cons_cons | apply List.Sublist.cons)) (by simp [It.rids]) ?_
 exact rfl
set_option maxHeartbeats 4000000 in
theorem fP_ (hw : intOk who) (hti : TInv m c) (hl : m.length ≤ 1000)  (hk : sdOk k) (hok : ∀ w v, aget m w = some v → sdOk v) (hv : aget m who = some v) : Spec Tryz.prog 43 [ptr t, int who, sdE k] [.blk t 128 [mapV bv, mapV bn], .pc (mapPc bv intK sdV intOk m), .pc (mapPc bn sdV cntV sdOk c)] (fun _ : Unit => [.blk t 128 [mapV bv, mapV bn], .pc (mapPc bv intK sdV intOk (aput m who k)), .pc (mapPc bn sdV cntV sdOk (chgC m c who k))]) (fun _ => .tup []) := by
 refine K_ Tryz.func43 rfl Tryz.ntmps43 rfl fun G w =>d_<|a_<|eb_ (O_ (cs := sdC k) rfl) rfl rfl fun b5=>?_
 refine g_<|c_<|d_<|d_<|a_<|q_ 1 rfl<|b_ (bq_ rfl rfl (by kernel_rfl)) rfl rfl ?_
 refine g_<|c_<|Z_ rfl<|s_<|c_<|d_<|d_<|a_<|q_ 3 rfl<|b_ (j_ tabOk rfl rfl l1_ List.not_mem_nil rfl) rfl rfl<|q_ 1 rfl<|b_ (y_ (C := .tup [.agg (sdC v), boo true]) (cw_ (a := who) (zv := (sdV sd0)) (C := sdA (aget m who)) (a4_ Tryz.underlying3) Tryz.underlying125 gw_ rfl l2_ List.not_mem_nil rfl is_v hw (sdA_is _)) (by rw [hv]; rfl)) rfl rfl ?_
 refine q_ 3 rfl<|eb_ (H_ tabOk rfl) rfl rfl fun b6=>?_
 refine e_ (D_ (L' := (sdC v)) tabOk rfl rfl rfl u0_ (by exact (aC_ _)) (Nat.le_of_ble_eq_true rfl) (by exact (dP_ _)) (N_ (by exact (aC_ _)))) rfl rfl ?_
 refine q_ 1 rfl<|g_<|c_<|d_<|a_<|q_ 1 rfl<|g_<|c_<|M_ rfl<|d_<|aT_ (p := t ∉ [bn] ∧ b6 ∉ [bn]) (fun _ _ h => by
   have h1 := h.mem.nodup
   simp [mids, It.mids, mapPc, ownPc] at h1 ⊢
   grind) fun hX => ?_
 refine U_ [bn] (.q 0 (.q 1 (.q 2 (.q 3 (.q 4 (.two 5 7 (.q 6 (.e 7 (.q 8 (.e 9 .nil)))) (.q 8 (.e 5 (.q 6 (.e 9 .nil)))))))))) (by kernel_rfl) (by kernel_rfl) ?_
 refine af_ (by (simp [mids, It.mids, ownPc, mapPc]; done)) fun hx9 => ?_
 refine qx_ 3 hx9 rfl<|l_ rfl (j_ tabOk rfl rfl l2_ (by exact hX.1) rfl) hx9 rfl rfl ?_
 refine l_ rfl (x_ tabOk rfl rfl rfl l0_ (by exact hX.2) (aC_ _)) hx9 rfl rfl ?_
 refine co_ ?_ ?_
 ·skip
  (refine bI_ rfl (aG_ (a := v) (zv := cntV 0) (C := int ((cget c v : Nat) : Int)) aP_ Tryz.underlying126 aj_ rfl ?_ List.not_mem_nil rfl (a6_ _) (hok _ _ hv) (aK_ _ _)) rfl rfl ?_; focus (apply Or.inl; (repeat first|assumption|exact m0_|apply m1_); done))
  refine l_ rfl (y_ (C := int ((cget c v - 1 : Nat) : Int)) (be_ rfl rfl (by have := hti.le v; simp only [InR, lo, hi]; omega)) (congrArg int (by have := hti.pos hv; omega))) hx9 rfl rfl ?_
  refine exb_ rfl (ay_ (a := v) (zv := 0) (V := cntV) (C := int ((cget c v : Nat) : Int)) aP_ Tryz.underlying126 aj_ rfl (fun s => u4_) rfl (a6_ _) (hok _ _ hv) (aK_ _ _)) (by simp) rfl rfl fun s27=>?_
  refine af_ (by (intro k hk; simp [mids, It.mids, ownPc, mapPc, mapAtPc] at hk ⊢; grind)) fun hx9 => ?_
  refine qx_ 1 hx9 rfl<|ex_ rfl (ag_ (v := cget c v - 1) (m' := aput c v (cget c v - 1)) rfl u4_ rfl rfl is_v (a0_ _ _ _ _)) (by simp) rfl rfl ?_
  refine I_<|c_<|d_<|U_ [] (.q 0 (.q 1 (.q 2 (.q 3 (.q 4 (.q 5 (.q 6 .nil))))))) (by kernel_rfl) (by kernel_rfl) ?_
  refine qs_ 3 rfl<|l_ rfl (j_ tabOk rfl rfl l2_ List.not_mem_nil rfl) (by simp) rfl rfl ?_
  refine af_ (by (simp [mids, It.mids, ownPc, mapPc]; done)) fun hx9 => ?_
  refine l_ rfl (x_ tabOk rfl rfl rfl l0_ List.not_mem_nil (aC_ _)) hx9 rfl rfl<|l_ rfl (aG_ (a := v) (zv := cntV 0) (C := int ((cget (aput c v (cget c v - 1)) v : Nat) : Int)) aP_ Tryz.underlying126 aj_ rfl l4_ List.not_mem_nil rfl (a6_ _) (hok _ _ hv) (aK_ _ _)) hx9 rfl rfl<|qs_ 1 rfl<|I_<|c_<|o_ rfl ?_ ?_
  rotate_left
  ·intro hc35
   rw [show (aput c v (cget c v - 1)) = (decO c (some v)) from (hz_ (by omega)).symm]
   refine s_<|c_<|d_<|aZ_ [] (.q 0 (.q 1 (.q 2 (.q 3 (.q 4 (.q 5 .nil)))))) (by kernel_rfl) (by kernel_rfl) ?_
   refine qs_ 3 rfl<|af_ (by (simp [mids, It.mids, ownPc, mapPc]; done)) fun hx9 => ?_
   refine l_ rfl (j_ tabOk rfl rfl l2_ List.not_mem_nil rfl) hx9 rfl rfl<|qs_ 1 rfl<|l_ rfl (x_ tabOk rfl rfl rfl l1_ List.not_mem_nil (aC_ _)) hx9 rfl rfl<|I_<|bg_ rfl (by_ (a := who) (v := k) (m' := aput m who k) (a4_ Tryz.underlying3) Tryz.underlying125 rfl u3_ rfl is_v hw rfl (a6_ _) rfl) rfl rfl ?_
   rintro _ _ ⟨rfl, rfl⟩
   refine c_<|aT_ (p := t ∉ [bn] ∧ b5 ∉ [bn]) (fun _ _ h => by
     have h1 := h.mem.nodup
     simp [mids, It.mids, mapPc, ownPc] at h1 ⊢
     grind) fun hX => ?_
   refine U_ [bn] (.q 0 (.q 1 (.q 2 (.q 3 (.q 4 (.two 5 7 (.q 6 (.e 7 (.q 8 (.e 9 .nil)))) (.q 8 (.e 5 (.q 6 (.e 9 .nil)))))))))) (by kernel_rfl) (by kernel_rfl) ?_
   refine af_ (by (simp [mids, It.mids, ownPc, mapPc]; done)) fun hx9 => ?_
   refine qx_ 3 hx9 rfl<|l_ rfl (j_ tabOk rfl rfl l2_ (by exact hX.1) rfl) hx9 rfl rfl ?_
   refine l_ rfl (x_ tabOk rfl rfl rfl l1_ (by exact hX.2) (aC_ _)) hx9 rfl rfl ?_
   refine co_ ?_ ?_
   ·skip
    (refine bI_ rfl (aG_ (a := k) (zv := cntV 0) (C := int ((cget (decO c (some v)) k : Nat) : Int)) aP_ Tryz.underlying126 aj_ rfl ?_ List.not_mem_nil rfl (a6_ _) hk (aK_ _ _)) rfl rfl ?_; focus (apply Or.inl; (repeat first|assumption|exact m0_|apply m1_); done))
    refine l_ rfl (y_ (C := int ((cget (decO c (some v)) k + 1 : Nat) : Int)) (v_ rfl rfl (by have := hti.dec_le (aget m who) k; rw [hv] at this; have e : cget (decO c (some v)) k ≤ m.length := this; simp only [InR, lo, hi]; omega)) (congrArg int (by omega))) hx9 rfl rfl ?_
    refine exb_ rfl (ay_ (a := k) (zv := 0) (V := cntV) (C := int ((cget (decO c (some v)) k : Nat) : Int)) aP_ Tryz.underlying126 aj_ rfl (fun s => u4_) rfl (a6_ _) hk (aK_ _ _)) (by simp) rfl rfl fun s54=>?_
    refine af_ (by (intro k hk; simp [mids, It.mids, ownPc, mapPc, mapAtPc] at hk ⊢; grind)) fun hx9 => ?_
    refine qx_ 1 hx9 rfl<|ex_ rfl (ag_ (v := cget (decO c (some v)) k + 1) (m' := aput (decO c (some v)) k (cget (decO c (some v)) k + 1)) rfl u4_ rfl rfl is_v (a0_ _ _ _ _)) (by simp) rfl rfl ?_
    refine I_<|b4_ (rs := []) rfl RV.nil (()) (by rw [bX_ hv]; repeat (first | exact List.nil_sublist _ | exact List.Sublist.refl _ | apply List.Sublist.cons_cons | apply List.Sublist.cons)) (by simp [It.rids]) ?_
    exact rfl
   skip
   refine exb_ rfl (ay_ (a := k) (zv := 0) (V := cntV) (C := int ((cget (decO c (some v)) k : Nat) : Int)) aP_ Tryz.underlying126 aj_ rfl (fun s => u4_) rfl (a6_ _) hk (aK_ _ _)) (by simp) rfl rfl fun s54=>?_
   refine af_ (by (intro k hk; simp [mids, It.mids, ownPc, mapPc, mapAtPc] at hk ⊢; grind)) fun hx9 => ?_
   refine qx_ 1 hx9 rfl ?_
   (refine bI_ rfl (bk_ (a := k) (a' := k) (s := s54) (zv := cntV 0) (C := int ((cget (decO c (some v)) k : Nat) : Int)) aP_ Tryz.underlying126 aj_ rfl ?_ rfl (a6_ _) hk (bv_ _ _)) rfl rfl ?_; focus ((repeat first|assumption|exact m0_|apply m1_); done))
   refine l_ rfl (y_ (C := int ((cget (decO c (some v)) k + 1 : Nat) : Int)) (v_ rfl rfl (by have := hti.dec_le (aget m who) k; rw [hv] at this; have e : cget (decO c (some v)) k ≤ m.length := this; simp only [InR, lo, hi]; omega)) (congrArg int (by omega))) hx9 rfl rfl ?_
   refine ex_ rfl (ag_ (v := cget (decO c (some v)) k + 1) (m' := aput (decO c (some v)) k (cget (decO c (some v)) k + 1)) rfl u4_ rfl rfl is_v (a0_ _ _ _ _)) (by simp) rfl rfl ?_
   refine I_<|b4_ (rs := []) rfl RV.nil (()) (by rw [bX_ hv]; repeat (first | exact List.nil_sublist _ | exact List.Sublist.refl _ | apply List.Sublist.cons_cons | apply List.Sublist.cons)) (by simp [It.rids]) ?_
   exact rfl
  intro hc35
  refine aZ_ [] (.q 0 (.q 1 (.q 2 (.q 3 (.q 4 .nil))))) (by kernel_rfl) (by kernel_rfl) ?_
  refine qs_ 3 rfl<|l_ rfl (j_ tabOk rfl rfl l2_ List.not_mem_nil rfl) (by simp) rfl rfl ?_
  refine af_ (by (simp [mids, It.mids, ownPc, mapPc]; done)) fun hx9 => ?_
  refine l_ rfl (x_ tabOk rfl rfl rfl l0_ List.not_mem_nil (aC_ _)) hx9 rfl rfl<|I_<|bg_ rfl (e6_ (a := v) (m' := (decO c (some v))) aP_ Tryz.underlying126 rfl u4_ rfl (a6_ _) (hok _ _ hv) (i7_ (by omega))) rfl rfl ?_
  rintro _ _ ⟨rfl, rfl⟩
  refine c_<|d_<|aZ_ [] (.q 0 (.q 1 (.q 2 (.q 3 (.q 4 (.q 5 .nil)))))) (by kernel_rfl) (by kernel_rfl) ?_
  refine qs_ 3 rfl<|af_ (by (simp [mids, It.mids, ownPc, mapPc]; done)) fun hx9 => ?_
  refine l_ rfl (j_ tabOk rfl rfl l2_ List.not_mem_nil rfl) hx9 rfl rfl<|qs_ 1 rfl<|l_ rfl (x_ tabOk rfl rfl rfl l1_ List.not_mem_nil (aC_ _)) hx9 rfl rfl<|I_<|bg_ rfl (by_ (a := who) (v := k) (m' := aput m who k) (a4_ Tryz.underlying3) Tryz.underlying125 rfl u3_ rfl is_v hw rfl (a6_ _) rfl) rfl rfl ?_
  rintro _ _ ⟨rfl, rfl⟩
  refine c_<|aT_ (p := t ∉ [bn] ∧ b5 ∉ [bn]) (fun _ _ h => by
    have h1 := h.mem.nodup
    simp [mids, It.mids, mapPc, ownPc] at h1 ⊢
    grind) fun hX => ?_
  refine U_ [bn] (.q 0 (.q 1 (.q 2 (.q 3 (.q 4 (.two 5 7 (.q 6 (.e 7 (.q 8 (.e 9 .nil)))) (.q 8 (.e 5 (.q 6 (.e 9 .nil)))))))))) (by kernel_rfl) (by kernel_rfl) ?_
  refine af_ (by (simp [mids, It.mids, ownPc, mapPc]; done)) fun hx9 => ?_
  refine qx_ 3 hx9 rfl<|l_ rfl (j_ tabOk rfl rfl l2_ (by exact hX.1) rfl) hx9 rfl rfl ?_
  refine l_ rfl (x_ tabOk rfl rfl rfl l1_ (by exact hX.2) (aC_ _)) hx9 rfl rfl ?_
  refine co_ ?_ ?_
  ·skip
   (refine bI_ rfl (aG_ (a := k) (zv := cntV 0) (C := int ((cget (decO c (some v)) k : Nat) : Int)) aP_ Tryz.underlying126 aj_ rfl ?_ List.not_mem_nil rfl (a6_ _) hk (aK_ _ _)) rfl rfl ?_; focus (apply Or.inl; (repeat first|assumption|exact m0_|apply m1_); done))
   refine l_ rfl (y_ (C := int ((cget (decO c (some v)) k + 1 : Nat) : Int)) (v_ rfl rfl (by have := hti.dec_le (aget m who) k; rw [hv] at this; have e : cget (decO c (some v)) k ≤ m.length := this; simp only [InR, lo, hi]; omega)) (congrArg int (by omega))) hx9 rfl rfl ?_
   refine exb_ rfl (ay_ (a := k) (zv := 0) (V := cntV) (C := int ((cget (decO c (some v)) k : Nat) : Int)) aP_ Tryz.underlying126 aj_ rfl (fun s => u4_) rfl (a6_ _) hk (aK_ _ _)) (by simp) rfl rfl fun s54=>?_
   refine af_ (by (intro k hk; simp [mids, It.mids, ownPc, mapPc, mapAtPc] at hk ⊢; grind)) fun hx9 => ?_
   refine qx_ 1 hx9 rfl<|ex_ rfl (ag_ (v := cget (decO c (some v)) k + 1) (m' := aput (decO c (some v)) k (cget (decO c (some v)) k + 1)) rfl u4_ rfl rfl is_v (a0_ _ _ _ _)) (by simp) rfl rfl ?_
   refine I_<|b4_ (rs := []) rfl RV.nil (()) (by rw [bX_ hv]; repeat (first | exact List.nil_sublist _ | exact List.Sublist.refl _ | apply List.Sublist.cons_cons | apply List.Sublist.cons)) (by simp [It.rids]) ?_
   exact rfl
  skip
  refine exb_ rfl (ay_ (a := k) (zv := 0) (V := cntV) (C := int ((cget (decO c (some v)) k : Nat) : Int)) aP_ Tryz.underlying126 aj_ rfl (fun s => u4_) rfl (a6_ _) hk (aK_ _ _)) (by simp) rfl rfl fun s54=>?_
  refine af_ (by (intro k hk; simp [mids, It.mids, ownPc, mapPc, mapAtPc] at hk ⊢; grind)) fun hx9 => ?_
  refine qx_ 1 hx9 rfl ?_
  (refine bI_ rfl (bk_ (a := k) (a' := k) (s := s54) (zv := cntV 0) (C := int ((cget (decO c (some v)) k : Nat) : Int)) aP_ Tryz.underlying126 aj_ rfl ?_ rfl (a6_ _) hk (bv_ _ _)) rfl rfl ?_; focus ((repeat first|assumption|exact m0_|apply m1_); done))
  refine l_ rfl (y_ (C := int ((cget (decO c (some v)) k + 1 : Nat) : Int)) (v_ rfl rfl (by have := hti.dec_le (aget m who) k; rw [hv] at this; have e : cget (decO c (some v)) k ≤ m.length := this; simp only [InR, lo, hi]; omega)) (congrArg int (by omega))) hx9 rfl rfl ?_
  refine ex_ rfl (ag_ (v := cget (decO c (some v)) k + 1) (m' := aput (decO c (some v)) k (cget (decO c (some v)) k + 1)) rfl u4_ rfl rfl is_v (a0_ _ _ _ _)) (by simp) rfl rfl ?_
  refine I_<|b4_ (rs := []) rfl RV.nil (()) (by rw [bX_ hv]; repeat (first | exact List.nil_sublist _ | exact List.Sublist.refl _ | apply List.Sublist.cons_cons | apply List.Sublist.cons)) (by simp [It.rids]) ?_
  exact rfl
 skip
 refine exb_ rfl (ay_ (a := v) (zv := 0) (V := cntV) (C := int ((cget c v : Nat) : Int)) aP_ Tryz.underlying126 aj_ rfl (fun s => u4_) rfl (a6_ _) (hok _ _ hv) (aK_ _ _)) (by simp) rfl rfl fun s27=>?_
 refine af_ (by (intro k hk; simp [mids, It.mids, ownPc, mapPc, mapAtPc] at hk ⊢; grind)) fun hx9 => ?_
 refine qx_ 1 hx9 rfl ?_
 (refine bI_ rfl (bk_ (a := v) (a' := v) (s := s27) (zv := cntV 0) (C := int ((cget c v : Nat) : Int)) aP_ Tryz.underlying126 aj_ rfl ?_ rfl (a6_ _) (hok _ _ hv) (bv_ _ _)) rfl rfl ?_; focus ((repeat first|assumption|exact m0_|apply m1_); done))
 refine l_ rfl (y_ (C := int ((cget c v - 1 : Nat) : Int)) (be_ rfl rfl (by have := hti.le v; simp only [InR, lo, hi]; omega)) (congrArg int (by have := hti.pos hv; omega))) hx9 rfl rfl ?_
 refine ex_ rfl (ag_ (v := cget c v - 1) (m' := aput c v (cget c v - 1)) rfl u4_ rfl rfl is_v (a0_ _ _ _ _)) (by simp) rfl rfl ?_
 refine I_<|c_<|d_<|U_ [] (.q 0 (.q 1 (.q 2 (.q 3 (.q 4 (.q 5 (.q 6 .nil))))))) (by kernel_rfl) (by kernel_rfl) ?_
 refine qs_ 3 rfl<|l_ rfl (j_ tabOk rfl rfl l2_ List.not_mem_nil rfl) (by simp) rfl rfl ?_
 refine af_ (by (simp [mids, It.mids, ownPc, mapPc]; done)) fun hx9 => ?_
 refine l_ rfl (x_ tabOk rfl rfl rfl l0_ List.not_mem_nil (aC_ _)) hx9 rfl rfl<|l_ rfl (aG_ (a := v) (zv := cntV 0) (C := int ((cget (aput c v (cget c v - 1)) v : Nat) : Int)) aP_ Tryz.underlying126 aj_ rfl l4_ List.not_mem_nil rfl (a6_ _) (hok _ _ hv) (aK_ _ _)) hx9 rfl rfl<|qs_ 1 rfl<|I_<|c_<|o_ rfl ?_ ?_
 rotate_left
 ·intro hc35
  rw [show (aput c v (cget c v - 1)) = (decO c (some v)) from (hz_ (by omega)).symm]
  refine s_<|c_<|d_<|aZ_ [] (.q 0 (.q 1 (.q 2 (.q 3 (.q 4 (.q 5 .nil)))))) (by kernel_rfl) (by kernel_rfl) ?_
  refine qs_ 3 rfl<|af_ (by (simp [mids, It.mids, ownPc, mapPc]; done)) fun hx9 => ?_
  refine l_ rfl (j_ tabOk rfl rfl l2_ List.not_mem_nil rfl) hx9 rfl rfl<|qs_ 1 rfl<|l_ rfl (x_ tabOk rfl rfl rfl l1_ List.not_mem_nil (aC_ _)) hx9 rfl rfl<|I_<|bg_ rfl (by_ (a := who) (v := k) (m' := aput m who k) (a4_ Tryz.underlying3) Tryz.underlying125 rfl u3_ rfl is_v hw rfl (a6_ _) rfl) rfl rfl ?_
  rintro _ _ ⟨rfl, rfl⟩
  refine c_<|aT_ (p := t ∉ [bn] ∧ b5 ∉ [bn]) (fun _ _ h => by
    have h1 := h.mem.nodup
    simp [mids, It.mids, mapPc, ownPc] at h1 ⊢
    grind) fun hX => ?_
  refine U_ [bn] (.q 0 (.q 1 (.q 2 (.q 3 (.q 4 (.two 5 7 (.q 6 (.e 7 (.q 8 (.e 9 .nil)))) (.q 8 (.e 5 (.q 6 (.e 9 .nil)))))))))) (by kernel_rfl) (by kernel_rfl) ?_
  refine af_ (by (simp [mids, It.mids, ownPc, mapPc]; done)) fun hx9 => ?_
  refine qx_ 3 hx9 rfl<|l_ rfl (j_ tabOk rfl rfl l2_ (by exact hX.1) rfl) hx9 rfl rfl ?_
  refine l_ rfl (x_ tabOk rfl rfl rfl l1_ (by exact hX.2) (aC_ _)) hx9 rfl rfl ?_
  refine co_ ?_ ?_
  ·skip
   (refine bI_ rfl (aG_ (a := k) (zv := cntV 0) (C := int ((cget (decO c (some v)) k : Nat) : Int)) aP_ Tryz.underlying126 aj_ rfl ?_ List.not_mem_nil rfl (a6_ _) hk (aK_ _ _)) rfl rfl ?_; focus (apply Or.inl; (repeat first|assumption|exact m0_|apply m1_); done))
   refine l_ rfl (y_ (C := int ((cget (decO c (some v)) k + 1 : Nat) : Int)) (v_ rfl rfl (by have := hti.dec_le (aget m who) k; rw [hv] at this; have e : cget (decO c (some v)) k ≤ m.length := this; simp only [InR, lo, hi]; omega)) (congrArg int (by omega))) hx9 rfl rfl ?_
   refine exb_ rfl (ay_ (a := k) (zv := 0) (V := cntV) (C := int ((cget (decO c (some v)) k : Nat) : Int)) aP_ Tryz.underlying126 aj_ rfl (fun s => u4_) rfl (a6_ _) hk (aK_ _ _)) (by simp) rfl rfl fun s54=>?_
   refine af_ (by (intro k hk; simp [mids, It.mids, ownPc, mapPc, mapAtPc] at hk ⊢; grind)) fun hx9 => ?_
   refine qx_ 1 hx9 rfl<|ex_ rfl (ag_ (v := cget (decO c (some v)) k + 1) (m' := aput (decO c (some v)) k (cget (decO c (some v)) k + 1)) rfl u4_ rfl rfl is_v (a0_ _ _ _ _)) (by simp) rfl rfl ?_
   refine I_<|b4_ (rs := []) rfl RV.nil (()) (by rw [bX_ hv]; repeat (first | exact List.nil_sublist _ | exact List.Sublist.refl _ | apply List.Sublist.cons_cons | apply List.Sublist.cons)) (by simp [It.rids]) ?_
   exact rfl
  skip
  refine exb_ rfl (ay_ (a := k) (zv := 0) (V := cntV) (C := int ((cget (decO c (some v)) k : Nat) : Int)) aP_ Tryz.underlying126 aj_ rfl (fun s => u4_) rfl (a6_ _) hk (aK_ _ _)) (by simp) rfl rfl fun s54=>?_
  refine af_ (by (intro k hk; simp [mids, It.mids, ownPc, mapPc, mapAtPc] at hk ⊢; grind)) fun hx9 => ?_
  refine qx_ 1 hx9 rfl ?_
  (refine bI_ rfl (bk_ (a := k) (a' := k) (s := s54) (zv := cntV 0) (C := int ((cget (decO c (some v)) k : Nat) : Int)) aP_ Tryz.underlying126 aj_ rfl ?_ rfl (a6_ _) hk (bv_ _ _)) rfl rfl ?_; focus ((repeat first|assumption|exact m0_|apply m1_); done))
  refine l_ rfl (y_ (C := int ((cget (decO c (some v)) k + 1 : Nat) : Int)) (v_ rfl rfl (by have := hti.dec_le (aget m who) k; rw [hv] at this; have e : cget (decO c (some v)) k ≤ m.length := this; simp only [InR, lo, hi]; omega)) (congrArg int (by omega))) hx9 rfl rfl ?_
  refine ex_ rfl (ag_ (v := cget (decO c (some v)) k + 1) (m' := aput (decO c (some v)) k (cget (decO c (some v)) k + 1)) rfl u4_ rfl rfl is_v (a0_ _ _ _ _)) (by simp) rfl rfl ?_
  refine I_<|b4_ (rs := []) rfl RV.nil (()) (by rw [bX_ hv]; repeat (first | exact List.nil_sublist _ | exact List.Sublist.refl _ | apply List.Sublist.cons_cons | apply List.Sublist.cons)) (by simp [It.rids]) ?_
  exact rfl
 intro hc35
 refine aZ_ [] (.q 0 (.q 1 (.q 2 (.q 3 (.q 4 .nil))))) (by kernel_rfl) (by kernel_rfl) ?_
 refine qs_ 3 rfl<|l_ rfl (j_ tabOk rfl rfl l2_ List.not_mem_nil rfl) (by simp) rfl rfl ?_
 refine af_ (by (simp [mids, It.mids, ownPc, mapPc]; done)) fun hx9 => ?_
 refine l_ rfl (x_ tabOk rfl rfl rfl l0_ List.not_mem_nil (aC_ _)) hx9 rfl rfl<|I_<|bg_ rfl (e6_ (a := v) (m' := (decO c (some v))) aP_ Tryz.underlying126 rfl u4_ rfl (a6_ _) (hok _ _ hv) (i7_ (by omega))) rfl rfl ?_
 rintro _ _ ⟨rfl, rfl⟩
 refine c_<|d_<|aZ_ [] (.q 0 (.q 1 (.q 2 (.q 3 (.q 4 (.q 5 .nil)))))) (by kernel_rfl) (by kernel_rfl) ?_
 refine qs_ 3 rfl<|af_ (by (simp [mids, It.mids, ownPc, mapPc]; done)) fun hx9 => ?_
 refine l_ rfl (j_ tabOk rfl rfl l2_ List.not_mem_nil rfl) hx9 rfl rfl<|qs_ 1 rfl<|l_ rfl (x_ tabOk rfl rfl rfl l1_ List.not_mem_nil (aC_ _)) hx9 rfl rfl<|I_<|bg_ rfl (by_ (a := who) (v := k) (m' := aput m who k) (a4_ Tryz.underlying3) Tryz.underlying125 rfl u3_ rfl is_v hw rfl (a6_ _) rfl) rfl rfl ?_
 rintro _ _ ⟨rfl, rfl⟩
 refine c_<|aT_ (p := t ∉ [bn] ∧ b5 ∉ [bn]) (fun _ _ h => by
   have h1 := h.mem.nodup
   simp [mids, It.mids, mapPc, ownPc] at h1 ⊢
   grind) fun hX => ?_
 refine U_ [bn] (.q 0 (.q 1 (.q 2 (.q 3 (.q 4 (.two 5 7 (.q 6 (.e 7 (.q 8 (.e 9 .nil)))) (.q 8 (.e 5 (.q 6 (.e 9 .nil)))))))))) (by kernel_rfl) (by kernel_rfl) ?_
 refine af_ (by (simp [mids, It.mids, ownPc, mapPc]; done)) fun hx9 => ?_
 refine qx_ 3 hx9 rfl<|l_ rfl (j_ tabOk rfl rfl l2_ (by exact hX.1) rfl) hx9 rfl rfl ?_
 refine l_ rfl (x_ tabOk rfl rfl rfl l1_ (by exact hX.2) (aC_ _)) hx9 rfl rfl ?_
 refine co_ ?_ ?_
 ·skip
  (refine bI_ rfl (aG_ (a := k) (zv := cntV 0) (C := int ((cget (decO c (some v)) k : Nat) : Int)) aP_ Tryz.underlying126 aj_ rfl ?_ List.not_mem_nil rfl (a6_ _) hk (aK_ _ _)) rfl rfl ?_; focus (apply Or.inl; (repeat first|assumption|exact m0_|apply m1_); done))
  refine l_ rfl (y_ (C := int ((cget (decO c (some v)) k + 1 : Nat) : Int)) (v_ rfl rfl (by have := hti.dec_le (aget m who) k; rw [hv] at this; have e : cget (decO c (some v)) k ≤ m.length := this; simp only [InR, lo, hi]; omega)) (congrArg int (by omega))) hx9 rfl rfl ?_
  refine exb_ rfl (ay_ (a := k) (zv := 0) (V := cntV) (C := int ((cget (decO c (some v)) k : Nat) : Int)) aP_ Tryz.underlying126 aj_ rfl (fun s => u4_) rfl (a6_ _) hk (aK_ _ _)) (by simp) rfl rfl fun s54=>?_
  refine af_ (by (intro k hk; simp [mids, It.mids, ownPc, mapPc, mapAtPc] at hk ⊢; grind)) fun hx9 => ?_
  refine qx_ 1 hx9 rfl<|ex_ rfl (ag_ (v := cget (decO c (some v)) k + 1) (m' := aput (decO c (some v)) k (cget (decO c (some v)) k + 1)) rfl u4_ rfl rfl is_v (a0_ _ _ _ _)) (by simp) rfl rfl ?_
  refine I_<|b4_ (rs := []) rfl RV.nil (()) (by rw [bX_ hv]; repeat (first | exact List.nil_sublist _ | exact List.Sublist.refl _ | apply List.Sublist.cons_cons | apply List.Sublist.cons)) (by simp [It.rids]) ?_
  exact rfl
 skip
 refine exb_ rfl (ay_ (a := k) (zv := 0) (V := cntV) (C := int ((cget (decO c (some v)) k : Nat) : Int)) aP_ Tryz.underlying126 aj_ rfl (fun s => u4_) rfl (a6_ _) hk (aK_ _ _)) (by simp) rfl rfl fun s54=>?_
 refine af_ (by (intro k hk; simp [mids, It.mids, ownPc, mapPc, mapAtPc] at hk ⊢; grind)) fun hx9 => ?_
 refine qx_ 1 hx9 rfl ?_
 (refine bI_ rfl (bk_ (a := k) (a' := k) (s := s54) (zv := cntV 0) (C := int ((cget (decO c (some v)) k : Nat) : Int)) aP_ Tryz.underlying126 aj_ rfl ?_ rfl (a6_ _) hk (bv_ _ _)) rfl rfl ?_; focus ((repeat first|assumption|exact m0_|apply m1_); done))
 refine l_ rfl (y_ (C := int ((cget (decO c (some v)) k + 1 : Nat) : Int)) (v_ rfl rfl (by have := hti.dec_le (aget m who) k; rw [hv] at this; have e : cget (decO c (some v)) k ≤ m.length := this; simp only [InR, lo, hi]; omega)) (congrArg int (by omega))) hx9 rfl rfl ?_
 refine ex_ rfl (ag_ (v := cget (decO c (some v)) k + 1) (m' := aput (decO c (some v)) k (cget (decO c (some v)) k + 1)) rfl u4_ rfl rfl is_v (a0_ _ _ _ _)) (by simp) rfl rfl ?_
 refine I_<|b4_ (rs := []) rfl RV.nil (()) (by rw [bX_ hv]; repeat (first | exact List.nil_sublist _ | exact List.Sublist.refl _ | apply List.Sublist.cons_cons | apply List.Sublist.cons)) (by simp [It.rids]) ?_
 exact rfl
end
def Rd.pr1 (s : Rd) : Rd := s.fixed 8
def Rd.pr2 (s : Rd) : Rd := (s.fixed 8).fixed 8
def Rd.prOut (s : Rd) (room : Int) : List UInt8 := (Rd.pr2 s).rowOut room
def Rd.prfs (n room : Int) : Nat → Rd → List Prf → Bool → List Prf × Bool × Rd
  | 0, s, acc, o => (acc, o, s)
  | k + 1, s, acc, o => Rd.prfs n room k ((Rd.pr2 s).row room) (acc ++ [⟨sg (s.num 8), sg ((Rd.pr1 s).num 8), (parseS (Rd.prOut s room) n).1⟩]) (o || decide ((parseS (Rd.prOut s room) n).2 ≠ 0))
theorem Rd.count_length (s : Rd) (most : Int) : (s.count most).l.length ≤ s.l.length := by
  unfold Rd.count
  have := s.fixed_length 2
  split
  · exact this
  · exact this
theorem Rd.countN_lt (s : Rd) (most : Int) : s.countN most < 65536 := by
  unfold Rd.countN
  split
  · omega
  · exact s.num_lt (n := 2) (k := 2) (Nat.le_refl _)
section
variable {p : Nat} {s : Rd} {n room most : Int}
set_option maxHeartbeats 2000000 in
theorem iy_ (hl : s.l.length ≤ 10000000) (hr : 0 ≤ room ∧ room ≤ 9223372036854775807) : Spec Tryz.prog 74 [ptr p, int n, int most, int room] [rdA TR p s] (fun _ : Unit => [rdA TR p (Rd.prfs n room (s.countN most) (s.count most) [] false).2.2]) (fun _ => .tup [prfsA (Rd.prfs n room (s.countN most) (s.count most) [] false).1, boo (Rd.prfs n room (s.countN most) (s.count most) [] false).2.1]) := by
 have hL : lots = 100000000000 := rfl
 have hcl := Rd.count_length s most
 have hcn := Rd.countN_lt s most
 refine K_ Tryz.func74 rfl Tryz.ntmps74 rfl fun G w =>d_<|a_<|q_ 2 rfl<|g_<|c_<|d_<|d_<|a_<|q_ 2 rfl<|t_ (i8_ (s := s) (n := most) (by omega)) Casts.refl (by kernel_rfl) rfl rfl rfl ?_
 refine a2_ rfl i0_ (fun _ => rfl)<|fun _=>⟨_, u0_, q_ 1 rfl<|g_<|c_<|u_<|eB_ 77 3<|W_ (ι := Rd × List Prf × Bool × Nat × Value) (fun z => [own 77 3 z.2.2.2.2 (z.2.1.map Prf.abs), rdA TR p z.1]) (fun z => [(0, ptr p), (1, int n), (3, int room), (8, .v z.2.2.2.2), (9, boo z.2.2.1), (15, int ((s.countN most) : Nat)), (16, int (z.2.2.2.1 : Nat))]) (fun z => z.2.2.2.1 ≤ (s.countN most) ∧ z.1.l.length ≤ s.l.length ∧ z.2.1.length = z.2.2.2.1 ∧ Rd.prfs n room ((s.countN most) - z.2.2.2.1) z.1 z.2.1 z.2.2.1 = Rd.prfs n room (s.countN most) (s.count most) [] false) (fun z => (s.countN most) - z.2.2.2.1) (s.count most, [], false, 0, .slice none 0 0) (⟨Nat.zero_le _, hcl, rfl, rfl⟩) (by exact ⟨rfl, rfl, rfl, rfl, rfl, rfl, rfl, trivial⟩) sr_ ?_⟩
 intro z hz
 refine d_<|a_<|q_ 1 rfl<|g_<|c_<|d_<|o_ rfl ?_ ?_
 rotate_left
 ·intro hc17
  refine T_<|i_ nofun<|i_ nofun<|S_<|c_<|d_<|a_<|q_ 4 rfl<|g_<|c_<|n_ ?_
  have e0 : Rd.prfs n room (s.countN most) (s.count most) [] false = (z.2.1, z.2.2.1, z.1) := by
   rw [← hz.2.2.2, show (s.countN most) - z.2.2.2.1 = 0 by omega]
   rfl
  refine eA_ [] (t := 8) rfl rfl ?_
  rw [e0]
  exact f_ (rs := [.tmp 8, .tmp 9]) rfl (RV.tmp rfl (RV.tmp rfl RV.nil)) (()) sr_<|rfl
 intro hc17
 have n1 := z.1.fixed_length 8
 have n2 := (z.1.fixed 8).fixed_length 8
 have n3 : (Rd.prOut z.1 room).length ≤ (z.1.fixed 8 |>.fixed 8).l.length := Rd.rowOut_length _ _
 have n4 := Rd.row_length ((z.1.fixed 8).fixed 8) room
 refine s_<|c_<|d_<|u_<|d_<|a_<|q_ 1 rfl<|t_ (c9_ (s := z.1) (n := 8) (by omega) rfl) Casts.refl (by kernel_rfl) rfl rfl rfl ?_
 refine a2_ rfl i1_ (fun _ => rfl)<|fun _=>⟨_, u1_, b_ (aV_ rfl Tryz.underlying2 (by kernel_rfl)) rfl rfl ?_⟩
 refine q_ 1 rfl<|t_ (c9_ (s := (Rd.pr1 z.1)) (n := 8) (by unfold Rd.pr1; omega) rfl) Casts.refl (by kernel_rfl) rfl rfl rfl ?_
 refine a2_ rfl i1_ (fun _ => rfl)<|fun _=>⟨_, u1_, b_ (aV_ rfl Tryz.underlying2 (by kernel_rfl)) rfl rfl ?_⟩
 refine b_ (L_ tabOk rfl rfl rfl rfl) rfl rfl<|eb_ (H_ tabOk rfl) rfl rfl fun b10=>?_
 refine e_ (D_ tabOk rfl rfl rfl u0_ rfl (Nat.le_of_ble_eq_true rfl) rfl rfl) rfl rfl<|g_<|c_<|d_<|a_<|q_ 2 rfl<|t_ (rowr_s (s := (Rd.pr2 z.1)) (n := room) (by unfold Rd.pr2; omega) hr) Casts.refl (by kernel_rfl) rfl rfl rfl ?_
 refine a2_ rfl i2_ (fun _ => rfl)<|fun _=>⟨_, u2_, q_ 1 rfl<|t_ (bparse_s (l := (Rd.prOut z.1 room)) (n := n) (by omega)) Casts.refl (by kernel_rfl) rfl rfl rfl ?_⟩
 refine ap_<|fun _=>q_ 5 rfl<|g_<|c_<|d_<|a_<|q_ 2 rfl<|e_ (D_ tabOk rfl rfl rfl u0_ rfl (Nat.le_of_ble_eq_true rfl) rfl rfl) rfl rfl<|g_<|c_<|d_<|a_<|q_ 2 rfl<|aY_ (t := 36) rfl ?_ ?_
 ·intro hc36
  refine q_ 4 rfl<|g_<|c_<|a_<|q_ 1 rfl<|b_ (x_ tabOk rfl rfl rfl l0_ List.not_mem_nil rfl) rfl rfl<|e_ (ax_ tabOk Tryz.underlying24 rfl rfl rfl rfl rfl rfl rfl) rfl rfl<|eb_ (bh_ (zs := (z.2.1 ++ [(⟨sg (z.1.num 8), sg ((Rd.pr1 z.1).num 8), (parseS (Rd.prOut z.1 room) n).1⟩ : Prf)]).map Prf.abs) tabOk [_] (by rw [List.map_append]; rfl) Tryz.underlying24 rfl rfl rfl rfl rfl rfl (by intro c hc; rw [List.mem_singleton] at hc; subst hc; rfl) (by unfold maxLen; simp only [List.length_map, List.length_cons, List.length_nil]; omega) (by rw [show Tryz.prog.bytesOf 77 = 40 by kernel_rfl]; simp only [List.length_map, List.length_cons, List.length_nil]; omega)) rfl rfl fun r43=>?_
  refine q_ 1 rfl<|g_<|r_<|c_<|a_<|b_ (v_ rfl rfl (by simp only [InR, lo, hi]; omega)) rfl rfl ?_
  refine q_ 1 rfl<|g_<|A_ (((Rd.pr2 z.1).row room, z.2.1 ++ [(⟨sg (z.1.num 8), sg ((Rd.pr1 z.1).num 8), (parseS (Rd.prOut z.1 room) n).1⟩ : Prf)], z.2.2.1 || decide ((parseS (Rd.prOut z.1 room) n).2 ≠ 0), z.2.2.2.1 + 1, r43)) (by (dsimp only; omega)) (⟨by dsimp only; omega, by dsimp only [Rd.pr2]; omega, by dsimp only; rw [List.length_append, hz.2.2.1]; rfl, by
   rw [← hz.2.2.2]
   obtain ⟨j, hj⟩ : ∃ j, (s.countN most) - z.2.2.2.1 = j + 1 := ⟨(s.countN most) - z.2.2.2.1 - 1, by omega⟩
   rw [hj]
   show Rd.prfs n room ((s.countN most) - (z.2.2.2.1 + 1)) _ _ _ = Rd.prfs n room (j + 1) _ _ _
   rw [show (s.countN most) - (z.2.2.2.1 + 1) = j by omega]
   rfl⟩) ⟨rfl, rfl, rfl, rfl, by show some (boo true) = some (boo (_ || _)); rw [hc36]; rfl, rfl, rfl, trivial⟩ (sk_ sr_)
 intro hc36
 refine q_ 4 rfl<|g_<|c_<|a_<|q_ 1 rfl<|b_ (x_ tabOk rfl rfl rfl l0_ List.not_mem_nil rfl) rfl rfl<|e_ (ax_ tabOk Tryz.underlying24 rfl rfl rfl rfl rfl rfl rfl) rfl rfl<|eb_ (bh_ (zs := (z.2.1 ++ [(⟨sg (z.1.num 8), sg ((Rd.pr1 z.1).num 8), (parseS (Rd.prOut z.1 room) n).1⟩ : Prf)]).map Prf.abs) tabOk [_] (by rw [List.map_append]; rfl) Tryz.underlying24 rfl rfl rfl rfl rfl rfl (by intro c hc; rw [List.mem_singleton] at hc; subst hc; rfl) (by unfold maxLen; simp only [List.length_map, List.length_cons, List.length_nil]; omega) (by rw [show Tryz.prog.bytesOf 77 = 40 by kernel_rfl]; simp only [List.length_map, List.length_cons, List.length_nil]; omega)) rfl rfl fun r43=>?_
 refine q_ 1 rfl<|g_<|r_<|c_<|a_<|b_ (v_ rfl rfl (by simp only [InR, lo, hi]; omega)) rfl rfl ?_
 refine q_ 1 rfl<|g_<|A_ (((Rd.pr2 z.1).row room, z.2.1 ++ [(⟨sg (z.1.num 8), sg ((Rd.pr1 z.1).num 8), (parseS (Rd.prOut z.1 room) n).1⟩ : Prf)], z.2.2.1 || decide ((parseS (Rd.prOut z.1 room) n).2 ≠ 0), z.2.2.2.1 + 1, r43)) (by (dsimp only; omega)) (⟨by dsimp only; omega, by dsimp only [Rd.pr2]; omega, by dsimp only; rw [List.length_append, hz.2.2.1]; rfl, by
  rw [← hz.2.2.2]
  obtain ⟨j, hj⟩ : ∃ j, (s.countN most) - z.2.2.2.1 = j + 1 := ⟨(s.countN most) - z.2.2.2.1 - 1, by omega⟩
  rw [hj]
  show Rd.prfs n room ((s.countN most) - (z.2.2.2.1 + 1)) _ _ _ = Rd.prfs n room (j + 1) _ _ _
  rw [show (s.countN most) - (z.2.2.2.1 + 1) = j by omega]
  rfl⟩) ⟨rfl, rfl, rfl, rfl, by show some (boo (decide _)) = some (boo (_ || _)); rw [hc36, Bool.false_or], rfl, rfl, trivial⟩ (sk_ sr_)
end
def pad32 (m : List UInt8) (z : Nat) : List UInt8 := m.take z ++ List.replicate (32 - z) 0
theorem f1_ {m : List UInt8} {z : Nat} (h : z ≤ m.length) (h2 : z ≤ 32) : (pad32 m z).length = 32 := by
  simp [pad32]; omega
def pad (m : List UInt8) : List UInt8 := pad32 m (min m.length 32)
theorem hS_ (m : List UInt8) : (pad m).length = 32 := f1_ (by omega) (by omega)
theorem pad_all {m : List UInt8} (h : m.length = 32) : pad m = m := by
  have : m.take 32 = m := List.take_of_length_le (by omega)
  simp [pad, pad32, h, this]
theorem Rd.out32 (s : Rd) : (s.out 32).length ≤ 32 := s.out_length 32
def Pnt.mk' (x : Int) (m : List UInt8) : Pnt := ⟨x, pad m, hS_ m⟩
def Rd.pnts : Nat → Rd → List Pnt → List Pnt × Rd
  | 0, s, acc => (acc, s)
  | k + 1, s, acc => Rd.pnts k ((s.fixed 8).fixed 32) (acc ++ [Pnt.mk' (sg (s.num 8)) ((s.fixed 8).out 32)])
section
variable {p : Nat} {s : Rd} {n : Int} {l : List UInt8}
def Chg.zero : Chg := ⟨0, 0, [], [], []⟩
def Rd.chgHead (l : List UInt8) : Rd := ((Rd.of l).fixed 8).fixed 8
def Rd.chgPts (l : List UInt8) : List Pnt × Rd := Rd.pnts ((Rd.chgHead l).countN 4) ((Rd.chgHead l).count 4) []
def Rd.chgPre (l : List UInt8) (n : Int) : List Prf × Bool × Rd := Rd.prfs n l.length ((Rd.chgPts l).2.countN 8) ((Rd.chgPts l).2.count 8) [] false
def Rd.chgPro (l : List UInt8) (n : Int) : List Prf × Bool × Rd := Rd.prfs n l.length ((Rd.chgPre l n).2.2.countN 64) ((Rd.chgPre l n).2.2.count 64) [] false
def Rd.chg (l : List UInt8) (n : Int) : Chg := ⟨sg ((Rd.of l).num 8), sg (((Rd.of l).fixed 8).num 8), (Rd.chgPts l).1, (Rd.chgPre l n).1, (Rd.chgPro l n).1⟩
noncomputable def parseC (l : List UInt8) (n : Int) : Chg × Int :=
  if n < 1 ∨ 7 < n then (Chg.zero, 1) else
  if (Rd.chgPro l n).2.2.end_ ≠ 0 ∨ (Rd.chgPre l n).2.1 = true ∨ (Rd.chgPro l n).2.1 = true ∨ (Rd.chg l n).check n ≠ 0 then (Chg.zero, 2) else (Rd.chg l n, 0)
theorem pnt_copy {x : Int} {m : List UInt8} (h : m.length ≤ 32) : putL (int x :: List.replicate 32 (.v (.int .u8 0))) 1 ((bys m).take 32).flatten = (Pnt.mk' x m).abs := by
  have e1 : ((bys m).take 32).flatten = digA m := by
    rw [List.take_of_length_le (by simpa using h)]
    induction m with
    | nil => rfl
    | cons b m ih =>
      have := ih (by simp at h; omega)
      simp only [bys, digA, List.map_cons, List.flatten_cons] at this ⊢
      rw [this]; rfl
  rw [e1]
  show int x :: putL (List.replicate 32 (.v (.int .u8 0))) 0 (digA m) = int x :: digA (pad m)
  congr 1
  rw [cq_ _ _ _ (Nat.zero_le _)]
  have e2 : (digA m).length = m.length := by simp [digA]
  unfold pad pad32
  rw [show min m.length 32 = m.length by omega, List.take_of_length_le (Nat.le_refl _)]
  rw [Nat.zero_add, e2, List.take_zero, List.nil_append, List.drop_replicate]
  unfold digA
  rw [List.map_append, List.map_replicate]
  rfl
theorem fZ_ : ∀ (k : Nat) (s : Rd) (acc : List Pnt), (Rd.pnts k s acc).1.length = acc.length + k ∧ (Rd.pnts k s acc).2.l.length ≤ s.l.length
  | 0, s, acc => ⟨rfl, Nat.le_refl _⟩
  | k + 1, s, acc => by
    have h1 := fZ_ k ((s.fixed 8).fixed 32) (acc ++ [Pnt.mk' (sg (s.num 8)) ((s.fixed 8).out 32)])
    have h2 := s.fixed_length 8
    have h3 := (s.fixed 8).fixed_length 32
    rw [List.length_append, List.length_singleton] at h1
    unfold Rd.pnts
    omega
theorem eh_ (n room : Int) : ∀ (k : Nat) (s : Rd) (acc : List Prf) (o : Bool), (Rd.prfs n room k s acc o).1.length = acc.length + k ∧ (Rd.prfs n room k s acc o).2.2.l.length ≤ s.l.length
  | 0, s, acc, o => ⟨rfl, Nat.le_refl _⟩
  | k + 1, s, acc, o => by
    have h1 := eh_ n room k ((Rd.pr2 s).row room) (acc ++ [⟨sg (s.num 8), sg ((Rd.pr1 s).num 8), (parseS (Rd.prOut s room) n).1⟩]) (o || decide ((parseS (Rd.prOut s room) n).2 ≠ 0))
    have h2 := s.fixed_length 8
    have h3 := (s.fixed 8).fixed_length 8
    have h4 := Rd.row_length (Rd.pr2 s) room
    rw [List.length_append, List.length_singleton] at h1
    unfold Rd.pr2 at h1 h4
    unfold Rd.prfs Rd.pr2
    omega
theorem hw_ {most : Int} : ∀ (m : Nat) (s : Rd) (acc : List Ent) (es : List Ent) (t : Rd), s.ents most m acc = some (es, t) → es.length = acc.length + m
  | 0, s, acc, es, t, h => by
    simp only [Rd.ents, Option.some.injEq, Prod.mk.injEq] at h
    rw [← h.1]; rfl
  | m + 1, s, acc, es, t, h => by
    simp only [Rd.ents] at h
    split at h
    · cases h
    · have := hw_ m _ _ _ _ h
      rw [List.length_append, List.length_singleton] at this
      omega
theorem eR_ {l : List UInt8} {n : Int} : (parseS l n).1.length ≤ 1000000 := by
  unfold parseS
  have h9 : manyOf l ≤ (Rd.of l).num 2 := Nat.min_le_left _ _
  have h8 := (Rd.of l).num_lt (n := 2) (k := 2) (Nat.le_refl _)
  cases h : Rd.ents l.length (manyOf l) ((Rd.of l).fixed 2) [] with
  | none => simp [parse2]
  | some x =>
    obtain ⟨es, t⟩ := x
    have h7 := hw_ _ _ _ _ _ h
    simp only [List.length_nil] at h7
    simp only [parse2]
    split
    · simp
    · split
      · simp
      · show es.length ≤ 1000000
        omega
theorem fi_ (Q : Prf → Prop) {n room : Int} {B : Nat} (hQ : ∀ (a b : Int) (l : List UInt8), l.length ≤ B → Q ⟨a, b, (parseS l n).1⟩) : ∀ (k : Nat) (s : Rd) (acc : List Prf) (o : Bool), s.l.length ≤ B → (∀ p ∈ acc, Q p) → ∀ p ∈ (Rd.prfs n room k s acc o).1, Q p
  | 0, _, _, _, _, h => h
  | k + 1, s, acc, o, hB, h => by
    have h2 := s.fixed_length 8
    have h3 := (s.fixed 8).fixed_length 8
    have h4 := Rd.row_length (Rd.pr2 s) room
    have h5 : (Rd.prOut s room).length ≤ (Rd.pr2 s).l.length := Rd.rowOut_length _ _
    unfold Rd.pr2 at h4 h5
    refine fi_ Q hQ k _ _ _ (by unfold Rd.pr2; omega) fun p hp => ?_
    rcases List.mem_append.1 hp with hp | hp
    · exact h p hp
    · rw [List.mem_singleton] at hp; subst hp; exact hQ _ _ _ (by omega)
set_option maxHeartbeats 4000000 in
theorem fk_ (hl : l.length ≤ 10000000) : Spec Tryz.prog 37 [byt l, int n] [] (fun _ : Unit => []) (fun _ => .tup [.agg (parseC l n).1.abs, int (parseC l n).2]) := by
 have hL : lots = 100000000000 := rfl
 have hof : (Rd.of l).l = l := rfl
 have q1 := (Rd.of l).fixed_length 8
 have q2 := ((Rd.of l).fixed 8).fixed_length 8
 have q3 := Rd.count_length (Rd.chgHead l) 4
 have q4 := Rd.countN_lt (Rd.chgHead l) 4
 unfold Rd.chgHead at q3
 rw [hof] at q1
 refine K_ Tryz.func37 rfl Tryz.ntmps37 rfl fun G w =>d_<|a_<|eb_ (H_ tabOk rfl) rfl rfl fun b4=>?_
 refine q_ 1 rfl<|g_<|c_<|d_<|d_<|a_<|q_ 3 rfl<|z_ (t := 13) rfl ?_ ?_
 ·intro hc13
  refine q_ 3 rfl<|g_<|c_<|M_ rfl<|d_<|a_<|b_ (L_ tabOk rfl rfl rfl rfl) rfl rfl<|e_ (D_ tabOk rfl rfl rfl u0_ rfl (Nat.le_of_ble_eq_true rfl) rfl rfl) rfl rfl<|q_ 1 rfl<|g_<|c_<|n_<|i_ nofun<|fC_ (rs := [.cell 4 26, .tmp 5]) rfl (RV.cell rfl (RV.cellA tabOk rfl rfl l0_ (by rfl)) (RV.tmp rfl RV.nil)) (Casts.cons (bO_ (Casts.keep (Casts.keep (Casts.nils (s := 33) (Casts.nils (s := 3) (Casts.nils (s := 3) Casts.refl)))))) Casts.refl) (()) sn_ ?_
  have e : parseC l n = (Chg.zero, 1) := by
   unfold parseC
   rw [if_pos (by omega)]
  rw [e]
  rfl
 intro hc13
 refine q_ 3 rfl<|g_<|c_<|o_ rfl ?_ ?_
 ·intro hc16
  refine d_<|a_<|b_ (L_ tabOk rfl rfl rfl rfl) rfl rfl<|e_ (D_ tabOk rfl rfl rfl u0_ rfl (Nat.le_of_ble_eq_true rfl) rfl rfl) rfl rfl<|q_ 1 rfl<|g_<|c_<|n_<|i_ nofun<|fC_ (rs := [.cell 4 26, .tmp 5]) rfl (RV.cell rfl (RV.cellA tabOk rfl rfl l0_ (by rfl)) (RV.tmp rfl RV.nil)) (Casts.cons (bO_ (Casts.keep (Casts.keep (Casts.nils (s := 33) (Casts.nils (s := 3) (Casts.nils (s := 3) Casts.refl)))))) Casts.refl) (()) sn_ ?_
  have e : parseC l n = (Chg.zero, 1) := by
   unfold parseC
   rw [if_pos (by omega)]
  rw [e]
  rfl
 intro hc16
 refine s_<|c_<|d_<|a_<|q_ 1 rfl<|t_ (read_s (l := l) (by omega)) Casts.refl (by kernel_rfl) rfl rfl rfl ?_
 refine dz_ (by repeat first|exact .nil|refine .blk (by repeat first|assumption|exact m0_|apply m1_) ?_|refine .rd (by repeat first|assumption|exact m0_|apply m1_) ?_|refine .pc (by repeat first|assumption|exact m0_|apply m1_) ?_|refine .rdpc (by repeat first|assumption|exact m0_|apply m1_) ?_) (fun _ => rfl) ?_
 intro p6
 refine q_ 1 rfl<|g_<|c_<|d_<|a_<|q_ 1 rfl<|t_ (c9_ (s := Rd.of l) (n := 8) (by show l.length ≤ _; omega) rfl) Casts.refl (by kernel_rfl) rfl rfl rfl ?_
 refine a2_ rfl i0_ (fun _ => rfl)<|fun _=>⟨_, u0_, b_ (aV_ rfl Tryz.underlying2 (by kernel_rfl)) rfl rfl ?_⟩
 refine q_ 1 rfl<|t_ (c9_ (s := (Rd.of l).fixed 8) (n := 8) (by omega) rfl) Casts.refl (by kernel_rfl) rfl rfl rfl ?_
 refine a2_ rfl i0_ (fun _ => rfl)<|fun _=>⟨_, u0_, b_ (aV_ rfl Tryz.underlying2 (by kernel_rfl)) rfl rfl ?_⟩
 refine b_ (L_ tabOk rfl rfl rfl rfl) rfl rfl<|eb_ (H_ tabOk rfl) rfl rfl fun b7=>?_
 refine e_ (D_ tabOk rfl rfl rfl u0_ rfl (Nat.le_of_ble_eq_true rfl) rfl rfl) rfl rfl<|g_<|c_<|d_<|d_<|a_<|q_ 1 rfl<|t_ (i8_ (s := Rd.chgHead l) (n := 4) (by unfold Rd.chgHead; omega)) Casts.refl (by kernel_rfl) rfl rfl rfl ?_
 refine a2_ rfl i1_ (fun _ => rfl)<|fun _=>⟨_, u1_, q_ 1 rfl<|g_<|c_<|u_<|eB_ 59 33<|W_ (ι := Rd × List Pnt × Nat × Value) (fun z => [own 59 33 z.2.2.2 (z.2.1.map Pnt.abs), .blk b7 26 [int (IntKind.i64.wrap ((Rd.of l).num 8 : Nat)), int (IntKind.i64.wrap (((Rd.of l).fixed 8).num 8 : Nat)), .v z.2.2.2, .v (.slice none 0 0), .v (.slice none 0 0)], rdA TR p6 z.1, .blk b4 26 (zabs [.int .i64 0, .int .i64 0, .slice none 0 0, .slice none 0 0, .slice none 0 0])]) (fun z => [(0, byt l), (1, int n), (4, ptr b4), (6, ptr p6), (7, ptr b7), (28, int (((Rd.chgHead l).countN 4) : Nat)), (29, int (z.2.2.1 : Nat))]) (fun z => z.2.2.1 ≤ ((Rd.chgHead l).countN 4) ∧ z.1.l.length ≤ l.length ∧ z.2.1.length = z.2.2.1 ∧ Rd.pnts (((Rd.chgHead l).countN 4) - z.2.2.1) z.1 z.2.1 = Rd.pnts ((Rd.chgHead l).countN 4) ((Rd.chgHead l).count 4) []) (fun z => ((Rd.chgHead l).countN 4) - z.2.2.1) ((Rd.chgHead l).count 4, [], 0, .slice none 0 0) (⟨Nat.zero_le _, by dsimp only; unfold Rd.chgHead; omega, rfl, rfl⟩) (by exact ⟨rfl, rfl, rfl, rfl, rfl, rfl, rfl, trivial⟩) sr_ ?_⟩
 intro z hz
 refine d_<|a_<|q_ 1 rfl<|g_<|c_<|d_<|o_ rfl ?_ ?_
 ·intro hc30
  have n1 := z.1.fixed_length 8
  have n2 := (z.1.fixed 8).fixed_length 32
  have n3 := Rd.out32 (z.1.fixed 8)
  refine s_<|c_<|d_<|u_<|d_<|a_<|q_ 1 rfl<|t_ (c9_ (s := z.1) (n := 8) (by omega) rfl) Casts.refl (by kernel_rfl) rfl rfl rfl ?_
  refine a2_ rfl i2_ (fun _ => rfl)<|fun _=>⟨_, u2_, b_ (aV_ rfl Tryz.underlying2 (by kernel_rfl)) rfl rfl ?_⟩
  refine b_ (L_ tabOk rfl rfl rfl rfl) rfl rfl<|eb_ (H_ tabOk rfl) rfl rfl fun b8=>?_
  refine e_ (D_ tabOk rfl rfl rfl u0_ rfl (Nat.le_of_ble_eq_true rfl) rfl rfl) rfl rfl<|g_<|c_<|d_<|U_ [b8, p6] (.q 0 (.q 1 (.q 2 (.e 3 (.e 4 .nil))))) (by kernel_rfl) (by kernel_rfl) ?_
  refine hx_ fun hx9 =>qx_ 1 hx9 rfl<|l_ rfl (gm_ tabOk Tryz.underlying40 rfl rfl) hx9 rfl rfl<|qx_ 1 hx9 rfl<|J_ rfl (fixed_s (s := (z.1.fixed 8)) (n := 32) (by omega)) (by simp [mids, It.mids]) Casts.refl (by kernel_rfl) rfl rfl rfl ?_
  refine a2_ rfl i3_ (fun _ => rfl)<|fun _=>⟨_, u3_, jA_ [] rfl (Eff.copy (L' := (Pnt.mk' (sg (z.1.num 8)) ((z.1.fixed 8).out 32)).abs) Tryz.underlying27 (by kernel_rfl) rfl rfl u0_ (by have : min (List.map (fun b => [Abs.v (bc b)]) ((z.1.fixed 8).out 32)).length 32 ≤ 32 := Nat.min_le_right _ _; show 1 + min (List.map (fun b => [Abs.v (bc b)]) ((z.1.fixed 8).out 32)).length 32 ≤ 33; omega) (d1_ _) (by exact pnt_copy n3)) (by simp) (by simp) rfl rfl ?_⟩
  rintro _ _ ⟨rfl, rfl⟩
  refine I_<|c_<|a_<|q_ 1 rfl<|b_ (j_ tabOk rfl rfl l2_ List.not_mem_nil rfl) rfl rfl<|b_ (x_ tabOk rfl rfl rfl l0_ List.not_mem_nil (Pnt.size _)) rfl rfl<|e_ (ax_ tabOk Tryz.underlying23 rfl rfl rfl (ct_ (Pnt.size _)) rfl rfl rfl) rfl rfl<|eb_ (bh_ (zs := (z.2.1 ++ [Pnt.mk' (sg (z.1.num 8)) ((z.1.fixed 8).out 32)]).map Pnt.abs) tabOk [_] (by rw [List.map_append]; rfl) Tryz.underlying23 rfl rfl rfl rfl rfl rfl (by intro c hc; rw [List.mem_singleton] at hc; subst hc; exact Pnt.ones _) (by unfold maxLen; simp only [List.length_map, List.length_cons, List.length_nil]; omega) (by rw [show Tryz.prog.bytesOf 59 = 40 by kernel_rfl]; simp only [List.length_map, List.length_cons, List.length_nil]; omega)) rfl rfl fun r44=>?_
  refine q_ 1 rfl<|e_ (dJ_ tabOk rfl rfl rfl rfl i1_ u2_ rfl rfl) rfl rfl<|g_<|r_<|c_<|a_<|b_ (v_ rfl rfl (by simp only [InR, lo, hi]; omega)) rfl rfl ?_
  refine q_ 1 rfl<|g_<|A_ (((z.1.fixed 8).fixed 32), z.2.1 ++ [Pnt.mk' (sg (z.1.num 8)) ((z.1.fixed 8).out 32)], z.2.2.1 + 1, r44) (by (dsimp only; omega)) (⟨by dsimp only; omega, by dsimp only; omega, by dsimp only; rw [List.length_append, hz.2.2.1]; rfl, by
   rw [← hz.2.2.2]
   obtain ⟨j, hj⟩ : ∃ j, ((Rd.chgHead l).countN 4) - z.2.2.1 = j + 1 := ⟨((Rd.chgHead l).countN 4) - z.2.2.1 - 1, by omega⟩
   rw [hj]
   show Rd.pnts (((Rd.chgHead l).countN 4) - (z.2.2.1 + 1)) _ _ = Rd.pnts (j + 1) _ _
   rw [show ((Rd.chgHead l).countN 4) - (z.2.2.1 + 1) = j by omega]
   rfl⟩) (by exact ⟨rfl, rfl, rfl, rfl, rfl, rfl, rfl, trivial⟩) (sk_ sr_)
 intro hc30
 refine T_<|i_ nofun<|i_ nofun<|S_<|c_<|d_ ?_
 have hzz : (z.2.1, z.1) = Rd.chgPts l := by
  unfold Rd.chgPts
  rw [← hz.2.2.2, show ((Rd.chgHead l).countN 4) - z.2.2.1 = 0 by omega]
  rfl
 have hzA := congrArg Prod.fst hzz
 have hzS := congrArg Prod.snd hzz
 dsimp only at hzA hzS
 refine ie_ [] 2 rfl u0_ rfl ?_
 rw [hzA, hzS]
 have w1 := fZ_ ((Rd.chgHead l).countN 4) ((Rd.chgHead l).count 4) []
 have w2 : (Rd.chgPts l).2.l.length ≤ l.length := by unfold Rd.chgPts; unfold Rd.chgHead at w1 ⊢; omega
 have w3 := eh_ n l.length ((Rd.chgPts l).2.countN 8) ((Rd.chgPts l).2.count 8) [] false
 have w4 := Rd.count_length (Rd.chgPts l).2 8
 have w5 : (Rd.chgPre l n).2.2.l.length ≤ l.length := by unfold Rd.chgPre; omega
 have w6 := eh_ n l.length ((Rd.chgPre l n).2.2.countN 64) ((Rd.chgPre l n).2.2.count 64) [] false
 have w7 := Rd.countN_lt (Rd.chgPts l).2 8
 have w8 := Rd.countN_lt (Rd.chgPre l n).2.2 64
 have w9 := Rd.count_length (Rd.chgPre l n).2.2 64
 have hg3 : (Rd.chg l n).points.length < 9223372036854775807 := by show (Rd.chgPts l).1.length < _; unfold Rd.chgPts; rw [w1.1, List.length_nil]; omega
 have hg1 : Long (Rd.chg l n).prepared := by
  refine ⟨by show (Rd.chgPre l n).1.length < _; unfold Rd.chgPre; rw [w3.1, List.length_nil]; omega, ?_⟩
  exact fi_ (fun p => p.batch.length ≤ 1000000) (B := 10000000) (fun a b l h => eR_) _ _ _ _ (by omega) (by simp)
 have hg2 : Long (Rd.chg l n).proposed := by
  refine ⟨by show (Rd.chgPro l n).1.length < _; unfold Rd.chgPro; rw [w6.1, List.length_nil]; omega, ?_⟩
  exact fi_ (fun p => p.batch.length ≤ 1000000) (B := 10000000) (fun a b l h => eR_) _ _ _ _ (by omega) (by simp)
 refine a_<|q_ 2 rfl<|g_<|c_<|d_<|a_<|q_ 3 rfl<|b_ (w_ rfl Tryz.underlying27 (List.length_map _)) rfl rfl<|t_ (iy_ (s := (Rd.chgPts l).2) (n := n) (most := 8) (room := (l.length : Nat)) (by omega) (by omega)) Casts.refl (by kernel_rfl) rfl rfl rfl ?_
 refine a2_ rfl i1_ (fun _ => rfl)<|fun _=>⟨_, u1_, q_ 4 rfl<|e_ (D_ tabOk rfl rfl rfl u0_ rfl (Nat.le_of_ble_eq_true rfl) rfl rfl) rfl rfl<|q_ 1 rfl<|g_<|c_<|d_<|a_<|q_ 3 rfl<|b_ (w_ rfl Tryz.underlying27 (List.length_map _)) rfl rfl<|t_ (iy_ (s := (Rd.chgPre l n).2.2) (n := n) (most := 64) (room := (l.length : Nat)) (by omega) (by omega)) Casts.refl (by kernel_rfl) rfl rfl rfl ?_⟩
 refine a2_ rfl i1_ (fun _ => rfl)<|fun _=>⟨_, u1_, q_ 4 rfl<|e_ (D_ tabOk rfl rfl rfl u0_ rfl (Nat.le_of_ble_eq_true rfl) rfl rfl) rfl rfl<|q_ 1 rfl<|g_<|c_<|d_<|d_<|a_<|q_ 1 rfl<|t_ (end_s (s := (Rd.chgPro l n).2.2)) Casts.refl (by kernel_rfl) rfl rfl rfl ?_⟩
 refine a2_ rfl i1_ (fun _ => rfl)<|fun _=>⟨_, u1_, q_ 2 rfl<|z_ (t := 68) rfl ?_ ?_⟩
 ·intro hc68
  refine q_ 11 rfl<|g_<|c_<|M_ rfl<|d_<|a_<|b_ (L_ tabOk rfl rfl rfl rfl) rfl rfl<|e_ (D_ tabOk rfl rfl rfl u2_ rfl (Nat.le_of_ble_eq_true rfl) rfl rfl) rfl rfl<|q_ 1 rfl<|g_<|c_<|n_<|i_ nofun<|fC_ (rs := [.cell 4 26, .tmp 5]) rfl (RV.cell rfl (RV.cellA tabOk rfl rfl l2_ (by rfl)) (RV.tmp rfl RV.nil)) (Casts.cons (bO_ (Casts.keep (Casts.keep (Casts.nils (s := 33) (Casts.nils (s := 3) (Casts.nils (s := 3) Casts.refl)))))) Casts.refl) (()) sn_ ?_
  have e : parseC l n = (Chg.zero, 2) := by
   unfold parseC
   rw [if_neg (by omega), if_pos (by exact .inl (by assumption))]
  rw [e]
  rfl
 intro hc68
 refine q_ 3 rfl<|aY_ (t := 71) rfl ?_ ?_
 ·intro hc71
  refine q_ 8 rfl<|g_<|c_<|M_ rfl<|d_<|a_<|b_ (L_ tabOk rfl rfl rfl rfl) rfl rfl<|e_ (D_ tabOk rfl rfl rfl u2_ rfl (Nat.le_of_ble_eq_true rfl) rfl rfl) rfl rfl<|q_ 1 rfl<|g_<|c_<|n_<|i_ nofun<|fC_ (rs := [.cell 4 26, .tmp 5]) rfl (RV.cell rfl (RV.cellA tabOk rfl rfl l2_ (by rfl)) (RV.tmp rfl RV.nil)) (Casts.cons (bO_ (Casts.keep (Casts.keep (Casts.nils (s := 33) (Casts.nils (s := 3) (Casts.nils (s := 3) Casts.refl)))))) Casts.refl) (()) sn_ ?_
  have e : parseC l n = (Chg.zero, 2) := by
   unfold parseC
   rw [if_neg (by omega), if_pos (by exact .inr (.inl (by assumption)))]
  rw [e]
  rfl
 intro hc71
 refine q_ 3 rfl<|aY_ (t := 74) rfl ?_ ?_
 ·intro hc74
  refine q_ 5 rfl<|g_<|c_<|M_ rfl<|d_<|a_<|b_ (L_ tabOk rfl rfl rfl rfl) rfl rfl<|e_ (D_ tabOk rfl rfl rfl u2_ rfl (Nat.le_of_ble_eq_true rfl) rfl rfl) rfl rfl<|q_ 1 rfl<|g_<|c_<|n_<|i_ nofun<|fC_ (rs := [.cell 4 26, .tmp 5]) rfl (RV.cell rfl (RV.cellA tabOk rfl rfl l2_ (by rfl)) (RV.tmp rfl RV.nil)) (Casts.cons (bO_ (Casts.keep (Casts.keep (Casts.nils (s := 33) (Casts.nils (s := 3) (Casts.nils (s := 3) Casts.refl)))))) Casts.refl) (()) sn_ ?_
  have e : parseC l n = (Chg.zero, 2) := by
   unfold parseC
   rw [if_neg (by omega), if_pos (by exact .inr (.inr (.inl (by assumption))))]
  rw [e]
  rfl
 intro hc74
 refine b_ (x_ tabOk rfl rfl rfl l0_ List.not_mem_nil rfl) rfl rfl<|q_ 1 rfl<|t_ (jh_ (c := Rd.chg l n) (n := n) hg1 hg2 hg3) Casts.refl (by kernel_rfl) rfl rfl rfl ?_
 refine ap_<|fun _=>q_ 2 rfl<|g_<|c_<|o_ rfl ?_ ?_
 ·intro hc79
  refine d_<|a_<|b_ (L_ tabOk rfl rfl rfl rfl) rfl rfl<|e_ (D_ tabOk rfl rfl rfl u2_ rfl (Nat.le_of_ble_eq_true rfl) rfl rfl) rfl rfl<|q_ 1 rfl<|g_<|c_<|n_<|i_ nofun<|fC_ (rs := [.cell 4 26, .tmp 5]) rfl (RV.cell rfl (RV.cellA tabOk rfl rfl l2_ (by rfl)) (RV.tmp rfl RV.nil)) (Casts.cons (bO_ (Casts.keep (Casts.keep (Casts.nils (s := 33) (Casts.nils (s := 3) (Casts.nils (s := 3) Casts.refl)))))) Casts.refl) (()) sn_ ?_
  have e : parseC l n = (Chg.zero, 2) := by
   unfold parseC
   rw [if_neg (by omega), if_pos (by exact .inr (.inr (.inr (by assumption))))]
  rw [e]
  rfl
 intro hc79
 refine s_<|c_<|d_<|a_<|b_ (x_ tabOk rfl rfl rfl l0_ List.not_mem_nil rfl) rfl rfl<|e_ (D_ tabOk rfl rfl rfl u2_ rfl (Nat.le_of_ble_eq_true rfl) rfl rfl) rfl rfl<|q_ 1 rfl<|g_<|c_<|n_<|f_ (rs := [.cell 4 26, .tmp 5]) rfl (RV.cell rfl (RV.cellA tabOk rfl rfl l2_ (by rfl)) (RV.tmp rfl RV.nil)) (()) sn_ ?_
 have e : parseC l n = (Rd.chg l n, 0) := by
  unfold parseC
  rw [if_neg (by omega), if_neg (by
   intro h
   rcases h with h | h | h | h
   ·exact hc68 h
   ·exact Bool.noConfusion (h.symm.trans hc71)
   ·exact Bool.noConfusion (h.symm.trans hc74)
   exact hc79 h)]
 rw [e]
 rfl
end
end Go.Proofs.YtggajaigfkekhaaGreat.A
namespace Go.Proofs.YtggajaigfkekhaaGreat
open Go.RowKit
def Rd.At (s : Rd) (l : List UInt8) : Prop := s.e = 0 ∧ s.l = l
theorem fx_ {s : Rd} {x r : List UInt8} (h : s.At (x ++ r)) {n : Int} (hn : n = x.length) : (s.fixed n).At r ∧ s.out n = x := by
  obtain ⟨h1, h2⟩ := h
  have hb : ¬ s.bad n := by
    unfold Rd.bad
    rw [h2, List.length_append]
    omega
  have ht : n.toNat = x.length := by omega
  unfold Rd.At Rd.fixed Rd.out
  simp only [h1, ne_eq, not_true_eq_false, if_false, hb, h2, ht]
  simp
theorem bZ_ {s : Rd} {r : List UInt8} {v k : Nat} (h : s.At (beBytes v k ++ r)) (hv : v < 256 ^ k) {n : Int} (hn : n = k) : (s.fixed n).At r ∧ s.num n = v := by
  obtain ⟨h1, h2⟩ := fx_ h (n := n) (by rw [m_]; exact hn)
  exact ⟨h1, by rw [Rd.num, h2, beVal_be v k hv]⟩
theorem hE_ {s : Rd} {x r : List UInt8} {most : Int} (h : s.At (rowB x ++ r)) (hx : x.length ≤ most) (hx2 : x.length < 4294967296) : (s.row most).At r ∧ s.rowOut most = x := by
  unfold rowB at h
  rw [List.append_assoc] at h
  obtain ⟨h1, h2⟩ := bZ_ h (by omega) (n := 4) rfl
  obtain ⟨h3, h4⟩ := fx_ h1 (n := s.num 4) (by rw [h2])
  have hm : ¬ most < s.num 4 := by rw [h2]; omega
  unfold Rd.row Rd.rowOut
  simp only [h1.1, ne_eq, not_true_eq_false, if_false, hm]
  exact ⟨h3, h4⟩
theorem dA_ {a : Int} (h : InR .i64 a) : sg (u64 a) = a := by
  obtain ⟨h1, h2⟩ := h
  simp only [lo, hi] at h1 h2
  unfold sg u64
  simp [IntKind.wrap, IntKind.bits, IntKind.signed]
  split <;> omega
theorem im_ {a : Int} (h : 0 ≤ a) (h2 : a < 18446744073709551616) : ((u64 a : Nat) : Int) = a := by
  unfold u64
  omega
theorem eM_ (b : ByteArray) : txtB b.data.toList = b := by
  unfold txtB
  simp
structure Core.Back (c : Core) : Prop where
  client : 0 ≤ c.client ∧ c.client < 256
  stamp : InR .i64 c.stamp
  op : 0 ≤ c.op ∧ c.op < 256
  a : InR .i64 c.a
  b : InR .i64 c.b
theorem at_core {s : Rd} {c : Core} {most : Int} (h : s.At c.bytes) (hc : c.Back) (hl : (c.bytes.length : Int) ≤ most) (hl2 : c.bytes.length < 4294967296) : (s.coreEnd most).At [] ∧ s.core most = c := by
  have e1 : c.letter.data.toList.length = c.letter.size := by simp
  have e2 : c.text.data.toList.length = c.text.size := by simp
  have hlen := Core.bytes_length c
  unfold Core.bytes at h
  simp only [List.append_assoc] at h
  have u1 := im_ hc.client.1 (by have := hc.client.2; omega)
  have u2 := im_ hc.op.1 (by have := hc.op.2; omega)
  have g1 := hc.client.2
  have g2 := hc.op.2
  obtain ⟨a1, b1⟩ := bZ_ h (by omega) (n := 1) rfl
  obtain ⟨a2, b2⟩ := bZ_ a1 (by have := ck_ c.stamp; omega) (n := 8) rfl
  obtain ⟨a3, b3⟩ := bZ_ a2 (by omega) (n := 1) rfl
  obtain ⟨a4, b4⟩ := hE_ (most := most) a3 (by omega) (by omega)
  obtain ⟨a5, b5⟩ := bZ_ a4 (by have := ck_ c.a; omega) (n := 8) rfl
  obtain ⟨a6, b6⟩ := bZ_ a5 (by have := ck_ c.b; omega) (n := 8) rfl
  rw [← List.append_nil (rowB c.text.data.toList)] at a6
  obtain ⟨a7, b7⟩ := hE_ (most := most) a6 (by omega) (by omega)
  refine ⟨a7, ?_⟩
  unfold Rd.core
  unfold Rd.c6 Rd.c4 Rd.c3
  rw [b1, b2, b3, b4, b5, b6, b7, u1, u2, dA_ hc.stamp, dA_ hc.a, dA_ hc.b, eM_, eM_]
structure Ent.Back (e : Ent) : Prop where
  core : e.core.Back
  mask : e.mask < 256
  len : e.core.bytes.length ≤ 100000
theorem ga_ {L : Int} : ∀ (es : List Ent) (s : Rd) (acc : List Ent), (∀ e ∈ es, e.Back ∧ (e.core.bytes.length : Int) ≤ L) → s.At (es.flatMap Ent.bytes) → ∃ t : Rd, t.At [] ∧ s.ents L es.length acc = some (acc ++ es, t)
  | [], s, acc, _, h => ⟨s, h, by simp [Rd.ents]⟩
  | e :: es, s, acc, hall, h => by
    obtain ⟨he, hL⟩ := hall e List.mem_cons_self
    have hlen := he.len
    rw [List.flatMap_cons, Ent.bytes, List.append_assoc] at h
    obtain ⟨a1, b1⟩ := hE_ (most := L) h hL (by omega)
    obtain ⟨a2, b2⟩ := bZ_ a1 (by have := he.mask; omega) (n := 1) rfl
    obtain ⟨c1, c2⟩ := at_core (s := Rd.of e.core.bytes) (c := e.core) (most := (e.core.bytes.length : Nat)) ⟨rfl, rfl⟩ he.core (Int.le_refl _) (by omega)
    have hok : okOf e.core.bytes (e.core.bytes.length : Nat) = true := by
      refine decide_eq_true ?_
      unfold Rd.end_
      rw [c1.1, c1.2]
      simp
    have hco : coreOf e.core.bytes (e.core.bytes.length : Nat) = e.core := c2
    obtain ⟨t, ht, hr⟩ := ga_ es ((s.row L).fixed 1) (acc ++ [e]) (fun x hx => hall x (List.mem_cons_of_mem _ hx)) a2
    refine ⟨t, ht, ?_⟩
    rw [List.length_cons]
    simp only [Rd.ents]
    rw [b1, hok, if_neg (by decide), hco, b2]
    rw [List.append_assoc] at hr
    exact hr
theorem of_if {b : Bool} {r : Int} (h : (if b = true then (15 : Int) else r) = 0) : r = 0 := by
  cases b with
  | false => simpa using h
  | true => simp at h
theorem hA_ {n : Int} : ∀ (es : List Ent) (p : Option Int), chkL n p es = 0 → ∀ e ∈ es, e.core.check n = 0 ∧ e.mask < 2 ^ n.toNat
  | [], _, _ => by simp
  | e :: es, p, h => by
    simp only [chkL] at h
    split at h
    · rename_i h1; exact absurd h h1
    · rename_i h1
      split at h
      · exact absurd h (by decide)
      · rename_i h2
        intro x hx
        rcases List.mem_cons.1 hx with rfl | hx
        · exact ⟨Decidable.not_not.1 h1, by omega⟩
        · exact hA_ es _ (of_if h) x hx
theorem check_ok {c : Core} {n : Int} (h : c.check n = 0) : 1 ≤ n ∧ n ≤ 7 ∧ n ≤ c.client ∧ c.client < n + 4 ∧ 1 ≤ c.stamp ∧ c.stamp ≤ 1099511627776 ∧ 1 ≤ c.op ∧ c.op ≤ 9 ∧ nameB c.letter = true ∧ c.text.size ≤ 200 := by
  unfold Core.check at h
  split at h
  · exact absurd h (by decide)
  · split at h
    · exact absurd h (by decide)
    · split at h
      · exact absurd h (by decide)
      · split at h
        · exact absurd h (by decide)
        · split at h
          · exact absurd h (by decide)
          · rename_i h4 _
            rw [Bool.not_eq_false] at h4
            exact ⟨by omega, by omega, by omega, by omega, by omega, by omega, by omega, by omega, h4, by omega⟩
theorem hR_ {es : List Ent} {n : Int} (hs : ∀ e ∈ es, e.Lits) (h : chkB es n = 0) : parseS (batchB es) n = (es, 0) := by
  have h0 := h
  unfold chkB at h
  split at h
  · exact absurd h (by decide)
  · rename_i hn
    split at h
    · exact absurd h (by decide)
    · rename_i hlen
      have hall := hA_ es none h
      have hback : ∀ e ∈ es, e.Back ∧ (e.core.bytes.length : Int) ≤ ((batchB es).length : Nat) := fun e he => by
        obtain ⟨k1, k2⟩ := hall e he
        obtain ⟨g1, g2, g3, g4, g5, g6, g7, g8, g9, g10⟩ := check_ok k1
        have hl := hs e he
        have hsz : e.core.letter.size ≤ 16 := by
          unfold nameB at g9
          simp only [Bool.and_eq_true, decide_eq_true_eq] at g9
          exact g9.2
        have hm : e.mask < 128 + 1 := by
          have : 2 ^ n.toNat ≤ 2 ^ 7 := Nat.pow_le_pow_right (by decide) (by omega)
          omega
        have hlen2 := Core.bytes_length e.core
        refine ⟨⟨⟨⟨by omega, by omega⟩, hl.stamp, ⟨by omega, by omega⟩, hl.a, hl.b⟩, by omega, by omega⟩, ?_⟩
        have : e.bytes.length ≤ (es.flatMap Ent.bytes).length := by
          obtain ⟨s1, s2, rfl⟩ := List.append_of_mem he
          simp only [List.flatMap_append, List.flatMap_cons, List.length_append]
          omega
        have h7 : e.core.bytes.length ≤ e.bytes.length := by
          unfold Ent.bytes rowB
          simp only [List.length_append]
          omega
        unfold batchB
        rw [List.length_append]
        omega
      have hat : (Rd.of (batchB es)).At (beBytes es.length 2 ++ es.flatMap Ent.bytes) := ⟨rfl, rfl⟩
      obtain ⟨a1, b1⟩ := bZ_ hat (by omega) (n := 2) rfl
      obtain ⟨t, ht, hr⟩ := ga_ (L := ((batchB es).length : Nat)) es ((Rd.of (batchB es)).fixed 2) [] hback a1
      have hmany : manyOf (batchB es) = es.length := by
        unfold manyOf
        rw [b1]
        have : es.length ≤ (batchB es).length + 1 := by
          have : es.length ≤ (es.flatMap Ent.bytes).length := by
            clear h h0 hlen hall hback hat a1 b1 ht hr hs
            induction es with
            | nil => simp
            | cons e es ih =>
              rw [List.flatMap_cons, List.length_append, List.length_cons]
              have : 1 ≤ e.bytes.length := by
                unfold Ent.bytes
                rw [List.length_append, m_]
                omega
              omega
          unfold batchB
          rw [List.length_append]
          omega
        omega
      have hend : t.end_ = 0 := by
        unfold Rd.end_
        rw [ht.1, ht.2]
        simp
      unfold parseS
      rw [hmany, hr]
      simp only [parse2, List.nil_append]
      rw [if_neg (by simp [hend]), if_neg (by simp [h0])]
end Go.Proofs.YtggajaigfkekhaaGreat
