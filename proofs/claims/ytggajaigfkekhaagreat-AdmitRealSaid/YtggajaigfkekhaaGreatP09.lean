/-
  Packed out of the texts: CLaw, PntEq, C10, AOpenE, COpen, C11, K1, A20, A24, A25, A26, AD5, A33, A17, A31, AD6, AD7, AD8, AD9.
-/
import Derived.Test.YtggajaigfkekhaaGreatP08
import Derived.DataShut
import Derived.Lib.AppendZerosOnto
import Derived.Lib.Overlaps
import Derived.Sort.Walk0
import Derived.Maps.RangeRun
set_option maxRecDepth 100000
set_option linter.unusedSimpArgs false
set_option linter.unusedVariables false
namespace Go.Proofs.YtggajaigfkekhaaGreat.A
open Go.RowKit
/-! ### What is written reads back -/
structure Prf.Lits (p : Prf) : Prop where
  seq : InR .i64 p.seq
  view : InR .i64 p.view
  all : ∀ e ∈ p.batch, e.Lits
structure Chg.Lits (c : Chg) : Prop where
  view : InR .i64 c.view
  low : InR .i64 c.low
  pts : ∀ p ∈ c.points, InR .i64 p.seq
  prep : ∀ p ∈ c.prepared, p.Lits
  prop : ∀ p ∈ c.proposed, p.Lits
theorem fy_ {s : Rd} {r : List UInt8} {k : Nat} {most : Int} (h : s.At (beBytes k 2 ++ r)) (hk : k < 65536) (hm : (k : Int) ≤ most) : (s.count most).At r ∧ s.countN most = k := by
  obtain ⟨h1, h2⟩ := bZ_ h (by omega) (n := 2) rfl
  have h3 : ¬ ((s.fixed 2).e = 0 ∧ most < s.num 2) := by rw [h2]; omega
  unfold Rd.count Rd.countN
  rw [if_neg h3, if_neg h3]
  exact ⟨h1, h2⟩
theorem d5_ (a : Int) : u64 a < 256 ^ 8 := by
  have := ck_ a
  omega
theorem Pnt.mk_self (p : Pnt) : Pnt.mk' p.seq p.dig = p := by
  obtain ⟨a, d, h⟩ := p
  simp only [Pnt.mk', Pnt.mk.injEq, true_and]
  exact pad_all h
theorem f0_ {r : List UInt8} : ∀ (ps : List Pnt) (s : Rd) (acc : List Pnt), (∀ p ∈ ps, InR .i64 p.seq) → s.At (ps.flatMap Pnt.bytes ++ r) → ∃ t : Rd, t.At r ∧ Rd.pnts ps.length s acc = (acc ++ ps, t)
  | [], s, acc, _, h => ⟨s, h, by simp [Rd.pnts]⟩
  | p :: ps, s, acc, hall, h => by
    have e1 : (p :: ps).flatMap Pnt.bytes ++ r = beBytes (u64 p.seq) 8 ++ (p.dig ++ (ps.flatMap Pnt.bytes ++ r)) := by simp [Pnt.bytes, long8]
    rw [e1] at h
    obtain ⟨a1, b1⟩ := bZ_ h (d5_ _) (n := 8) rfl
    obtain ⟨a2, b2⟩ := fx_ a1 (n := 32) (by rw [p.len]; rfl)
    obtain ⟨t, ht, hr⟩ := f0_ ps ((s.fixed 8).fixed 32) (acc ++ [p]) (fun x hx => hall x (List.mem_cons_of_mem _ hx)) a2
    refine ⟨t, ht, ?_⟩
    rw [List.length_cons]
    unfold Rd.pnts
    rw [b1, b2, dA_ (hall p List.mem_cons_self), Pnt.mk_self, hr]
    simp
theorem ei_ {n room : Int} {r : List UInt8} : ∀ (ps : List Prf) (s : Rd) (acc : List Prf), (∀ p ∈ ps, p.Lits ∧ chkB p.batch n = 0 ∧ ((batchB p.batch).length : Int) ≤ room ∧ (batchB p.batch).length < 4294967296) → s.At (ps.flatMap Prf.bytes ++ r) →
    ∃ t : Rd, t.At r ∧ Rd.prfs n room ps.length s acc false = (acc ++ ps, false, t)
  | [], s, acc, _, h => ⟨s, h, by simp [Rd.prfs]⟩
  | p :: ps, s, acc, hall, h => by
    obtain ⟨g1, g2, g3, g4⟩ := hall p List.mem_cons_self
    have e1 : (p :: ps).flatMap Prf.bytes ++ r = beBytes (u64 p.seq) 8 ++ (beBytes (u64 p.view) 8 ++ (rowB (batchB p.batch) ++ (ps.flatMap Prf.bytes ++ r))) := by simp [Prf.bytes, long8]
    rw [e1] at h
    obtain ⟨a1, b1⟩ := bZ_ h (d5_ _) (n := 8) rfl
    obtain ⟨a2, b2⟩ := bZ_ a1 (d5_ _) (n := 8) rfl
    obtain ⟨a3, b3⟩ := hE_ (most := room) a2 g3 g4
    obtain ⟨t, ht, hr⟩ := ei_ ps ((Rd.pr2 s).row room) (acc ++ [p]) (fun x hx => hall x (List.mem_cons_of_mem _ hx)) a3
    refine ⟨t, ht, ?_⟩
    have b3' : Rd.prOut s room = batchB p.batch := b3
    have b2' : (Rd.pr1 s).num 8 = u64 p.view := b2
    rw [List.length_cons]
    unfold Rd.prfs
    rw [b1, b2', b3', hR_ g1.all g2, dA_ g1.seq, dA_ g1.view]
    have e2 : (⟨p.seq, p.view, p.batch⟩ : Prf) = p := rfl
    simp only [e2]
    rw [show (false || decide ((0 : Int) ≠ 0)) = false from rfl, hr]
    simp
theorem flat_le {α : Type} {f : α → List UInt8} {xs : List α} {x : α} (h : x ∈ xs) : (f x).length ≤ (xs.flatMap f).length := by
  obtain ⟨s1, s2, rfl⟩ := List.append_of_mem h
  simp only [List.flatMap_append, List.flatMap_cons, List.length_append]
  omega
theorem Prf.batch_le (p : Prf) : (batchB p.batch).length ≤ p.bytes.length := by
  unfold Prf.bytes rowB
  simp only [List.length_append]
  omega
theorem eY_ {c : Chg} {n : Int} (h : c.check n = 0) : ¬ (n < 1 ∨ 7 < n) ∧ c.Right n := by
  unfold Chg.check at h
  split at h
  · exact absurd h (by decide)
  · rename_i h1
    refine ⟨h1, ?_⟩
    cases h2 : yes (c.Right n) with
    | true => exact P_.1 h2
    | false => rw [h2] at h; exact absurd h (by decide)
theorem cI_ {c : Chg} {n : Int} (hs : c.Lits) (h : c.check n = 0) (hl : c.bytes.length < 4294967296) : parseC c.bytes n = (c, 0) := by
  obtain ⟨hn, hr⟩ := eY_ h
  obtain ⟨r1, r2, r3, ⟨r4, r5, r6, r7, r8⟩, ⟨r9, r10, r11⟩, ⟨r12, r13, r14⟩⟩ := hr
  have e0 : c.bytes = beBytes (u64 c.view) 8 ++ (beBytes (u64 c.low) 8 ++ (beBytes c.points.length 2 ++ (c.points.flatMap Pnt.bytes ++ (beBytes c.prepared.length 2 ++ (c.prepared.flatMap Prf.bytes ++ (beBytes c.proposed.length 2 ++ (c.proposed.flatMap Prf.bytes ++ []))))))) := by
    unfold Chg.bytes Chg.head prfsB
    rw [List.take_length]
    simp [long8]
  have hall : ∀ ps : List Prf, (∀ p ∈ ps, p.Lits) → (∀ p ∈ ps, p.fits c.low c.view n) → (ps.flatMap Prf.bytes).length ≤ c.bytes.length → ∀ p ∈ ps, p.Lits ∧ chkB p.batch n = 0 ∧ ((batchB p.batch).length : Int) ≤ (c.bytes.length : Nat) ∧ (batchB p.batch).length < 4294967296 := fun ps h1 h2 h3 p hp => by
    have h4 := p.batch_le
    have h5 := flat_le (f := Prf.bytes) hp
    exact ⟨h1 p hp, (h2 p hp).2.2.2.2, by omega, by omega⟩
  have hat : (Rd.of c.bytes).At (beBytes (u64 c.view) 8 ++ _) := ⟨rfl, e0⟩
  have hlen := congrArg List.length e0
  simp only [List.length_append] at hlen
  obtain ⟨a1, b1⟩ := bZ_ hat (d5_ _) (n := 8) rfl
  obtain ⟨a2, b2⟩ := bZ_ a1 (d5_ _) (n := 8) rfl
  have a2' : (Rd.chgHead c.bytes).At _ := a2
  obtain ⟨a3, b3⟩ := fy_ (most := 4) a2' (by omega) (by omega)
  obtain ⟨t1, a4, b4⟩ := f0_ c.points _ [] hs.pts a3
  have hp1 : Rd.chgPts c.bytes = (c.points, t1) := by unfold Rd.chgPts; rw [b3, b4]; rfl
  obtain ⟨a5, b5⟩ := fy_ (most := 8) a4 (by omega) (by omega)
  obtain ⟨t2, a6, b6⟩ := ei_ (n := n) (room := (c.bytes.length : Nat)) c.prepared _ [] (hall _ hs.prep r11 (by omega)) a5
  have hp2 : Rd.chgPre c.bytes n = (c.prepared, false, t2) := by unfold Rd.chgPre; rw [hp1]; dsimp only; rw [b5, b6]; rfl
  obtain ⟨a7, b7⟩ := fy_ (most := 64) a6 (by omega) (by omega)
  obtain ⟨t3, a8, b8⟩ := ei_ (n := n) (room := (c.bytes.length : Nat)) c.proposed _ [] (hall _ hs.prop r14 (by omega)) a7
  have hp3 : Rd.chgPro c.bytes n = (c.proposed, false, t3) := by unfold Rd.chgPro; rw [hp2]; dsimp only; rw [b7, b8]; rfl
  have hend : t3.end_ = 0 := by
    unfold Rd.end_
    rw [a8.1, a8.2]
    simp
  have hc : Rd.chg c.bytes n = c := by
    unfold Rd.chg
    rw [hp1, hp2, hp3, b1, b2, dA_ hs.view, dA_ hs.low]
  unfold parseC
  rw [if_neg hn, hc, hp2, hp3, if_neg (by
    intro h9
    rcases h9 with h9 | h9 | h9 | h9
    · exact h9 hend
    · cases h9
    · cases h9
    · exact h9 h)]
/-! ### Both Parses -/
theorem dT_ {m : Nat} (p : Pnt) (h : InR .i64 p.seq) : Tryz.prog.keyLits (m + 3) 59 (.int .i64 p.seq :: p.dig.map bc) = some (.int .i64 p.seq :: p.dig.map litB) := by
  have h1 : (Lit.int .i64 p.seq).wf = true := by
    simp only [InR, lo, hi] at h
    simp only [Lit.wf, Bool.and_eq_true, decide_eq_true_eq]
    exact ⟨by show (-9223372036854775808 : Int) ≤ _; omega, by show _ ≤ (9223372036854775807 : Int); omega⟩
  have c1 : Tryz.prog.cellsOf 59 = 33 := by kernel_rfl
  have c2 : Tryz.prog.cellsOf 40 = 32 := by kernel_rfl
  have c3 : Tryz.prog.cellsOf 2 = 1 := by kernel_rfl
  have h2 := eT_ (m := m) Tryz.underlying40 c2 p.dig p.len
  have h3 : Tryz.prog.keyLits (m + 2) 2 [.int .i64 p.seq] = some [.int .i64 p.seq] := by
    simp [Program.keyLits, Tryz.underlying2, h1]
  have hl : (p.dig.map bc).length = 32 := by simp [p.len]
  have h5 : (p.dig.map bc).take 32 = p.dig.map bc := List.take_of_length_le (by omega)
  unfold Program.keyLits
  rw [Tryz.underlying59]
  simp [c1, c2, c3, h2, h3, h5, p.len]
theorem cG_ (p : Pnt) : (Value.agg (.int .i64 p.seq :: p.dig.map bc).toArray).formed Tryz.prog 59 = true := by
  have c1 : Tryz.prog.cellsOf 59 = 33 := by kernel_rfl
  simp [Value.formed, Tryz.underlying59, c1, p.len]
theorem neqP {p q : Pnt} (hp : InR .i64 p.seq) (hq : InR .i64 q.seq) (w : World) : (binOp .neq 59 (.agg (Value.int .i64 p.seq :: p.dig.map bc).toArray) (.agg (Value.int .i64 q.seq :: q.dig.map bc).toArray)).run Tryz.prog w = .ok (.bool (decide (p ≠ q))) w :=
  dC_ (m := 10) (by decide) (by kernel_rfl) (cG_ p) (cG_ q) (dT_ (m := 0) p hp) (dT_ (m := 0) q hq) _ (by
    rw [decide_eq_true_eq]
    constructor
    · intro h h2
      simp only [List.cons.injEq, Lit.int.injEq, true_and] at h2
      exact h (Pnt.same h2.1 (fn_ h2.2))
    · intro h h2
      exact h (by rw [h2])) w
theorem eqP {p q : Pnt} (hp : InR .i64 p.seq) (hq : InR .i64 q.seq) (w : World) : (binOp .eql 59 (.agg (Value.int .i64 p.seq :: p.dig.map bc).toArray) (.agg (Value.int .i64 q.seq :: q.dig.map bc).toArray)).run Tryz.prog w = .ok (.bool (decide (p = q))) w :=
  fS_ (m := 10) (by decide) (by kernel_rfl) (cG_ p) (cG_ q) (dT_ (m := 0) p hp) (dT_ (m := 0) q hq) _ (by
    rw [decide_eq_true_eq]
    constructor
    · intro h
      rw [h]
    · intro h2
      simp only [List.cons.injEq, Lit.int.injEq, true_and] at h2
      exact Pnt.same h2.1 (fn_ h2.2)) w
theorem hQ_ (d : List UInt8) : plains (digA d) = some (d.map bc) := by
  induction d with
  | nil => rfl
  | cons b d ih =>
    show (match plains (digA d) with | some us => some (bc b :: us) | none => none) = _
    rw [ih]; rfl
theorem cF_ (p : Pnt) : plains p.abs = some (.int .i64 p.seq :: p.dig.map bc) := by
  show (match plains (digA p.dig) with | some us => some (Value.int .i64 p.seq :: us) | none => none) = _
  rw [hQ_]
theorem Prf.same {p q : Prf} (h1 : p.seq = q.seq) (h2 : p.view = q.view) (h3 : p.batch = q.batch) : p = q := by
  obtain ⟨a, b, c⟩ := p
  obtain ⟨d, e, f⟩ := q
  dsimp only at h1 h2 h3
  rw [h1, h2, h3]
theorem Chg.same {p q : Chg} (h1 : p.view = q.view) (h2 : p.low = q.low) (h3 : p.points = q.points) (h4 : p.prepared = q.prepared) (h5 : p.proposed = q.proposed) : p = q := by
  obtain ⟨a, b, c, d, e⟩ := p
  obtain ⟨a2, b2, c2, d2, e2⟩ := q
  dsimp only at h1 h2 h3 h4 h5
  rw [h1, h2, h3, h4, h5]
section
variable {ps qs : List Prf} {c d : Chg}
set_option maxHeartbeats 2000000 in
theorem dB_ (hl : Long ps) (h1 : ∀ p ∈ ps, p.Lits) (h2 : ∀ q ∈ qs, q.Lits) : Spec Tryz.prog 45 [prfsA ps, prfsA qs] [] (fun _ : Unit => []) (fun _ => boo (yes (ps = qs))) := by
 have hn := hl.1
 refine K_ Tryz.func45 rfl Tryz.ntmps45 rfl fun G w =>d_<|a_<|q_ 1 rfl<|g_<|c_<|d_<|d_<|a_<|q_ 1 rfl<|b_ (w_ rfl Tryz.underlying24 (List.length_map _)) rfl rfl<|q_ 1 rfl<|b_ (w_ rfl Tryz.underlying24 (List.length_map _)) rfl rfl<|q_ 1 rfl<|g_<|c_<|o_ rfl ?_ ?_
 ·intro hc10
  refine d_<|a_<|q_ 1 rfl<|g_<|c_<|n_<|i_ nofun<|f_ (rs := [.tmp 4]) rfl (RV.tmp rfl RV.nil) (()) sn_<|al_ fun h => ?_
  subst h
  exact hc10 rfl
 intro hc10
 have hle : ps.length = qs.length := by omega
 refine s_<|c_<|d_<|d_<|a_<|q_ 1 rfl<|b_ (w_ rfl Tryz.underlying24 (List.length_map _)) rfl rfl<|q_ 1 rfl<|g_<|c_<|u_<|W_ (ι := Nat) (fun z => []) (fun z => [(0, prfsA ps), (1, prfsA qs), (12, int (ps.length : Nat)), (13, int (z : Nat))]) (fun z => z ≤ ps.length ∧ ps.take z = qs.take z) (fun z => ps.length - z) (0) (⟨Nat.zero_le _, by simp⟩) (by exact ⟨rfl, rfl, rfl, rfl, trivial⟩) sn_ ?_
 intro z hz
 refine d_<|a_<|q_ 1 rfl<|g_<|c_<|d_<|o_ rfl ?_ ?_
 rotate_left
 ·intro hc14
  refine T_<|i_ nofun<|i_ nofun<|S_<|c_<|d_<|a_<|q_ 1 rfl<|g_<|c_<|n_<|f_ (rs := [.tmp 4]) rfl (RV.tmp rfl RV.nil) (()) sn_<|ba_ ⟨fun _ => ?_, fun _ => rfl⟩
  have h9 := hz.2
  rw [List.take_of_length_le (by omega), List.take_of_length_le (by omega)] at h9
  exact h9
 intro hc14
 have hlt : z < ps.length := by omega
 have hlt2 : z < qs.length := by omega
 refine s_<|c_<|d_<|u_<|d_<|a_<|q_ 2 rfl<|g_<|c_<|d_<|U_ [] (.q 0 (.q 1 (.q 2 (.q 3 (.q 4 (.q 5 (.q 6 (.q 7 (.q 8 (.q 9 (.q 10 (.q 11 (.q 12 (.q 13 (.q 14 (.q 15 (.q 16 (.q 17 (.q 18 (.q 19 (.q 20 (.q 21 (.q 22 (.q 23 (.q 24 (.q 25 (.q 26 (.q 27 (.q 28 (.q 29 (.q 30 (.q 31 (.q 32 (.q 33 (.q 34 (.e 35 (.q 36 (.q 37 .nil)))))))))))))))))))))))))))))))))))))) (by kernel_rfl) (by kernel_rfl) ?_
 refine qs_ 2 rfl<|l_ rfl (E_ tabOk Tryz.underlying24 rfl rfl rfl rfl (ah_ (by omega)) rfl rfl) (by simp) rfl rfl ?_
 refine l_ rfl (aa_ tabOk rfl rfl rfl rfl rfl) (by simp) rfl rfl ?_
 refine l_ rfl (as_ tabOk rfl rfl rfl) (by simp) rfl rfl ?_
 refine qs_ 2 rfl<|l_ rfl (E_ tabOk Tryz.underlying24 rfl rfl rfl rfl (ah_ (by omega)) rfl rfl) (by simp) rfl rfl ?_
 refine l_ rfl (aa_ tabOk rfl rfl rfl rfl rfl) (by simp) rfl rfl ?_
 refine l_ rfl (as_ tabOk rfl rfl rfl) (by simp) rfl rfl ?_
 refine qs_ 2 rfl<|aR_ (t := 27) rfl ?_ ?_
 ·intro hc27
  refine qs_ 23 rfl<|br_ rfl rfl rfl<|qs_ 2 rfl<|I_<|c_<|M_ rfl<|d_<|a_<|q_ 1 rfl<|g_<|c_<|n_<|B_<|i_ nofun<|i_ nofun<|B_<|i_ nofun<|f_ (rs := [.tmp 4]) rfl (RV.tmp rfl RV.nil) (()) sn_<|al_ fun h => ?_
  subst h
  exact hc27 rfl
 intro hc27
 refine qs_ 2 rfl<|l_ rfl (E_ tabOk Tryz.underlying24 rfl rfl rfl rfl (ah_ (by omega)) rfl rfl) (by simp) rfl rfl ?_
 refine l_ rfl (aa_ tabOk rfl rfl rfl rfl rfl) (by simp) rfl rfl ?_
 refine l_ rfl (as_ tabOk rfl rfl rfl) (by simp) rfl rfl ?_
 refine qs_ 2 rfl<|l_ rfl (E_ tabOk Tryz.underlying24 rfl rfl rfl rfl (ah_ (by omega)) rfl rfl) (by simp) rfl rfl ?_
 refine l_ rfl (aa_ tabOk rfl rfl rfl rfl rfl) (by simp) rfl rfl ?_
 refine l_ rfl (as_ tabOk rfl rfl rfl) (by simp) rfl rfl ?_
 refine qs_ 3 rfl<|aR_ (t := 40) rfl ?_ ?_
 ·intro hc40
  iterate 10 refine ch_ rfl rfl rfl ?_
  refine br_ rfl rfl rfl<|qs_ 2 rfl<|I_<|c_<|M_ rfl<|d_<|a_<|q_ 1 rfl<|g_<|c_<|n_<|B_<|i_ nofun<|i_ nofun<|B_<|i_ nofun<|f_ (rs := [.tmp 4]) rfl (RV.tmp rfl RV.nil) (()) sn_<|al_ fun h => ?_
  subst h
  exact hc40 rfl
 intro hc40
 refine qs_ 2 rfl<|l_ rfl (E_ tabOk Tryz.underlying24 rfl rfl rfl rfl (ah_ (by omega)) rfl rfl) (by simp) rfl rfl ?_
 refine l_ rfl (aa_ tabOk rfl rfl rfl rfl rfl) (by simp) rfl rfl ?_
 refine l_ rfl (as_ tabOk rfl rfl rfl) (by simp) rfl rfl ?_
 refine qs_ 2 rfl<|l_ rfl (E_ tabOk Tryz.underlying24 rfl rfl rfl rfl (ah_ (by omega)) rfl rfl) (by simp) rfl rfl ?_
 refine l_ rfl (aa_ tabOk rfl rfl rfl rfl rfl) (by simp) rfl rfl ?_
 refine l_ rfl (as_ tabOk rfl rfl rfl) (by simp) rfl rfl ?_
 refine J_ rfl (rbsame_s (es := (ps[z]'hlt).batch) (fs := (qs[z]'hlt2).batch) (hl.2 _ (List.getElem_mem hlt)) (h1 _ (List.getElem_mem hlt)).all (h2 _ (List.getElem_mem hlt2)).all) (by simp [mids, It.mids]) Casts.refl (by kernel_rfl) rfl rfl rfl ?_
 refine ap_<|fun _=>l_ rfl (aw_ rfl) (by simp) rfl rfl ?_
 refine qs_ 1 rfl<|I_<|c_<|o_ rfl ?_ ?_
 rotate_left
 ·intro hc53
  refine s_<|r_<|c_<|a_<|b_ (v_ rfl rfl (by simp only [InR, lo, hi]; omega)) rfl rfl ?_
  refine q_ 1 rfl<|g_<|A_ (z + 1) (by omega) (⟨hlt, bi_ hz.2 hlt hlt2 (Prf.same (by simpa using hc27) (by simpa using hc40) (by simpa using hc53))⟩) (by exact ⟨rfl, rfl, rfl, rfl, trivial⟩) sn_
 intro hc53
 refine d_<|a_<|q_ 1 rfl<|g_<|c_<|n_<|B_<|i_ nofun<|i_ nofun<|B_<|i_ nofun<|f_ (rs := [.tmp 4]) rfl (RV.tmp rfl RV.nil) (()) sn_<|al_ fun h => ?_
 subst h
 exact hc53 rfl
set_option maxHeartbeats 2000000 in
theorem rsame_s (hp : c.points.length < 9223372036854775807) (ha : Long c.prepared) (hb : Long c.proposed) (h1 : c.Lits) (h2 : d.Lits) : Spec Tryz.prog 14 [.agg c.abs, .agg d.abs] [] (fun _ : Unit => []) (fun _ => boo (yes (c = d))) := by
 refine K_ Tryz.func14 rfl Tryz.ntmps14 rfl fun G w =>d_<|a_<|eb_ (O_ rfl) rfl rfl fun b2=>?_
 refine eb_ (O_ rfl) rfl rfl fun b3=>?_
 refine q_ 1 rfl<|g_<|c_<|d_<|d_<|a_<|q_ 1 rfl<|b_ (j_ tabOk rfl rfl l1_ List.not_mem_nil rfl) rfl rfl<|q_ 1 rfl<|b_ (j_ tabOk rfl rfl l0_ List.not_mem_nil rfl) rfl rfl<|q_ 2 rfl<|z_ (t := 11) rfl ?_ ?_
 ·intro hc11
  refine q_ 15 rfl<|g_<|c_<|M_ rfl<|d_<|a_<|q_ 1 rfl<|g_<|c_<|n_<|i_ nofun<|f_ (rs := [.tmp 4]) rfl (RV.tmp rfl RV.nil) (()) sn_<|al_ fun h => ?_
  subst h
  exact hc11 rfl
 intro hc11
 refine q_ 1 rfl<|b_ (j_ tabOk rfl rfl l1_ List.not_mem_nil rfl) rfl rfl<|q_ 1 rfl<|b_ (j_ tabOk rfl rfl l0_ List.not_mem_nil rfl) rfl rfl<|q_ 3 rfl<|z_ (t := 18) rfl ?_ ?_
 ·intro hc18
  refine q_ 8 rfl<|g_<|c_<|M_ rfl<|d_<|a_<|q_ 1 rfl<|g_<|c_<|n_<|i_ nofun<|f_ (rs := [.tmp 4]) rfl (RV.tmp rfl RV.nil) (()) sn_<|al_ fun h => ?_
  subst h
  exact hc18 rfl
 intro hc18
 refine q_ 1 rfl<|b_ (j_ tabOk rfl rfl l1_ List.not_mem_nil rfl) rfl rfl<|b_ (w_ rfl Tryz.underlying23 (List.length_map _)) rfl rfl<|q_ 1 rfl<|b_ (j_ tabOk rfl rfl l0_ List.not_mem_nil rfl) rfl rfl<|b_ (w_ rfl Tryz.underlying23 (List.length_map _)) rfl rfl<|q_ 2 rfl<|g_<|c_<|o_ rfl ?_ ?_
 ·intro hc26
  refine d_<|a_<|q_ 1 rfl<|g_<|c_<|n_<|i_ nofun<|f_ (rs := [.tmp 4]) rfl (RV.tmp rfl RV.nil) (()) sn_<|al_ fun h => ?_
  subst h
  exact hc26 rfl
 intro hc26
 have hle : c.points.length = d.points.length := by omega
 refine s_<|c_<|d_<|d_<|a_<|q_ 1 rfl<|b_ (j_ tabOk rfl rfl l1_ List.not_mem_nil rfl) rfl rfl<|b_ (w_ rfl Tryz.underlying23 (List.length_map _)) rfl rfl<|q_ 1 rfl<|g_<|c_<|u_<|W_ (ι := Nat) (fun z => [.blk b3 26 d.abs, .blk b2 26 c.abs]) (fun z => [(2, ptr b2), (3, ptr b3), (29, int (c.points.length : Nat)), (30, int (z : Nat))]) (fun z => z ≤ c.points.length ∧ c.points.take z = d.points.take z) (fun z => c.points.length - z) (0) (⟨Nat.zero_le _, by simp⟩) (by exact ⟨rfl, rfl, rfl, rfl, trivial⟩) sr_ ?_
 intro z hz
 refine d_<|a_<|q_ 1 rfl<|g_<|c_<|d_<|o_ rfl ?_ ?_
 rotate_left
 ·intro hc31
  have hcp := hc31
  have hep : c.points = d.points := by
   have h9 := hz.2
   rw [List.take_of_length_le (by omega), List.take_of_length_le (by omega)] at h9
   exact h9
  refine T_<|i_ nofun<|i_ nofun<|S_<|c_<|d_<|a_<|q_ 1 rfl<|b_ (j_ tabOk rfl rfl l1_ List.not_mem_nil rfl) rfl rfl<|q_ 1 rfl<|b_ (j_ tabOk rfl rfl l0_ List.not_mem_nil rfl) rfl rfl<|t_ (dB_ (ps := c.prepared) (qs := d.prepared) ha h1.prep h2.prep) Casts.refl (by kernel_rfl) rfl rfl rfl ?_
  refine ap_<|fun _=>q_ 1 rfl<|aY_ (t := 50) rfl ?_ ?_
  rotate_left
  ·intro hc50
   refine q_ 7 rfl<|g_<|c_<|n_<|f_ (rs := [.tmp 4]) rfl (RV.tmp rfl RV.nil) (()) sn_ ?_
   (refine al_ fun h => ?_; subst h; exact absurd rfl (cm_.1 hc50))
  intro hc50
  refine q_ 1 rfl<|b_ (j_ tabOk rfl rfl l1_ List.not_mem_nil rfl) rfl rfl<|q_ 1 rfl<|b_ (j_ tabOk rfl rfl l0_ List.not_mem_nil rfl) rfl rfl<|t_ (dB_ (ps := c.proposed) (qs := d.proposed) hb h1.prop h2.prop) Casts.refl (by kernel_rfl) rfl rfl rfl ?_
  refine ap_<|fun _=>q_ 2 rfl<|g_<|c_<|n_<|f_ (rs := [.tmp 4]) rfl (RV.tmp rfl RV.nil) (()) sn_ ?_
  (refine ba_ ⟨fun h => Chg.same (by simpa using hc11) (by simpa using hc18) hep (P_.1 hc50) (P_.1 h), fun h => ?_⟩; subst h; exact P_.2 rfl)
 intro hc31
 have hlt : z < c.points.length := by omega
 have hlt2 : z < d.points.length := by omega
 refine s_<|c_<|d_<|u_<|d_<|a_<|q_ 2 rfl<|g_<|c_<|d_<|U_ [] (.q 0 (.q 1 (.q 2 (.q 3 (.q 4 (.q 5 (.q 6 (.q 7 (.q 8 (.q 9 (.q 10 .nil))))))))))) (by kernel_rfl) (by kernel_rfl) ?_
 refine qs_ 1 rfl<|l_ rfl (j_ tabOk rfl rfl l1_ List.not_mem_nil rfl) (by simp) rfl rfl ?_
 refine qs_ 1 rfl<|l_ rfl (E_ tabOk Tryz.underlying23 rfl rfl rfl rfl (ah_ (by omega)) rfl rfl) (by simp) rfl rfl ?_
 refine hx_ fun hx9 =>l_ rfl (V_ tabOk rfl rfl rfl (Pnt.size _)) hx9 rfl rfl<|qs_ 1 rfl<|l_ rfl (j_ tabOk rfl rfl l0_ List.not_mem_nil rfl) (by simp) rfl rfl ?_
 refine qs_ 1 rfl<|l_ rfl (E_ tabOk Tryz.underlying23 rfl rfl rfl rfl (ah_ (by omega)) rfl rfl) (by simp) rfl rfl ?_
 refine l_ rfl (V_ tabOk rfl rfl rfl (Pnt.size _)) hx9 rfl rfl<|l_ rfl (ew_ rfl rfl (cF_ _) (cF_ _) (by kernel_rfl) (neqP (h1.pts _ (List.getElem_mem hlt)) (h2.pts _ (List.getElem_mem hlt2)))) hx9 rfl rfl ?_
 refine I_<|c_<|o_ rfl ?_ ?_
 rotate_left
 ·intro hc43
  refine s_<|r_<|c_<|a_<|b_ (v_ rfl rfl (by simp only [InR, lo, hi]; omega)) rfl rfl ?_
  refine q_ 1 rfl<|g_<|A_ (z + 1) (by omega) (⟨hlt, bi_ hz.2 hlt hlt2 (by simpa using hc43)⟩) (by exact ⟨rfl, rfl, rfl, rfl, trivial⟩) sr_
 intro hc43
 refine d_<|a_<|q_ 1 rfl<|g_<|c_<|n_<|B_<|i_ nofun<|i_ nofun<|B_<|i_ nofun<|f_ (rs := [.tmp 4]) rfl (RV.tmp rfl RV.nil) (()) sn_<|al_ fun h => ?_
 subst h
 exact hc43 rfl
end
end Go.Proofs.YtggajaigfkekhaaGreat.A
namespace Go.Proofs.YtggajaigfkekhaaGreat.A
open Go.RowKit Go.ChangeShapes Go.WideShapes Go.ChangeAt
section
variable {H : Type} {enc : TypeId × Value → H} {w : World} {base : Nat} {spare : Nat → Bool} {held : Bool}
theorem gM_ : leaves Tryz.prog 4 82 = some [3, 2, 3, 9, 2, 2, 9, 80] := by kernel_rfl
theorem iK_ (cs : List Value) (hl : cs.length = Tryz.prog.cellsOf 82) (h : ∃ m y, DataW.trod enc Tryz.prog w base spare held m 82 cs = some y) : ∃ e : Ent, reps [] w (e.cells.map .v) cs ∧ e.Lits := by
  obtain ⟨fuel, x, h⟩ := h
  rw [show Tryz.prog.cellsOf 82 = 8 by kernel_rfl] at hl
  have hh := bt_ 4 _ _ _ _ _ gM_ (by simpa using hl.symm) h
  match cs, hl with
  | [v0, v1, v2, v3, v4, v5, v6, v7], _ =>
    obtain ⟨n0, rfl, b0⟩ := (hh 0 v0 _ rfl rfl).int Tryz.underlying3
    obtain ⟨n1, rfl, b1⟩ := (hh 1 v1 _ rfl rfl).int Tryz.underlying2
    obtain ⟨n2, rfl, b2⟩ := (hh 2 v2 _ rfl rfl).int Tryz.underlying3
    obtain ⟨s3, rfl, b3⟩ := (hh 3 v3 _ rfl rfl).string Tryz.underlying9
    obtain ⟨n4, rfl, b4⟩ := (hh 4 v4 _ rfl rfl).int Tryz.underlying2
    obtain ⟨n5, rfl, b5⟩ := (hh 5 v5 _ rfl rfl).int Tryz.underlying2
    obtain ⟨s6, rfl, b6⟩ := (hh 6 v6 _ rfl rfl).string Tryz.underlying9
    obtain ⟨n7, rfl, b7⟩ := (hh 7 v7 _ rfl rfl).int Tryz.underlying80
    simp only [Lit.wf, Bool.and_eq_true, decide_eq_true_eq] at b7
    have c0 : (0 : Int) ≤ n7 := b7.1
    have c1 : n7 ≤ (4294967295 : Int) := b7.2
    obtain ⟨m, rfl⟩ : ∃ m : Nat, n7 = m := ⟨n7.toNat, by omega⟩
    exact ⟨⟨⟨n0, n1, n2, s3, n4, n5, s6⟩, m⟩, aF_.2 rfl, ⟨wfIn b0, wfIn b1, wfIn b2, wfIn b4, wfIn b5, b3, b6, by show m < 4294967296; omega⟩⟩
theorem hU_ {v : Value} (h : LeafAt enc Tryz.prog w base spare held 75 v) : ∃ es : List Ent, rep [] w (entsA es) v ∧ ∀ e ∈ es, e.Lits :=
  dU_ (abs := fun e : Ent => e.cells.map .v) (Ok := Ent.Lits) Tryz.underlying75 (by kernel_rfl) h iK_
end
end Go.Proofs.YtggajaigfkekhaaGreat.A
namespace Go.Proofs.YtggajaigfkekhaaGreat.A
open Go.RowKit Go.ChangeShapes Go.WideShapes Go.ChangeAt
section
variable {H : Type} {enc : TypeId × Value → H} {w : World} {base : Nat} {spare : Nat → Bool} {held : Bool}
theorem hP_ : leaves Tryz.prog 4 59 = some (2 :: List.replicate 32 5) := by kernel_rfl
theorem open_pnt (cs : List Value) (hl : cs.length = Tryz.prog.cellsOf 59) (h : ∃ m y, DataW.trod enc Tryz.prog w base spare held m 59 cs = some y) : ∃ p : Pnt, reps [] w p.abs cs ∧ InR .i64 p.seq := by
  obtain ⟨fuel, x, h⟩ := h
  rw [show Tryz.prog.cellsOf 59 = 33 by kernel_rfl] at hl
  have hh := bt_ 4 _ _ _ _ _ hP_ (by simpa using hl.symm) h
  match cs, hl with
  | v0 :: cs, hl =>
    obtain ⟨n0, rfl, b0⟩ := (hh 0 v0 _ rfl rfl).int Tryz.underlying2
    have hl2 : cs.length = 32 := by simpa using hl
    obtain ⟨d, rfl⟩ := iJ_ (cs := cs) fun v hv => by
      obtain ⟨j, hj, rfl⟩ := List.getElem_of_mem hv
      exact hh (j + 1) cs[j] _ (by rw [List.getElem?_cons_succ, List.getElem?_eq_getElem hj]) (by rw [List.getElem?_cons_succ, List.getElem?_replicate, if_pos (by omega)])
    exact ⟨⟨n0, d, by simpa using hl2⟩, ⟨_, _, rfl, rfl, reps_dig d⟩, wfIn b0⟩
theorem hO_ : leaves Tryz.prog 4 77 = some [2, 2, 75] := by kernel_rfl
theorem hp_ (cs : List Value) (hl : cs.length = Tryz.prog.cellsOf 77) (h : ∃ m y, DataW.trod enc Tryz.prog w base spare held m 77 cs = some y) : ∃ p : Prf, reps [] w p.abs cs ∧ p.Lits := by
  obtain ⟨fuel, x, h⟩ := h
  rw [show Tryz.prog.cellsOf 77 = 3 by kernel_rfl] at hl
  have hh := bt_ 4 _ _ _ _ _ hO_ (by simpa using hl.symm) h
  match cs, hl with
  | [v0, v1, v2], _ =>
    obtain ⟨n0, rfl, b0⟩ := (hh 0 v0 _ rfl rfl).int Tryz.underlying2
    obtain ⟨n1, rfl, b1⟩ := (hh 1 v1 _ rfl rfl).int Tryz.underlying2
    obtain ⟨es, he, hs⟩ := hU_ (hh 2 v2 _ rfl rfl)
    exact ⟨⟨n0, n1, es⟩, ⟨_, _, rfl, rfl, _, _, rfl, rfl, _, _, rfl, he, rfl⟩, ⟨wfIn b0, wfIn b1, hs⟩⟩
theorem h3_ : leaves Tryz.prog 4 26 = some [2, 2, 23, 24, 24] := by kernel_rfl
theorem open_chg {cs : List Value} {fuel : Nat} {x : DataW H × List MemPlace} (hl : cs.length = Tryz.prog.cellsOf 26) (h : DataW.trod enc Tryz.prog w base spare held fuel 26 cs = some x) : ∃ c : Chg, reps [] w c.abs cs ∧ c.Lits := by
  rw [show Tryz.prog.cellsOf 26 = 5 by kernel_rfl] at hl
  have hh := bt_ 4 _ _ _ _ _ h3_ (by simpa using hl.symm) h
  match cs, hl with
  | [v0, v1, v2, v3, v4], _ =>
    obtain ⟨n0, rfl, b0⟩ := (hh 0 v0 _ rfl rfl).int Tryz.underlying2
    obtain ⟨n1, rfl, b1⟩ := (hh 1 v1 _ rfl rfl).int Tryz.underlying2
    obtain ⟨ps, hp, hps⟩ := dU_ (abs := Pnt.abs) (Ok := fun p => InR .i64 p.seq) Tryz.underlying23 (by kernel_rfl) (hh 2 v2 _ rfl rfl) open_pnt
    obtain ⟨ps1, ha, has⟩ := dU_ (abs := Prf.abs) (Ok := Prf.Lits) Tryz.underlying24 (by kernel_rfl) (hh 3 v3 _ rfl rfl) hp_
    obtain ⟨bs, hb, hbs⟩ := dU_ (abs := Prf.abs) (Ok := Prf.Lits) Tryz.underlying24 (by kernel_rfl) (hh 4 v4 _ rfl rfl) hp_
    exact ⟨⟨n0, n1, ps, ps1, bs⟩, ⟨_, _, rfl, rfl, _, _, rfl, rfl, _, _, rfl, hp, _, _, rfl, ha, _, _, rfl, hb, rfl⟩, ⟨wfIn b0, wfIn b1, hps, has, hbs⟩⟩
end
theorem fd_ {α : Type} {Q : α → Prop} {xs : List α} {k : Nat} (h : ∀ a ∈ xs.take k, Q a) (hk : k < xs.length) (h1 : Q xs[k]) : ∀ a ∈ xs.take (k + 1), Q a := by
  intro a ha
  rw [List.take_succ_eq_append_getElem hk] at ha
  rcases List.mem_append.1 ha with ha | ha
  · exact h a ha
  · rw [List.mem_singleton.1 ha]; exact h1
theorem fL_ {α : Type} {Q : α → Prop} {xs : List α} {k : Nat} (h : ∀ a ∈ xs.take k, Q a) (hk : xs.length ≤ k) : ∀ a ∈ xs, Q a := by
  rw [List.take_of_length_le hk] at h
  exact h
def EFew (e : Ent) : Prop := e.core.letter.size ≤ 100 ∧ e.core.text.size ≤ 300
def PFew (p : Prf) : Prop := p.batch.length ≤ 10 ∧ ∀ e ∈ p.batch, EFew e
def RFew (ps : List Prf) : Prop := ps.length ≤ 80 ∧ ∀ p ∈ ps, PFew p
def Chg.Asked (c : Chg) : Prop := RFew c.prepared ∧ RFew c.proposed ∧ c.points.length ≤ 20
def Chg.rows (c : Chg) : List (List Prf) := [c.prepared, c.proposed]
theorem gA_ (c : Chg) : c.rows.length = 2 := rfl
theorem EFew.bytes {e : Ent} (h : EFew e) : e.bytes.length ≤ 439 := by
  have := Ent.bytes_length e
  have h1 := h.1
  have h2 := h.2
  omega
theorem cX_ {α : Type} {f : α → List UInt8} {B : Nat} : ∀ {xs : List α}, (∀ x ∈ xs, (f x).length ≤ B) → (xs.flatMap f).length ≤ xs.length * B
  | [], _ => by simp
  | x :: xs, h => by
    have h1 := cX_ (xs := xs) fun y hy => h y (List.mem_cons_of_mem _ hy)
    have h2 := h x List.mem_cons_self
    rw [List.flatMap_cons, List.length_append, List.length_cons, Nat.succ_mul]
    omega
theorem PFew.bytes {p : Prf} (h : PFew p) : p.bytes.length ≤ 4412 := by
  have h1 := cX_ (f := Ent.bytes) (B := 439) (xs := p.batch) fun e he => (h.2 e he).bytes
  have h2 := h.1
  have h3 : p.batch.length * 439 ≤ 10 * 439 := Nat.mul_le_mul_right _ h2
  have h4 := ar_ [p.seq, p.view]
  simp only [List.length_cons, List.length_nil] at h4
  unfold Prf.bytes rowB batchB
  simp only [List.length_append, m_]
  omega
theorem RFew.bytes {ps : List Prf} (h : RFew ps) : (prfsB ps).length ≤ 352962 := by
  have h1 := cX_ (f := Prf.bytes) (B := 4412) (xs := ps) fun e he => (h.2 e he).bytes
  have h3 : ps.length * 4412 ≤ 80 * 4412 := Nat.mul_le_mul_right _ h.1
  unfold prfsB
  rw [List.length_append, m_]
  omega
theorem Chg.Asked.bytes {c : Chg} (h : c.Asked) : c.bytes.length ≤ 800000 := by
  have h1 := h.1.bytes
  have h2 := h.2.1.bytes
  have h3 := h.2.2
  have h4 : (c.points.take c.points.length).length ≤ 20 := by rw [List.length_take]; omega
  unfold Chg.bytes Chg.head
  simp only [List.length_append, ar_, m_, ej_, List.length_cons, List.length_nil]
  omega
theorem RFew.few {ps : List Prf} (h : RFew ps) (hs : ∀ p ∈ ps, p.Lits) : ∀ p ∈ ps, p.Few := fun p hp =>
  ⟨(h.2 p hp).1, fun e he => by
    have h1 := (h.2 p hp).2 e he
    exact ⟨((hs p hp).all e he).mask, by have := h1.1; omega, by have := h1.2; omega⟩⟩
theorem Chg.Asked.few {c : Chg} (h : c.Asked) (hs : c.Lits) : c.Few :=
  ⟨by have := h.2.2; omega, by have := h.1.1; omega, by have := h.2.1.1; omega, h.1.few hs.prep, h.2.1.few hs.prop⟩
theorem RFew.long {ps : List Prf} (h : RFew ps) : Long ps := ⟨by have := h.1; omega, fun p hp => by have := (h.2 p hp).1; omega⟩
theorem RFew.lets {ps : List Prf} (h : RFew ps) : Lets ps := fun p hp e he => by
  have := ((h.2 p hp).2 e he).1
  unfold lots
  omega
structure Chg.Sized (c : Chg) : Prop where
  pts : c.points.length < 9223372036854775807
  prep : Long c.prepared
  prop : Long c.proposed
structure Chg.Fit (c : Chg) : Prop extends c.Sized where
  lprep : Lets c.prepared
  lprop : Lets c.proposed
theorem Chg.Asked.sized {c : Chg} (h : c.Asked) : c.Sized := ⟨by have := h.2.2; omega, h.1.long, h.2.1.long⟩
theorem Chg.Asked.fit {c : Chg} (h : c.Asked) : c.Fit := ⟨h.sized, h.1.lets, h.2.1.lets⟩
section
variable {c : Chg}
set_option maxHeartbeats 2000000 in
def p0 : Pnt := ⟨0, List.replicate 32 0, by simp⟩
def c0 : Chg := ⟨1, 0, [p0], [], []⟩
def c1 : Chg := ⟨1, 0, [p0], [⟨9, 0, []⟩], []⟩
theorem c7_ {α : Type} {p : α → α → Bool} : Rises p [] := fun j h => by simp at h
theorem c0_right : c0.Right 4 := by
  refine ⟨by simp [c0], by simp [c0], ?_, ⟨by simp [c0], by simp [c0], ?_, ?_, fun j h => ?_⟩, ⟨by simp [c0], c7_, by simp [c0]⟩, ⟨by simp [c0], c7_, by simp [c0]⟩⟩
  · simp [isMark, isSeq, c0]
  · intro p hp
    have : p0 = p := by simpa [c0] using hp
    subst this
    rfl
  · intro p hp
    have : p = p0 := by simpa [c0] using hp
    subst this
    simp [isMark, isSeq, p0]
  · exfalso
    simp [c0] at h
end
section
variable {ps qs : List Pnt} {fs gs : List Prf} {p q : Prf} {c d : Chg}
set_option maxHeartbeats 2000000 in
theorem pequal_s (hn : ps.length < 9223372036854775807) (h1 : ∀ p ∈ ps, InR .i64 p.seq) (h2 : ∀ p ∈ qs, InR .i64 p.seq) : Spec Tryz.prog 85 [pntsA ps, pntsA qs] [] (fun _ : Unit => []) (fun _ => boo (yes (ps = qs))) := by
 refine K_ Tryz.func85 rfl Tryz.ntmps85 rfl fun G w =>d_<|a_<|q_ 1 rfl<|g_<|c_<|d_<|d_<|a_<|q_ 1 rfl<|b_ (w_ rfl Tryz.underlying23 (List.length_map _)) rfl rfl<|q_ 1 rfl<|b_ (w_ rfl Tryz.underlying23 (List.length_map _)) rfl rfl<|q_ 1 rfl<|g_<|c_<|o_ rfl ?_ ?_
 ·intro hc10
  refine d_<|a_<|q_ 1 rfl<|g_<|c_<|n_<|i_ nofun<|f_ (rs := [.tmp 4]) rfl (RV.tmp rfl RV.nil) (()) sn_<|al_ fun h => ?_
  subst h
  exact hc10 rfl
 intro hc10
 have hle : ps.length = qs.length := by omega
 refine s_<|c_<|d_<|d_<|a_<|q_ 1 rfl<|b_ (w_ rfl Tryz.underlying23 (List.length_map _)) rfl rfl<|q_ 1 rfl<|g_<|c_<|u_<|W_ (ι := Nat) (fun z => []) (fun z => [(0, pntsA ps), (1, pntsA qs), (12, int (ps.length : Nat)), (13, int (z : Nat))]) (fun z => z ≤ ps.length ∧ ps.take z = qs.take z) (fun z => ps.length - z) (0) (⟨Nat.zero_le _, by simp⟩) (by exact ⟨rfl, rfl, rfl, rfl, trivial⟩) sn_ ?_
 intro z hz
 refine d_<|a_<|q_ 1 rfl<|g_<|c_<|d_<|o_ rfl ?_ ?_
 rotate_left
 ·intro hc14
  refine T_<|i_ nofun<|i_ nofun<|S_<|c_<|d_<|a_<|q_ 1 rfl<|g_<|c_<|n_<|f_ (rs := [.tmp 4]) rfl (RV.tmp rfl RV.nil) (()) sn_<|ba_ ⟨fun _ => ?_, fun _ => rfl⟩
  have h9 := hz.2
  rw [List.take_of_length_le (by omega), List.take_of_length_le (by omega)] at h9
  exact h9
 intro hc14
 have hlt : z < ps.length := by omega
 have hlt2 : z < qs.length := by omega
 refine s_<|c_<|d_<|u_<|d_<|a_<|q_ 2 rfl<|g_<|c_<|d_<|U_ [] (.q 0 (.q 1 (.q 2 (.q 3 (.q 4 (.q 5 (.q 6 (.q 7 (.q 8 .nil))))))))) (by kernel_rfl) (by kernel_rfl) ?_
 refine qs_ 2 rfl<|l_ rfl (E_ tabOk Tryz.underlying23 rfl rfl rfl rfl (ah_ (by omega)) rfl rfl) (by simp) rfl rfl ?_
 refine hx_ fun hx9 =>l_ rfl (V_ tabOk rfl rfl rfl (Pnt.size _)) hx9 rfl rfl<|qs_ 2 rfl<|l_ rfl (E_ tabOk Tryz.underlying23 rfl rfl rfl rfl (ah_ (by omega)) rfl rfl) (by simp) rfl rfl ?_
 refine l_ rfl (V_ tabOk rfl rfl rfl (Pnt.size _)) hx9 rfl rfl<|l_ rfl (ew_ rfl rfl (cF_ _) (cF_ _) (by kernel_rfl) (neqP (h1 _ (List.getElem_mem hlt)) (h2 _ (List.getElem_mem hlt2)))) hx9 rfl rfl ?_
 refine I_<|c_<|o_ rfl ?_ ?_
 rotate_left
 ·intro hc24
  refine s_<|r_<|c_<|a_<|b_ (v_ rfl rfl (by simp only [InR, lo, hi]; omega)) rfl rfl ?_
  refine q_ 1 rfl<|g_<|A_ (z + 1) (by omega) (⟨hlt, bi_ hz.2 hlt hlt2 (by simpa using hc24)⟩) (by exact ⟨rfl, rfl, rfl, rfl, trivial⟩) sn_
 intro hc24
 refine d_<|a_<|q_ 1 rfl<|g_<|c_<|n_<|B_<|i_ nofun<|i_ nofun<|B_<|i_ nofun<|f_ (rs := [.tmp 4]) rfl (RV.tmp rfl RV.nil) (()) sn_<|al_ fun h => ?_
 subst h
 exact hc24 rfl
theorem psame1_s (hl : p.batch.length ≤ 1000000) (h1 : p.Lits) (h2 : q.Lits) : Spec Tryz.prog 83 [.agg p.abs, .agg q.abs] [] (fun _ : Unit => []) (fun _ => boo (yes (p = q))) := by
 refine K_ Tryz.func83 rfl Tryz.ntmps83 rfl fun G w =>d_<|a_<|eb_ (O_ rfl) rfl rfl fun b2=>?_
 refine eb_ (O_ rfl) rfl rfl fun b3=>?_
 refine q_ 1 rfl<|g_<|c_<|d_<|a_<|q_ 1 rfl<|b_ (j_ tabOk rfl rfl l1_ List.not_mem_nil rfl) rfl rfl<|q_ 1 rfl<|b_ (j_ tabOk rfl rfl l0_ List.not_mem_nil rfl) rfl rfl<|q_ 2 rfl<|z_ (t := 10) rfl ?_ ?_
 rotate_left
 ·intro hc10
  refine q_ 14 rfl<|g_<|c_<|n_<|f_ (rs := [.tmp 4]) rfl (RV.tmp rfl RV.nil) (()) sn_ ?_
  (refine al_ fun h => ?_; subst h; exact hc10 rfl)
 intro hc10
 refine q_ 1 rfl<|b_ (j_ tabOk rfl rfl l1_ List.not_mem_nil rfl) rfl rfl<|q_ 1 rfl<|b_ (j_ tabOk rfl rfl l0_ List.not_mem_nil rfl) rfl rfl<|q_ 3 rfl<|z_ (t := 17) rfl ?_ ?_
 rotate_left
 ·intro hc17
  refine q_ 7 rfl<|g_<|c_<|n_<|f_ (rs := [.tmp 4]) rfl (RV.tmp rfl RV.nil) (()) sn_ ?_
  (refine al_ fun h => ?_; subst h; exact hc17 rfl)
 intro hc17
 refine q_ 1 rfl<|b_ (j_ tabOk rfl rfl l1_ List.not_mem_nil rfl) rfl rfl<|q_ 1 rfl<|b_ (j_ tabOk rfl rfl l0_ List.not_mem_nil rfl) rfl rfl<|t_ (bsame_s (es := p.batch) (fs := q.batch) hl h1.all h2.all) Casts.refl (by kernel_rfl) rfl rfl rfl ?_
 refine ap_<|fun _=>q_ 2 rfl<|g_<|c_<|n_<|f_ (rs := [.tmp 4]) rfl (RV.tmp rfl RV.nil) (()) sn_ ?_
 (refine ba_ ⟨fun h => Prf.same hc10 hc17 (of_decide_eq_true h), fun h => ?_⟩; subst h; exact decide_eq_true rfl)
set_option maxHeartbeats 2000000 in
theorem hG_ (hl : Long fs) (h1 : ∀ p ∈ fs, p.Lits) (h2 : ∀ p ∈ gs, p.Lits) : Spec Tryz.prog 86 [prfsA fs, prfsA gs, .fn (.func 83) [] []] [] (fun _ : Unit => []) (fun _ => boo (yes (fs = gs))) := by
 have hn := hl.1
 refine K_ Tryz.func86 rfl Tryz.ntmps86 rfl fun G w =>d_<|a_<|q_ 1 rfl<|g_<|c_<|d_<|d_<|a_<|q_ 1 rfl<|b_ (w_ rfl Tryz.underlying24 (List.length_map _)) rfl rfl<|q_ 1 rfl<|b_ (w_ rfl Tryz.underlying24 (List.length_map _)) rfl rfl<|q_ 1 rfl<|g_<|c_<|o_ rfl ?_ ?_
 ·intro hc14
  refine d_<|a_<|q_ 1 rfl<|g_<|c_<|n_<|i_ nofun<|f_ (rs := [.tmp 6]) rfl (RV.tmp rfl RV.nil) (()) sn_<|al_ fun h => ?_
  subst h
  exact hc14 rfl
 intro hc14
 have hle : fs.length = gs.length := by omega
 refine s_<|c_<|d_<|d_<|a_<|q_ 1 rfl<|b_ (w_ rfl Tryz.underlying24 (List.length_map _)) rfl rfl<|q_ 1 rfl<|g_<|c_<|u_<|W_ (ι := Nat) (fun z => []) (fun z => [(0, prfsA fs), (1, prfsA gs), (2, .fn (.func 83) [] []), (15, prfsA fs), (16, int (fs.length : Nat)), (17, int (z : Nat))]) (fun z => z ≤ fs.length ∧ fs.take z = gs.take z) (fun z => fs.length - z) (0) (⟨Nat.zero_le _, by simp⟩) (by exact ⟨rfl, rfl, rfl, rfl, rfl, rfl, trivial⟩) sn_ ?_
 intro z hz
 refine d_<|a_<|q_ 1 rfl<|g_<|c_<|d_<|o_ rfl ?_ ?_
 rotate_left
 ·intro hc18
  refine T_<|i_ nofun<|i_ nofun<|S_<|c_<|d_<|a_<|q_ 1 rfl<|g_<|c_<|n_<|f_ (rs := [.tmp 6]) rfl (RV.tmp rfl RV.nil) (()) sn_<|ba_ ⟨fun _ => ?_, fun _ => rfl⟩
  have h9 := hz.2
  rw [List.take_of_length_le (by omega), List.take_of_length_le (by omega)] at h9
  exact h9
 intro hc18
 have hlt : z < fs.length := by omega
 have hlt2 : z < gs.length := by omega
 refine s_<|c_<|d_<|u_<|d_<|a_<|q_ 1 rfl<|b_ (E_ tabOk Tryz.underlying24 rfl rfl rfl rfl (ah_ (by omega)) rfl rfl) rfl rfl ?_
 refine b_ (V_ tabOk rfl rfl rfl rfl) rfl rfl<|eb_ (H_ tabOk rfl) rfl rfl fun b8=>?_
 refine q_ 1 rfl<|e_ (D_ tabOk rfl rfl rfl u0_ rfl (Nat.le_of_ble_eq_true rfl) rfl rfl) rfl rfl<|g_<|c_<|d_<|a_<|q_ 2 rfl<|b_ (E_ tabOk Tryz.underlying24 rfl rfl rfl rfl (ah_ (by omega)) rfl rfl) rfl rfl ?_
 refine b_ (V_ tabOk rfl rfl rfl rfl) rfl rfl<|eb_ (H_ tabOk rfl) rfl rfl fun b9=>?_
 refine e_ (D_ tabOk rfl rfl rfl u0_ rfl (Nat.le_of_ble_eq_true rfl) rfl rfl) rfl rfl<|g_<|c_<|d_<|a_<|q_ 1 rfl<|b_ (x_ tabOk rfl rfl rfl l1_ List.not_mem_nil rfl) rfl rfl<|b_ (x_ tabOk rfl rfl rfl l0_ List.not_mem_nil rfl) rfl rfl<|ci_ (psame1_s (p := (fs[z]'hlt)) (q := (gs[z]'hlt2)) (hl.2 _ (List.getElem_mem hlt)) (h1 _ (List.getElem_mem hlt)) (h2 _ (List.getElem_mem hlt2))) rfl Casts.refl (by kernel_rfl) rfl rfl rfl ?_
 refine ap_<|fun _=>b_ (aB_ rfl) rfl rfl<|g_<|c_<|aE_ rfl ?_ ?_
 rotate_left
 ·intro hc30
  refine s_<|r_<|c_<|a_<|b_ (v_ rfl rfl (by simp only [InR, lo, hi]; omega)) rfl rfl ?_
  refine q_ 1 rfl<|g_<|A_ (z + 1) (by omega) (⟨hlt, bi_ hz.2 hlt hlt2 (P_.1 (by simpa using hc30))⟩) (by exact ⟨rfl, rfl, rfl, rfl, rfl, rfl, trivial⟩) sn_
 intro hc30
 refine d_<|a_<|q_ 1 rfl<|g_<|c_<|n_<|B_<|i_ nofun<|i_ nofun<|B_<|i_ nofun<|f_ (rs := [.tmp 6]) rfl (RV.tmp rfl RV.nil) (()) sn_<|al_ fun h => ?_
 subst h
 exact absurd rfl (cm_.1 (by simpa using hc30 : yes ((fs[z]'hlt) = (fs[z]'hlt)) = false))
set_option maxHeartbeats 2000000 in
theorem psame_s (hp : c.points.length < 9223372036854775807) (ha : Long c.prepared) (hb : Long c.proposed) (h1 : c.Lits) (h2 : d.Lits) : Spec Tryz.prog 46 [.agg c.abs, .agg d.abs] [] (fun _ : Unit => []) (fun _ => boo (yes (c = d))) := by
 refine K_ Tryz.func46 rfl Tryz.ntmps46 rfl fun G w =>d_<|a_<|eb_ (O_ rfl) rfl rfl fun b2=>?_
 refine eb_ (O_ rfl) rfl rfl fun b3=>?_
 refine q_ 1 rfl<|g_<|c_<|d_<|a_<|q_ 1 rfl<|g_<|c_<|d_<|a_<|q_ 1 rfl<|b_ (j_ tabOk rfl rfl l1_ List.not_mem_nil rfl) rfl rfl<|q_ 1 rfl<|b_ (j_ tabOk rfl rfl l0_ List.not_mem_nil rfl) rfl rfl<|q_ 2 rfl<|z_ (t := 11) rfl ?_ ?_
 rotate_left
 ·intro hc11
  refine q_ 30 rfl<|g_<|c_<|n_<|f_ (rs := [.tmp 4]) rfl (RV.tmp rfl RV.nil) (()) sn_ ?_
  (refine al_ fun h => ?_; subst h; exact hc11 rfl)
 intro hc11
 refine q_ 1 rfl<|b_ (j_ tabOk rfl rfl l1_ List.not_mem_nil rfl) rfl rfl<|q_ 1 rfl<|b_ (j_ tabOk rfl rfl l0_ List.not_mem_nil rfl) rfl rfl<|q_ 3 rfl<|z_ (t := 18) rfl ?_ ?_
 rotate_left
 ·intro hc18
  refine q_ 23 rfl<|g_<|c_<|n_<|f_ (rs := [.tmp 4]) rfl (RV.tmp rfl RV.nil) (()) sn_ ?_
  (refine al_ fun h => ?_; subst h; exact hc18 rfl)
 intro hc18
 refine q_ 1 rfl<|b_ (j_ tabOk rfl rfl l1_ List.not_mem_nil rfl) rfl rfl<|q_ 1 rfl<|b_ (j_ tabOk rfl rfl l0_ List.not_mem_nil rfl) rfl rfl<|t_ (pequal_s (ps := c.points) (qs := d.points) hp h1.pts h2.pts) Casts.refl (by kernel_rfl) rfl rfl rfl ?_
 refine ap_<|fun _=>q_ 2 rfl<|aY_ (t := 25) rfl ?_ ?_
 rotate_left
 ·intro hc25
  refine q_ 16 rfl<|g_<|c_<|n_<|f_ (rs := [.tmp 4]) rfl (RV.tmp rfl RV.nil) (()) sn_ ?_
  (refine al_ fun h => ?_; subst h; exact absurd rfl (cm_.1 hc25))
 intro hc25
 refine q_ 1 rfl<|b_ (j_ tabOk rfl rfl l1_ List.not_mem_nil rfl) rfl rfl<|q_ 1 rfl<|b_ (j_ tabOk rfl rfl l0_ List.not_mem_nil rfl) rfl rfl<|q_ 1 rfl<|t_ (hG_ (fs := c.prepared) (gs := d.prepared) ha h1.prep h2.prep) Casts.refl (by kernel_rfl) rfl rfl rfl ?_
 refine ap_<|fun _=>q_ 2 rfl<|aY_ (t := 33) rfl ?_ ?_
 rotate_left
 ·intro hc33
  refine q_ 8 rfl<|g_<|c_<|n_<|f_ (rs := [.tmp 4]) rfl (RV.tmp rfl RV.nil) (()) sn_ ?_
  (refine al_ fun h => ?_; subst h; exact absurd rfl (cm_.1 hc33))
 intro hc33
 refine q_ 1 rfl<|b_ (j_ tabOk rfl rfl l1_ List.not_mem_nil rfl) rfl rfl<|q_ 1 rfl<|b_ (j_ tabOk rfl rfl l0_ List.not_mem_nil rfl) rfl rfl<|q_ 1 rfl<|t_ (hG_ (fs := c.proposed) (gs := d.proposed) hb h1.prop h2.prop) Casts.refl (by kernel_rfl) rfl rfl rfl ?_
 refine ap_<|fun _=>q_ 2 rfl<|g_<|c_<|n_<|f_ (rs := [.tmp 4]) rfl (RV.tmp rfl RV.nil) (()) sn_ ?_
 (refine ba_ ⟨fun h => Chg.same hc11 hc18 (P_.1 hc25) (P_.1 hc33) (P_.1 h), fun h => ?_⟩; subst h; exact P_.2 rfl)
variable {bp bd bt : Nat} {Dm : DMap} {Tm : TMap}
end
def cutS (s : Nat) : Value → Nat → Value
  | .slice (some a) n c, q => .slice (some (if c = q then a else ⟨a.block, a.off + q * s, none⟩)) (n - q) (c - q)
  | .slice none n c, q => .slice none (n - q) (c - q)
  | v, _ => v
theorem fX_ {K : List Nat} {w : World} : ∀ l : List Value, reps K w (l.map .v) l
  | [] => rfl
  | u :: l => ⟨u, l, rfl, rfl, fX_ l⟩
/-! ### Maps as lists of pairs -/
/-! ### The rows -/
section
variable {α β : Type} [DecidableEq α] {tm : List (α × (Value × β))} {a : α} {v : Value} {x z0 : β} {f : β → List (List Abs)} {T : TypeId} {s : Nat}
def rowD (tm : List (α × (Value × β))) (a : α) (z0 : β) : β := ((aget tm a).map (·.2)).getD z0
variable {P : Program} {n : Nat} {W : Wd} {σ : Blks} {l : Slots} {ops : Array Oper} {rest : List Oper} {Q : Exit → Act → World → Prop} {ix : Plan} {X : List Nat}
omit [DecidableEq α] in
theorem SC.nod {c : Code} (k : (mids σ).Nodup → SC P c (St n W σ l) Q) : SC P c (St n W σ l) Q := fun a w h => k h.mem.nodup a w h
end
def laterE (a b : Int) : Int := if a < b then 13 else if a = b then 15 else 0
def sOf (m : List (Int × Sd)) (w : Int) : Sd := (aget m w).getD sd0
theorem sOf_is (m : List (Int × Sd)) (w : Int) : (Abs.agg (sdC (sOf m w))).is (((aget m w).map sdV).getD (sdV sd0)) := by
  unfold sOf
  cases aget m w with
  | none => exact hs_ (us := sdU sd0)
  | some v => exact hs_ (us := sdU v)
theorem je_ : ∀ w, (zeroValue 3).run Tryz.prog w = .ok (cntV 0) w := fun w => by
  kernel_rfl
noncomputable def copyC (c : Chg) (n : Nat) : Chg := (parseC c.bytes n).1
section
variable {h q bd bt bm t bv bn n : Nat} {av : Value} {D : List (ByteArray × Nat)} {m : List (Int × Sd)} {c : List (Sd × Nat)} {k : Sd} {who x y : Int} {g : Chg}
theorem cK_  : Spec Tryz.prog 34 [ptr h, int who] [.rd h 92 [.ifc 34 (ptr q), int (n : Nat), mapV bm, .v av]] (fun _ : Unit => []) (fun _ => boo (decide (0 ≤ who ∧ who < n))) := by
 refine K_ Tryz.func34 rfl Tryz.ntmps34 rfl fun G w =>d_<|a_<|q_ 1 rfl<|g_<|c_<|d_<|a_<|q_ 3 rfl<|z_ (t := 7) rfl ?_ ?_
 ·intro hc7
  refine q_ 4 rfl<|b_ (j_ tabOk rfl rfl r0_ List.not_mem_nil rfl) rfl rfl<|q_ 3 rfl<|g_<|c_<|n_<|f_ (rs := [.tmp 4]) rfl (RV.tmp rfl RV.nil) (()) sn_<|congrArg (fun b => Abs.v (Value.bool b)) ?_
  (rw [decide_eq_decide]; omega)
 intro hc7
 refine q_ 8 rfl<|g_<|c_<|n_<|f_ (rs := [.tmp 4]) rfl (RV.tmp rfl RV.nil) (()) sn_<|congrArg (fun b => Abs.v (Value.bool b)) ?_
 (symm; rw [decide_eq_false_iff_not]; omega)
theorem hF_  : Spec Tryz.prog 36 [int x, int y] [] (fun _ : Unit => []) (fun _ => int (laterE x y)) := by
 refine K_ Tryz.func36 rfl Tryz.ntmps36 rfl fun G w =>d_<|a_<|q_ 1 rfl<|g_<|c_<|d_<|u_<|d_<|a_<|q_ 4 rfl<|g_<|c_<|o_ rfl ?_ ?_
 ·intro hc5
  refine d_<|a_<|q_ 1 rfl<|g_<|c_<|n_<|B_<|i_ nofun<|f_ (rs := [.tmp 4]) rfl (RV.tmp rfl RV.nil) (()) sn_ ?_
  unfold laterE
  (rw [if_pos (by omega)]; rfl)
 intro hc5
 refine d_<|a_<|q_ 4 rfl<|g_<|c_<|o_ rfl ?_ ?_
 ·intro hc9
  refine d_<|a_<|q_ 1 rfl<|g_<|c_<|n_<|B_<|i_ nofun<|f_ (rs := [.tmp 4]) rfl (RV.tmp rfl RV.nil) (()) sn_ ?_
  unfold laterE
  (rw [if_neg (by omega), if_pos (by omega)]; rfl)
 intro hc9
 refine s_<|r_<|c_<|d_<|a_<|q_ 1 rfl<|g_<|c_<|n_<|f_ (rs := [.tmp 4]) rfl (RV.tmp rfl RV.nil) (()) sn_ ?_
 unfold laterE
 (rw [if_neg (by omega), if_neg (by omega)]; rfl)
theorem gl_ (hf : g.Few) (hl : g.bytes.length ≤ 10000000) : Spec Tryz.prog 44 [.agg g.abs, int (n : Nat)] [] (fun _ : Unit => []) (fun _ => .agg (copyC g n).abs) := by
 refine K_ Tryz.func44 rfl Tryz.ntmps44 rfl fun G w =>d_<|a_<|eb_ (O_ (cs := g.abs) rfl) rfl rfl fun b2=>?_
 refine eb_ (H_ tabOk rfl) rfl rfl fun b4=>?_
 refine g_<|c_<|d_<|a_<|b_ (y_ (C := .agg g.abs) (x_ tabOk rfl rfl rfl l1_ List.not_mem_nil rfl) rfl) rfl rfl<|t_ (fu_ (c := g) hf) Casts.refl (by kernel_rfl) rfl rfl rfl ?_
 refine ap_<|fun _=>q_ 1 rfl<|t_ (fk_ (l := g.bytes) (n := (n : Int)) hl) Casts.refl (by kernel_rfl) rfl rfl rfl ?_
 refine ap_<|fun _=>q_ 3 rfl<|eb_ (H_ tabOk rfl) rfl rfl fun b5=>?_
 refine e_ (D_ (L' := (copyC g n).abs) tabOk rfl rfl rfl u0_ rfl (Nat.le_of_ble_eq_true rfl) rfl (by exact N_ rfl)) rfl rfl ?_
 refine q_ 1 rfl<|g_<|c_<|d_<|a_<|b_ (y_ (C := .agg (copyC g n).abs) (x_ tabOk rfl rfl rfl l0_ List.not_mem_nil rfl) rfl) rfl rfl<|e_ (D_ (L' := (copyC g n).abs) tabOk rfl rfl rfl u1_ rfl (Nat.le_of_ble_eq_true rfl) rfl (by exact N_ rfl)) rfl rfl ?_
 exact g_<|c_<|n_<|f_ (rs := [.cell 4 26]) rfl (RV.cell rfl (RV.cellA tabOk rfl rfl l1_ (rfl)) RV.nil) (()) sn_<|rfl
theorem gx_ (hk : sdOk k) : Spec Tryz.prog 56 [ptr t, .agg (sdC k)] [.rd t 128 [mapV bv, mapV bn], .rdpc (mapPc bv intK sdV intOk m), .rdpc (mapPc bn sdV cntV sdOk c)] (fun _ : Unit => []) (fun _ => int ((cget c k : Nat) : Int)) := by
 refine K_ Tryz.func56 rfl Tryz.ntmps56 rfl fun G w =>d_<|a_<|eb_ (O_ (cs := sdC k) rfl) rfl rfl fun b3=>?_
 refine q_ 1 rfl<|g_<|c_<|d_<|d_<|a_<|q_ 1 rfl<|b_ (bq_ rfl rfl (by kernel_rfl)) rfl rfl ?_
 refine g_<|c_<|Z_ rfl<|s_<|c_<|d_<|U_ [] (.q 0 (.q 1 (.q 2 (.q 3 (.q 4 (.q 5 (.q 6 .nil))))))) (by kernel_rfl) (by kernel_rfl) ?_
 refine qs_ 3 rfl<|l_ rfl (j_ tabOk rfl rfl r1_ List.not_mem_nil rfl) (by simp) rfl rfl ?_
 refine af_ (by (simp [mids, It.mids, ownPc, mapPc]; done)) fun hx9 => ?_
 exact l_ rfl (x_ tabOk rfl rfl rfl l0_ List.not_mem_nil (aC_ _)) hx9 rfl rfl<|l_ rfl (aG_ (a := k) (zv := cntV 0) (C := int ((cget c k : Nat) : Int)) aP_ Tryz.underlying126 je_ rfl r3_ List.not_mem_nil rfl (a6_ _) hk (aK_ _ _)) hx9 rfl rfl<|qs_ 1 rfl<|I_<|c_<|n_<|f_ (rs := [.tmp 4]) rfl (RV.tmp rfl RV.nil) (()) sn_<|rfl
theorem sd_ofR_s (hw : intOk who) : Spec Tryz.prog 42 [ptr t, int who] [.rd t 128 [mapV bv, mapV bn], .rdpc (mapPc bv intK sdV intOk m), .rdpc (mapPc bn sdV cntV sdOk c)] (fun _ : Unit => []) (fun _ => .tup [.agg (sdC (sOf m who)), boo (aget m who).isSome]) := by
 refine K_ Tryz.func42 rfl Tryz.ntmps42 rfl fun G w =>d_<|a_<|eb_ (H_ tabOk rfl) rfl rfl fun b4=>?_
 refine q_ 1 rfl<|g_<|c_<|d_<|d_<|a_<|q_ 1 rfl<|b_ (bq_ rfl rfl (by kernel_rfl)) rfl rfl ?_
 refine g_<|c_<|Z_ rfl<|s_<|c_<|d_<|a_<|q_ 3 rfl<|b_ (j_ tabOk rfl rfl r1_ List.not_mem_nil rfl) rfl rfl<|q_ 1 rfl<|b_ (cw_ (a := who) (zv := sdV sd0) (C := .agg (sdC (sOf m who))) (a4_ Tryz.underlying3) Tryz.underlying125 gw_ rfl r2_ List.not_mem_nil rfl is_v hw (sOf_is _ _)) rfl rfl<|q_ 3 rfl<|eb_ (H_ tabOk rfl) rfl rfl fun b7=>?_
 refine e_ (D_ (L' := (sdC (sOf m who))) tabOk rfl rfl rfl u0_ (by exact aC_ _) (Nat.le_of_ble_eq_true rfl) (by exact dP_ _) (N_ (by exact aC_ _))) rfl rfl ?_
 refine q_ 1 rfl<|g_<|c_<|d_<|a_<|b_ (x_ tabOk rfl rfl rfl l0_ List.not_mem_nil (aC_ _)) rfl rfl<|q_ 1 rfl<|e_ (D_ (L' := (sdC (sOf m who))) tabOk rfl rfl rfl u1_ (by exact aC_ _) (Nat.le_of_ble_eq_true rfl) (by exact dP_ _) (N_ (by exact aC_ _))) rfl rfl ?_
 exact q_ 1 rfl<|g_<|c_<|n_<|f_ (rs := [.cell 4 96, .tmp 5]) rfl (RV.cell rfl (RV.cellA tabOk rfl rfl l1_ (aC_ _)) (RV.tmp rfl RV.nil)) (()) sn_<|rfl
set_option maxHeartbeats 1000000 in
theorem ek_ (hf : g.Few) (hl : g.bytes.length ≤ 1000000) (hn : Num1 D) (hT : D.length < 1000000) : Spec Tryz.prog 39 [.ifc 34 (ptr q), .agg g.abs] [.blk q 86 [mapV bd, mapV bt], .pc (mapPc bd Value.string cntV sOk D)] (fun _ : Unit => [.blk q 86 [mapV bd, mapV bt], .pc (mapPc bd Value.string cntV sOk (pm D (dKey g.bytes)))]) (fun _ => .agg (digA (numB 102 (pl D (dKey g.bytes))))) := by
 refine K_ Tryz.func39 rfl Tryz.ntmps39 rfl fun G w =>d_<|a_<|eb_ (O_ (cs := g.abs) rfl) rfl rfl fun b3=>?_
 refine eb_ (H_ tabOk rfl) rfl rfl fun b4=>?_
 refine g_<|c_<|d_<|SC.nod fun hnod => ?_
 have hbx : b3 ∉ mids [.blk q 86 [mapV bd, mapV bt], .pc (mapPc bd Value.string cntV sOk D)] := (List.nodup_cons.1 (List.nodup_cons.1 hnod).2).1
 refine aZ_ (mids [.blk q 86 [mapV bd, mapV bt], .pc (mapPc bd Value.string cntV sOk D)]) (.q 0 (.q 1 (.q 3 (.q 4 (.q 5 (.e 2 (.e 6 .nil))))))) (by kernel_rfl) (by kernel_rfl) ?_
 refine af_ (by (simp [mids, It.mids, ownPc, mapPc]; done)) fun hx9 => ?_
 refine qx_ 1 hx9 rfl<|l_ rfl (y_ (C := .agg g.abs) (x_ tabOk rfl rfl rfl l1_ hbx rfl) rfl) hx9 rfl rfl<|l_ rfl (bD_ rfl rfl) hx9 rfl rfl<|l_ rfl (dh_ rfl (fun w => by kernel_rfl)) hx9 rfl rfl ?_
 refine qx_ 1 hx9 rfl<|J_ rfl (fu_ (c := g) hf) (by simp [mids, It.mids]) Casts.refl (by kernel_rfl) rfl rfl rfl ?_
 refine ap_<|fun _=>ic_ rfl (f7_ (q := q) (bd := bd) (bt := bt) (D := D) (l := g.bytes) hl hn hT) (fun k hk => hk) rfl Casts.refl (fun _ _ _ => by kernel_rfl) rfl rfl rfl ?_
 refine bc_ [_, _] (β := []) rfl (by intro x hx; simp only [List.mem_cons, List.not_mem_nil, or_false] at hx; rcases hx with rfl | rfl <;> rfl) ?_
 intro _
 refine I_<|bg_ rfl (D_ (L' := digA (numB 102 (pl D (dKey g.bytes)))) tabOk rfl rfl rfl u0_ (by simp only [cellsA, digA, List.length_map]; rw [aI_]) (lb_ (by rfl)) (dZ_ _) (by exact N_ (by simp only [cellsA, digA, List.length_map]; rw [aI_]; rfl))) rfl rfl ?_
 rintro _ _ ⟨rfl, rfl⟩
 refine c_<|n_<|f_ (rs := [.cell 4 40]) rfl (RV.cell rfl (RV.cellA tabOk rfl rfl l0_ (by simp only [digA, List.length_map]; rw [aI_])) RV.nil) (()) (sk_ (sk_ sr_)) ?_
 exact rfl
end
theorem hu_ {place : Nat → Option (Nat × Nat)} {Z : List Abs} {x y : Abs} {a b : Nat} (hx : (cellsA x).length = a) (hy : (cellsA y).length = b) (hZ : Z.length = a + b) (h0 : place 0 = some (0, a)) (h1 : place 1 = some (a, b)) : fillA place Z [(0, x), (1, y)] = some (cellsA x ++ cellsA y) := by
  simp only [fillA, h0, h1, hx, hy, Nat.beq_refl, Bool.true_and, putL]
  rw [Nat.ble_eq_true_of_le (by omega)]
  simp only [cond_true]
  rw [Nat.ble_eq_true_of_le (by simp only [List.length_append, List.length_drop]; omega)]
  simp only [cond_true]
  rw [cq_ _ _ _ (by simp only [List.length_append]; omega)]
  rw [← hx, List.take_left, List.drop_eq_nil_of_le (by simp only [List.length_append, List.length_drop]; omega), List.append_nil]
structure Rng {α β : Type} (w : World) (b r : Nat) (K : α → Value) (V : β → Value) (Good : α → Prop) (m rest : List (α × β)) (cur : Option (α × β)) (es : Array MapEntry) (clock since : Nat) (seen : Array Nat) (c0 : Nat) : Prop where
  hb : w.heap[b]? = some (.map es clock)
  he : es.toList.map (fun e => (e.key, e.val)) = m.map (fun p => (K p.1, V p.2))
  nd : (m.map (·.1)).Nodup
  good : ∀ p ∈ m, Good p.1
  born : ∀ e ∈ es.toList, e.born < clock
  bnd : (es.toList.map (·.born)).Nodup
  hr : w.heap[r]? = some (.mapIter (some b) since seen c0)
  old : ∀ e ∈ es.toList, e.born < since
  le : since ≤ c0
  le2 : since ≤ clock
  left : ∀ p, p ∈ rest ↔ ∃ (j : Nat) (e : MapEntry), m[j]? = some p ∧ es.toList[j]? = some e ∧ seen.contains e.born = false
  last : ∀ p, cur = some p → c0 = clock ∧ ∃ (e : MapEntry) (s' : Array Nat), e ∈ es.toList ∧ e.key = K p.1 ∧ e.val = V p.2 ∧ seen = s'.push e.born
def rngPc {α β : Type} (b r : Nat) (K : α → Value) (V : β → Value) (Good : α → Prop) (m rest : List (α × β)) (cur : Option (α × β)) : Pc where
  ids := [b, r]
  p := fun _ w => r ≠ b ∧ ∃ es clock since seen c0, Rng w b r K V Good m rest cur es clock since seen c0
  carry := fun _ _ _ _ _ hs ⟨hn, es, clock, since, seen, c0, h⟩ => ⟨hn, es, clock, since, seen, c0, { h with hb := (hs b (by simp)).trans h.hb, hr := (hs r (by simp)).trans h.hr }⟩
  lt := fun _ w ⟨_, es, clock, since, seen, c0, h⟩ k hk => by
    simp at hk
    rcases hk with rfl | rfl
    · exact bu_ h.hb
    · exact bu_ h.hr
theorem f9_ {w : World} {b : Nat} {o : Obj} (hb : b < w.heap.size) : Ext [b] w (Go.ChangeMaps.setBlock w b o) :=
  ⟨rfl, rfl, rfl, by simp [Go.ChangeMaps.setBlock], fun k _ hn => by
    have : b ≠ k := fun h => hn (by simp [h])
    simp [Go.ChangeMaps.setBlock, Array.getElem?_setIfInBounds_ne this]⟩
theorem sb_same {w : World} {b : Nat} {o : Obj} (hb : b < w.heap.size) : (Go.ChangeMaps.setBlock w b o).heap[b]? = some o := by
  simp [Go.ChangeMaps.setBlock, Array.getElem?_setIfInBounds_self, hb]
theorem sb_other {w : World} {b k : Nat} {o : Obj} (h : b ≠ k) : (Go.ChangeMaps.setBlock w b o).heap[k]? = w.heap[k]? := by
  simp [Go.ChangeMaps.setBlock, Array.getElem?_setIfInBounds_ne h]
section
variable {α β : Type} {w : World} {b r : Nat} {K : α → Value} {V : β → Value} {Good : α → Prop} {m rest : List (α × β)} {cur : Option (α × β)} {es : Array MapEntry} {clock since : Nat} {seen : Array Nat} {c0 : Nat}
theorem iZ_ {es : List MapEntry} (h : es.map (fun e => (e.key, e.val)) = m.map (fun p => (K p.1, V p.2))) : es.length = m.length := by
  have h3 := congrArg List.length h
  simpa using h3
theorem enc_at {es : List MapEntry} (h : es.map (fun e => (e.key, e.val)) = m.map (fun p => (K p.1, V p.2))) {j : Nat} {e : MapEntry} {p : α × β} (he : es[j]? = some e) (hp : m[j]? = some p) : e.key = K p.1 ∧ e.val = V p.2 := by
  have h1 : (es.map (fun e => (e.key, e.val)))[j]? = (m.map (fun p => (K p.1, V p.2)))[j]? := by rw [h]
  rw [List.getElem?_map, List.getElem?_map, he, hp] at h1
  simpa using h1
theorem nd_at {l : List (α × β)} (h : (l.map (·.1)).Nodup) {i j : Nat} {p q : α × β} (hi : l[i]? = some p) (hj : l[j]? = some q) : p.1 = q.1 ↔ i = j := by
  have hi2 : (l.map (·.1))[i]? = some p.1 := by rw [List.getElem?_map, hi]; rfl
  have hj2 : (l.map (·.1))[j]? = some q.1 := by rw [List.getElem?_map, hj]; rfl
  constructor
  · intro e
    have hlt : i < (l.map (·.1)).length := (List.getElem?_eq_some_iff.1 hi2).1
    exact (List.getElem?_inj hlt h).1 (by rw [hi2, hj2, e])
  · rintro rfl
    rw [hi] at hj
    cases hj
    rfl
theorem bn_at {l : List MapEntry} (h : (l.map (·.born)).Nodup) {i j : Nat} {p q : MapEntry} (hi : l[i]? = some p) (hj : l[j]? = some q) : p.born = q.born ↔ i = j := by
  have hi2 : (l.map (·.born))[i]? = some p.born := by rw [List.getElem?_map, hi]; rfl
  have hj2 : (l.map (·.born))[j]? = some q.born := by rw [List.getElem?_map, hj]; rfl
  constructor
  · intro e
    have hlt : i < (l.map (·.born)).length := (List.getElem?_eq_some_iff.1 hi2).1
    exact (List.getElem?_inj hlt h).1 (by rw [hi2, hj2, e])
  · rintro rfl
    rw [hi] at hj
    cases hj
    rfl
theorem Rng.sub (h : Rng w b r K V Good m rest cur es clock since seen c0) : ∀ p ∈ rest, p ∈ m := fun p hp => by
  obtain ⟨j, e, h1, _⟩ := (h.left p).1 hp
  exact List.mem_of_getElem? h1
theorem Rng.map (h : Rng w b r K V Good m rest cur es clock since seen c0) : MapOf w b K V Good m := ⟨es, clock, h.hb, h.he, h.nd, h.good, h.born, h.bnd⟩
theorem Rng.next [DecidableEq α] {P : Program} (hne : r ≠ b) (h : Rng w b r K V Good m rest cur es clock since seen c0) (ty : TypeId) :
    (rest = [] ∧ (Instr.next (.pointer (some ⟨r, 0, none⟩)) false ty).run P w = .ok (.tuple #[.bool false]) w) ∨
    ∃ p ∈ rest, ∃ w', (Instr.next (.pointer (some ⟨r, 0, none⟩)) false ty).run P w = .ok (.tuple #[.bool true, K p.1, V p.2]) w' ∧ Ext [b, r] w w' ∧
      ∃ seen' c0', Rng w' b r K V Good m (rest.filter fun q => decide (q.1 ≠ p.1)) (some p) es clock since seen' c0' := by
  have hmem : ∀ e, e ∈ (leftOf es seen).toList ↔ e ∈ es.toList ∧ seen.contains e.born = false := fun e => by
    unfold leftOf
    rw [Array.toList_filter, List.mem_filter]
    cases seen.contains e.born <;> simp
  rcases run_next_at (P := P) w ty r b since c0 seen es clock h.hr h.hb h.old h.le with ⟨h0, hrun⟩ | ⟨e, he, w1, hw1, hrun⟩
  · refine .inl ⟨?_, hrun⟩
    rw [List.eq_nil_iff_forall_not_mem]
    intro p hp
    obtain ⟨j, e, _, h2, h3⟩ := (h.left p).1 hp
    have h4 := (hmem e).2 ⟨List.mem_of_getElem? h2, h3⟩
    have h5 : (leftOf es seen).toList = [] := List.length_eq_zero_iff.1 (by simpa using h0)
    rw [h5] at h4
    cases h4
  · obtain ⟨h1, h2⟩ := (hmem e).1 he
    obtain ⟨j, hj⟩ := List.getElem?_of_mem h1
    have hjl : j < es.toList.length := (List.getElem?_eq_some_iff.1 hj).1
    have hjm : j < m.length := by rw [← iZ_ h.he]; exact hjl
    obtain ⟨p, hp⟩ : ∃ p, m[j]? = some p := ⟨_, List.getElem?_eq_getElem hjm⟩
    obtain ⟨hk, hv⟩ := enc_at h.he hj hp
    have hheap : w1.heap = w.heap := by rcases hw1 with rfl | rfl <;> rfl
    have hx1 : Ext [] w w1 := by
      rcases hw1 with rfl | rfl
      · exact Ext.refl _
      · exact (Ext.refl _).drew
    have hrl : r < w1.heap.size := by rw [hheap]; exact bu_ h.hr
    refine .inr ⟨p, (h.left p).2 ⟨j, e, hp, hj, h2⟩, _, by rw [← hk, ← hv]; exact hrun, ?_, _, _, ⟨?_, h.he, h.nd, h.good, h.born, h.bnd, sb_same hrl, h.old, ?_, ?_, ?_, ?_⟩⟩
    · refine ⟨(f9_ hrl).os.trans hx1.os, (f9_ hrl).tape.trans hx1.tape, (f9_ hrl).output.trans hx1.output, Nat.le_trans hx1.size (f9_ hrl).size, fun k hk2 hn => ?_⟩
      rw [(f9_ hrl).block k (by rw [hheap]; exact hk2) (fun hk3 => hn (by simp at hk3; simp [hk3])), hheap]
    · rw [sb_other hne, hheap]
      exact h.hb
    · exact h.le2
    · exact h.le2
    · intro q
      rw [List.mem_filter, h.left q, decide_eq_true_eq]
      constructor
      · rintro ⟨⟨i, e', h3, h4, h5⟩, h6⟩
        refine ⟨i, e', h3, h4, ?_⟩
        rw [Array.contains_push, h5, Bool.false_or, beq_eq_false_iff_ne]
        intro e6
        exact h6 ((nd_at h.nd h3 hp).2 ((bn_at h.bnd h4 hj).1 e6))
      · rintro ⟨i, e', h3, h4, h5⟩
        rw [Array.contains_push, Bool.or_eq_false_iff, beq_eq_false_iff_ne] at h5
        refine ⟨⟨i, e', h3, h4, h5.1⟩, fun e6 => h5.2 ?_⟩
        exact (bn_at h.bnd h4 hj).2 ((nd_at h.nd h3 hp).1 e6)
    · intro p' hp'
      cases hp'
      exact ⟨rfl, e, seen, h1, hk, hv, rfl⟩
end
section
variable {P : Program} {n : Nat} {W : Wd} {σ τ : Blks} {l : Slots} {X : List Nat} {x y z : Operand} {d : Option Nat} {ty t k e : TypeId} {pos : String} {aft : Array Edge} {g : Option (Nat × Bool)} {b r : Nat} {A B C : Abs}
variable {α β : Type} [DecidableEq α] {K : α → Value} {V : β → Value} {Good : α → Prop} {m rest : List (α × β)} {cur : Option (α × β)} {a : α} {p : α × β} {Q : Exit → Act → World → Prop}
omit [DecidableEq α] in
theorem gq_ {τ : Nat → Blks} (ht : P.underlying t = some (.map k e)) (hx : look l x = some (mapV b)) (hu : ∀ r, Upd (.pc (mapPc b K V Good m)) (.pc (rngPc b r K V Good m m none)) σ (τ r)) :
    Eff P n W σ l [b] ⟨d, .range t x, ty, pos, aft, g⟩ fun u τ' => ∃ r : Nat, u = .v (.pointer (some ⟨r, 0, none⟩)) ∧ τ' = τ r := fun ac w hs => by
  have h1 : MapOf w b K V Good m := hs.mem.hold _ (hu 0).mem
  obtain ⟨es, clock, hb, he, hnd, hg, hborn, hbnd⟩ := h1
  have hbl := bu_ hb
  have hne : w.heap.size ≠ b := by omega
  have hx2 : Ext [b] w (w.alloc (.mapIter (some b) clock #[] clock)) := (Ext.new w _).mono (by simp)
  have hal : ∀ k, k < w.heap.size → (w.alloc (.mapIter (some b) clock #[] clock)).heap[k]? = w.heap[k]? := fun k hk => (Ext.new w _).block k hk (by simp)
  have h4 := hs.mem.upd (hu w.heap.size) (hx2.mono (by simp [It.mids, mapPc])) (by simp [It.mids, rngPc, Ne.symm hne]) (fun k hk => by
      simp [It.mids, rngPc] at hk
      rcases hk with rfl | rfl
      · exact .inl (by simp [It.mids, mapPc])
      · exact .inr (Nat.le_refl _)) rfl (fun _ => ⟨hne, es, clock, clock, #[], clock, (hal b hbl).trans hb, he, hnd, hg, hborn, hbnd, heap_alloc_new w _, hborn, Nat.le_refl _, Nat.le_refl _, fun p => ?_, fun p hp => by cases hp⟩)
  · refine ⟨.pointer (some ⟨w.heap.size, 0, none⟩), _, _, _, ⟨_, rfl, rfl⟩, hx2, rfl, h4.1, h4.2, .inl ?_⟩
    simp [execOp, hs.plain hx, run_range_map w t k e b es clock ht hb, Sem.run_bind, Result.andThen]
  · constructor
    · intro hp
      obtain ⟨j, hj⟩ := List.getElem?_of_mem hp
      have hjl : j < es.toList.length := by rw [iZ_ he]; exact (List.getElem?_eq_some_iff.1 hj).1
      exact ⟨j, _, hj, List.getElem?_eq_getElem hjl, by simp⟩
    · rintro ⟨j, e, h1, _⟩
      exact List.mem_of_getElem? h1
theorem ha_ {τ : List (α × β) → Option (α × β) → Blks} (hx : look l x = some (.v (.pointer (some ⟨r, 0, none⟩)))) (hu : ∀ rest' cur', Upd (.pc (rngPc b r K V Good m rest cur)) (.pc (rngPc b r K V Good m rest' cur')) σ (τ rest' cur')) :
    Eff P n W σ l [b, r] ⟨d, .next x false, ty, pos, aft, g⟩ fun u τ' => ∃ (o : Option (α × β)) (rest' : List (α × β)), (o = none → rest = []) ∧ (∀ p, o = some p → p ∈ rest ∧ rest' = rest.filter fun q => decide (q.1 ≠ p.1)) ∧
      u = .tup (.v (.bool o.isSome) :: (match o with | none => [] | some p => [.v (K p.1), .v (V p.2)])) ∧ τ' = τ rest' o := fun ac w hs => by
  obtain ⟨hne, es, clock, since, seen, c0, h⟩ : (rngPc b r K V Good m rest cur).p _ w := hs.mem.hold _ (hu [] none).mem
  have hnd : (It.pc (rngPc b r K V Good m rest cur)).mids.Nodup := by simp [It.mids, rngPc, Ne.symm hne]
  rcases h.next (P := P) hne ty with ⟨h0, hrun⟩ | ⟨p, hp, w', hrun, hx2, seen', c0', h'⟩
  · have h4 := hs.mem.upd (hu rest none) (Ext.refl w) hnd (fun k hk => .inl hk) rfl (fun hc => (rngPc b r K V Good m rest none).carry _ _ _ _ hc (fun _ _ => rfl) ⟨hne, es, clock, since, seen, c0, { h with last := fun p hp => by cases hp }⟩)
    refine ⟨.tuple #[.bool false], w, _, _, ⟨none, rest, fun _ => h0, fun p hp => (by cases hp), rfl, rfl⟩, Ext.refl w, ⟨[.bool false], rfl, _, _, rfl, rfl, rfl⟩, h4.1, h4.2, .inl ?_⟩
    simp [execOp, hs.plain hx, hrun, Sem.run_bind, Result.andThen]
  · have h4 := hs.mem.upd (hu _ (some p)) (hx2.mono (by simp [It.mids, rngPc])) hnd (fun k hk => .inl hk) rfl (fun hc => ⟨hne, es, clock, since, seen', c0', h'⟩)
    refine ⟨.tuple #[.bool true, K p.1, V p.2], w', _, _, ⟨some p, _, fun h => (by cases h), fun q hq => (by cases hq; exact ⟨hp, rfl⟩), rfl, rfl⟩, hx2, ⟨[.bool true, K p.1, V p.2], rfl, _, _, rfl, rfl, _, _, rfl, rfl, _, _, rfl, rfl, rfl⟩, h4.1, h4.2, .inl ?_⟩
    simp [execOp, hs.plain hx, hrun, Sem.run_bind, Result.andThen]
omit [DecidableEq α] in
theorem go_ (hx : look l x = some (.v (.pointer (some ⟨r, 0, none⟩)))) (hb : It.pc (rngPc b r K V Good m rest (some p)) ∈ σ) (hX : b ∉ X ∧ r ∉ X) : Val P n W σ l X ⟨d, .entry x, ty, pos, aft, g⟩ (.tup [.v (K p.1), .v (V p.2)]) := fun ac w hs _ => by
  obtain ⟨hne, es, clock, since, seen, c0, h⟩ : (rngPc b r K V Good m rest (some p)).p _ w := hs.mem.hold _ hb
  obtain ⟨rfl, e, s', he, hk, hv, rfl⟩ := h.last p rfl
  refine ⟨.tuple #[K p.1, V p.2], ⟨[K p.1, V p.2], rfl, _, _, rfl, rfl, _, _, rfl, rfl, rfl⟩, fun w' hw' => ?_⟩
  have h1 := run_entry_at (P := P) w' r b since s' es c0 e ((hw'.block r (bu_ h.hr) hX.2).trans h.hr) ((hw'.block b (bu_ h.hb) hX.1).trans h.hb) he h.bnd
  rw [hk, hv] at h1
  simp [execOp, hs.plain hx, h1, Sem.run_bind, Result.andThen]
omit [DecidableEq α] in
theorem id_ {c : Code} (hu : Upd (.pc (rngPc b r K V Good m rest cur)) (.pc (mapPc b K V Good m)) σ τ) (q : SC P c (St n W τ l) Q) : SC P c (St n W σ l) Q := fun ac w hs => by
  obtain ⟨hne, es, clock, since, seen, c0, h⟩ : (rngPc b r K V Good m rest cur).p _ w := hs.mem.hold _ hu.mem
  have h4 := hs.mem.upd hu (Ext.refl w) (by simp [It.mids, mapPc]) (fun k hk => .inl (by simp [It.mids, mapPc, rngPc] at hk ⊢; exact .inl hk)) rfl (fun _ => h.map)
  exact q ac w (hs.to h4.1 h4.2)
theorem ix_ (h : p ∈ rest) : (rest.filter fun q => decide (q.1 ≠ p.1)).length < rest.length := List.length_filter_lt_length_iff_exists.2 ⟨p, h, by simp⟩
end
section
variable {α β : Type} [DecidableEq α] {tm tm' : List (α × (Value × β))} {a c : α} {u : Value} {x : β}
def plM (tm : List (α × (Value × β))) : List (α × β) := tm.map fun e => (e.1, e.2.2)
theorem fj_ : ∀ (tm : List (α × (Value × β))), aget (plM tm) a = (aget tm a).map (·.2)
  | [] => rfl
  | e :: tm => by
    have h := fj_ tm
    unfold plM aget at h ⊢
    rw [List.map_cons, List.find?_cons, List.find?_cons]
    by_cases he : e.1 = a
    · simp [he]
    · simpa [he] using h
omit [DecidableEq α] in
theorem plM_keys (tm : List (α × (Value × β))) : (plM tm).map (·.1) = tm.map (·.1) := by
  unfold plM
  rw [List.map_map]
  rfl
theorem plM_put (tm : List (α × (Value × β))) (a : α) (u : Value) (x : β) : plM (aput tm a (u, x)) = aput (plM tm) a x := by
  have hg := fj_ tm (a := a)
  unfold aput
  rw [hg, Option.isSome_map]
  split
  · unfold plM
    rw [List.map_map, List.map_map]
    refine List.map_congr_left fun e _ => ?_
    show ((if e.1 = a then (a, (u, x)) else e).1, (if e.1 = a then (a, (u, x)) else e).2.2) = if e.1 = a then (a, x) else (e.1, e.2.2)
    split <;> rfl
  · unfold plM
    rw [List.map_append]
    rfl
end
def tmPc {α β : Type} (b : Nat) (K : α → Value) (Good : α → Prop) (enc : β → Abs) (m : List (α × β)) : Pc where
  ids := [b]
  p := fun K' w => ∃ tm : List (α × (Value × β)), plM tm = m ∧ MapOf w b K id Good (rawM tm) ∧ ∀ y ∈ facM enc tm, rep K' w y.2 y.1
  carry := fun _ _ _ _ hc hs ⟨tm, h1, h2, h3⟩ => ⟨tm, h1, hq_ h2 (hs b (by simp)), fun y hy => bb_ hc _ _ (h3 y hy)⟩
  lt := fun _ _ ⟨_, _, h2, _⟩ k hk => by simp at hk; subst hk; exact h2.lt
section
variable {P : Program} {n : Nat} {W : Wd} {σ τ : Blks} {l : Slots} {X : List Nat} {x y z : Operand} {d : Option Nat} {ty t k e : TypeId} {pos : String} {aft : Array Edge} {g : Option (Nat × Bool)} {b : Nat} {A B C : Abs} {ops : Array Oper} {rest : List Oper} {Q : Exit → Act → World → Prop}
variable {α β : Type} [DecidableEq α] {K : α → Value} {Good : α → Prop} {enc : β → Abs} {m : List (α × β)} {a : α} {v z0 : β} {zv : Value}
abbrev isTm (σ : Blks) (b : Nat) (K : α → Value) (Good : α → Prop) (enc : β → Abs) (m : List (α × β)) : Prop := It.pc (tmPc b K Good enc m) ∈ σ ∨ It.rdpc (tmPc b K Good enc m) ∈ σ
omit [DecidableEq α] in
theorem iP_ {w0 w : World} {F G : List Nat} {σ : Blks} (h : Mem w0 F G σ w) (hb : isTm σ b K Good enc m) : ∃ tm : List (α × (Value × β)), plM tm = m ∧ MapOf w b K id Good (rawM tm) ∧ ∀ y ∈ facM enc tm, rep (mids σ ++ G) w y.2 y.1 := by
  rcases hb with hb | hb
  · exact h.hold _ hb
  · exact h.hold _ hb
theorem tm_rep {tm : List (α × (Value × β))} {K' : List Nat} {w : World} (h : ∀ y ∈ facM enc tm, rep K' w y.2 y.1) (hz : rep K' w (enc z0) zv) : rep K' w (enc ((aget (plM tm) a).getD z0)) (((aget (rawM tm) a).map id).getD zv) := by
  rw [dS_, fj_]
  cases hg : aget tm a with
  | none => exact hz
  | some e => exact h _ (List.mem_map.2 ⟨(a, e), g1_ hg, rfl⟩)
theorem cf_ (kf : KeyFit P k K Good) (ht : P.underlying t = some (.map k e)) (hz : ∀ w, (zeroValue e).run P w = .ok zv w) (hzr : ∀ K w, rep K w (enc z0) zv) (hx : look l x = some (mapV b)) (hb : isTm σ b K Good enc m) (hbX : b ∉ X)
    (hy : look l y = some A) (hA : A.is (K a)) (ha : Good a) : Val P n W σ l X ⟨d, .lookup t x y true, ty, pos, aft, g⟩ (.tup [enc ((aget m a).getD z0), boo (aget m a).isSome]) := fun ac w hs _ => by
  obtain ⟨tm, rfl, h1, h2⟩ := iP_ hs.mem hb
  have e1 := hs.plain hx
  have e2 := hA.1 _ _ _ (hs.eval hy)
  refine ⟨.tuple #[((aget (rawM tm) a).map id).getD zv, .bool (aget (rawM tm) a).isSome], ⟨_, rfl, _, _, rfl, tm_rep h2 (hzr _ _), _, _, rfl, ?_, rfl⟩, fun w' hw' => ?_⟩
  · rw [fj_, dS_, Option.isSome_map, Option.isSome_map]; exact rfl
  · simp only [execOp, e1, e2, Sem.run_bind, (h1.ext hw' hbX).look_run kf ht (hz w') ha true, if_true, Result.andThen_ok, Sem.run_pure]
theorem eC_ {m' : List (α × β)} (kf : KeyFit P k K Good) (ht : P.underlying t = some (.map k e)) (hx : look l x = some (mapV b)) (hu : Upd (.pc (tmPc b K Good enc m)) (.pc (tmPc b K Good enc m')) σ τ) (hy : look l y = some A) (hA : A.is (K a)) (ha : Good a) (hz : look l z = some (enc v)) (hm : aput m a v = m') :
    Eff P n W σ l [b] ⟨d, .mapUpdate t x y z, ty, pos, aft, g⟩ fun u τ' => u = .v undef ∧ τ' = τ := fun ac w hs => by
  subst hm
  obtain ⟨tm, rfl, h1, h2⟩ := iP_ hs.mem (.inl hu.mem)
  have h5 := hs.eval hz
  obtain ⟨w', hr, h6, h3⟩ := h1.put_run kf ht ha (ac.eval z)
  have h4 := hs.mem.upd hu (h3.mono (by simp [It.mids, tmPc])) (by simp [It.mids, tmPc]) (fun k hk => .inl hk) rfl (fun hc => ⟨aput tm a (ac.eval z, v), plM_put _ _ _ _, by rw [rawM_put]; exact h6, fun y hy => by
    rcases List.mem_cons.1 (facM_put tm a (ac.eval z) v y hy) with rfl | hy
    · exact bb_ hc _ _ h5
    · exact bb_ hc _ _ (h2 y hy)⟩)
  refine ⟨_, w', _, _, ⟨rfl, rfl⟩, h3, rfl, h4.1, h4.2, .inr ⟨rfl, ?_⟩⟩
  simp only [id] at hr
  simp only [execOp, hs.plain hx, hA.1 _ _ _ (hs.eval hy), Sem.run_bind, hr, Result.andThen_ok, Sem.run_pure]
omit [DecidableEq α] in
theorem ih_ {o : Op} (K : α → Value) (Good : α → Prop) (enc : β → Abs) (hrun : ∀ (ac : Act) (w : World), (execOp ac.eval ⟨d, o, ty, pos, aft, g⟩).run P w = .ok (.value (.map (some w.heap.size))) (w.alloc (.map #[] 0))) :
    Eff P n W σ l [] ⟨d, o, ty, pos, aft, g⟩ fun u τ' => ∃ b, u = mapV b ∧ τ' = .pc (tmPc b K Good enc []) :: σ := fun ac w hs => by
  have hx : Ext [] w (w.alloc (.map #[] 0)) := (Ext.refl w).alloc _
  have h4 := hs.mem.new (y := .pc (tmPc w.heap.size K Good enc [])) hx (by simp [It.mids, tmPc]) (by simp [It.mids, tmPc]) rfl (fun _ => ⟨[], rfl, MapOf.new w, fun y hy => by cases hy⟩)
  exact ⟨_, _, _, _, ⟨w.heap.size, rfl, rfl⟩, hx, rfl, h4.1, h4.2, .inl (hrun ac w)⟩
/-! ### Opened: the map's own values, and what they are -/
omit [DecidableEq α] in
theorem Re.tmIn {tm : List (α × (Value × β))} (hm : plM tm = m) : Re [facts (facM enc tm), .pc (mapPc b K id Good (rawM tm))] [.pc (tmPc b K Good enc m)] := ⟨⟨[], by simp [mids, It.mids, mapPc, tmPc, factsPc]⟩, by simp [It.rids], fun K' w h y hy => by
  rw [List.mem_singleton.1 hy]
  exact ⟨tm, hm, h (.pc (mapPc b K id Good (rawM tm))) (by simp), fun y hy => (h (facts (facM enc tm)) (by simp) : ∀ x ∈ facM enc tm, rep K' w x.2 x.1) y hy⟩⟩
omit [DecidableEq α] in
theorem St.tmOpen {ac : Act} {w : World} {pre post : Blks} (h : St n W (pre ++ .pc (tmPc b K Good enc m) :: post) l ac w) : ∃ tm : List (α × (Value × β)), plM tm = m ∧ St n W (pre ++ facts (facM enc tm) :: .pc (mapPc b K id Good (rawM tm)) :: post) l ac w := by
  obtain ⟨tm, rfl, h1, h2⟩ := iP_ (b := b) (K := K) (Good := Good) (enc := enc) (m := m) h.mem (.inl (by simp))
  have hids : mids (pre ++ facts (facM enc tm) :: .pc (mapPc b K id Good (rawM tm)) :: post) = mids (pre ++ .pc (tmPc b K Good enc (plM tm)) :: post) := by
    simp [Q_, aq_, It.mids, mapPc, tmPc, factsPc]
  have h3 := h.mem.step (τ := pre ++ facts (facM enc tm) :: .pc (mapPc b K id Good (rawM tm)) :: post) (Y := []) (Ext.refl w) (by simp) (fun k hk => .inl (by rw [← hids]; exact hk)) (fun y hy => ?_) (by rw [hids]; exact h.mem.nodup) fun hc y hy => ?_
  · exact ⟨tm, rfl, h.to h3.1 h3.2⟩
  · simp only [List.mem_append, List.mem_cons] at hy
    rcases hy with hy | rfl | rfl | hy
    · exact h.mem.ro y (by simp [hy])
    · simp [It.rids]
    · simp [It.rids]
    · exact h.mem.ro y (by simp [hy])
  · simp only [List.mem_append, List.mem_cons] at hy
    rcases hy with hy | rfl | rfl | hy
    · exact h.mem.keep (Y := []) (Ext.refl w) hc (by simp [hy]) (by simp) (by simp)
    · exact fun y hy => bb_ hc _ _ (h2 y hy)
    · exact h1
    · exact h.mem.keep (Y := []) (Ext.refl w) hc (by simp [hy]) (by simp) (by simp)
omit [DecidableEq α] in
theorem jC_ (pre : Blks) {post : Blks} (hσ : σ = pre ++ .pc (tmPc b K Good enc m) :: post) (k : ∀ tm : List (α × (Value × β)), plM tm = m → SL P ops rest (St n W (pre ++ facts (facM enc tm) :: .pc (mapPc b K id Good (rawM tm)) :: post) l) Q) : SL P ops rest (St n W σ l) Q := by
  subst hσ
  intro a w h
  obtain ⟨tm, h1, h2⟩ := h.tmOpen
  exact k tm h1 a w h2
end
structure Tl where
  t : Nat
  bv : Nat
  bn : Nat
  m : List (Int × Sd)
  c : List (Sd × Nat)
def tlP (x : Tl) : Pc := bigP [blkP x.t 128 [mapV x.bv, mapV x.bn], mapPc x.bv intK sdV intOk x.m, mapPc x.bn sdV cntV sdOk x.c]
def tlsP (L : List Tl) : Pc := bigP (L.map tlP)
theorem Re.newTl {L : List Tl} {t bv bn : Nat} : Re [.blk t 128 [mapV bv, mapV bn], .pc (mapPc bv intK sdV intOk []), .pc (mapPc bn sdV cntV sdOk []), .pc (tlsP L)] [.pc (tlsP (L ++ [⟨t, bv, bn, [], []⟩]))] where
  ids := ⟨[], by
    rw [List.perm_iff_count]
    intro a
    simp [mids, It.mids, tlsP, tlP, bigP, blkP, mapPc, List.count_append, List.count_cons]
    omega⟩
  rd := by simp [It.rids]
  hh := fun K w h y hy => by
    rw [List.mem_singleton] at hy
    subst hy
    intro d hd
    have h0 : (tlsP L).p K w := h (.pc (tlsP L)) (by simp)
    rw [List.map_append, List.mem_append] at hd
    rcases hd with hd | hd
    · exact h0 d hd
    · rw [List.map_cons, List.map_nil, List.mem_singleton] at hd
      subst hd
      intro e he
      simp only [List.mem_cons, List.not_mem_nil, or_false] at he
      rcases he with rfl | rfl | rfl
      · exact h (.blk t 128 [mapV bv, mapV bn]) (by simp)
      · exact h (.pc (mapPc bv intK sdV intOk [])) (by simp)
      · exact h (.pc (mapPc bn sdV cntV sdOk [])) (by simp)
theorem Re.tlOut {x : Tl} : Re [.pc (tlP x)] [.blk x.t 128 [mapV x.bv, mapV x.bn], .pc (mapPc x.bv intK sdV intOk x.m), .pc (mapPc x.bn sdV cntV sdOk x.c)] := ⟨⟨[], by simp [mids, It.mids, tlP, bigP, blkP, mapPc]⟩, by simp [It.rids], fun K w h y hy => by
  have h1 : ∀ d ∈ [blkP x.t 128 [mapV x.bv, mapV x.bn], mapPc x.bv intK sdV intOk x.m, mapPc x.bn sdV cntV sdOk x.c], d.p K w := h _ (List.mem_singleton.2 rfl)
  simp only [List.mem_cons, List.not_mem_nil, or_false] at hy
  rcases hy with rfl | rfl | rfl
  · exact h1 (blkP x.t 128 [mapV x.bv, mapV x.bn]) (by simp)
  · exact h1 (mapPc x.bv intK sdV intOk x.m) (by simp)
  · exact h1 (mapPc x.bn sdV cntV sdOk x.c) (by simp)⟩
theorem Re.tlIn {x : Tl} : Re [.blk x.t 128 [mapV x.bv, mapV x.bn], .pc (mapPc x.bv intK sdV intOk x.m), .pc (mapPc x.bn sdV cntV sdOk x.c)] [.pc (tlP x)] := ⟨⟨[], by simp [mids, It.mids, tlP, bigP, blkP, mapPc]⟩, by simp [It.rids], fun K w h y hy => by
  rw [List.mem_singleton.1 hy]
  intro e he
  simp only [List.mem_cons, List.not_mem_nil, or_false] at he
  rcases he with rfl | rfl | rfl
  · exact h (.blk x.t 128 [mapV x.bv, mapV x.bn]) (by simp)
  · exact h (.pc (mapPc x.bv intK sdV intOk x.m)) (by simp)
  · exact h (.pc (mapPc x.bn sdV cntV sdOk x.c)) (by simp)⟩
abbrev tlR (x : Tl) : Blks := [.rd x.t 128 [mapV x.bv, mapV x.bn], .rdpc (mapPc x.bv intK sdV intOk x.m), .rdpc (mapPc x.bn sdV cntV sdOk x.c)]
theorem St.tl {n : Nat} {W : Wd} {σ : Blks} {l : Slots} {L : List Tl} {x : Tl} {a : Act} {w : World} (hm : It.rdpc (tlsP L) ∈ σ) (hx : x ∈ L) (h : St n W σ l a w) : St n W (tlR x ++ σ) l a w := by
  have hp : (tlsP L).p (mids σ ++ W.G) w := h.mem.hold _ hm
  have hx1 : (tlP x).p (mids σ ++ W.G) w := hp _ (List.mem_map.2 ⟨x, hx, rfl⟩)
  have hid : ∀ k ∈ (tlP x).ids, k ∈ W.G := fun k hk => h.mem.ro _ hm k (List.mem_flatMap.2 ⟨tlP x, List.mem_map.2 ⟨x, hx, rfl⟩, hk⟩)
  have hmid : mids (tlR x ++ σ) = mids σ := by simp [mids, It.mids]
  have h2 : Mem W.w0 W.F W.G (tlR x ++ σ) w := by
    refine ⟨h.mem.ext, by rw [hmid]; exact h.mem.out, by rw [hmid]; exact h.mem.sep, h.mem.old, fun y hy k hk => ?_, by rw [hmid]; exact h.mem.nodup, fun y hy => ?_⟩
    · rcases List.mem_append.1 hy with hy | hy
      · refine hid k ?_
        simp only [List.mem_cons, List.not_mem_nil, or_false] at hy
        rcases hy with rfl | rfl | rfl
        · simp [tlP, bigP, blkP, mapPc, It.rids] at hk ⊢; simp [hk]
        · simp [tlP, bigP, blkP, mapPc, It.rids] at hk ⊢; simp [hk]
        · simp [tlP, bigP, blkP, mapPc, It.rids] at hk ⊢; simp [hk]
      · exact h.mem.ro y hy k hk
    · rw [hmid]
      rcases List.mem_append.1 hy with hy | hy
      · simp only [List.mem_cons, List.not_mem_nil, or_false] at hy
        rcases hy with rfl | rfl | rfl
        · exact hx1 (blkP x.t 128 [mapV x.bv, mapV x.bn]) (by simp)
        · exact hx1 (mapPc x.bv intK sdV intOk x.m) (by simp)
        · exact hx1 (mapPc x.bn sdV cntV sdOk x.c) (by simp)
      · exact h.mem.hold y hy
  exact h.to h2 (by rw [hmid]; exact Carry.refl)
section
variable {P : Program} {n : Nat} {W : Wd} {σ : Blks} {l : Slots} {X : List Nat} {Q : Exit → Act → World → Prop} {ops : Array Oper} {rest : List Oper} {ix : Plan} {L : List Tl} {x : Tl}
theorem SX.tl (hm : It.rdpc (tlsP L) ∈ σ) (hx : x ∈ L) (k : SX P ops ix X (St n W (tlR x ++ σ) l) Q) : SX P ops ix X (St n W σ l) Q := fun a w h => k a w (h.tl hm hx)
end
theorem sdC_eq (k : Sd) : sdC k = int k.view :: digA k.dig := by simp [sdC, sdU, digA]
theorem is_ {k : Sd} {place : Nat → Option (Nat × Nat)} {Z : List Abs} (hZ : Z.length = 33) (h0 : place 0 = some (0, 1)) (h1 : place 1 = some (1, 32)) : fillA place Z [(0, int k.view), (1, .agg (digA k.dig))] = some (sdC k) := by
  rw [sdC_eq]
  exact hu_ (a := 1) (b := 32) rfl (by show (digA k.dig).length = 32; simp [digA, k.len]) hZ h0 h1
def votesN (n : Nat) (L : List Tl) (of_ : Int) (k : Sd) : Nat := if 0 ≤ of_ ∧ of_ < n then cget ((L[of_.toNat]?).map (·.c) |>.getD []) k else 0
section
variable {h q bd bt bm n : Nat} {av : Value} {L : List Tl} {k : Sd} {who of_ : Int}
theorem fv_ (hn : L.length = n) (hk : sdOk k) : Spec Tryz.prog 20 [ptr h, int of_, int k.view, .agg (digA k.dig)] [.rd h 92 [.ifc 34 (ptr q), int (n : Nat), mapV bm, .v av], .rdpc (ownPc 93 1 av (L.map fun x => [ptr x.t])), .rdpc (tlsP L)] (fun _ : Unit => []) (fun _ => int (votesN n L of_ k : Nat)) := by
 refine K_ Tryz.func20 rfl Tryz.ntmps20 rfl fun G w =>d_<|a_<|eb_ (O_ (cs := digA k.dig) rfl) rfl rfl fun b7=>?_
 refine q_ 1 rfl<|g_<|c_<|d_<|d_<|a_<|q_ 1 rfl<|b_ (bq_ rfl rfl (by kernel_rfl)) rfl rfl ?_
 refine q_ 3 rfl<|t_ (cK_ (q := q) (bm := bm) (av := av) (n := n)) Casts.refl (by kernel_rfl) rfl rfl rfl ?_
 refine ap_<|fun _=>b_ (aw_ rfl) rfl rfl<|q_ 1 rfl<|g_<|c_<|o_ rfl ?_ ?_
 ·intro hc16
  refine d_<|a_<|q_ 1 rfl<|g_<|c_<|n_<|i_ nofun<|f_ (rs := [.tmp 8]) rfl (RV.tmp rfl RV.nil) (()) sn_ ?_
  rw [show votesN n L of_ k = 0 from if_neg (by omega)]
  rfl
 intro hc16
 obtain ⟨x, hx⟩ : ∃ x, L[of_.toNat]? = some x := ⟨_, List.getElem?_eq_getElem (by omega)⟩
 have hxm := List.mem_of_getElem? hx
 refine s_<|c_<|d_<|U_ [] (.q 0 (.q 1 (.q 2 (.q 3 (.q 4 (.q 5 (.q 6 (.q 7 (.q 8 (.q 9 (.e 10 (.q 11 .nil)))))))))))) (by kernel_rfl) (by kernel_rfl) ?_
 refine qs_ 3 rfl<|l_ rfl (j_ tabOk rfl rfl r1_ List.not_mem_nil rfl) (by simp) rfl rfl ?_
 refine qs_ 1 rfl<|af_ (by (simp [mids, It.mids, ownPc, mapPc]; done)) fun hx9 => ?_
 refine l_ rfl (bm_ (q := of_.toNat) tabOk Tryz.underlying90 rfl rfl r2_ rfl (by omega) (by rw [List.length_map]; omega) rfl rfl) hx9 rfl rfl ?_
 refine l_ rfl (y_ (C := ptr x.t) (bE_ (q := of_.toNat) (s := 1) (cs := [ptr x.t]) tabOk rfl rfl r2_ rfl (by rw [List.getElem?_map, hx]; rfl) rfl) rfl) hx9 rfl rfl ?_
 refine qs_ 1 rfl<|l_ rfl (x_ tabOk rfl rfl rfl l0_ List.not_mem_nil (by simp [digA, k.len])) hx9 rfl rfl ?_
 refine l_ rfl (y_ (C := .agg (sdC k)) (L_ tabOk rfl rfl rfl (is_ rfl rfl rfl)) rfl) hx9 rfl rfl<|SX.tl (x := x) i3_ hxm<|J_ rfl (gx_ (t := x.t) (bv := x.bv) (bn := x.bn) (m := x.m) (c := x.c) (k := k) hk) (by simp [mids, It.mids]) Casts.refl (by kernel_rfl) rfl rfl rfl ?_
 refine ap_<|fun _=>qs_ 1 rfl<|I_<|c_<|n_<|f_ (rs := [.tmp 8]) rfl (RV.tmp rfl RV.nil) (()) sn_ ?_
 rw [show votesN n L of_ k = cget x.c k by unfold votesN; rw [if_pos (by omega), hx]; rfl]
 rfl
end
structure Kp where
  c : Chg
  dig : List UInt8
  len : dig.length = 32
def Kp.cells (o : Kp) : List Abs := o.c.abs ++ digA o.dig
def Kp.enc (o : Kp) : Abs := .agg o.cells
def Kp.zero : Kp := ⟨Chg.zero, List.replicate 32 0, by simp⟩
theorem bV_ (o : Kp) : o.cells.length = 37 := by simp [Kp.cells, Chg.abs, digA, o.len]
theorem ep_ (o : Kp) : ones o.cells = true := by
  rw [bU_]; intro a ha
  rcases List.mem_append.1 ha with ha | ha
  · simp only [Chg.abs, List.mem_cons, List.not_mem_nil, or_false] at ha
    rcases ha with rfl | rfl | rfl | rfl | rfl <;> rfl
  · obtain ⟨b, _, rfl⟩ := List.mem_map.1 ha; rfl
theorem gG_ (o : Kp) : Abs.agg (part o.cells 0 5) = .agg o.c.abs := by
  unfold A.part Kp.cells
  rw [List.drop_zero, List.take_append_of_le_length (by simp [Chg.abs]), List.take_of_length_le (by simp [Chg.abs])]
theorem kp_dig (o : Kp) : Abs.agg (part o.cells 5 32) = .agg (digA o.dig) := by
  unfold A.part Kp.cells
  rw [show o.c.abs = [int o.c.view, int o.c.low, pntsA o.c.points, prfsA o.c.prepared, prfsA o.c.proposed] from rfl]
  simp only [List.cons_append, List.nil_append, List.drop_succ_cons, List.drop_zero]
  rw [List.take_of_length_le (by simp [digA, o.len])]
def zkp : Value := .agg ([Value.int .i64 0, Value.int .i64 0, Value.slice none 0 0, Value.slice none 0 0, Value.slice none 0 0] ++ List.replicate 32 (bc 0)).toArray
theorem e8_ (w : World) : (zeroValue 99).run Tryz.prog w = .ok zkp w := by kernel_rfl
theorem e7_ (K : List Nat) (w : World) : rep K w Kp.zero.enc zkp := by
  refine ⟨_, rfl, aX_ ⟨_, _, rfl, rfl, _, _, rfl, rfl, _, _, rfl, dm_ rfl, _, _, rfl, dm_ rfl, _, _, rfl, dm_ rfl, rfl⟩ ?_⟩
  have h := fX_ (K := K) (w := w) ((List.replicate 32 (0 : UInt8)).map bc)
  rw [List.map_map] at h
  rw [List.map_replicate] at h
  exact h
theorem gH_ {o : Kp} {place : Nat → Option (Nat × Nat)} {Z : List Abs} (hZ : Z.length = 37) (h0 : place 0 = some (0, 5)) (h1 : place 1 = some (5, 32)) : fillA place Z [(0, .agg o.c.abs), (1, .agg (digA o.dig))] = some o.cells :=
  hu_ (a := 5) (b := 32) rfl (by show (digA o.dig).length = 32; simp [digA, o.len]) hZ h0 h1
def newTls (zs : List (Nat × Nat × Nat)) : List Tl := zs.map fun z => ⟨z.1, z.2.1, z.2.2, [], []⟩
theorem em_ (zs : List (Nat × Nat × Nat)) (z : Nat × Nat × Nat) : newTls (zs ++ [z]) = newTls zs ++ [⟨z.1, z.2.1, z.2.2, [], []⟩] := by simp [newTls]
theorem ce_ (zs : List (Nat × Nat × Nat)) : (newTls zs).length = zs.length := List.length_map _
section
variable {q n : Nat} {nI : Int}
set_option maxHeartbeats 1000000 in
theorem jm_ (h1 : 1 ≤ n) (h7 : n ≤ 7) : Spec Tryz.prog 9 [.ifc 34 (ptr q), int (n : Nat)] [] (fun z : Nat × Nat × Value × {zs : List (Nat × Nat × Nat) // zs.length = n} => [.blk z.1 92 [.ifc 34 (ptr q), int (n : Nat), mapV z.2.1, .v z.2.2.1], .pc (tmPc z.2.1 intK intOk Kp.enc []), own 93 1 z.2.2.1 ((newTls z.2.2.2.1).map fun x => [ptr x.t]), .pc (tlsP (newTls z.2.2.2.1))]) (fun z => ptr z.1) := by
 refine K_ Tryz.func9 rfl Tryz.ntmps9 rfl fun G w =>d_<|a_<|q_ 1 rfl<|g_<|c_<|d_<|d_<|a_<|q_ 1 rfl<|b_ (gn_ Tryz.underlying88 rfl) rfl rfl<|q_ 5 rfl<|z_ (t := 12) rfl (by intro hc12; exfalso; omega) ?_
 intro hc12
 refine q_ 3 rfl<|g_<|c_<|o_ rfl (by intro hc15; exfalso; omega) ?_
 intro hc15
 refine s_<|c_<|d_<|a_<|q_ 2 rfl<|eb_ (ih_ intK intOk Kp.enc (fun ac w => by simp [execOp, Instr.makeMap, newObj, Sem.run, Sem.run_bind, Result.andThen])) rfl rfl fun m18=>?_
 refine b_ (L_ tabOk rfl rfl rfl rfl) rfl rfl<|eb_ (O_ (cs := [.ifc 34 (ptr q), int (n : Nat), mapV m18, .v (.slice none 0 0)]) rfl) rfl rfl fun b20=>?_
 refine q_ 1 rfl<|g_<|c_<|d_<|d_<|a_<|q_ 2 rfl<|g_<|c_<|u_<|jF_ [] (Re.empty) rfl<|eB_ 93 1<|W_ (ι := List (Nat × Nat × Nat) × Value) (fun z => [own 93 1 z.2 ((newTls z.1).map fun x => [ptr x.t]), .pc (tlsP (newTls z.1)), .blk b20 92 [.ifc 34 (ptr q), int (n : Nat), mapV m18, .v z.2], .pc (tmPc m18 intK intOk Kp.enc [])]) (fun z => [(5, ptr b20), (21, int (n : Nat)), (22, int (z.1.length : Nat))]) (fun z => z.1.length ≤ n) (fun z => n - z.1.length) ([], .slice none 0 0) (Nat.zero_le _) (by exact ⟨rfl, rfl, rfl, trivial⟩) sr_ ?_
 intro z hz
 refine d_<|a_<|q_ 1 rfl<|g_<|c_<|d_<|o_ rfl ?_ ?_
 rotate_left
 ·intro hc23
  refine T_<|i_ nofun<|i_ nofun<|S_<|c_<|d_<|a_<|q_ 2 rfl<|g_<|c_<|n_<|g7_ (List.perm_append_comm (l₁ := [_, _]) (l₂ := [_, _]))<|f_ (rs := [.tmp 4]) rfl (RV.tmp rfl RV.nil) ((b20, m18, z.2, ⟨z.1, by omega⟩)) sr_ ?_
  exact rfl
 intro hc23
 refine s_<|c_<|d_<|u_<|SC.nod fun hnod => ?_
 have hbx : b20 ∉ mids [own 93 1 z.2 ((newTls z.1).map fun x => [ptr x.t])] ++ [] := by
  intro hm
  have h9 : (z.2.ownBlock.toList ++ ((tlsP (newTls z.1)).ids ++ (b20 :: [m18]))).Nodup := hnod
  exact (List.nodup_append.1 h9).2.2 b20 (by simpa [mids, It.mids, ownPc] using hm) b20 (by simp) rfl
 refine aZ_ (mids [own 93 1 z.2 ((newTls z.1).map fun x => [ptr x.t])] ++ []) (.q 0 (.q 1 (.q 2 (.q 3 (.q 4 (.e 5 (.e 6 (.e 7 (.q 8 (.q 9 .nil)))))))))) (by kernel_rfl) (by kernel_rfl) ?_
 refine af_ (by (intro k hk; simp [mids, It.mids, ownPc, mapPc, mapAtPc] at hk ⊢; grind)) fun hx9 => ?_
 refine qx_ 4 hx9 rfl<|l_ rfl (y_ (C := .v z.2) (j_ tabOk rfl rfl l2_ hbx rfl) rfl) hx9 rfl rfl<|J_ rfl (sd_new_s) (by simp [mids, It.mids]) Casts.refl (by kernel_rfl) rfl rfl rfl ?_
 refine cb_ _ (List.Perm.refl _) (by intro x hx; cases hx) ?_
 intro zt
 refine ⟨_, List.perm_middle.symm, ex_ rfl (ax_ tabOk Tryz.underlying90 rfl rfl rfl rfl rfl rfl rfl) (by simp) rfl rfl ?_⟩
 refine jB_ [own 93 1 z.2 ((newTls z.1).map fun x => [ptr x.t])] [] rfl (bh_ (zs := (newTls (z.1 ++ [zt])).map fun x => [ptr x.t]) tabOk [] (by rw [em_, List.map_append]; rfl) Tryz.underlying90 rfl rfl rfl rfl rfl rfl (by intro c hc; rw [List.mem_singleton] at hc; subst hc; rfl) (by unfold maxLen; simp only [List.length_map, ce_, List.length_cons, List.length_nil]; omega) (by rw [show Tryz.prog.bytesOf 93 = 8 by kernel_rfl]; simp only [List.length_map, ce_, List.length_cons, List.length_nil]; omega)) rfl (by intro k hk; simp [mids, It.mids, ownPc] at hk ⊢; simp [hk]) rfl rfl ?_
 rintro _ _ ⟨r31, rfl, rfl⟩
 refine ⟨[own 93 1 r31 ((newTls (z.1 ++ [zt])).map fun x => [ptr x.t])], rfl, af_ (by (intro k hk; simp [mids, It.mids, ownPc, mapPc, mapAtPc] at hk ⊢; grind)) fun hx9 => ?_⟩
 refine qx_ 2 hx9 rfl<|I_<|bg_ rfl (dJ_ (L' := [.ifc 34 (ptr q), int (n : Nat), mapV m18, .v r31]) tabOk rfl rfl rfl rfl i0_ u5_ rfl (by rfl)) rfl rfl ?_
 rintro _ _ ⟨rfl, rfl⟩
 refine r_<|c_<|a_<|b_ (v_ rfl rfl (by simp only [InR, lo, hi]; omega)) rfl rfl ?_
 refine q_ 1 rfl<|g_<|SE.re [_] Re.newTl rfl ?_
 rw [← em_]
 refine A_ (z.1 ++ [zt], r31) (by dsimp only; rw [List.length_append, List.length_singleton]; omega) ((by dsimp only; rw [List.length_append, List.length_singleton]; omega)) (by refine ⟨rfl, rfl, ?_, trivial⟩; dsimp only; rw [List.length_append, List.length_singleton]; rfl) sr_
end
theorem aJ_ {σ τ : Blks} (h : τ.Sublist σ) {k : Nat} (hk : k ∈ mids τ) : k ∈ mids σ := (dW_ h).subset hk
structure CIn (c : Chg) : Prop where
  asked : c.Asked
  lits : c.Lits
theorem CIn.few {c : Chg} (h : CIn c) : c.Few := h.asked.few h.lits
theorem CIn.len {c : Chg} (h : CIn c) : c.bytes.length ≤ 800000 := h.asked.bytes
noncomputable def mkKp (D : List (ByteArray × Nat)) (c : Chg) : Kp := ⟨c, numB 102 (pl D (dKey c.bytes)), aI_ _ _⟩
noncomputable def takeE (n : Nat) (cm : List (Int × Kp)) (who : Int) (c : Chg) : Int := if ¬ (0 ≤ who ∧ who < n) then 17 else if c.check n ≠ 0 then c.check n else match aget cm who with | some k => laterE c.view k.c.view | none => 0
noncomputable def takeCm (n : Nat) (D : List (ByteArray × Nat)) (cm : List (Int × Kp)) (who : Int) (c : Chg) : List (Int × Kp) := if takeE n cm who c = 0 then aput cm who (mkKp D c) else cm
noncomputable def takeD (n : Nat) (D : List (ByteArray × Nat)) (cm : List (Int × Kp)) (who : Int) (c : Chg) : List (ByteArray × Nat) := if takeE n cm who c = 0 then pm D (dKey c.bytes) else D
section
variable {h q bd bt bm n : Nat} {av : Value} {D : List (ByteArray × Nat)} {cm : List (Int × Kp)} {g : Chg} {who : Int} {e : Int}
theorem fc_ (h : takeE n cm who g = e) (he : e ≠ 0) : takeCm n D cm who g = cm ∧ takeD n D cm who g = D ∧ takeE n cm who g = e := ⟨if_neg (by rw [h]; exact he), if_neg (by rw [h]; exact he), h⟩
theorem cy_ (h : takeE n cm who g = 0) : takeCm n D cm who g = aput cm who (mkKp D g) ∧ takeD n D cm who g = pm D (dKey g.bytes) ∧ takeE n cm who g = 0 := ⟨if_pos h, if_pos h, h⟩
theorem take_who (h : ¬ (0 ≤ who ∧ who < n)) : takeE n cm who g = 17 := if_pos h
theorem hL_ (h : 0 ≤ who ∧ who < n) (h2 : g.check n ≠ 0) : takeE n cm who g = g.check n := by
  unfold takeE
  rw [if_neg (fun h3 => h3 h), if_pos h2]
theorem d6_ {k : Kp} (h : 0 ≤ who ∧ who < n) (h2 : g.check n = 0) (h3 : aget cm who = some k) : takeE n cm who g = laterE g.view k.c.view := by
  unfold takeE
  rw [if_neg (fun h3 => h3 h), if_neg (fun h3 => h3 h2), h3]
theorem c2_ (h : 0 ≤ who ∧ who < n) (h2 : g.check n = 0) (h3 : aget cm who = none) : takeE n cm who g = 0 := by
  unfold takeE
  rw [if_neg (fun h3 => h3 h), if_neg (fun h3 => h3 h2), h3]
set_option maxHeartbeats 2000000 in
theorem fw_ (hg : CIn g) (hw : intOk who) (hn : Num1 D) (hT : D.length < 1000000) : Spec Tryz.prog 10 [ptr h, int who, .agg g.abs] [.rd h 92 [.ifc 34 (ptr q), int (n : Nat), mapV bm, .v av], .pc (tmPc bm intK intOk Kp.enc cm), .blk q 86 [mapV bd, mapV bt], .pc (mapPc bd Value.string cntV sOk D)] (fun _ : Unit => [.pc (tmPc bm intK intOk Kp.enc (takeCm n D cm who g)), .blk q 86 [mapV bd, mapV bt], .pc (mapPc bd Value.string cntV sOk (takeD n D cm who g))]) (fun _ => int (takeE n cm who g)) := by
 refine K_ Tryz.func10 rfl Tryz.ntmps10 rfl fun G w =>d_<|a_<|eb_ (O_ (cs := g.abs) rfl) rfl rfl fun b5=>?_
 refine q_ 1 rfl<|g_<|c_<|d_<|u_<|d_<|a_<|q_ 1 rfl<|b_ (bq_ rfl rfl (by kernel_rfl)) rfl rfl ?_
 refine q_ 1 rfl<|g_<|c_<|Z_ rfl<|d_<|a_<|q_ 2 rfl<|t_ (cK_ (q := q) (bm := bm) (av := av) (n := n)) Casts.refl (by kernel_rfl) rfl rfl rfl ?_
 refine ap_<|fun _=>b_ (aw_ rfl) rfl rfl<|q_ 1 rfl<|g_<|c_<|o_ rfl ?_ ?_
 ·intro hc16
  refine d_<|a_<|q_ 1 rfl<|g_<|c_<|n_<|B_<|i_ nofun ?_
  obtain ⟨e1, e2, e3⟩ := fc_ (D := D) (g := g) (cm := cm) (take_who (by omega)) (by decide)
  refine f_ (rs := [.tmp 6]) rfl (RV.tmp rfl RV.nil) (()) (by rw [e1, e2]; repeat (first | exact List.nil_sublist _ | exact List.Sublist.refl _ | apply List.Sublist.cons_cons | apply List.Sublist.cons)) ?_
  rw [e3]
  rfl
 intro hc16
 have hin : 0 ≤ who ∧ who < n := by omega
 refine s_<|r_<|c_<|d_<|d_<|U_ [] (.q 0 (.q 1 (.q 2 (.q 3 (.q 4 (.e 5 (.q 6 .nil))))))) (by kernel_rfl) (by kernel_rfl) ?_
 refine af_ (by (simp [mids, It.mids, ownPc, mapPc]; done)) fun hx9 => ?_
 refine l_ rfl (y_ (C := .agg g.abs) (x_ tabOk rfl rfl rfl l0_ List.not_mem_nil rfl) rfl) hx9 rfl rfl<|qs_ 3 rfl<|l_ rfl (j_ tabOk rfl rfl r1_ List.not_mem_nil rfl) (by simp) rfl rfl ?_
 refine J_ rfl (jh_ (c := g) (n := (n : Int)) hg.asked.sized.prep hg.asked.sized.prop hg.asked.sized.pts) (by simp [mids, It.mids]) Casts.refl (by kernel_rfl) rfl rfl rfl ?_
 refine ap_<|fun _=>qs_ 1 rfl<|I_<|c_<|d_<|a_<|q_ 2 rfl<|g_<|c_<|o_ rfl ?_ ?_
 ·intro hc28
  refine d_<|a_<|q_ 2 rfl<|g_<|c_<|n_<|i_ nofun ?_
  obtain ⟨e1, e2, e3⟩ := fc_ (D := D) (cm := cm) (hL_ hin hc28) hc28
  refine f_ (rs := [.tmp 6]) rfl (RV.tmp rfl RV.nil) (()) (by rw [e1, e2]; repeat (first | exact List.nil_sublist _ | exact List.Sublist.refl _ | apply List.Sublist.cons_cons | apply List.Sublist.cons)) ?_
  rw [e3]
  rfl
 intro hc28
 have hc0 : g.check n = 0 := by omega
 refine s_<|c_<|g8_ (ι := Unit) (fun z => [.blk b5 26 g.abs, .rd h 92 [.ifc 34 (ptr q), int (n : Nat), mapV bm, .v av], .pc (tmPc bm intK intOk Kp.enc cm), .blk q 86 [mapV bd, mapV bt], .pc (mapPc bd Value.string cntV sOk D)]) (fun z => [(0, ptr h), (1, int who), (5, ptr b5)]) (fun z => takeE n cm who g = 0) ?_ ?_
 ·skip
  refine d_<|a_<|q_ 3 rfl<|b_ (j_ tabOk rfl rfl r1_ List.not_mem_nil rfl) rfl rfl<|q_ 1 rfl<|b_ (cf_ (a := who) (m := cm) (enc := Kp.enc) (z0 := Kp.zero) (zv := zkp) (a4_ Tryz.underlying3) Tryz.underlying89 e8_ e7_ rfl l2_ List.not_mem_nil rfl is_v hw) rfl rfl<|q_ 3 rfl<|eb_ (H_ tabOk rfl) rfl rfl fun b8=>?_
  refine e_ (D_ (L' := ((aget cm who).getD Kp.zero).cells) tabOk rfl rfl rfl u0_ (bV_ _) (Nat.le_of_ble_eq_true rfl) (ep_ _) (by exact N_ (bV_ _))) rfl rfl ?_
  refine q_ 1 rfl<|g_<|c_<|d_<|a_<|q_ 1 rfl<|g_<|c_<|aE_ rfl ?_ ?_
  rotate_left
  ·intro hc39
   have hv := cU_ hc39
   have ht0 := c2_ (g := g) hin hc0 hv
   refine s_<|cj_ (()) (ht0) (by exact ⟨rfl, rfl, rfl, trivial⟩) (sk_ sr_)
  intro hc39
  obtain ⟨v, hv⟩ := cT_ hc39
  rw [hv]
  dsimp only [Option.getD_some]
  refine d_<|a_<|q_ 1 rfl<|b_ (y_ (C := int g.view) (j_ tabOk rfl rfl l1_ List.not_mem_nil rfl) rfl) rfl rfl<|q_ 2 rfl<|b_ (y_ (C := int v.c.view) (j_ tabOk rfl rfl l0_ List.not_mem_nil rfl) rfl) rfl rfl<|t_ (hF_ (x := g.view) (y := v.c.view)) Casts.refl (by kernel_rfl) rfl rfl rfl ?_
  refine ap_<|fun _=>q_ 1 rfl<|g_<|c_<|d_<|a_<|q_ 2 rfl<|g_<|c_<|o_ rfl ?_ ?_
  rotate_left
  ·intro hc47
   have ht0 : takeE n cm who g = 0 := (d6_ hin hc0 hv).trans (by omega)
   refine s_<|cj_ (()) (ht0) (by exact ⟨rfl, rfl, rfl, trivial⟩) (sk_ sr_)
  intro hc47
  refine d_<|a_<|q_ 2 rfl<|g_<|c_<|n_<|i_ nofun ?_
  obtain ⟨e1, e2, e3⟩ := fc_ (D := D) (d6_ hin hc0 hv) hc47
  refine f_ (rs := [.tmp 6]) rfl (RV.tmp rfl RV.nil) (()) (by rw [e1, e2]; repeat (first | exact List.nil_sublist _ | exact List.Sublist.refl _ | apply List.Sublist.cons_cons | apply List.Sublist.cons)) ?_
  rw [e3]
  rfl
 intro z9 ht0
 refine d_<|U_ [] (.q 0 (.q 2 (.q 3 (.q 4 (.q 5 (.two 1 10 (.two 6 10 (.q 7 (.q 8 (.q 9 (.e 10 (.e 11 (.q 12 .nil)))))) (.e 6 (.q 7 (.q 8 (.q 9 (.e 11 (.q 12 .nil))))))) (.e 1 (.e 6 (.q 7 (.q 8 (.q 9 (.e 11 (.q 12 .nil))))))))))))) (by kernel_rfl) (by kernel_rfl) ?_
 refine af_ (by (simp [mids, It.mids, ownPc, mapPc]; done)) fun hx9 => ?_
 refine l_ rfl (y_ (C := .agg g.abs) (x_ tabOk rfl rfl rfl l0_ List.not_mem_nil rfl) rfl) hx9 rfl rfl<|qs_ 3 rfl<|l_ rfl (j_ tabOk rfl rfl r1_ List.not_mem_nil rfl) (by simp) rfl rfl ?_
 refine co_ ?_ ?_
 ·skip
  refine J_ rfl (fu_ (c := g) hg.few) (by simp [mids, It.mids]) Casts.refl (by kernel_rfl) rfl rfl rfl ?_
  refine ap_<|fun _=>co_ ?_ ?_
  ·skip
   refine J_ rfl (fk_ (l := g.bytes) (n := (n : Int)) (Nat.le_trans hg.len (by decide))) (by simp [mids, It.mids]) Casts.refl (by kernel_rfl) rfl rfl rfl ?_
   refine ap_ ?_
   intro _
   rw [cI_ hg.lits hc0 (Nat.lt_of_le_of_lt hg.len (by decide))]
   refine qs_ 3 rfl<|b1_ tabOk rfl rfl rfl rfl fun b11 =>ex_ rfl (D_ (L' := g.abs) tabOk rfl rfl rfl u0_ rfl (Nat.le_of_ble_eq_true rfl) rfl (by exact N_ rfl)) (by simp) rfl rfl ?_
   refine af_ (by (simp [mids, It.mids, ownPc, mapPc]; done)) fun hx9 => ?_
   refine qx_ 1 hx9 rfl<|I_<|c_<|d_<|d_<|a_<|q_ 2 rfl<|g_<|c_<|o_ rfl (by intro hc60; exfalso; exact hc60 rfl) ?_
   intro hc60
   refine s_<|c_<|d_<|aT_ (p := b11 ∉ mids [.blk q 86 [mapV bd, mapV bt], .pc (mapPc bd Value.string cntV sOk D)] ∧ h ∉ mids [.blk q 86 [mapV bd, mapV bt], .pc (mapPc bd Value.string cntV sOk D)]) (fun _ _ h9 => ⟨fun hm => (List.nodup_cons.1 h9.mem.nodup).1 (aJ_ (sk_ (sk_ (sk_ sr_))) hm), fun hm => h9.mem.sep h (aJ_ (sk_ (sk_ (sk_ (sk_ sr_)))) hm) (h9.mem.ro (.rd h 92 [.ifc 34 (ptr q), int (n : Nat), mapV bm, .v av]) (by simp) h (by simp [It.rids]))⟩) fun hX => ?_
   refine aZ_ (mids [.blk q 86 [mapV bd, mapV bt], .pc (mapPc bd Value.string cntV sOk D)]) (.q 0 (.q 1 (.q 2 (.q 3 (.q 4 (.q 5 (.q 6 (.q 7 (.q 8 (.q 9 (.q 10 (.e 11 (.q 12 .nil))))))))))))) (by kernel_rfl) (by kernel_rfl) ?_
   refine af_ (by (simp [mids, It.mids, ownPc, mapPc]; done)) fun hx9 => ?_
   refine qx_ 3 hx9 rfl<|l_ rfl (j_ tabOk rfl rfl r2_ (by exact hX.2) rfl) hx9 rfl rfl ?_
   refine qx_ 1 hx9 rfl<|l_ rfl (y_ (C := .agg g.abs) (x_ tabOk rfl rfl rfl l0_ (by exact hX.1) rfl) rfl) hx9 rfl rfl ?_
   refine qx_ 3 hx9 rfl<|l_ rfl (j_ tabOk rfl rfl r2_ (by exact hX.2) rfl) hx9 rfl rfl ?_
   refine l_ rfl (y_ (C := .agg g.abs) (x_ tabOk rfl rfl rfl l0_ (by exact hX.1) rfl) rfl) hx9 rfl rfl ?_
   refine J_ rfl (ek_ (q := q) (bd := bd) (bt := bt) (D := D) (g := g) hg.few (Nat.le_trans hg.len (by decide)) hn hT) (fun k hk => hk) Casts.refl (by kernel_rfl) rfl rfl rfl ?_
   refine bc_ [_, _, _, _] (β := []) rfl (by intro x hx; simp only [List.mem_cons, List.not_mem_nil, or_false] at hx; rcases hx with rfl | rfl <;> rfl) ?_
   intro _
   refine af_ (by (simp [mids, It.mids, ownPc, mapPc]; done)) fun hx9 => ?_
   refine l_ rfl (y_ (C := (mkKp D g).enc) (L_ tabOk rfl rfl rfl (gH_ (o := (mkKp D g)) rfl rfl rfl)) rfl) hx9 rfl rfl<|I_<|bg_ rfl (eC_ (a := who) (v := (mkKp D g)) (m' := aput cm who (mkKp D g)) (a4_ Tryz.underlying3) Tryz.underlying89 rfl u3_ rfl is_v hw rfl rfl) rfl rfl ?_
   rintro _ _ ⟨rfl, rfl⟩
   refine c_<|d_<|a_<|q_ 1 rfl<|g_<|c_<|n_ ?_
   obtain ⟨e1, e2, e3⟩ := cy_ (D := D) ht0
   refine f_ (rs := [.tmp 6]) rfl (RV.tmp rfl RV.nil) (()) (by rw [e1, e2]; repeat (first | exact List.nil_sublist _ | exact List.Sublist.refl _ | apply List.Sublist.cons_cons | apply List.Sublist.cons)) ?_
   rw [e3]
   rfl
  skip
  refine b1_ tabOk rfl rfl rfl rfl fun b11 =>J_ rfl (fk_ (l := g.bytes) (n := (n : Int)) (Nat.le_trans hg.len (by decide))) (by simp [mids, It.mids]) Casts.refl (by kernel_rfl) rfl rfl rfl ?_
  refine ap_ ?_
  intro _
  rw [cI_ hg.lits hc0 (Nat.lt_of_le_of_lt hg.len (by decide))]
  refine af_ (by (simp [mids, It.mids, ownPc, mapPc]; done)) fun hx9 => ?_
  refine qx_ 3 hx9 rfl<|ex_ rfl (D_ (L' := g.abs) tabOk rfl rfl rfl u0_ rfl (Nat.le_of_ble_eq_true rfl) rfl (by exact N_ rfl)) (by simp) rfl rfl ?_
  refine af_ (by (simp [mids, It.mids, ownPc, mapPc]; done)) fun hx9 => ?_
  refine qx_ 1 hx9 rfl<|I_<|c_<|d_<|d_<|a_<|q_ 2 rfl<|g_<|c_<|o_ rfl (by intro hc60; exfalso; exact hc60 rfl) ?_
  intro hc60
  refine s_<|c_<|d_<|aT_ (p := b11 ∉ mids [.blk q 86 [mapV bd, mapV bt], .pc (mapPc bd Value.string cntV sOk D)] ∧ h ∉ mids [.blk q 86 [mapV bd, mapV bt], .pc (mapPc bd Value.string cntV sOk D)]) (fun _ _ h9 => ⟨fun hm => (List.nodup_cons.1 h9.mem.nodup).1 (aJ_ (sk_ (sk_ (sk_ sr_))) hm), fun hm => h9.mem.sep h (aJ_ (sk_ (sk_ (sk_ (sk_ sr_)))) hm) (h9.mem.ro (.rd h 92 [.ifc 34 (ptr q), int (n : Nat), mapV bm, .v av]) (by simp) h (by simp [It.rids]))⟩) fun hX => ?_
  refine aZ_ (mids [.blk q 86 [mapV bd, mapV bt], .pc (mapPc bd Value.string cntV sOk D)]) (.q 0 (.q 1 (.q 2 (.q 3 (.q 4 (.q 5 (.q 6 (.q 7 (.q 8 (.q 9 (.q 10 (.e 11 (.q 12 .nil))))))))))))) (by kernel_rfl) (by kernel_rfl) ?_
  refine af_ (by (simp [mids, It.mids, ownPc, mapPc]; done)) fun hx9 => ?_
  refine qx_ 3 hx9 rfl<|l_ rfl (j_ tabOk rfl rfl r2_ (by exact hX.2) rfl) hx9 rfl rfl ?_
  refine qx_ 1 hx9 rfl<|l_ rfl (y_ (C := .agg g.abs) (x_ tabOk rfl rfl rfl l0_ (by exact hX.1) rfl) rfl) hx9 rfl rfl ?_
  refine qx_ 3 hx9 rfl<|l_ rfl (j_ tabOk rfl rfl r2_ (by exact hX.2) rfl) hx9 rfl rfl ?_
  refine l_ rfl (y_ (C := .agg g.abs) (x_ tabOk rfl rfl rfl l0_ (by exact hX.1) rfl) rfl) hx9 rfl rfl ?_
  refine J_ rfl (ek_ (q := q) (bd := bd) (bt := bt) (D := D) (g := g) hg.few (Nat.le_trans hg.len (by decide)) hn hT) (fun k hk => hk) Casts.refl (by kernel_rfl) rfl rfl rfl ?_
  refine bc_ [_, _, _, _] (β := []) rfl (by intro x hx; simp only [List.mem_cons, List.not_mem_nil, or_false] at hx; rcases hx with rfl | rfl <;> rfl) ?_
  intro _
  refine af_ (by (simp [mids, It.mids, ownPc, mapPc]; done)) fun hx9 => ?_
  refine l_ rfl (y_ (C := (mkKp D g).enc) (L_ tabOk rfl rfl rfl (gH_ (o := (mkKp D g)) rfl rfl rfl)) rfl) hx9 rfl rfl<|I_<|bg_ rfl (eC_ (a := who) (v := (mkKp D g)) (m' := aput cm who (mkKp D g)) (a4_ Tryz.underlying3) Tryz.underlying89 rfl u3_ rfl is_v hw rfl rfl) rfl rfl ?_
  rintro _ _ ⟨rfl, rfl⟩
  refine c_<|d_<|a_<|q_ 1 rfl<|g_<|c_<|n_ ?_
  obtain ⟨e1, e2, e3⟩ := cy_ (D := D) ht0
  refine f_ (rs := [.tmp 6]) rfl (RV.tmp rfl RV.nil) (()) (by rw [e1, e2]; repeat (first | exact List.nil_sublist _ | exact List.Sublist.refl _ | apply List.Sublist.cons_cons | apply List.Sublist.cons)) ?_
  rw [e3]
  rfl
 skip
 refine b1_ tabOk rfl rfl rfl rfl fun b11 =>J_ rfl (fu_ (c := g) hg.few) (by simp [mids, It.mids]) Casts.refl (by kernel_rfl) rfl rfl rfl ?_
 refine ap_<|fun _=>J_ rfl (fk_ (l := g.bytes) (n := (n : Int)) (Nat.le_trans hg.len (by decide))) (by simp [mids, It.mids]) Casts.refl (by kernel_rfl) rfl rfl rfl ?_
 refine ap_ ?_
 intro _
 rw [cI_ hg.lits hc0 (Nat.lt_of_le_of_lt hg.len (by decide))]
 refine af_ (by (simp [mids, It.mids, ownPc, mapPc]; done)) fun hx9 => ?_
 refine qx_ 3 hx9 rfl<|ex_ rfl (D_ (L' := g.abs) tabOk rfl rfl rfl u0_ rfl (Nat.le_of_ble_eq_true rfl) rfl (by exact N_ rfl)) (by simp) rfl rfl ?_
 refine af_ (by (simp [mids, It.mids, ownPc, mapPc]; done)) fun hx9 => ?_
 refine qx_ 1 hx9 rfl<|I_<|c_<|d_<|d_<|a_<|q_ 2 rfl<|g_<|c_<|o_ rfl (by intro hc60; exfalso; exact hc60 rfl) ?_
 intro hc60
 refine s_<|c_<|d_<|aT_ (p := b11 ∉ mids [.blk q 86 [mapV bd, mapV bt], .pc (mapPc bd Value.string cntV sOk D)] ∧ h ∉ mids [.blk q 86 [mapV bd, mapV bt], .pc (mapPc bd Value.string cntV sOk D)]) (fun _ _ h9 => ⟨fun hm => (List.nodup_cons.1 h9.mem.nodup).1 (aJ_ (sk_ (sk_ (sk_ sr_))) hm), fun hm => h9.mem.sep h (aJ_ (sk_ (sk_ (sk_ (sk_ sr_)))) hm) (h9.mem.ro (.rd h 92 [.ifc 34 (ptr q), int (n : Nat), mapV bm, .v av]) (by simp) h (by simp [It.rids]))⟩) fun hX => ?_
 refine aZ_ (mids [.blk q 86 [mapV bd, mapV bt], .pc (mapPc bd Value.string cntV sOk D)]) (.q 0 (.q 1 (.q 2 (.q 3 (.q 4 (.q 5 (.q 6 (.q 7 (.q 8 (.q 9 (.q 10 (.e 11 (.q 12 .nil))))))))))))) (by kernel_rfl) (by kernel_rfl) ?_
 refine af_ (by (simp [mids, It.mids, ownPc, mapPc]; done)) fun hx9 => ?_
 refine qx_ 3 hx9 rfl<|l_ rfl (j_ tabOk rfl rfl r2_ (by exact hX.2) rfl) hx9 rfl rfl ?_
 refine qx_ 1 hx9 rfl<|l_ rfl (y_ (C := .agg g.abs) (x_ tabOk rfl rfl rfl l0_ (by exact hX.1) rfl) rfl) hx9 rfl rfl ?_
 refine qx_ 3 hx9 rfl<|l_ rfl (j_ tabOk rfl rfl r2_ (by exact hX.2) rfl) hx9 rfl rfl ?_
 refine l_ rfl (y_ (C := .agg g.abs) (x_ tabOk rfl rfl rfl l0_ (by exact hX.1) rfl) rfl) hx9 rfl rfl ?_
 refine J_ rfl (ek_ (q := q) (bd := bd) (bt := bt) (D := D) (g := g) hg.few (Nat.le_trans hg.len (by decide)) hn hT) (fun k hk => hk) Casts.refl (by kernel_rfl) rfl rfl rfl ?_
 refine bc_ [_, _, _, _] (β := []) rfl (by intro x hx; simp only [List.mem_cons, List.not_mem_nil, or_false] at hx; rcases hx with rfl | rfl <;> rfl) ?_
 intro _
 refine af_ (by (simp [mids, It.mids, ownPc, mapPc]; done)) fun hx9 => ?_
 refine l_ rfl (y_ (C := (mkKp D g).enc) (L_ tabOk rfl rfl rfl (gH_ (o := (mkKp D g)) rfl rfl rfl)) rfl) hx9 rfl rfl<|I_<|bg_ rfl (eC_ (a := who) (v := (mkKp D g)) (m' := aput cm who (mkKp D g)) (a4_ Tryz.underlying3) Tryz.underlying89 rfl u3_ rfl is_v hw rfl rfl) rfl rfl ?_
 rintro _ _ ⟨rfl, rfl⟩
 refine c_<|d_<|a_<|q_ 1 rfl<|g_<|c_<|n_ ?_
 obtain ⟨e1, e2, e3⟩ := cy_ (D := D) ht0
 refine f_ (rs := [.tmp 6]) rfl (RV.tmp rfl RV.nil) (()) (by rw [e1, e2]; repeat (first | exact List.nil_sublist _ | exact List.Sublist.refl _ | apply List.Sublist.cons_cons | apply List.Sublist.cons)) ?_
 rw [e3]
 rfl
end
theorem cin_zero : CIn Chg.zero := ⟨⟨⟨by simp [Chg.zero], by simp [Chg.zero]⟩, ⟨by simp [Chg.zero], by simp [Chg.zero]⟩, by simp [Chg.zero]⟩, ⟨by simp [Chg.zero, InR, lo, hi], by simp [Chg.zero, InR, lo, hi], by simp [Chg.zero], by simp [Chg.zero], by simp [Chg.zero]⟩⟩
theorem ij_ (n : Int) : (Rd.chg Chg.zero.bytes n).view = 0 := by
  show sg ((Rd.of Chg.zero.bytes).num 8) = 0
  decide
theorem i9_ (n : Nat) : copyC Chg.zero n = Chg.zero := by
  unfold copyC parseC
  split
  · rfl
  · split
    · rfl
    · next h1 h2 =>
      refine absurd (.inr (.inr (.inr fun h => ?_))) h2
      have hr := (eY_ h).2.1
      have hz := ij_ n
      omega
def keptC (cm : List (Int × Kp)) (who : Int) : Chg := ((aget cm who).getD Kp.zero).c
def KOk (n : Nat) (cm : List (Int × Kp)) : Prop := ∀ who v, aget cm who = some v → CIn v.c ∧ v.c.check n = 0
section
variable {h q bd bt bm n : Nat} {av : Value} {D : List (ByteArray × Nat)} {cm : List (Int × Kp)} {g : Chg} {who : Int} {e : Int}
theorem aN_ (hk : KOk n cm) : CIn (keptC cm who) := by
  unfold keptC
  cases hv : aget cm who with
  | none => exact cin_zero
  | some v => exact (hk _ _ hv).1
theorem ja_ (hc : CIn g) (h0 : g.check n = 0) : copyC g n = g := by
  unfold copyC
  rw [cI_ hc.lits h0 (Nat.lt_of_le_of_lt hc.len (by decide))]
theorem gd_ (hk : KOk n cm) : copyC (keptC cm who) n = keptC cm who := by
  unfold keptC
  cases hv : aget cm who with
  | none => exact i9_ n
  | some v => exact ja_ (hk _ _ hv).1 (hk _ _ hv).2
set_option maxHeartbeats 1000000 in
theorem jn_ (hk : KOk n cm) (hw : intOk who) : Spec Tryz.prog 13 [ptr h, int who] [.rd h 92 [.ifc 34 (ptr q), int (n : Nat), mapV bm, .v av], .rdpc (tmPc bm intK intOk Kp.enc cm)] (fun _ : Unit => []) (fun _ => .tup [.agg (keptC cm who).abs, boo (aget cm who).isSome]) := by
 refine K_ Tryz.func13 rfl Tryz.ntmps13 rfl fun G w =>d_<|a_<|eb_ (H_ tabOk rfl) rfl rfl fun b4=>?_
 refine q_ 1 rfl<|g_<|c_<|d_<|d_<|a_<|q_ 1 rfl<|b_ (bq_ rfl rfl (by kernel_rfl)) rfl rfl ?_
 refine g_<|c_<|Z_ rfl<|s_<|c_<|d_<|a_<|q_ 3 rfl<|b_ (j_ tabOk rfl rfl r1_ List.not_mem_nil rfl) rfl rfl<|q_ 1 rfl<|b_ (cf_ (a := who) (m := cm) (enc := Kp.enc) (z0 := Kp.zero) (zv := zkp) (a4_ Tryz.underlying3) Tryz.underlying89 e8_ e7_ rfl r2_ List.not_mem_nil rfl is_v hw) rfl rfl<|q_ 3 rfl<|eb_ (H_ tabOk rfl) rfl rfl fun b6=>?_
 refine e_ (D_ (L' := ((aget cm who).getD Kp.zero).cells) tabOk rfl rfl rfl u0_ (bV_ _) (Nat.le_of_ble_eq_true rfl) (ep_ _) (by exact N_ (bV_ _))) rfl rfl ?_
 refine q_ 1 rfl<|g_<|c_<|d_<|aT_ (p := b6 ∉ [b4] ∧ h ∉ [b4]) (fun _ _ h9 => ⟨fun hm => (List.nodup_cons.1 h9.mem.nodup).1 (aJ_ (σ := [.blk b4 26 _, .rd h 92 [.ifc 34 (ptr q), int (n : Nat), mapV bm, .v av], .rdpc (tmPc bm intK intOk Kp.enc cm)]) (τ := [.blk b4 26 _]) (sc_ sn_) hm), fun hm => h9.mem.sep h (aJ_ (τ := [.blk b4 26 _]) (sk_ (sc_ sn_)) hm) (h9.mem.ro (.rd h 92 [.ifc 34 (ptr q), int (n : Nat), mapV bm, .v av]) (by simp) h (by simp [It.rids]))⟩) fun hX => ?_
 refine U_ [b4] (.q 0 (.q 1 (.q 2 (.q 3 (.q 4 (.q 5 (.q 7 (.e 6 (.e 8 (.q 9 .nil)))))))))) (by kernel_rfl) (by kernel_rfl) ?_
 refine af_ (by (simp [mids, It.mids, ownPc, mapPc]; done)) fun hx9 => ?_
 refine qx_ 1 hx9 rfl<|l_ rfl (y_ (C := .agg (keptC cm who).abs) (aQ_ tabOk rfl rfl rfl l0_ (by exact hX.1) (by show 0 + 5 ≤ ((aget cm who).getD Kp.zero).cells.length; rw [bV_]; omega)) (by exact gG_ _)) hx9 rfl rfl ?_
 refine qx_ 3 hx9 rfl<|l_ rfl (j_ tabOk rfl rfl r2_ (by exact hX.2) rfl) hx9 rfl rfl ?_
 refine qx_ 1 hx9 rfl<|J_ rfl (gl_ (g := keptC cm who) (n := n) (aN_ hk).few (Nat.le_trans (aN_ hk).len (by decide))) (by simp [mids, It.mids]) Casts.refl (by kernel_rfl) rfl rfl rfl ?_
 refine ap_ ?_
 intro _
 rw [gd_ hk]
 refine ex_ rfl (D_ (L' := (keptC cm who).abs) tabOk rfl rfl rfl u1_ rfl (Nat.le_of_ble_eq_true rfl) rfl (by exact N_ rfl)) (by simp) rfl rfl ?_
 refine af_ (by (simp [mids, It.mids, ownPc, mapPc]; done)) fun hx9 => ?_
 exact qx_ 1 hx9 rfl<|I_<|c_<|n_<|f_ (rs := [.cell 4 26, .tmp 5]) rfl (RV.cell rfl (RV.cellA tabOk rfl rfl l1_ (rfl)) (RV.tmp rfl RV.nil)) (()) sn_<|rfl
end
end Go.Proofs.YtggajaigfkekhaaGreat.A
