/-
  Packed out of the texts: C8, C9, BatchBack, CLaw, Maps, Arr32, PntEq, C10, Law, Open, OpenBytes, AOpen, AOpenE, COpen, C11, C12, A10, NLaw, FQ.
-/
import Derived.Test.YtggajaigfkekhaaGreatQ06
import Derived.Maps.Keyed
import Derived.Maps.OwnSet
import Derived.DataShut
import Derived.Test.YtggajaigfkekhaaGreatRows
import Derived.OpenShut
import Derived.SizedLaws
import Derived.Deep.Slices
set_option maxRecDepth 100000
set_option linter.unusedSimpArgs false
set_option linter.unusedVariables false
namespace Go.Proofs.YtggajaigfkekhaaGreat.A
open Go.RowKit
def pad32 (m : List UInt8) (z : Nat) : List UInt8 := m.take z ++ List.replicate (32 - z) 0
theorem g4_ {m : List UInt8} {z : Nat} (h : z ≤ m.length) (h2 : z ≤ 32) : (pad32 m z).length = 32 := by
  simp [pad32]; omega
def pad (m : List UInt8) : List UInt8 := pad32 m (min m.length 32)
theorem jJ_ (m : List UInt8) : (pad m).length = 32 := g4_ (by omega) (by omega)
theorem pad_all {m : List UInt8} (h : m.length = 32) : pad m = m := by
  have : m.take 32 = m := List.take_of_length_le (by omega)
  simp [pad, pad32, h, this]
theorem Rd.out32 (s : Rd) : (s.out 32).length ≤ 32 := s.out_length 32
def Pnt.mk' (x : Int) (m : List UInt8) : Pnt := ⟨x, pad m, jJ_ m⟩
def Rd.pnts : Nat → Rd → List Pnt → List Pnt × Rd
  | 0, s, acc => (acc, s)
  | k + 1, s, acc => Rd.pnts k ((s.fixed 8).fixed 32) (acc ++ [Pnt.mk' (sg (s.num 8)) ((s.fixed 8).out 32)])
section
variable {p : Nat} {s : Rd} {n : Int} {l : List UInt8}
def Chg.zero : Chg := ⟨0, 0, [], [], []⟩
def Rd.chgHead (l : List UInt8) : Rd := ((Rd.of l).fixed 8).fixed 8
def Rd.chgPts (l : List UInt8) : List Pnt × Rd := Rd.pnts ((Rd.chgHead l).countN 4) ((Rd.chgHead l).count 4) []
def Rd.chgPre (l : List UInt8) (n : Int) : List Prf × Bool × Rd := Rd.prfs n l.length ((Rd.chgPts l).2.countN 8) ((Rd.chgPts l).2.count 8) [] false
def Rd.chgPro (l : List UInt8) (n : Int) : List Prf × Bool × Rd := Rd.prfs n l.length ((Rd.chgPre l n).2.2.countN 64) ((Rd.chgPre l n).2.2.count 64) [] false
def Rd.chg (l : List UInt8) (n : Int) : Chg := ⟨sg ((Rd.of l).num 8), sg (((Rd.of l).fixed 8).num 8), (Rd.chgPts l).1, (Rd.chgPre l n).1, (Rd.chgPro l n).1⟩
noncomputable def parseC (l : List UInt8) (n : Int) : Chg × Int :=
  if n < 1 ∨ 7 < n then (Chg.zero, 1) else
  if (Rd.chgPro l n).2.2.end_ ≠ 0 ∨ (Rd.chgPre l n).2.1 = true ∨ (Rd.chgPro l n).2.1 = true ∨ (Rd.chg l n).check n ≠ 0 then (Chg.zero, 2) else (Rd.chg l n, 0)
theorem pnt_copy {x : Int} {m : List UInt8} (h : m.length ≤ 32) : putL (int x :: List.replicate 32 (.v (.int .u8 0))) 1 ((bys m).take 32).flatten = (Pnt.mk' x m).abs := by
  have e1 : ((bys m).take 32).flatten = digA m := by
    rw [List.take_of_length_le (by simpa using h)]
    induction m with
    | nil => rfl
    | cons b m ih =>
      have := ih (by simp at h; omega)
      simp only [bys, digA, List.map_cons, List.flatten_cons] at this ⊢
      rw [this]; rfl
  rw [e1]
  show int x :: putL (List.replicate 32 (.v (.int .u8 0))) 0 (digA m) = int x :: digA (pad m)
  congr 1
  rw [b9_ _ _ _ (Nat.zero_le _)]
  have e2 : (digA m).length = m.length := by simp [digA]
  unfold pad pad32
  rw [show min m.length 32 = m.length by omega, List.take_of_length_le (Nat.le_refl _)]
  rw [Nat.zero_add, e2, List.take_zero, List.nil_append, List.drop_replicate]
  unfold digA
  rw [List.map_append, List.map_replicate]
  rfl
theorem g1_ : ∀ (k : Nat) (s : Rd) (acc : List Pnt), (Rd.pnts k s acc).1.length = acc.length + k ∧ (Rd.pnts k s acc).2.l.length ≤ s.l.length
  | 0, s, acc => ⟨rfl, Nat.le_refl _⟩
  | k + 1, s, acc => by
    have h1 := g1_ k ((s.fixed 8).fixed 32) (acc ++ [Pnt.mk' (sg (s.num 8)) ((s.fixed 8).out 32)])
    have h2 := s.fixed_length 8
    have h3 := (s.fixed 8).fixed_length 32
    rw [List.length_append, List.length_singleton] at h1
    unfold Rd.pnts
    omega
theorem e9_ (n room : Int) : ∀ (k : Nat) (s : Rd) (acc : List Prf) (o : Bool), (Rd.prfs n room k s acc o).1.length = acc.length + k ∧ (Rd.prfs n room k s acc o).2.2.l.length ≤ s.l.length
  | 0, s, acc, o => ⟨rfl, Nat.le_refl _⟩
  | k + 1, s, acc, o => by
    have h1 := e9_ n room k ((Rd.pr2 s).row room) (acc ++ [⟨sg (s.num 8), sg ((Rd.pr1 s).num 8), (parseS (Rd.prOut s room) n).1⟩]) (o || decide ((parseS (Rd.prOut s room) n).2 ≠ 0))
    have h2 := s.fixed_length 8
    have h3 := (s.fixed 8).fixed_length 8
    have h4 := Rd.row_length (Rd.pr2 s) room
    rw [List.length_append, List.length_singleton] at h1
    unfold Rd.pr2 at h1 h4
    unfold Rd.prfs Rd.pr2
    omega
theorem i9_ {most : Int} : ∀ (m : Nat) (s : Rd) (acc : List Ent) (es : List Ent) (t : Rd), s.ents most m acc = some (es, t) → es.length = acc.length + m
  | 0, s, acc, es, t, h => by
    simp only [Rd.ents, Option.some.injEq, Prod.mk.injEq] at h
    rw [← h.1]; rfl
  | m + 1, s, acc, es, t, h => by
    simp only [Rd.ents] at h
    split at h
    · cases h
    · have := i9_ m _ _ _ _ h
      rw [List.length_append, List.length_singleton] at this
      omega
theorem fI_ {l : List UInt8} {n : Int} : (parseS l n).1.length ≤ 1000000 := by
  unfold parseS
  have h9 : manyOf l ≤ (Rd.of l).num 2 := Nat.min_le_left _ _
  have h8 := (Rd.of l).num_lt (n := 2) (k := 2) (Nat.le_refl _)
  cases h : Rd.ents l.length (manyOf l) ((Rd.of l).fixed 2) [] with
  | none => simp [parse2]
  | some x =>
    obtain ⟨es, t⟩ := x
    have h7 := i9_ _ _ _ _ _ h
    simp only [List.length_nil] at h7
    simp only [parse2]
    split
    · simp
    · split
      · simp
      · show es.length ≤ 1000000
        omega
theorem gb_ (Q : Prf → Prop) {n room : Int} {B : Nat} (hQ : ∀ (a b : Int) (l : List UInt8), l.length ≤ B → Q ⟨a, b, (parseS l n).1⟩) : ∀ (k : Nat) (s : Rd) (acc : List Prf) (o : Bool), s.l.length ≤ B → (∀ p ∈ acc, Q p) → ∀ p ∈ (Rd.prfs n room k s acc o).1, Q p
  | 0, _, _, _, _, h => h
  | k + 1, s, acc, o, hB, h => by
    have h2 := s.fixed_length 8
    have h3 := (s.fixed 8).fixed_length 8
    have h4 := Rd.row_length (Rd.pr2 s) room
    have h5 : (Rd.prOut s room).length ≤ (Rd.pr2 s).l.length := Rd.rowOut_length _ _
    unfold Rd.pr2 at h4 h5
    refine gb_ Q hQ k _ _ _ (by unfold Rd.pr2; omega) fun p hp => ?_
    rcases List.mem_append.1 hp with hp | hp
    · exact h p hp
    · rw [List.mem_singleton] at hp; subst hp; exact hQ _ _ _ (by omega)
set_option maxHeartbeats 4000000 in
theorem ge_ (hl : l.length ≤ 10000000) : Spec Tryz.prog 37 [byt l, int n] [] (fun _ : Unit => []) (fun _ => .tup [.agg (parseC l n).1.abs, int (parseC l n).2]) := by
 have hL : lots = 100000000000 := rfl
 have hof : (Rd.of l).l = l := rfl
 have q1 := (Rd.of l).fixed_length 8
 have q2 := ((Rd.of l).fixed 8).fixed_length 8
 have q3 := Rd.count_length (Rd.chgHead l) 4
 have q4 := Rd.countN_lt (Rd.chgHead l) 4
 unfold Rd.chgHead at q3
 rw [hof] at q1
 refine G_ Tryz.func37 rfl Tryz.ntmps37 rfl fun G w =>d_<|a_<|eb_ (B_ tabOk rfl) rfl rfl fun b4=>?_
 refine q_ 1 rfl<|g_<|c_<|d_<|d_<|a_<|q_ 3 rfl<|C_ (t := 13) rfl ?_ ?_
 ·intro hc13
  refine q_ 3 rfl<|g_<|c_<|O_ rfl<|d_<|a_<|b_ (J_ tabOk rfl rfl rfl rfl) rfl rfl<|e_ (w_ tabOk rfl rfl rfl u0_ rfl (Nat.le_of_ble_eq_true rfl) rfl rfl) rfl rfl<|q_ 1 rfl<|g_<|c_<|n_<|i_ nofun<|fC_ (rs := [.cell 4 26, .tmp 5]) rfl (RV.cell rfl (RV.cellA tabOk rfl rfl l0_ (by rfl)) (RV.tmp rfl RV.nil)) (Casts.cons (aN_ (Casts.keep (Casts.keep (Casts.nils (s := 33) (Casts.nils (s := 3) (Casts.nils (s := 3) Casts.refl)))))) Casts.refl) (()) sn_ ?_
  have e : parseC l n = (Chg.zero, 1) := by
   unfold parseC
   rw [if_pos (by omega)]
  rw [e]
  rfl
 intro hc13
 refine q_ 3 rfl<|g_<|c_<|r_ rfl ?_ ?_
 ·intro hc16
  refine d_<|a_<|b_ (J_ tabOk rfl rfl rfl rfl) rfl rfl<|e_ (w_ tabOk rfl rfl rfl u0_ rfl (Nat.le_of_ble_eq_true rfl) rfl rfl) rfl rfl<|q_ 1 rfl<|g_<|c_<|n_<|i_ nofun<|fC_ (rs := [.cell 4 26, .tmp 5]) rfl (RV.cell rfl (RV.cellA tabOk rfl rfl l0_ (by rfl)) (RV.tmp rfl RV.nil)) (Casts.cons (aN_ (Casts.keep (Casts.keep (Casts.nils (s := 33) (Casts.nils (s := 3) (Casts.nils (s := 3) Casts.refl)))))) Casts.refl) (()) sn_ ?_
  have e : parseC l n = (Chg.zero, 1) := by
   unfold parseC
   rw [if_pos (by omega)]
  rw [e]
  rfl
 intro hc16
 refine p_<|c_<|d_<|a_<|q_ 1 rfl<|u_ (read_s (l := l) (by omega)) Casts.refl (by kernel_rfl) rfl rfl rfl ?_
 refine ee_ (by repeat first|exact .nil|refine .blk (by repeat first|assumption|exact m0_|apply m1_) ?_|refine .rd (by repeat first|assumption|exact m0_|apply m1_) ?_|refine .pc (by repeat first|assumption|exact m0_|apply m1_) ?_|refine .rdpc (by repeat first|assumption|exact m0_|apply m1_) ?_) (fun _ => rfl) ?_
 intro p6
 refine q_ 1 rfl<|g_<|c_<|d_<|a_<|q_ 1 rfl<|u_ (dB_ (s := Rd.of l) (n := 8) (by show l.length ≤ _; omega) rfl) Casts.refl (by kernel_rfl) rfl rfl rfl ?_
 refine bb_ rfl i0_ (fun _ => rfl)<|fun _=>⟨_, u0_, b_ (a4_ rfl Tryz.underlying2 (by kernel_rfl)) rfl rfl ?_⟩
 refine q_ 1 rfl<|u_ (dB_ (s := (Rd.of l).fixed 8) (n := 8) (by omega) rfl) Casts.refl (by kernel_rfl) rfl rfl rfl ?_
 refine bb_ rfl i0_ (fun _ => rfl)<|fun _=>⟨_, u0_, b_ (a4_ rfl Tryz.underlying2 (by kernel_rfl)) rfl rfl ?_⟩
 refine b_ (J_ tabOk rfl rfl rfl rfl) rfl rfl<|eb_ (B_ tabOk rfl) rfl rfl fun b7=>?_
 refine e_ (w_ tabOk rfl rfl rfl u0_ rfl (Nat.le_of_ble_eq_true rfl) rfl rfl) rfl rfl<|g_<|c_<|d_<|d_<|a_<|q_ 1 rfl<|u_ (ld_ (s := Rd.chgHead l) (n := 4) (by unfold Rd.chgHead; omega)) Casts.refl (by kernel_rfl) rfl rfl rfl ?_
 refine bb_ rfl i1_ (fun _ => rfl)<|fun _=>⟨_, u1_, q_ 1 rfl<|g_<|c_<|t_<|bO_ 59 33<|S_ (ι := Rd × List Pnt × Nat × Value) (fun z => [own 59 33 z.2.2.2 (z.2.1.map Pnt.abs), .blk b7 26 [int (IntKind.i64.wrap ((Rd.of l).num 8 : Nat)), int (IntKind.i64.wrap (((Rd.of l).fixed 8).num 8 : Nat)), .v z.2.2.2, .v (.slice none 0 0), .v (.slice none 0 0)], rdA TR p6 z.1, .blk b4 26 (zabs [.int .i64 0, .int .i64 0, .slice none 0 0, .slice none 0 0, .slice none 0 0])]) (fun z => [(0, byt l), (1, int n), (4, ptr b4), (6, ptr p6), (7, ptr b7), (28, int (((Rd.chgHead l).countN 4) : Nat)), (29, int (z.2.2.1 : Nat))]) (fun z => z.2.2.1 ≤ ((Rd.chgHead l).countN 4) ∧ z.1.l.length ≤ l.length ∧ z.2.1.length = z.2.2.1 ∧ Rd.pnts (((Rd.chgHead l).countN 4) - z.2.2.1) z.1 z.2.1 = Rd.pnts ((Rd.chgHead l).countN 4) ((Rd.chgHead l).count 4) []) (fun z => ((Rd.chgHead l).countN 4) - z.2.2.1) ((Rd.chgHead l).count 4, [], 0, .slice none 0 0) (⟨Nat.zero_le _, by dsimp only; unfold Rd.chgHead; omega, rfl, rfl⟩) (by exact ⟨rfl, rfl, rfl, rfl, rfl, rfl, rfl, trivial⟩) sr_ ?_⟩
 intro z hz
 refine d_<|a_<|q_ 1 rfl<|g_<|c_<|d_<|r_ rfl ?_ ?_
 ·intro hc30
  have n1 := z.1.fixed_length 8
  have n2 := (z.1.fixed 8).fixed_length 32
  have n3 := Rd.out32 (z.1.fixed 8)
  refine p_<|c_<|d_<|t_<|d_<|a_<|q_ 1 rfl<|u_ (dB_ (s := z.1) (n := 8) (by omega) rfl) Casts.refl (by kernel_rfl) rfl rfl rfl ?_
  refine bb_ rfl i2_ (fun _ => rfl)<|fun _=>⟨_, u2_, b_ (a4_ rfl Tryz.underlying2 (by kernel_rfl)) rfl rfl ?_⟩
  refine b_ (J_ tabOk rfl rfl rfl rfl) rfl rfl<|eb_ (B_ tabOk rfl) rfl rfl fun b8=>?_
  refine e_ (w_ tabOk rfl rfl rfl u0_ rfl (Nat.le_of_ble_eq_true rfl) rfl rfl) rfl rfl<|g_<|c_<|d_<|Y_ [b8, p6] (.q 0 (.q 1 (.q 2 (.e 3 (.e 4 .nil))))) (by kernel_rfl) (by kernel_rfl) ?_
  refine hx_ fun hx9 =>qx_ 1 hx9 rfl<|l_ rfl (hy_ tabOk Tryz.underlying40 rfl rfl) hx9 rfl rfl<|qx_ 1 hx9 rfl<|I_ rfl (fixed_s (s := (z.1.fixed 8)) (n := 32) (by omega)) (by simp [mids, It.mids]) Casts.refl (by kernel_rfl) rfl rfl rfl ?_
  refine bb_ rfl i3_ (fun _ => rfl)<|fun _=>⟨_, u3_, it_ [] rfl (Eff.copy (L' := (Pnt.mk' (sg (z.1.num 8)) ((z.1.fixed 8).out 32)).abs) Tryz.underlying27 (by kernel_rfl) rfl rfl u0_ (by have : min (List.map (fun b => [Abs.v (bc b)]) ((z.1.fixed 8).out 32)).length 32 ≤ 32 := Nat.min_le_right _ _; show 1 + min (List.map (fun b => [Abs.v (bc b)]) ((z.1.fixed 8).out 32)).length 32 ≤ 33; omega) (eM_ _) (by exact pnt_copy n3)) (by simp) (by simp) rfl rfl ?_⟩
  rintro _ _ ⟨rfl, rfl⟩
  refine N_<|c_<|a_<|q_ 1 rfl<|b_ (h_ tabOk rfl rfl l2_ List.not_mem_nil rfl) rfl rfl<|b_ (F_ tabOk rfl rfl rfl l0_ List.not_mem_nil (Pnt.size _)) rfl rfl<|e_ (ae_ tabOk Tryz.underlying23 rfl rfl rfl (a2_ (Pnt.size _)) rfl rfl rfl) rfl rfl<|eb_ (ak_ (zs := (z.2.1 ++ [Pnt.mk' (sg (z.1.num 8)) ((z.1.fixed 8).out 32)]).map Pnt.abs) tabOk [_] (by rw [List.map_append]; rfl) Tryz.underlying23 rfl rfl rfl rfl rfl rfl (by intro c hc; rw [List.mem_singleton] at hc; subst hc; exact Pnt.ones _) (by unfold maxLen; simp only [List.length_map, List.length_cons, List.length_nil]; omega) (by rw [show Tryz.prog.bytesOf 59 = 40 by kernel_rfl]; simp only [List.length_map, List.length_cons, List.length_nil]; omega)) rfl rfl fun r44=>?_
  refine q_ 1 rfl<|e_ (cl_ tabOk rfl rfl rfl rfl i1_ u2_ rfl rfl) rfl rfl<|g_<|o_<|c_<|a_<|b_ (s_ rfl rfl (by simp only [InR, lo, hi]; omega)) rfl rfl ?_
  refine q_ 1 rfl<|g_<|x_ (((z.1.fixed 8).fixed 32), z.2.1 ++ [Pnt.mk' (sg (z.1.num 8)) ((z.1.fixed 8).out 32)], z.2.2.1 + 1, r44) (by (dsimp only; omega)) (⟨by dsimp only; omega, by dsimp only; omega, by dsimp only; rw [List.length_append, hz.2.2.1]; rfl, by
   rw [← hz.2.2.2]
   obtain ⟨j, hj⟩ : ∃ j, ((Rd.chgHead l).countN 4) - z.2.2.1 = j + 1 := ⟨((Rd.chgHead l).countN 4) - z.2.2.1 - 1, by omega⟩
   rw [hj]
   show Rd.pnts (((Rd.chgHead l).countN 4) - (z.2.2.1 + 1)) _ _ = Rd.pnts (j + 1) _ _
   rw [show ((Rd.chgHead l).countN 4) - (z.2.2.1 + 1) = j by omega]
   rfl⟩) (by exact ⟨rfl, rfl, rfl, rfl, rfl, rfl, rfl, trivial⟩) (sk_ sr_)
 intro hc30
 refine Q_<|i_ nofun<|i_ nofun<|P_<|c_<|d_ ?_
 have hzz : (z.2.1, z.1) = Rd.chgPts l := by
  unfold Rd.chgPts
  rw [← hz.2.2.2, show ((Rd.chgHead l).countN 4) - z.2.2.1 = 0 by omega]
  rfl
 have hzA := congrArg Prod.fst hzz
 have hzS := congrArg Prod.snd hzz
 dsimp only at hzA hzS
 refine cA_ [] 2 rfl u0_ rfl ?_
 rw [hzA, hzS]
 have w1 := g1_ ((Rd.chgHead l).countN 4) ((Rd.chgHead l).count 4) []
 have w2 : (Rd.chgPts l).2.l.length ≤ l.length := by unfold Rd.chgPts; unfold Rd.chgHead at w1 ⊢; omega
 have w3 := e9_ n l.length ((Rd.chgPts l).2.countN 8) ((Rd.chgPts l).2.count 8) [] false
 have w4 := Rd.count_length (Rd.chgPts l).2 8
 have w5 : (Rd.chgPre l n).2.2.l.length ≤ l.length := by unfold Rd.chgPre; omega
 have w6 := e9_ n l.length ((Rd.chgPre l n).2.2.countN 64) ((Rd.chgPre l n).2.2.count 64) [] false
 have w7 := Rd.countN_lt (Rd.chgPts l).2 8
 have w8 := Rd.countN_lt (Rd.chgPre l n).2.2 64
 have w9 := Rd.count_length (Rd.chgPre l n).2.2 64
 have hg3 : (Rd.chg l n).points.length < 9223372036854775807 := by show (Rd.chgPts l).1.length < _; unfold Rd.chgPts; rw [w1.1, List.length_nil]; omega
 have hg1 : Long (Rd.chg l n).prepared := by
  refine ⟨by show (Rd.chgPre l n).1.length < _; unfold Rd.chgPre; rw [w3.1, List.length_nil]; omega, ?_⟩
  exact gb_ (fun p => p.batch.length ≤ 1000000) (B := 10000000) (fun a b l h => fI_) _ _ _ _ (by omega) (by simp)
 have hg2 : Long (Rd.chg l n).proposed := by
  refine ⟨by show (Rd.chgPro l n).1.length < _; unfold Rd.chgPro; rw [w6.1, List.length_nil]; omega, ?_⟩
  exact gb_ (fun p => p.batch.length ≤ 1000000) (B := 10000000) (fun a b l h => fI_) _ _ _ _ (by omega) (by simp)
 refine a_<|q_ 2 rfl<|g_<|c_<|d_<|a_<|q_ 3 rfl<|b_ (z_ rfl Tryz.underlying27 (List.length_map _)) rfl rfl<|u_ (kx_ (s := (Rd.chgPts l).2) (n := n) (most := 8) (room := (l.length : Nat)) (by omega) (by omega)) Casts.refl (by kernel_rfl) rfl rfl rfl ?_
 refine bb_ rfl i1_ (fun _ => rfl)<|fun _=>⟨_, u1_, q_ 4 rfl<|e_ (w_ tabOk rfl rfl rfl u0_ rfl (Nat.le_of_ble_eq_true rfl) rfl rfl) rfl rfl<|q_ 1 rfl<|g_<|c_<|d_<|a_<|q_ 3 rfl<|b_ (z_ rfl Tryz.underlying27 (List.length_map _)) rfl rfl<|u_ (kx_ (s := (Rd.chgPre l n).2.2) (n := n) (most := 64) (room := (l.length : Nat)) (by omega) (by omega)) Casts.refl (by kernel_rfl) rfl rfl rfl ?_⟩
 refine bb_ rfl i1_ (fun _ => rfl)<|fun _=>⟨_, u1_, q_ 4 rfl<|e_ (w_ tabOk rfl rfl rfl u0_ rfl (Nat.le_of_ble_eq_true rfl) rfl rfl) rfl rfl<|q_ 1 rfl<|g_<|c_<|d_<|d_<|a_<|q_ 1 rfl<|u_ (end_s (s := (Rd.chgPro l n).2.2)) Casts.refl (by kernel_rfl) rfl rfl rfl ?_⟩
 refine bb_ rfl i1_ (fun _ => rfl)<|fun _=>⟨_, u1_, q_ 2 rfl<|C_ (t := 68) rfl ?_ ?_⟩
 ·intro hc68
  refine q_ 11 rfl<|g_<|c_<|O_ rfl<|d_<|a_<|b_ (J_ tabOk rfl rfl rfl rfl) rfl rfl<|e_ (w_ tabOk rfl rfl rfl u2_ rfl (Nat.le_of_ble_eq_true rfl) rfl rfl) rfl rfl<|q_ 1 rfl<|g_<|c_<|n_<|i_ nofun<|fC_ (rs := [.cell 4 26, .tmp 5]) rfl (RV.cell rfl (RV.cellA tabOk rfl rfl l2_ (by rfl)) (RV.tmp rfl RV.nil)) (Casts.cons (aN_ (Casts.keep (Casts.keep (Casts.nils (s := 33) (Casts.nils (s := 3) (Casts.nils (s := 3) Casts.refl)))))) Casts.refl) (()) sn_ ?_
  have e : parseC l n = (Chg.zero, 2) := by
   unfold parseC
   rw [if_neg (by omega), if_pos (by exact .inl (by assumption))]
  rw [e]
  rfl
 intro hc68
 refine q_ 3 rfl<|aZ_ (t := 71) rfl ?_ ?_
 ·intro hc71
  refine q_ 8 rfl<|g_<|c_<|O_ rfl<|d_<|a_<|b_ (J_ tabOk rfl rfl rfl rfl) rfl rfl<|e_ (w_ tabOk rfl rfl rfl u2_ rfl (Nat.le_of_ble_eq_true rfl) rfl rfl) rfl rfl<|q_ 1 rfl<|g_<|c_<|n_<|i_ nofun<|fC_ (rs := [.cell 4 26, .tmp 5]) rfl (RV.cell rfl (RV.cellA tabOk rfl rfl l2_ (by rfl)) (RV.tmp rfl RV.nil)) (Casts.cons (aN_ (Casts.keep (Casts.keep (Casts.nils (s := 33) (Casts.nils (s := 3) (Casts.nils (s := 3) Casts.refl)))))) Casts.refl) (()) sn_ ?_
  have e : parseC l n = (Chg.zero, 2) := by
   unfold parseC
   rw [if_neg (by omega), if_pos (by exact .inr (.inl (by assumption)))]
  rw [e]
  rfl
 intro hc71
 refine q_ 3 rfl<|aZ_ (t := 74) rfl ?_ ?_
 ·intro hc74
  refine q_ 5 rfl<|g_<|c_<|O_ rfl<|d_<|a_<|b_ (J_ tabOk rfl rfl rfl rfl) rfl rfl<|e_ (w_ tabOk rfl rfl rfl u2_ rfl (Nat.le_of_ble_eq_true rfl) rfl rfl) rfl rfl<|q_ 1 rfl<|g_<|c_<|n_<|i_ nofun<|fC_ (rs := [.cell 4 26, .tmp 5]) rfl (RV.cell rfl (RV.cellA tabOk rfl rfl l2_ (by rfl)) (RV.tmp rfl RV.nil)) (Casts.cons (aN_ (Casts.keep (Casts.keep (Casts.nils (s := 33) (Casts.nils (s := 3) (Casts.nils (s := 3) Casts.refl)))))) Casts.refl) (()) sn_ ?_
  have e : parseC l n = (Chg.zero, 2) := by
   unfold parseC
   rw [if_neg (by omega), if_pos (by exact .inr (.inr (.inl (by assumption))))]
  rw [e]
  rfl
 intro hc74
 refine b_ (F_ tabOk rfl rfl rfl l0_ List.not_mem_nil rfl) rfl rfl<|q_ 1 rfl<|u_ (ic_ (c := Rd.chg l n) (n := n) hg1 hg2 hg3) Casts.refl (by kernel_rfl) rfl rfl rfl ?_
 refine ap_<|fun _=>q_ 2 rfl<|g_<|c_<|r_ rfl ?_ ?_
 ·intro hc79
  refine d_<|a_<|b_ (J_ tabOk rfl rfl rfl rfl) rfl rfl<|e_ (w_ tabOk rfl rfl rfl u2_ rfl (Nat.le_of_ble_eq_true rfl) rfl rfl) rfl rfl<|q_ 1 rfl<|g_<|c_<|n_<|i_ nofun<|fC_ (rs := [.cell 4 26, .tmp 5]) rfl (RV.cell rfl (RV.cellA tabOk rfl rfl l2_ (by rfl)) (RV.tmp rfl RV.nil)) (Casts.cons (aN_ (Casts.keep (Casts.keep (Casts.nils (s := 33) (Casts.nils (s := 3) (Casts.nils (s := 3) Casts.refl)))))) Casts.refl) (()) sn_ ?_
  have e : parseC l n = (Chg.zero, 2) := by
   unfold parseC
   rw [if_neg (by omega), if_pos (by exact .inr (.inr (.inr (by assumption))))]
  rw [e]
  rfl
 intro hc79
 refine p_<|c_<|d_<|a_<|b_ (F_ tabOk rfl rfl rfl l0_ List.not_mem_nil rfl) rfl rfl<|e_ (w_ tabOk rfl rfl rfl u2_ rfl (Nat.le_of_ble_eq_true rfl) rfl rfl) rfl rfl<|q_ 1 rfl<|g_<|c_<|n_<|f_ (rs := [.cell 4 26, .tmp 5]) rfl (RV.cell rfl (RV.cellA tabOk rfl rfl l2_ (by rfl)) (RV.tmp rfl RV.nil)) (()) sn_ ?_
 have e : parseC l n = (Rd.chg l n, 0) := by
  unfold parseC
  rw [if_neg (by omega), if_neg (by
   intro h
   rcases h with h | h | h | h
   ·exact hc68 h
   ·exact Bool.noConfusion (h.symm.trans hc71)
   ·exact Bool.noConfusion (h.symm.trans hc74)
   exact hc79 h)]
 rw [e]
 rfl
end
end Go.Proofs.YtggajaigfkekhaaGreat.A
namespace Go.Proofs.YtggajaigfkekhaaGreat
open Go.RowKit
def Rd.At (s : Rd) (l : List UInt8) : Prop := s.e = 0 ∧ s.l = l
theorem gs_ {s : Rd} {x r : List UInt8} (h : s.At (x ++ r)) {n : Int} (hn : n = x.length) : (s.fixed n).At r ∧ s.out n = x := by
  obtain ⟨h1, h2⟩ := h
  have hb : ¬ s.bad n := by
    unfold Rd.bad
    rw [h2, List.length_append]
    omega
  have ht : n.toNat = x.length := by omega
  unfold Rd.At Rd.fixed Rd.out
  simp only [h1, ne_eq, not_true_eq_false, if_false, hb, h2, ht]
  simp
theorem cj_ {s : Rd} {r : List UInt8} {v k : Nat} (h : s.At (beBytes v k ++ r)) (hv : v < 256 ^ k) {n : Int} (hn : n = k) : (s.fixed n).At r ∧ s.num n = v := by
  obtain ⟨h1, h2⟩ := gs_ h (n := n) (by rw [v_]; exact hn)
  exact ⟨h1, by rw [Rd.num, h2, beVal_be v k hv]⟩
theorem jj_ {s : Rd} {x r : List UInt8} {most : Int} (h : s.At (rowB x ++ r)) (hx : x.length ≤ most) (hx2 : x.length < 4294967296) : (s.row most).At r ∧ s.rowOut most = x := by
  unfold rowB at h
  rw [List.append_assoc] at h
  obtain ⟨h1, h2⟩ := cj_ h (by omega) (n := 4) rfl
  obtain ⟨h3, h4⟩ := gs_ h1 (n := s.num 4) (by rw [h2])
  have hm : ¬ most < s.num 4 := by rw [h2]; omega
  unfold Rd.row Rd.rowOut
  simp only [h1.1, ne_eq, not_true_eq_false, if_false, hm]
  exact ⟨h3, h4⟩
theorem ei_ {a : Int} (h : InR .i64 a) : sg (u64 a) = a := by
  obtain ⟨h1, h2⟩ := h
  simp only [lo, hi] at h1 h2
  unfold sg u64
  simp [IntKind.wrap, IntKind.bits, IntKind.signed]
  split <;> omega
theorem kg_ {a : Int} (h : 0 ≤ a) (h2 : a < 18446744073709551616) : ((u64 a : Nat) : Int) = a := by
  unfold u64
  omega
theorem fB_ (b : ByteArray) : txtB b.data.toList = b := by
  unfold txtB
  simp
structure Core.Back (c : Core) : Prop where
  client : 0 ≤ c.client ∧ c.client < 256
  stamp : InR .i64 c.stamp
  op : 0 ≤ c.op ∧ c.op < 256
  a : InR .i64 c.a
  b : InR .i64 c.b
theorem at_core {s : Rd} {c : Core} {most : Int} (h : s.At c.bytes) (hc : c.Back) (hl : (c.bytes.length : Int) ≤ most) (hl2 : c.bytes.length < 4294967296) : (s.coreEnd most).At [] ∧ s.core most = c := by
  have e1 : c.letter.data.toList.length = c.letter.size := by simp
  have e2 : c.text.data.toList.length = c.text.size := by simp
  have hlen := Core.bytes_length c
  unfold Core.bytes at h
  simp only [List.append_assoc] at h
  have u1 := kg_ hc.client.1 (by have := hc.client.2; omega)
  have u2 := kg_ hc.op.1 (by have := hc.op.2; omega)
  have g1 := hc.client.2
  have g2 := hc.op.2
  obtain ⟨a1, b1⟩ := cj_ h (by omega) (n := 1) rfl
  obtain ⟨a2, b2⟩ := cj_ a1 (by have := cL_ c.stamp; omega) (n := 8) rfl
  obtain ⟨a3, b3⟩ := cj_ a2 (by omega) (n := 1) rfl
  obtain ⟨a4, b4⟩ := jj_ (most := most) a3 (by omega) (by omega)
  obtain ⟨a5, b5⟩ := cj_ a4 (by have := cL_ c.a; omega) (n := 8) rfl
  obtain ⟨a6, b6⟩ := cj_ a5 (by have := cL_ c.b; omega) (n := 8) rfl
  rw [← List.append_nil (rowB c.text.data.toList)] at a6
  obtain ⟨a7, b7⟩ := jj_ (most := most) a6 (by omega) (by omega)
  refine ⟨a7, ?_⟩
  unfold Rd.core
  unfold Rd.c6 Rd.c4 Rd.c3
  rw [b1, b2, b3, b4, b5, b6, b7, u1, u2, ei_ hc.stamp, ei_ hc.a, ei_ hc.b, fB_, fB_]
structure Ent.Back (e : Ent) : Prop where
  core : e.core.Back
  mask : e.mask < 256
  len : e.core.bytes.length ≤ 100000
theorem hg_ {L : Int} : ∀ (es : List Ent) (s : Rd) (acc : List Ent), (∀ e ∈ es, e.Back ∧ (e.core.bytes.length : Int) ≤ L) → s.At (es.flatMap Ent.bytes) → ∃ t : Rd, t.At [] ∧ s.ents L es.length acc = some (acc ++ es, t)
  | [], s, acc, _, h => ⟨s, h, by simp [Rd.ents]⟩
  | e :: es, s, acc, hall, h => by
    obtain ⟨he, hL⟩ := hall e List.mem_cons_self
    have hlen := he.len
    rw [List.flatMap_cons, Ent.bytes, List.append_assoc] at h
    obtain ⟨a1, b1⟩ := jj_ (most := L) h hL (by omega)
    obtain ⟨a2, b2⟩ := cj_ a1 (by have := he.mask; omega) (n := 1) rfl
    obtain ⟨c1, c2⟩ := at_core (s := Rd.of e.core.bytes) (c := e.core) (most := (e.core.bytes.length : Nat)) ⟨rfl, rfl⟩ he.core (Int.le_refl _) (by omega)
    have hok : okOf e.core.bytes (e.core.bytes.length : Nat) = true := by
      refine decide_eq_true ?_
      unfold Rd.end_
      rw [c1.1, c1.2]
      simp
    have hco : coreOf e.core.bytes (e.core.bytes.length : Nat) = e.core := c2
    obtain ⟨t, ht, hr⟩ := hg_ es ((s.row L).fixed 1) (acc ++ [e]) (fun x hx => hall x (List.mem_cons_of_mem _ hx)) a2
    refine ⟨t, ht, ?_⟩
    rw [List.length_cons]
    simp only [Rd.ents]
    rw [b1, hok, if_neg (by decide), hco, b2]
    rw [List.append_assoc] at hr
    exact hr
theorem of_if {b : Bool} {r : Int} (h : (if b = true then (15 : Int) else r) = 0) : r = 0 := by
  cases b with
  | false => simpa using h
  | true => simp at h
theorem jc_ {n : Int} : ∀ (es : List Ent) (p : Option Int), chkL n p es = 0 → ∀ e ∈ es, e.core.check n = 0 ∧ e.mask < 2 ^ n.toNat
  | [], _, _ => by simp
  | e :: es, p, h => by
    simp only [chkL] at h
    split at h
    · rename_i h1; exact absurd h h1
    · rename_i h1
      split at h
      · exact absurd h (by decide)
      · rename_i h2
        intro x hx
        rcases List.mem_cons.1 hx with rfl | hx
        · exact ⟨Decidable.not_not.1 h1, by omega⟩
        · exact jc_ es _ (of_if h) x hx
theorem check_ok {c : Core} {n : Int} (h : c.check n = 0) : 1 ≤ n ∧ n ≤ 7 ∧ n ≤ c.client ∧ c.client < n + 4 ∧ 1 ≤ c.stamp ∧ c.stamp ≤ 1099511627776 ∧ 1 ≤ c.op ∧ c.op ≤ 9 ∧ nameB c.letter = true ∧ c.text.size ≤ 200 := by
  unfold Core.check at h
  split at h
  · exact absurd h (by decide)
  · split at h
    · exact absurd h (by decide)
    · split at h
      · exact absurd h (by decide)
      · split at h
        · exact absurd h (by decide)
        · split at h
          · exact absurd h (by decide)
          · rename_i h4 _
            rw [Bool.not_eq_false] at h4
            exact ⟨by omega, by omega, by omega, by omega, by omega, by omega, by omega, by omega, h4, by omega⟩
theorem jI_ {es : List Ent} {n : Int} (hs : ∀ e ∈ es, e.Lits) (h : chkB es n = 0) : parseS (batchB es) n = (es, 0) := by
  have h0 := h
  unfold chkB at h
  split at h
  · exact absurd h (by decide)
  · rename_i hn
    split at h
    · exact absurd h (by decide)
    · rename_i hlen
      have hall := jc_ es none h
      have hback : ∀ e ∈ es, e.Back ∧ (e.core.bytes.length : Int) ≤ ((batchB es).length : Nat) := fun e he => by
        obtain ⟨k1, k2⟩ := hall e he
        obtain ⟨g1, g2, g3, g4, g5, g6, g7, g8, g9, g10⟩ := check_ok k1
        have hl := hs e he
        have hsz : e.core.letter.size ≤ 16 := by
          unfold nameB at g9
          simp only [Bool.and_eq_true, decide_eq_true_eq] at g9
          exact g9.2
        have hm : e.mask < 128 + 1 := by
          have : 2 ^ n.toNat ≤ 2 ^ 7 := Nat.pow_le_pow_right (by decide) (by omega)
          omega
        have hlen2 := Core.bytes_length e.core
        refine ⟨⟨⟨⟨by omega, by omega⟩, hl.stamp, ⟨by omega, by omega⟩, hl.a, hl.b⟩, by omega, by omega⟩, ?_⟩
        have : e.bytes.length ≤ (es.flatMap Ent.bytes).length := by
          obtain ⟨s1, s2, rfl⟩ := List.append_of_mem he
          simp only [List.flatMap_append, List.flatMap_cons, List.length_append]
          omega
        have h7 : e.core.bytes.length ≤ e.bytes.length := by
          unfold Ent.bytes rowB
          simp only [List.length_append]
          omega
        unfold batchB
        rw [List.length_append]
        omega
      have hat : (Rd.of (batchB es)).At (beBytes es.length 2 ++ es.flatMap Ent.bytes) := ⟨rfl, rfl⟩
      obtain ⟨a1, b1⟩ := cj_ hat (by omega) (n := 2) rfl
      obtain ⟨t, ht, hr⟩ := hg_ (L := ((batchB es).length : Nat)) es ((Rd.of (batchB es)).fixed 2) [] hback a1
      have hmany : manyOf (batchB es) = es.length := by
        unfold manyOf
        rw [b1]
        have : es.length ≤ (batchB es).length + 1 := by
          have : es.length ≤ (es.flatMap Ent.bytes).length := by
            clear h h0 hlen hall hback hat a1 b1 ht hr hs
            induction es with
            | nil => simp
            | cons e es ih =>
              rw [List.flatMap_cons, List.length_append, List.length_cons]
              have : 1 ≤ e.bytes.length := by
                unfold Ent.bytes
                rw [List.length_append, v_]
                omega
              omega
          unfold batchB
          rw [List.length_append]
          omega
        omega
      have hend : t.end_ = 0 := by
        unfold Rd.end_
        rw [ht.1, ht.2]
        simp
      unfold parseS
      rw [hmany, hr]
      simp only [parse2, List.nil_append]
      rw [if_neg (by simp [hend]), if_neg (by simp [h0])]
end Go.Proofs.YtggajaigfkekhaaGreat
namespace Go.Proofs.YtggajaigfkekhaaGreat.A
open Go.RowKit
/-! ### What is written reads back -/
structure Prf.Lits (p : Prf) : Prop where
  seq : InR .i64 p.seq
  view : InR .i64 p.view
  all : ∀ e ∈ p.batch, e.Lits
structure Chg.Lits (c : Chg) : Prop where
  view : InR .i64 c.view
  low : InR .i64 c.low
  pts : ∀ p ∈ c.points, InR .i64 p.seq
  prep : ∀ p ∈ c.prepared, p.Lits
  prop : ∀ p ∈ c.proposed, p.Lits
theorem gt_ {s : Rd} {r : List UInt8} {k : Nat} {most : Int} (h : s.At (beBytes k 2 ++ r)) (hk : k < 65536) (hm : (k : Int) ≤ most) : (s.count most).At r ∧ s.countN most = k := by
  obtain ⟨h1, h2⟩ := cj_ h (by omega) (n := 2) rfl
  have h3 : ¬ ((s.fixed 2).e = 0 ∧ most < s.num 2) := by rw [h2]; omega
  unfold Rd.count Rd.countN
  rw [if_neg h3, if_neg h3]
  exact ⟨h1, h2⟩
theorem eS_ (a : Int) : u64 a < 256 ^ 8 := by
  have := cL_ a
  omega
theorem Pnt.mk_self (p : Pnt) : Pnt.mk' p.seq p.dig = p := by
  obtain ⟨a, d, h⟩ := p
  simp only [Pnt.mk', Pnt.mk.injEq, true_and]
  exact pad_all h
theorem g2_ {r : List UInt8} : ∀ (ps : List Pnt) (s : Rd) (acc : List Pnt), (∀ p ∈ ps, InR .i64 p.seq) → s.At (ps.flatMap Pnt.bytes ++ r) → ∃ t : Rd, t.At r ∧ Rd.pnts ps.length s acc = (acc ++ ps, t)
  | [], s, acc, _, h => ⟨s, h, by simp [Rd.pnts]⟩
  | p :: ps, s, acc, hall, h => by
    have e1 : (p :: ps).flatMap Pnt.bytes ++ r = beBytes (u64 p.seq) 8 ++ (p.dig ++ (ps.flatMap Pnt.bytes ++ r)) := by simp [Pnt.bytes, long8]
    rw [e1] at h
    obtain ⟨a1, b1⟩ := cj_ h (eS_ _) (n := 8) rfl
    obtain ⟨a2, b2⟩ := gs_ a1 (n := 32) (by rw [p.len]; rfl)
    obtain ⟨t, ht, hr⟩ := g2_ ps ((s.fixed 8).fixed 32) (acc ++ [p]) (fun x hx => hall x (List.mem_cons_of_mem _ hx)) a2
    refine ⟨t, ht, ?_⟩
    rw [List.length_cons]
    unfold Rd.pnts
    rw [b1, b2, ei_ (hall p List.mem_cons_self), Pnt.mk_self, hr]
    simp
theorem fa_ {n room : Int} {r : List UInt8} : ∀ (ps : List Prf) (s : Rd) (acc : List Prf), (∀ p ∈ ps, p.Lits ∧ chkB p.batch n = 0 ∧ ((batchB p.batch).length : Int) ≤ room ∧ (batchB p.batch).length < 4294967296) → s.At (ps.flatMap Prf.bytes ++ r) →
    ∃ t : Rd, t.At r ∧ Rd.prfs n room ps.length s acc false = (acc ++ ps, false, t)
  | [], s, acc, _, h => ⟨s, h, by simp [Rd.prfs]⟩
  | p :: ps, s, acc, hall, h => by
    obtain ⟨g1, g2, g3, g4⟩ := hall p List.mem_cons_self
    have e1 : (p :: ps).flatMap Prf.bytes ++ r = beBytes (u64 p.seq) 8 ++ (beBytes (u64 p.view) 8 ++ (rowB (batchB p.batch) ++ (ps.flatMap Prf.bytes ++ r))) := by simp [Prf.bytes, long8]
    rw [e1] at h
    obtain ⟨a1, b1⟩ := cj_ h (eS_ _) (n := 8) rfl
    obtain ⟨a2, b2⟩ := cj_ a1 (eS_ _) (n := 8) rfl
    obtain ⟨a3, b3⟩ := jj_ (most := room) a2 g3 g4
    obtain ⟨t, ht, hr⟩ := fa_ ps ((Rd.pr2 s).row room) (acc ++ [p]) (fun x hx => hall x (List.mem_cons_of_mem _ hx)) a3
    refine ⟨t, ht, ?_⟩
    have b3' : Rd.prOut s room = batchB p.batch := b3
    have b2' : (Rd.pr1 s).num 8 = u64 p.view := b2
    rw [List.length_cons]
    unfold Rd.prfs
    rw [b1, b2', b3', jI_ g1.all g2, ei_ g1.seq, ei_ g1.view]
    have e2 : (⟨p.seq, p.view, p.batch⟩ : Prf) = p := rfl
    simp only [e2]
    rw [show (false || decide ((0 : Int) ≠ 0)) = false from rfl, hr]
    simp
theorem flat_le {α : Type} {f : α → List UInt8} {xs : List α} {x : α} (h : x ∈ xs) : (f x).length ≤ (xs.flatMap f).length := by
  obtain ⟨s1, s2, rfl⟩ := List.append_of_mem h
  simp only [List.flatMap_append, List.flatMap_cons, List.length_append]
  omega
theorem Prf.batch_le (p : Prf) : (batchB p.batch).length ≤ p.bytes.length := by
  unfold Prf.bytes rowB
  simp only [List.length_append]
  omega
theorem d4_ {c : Chg} {n : Int} (h : c.check n = 0) : ¬ (n < 1 ∨ 7 < n) ∧ c.Right n := by
  unfold Chg.check at h
  split at h
  · exact absurd h (by decide)
  · rename_i h1
    refine ⟨h1, ?_⟩
    cases h2 : yes (c.Right n) with
    | true => exact X_.1 h2
    | false => rw [h2] at h; exact absurd h (by decide)
theorem ds_ {c : Chg} {n : Int} (hn : ¬ (n < 1 ∨ 7 < n)) : c.check n = 0 ↔ c.Right n := by
  constructor
  · intro h; exact (d4_ h).2
  · intro h
    unfold Chg.check
    rw [if_neg hn, X_.2 h]
    rfl
theorem eL_ {c : Chg} {n : Int} (hs : c.Lits) (h : c.check n = 0) (hl : c.bytes.length < 4294967296) : parseC c.bytes n = (c, 0) := by
  obtain ⟨hn, hr⟩ := d4_ h
  obtain ⟨r1, r2, r3, ⟨r4, r5, r6, r7, r8⟩, ⟨r9, r10, r11⟩, ⟨r12, r13, r14⟩⟩ := hr
  have e0 : c.bytes = beBytes (u64 c.view) 8 ++ (beBytes (u64 c.low) 8 ++ (beBytes c.points.length 2 ++ (c.points.flatMap Pnt.bytes ++ (beBytes c.prepared.length 2 ++ (c.prepared.flatMap Prf.bytes ++ (beBytes c.proposed.length 2 ++ (c.proposed.flatMap Prf.bytes ++ []))))))) := by
    unfold Chg.bytes Chg.head prfsB
    rw [List.take_length]
    simp [long8]
  have hall : ∀ ps : List Prf, (∀ p ∈ ps, p.Lits) → (∀ p ∈ ps, p.fits c.low c.view n) → (ps.flatMap Prf.bytes).length ≤ c.bytes.length → ∀ p ∈ ps, p.Lits ∧ chkB p.batch n = 0 ∧ ((batchB p.batch).length : Int) ≤ (c.bytes.length : Nat) ∧ (batchB p.batch).length < 4294967296 := fun ps h1 h2 h3 p hp => by
    have h4 := p.batch_le
    have h5 := flat_le (f := Prf.bytes) hp
    exact ⟨h1 p hp, (h2 p hp).2.2.2.2, by omega, by omega⟩
  have hat : (Rd.of c.bytes).At (beBytes (u64 c.view) 8 ++ _) := ⟨rfl, e0⟩
  have hlen := congrArg List.length e0
  simp only [List.length_append] at hlen
  obtain ⟨a1, b1⟩ := cj_ hat (eS_ _) (n := 8) rfl
  obtain ⟨a2, b2⟩ := cj_ a1 (eS_ _) (n := 8) rfl
  have a2' : (Rd.chgHead c.bytes).At _ := a2
  obtain ⟨a3, b3⟩ := gt_ (most := 4) a2' (by omega) (by omega)
  obtain ⟨t1, a4, b4⟩ := g2_ c.points _ [] hs.pts a3
  have hp1 : Rd.chgPts c.bytes = (c.points, t1) := by unfold Rd.chgPts; rw [b3, b4]; rfl
  obtain ⟨a5, b5⟩ := gt_ (most := 8) a4 (by omega) (by omega)
  obtain ⟨t2, a6, b6⟩ := fa_ (n := n) (room := (c.bytes.length : Nat)) c.prepared _ [] (hall _ hs.prep r11 (by omega)) a5
  have hp2 : Rd.chgPre c.bytes n = (c.prepared, false, t2) := by unfold Rd.chgPre; rw [hp1]; dsimp only; rw [b5, b6]; rfl
  obtain ⟨a7, b7⟩ := gt_ (most := 64) a6 (by omega) (by omega)
  obtain ⟨t3, a8, b8⟩ := fa_ (n := n) (room := (c.bytes.length : Nat)) c.proposed _ [] (hall _ hs.prop r14 (by omega)) a7
  have hp3 : Rd.chgPro c.bytes n = (c.proposed, false, t3) := by unfold Rd.chgPro; rw [hp2]; dsimp only; rw [b7, b8]; rfl
  have hend : t3.end_ = 0 := by
    unfold Rd.end_
    rw [a8.1, a8.2]
    simp
  have hc : Rd.chg c.bytes n = c := by
    unfold Rd.chg
    rw [hp1, hp2, hp3, b1, b2, ei_ hs.view, ei_ hs.low]
  unfold parseC
  rw [if_neg hn, hc, hp2, hp3, if_neg (by
    intro h9
    rcases h9 with h9 | h9 | h9 | h9
    · exact h9 hend
    · cases h9
    · cases h9
    · exact h9 h)]
/-! ### Both Parses -/
end Go.Proofs.YtggajaigfkekhaaGreat.A
namespace Go.Proofs.YtggajaigfkekhaaGreat
open Go.RowKit
section
variable {α β : Type} [DecidableEq α]
def aget (m : List (α × β)) (a : α) : Option β := (m.find? fun p => decide (p.1 = a)).map (·.2)
def aput (m : List (α × β)) (a : α) (b : β) : List (α × β) := if (aget m a).isSome then m.map fun p => if p.1 = a then (a, b) else p else m ++ [(a, b)]
def adel (m : List (α × β)) (a : α) : List (α × β) := m.filter fun p => decide (p.1 ≠ a)
theorem bN_ (m : List (α × β)) (a : α) : (aget m a).isSome = true ↔ a ∈ m.map (·.1) := by
  unfold aget
  rw [Option.isSome_map, List.find?_isSome]
  simp
theorem dL_ (m : List (α × β)) (a : α) : aget m a = none ↔ a ∉ m.map (·.1) := by
  rw [← bN_]
  cases aget m a <;> simp
theorem hs_ (m : List (α × β)) (a : α) (b : β) : (aput m a b).map (·.1) = if a ∈ m.map (·.1) then m.map (·.1) else m.map (·.1) ++ [a] := by
  unfold aput
  by_cases h : a ∈ m.map (·.1)
  · rw [if_pos ((bN_ m a).2 h), if_pos h, List.map_map]
    apply List.map_congr_left
    intro p _
    simp only [Function.comp]
    split
    · rename_i h1; exact h1.symm
    · rfl
  · rw [if_neg (fun hc => h ((bN_ m a).1 hc)), if_neg h]
    simp
theorem cy_ {m : List (α × β)} (hm : (m.map (·.1)).Nodup) (a : α) (b : β) : ((aput m a b).map (·.1)).Nodup := by
  rw [hs_]
  split
  · exact hm
  · rename_i h
    rw [List.nodup_append]
    exact ⟨hm, by simp, by intro x hx y hy; simp at hy; subst hy; rintro rfl; exact h hx⟩
theorem ba_ (m : List (α × β)) (a c : α) (b : β) : aget (aput m a b) c = if c = a then some b else aget m c := by
  unfold aput
  by_cases h : (aget m a).isSome = true
  · rw [if_pos h]
    have hmap : ∀ (m : List (α × β)), ((m.map fun p => if p.1 = a then (a, b) else p).find? fun p => decide (p.1 = c)).map (·.2) = if c = a then (if a ∈ m.map (·.1) then some b else none) else aget m c := by
      intro m
      induction m with
      | nil => simp [aget]
      | cons p m ih =>
        simp only [List.map_cons, List.find?_cons]
        by_cases hp : p.1 = a
        · rw [if_pos hp]
          by_cases hc : c = a
          · subst hc; simp [hp]
          · have hac : ¬ a = c := fun h => hc h.symm
            simp only [hac, decide_false, if_neg hc]
            rw [ih, if_neg hc]
            unfold aget
            simp [hp, hac]
        · rw [if_neg hp]
          by_cases hpc : p.1 = c
          · have hca : ¬ c = a := fun h => hp (hpc.trans h)
            simp [hpc, hca, aget]
          · simp only [hpc, decide_false]
            rw [ih]
            by_cases hca : c = a
            · subst hca
              rw [if_pos rfl, if_pos rfl]
              have : (c ∈ p.1 :: m.map (·.1)) ↔ c ∈ m.map (·.1) := by
                simp only [List.mem_cons]
                constructor
                · rintro (h1 | h1)
                  · exact absurd h1.symm hp
                  · exact h1
                · exact Or.inr
              by_cases hin : c ∈ m.map (·.1)
              · rw [if_pos hin, if_pos (this.2 hin)]
              · rw [if_neg hin, if_neg (fun hh => hin (this.1 hh))]
            · rw [if_neg hca, if_neg hca]
              unfold aget
              simp [hpc]
    have h0 := hmap m
    rw [if_pos ((bN_ m a).1 h)] at h0
    exact h0
  · rw [if_neg h]
    unfold aget
    rw [List.find?_append]
    by_cases hc : c = a
    · subst hc
      have hn : aget m c = none := by cases hg : aget m c <;> simp_all
      have hf : (m.find? fun p => decide (p.1 = c)) = none := by
        unfold aget at hn
        simpa using hn
      rw [hf]
      simp
    · have hac : ¬ a = c := fun h => hc h.symm
      simp [hac, hc]
theorem dt_ (m : List (α × β)) (a : α) (b : β) : (aput m a b).length = if (aget m a).isSome then m.length else m.length + 1 := by
  unfold aput
  split <;> simp
theorem j0_ {m : List (α × β)} (hm : (m.map (·.1)).Nodup) (a : α) : ((adel m a).map (·.1)).Nodup :=
  hm.sublist ((List.filter_sublist).map _)
theorem lw_ (m : List (α × β)) (a c : α) : aget (adel m a) c = if c = a then none else aget m c := by
  unfold aget adel
  induction m with
  | nil => simp
  | cons p m ih =>
    rw [List.filter_cons]
    by_cases hp : p.1 = a
    · simp only [hp, ne_eq, not_true_eq_false, decide_false, Bool.false_eq_true, if_false]
      rw [ih]
      by_cases hc : c = a
      · simp [hc]
      · rw [if_neg hc, if_neg hc]
        have : ¬ p.1 = c := fun h => hc (h.symm.trans hp)
        simp [this]
    · simp only [hp, ne_eq, not_false_eq_true, decide_true, if_true]
      rw [List.find?_cons, List.find?_cons]
      by_cases hpc : p.1 = c
      · have : ¬ c = a := fun h => hp (hpc.trans h)
        simp [hpc, this]
      · simp only [hpc, decide_false]
        exact ih
end
structure KeyFit {α : Type} (P : Program) (k : TypeId) (K : α → Value) (Good : α → Prop) : Prop where
  keyed : Maps.Keyed P k
  lit : ∀ a, Good a → ∃ l, keyOf P k (K a) = some l
  inj : ∀ a b, Good a → Good b → K a = K b → a = b
def MapOf {α β : Type} (w : World) (b : Nat) (K : α → Value) (V : β → Value) (Good : α → Prop) (m : List (α × β)) : Prop :=
  ∃ es clock, w.heap[b]? = some (.map es clock) ∧ es.toList.map (fun e => (e.key, e.val)) = m.map (fun p => (K p.1, V p.2)) ∧ (m.map (·.1)).Nodup ∧ (∀ p ∈ m, Good p.1) ∧
    (∀ e ∈ es.toList, e.born < clock) ∧ (es.toList.map (·.born)).Nodup
section
variable {α β : Type} {P : Program} {w w' : World} {b : Nat} {k e t : TypeId} {K : α → Value} {V : β → Value} {Good : α → Prop} {m : List (α × β)}
theorem MapOf.lt (h : MapOf w b K V Good m) : b < w.heap.size := by
  obtain ⟨es, clock, hb, _⟩ := h
  rcases Nat.lt_or_ge b w.heap.size with hlt | hge
  · exact hlt
  · rw [Array.getElem?_eq_none hge] at hb; cases hb
theorem MapOf.ext {F : List Nat} (h : MapOf w b K V Good m) (hx : Ext F w w') (hb : b ∉ F) : MapOf w' b K V Good m := by
  have hl := h.lt
  obtain ⟨es, clock, h1, h2⟩ := h
  exact ⟨es, clock, (hx.block b hl hb).trans h1, h2⟩
theorem MapOf.new (w : World) : MapOf (w.alloc (.map #[] 0)) w.heap.size K V Good [] :=
  ⟨#[], 0, heap_alloc_new w _, rfl, by simp, by simp, by simp, by simp⟩
theorem MapOf.alloc (h : MapOf w b K V Good m) (o : Obj) : MapOf (w.alloc o) b K V Good m := h.ext ((Ext.refl (F := []) _).alloc _) (by simp)
theorem g8_ {es : List MapEntry} (he : es.map (fun e => (e.key, e.val)) = m.map (fun p => (K p.1, V p.2))) {j : Nat} {x : MapEntry} (hx : es[j]? = some x) : ∃ p, m[j]? = some p ∧ x.key = K p.1 ∧ x.val = V p.2 := by
  have h1 : (es.map (fun e => (e.key, e.val)))[j]? = some (x.key, x.val) := by rw [List.getElem?_map, hx]; rfl
  rw [he, List.getElem?_map] at h1
  cases hm : m[j]? with
  | none => rw [hm] at h1; cases h1
  | some p =>
    rw [hm] at h1
    simp at h1
    exact ⟨p, rfl, h1.1.symm, h1.2.symm⟩
variable [DecidableEq α]
theorem eI_ (kf : KeyFit P k K Good) {es : List MapEntry} (he : es.map (fun e => (e.key, e.val)) = m.map (fun p => (K p.1, V p.2))) (hg : ∀ p ∈ m, Good p.1) (hnd : (m.map (·.1)).Nodup) {a : α} (ha : Good a) (w : World) :
    (aget m a = none ∧ (Instr.findKey k (K a) es).run P w = .ok none w) ∨
    ∃ j v, m[j]? = some (a, v) ∧ aget m a = some v ∧ (Instr.findKey k (K a) es).run P w = .ok (some (j, V v)) w := by
  obtain ⟨l, hl⟩ := kf.lit a ha
  have hall : ∀ x ∈ es, ∃ l, keyOf P k x.key = some l := by
    intro x hx
    obtain ⟨j, hj⟩ := List.getElem?_of_mem hx
    obtain ⟨p, hp, hk, _⟩ := g8_ he hj
    rw [hk]
    exact kf.lit _ (hg p (List.mem_of_getElem? hp))
  rcases kf.keyed.find w hl es hall with ⟨hrun, hne⟩ | ⟨j, x, hrun, hj, hk⟩
  · refine .inl ⟨?_, hrun⟩
    rw [dL_]
    intro hin
    simp only [List.mem_map] at hin
    obtain ⟨p, hp, rfl⟩ := hin
    obtain ⟨j, hj⟩ := List.getElem?_of_mem hp
    have h1 : (m.map (fun p => (K p.1, V p.2)))[j]? = some (K p.1, V p.2) := by rw [List.getElem?_map, hj]; rfl
    rw [← he, List.getElem?_map] at h1
    cases hx : es[j]? with
    | none => rw [hx] at h1; cases h1
    | some x =>
      rw [hx] at h1
      simp at h1
      exact hne x (List.mem_of_getElem? hx) h1.1
  · obtain ⟨p, hp, hk2, hv⟩ := g8_ he hj
    have hpa : p.1 = a := kf.inj _ _ (hg p (List.mem_of_getElem? hp)) ha (hk2.symm.trans hk)
    obtain ⟨pa, pv⟩ := p
    dsimp only at hpa hv
    subst hpa
    refine .inr ⟨j, pv, hp, ?_, by rw [← hv]; exact hrun⟩
    unfold aget
    have hfind : m.find? (fun p => decide (p.1 = pa)) = some (pa, pv) := by
      rw [List.find?_eq_some_iff_append]
      refine ⟨by simp, ?_⟩
      have hjl := (List.getElem?_eq_some_iff.1 hp)
      obtain ⟨hjl, hje⟩ := hjl
      refine ⟨m.take j, m.drop (j + 1), ?_, ?_⟩
      · rw [← hje, List.getElem_cons_drop, List.take_append_drop]
      · intro q hq
        simp only [Bool.not_eq_true', decide_eq_false_iff_not]
        intro hqa
        obtain ⟨i, hi⟩ := List.getElem?_of_mem hq
        rw [List.getElem?_take] at hi
        split at hi
        · rename_i hij
          have h1 : (m.map (·.1))[i]? = some pa := by rw [List.getElem?_map, hi]; simp [hqa]
          have h2 : (m.map (·.1))[j]? = some pa := by rw [List.getElem?_map, hp]; rfl
          have hil : i < (m.map (·.1)).length := (List.getElem?_eq_some_iff.1 h1).1
          have := (List.getElem?_inj hil hnd).1 (h1.trans h2.symm)
          omega
        · cases hi
    rw [hfind]
    rfl
theorem MapOf.look_run (h : MapOf w b K V Good m) (kf : KeyFit P k K Good) (ht : P.underlying t = some (.map k e)) {z : Value} (hz : (zeroValue e).run P w = .ok z w) {a : α} (ha : Good a) (c : Bool) :
    (Instr.lookup t (.map (some b)) (K a) c).run P w = .ok (if c then .tuple #[((aget m a).map V).getD z, .bool (aget m a).isSome] else ((aget m a).map V).getD z) w := by
  obtain ⟨es, clock, hb, he, hnd, hg, _⟩ := h
  obtain ⟨l, hl⟩ := kf.lit a ha
  have hgo : (getObj b).run P w = .ok (.map es clock) w := by simp [getObj, Sem.run, hb]
  simp only [Instr.lookup, Sem.run_bind, run_underlying ht, Result.andThen_ok, Sem.run_pure, hgo, kf.keyed.check w es.isEmpty hl]
  rcases eI_ kf he hg hnd ha w with ⟨h1, h2⟩ | ⟨j, v, _, h1, h2⟩
  · rw [h1, h2]
    cases c <;> simp [hz]
  · rw [h1, h2]
    cases c <;> simp
theorem Ext.setMap {b : Nat} {es es' : Array MapEntry} {clock clock' : Nat} (_hb : w.heap[b]? = some (.map es clock)) : Ext [b] w { w with heap := w.heap.setIfInBounds b (.map es' clock') } :=
  ⟨rfl, rfl, rfl, by simp, fun k _ hn => by
    have : b ≠ k := fun h => hn (by simp [h])
    simp [this]⟩
theorem bw_ {b : Nat} {es es' : Array MapEntry} {clock clock' : Nat} (hb : w.heap[b]? = some (.map es clock)) : ({ w with heap := w.heap.setIfInBounds b (.map es' clock') } : World).heap[b]? = some (.map es' clock') := by
  have hlt : b < w.heap.size := by
    rcases Nat.lt_or_ge b w.heap.size with hlt | hge
    · exact hlt
    · rw [Array.getElem?_eq_none hge] at hb; cases hb
  simp [hlt]
theorem by_ {b : Nat} {es : Array MapEntry} {clock : Nat} (hb : w.heap[b]? = some (.map es clock)) : (getObj b).run P w = .ok (.map es clock) w := by simp [getObj, Sem.run, hb]
theorem bJ_ {b : Nat} {es es' : Array MapEntry} {clock clock' : Nat} (hb : w.heap[b]? = some (.map es clock)) : (setObj b (.map es' clock')).run P w = .ok () { w with heap := w.heap.setIfInBounds b (.map es' clock') } := by simp [setObj, Sem.run, hb]
theorem ij_ {m : List (α × β)} (hnd : (m.map (·.1)).Nodup) {j : Nat} {a : α} {v v' : β} (hj : m[j]? = some (a, v)) : aput m a v' = m.set j (a, v') := by
  have hin : (aget m a).isSome = true := (bN_ m a).2 (List.mem_map.2 ⟨_, List.mem_of_getElem? hj, rfl⟩)
  unfold aput
  rw [if_pos hin]
  apply List.ext_getElem?
  intro i
  rw [List.getElem?_map, List.getElem?_set]
  have hjl : j < m.length := (List.getElem?_eq_some_iff.1 hj).1
  by_cases hij : j = i
  · subst hij
    rw [if_pos rfl, if_pos hjl, hj]
    simp
  · rw [if_neg hij]
    cases hi : m[i]? with
    | none => rfl
    | some p =>
      simp only [Option.map_some, Option.some.injEq]
      rw [if_neg]
      intro hpa
      have h1 : (m.map (·.1))[i]? = some a := by rw [List.getElem?_map, hi]; simp [hpa]
      have h2 : (m.map (·.1))[j]? = some a := by rw [List.getElem?_map, hj]; rfl
      have hil : i < (m.map (·.1)).length := (List.getElem?_eq_some_iff.1 h1).1
      exact hij ((List.getElem?_inj hil hnd).1 (h1.trans h2.symm)).symm
theorem MapOf.put_run (h : MapOf w b K V Good m) (kf : KeyFit P k K Good) (ht : P.underlying t = some (.map k e)) {a : α} (ha : Good a) (v : β) :
    ∃ w', (Instr.mapUpdate t (.map (some b)) (K a) (V v)).run P w = .ok () w' ∧ MapOf w' b K V Good (aput m a v) ∧ Ext [b] w w' := by
  obtain ⟨es, clock, hb, he, hnd, hg, hborn, hbnd⟩ := h
  obtain ⟨l, hl⟩ := kf.lit a ha
  rcases eI_ kf he hg hnd ha w with ⟨h1, h2⟩ | ⟨j, u, hj, h1, h2⟩
  · refine ⟨{ w with heap := w.heap.setIfInBounds b (.map (es.push { key := K a, val := V v, born := clock }) (clock + 1)) }, ?_, ⟨_, _, bw_ hb, ?_, cy_ hnd a v, ?_, ?_, ?_⟩, Ext.setMap hb⟩
    · simp only [Instr.mapUpdate, Sem.run_bind, run_underlying ht, Result.andThen_ok, by_ hb, kf.keyed.check w false hl, h2, bJ_ hb]
    · rw [Array.toList_push, List.map_append, he]
      unfold aput
      rw [if_neg (by rw [h1]; simp)]
      simp
    · intro p hp
      unfold aput at hp
      rw [if_neg (by rw [h1]; simp)] at hp
      simp only [List.mem_append, List.mem_singleton] at hp
      rcases hp with hp | rfl
      · exact hg p hp
      · exact ha
    · intro x hx
      rw [Array.toList_push, List.mem_append, List.mem_singleton] at hx
      rcases hx with hx | rfl
      · have := hborn x hx; omega
      · exact Nat.lt_succ_self _
    · rw [Array.toList_push, List.map_append, List.nodup_append]
      refine ⟨hbnd, by simp, ?_⟩
      intro x hx y hy
      simp at hy
      subst hy
      simp only [List.mem_map] at hx
      obtain ⟨z, hz, rfl⟩ := hx
      have := hborn z hz
      omega
  · have hjl : j < es.toList.length := by
      have h3 := congrArg List.length he
      simp only [List.length_map] at h3
      rw [h3]
      exact (List.getElem?_eq_some_iff.1 hj).1
    have hk : (es[j]?).map (·.key) = some (K a) := by
      rw [← Array.getElem?_toList]
      have h3 : (es.toList.map (fun e => (e.key, e.val)))[j]? = some (K a, V u) := by rw [he, List.getElem?_map, hj]; rfl
      rw [List.getElem?_map] at h3
      cases hx : es.toList[j]? with
      | none => rw [hx] at h3; cases h3
      | some x => rw [hx] at h3; simp at h3; simp [h3.1]
    have hmod : (es.modify j fun e => { e with key := K a, val := V v }).toList = es.toList.modify j fun e => { e with key := K a, val := V v } := by simp
    refine ⟨{ w with heap := w.heap.setIfInBounds b (.map (es.modify j fun e => { e with key := K a, val := V v }) clock) }, ?_, ⟨_, _, bw_ hb, ?_, cy_ hnd a v, ?_, ?_, ?_⟩, Ext.setMap hb⟩
    · simp only [Instr.mapUpdate, Sem.run_bind, run_underlying ht, Result.andThen_ok, by_ hb, kf.keyed.check w false hl, h2, hk, Option.getD_some, kf.keyed.stays w hl, bJ_ hb]
    · rw [hmod, ij_ hnd hj]
      apply List.ext_getElem?
      intro i
      have hei : (es.toList.map (fun e => (e.key, e.val)))[i]? = (m.map (fun p => (K p.1, V p.2)))[i]? := by rw [he]
      rw [List.getElem?_map, List.getElem?_map] at hei
      rw [List.getElem?_map, List.getElem?_map, List.getElem?_modify, List.getElem?_set]
      have hml : j < m.length := (List.getElem?_eq_some_iff.1 hj).1
      by_cases hij : j = i
      · subst hij
        rw [if_pos rfl, if_pos hml, List.getElem?_eq_getElem hjl]
        simp
      · rw [if_neg hij]
        simp only [if_neg hij]
        rw [← hei]
        cases es.toList[i]? <;> rfl
    · intro p hp
      have h4 : p.1 ∈ (aput m a v).map (·.1) := List.mem_map.2 ⟨p, hp, rfl⟩
      rw [hs_, if_pos (by rw [← bN_, h1]; rfl)] at h4
      simp only [List.mem_map] at h4
      obtain ⟨q, hq, hqe⟩ := h4
      rw [← hqe]
      exact hg q hq
    · intro x hx
      rw [hmod] at hx
      obtain ⟨i, hi⟩ := List.getElem?_of_mem hx
      rw [List.getElem?_modify] at hi
      cases hx2 : es.toList[i]? with
      | none => rw [hx2] at hi; simp at hi
      | some y =>
        rw [hx2] at hi
        have := hborn y (List.mem_of_getElem? hx2)
        simp at hi
        rw [← hi]
        split <;> exact this
    · have hb2 : (es.toList.modify j fun e => { e with key := K a, val := V v }).map (·.born) = es.toList.map (·.born) := by
        apply List.ext_getElem?
        intro i
        rw [List.getElem?_map, List.getElem?_modify, List.getElem?_map]
        cases es.toList[i]? with
        | none => simp
        | some y => simp only [Option.map_eq_map, Option.map_some]; split <;> rfl
      rw [hmod, hb2]
      exact hbnd
omit [DecidableEq α] in
theorem MapOf.len_run (h : MapOf w b K V Good m) (ht : P.underlying t = some (.map k e)) (ty : TypeId) : (Builtin.len_ #[t] ty #[.map (some b)]).run P w = .ok (.int .i64 m.length) w := by
  obtain ⟨es, clock, hb, he, _⟩ := h
  have h3 := congrArg List.length he
  simp only [List.length_map, Array.length_toList] at h3
  simp [Builtin.len_, Sem.run_bind, run_underlying ht, Result.andThen_ok, by_ hb, goInt, h3]
end
theorem laid : laidOutB Tryz.prog = true := by kernel_rfl
def litB (c : UInt8) : Lit := .int .u8 (c.toNat : Int)
theorem eG_ {L M : List UInt8} (h : L.map litB = M.map litB) : L = M := by
  have hi : ∀ a b : UInt8, litB a = litB b → a = b := by
    intro a b hab
    unfold litB at hab
    injection hab with _ hab
    exact UInt8.toNat.inj (by omega)
  induction L generalizing M with
  | nil => cases M with
    | nil => rfl
    | cons _ _ => simp at h
  | cons a L ih => cases M with
    | nil => simp at h
    | cons b M =>
      simp only [List.map_cons, List.cons.injEq] at h
      rw [hi _ _ h.1, ih h.2]
theorem c3_ {m : Nat} {T : TypeId} (hu : Tryz.prog.underlying T = some (.array 32 5)) (hc : Tryz.prog.cellsOf T = 32) (L : List UInt8) (hL : L.length = 32) :
    Tryz.prog.keyLits (m + 2) T (L.map bc) = some (L.map litB) := by
  have h5 : Tryz.prog.cellsOf 5 = 1 := by kernel_rfl
  have hone : ∀ c : UInt8, Tryz.prog.keyLits (m + 1) 5 [bc c] = some [litB c] := by
    intro c
    have hb : c.toNat < 256 := c.toNat_lt
    have e1 : (Lit.int .u8 (c.toNat : Int)).wf = true := by
      simp only [Lit.wf, Bool.and_eq_true, decide_eq_true_eq]
      exact ⟨by show (0 : Int) ≤ _; omega, by show _ ≤ (255 : Int); omega⟩
    simp [Program.keyLits, Tryz.underlying5, bc, litB, e1]
  have hm : (List.range 32).mapM (fun i => Tryz.prog.keyLits (m + 1) 5 (((L.map bc).drop (i * 1)).take 1)) = some (L.map fun c => [litB c]) := by
    refine mapM_some_of_get _ _ (by simp [hL]) ?_
    intro i x hx
    have hi : i < 32 := by
      have := (List.getElem?_eq_some_iff.1 hx).1
      simpa using this
    have hxi : x = i := by
      have := (List.getElem?_eq_some_iff.1 hx).2
      simpa using this.symm
    subst hxi
    have hl : x < L.length := by omega
    have hd : ((L.map bc).drop (x * 1)).take 1 = [bc L[x]] := by
      rw [Nat.mul_one, List.drop_eq_getElem_cons (by simpa using hl)]
      simp
    rw [hd, hone]
    simp [hl]
  have hfl : (L.map fun c => [litB c]).flatten = L.map litB := by
    clear hm hL
    induction L with
    | nil => rfl
    | cons c L ih => simp [ih]
  have hlen : (L.map bc).length = Tryz.prog.cellsOf T := by simp [hL, hc]
  have hcell : (L.map bc).length = 32 := by simp [hL]
  unfold Program.keyLits
  rw [hu]
  split
  · simp_all
  · simp_all
  · simp_all
  · rename_i h1
    injection h1 with h1
    injection h1 with h1 h2
    subst h1
    subst h2
    rw [if_pos hlen, h5, hm, Option.map_some, hfl]
  · simp_all
  · simp_all
def arrB (L : List UInt8) : Value := .agg (L.map bc).toArray
theorem formedB {T : TypeId} (hu : Tryz.prog.underlying T = some (.array 32 5)) (hc : Tryz.prog.cellsOf T = 32) (L : List UInt8) (hL : L.length = 32) : (arrB L).formed Tryz.prog T = true := by
  simp [arrB, Value.formed, hu, hc, hL]
theorem eqlB {T : TypeId} (hu : Tryz.prog.underlying T = some (.array 32 5)) (hc : Tryz.prog.cellsOf T = 32) (hk : Tryz.prog.keyTypeAt 4 T = true) (L M : List UInt8) (hL : L.length = 32) (hM : M.length = 32) (b : Bool) (hb : decide (L = M) = b) (w : World) :
    (binOp .eql T (arrB L) (arrB M)).run Tryz.prog w = .ok (.bool b) w :=
  el_ (m := 4) (by decide) hk (formedB hu hc L hL) (formedB hu hc M hM) (c3_ (m := 0) hu hc L hL) (c3_ (m := 0) hu hc M hM) b (by
    rw [← hb, decide_eq_true_eq]
    exact ⟨fun h => by rw [h], eG_⟩) w
end Go.Proofs.YtggajaigfkekhaaGreat
namespace Go.Proofs.YtggajaigfkekhaaGreat.A
open Go.RowKit
theorem eD_ {m : Nat} (p : Pnt) (h : InR .i64 p.seq) : Tryz.prog.keyLits (m + 3) 59 (.int .i64 p.seq :: p.dig.map bc) = some (.int .i64 p.seq :: p.dig.map litB) := by
  have h1 : (Lit.int .i64 p.seq).wf = true := by
    simp only [InR, lo, hi] at h
    simp only [Lit.wf, Bool.and_eq_true, decide_eq_true_eq]
    exact ⟨by show (-9223372036854775808 : Int) ≤ _; omega, by show _ ≤ (9223372036854775807 : Int); omega⟩
  have c1 : Tryz.prog.cellsOf 59 = 33 := by kernel_rfl
  have c2 : Tryz.prog.cellsOf 40 = 32 := by kernel_rfl
  have c3 : Tryz.prog.cellsOf 2 = 1 := by kernel_rfl
  have h2 := c3_ (m := m) Tryz.underlying40 c2 p.dig p.len
  have h3 : Tryz.prog.keyLits (m + 2) 2 [.int .i64 p.seq] = some [.int .i64 p.seq] := by
    simp [Program.keyLits, Tryz.underlying2, h1]
  have hl : (p.dig.map bc).length = 32 := by simp [p.len]
  have h5 : (p.dig.map bc).take 32 = p.dig.map bc := List.take_of_length_le (by omega)
  unfold Program.keyLits
  rw [Tryz.underlying59]
  simp [c1, c2, c3, h2, h3, h5, p.len]
theorem c2_ (p : Pnt) : (Value.agg (.int .i64 p.seq :: p.dig.map bc).toArray).formed Tryz.prog 59 = true := by
  have c1 : Tryz.prog.cellsOf 59 = 33 := by kernel_rfl
  simp [Value.formed, Tryz.underlying59, c1, p.len]
theorem neqP {p q : Pnt} (hp : InR .i64 p.seq) (hq : InR .i64 q.seq) (w : World) : (binOp .neq 59 (.agg (Value.int .i64 p.seq :: p.dig.map bc).toArray) (.agg (Value.int .i64 q.seq :: q.dig.map bc).toArray)).run Tryz.prog w = .ok (.bool (decide (p ≠ q))) w :=
  ek_ (m := 10) (by decide) (by kernel_rfl) (c2_ p) (c2_ q) (eD_ (m := 0) p hp) (eD_ (m := 0) q hq) _ (by
    rw [decide_eq_true_eq]
    constructor
    · intro h h2
      simp only [List.cons.injEq, Lit.int.injEq, true_and] at h2
      exact h (Pnt.same h2.1 (eG_ h2.2))
    · intro h h2
      exact h (by rw [h2])) w
theorem eqP {p q : Pnt} (hp : InR .i64 p.seq) (hq : InR .i64 q.seq) (w : World) : (binOp .eql 59 (.agg (Value.int .i64 p.seq :: p.dig.map bc).toArray) (.agg (Value.int .i64 q.seq :: q.dig.map bc).toArray)).run Tryz.prog w = .ok (.bool (decide (p = q))) w :=
  el_ (m := 10) (by decide) (by kernel_rfl) (c2_ p) (c2_ q) (eD_ (m := 0) p hp) (eD_ (m := 0) q hq) _ (by
    rw [decide_eq_true_eq]
    constructor
    · intro h
      rw [h]
    · intro h2
      simp only [List.cons.injEq, Lit.int.injEq, true_and] at h2
      exact Pnt.same h2.1 (eG_ h2.2)) w
theorem dX_ (d : List UInt8) : plains (digA d) = some (d.map bc) := by
  induction d with
  | nil => rfl
  | cons b d ih =>
    show (match plains (digA d) with | some us => some (bc b :: us) | none => none) = _
    rw [ih]; rfl
theorem bc_ (p : Pnt) : plains p.abs = some (.int .i64 p.seq :: p.dig.map bc) := by
  show (match plains (digA p.dig) with | some us => some (Value.int .i64 p.seq :: us) | none => none) = _
  rw [dX_]
theorem Prf.same {p q : Prf} (h1 : p.seq = q.seq) (h2 : p.view = q.view) (h3 : p.batch = q.batch) : p = q := by
  obtain ⟨a, b, c⟩ := p
  obtain ⟨d, e, f⟩ := q
  dsimp only at h1 h2 h3
  rw [h1, h2, h3]
theorem Chg.same {p q : Chg} (h1 : p.view = q.view) (h2 : p.low = q.low) (h3 : p.points = q.points) (h4 : p.prepared = q.prepared) (h5 : p.proposed = q.proposed) : p = q := by
  obtain ⟨a, b, c, d, e⟩ := p
  obtain ⟨a2, b2, c2, d2, e2⟩ := q
  dsimp only at h1 h2 h3 h4 h5
  rw [h1, h2, h3, h4, h5]
section
variable {ps qs : List Prf} {c d : Chg}
set_option maxHeartbeats 2000000 in
theorem ej_ (hl : Long ps) (h1 : ∀ p ∈ ps, p.Lits) (h2 : ∀ q ∈ qs, q.Lits) : Spec Tryz.prog 45 [prfsA ps, prfsA qs] [] (fun _ : Unit => []) (fun _ => boo (yes (ps = qs))) := by
 have hn := hl.1
 refine G_ Tryz.func45 rfl Tryz.ntmps45 rfl fun G w =>d_<|a_<|q_ 1 rfl<|g_<|c_<|d_<|d_<|a_<|q_ 1 rfl<|b_ (z_ rfl Tryz.underlying24 (List.length_map _)) rfl rfl<|q_ 1 rfl<|b_ (z_ rfl Tryz.underlying24 (List.length_map _)) rfl rfl<|q_ 1 rfl<|g_<|c_<|r_ rfl ?_ ?_
 ·intro hc10
  refine d_<|a_<|q_ 1 rfl<|g_<|c_<|n_<|i_ nofun<|f_ (rs := [.tmp 4]) rfl (RV.tmp rfl RV.nil) (()) sn_<|av_ fun h => ?_
  subst h
  exact hc10 rfl
 intro hc10
 have hle : ps.length = qs.length := by omega
 refine p_<|c_<|d_<|d_<|a_<|q_ 1 rfl<|b_ (z_ rfl Tryz.underlying24 (List.length_map _)) rfl rfl<|q_ 1 rfl<|g_<|c_<|t_<|S_ (ι := Nat) (fun z => []) (fun z => [(0, prfsA ps), (1, prfsA qs), (12, int (ps.length : Nat)), (13, int (z : Nat))]) (fun z => z ≤ ps.length ∧ ps.take z = qs.take z) (fun z => ps.length - z) (0) (⟨Nat.zero_le _, by simp⟩) (by exact ⟨rfl, rfl, rfl, rfl, trivial⟩) sn_ ?_
 intro z hz
 refine d_<|a_<|q_ 1 rfl<|g_<|c_<|d_<|r_ rfl ?_ ?_
 rotate_left
 ·intro hc14
  refine Q_<|i_ nofun<|i_ nofun<|P_<|c_<|d_<|a_<|q_ 1 rfl<|g_<|c_<|n_<|f_ (rs := [.tmp 4]) rfl (RV.tmp rfl RV.nil) (()) sn_<|bl_ ⟨fun _ => ?_, fun _ => rfl⟩
  have h9 := hz.2
  rw [List.take_of_length_le (by omega), List.take_of_length_le (by omega)] at h9
  exact h9
 intro hc14
 have hlt : z < ps.length := by omega
 have hlt2 : z < qs.length := by omega
 refine p_<|c_<|d_<|t_<|d_<|a_<|q_ 2 rfl<|g_<|c_<|d_<|Y_ [] (.q 0 (.q 1 (.q 2 (.q 3 (.q 4 (.q 5 (.q 6 (.q 7 (.q 8 (.q 9 (.q 10 (.q 11 (.q 12 (.q 13 (.q 14 (.q 15 (.q 16 (.q 17 (.q 18 (.q 19 (.q 20 (.q 21 (.q 22 (.q 23 (.q 24 (.q 25 (.q 26 (.q 27 (.q 28 (.q 29 (.q 30 (.q 31 (.q 32 (.q 33 (.q 34 (.e 35 (.q 36 (.q 37 .nil)))))))))))))))))))))))))))))))))))))) (by kernel_rfl) (by kernel_rfl) ?_
 refine qs_ 2 rfl<|l_ rfl (D_ tabOk Tryz.underlying24 rfl rfl rfl rfl (aa_ (by omega)) rfl rfl) (by simp) rfl rfl ?_
 refine l_ rfl (Z_ tabOk rfl rfl rfl rfl rfl) (by simp) rfl rfl ?_
 refine l_ rfl (au_ tabOk rfl rfl rfl) (by simp) rfl rfl ?_
 refine qs_ 2 rfl<|l_ rfl (D_ tabOk Tryz.underlying24 rfl rfl rfl rfl (aa_ (by omega)) rfl rfl) (by simp) rfl rfl ?_
 refine l_ rfl (Z_ tabOk rfl rfl rfl rfl rfl) (by simp) rfl rfl ?_
 refine l_ rfl (au_ tabOk rfl rfl rfl) (by simp) rfl rfl ?_
 refine qs_ 2 rfl<|am_ (t := 27) rfl ?_ ?_
 ·intro hc27
  refine qs_ 23 rfl<|aE_ rfl rfl rfl<|qs_ 2 rfl<|N_<|c_<|O_ rfl<|d_<|a_<|q_ 1 rfl<|g_<|c_<|n_<|E_<|i_ nofun<|i_ nofun<|E_<|i_ nofun<|f_ (rs := [.tmp 4]) rfl (RV.tmp rfl RV.nil) (()) sn_<|av_ fun h => ?_
  subst h
  exact hc27 rfl
 intro hc27
 refine qs_ 2 rfl<|l_ rfl (D_ tabOk Tryz.underlying24 rfl rfl rfl rfl (aa_ (by omega)) rfl rfl) (by simp) rfl rfl ?_
 refine l_ rfl (Z_ tabOk rfl rfl rfl rfl rfl) (by simp) rfl rfl ?_
 refine l_ rfl (au_ tabOk rfl rfl rfl) (by simp) rfl rfl ?_
 refine qs_ 2 rfl<|l_ rfl (D_ tabOk Tryz.underlying24 rfl rfl rfl rfl (aa_ (by omega)) rfl rfl) (by simp) rfl rfl ?_
 refine l_ rfl (Z_ tabOk rfl rfl rfl rfl rfl) (by simp) rfl rfl ?_
 refine l_ rfl (au_ tabOk rfl rfl rfl) (by simp) rfl rfl ?_
 refine qs_ 3 rfl<|am_ (t := 40) rfl ?_ ?_
 ·intro hc40
  iterate 10 refine bq_ rfl rfl rfl ?_
  refine aE_ rfl rfl rfl<|qs_ 2 rfl<|N_<|c_<|O_ rfl<|d_<|a_<|q_ 1 rfl<|g_<|c_<|n_<|E_<|i_ nofun<|i_ nofun<|E_<|i_ nofun<|f_ (rs := [.tmp 4]) rfl (RV.tmp rfl RV.nil) (()) sn_<|av_ fun h => ?_
  subst h
  exact hc40 rfl
 intro hc40
 refine qs_ 2 rfl<|l_ rfl (D_ tabOk Tryz.underlying24 rfl rfl rfl rfl (aa_ (by omega)) rfl rfl) (by simp) rfl rfl ?_
 refine l_ rfl (Z_ tabOk rfl rfl rfl rfl rfl) (by simp) rfl rfl ?_
 refine l_ rfl (au_ tabOk rfl rfl rfl) (by simp) rfl rfl ?_
 refine qs_ 2 rfl<|l_ rfl (D_ tabOk Tryz.underlying24 rfl rfl rfl rfl (aa_ (by omega)) rfl rfl) (by simp) rfl rfl ?_
 refine l_ rfl (Z_ tabOk rfl rfl rfl rfl rfl) (by simp) rfl rfl ?_
 refine l_ rfl (au_ tabOk rfl rfl rfl) (by simp) rfl rfl ?_
 refine I_ rfl (eB_ (es := (ps[z]'hlt).batch) (fs := (qs[z]'hlt2).batch) (hl.2 _ (List.getElem_mem hlt)) (h1 _ (List.getElem_mem hlt)).all (h2 _ (List.getElem_mem hlt2)).all) (by simp [mids, It.mids]) Casts.refl (by kernel_rfl) rfl rfl rfl ?_
 refine ap_<|fun _=>l_ rfl (aL_ rfl) (by simp) rfl rfl ?_
 refine qs_ 1 rfl<|N_<|c_<|r_ rfl ?_ ?_
 rotate_left
 ·intro hc53
  refine p_<|o_<|c_<|a_<|b_ (s_ rfl rfl (by simp only [InR, lo, hi]; omega)) rfl rfl ?_
  refine q_ 1 rfl<|g_<|x_ (z + 1) (by omega) (⟨hlt, bh_ hz.2 hlt hlt2 (Prf.same (by simpa using hc27) (by simpa using hc40) (by simpa using hc53))⟩) (by exact ⟨rfl, rfl, rfl, rfl, trivial⟩) sn_
 intro hc53
 refine d_<|a_<|q_ 1 rfl<|g_<|c_<|n_<|E_<|i_ nofun<|i_ nofun<|E_<|i_ nofun<|f_ (rs := [.tmp 4]) rfl (RV.tmp rfl RV.nil) (()) sn_<|av_ fun h => ?_
 subst h
 exact hc53 rfl
set_option maxHeartbeats 2000000 in
theorem hO_ (hp : c.points.length < 9223372036854775807) (ha : Long c.prepared) (hb : Long c.proposed) (h1 : c.Lits) (h2 : d.Lits) : Spec Tryz.prog 14 [.agg c.abs, .agg d.abs] [] (fun _ : Unit => []) (fun _ => boo (yes (c = d))) := by
 refine G_ Tryz.func14 rfl Tryz.ntmps14 rfl fun G w =>d_<|a_<|eb_ (L_ rfl) rfl rfl fun b2=>?_
 refine eb_ (L_ rfl) rfl rfl fun b3=>?_
 refine q_ 1 rfl<|g_<|c_<|d_<|d_<|a_<|q_ 1 rfl<|b_ (h_ tabOk rfl rfl l1_ List.not_mem_nil rfl) rfl rfl<|q_ 1 rfl<|b_ (h_ tabOk rfl rfl l0_ List.not_mem_nil rfl) rfl rfl<|q_ 2 rfl<|C_ (t := 11) rfl ?_ ?_
 ·intro hc11
  refine q_ 15 rfl<|g_<|c_<|O_ rfl<|d_<|a_<|q_ 1 rfl<|g_<|c_<|n_<|i_ nofun<|f_ (rs := [.tmp 4]) rfl (RV.tmp rfl RV.nil) (()) sn_<|av_ fun h => ?_
  subst h
  exact hc11 rfl
 intro hc11
 refine q_ 1 rfl<|b_ (h_ tabOk rfl rfl l1_ List.not_mem_nil rfl) rfl rfl<|q_ 1 rfl<|b_ (h_ tabOk rfl rfl l0_ List.not_mem_nil rfl) rfl rfl<|q_ 3 rfl<|C_ (t := 18) rfl ?_ ?_
 ·intro hc18
  refine q_ 8 rfl<|g_<|c_<|O_ rfl<|d_<|a_<|q_ 1 rfl<|g_<|c_<|n_<|i_ nofun<|f_ (rs := [.tmp 4]) rfl (RV.tmp rfl RV.nil) (()) sn_<|av_ fun h => ?_
  subst h
  exact hc18 rfl
 intro hc18
 refine q_ 1 rfl<|b_ (h_ tabOk rfl rfl l1_ List.not_mem_nil rfl) rfl rfl<|b_ (z_ rfl Tryz.underlying23 (List.length_map _)) rfl rfl<|q_ 1 rfl<|b_ (h_ tabOk rfl rfl l0_ List.not_mem_nil rfl) rfl rfl<|b_ (z_ rfl Tryz.underlying23 (List.length_map _)) rfl rfl<|q_ 2 rfl<|g_<|c_<|r_ rfl ?_ ?_
 ·intro hc26
  refine d_<|a_<|q_ 1 rfl<|g_<|c_<|n_<|i_ nofun<|f_ (rs := [.tmp 4]) rfl (RV.tmp rfl RV.nil) (()) sn_<|av_ fun h => ?_
  subst h
  exact hc26 rfl
 intro hc26
 have hle : c.points.length = d.points.length := by omega
 refine p_<|c_<|d_<|d_<|a_<|q_ 1 rfl<|b_ (h_ tabOk rfl rfl l1_ List.not_mem_nil rfl) rfl rfl<|b_ (z_ rfl Tryz.underlying23 (List.length_map _)) rfl rfl<|q_ 1 rfl<|g_<|c_<|t_<|S_ (ι := Nat) (fun z => [.blk b3 26 d.abs, .blk b2 26 c.abs]) (fun z => [(2, ptr b2), (3, ptr b3), (29, int (c.points.length : Nat)), (30, int (z : Nat))]) (fun z => z ≤ c.points.length ∧ c.points.take z = d.points.take z) (fun z => c.points.length - z) (0) (⟨Nat.zero_le _, by simp⟩) (by exact ⟨rfl, rfl, rfl, rfl, trivial⟩) sr_ ?_
 intro z hz
 refine d_<|a_<|q_ 1 rfl<|g_<|c_<|d_<|r_ rfl ?_ ?_
 rotate_left
 ·intro hc31
  have hcp := hc31
  have hep : c.points = d.points := by
   have h9 := hz.2
   rw [List.take_of_length_le (by omega), List.take_of_length_le (by omega)] at h9
   exact h9
  refine Q_<|i_ nofun<|i_ nofun<|P_<|c_<|d_<|a_<|q_ 1 rfl<|b_ (h_ tabOk rfl rfl l1_ List.not_mem_nil rfl) rfl rfl<|q_ 1 rfl<|b_ (h_ tabOk rfl rfl l0_ List.not_mem_nil rfl) rfl rfl<|u_ (ej_ (ps := c.prepared) (qs := d.prepared) ha h1.prep h2.prep) Casts.refl (by kernel_rfl) rfl rfl rfl ?_
  refine ap_<|fun _=>q_ 1 rfl<|aZ_ (t := 50) rfl ?_ ?_
  rotate_left
  ·intro hc50
   refine q_ 7 rfl<|g_<|c_<|n_<|f_ (rs := [.tmp 4]) rfl (RV.tmp rfl RV.nil) (()) sn_ ?_
   (refine av_ fun h => ?_; subst h; exact absurd rfl (bs_.1 hc50))
  intro hc50
  refine q_ 1 rfl<|b_ (h_ tabOk rfl rfl l1_ List.not_mem_nil rfl) rfl rfl<|q_ 1 rfl<|b_ (h_ tabOk rfl rfl l0_ List.not_mem_nil rfl) rfl rfl<|u_ (ej_ (ps := c.proposed) (qs := d.proposed) hb h1.prop h2.prop) Casts.refl (by kernel_rfl) rfl rfl rfl ?_
  refine ap_<|fun _=>q_ 2 rfl<|g_<|c_<|n_<|f_ (rs := [.tmp 4]) rfl (RV.tmp rfl RV.nil) (()) sn_ ?_
  (refine bl_ ⟨fun h => Chg.same (by simpa using hc11) (by simpa using hc18) hep (X_.1 hc50) (X_.1 h), fun h => ?_⟩; subst h; exact X_.2 rfl)
 intro hc31
 have hlt : z < c.points.length := by omega
 have hlt2 : z < d.points.length := by omega
 refine p_<|c_<|d_<|t_<|d_<|a_<|q_ 2 rfl<|g_<|c_<|d_<|Y_ [] (.q 0 (.q 1 (.q 2 (.q 3 (.q 4 (.q 5 (.q 6 (.q 7 (.q 8 (.q 9 (.q 10 .nil))))))))))) (by kernel_rfl) (by kernel_rfl) ?_
 refine qs_ 1 rfl<|l_ rfl (h_ tabOk rfl rfl l1_ List.not_mem_nil rfl) (by simp) rfl rfl ?_
 refine qs_ 1 rfl<|l_ rfl (D_ tabOk Tryz.underlying23 rfl rfl rfl rfl (aa_ (by omega)) rfl rfl) (by simp) rfl rfl ?_
 refine hx_ fun hx9 =>l_ rfl (K_ tabOk rfl rfl rfl (Pnt.size _)) hx9 rfl rfl<|qs_ 1 rfl<|l_ rfl (h_ tabOk rfl rfl l0_ List.not_mem_nil rfl) (by simp) rfl rfl ?_
 refine qs_ 1 rfl<|l_ rfl (D_ tabOk Tryz.underlying23 rfl rfl rfl rfl (aa_ (by omega)) rfl rfl) (by simp) rfl rfl ?_
 refine l_ rfl (K_ tabOk rfl rfl rfl (Pnt.size _)) hx9 rfl rfl<|l_ rfl (d8_ rfl rfl (bc_ _) (bc_ _) (by kernel_rfl) (neqP (h1.pts _ (List.getElem_mem hlt)) (h2.pts _ (List.getElem_mem hlt2)))) hx9 rfl rfl ?_
 refine N_<|c_<|r_ rfl ?_ ?_
 rotate_left
 ·intro hc43
  refine p_<|o_<|c_<|a_<|b_ (s_ rfl rfl (by simp only [InR, lo, hi]; omega)) rfl rfl ?_
  refine q_ 1 rfl<|g_<|x_ (z + 1) (by omega) (⟨hlt, bh_ hz.2 hlt hlt2 (by simpa using hc43)⟩) (by exact ⟨rfl, rfl, rfl, rfl, trivial⟩) sr_
 intro hc43
 refine d_<|a_<|q_ 1 rfl<|g_<|c_<|n_<|E_<|i_ nofun<|i_ nofun<|E_<|i_ nofun<|f_ (rs := [.tmp 4]) rfl (RV.tmp rfl RV.nil) (()) sn_<|av_ fun h => ?_
 subst h
 exact hc43 rfl
end
end Go.Proofs.YtggajaigfkekhaaGreat.A
namespace Go.Proofs.YtggajaigfkekhaaGreat
open Go.ChangeShapes Go.WideShapes Go.ChangeAt Go.RowKit
theorem law_own : ownKnob Tryz.prog.godebug = none := by kernel_rfl
theorem hW_ : laidOutB Tryz.prog = true := by kernel_rfl
theorem dv_ {H : Type} {enc : TypeId × Value → H} {W W' : World} (hb : Below W.heap.size W W') :
    ∀ (ts : List TypeId) (vs : List Value) (ds : List (DataW H)) (p : List MemPlace), (∀ t ∈ ts, Tryz.prog.readableRec t = true ∧ t < Tryz.prog.types.size) →
      DataW.TrodAll enc Tryz.prog W 0 (fun _ => true) true ts vs ds p → ∃ q, DataW.TrodAll enc Tryz.prog W' 0 (fun b => decide (b < W.heap.size)) true ts vs ds q
  | [], [], [], p, _, h => ⟨p, h⟩
  | t :: ts, v :: vs, d :: ds, p, hr, h => by
    obtain ⟨p0, q0, h0, h1, rfl⟩ := h
    obtain ⟨q, hq⟩ := dv_ hb ts vs ds q0 (fun t ht => hr t (List.mem_cons_of_mem _ ht)) h1
    have lt0 : ∀ x ∈ p0, x.block < W.heap.size := by obtain ⟨m, hm⟩ := h0; exact DataW.trod_lt m _ _ _ hm
    exact ⟨p0 ++ q, p0, q, Below.trod hW_ (hr t List.mem_cons_self).1 (hr t List.mem_cons_self).2 h0 hb lt0, hq, rfl⟩
  | [], _ :: _, _, _, _, h => h.elim
  | [], [], _ :: _, _, _, h => h.elim
  | _ :: _, [], _, _, _, h => h.elim
  | _ :: _, _ :: _, [], _, _, h => h.elim
set_option maxRecDepth 100000 in
theorem law_lift {H : Type} {enc : TypeId × Value → H} {os : Os} (started : os.Started) {f : FuncId} {fn : Func} {s : ChangeSpec}
    (noInit : Tryz.prog.inits.idxOf? f = none) (hfn : Tryz.prog.funcs[f]? = some fn) (hvars : s.vars = []) (hres : fn.resultTypes = #[4])
    (hparB : (fn.params.toList.all fun t => Tryz.prog.readableRec t && decide (t < Tryz.prog.types.size)) = true)
    (hspec : ∀ ds : List (DataW H), ds.length = fn.params.size → s.fn H (ds ++ []) = { results := [.lit (.bool true)], args := ds })
    (wit : ∃ (w : World) (tape : Tape) (i : Input), w.os = os ∧ (w.forCall tape i).Shaped Tryz.prog ∧ i.vars = [] ∧ Input.okWide Tryz.prog (w.forCall tape i) .any w.heap.size f i ∧
      s.pre6 enc Tryz.prog fn [] false (w.forCall tape i).memory i.args ∧ Assume.holds {} Tryz.prog (lone (Frame.enter Tryz.prog f i.args .normal) [] (w.forCall tape i)))
    (walk : ∀ (W : World) (base : Nat) (args : Array Value) (ds : List (DataW H)) (p : List MemPlace),
      (∀ (j : Nat) t v, fn.params[j]? = some t → args[j]? = some v → Value.okWide Tryz.prog W .any base t v) →
      DataW.TrodAll enc Tryz.prog W 0 (fun _ => true) true fn.params.toList args.toList ds p →
      (DataW.weightsEach Tryz.prog fn.params.toList ds).all (· ≤ reachBytes) = true →
      Calls Tryz.prog f args W fun e W' => e = .returned (.bool true) ∧ Ext [] W W') :
    ReturnsInHanded {} Tryz.checked os f .any (s.pre6 enc Tryz.prog fn [] false) (s.post enc Tryz.prog fn false true false false) := by
  have hpar : ∀ t ∈ fn.params.toList, Tryz.prog.readableRec t = true ∧ t < Tryz.prog.types.size := by
    simpa only [List.all_eq_true, Bool.and_eq_true, decide_eq_true_eq] using hparB
  refine returnsInHanded_of_change_sized (C := Tryz.checked) law_own started noInit hfn wit ?_
  intro W base args ds gs before hval0 hW hcnd hsz _
  have hval : ∀ (j : Nat) t v, fn.params[j]? = some t → args[j]? = some v → Value.okWide Tryz.prog W .any base t v := hval0
  have hW' := hW
  obtain ⟨p, q, hA0, hV, rfl, hfz, hnd⟩ := hW
  have hA : DataW.TrodAll enc Tryz.prog W 0 (fun _ => true) true fn.params.toList args.toList ds p := hA0
  rw [hvars] at hV
  obtain ⟨rfl, rfl⟩ := trodVars_none hV
  have hsz' : (DataW.weightsEach Tryz.prog fn.params.toList ds).all (· ≤ reachBytes) = true := by
    have h2 := hsz
    simp only [ChangeSpec.plain, DataSpec.varTypes, hvars, List.filterMap_nil, List.append_nil] at h2
    exact h2
  refine (walk W base args ds p hval hA hsz').mono fun e W' ⟨he, bel⟩ => ?_
  subst he
  have hlen : ds.length = fn.params.size := by
    have : ∀ (ts : List TypeId) (vs : List Value) (ds : List (DataW H)) (p : List MemPlace), DataW.TrodAll enc Tryz.prog W 0 (fun _ => true) true ts vs ds p → ds.length = ts.length := by
      intro ts
      induction ts with
      | nil => intro vs ds p h; cases vs <;> cases ds <;> first | rfl | exact h.elim
      | cons t ts ih =>
        intro vs ds p h
        cases vs with
        | nil => exact h.elim
        | cons v vs =>
          cases ds with
          | nil => exact h.elim
          | cons d ds => obtain ⟨p0, q0, _, h1, _⟩ := h; simp [ih vs ds q0 h1]
    simpa using this _ _ _ _ hA
  obtain ⟨pa, hpa⟩ := dv_ (enc := enc) bel.below fn.params.toList args.toList ds p hpar hA
  refine ⟨_, rfl, ds, [], p ++ [], [], pa, [], hW', ?_, ?_, ?_, bel.below.frame _, fun h => by cases h⟩
  · rw [hspec ds hlen, hres]
    exact trodAll_mk1 (shut_bool Tryz.underlying4 _)
  · rw [hspec ds hlen]; exact hpa
  · rw [hspec ds hlen, hvars]; rfl
theorem km_ {w : World} {b o : Nat} {s : Option Nat} {v : Value} (h : w.cell? ⟨b, o, s⟩ = some v) : s = none := by
  have := World.cell?_spot h
  simpa using this
end Go.Proofs.YtggajaigfkekhaaGreat
namespace Go.Proofs.YtggajaigfkekhaaGreat
open Go.RowKit Go.ChangeShapes Go.WideShapes Go.ChangeAt
def leaves (P : Program) : Nat → TypeId → Option (List TypeId)
  | 0, _ => none
  | d + 1, t =>
    match P.underlying t with
    | some (.struct fs) => fs.toList.foldlM (fun acc f => (leaves P d f.type).bind fun l => if f.offset = acc.length ∧ l.length = P.cellsOf f.type then some (acc ++ l) else none) []
    | some (.array n e) => (leaves P d e).bind fun l => if l.length = P.cellsOf e then some (List.replicate n l).flatten else none
    | some _ => some [t]
    | none => none
section
variable {H : Type} {enc : TypeId × Value → H} {P : Program} {w : World} {base : Nat} {spare : Nat → Bool} {held : Bool}
def LeafAt (enc : TypeId × Value → H) (P : Program) (w : World) (base : Nat) (spare : Nat → Bool) (held : Bool) (u : TypeId) (v : Value) : Prop := ∃ n y, DataW.trod enc P w base spare held n u [v] = some y
theorem gi_ {d : Nat} {cs : List Value} {n : Nat}
    (ih : ∀ (t : TypeId) (ts : List TypeId) (fuel : Nat) (cs : List Value) (x : DataW H × List MemPlace), leaves P d t = some ts → ts.length = cs.length → DataW.trod enc P w base spare held fuel t cs = some x →
      ∀ (j : Nat) (v : Value) (u : TypeId), cs[j]? = some v → ts[j]? = some u → LeafAt enc P w base spare held u v) :
    ∀ (fs : List Field) (acc ts : List TypeId), (∀ f ∈ fs, ∃ y, DataW.trod enc P w base spare held n f.type ((cs.drop f.offset).take (P.cellsOf f.type)) = some y) →
      fs.foldlM (fun acc f => (leaves P d f.type).bind fun l => if f.offset = acc.length ∧ l.length = P.cellsOf f.type then some (acc ++ l) else none) acc = some ts →
      ts.length ≤ cs.length →
      (∀ (j : Nat) (v : Value) (u : TypeId), cs[j]? = some v → acc[j]? = some u → LeafAt enc P w base spare held u v) →
      (∀ (j : Nat) (v : Value) (u : TypeId), cs[j]? = some v → ts[j]? = some u → LeafAt enc P w base spare held u v) := by
  intro fs
  induction fs with
  | nil =>
    intro acc ts _ h _ ha
    simp at h
    subst h
    exact ha
  | cons f fs hfs =>
    intro acc ts hall h hlen ha
    simp only [List.foldlM_cons, Option.bind_eq_bind, Option.bind_eq_some_iff] at h
    obtain ⟨acc', ⟨l, hl, hif⟩, hrest⟩ := h
    split at hif
    · rename_i hc
      obtain ⟨ho, hlc⟩ := hc
      simp only [Option.some.injEq] at hif
      subst hif
      have hmono : ∀ (fs : List Field) (a b : List TypeId), fs.foldlM (fun acc f => (leaves P d f.type).bind fun l => if f.offset = acc.length ∧ l.length = P.cellsOf f.type then some (acc ++ l) else none) a = some b → a.length ≤ b.length := by
        intro fs
        induction fs with
        | nil => intro a b h; simp at h; subst h; exact Nat.le_refl _
        | cons f fs ih2 =>
          intro a b h
          simp only [List.foldlM_cons, Option.bind_eq_bind, Option.bind_eq_some_iff] at h
          obtain ⟨a', ⟨l, _, hif⟩, hr⟩ := h
          split at hif
          · simp only [Option.some.injEq] at hif
            subst hif
            have := ih2 _ _ hr
            simp at this
            omega
          · cases hif
      have hacc := hmono _ _ _ hrest
      refine hfs (acc ++ l) ts (fun g hg => hall g (List.mem_cons_of_mem _ hg)) hrest hlen ?_
      intro j v u hv hu
      rw [List.getElem?_append] at hu
      split at hu
      · exact ha j v u hv hu
      · rename_i hj
        obtain ⟨y, hy⟩ := hall f List.mem_cons_self
        rw [List.length_append] at hacc
        refine ih f.type l n _ y hl ?_ hy (j - acc.length) v u ?_ hu
        · rw [List.length_take, List.length_drop]; omega
        · have hjl : j - acc.length < l.length := (List.getElem?_eq_some_iff.1 hu).1
          rw [List.getElem?_take, if_pos (by omega), List.getElem?_drop, ho, show acc.length + (j - acc.length) = j by omega]
          exact hv
    · cases hif
theorem cc_ : ∀ (d : Nat) (t : TypeId) (ts : List TypeId) (fuel : Nat) (cs : List Value) (x : DataW H × List MemPlace), leaves P d t = some ts → ts.length = cs.length → DataW.trod enc P w base spare held fuel t cs = some x →
    ∀ (j : Nat) (v : Value) (u : TypeId), cs[j]? = some v → ts[j]? = some u → LeafAt enc P w base spare held u v := by
  intro d
  induction d with
  | zero => intro t ts fuel cs x h; simp [leaves] at h
  | succ d ih =>
    intro t ts fuel cs x h hlen ht
    unfold leaves at h
    split at h
    · rename_i fs hu
      obtain ⟨xs, n, _, _, hcl, hxl, hf⟩ := DataW.trod_struct hu ht
      refine gi_ (n := n) ih fs.toList [] ts ?_ h (by omega) (by simp)
      intro f hfm
      obtain ⟨i, hi, he⟩ := List.getElem_of_mem hfm
      have h1 := hf i f (by rw [← Array.getElem?_toList, List.getElem?_eq_getElem hi, he])
      have : i < xs.length := by rw [hxl]; simpa using hi
      exact ⟨xs[i], by rw [h1, List.getElem?_eq_getElem this]⟩
    · rename_i m e hu
      obtain ⟨xs, n, _, _, hcl, hxl, hf⟩ := DataW.trod_array hu ht
      simp only [Option.bind_eq_some_iff] at h
      obtain ⟨l, hl, hif⟩ := h
      split at hif
      · rename_i hc
        simp only [Option.some.injEq] at hif
        subst hif
        intro j v u hv hu'
        have hjl : j < (List.replicate m l).flatten.length := (List.getElem?_eq_some_iff.1 hu').1
        have hfl : ∀ k, (List.replicate k l).flatten.length = k * l.length := by
          intro k; simp
        rw [hfl] at hjl
        have hl0 : 0 < l.length := by
          rcases Nat.eq_zero_or_pos l.length with h0 | h0
          · rw [h0] at hjl; simp at hjl
          · exact h0
        have hi : j / l.length < m := by rw [Nat.div_lt_iff_lt_mul hl0]; exact hjl
        have hmod := Nat.mod_lt j hl0
        have hjd := Nat.div_add_mod j l.length
        have hget : ∀ (k j : Nat), j < k * l.length → (List.replicate k l).flatten[j]? = l[j % l.length]? := by
          intro k
          induction k with
          | zero => intro j hj; simp at hj
          | succ k ihk =>
            intro j hj
            rw [List.replicate_succ, List.flatten_cons, List.getElem?_append]
            split
            · rename_i h1; rw [Nat.mod_eq_of_lt h1]
            · rename_i h1
              rw [ihk (j - l.length) (by rw [Nat.succ_mul] at hj; omega)]
              rw [← Nat.mod_eq_sub_mod (show l.length ≤ j by omega)]
        rw [hget m j hjl] at hu'
        have h1 := hf (j / l.length) hi
        have hxi : j / l.length < xs.length := by omega
        rw [List.getElem?_eq_getElem hxi] at h1
        have hsz : (j / l.length) * P.cellsOf e + P.cellsOf e ≤ cs.length := by
          rw [← hlen, hfl, ← hc]
          calc (j / l.length) * l.length + l.length = (j / l.length + 1) * l.length := by rw [Nat.succ_mul]
            _ ≤ m * l.length := Nat.mul_le_mul_right _ hi
        refine ih e l n _ _ hl ?_ h1 (j % l.length) v u ?_ hu'
        · rw [List.length_take, List.length_drop]; omega
        · rw [List.getElem?_take, if_pos (by omega), List.getElem?_drop, ← hc, ← hv]
          congr 1
          rw [Nat.mul_comm]; exact hjd
      · cases hif
    · rename_i hu1 hu2 hs
      simp only [Option.some.injEq] at h
      subst h
      intro j v u hv hu'
      have hc1 : cs.length = 1 := by simpa using hlen.symm
      match cs, hc1 with
      | [c], _ =>
        match j with
        | 0 =>
          simp at hv hu'
          subst hv; subst hu'
          exact ⟨fuel, x, ht⟩
        | j + 1 => simp at hv
    · cases h
theorem LeafAt.int {u : TypeId} {v : Value} {k : IntKind} (h : LeafAt enc P w base spare held u v) (hu : P.underlying u = some (.int k)) : ∃ n, v = .int k n ∧ (Lit.int k n).wf = true := by
  obtain ⟨n, y, hy⟩ := h
  obtain ⟨m, h1, _, h2⟩ := DataW.trod_int hu hy
  simp at h1
  exact ⟨m, h1, h2⟩
theorem LeafAt.string {u : TypeId} {v : Value} (h : LeafAt enc P w base spare held u v) (hu : P.underlying u = some .string) : ∃ s, v = .string s ∧ s.size ≤ maxLen := by
  obtain ⟨n, y, hy⟩ := h
  obtain ⟨m, h1, _, h2⟩ := DataW.trod_string hu hy
  simp at h1
  exact ⟨m, h1, h2⟩
theorem LeafAt.bool {u : TypeId} {v : Value} (h : LeafAt enc P w base spare held u v) (hu : P.underlying u = some .bool) : ∃ b, v = .bool b := by
  obtain ⟨n, y, hy⟩ := h
  obtain ⟨m, h1, _⟩ := DataW.trod_bool hu hy
  simp at h1
  exact ⟨m, h1⟩
theorem h1_ {α : Type} {sz : Nat} (h0 : 0 < sz) : ∀ (xs : List (List α)), (∀ x ∈ xs, x.length = sz) → ∀ j, xs.flatten[j]? = (xs[j / sz]?).bind fun x => x[j % sz]? := by
  intro xs
  induction xs with
  | nil => intro _ j; simp
  | cons x xs ih =>
    intro hx j
    have hxl := hx x List.mem_cons_self
    rw [List.flatten_cons, List.getElem?_append]
    split
    · rename_i h1
      rw [Nat.div_eq_of_lt (by omega), Nat.mod_eq_of_lt (by omega)]
      simp
    · rename_i h1
      rw [ih (fun y hy => hx y (List.mem_cons_of_mem _ hy)), hxl]
      have h2 : j / sz = (j - sz) / sz + 1 := by
        rw [Nat.div_eq_sub_div h0 (by omega)]
      rw [h2, List.getElem?_cons_succ, ← Nat.mod_eq_sub_mod (show sz ≤ j by omega)]
theorem fx_ {α : Type} {sz : Nat} : ∀ (xs : List (List α)), (∀ x ∈ xs, x.length = sz) → xs.flatten.length = xs.length * sz := by
  intro xs
  induction xs with
  | nil => intro _; simp
  | cons x xs ih =>
    intro hx
    rw [List.flatten_cons, List.length_append, ih (fun y hy => hx y (List.mem_cons_of_mem _ hy)), hx x List.mem_cons_self, List.length_cons, Nat.succ_mul, Nat.add_comm]
theorem add_eq (b off : Nat) (j : Nat) : (⟨b, off, none⟩ : Addr).add j = ⟨b, off + j, none⟩ := by
  unfold Addr.add
  split
  · rename_i h0; subst h0; rfl
  · rfl
theorem open_row {t e : TypeId} {fuel : Nat} {A : Option Addr} {n c : Nat} {x : DataW H × List MemPlace} (ht : P.underlying t = some (.slice e)) (h : DataW.trod enc P w base spare held fuel t [.slice A n c] = some x) :
    n ≤ c ∧ c ≤ maxLen ∧ ∃ xs : List (List Value), xs.length = n ∧ (∀ cs ∈ xs, cs.length = P.cellsOf e ∧ ∃ m y, DataW.trod enc P w base spare held m e cs = some y) ∧ (xs.flatten ≠ [] → ∃ b off : Nat, A = some ⟨b, off, none⟩ ∧ ∀ j u, xs.flatten[j]? = some u → w.cell? ⟨b, off + j, none⟩ = some u) := by
  rcases Deep.open_slice ht h with ⟨hcs, _⟩ | ⟨a, len, cap, m, n', D, Pl, hcs, _, hl, hm, hmm, _, hi⟩
  · simp at hcs
    obtain ⟨rfl, rfl, rfl⟩ := hcs
    exact ⟨Nat.le_refl _, Nat.zero_le _, [], rfl, by simp, by simp⟩
  · simp at hcs
    obtain ⟨rfl, rfl, rfl⟩ := hcs
    have hnm : n ≤ m := by rw [hmm]; split <;> omega
    refine ⟨hl, hm, (List.range n).map fun i => ((w.cells? base (a.add (i * P.cellsOf e)) (P.cellsOf e)).getD []), by simp, ?_, ?_⟩
    · intro cs hcs
      simp only [List.mem_map, List.mem_range] at hcs
      obtain ⟨i, hin, rfl⟩ := hcs
      obtain ⟨cs', h1, h2⟩ := hi i (by omega)
      rw [h1]
      exact ⟨(World.cells?_some h1).2.1, n', _, h2⟩
    · intro hne
      have hall : ∀ y ∈ (List.range n).map (fun i => ((w.cells? base (a.add (i * P.cellsOf e)) (P.cellsOf e)).getD [])), y.length = P.cellsOf e := by
        intro y hy
        simp only [List.mem_map, List.mem_range] at hy
        obtain ⟨i, hin, rfl⟩ := hy
        obtain ⟨cs', h1, _⟩ := hi i (by omega)
        rw [h1]
        exact (World.cells?_some h1).2.1
      have hlen0 := fx_ _ hall
      have hpos : 0 < n * P.cellsOf e := by
        rcases Nat.eq_zero_or_pos (n * P.cellsOf e) with h0 | h0
        · exfalso
          apply hne
          apply List.eq_nil_of_length_eq_zero
          rw [hlen0]
          simpa using h0
        · exact h0
      have hsz : 0 < P.cellsOf e := Nat.pos_of_mul_pos_left hpos
      have hn0 : 0 < n := Nat.pos_of_mul_pos_right hpos
      obtain ⟨b, off, spot⟩ := a
      have hs : spot = none := by
        obtain ⟨cs', h1, _⟩ := hi 0 (by omega)
        obtain ⟨_, hl1, hc1⟩ := World.cells?_some h1
        have h2 := hc1 0 hsz
        have h3 : ((⟨b, off, spot⟩ : Addr).add (0 * P.cellsOf e)).add 0 = ⟨b, off, spot⟩ := by simp [Addr.add]
        rw [h3, List.getElem?_eq_getElem (by omega)] at h2
        exact km_ h2
      subst hs
      refine ⟨b, off, rfl, fun j u hu => ?_⟩
      rw [h1_ hsz _ hall] at hu
      simp only [Option.bind_eq_some_iff, List.getElem?_map, Option.map_eq_some_iff] at hu
      obtain ⟨y, ⟨i, hir, rfl⟩, hy⟩ := hu
      have hrl := List.getElem?_eq_some_iff.1 hir
      obtain ⟨hir1, hir2⟩ := hrl
      simp at hir1 hir2
      subst hir2
      obtain ⟨cs', h1, _⟩ := hi (j / P.cellsOf e) (by omega)
      rw [h1] at hy
      simp only [Option.getD_some] at hy
      obtain ⟨_, hl1, hc1⟩ := World.cells?_some h1
      have h2 := hc1 (j % P.cellsOf e) (Nat.mod_lt _ hsz)
      rw [add_eq, add_eq, hy] at h2
      have hjd := Nat.div_add_mod j (P.cellsOf e)
      rw [show off + j = off + j / P.cellsOf e * P.cellsOf e + j % P.cellsOf e by rw [Nat.mul_comm (j / P.cellsOf e)]; omega]
      exact h2
end
end Go.Proofs.YtggajaigfkekhaaGreat
namespace Go.Proofs.YtggajaigfkekhaaGreat
open Go.RowKit Go.ChangeShapes Go.WideShapes Go.ChangeAt
section
variable {H : Type} {enc : TypeId × Value → H} {w : World} {base : Nat} {spare : Nat → Bool} {held : Bool}
theorem kO_ (cs : List Value) (hl : cs.length = Tryz.prog.cellsOf 5) (h : ∃ m y, DataW.trod enc Tryz.prog w base spare held m 5 cs = some y) : ∃ c : UInt8, cs = [bc c] ∧ True := by
  obtain ⟨fuel, x, h⟩ := h
  rw [show Tryz.prog.cellsOf 5 = 1 by kernel_rfl] at hl
  have hlv : leaves Tryz.prog 4 5 = some [5] := by kernel_rfl
  have hh := cc_ 4 _ _ _ _ _ hlv (by simpa using hl.symm) h
  match cs, hl with
  | [v0], _ =>
    obtain ⟨n, rfl, b⟩ := (hh 0 v0 _ rfl rfl).int Tryz.underlying5
    simp only [Lit.wf, Bool.and_eq_true, decide_eq_true_eq] at b
    have b0 : (0 : Int) ≤ n := b.1
    have b1 : n ≤ (255 : Int) := b.2
    refine ⟨UInt8.ofNat n.toNat, ?_, trivial⟩
    have : ((UInt8.ofNat n.toNat).toNat : Int) = n := by simp; omega
    simp [bc]
    omega
theorem kM_ {t e : TypeId} {fuel : Nat} {A : Option Addr} {n c : Nat} {x : DataW H × List MemPlace} (ht : Tryz.prog.underlying t = some (.slice e)) (h : DataW.trod enc Tryz.prog w base spare held fuel t [.slice A n c] = some x) : A = none → c = 0 := by
  intro hA
  rcases Deep.open_slice ht h with ⟨hcs, _⟩ | ⟨a, len, cap, m, n', D, Pl, hcs, _⟩
  · simp at hcs
    exact hcs.2.2
  · simp at hcs
    rw [hA] at hcs
    simp at hcs
end
end Go.Proofs.YtggajaigfkekhaaGreat
namespace Go.Proofs.YtggajaigfkekhaaGreat.A
open Go.RowKit Go.ChangeShapes Go.WideShapes Go.ChangeAt
section
variable {H : Type} {enc : TypeId × Value → H} {w : World} {base : Nat} {spare : Nat → Bool} {held : Bool}
theorem wfIn {a : Int} (h : (Lit.int .i64 a).wf = true) : InR .i64 a := by
  have := bounds_i64 h
  simp only [InR, lo, hi]
  omega
theorem g5_ {α : Type} {abs : α → List Abs} {Ok : α → Prop} {s : Nat} : ∀ {ys : List (List Value)}, (∀ cs ∈ ys, cs.length = s ∧ ∃ a, reps [] w (abs a) cs ∧ Ok a) → ∃ xs : List α, repss [] w s (xs.map abs) ys.flatten ∧ xs.length = ys.length ∧ ∀ a ∈ xs, Ok a
  | [], _ => ⟨[], rfl, rfl, by simp⟩
  | cs :: ys, h => by
    obtain ⟨h1, a, h2, h3⟩ := h cs List.mem_cons_self
    obtain ⟨xs, h4, h5, h6⟩ := g5_ (ys := ys) fun c hc => h c (List.mem_cons_of_mem _ hc)
    exact ⟨a :: xs, ⟨cs, _, rfl, h1, h2, h4⟩, by simp [h5], by simpa using ⟨h3, h6⟩⟩
theorem open_slA {α : Type} {abs : α → List Abs} {Ok : α → Prop} {t e : TypeId} {s : Nat} {v : Value} (ht : Tryz.prog.underlying t = some (.slice e)) (hs : Tryz.prog.cellsOf e = s) (h : LeafAt enc Tryz.prog w base spare held t v)
    (hdec : ∀ cs, cs.length = Tryz.prog.cellsOf e → (∃ m y, DataW.trod enc Tryz.prog w base spare held m e cs = some y) → ∃ a, reps [] w (abs a) cs ∧ Ok a) :
    ∃ xs : List α, rep [] w (.sl s (xs.map abs)) v ∧ ∀ a ∈ xs, Ok a := by
  obtain ⟨fuel, x, h⟩ := h
  obtain ⟨A, n, c, rfl⟩ : ∃ A n c, v = .slice A n c := by
    rcases Deep.open_slice ht h with ⟨hcs, _⟩ | ⟨a, len, cap, m, n', D, Pl, hcs, _⟩
    · simp at hcs; exact ⟨_, _, _, hcs⟩
    · simp at hcs; exact ⟨_, _, _, hcs⟩
  obtain ⟨h1, h2, ys, h3, h4, h5⟩ := open_row ht h
  obtain ⟨xs, h6, h7, h8⟩ := g5_ (abs := abs) (Ok := Ok) (s := s) (w := w) (ys := ys) fun cs hc => ⟨by rw [← hs]; exact (h4 cs hc).1, hdec cs (h4 cs hc).1 (h4 cs hc).2⟩
  refine ⟨xs, ⟨ys.flatten, ⟨⟨A, c, ?_, ?_, h2, kM_ ht h⟩, fun hn => ?_⟩, h6⟩, h8⟩
  · rw [List.length_map, h7, h3]
  · rw [List.length_map, h7, h3]; exact h1
  · obtain ⟨b, off, rfl, hc⟩ := h5 hn
    exact ⟨b, off, _, _, rfl, by simp, hc⟩
theorem kL_ : ∀ {cs : List Value}, (∀ v ∈ cs, LeafAt enc Tryz.prog w base spare held 5 v) → ∃ d : List UInt8, cs = d.map bc
  | [], _ => ⟨[], rfl⟩
  | v :: cs, h => by
    obtain ⟨d, rfl⟩ := kL_ (cs := cs) fun x hx => h x (List.mem_cons_of_mem _ hx)
    obtain ⟨m, y, hy⟩ := h v List.mem_cons_self
    obtain ⟨c, hc, _⟩ := kO_ [v] (by rw [show Tryz.prog.cellsOf 5 = 1 by kernel_rfl]; rfl) ⟨m, y, hy⟩
    simp at hc
    exact ⟨c :: d, by rw [hc]; rfl⟩
theorem reps_dig {K : List Nat} (d : List UInt8) : reps K w (digA d) (d.map bc) := by
  have : digA d = (d.map bc).map .v := by simp [digA]
  rw [this]
  exact aO_.2 rfl
end
theorem _root_.Go.Proofs.YtggajaigfkekhaaGreat.IsRow.bytesA {K : List Nat} {w : World} {v : Value} {m : List UInt8} (h : IsRow K w v m.length (m.map bc)) : BytesV w v m := by
  obtain ⟨A, c, rfl, h1, h2, h3⟩ := h.shape
  refine ⟨A, c, rfl, h1, h2, h3, fun hn => ?_⟩
  obtain ⟨b, off, n', c', hv, _, hc⟩ := h.cells hn
  simp at hv
  obtain ⟨rfl, _, _⟩ := hv
  exact ⟨b, off, rfl, hc⟩
theorem dN_ {n : Nat} {W : Wd} {σ : Blks} {l : Slots} {X : List Nat} {x : Operand} {d : Option Nat} {ty : TypeId} {pos : String} {aft : Array Edge} {gq : Option (Nat × Bool)} {m : List UInt8} (hx : look l x = some (byt m)) : Val Tryz.prog n W σ l X ⟨d, .convert 27 9 x, ty, pos, aft, gq⟩ (.v (.string ⟨m.toArray⟩)) := fun a w hs hX => ⟨_, rfl, fun w' hw' => by
  have h1 := bj_.1 (hs.eval hx)
  have h2 := (Carry.of_ext hw' (K := mids σ ++ W.G) (K' := mids σ ++ W.G) (fun k hk => .inl (List.mem_append_left _ (hX k hk))) (fun k hk => .inl hk)).row h1
  have := hm_ h2.bytesA
  simp [execOp, this, Result.andThen]⟩
theorem law_of {f : FuncId} {args : List Abs} (h : Pure Tryz.prog f args (boo true)) {w : World} {vals : List Value} (hv : reps [] w args vals) : Calls Tryz.prog f vals.toArray w fun e w' => e = .returned (.bool true) ∧ Ext [] w w' := by
  have hm : Mem w (mids []) [] [] w := ⟨Ext.refl w, by simp [mids], by simp, by simp, by simp, by simp [mids], by simp⟩
  refine (h [] w vals hm hv).mono fun e w' ⟨z, r, he, _, h1, h2⟩ => ⟨?_, h1.ext⟩
  have h2 : r = .bool true := h2
  rw [he, h2]
end Go.Proofs.YtggajaigfkekhaaGreat.A
namespace Go.Proofs.YtggajaigfkekhaaGreat.A
open Go.RowKit Go.ChangeShapes Go.WideShapes Go.ChangeAt
section
variable {H : Type} {enc : TypeId × Value → H} {w : World} {base : Nat} {spare : Nat → Bool} {held : Bool}
theorem h3_ : leaves Tryz.prog 4 82 = some [3, 2, 3, 9, 2, 2, 9, 80] := by kernel_rfl
theorem kN_ (cs : List Value) (hl : cs.length = Tryz.prog.cellsOf 82) (h : ∃ m y, DataW.trod enc Tryz.prog w base spare held m 82 cs = some y) : ∃ e : Ent, reps [] w (e.cells.map .v) cs ∧ e.Lits := by
  obtain ⟨fuel, x, h⟩ := h
  rw [show Tryz.prog.cellsOf 82 = 8 by kernel_rfl] at hl
  have hh := cc_ 4 _ _ _ _ _ h3_ (by simpa using hl.symm) h
  match cs, hl with
  | [v0, v1, v2, v3, v4, v5, v6, v7], _ =>
    obtain ⟨n0, rfl, b0⟩ := (hh 0 v0 _ rfl rfl).int Tryz.underlying3
    obtain ⟨n1, rfl, b1⟩ := (hh 1 v1 _ rfl rfl).int Tryz.underlying2
    obtain ⟨n2, rfl, b2⟩ := (hh 2 v2 _ rfl rfl).int Tryz.underlying3
    obtain ⟨s3, rfl, b3⟩ := (hh 3 v3 _ rfl rfl).string Tryz.underlying9
    obtain ⟨n4, rfl, b4⟩ := (hh 4 v4 _ rfl rfl).int Tryz.underlying2
    obtain ⟨n5, rfl, b5⟩ := (hh 5 v5 _ rfl rfl).int Tryz.underlying2
    obtain ⟨s6, rfl, b6⟩ := (hh 6 v6 _ rfl rfl).string Tryz.underlying9
    obtain ⟨n7, rfl, b7⟩ := (hh 7 v7 _ rfl rfl).int Tryz.underlying80
    simp only [Lit.wf, Bool.and_eq_true, decide_eq_true_eq] at b7
    have c0 : (0 : Int) ≤ n7 := b7.1
    have c1 : n7 ≤ (4294967295 : Int) := b7.2
    obtain ⟨m, rfl⟩ : ∃ m : Nat, n7 = m := ⟨n7.toNat, by omega⟩
    exact ⟨⟨⟨n0, n1, n2, s3, n4, n5, s6⟩, m⟩, aO_.2 rfl, ⟨wfIn b0, wfIn b1, wfIn b2, wfIn b4, wfIn b5, b3, b6, by show m < 4294967296; omega⟩⟩
theorem jK_ {v : Value} (h : LeafAt enc Tryz.prog w base spare held 75 v) : ∃ es : List Ent, rep [] w (entsA es) v ∧ ∀ e ∈ es, e.Lits :=
  open_slA (abs := fun e : Ent => e.cells.map .v) (Ok := Ent.Lits) Tryz.underlying75 (by kernel_rfl) h kN_
end
end Go.Proofs.YtggajaigfkekhaaGreat.A
namespace Go.Proofs.YtggajaigfkekhaaGreat.A
open Go.RowKit Go.ChangeShapes Go.WideShapes Go.ChangeAt
section
variable {H : Type} {enc : TypeId × Value → H} {w : World} {base : Nat} {spare : Nat → Bool} {held : Bool}
theorem jH_ : leaves Tryz.prog 4 59 = some (2 :: List.replicate 32 5) := by kernel_rfl
theorem open_pnt (cs : List Value) (hl : cs.length = Tryz.prog.cellsOf 59) (h : ∃ m y, DataW.trod enc Tryz.prog w base spare held m 59 cs = some y) : ∃ p : Pnt, reps [] w p.abs cs ∧ InR .i64 p.seq := by
  obtain ⟨fuel, x, h⟩ := h
  rw [show Tryz.prog.cellsOf 59 = 33 by kernel_rfl] at hl
  have hh := cc_ 4 _ _ _ _ _ jH_ (by simpa using hl.symm) h
  match cs, hl with
  | v0 :: cs, hl =>
    obtain ⟨n0, rfl, b0⟩ := (hh 0 v0 _ rfl rfl).int Tryz.underlying2
    have hl2 : cs.length = 32 := by simpa using hl
    obtain ⟨d, rfl⟩ := kL_ (cs := cs) fun v hv => by
      obtain ⟨j, hj, rfl⟩ := List.getElem_of_mem hv
      exact hh (j + 1) cs[j] _ (by rw [List.getElem?_cons_succ, List.getElem?_eq_getElem hj]) (by rw [List.getElem?_cons_succ, List.getElem?_replicate, if_pos (by omega)])
    exact ⟨⟨n0, d, by simpa using hl2⟩, ⟨_, _, rfl, rfl, reps_dig d⟩, wfIn b0⟩
theorem jG_ : leaves Tryz.prog 4 77 = some [2, 2, 75] := by kernel_rfl
theorem open_prf (cs : List Value) (hl : cs.length = Tryz.prog.cellsOf 77) (h : ∃ m y, DataW.trod enc Tryz.prog w base spare held m 77 cs = some y) : ∃ p : Prf, reps [] w p.abs cs ∧ p.Lits := by
  obtain ⟨fuel, x, h⟩ := h
  rw [show Tryz.prog.cellsOf 77 = 3 by kernel_rfl] at hl
  have hh := cc_ 4 _ _ _ _ _ jG_ (by simpa using hl.symm) h
  match cs, hl with
  | [v0, v1, v2], _ =>
    obtain ⟨n0, rfl, b0⟩ := (hh 0 v0 _ rfl rfl).int Tryz.underlying2
    obtain ⟨n1, rfl, b1⟩ := (hh 1 v1 _ rfl rfl).int Tryz.underlying2
    obtain ⟨es, he, hs⟩ := jK_ (hh 2 v2 _ rfl rfl)
    exact ⟨⟨n0, n1, es⟩, ⟨_, _, rfl, rfl, _, _, rfl, rfl, _, _, rfl, he, rfl⟩, ⟨wfIn b0, wfIn b1, hs⟩⟩
end
theorem f3_ {α : Type} {Q : α → Prop} {xs : List α} {k : Nat} (h : ∀ a ∈ xs.take k, Q a) (hk : k < xs.length) (h1 : Q xs[k]) : ∀ a ∈ xs.take (k + 1), Q a := by
  intro a ha
  rw [List.take_succ_eq_append_getElem hk] at ha
  rcases List.mem_append.1 ha with ha | ha
  · exact h a ha
  · rw [List.mem_singleton.1 ha]; exact h1
theorem gM_ {α : Type} {Q : α → Prop} {xs : List α} {k : Nat} (h : ∀ a ∈ xs.take k, Q a) (hk : xs.length ≤ k) : ∀ a ∈ xs, Q a := by
  rw [List.take_of_length_le hk] at h
  exact h
def EFew (e : Ent) : Prop := e.core.letter.size ≤ 100 ∧ e.core.text.size ≤ 300
def PFew (p : Prf) : Prop := p.batch.length ≤ 10 ∧ ∀ e ∈ p.batch, EFew e
def RFew (ps : List Prf) : Prop := ps.length ≤ 80 ∧ ∀ p ∈ ps, PFew p
def Chg.Asked (c : Chg) : Prop := RFew c.prepared ∧ RFew c.proposed ∧ c.points.length ≤ 20
def Chg.rows (c : Chg) : List (List Prf) := [c.prepared, c.proposed]
theorem hP_ (c : Chg) : c.rows.length = 2 := rfl
theorem EFew.bytes {e : Ent} (h : EFew e) : e.bytes.length ≤ 439 := by
  have := Ent.bytes_length e
  have h1 := h.1
  have h2 := h.2
  omega
theorem dp_ {α : Type} {f : α → List UInt8} {B : Nat} : ∀ {xs : List α}, (∀ x ∈ xs, (f x).length ≤ B) → (xs.flatMap f).length ≤ xs.length * B
  | [], _ => by simp
  | x :: xs, h => by
    have h1 := dp_ (xs := xs) fun y hy => h y (List.mem_cons_of_mem _ hy)
    have h2 := h x List.mem_cons_self
    rw [List.flatMap_cons, List.length_append, List.length_cons, Nat.succ_mul]
    omega
theorem PFew.bytes {p : Prf} (h : PFew p) : p.bytes.length ≤ 4412 := by
  have h1 := dp_ (f := Ent.bytes) (B := 439) (xs := p.batch) fun e he => (h.2 e he).bytes
  have h2 := h.1
  have h3 : p.batch.length * 439 ≤ 10 * 439 := Nat.mul_le_mul_right _ h2
  have h4 := aC_ [p.seq, p.view]
  simp only [List.length_cons, List.length_nil] at h4
  unfold Prf.bytes rowB batchB
  simp only [List.length_append, v_]
  omega
theorem RFew.bytes {ps : List Prf} (h : RFew ps) : (prfsB ps).length ≤ 352962 := by
  have h1 := dp_ (f := Prf.bytes) (B := 4412) (xs := ps) fun e he => (h.2 e he).bytes
  have h3 : ps.length * 4412 ≤ 80 * 4412 := Nat.mul_le_mul_right _ h.1
  unfold prfsB
  rw [List.length_append, v_]
  omega
theorem Chg.Asked.bytes {c : Chg} (h : c.Asked) : c.bytes.length ≤ 800000 := by
  have h1 := h.1.bytes
  have h2 := h.2.1.bytes
  have h3 := h.2.2
  have h4 : (c.points.take c.points.length).length ≤ 20 := by rw [List.length_take]; omega
  unfold Chg.bytes Chg.head
  simp only [List.length_append, aC_, v_, fb_, List.length_cons, List.length_nil]
  omega
theorem RFew.few {ps : List Prf} (h : RFew ps) (hs : ∀ p ∈ ps, p.Lits) : ∀ p ∈ ps, p.Few := fun p hp =>
  ⟨(h.2 p hp).1, fun e he => by
    have h1 := (h.2 p hp).2 e he
    exact ⟨((hs p hp).all e he).mask, by have := h1.1; omega, by have := h1.2; omega⟩⟩
theorem Chg.Asked.few {c : Chg} (h : c.Asked) (hs : c.Lits) : c.Few :=
  ⟨by have := h.2.2; omega, by have := h.1.1; omega, by have := h.2.1.1; omega, h.1.few hs.prep, h.2.1.few hs.prop⟩
theorem RFew.long {ps : List Prf} (h : RFew ps) : Long ps := ⟨by have := h.1; omega, fun p hp => by have := (h.2 p hp).1; omega⟩
theorem RFew.lets {ps : List Prf} (h : RFew ps) : Lets ps := fun p hp e he => by
  have := ((h.2 p hp).2 e he).1
  unfold lots
  omega
structure Chg.Sized (c : Chg) : Prop where
  pts : c.points.length < 9223372036854775807
  prep : Long c.prepared
  prop : Long c.proposed
structure Chg.Fit (c : Chg) : Prop extends c.Sized where
  lprep : Lets c.prepared
  lprop : Lets c.proposed
theorem Chg.Asked.sized {c : Chg} (h : c.Asked) : c.Sized := ⟨by have := h.2.2; omega, h.1.long, h.2.1.long⟩
theorem Chg.Asked.fit {c : Chg} (h : c.Asked) : c.Fit := ⟨h.sized, h.1.lets, h.2.1.lets⟩
section
variable {c : Chg}
set_option maxHeartbeats 2000000 in
def p0 : Pnt := ⟨0, List.replicate 32 0, by simp⟩
def c0 : Chg := ⟨1, 0, [p0], [], []⟩
def c1 : Chg := ⟨1, 0, [p0], [⟨9, 0, []⟩], []⟩
theorem dz_ {α : Type} {p : α → α → Bool} : Rises p [] := fun j h => by simp at h
theorem c0_right : c0.Right 4 := by
  refine ⟨by simp [c0], by simp [c0], ?_, ⟨by simp [c0], by simp [c0], ?_, ?_, fun j h => ?_⟩, ⟨by simp [c0], dz_, by simp [c0]⟩, ⟨by simp [c0], dz_, by simp [c0]⟩⟩
  · simp [isMark, isSeq, c0]
  · intro p hp
    have : p0 = p := by simpa [c0] using hp
    subst this
    rfl
  · intro p hp
    have : p = p0 := by simpa [c0] using hp
    subst this
    simp [isMark, isSeq, p0]
  · exfalso
    simp [c0] at h
end
section
variable {c : Chg} {n : Int} {l : List UInt8}
structure Chg.Read (c : Chg) : Prop where
  pts : c.points.length < 9223372036854775807
  prep : Long c.prepared
  prop : Long c.proposed
  lits : c.Lits
end
def isOwn (σ : Blks) (e : TypeId) (s : Nat) (v : Value) (xs : List (List Abs)) : Prop := own e s v xs ∈ σ ∨ It.rdpc (ownPc e s v xs) ∈ σ
def eptr : Value → Nat → Value
  | .slice (some ⟨b, off, _⟩) _ _, o => .pointer (some ⟨b, off + o, none⟩)
  | v, _ => v
section
variable {P : Program} {n : Nat} {W : Wd} {σ τ : Blks} {l : Slots} {X : List Nat} {x y z : Operand} {d : Option Nat} {ty t e e' : TypeId} {pos : String} {aft : Array Edge} {g : Option (Nat × Bool)} {v : Value} {k : IntKind} {A : Abs} {tab : List (Nat × TI)} {xs : List (List Abs)} {s q : Nat} {cs : List Abs}
theorem Mem.ownR {w0 w : World} {F G : List Nat} (h : Mem w0 F G σ w) (hb : isOwn σ e s v xs) : ∃ us, IsRow [] w v xs.length us ∧ repss (mids σ ++ G) w s xs us := by
  have hp : (ownPc e s v xs).p (mids σ ++ G) w := by
    rcases hb with hb | hb
    · exact h.hold _ hb
    · exact h.hold _ hb
  obtain ⟨us, h1, h2⟩ := hp
  exact ⟨us, ownsRow.isRow h1 (by simp), h2⟩
theorem ft_ {m : Nat} (hx : look l x = some (.v v)) (hb : isOwn σ e' s v xs) (ht : P.underlying t = some (.slice e)) (hm : xs.length = m) : Val P n W σ l X ⟨d, .call { callee := .builtin .len, args := #[x], argTypes := #[t] }, ty, pos, aft, g⟩ (.v (.int .i64 m)) := aT_ fun a w hs _ => by
  subst hm
  obtain ⟨us, h1, _⟩ := hs.mem.ownR hb
  obtain ⟨A', c, h2, _⟩ := h1.shape
  exact ⟨_, rfl, fun w' _ => Proofs.YtggajaigfkekhaaGreat.z_ (by rw [hs.at2 hx, hs.plain hx, h2]) ht⟩
theorem kK_ {w : World} {us : List Value} (hr : IsRow [] w v xs.length us) (hp : repss (mids σ ++ W.G) w s xs us) (hpos : 0 < s) (hq : xs[q]? = some cs) : ∃ b off c, v = .slice (some ⟨b, off, none⟩) xs.length c ∧ b < w.heap.size ∧ ∃ vs : List Value, vs.length = s ∧ reps (mids σ ++ W.G) w cs vs ∧ ∀ j u, vs[j]? = some u → w.cell? ⟨b, off + q * s + j, none⟩ = some u := by
  obtain ⟨vs, h3, h4, h5⟩ := e4_ hp hq
  have hlt : q < xs.length := (List.getElem?_eq_some_iff.1 hq).1
  have hlen := a5_ hp
  have hne : us ≠ [] := by
    rintro rfl
    have : xs.length * s = 0 := by simpa using hlen.symm
    rcases Nat.mul_eq_zero.1 this with h | h <;> omega
  obtain ⟨A', c, hsh, h6, h7, h8⟩ := hr.shape
  obtain ⟨b, off, n', c', hv, hb, hc⟩ := hr.cells hne
  have hv2 := hv
  rw [hsh] at hv2
  simp at hv2
  obtain ⟨rfl, rfl, rfl⟩ := hv2
  have hcell : ∀ j u, vs[j]? = some u → w.cell? ⟨b, off + q * s + j, none⟩ = some u := fun j u hu => by rw [Nat.add_assoc]; exact hc _ u (h5 j u hu)
  have hbl : b < w.heap.size := by
    cases vs with
    | nil => simp at h3; omega
    | cons u vs => exact block_lt_of_cell (hcell 0 u rfl)
  exact ⟨b, off, _, hsh, hbl, vs, h3, h4, hcell⟩
theorem bB_ (hT : TabOk P tab) {j : TI} (hu : P.underlying t = some (.slice e)) (hj : ti tab e = some j) (hx : look l x = some (.v v)) (hb : isOwn σ e' s v xs) {r : Int} (hy : look l y = some (.v (.int k r))) (hr : r = (q : Nat)) (hq : q < xs.length) (hsz : Nat.beq s j.size = true) (hpos : Nat.blt 0 s = true) :
    Val P n W σ l X ⟨d, .indexAddr t x y, ty, pos, aft, g⟩ (.v (eptr v (q * s))) := aT_ fun a w hs hX => by
  subst hr
  have hsz := Nat.eq_of_beq_eq_true hsz
  have hpos : 0 < s := by simpa [Nat.blt_eq] using hpos
  obtain ⟨us, h1, h2⟩ := hs.mem.ownR hb
  obtain ⟨b, off, c, hv, _⟩ := kK_ h1 h2 hpos (List.getElem?_eq_getElem hq)
  refine ⟨_, rfl, fun w' _ => ?_⟩
  rw [hv]
  show Proofs.YtggajaigfkekhaaGreat.Val _ _ _ _ _ (.pointer (some ⟨b, off + q * s, none⟩))
  rw [hsz]
  exact Proofs.YtggajaigfkekhaaGreat.aD_ hT hu hj (by rw [hs.at2 hx, hs.plain hx, hv]) (by rw [hs.at2 hy, hs.plain hy]) hq
theorem bW_ (hT : TabOk P tab) {sz : Nat} {zs : List Value} (ht : ti tab t = some ⟨sz, .one, zs⟩) (hx : look l x = some (.v (eptr v (q * s)))) (hb : isOwn σ e' s v xs) (hpos : Nat.blt 0 s = true) (hq : xs[q]? = some cs) (hv : cs[0]? = some A) : Val P n W σ l [] ⟨d, .load t x, ty, pos, aft, g⟩ A := aT_ fun a w hs hX => by
  have hpos : 0 < s := by simpa [Nat.blt_eq] using hpos
  obtain ⟨us, h1, h2⟩ := hs.mem.ownR hb
  obtain ⟨b, off, c, hvv, hbl, vs, h3, h4, h5⟩ := kK_ h1 h2 hpos hq
  obtain ⟨u, h6, h7⟩ := ce_ h4 hv
  refine ⟨u, h7, fun w' hw' => Proofs.YtggajaigfkekhaaGreat.ec_ (b := b) (o := off + q * s) hT ht (by rw [hs.at2 hx, hs.plain hx, hvv]; rfl) fun w1 e => by subst e; exact d5_ hw' (by simp) (h5 0 u h6)⟩
theorem aW_ {ι : Type} {σ1 : Blks} {τ' : ι → Blks} {K : Blks → ι → Prop} (α : Blks) {β : Blks} (hσ : σ = α ++ (σ1 ++ β)) (hr : ∀ x ∈ σ1, x.rids = []) (k : ∀ z, K (α ++ (τ' z ++ β)) z) : After σ σ1 τ' K := by
  subst hσ
  refine ⟨α ++ β, ⟨?_, fun x hx => .inl ⟨by simp [hx], hr x hx⟩, fun x hx => ?_⟩, fun z => ⟨_, ?_, k z⟩⟩
  · simp only [ab_]
    exact List.perm_append_comm_assoc _ _ _
  · rcases List.mem_append.1 hx with h | h <;> simp [h]
  · exact List.perm_append_comm_assoc _ _ _
end
theorem ed_ {P : Program} {n : Nat} {W : Wd} {σ : Blks} {l : Slots} {Q : Exit → Act → World → Prop} {x y : Code} {ι : Type} (H : ι → Blks) (L : ι → Slots) (Φ : ι → Prop) (h : SC P x (St n W σ l) (Exit.then (fun a w => ∃ z, Head n W H L Φ z a w) Q)) (k : ∀ z, Φ z → SC P y (St n W (H z) (L z)) Q) : SC P (.seq x y) (St n W σ l) Q := lO_ H L Φ h k
theorem gB_ {P : Program} {n : Nat} {W : Wd} {σ : Blks} {l : Slots} {X : List Nat} {x y : Operand} {d : Option Nat} {ty t t' : TypeId} {pos : String} {aft : Array Edge} {gq : Option (Nat × Bool)} {k : IntKind} {a b : Int} (hx : look l x = some (.v (.int k a))) (hy : look l y = some (.v (.int k b))) :
    Val P n W σ l X ⟨d, .call { callee := .builtin .max, args := #[x, y], argTypes := #[t, t'] }, ty, pos, aft, gq⟩ (.v (.int k (max a b))) := fun ac w hs _ => ⟨_, rfl, fun w' _ => by
  have hm : (if a < b then b else a) = max a b := by omega
  simp [execOp, resolve, invoke, builtin, Builtin.max_, Builtin.max2, hs.plain hx, hs.plain hy, List.foldlM, hm]⟩
structure Sgn where
  who : Int
  chg : Chg
def Sgn.abs (s : Sgn) : List Abs := int s.who :: s.chg.abs
abbrev sgnsA (l : List Sgn) : Abs := .sl 6 (l.map Sgn.abs)
def SgnsOk (view n : Int) (l : List Sgn) : Prop := Rises (fun a b : Sgn => decide (a.who < b.who)) l ∧ ∀ s ∈ l, 0 ≤ s.who ∧ s.who < n ∧ s.chg.view = view ∧ s.chg.Right n
noncomputable def chkV (view : Int) (l : List Sgn) (n : Int) : Int :=
  if n < 1 ∨ 7 < n then 1 else if n < l.length then 4 else if (l.length : Int) < 2 * ((n - 1) / 3) + 1 then 16 else bif yes (SgnsOk view n l) then 0 else 2
structure Sgn.Lits (s : Sgn) : Prop where
  who : InR .i64 s.who
  chg : s.chg.Lits
section
variable {n : Int}
theorem dF_ (hn : n ≤ 1000) : Spec Tryz.prog 47 [int n] [] (fun _ : Unit => []) (fun _ => int ((max n 1 - 1) / 3)) := by
 refine G_ Tryz.func47 rfl Tryz.ntmps47 rfl fun G w =>d_<|a_<|q_ 1 rfl<|g_<|c_<|d_<|a_<|q_ 1 rfl<|b_ (gB_ rfl rfl) rfl rfl<|b_ (bf_ rfl rfl (by simp only [InR, lo, hi]; omega)) rfl rfl ?_
 refine b_ (jv_ rfl rfl (by omega) (by simp only [InR, lo, hi]; omega)) rfl rfl ?_
 exact q_ 1 rfl<|g_<|c_<|n_<|f_ (rs := [.tmp 2]) rfl (RV.tmp rfl RV.nil) (()) sn_<|rfl
theorem f9_ (hn : n ≤ 1000) : Spec Tryz.prog 48 [int n] [] (fun _ : Unit => []) (fun _ => int (2 * ((max n 1 - 1) / 3) + 1)) := by
 refine G_ Tryz.func48 rfl Tryz.ntmps48 rfl fun G w =>d_<|a_<|q_ 1 rfl<|g_<|c_<|d_<|a_<|q_ 1 rfl<|u_ (dF_ hn) Casts.refl (by kernel_rfl) rfl rfl rfl ?_
 refine ap_<|fun _=>b_ (b3_ rfl rfl (by simp only [InR, lo, hi]; omega)) rfl rfl ?_
 refine b_ (s_ rfl rfl (by simp only [InR, lo, hi]; omega)) rfl rfl ?_
 exact q_ 1 rfl<|g_<|c_<|n_<|f_ (rs := [.tmp 2]) rfl (RV.tmp rfl RV.nil) (()) sn_<|rfl
theorem bS_ (hn : n ≤ 300) : Spec Tryz.prog 57 [int n] [] (fun _ : Unit => []) (fun _ => int ((max n 1 - 1) / 3)) := by
 refine G_ Tryz.func57 rfl Tryz.ntmps57 rfl fun G w =>d_<|a_<|q_ 1 rfl<|g_<|c_<|d_<|a_<|q_ 1 rfl<|g_<|c_<|d_<|t_<|S_ (ι := Nat) (fun z => []) (fun z => [(0, int (n - 3 * (z : Int))), (3, int (z : Nat))]) (fun z => (z : Int) ≤ 100 ∧ (0 < z → 1 ≤ n - 3 * (z : Int))) (fun z => 100 - z) (0) (⟨by decide, by omega⟩) ⟨congrArg (fun q : Int => some (int q)) (by omega : n = n - 3 * ((0 : Nat) : Int)), rfl, trivial⟩ sn_ ?_
 intro z hz
 refine d_<|d_<|a_<|q_ 2 rfl<|g_<|c_<|r_ rfl ?_ ?_
 rotate_left
 ·intro hc5
  refine Q_<|i_ nofun<|i_ nofun<|P_<|c_<|d_<|a_<|q_ 2 rfl<|g_<|c_<|n_<|f_ (rs := [.tmp 2]) rfl (RV.tmp rfl RV.nil) (()) sn_<|congrArg int ?_
  omega
 intro hc5
 refine p_<|c_<|t_<|d_<|a_<|q_ 1 rfl<|b_ (bf_ rfl rfl (by simp only [InR, lo, hi]; omega)) rfl rfl ?_
 refine q_ 1 rfl<|g_<|c_<|d_<|a_<|q_ 1 rfl<|b_ (s_ rfl rfl (by simp only [InR, lo, hi]; omega)) rfl rfl ?_
 refine q_ 1 rfl<|g_<|c_<|d_<|a_<|q_ 2 rfl<|g_<|c_<|r_ rfl (by intro hc11; exfalso; omega) ?_
 intro hc11
 refine p_<|o_<|x_ (z + 1) (by omega) (⟨by omega, fun _ => by omega⟩) ⟨congrArg (fun q : Int => some (int q)) (by omega : n - 3 * (z : Int) - 3 = n - 3 * ((z + 1 : Nat) : Int)), rfl, trivial⟩ sn_
end
end Go.Proofs.YtggajaigfkekhaaGreat.A
