/-
  Packed out of the texts: AN18, AN19, AD3, A34, AN20, AN21, AN22.
-/
import Derived.Test.YtjclgkddfjbdiaaGreatDoorP010
import Derived.Sort.OwnSortedInts
set_option maxRecDepth 100000
set_option linter.unusedSimpArgs false
set_option linter.unusedVariables false
namespace Go.Proofs.YtjclgkddfjbdiaaGreatDoor.A
open Go.RowKit
theorem e4_ {st : Int} {t : Tg} {mk : Wo} {place : Nat → Option (Nat × Nat)} {Z : List Abs} (hZ : Z.length = 35) (h0 : place 0 = some (0, 1)) (h1 : place 1 = some (1, 1)) (h2 : place 2 = some (2, 32)) (h3 : place 3 = some (34, 1)) : fillA place Z [(0, int 4), (1, int st), (2, .agg t.abs), (3, u32 mk)] = some (voL st t mk) := by
  have hd := t.size
  match Z, hZ with
  | a :: b :: Z, hZ =>
    have hZ2 : Z.length = 33 := by simpa using hZ
    obtain ⟨y, hy⟩ : ∃ y, Z.drop 32 = [y] := List.length_eq_one_iff.1 (by rw [List.length_drop]; omega)
    have p1 : putL (a :: b :: Z) 0 [int 4] = int 4 :: b :: Z := rfl
    have p2 : putL (int 4 :: b :: Z) 1 [int st] = int 4 :: int st :: Z := rfl
    have p3 : putL (int 4 :: int st :: Z) 2 t.abs = int 4 :: int st :: (t.abs ++ [y]) := by
      rw [bW_ _ _ _ (by simp), hd]
      show [int 4, int st] ++ t.abs ++ Z.drop 32 = _
      rw [hy]
      simp
    have p4 : putL (int 4 :: int st :: (t.abs ++ [y])) 34 [u32 mk] = voL st t mk := by
      rw [bW_ _ _ _ (by simp [hd])]
      show int 4 :: int st :: ((t.abs ++ [y]).take 32) ++ [u32 mk] ++ (t.abs ++ [y]).drop 33 = _
      rw [List.take_append_of_le_length (by omega), List.take_of_length_le (by omega), List.drop_eq_nil_of_le (by simp [hd]), List.append_nil]
      rfl
    simp only [fillA, h0, h1, h2, h3, cellsA, u32, int, p1, p2, p3, hd, hZ2, List.length_cons, List.length_nil, List.length_append]
    exact congrArg some p4
structure RqZ where
  e : Int
  v : Value
  rows : List (List Abs)
  c : Core
  st : Int
  t : Tg
  ma : Wo
  okP : ParOk 4 rows
  okC : c.letter.size ≤ 1000 ∧ c.text.size ≤ 1000 ∧ c.client = 4
theorem c4_ok : core1.letter.size ≤ 1000 ∧ core1.text.size ≤ 1000 ∧ core1.client = 4 := ⟨by decide, by decide, rfl⟩
theorem p0_ok {n : Nat} : ParOk n [] := ⟨Nat.zero_le _, fun r h => by cases h⟩
def RqZ.no (e : Int) : RqZ := ⟨e, .slice none 0 0, [], core1, 0, ⟨List.replicate 32 0, rfl⟩, 0, p0_ok, c4_ok⟩
def rqT (p bd bt N me : Nat) (R : RI) (z : RqZ) : Blks := if z.e = 0 then [own 141 5 z.v z.rows, .blk R.r 118 (R.cells p me 0 (.v z.v)), .pc (tmPc R.pd intK intOk coE [(4, z.c)]), .blk R.x 179 [int 4, int 0, int 0, .v (.slice none 0 0), .v (.slice none 0 0), .v (.slice none 0 0)], .blk R.t 173 [int 32, int 0], .blk R.h 167 [bkI p, int 4, mapV R.hm, .v R.hv], .pc (tmPc R.hm intK intOk pE []), .blk R.vv 160 [int 4, mapV R.vm], .pc (tmPc R.vm paV paOk voE (vm1 (me : Int) z.st z.t z.ma)), .blk R.pp 157 [int ((4 : Nat) : Int), int (me : Nat), mapV R.om, .v R.pv], own 199 1 R.pv ((List.replicate 4 []).map fun l => [pntsA l]), .pc (tmPc R.om intK intOk Ow.enc [(0, R.ow)]), .blk R.lg 153 [int 4, int 0, mapV R.lm], .pc (tmPc R.lm intK intOk pE []), wb p bd bt (N + 6)] else [.blk R.r 118 (R.cells p me 0 (.v (.slice none 0 0))), wb p bd bt (N + 6)]
theorem cW_ {p bd bt N me : Nat} {R : RI} {z : RqZ} : ∀ x ∈ rqT p bd bt N me R z, x.rids = [] := by
  unfold rqT
  split
  · exact ar_ rfl
  · exact ar_ rfl
section
variable {p bd bt N me : Nat} {R : RI} {m : Msg}
set_option maxHeartbeats 8000000 in
theorem rreq_s (hm : MsOk m) (h4 : me < 4) (hN : N ≤ 80000) : Spec Tryz.prog 205 [ptr R.r, .agg m.abs] [.blk R.r 118 (R.cells p me 0 (.v (.slice none 0 0))), .pc (tmPc R.pd intK intOk coE []), .blk R.x 179 [int 4, int 0, int 0, .v (.slice none 0 0), .v (.slice none 0 0), .v (.slice none 0 0)], .blk R.t 173 [int 32, int 0], .blk R.h 167 [bkI p, int 4, mapV R.hm, .v R.hv], .pc (tmPc R.hm intK intOk pE []), .blk R.vv 160 [int 4, mapV R.vm], .pc (tmPc R.vm paV paOk voE []), .blk R.pp 157 [int ((4 : Nat) : Int), int (me : Nat), mapV R.om, .v R.pv], own 199 1 R.pv ((List.replicate 4 []).map fun l => [pntsA l]), .pc (tmPc R.om intK intOk Ow.enc [(0, R.ow)]), .blk R.lg 153 [int 4, int 0, mapV R.lm], .pc (tmPc R.lm intK intOk pE []), wb p bd bt N] (fun z : RqZ => rqT p bd bt N me R z) (fun z => int z.e) := by
 refine t_ Tryz.func205 rfl Tryz.ntmps205 rfl fun G w =>c_<|a_<|eb_ (z_ (cs := m.abs) rfl) rfl rfl fun b3=>?_
 refine q_ 1 rfl<|g_<|b_<|c_<|c_<|T_ [] (.q 0 (.q 1 (.q 2 (.q 3 (.q 4 (.q 5 (.q 6 (.q 7 (.q 8 (.q 9 (.q 10 (.q 11 (.q 12 (.q 13 (.q 14 (.q 15 (.q 16 .nil))))))))))))))))) (by kernel_rfl) (by kernel_rfl) ?_
 refine qs_ 1 rfl<|hx_ fun hx9 =>j_ rfl (i_ (C := int 4) (h_ tabOk rfl rfl l0_ List.not_mem_nil rfl) (congrArg int hm.2.1)) hx9 rfl rfl<|qs_ 3 rfl<|j_ rfl (i_ (C := int 4) (h_ tabOk rfl rfl l1_ List.not_mem_nil rfl) rfl) hx9 rfl rfl<|qs_ 2 rfl<|bd_ (t := 20) rfl (by intro hc20; exfalso; omega) ?_
 intro hc20
 refine qs_ 1 rfl<|j_ rfl (i_ (C := int 4) (h_ tabOk rfl rfl l0_ List.not_mem_nil rfl) (congrArg int hm.2.1)) hx9 rfl rfl<|qs_ 3 rfl<|j_ rfl (i_ (C := int 4) (h_ tabOk rfl rfl l1_ List.not_mem_nil rfl) rfl) hx9 rfl rfl<|j_ rfl (E_ rfl rfl (by simp only [InR, lo, hi]; omega)) (by simp) rfl rfl ?_
 refine qs_ 2 rfl<|C_<|b_<|n_ rfl (by intro hc29; exfalso; omega) ?_
 intro hc29
 refine s_<|b_<|c_<|c_<|aw_ (p := R.r ∉ [p, bd, bt] ∧ b3 ∉ [p, bd, bt]) (fun _ _ h => by
   have h1 := h.mem.nodup
   simp [mids, It.mids, ownPc, mapPc, tmPc, wbP, exP] at h1 ⊢
   grind) fun hX => ?_
 refine T_ [p, bd, bt] (.q 0 (.q 1 (.q 2 (.q 3 (.q 4 (.q 5 (.q 6 (.q 7 (.q 8 (.q 9 (.q 10 (.q 11 (.q 12 (.e 13 (.q 14 .nil))))))))))))))) (by kernel_rfl) (by kernel_rfl) ?_
 refine X_ (by (simp [mids, It.mids, ownPc, mapPc, tmPc, wbP, exP]; done)) fun hx9 => ?_
 refine qx_ 3 hx9 rfl<|j_ rfl (i_ (C := bkI p) (h_ tabOk rfl rfl l1_ (by exact hX.1) rfl) rfl) hx9 rfl rfl ?_
 refine j_ rfl (i_ (C := .agg m.abs) (y_ tabOk rfl rfl rfl l0_ (by exact hX.2) rfl) rfl) hx9 rfl rfl ?_
 refine qx_ 3 hx9 rfl<|j_ rfl (i_ (C := int (me : Nat)) (h_ tabOk rfl rfl l1_ (by exact hX.1) rfl) rfl) hx9 rfl rfl ?_
 refine qx_ 3 hx9 rfl<|j_ rfl (i_ (C := int (me : Nat)) (h_ tabOk rfl rfl l1_ (by exact hX.1) rfl) rfl) hx9 rfl rfl ?_
 refine H_ rfl (wvchk_s (p := p) (bd := bd) (bt := bt) (N := N) (m := m) (place := (me : Int)) (who := (me : Int)) hm.2.2.1 (by rw [hm.2.1]; unfold i64r; omega) (by unfold i64r; omega) (by omega)) (by simp [mids, It.mids, wbP, exP]) Casts.refl (by kernel_rfl) rfl rfl rfl ?_
 refine Q_ rfl (by repeat first|assumption|exact m0_|apply m1_) (fun _ => rfl) ?_
 intro z43
 refine ⟨_, (by repeat first|assumption|exact Upd.here|apply Upd.there), ?_⟩
 refine X_ (by (simp [mids, It.mids, ownPc, mapPc, tmPc, wbP, exP]; done)) fun hx9 => ?_
 refine qx_ 1 hx9 rfl<|C_<|b_<|c_<|a_<|q_ 2 rfl<|g_<|b_<|n_ rfl ?_ ?_
 ·intro hc45
  refine c_<|a_<|q_ 2 rfl<|g_<|b_<|o_<|k_ nofun<|da_ [_, _, _, _, _, _, _, _, _, _, _, _, _, _] (Re.wbUp (N := N) (M := N + 6) (by omega)) rfl ?_
  refine eZ_ (rs := [.tmp 4]) rfl (RV.tmp rfl RV.nil) (RqZ.no z43) (by show (rqT p bd bt N me R (RqZ.no _)).Sublist _; unfold rqT; rw [if_neg (by exact hc45)]; repeat (first | exact List.nil_sublist _ | exact List.Sublist.refl _ | apply List.Sublist.cons_cons | apply List.Sublist.cons)) cW_ ?_
  exact rfl
 intro hc45
 refine s_<|b_<|cj_ (ι := Nat × {q : Rq // RqOk q} × Int) (fun y => [.blk y.1 134 y.2.1.1.abs, .blk b3 42 m.abs, .blk R.r 118 (R.cells p me 0 (.v (.slice none 0 0))), .pc (tmPc R.pd intK intOk coE []), .blk R.x 179 [int 4, int 0, int 0, .v (.slice none 0 0), .v (.slice none 0 0), .v (.slice none 0 0)], .blk R.t 173 [int 32, int 0], .blk R.h 167 [bkI p, int 4, mapV R.hm, .v R.hv], .pc (tmPc R.hm intK intOk pE []), .blk R.vv 160 [int 4, mapV R.vm], .pc (tmPc R.vm paV paOk voE []), .blk R.pp 157 [int ((4 : Nat) : Int), int (me : Nat), mapV R.om, .v R.pv], own 199 1 R.pv ((List.replicate 4 []).map fun l => [pntsA l]), .pc (tmPc R.om intK intOk Ow.enc [(0, R.ow)]), .blk R.lg 153 [int 4, int 0, mapV R.lm], .pc (tmPc R.lm intK intOk pE []), wb p bd bt N]) (fun y => [(0, ptr R.r), (3, ptr b3), (6, ptr y.1), (7, int y.2.2)]) (fun y => True) ?_ ?_
 ·skip
  refine T_ [] (.q 0 (.q 1 (.q 2 (.q 3 (.q 4 (.q 5 (.two 6 10 (.q 7 (.q 8 (.q 9 (.e 10 (.e 11 (.q 12 .nil)))))) (.e 6 (.q 7 (.q 8 (.q 9 (.e 11 (.q 12 .nil))))))))))))) (by kernel_rfl) (by kernel_rfl) ?_
  refine qs_ 1 rfl<|X_ (by (simp [mids, It.mids, ownPc, mapPc, tmPc, wbP, exP]; done)) fun hx9 => ?_
  refine j_ rfl (i_ (C := byt m.body) (h_ tabOk rfl rfl l0_ List.not_mem_nil rfl) rfl) hx9 rfl rfl<|qs_ 3 rfl<|j_ rfl (i_ (C := int 4) (h_ tabOk rfl rfl l1_ List.not_mem_nil rfl) rfl) hx9 rfl rfl<|aQ_ ?_ ?_
  ·skip
   refine H_ rfl (g1_ (l := m.body) hm.2.2.1) (by simp [mids, It.mids]) Casts.refl (by kernel_rfl) rfl rfl rfl ?_
   refine ap_<|fun z54=>X_ (by (simp [mids, It.mids, ownPc, mapPc, tmPc, wbP, exP]; done)) fun hx9 => ?_
   refine qx_ 1 hx9 rfl<|qs_ 2 rfl<|be_ tabOk rfl rfl rfl rfl fun b6 =>ex_ rfl (p_ (L' := z54.1.1.abs) tabOk rfl rfl rfl u0_ rfl (Nat.le_of_ble_eq_true rfl) rfl (by exact x_ rfl)) (by simp) rfl rfl ?_
   refine X_ (by (simp [mids, It.mids, ownPc, mapPc, tmPc, wbP, exP]; done)) fun hx9 => ?_
   refine qx_ 1 hx9 rfl<|C_<|R_ (b6, z54.1, z54.2) (trivial) (by exact ⟨rfl, rfl, rfl, rfl, trivial⟩) sr_
  skip
  refine be_ tabOk rfl rfl rfl rfl fun b6 =>H_ rfl (g1_ (l := m.body) hm.2.2.1) (by simp [mids, It.mids]) Casts.refl (by kernel_rfl) rfl rfl rfl ?_
  refine ap_<|fun z54=>X_ (by (simp [mids, It.mids, ownPc, mapPc, tmPc, wbP, exP]; done)) fun hx9 => ?_
  refine qx_ 3 hx9 rfl<|ex_ rfl (p_ (L' := z54.1.1.abs) tabOk rfl rfl rfl u0_ rfl (Nat.le_of_ble_eq_true rfl) rfl (by exact x_ rfl)) (by simp) rfl rfl ?_
  refine X_ (by (simp [mids, It.mids, ownPc, mapPc, tmPc, wbP, exP]; done)) fun hx9 => ?_
  refine qx_ 1 hx9 rfl<|C_<|R_ (b6, z54.1, z54.2) (trivial) (by exact ⟨rfl, rfl, rfl, rfl, trivial⟩) sr_
 intro y hy
 obtain ⟨b6, ⟨q, hq⟩, e⟩ := y
 dsimp only
 refine c_<|a_<|q_ 1 rfl<|d_ (i_ (C := coreA q.core) (al_ tabOk rfl rfl rfl l0_ List.not_mem_nil (Nat.le_of_ble_eq_true rfl)) (congrArg Abs.agg (Rq.part _))) rfl rfl<|eb_ (F_ tabOk rfl) rfl rfl fun b8=>?_
 refine e_ (p_ (L' := q.core.cells.map .v) tabOk rfl rfl rfl u0_ rfl (Nat.le_of_ble_eq_true rfl) rfl (by exact x_ rfl)) rfl rfl ?_
 refine g_<|b_<|c_<|w_<|c_<|a_<|q_ 3 rfl<|g_<|b_<|n_ rfl ?_ ?_
 ·intro hc59
  refine c_<|a_<|q_ 2 rfl<|g_<|b_<|o_<|aF_<|k_ nofun<|da_ [_, _, _, _, _, _, _, _, _, _, _, _, _, _, _, _] (Re.wbUp (N := N) (M := N + 6) (by omega)) rfl ?_
  refine eZ_ (rs := [.tmp 4]) rfl (RV.tmp rfl RV.nil) (RqZ.no e) (by show (rqT p bd bt N me R (RqZ.no _)).Sublist _; unfold rqT; rw [if_neg (by exact hc59)]; repeat (first | exact List.nil_sublist _ | exact List.Sublist.refl _ | apply List.Sublist.cons_cons | apply List.Sublist.cons)) cW_ ?_
  exact rfl
 intro hc59
 refine c_<|a_<|q_ 1 rfl<|d_ (i_ (C := int q.core.client) (h_ tabOk rfl rfl l0_ List.not_mem_nil rfl) rfl) rfl rfl<|q_ 1 rfl<|d_ (i_ (C := int 4) (h_ tabOk rfl rfl l2_ List.not_mem_nil rfl) (congrArg int hm.2.1)) rfl rfl<|q_ 2 rfl<|g_<|b_<|n_ rfl ?_ ?_
 ·intro hc63
  refine c_<|a_<|q_ 1 rfl<|g_<|b_<|o_<|aF_<|k_ nofun<|da_ [_, _, _, _, _, _, _, _, _, _, _, _, _, _, _, _] (Re.wbUp (N := N) (M := N + 6) (by omega)) rfl ?_
  refine eZ_ (rs := [.tmp 4]) rfl (RV.tmp rfl RV.nil) (RqZ.no 17) (by show (rqT p bd bt N me R (RqZ.no _)).Sublist _; unfold rqT; rw [if_neg (by decide)]; repeat (first | exact List.nil_sublist _ | exact List.Sublist.refl _ | apply List.Sublist.cons_cons | apply List.Sublist.cons)) cW_ ?_
  exact rfl
 intro hc63
 have hq4 : q.core.client = 4 := Classical.byContradiction fun h => hc63 h
 refine s_<|A_<|b_<|cj_ (ι := Nat) (fun y => [.blk y 237 [int 0, int 0, int 0], .blk b8 26 (q.core.cells.map .v), .blk b6 134 q.abs, .blk b3 42 m.abs, .blk R.r 118 (R.cells p me 0 (.v (.slice none 0 0))), .pc (tmPc R.pd intK intOk coE []), .blk R.x 179 [int 4, int 0, int 0, .v (.slice none 0 0), .v (.slice none 0 0), .v (.slice none 0 0)], .blk R.t 173 [int 32, int 0], .blk R.h 167 [bkI p, int 4, mapV R.hm, .v R.hv], .pc (tmPc R.hm intK intOk pE []), .blk R.vv 160 [int 4, mapV R.vm], .pc (tmPc R.vm paV paOk voE []), .blk R.pp 157 [int ((4 : Nat) : Int), int (me : Nat), mapV R.om, .v R.pv], own 199 1 R.pv ((List.replicate 4 []).map fun l => [pntsA l]), .pc (tmPc R.om intK intOk Ow.enc [(0, R.ow)]), .blk R.lg 153 [int 4, int 0, mapV R.lm], .pc (tmPc R.lm intK intOk pE []), wb p bd bt N]) (fun y => [(0, ptr R.r), (3, ptr b3), (6, ptr b6), (8, ptr b8), (9, ptr y), (10, boo false)]) (fun y => True) ?_ ?_
 ·skip
  refine T_ [] (.q 0 (.q 1 (.q 2 (.q 3 (.q 4 (.q 5 (.two 6 10 (.q 7 (.q 8 (.q 9 (.e 10 (.e 11 (.q 12 .nil)))))) (.e 6 (.q 7 (.q 8 (.q 9 (.e 11 (.q 12 .nil))))))))))))) (by kernel_rfl) (by kernel_rfl) ?_
  refine qs_ 3 rfl<|X_ (by (simp [mids, It.mids, ownPc, mapPc, tmPc, wbP, exP]; done)) fun hx9 => ?_
  refine j_ rfl (i_ (C := ptr R.x) (h_ tabOk rfl rfl l3_ List.not_mem_nil rfl) rfl) hx9 rfl rfl<|qs_ 1 rfl<|j_ rfl (i_ (C := int 4) (h_ tabOk rfl rfl l0_ List.not_mem_nil rfl) (congrArg int hq4)) hx9 rfl rfl<|aQ_ ?_ ?_
  ·skip
   refine H_ rfl (gZ_ (x := R.x) (k := 4)) (by simp [mids, It.mids]) Casts.refl (by kernel_rfl) rfl rfl rfl ?_
   refine ap_<|fun _=>X_ (by (simp [mids, It.mids, ownPc, mapPc, tmPc, wbP, exP]; done)) fun hx9 => ?_
   refine qx_ 1 hx9 rfl<|qs_ 2 rfl<|be_ tabOk rfl rfl rfl rfl fun b9 =>ex_ rfl (p_ (L' := [int 0, int 0, int 0]) tabOk rfl rfl rfl u0_ rfl (Nat.le_of_ble_eq_true rfl) rfl (by exact x_ rfl)) (by simp) rfl rfl ?_
   refine X_ (by (simp [mids, It.mids, ownPc, mapPc, tmPc, wbP, exP]; done)) fun hx9 => ?_
   refine qx_ 1 hx9 rfl<|C_<|R_ (b9) (trivial) (by exact ⟨rfl, rfl, rfl, rfl, rfl, rfl, trivial⟩) sr_
  skip
  refine be_ tabOk rfl rfl rfl rfl fun b9 =>H_ rfl (gZ_ (x := R.x) (k := 4)) (by simp [mids, It.mids]) Casts.refl (by kernel_rfl) rfl rfl rfl ?_
  refine ap_<|fun _=>X_ (by (simp [mids, It.mids, ownPc, mapPc, tmPc, wbP, exP]; done)) fun hx9 => ?_
  refine qx_ 3 hx9 rfl<|ex_ rfl (p_ (L' := [int 0, int 0, int 0]) tabOk rfl rfl rfl u0_ rfl (Nat.le_of_ble_eq_true rfl) rfl (by exact x_ rfl)) (by simp) rfl rfl ?_
  refine X_ (by (simp [mids, It.mids, ownPc, mapPc, tmPc, wbP, exP]; done)) fun hx9 => ?_
  refine qx_ 1 hx9 rfl<|C_<|R_ (b9) (trivial) (by exact ⟨rfl, rfl, rfl, rfl, rfl, rfl, trivial⟩) sr_
 intro b9 hb9
 refine c_<|w_<|c_<|a_<|q_ 9 rfl<|g_<|b_<|I_ rfl<|c_<|a_<|q_ 9 rfl<|g_<|b_<|I_ rfl<|c_<|a_<|q_ 1 rfl<|d_ (i_ (C := coreA q.core) (y_ tabOk rfl rfl rfl l1_ List.not_mem_nil rfl) rfl) rfl rfl<|m_ (rawait_s (p := p) (me := me) (R := R) (c := q.core) (dr := 0) (o := .v (.slice none 0 0)) hq4) Casts.refl (by kernel_rfl) rfl rfl rfl ?_
 refine aA_ (ys := [.blk R.r 118 (R.cells p me 0 (.v (.slice none 0 0)))]) rfl i5_ (by intro y hy; rw [List.mem_singleton] at hy; subst hy; exact ⟨i4_, by intro h; cases h⟩) rfl (fun _ => rfl) ?_
 intro _
 refine ⟨_, u5_, q_ 1 rfl<|g_<|b_<|c_<|a_<|q_ 2 rfl<|g_<|b_<|n_ rfl (by intro hc83; exfalso; omega) ?_⟩
 intro hc83
 refine s_<|A_<|b_<|cj_ (ι := Nat × Tg × Wo) (fun y => [.blk y.1 198 (voL q.core.stamp y.2.1 y.2.2), .blk b9 237 [int 0, int 0, int 0], .blk b8 26 (q.core.cells.map .v), .blk b6 134 q.abs, .blk b3 42 m.abs, .blk R.r 118 (R.cells p me 0 (.v (.slice none 0 0))), .pc (tmPc R.pd intK intOk coE [(4, q.core)]), .blk R.x 179 [int 4, int 0, int 0, .v (.slice none 0 0), .v (.slice none 0 0), .v (.slice none 0 0)], .blk R.t 173 [int 32, int 0], .blk R.h 167 [bkI p, int 4, mapV R.hm, .v R.hv], .pc (tmPc R.hm intK intOk pE []), .blk R.vv 160 [int 4, mapV R.vm], .pc (tmPc R.vm paV paOk voE []), .blk R.pp 157 [int ((4 : Nat) : Int), int (me : Nat), mapV R.om, .v R.pv], own 199 1 R.pv ((List.replicate 4 []).map fun l => [pntsA l]), .pc (tmPc R.om intK intOk Ow.enc [(0, R.ow)]), .blk R.lg 153 [int 4, int 0, mapV R.lm], .pc (tmPc R.lm intK intOk pE []), wb p bd bt (N + 1)]) (fun y => [(0, ptr R.r), (3, ptr b3), (6, ptr b6), (8, ptr b8), (12, ptr y.1)]) (fun y => True) ?_ ?_
 ·skip
  refine aw_ (p := R.r ∉ [p, bd, bt] ∧ b8 ∉ [p, bd, bt] ∧ b6 ∉ [p, bd, bt]) (fun _ _ h => by
    have h1 := h.mem.nodup
    simp [mids, It.mids, ownPc, mapPc, tmPc, wbP, exP] at h1 ⊢
    grind) fun hX => ?_
  refine T_ [p, bd, bt] (.q 0 (.q 1 (.q 2 (.q 3 (.q 4 (.q 5 (.q 7 (.q 8 (.q 9 (.q 10 (.q 11 (.q 12 (.q 13 (.q 14 (.q 15 (.q 16 (.q 17 (.q 18 (.q 19 (.two 6 22 (.two 20 22 (.q 21 (.e 22 (.e 23 .nil))) (.e 20 (.q 21 (.e 23 .nil)))) (.e 6 (.e 20 (.q 21 (.e 23 .nil)))))))))))))))))))))))) (by kernel_rfl) (by kernel_rfl) ?_
  refine X_ (by (simp [mids, It.mids, ownPc, mapPc, tmPc, wbP, exP]; done)) fun hx9 => ?_
  refine qx_ 1 hx9 rfl<|j_ rfl (i_ (C := int 4) (h_ tabOk rfl rfl l1_ (by exact hX.2.1) rfl) (congrArg int hq4)) hx9 rfl rfl ?_
  refine qx_ 1 hx9 rfl<|j_ rfl (i_ (C := int q.core.stamp) (h_ tabOk rfl rfl l1_ (by exact hX.2.1) rfl) rfl) hx9 rfl rfl ?_
  refine qx_ 1 hx9 rfl<|j_ rfl (i_ (C := coreA q.core) (y_ tabOk rfl rfl rfl l1_ (by exact hX.2.1) rfl) rfl) hx9 rfl rfl ?_
  refine qx_ 3 hx9 rfl<|j_ rfl (i_ (C := bkI p) (h_ tabOk rfl rfl l4_ (by exact hX.1) rfl) rfl) hx9 rfl rfl ?_
  refine j_ rfl (i_ (C := .agg q.abs) (y_ tabOk rfl rfl rfl l2_ (by exact hX.2.2) rfl) rfl) hx9 rfl rfl ?_
  refine qx_ 3 hx9 rfl<|j_ rfl (i_ (C := int 4) (h_ tabOk rfl rfl l4_ (by exact hX.1) rfl) rfl) hx9 rfl rfl ?_
  refine qx_ 3 hx9 rfl<|j_ rfl (i_ (C := int (me : Nat)) (h_ tabOk rfl rfl l4_ (by exact hX.1) rfl) rfl) hx9 rfl rfl ?_
  refine aQ_ ?_ ?_
  ·skip
   refine H_ rfl (rcd_s (p := p) (bd := bd) (bt := bt) (N := N) (me := me) (R := R) (c := q.core) (dr := 0) (o := .v (.slice none 0 0)) hq.1 hq.2.1 (by omega)) (by simp [mids, It.mids, wbP, exP]) Casts.refl (by kernel_rfl) rfl rfl rfl ?_
   refine aA_ (ys := [.blk R.r 118 (R.cells p me 0 (.v (.slice none 0 0)))]) rfl (by repeat first|assumption|exact m0_|apply m1_) (by intro y hy; rw [List.mem_singleton] at hy; subst hy; exact ⟨i4_, by intro h; cases h⟩) rfl (fun _ => rfl) ?_
   intro z112
   refine ⟨_, (by repeat first|assumption|exact Upd.here|apply Upd.there), ?_⟩
   refine aQ_ ?_ ?_
   ·skip
    refine H_ rfl (go_ (p := p) (bd := bd) (bt := bt) (N := N + 1) (q := q) (n := 4) (who := (me : Int)) hq.1 hq.2.1 (by have := hq.2.2.1; omega) (fun e he => by have := hq.2.2.2 e he; unfold EnOk at this; unfold i64r; omega) (by unfold i64r; omega) (by omega)) (by simp [mids, It.mids, wbP, exP]) Casts.refl (by kernel_rfl) rfl rfl rfl ?_
    refine Q_ rfl (by repeat first|assumption|exact m0_|apply m1_) (fun _ => rfl) ?_
    intro z126
    refine ⟨_, (by repeat first|assumption|exact Upd.here|apply Upd.there), ?_⟩
    refine X_ (by (simp [mids, It.mids, ownPc, mapPc, tmPc, wbP, exP]; done)) fun hx9 => ?_
    refine j_ rfl (i_ (C := .agg (voL q.core.stamp z112 z126)) (u_ tabOk rfl rfl rfl (e4_ rfl rfl rfl rfl rfl)) rfl) hx9 rfl rfl<|be_ tabOk rfl rfl rfl rfl fun b12 =>ex_ rfl (p_ (L' := voL q.core.stamp z112 z126) tabOk rfl rfl rfl u0_ (a6_ _ _ _) (Nat.le_of_ble_eq_true rfl) (bU_ _ _ _) (by exact x_ (a6_ _ _ _))) (by simp) rfl rfl ?_
    refine C_<|R_ (b12, z112, z126) (trivial) (by exact ⟨rfl, rfl, rfl, rfl, rfl, trivial⟩) sr_
   skip
   refine be_ tabOk rfl rfl rfl rfl fun b12 =>H_ rfl (go_ (p := p) (bd := bd) (bt := bt) (N := N + 1) (q := q) (n := 4) (who := (me : Int)) hq.1 hq.2.1 (by have := hq.2.2.1; omega) (fun e he => by have := hq.2.2.2 e he; unfold EnOk at this; unfold i64r; omega) (by unfold i64r; omega) (by omega)) (by simp [mids, It.mids, wbP, exP]) Casts.refl (by kernel_rfl) rfl rfl rfl ?_
   refine Q_ rfl (by repeat first|assumption|exact m0_|apply m1_) (fun _ => rfl) ?_
   intro z126
   refine ⟨_, (by repeat first|assumption|exact Upd.here|apply Upd.there), ?_⟩
   refine X_ (by (simp [mids, It.mids, ownPc, mapPc, tmPc, wbP, exP]; done)) fun hx9 => ?_
   refine j_ rfl (i_ (C := .agg (voL q.core.stamp z112 z126)) (u_ tabOk rfl rfl rfl (e4_ rfl rfl rfl rfl rfl)) rfl) hx9 rfl rfl<|ex_ rfl (p_ (L' := voL q.core.stamp z112 z126) tabOk rfl rfl rfl u0_ (a6_ _ _ _) (Nat.le_of_ble_eq_true rfl) (bU_ _ _ _) (by exact x_ (a6_ _ _ _))) (by simp) rfl rfl ?_
   refine C_<|R_ (b12, z112, z126) (trivial) (by exact ⟨rfl, rfl, rfl, rfl, rfl, trivial⟩) sr_
  skip
  refine be_ tabOk rfl rfl rfl rfl fun b12 =>H_ rfl (rcd_s (p := p) (bd := bd) (bt := bt) (N := N) (me := me) (R := R) (c := q.core) (dr := 0) (o := .v (.slice none 0 0)) hq.1 hq.2.1 (by omega)) (by simp [mids, It.mids, wbP, exP]) Casts.refl (by kernel_rfl) rfl rfl rfl ?_
  refine aA_ (ys := [.blk R.r 118 (R.cells p me 0 (.v (.slice none 0 0)))]) rfl (by repeat first|assumption|exact m0_|apply m1_) (by intro y hy; rw [List.mem_singleton] at hy; subst hy; exact ⟨i5_, by intro h; cases h⟩) rfl (fun _ => rfl) ?_
  intro z112
  refine ⟨_, (by repeat first|assumption|exact Upd.here|apply Upd.there), ?_⟩
  refine H_ rfl (go_ (p := p) (bd := bd) (bt := bt) (N := N + 1) (q := q) (n := 4) (who := (me : Int)) hq.1 hq.2.1 (by have := hq.2.2.1; omega) (fun e he => by have := hq.2.2.2 e he; unfold EnOk at this; unfold i64r; omega) (by unfold i64r; omega) (by omega)) (by simp [mids, It.mids, wbP, exP]) Casts.refl (by kernel_rfl) rfl rfl rfl ?_
  refine Q_ rfl (by repeat first|assumption|exact m0_|apply m1_) (fun _ => rfl) ?_
  intro z126
  refine ⟨_, (by repeat first|assumption|exact Upd.here|apply Upd.there), ?_⟩
  refine X_ (by (simp [mids, It.mids, ownPc, mapPc, tmPc, wbP, exP]; done)) fun hx9 => ?_
  refine j_ rfl (i_ (C := .agg (voL q.core.stamp z112 z126)) (u_ tabOk rfl rfl rfl (e4_ rfl rfl rfl rfl rfl)) rfl) hx9 rfl rfl<|ex_ rfl (p_ (L' := voL q.core.stamp z112 z126) tabOk rfl rfl rfl u0_ (a6_ _ _ _) (Nat.le_of_ble_eq_true rfl) (bU_ _ _ _) (by exact x_ (a6_ _ _ _))) (by simp) rfl rfl ?_
  refine C_<|R_ (b12, z112, z126) (trivial) (by exact ⟨rfl, rfl, rfl, rfl, rfl, trivial⟩) sr_
 intro y hy
 obtain ⟨b12, t, mk⟩ := y
 dsimp only
 refine c_<|c_<|aw_ (p := R.r ∉ [R.vv, R.vm] ∧ b12 ∉ [R.vv, R.vm]) (fun _ _ h => by
   have h1 := h.mem.nodup
   simp [mids, It.mids, ownPc, mapPc, tmPc, wbP, exP] at h1 ⊢
   grind) fun hX => ?_
 refine T_ [R.vv, R.vm] (.q 0 (.q 1 (.q 2 (.q 3 (.q 4 (.q 5 (.q 6 (.q 7 (.q 8 (.e 9 .nil)))))))))) (by kernel_rfl) (by kernel_rfl) ?_
 refine X_ (by (simp [mids, It.mids, ownPc, mapPc, tmPc, wbP, exP]; done)) fun hx9 => ?_
 refine qx_ 3 hx9 rfl<|j_ rfl (i_ (C := ptr R.vv) (h_ tabOk rfl rfl l5_ (by exact hX.1) rfl) rfl) hx9 rfl rfl ?_
 refine qx_ 3 hx9 rfl<|j_ rfl (i_ (C := int (me : Nat)) (h_ tabOk rfl rfl l5_ (by exact hX.1) rfl) rfl) hx9 rfl rfl ?_
 refine j_ rfl (i_ (C := .agg (voL q.core.stamp t mk)) (y_ tabOk rfl rfl rfl l0_ (by exact hX.2) (a6_ _ _ _)) rfl) hx9 rfl rfl ?_
 refine H_ rfl (voadd_s (v := R.vv) (m := R.vm) (self_ := (me : Int)) (st := q.core.stamp) (t := t) (mk := mk) (by omega) (by omega)) (by intro k hk; exact hk) Casts.refl (by kernel_rfl) rfl rfl rfl ?_
 refine M_ [_, _, _, _, _, _, _, _, _, _, _] (β := [_, _, _, _, _, _]) rfl (by intro x hx; simp only [List.mem_cons, List.not_mem_nil, or_false] at hx; rcases hx with rfl | rfl <;> rfl) ?_
 intro _
 refine C_<|b_<|ab_ rfl<|a_<|q_ 1 rfl<|d_ (i_ (C := coreA q.core) (y_ tabOk rfl rfl rfl l2_ List.not_mem_nil rfl) rfl) rfl rfl<|m_ (iS_ (p := p) (bd := bd) (bt := bt) (N := N + 1) (me := me) (R := R) (c := q.core) (dr := 0) (st := q.core.stamp) (t := t) (mk := mk) hq.1 hq.2.1 (by omega) h4 hq4) Casts.refl (by kernel_rfl) rfl rfl rfl ?_
 refine bu_ [.blk b12 198 (voL q.core.stamp t mk), .blk b9 237 [int 0, int 0, int 0], .blk b8 26 (q.core.cells.map .v), .blk b6 134 q.abs, .blk b3 42 m.abs, .pc (tmPc R.pd intK intOk coE [(4, q.core)]), .blk R.x 179 [int 4, int 0, int 0, .v (.slice none 0 0), .v (.slice none 0 0), .v (.slice none 0 0)], .blk R.t 173 [int 32, int 0], .blk R.h 167 [bkI p, int 4, mapV R.hm, .v R.hv], .pc (tmPc R.hm intK intOk pE []), .blk R.vv 160 [int 4, mapV R.vm], .pc (tmPc R.vm paV paOk voE (vm1 (me : Int) q.core.stamp t mk)), .blk R.pp 157 [int ((4 : Nat) : Int), int (me : Nat), mapV R.om, .v R.pv], own 199 1 R.pv ((List.replicate 4 []).map fun l => [pntsA l]), .pc (tmPc R.om intK intOk Ow.enc [(0, R.ow)]), .blk R.lg 153 [int 4, int 0, mapV R.lm], .pc (tmPc R.lm intK intOk pE [])] (fun z140 => [own 141 5 z140.1.1 z140.1.2, .blk R.r 118 (R.cells p me 0 (.v z140.1.1)), .pc (tmPc R.pd intK intOk coE [(4, q.core)]), .blk R.x 179 [int 4, int 0, int 0, .v (.slice none 0 0), .v (.slice none 0 0), .v (.slice none 0 0)], .blk R.t 173 [int 32, int 0], .blk R.h 167 [bkI p, int 4, mapV R.hm, .v R.hv], .pc (tmPc R.hm intK intOk pE []), .blk R.vv 160 [int 4, mapV R.vm], .pc (tmPc R.vm paV paOk voE (vm1 (me : Int) q.core.stamp t mk)), .blk R.pp 157 [int ((4 : Nat) : Int), int (me : Nat), mapV R.om, .v R.pv], own 199 1 R.pv ((List.replicate 4 []).map fun l => [pntsA l]), .pc (tmPc R.om intK intOk Ow.enc [(0, R.ow)]), .blk R.lg 153 [int 4, int 0, mapV R.lm], .pc (tmPc R.lm intK intOk pE []), wb p bd bt (N + 6), .blk b12 198 (voL q.core.stamp t mk), .blk b9 237 [int 0, int 0, int 0], .blk b8 26 (q.core.cells.map .v), .blk b6 134 q.abs, .blk b3 42 m.abs]) (by rw [List.perm_iff_count]; intro a; simp only [mids, It.mids, List.flatMap_cons, List.flatMap_nil, List.append_nil, List.nil_append, List.count_append, List.count_cons, List.count_nil, List.cons_append]; omega) (by intro x hx; simp only [List.mem_cons, List.not_mem_nil, or_false] at hx; rcases hx with rfl | rfl | rfl | rfl <;> first | exact .inl ⟨(by repeat first|assumption|exact m0_|apply m1_), rfl⟩ | exact .inr ⟨_, List.mem_cons_self, rfl⟩ | exact .inr ⟨_, (List.mem_cons_of_mem _ List.mem_cons_self), rfl⟩ | exact .inr ⟨_, (List.mem_cons_of_mem _ (List.mem_cons_of_mem _ List.mem_cons_self)), rfl⟩ | exact .inr ⟨_, (List.mem_cons_of_mem _ (List.mem_cons_of_mem _ (List.mem_cons_of_mem _ List.mem_cons_self))), rfl⟩ | exact .inr ⟨_, (List.mem_cons_of_mem _ (List.mem_cons_of_mem _ (List.mem_cons_of_mem _ (List.mem_cons_of_mem _ List.mem_cons_self)))), rfl⟩ | exact .inr ⟨_, (List.mem_cons_of_mem _ (List.mem_cons_of_mem _ (List.mem_cons_of_mem _ (List.mem_cons_of_mem _ (List.mem_cons_of_mem _ List.mem_cons_self))))), rfl⟩ | exact .inr ⟨_, (List.mem_cons_of_mem _ (List.mem_cons_of_mem _ (List.mem_cons_of_mem _ (List.mem_cons_of_mem _ (List.mem_cons_of_mem _ (List.mem_cons_of_mem _ List.mem_cons_self)))))), rfl⟩ | exact .inr ⟨_, (List.mem_cons_of_mem _ (List.mem_cons_of_mem _ (List.mem_cons_of_mem _ (List.mem_cons_of_mem _ (List.mem_cons_of_mem _ (List.mem_cons_of_mem _ (List.mem_cons_of_mem _ List.mem_cons_self))))))), rfl⟩ | exact .inr ⟨_, (List.mem_cons_of_mem _ (List.mem_cons_of_mem _ (List.mem_cons_of_mem _ (List.mem_cons_of_mem _ (List.mem_cons_of_mem _ (List.mem_cons_of_mem _ (List.mem_cons_of_mem _ (List.mem_cons_of_mem _ List.mem_cons_self)))))))), rfl⟩ | exact .inr ⟨_, (List.mem_cons_of_mem _ (List.mem_cons_of_mem _ (List.mem_cons_of_mem _ (List.mem_cons_of_mem _ (List.mem_cons_of_mem _ (List.mem_cons_of_mem _ (List.mem_cons_of_mem _ (List.mem_cons_of_mem _ (List.mem_cons_of_mem _ List.mem_cons_self))))))))), rfl⟩ | exact .inr ⟨_, (List.mem_cons_of_mem _ (List.mem_cons_of_mem _ (List.mem_cons_of_mem _ (List.mem_cons_of_mem _ (List.mem_cons_of_mem _ (List.mem_cons_of_mem _ (List.mem_cons_of_mem _ (List.mem_cons_of_mem _ (List.mem_cons_of_mem _ (List.mem_cons_of_mem _ List.mem_cons_self)))))))))), rfl⟩ | exact .inr ⟨_, (List.mem_cons_of_mem _ (List.mem_cons_of_mem _ (List.mem_cons_of_mem _ (List.mem_cons_of_mem _ (List.mem_cons_of_mem _ (List.mem_cons_of_mem _ (List.mem_cons_of_mem _ (List.mem_cons_of_mem _ (List.mem_cons_of_mem _ (List.mem_cons_of_mem _ (List.mem_cons_of_mem _ List.mem_cons_self))))))))))), rfl⟩ | exact .inr ⟨_, (List.mem_cons_of_mem _ (List.mem_cons_of_mem _ (List.mem_cons_of_mem _ (List.mem_cons_of_mem _ (List.mem_cons_of_mem _ (List.mem_cons_of_mem _ (List.mem_cons_of_mem _ (List.mem_cons_of_mem _ (List.mem_cons_of_mem _ (List.mem_cons_of_mem _ (List.mem_cons_of_mem _ (List.mem_cons_of_mem _ List.mem_cons_self)))))))))))), rfl⟩ | exact .inr ⟨_, (List.mem_cons_of_mem _ (List.mem_cons_of_mem _ (List.mem_cons_of_mem _ (List.mem_cons_of_mem _ (List.mem_cons_of_mem _ (List.mem_cons_of_mem _ (List.mem_cons_of_mem _ (List.mem_cons_of_mem _ (List.mem_cons_of_mem _ (List.mem_cons_of_mem _ (List.mem_cons_of_mem _ (List.mem_cons_of_mem _ (List.mem_cons_of_mem _ List.mem_cons_self))))))))))))), rfl⟩ | exact .inr ⟨_, (List.mem_cons_of_mem _ (List.mem_cons_of_mem _ (List.mem_cons_of_mem _ (List.mem_cons_of_mem _ (List.mem_cons_of_mem _ (List.mem_cons_of_mem _ (List.mem_cons_of_mem _ (List.mem_cons_of_mem _ (List.mem_cons_of_mem _ (List.mem_cons_of_mem _ (List.mem_cons_of_mem _ (List.mem_cons_of_mem _ (List.mem_cons_of_mem _ (List.mem_cons_of_mem _ List.mem_cons_self)))))))))))))), rfl⟩ | exact .inr ⟨_, (List.mem_cons_of_mem _ (List.mem_cons_of_mem _ (List.mem_cons_of_mem _ (List.mem_cons_of_mem _ (List.mem_cons_of_mem _ (List.mem_cons_of_mem _ (List.mem_cons_of_mem _ (List.mem_cons_of_mem _ (List.mem_cons_of_mem _ (List.mem_cons_of_mem _ (List.mem_cons_of_mem _ (List.mem_cons_of_mem _ (List.mem_cons_of_mem _ (List.mem_cons_of_mem _ (List.mem_cons_of_mem _ List.mem_cons_self))))))))))))))), rfl⟩) (by intro x hx; simp only [List.mem_cons, List.not_mem_nil, or_false] at hx; rcases hx with rfl | rfl | rfl | rfl | rfl | rfl | rfl | rfl | rfl | rfl | rfl | rfl | rfl | rfl | rfl | rfl | rfl <;> repeat first|assumption|exact m0_|apply m1_) (fun _ => (by repeat (first | exact List.Perm.nil | refine pk_ (by repeat (first | exact Rem_.here | apply Rem_.there)) ?_))) ?_
 intro z140
 refine g_<|b_<|c_<|a_<|q_ 1 rfl<|g_<|b_<|o_<|eZ_ (rs := [.tmp 4]) rfl (RV.tmp rfl RV.nil) (⟨0, z140.1.1, z140.1.2, q.core, q.core.stamp, t, mk, z140.2, hq.1, hq.2.1, hq4⟩) (by unfold rqT; rw [if_pos rfl]; repeat (first | exact List.nil_sublist _ | exact List.Sublist.refl _ | apply List.Sublist.cons_cons | apply List.Sublist.cons)) cW_ ?_
 exact rfl
end
theorem keysC_s {om : List (Int × Core)} {b z : Nat} (hl : om.length ≤ 1000000) : Spec Tryz.prog 318 [.fn (.func 374) [] [ptr z]] [.rd z 113 [mapV b], .rdpc (tmPc b intK intOk coE om)] (fun v : Value => [own 3 1 v ((srt (om.map (·.1))).map fun x => [int x])]) (fun v => .v v) :=
  Spec.tmRead (σ1 := [.rd z 113 [mapV b]]) fun tm htm => by
    have h := hR_ (V := id) (m := rawM tm) (b := b) (z := z) (by rw [← htm] at hl; simpa [rawM, plM] using hl)
    rw [d6_, ← e7_, htm] at h
    exact h
theorem keysS_s {om : List (Int × Option Nat)} {b z : Nat} (hl : om.length ≤ 1000000) : Spec Tryz.prog 213 [.fn (.func 333) [] [ptr z]] [.rd z 151 [mapV b], .rdpc (tmPc b intK intOk pE om)] (fun v : Value => [own 2 1 v ((srt (om.map (·.1))).map fun x => [int x])]) (fun v => .v v) :=
  Spec.tmRead (σ1 := [.rd z 151 [mapV b]]) fun tm htm => by
    have h := hT_ (V := id) (m := rawM tm) (b := b) (z := z) (by rw [← htm] at hl; simpa [rawM, plM] using hl)
    rw [d6_, ← e7_, htm] at h
    exact h
theorem srt4 : srt [4] = [4] := by simp [srt]
theorem srt0 : srt [] = [] := by simp [srt]
section
variable {p bd bt N me : Nat} {R : RI} {c : Core} {o : Abs} {st x : Int} {t d : Tg} {mk : Wo} {dr : Int}
theorem rquor_s  : Spec Tryz.prog 197 [ptr R.r] [.rd R.r 118 (R.cells p me dr o)] (fun _ : Unit => []) (fun _ => int 3) := by
 refine t_ Tryz.func197 rfl Tryz.ntmps197 rfl fun G w =>c_<|a_<|q_ 1 rfl<|g_<|b_<|c_<|a_<|q_ 3 rfl<|d_ (i_ (C := int 4) (h_ tabOk rfl rfl r0_ List.not_mem_nil rfl) rfl) rfl rfl<|m_ (he_ (n := 4) (by omega)) Casts.refl (by kernel_rfl) rfl rfl rfl ?_
 exact ap_<|fun _=>q_ 1 rfl<|g_<|b_<|o_<|f_ (rs := [.tmp 2]) rfl (RV.tmp rfl RV.nil) (()) sn_<|rfl
theorem g9_ (h1 : c.letter.size ≤ 1000) (h2 : c.text.size ≤ 1000) (hN : N ≤ 90000) (hm : me < 4) (hc : c.client = 4) : Spec Tryz.prog 262 [ptr R.r, coreA c] [wb p bd bt N, .rd R.r 118 (R.cells p me dr o), .rd R.vv 160 [int 4, mapV R.vm], .rdpc (tmPc R.vm paV paOk voE (vm1 (me : Int) st t mk))] (fun _ : Unit => [wb p bd bt (N + 1)]) (fun _ => boo false) := by
 refine t_ Tryz.func262 rfl Tryz.ntmps262 rfl fun G w =>c_<|a_<|eb_ (z_ (cs := c.cells.map .v) rfl) rfl rfl fun b3=>?_
 refine q_ 1 rfl<|g_<|b_<|c_<|aw_ (p := R.r ∉ [p, bd, bt]) (fun _ _ h => by
   intro hm
   have h2 := h.mem.ro (.rd R.r _ _) (by repeat first | exact List.mem_cons_self | apply List.mem_cons_of_mem) R.r (by simp [It.rids])
   exact h.mem.sep R.r (by simp [mids, It.mids, wbP, exP, tmPc, ownPc] at hm ⊢; grind) h2) fun hR => ?_
 refine aw_ (p := b3 ∉ [p, bd, bt]) (fun _ _ h => by
   have h1 := h.mem.nodup
   simp [mids, It.mids, ownPc, mapPc, tmPc, wbP, exP] at h1 ⊢
   grind) fun hB => ?_
 refine T_ [p, bd, bt] (.q 0 (.q 1 (.q 2 (.q 3 (.q 4 (.q 5 (.q 6 (.q 7 (.q 8 (.q 9 (.q 12 (.e 10 (.e 11 (.e 13 (.q 14 (.q 15 .nil)))))))))))))))) (by kernel_rfl) (by kernel_rfl) ?_
 refine X_ (by (simp [mids, It.mids, ownPc, mapPc, tmPc, wbP, exP]; done)) fun hx9 => ?_
 refine qx_ 3 hx9 rfl<|j_ rfl (i_ (C := ptr R.vv) (h_ tabOk rfl rfl r2_ (by exact hR) rfl) rfl) hx9 rfl rfl ?_
 refine qx_ 1 hx9 rfl<|j_ rfl (i_ (C := int 4) (h_ tabOk rfl rfl l0_ (by exact hB) rfl) (congrArg int hc)) hx9 rfl rfl ?_
 refine qx_ 1 hx9 rfl<|j_ rfl (i_ (C := int c.stamp) (h_ tabOk rfl rfl l0_ (by exact hB) rfl) rfl) hx9 rfl rfl ?_
 refine qx_ 1 hx9 rfl<|j_ rfl (i_ (C := coreA c) (y_ tabOk rfl rfl rfl l0_ (by exact hB) rfl) rfl) hx9 rfl rfl ?_
 refine qx_ 1 hx9 rfl<|H_ rfl (rcd_s (p := p) (bd := bd) (bt := bt) (N := N) (me := me) (R := R) (c := c) (dr := dr) (o := o) h1 h2 (by omega)) (by simp [mids, It.mids, wbP, exP]) Casts.refl (by kernel_rfl) rfl rfl rfl ?_
 refine aA_ (ys := [.rd R.r 118 (R.cells p me dr o)]) rfl i1_ (by intro y hy; rw [List.mem_singleton] at hy; subst hy; exact ⟨i2_, by intro h; cases h⟩) rfl (fun _ => rfl) ?_
 intro z15
 refine ⟨_, u1_, H_ rfl (iA_ (v := R.vv) (m := R.vm) (self_ := (me : Int)) (st := st) (st' := c.stamp) (t := t) (t' := z15) (mk := mk) (by omega) (by omega)) (by simp [mids, It.mids]) Casts.refl (by kernel_rfl) rfl rfl rfl ?_⟩
 refine ap_<|fun z16=>H_ rfl (rquor_s (p := p) (me := me) (R := R) (dr := dr) (o := o)) (by simp [mids, It.mids]) Casts.refl (by kernel_rfl) rfl rfl rfl ?_
 refine ap_<|fun _=>X_ (by (simp [mids, It.mids, ownPc, mapPc, tmPc, wbP, exP]; done)) fun hx9 => ?_
 exact qx_ 2 hx9 rfl<|C_<|b_<|o_<|f_ (rs := [.tmp 4]) rfl (RV.tmp rfl RV.nil) (()) (sk_ (sc_ sn_))<|congrArg (fun b => Abs.v (Value.bool b)) (decide_eq_false (by have := z16.2; omega))
theorem rcli_s  : Spec Tryz.prog 255 [ptr R.r] [.rd R.r 118 (R.cells p me dr o), .rdpc (tmPc R.pd intK intOk coE [(4, c)])] (fun v : Value => [own 3 1 v [[int 4]]]) (fun v => .v v) := by
 refine t_ Tryz.func255 rfl Tryz.ntmps255 rfl fun G w =>c_<|a_<|q_ 1 rfl<|g_<|b_<|c_<|a_<|q_ 3 rfl<|d_ (i_ (C := mapV R.pd) (h_ tabOk rfl rfl r0_ List.not_mem_nil rfl) rfl) rfl rfl<|m_ (keys_2_s (b := R.pd)) Casts.refl (by kernel_rfl) rfl rfl rfl ?_
 refine Y_ (by repeat first|exact .nil|refine .blk (by repeat first|assumption|exact m0_|apply m1_) ?_|refine .rd (by repeat first|assumption|exact m0_|apply m1_) ?_|refine .pc (by repeat first|assumption|exact m0_|apply m1_) ?_|refine .rdpc (by repeat first|assumption|exact m0_|apply m1_) ?_) (fun _ => rfl) ?_
 intro zk
 refine m_ (keysC_s (om := [(4, c)]) (b := R.pd) (z := zk) (by simp)) Casts.refl (by kernel_rfl) rfl rfl rfl ?_
 refine Y_ (by repeat (first | exact Reads.nil | (refine Reads.blk ?_ ?_; focus ((repeat first|assumption|exact m0_|apply m1_); done)) | (refine Reads.rd ?_ ?_; focus ((repeat first|assumption|exact m0_|apply m1_); done)) | (refine Reads.pc ?_ ?_; focus ((repeat first|assumption|exact m0_|apply m1_); done)) | (refine Reads.rdpc ?_ ?_; focus ((repeat first|assumption|exact m0_|apply m1_); done)))) (fun _ => rfl) ?_
 intro r8
 rw [show (srt ([((4 : Int), c)].map (·.1))).map (fun x => [int x]) = [[int 4]] from by show (srt [4]).map _ = _; rw [srt4]; rfl]
 exact q_ 1 rfl<|g_<|b_<|o_<|f_ (rs := [.tmp 2]) rfl (RV.tmp rfl RV.nil) (r8) (sc_ sn_)<|rfl
set_option maxHeartbeats 1000000 in
theorem rwait0_s (h1 : c.letter.size ≤ 1000) (h2 : c.text.size ≤ 1000) (hN : N ≤ 90000) (hm : me < 4) (hc : c.client = 4) : Spec Tryz.prog 195 [ptr R.r] [wb p bd bt N, .rd R.r 118 (R.cells p me dr o), .rdpc (tmPc R.pd intK intOk coE [(4, c)]), .rd R.vv 160 [int 4, mapV R.vm], .rdpc (tmPc R.vm paV paOk voE (vm1 (me : Int) st t mk))] (fun _ : Unit => [wb p bd bt (N + 1)]) (fun _ => boo false) := by
 refine t_ Tryz.func195 rfl Tryz.ntmps195 rfl fun G w =>c_<|a_<|q_ 1 rfl<|g_<|b_<|c_<|c_<|a_<|q_ 1 rfl<|m_ (rcli_s (p := p) (me := me) (R := R) (c := c) (dr := dr) (o := o)) Casts.refl (by kernel_rfl) rfl rfl rfl ?_
 refine Y_ (by repeat (first | exact Reads.nil | (refine Reads.blk ?_ ?_; focus ((repeat first|assumption|exact m0_|apply m1_); done)) | (refine Reads.rd ?_ ?_; focus ((repeat first|assumption|exact m0_|apply m1_); done)) | (refine Reads.pc ?_ ?_; focus ((repeat first|assumption|exact m0_|apply m1_); done)) | (refine Reads.rdpc ?_ ?_; focus ((repeat first|assumption|exact m0_|apply m1_); done)))) (fun _ => rfl) ?_
 intro r6
 refine d_ (aG_ (m := 1) rfl i0_ Tryz.underlying22 rfl) rfl rfl<|q_ 1 rfl<|g_<|b_<|w_<|S_ (ι := Nat) (fun z => [own 3 1 r6 [[int 4]], wb p bd bt (N + z), .rd R.r 118 (R.cells p me dr o), .rdpc (tmPc R.pd intK intOk coE [(4, c)]), .rd R.vv 160 [int 4, mapV R.vm], .rdpc (tmPc R.vm paV paOk voE (vm1 (me : Int) st t mk))]) (fun z => [(0, ptr R.r), (6, .v r6), (7, int (1 : Nat)), (8, int (z : Nat))]) (fun z => z ≤ 1) (fun z => 1 - z) (0) (Nat.zero_le _) (by exact ⟨rfl, rfl, rfl, rfl, trivial⟩) sr_ ?_
 intro z hz
 refine c_<|a_<|q_ 1 rfl<|g_<|b_<|c_<|n_ rfl ?_ ?_
 rotate_left
 ·intro hc9
  have hz1 : z = 1 := by omega
  subst hz1
  exact O_<|k_ nofun<|k_ nofun<|N_<|b_<|c_<|a_<|q_ 1 rfl<|g_<|b_<|o_<|f_ (rs := [.tmp 2]) rfl (RV.tmp rfl RV.nil) (()) (sk_ (sc_ sn_))<|rfl
 intro hc9
 have hz0 : ((z : Nat) : Int) = ((0 : Nat) : Int) := by omega
 refine s_<|b_<|c_<|w_<|c_<|a_<|d_ (aP_ (q := 0) tabOk Tryz.underlying22 rfl rfl l0_ rfl hz0 (by simp) rfl rfl) rfl rfl ?_
 refine d_ (i_ (C := int 4) (cf_ (q := 0) (s := 1) (jj := 0) (cs := [int 4]) tabOk rfl rfl l0_ rfl rfl rfl) rfl) rfl rfl<|q_ 1 rfl<|g_<|b_<|c_<|a_<|q_ 4 rfl<|d_ (i_ (C := mapV R.pd) (h_ tabOk rfl rfl r2_ List.not_mem_nil rfl) rfl) rfl rfl<|q_ 1 rfl<|d_ (i_ (C := coreA c) (aZ_ (a := (4 : Int)) (m := [(4, c)]) (enc := coE) (z0 := co0) (zv := zco) (bh_ Tryz.underlying3) Tryz.underlying113 gj_ gk_ rfl r3_ List.not_mem_nil rfl is_v (by unfold intOk; simp only [InR, lo, hi]; omega)) rfl) rfl rfl ?_
 refine m_ (g9_ (p := p) (bd := bd) (bt := bt) (N := N + z) (me := me) (R := R) (c := c) (dr := dr) (o := o) (st := st) (t := t) (mk := mk) h1 h2 (by omega) hm hc) Casts.refl (by kernel_rfl) rfl rfl rfl ?_
 refine aA_ (ys := [.rd R.r 118 (R.cells p me dr o), .rd R.vv 160 [int 4, mapV R.vm], .rdpc (tmPc R.vm paV paOk voE (vm1 (me : Int) st t mk))]) rfl i1_ (by intro y hy; simp only [List.mem_cons, List.not_mem_nil, or_false] at hy; rcases hy with rfl | rfl | rfl <;> exact ⟨(by repeat first|assumption|exact m0_|apply m1_), by intro h; cases h⟩) rfl (fun _ => rfl) ?_
 intro _
 refine ⟨_, u1_, g_<|b_<|I_ rfl<|s_<|A_<|b_<|a_<|d_ (E_ rfl rfl (by simp only [InR, lo, hi]; omega)) rfl rfl ?_⟩
 refine q_ 1 rfl<|g_<|J_ (z + 1) (by omega) (by omega) (by exact ⟨rfl, rfl, rfl, rfl, trivial⟩) sr_
set_option maxHeartbeats 1000000 in
theorem rready_s (h1 : c.letter.size ≤ 1000) (h2 : c.text.size ≤ 1000) (hN : N ≤ 90000) (hm : me < 4) (hc : c.client = 4) : Spec Tryz.prog 193 [ptr R.r] [wb p bd bt N, .rd R.r 118 (R.cells p me dr o), .rdpc (tmPc R.pd intK intOk coE [(4, c)]), .rd R.vv 160 [int 4, mapV R.vm], .rdpc (tmPc R.vm paV paOk voE (vm1 (me : Int) st t mk))] (fun _ : Unit => [wb p bd bt (N + 1)]) (fun _ => .v (.slice none 0 0)) := by
 refine t_ Tryz.func193 rfl Tryz.ntmps193 rfl fun G w =>c_<|a_<|q_ 1 rfl<|g_<|b_<|c_<|a_<|q_ 1 rfl<|g_<|b_<|c_<|c_<|a_<|q_ 1 rfl<|m_ (rcli_s (p := p) (me := me) (R := R) (c := c) (dr := dr) (o := o)) Casts.refl (by kernel_rfl) rfl rfl rfl ?_
 refine Y_ (by repeat (first | exact Reads.nil | (refine Reads.blk ?_ ?_; focus ((repeat first|assumption|exact m0_|apply m1_); done)) | (refine Reads.rd ?_ ?_; focus ((repeat first|assumption|exact m0_|apply m1_); done)) | (refine Reads.pc ?_ ?_; focus ((repeat first|assumption|exact m0_|apply m1_); done)) | (refine Reads.rdpc ?_ ?_; focus ((repeat first|assumption|exact m0_|apply m1_); done)))) (fun _ => rfl) ?_
 intro r9
 refine d_ (aG_ (m := 1) rfl i0_ Tryz.underlying22 rfl) rfl rfl<|q_ 1 rfl<|g_<|b_<|w_<|S_ (ι := Nat) (fun z => [own 3 1 r9 [[int 4]], wb p bd bt (N + z), .rd R.r 118 (R.cells p me dr o), .rdpc (tmPc R.pd intK intOk coE [(4, c)]), .rd R.vv 160 [int 4, mapV R.vm], .rdpc (tmPc R.vm paV paOk voE (vm1 (me : Int) st t mk))]) (fun z => [(0, ptr R.r), (3, .v (.slice none 0 0)), (9, .v r9), (10, int (1 : Nat)), (11, int (z : Nat))]) (fun z => z ≤ 1) (fun z => 1 - z) (0) (Nat.zero_le _) (by exact ⟨rfl, rfl, rfl, rfl, rfl, trivial⟩) sr_ ?_
 intro z hz
 refine c_<|a_<|q_ 1 rfl<|g_<|b_<|c_<|n_ rfl ?_ ?_
 rotate_left
 ·intro hc12
  have hz1 : z = 1 := by omega
  subst hz1
  exact O_<|k_ nofun<|k_ nofun<|N_<|b_<|c_<|a_<|q_ 2 rfl<|g_<|b_<|o_<|f_ (rs := [.tmp 2]) rfl (RV.tmp rfl RV.nil) (()) (sk_ (sc_ sn_))<|rfl
 intro hc12
 have hz0 : ((z : Nat) : Int) = ((0 : Nat) : Int) := by omega
 refine s_<|b_<|c_<|w_<|c_<|a_<|d_ (aP_ (q := 0) tabOk Tryz.underlying22 rfl rfl l0_ rfl hz0 (by simp) rfl rfl) rfl rfl ?_
 refine d_ (i_ (C := int 4) (cf_ (q := 0) (s := 1) (jj := 0) (cs := [int 4]) tabOk rfl rfl l0_ rfl rfl rfl) rfl) rfl rfl<|q_ 1 rfl<|g_<|b_<|c_<|a_<|q_ 3 rfl<|d_ (i_ (C := mapV R.pd) (h_ tabOk rfl rfl r2_ List.not_mem_nil rfl) rfl) rfl rfl<|q_ 1 rfl<|d_ (i_ (C := coreA c) (aZ_ (a := (4 : Int)) (m := [(4, c)]) (enc := coE) (z0 := co0) (zv := zco) (bh_ Tryz.underlying3) Tryz.underlying113 gj_ gk_ rfl r3_ List.not_mem_nil rfl is_v (by unfold intOk; simp only [InR, lo, hi]; omega)) rfl) rfl rfl ?_
 refine eb_ (F_ tabOk rfl) rfl rfl fun b6=>?_
 refine e_ (p_ (L' := c.cells.map .v) tabOk rfl rfl rfl u0_ rfl (Nat.le_of_ble_eq_true rfl) rfl (by exact x_ rfl)) rfl rfl ?_
 refine g_<|b_<|c_<|aw_ (p := b6 ∉ [p, bd, bt]) (fun _ _ h => by
   have h1 := h.mem.nodup
   simp [mids, It.mids, ownPc, mapPc, tmPc, wbP, exP] at h1 ⊢
   grind) fun hB => ?_
 refine T_ [p, bd, bt] (.q 0 (.q 1 (.e 2 (.q 3 (.q 4 (.q 5 (.q 6 (.q 7 (.q 8 (.e 9 (.q 10 (.q 11 .nil)))))))))))) (by kernel_rfl) (by kernel_rfl) ?_
 refine X_ (by (simp [mids, It.mids, ownPc, mapPc, tmPc, wbP, exP]; done)) fun hx9 => ?_
 refine qx_ 1 hx9 rfl<|j_ rfl (i_ (C := coreA c) (y_ tabOk rfl rfl rfl l0_ hB rfl) rfl) hx9 rfl rfl<|H_ rfl (g9_ (p := p) (bd := bd) (bt := bt) (N := N + z) (me := me) (R := R) (c := c) (dr := dr) (o := o) (st := st) (t := t) (mk := mk) h1 h2 (by omega) hm hc) (by simp [mids, It.mids, wbP, exP]) Casts.refl (by kernel_rfl) rfl rfl rfl ?_
 refine aA_ (ys := [.rd R.r 118 (R.cells p me dr o), .rd R.vv 160 [int 4, mapV R.vm], .rdpc (tmPc R.vm paV paOk voE (vm1 (me : Int) st t mk))]) rfl i2_ (by intro y hy; simp only [List.mem_cons, List.not_mem_nil, or_false] at hy; rcases hy with rfl | rfl | rfl <;> exact ⟨(by repeat first|assumption|exact m0_|apply m1_), by intro h; cases h⟩) rfl (fun _ => rfl) ?_
 intro _
 refine ⟨_, u2_, X_ (by (simp [mids, It.mids, ownPc, mapPc, tmPc, wbP, exP]; done)) fun hx9 => ?_⟩
 refine qx_ 6 hx9 rfl<|bc_ rfl rfl rfl<|qx_ 2 hx9 rfl<|C_<|b_<|I_ rfl<|s_<|A_<|b_<|a_<|d_ (E_ rfl rfl (by simp only [InR, lo, hi]; omega)) rfl rfl ?_
 refine q_ 1 rfl<|g_<|J_ (z + 1) (by omega) (by omega) (by exact ⟨rfl, rfl, rfl, rfl, rfl, trivial⟩) (sk_ sr_)
theorem tmstop_s  : Spec Tryz.prog 114 [ptr R.t] [.blk R.t 173 [int 32, int 0]] (fun _ : Unit => [.blk R.t 173 [int 32, int 0]]) (fun _ => .tup []) := by
 refine t_ Tryz.func114 rfl Tryz.ntmps114 rfl fun G w =>c_<|a_<|q_ 1 rfl<|d_ (bz_ rfl rfl (by kernel_rfl)) rfl rfl ?_
 refine g_<|b_<|ab_ rfl<|a_<|q_ 3 rfl<|e_ (p_ (L' := [int 32, int 0]) tabOk rfl rfl rfl u0_ rfl (Nat.le_of_ble_eq_true rfl) rfl rfl) rfl rfl<|g_<|bK_ (rs := []) rfl RV.nil (()) sr_ (by simp [It.rids]) ?_
 exact rfl
theorem rwait_s (h1 : c.letter.size ≤ 1000) (h2 : c.text.size ≤ 1000) (hN : N ≤ 90000) (hm : me < 4) (hc : c.client = 4) : Spec Tryz.prog 129 [ptr R.r] [.blk R.t 173 [int 32, int 0], wb p bd bt N, .rd R.r 118 (R.cells p me dr o), .rdpc (tmPc R.pd intK intOk coE [(4, c)]), .rd R.vv 160 [int 4, mapV R.vm], .rdpc (tmPc R.vm paV paOk voE (vm1 (me : Int) st t mk))] (fun _ : Unit => [.blk R.t 173 [int 32, int 0], wb p bd bt (N + 1)]) (fun _ => .tup []) := by
 refine t_ Tryz.func129 rfl Tryz.ntmps129 rfl fun G w =>c_<|c_<|aw_ (p := R.r ∉ [p, bd, bt]) (fun _ _ h => by
   intro hm
   have h2 := h.mem.ro (.rd R.r _ _) (by repeat first | exact List.mem_cons_self | apply List.mem_cons_of_mem) R.r (by simp [It.rids])
   exact h.mem.sep R.r (by simp [mids, It.mids, wbP, exP, tmPc, ownPc] at hm ⊢; grind) h2) fun hR => ?_
 refine T_ [p, bd, bt] (.q 0 (.q 1 (.q 2 (.q 3 (.q 4 (.q 5 (.e 6 (.q 7 (.q 8 (.q 9 (.q 10 (.q 11 (.q 12 (.q 13 (.q 14 (.q 15 (.q 16 (.q 17 (.q 18 (.q 19 (.q 20 (.q 21 (.q 22 (.q 24 (.e 23 (.e 25 (.q 26 (.q 27 (.q 28 .nil))))))))))))))))))))))))))))) (by kernel_rfl) (by kernel_rfl) ?_
 refine X_ (by (simp [mids, It.mids, ownPc, mapPc, tmPc, wbP, exP]; done)) fun hx9 => ?_
 refine qx_ 3 hx9 rfl<|j_ rfl (i_ (C := boo true) (h_ tabOk rfl rfl r2_ hR rfl) rfl) hx9 rfl rfl<|qx_ 2 hx9 rfl<|H_ rfl (rwait0_s (p := p) (bd := bd) (bt := bt) (N := N) (me := me) (R := R) (c := c) (dr := dr) (o := o) (st := st) (t := t) (mk := mk) h1 h2 hN hm hc) (by simp [mids, It.mids, wbP, exP]) Casts.refl (by kernel_rfl) rfl rfl rfl ?_
 refine aA_ (ys := [.rd R.r 118 (R.cells p me dr o), .rdpc (tmPc R.pd intK intOk coE [(4, c)]), .rd R.vv 160 [int 4, mapV R.vm], .rdpc (tmPc R.vm paV paOk voE (vm1 (me : Int) st t mk))]) rfl i1_ (by intro y hy; simp only [List.mem_cons, List.not_mem_nil, or_false] at hy; rcases hy with rfl | rfl | rfl | rfl <;> exact ⟨(by repeat first|assumption|exact m0_|apply m1_), by intro h; cases h⟩) rfl (fun _ => rfl) ?_
 intro _
 refine ⟨_, u1_, X_ (by (simp [mids, It.mids, ownPc, mapPc, tmPc, wbP, exP]; done)) fun hx9 => ?_⟩
 refine qx_ 5 hx9 rfl<|j_ rfl (i_ (C := boo true) (h_ tabOk rfl rfl r2_ hR rfl) rfl) hx9 rfl rfl<|j_ rfl (bb_ rfl) hx9 rfl rfl<|qx_ 10 hx9 rfl<|bc_ rfl rfl rfl<|bc_ rfl rfl rfl<|qx_ 3 hx9 rfl<|C_<|b_<|I_ rfl<|s_<|b_<|a_<|q_ 3 rfl<|d_ (i_ (C := ptr R.t) (h_ tabOk rfl rfl r2_ List.not_mem_nil rfl) rfl) rfl rfl<|m_ (tmstop_s (R := R)) Casts.refl (by kernel_rfl) rfl rfl rfl ?_
 refine Q_ rfl i0_ (fun _ => rfl)<|fun _=>⟨_, u0_, g_<|bK_ (rs := []) rfl RV.nil (()) (sc_ (sc_ sn_)) (by simp [It.rids]) ?_⟩
 exact rfl
end
end Go.Proofs.YtjclgkddfjbdiaaGreatDoor.A
namespace Go.Proofs.YtjclgkddfjbdiaaGreatDoor.A
open Go.RowKit Go.Maps Go.Sort Go.Shelf
theorem jm_ {K : List Nat} {w : World} : ∀ {xs : List Int} {us : List Value}, repss K w 1 (xs.map fun x => [int x]) us → us = xs.map (Value.int .i64)
  | [], us, h => h
  | x :: xs, us, h => by
    obtain ⟨us1, us2, rfl, hl, h1, h2⟩ := h
    obtain ⟨u, us3, rfl, h3, h4⟩ := h1
    have h3 : u = Value.int .i64 x := h3
    have h4 : us3 = [] := h4
    subst h3 h4
    rw [jm_ h2]
    rfl
theorem sort64_s {v : Value} {xs : List Int} (hl : xs.length ≤ 1000000) : Spec Tryz.prog 294 [.v v] [own 2 1 v (xs.map fun x => [int x])] (fun _ : Unit => [own 2 1 v ((srt xs).map fun x => [int x])]) (fun _ => .tup []) := fun G w vals hm hv => by
  obtain ⟨_, _, rfl, h4, h5⟩ := hv
  have h4 : _ = v := h4
  have h5 : _ = [] := h5
  subst h4 h5
  obtain ⟨us, hown, hr⟩ : (ownPc 2 1 _ (xs.map fun x => [int x])).p _ w := hm.hold (own 2 1 _ (xs.map fun x => [int x])) List.mem_cons_self
  have hus := jm_ hr
  subst hus
  have hlen : (xs.map fun x => [int x]).length = xs.length := List.length_map _
  rw [hlen] at hown
  rcases hown.2 with ⟨h0, h1⟩ | ⟨gb, cap, cur, h0, hb, hg, hn, hc, hcs, htk⟩
  · subst h0
    have h2 : xs = [] := List.length_eq_zero_iff.1 h1
    subst h2
    refine (AnyM.slices_Sort_int_none bV_ none 0 w).mono fun e w' ⟨he, hw⟩ => ?_
    subst he hw
    exact ⟨(), _, rfl, by simp [It.rids], by rw [show srt ([] : List Int) = [] by simp [srt]]; exact hm, ⟨[], rfl, rfl⟩⟩
  · subst h0
    rw [Nat.mul_one] at htk hcs
    have hgl := aN_ hg
    refine (AnyM.slices_Sort_int bV_ gb 0 cap xs w (holds_of_blockI hg htk) hgl (by omega)).mono fun e w' ⟨he, n, os, hw⟩ => ?_
    subst he
    have hs : (xs.mergeSort fun x y => decide (x ≤ y)) = srt xs := rfl
    rw [hs] at hw
    have hgb := grownBy_sortedI (w := w) (g := gb) (n := n) (os := os) (srt xs).toArray
    have hx : Ext (own 2 1 (.slice (some ⟨gb, 0, none⟩) xs.length cap) (xs.map fun x => [int x])).mids w w' := by
      subst hw
      exact ⟨hgb.os, hgb.tape, hgb.output, hgb.size, fun k hk hn => hgb.block k hk (fun h9 => hn (by cases h9; simp [It.mids, ownPc, Value.ownBlock]))⟩
    have hm2 := hm.upd (y := own 2 1 (.slice (some ⟨gb, 0, none⟩) xs.length cap) ((srt xs).map fun x => [int x])) Upd.here hx aM_ (fun k hk => .inl hk) rfl fun _ => ⟨(srt xs).map (Value.int .i64), by
      have h9 := ownsRow_sortedI (w := w) (base := 0) (n := n) (e := 2) (os := os) (ts := srt xs) (bL_ xs) hb hg hn hc (by rw [hcs, Nat.mul_one])
      rw [← hw] at h9
      rw [List.length_map, bL_]
      exact h9, dj_⟩
    exact ⟨(), _, rfl, by simp [It.rids], hm2.1, ⟨[], rfl, rfl⟩⟩
theorem opt_some {α : Type} {o : Option α} (h : o.isSome = true) : ∃ v, o = some v := Option.isSome_iff_exists.1 h
theorem opt_none {α : Type} {o : Option α} (h : o.isSome = false) : o = none := by simpa using h
theorem stb {me : Nat} {ow : Ow} {k : Int} {vs : List (List Pnt)} (hm : me < 4) : bestF [(0, ow)] vs (votesI 4 me [(0, ow)] vs (me : Nat)) 0 k = none := by
  rw [fu_ hm]
  unfold bestF ownP
  rw [show srt ([((0 : Int), ow)].map (·.1)) = [0] from by simp [srt]]
  simp
theorem pts_new {me : Nat} {ow : Ow} (hm : me < 4) : PtsOk 4 me [(0, ow)] (List.replicate 4 []) where
  n1 := by omega
  n7 := by omega
  slf := hm
  len := rfl
  rise := fun l hl => by rw [List.eq_of_mem_replicate hl]; exact List.Pairwise.nil
  few := fun l hl => by rw [List.eq_of_mem_replicate hl]; exact Nat.zero_le _
  ins := fun l hl x hx => by rw [List.eq_of_mem_replicate hl] at hx; cases hx
  keys := fun e he => by rw [List.mem_singleton] at he; subst he; simp only [InR, lo, hi]; omega
  nd := by simp
  om := by simp
section
variable {p bd bt N me k : Nat} {R : RI} {c : Core} {o : Abs} {st x : Int} {t d : Tg} {mk : Wo} {dr : Int} {caps : List Abs}
theorem idf0_s  : Spec Tryz.prog 309 [.v (.slice none 0 0), .fn (.func k) [] caps] [] (fun _ : Unit => []) (fun _ => int (-1)) := by
 refine t_ Tryz.func309 rfl Tryz.ntmps309 rfl fun G w =>c_<|a_<|q_ 1 rfl<|g_<|b_<|c_<|c_<|a_<|q_ 1 rfl<|d_ (af_ (m := 0) rfl Tryz.underlying282) rfl rfl<|q_ 1 rfl<|g_<|b_<|w_<|S_ (ι := Unit) (fun z => []) (fun z => [(7, int (0 : Nat)), (8, int 0)]) (fun z => True) (fun z => 0) (()) (trivial) (by exact ⟨rfl, rfl, trivial⟩) sn_ ?_
 intro z hz
 refine c_<|a_<|q_ 1 rfl<|g_<|b_<|c_<|n_ rfl (by intro hc9; exfalso; omega) ?_
 intro hc9
 exact O_<|k_ nofun<|k_ nofun<|N_<|b_<|c_<|a_<|q_ 1 rfl<|g_<|b_<|o_<|f_ (rs := [.tmp 4]) rfl (RV.tmp rfl RV.nil) (()) sn_<|rfl
theorem dlf0_s  : Spec Tryz.prog 233 [.v (.slice none 0 0), .fn (.func k) [] caps] [] (fun _ : Unit => []) (fun _ => .v (.slice none 0 0)) := by
 refine t_ Tryz.func233 rfl Tryz.ntmps233 rfl fun G w =>c_<|a_<|q_ 1 rfl<|g_<|b_<|c_<|a_<|q_ 2 rfl<|m_ (idf0_s) Casts.refl (by kernel_rfl) rfl rfl rfl ?_
 refine ap_<|fun _=>q_ 1 rfl<|g_<|b_<|c_<|c_<|a_<|q_ 2 rfl<|g_<|b_<|n_ rfl ?_ (by intro hc12; exfalso; omega)
 intro hc12
 exact c_<|a_<|q_ 2 rfl<|g_<|b_<|o_<|k_ nofun<|f_ (rs := [.tmp 4]) rfl (RV.tmp rfl RV.nil) (()) sn_<|rfl
theorem hvw0_s  : Spec Tryz.prog 234 [ptr R.h, int 0] [.pc (tmPc R.hm intK intOk pE []), .rd R.h 167 [bkI p, int 4, mapV R.hm, .v R.hv]] (fun _ : Unit => [.pc (tmPc R.hm intK intOk pE [])]) (fun _ => .v (.slice none 0 0)) := by
 refine t_ Tryz.func234 rfl Tryz.ntmps234 rfl fun G w =>c_<|a_<|q_ 1 rfl<|g_<|b_<|c_<|c_<|a_<|q_ 1 rfl<|d_ (ax_ rfl rfl (by kernel_rfl)) rfl rfl ?_
 refine g_<|b_<|I_ rfl<|s_<|b_<|c_<|a_<|q_ 1 rfl<|g_<|b_<|c_<|c_<|a_<|q_ 3 rfl<|d_ (i_ (C := mapV R.hm) (h_ tabOk rfl rfl r1_ List.not_mem_nil rfl) rfl) rfl rfl<|jZ_ [] rfl fun tm htm => ?_
 obtain rfl : tm = [] := by simpa [plM] using htm
 refine eb_ (gf_ (K := intK) (V := id) (Good := intOk) (m := rawM []) Tryz.underlying164 rfl (fun _ => u1_)) rfl rfl fun r14=>?_
 refine g_<|b_<|w_<|S_ (ι := Unit) (fun z => [facts (facM pE []), .pc (rngPc R.hm r14 intK id intOk (rawM []) (rawM []) none), .rd R.h 167 [bkI p, int 4, mapV R.hm, .v R.hv]]) (fun z => [(1, int 0), (5, .v (.slice none 0 0)), (14, ptr r14)]) (fun z => True) (fun z => 0) (()) (trivial) (by exact ⟨rfl, rfl, rfl, trivial⟩) sr_ ?_
 intro z hz
 refine c_<|a_<|aT_ (gW_ (K := intK) (V := id) (Good := intOk) (m := rawM []) (rest := rawM []) (cur := none) rfl (fun _ _ => u1_)) rfl rfl ?_
 rintro _ _ ⟨o, rest', ho, hpo, rfl, rfl⟩
 refine q_ 1 rfl<|g_<|b_<|c_<|ay_ rfl (by intro hc16; exfalso; obtain ⟨p, rfl⟩ := opt_some hc16; have := (hpo p rfl).1; simp [rawM] at this) ?_
 intro hc16
 have ho2 := opt_none hc16
 subst ho2
 have hr0 := ho rfl
 refine O_<|k_ nofun<|k_ nofun<|N_<|b_<|c_<|il_ u1_<|b8_ [] (Re.tmIn (tm := []) htm) rfl<|aO_ 2 1<|a_<|q_ 1 rfl<|m_ (sort64_s (v := .slice none 0 0) (xs := []) (by simp)) Casts.refl (by kernel_rfl) rfl rfl rfl ?_
 refine M_ [] (β := _) rfl (by intro x hx; simp only [List.mem_cons, List.not_mem_nil, or_false] at hx; rcases hx with rfl; rfl) ?_
 intro _
 exact g_<|b_<|c_<|a_<|q_ 2 rfl<|g_<|b_<|o_<|f_ (rs := [.tmp 4]) rfl (RV.tmp rfl RV.nil) (()) (sk_ (sc_ sn_))<|rfl
theorem hjoin0_s  : Spec Tryz.prog 166 [ptr R.h, int 0] [.pc (tmPc R.hm intK intOk pE []), .rd R.h 167 [bkI p, int 4, mapV R.hm, .v R.hv]] (fun _ : Unit => [.pc (tmPc R.hm intK intOk pE [])]) (fun _ => .tup [int 0, boo false]) := by
 refine t_ Tryz.func166 rfl Tryz.ntmps166 rfl fun G w =>c_<|a_<|eb_ (a3_ rfl rfl) rfl rfl fun b3=>?_
 refine q_ 2 rfl<|g_<|b_<|c_<|c_<|a_<|q_ 1 rfl<|d_ (ax_ rfl rfl (by kernel_rfl)) rfl rfl ?_
 refine g_<|b_<|I_ rfl<|s_<|b_<|c_<|a_<|q_ 1 rfl<|d_ (i_ (C := int 0) (h_ tabOk rfl rfl l0_ List.not_mem_nil rfl) rfl) rfl rfl<|m_ (hvw0_s (p := p) (R := R)) Casts.refl (by kernel_rfl) rfl rfl rfl ?_
 refine aA_ (ys := [.rd R.h 167 [bkI p, int 4, mapV R.hm, .v R.hv]]) rfl i1_ (by intro y hy; rw [List.mem_singleton] at hy; subst hy; exact ⟨i2_, by intro h; cases h⟩) rfl (fun _ => rfl) ?_
 intro _
 refine ⟨_, u1_, d_ (ag_ rfl rfl) rfl rfl<|m_ (dlf0_s) Casts.refl (by kernel_rfl) rfl rfl rfl ?_⟩
 refine ap_<|fun _=>q_ 1 rfl<|g_<|b_<|c_<|c_<|a_<|q_ 1 rfl<|d_ (af_ (m := 0) rfl Tryz.underlying282) rfl rfl<|q_ 3 rfl<|d_ (i_ (C := int 4) (h_ tabOk rfl rfl r2_ List.not_mem_nil rfl) rfl) rfl rfl<|m_ (hw_ (n := 4) (by omega)) Casts.refl (by kernel_rfl) rfl rfl rfl ?_
 refine ap_<|fun _=>q_ 1 rfl<|g_<|b_<|n_ rfl ?_ (by intro hc21; exfalso; exact hc21 (by decide))
 intro hc21
 exact c_<|a_<|q_ 2 rfl<|g_<|b_<|o_<|k_ nofun<|f_ (rs := [.tmp 4, .tmp 5]) rfl (RV.tmp rfl (RV.tmp rfl RV.nil)) (()) (sk_ (sc_ sn_))<|rfl
theorem rjoin_s  : Spec Tryz.prog 122 [ptr R.r] [.pc (tmPc R.hm intK intOk pE []), .rd R.h 167 [bkI p, int 4, mapV R.hm, .v R.hv], .rd R.r 118 (R.cells p me dr o)] (fun _ : Unit => [.pc (tmPc R.hm intK intOk pE [])]) (fun _ => boo false) := by
 refine t_ Tryz.func122 rfl Tryz.ntmps122 rfl fun G w =>c_<|a_<|q_ 1 rfl<|g_<|b_<|c_<|aw_ (p := R.r ∉ [R.hm]) (fun _ _ h => by
   intro hm
   have h2 := h.mem.ro (.rd R.r _ _) (by repeat first | exact List.mem_cons_self | apply List.mem_cons_of_mem) R.r (by simp [It.rids])
   exact h.mem.sep R.r (by simp [mids, It.mids, tmPc] at hm ⊢; grind) h2) fun hR => ?_
 refine T_ [R.hm] (.q 0 (.q 1 (.q 2 (.q 3 (.q 4 (.q 5 (.q 6 (.q 7 (.e 8 (.q 9 (.q 10 (.q 11 (.q 12 (.q 13 .nil)))))))))))))) (by kernel_rfl) (by kernel_rfl) ?_
 refine X_ (by (simp [mids, It.mids, ownPc, mapPc, tmPc, wbP, exP]; done)) fun hx9 => ?_
 refine qx_ 3 hx9 rfl<|j_ rfl (i_ (C := ptr R.h) (h_ tabOk rfl rfl r2_ hR rfl) rfl) hx9 rfl rfl<|qx_ 3 hx9 rfl<|j_ rfl (i_ (C := int 0) (h_ tabOk rfl rfl r2_ hR rfl) rfl) hx9 rfl rfl<|H_ rfl (hjoin0_s (p := p) (R := R)) (by simp [mids, It.mids, tmPc]) Casts.refl (by kernel_rfl) rfl rfl rfl ?_
 refine aA_ (ys := [.rd R.h 167 [bkI p, int 4, mapV R.hm, .v R.hv]]) rfl i0_ (by intro y hy; rw [List.mem_singleton] at hy; subst hy; exact ⟨i1_, by intro h; cases h⟩) rfl (fun _ => rfl) ?_
 intro _
 refine ⟨_, u0_, X_ (by (simp [mids, It.mids, ownPc, mapPc, tmPc, wbP, exP]; done)) fun hx9 => ?_⟩
 exact qx_ 5 hx9 rfl<|C_<|b_<|c_<|c_<|a_<|q_ 1 rfl<|g_<|b_<|I_ rfl<|s_<|b_<|c_<|a_<|q_ 2 rfl<|g_<|b_<|o_<|f_ (rs := [.tmp 2]) rfl (RV.tmp rfl RV.nil) (()) (sc_ sn_)<|rfl
theorem llow_s  : Spec Tryz.prog 115 [ptr R.lg] [.rd R.lg 153 [int 4, int 0, mapV R.lm]] (fun _ : Unit => []) (fun _ => int 0) := by
 refine t_ Tryz.func115 rfl Tryz.ntmps115 rfl fun G w =>c_<|a_<|q_ 1 rfl<|g_<|b_<|c_<|c_<|a_<|q_ 1 rfl<|d_ (ax_ rfl rfl (by kernel_rfl)) rfl rfl ?_
 exact g_<|b_<|I_ rfl<|s_<|b_<|c_<|a_<|q_ 3 rfl<|d_ (i_ (C := int 0) (h_ tabOk rfl rfl r0_ List.not_mem_nil rfl) rfl) rfl rfl<|q_ 1 rfl<|g_<|b_<|o_<|f_ (rs := [.tmp 2]) rfl (RV.tmp rfl RV.nil) (()) sn_<|rfl
theorem lin_s  : Spec Tryz.prog 172 [ptr R.lg, int 1] [.rd R.lg 153 [int 4, int 0, mapV R.lm]] (fun _ : Unit => []) (fun _ => boo true) := by
 refine t_ Tryz.func172 rfl Tryz.ntmps172 rfl fun G w =>c_<|a_<|q_ 1 rfl<|g_<|b_<|c_<|a_<|q_ 1 rfl<|d_ (bz_ rfl rfl (by kernel_rfl)) rfl rfl ?_
 refine q_ 5 rfl<|d_ (i_ (C := int 0) (h_ tabOk rfl rfl r0_ List.not_mem_nil rfl) rfl) rfl rfl<|q_ 3 rfl<|D_ (t := 15) rfl ?_ (by intro hc15; exfalso; omega)
 intro hc15
 refine q_ 4 rfl<|d_ (i_ (C := int 0) (h_ tabOk rfl rfl r0_ List.not_mem_nil rfl) rfl) rfl rfl<|d_ (E_ rfl rfl (by simp only [InR, lo, hi]; omega)) rfl rfl ?_
 exact d_ (dO_ rfl rfl) rfl rfl<|q_ 3 rfl<|g_<|b_<|o_<|f_ (rs := [.tmp 4]) rfl (RV.tmp rfl RV.nil) (()) sn_<|congrArg (fun b => Abs.v (Value.bool b)) (by decide)
theorem iY_ (hm : me < 4) : Spec Tryz.prog 167 [ptr R.pp, int 0] [.rd R.pp 157 [int ((4 : Nat) : Int), int (me : Nat), mapV R.om, .v R.pv], .rdpc (ownPc 199 1 R.pv ((List.replicate 4 []).map fun l => [pntsA l])), .rdpc (tmPc R.om intK intOk Ow.enc [(0, R.ow)])] (fun _ : Unit => []) (fun _ => .tup [.agg (ptO none).abs, boo false]) := by
  have h := iX_ (n := 4) (me := me) (bp := R.pp) (bm := R.om) (vv := R.pv) (above := 0) (pts_new (ow := R.ow) hm)
  rw [stb hm] at h
  exact h
theorem iR_ (hm : me < 4) : Spec Tryz.prog 123 [ptr R.r] [.rd R.r 118 (R.cells p me dr o), .rd R.lg 153 [int 4, int 0, mapV R.lm], .rd R.pp 157 [int ((4 : Nat) : Int), int (me : Nat), mapV R.om, .v R.pv], .rdpc (ownPc 199 1 R.pv ((List.replicate 4 []).map fun l => [pntsA l])), .rdpc (tmPc R.om intK intOk Ow.enc [(0, R.ow)])] (fun _ : Unit => []) (fun _ => boo false) := by
 refine t_ Tryz.func123 rfl Tryz.ntmps123 rfl fun G w =>c_<|a_<|q_ 1 rfl<|g_<|b_<|cj_ (ι := Nat) (fun y => [.blk y 203 (ptO none).abs, .rd R.r 118 (R.cells p me dr o), .rd R.lg 153 [int 4, int 0, mapV R.lm], .rd R.pp 157 [int ((4 : Nat) : Int), int (me : Nat), mapV R.om, .v R.pv], .rdpc (ownPc 199 1 R.pv ((List.replicate 4 []).map fun l => [pntsA l])), .rdpc (tmPc R.om intK intOk Ow.enc [(0, R.ow)])]) (fun y => [(0, ptr R.r), (3, ptr y), (4, boo false)]) (fun y => True) ?_ ?_
 ·skip
  refine T_ [] (.q 0 (.q 1 (.q 2 (.q 3 (.q 4 (.q 5 (.q 6 (.q 7 (.two 8 13 (.two 9 13 (.q 10 (.q 11 (.q 12 (.e 13 (.e 14 (.q 15 .nil)))))) (.e 9 (.q 10 (.q 11 (.q 12 (.e 14 (.q 15 .nil))))))) (.e 8 (.e 9 (.q 10 (.q 11 (.q 12 (.e 14 (.q 15 .nil)))))))))))))))) (by kernel_rfl) (by kernel_rfl) ?_
  refine qs_ 3 rfl<|X_ (by (simp [mids, It.mids, ownPc, mapPc, tmPc, wbP, exP]; done)) fun hx9 => ?_
  refine j_ rfl (i_ (C := ptr R.pp) (h_ tabOk rfl rfl r0_ List.not_mem_nil rfl) rfl) hx9 rfl rfl<|qs_ 3 rfl<|j_ rfl (i_ (C := ptr R.lg) (h_ tabOk rfl rfl r0_ List.not_mem_nil rfl) rfl) hx9 rfl rfl<|aQ_ ?_ ?_
  ·skip
   refine H_ rfl (llow_s (R := R)) (by simp [mids, It.mids]) Casts.refl (by kernel_rfl) rfl rfl rfl ?_
   refine ap_<|fun _=>aQ_ ?_ ?_
   ·skip
    refine H_ rfl (iY_ (R := R) hm) (by simp [mids, It.mids]) Casts.refl (by kernel_rfl) rfl rfl rfl ?_
    refine ap_<|fun _=>X_ (by (simp [mids, It.mids, ownPc, mapPc, tmPc, wbP, exP]; done)) fun hx9 => ?_
    refine qx_ 1 hx9 rfl<|qs_ 2 rfl<|be_ tabOk rfl rfl rfl rfl fun b3 =>ex_ rfl (p_ (L' := (ptO none).abs) tabOk rfl rfl rfl u0_ (Pnt.size _) (Nat.le_of_ble_eq_true rfl) (Pnt.ones _) (by exact x_ (Pnt.size _))) (by simp) rfl rfl ?_
    refine X_ (by (simp [mids, It.mids, ownPc, mapPc, tmPc, wbP, exP]; done)) fun hx9 => ?_
    refine qx_ 1 hx9 rfl<|C_<|R_ (b3) (trivial) (by exact ⟨rfl, rfl, rfl, trivial⟩) sr_
   skip
   refine be_ tabOk rfl rfl rfl rfl fun b3 =>H_ rfl (iY_ (R := R) hm) (by simp [mids, It.mids]) Casts.refl (by kernel_rfl) rfl rfl rfl ?_
   refine ap_<|fun _=>X_ (by (simp [mids, It.mids, ownPc, mapPc, tmPc, wbP, exP]; done)) fun hx9 => ?_
   refine qx_ 3 hx9 rfl<|ex_ rfl (p_ (L' := (ptO none).abs) tabOk rfl rfl rfl u0_ (Pnt.size _) (Nat.le_of_ble_eq_true rfl) (Pnt.ones _) (by exact x_ (Pnt.size _))) (by simp) rfl rfl ?_
   refine X_ (by (simp [mids, It.mids, ownPc, mapPc, tmPc, wbP, exP]; done)) fun hx9 => ?_
   refine qx_ 1 hx9 rfl<|C_<|R_ (b3) (trivial) (by exact ⟨rfl, rfl, rfl, trivial⟩) sr_
  skip
  refine be_ tabOk rfl rfl rfl rfl fun b3 =>H_ rfl (llow_s (R := R)) (by simp [mids, It.mids]) Casts.refl (by kernel_rfl) rfl rfl rfl ?_
  refine ap_<|fun _=>H_ rfl (iY_ (R := R) hm) (by simp [mids, It.mids]) Casts.refl (by kernel_rfl) rfl rfl rfl ?_
  refine ap_<|fun _=>X_ (by (simp [mids, It.mids, ownPc, mapPc, tmPc, wbP, exP]; done)) fun hx9 => ?_
  refine qx_ 3 hx9 rfl<|ex_ rfl (p_ (L' := (ptO none).abs) tabOk rfl rfl rfl u0_ (Pnt.size _) (Nat.le_of_ble_eq_true rfl) (Pnt.ones _) (by exact x_ (Pnt.size _))) (by simp) rfl rfl ?_
  refine X_ (by (simp [mids, It.mids, ownPc, mapPc, tmPc, wbP, exP]; done)) fun hx9 => ?_
  refine qx_ 1 hx9 rfl<|C_<|R_ (b3) (trivial) (by exact ⟨rfl, rfl, rfl, trivial⟩) sr_
 intro y hy
 refine c_<|c_<|T_ [] (.q 0 (.q 1 (.q 2 (.q 3 (.q 4 (.q 5 (.q 6 (.q 7 (.q 8 (.e 9 (.q 10 (.q 11 .nil)))))))))))) (by kernel_rfl) (by kernel_rfl) ?_
 refine qs_ 1 rfl<|j_ rfl (cr_ rfl) (by simp) rfl rfl ?_
 exact qs_ 7 rfl<|bc_ rfl rfl rfl<|qs_ 2 rfl<|C_<|b_<|ab_ rfl<|c_<|a_<|q_ 1 rfl<|g_<|b_<|o_<|k_ nofun<|f_ (rs := [.tmp 2]) rfl (RV.tmp rfl RV.nil) (()) sn_<|rfl
end
section
variable {p bd bt N me k : Nat} {R : RI} {c : Core} {o : Abs} {st x : Int} {t d : Tg} {mk : Wo} {dr : Int} {caps : List Abs} {m : Msg}
theorem rseqs_s  : Spec Tryz.prog 201 [ptr R.lg] [.rd R.lg 153 [int 4, int 0, mapV R.lm], .rdpc (tmPc R.lm intK intOk pE [])] (fun v : Value => [own 2 1 v []]) (fun v => .v v) := by
 refine t_ Tryz.func201 rfl Tryz.ntmps201 rfl fun G w =>c_<|a_<|q_ 1 rfl<|g_<|b_<|c_<|c_<|a_<|q_ 1 rfl<|d_ (ax_ rfl rfl (by kernel_rfl)) rfl rfl ?_
 refine g_<|b_<|I_ rfl<|s_<|b_<|c_<|a_<|q_ 3 rfl<|d_ (i_ (C := mapV R.lm) (h_ tabOk rfl rfl r0_ List.not_mem_nil rfl) rfl) rfl rfl<|m_ (keys_0_s (b := R.lm)) Casts.refl (by kernel_rfl) rfl rfl rfl ?_
 refine Y_ (by repeat first|exact .nil|refine .blk (by repeat first|assumption|exact m0_|apply m1_) ?_|refine .rd (by repeat first|assumption|exact m0_|apply m1_) ?_|refine .pc (by repeat first|assumption|exact m0_|apply m1_) ?_|refine .rdpc (by repeat first|assumption|exact m0_|apply m1_) ?_) (fun _ => rfl) ?_
 intro zk
 refine m_ (keysS_s (om := []) (b := R.lm) (z := zk) (by simp)) Casts.refl (by kernel_rfl) rfl rfl rfl ?_
 refine Y_ (by repeat (first | exact Reads.nil | (refine Reads.blk ?_ ?_; focus ((repeat first|assumption|exact m0_|apply m1_); done)) | (refine Reads.rd ?_ ?_; focus ((repeat first|assumption|exact m0_|apply m1_); done)) | (refine Reads.pc ?_ ?_; focus ((repeat first|assumption|exact m0_|apply m1_); done)) | (refine Reads.rdpc ?_ ?_; focus ((repeat first|assumption|exact m0_|apply m1_); done)))) (fun _ => rfl) ?_
 intro r10
 rw [show (srt (([] : List (Int × Option Nat)).map (·.1))).map (fun x => [int x]) = [] from by show (srt []).map _ = _; rw [srt0]; rfl]
 exact q_ 1 rfl<|g_<|b_<|o_<|f_ (rs := [.tmp 2]) rfl (RV.tmp rfl RV.nil) (r10) (sc_ sn_)<|rfl
set_option maxHeartbeats 1000000 in
theorem iW_  : Spec Tryz.prog 132 [ptr R.r, .fn (.func k) [] caps] [.rd R.r 118 (R.cells p me dr o), .rd R.lg 153 [int 4, int 0, mapV R.lm], .rdpc (tmPc R.lm intK intOk pE [])] (fun _ : Unit => []) (fun _ => .tup []) := by
 refine t_ Tryz.func132 rfl Tryz.ntmps132 rfl fun G w =>c_<|c_<|a_<|q_ 3 rfl<|d_ (i_ (C := boo true) (h_ tabOk rfl rfl r0_ List.not_mem_nil rfl) rfl) rfl rfl<|d_ (bb_ rfl) rfl rfl<|g_<|b_<|I_ rfl<|s_<|b_<|c_<|a_<|q_ 3 rfl<|d_ (i_ (C := ptr R.lg) (h_ tabOk rfl rfl r0_ List.not_mem_nil rfl) rfl) rfl rfl<|m_ (rseqs_s (R := R)) Casts.refl (by kernel_rfl) rfl rfl rfl ?_
 refine Y_ (by repeat (first | exact Reads.nil | (refine Reads.blk ?_ ?_; focus ((repeat first|assumption|exact m0_|apply m1_); done)) | (refine Reads.rd ?_ ?_; focus ((repeat first|assumption|exact m0_|apply m1_); done)) | (refine Reads.pc ?_ ?_; focus ((repeat first|assumption|exact m0_|apply m1_); done)) | (refine Reads.rdpc ?_ ?_; focus ((repeat first|assumption|exact m0_|apply m1_); done)))) (fun _ => rfl) ?_
 intro r20
 refine d_ (aG_ (m := 0) rfl i0_ Tryz.underlying282 rfl) rfl rfl<|q_ 1 rfl<|g_<|b_<|w_<|S_ (ι := Unit) (fun z => [own 2 1 r20 [], .rd R.r 118 (R.cells p me dr o), .rd R.lg 153 [int 4, int 0, mapV R.lm], .rdpc (tmPc R.lm intK intOk pE [])]) (fun z => [(20, .v r20), (21, int (0 : Nat)), (22, int 0)]) (fun z => True) (fun z => 0) (()) (trivial) (by exact ⟨rfl, rfl, rfl, trivial⟩) sr_ ?_
 intro z hz
 refine c_<|a_<|q_ 1 rfl<|g_<|b_<|c_<|n_ rfl (by intro hc23; exfalso; omega) ?_
 intro hc23
 refine O_<|k_ nofun<|k_ nofun<|N_<|bK_ (rs := []) rfl RV.nil (()) sn_ (by simp [It.rids]) ?_
 exact rfl
theorem rcomm_s  : Spec Tryz.prog 125 [ptr R.r] [.rd R.r 118 (R.cells p me dr o), .rd R.lg 153 [int 4, int 0, mapV R.lm], .rdpc (tmPc R.lm intK intOk pE [])] (fun _ : Unit => []) (fun _ => boo false) := by
 refine t_ Tryz.func125 rfl Tryz.ntmps125 rfl fun G w =>c_<|a_<|eb_ (a3_ rfl rfl) rfl rfl fun b1=>?_
 refine q_ 1 rfl<|g_<|b_<|c_<|a_<|eb_ (F_ tabOk rfl) rfl rfl fun b3=>?_
 refine e_ (p_ tabOk rfl rfl rfl u0_ rfl (Nat.le_of_ble_eq_true rfl) rfl rfl) rfl rfl<|g_<|b_<|c_<|a_<|d_ (i_ (C := ptr R.r) (h_ tabOk rfl rfl l1_ List.not_mem_nil rfl) rfl) rfl rfl<|d_ (ag_ rfl rfl) rfl rfl<|m_ (iW_ (p := p) (me := me) (R := R) (dr := dr) (o := o) (k := 174) (caps := [ptr b1, ptr b3])) Casts.refl (by kernel_rfl) rfl rfl rfl ?_
 exact ap_<|fun _=>g_<|b_<|c_<|a_<|d_ (i_ (C := boo false) (h_ tabOk rfl rfl l0_ List.not_mem_nil rfl) rfl) rfl rfl<|q_ 1 rfl<|g_<|b_<|o_<|f_ (rs := [.tmp 2]) rfl (RV.tmp rfl RV.nil) (()) sn_<|rfl
theorem rexec_s  : Spec Tryz.prog 126 [ptr R.r] [.rd R.r 118 (R.cells p me dr o), .rd R.lg 153 [int 4, int 0, mapV R.lm], .rdpc (tmPc R.lm intK intOk pE [])] (fun _ : Unit => []) (fun _ => boo false) := by
 refine t_ Tryz.func126 rfl Tryz.ntmps126 rfl fun G w =>c_<|a_<|eb_ (a3_ rfl rfl) rfl rfl fun b1=>?_
 refine q_ 1 rfl<|g_<|b_<|c_<|a_<|eb_ (F_ tabOk rfl) rfl rfl fun b3=>?_
 refine e_ (p_ tabOk rfl rfl rfl u0_ rfl (Nat.le_of_ble_eq_true rfl) rfl rfl) rfl rfl<|g_<|b_<|c_<|a_<|d_ (i_ (C := ptr R.r) (h_ tabOk rfl rfl l1_ List.not_mem_nil rfl) rfl) rfl rfl<|d_ (ag_ rfl rfl) rfl rfl<|m_ (iW_ (p := p) (me := me) (R := R) (dr := dr) (o := o) (k := 179) (caps := [ptr b1, ptr b3])) Casts.refl (by kernel_rfl) rfl rfl rfl ?_
 exact ap_<|fun _=>g_<|b_<|c_<|a_<|d_ (i_ (C := boo false) (h_ tabOk rfl rfl l0_ List.not_mem_nil rfl) rfl) rfl rfl<|q_ 1 rfl<|g_<|b_<|o_<|f_ (rs := [.tmp 2]) rfl (RV.tmp rfl RV.nil) (()) sn_<|rfl
theorem rprim_s  : Spec Tryz.prog 176 [ptr R.r, int 0] [.rd R.r 118 (R.cells p me dr o)] (fun _ : Unit => []) (fun _ => int 0) := by
 refine t_ Tryz.func176 rfl Tryz.ntmps176 rfl fun G w =>c_<|a_<|q_ 1 rfl<|g_<|b_<|c_<|a_<|q_ 4 rfl<|d_ (i_ (C := int 4) (h_ tabOk rfl rfl r0_ List.not_mem_nil rfl) rfl) rfl rfl<|d_ (i_ (C := int 0) (b1_ rfl rfl (by omega)) (congrArg int (by decide))) rfl rfl ?_
 exact q_ 1 rfl<|g_<|b_<|o_<|f_ (rs := [.tmp 4]) rfl (RV.tmp rfl RV.nil) (()) sn_<|rfl
theorem rleads_s  : Spec Tryz.prog 186 [ptr R.r] [.rd R.r 118 (R.cells p me dr o)] (fun _ : Unit => []) (fun _ => boo (decide ((0 : Int) = (me : Nat)))) := by
 refine t_ Tryz.func186 rfl Tryz.ntmps186 rfl fun G w =>c_<|a_<|q_ 1 rfl<|g_<|b_<|c_<|T_ [] (.q 0 (.q 1 (.q 2 (.q 3 (.q 4 (.q 6 (.q 7 (.q 8 (.q 9 (.e 5 (.q 10 (.q 11 .nil)))))))))))) (by kernel_rfl) (by kernel_rfl) ?_
 refine qs_ 4 rfl<|hx_ fun hx9 =>j_ rfl (i_ (C := int 0) (h_ tabOk rfl rfl r0_ List.not_mem_nil rfl) rfl) hx9 rfl rfl<|qs_ 3 rfl<|j_ rfl (i_ (C := int (me : Nat)) (h_ tabOk rfl rfl r0_ List.not_mem_nil rfl) rfl) hx9 rfl rfl<|H_ rfl (rprim_s (p := p) (me := me) (R := R) (dr := dr) (o := o)) (by simp [mids, It.mids]) Casts.refl (by kernel_rfl) rfl rfl rfl ?_
 exact ap_<|fun _=>qs_ 2 rfl<|C_<|b_<|o_<|f_ (rs := [.tmp 2]) rfl (RV.tmp rfl RV.nil) (()) sn_<|rfl
theorem rtop_s  : Spec Tryz.prog 192 [ptr R.r] [.rd R.r 118 (R.cells p me dr o)] (fun _ : Unit => []) (fun _ => int 0) := by
 refine t_ Tryz.func192 rfl Tryz.ntmps192 rfl fun G w =>c_<|a_<|q_ 1 rfl<|g_<|b_<|c_<|T_ [] (.q 0 (.q 1 (.q 2 (.q 3 (.q 4 (.q 5 (.q 6 (.q 7 (.q 8 (.q 9 (.q 10 .nil))))))))))) (by kernel_rfl) (by kernel_rfl) ?_
 refine qs_ 3 rfl<|hx_ fun hx9 =>j_ rfl (i_ (C := int 0) (h_ tabOk rfl rfl r0_ List.not_mem_nil rfl) rfl) hx9 rfl rfl<|qs_ 3 rfl<|j_ rfl (i_ (C := .v (.slice none 0 0)) (h_ tabOk rfl rfl r0_ List.not_mem_nil rfl) rfl) hx9 rfl rfl<|j_ rfl (af_ (m := 0) rfl Tryz.underlying114) hx9 rfl rfl<|j_ rfl (i_ (C := int 0) (E_ rfl rfl (by simp only [InR, lo, hi]; omega)) rfl) hx9 rfl rfl ?_
 exact qs_ 1 rfl<|C_<|b_<|o_<|f_ (rs := [.tmp 2]) rfl (RV.tmp rfl RV.nil) (()) sn_<|rfl
theorem xcur_s  : Spec Tryz.prog 136 [ptr R.x] [.rd R.x 179 [int 4, int 0, int 0, .v (.slice none 0 0), .v (.slice none 0 0), .v (.slice none 0 0)]] (fun _ : Unit => []) (fun _ => int 0) := by
 refine t_ Tryz.func136 rfl Tryz.ntmps136 rfl fun G w =>c_<|a_<|q_ 1 rfl<|g_<|b_<|c_<|c_<|a_<|q_ 1 rfl<|d_ (ax_ rfl rfl (by kernel_rfl)) rfl rfl ?_
 exact g_<|b_<|I_ rfl<|s_<|b_<|c_<|a_<|q_ 4 rfl<|d_ (i_ (C := int 0) (h_ tabOk rfl rfl r0_ List.not_mem_nil rfl) rfl) rfl rfl<|q_ 1 rfl<|g_<|b_<|o_<|f_ (rs := [.tmp 2]) rfl (RV.tmp rfl RV.nil) (()) sn_<|rfl
set_option maxHeartbeats 1000000 in
theorem roffer_s (h1 : c.letter.size ≤ 1000) (h2 : c.text.size ≤ 1000) (hN : N ≤ 90000) (hm : me < 4) (hc : c.client = 4) : Spec Tryz.prog 128 [ptr R.r] [wb p bd bt N, .rd R.r 118 (R.cells p me dr o), .rdpc (tmPc R.pd intK intOk coE [(4, c)]), .rd R.x 179 [int 4, int 0, int 0, .v (.slice none 0 0), .v (.slice none 0 0), .v (.slice none 0 0)], .rd R.lg 153 [int 4, int 0, mapV R.lm], .rd R.vv 160 [int 4, mapV R.vm], .rdpc (tmPc R.vm paV paOk voE (vm1 (me : Int) st t mk))] (fun _ : Unit => [wb p bd bt (N + 1)]) (fun _ => boo false) := by
 refine t_ Tryz.func128 rfl Tryz.ntmps128 rfl fun G w =>c_<|a_<|q_ 1 rfl<|g_<|b_<|c_<|a_<|q_ 3 rfl<|d_ (i_ (C := ptr R.x) (h_ tabOk rfl rfl r1_ List.not_mem_nil rfl) rfl) rfl rfl<|m_ (xcur_s (R := R)) Casts.refl (by kernel_rfl) rfl rfl rfl ?_
 refine ap_<|fun _=>q_ 1 rfl<|g_<|b_<|c_<|c_<|a_<|q_ 3 rfl<|d_ (i_ (C := boo true) (h_ tabOk rfl rfl r1_ List.not_mem_nil rfl) rfl) rfl rfl<|d_ (bb_ rfl) rfl rfl<|q_ 2 rfl<|m_ (rleads_s (p := p) (me := me) (R := R) (dr := dr) (o := o)) Casts.refl (by kernel_rfl) rfl rfl rfl ?_
 refine ap_<|fun _=>d_ (bG_ rfl) rfl rfl<|q_ 2 rfl<|D_ (t := 21) rfl ?_ ?_
 ·intro hc21
  refine q_ 23 rfl<|g_<|b_<|ab_ rfl<|c_<|a_<|q_ 1 rfl<|g_<|b_<|o_<|k_ nofun<|da_ [] (Re.wbUp (N := N) (M := N + 1) (by omega)) rfl ?_
  exact f_ (rs := [.tmp 2]) rfl (RV.tmp rfl RV.nil) (()) (sc_ sn_)<|rfl
 intro hc21
 refine q_ 2 rfl<|m_ (rtop_s (p := p) (me := me) (R := R) (dr := dr) (o := o)) Casts.refl (by kernel_rfl) rfl rfl rfl ?_
 refine ap_<|fun _=>q_ 3 rfl<|D_ (t := 27) rfl (by intro hc27; exfalso; omega) ?_
 intro hc27
 refine q_ 4 rfl<|d_ (i_ (C := int 0) (h_ tabOk rfl rfl r1_ List.not_mem_nil rfl) rfl) rfl rfl<|q_ 3 rfl<|D_ (t := 35) rfl (by intro hc35; exfalso; omega) ?_
 intro hc35
 refine q_ 3 rfl<|d_ (i_ (C := ptr R.lg) (h_ tabOk rfl rfl r1_ List.not_mem_nil rfl) rfl) rfl rfl<|q_ 1 rfl<|d_ (i_ (C := int 1) (E_ rfl rfl (by simp only [InR, lo, hi]; omega)) rfl) rfl rfl ?_
 refine m_ (lin_s (R := R)) Casts.refl (by kernel_rfl) rfl rfl rfl ?_
 refine ap_<|fun _=>d_ (bb_ rfl) rfl rfl<|q_ 1 rfl<|g_<|b_<|I_ rfl<|s_<|b_<|c_<|a_<|q_ 1 rfl<|m_ (rready_s (p := p) (bd := bd) (bt := bt) (N := N) (me := me) (R := R) (c := c) (dr := dr) (o := o) (st := st) (t := t) (mk := mk) h1 h2 hN hm hc) Casts.refl (by kernel_rfl) rfl rfl rfl ?_
 refine aA_ (ys := [.rd R.r 118 (R.cells p me dr o), .rdpc (tmPc R.pd intK intOk coE [(4, c)]), .rd R.vv 160 [int 4, mapV R.vm], .rdpc (tmPc R.vm paV paOk voE (vm1 (me : Int) st t mk))]) rfl i0_ (by intro y hy; simp only [List.mem_cons, List.not_mem_nil, or_false] at hy; rcases hy with rfl | rfl | rfl | rfl <;> exact ⟨(by repeat first|assumption|exact m0_|apply m1_), by intro h; cases h⟩) rfl (fun _ => rfl) ?_
 intro _
 refine ⟨_, u0_, q_ 1 rfl<|g_<|b_<|c_<|c_<|a_<|q_ 1 rfl<|d_ (af_ (m := 0) rfl Tryz.underlying184) rfl rfl<|q_ 1 rfl<|g_<|b_<|n_ rfl ?_ (by intro hc49; exfalso; omega)⟩
 intro hc49
 exact c_<|a_<|q_ 1 rfl<|g_<|b_<|o_<|k_ nofun<|f_ (rs := [.tmp 2]) rfl (RV.tmp rfl RV.nil) (()) (sc_ sn_)<|rfl
end
theorem Re.ofEq {xs ys : Blks} (h : xs = ys) (hr : ∀ x ∈ ys, x.rids = []) : Re xs ys := by
  subst h
  exact Re.refl hr
section
variable {p bd bt N me k : Nat} {R : RI} {c : Core} {o : Abs} {st x : Int} {t d : Tg} {mk : Wo} {dr : Int} {caps : List Abs} {m : Msg} {v : Value} {rows : List (List Abs)}
theorem rinst_s  : Spec Tryz.prog 124 [ptr R.r] [.rd R.r 118 (R.cells p me dr o)] (fun _ : Unit => []) (fun _ => boo false) := by
 refine t_ Tryz.func124 rfl Tryz.ntmps124 rfl fun G w =>c_<|a_<|q_ 1 rfl<|g_<|b_<|c_<|c_<|a_<|q_ 3 rfl<|d_ (i_ (C := boo true) (h_ tabOk rfl rfl r0_ List.not_mem_nil rfl) rfl) rfl rfl<|d_ (bb_ rfl) rfl rfl<|g_<|b_<|I_ rfl<|s_<|b_<|c_<|a_<|q_ 1 rfl<|g_<|b_<|c_<|a_<|q_ 1 rfl<|g_<|b_<|c_<|c_<|a_<|q_ 3 rfl<|d_ (i_ (C := .v (.slice none 0 0)) (h_ tabOk rfl rfl r0_ List.not_mem_nil rfl) rfl) rfl rfl<|d_ (af_ (m := 0) rfl Tryz.underlying114) rfl rfl<|q_ 1 rfl<|g_<|b_<|w_<|S_ (ι := Unit) (fun z => [.rd R.r 118 (R.cells p me dr o)]) (fun z => [(0, ptr R.r), (3, boo false), (17, int (0 : Nat)), (18, int 0)]) (fun z => True) (fun z => 0) (()) (trivial) (by exact ⟨rfl, rfl, rfl, rfl, trivial⟩) sr_ ?_
 intro z hz
 refine c_<|a_<|q_ 1 rfl<|g_<|b_<|c_<|n_ rfl (by intro hc19; exfalso; omega) ?_
 intro hc19
 exact O_<|k_ nofun<|k_ nofun<|N_<|b_<|c_<|a_<|q_ 2 rfl<|g_<|b_<|o_<|f_ (rs := [.tmp 2]) rfl (RV.tmp rfl RV.nil) (()) sn_<|rfl
theorem rbegin_s  : Spec Tryz.prog 127 [ptr R.r] [.rd R.r 118 (R.cells p me dr o)] (fun _ : Unit => []) (fun _ => boo false) := by
 exact t_ Tryz.func127 rfl Tryz.ntmps127 rfl fun G w =>c_<|a_<|q_ 1 rfl<|g_<|b_<|c_<|c_<|a_<|q_ 3 rfl<|d_ (i_ (C := boo true) (h_ tabOk rfl rfl r0_ List.not_mem_nil rfl) rfl) rfl rfl<|q_ 5 rfl<|g_<|b_<|ab_ rfl<|c_<|a_<|q_ 1 rfl<|g_<|b_<|o_<|k_ nofun<|f_ (rs := [.tmp 2]) rfl (RV.tmp rfl RV.nil) (()) sn_<|rfl
set_option maxHeartbeats 4000000 in
theorem radv_s (h1 : c.letter.size ≤ 1000) (h2 : c.text.size ≤ 1000) (hN : N ≤ 80000) (hm : me < 4) (hc : c.client = 4) : Spec Tryz.prog 90 [ptr R.r] [wb p bd bt N, .blk R.t 173 [int 32, int 0], .pc (tmPc R.hm intK intOk pE []), .rd R.r 118 (R.cells p me dr o), .rdpc (tmPc R.pd intK intOk coE [(4, c)]), .rd R.x 179 [int 4, int 0, int 0, .v (.slice none 0 0), .v (.slice none 0 0), .v (.slice none 0 0)], .rd R.h 167 [bkI p, int 4, mapV R.hm, .v R.hv], .rd R.vv 160 [int 4, mapV R.vm], .rdpc (tmPc R.vm paV paOk voE (vm1 (me : Int) st t mk)), .rd R.pp 157 [int ((4 : Nat) : Int), int (me : Nat), mapV R.om, .v R.pv], .rdpc (ownPc 199 1 R.pv ((List.replicate 4 []).map fun l => [pntsA l])), .rdpc (tmPc R.om intK intOk Ow.enc [(0, R.ow)]), .rd R.lg 153 [int 4, int 0, mapV R.lm], .rdpc (tmPc R.lm intK intOk pE [])] (fun _ : Unit => [.blk R.t 173 [int 32, int 0], wb p bd bt (N + 2), .pc (tmPc R.hm intK intOk pE [])]) (fun _ => .tup []) := by
 refine t_ Tryz.func90 rfl Tryz.ntmps90 rfl fun G w =>c_<|w_<|S_ (ι := Unit) (fun z => [wb p bd bt N, .blk R.t 173 [int 32, int 0], .pc (tmPc R.hm intK intOk pE []), .rd R.r 118 (R.cells p me dr o), .rdpc (tmPc R.pd intK intOk coE [(4, c)]), .rd R.x 179 [int 4, int 0, int 0, .v (.slice none 0 0), .v (.slice none 0 0), .v (.slice none 0 0)], .rd R.h 167 [bkI p, int 4, mapV R.hm, .v R.hv], .rd R.vv 160 [int 4, mapV R.vm], .rdpc (tmPc R.vm paV paOk voE (vm1 (me : Int) st t mk)), .rd R.pp 157 [int ((4 : Nat) : Int), int (me : Nat), mapV R.om, .v R.pv], .rdpc (ownPc 199 1 R.pv ((List.replicate 4 []).map fun l => [pntsA l])), .rdpc (tmPc R.om intK intOk Ow.enc [(0, R.ow)]), .rd R.lg 153 [int 4, int 0, mapV R.lm], .rdpc (tmPc R.lm intK intOk pE [])]) (fun z => [(0, ptr R.r)]) (fun z => True) (fun z => 0) (()) (trivial) (by exact ⟨rfl, trivial⟩) sr_ ?_
 intro z hz
 refine c_<|c_<|a_<|q_ 1 rfl<|m_ (rjoin_s (p := p) (me := me) (R := R) (dr := dr) (o := o)) Casts.refl (by kernel_rfl) rfl rfl rfl ?_
 refine aA_ (ys := [.rd R.h 167 [bkI p, int 4, mapV R.hm, .v R.hv], .rd R.r 118 (R.cells p me dr o)]) rfl i2_ (by intro y hy; simp only [List.mem_cons, List.not_mem_nil, or_false] at hy; rcases hy with rfl | rfl <;> exact ⟨(by repeat first|assumption|exact m0_|apply m1_), by intro h; cases h⟩) rfl (fun _ => rfl) ?_
 intro _
 refine ⟨_, u2_, q_ 2 rfl<|m_ (iR_ (p := p) (me := me) (R := R) (dr := dr) (o := o) hm) Casts.refl (by kernel_rfl) rfl rfl rfl ?_⟩
 refine ap_<|fun _=>q_ 3 rfl<|m_ (rinst_s (p := p) (me := me) (R := R) (dr := dr) (o := o)) Casts.refl (by kernel_rfl) rfl rfl rfl ?_
 refine ap_<|fun _=>q_ 3 rfl<|m_ (rcomm_s (p := p) (me := me) (R := R) (dr := dr) (o := o)) Casts.refl (by kernel_rfl) rfl rfl rfl ?_
 refine ap_<|fun _=>q_ 3 rfl<|m_ (rexec_s (p := p) (me := me) (R := R) (dr := dr) (o := o)) Casts.refl (by kernel_rfl) rfl rfl rfl ?_
 refine ap_<|fun _=>q_ 3 rfl<|m_ (rbegin_s (p := p) (me := me) (R := R) (dr := dr) (o := o)) Casts.refl (by kernel_rfl) rfl rfl rfl ?_
 refine ap_<|fun _=>q_ 3 rfl<|m_ (roffer_s (p := p) (bd := bd) (bt := bt) (N := N) (me := me) (R := R) (c := c) (dr := dr) (o := o) (st := st) (t := t) (mk := mk) h1 h2 (by omega) hm hc) Casts.refl (by kernel_rfl) rfl rfl rfl ?_
 refine aA_ (ys := [.rd R.r 118 (R.cells p me dr o), .rdpc (tmPc R.pd intK intOk coE [(4, c)]), .rd R.x 179 [int 4, int 0, int 0, .v (.slice none 0 0), .v (.slice none 0 0), .v (.slice none 0 0)], .rd R.lg 153 [int 4, int 0, mapV R.lm], .rd R.vv 160 [int 4, mapV R.vm], .rdpc (tmPc R.vm paV paOk voE (vm1 (me : Int) st t mk))]) rfl i0_ (by intro y hy; simp only [List.mem_cons, List.not_mem_nil, or_false] at hy; rcases hy with rfl | rfl | rfl | rfl | rfl | rfl <;> exact ⟨(by repeat first|assumption|exact m0_|apply m1_), by intro h; cases h⟩) rfl (fun _ => rfl) ?_
 intro _
 refine ⟨_, u0_, q_ 1 rfl<|g_<|b_<|I_ rfl<|O_<|k_ nofun<|k_ nofun<|N_<|b_<|a_<|q_ 1 rfl<|m_ (rwait_s (p := p) (bd := bd) (bt := bt) (N := N + 1) (me := me) (R := R) (c := c) (dr := dr) (o := o) (st := st) (t := t) (mk := mk) h1 h2 (by omega) hm hc) Casts.refl (by kernel_rfl) rfl rfl rfl ?_⟩
 refine bu_ [.pc (tmPc R.hm intK intOk pE []), .rd R.r 118 (R.cells p me dr o), .rdpc (tmPc R.pd intK intOk coE [(4, c)]), .rd R.x 179 [int 4, int 0, int 0, .v (.slice none 0 0), .v (.slice none 0 0), .v (.slice none 0 0)], .rd R.h 167 [bkI p, int 4, mapV R.hm, .v R.hv], .rd R.vv 160 [int 4, mapV R.vm], .rdpc (tmPc R.vm paV paOk voE (vm1 (me : Int) st t mk)), .rd R.pp 157 [int ((4 : Nat) : Int), int (me : Nat), mapV R.om, .v R.pv], .rdpc (ownPc 199 1 R.pv ((List.replicate 4 []).map fun l => [pntsA l])), .rdpc (tmPc R.om intK intOk Ow.enc [(0, R.ow)]), .rd R.lg 153 [int 4, int 0, mapV R.lm], .rdpc (tmPc R.lm intK intOk pE [])] (fun _ => [.blk R.t 173 [int 32, int 0], wb p bd bt (N + 2), .pc (tmPc R.hm intK intOk pE []), .rd R.r 118 (R.cells p me dr o), .rdpc (tmPc R.pd intK intOk coE [(4, c)]), .rd R.x 179 [int 4, int 0, int 0, .v (.slice none 0 0), .v (.slice none 0 0), .v (.slice none 0 0)], .rd R.h 167 [bkI p, int 4, mapV R.hm, .v R.hv], .rd R.vv 160 [int 4, mapV R.vm], .rdpc (tmPc R.vm paV paOk voE (vm1 (me : Int) st t mk)), .rd R.pp 157 [int ((4 : Nat) : Int), int (me : Nat), mapV R.om, .v R.pv], .rdpc (ownPc 199 1 R.pv ((List.replicate 4 []).map fun l => [pntsA l])), .rdpc (tmPc R.om intK intOk Ow.enc [(0, R.ow)]), .rd R.lg 153 [int 4, int 0, mapV R.lm], .rdpc (tmPc R.lm intK intOk pE [])]) (by rw [List.perm_iff_count]; intro a; simp only [mids, It.mids, List.flatMap_cons, List.flatMap_nil, List.append_nil, List.nil_append, List.count_append, List.count_cons, List.count_nil, List.cons_append]; omega) (by intro x hx; simp only [List.mem_cons, List.not_mem_nil, or_false] at hx; rcases hx with rfl | rfl | rfl | rfl | rfl | rfl <;> first | exact .inl ⟨(by repeat first|assumption|exact m0_|apply m1_), rfl⟩ | exact .inr ⟨_, List.mem_cons_self, rfl⟩ | exact .inr ⟨_, (List.mem_cons_of_mem _ List.mem_cons_self), rfl⟩ | exact .inr ⟨_, (List.mem_cons_of_mem _ (List.mem_cons_of_mem _ List.mem_cons_self)), rfl⟩ | exact .inr ⟨_, (List.mem_cons_of_mem _ (List.mem_cons_of_mem _ (List.mem_cons_of_mem _ List.mem_cons_self))), rfl⟩ | exact .inr ⟨_, (List.mem_cons_of_mem _ (List.mem_cons_of_mem _ (List.mem_cons_of_mem _ (List.mem_cons_of_mem _ List.mem_cons_self)))), rfl⟩ | exact .inr ⟨_, (List.mem_cons_of_mem _ (List.mem_cons_of_mem _ (List.mem_cons_of_mem _ (List.mem_cons_of_mem _ (List.mem_cons_of_mem _ List.mem_cons_self))))), rfl⟩ | exact .inr ⟨_, (List.mem_cons_of_mem _ (List.mem_cons_of_mem _ (List.mem_cons_of_mem _ (List.mem_cons_of_mem _ (List.mem_cons_of_mem _ (List.mem_cons_of_mem _ List.mem_cons_self)))))), rfl⟩ | exact .inr ⟨_, (List.mem_cons_of_mem _ (List.mem_cons_of_mem _ (List.mem_cons_of_mem _ (List.mem_cons_of_mem _ (List.mem_cons_of_mem _ (List.mem_cons_of_mem _ (List.mem_cons_of_mem _ List.mem_cons_self))))))), rfl⟩ | exact .inr ⟨_, (List.mem_cons_of_mem _ (List.mem_cons_of_mem _ (List.mem_cons_of_mem _ (List.mem_cons_of_mem _ (List.mem_cons_of_mem _ (List.mem_cons_of_mem _ (List.mem_cons_of_mem _ (List.mem_cons_of_mem _ List.mem_cons_self)))))))), rfl⟩ | exact .inr ⟨_, (List.mem_cons_of_mem _ (List.mem_cons_of_mem _ (List.mem_cons_of_mem _ (List.mem_cons_of_mem _ (List.mem_cons_of_mem _ (List.mem_cons_of_mem _ (List.mem_cons_of_mem _ (List.mem_cons_of_mem _ (List.mem_cons_of_mem _ List.mem_cons_self))))))))), rfl⟩ | exact .inr ⟨_, (List.mem_cons_of_mem _ (List.mem_cons_of_mem _ (List.mem_cons_of_mem _ (List.mem_cons_of_mem _ (List.mem_cons_of_mem _ (List.mem_cons_of_mem _ (List.mem_cons_of_mem _ (List.mem_cons_of_mem _ (List.mem_cons_of_mem _ (List.mem_cons_of_mem _ List.mem_cons_self)))))))))), rfl⟩ | exact .inr ⟨_, (List.mem_cons_of_mem _ (List.mem_cons_of_mem _ (List.mem_cons_of_mem _ (List.mem_cons_of_mem _ (List.mem_cons_of_mem _ (List.mem_cons_of_mem _ (List.mem_cons_of_mem _ (List.mem_cons_of_mem _ (List.mem_cons_of_mem _ (List.mem_cons_of_mem _ (List.mem_cons_of_mem _ List.mem_cons_self))))))))))), rfl⟩) (by intro x hx; simp only [List.mem_cons, List.not_mem_nil, or_false] at hx; rcases hx with rfl | rfl | rfl | rfl | rfl | rfl | rfl | rfl | rfl | rfl | rfl | rfl <;> repeat first|assumption|exact m0_|apply m1_) (fun _ => (by repeat (first | exact List.Perm.nil | refine pk_ (by repeat (first | exact Rem_.here | apply Rem_.there)) ?_))) ?_
 intro _
 refine g_<|bK_ (rs := []) rfl RV.nil (()) (sc_ (sc_ (sc_ sn_))) (by simp [It.rids]) ?_
 exact rfl
theorem rfin_s  : Spec Tryz.prog 92 [ptr R.r] [own 141 5 v rows, .blk R.r 118 (R.cells p me dr (.v v))] (fun _ : Unit => [.blk R.r 118 (R.cells p me dr (.v (.slice none 0 0)))]) (fun _ => .sl 5 rows) := by
 exact t_ Tryz.func92 rfl Tryz.ntmps92 rfl fun G w =>c_<|a_<|q_ 1 rfl<|g_<|b_<|c_<|a_<|q_ 3 rfl<|d_ (i_ (C := .v v) (h_ tabOk rfl rfl l1_ List.not_mem_nil rfl) rfl) rfl rfl<|q_ 1 rfl<|g_<|b_<|c_<|a_<|q_ 3 rfl<|e_ (p_ (L' := R.cells p me dr (.v (.slice none 0 0))) tabOk rfl rfl rfl u1_ rfl (Nat.le_of_ble_eq_true rfl) rfl rfl) rfl rfl<|g_<|b_<|c_<|bj_ [] (t := 3) rfl rfl<|a_<|q_ 2 rfl<|g_<|b_<|o_<|f_ (rs := [.tmp 2]) rfl (RV.tmp rfl RV.nil) (()) sr_<|rfl
theorem rtake_s (hm : MsOk m) (h4 : me < 4) (hN : N ≤ 80000) : Spec Tryz.prog 139 [ptr R.r, .agg m.abs] [.blk R.r 118 (R.cells p me 0 (.v (.slice none 0 0))), .pc (tmPc R.pd intK intOk coE []), .blk R.x 179 [int 4, int 0, int 0, .v (.slice none 0 0), .v (.slice none 0 0), .v (.slice none 0 0)], .blk R.t 173 [int 32, int 0], .blk R.h 167 [bkI p, int 4, mapV R.hm, .v R.hv], .pc (tmPc R.hm intK intOk pE []), .blk R.vv 160 [int 4, mapV R.vm], .pc (tmPc R.vm paV paOk voE []), .blk R.pp 157 [int ((4 : Nat) : Int), int (me : Nat), mapV R.om, .v R.pv], own 199 1 R.pv ((List.replicate 4 []).map fun l => [pntsA l]), .pc (tmPc R.om intK intOk Ow.enc [(0, R.ow)]), .blk R.lg 153 [int 4, int 0, mapV R.lm], .pc (tmPc R.lm intK intOk pE []), wb p bd bt N] (fun z : RqZ => rqT p bd bt N me R z) (fun z => int z.e) := by
 refine t_ Tryz.func139 rfl Tryz.ntmps139 rfl fun G w =>c_<|a_<|eb_ (z_ (cs := m.abs) rfl) rfl rfl fun b3=>?_
 refine q_ 1 rfl<|g_<|b_<|c_<|c_<|a_<|q_ 1 rfl<|d_ (i_ (C := int 1) (h_ tabOk rfl rfl l0_ List.not_mem_nil rfl) (congrArg int hm.1)) rfl rfl<|q_ 1 rfl<|g_<|b_<|n_ rfl ?_ (by intro hc9; exfalso; omega)
 intro hc9
 refine c_<|a_<|q_ 1 rfl<|d_ (i_ (C := .agg m.abs) (y_ tabOk rfl rfl rfl l0_ List.not_mem_nil rfl) rfl) rfl rfl<|m_ (rreq_s (p := p) (bd := bd) (bt := bt) (N := N) (me := me) (R := R) hm h4 hN) Casts.refl (by kernel_rfl) rfl rfl rfl ?_
 refine M_ [_] (β := []) rfl (by intro x hx; simp only [List.mem_cons, List.not_mem_nil, or_false] at hx; rcases hx with rfl | rfl | rfl | rfl | rfl | rfl | rfl | rfl | rfl | rfl | rfl | rfl | rfl | rfl <;> rfl) ?_
 intro z12
 refine q_ 1 rfl<|g_<|b_<|o_<|k_ nofun<|eZ_ (rs := [.tmp 4]) rfl (RV.tmp rfl RV.nil) (z12) (by simp) cW_ ?_
 exact rfl
set_option maxHeartbeats 4000000 in
theorem rrecv_s (hm : MsOk m) (h4 : me < 4) (hN : N ≤ 70000) : Spec Tryz.prog 96 [ptr R.r, .agg m.abs] [.blk R.r 118 (R.cells p me 0 (.v (.slice none 0 0))), .pc (tmPc R.pd intK intOk coE []), .blk R.x 179 [int 4, int 0, int 0, .v (.slice none 0 0), .v (.slice none 0 0), .v (.slice none 0 0)], .blk R.t 173 [int 32, int 0], .blk R.h 167 [bkI p, int 4, mapV R.hm, .v R.hv], .pc (tmPc R.hm intK intOk pE []), .blk R.vv 160 [int 4, mapV R.vm], .pc (tmPc R.vm paV paOk voE []), .blk R.pp 157 [int ((4 : Nat) : Int), int (me : Nat), mapV R.om, .v R.pv], own 199 1 R.pv ((List.replicate 4 []).map fun l => [pntsA l]), .pc (tmPc R.om intK intOk Ow.enc [(0, R.ow)]), .blk R.lg 153 [int 4, int 0, mapV R.lm], .pc (tmPc R.lm intK intOk pE []), wb p bd bt N] (fun _ : {rows : List (List Abs) // ParOk 4 rows} × Int => [wb p bd bt (N + 20)]) (fun z => .tup [.sl 5 z.1.1, int z.2]) := by
 refine t_ Tryz.func96 rfl Tryz.ntmps96 rfl fun G w =>c_<|a_<|eb_ (z_ (cs := m.abs) rfl) rfl rfl fun b3=>?_
 refine q_ 2 rfl<|g_<|b_<|c_<|c_<|a_<|q_ 1 rfl<|d_ (ax_ rfl rfl (by kernel_rfl)) rfl rfl ?_
 refine g_<|b_<|I_ rfl<|s_<|b_<|c_<|c_<|a_<|q_ 1 rfl<|d_ (i_ (C := .agg m.abs) (y_ tabOk rfl rfl rfl l0_ List.not_mem_nil rfl) rfl) rfl rfl<|m_ (rtake_s (p := p) (bd := bd) (bt := bt) (N := N) (me := me) (R := R) hm h4 (by omega)) Casts.refl (by kernel_rfl) rfl rfl rfl ?_
 refine M_ [_] (β := []) rfl (by intro x hx; simp only [List.mem_cons, List.not_mem_nil, or_false] at hx; rcases hx with rfl | rfl | rfl | rfl | rfl | rfl | rfl | rfl | rfl | rfl | rfl | rfl | rfl | rfl <;> rfl) ?_
 intro z6
 refine q_ 1 rfl<|g_<|b_<|c_<|a_<|q_ 2 rfl<|g_<|b_<|n_ rfl ?_ ?_
 rotate_left
 ·intro hc13
  have he0 : z6.e = 0 := Classical.byContradiction fun h => hc13 h
  refine b8_ [_] (β := []) (Re.ofEq (if_pos he0) (ar_ rfl)) rfl<|s_<|b_<|c_<|a_<|q_ 1 rfl<|m_ (radv_s (p := p) (bd := bd) (bt := bt) (N := N + 6) (me := me) (R := R) (c := z6.c) (dr := 0) (o := .v z6.v) (st := z6.st) (t := z6.t) (mk := z6.ma) z6.okC.1 z6.okC.2.1 (by omega) h4 z6.okC.2.2) Casts.refl (by kernel_rfl) rfl rfl rfl ?_
  refine bu_ [.blk b3 42 m.abs, own 141 5 z6.v z6.rows, .blk R.r 118 (R.cells p me 0 (.v z6.v)), .pc (tmPc R.pd intK intOk coE [(4, z6.c)]), .blk R.x 179 [int 4, int 0, int 0, .v (.slice none 0 0), .v (.slice none 0 0), .v (.slice none 0 0)], .blk R.h 167 [bkI p, int 4, mapV R.hm, .v R.hv], .blk R.vv 160 [int 4, mapV R.vm], .pc (tmPc R.vm paV paOk voE (vm1 (me : Int) z6.st z6.t z6.ma)), .blk R.pp 157 [int ((4 : Nat) : Int), int (me : Nat), mapV R.om, .v R.pv], own 199 1 R.pv ((List.replicate 4 []).map fun l => [pntsA l]), .pc (tmPc R.om intK intOk Ow.enc [(0, R.ow)]), .blk R.lg 153 [int 4, int 0, mapV R.lm], .pc (tmPc R.lm intK intOk pE [])] (fun _ => [own 141 5 z6.v z6.rows, .blk R.r 118 (R.cells p me 0 (.v z6.v)), wb p bd bt (N + 8), .blk R.t 173 [int 32, int 0], .pc (tmPc R.hm intK intOk pE []), .blk b3 42 m.abs, .pc (tmPc R.pd intK intOk coE [(4, z6.c)]), .blk R.x 179 [int 4, int 0, int 0, .v (.slice none 0 0), .v (.slice none 0 0), .v (.slice none 0 0)], .blk R.h 167 [bkI p, int 4, mapV R.hm, .v R.hv], .blk R.vv 160 [int 4, mapV R.vm], .pc (tmPc R.vm paV paOk voE (vm1 (me : Int) z6.st z6.t z6.ma)), .blk R.pp 157 [int ((4 : Nat) : Int), int (me : Nat), mapV R.om, .v R.pv], own 199 1 R.pv ((List.replicate 4 []).map fun l => [pntsA l]), .pc (tmPc R.om intK intOk Ow.enc [(0, R.ow)]), .blk R.lg 153 [int 4, int 0, mapV R.lm], .pc (tmPc R.lm intK intOk pE [])]) (by rw [List.perm_iff_count]; intro a; simp only [mids, It.mids, List.flatMap_cons, List.flatMap_nil, List.append_nil, List.nil_append, List.count_append, List.count_cons, List.count_nil, List.cons_append]; omega) (by intro x hx; simp only [List.mem_cons, List.not_mem_nil, or_false] at hx; rcases hx with rfl | rfl | rfl | rfl | rfl | rfl | rfl | rfl | rfl | rfl | rfl | rfl | rfl | rfl <;> first | exact .inl ⟨(by repeat first|assumption|exact m0_|apply m1_), rfl⟩ | exact .inr ⟨_, List.mem_cons_self, rfl⟩ | exact .inr ⟨_, (List.mem_cons_of_mem _ List.mem_cons_self), rfl⟩ | exact .inr ⟨_, (List.mem_cons_of_mem _ (List.mem_cons_of_mem _ List.mem_cons_self)), rfl⟩ | exact .inr ⟨_, (List.mem_cons_of_mem _ (List.mem_cons_of_mem _ (List.mem_cons_of_mem _ List.mem_cons_self))), rfl⟩ | exact .inr ⟨_, (List.mem_cons_of_mem _ (List.mem_cons_of_mem _ (List.mem_cons_of_mem _ (List.mem_cons_of_mem _ List.mem_cons_self)))), rfl⟩ | exact .inr ⟨_, (List.mem_cons_of_mem _ (List.mem_cons_of_mem _ (List.mem_cons_of_mem _ (List.mem_cons_of_mem _ (List.mem_cons_of_mem _ List.mem_cons_self))))), rfl⟩ | exact .inr ⟨_, (List.mem_cons_of_mem _ (List.mem_cons_of_mem _ (List.mem_cons_of_mem _ (List.mem_cons_of_mem _ (List.mem_cons_of_mem _ (List.mem_cons_of_mem _ List.mem_cons_self)))))), rfl⟩ | exact .inr ⟨_, (List.mem_cons_of_mem _ (List.mem_cons_of_mem _ (List.mem_cons_of_mem _ (List.mem_cons_of_mem _ (List.mem_cons_of_mem _ (List.mem_cons_of_mem _ (List.mem_cons_of_mem _ List.mem_cons_self))))))), rfl⟩ | exact .inr ⟨_, (List.mem_cons_of_mem _ (List.mem_cons_of_mem _ (List.mem_cons_of_mem _ (List.mem_cons_of_mem _ (List.mem_cons_of_mem _ (List.mem_cons_of_mem _ (List.mem_cons_of_mem _ (List.mem_cons_of_mem _ List.mem_cons_self)))))))), rfl⟩ | exact .inr ⟨_, (List.mem_cons_of_mem _ (List.mem_cons_of_mem _ (List.mem_cons_of_mem _ (List.mem_cons_of_mem _ (List.mem_cons_of_mem _ (List.mem_cons_of_mem _ (List.mem_cons_of_mem _ (List.mem_cons_of_mem _ (List.mem_cons_of_mem _ List.mem_cons_self))))))))), rfl⟩ | exact .inr ⟨_, (List.mem_cons_of_mem _ (List.mem_cons_of_mem _ (List.mem_cons_of_mem _ (List.mem_cons_of_mem _ (List.mem_cons_of_mem _ (List.mem_cons_of_mem _ (List.mem_cons_of_mem _ (List.mem_cons_of_mem _ (List.mem_cons_of_mem _ (List.mem_cons_of_mem _ List.mem_cons_self)))))))))), rfl⟩ | exact .inr ⟨_, (List.mem_cons_of_mem _ (List.mem_cons_of_mem _ (List.mem_cons_of_mem _ (List.mem_cons_of_mem _ (List.mem_cons_of_mem _ (List.mem_cons_of_mem _ (List.mem_cons_of_mem _ (List.mem_cons_of_mem _ (List.mem_cons_of_mem _ (List.mem_cons_of_mem _ (List.mem_cons_of_mem _ List.mem_cons_self))))))))))), rfl⟩ | exact .inr ⟨_, (List.mem_cons_of_mem _ (List.mem_cons_of_mem _ (List.mem_cons_of_mem _ (List.mem_cons_of_mem _ (List.mem_cons_of_mem _ (List.mem_cons_of_mem _ (List.mem_cons_of_mem _ (List.mem_cons_of_mem _ (List.mem_cons_of_mem _ (List.mem_cons_of_mem _ (List.mem_cons_of_mem _ (List.mem_cons_of_mem _ List.mem_cons_self)))))))))))), rfl⟩) (by intro x hx; simp only [List.mem_cons, List.not_mem_nil, or_false] at hx; rcases hx with rfl | rfl | rfl | rfl | rfl | rfl | rfl | rfl | rfl | rfl | rfl | rfl | rfl <;> repeat first|assumption|exact m0_|apply m1_) (fun _ => (by repeat (first | exact List.Perm.nil | refine pk_ (by repeat (first | exact Rem_.here | apply Rem_.there)) ?_))) ?_
  intro _
  refine g_<|b_<|c_<|a_<|q_ 1 rfl<|m_ (rfin_s (p := p) (me := me) (R := R) (dr := 0) (v := z6.v) (rows := z6.rows)) Casts.refl (by kernel_rfl) rfl rfl rfl ?_
  refine M_ [] (β := _) rfl (by intro x hx; simp only [List.mem_cons, List.not_mem_nil, or_false] at hx; rcases hx with rfl | rfl <;> rfl) ?_
  intro _
  refine q_ 2 rfl<|g_<|b_<|o_<|da_ [_] (Re.wbUp (N := N + 8) (M := N + 20) (by omega)) rfl ?_
  exact f_ (rs := [.tmp 4, .tmp 5]) rfl (RV.tmp rfl (RV.tmp rfl RV.nil)) ((⟨z6.rows, z6.okP⟩, 0)) (sk_ (sc_ sn_))<|rfl
 intro hc13
 refine b8_ [_] (β := []) (Re.ofEq (if_neg hc13) (ar_ rfl)) rfl<|c_<|a_<|q_ 4 rfl<|d_ (i_ (C := int 0) (h_ tabOk rfl rfl l1_ List.not_mem_nil rfl) rfl) rfl rfl<|d_ (E_ rfl rfl (by simp only [InR, lo, hi]; omega)) rfl rfl ?_
 refine d_ (i_ (C := int 1) (dO_ rfl rfl) (congrArg int (by decide))) rfl rfl ?_
 refine q_ 2 rfl<|e_ (p_ (L' := R.cells p me 1 (.v (.slice none 0 0))) tabOk rfl rfl rfl u1_ rfl (Nat.le_of_ble_eq_true rfl) rfl rfl) rfl rfl<|g_<|b_<|c_<|a_<|q_ 3 rfl<|e_ (p_ (L' := R.cells p me 1 (.v (.slice none 0 0))) tabOk rfl rfl rfl u1_ rfl (Nat.le_of_ble_eq_true rfl) rfl rfl) rfl rfl<|g_<|b_<|c_<|a_<|q_ 3 rfl<|g_<|b_<|o_<|k_ nofun<|da_ [_, _] (Re.wbUp (N := N + 6) (M := N + 20) (by omega)) rfl ?_
 exact fC_ (rs := [.tmp 4, .tmp 5]) rfl (RV.tmp rfl (RV.tmp rfl RV.nil)) (Casts.nils (s := 5) Casts.refl) ((⟨[], p0_ok⟩, z6.e)) (sk_ (sk_ sr_))<|rfl
end
end Go.Proofs.YtjclgkddfjbdiaaGreatDoor.A
