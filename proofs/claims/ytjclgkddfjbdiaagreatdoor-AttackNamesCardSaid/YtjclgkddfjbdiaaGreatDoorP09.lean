/-
  Packed out of the texts: AN10, CorEq, AN11, Rng, Bwd, Pts, PT1, A33, ClB, PT2, PT3, Lay, Iter, PT4, PT5.
-/
import Derived.Test.YtjclgkddfjbdiaaGreatDoorP08
import Derived.RangeFuncNested
import Derived.RangeFuncBound
import Derived.RangeFuncCalls
import Derived.RangeFuncLeaves
import Derived.TacticsIn
import Derived.OrdersIn
import Derived.ControlIn
import Derived.WalkKit
import Derived.Shelf.SlIterI.Nil
import Derived.Shelf.SlIterI.Sorted
import Derived.Shelf.SortM.Plain
import Derived.Shelf.SortM.SortNone
import Derived.Test.YtjclgkddfjbdiaaGreatDoorProg
set_option maxRecDepth 100000
set_option linter.unusedSimpArgs false
set_option linter.unusedVariables false
namespace Go.Proofs.YtjclgkddfjbdiaaGreatDoor.A
open Go.RowKit
def wdV (p : Int × List UInt8) : Value := .agg #[.int .i64 p.1, txt p.2]
def wdOk (p : Int × List UInt8) : Prop := intOk p.1 ∧ p.2.length ≤ maxLen
theorem wd_lit (p : Int × List UInt8) (h : wdOk p) : ∃ l, keyOf Tryz.prog 216 (wdV p) = some l := by
  have h2 := h.2
  have e1 : IntKind.i64.min ≤ p.1 ∧ p.1 ≤ 9223372036854775807 := by
    have h3 := h.1
    unfold intOk at h3
    simp only [InR, lo, hi] at h3
    exact ⟨by show (-9223372036854775808 : Int) ≤ _; omega, by omega⟩
  have hk : (Tryz.prog.keyType 216 && (wdV p).formed Tryz.prog 216) = true := by kernel_rfl
  have hn : Tryz.prog.cellsOf 216 = 2 := by kernel_rfl
  have hn5 : Tryz.prog.cellsOf 3 = 1 := by kernel_rfl
  have hn9 : Tryz.prog.cellsOf 9 = 1 := by kernel_rfl
  obtain ⟨m, hm⟩ := dV_
  unfold keyOf
  simp only [Tryz.underlying216, if_pos hk, hm]
  have e2 : (⟨p.2.toArray⟩ : ByteArray).size ≤ maxLen := by simpa [ByteArray.size] using h2
  simp [Program.keyLits, Tryz.underlying216, Tryz.underlying3, Tryz.underlying9, hn, hn5, hn9, wdV, Value.cells, txt, Lit.wf]
  simp [e1, e2]
theorem wd_fit : KeyFit Tryz.prog 216 wdV wdOk where
  keyed := Maps.Keyed.of_law (deep_law_laid laid (m := 4) (by decide) (of_decide_eq_true (by kernel_rfl)) (by kernel_rfl) (by kernel_rfl))
  lit a h := wd_lit a h
  inj a b _ _ h := by
    unfold wdV at h
    injection h with h
    simp at h
    obtain ⟨a1, a2⟩ := a
    obtain ⟨b1, b2⟩ := b
    have := gr_ h.2
    simp only at this h
    obtain ⟨rfl, _⟩ := h
    subst this
    rfl
theorem wd_is (o : Int) (l : List UInt8) : (Abs.agg [int o, .v (txt l)]).is (wdV (o, l)) := is_agg (us := [.int .i64 o, txt l])
def pE : Option Nat → Abs
  | none => .v (.pointer none)
  | some b => ptr b
theorem fs_ (K : List Nat) (w : World) : rep K w (pE none) (.pointer none) := rfl
theorem gi_ (w : World) : (zeroValue 78).run Tryz.prog w = .ok (.pointer none) w := by kernel_rfl
def rmL (r : Nat → Nat) : List (Int × Option Nat) := [(0, some (r 0)), (1, some (r 1)), (2, some (r 2)), (3, some (r 3))]
theorem iU_ {r : Nat → Nat} : ∀ {z : Nat}, z < 4 → (aget (rmL r) (z : Int)).getD none = some (r z)
  | 0, _ => rfl
  | 1, _ => rfl
  | 2, _ => rfl
  | 3, _ => rfl
def core1 : Core := ⟨4, 1, 1, ⟨#[97]⟩, 5, 0, ⟨#[48]⟩⟩
theorem fc_ {P : En → Prop} {e : En} (he : P e) {th : Bool} : ∀ {es : List En}, (∀ x ∈ es, P x) → ∀ x ∈ putE th e es, P x
  | [], _, x, hx => by rw [putE, List.mem_singleton] at hx; exact hx ▸ he
  | y :: es, h, x, hx => by
    unfold putE at hx
    split at hx
    · rcases List.mem_cons.1 hx with rfl | hx
      · exact he
      · exact h x (List.mem_cons_of_mem _ hx)
    · split at hx
      · rcases List.mem_cons.1 hx with rfl | hx
        · exact he
        · exact h x hx
      · rcases List.mem_cons.1 hx with rfl | hx
        · exact h _ List.mem_cons_self
        · exact fc_ he (fun z hz => h z (List.mem_cons_of_mem _ hz)) x hx
theorem fe_ {e : En} {th : Bool} : ∀ {es : List En}, (putE th e es).length ≤ es.length + 1
  | [] => Nat.le_refl _
  | y :: es => by
    unfold putE
    split
    · simp
    · split
      · simp
      · have := fe_ (e := e) (th := th) (es := es)
        simp only [List.length_cons]
        omega
def EnMd (e : En) : Prop := 0 ≤ e.org ∧ e.org < 256 ∧ e.tags.length ≤ 4
abbrev EnsM := {es : List En // es.length ≤ 4 ∧ ∀ e ∈ es, EnMd e}
theorem nil_rq1 : Casts (core1.cells.map .v ++ [.v (.slice none 0 0)]) (Rq.mk core1 []).abs := Casts.keep (Casts.keep (Casts.keep (Casts.keep (Casts.keep (Casts.keep (Casts.keep (Casts.nils Casts.refl)))))))
section
variable {c p bd bt rm cm cr em N : Nat} {av : Value} {r : Nat → Nat} {EM : List ((Int × List UInt8) × Bool)} {o : Int} {x : Core}
theorem jw_ (h1 : x.letter.size ≤ 1000) (h2 : x.text.size ≤ 1000) : Spec Tryz.prog 85 [int o, coreA x] [] (fun _ : Unit => []) (fun _ => .agg [int o, .v (txt x.bytes)]) := by
 refine t_ Tryz.func85 rfl Tryz.ntmps85 rfl fun G w =>c_<|a_<|eb_ (z_ (cs := x.cells.map .v) rfl) rfl rfl fun b3=>?_
 refine eb_ (F_ tabOk rfl) rfl rfl fun b4=>?_
 refine g_<|b_<|c_<|a_<|q_ 1 rfl<|d_ (i_ (C := coreA x) (y_ tabOk rfl rfl rfl l1_ List.not_mem_nil rfl) rfl) rfl rfl<|m_ (c3_ (c := x) (by omega) (by omega)) Casts.refl (by kernel_rfl) rfl rfl rfl ?_
 refine ap_<|fun _=>d_ (c6_ rfl) rfl rfl<|d_ (i_ (C := .agg [int o, .v (txt x.bytes)]) (u_ tabOk rfl rfl rfl rfl) rfl) rfl rfl<|e_ (p_ (L' := [int o, .v (txt x.bytes)]) tabOk rfl rfl rfl u0_ rfl (Nat.le_of_ble_eq_true rfl) rfl (by exact x_ rfl)) rfl rfl ?_
 refine g_<|b_<|o_<|f_ (rs := [.cell 4 216]) rfl (RV.cell rfl (RV.cellA tabOk rfl rfl l0_ (by rfl)) RV.nil) (()) sn_ ?_
 exact rfl
set_option maxHeartbeats 2000000 in
theorem creq_s (hN : N ≤ 1000) : Spec Tryz.prog 57 [ptr c, coreA core1, hon0, .v (.int .u32 0)] [.blk c 74 [bkI p, int 4, int 5, mapV rm, mapV cm, ptr cr, mapV em, .v av], .rdpc (tmPc rm intK intOk pE (rmL r)), .pc (tmPc em wdV wdOk boo EM), wb p bd bt N] (fun z : EnsM × List ((Int × List UInt8) × Bool) => [.blk c 74 [bkI p, int 4, int 5, mapV rm, mapV cm, ptr cr, mapV em, .v av], .pc (tmPc em wdV wdOk boo z.2), wb p bd bt (N + 28)]) (fun z => .agg (Rq.mk core1 z.1.1).abs) := by
 refine t_ Tryz.func57 rfl Tryz.ntmps57 rfl fun G w =>c_<|a_<|eb_ (z_ (cs := core1.cells.map .v) rfl) rfl rfl fun b5=>?_
 refine eb_ (F_ tabOk rfl) rfl rfl fun b8=>?_
 refine g_<|b_<|c_<|a_<|d_ (i_ (C := coreA core1) (y_ tabOk rfl rfl rfl l1_ List.not_mem_nil rfl) rfl) rfl rfl<|d_ (i_ (C := .agg (core1.cells.map .v ++ [.v (.slice none 0 0)])) (u_ tabOk rfl rfl rfl rfl) rfl) rfl rfl<|eb_ (F_ tabOk rfl) rfl rfl fun b9=>?_
 refine e_ (p_ (L' := core1.cells.map .v ++ [.v (.slice none 0 0)]) tabOk rfl rfl rfl u0_ rfl (Nat.le_of_ble_eq_true rfl) rfl (by exact x_ rfl)) rfl rfl ?_
 refine g_<|b_<|c_<|c_<|a_<|q_ 1 rfl<|d_ (P_ (m := 4) rfl Tryz.underlying22 rfl) rfl rfl<|q_ 1 rfl<|g_<|b_<|w_<|b8_ [] (Re.cast nil_rq1) rfl<|S_ (ι := Nat × Unit × List En × List ((Int × List UInt8) × Bool)) (fun z => [.blk b9 134 (Rq.mk core1 z.2.2.1).abs, .blk b8 134 (co0.cells.map .v ++ [.v (.slice none 0 0)]), .blk b5 26 (core1.cells.map .v), .blk c 74 [bkI p, int 4, int 5, mapV rm, mapV cm, ptr cr, mapV em, .v av], .rdpc (tmPc rm intK intOk pE (rmL r)), .pc (tmPc em wdV wdOk boo z.2.2.2), wb p bd bt (N + 7 * z.1)]) (fun z => [(0, ptr c), (5, ptr b5), (8, ptr b8), (9, ptr b9), (16, hon0), (17, int (4 : Nat)), (18, int (z.1 : Nat))]) (fun z => z.1 ≤ 4 ∧ z.2.2.1.length ≤ z.1 ∧ ∀ e ∈ z.2.2.1, EnMd e) (fun z => 4 - z.1) (0, (), [], EM) (⟨Nat.zero_le _, Nat.le_refl _, fun e h => by cases h⟩) (by exact ⟨rfl, rfl, rfl, rfl, rfl, rfl, rfl, trivial⟩) sr_ ?_
 intro z hz
 refine c_<|a_<|q_ 1 rfl<|g_<|b_<|c_<|n_ rfl ?_ ?_
 rotate_left
 ·intro hc19
  have hz4 : z.1 = 4 := by omega
  refine O_<|k_ nofun<|k_ nofun<|N_<|b_<|c_<|a_<|d_ (i_ (C := .agg (Rq.mk core1 z.2.2.1).abs) (y_ tabOk rfl rfl rfl l0_ List.not_mem_nil rfl) rfl) rfl rfl<|e_ (p_ (L' := (Rq.mk core1 z.2.2.1).abs) tabOk rfl rfl rfl u1_ rfl (Nat.le_of_ble_eq_true rfl) rfl (by exact x_ rfl)) rfl rfl ?_
  refine g_<|b_<|o_<|f_ (rs := [.cell 8 134]) rfl (RV.cell rfl (RV.cellA tabOk rfl rfl l1_ (by rfl)) RV.nil) ((⟨z.2.2.1, by omega, hz.2.2⟩, z.2.2.2)) (by rw [show N + 28 = N + 7 * z.1 by omega]; repeat (first | exact List.nil_sublist _ | exact List.Sublist.refl _ | apply List.Sublist.cons_cons | apply List.Sublist.cons)) ?_
  exact rfl
 intro hc19
 have hz4 : z.1 < 4 := by omega
 have hlr : z.1 < (rng 4).length := by rw [gx_]; exact hz4
 have hrg : (rng 4)[z.1] = [int ((z.1 : Nat) : Int)] := by simp [rng]
 refine s_<|b_<|c_<|w_<|c_<|a_<|d_ (W_ (q := z.1) (xs := rng 4) tabOk Tryz.underlying22 rfl rfl rfl rfl (List.getElem?_eq_getElem hlr) rfl rfl) rfl rfl ?_
 refine d_ (i_ (C := int ((z.1 : Nat) : Int)) (aI_ tabOk rfl rfl (by rw [hrg]; rfl)) rfl) rfl rfl ?_
 refine q_ 1 rfl<|g_<|b_<|c_<|c_<|a_<|q_ 3 rfl<|D_ (t := 24) rfl (by intro hc24; exfalso; omega) ?_
 intro hc24
 refine q_ 4 rfl<|d_ (i_ (C := int 4) (h_ tabOk rfl rfl l3_ List.not_mem_nil rfl) rfl) rfl rfl<|q_ 2 rfl<|g_<|b_<|n_ rfl (by intro hc31; exfalso; omega) ?_
 intro hc31
 refine s_<|b_<|c_<|aw_ (p := c ∉ [p, bd, bt] ∧ b5 ∉ [p, bd, bt]) (fun _ _ h => by
   have h1 := h.mem.nodup
   simp [mids, It.mids, ownPc, mapPc, tmPc, wbP, exP] at h1 ⊢
   grind) fun hX => ?_
 refine ah_ [p, bd, bt] (.q 0 (.q 1 (.q 2 (.q 3 (.q 4 (.q 5 (.q 6 (.q 7 (.q 8 (.q 9 (.two 10 11 (.e 11 .nil) (.e 10 .nil)))))))))))) (by kernel_rfl) (by kernel_rfl) ?_
 refine X_ (by intro k hk; simp [mids, It.mids, ownPc, mapPc, tmPc, wbP, exP] at hk ⊢; grind) fun hx9 => ?_
 refine qx_ 3 hx9 rfl<|j_ rfl (i_ (C := bkI p) (h_ tabOk rfl rfl l3_ (by exact hX.1) rfl) rfl) hx9 rfl rfl ?_
 refine qx_ 4 hx9 rfl<|j_ rfl (i_ (C := int 4) (h_ tabOk rfl rfl l3_ (by exact hX.1) rfl) rfl) hx9 rfl rfl ?_
 refine j_ rfl (i_ (C := coreA core1) (y_ tabOk rfl rfl rfl l2_ (by exact hX.2) rfl) rfl) hx9 rfl rfl ?_
 refine aQ_ ?_ ?_
 ·skip
  refine H_ rfl (g2_ (p := p) (bd := bd) (bt := bt) (N := N + 7 * z.1) (o := ((z.1 : Nat) : Int)) (n := 4) (c := core1) (by decide) (by decide) (by omega) (by unfold i64r; omega)) (by simp [mids, It.mids, wbP, exP]) Casts.refl (by kernel_rfl) rfl rfl rfl ?_
  refine M_ [_, _, _, _, _, _] (β := []) rfl (by intro x hx; simp only [List.mem_cons, List.not_mem_nil, or_false] at hx; rcases hx with rfl; rfl) ?_
  intro z42
  refine exb_ rfl (F_ tabOk rfl) (by simp) rfl rfl fun b12=>?_
  refine C_<|ao_ rfl (p_ (L' := (En.mk ((z.1 : Nat) : Int) z42.1).abs) tabOk rfl rfl rfl u0_ rfl (lb_ (by rfl)) rfl (by exact x_ rfl)) rfl rfl ?_
  rintro _ _ ⟨rfl, rfl⟩
  refine b_<|c_<|c_<|a_<|q_ 3 rfl<|d_ (i_ (C := mapV rm) (h_ tabOk rfl rfl l4_ List.not_mem_nil rfl) rfl) rfl rfl<|q_ 1 rfl<|d_ (i_ (C := ptr (r z.1)) (aZ_ (a := ((z.1 : Nat) : Int)) (m := rmL r) (enc := pE) (z0 := none) (zv := .pointer none) (bh_ Tryz.underlying3) Tryz.underlying69 gi_ fs_ rfl r5_ List.not_mem_nil rfl is_v (by unfold intOk; simp only [InR, lo, hi]; omega)) (by rw [iU_ hz4]; rfl)) rfl rfl ?_
  refine d_ (bz_ rfl rfl (by kernel_rfl)) rfl rfl ?_
  refine g_<|b_<|ab_ rfl<|ah_ [] (.q 0 (.q 1 (.q 2 (.q 3 (.q 4 (.q 5 (.e 6 .nil))))))) (by kernel_rfl) (by kernel_rfl) ?_
  refine qs_ 3 rfl<|hx_ fun hx9 =>j_ rfl (i_ (C := mapV em) (h_ tabOk rfl rfl l4_ List.not_mem_nil rfl) rfl) hx9 rfl rfl<|qs_ 1 rfl<|j_ rfl (i_ (C := coreA core1) (y_ tabOk rfl rfl rfl l3_ List.not_mem_nil rfl) rfl) hx9 rfl rfl<|H_ rfl (jw_ (o := ((z.1 : Nat) : Int)) (x := core1) (by decide) (by decide)) (by simp [mids, It.mids]) Casts.refl (by kernel_rfl) rfl rfl rfl ?_
  refine ap_<|fun _=>C_<|ao_ rfl (bB_ (enc := boo) (m := z.2.2.2) (a := (((((z.1 : Nat) : Int), core1.bytes) : Int × List UInt8))) (v := true) (m' := aput z.2.2.2 (((((z.1 : Nat) : Int), core1.bytes) : Int × List UInt8)) true) wd_fit Tryz.underlying72 rfl u6_ rfl (wd_is _ _) ⟨by unfold intOk; simp only [InR, lo, hi]; omega, by show core1.bytes.length ≤ maxLen; decide⟩ rfl rfl) rfl rfl ?_
  rintro _ _ ⟨rfl, rfl⟩
  refine b_<|a_<|d_ (i_ (C := .agg (Rq.mk core1 z.2.2.1).abs) (y_ tabOk rfl rfl rfl l1_ List.not_mem_nil rfl) rfl) rfl rfl<|d_ (i_ (C := .agg (En.mk ((z.1 : Nat) : Int) z42.1).abs) (y_ tabOk rfl rfl rfl l0_ List.not_mem_nil rfl) rfl) rfl rfl<|m_ (with_s (q := (Rq.mk core1 z.2.2.1)) (e := (En.mk ((z.1 : Nat) : Int) z42.1)) (by show z.2.2.1.length ≤ _; omega) (by show z42.1.length ≤ _; rw [z42.2]; decide)) Casts.refl (by kernel_rfl) rfl rfl rfl ?_
  refine ap_<|fun _=>e_ (p_ (L' := (Rq.mk core1 (withL z.2.2.1 (En.mk ((z.1 : Nat) : Int) z42.1))).abs) tabOk rfl rfl rfl u1_ rfl (Nat.le_of_ble_eq_true rfl) rfl (by exact x_ rfl)) rfl rfl ?_
  refine g_<|A_<|b_<|a_<|d_ (E_ rfl rfl (by simp only [InR, lo, hi]; omega)) rfl rfl ?_
  refine q_ 1 rfl<|g_<|J_ (z.1 + 1, (), (withL z.2.2.1 (En.mk ((z.1 : Nat) : Int) z42.1)), aput z.2.2.2 (((((z.1 : Nat) : Int), core1.bytes) : Int × List UInt8)) true) (by omega) ((⟨by dsimp only; omega, by dsimp only; exact Nat.le_trans (fe_ (es := z.2.2.1)) (by omega), fc_ (P := EnMd) ⟨by dsimp only; omega, by dsimp only; omega, by dsimp only; rw [z42.2]; decide⟩ hz.2.2⟩)) (by exact ⟨rfl, rfl, rfl, rfl, rfl, rfl, rfl, trivial⟩) (sk_ sr_)
 skip
 refine exb_ rfl (F_ tabOk rfl) (by simp) rfl rfl fun b12=>?_
 refine H_ rfl (g2_ (p := p) (bd := bd) (bt := bt) (N := N + 7 * z.1) (o := ((z.1 : Nat) : Int)) (n := 4) (c := core1) (by decide) (by decide) (by omega) (by unfold i64r; omega)) (by simp [mids, It.mids, wbP, exP]) Casts.refl (by kernel_rfl) rfl rfl rfl ?_
 refine M_ [_, _, _, _, _, _, _] (β := []) rfl (by intro x hx; simp only [List.mem_cons, List.not_mem_nil, or_false] at hx; rcases hx with rfl; rfl) ?_
 intro z42
 refine C_<|ao_ rfl (p_ (L' := (En.mk ((z.1 : Nat) : Int) z42.1).abs) tabOk rfl rfl rfl u0_ rfl (lb_ (by rfl)) rfl (by exact x_ rfl)) rfl rfl ?_
 rintro _ _ ⟨rfl, rfl⟩
 refine b_<|c_<|c_<|a_<|q_ 3 rfl<|d_ (i_ (C := mapV rm) (h_ tabOk rfl rfl l4_ List.not_mem_nil rfl) rfl) rfl rfl<|q_ 1 rfl<|d_ (i_ (C := ptr (r z.1)) (aZ_ (a := ((z.1 : Nat) : Int)) (m := rmL r) (enc := pE) (z0 := none) (zv := .pointer none) (bh_ Tryz.underlying3) Tryz.underlying69 gi_ fs_ rfl r5_ List.not_mem_nil rfl is_v (by unfold intOk; simp only [InR, lo, hi]; omega)) (by rw [iU_ hz4]; rfl)) rfl rfl ?_
 refine d_ (bz_ rfl rfl (by kernel_rfl)) rfl rfl ?_
 refine g_<|b_<|ab_ rfl<|ah_ [] (.q 0 (.q 1 (.q 2 (.q 3 (.q 4 (.q 5 (.e 6 .nil))))))) (by kernel_rfl) (by kernel_rfl) ?_
 refine qs_ 3 rfl<|hx_ fun hx9 =>j_ rfl (i_ (C := mapV em) (h_ tabOk rfl rfl l4_ List.not_mem_nil rfl) rfl) hx9 rfl rfl<|qs_ 1 rfl<|j_ rfl (i_ (C := coreA core1) (y_ tabOk rfl rfl rfl l3_ List.not_mem_nil rfl) rfl) hx9 rfl rfl<|H_ rfl (jw_ (o := ((z.1 : Nat) : Int)) (x := core1) (by decide) (by decide)) (by simp [mids, It.mids]) Casts.refl (by kernel_rfl) rfl rfl rfl ?_
 refine ap_<|fun _=>C_<|ao_ rfl (bB_ (enc := boo) (m := z.2.2.2) (a := (((((z.1 : Nat) : Int), core1.bytes) : Int × List UInt8))) (v := true) (m' := aput z.2.2.2 (((((z.1 : Nat) : Int), core1.bytes) : Int × List UInt8)) true) wd_fit Tryz.underlying72 rfl u6_ rfl (wd_is _ _) ⟨by unfold intOk; simp only [InR, lo, hi]; omega, by show core1.bytes.length ≤ maxLen; decide⟩ rfl rfl) rfl rfl ?_
 rintro _ _ ⟨rfl, rfl⟩
 refine b_<|a_<|d_ (i_ (C := .agg (Rq.mk core1 z.2.2.1).abs) (y_ tabOk rfl rfl rfl l1_ List.not_mem_nil rfl) rfl) rfl rfl<|d_ (i_ (C := .agg (En.mk ((z.1 : Nat) : Int) z42.1).abs) (y_ tabOk rfl rfl rfl l0_ List.not_mem_nil rfl) rfl) rfl rfl<|m_ (with_s (q := (Rq.mk core1 z.2.2.1)) (e := (En.mk ((z.1 : Nat) : Int) z42.1)) (by show z.2.2.1.length ≤ _; omega) (by show z42.1.length ≤ _; rw [z42.2]; decide)) Casts.refl (by kernel_rfl) rfl rfl rfl ?_
 refine ap_<|fun _=>e_ (p_ (L' := (Rq.mk core1 (withL z.2.2.1 (En.mk ((z.1 : Nat) : Int) z42.1))).abs) tabOk rfl rfl rfl u1_ rfl (Nat.le_of_ble_eq_true rfl) rfl (by exact x_ rfl)) rfl rfl ?_
 refine g_<|A_<|b_<|a_<|d_ (E_ rfl rfl (by simp only [InR, lo, hi]; omega)) rfl rfl ?_
 refine q_ 1 rfl<|g_<|J_ (z.1 + 1, (), (withL z.2.2.1 (En.mk ((z.1 : Nat) : Int) z42.1)), aput z.2.2.2 (((((z.1 : Nat) : Int), core1.bytes) : Int × List UInt8)) true) (by omega) ((⟨by dsimp only; omega, by dsimp only; exact Nat.le_trans (fe_ (es := z.2.2.1)) (by omega), fc_ (P := EnMd) ⟨by dsimp only; omega, by dsimp only; omega, by dsimp only; rw [z42.2]; decide⟩ hz.2.2⟩)) (by exact ⟨rfl, rfl, rfl, rfl, rfl, rfl, rfl, trivial⟩) (sk_ sr_)
end
def Core.ins (c : Core) : Prop := InR .i64 c.client ∧ InR .i64 c.stamp ∧ InR .i64 c.op ∧ InR .i64 c.a ∧ InR .i64 c.b ∧ c.letter.size ≤ maxLen ∧ c.text.size ≤ maxLen
theorem wfIc {a : Int} (h : InR .i64 a) : (Lit.int .i64 a).wf = true := by
  obtain ⟨h0, h1⟩ := h
  simp only [lo, hi] at h0 h1
  simp [Lit.wf, IntKind.min, IntKind.max, IntKind.signed, IntKind.bits]; omega
def Core.lits (c : Core) : List Lit := [.int .i64 c.client, .int .i64 c.stamp, .int .i64 c.op, .string c.letter.data.toList, .int .i64 c.a, .int .i64 c.b, .string c.text.data.toList]
theorem fX_ (c : Core) (h : Core.ins c) : Tryz.prog.keyLits 4 26 c.cells = some (Core.lits c) := by
  obtain ⟨a1, a2, a3, a4, a5, h6, h7⟩ := h
  have h1 := wfIc a1
  have h2 := wfIc a2
  have h3 := wfIc a3
  have h4 := wfIc a4
  have h5 := wfIc a5
  have c2 : Tryz.prog.cellsOf 26 = 7 := by kernel_rfl
  have c3 : Tryz.prog.cellsOf 9 = 1 := by kernel_rfl
  have c4 : Tryz.prog.cellsOf 3 = 1 := by kernel_rfl
  have c5 : Tryz.prog.cellsOf 2 = 1 := by kernel_rfl
  simp [Program.keyLits, Tryz.underlying26, Tryz.underlying9, Tryz.underlying3, Tryz.underlying2, c2, c3, c4, c5, Core.cells, Core.lits, h1, h2, h3, h4, h5, h6, h7]
theorem ep_ (c : Core) : (Value.agg c.cells.toArray).formed Tryz.prog 26 = true := by kernel_rfl
theorem eU_ {a b : ByteArray} (h : a.data.toList = b.data.toList) : a = b := by
  cases a; cases b; simp at h; simp [h]
theorem Core.lits_inj {c d : Core} (h : Core.lits c = Core.lits d) : c = d := by
  simp only [Core.lits, List.cons.injEq, Lit.string.injEq, Lit.int.injEq, true_and, and_true] at h
  obtain ⟨h1, h2, h3, h4, h5, h6, h7⟩ := h
  obtain ⟨a1, a2, a3, a4, a5, a6, a7⟩ := c
  obtain ⟨b1, b2, b3, b4, b5, b6, b7⟩ := d
  simp only [Core.mk.injEq]
  exact ⟨h1, h2, h3, eU_ h4, h5, h6, eU_ h7⟩
noncomputable instance : DecidableEq Core := fun _ _ => Classical.propDecidable _
theorem neqCo {c d : Core} (hc : Core.ins c) (hd : Core.ins d) (w : World) : (binOp .neq 26 (.agg c.cells.toArray) (.agg d.cells.toArray)).run Tryz.prog w = .ok (.bool (decide (c ≠ d))) w :=
  fD_ (m := 10) (by decide) (by kernel_rfl) (ep_ c) (ep_ d) (by simpa using fX_ c hc) (by simpa using fX_ d hd) _ (by
    rw [decide_eq_true_eq]
    exact ⟨fun h h2 => h (Core.lits_inj h2), fun h h2 => h (by rw [h2])⟩) w
theorem eo_ (c : Core) : plains (c.cells.map .v) = some c.cells := by
  have h := eO_ (fun x : Value => x) c.cells
  simpa using h
def parcels (m : Msg) (l : List Int) : List (List Abs) := l.map fun to => int to :: m.abs
def wtL (c : Core) (m : Msg) (t : Nat) : List Abs := c.cells.map .v ++ m.abs ++ [ptr t]
theorem wtl_msg (c : Core) (m : Msg) (t : Nat) : A.part (wtL c m t) 7 4 = m.abs := rfl
def nextC (x : Core) : Core := { x with client := 4, stamp := 1 }
theorem alN4 : allN 4 = [0, 1, 2, 3] := rfl
theorem fY_ : Core.ins core1 := ⟨by simp only [InR, lo, hi, core1]; omega, by simp only [InR, lo, hi, core1]; omega, by simp only [InR, lo, hi, core1]; omega, by simp only [InR, lo, hi, core1]; omega, by simp only [InR, lo, hi, core1]; omega, by decide, by decide⟩
def MsOk (m : Msg) : Prop := m.kind = 1 ∧ m.from_ = 4 ∧ m.body.length ≤ 1000 ∧ m.tags.length = 4
section
variable {c p bd bt N b62 t : Nat} {x : Core} {m : Msg} {es : List En}
theorem tner_s  : Spec Tryz.prog 83 [] [] (fun _ : Nat => []) (fun t => ptr t) := by
 refine t_ Tryz.func83 rfl Tryz.ntmps83 rfl fun G w =>c_<|a_<|q_ 1 rfl<|g_<|b_<|c_<|a_<|eb_ (B_ intK intOk pE (fun ac w => by simp [execOp, Instr.makeMap, newObj, Sem.run, Sem.run_bind, Result.andThen])) rfl rfl fun m1=>?_
 refine eb_ (B_ intK intOk pE (fun ac w => by simp [execOp, Instr.makeMap, newObj, Sem.run, Sem.run_bind, Result.andThen])) rfl rfl fun m2=>?_
 refine d_ (i_ (C := .agg [mapV m1, mapV m2]) (u_ tabOk rfl rfl rfl rfl) rfl) rfl rfl<|eb_ (z_ (cs := [mapV m1, mapV m2]) rfl) rfl rfl fun b4=>?_
 exact q_ 1 rfl<|g_<|b_<|o_<|f_ (rs := [.tmp 0]) rfl (RV.tmp rfl RV.nil) (b4) sn_<|rfl
theorem cnew_s  : Spec Tryz.prog 27 [bkI p, int 4, int 4] [] (fun c : Nat => [.blk c 126 [bkI p, int 4, int 4, int 0, .v (.pointer none), .v (.slice none 0 0)]]) (fun c => ptr c) := by
 refine t_ Tryz.func27 rfl Tryz.ntmps27 rfl fun G w =>c_<|a_<|q_ 1 rfl<|g_<|b_<|c_<|c_<|a_<|q_ 1 rfl<|d_ (a0_ Tryz.underlying68 rfl) rfl rfl<|q_ 5 rfl<|D_ (t := 13) rfl (by intro hc13; exfalso; omega) ?_
 intro hc13
 refine q_ 4 rfl<|D_ (t := 17) rfl (by intro hc17; exfalso; omega) ?_
 intro hc17
 refine q_ 5 rfl<|D_ (t := 22) rfl (by intro hc22; exfalso; omega) ?_
 intro hc22
 refine q_ 2 rfl<|d_ (E_ rfl rfl (by simp only [InR, lo, hi]; omega)) rfl rfl ?_
 refine q_ 2 rfl<|g_<|b_<|n_ rfl (by intro hc27; exfalso; omega) ?_
 intro hc27
 refine s_<|b_<|c_<|a_<|q_ 3 rfl<|d_ (i_ (C := .agg [bkI p, int 4, int 4, int 0, .v (.pointer none), .v (.slice none 0 0)]) (u_ tabOk rfl rfl rfl rfl) rfl) rfl rfl<|eb_ (z_ (cs := [bkI p, int 4, int 4, int 0, .v (.pointer none), .v (.slice none 0 0)]) rfl) rfl rfl fun b32=>?_
 exact q_ 1 rfl<|g_<|b_<|o_<|f_ (rs := [.tmp 6]) rfl (RV.tmp rfl RV.nil) (b32) sr_<|rfl
theorem jA_  : Spec Tryz.prog 55 [ptr c, coreA x] [.rd c 126 [bkI p, int 4, int 4, int 0, .v (.pointer none), .v (.slice none 0 0)]] (fun _ : Unit => []) (fun _ => coreA (nextC x)) := by
 refine t_ Tryz.func55 rfl Tryz.ntmps55 rfl fun G w =>c_<|a_<|eb_ (z_ (cs := x.cells.map .v) rfl) rfl rfl fun b3=>?_
 refine eb_ (F_ tabOk rfl) rfl rfl fun b4=>?_
 refine g_<|b_<|c_<|c_<|a_<|q_ 1 rfl<|d_ (ax_ rfl rfl (by kernel_rfl)) rfl rfl ?_
 refine g_<|b_<|I_ rfl<|s_<|b_<|c_<|a_<|q_ 3 rfl<|d_ (i_ (C := int 4) (h_ tabOk rfl rfl r2_ List.not_mem_nil rfl) rfl) rfl rfl<|q_ 1 rfl<|e_ (p_ tabOk rfl rfl rfl u1_ rfl (Nat.le_of_ble_eq_true rfl) rfl rfl) rfl rfl<|g_<|b_<|c_<|a_<|q_ 3 rfl<|d_ (i_ (C := int 0) (h_ tabOk rfl rfl r2_ List.not_mem_nil rfl) rfl) rfl rfl<|d_ (i_ (C := int 1) (E_ rfl rfl (by simp only [InR, lo, hi]; omega)) rfl) rfl rfl ?_
 refine q_ 1 rfl<|e_ (p_ tabOk rfl rfl rfl u1_ rfl (Nat.le_of_ble_eq_true rfl) rfl rfl) rfl rfl<|g_<|b_<|c_<|a_<|d_ (y_ tabOk rfl rfl rfl l1_ List.not_mem_nil rfl) rfl rfl<|e_ (p_ tabOk rfl rfl rfl u0_ rfl (Nat.le_of_ble_eq_true rfl) rfl rfl) rfl rfl<|g_<|b_<|o_<|f_ (rs := [.cell 4 26]) rfl (RV.cell rfl (RV.cellA tabOk rfl rfl l0_ (by rfl)) RV.nil) (()) sn_ ?_
 exact rfl
set_option maxHeartbeats 1000000 in
theorem cagain_s  : Spec Tryz.prog 59 [ptr c] [.rd c 126 [bkI p, int 4, int 4, int 1, ptr b62, .v (.slice none 0 0)], .rd b62 211 (wtL x m t)] (fun _ : Unit => []) (fun _ => .sl 5 (parcels m (allN 4))) := by
 have hal : (allN 4).length = 4 := rfl
 refine t_ Tryz.func59 rfl Tryz.ntmps59 rfl fun G w =>c_<|a_<|q_ 1 rfl<|g_<|b_<|c_<|c_<|a_<|q_ 1 rfl<|d_ (ax_ rfl rfl (by kernel_rfl)) rfl rfl ?_
 refine q_ 4 rfl<|d_ (i_ (C := ptr b62) (h_ tabOk rfl rfl r0_ List.not_mem_nil rfl) rfl) rfl rfl<|d_ (ax_ rfl rfl (by kernel_rfl)) rfl rfl ?_
 refine q_ 1 rfl<|g_<|b_<|I_ rfl<|s_<|b_<|c_<|a_<|q_ 1 rfl<|g_<|b_<|c_<|c_<|a_<|q_ 3 rfl<|d_ (h_ tabOk rfl rfl r0_ List.not_mem_nil rfl) rfl rfl<|m_ (jN_ (n := 4)) Casts.refl (by kernel_rfl) rfl rfl rfl ?_
 refine ap_<|fun _=>d_ (P_ rfl Tryz.underlying22 (List.length_map _)) rfl rfl<|q_ 1 rfl<|g_<|b_<|w_<|aO_ 141 5<|S_ (ι := Nat × Value) (fun z => [own 141 5 z.2 (parcels m ((allN 4).take z.1)), .rd c 126 [bkI p, int 4, int 4, int 1, ptr b62, .v (.slice none 0 0)], .rd b62 211 (wtL x m t)]) (fun z => [(0, ptr c), (3, .v z.2), (19, ints (allN 4)), (20, int ((allN 4).length : Nat)), (21, int (z.1 : Nat))]) (fun z => z.1 ≤ (allN 4).length) (fun z => (allN 4).length - z.1) (0, .slice none 0 0) (Nat.zero_le _) (by exact ⟨rfl, rfl, rfl, rfl, rfl, trivial⟩) sr_ ?_
 intro z hz
 refine c_<|a_<|q_ 1 rfl<|g_<|b_<|c_<|n_ rfl ?_ ?_
 rotate_left
 ·intro hc22
  refine O_<|k_ nofun<|k_ nofun<|N_<|b_<|c_<|a_<|q_ 2 rfl<|g_<|b_<|o_<|a8_ [] (t := 2) rfl rfl ?_
  rw [List.take_of_length_le (show (allN 4).length ≤ z.1 by omega)]
  exact f_ (rs := [.tmp 2]) rfl (RV.tmp rfl RV.nil) (()) sn_<|rfl
 intro hc22
 have hlt : z.1 < (allN 4).length := by omega
 refine s_<|b_<|c_<|w_<|c_<|a_<|d_ (W_ tabOk Tryz.underlying22 rfl rfl rfl rfl (ce_ (by omega)) rfl rfl) rfl rfl ?_
 refine d_ (i_ (C := int ((allN 4)[z.1]'hlt)) (aI_ tabOk rfl rfl rfl) rfl) rfl rfl<|q_ 1 rfl<|g_<|b_<|a_<|q_ 5 rfl<|d_ (i_ (C := ptr b62) (h_ tabOk rfl rfl r1_ List.not_mem_nil rfl) rfl) rfl rfl<|q_ 2 rfl<|d_ (i_ (C := .agg m.abs) (al_ tabOk rfl rfl rfl r2_ List.not_mem_nil (Nat.le_of_ble_eq_true rfl)) (congrArg Abs.agg (wtl_msg _ _ _))) rfl rfl<|d_ (u_ (L := int ((allN 4)[z.1]'hlt) :: m.abs) tabOk rfl rfl rfl rfl) rfl rfl<|e_ (ac_ tabOk Tryz.underlying116 rfl rfl rfl rfl rfl rfl rfl) rfl rfl<|eb_ (K_ (zs := parcels m ((allN 4).take (z.1 + 1))) tabOk [] (by rw [List.take_succ_eq_append_getElem hlt]; unfold parcels; rw [List.map_append]; rfl) Tryz.underlying116 rfl rfl rfl rfl rfl rfl (by intro c hc; rw [List.mem_singleton] at hc; subst hc; rfl) (by unfold maxLen parcels; simp only [List.length_map, List.length_take, List.length_cons, List.length_nil]; omega) (by rw [show Tryz.prog.bytesOf 141 = 72 by kernel_rfl]; unfold parcels; simp only [List.length_map, List.length_take, List.length_cons, List.length_nil]; omega)) rfl rfl fun r36=>?_
 refine q_ 1 rfl<|g_<|A_<|b_<|a_<|d_ (E_ rfl rfl (by simp only [InR, lo, hi]; omega)) rfl rfl ?_
 refine q_ 1 rfl<|g_<|J_ (z.1 + 1, r36) (by omega) (by dsimp only; omega) (by exact ⟨rfl, rfl, rfl, rfl, rfl, trivial⟩) sr_
set_option maxHeartbeats 2000000 in
theorem cask_s (hE : es.length ≤ 4 ∧ ∀ e ∈ es, EnMd e) (hN : N ≤ 10000) : Spec Tryz.prog 56 [ptr c, coreA core1, endsA es] [.blk c 126 [bkI p, int 4, int 4, int 0, .v (.pointer none), .v (.slice none 0 0)], wb p bd bt N] (fun _ : {m : Msg // MsOk m} => [wb p bd bt (N + 4)]) (fun m => .tup [.sl 5 (parcels m.1 (allN 4)), int 0]) := by
 refine t_ Tryz.func56 rfl Tryz.ntmps56 rfl fun G w =>c_<|a_<|eb_ (z_ (cs := core1.cells.map .v) rfl) rfl rfl fun b4=>?_
 refine q_ 2 rfl<|g_<|b_<|c_<|w_<|c_<|a_<|q_ 1 rfl<|d_ (ax_ rfl rfl (by kernel_rfl)) rfl rfl ?_
 refine q_ 1 rfl<|g_<|b_<|I_ rfl<|c_<|a_<|q_ 3 rfl<|d_ (i_ (C := .v (.pointer none)) (h_ tabOk rfl rfl l1_ List.not_mem_nil rfl) rfl) rfl rfl<|d_ (bz_ rfl rfl (by kernel_rfl)) rfl rfl ?_
 refine q_ 1 rfl<|g_<|b_<|I_ rfl<|c_<|T_ [] (.q 0 (.q 1 (.q 2 (.e 3 (.q 4 (.q 5 .nil)))))) (by kernel_rfl) (by kernel_rfl) ?_
 refine hx_ fun hx9 =>j_ rfl (i_ (C := coreA core1) (y_ tabOk rfl rfl rfl l0_ List.not_mem_nil rfl) rfl) hx9 rfl rfl<|qs_ 1 rfl<|j_ rfl (i_ (C := coreA core1) (y_ tabOk rfl rfl rfl l0_ List.not_mem_nil rfl) rfl) hx9 rfl rfl<|H_ rfl (jA_ (c := c) (p := p) (x := core1)) (by simp [mids, It.mids]) Casts.refl (by kernel_rfl) rfl rfl rfl ?_
 refine ap_<|fun _=>hx_ fun hx9 =>j_ rfl (jV_ rfl rfl (eo_ _) (eo_ _) (by kernel_rfl) (neqCo fY_ fY_)) hx9 rfl rfl ?_
 refine qs_ 1 rfl<|C_<|b_<|n_ rfl (by intro hc19; exfalso; exact hc19 rfl) ?_
 intro hc19
 refine s_<|A_<|b_<|c_<|c_<|T_ [] (.q 0 (.q 1 (.q 2 (.q 3 (.q 4 (.e 5 (.q 6 .nil))))))) (by kernel_rfl) (by kernel_rfl) ?_
 refine hx_ fun hx9 =>j_ rfl (i_ (C := coreA core1) (y_ tabOk rfl rfl rfl l0_ List.not_mem_nil rfl) rfl) hx9 rfl rfl<|qs_ 3 rfl<|j_ rfl (i_ (C := int 4) (h_ tabOk rfl rfl l1_ List.not_mem_nil rfl) rfl) hx9 rfl rfl<|H_ rfl (hA_ (c := core1) (n := 4)) (by simp [mids, It.mids]) Casts.refl (by kernel_rfl) rfl rfl rfl ?_
 refine ap_<|fun _=>qs_ 1 rfl<|C_<|b_<|c_<|a_<|q_ 2 rfl<|g_<|b_<|n_ rfl (by intro hc32; exfalso; exact hc32 (by decide +kernel)) ?_
 intro hc32
 refine s_<|b_<|c_<|a_<|d_ (i_ (C := coreA core1) (y_ tabOk rfl rfl rfl l0_ List.not_mem_nil rfl) rfl) rfl rfl<|q_ 1 rfl<|d_ (i_ (C := .agg (Rq.mk core1 es).abs) (u_ tabOk rfl rfl rfl rfl) rfl) rfl rfl<|m_ (reqb_s (q := ⟨core1, es⟩) (by show core1.letter.size ≤ 20; decide) (by show core1.text.size ≤ 20; decide) hE.1 (fun e he => (hE.2 e he).2.2) (fun e he => ⟨(hE.2 e he).1, (hE.2 e he).2.1⟩)) Casts.refl (by kernel_rfl) rfl rfl rfl ?_
 refine ap_<|fun z37=>q_ 1 rfl<|g_<|b_<|c_<|a_<|q_ 2 rfl<|d_ (i_ (C := int 1) (h_ tabOk rfl rfl l0_ List.not_mem_nil rfl) rfl) rfl rfl<|q_ 2 rfl<|e_ (p_ tabOk rfl rfl rfl u1_ rfl (Nat.le_of_ble_eq_true rfl) rfl rfl) rfl rfl<|g_<|b_<|c_<|aw_ (p := c ∉ [p, bd, bt] ∧ b4 ∉ [p, bd, bt]) (fun _ _ h => by
   have h1 := h.mem.nodup
   simp [mids, It.mids, ownPc, mapPc, tmPc, wbP, exP] at h1 ⊢
   grind) fun hX => ?_
 refine ah_ [p, bd, bt] (.q 0 (.q 1 (.q 2 (.q 3 (.q 4 (.q 5 (.q 6 (.q 7 (.q 8 (.q 9 (.q 10 (.q 11 (.q 12 (.q 13 (.q 14 (.e 15 (.e 16 (.e 17 (.q 18 (.e 19 (.q 20 (.q 21 .nil)))))))))))))))))))))) (by kernel_rfl) (by kernel_rfl) ?_
 refine X_ (by intro k hk; simp [mids, It.mids, ownPc, mapPc, tmPc, wbP, exP] at hk ⊢; grind) fun hx9 => ?_
 refine qx_ 1 hx9 rfl<|j_ rfl (i_ (C := coreA core1) (y_ tabOk rfl rfl rfl l0_ (by exact hX.2) rfl) rfl) hx9 rfl rfl ?_
 refine qx_ 3 hx9 rfl<|j_ rfl (i_ (C := bkI p) (h_ tabOk rfl rfl l1_ (by exact hX.1) rfl) rfl) hx9 rfl rfl ?_
 refine qx_ 3 hx9 rfl<|j_ rfl (i_ (C := int 4) (h_ tabOk rfl rfl l1_ (by exact hX.1) rfl) rfl) hx9 rfl rfl ?_
 refine qx_ 4 hx9 rfl<|j_ rfl (i_ (C := int 4) (h_ tabOk rfl rfl l1_ (by exact hX.1) rfl) rfl) hx9 rfl rfl ?_
 refine H_ rfl (jN_ (n := 4)) (by simp [mids, It.mids]) Casts.refl (by kernel_rfl) rfl rfl rfl ?_
 refine ap_<|fun _=>H_ rfl (e2_ (p := p) (bd := bd) (bt := bt) (N := N) (k := 1) (f := 4) (body := z37.1) (to := allN 4) (by have := z37.2; omega) (by omega) (by decide) (by unfold i64r; omega) (by intro w hw; rw [alN4] at hw; simp at hw; unfold i64r; omega)) (by simp [mids, It.mids, wbP, exP]) Casts.refl (by kernel_rfl) rfl rfl rfl ?_
 refine M_ [_, _] (β := []) rfl (by intro x hx; simp only [List.mem_cons, List.not_mem_nil, or_false] at hx; rcases hx with rfl; rfl) ?_
 intro z59
 refine H_ rfl (tner_s) (by simp [mids, It.mids]) Casts.refl (by kernel_rfl) rfl rfl rfl ?_
 refine ap_<|fun t60=>X_ (by intro k hk; simp [mids, It.mids, ownPc, mapPc, tmPc, wbP, exP] at hk ⊢; grind) fun hx9 => ?_
 refine j_ rfl (u_ (L := wtL core1 (Msg.mk 1 4 z37.1 z59.1) t60) tabOk rfl rfl rfl rfl) hx9 rfl rfl<|exb_ rfl (z_ (cs := wtL core1 (Msg.mk 1 4 z37.1 z59.1) t60) rfl) (by simp) rfl rfl fun b62=>?_
 refine X_ (by intro k hk; simp [mids, It.mids, ownPc, mapPc, tmPc, wbP, exP] at hk ⊢; grind) fun hx9 => ?_
 refine qx_ 2 hx9 rfl<|C_<|ao_ rfl (p_ tabOk rfl rfl rfl u2_ (by rfl) (lb_ (by rfl)) (by rfl) (by rfl)) rfl rfl ?_
 rintro _ _ ⟨rfl, rfl⟩
 refine b_<|c_<|a_<|q_ 1 rfl<|m_ (cagain_s (c := c) (p := p) (b62 := b62) (t := t60) (x := core1) (m := (Msg.mk 1 4 z37.1 z59.1))) Casts.refl (by kernel_rfl) rfl rfl rfl ?_
 refine ap_<|fun _=>q_ 2 rfl<|g_<|b_<|o_<|f_ (rs := [.tmp 6, .tmp 7]) rfl (RV.tmp rfl (RV.tmp rfl RV.nil)) (⟨(Msg.mk 1 4 z37.1 z59.1), rfl, rfl, by show z37.1.length ≤ _; have := z37.2; omega, z59.2⟩) (sk_ (sk_ (sk_ sr_))) ?_
 exact rfl
end
def NormOf (Q : Exit → Act → World → Prop) : Exit → Act → World → Prop
  | .normal, a, w => Q .normal a w
  | _, _, _ => False
theorem dn_ {Q : Exit → Act → World → Prop} : ¬ LetsOut (NormOf Q) := fun ⟨_, _, h⟩ => h
theorem ed_ {Q : Exit → Act → World → Prop} {e : Exit} {a : Act} {w : World} (h : NormOf Q e a w) : Q e a w := by
  cases e <;> first | exact h | exact h.elim
section
variable {P : Program} {l : Option Nat} {n : Nat} {ops : Array Oper} {Q : Exit → Act → World → Prop} {a : Act} {w : World} {o : Oper} {rest : List Oper}
abbrev RF (r : Option Nat) : Fence := { Fence.wide with round := r }
theorem fF_ {row : String} {args : Array Value} {R : Value → World → Prop} (h : Rows P row args w R) : RowsIn (RF l) n P row args w R := fun c cs _ =>
  let ⟨v, w', r, s⟩ := h c cs
  ⟨v, w', r, stepsIn_wide.2 s⟩
def notDefer (o : Oper) : Bool := match o.op with
  | .defer _ => false
  | _ => true
theorem sem_at {ρ : Operand → Value} (hd : notDefer o = true) : Oper.semAt (RF l).round ρ o = execOp ρ o := by
  cases l with
  | none => rfl
  | some l => exact Oper.semAt_some l ρ o fun c hc => by unfold notDefer at hd; rw [hc] at hd; cases hd
theorem calls_in {f : FuncId} {args : Array Value} {R : Ending → World → Prop} (h : Calls P f args w R) : CallsIn (RF l) n P f args w R := (callsIn_wide.2 h : CallsIn Fence.wide n P f args w R)
theorem e9_ {next : Act → World → Prop} (hd : notDefer o = true) (h : o.wp P a w next Q) : o.wpIn (RF l) n P a w next Q := by
  refine ⟨fun _ _ => trivial, ?_⟩
  rw [sem_at hd]
  unfold Oper.wp at h
  generalize (execOp a.eval o).run P w = r at h
  match r, h with
  | .ok (.value v) w', h => exact h
  | .ok .skip w', h => exact h
  | .ok (.defer d) w', h => exact h
  | .ok (.enter f args) w', h => exact ⟨fun hn => (by cases hn), calls_in h⟩
  | .ok (.row row args) w', h => exact ⟨fun hn => (by cases hn), fF_ h⟩
  | .halt (.panic v) w', h => exact h
theorem fd_ (hQ : ¬ LetsOut Q) : ∀ {rest : List Oper} {a : Act} {w : World}, rest.all notDefer = true → wpList P ops Q rest a w → wpListIn (RF l) n P ops Q rest a w
  | [], a, w, _, h => h
  | o :: rest, a, w, hd, h => by
    simp only [List.all_cons, Bool.and_eq_true] at hd
    unfold wpListIn
    unfold wpList at h
    split
    · next hw =>
      rw [if_pos hw] at h
      refine e9_ hd.1 ?_
      rcases h with h | ⟨_, h⟩
      · exact Oper.wp_mono (fun a w h => fd_ hQ hd.2 h) h
      · exact absurd h hQ
    · next hw =>
      rw [if_neg hw] at h
      exact ⟨fun _ _ => trivial, fd_ hQ hd.2 h⟩
theorem op_in (hQ : ¬ LetsOut Q) (hd : ops.all notDefer = true) {i : Nat} {K : Act → World → Prop} (h : wpOp P ops Q i K a w) : wpOpIn (RF l) n P ops Q i K a w := by
  unfold wpOpIn
  unfold wpOp at h
  cases ho : ops[i]? with
  | none => rw [ho] at h; exact h
  | some o =>
    rw [ho] at h
    dsimp only at h ⊢
    have hdo : notDefer o = true := (Array.all_eq_true'.1 hd) o (Array.mem_of_getElem? ho)
    split
    · next hw =>
      rw [if_pos hw] at h
      rcases h with h | ⟨_, h⟩
      · exact e9_ hdo h
      · exact absurd h hQ
    · next hw =>
      rw [if_neg hw] at h
      exact ⟨fun _ _ => trivial, h⟩
theorem any_in (hQ : ¬ LetsOut Q) (hd : ops.all notDefer = true) {md : Region.Mode} : ∀ (k : Nat) {listed : Array Bool} {a : Act} {w : World}, wpAny P md ops Q k listed a w → wpAnyIn (RF l) n P md ops Q k listed a w
  | 0, _, _, _, h => h
  | k + 1, _, _, _, h => ⟨h.1, fun i hi => op_in hQ hd (wpOp_mono (fun _ _ h => any_in hQ hd k h) (h.2 i hi))⟩
end
/-! ### Codes in a round -/
def RC (P : Program) (l : Option Nat) (n : Nat) (c : Code) (T : Act → World → Prop) (Q : Exit → Act → World → Prop) : Prop := ∀ a w, T a w → c.wpIn (RF l) n P Q a w
section
variable {P : Program} {l : Option Nat} {n m : Nat} {W : Wd} {σ : Blks} {ls : Slots} {X : List Nat} {Q : Exit → Act → World → Prop} {T : Act → World → Prop} {x y : Code} {id : Nat} {ops : Array Oper}
theorem RC.seq (h : RC P l n x T (Exit.then (y.wpIn (RF l) n P Q) Q)) : RC P l n (.seq x y) T Q := fun a w hs => wpIn_seq (h a w hs)
theorem RC.block (h : RC P l n x T (Exit.inBlock id Q)) : RC P l n (.block id x) T Q := fun a w hs => wpIn_block (h a w hs)
theorem RC.ret (h : SE .ret T Q) : RC P l n .ret T Q := fun a w hs => wpIn_ret (h a w hs)
theorem RC.skip (h : SE .normal T Q) : RC P l n .skip T Q := fun a w hs => wpIn_skip (h a w hs)
theorem RC.exit (h : SE (.exit id) T Q) : RC P l n (.exit id) T Q := fun a w hs => wpIn_exit (h a w hs)
theorem RC.mono {Q' : Exit → Act → World → Prop} (hq : ∀ e a w, Q e a w → Q' e a w) (h : RC P l n x T Q) : RC P l n x T Q' := fun a w hs => Code.wpIn_mono hq (h a w hs)
theorem RC.region {os : List Oper} (hd : os.all notDefer = true) (h : SL P os.toArray os T (NormOf Q)) : RC P l n (.region id os.toArray false) T Q := fun a w hs =>
  Code.wpIn_mono (fun _ _ _ h => ed_ h) (wpIn_region_lit (fd_ dn_ hd (h a w hs)))
theorem RC.cond {c : Operand} {b : Bool} (hc : look ls c = some (.v (.bool b))) (ht : b = true → RC P l n x (St m W σ ls) Q) (hf : b = false → RC P l n y (St m W σ ls) Q) : RC P l n (.cond c x y) (St m W σ ls) Q := fun a w hs =>
  wpIn_cond_split (hs.plain hc) (fun h => ht h a w hs) (fun h => hf h a w hs)
theorem RE.seq (h : RC P l n y T Q) : SE .normal T (Exit.then (y.wpIn (RF l) n P Q) Q) := fun a w hs => h a w hs
theorem RE.norm (h : SE .normal T Q) : SE .normal T (NormOf Q) := h
theorem RC.draw (X : List Nat) (ix : Proofs.YtjclgkddfjbdiaaGreatDoor.Plan) (hm : P.follows .mixedOrders = true) (hd : ops.all notDefer = true)
    (hok : (Region.noSelect ops && Proofs.YtjclgkddfjbdiaaGreatDoor.planOk ops ops.size (Array.replicate ops.size false) ix) = true) (h : SX P ops ix X (St m W σ ls) Q) : RC P l n (.region id ops true) (St m W σ ls) Q := fun a w hs => by
  simp only [Bool.and_eq_true] at hok
  refine Code.wpIn_mono (fun _ _ _ h => ed_ h) (wpIn_region_any (Q := NormOf Q) hm (any_in dn_ hd _ ?_))
  refine Proofs.YtjclgkddfjbdiaaGreatDoor.anyD.wpAny _ _ _ _ (Proofs.YtjclgkddfjbdiaaGreatDoor.planW.anyD hok.1 _ ix (fun w' => Ext X w.drew w') _ a _ hok.2 (Ext.refl _) ?_)
  exact h a _ hs.drew
theorem ee_ {p : Nat → Prop} (h : ∃ k, p k) : ∃ k, p k ∧ ∀ j, p j → k ≤ j := by
  obtain ⟨k, hk⟩ := h
  induction k using Nat.strongRecOn with
  | _ k ih =>
    by_cases h2 : ∃ j, j < k ∧ p j
    · obtain ⟨j, hj, hp⟩ := h2
      exact ih j hj hp
    · exact ⟨k, hk, fun j hp => Nat.le_of_not_lt fun hl => h2 ⟨j, hl, hp⟩⟩
open Classical in
end
/-! ### Operations, one behind the other, in a round -/
def RL (P : Program) (l : Option Nat) (n : Nat) (ops : Array Oper) (rest : List Oper) (T : Act → World → Prop) (Q : Exit → Act → World → Prop) : Prop := ∀ a w, T a w → wpListIn (RF l) n P ops Q rest a w
section
variable {P : Program} {l : Option Nat} {n m : Nat} {W : Wd} {σ : Blks} {ls : Slots} {Q : Exit → Act → World → Prop} {T : Act → World → Prop} {id : Nat} {ops : Array Oper} {o : Oper} {rest : List Oper} {y : Abs} {x : Operand} {d : Option Nat} {xs : List Operand} {ats : Array TypeId} {ty : TypeId} {pos : String} {aft : Array Edge} {g : Option (Nat × Bool)} {k : Nat} {bs : List Abs}
theorem RC.regionL {os : List Oper} (h : RL P l n os.toArray os T Q) : RC P l n (.region id os.toArray false) T Q := fun a w hs => wpIn_region_lit (h a w hs)
theorem RL.nil (h : SE .normal T Q) : RL P l n ops [] T Q := h
theorem RL.val (hv : Val P m W σ ls [] o y) (hg : gd ops ls o = some true) (hd : lt? o.dst m = true) (hn : notDefer o = true) (h : RL P l n ops rest (St m W σ (put? ls o.dst y)) Q) : RL P l n ops (o :: rest) (St m W σ ls) Q := fun a w hs => by
  unfold wpListIn
  rw [if_pos (hs.wanted hg)]
  obtain ⟨v, hr, hrun⟩ := hv a w hs (by simp)
  refine e9_ hn ?_
  unfold Oper.wp
  rw [hrun w (Ext.refl w)]
  exact h _ _ (hs.put hd hr)
/-! ### With a word about the world beside -/
variable {J : World → Prop}
abbrev StJ (m : Nat) (W : Wd) (σ : Blks) (ls : Slots) (J : World → Prop) : Act → World → Prop := fun a w => St m W σ ls a w ∧ J w
theorem RL.valJ (hv : Val P m W σ ls [] o y) (hg : gd ops ls o = some true) (hd : lt? o.dst m = true) (hn : notDefer o = true) (h : RL P l n ops rest (StJ m W σ (put? ls o.dst y) J) Q) : RL P l n ops (o :: rest) (StJ m W σ ls J) Q := fun a w hs => by
  unfold wpListIn
  rw [if_pos (hs.1.wanted hg)]
  obtain ⟨v, hr, hrun⟩ := hv a w hs.1 (by simp)
  refine e9_ hn ?_
  unfold Oper.wp
  rw [hrun w (Ext.refl w)]
  exact h _ _ ⟨hs.1.put hd hr, hs.2⟩
theorem RC.condJ {c : Operand} {b : Bool} {x y : Code} (hc : look ls c = some (.v (.bool b))) (ht : b = true → RC P l n x (StJ m W σ ls J) Q) (hf : b = false → RC P l n y (StJ m W σ ls J) Q) : RC P l n (.cond c x y) (StJ m W σ ls J) Q := fun a w hs =>
  wpIn_cond_split (hs.1.plain hc) (fun h => ht h a w hs) (fun h => hf h a w hs)
open Classical in
theorem RC.loopJ {ι : Type} {c : Code} (K : ι → Act → World → Prop) (μ : ι → Nat) (x₀ : ι) (h0 : ∀ a w, T a w → K x₀ a w)
    (round : ∀ z, RC P l n c (K z) (Exit.then (fun a w => ∃ u, μ u < μ z ∧ K u a w) Q)) : RC P l n (.loop c) T Q := by
  intro a0 w0 hf0
  let p : Act → World → Nat → Prop := fun a w k => ∃ z, K z a w ∧ μ z = k
  refine wpIn_loop (fun a w => ∃ z, K z a w) (fun a w => if h : ∃ k, p a w k then (ee_ h).choose else 0) ⟨x₀, h0 _ _ hf0⟩ fun a w hI => ?_
  obtain ⟨z0, hz0⟩ := hI
  have he : ∃ k, p a w k := ⟨_, z0, hz0, rfl⟩
  obtain ⟨⟨z, hz, hzk⟩, _⟩ := (ee_ he).choose_spec
  refine Code.wpIn_mono (fun e a' w' q => ?_) (round z a w hz)
  cases e with
  | normal =>
    obtain ⟨u, hu, hh⟩ := q
    have hu2 : ∃ k, p a' w' k := ⟨_, u, hh, rfl⟩
    have h3 := (ee_ hu2).choose_spec.2 _ ⟨u, hh, rfl⟩
    refine ⟨⟨u, hh⟩, ?_⟩
    show (if h : ∃ k, p a' w' k then (ee_ h).choose else 0) < (if h : ∃ k, p a w k then (ee_ h).choose else 0)
    rw [dif_pos hu2, dif_pos he]
    omega
  | _ => exact q
theorem RL.yieldJ {L : Nat} {R : Ending → World → Prop} (hx : look ls x = some (.v (.func (.yield L) #[] #[]))) (hxs : looks ls xs = some bs) (hg : gd ops ls ⟨d, .call { callee := .value x, args := xs.toArray, argTypes := ats }, ty, pos, aft, g⟩ = some true)
    (hy : ∀ w vals, J w → reps (mids σ ++ W.G) w bs vals → YieldAt (RF l) (n - 1) P L vals.toArray w R)
    (h : ∀ a w e w', StJ m W σ ls J a w → R e w' → ∃ v, e = .returned v ∧ wpListIn (RF l) n P ops Q rest (a.put d v) w') : RL P l n ops (⟨d, .call { callee := .value x, args := xs.toArray, argTypes := ats }, ty, pos, aft, g⟩ :: rest) (StJ m W σ ls J) Q := fun a w hs => by
  unfold wpListIn
  rw [if_pos (hs.1.wanted hg)]
  obtain ⟨fn, tmps, assign, body, hrun, hR⟩ := hy w _ hs.2 (hs.1.evals hxs)
  refine ⟨fun _ _ => trivial, ?_⟩
  rw [sem_at rfl]
  have hr : (execOp a.eval ⟨d, .call { callee := .value x, args := xs.toArray, argTypes := ats }, ty, pos, aft, g⟩).run P w = .ok (.round L fn tmps assign body) w := by
    have e1 : a.eval x = .func (.yield L) #[] #[] := hs.1.plain hx
    simpa [execOp, resolve, e1, Deferred.ofValue, invoke, Sem.run_bind, Sem.run, Result.andThen] using hrun
  rw [hr]
  refine ⟨fun hn => (by cases hn), hR.mono fun e w' he => ?_⟩
  obtain ⟨v, rfl, hk⟩ := h a w e w' hs he
  exact hk
end
def bwdL {β : Type} (xs : List β) : List (Int × β) := (xs.zipIdx.map fun x => ((x.2 : Int), x.1)).reverse
section
variable {β : Type} {xs : List β} {z : Nat}
theorem bZ_ (xs : List β) : (bwdL xs).length = xs.length := by simp [bwdL]
theorem bwdL_get (h : z < xs.length) : (bwdL xs)[z]'(by rw [bZ_]; exact h) = (((xs.length - 1 - z : Nat) : Int), xs[xs.length - 1 - z]) := by
  simp [bwdL, List.getElem_reverse]
theorem f2_ (h : z < xs.length) : (bwdL xs).take (z + 1) = (bwdL xs).take z ++ [(((xs.length - 1 - z : Nat) : Int), xs[xs.length - 1 - z])] := by
  rw [List.take_succ_eq_append_getElem (by rw [bZ_]; exact h), bwdL_get h]
end
def encP {β : Type} (f : β → Pnt) (x : Int × β) : Array Value := #[.int .i64 x.1, .agg (f x.2).cells.toArray]
theorem RC.apply {P : Program} {l : Option Nat} {n : Nat} {c : Code} {T : Act → World → Prop} {Q : Exit → Act → World → Prop} {a : Act} {w : World} (h : RC P l n c T Q) (ht : T a w) : c.wpIn (RF l) n P Q a w := h a w ht
theorem jr_ {w W : World} (h : Below w.heap.size w W) : Ext [] w W := ⟨h.os, h.tape, h.output, h.size, fun k hk _ => h.block k hk⟩
theorem in_of {P : Program} {f : FuncId} {fn : Func} {c : Code} {n m : Nat} {args : List Abs} {σ : Blks} {w0 w : World} {F G : List Nat} {J : World → Prop} {R : Ending → World → Prop} (vals : List Value) (hf : P.funcs[f]? = some fn) (hb : fn.body = some c) (hn : fn.ntmps = m) (hle : Nat.ble args.length m = true)
    (hv : reps (mids σ ++ G) w args vals) (hm : Mem w0 F G σ w) (hJ : J w) (h : RC P none n c (StJ m ⟨w0, F, G⟩ σ (args0 args 0) J) (bodyPost P fn R)) : CallsIn (RF none) n P f vals.toArray w R := by
  have hlen := V_ hv
  have hl := Nat.le_of_ble_eq_true hle
  refine callsIn_of_wp hf hb trivial (h _ w ⟨⟨rfl, ?_, fun t x hx => ?_, hm⟩, hJ⟩) rfl
  · simp [hn]; omega
  · have h1 := (ck_ args 0 t x hx).2
    rw [Nat.sub_zero] at h1
    obtain ⟨u, h2, h3⟩ := a9_ hv h1
    refine ⟨u, ?_, h3⟩
    have hlt : t < vals.length := (List.getElem?_eq_some_iff.1 h2).1
    simp [Array.getElem?_append, hlt]
    exact (List.getElem?_eq_some_iff.1 h2).2
theorem St.world {n : Nat} {W W' : Wd} {σ σ' : Blks} {l l' : Slots} {a : Act} {w w' : World} (h : St n W σ l a w) (hs : Subs l l') (hp : ∀ t x, slot l' t = some x → ∃ u, x = .v u) (hm : Mem W'.w0 W'.F W'.G σ' w') : St n W' σ' l' a w' :=
  ⟨h.defers, h.size, fun t x hx => by
    obtain ⟨v, rfl⟩ := hp t x hx
    obtain ⟨u, h1, h2⟩ := h.slots t _ (hs.slot t _ hx)
    exact ⟨u, h1, h2⟩, hm⟩
theorem ext_step {w a b : World} (h : Ext [] w a) (k : Below w.heap.size a b) : Ext [] w b := ⟨k.os.trans h.os, k.tape.trans h.tape, k.output.trans h.output, Nat.le_trans h.size k.size, fun i hi hn => (k.block i hi).trans (h.block i hi hn)⟩
set_option maxHeartbeats 1000000 in
theorem jF_ {β : Type} (f : β → Pnt) {b : Nat} {xs : List β} {w0 w : World} {F G : List Nat} (hm : Mem w0 F G [.rd b 199 [pntsA (xs.map f)]] w) (hn : xs.length ≤ 100000) :
    SeqStopsK (RF none) 5 Tryz.prog 335 #[.pointer (some ⟨b, 0, none⟩)] (encP f) (Below w.heap.size) (fun ys => ys = bwdL xs) (fun pre => pre <+: bwdL xs) xs.length w := fun L J Jx W hW hJ hJx hY h0 => by
  have hx := jr_ hW
  obtain ⟨hmW, _⟩ := hm.same hx
  obtain ⟨JJ, hJJ⟩ : ∃ JJ : Nat → World → Prop, JJ = fun k w' => J ((bwdL xs).take k) w' ∧ Ext [] w w' := ⟨_, rfl⟩
  refine in_of (J := JJ 0) (σ := [.rd b 199 [pntsA (xs.map f)]]) (args := [.v (.func (.yield L) #[] #[]), .v (.pointer (some ⟨b, 0, none⟩))]) [.func (.yield L) #[] #[], .pointer (some ⟨b, 0, none⟩)] Tryz.func335 rfl Tryz.ntmps335 rfl ⟨_, _, rfl, rfl, _, _, rfl, rfl, rfl⟩ hmW (by rw [hJJ]; exact ⟨h0, hx⟩) ?_
  refine RC.seq (RC.regionL ?_)
  refine RL.valJ (i_ (C := pntsA (xs.map f)) (h_ tabOk rfl rfl (.inr List.mem_cons_self) List.not_mem_nil (by rfl)) rfl) rfl rfl rfl ?_
  refine RL.valJ (P_ (m := xs.length) rfl Tryz.underlying199 (by simp)) rfl rfl rfl ?_
  refine RL.valJ (b0_ rfl rfl (by simp only [InR, lo, hi]; omega)) rfl rfl rfl ?_
  refine RL.valJ (l_ rfl) rfl rfl rfl ?_
  refine RL.nil (RE.seq ?_)
  refine RC.block (RC.loopJ (fun z a w' => z ≤ xs.length ∧ StJ 19 ⟨w0, F, G⟩ [.rd b 199 [pntsA (xs.map f)]] [(0, .v (.func (.yield L) #[] #[])), (1, .v (.pointer (some ⟨b, 0, none⟩))), (3, .v (.int .i64 ((xs.length : Int) - 1 - (z : Nat))))] (JJ z) a w') (fun z => xs.length - z) 0 (fun a w' h => ⟨Nat.zero_le _, h.1.sub ⟨rfl, rfl, (by show some (Abs.v (Value.int _ _)) = some (Abs.v (Value.int _ _)); simp), trivial⟩, h.2⟩) fun z a w' hzs => ?_)
  obtain ⟨hz, hs⟩ := hzs
  refine RC.apply (T := StJ 19 ⟨w0, F, G⟩ [.rd b 199 [pntsA (xs.map f)]] [(0, .v (.func (.yield L) #[] #[])), (1, .v (.pointer (some ⟨b, 0, none⟩))), (3, .v (.int .i64 ((xs.length : Int) - 1 - (z : Nat))))] (JJ z)) ?_ hs
  refine RC.seq (RC.seq (RC.regionL ?_))
  refine RL.valJ (r_ rfl) rfl rfl rfl ?_
  refine RL.valJ (du_ rfl rfl) rfl rfl rfl ?_
  refine RL.nil (RE.seq ?_)
  refine RC.condJ rfl (fun hc => ?_) (fun hc => ?_)
  · have hc1 : (0 : Int) ≤ (xs.length : Int) - 1 - (z : Nat) := of_decide_eq_true hc
    have hlt : z < xs.length := by omega
    refine RC.skip (RE.seq ?_)
    refine RC.seq (RC.block (RC.seq (RC.regionL ?_)))
    have hq : xs.length - 1 - z < xs.length := by omega
    refine RL.valJ (r_ rfl) rfl rfl rfl ?_
    refine RL.valJ (r_ rfl) rfl rfl rfl ?_
    refine RL.valJ (i_ (C := pntsA (xs.map f)) (h_ tabOk rfl rfl (.inr List.mem_cons_self) List.not_mem_nil (by rfl)) rfl) rfl rfl rfl ?_
    refine RL.valJ (r_ rfl) rfl rfl rfl ?_
    refine RL.valJ (W_ (q := xs.length - 1 - z) (cs := (f (xs[xs.length - 1 - z]'hq)).abs) tabOk Tryz.underlying199 rfl rfl rfl (by omega) (by rw [List.getElem?_map, List.getElem?_map, List.getElem?_eq_getElem hq]; rfl) rfl rfl) rfl rfl rfl ?_
    refine RL.valJ (aH_ tabOk rfl rfl rfl (Pnt.size _)) rfl rfl rfl ?_
    refine RL.yieldJ (R := fun e W' => (e = .returned (.bool true) ∧ JJ (z + 1) W') ∨ (e = .returned (.bool false) ∧ ∃ pre, pre <+: bwdL xs ∧ Jx pre W')) rfl rfl rfl ?_ ?_
    · intro w2 vals hj hv
      rw [hJJ] at hj
      obtain ⟨v1, _, rfl, h1, v2, _, rfl, h2, h2'⟩ := hv
      have h2' : _ = [] := h2'
      subst h2'
      have h1 : v1 = .int .i64 _ := h1
      subst h1
      obtain ⟨us, rfl, h3⟩ := h2
      rw [Pnt.abs_cells] at h3
      have h4 := ak_.1 h3
      subst h4
      have h5 := hY ((bwdL xs).take z) (((xs.length - 1 - z : Nat) : Int), xs[xs.length - 1 - z]'hq) w2 hj.1 (by rw [List.length_take, bZ_]; omega)
      rw [show (xs.length : Int) - 1 - (z : Nat) = ((xs.length - 1 - z : Nat) : Int) by omega]
      refine YieldAt.mono h5 ?_
      rintro e W2 (⟨rfl, h6, h7⟩ | ⟨rfl, h6⟩)
      · exact .inl ⟨rfl, by rw [hJJ]; exact ⟨by rw [f2_ hlt]; exact h6, ext_step hj.2 h7⟩⟩
      · exact .inr ⟨rfl, _, by rw [← f2_ hlt]; exact List.take_prefix _ _, h6⟩
    · intro a2 w2 e W2 hst he
      have hpl : ∀ t x, slot [(0, .v (.func (.yield L) #[] #[])), (1, .v (.pointer (some ⟨b, 0, none⟩))), (3, .v (.int .i64 ((xs.length : Int) - 1 - (z : Nat))))] t = some x → ∃ u, x = .v u := by
        intro t x ht
        simp only [slot] at ht
        repeat' (cases hb9 : Nat.beq _ t <;> rw [hb9] at ht <;> simp only [cond] at ht)
        all_goals first | (cases ht; exact ⟨_, rfl⟩) | cases ht
      rcases he with ⟨rfl, hj⟩ | ⟨rfl, pre, hp, hj⟩
      · refine ⟨_, rfl, ?_⟩
        have hj9 := hj
        rw [hJJ] at hj9
        obtain ⟨hm2, _⟩ := hm.same hj9.2
        have hst2 : St 19 ⟨w0, F, G⟩ [.rd b 199 [pntsA (xs.map f)]] [(0, .v (.func (.yield L) #[] #[])), (1, .v (.pointer (some ⟨b, 0, none⟩))), (3, .v (.int .i64 ((xs.length : Int) - 1 - (z : Nat))))] a2 W2 := hst.1.world ⟨rfl, rfl, rfl, trivial⟩ hpl hm2
        have hst3 : St 19 ⟨w0, F, G⟩ [.rd b 199 [pntsA (xs.map f)]] (put? [(0, .v (.func (.yield L) #[] #[])), (1, .v (.pointer (some ⟨b, 0, none⟩))), (3, .v (.int .i64 ((xs.length : Int) - 1 - (z : Nat))))] (some 17) (.v (.bool true))) (a2.put (some 17) (.bool true)) W2 := hst2.put rfl rfl
        refine (show RL Tryz.prog none 5 _ _ (StJ 19 ⟨w0, F, G⟩ [.rd b 199 [pntsA (xs.map f)]] (put? [(0, .v (.func (.yield L) #[] #[])), (1, .v (.pointer (some ⟨b, 0, none⟩))), (3, .v (.int .i64 ((xs.length : Int) - 1 - (z : Nat))))] (some 17) (.v (.bool true))) (JJ (z + 1))) _ from ?_) _ _ ⟨hst3, hj⟩
        refine RL.valJ (cs_ rfl) rfl rfl rfl ?_
        refine RL.nil (RE.seq ?_)
        refine RC.condJ rfl (fun h => by cases h) (fun _ => ?_)
        refine RC.skip fun a3 w3 h3 => ?_
        refine (show RC Tryz.prog none 5 _ (StJ 19 ⟨w0, F, G⟩ [.rd b 199 [pntsA (xs.map f)]] _ (JJ (z + 1))) _ from RC.regionL ?_) a3 w3 h3
        refine RL.valJ (r_ rfl) rfl rfl rfl ?_
        refine RL.valJ (b0_ rfl rfl (by simp only [InR, lo, hi]; omega)) rfl rfl rfl ?_
        refine RL.valJ (l_ rfl) rfl rfl rfl ?_
        refine RL.nil fun a4 w4 h4 => ⟨z + 1, by omega, by omega, h4.1.sub ⟨rfl, rfl, ?_, trivial⟩, h4.2⟩
        show some (Abs.v (Value.int _ _)) = some (Abs.v (Value.int _ _))
        congr 3
        omega
      · refine ⟨_, rfl, ?_⟩
        have hst2 : St 19 ⟨W2, [], []⟩ [] [(0, .v (.func (.yield L) #[] #[])), (1, .v (.pointer (some ⟨b, 0, none⟩))), (3, .v (.int .i64 ((xs.length : Int) - 1 - (z : Nat))))] a2 W2 := hst.1.world ⟨rfl, rfl, rfl, trivial⟩ hpl ⟨Ext.refl _, by simp [mids], by simp [mids], by simp, by simp, by simp [mids], by simp⟩
        have hst3 : St 19 ⟨W2, [], []⟩ [] (put? [(0, .v (.func (.yield L) #[] #[])), (1, .v (.pointer (some ⟨b, 0, none⟩))), (3, .v (.int .i64 ((xs.length : Int) - 1 - (z : Nat))))] (some 17) (.v (.bool false))) (a2.put (some 17) (.bool false)) W2 := hst2.put rfl rfl
        refine (show RL Tryz.prog none 5 _ _ (StJ 19 ⟨W2, [], []⟩ [] (put? [(0, .v (.func (.yield L) #[] #[])), (1, .v (.pointer (some ⟨b, 0, none⟩))), (3, .v (.int .i64 ((xs.length : Int) - 1 - (z : Nat))))] (some 17) (.v (.bool false))) (fun w' => Jx pre w')) _ from ?_) _ _ ⟨hst3, hj⟩
        refine RL.valJ (cs_ rfl) rfl rfl rfl ?_
        refine RL.nil (RE.seq ?_)
        refine RC.condJ rfl (fun _ => ?_) (fun h => by cases h)
        refine RC.ret fun a3 w3 h3 => ?_
        exact ⟨h3.1.defers, _, results_none rfl _ _ _, ⟨_, rfl⟩, .inr ⟨pre, hp, h3.2⟩⟩
  · have hc1 : ¬ (0 : Int) ≤ (xs.length : Int) - 1 - (z : Nat) := of_decide_eq_false hc
    obtain rfl : z = xs.length := by omega
    refine RC.exit fun a1 w1 h1 => ?_
    have h2 := h1.2
    rw [hJJ, List.take_of_length_le (by rw [bZ_]; exact Nat.le_refl _)] at h2
    exact ⟨h1.1.defers, _, results_none rfl _ _ _, ⟨_, rfl⟩, .inl ⟨_, rfl, h2.1⟩⟩
theorem gY_ : (List.replicate 32 (0 : UInt8)).length = 32 := by simp
def Pnt.zero : Pnt := ⟨0, List.replicate 32 0, gY_⟩
structure Ow where
  dig : List UInt8
  b : List UInt8
  len : dig.length = 32
def Ow.cells (o : Ow) : List Abs := digA o.dig ++ [byt o.b]
def Ow.enc (o : Ow) : Abs := .agg o.cells
def Ow.zero : Ow := ⟨List.replicate 32 0, [], gY_⟩
def ownP (om : List (Int × Ow)) : List Pnt := (srt (om.map (·.1))).map fun k => ⟨k, ((aget om k).getD Ow.zero).dig, ((aget om k).getD Ow.zero).len⟩
def ownHas (om : List (Int × Ow)) (x : Pnt) : Bool := (aget om x.seq).isSome && decide (((aget om x.seq).getD Ow.zero).dig = x.dig)
def supF (om : List (Int × Ow)) (vs : List (List Pnt)) (x : Pnt) : Nat := (if ownHas om x then 1 else 0) + (vs.filter fun l => decide (x ∈ l)).length
def votesF (me : Nat) (om : List (Int × Ow)) (vs : List (List Pnt)) (who : Nat) : List Pnt := if who = me then ownP om else (vs[who]?).getD []
def bestF (om : List (Int × Ow)) (vs : List (List Pnt)) (l : List Pnt) (above at_ : Int) : Option Pnt := l.reverse.find? fun x => decide (above < x.seq) && decide (at_ ≤ (supF om vs x : Nat))
def Rising (l : List Pnt) : Prop := l.Pairwise fun a b => a.seq < b.seq
structure PtsOk (n me : Nat) (om : List (Int × Ow)) (vs : List (List Pnt)) : Prop where
  n1 : 1 ≤ n
  n7 : n ≤ 7
  slf : me < n
  len : vs.length = n
  rise : ∀ l ∈ vs, Rising l
  few : ∀ l ∈ vs, l.length ≤ 3
  ins : ∀ l ∈ vs, ∀ x ∈ l, InR .i64 x.seq
  keys : ∀ e ∈ om, InR .i64 e.1
  nd : (om.map (·.1)).Nodup
  om : om.length ≤ 100000
theorem iJ_ {ks : List Int} {k : Int} : k ∈ srt ks ↔ k ∈ ks := (dK_ ks).mem_iff
theorem d7_ (om : List (Int × Ow)) : (ownP om).length = om.length := by simp [ownP, bL_]
theorem ownP_in {om : List (Int × Ow)} (h : ∀ e ∈ om, InR .i64 e.1) : ∀ x ∈ ownP om, InR .i64 x.seq := fun x hx => by
  obtain ⟨k, hk, rfl⟩ := List.mem_map.1 hx
  obtain ⟨e, he, rfl⟩ := List.mem_map.1 (iJ_.1 hk)
  exact h e he
theorem iy_ {n me : Nat} {om : List (Int × Ow)} {vs : List (List Pnt)} (h : PtsOk n me om vs) (who : Nat) : ∀ x ∈ votesF me om vs who, InR .i64 x.seq := fun x hx => by
  unfold votesF at hx
  split at hx
  · exact ownP_in h.keys x hx
  · cases hv : vs[who]? with
    | none => rw [hv] at hx; cases hx
    | some l => rw [hv] at hx; exact h.ins l (List.mem_of_getElem? hv) x hx
theorem hO_ {n me : Nat} {om : List (Int × Ow)} {vs : List (List Pnt)} (h : PtsOk n me om vs) (who : Nat) : (votesF me om vs who).length ≤ 100000 := by
  unfold votesF
  split
  · rw [d7_]; exact h.om
  · cases hv : vs[who]? with
    | none => simp
    | some l => have := h.few l (List.mem_of_getElem? hv); simp; omega
theorem PtsOk.own {n me : Nat} {om : List (Int × Ow)} {vs : List (List Pnt)} (h : PtsOk n me om vs) {k : Int} (hk : InR .i64 k) (o : Ow) (hl : om.length < 100000) : PtsOk n me (aput om k o) vs where
  n1 := h.n1
  n7 := h.n7
  slf := h.slf
  len := h.len
  rise := h.rise
  few := h.few
  ins := h.ins
  keys := fun e he => by
    unfold aput at he
    split at he
    · obtain ⟨d, hd, rfl⟩ := List.mem_map.1 he
      split
      · exact hk
      · exact h.keys d hd
    · rcases List.mem_append.1 he with he | he
      · exact h.keys e he
      · rw [List.mem_singleton.1 he]; exact hk
  nd := ds_ h.nd _ _
  om := by
    unfold aput
    split
    · rw [List.length_map]; exact h.om
    · simp only [List.length_append, List.length_cons, List.length_nil]; omega
theorem PtsOk.move {n me : Nat} {om : List (Int × Ow)} {vs : List (List Pnt)} (h : PtsOk n me om vs) (p : Int × Ow → Bool) : PtsOk n me (om.filter p) vs where
  n1 := h.n1
  n7 := h.n7
  slf := h.slf
  len := h.len
  rise := h.rise
  few := h.few
  ins := h.ins
  keys := fun e he => h.keys e (List.mem_filter.1 he).1
  nd := h.nd.sublist (List.filter_sublist.map _)
  om := Nat.le_trans (List.length_filter_le _ _) h.om
theorem iZ_ (ps : List Pnt) : ∀ c ∈ ps.map Pnt.abs, ones c = true := fun c hc => by
  obtain ⟨p, _, rfl⟩ := List.mem_map.1 hc
  exact p.ones
section
variable {x : Pnt} {l : List Pnt} {s : Int}
theorem gK_ {xs : List (List Abs)} (h1 : ∀ c ∈ xs, ones c = true) (hn : xs.length ≤ 1000000) : Spec Tryz.prog 212 [.sl 33 xs] [] (fun r : Value => [own 203 33 r xs]) (fun r => .v r) := by
 refine t_ Tryz.func212 rfl Tryz.ntmps212 rfl fun G w =>c_<|a_<|q_ 1 rfl<|g_<|b_<|c_<|c_<|a_<|q_ 1 rfl<|bH_ Tryz.underlying199 rfl rfl rfl<|fun b hb=>g_<|b_<|ay_ rfl ?_ ?_
 ·intro hc4
  have hnil : xs = [] := hb hc4
  subst hnil
  exact c_<|aO_ 203 33<|a_<|q_ 1 rfl<|g_<|b_<|o_<|k_ nofun<|f_ (rs := [.tmp 2]) rfl (RV.tmp rfl RV.nil) (.slice none 0 0) sr_<|rfl
 intro hc4
 refine s_<|b_<|c_<|a_<|eb_ (as_ tabOk Tryz.underlying199 rfl rfl rfl rfl rfl rfl rfl) rfl rfl fun r5=>?_
 refine q_ 1 rfl<|eb_ (K_ (zs := xs) tabOk [] rfl Tryz.underlying199 rfl rfl rfl rfl rfl rfl h1 (by unfold maxLen; simp only [List.length_nil]; omega) (by rw [show Tryz.prog.bytesOf 203 = 40 by kernel_rfl]; simp only [List.length_nil]; omega)) rfl rfl fun r7=>?_
 exact q_ 1 rfl<|g_<|b_<|o_<|f_ (rs := [.tmp 2]) rfl (RV.tmp rfl RV.nil) (r7) sr_<|rfl
theorem pindex_s (hx : InR .i64 x.seq) (hl : ∀ y ∈ l, InR .i64 y.seq) (hn : l.length ≤ 1000000) : Spec Tryz.prog 375 [pntsA l, .agg x.abs] [] (fun _ : {q : Int // 0 ≤ q ↔ x ∈ l} => []) (fun q => int q.1) := by
 refine t_ Tryz.func375 rfl Tryz.ntmps375 rfl fun G w =>c_<|a_<|eb_ (z_ (cs := x.abs) rfl) rfl rfl fun b3=>?_
 refine q_ 1 rfl<|g_<|b_<|c_<|c_<|a_<|q_ 1 rfl<|d_ (P_ rfl Tryz.underlying199 (List.length_map _)) rfl rfl<|q_ 1 rfl<|g_<|b_<|w_<|S_ (ι := Nat) (fun z => [.blk b3 203 x.abs]) (fun z => [(0, pntsA l), (3, ptr b3), (7, int (l.length : Nat)), (8, int (z : Nat))]) (fun z => z ≤ l.length ∧ ∀ j (hj : j < l.length), j < z → ¬ x = l[j]) (fun z => l.length - z) (0) (⟨Nat.zero_le _, fun j hj h => by omega⟩) (by exact ⟨rfl, rfl, rfl, rfl, trivial⟩) sr_ ?_
 intro z hz
 refine c_<|a_<|q_ 1 rfl<|g_<|b_<|c_<|n_ rfl ?_ ?_
 rotate_left
 ·intro hc9
  refine O_<|k_ nofun<|k_ nofun<|N_<|b_<|c_<|a_<|q_ 1 rfl<|g_<|b_<|o_<|f_ (rs := [.tmp 4]) rfl (RV.tmp rfl RV.nil) (⟨-1, ⟨fun h => by omega, fun h => by obtain ⟨j, hj, h2⟩ := List.getElem_of_mem h; exact absurd h2.symm (hz.2 j hj (by omega))⟩⟩) sn_ ?_
  exact rfl
 intro hc9
 have hlt : z < l.length := by omega
 refine s_<|b_<|c_<|w_<|c_<|a_<|q_ 2 rfl<|g_<|b_<|c_<|T_ [] (.q 0 (.q 1 (.q 2 (.q 3 (.q 4 (.q 5 .nil)))))) (by kernel_rfl) (by kernel_rfl) ?_
 refine hx_ fun hx9 =>j_ rfl (i_ (C := .agg x.abs) (y_ tabOk rfl rfl rfl l0_ List.not_mem_nil (Pnt.size _)) rfl) hx9 rfl rfl<|qs_ 2 rfl<|j_ rfl (W_ tabOk Tryz.underlying199 rfl rfl rfl rfl (ce_ (by omega)) rfl rfl) (by simp) rfl rfl ?_
 refine j_ rfl (aH_ tabOk rfl rfl rfl (Pnt.size _)) hx9 rfl rfl<|j_ rfl (ey_ rfl rfl (eM_ _) (eM_ _) (by kernel_rfl) (eqP hx (hl _ (List.getElem_mem hlt)))) hx9 rfl rfl ?_
 refine C_<|b_<|n_ rfl ?_ ?_
 ·intro hc16
  refine c_<|a_<|q_ 2 rfl<|g_<|b_<|o_<|aF_<|k_ nofun<|k_ nofun<|aF_<|k_ nofun<|f_ (rs := [.tmp 4]) rfl (RV.tmp rfl RV.nil) (⟨(z : Nat), ⟨fun _ => by rw [hc16]; exact List.getElem_mem hlt, fun _ => by omega⟩⟩) sn_ ?_
  exact rfl
 intro hc16
 refine s_<|A_<|b_<|a_<|d_ (E_ rfl rfl (by simp only [InR, lo, hi]; omega)) rfl rfl ?_
 refine q_ 1 rfl<|g_<|J_ (z + 1) (by omega) (⟨by omega, fun j hj hjz => by
  rcases Nat.lt_or_ge j z with h1 | h1
  ·exact hz.2 j hj h1
  obtain rfl : j = z := (by omega)
  exact hc16⟩) (by exact ⟨rfl, rfl, rfl, rfl, trivial⟩) sr_
theorem gB_ (hx : InR .i64 x.seq) (hl : ∀ y ∈ l, InR .i64 y.seq) (hn : l.length ≤ 1000000) : Spec Tryz.prog 323 [pntsA l, .agg x.abs] [] (fun _ : Unit => []) (fun _ => boo (decide (x ∈ l))) := by
 refine t_ Tryz.func323 rfl Tryz.ntmps323 rfl fun G w =>c_<|a_<|eb_ (z_ (cs := x.abs) rfl) rfl rfl fun b3=>?_
 refine q_ 1 rfl<|g_<|b_<|c_<|a_<|q_ 1 rfl<|d_ (i_ (C := .agg x.abs) (y_ tabOk rfl rfl rfl l0_ List.not_mem_nil (Pnt.size _)) rfl) rfl rfl<|m_ (pindex_s hx hl hn) Casts.refl (by kernel_rfl) rfl rfl rfl ?_
 exact ap_<|fun q0=>q_ 2 rfl<|g_<|b_<|o_<|f_ (rs := [.tmp 4]) rfl (RV.tmp rfl RV.nil) (()) sn_<|congrArg (fun b => Abs.v (Value.bool b))<|decide_eq_decide.2 q0.2
end
section
variable {P : Program} {n : Nat} {W : Wd} {σ τ : Blks} {l : Slots} {X : List Nat} {x y : Operand} {d : Option Nat} {ty t e : TypeId} {pos : String} {aft : Array Edge} {g : Option (Nat × Bool)} {tab : List (Nat × TI)}
theorem ij_ (hT : TabOk P tab) {sz fo ft f : Nat} {gs : List (Nat × Nat)} {zs : List Value} {cs : List Abs} {j : TI} (ht : ti tab t = some ⟨sz, .struct gs, zs⟩) (hx : look l x = some (.agg cs)) (hfo : gs[f]? = some (fo, ft)) (hj : ti tab ft = some j) (hk : (match j.k with | .one => false | _ => true) = true) (hl : fo + j.size ≤ cs.length) :
    Val P n W σ l X ⟨d, .field t x f, ty, pos, aft, g⟩ (.agg (part cs fo j.size)) := av_ fun a w hs hX => by
  obtain ⟨us, h1, h2⟩ := hs.eval hx
  have hlen := V_ h2
  refine ⟨.agg ((us.drop fo).take j.size).toArray, ⟨_, rfl, cc_ (cY_ h2 fo) j.size⟩, fun w' _ => ?_⟩
  obtain ⟨fs, hu, hm⟩ := (hT t _ ht).fields
  rw [← hm, List.getElem?_map] at hfo
  intro A w1 hf hD
  cases hf2 : fs.toList[f]? with
  | none => simp [hf2] at hfo
  | some fd =>
    simp only [hf2, Option.map_some, Option.some.injEq, Prod.mk.injEq] at hfo
    obtain ⟨rfl, rfl⟩ := hfo
    have hf3 : fs[f]? = some fd := by simpa using hf2
    have h3 := (hT _ _ hj).isAgg (w := w1)
    have h4 := (hT _ _ hj).sizeOf (w := w1)
    have e1 : A.eval x = .agg us.toArray := hf.eval (by rw [hs.at2 hx, h1])
    have hle : fd.offset + j.size ≤ us.length := by omega
    have h3 : (isAgg fd.type).run P w1 = .ok true w1 := by
      rw [h3]
      cases hq : j.k <;> simp [hq] at hk ⊢
    simp [execOp, e1, Instr.field, run_underlying hu, Sem.run_bind, hf3, Result.andThen, asAgg, Go.part, h3, h4, hle]
end
theorem jY_ (ν : Blks) (X0 : List Nat) {P : Program} {n : Nat} {W : Wd} {σ σ0 : Blks} {l : Slots} {X : List Nat} {ops : Array Oper} {Q : Exit → Act → World → Prop} {ix : Plan} {o : Oper} {i : Nat} {Y : List Nat} {R : Abs → Blks → Prop} (hX : X = mids ν ++ X0) (hi : ops[i]? = some o) (hv : Eff P n W σ l Y o R) (hσ : σ = ν ++ σ0) (hY : ∀ k ∈ Y, k ∈ mids ν ++ X0) (hg : gd ops l o = some true) (hd : lt? o.dst n = true)
    (k : ∀ y τ, R y τ → ∃ ν' : Blks, τ = ν' ++ σ0 ∧ SX P ops ix (mids ν' ++ X0) (St n W τ (put? l o.dst y)) Q) : SX P ops (.e i ix) X (St n W σ l) Q := hX ▸ ch_ ν X0 hi hv hσ hY hg hd k
theorem gT_ {ops : Array Oper} {rest : List Oper} {Q : Exit → Act → World → Prop} {P : Program} {n : Nat} {W : Wd} {σ : Blks} {l : Slots} {e : TypeId} {s : Nat} {v : Value} {xs : List (List Abs)} (hb : own e s v xs ∈ σ) (k : ∀ A m c, v = .slice A m c → SL P ops rest (St n W σ l) Q) : SL P ops rest (St n W σ l) Q := fun a w h => by
  obtain ⟨us, hown, _⟩ := aL_ h hb
  obtain ⟨A, c, hv, _⟩ := dm_ hown
  exact k A _ c hv a w h
theorem hv_ {place : Nat → Option (Nat × Nat)} {Z : List Abs} {x y : Abs} {a b : Nat} (hx : (cellsA x).length = a) (hy : (cellsA y).length = b) (hZ : Z.length = a + b) (h0 : place 0 = some (0, a)) (h1 : place 1 = some (a, b)) : fillA place Z [(0, x), (1, y)] = some (cellsA x ++ cellsA y) := by
  simp only [fillA, h0, h1, hx, hy, Nat.beq_refl, Bool.true_and, putL]
  rw [Nat.ble_eq_true_of_le (by omega)]
  simp only [cond_true]
  rw [Nat.ble_eq_true_of_le (by simp only [List.length_append, List.length_drop]; omega)]
  simp only [cond_true]
  rw [bW_ _ _ _ (by simp only [List.length_append]; omega)]
  rw [← hx, List.take_left, List.drop_eq_nil_of_le (by simp only [List.length_append, List.length_drop]; omega), List.append_nil]
section
variable {e : TypeId} {s : Nat} {v : Value} {xs ys : List (List Abs)}
theorem Re.ownMap (h : ∀ K w us, repss K w s xs us → repss K w s ys us) (hl : xs.length = ys.length) : Re [own e s v xs] [own e s v ys] := ⟨⟨[], by rw [List.append_nil]; exact List.Perm.refl _⟩, by simp [It.rids], fun K w hx y hy => by
  rw [List.mem_singleton.1 hy]
  obtain ⟨us, h1, h2⟩ : (ownPc e s v xs).p K w := hx _ List.mem_cons_self
  exact ⟨us, by rw [← hl]; exact h1, h _ _ _ h2⟩⟩
theorem fJ_ {K : List Nat} {w : World} {ds es : List Abs} (h : ∀ us, reps K w ds us → reps K w es us) : ∀ (m : Nat) (us : List Value), repss K w s (List.replicate m ds) us → repss K w s (List.replicate m es) us
  | 0, _, h2 => h2
  | m + 1, _, ⟨u1, u2, h2, h3, h4, h5⟩ => ⟨u1, u2, h2, h3, h _ h4, fJ_ h m u2 h5⟩
end
theorem jL_ {xs : List (List Abs)} (h1 : ∀ c ∈ xs, ones c = true) (hn : xs.length ≤ 1000000) : Spec Tryz.prog 74 [.sl 1 xs] [] (fun _ : Unit => []) (fun _ => .sl 1 xs) := by
 refine t_ Tryz.func74 rfl Tryz.ntmps74 rfl fun G w =>c_<|a_<|q_ 1 rfl<|g_<|b_<|c_<|c_<|a_<|q_ 1 rfl<|bH_ Tryz.underlying39 rfl rfl rfl<|fun b hb=>g_<|b_<|ay_ rfl ?_ ?_
 ·intro hc4
  have hnil : xs = [] := hb hc4
  subst hnil
  refine c_<|a_<|q_ 1 rfl<|g_<|b_<|o_<|k_ nofun<|ci_ (rs := [.tmp 2]) rfl (RV.tmp rfl RV.nil) (Casts.nils (s := 1) Casts.refl) () sn_ (by simp [It.rids]) rfl
 intro hc4
 refine s_<|b_<|c_<|a_<|eb_ (as_ tabOk Tryz.underlying39 rfl rfl rfl rfl rfl rfl rfl) rfl rfl fun r5=>?_
 refine q_ 1 rfl<|eb_ (K_ (zs := xs) tabOk [] rfl Tryz.underlying39 rfl rfl rfl rfl rfl rfl h1 (by unfold maxLen; simp only [List.length_nil]; omega) (by rw [show Tryz.prog.bytesOf 5 = 1 by kernel_rfl]; simp only [List.length_nil]; omega)) rfl rfl fun r7=>?_
 exact q_ 1 rfl<|g_<|b_<|o_<|a8_ [] (t := 2) rfl rfl<|f_ (rs := [.tmp 2]) rfl (RV.tmp rfl RV.nil) (()) sn_<|rfl
theorem h8_ (l : List UInt8) : ∀ c ∈ l.map (fun b => [Abs.v (bc b)]), ones c = true := fun c hc => by
  obtain ⟨b, _, rfl⟩ := List.mem_map.1 hc
  rfl
theorem bclone_s {l : List UInt8} (hn : l.length ≤ 1000000) : Pure Tryz.prog 74 [byt l] (byt l) := jL_ (h8_ l) (by rw [List.length_map]; exact hn)
def zow : Value := .agg ((List.replicate 32 (bc 0)) ++ [Value.slice none 0 0]).toArray
theorem ir_ (w : World) : (zeroValue 183).run Tryz.prog w = .ok zow w := by kernel_rfl
theorem dig_reps {K : List Nat} {w : World} (d : List UInt8) : reps K w (digA d) (d.map bc) := by
  have h := d5_ (K := K) (w := w) (d.map bc)
  rw [List.map_map] at h
  exact h
theorem iq_ (K : List Nat) (w : World) : rep K w Ow.zero.enc zow := by
  refine ⟨_, rfl, aR_ ?_ ⟨_, _, rfl, cD_ rfl, rfl⟩⟩
  have h := dig_reps (K := K) (w := w) (List.replicate 32 0)
  rw [List.map_replicate] at h
  exact h
theorem own_fill {o : Ow} {place : Nat → Option (Nat × Nat)} {Z : List Abs} (hZ : Z.length = 33) (h0 : place 0 = some (0, 32)) (h1 : place 1 = some (32, 1)) : fillA place Z [(0, .agg (digA o.dig)), (1, byt o.b)] = some o.cells :=
  hv_ (a := 32) (b := 1) (by show (digA o.dig).length = 32; simp [digA, o.len]) rfl hZ h0 h1
theorem c0_ {d : List UInt8} (h : d.length = 32) : (digA d).length = 32 := by simp [digA, h]
theorem iw_ {vv : Value} (n : Nat) : Re [own 199 1 vv (List.replicate n [Abs.v (Value.slice none 0 0)])] [own 199 1 vv ((List.replicate n []).map fun l : List Pnt => [pntsA l])] := by
  refine Re.ownMap (fun K w us h => ?_) (by simp)
  rw [List.map_replicate]
  exact fJ_ (ds := [Abs.v (Value.slice none 0 0)]) (es := [pntsA []]) (fun us ⟨u, us', h1, h2, h3⟩ => ⟨u, us', h1, by rw [show u = _ from h2]; exact cD_ rfl, h3⟩) n us h
section
variable {n me : Nat} {om : List (Int × Ow)} {vs : List (List Pnt)} {bp bm : Nat} {vv : Value} {x : Pnt} {who k : Int} {o : Ow}
theorem pnew_s (h1 : 1 ≤ n) (h7 : n ≤ 7) (hm : me < n) : Spec Tryz.prog 41 [int (n : Nat), int (me : Nat)] [] (fun z : Nat × Nat × Value => [.blk z.1 157 [int (n : Nat), int (me : Nat), mapV z.2.1, .v z.2.2], own 199 1 z.2.2 ((List.replicate n []).map fun l => [pntsA l]), .pc (tmPc z.2.1 intK intOk Ow.enc [])]) (fun z => ptr z.1) := by
 refine t_ Tryz.func41 rfl Tryz.ntmps41 rfl fun G w =>c_<|a_<|q_ 1 rfl<|g_<|b_<|c_<|c_<|a_<|q_ 3 rfl<|D_ (t := 7) rfl (by intro hc7; exfalso; omega) ?_
 intro hc7
 refine q_ 4 rfl<|D_ (t := 11) rfl (by intro hc11; exfalso; omega) ?_
 intro hc11
 refine q_ 4 rfl<|D_ (t := 15) rfl (by intro hc15; exfalso; omega) ?_
 intro hc15
 refine q_ 4 rfl<|g_<|b_<|n_ rfl (by intro hc19; exfalso; omega) ?_
 intro hc19
 refine s_<|b_<|c_<|a_<|q_ 2 rfl<|eb_ (B_ intK intOk Ow.enc (fun ac w => by simp [execOp, Instr.makeMap, newObj, Sem.run, Sem.run_bind, Result.andThen])) rfl rfl fun m22=>?_
 refine q_ 1 rfl<|eb_ (gX_ (m := n) tabOk Tryz.underlying155 rfl rfl rfl rfl rfl rfl (by unfold maxLen; omega) (by rw [show Tryz.prog.bytesOf 199 = 24 by kernel_rfl]; omega)) rfl rfl fun v24=>?_
 refine gT_ (v := v24) (e := 199) (s := 1) (xs := List.replicate n [Abs.v (Value.slice none 0 0)]) i0_ ?_
 rintro A24 m24 c24 rfl
 refine d_ (u_ tabOk rfl rfl rfl rfl) rfl rfl<|eb_ (z_ (cs := [int (n : Nat), int (me : Nat), mapV m22, .v (.slice A24 m24 c24)]) rfl) rfl rfl fun b26=>?_
 exact q_ 1 rfl<|g_<|b_<|o_<|da_ [_] (iw_ n) rfl<|f_ (rs := [.tmp 4]) rfl (RV.tmp rfl RV.nil) ((b26, m22, .slice A24 m24 c24)) sr_<|rfl
theorem pown_s (hk : InR .i64 k) (hb : o.b.length ≤ 1000000) : Spec Tryz.prog 48 [ptr bp, int k, .agg (digA o.dig), byt o.b] [.blk bp 157 [int (n : Nat), int (me : Nat), mapV bm, .v vv], own 199 1 vv ((vs).map fun l => [pntsA l]), .pc (tmPc bm intK intOk Ow.enc om)] (fun _ : Unit => [.blk bp 157 [int (n : Nat), int (me : Nat), mapV bm, .v vv], own 199 1 vv ((vs).map fun l => [pntsA l]), .pc (tmPc bm intK intOk Ow.enc (aput om k o))]) (fun _ => .tup []) := by
 refine t_ Tryz.func48 rfl Tryz.ntmps48 rfl fun G w =>c_<|a_<|eb_ (z_ (cs := digA o.dig) rfl) rfl rfl fun b6=>?_
 refine g_<|b_<|c_<|a_<|q_ 1 rfl<|d_ (bz_ rfl rfl (by kernel_rfl)) rfl rfl ?_
 refine g_<|b_<|ab_ rfl<|ah_ [] (.q 0 (.q 1 (.q 2 (.q 3 (.q 4 (.q 5 (.q 6 (.e 7 (.q 8 .nil))))))))) (by kernel_rfl) (by kernel_rfl) ?_
 refine qs_ 3 rfl<|j_ rfl (h_ tabOk rfl rfl l1_ List.not_mem_nil rfl) (by simp) rfl rfl ?_
 refine qs_ 1 rfl<|hx_ fun hx9 =>j_ rfl (y_ tabOk rfl rfl rfl l0_ List.not_mem_nil (c0_ o.len)) hx9 rfl rfl<|qs_ 1 rfl<|H_ rfl (bclone_s hb) (by simp [mids, It.mids]) Casts.refl (by kernel_rfl) rfl rfl rfl ?_
 refine ap_<|fun _=>hx_ fun hx9 =>j_ rfl (i_ (C := o.enc) (u_ tabOk rfl rfl rfl (own_fill rfl rfl rfl)) rfl) hx9 rfl rfl<|C_<|ao_ rfl (bB_ (a := k) (v := o) (m' := aput om k o) (bh_ Tryz.underlying2) Tryz.underlying154 rfl u3_ rfl is_v hk rfl rfl) rfl rfl ?_
 rintro _ _ ⟨rfl, rfl⟩
 refine bK_ (rs := []) rfl RV.nil (()) (sk_ sr_) (by simp [It.rids]) ?_
 exact rfl
end
end Go.Proofs.YtjclgkddfjbdiaaGreatDoor.A
namespace Go.Proofs.YtjclgkddfjbdiaaGreatDoor
open Go.Shelf Go.RowKit
def dX_ : Ren := ⟨fun | 6 => 318 | 8 => 372 | 9 => 373 | 11 => 415 | 13 => 359 | 12 => 416 | 23 => 404 | 24 => 405 | 14 => 442 | 15 => 443 | 16 => 444 | 17 => 445 | 18 => 446 | 19 => 447 | 20 => 448 | 21 => 449 | 22 => 450 | 25 => 475 | 26 => 426 | 27 => 427 | 28 => 476 | 29 => 477 | 30 => 478 | 31 => 493 | n => n, fun | 26 => 3 | 28 => 454 | 24 => 22 | 0 => 0 | 3 => 3 | 37 => 127 | 48 => 38 | 50 => 27 | 4 => 4 | 40 => 525 | 39 => 524 | 45 => 461 | 5 => 5 | 9 => 9 | 51 => 554 | 55 => 558 | 57 => 583 | 58 => 584 | 33 => 50 | n => n, fun n => n⟩
theorem gs_ : SlLaysZI.n6 Tryz.prog dX_ := {
  mixed := by kernel_rfl,
  f6 := ⟨Tryz.f318.name, by decide, Tryz.func318.trans (congrArg some (by kernel_rfl))⟩,
  f8 := ⟨Tryz.f372.name, by decide, Tryz.func372.trans (congrArg some (by kernel_rfl))⟩,
  f11 := ⟨Tryz.f415.name, by decide, Tryz.func415.trans (congrArg some (by kernel_rfl))⟩,
  t0 := Tryz.underlying0,
  a0 := Tryz.isAgg0,
  z0 := Tryz.sizeOf0,
  v0 := Tryz.zeroValue0,
  t24 := Tryz.underlying22,
  a24 := Tryz.isAgg22,
  z24 := Tryz.sizeOf22,
  v24 := Tryz.zeroValue22,
  t26 := Tryz.underlying3,
  a26 := Tryz.isAgg3,
  z26 := Tryz.sizeOf3,
  v26 := Tryz.zeroValue3,
  t28 := Tryz.underlying454,
  a28 := Tryz.isAgg454,
  z28 := Tryz.sizeOf454,
  v28 := Tryz.zeroValue454,
  i26 := by kernel_rfl }
def iM_ : Ren := ⟨fun | 5 => 373 | 8 => 359 | 7 => 416 | 19 => 404 | 20 => 405 | 10 => 442 | 11 => 443 | 12 => 444 | 13 => 445 | 14 => 446 | 15 => 447 | 16 => 448 | 17 => 449 | 18 => 450 | 30 => 475 | 31 => 426 | 32 => 427 | 33 => 476 | 34 => 477 | 35 => 478 | 40 => 493 | n => n, fun | 23 => 22 | 25 => 3 | 3 => 3 | 32 => 127 | 22 => 22 | 0 => 0 | 44 => 38 | 46 => 27 | 4 => 4 | 36 => 525 | 35 => 524 | 41 => 461 | 5 => 5 | 9 => 9 | 53 => 554 | 57 => 558 | 63 => 583 | 64 => 584 | n => n, fun n => n⟩
theorem fx_ : SlLaysM.n5 Tryz.prog iM_ := {
  mixed := by kernel_rfl,
  f5 := ⟨Tryz.f373.name, by decide, Tryz.func373.trans (congrArg some (by kernel_rfl))⟩,
  f7 := ⟨Tryz.f416.name, by decide, Tryz.func416.trans (congrArg some (by kernel_rfl))⟩,
  f8 := Tryz.func359.trans (congrArg some (by kernel_rfl)),
  f10 := ⟨Tryz.f442.name, by decide, Tryz.func442.trans (congrArg some (by kernel_rfl))⟩,
  f11 := ⟨Tryz.f443.name, by decide, Tryz.func443.trans (congrArg some (by kernel_rfl))⟩,
  f12 := ⟨Tryz.f444.name, by decide, Tryz.func444.trans (congrArg some (by kernel_rfl))⟩,
  f13 := ⟨Tryz.f445.name, by decide, Tryz.func445.trans (congrArg some (by kernel_rfl))⟩,
  f14 := ⟨Tryz.f446.name, by decide, Tryz.func446.trans (congrArg some (by kernel_rfl))⟩,
  f15 := ⟨Tryz.f447.name, by decide, Tryz.func447.trans (congrArg some (by kernel_rfl))⟩,
  f16 := ⟨Tryz.f448.name, by decide, Tryz.func448.trans (congrArg some (by kernel_rfl))⟩,
  f17 := ⟨Tryz.f449.name, by decide, Tryz.func449.trans (congrArg some (by kernel_rfl))⟩,
  f18 := ⟨Tryz.f450.name, by decide, Tryz.func450.trans (congrArg some (by kernel_rfl))⟩,
  f19 := Tryz.func404.trans (congrArg some (by kernel_rfl)),
  f20 := Tryz.func405.trans (congrArg some (by kernel_rfl)),
  f30 := ⟨Tryz.f475.name, by decide, Tryz.func475.trans (congrArg some (by kernel_rfl))⟩,
  f31 := Tryz.func426.trans (congrArg some (by kernel_rfl)),
  f32 := Tryz.func427.trans (congrArg some (by kernel_rfl)),
  f33 := ⟨Tryz.f476.name, by decide, Tryz.func476.trans (congrArg some (by kernel_rfl))⟩,
  f34 := ⟨Tryz.f477.name, by decide, Tryz.func477.trans (congrArg some (by kernel_rfl))⟩,
  f35 := ⟨Tryz.f478.name, by decide, Tryz.func478.trans (congrArg some (by kernel_rfl))⟩,
  f40 := ⟨Tryz.f493.name, by decide, Tryz.func493.trans (congrArg some (by kernel_rfl))⟩,
  t0 := Tryz.underlying0,
  a0 := Tryz.isAgg0,
  z0 := Tryz.sizeOf0,
  v0 := Tryz.zeroValue0,
  t3 := Tryz.underlying3,
  a3 := Tryz.isAgg3,
  z3 := Tryz.sizeOf3,
  v3 := Tryz.zeroValue3,
  t4 := Tryz.underlying4,
  a4 := Tryz.isAgg4,
  z4 := Tryz.sizeOf4,
  v4 := Tryz.zeroValue4,
  t5 := Tryz.underlying5,
  a5 := Tryz.isAgg5,
  z5 := Tryz.sizeOf5,
  v5 := Tryz.zeroValue5,
  t9 := Tryz.underlying9,
  a9 := Tryz.isAgg9,
  z9 := Tryz.sizeOf9,
  v9 := Tryz.zeroValue9,
  t22 := Tryz.underlying22,
  a22 := Tryz.isAgg22,
  z22 := Tryz.sizeOf22,
  v22 := Tryz.zeroValue22,
  t23 := Tryz.underlying22,
  a23 := Tryz.isAgg22,
  z23 := Tryz.sizeOf22,
  v23 := Tryz.zeroValue22,
  t25 := Tryz.underlying3,
  a25 := Tryz.isAgg3,
  z25 := Tryz.sizeOf3,
  v25 := Tryz.zeroValue3,
  t32 := Tryz.underlying127,
  a32 := Tryz.isAgg127,
  z32 := Tryz.sizeOf127,
  v32 := Tryz.zeroValue127,
  t35 := Tryz.underlying524,
  a35 := Tryz.isAgg524,
  z35 := Tryz.sizeOf524,
  v35 := Tryz.zeroValue524,
  t36 := Tryz.underlying525,
  a36 := Tryz.isAgg525,
  z36 := Tryz.sizeOf525,
  v36 := Tryz.zeroValue525,
  t41 := Tryz.underlying461,
  a41 := Tryz.isAgg461,
  z41 := Tryz.sizeOf461,
  v41 := Tryz.zeroValue461,
  t44 := Tryz.underlying38,
  a44 := Tryz.isAgg38,
  z44 := Tryz.sizeOf38,
  v44 := Tryz.zeroValue38,
  t46 := Tryz.underlying27,
  a46 := Tryz.isAgg27,
  z46 := Tryz.sizeOf27,
  v46 := Tryz.zeroValue27,
  t53 := Tryz.underlying554,
  a53 := Tryz.isAgg554,
  z53 := Tryz.sizeOf554,
  v53 := Tryz.zeroValue554,
  t57 := Tryz.underlying558,
  a57 := Tryz.isAgg558,
  z57 := Tryz.sizeOf558,
  v57 := Tryz.zeroValue558,
  t63 := Tryz.underlying583,
  a63 := Tryz.isAgg583,
  z63 := Tryz.sizeOf583,
  v63 := Tryz.zeroValue583,
  t64 := Tryz.underlying584,
  a64 := Tryz.isAgg584,
  z64 := Tryz.sizeOf584,
  v64 := Tryz.zeroValue584 }
def cQ_ : Ren := ⟨fun | 6 => 213 | 8 => 293 | 9 => 294 | 11 => 357 | 13 => 359 | 12 => 358 | 23 => 404 | 24 => 405 | 14 => 395 | 15 => 396 | 16 => 397 | 17 => 398 | 18 => 399 | 19 => 400 | 20 => 401 | 21 => 402 | 22 => 403 | 25 => 425 | 26 => 426 | 27 => 427 | 28 => 428 | 29 => 429 | 30 => 297 | 31 => 456 | n => n, fun | 26 => 2 | 28 => 341 | 24 => 282 | 0 => 0 | 3 => 3 | 37 => 127 | 48 => 38 | 50 => 27 | 4 => 4 | 40 => 525 | 39 => 524 | 45 => 461 | 5 => 5 | 9 => 9 | 51 => 554 | 55 => 558 | 57 => 583 | 58 => 584 | 33 => 277 | n => n, fun n => n⟩
theorem cR_ : SlLaysZI.n6 Tryz.prog cQ_ := {
  mixed := by kernel_rfl,
  f6 := ⟨Tryz.f213.name, by decide, Tryz.func213.trans (congrArg some (by kernel_rfl))⟩,
  f8 := ⟨Tryz.f293.name, by decide, Tryz.func293.trans (congrArg some (by kernel_rfl))⟩,
  f11 := ⟨Tryz.f357.name, by decide, Tryz.func357.trans (congrArg some (by kernel_rfl))⟩,
  t0 := Tryz.underlying0,
  a0 := Tryz.isAgg0,
  z0 := Tryz.sizeOf0,
  v0 := Tryz.zeroValue0,
  t24 := Tryz.underlying282,
  a24 := Tryz.isAgg282,
  z24 := Tryz.sizeOf282,
  v24 := Tryz.zeroValue282,
  t26 := Tryz.underlying2,
  a26 := Tryz.isAgg2,
  z26 := Tryz.sizeOf2,
  v26 := Tryz.zeroValue2,
  t28 := Tryz.underlying341,
  a28 := Tryz.isAgg341,
  z28 := Tryz.sizeOf341,
  v28 := Tryz.zeroValue341,
  i26 := by kernel_rfl }
def gt_ : Ren := ⟨fun | 5 => 294 | 8 => 359 | 7 => 358 | 19 => 404 | 20 => 405 | 10 => 395 | 11 => 396 | 12 => 397 | 13 => 398 | 14 => 399 | 15 => 400 | 16 => 401 | 17 => 402 | 18 => 403 | 30 => 425 | 31 => 426 | 32 => 427 | 33 => 428 | 34 => 429 | 35 => 297 | 40 => 456 | n => n, fun | 23 => 282 | 25 => 2 | 3 => 3 | 32 => 127 | 22 => 282 | 0 => 0 | 44 => 38 | 46 => 27 | 4 => 4 | 36 => 525 | 35 => 524 | 41 => 461 | 5 => 5 | 9 => 9 | 53 => 554 | 57 => 558 | 63 => 583 | 64 => 584 | n => n, fun n => n⟩
theorem bV_ : SlLaysM.n5 Tryz.prog gt_ := {
  mixed := by kernel_rfl,
  f5 := ⟨Tryz.f294.name, by decide, Tryz.func294.trans (congrArg some (by kernel_rfl))⟩,
  f7 := ⟨Tryz.f358.name, by decide, Tryz.func358.trans (congrArg some (by kernel_rfl))⟩,
  f8 := Tryz.func359.trans (congrArg some (by kernel_rfl)),
  f10 := ⟨Tryz.f395.name, by decide, Tryz.func395.trans (congrArg some (by kernel_rfl))⟩,
  f11 := ⟨Tryz.f396.name, by decide, Tryz.func396.trans (congrArg some (by kernel_rfl))⟩,
  f12 := ⟨Tryz.f397.name, by decide, Tryz.func397.trans (congrArg some (by kernel_rfl))⟩,
  f13 := ⟨Tryz.f398.name, by decide, Tryz.func398.trans (congrArg some (by kernel_rfl))⟩,
  f14 := ⟨Tryz.f399.name, by decide, Tryz.func399.trans (congrArg some (by kernel_rfl))⟩,
  f15 := ⟨Tryz.f400.name, by decide, Tryz.func400.trans (congrArg some (by kernel_rfl))⟩,
  f16 := ⟨Tryz.f401.name, by decide, Tryz.func401.trans (congrArg some (by kernel_rfl))⟩,
  f17 := ⟨Tryz.f402.name, by decide, Tryz.func402.trans (congrArg some (by kernel_rfl))⟩,
  f18 := ⟨Tryz.f403.name, by decide, Tryz.func403.trans (congrArg some (by kernel_rfl))⟩,
  f19 := Tryz.func404.trans (congrArg some (by kernel_rfl)),
  f20 := Tryz.func405.trans (congrArg some (by kernel_rfl)),
  f30 := ⟨Tryz.f425.name, by decide, Tryz.func425.trans (congrArg some (by kernel_rfl))⟩,
  f31 := Tryz.func426.trans (congrArg some (by kernel_rfl)),
  f32 := Tryz.func427.trans (congrArg some (by kernel_rfl)),
  f33 := ⟨Tryz.f428.name, by decide, Tryz.func428.trans (congrArg some (by kernel_rfl))⟩,
  f34 := ⟨Tryz.f429.name, by decide, Tryz.func429.trans (congrArg some (by kernel_rfl))⟩,
  f35 := ⟨Tryz.f297.name, by decide, Tryz.func297.trans (congrArg some (by kernel_rfl))⟩,
  f40 := ⟨Tryz.f456.name, by decide, Tryz.func456.trans (congrArg some (by kernel_rfl))⟩,
  t0 := Tryz.underlying0,
  a0 := Tryz.isAgg0,
  z0 := Tryz.sizeOf0,
  v0 := Tryz.zeroValue0,
  t3 := Tryz.underlying3,
  a3 := Tryz.isAgg3,
  z3 := Tryz.sizeOf3,
  v3 := Tryz.zeroValue3,
  t4 := Tryz.underlying4,
  a4 := Tryz.isAgg4,
  z4 := Tryz.sizeOf4,
  v4 := Tryz.zeroValue4,
  t5 := Tryz.underlying5,
  a5 := Tryz.isAgg5,
  z5 := Tryz.sizeOf5,
  v5 := Tryz.zeroValue5,
  t9 := Tryz.underlying9,
  a9 := Tryz.isAgg9,
  z9 := Tryz.sizeOf9,
  v9 := Tryz.zeroValue9,
  t22 := Tryz.underlying282,
  a22 := Tryz.isAgg282,
  z22 := Tryz.sizeOf282,
  v22 := Tryz.zeroValue282,
  t23 := Tryz.underlying282,
  a23 := Tryz.isAgg282,
  z23 := Tryz.sizeOf282,
  v23 := Tryz.zeroValue282,
  t25 := Tryz.underlying2,
  a25 := Tryz.isAgg2,
  z25 := Tryz.sizeOf2,
  v25 := Tryz.zeroValue2,
  t32 := Tryz.underlying127,
  a32 := Tryz.isAgg127,
  z32 := Tryz.sizeOf127,
  v32 := Tryz.zeroValue127,
  t35 := Tryz.underlying524,
  a35 := Tryz.isAgg524,
  z35 := Tryz.sizeOf524,
  v35 := Tryz.zeroValue524,
  t36 := Tryz.underlying525,
  a36 := Tryz.isAgg525,
  z36 := Tryz.sizeOf525,
  v36 := Tryz.zeroValue525,
  t41 := Tryz.underlying461,
  a41 := Tryz.isAgg461,
  z41 := Tryz.sizeOf461,
  v41 := Tryz.zeroValue461,
  t44 := Tryz.underlying38,
  a44 := Tryz.isAgg38,
  z44 := Tryz.sizeOf38,
  v44 := Tryz.zeroValue38,
  t46 := Tryz.underlying27,
  a46 := Tryz.isAgg27,
  z46 := Tryz.sizeOf27,
  v46 := Tryz.zeroValue27,
  t53 := Tryz.underlying554,
  a53 := Tryz.isAgg554,
  z53 := Tryz.sizeOf554,
  v53 := Tryz.zeroValue554,
  t57 := Tryz.underlying558,
  a57 := Tryz.isAgg558,
  z57 := Tryz.sizeOf558,
  v57 := Tryz.zeroValue558,
  t63 := Tryz.underlying583,
  a63 := Tryz.isAgg583,
  z63 := Tryz.sizeOf583,
  v63 := Tryz.zeroValue583,
  t64 := Tryz.underlying584,
  a64 := Tryz.isAgg584,
  z64 := Tryz.sizeOf584,
  v64 := Tryz.zeroValue584 }
def jl_ : Ren := ⟨fun | 7 => 265 | 10 => 333 | n => n, fun | 23 => 151 | 26 => 2 | 3 => 304 | 28 => 341 | 0 => 0 | 27 => 340 | 33 => 277 | 4 => 4 | n => n, fun n => n⟩
theorem keys_0L : SlLaysZI.n7 Tryz.prog jl_ := {
  mixed := by kernel_rfl,
  f7 := ⟨Tryz.f265.name, by decide, Tryz.func265.trans (congrArg some (by kernel_rfl))⟩,
  f10 := ⟨Tryz.f333.name, by decide, Tryz.func333.trans (congrArg some (by kernel_rfl))⟩,
  t0 := Tryz.underlying0,
  a0 := Tryz.isAgg0,
  z0 := Tryz.sizeOf0,
  v0 := Tryz.zeroValue0,
  t4 := Tryz.underlying4,
  a4 := Tryz.isAgg4,
  z4 := Tryz.sizeOf4,
  v4 := Tryz.zeroValue4,
  t23 := Tryz.underlying151,
  a23 := Tryz.isAgg151,
  z23 := Tryz.sizeOf151,
  v23 := Tryz.zeroValue151,
  t26 := Tryz.underlying2,
  a26 := Tryz.isAgg2,
  z26 := Tryz.sizeOf2,
  v26 := Tryz.zeroValue2,
  t27 := Tryz.underlying340,
  a27 := Tryz.isAgg340,
  z27 := Tryz.sizeOf340,
  v27 := Tryz.zeroValue340,
  t28 := Tryz.underlying341,
  a28 := Tryz.isAgg341,
  z28 := Tryz.sizeOf341,
  v28 := Tryz.zeroValue341,
  t33 := Tryz.underlying277,
  a33 := Tryz.isAgg277,
  z33 := Tryz.sizeOf277,
  v33 := Tryz.zeroValue277 }
def jk_ : Ren := ⟨fun | 7 => 214 | 10 => 295 | n => n, fun | 23 => 154 | 26 => 2 | 3 => 183 | 28 => 341 | 0 => 0 | 27 => 340 | 33 => 277 | 4 => 4 | n => n, fun n => n⟩
theorem keys_1L : SlLaysZI.n7 Tryz.prog jk_ := {
  mixed := by kernel_rfl,
  f7 := ⟨Tryz.f214.name, by decide, Tryz.func214.trans (congrArg some (by kernel_rfl))⟩,
  f10 := ⟨Tryz.f295.name, by decide, Tryz.func295.trans (congrArg some (by kernel_rfl))⟩,
  t0 := Tryz.underlying0,
  a0 := Tryz.isAgg0,
  z0 := Tryz.sizeOf0,
  v0 := Tryz.zeroValue0,
  t4 := Tryz.underlying4,
  a4 := Tryz.isAgg4,
  z4 := Tryz.sizeOf4,
  v4 := Tryz.zeroValue4,
  t23 := Tryz.underlying154,
  a23 := Tryz.isAgg154,
  z23 := Tryz.sizeOf154,
  v23 := Tryz.zeroValue154,
  t26 := Tryz.underlying2,
  a26 := Tryz.isAgg2,
  z26 := Tryz.sizeOf2,
  v26 := Tryz.zeroValue2,
  t27 := Tryz.underlying340,
  a27 := Tryz.isAgg340,
  z27 := Tryz.sizeOf340,
  v27 := Tryz.zeroValue340,
  t28 := Tryz.underlying341,
  a28 := Tryz.isAgg341,
  z28 := Tryz.sizeOf341,
  v28 := Tryz.zeroValue341,
  t33 := Tryz.underlying277,
  a33 := Tryz.isAgg277,
  z33 := Tryz.sizeOf277,
  v33 := Tryz.zeroValue277 }
def jj_ : Ren := ⟨fun | 7 => 319 | 10 => 374 | n => n, fun | 23 => 113 | 26 => 3 | 3 => 26 | 28 => 454 | 0 => 0 | 27 => 453 | 33 => 50 | 4 => 4 | n => n, fun n => n⟩
theorem keys_2L : SlLaysZI.n7 Tryz.prog jj_ := {
  mixed := by kernel_rfl,
  f7 := ⟨Tryz.f319.name, by decide, Tryz.func319.trans (congrArg some (by kernel_rfl))⟩,
  f10 := ⟨Tryz.f374.name, by decide, Tryz.func374.trans (congrArg some (by kernel_rfl))⟩,
  t0 := Tryz.underlying0,
  a0 := Tryz.isAgg0,
  z0 := Tryz.sizeOf0,
  v0 := Tryz.zeroValue0,
  t4 := Tryz.underlying4,
  a4 := Tryz.isAgg4,
  z4 := Tryz.sizeOf4,
  v4 := Tryz.zeroValue4,
  t23 := Tryz.underlying113,
  a23 := Tryz.isAgg113,
  z23 := Tryz.sizeOf113,
  v23 := Tryz.zeroValue113,
  t26 := Tryz.underlying3,
  a26 := Tryz.isAgg3,
  z26 := Tryz.sizeOf3,
  v26 := Tryz.zeroValue3,
  t27 := Tryz.underlying453,
  a27 := Tryz.isAgg453,
  z27 := Tryz.sizeOf453,
  v27 := Tryz.zeroValue453,
  t28 := Tryz.underlying454,
  a28 := Tryz.isAgg454,
  z28 := Tryz.sizeOf454,
  v28 := Tryz.zeroValue454,
  t33 := Tryz.underlying50,
  a33 := Tryz.isAgg50,
  z33 := Tryz.sizeOf50,
  v33 := Tryz.zeroValue50 }
theorem iL_ (m : Nat) : AnyZI.SortsIn Tryz.prog dX_ Fence.wide m :=
  ⟨fun blk off cap ss W hH hblk hsz => callsIn_wide.2 (AnyM.slices_Sort_int fx_ blk off cap ss W hH hblk hsz), fun p cap W => callsIn_wide.2 (AnyM.slices_Sort_int_none fx_ p cap W)⟩
theorem dW_ (m : Nat) : AnyZI.SortsIn Tryz.prog cQ_ Fence.wide m :=
  ⟨fun blk off cap ss W hH hblk hsz => callsIn_wide.2 (AnyM.slices_Sort_int bV_ blk off cap ss W hH hblk hsz), fun p cap W => callsIn_wide.2 (AnyM.slices_Sort_int_none bV_ p cap W)⟩
end Go.Proofs.YtjclgkddfjbdiaaGreatDoor
namespace Go.Proofs.YtjclgkddfjbdiaaGreatDoor.A
open Go.RowKit Go.Maps Go.Sort Go.Shelf
theorem dj_ {K : List Nat} {w : World} : ∀ {xs : List Int}, repss K w 1 (xs.map fun x => [int x]) (xs.map encZ)
  | [] => rfl
  | x :: xs => ⟨[encZ x], _, rfl, rfl, ⟨_, _, rfl, rfl, rfl⟩, dj_⟩
def R0 : Value → Option (DataW Unit × List MemPlace) := fun _ => some (.nil, [])
theorem ef_ {β : Type} {V : β → Value} {w : World} {b : Nat} {m : List (Int × β)} (h : MapOf w b intK V intOk m) {k : TypeId} (hk : Tryz.prog.underlying k = some (.int .i64)) (hl : m.length ≤ maxLen) :
    ∃ D0 : DataW Unit, w.ownsMap Tryz.prog k R0 b m.length D0 ∧ (intKeys D0).Perm (m.map (·.1)) ∧ Maps.size D0 = m.length := by
  obtain ⟨es, clock, hb, he, hnd, hg, hborn, hbnd⟩ := h
  have hlen : es.toList.length = m.length := by
    have h3 := congrArg List.length he
    simpa using h3
  have hkeys : es.toList.map (·.key) = (m.map (·.1)).map intK := by
    have h3 := congrArg (List.map Prod.fst) he
    simpa [List.map_map, Function.comp_def] using h3
  have hrd : ∀ x ∈ es.toList, ∃ y : Int, x.key = intK y ∧ intOk y := fun x hx => by
    have h3 : x.key ∈ (m.map (·.1)).map intK := hkeys ▸ List.mem_map.2 ⟨x, hx, rfl⟩
    simp only [List.mem_map] at h3
    obtain ⟨y, ⟨p, hp, rfl⟩, h4⟩ := h3
    exact ⟨p.1, h4.symm, hg p hp⟩
  have hrg : ∀ x ∈ es.toList, ∀ y : Int, x.key = intK y → intOk y → WideElems.rd Tryz.prog k R0 x = some (.int .i64 y, .nil) := fun x hx y hy hok => by
    unfold WideElems.rd
    rw [hy, Maps.keyOf_int_mk hk (hs_ hok)]
    rfl
  refine ⟨_, ⟨es, clock, hb, ⟨by rw [← Array.length_toList, hlen]; exact hl, ⟨hborn, hbnd, ?_⟩, fun x hx => ?_⟩, by rw [← Array.length_toList, hlen]; exact Nat.le_refl _, rfl⟩, ?_, ?_⟩
  · rw [hkeys]
    exact List.pairwise_map.2 (hnd.imp fun h e => h (by injection e))
  · obtain ⟨y, hy, hok⟩ := hrd x hx
    exact ⟨_, hrg x hx y hy hok⟩
  · have h5 : es.toList.map (fun x => Go.intOf (WideElems.rg Tryz.prog k R0 x).1) = m.map (·.1) := by
      have h6 : es.toList.map (fun x => Go.intOf (WideElems.rg Tryz.prog k R0 x).1) = (es.toList.map (·.key)).map (fun v => match v with | .int _ n => n | _ => 0) := by
        rw [List.map_map]
        refine List.map_congr_left fun x hx => ?_
        obtain ⟨y, hy, hok⟩ := hrd x hx
        show Go.intOf ((WideElems.rd Tryz.prog k R0 x).getD _).1 = _
        rw [hrg x hx y hy hok]
        simp only [Function.comp, hy]
        rfl
      rw [h6, hkeys, List.map_map]
      simp [Function.comp_def]
    show (((es.toList.map (WideElems.rg Tryz.prog k R0)).foldr DataW.insert []).map fun p => Go.intOf p.1).Perm _
    refine ((WideShapes.sorted_perm (es.toList.map (WideElems.rg Tryz.prog k R0))).map _).trans ?_
    rw [List.map_map]
    exact h5 ▸ List.Perm.refl _
  · show ((es.toList.map (WideElems.rg Tryz.prog k R0)).foldr DataW.insert []).length = _
    rw [(WideShapes.sorted_perm (es.toList.map (WideElems.rg Tryz.prog k R0))).length_eq, List.length_map, hlen]
theorem fb_ {w w' : World} {F G : List Nat} {σ : Blks} {e : TypeId} {v : Value} {ss ks : List Int} (hm : Mem w F G σ w) (hrow : w'.ownsRow w.heap.size e 1 v ss.length ((ss.mergeSort (fun x y => decide (x ≤ y))).map encZ)) (hp : ss.Perm ks) (hb : Below w.heap.size w w') : Mem w F G (own e 1 v ((srt ks).map fun x => [int x]) :: σ) w' := by
  have hx : Ext [] w w' := ⟨hb.os, hb.tape, hb.output, hb.size, fun k hk _ => hb.block k hk⟩
  have hss : ss.mergeSort (fun x y => decide (x ≤ y)) = srt ks := iK_ hp
  have hlen : ss.length = (srt ks).length := by rw [bL_, hp.length_eq]
  rw [hss, hlen] at hrow
  refine (hm.new (y := own e 1 v ((srt ks).map fun x => [int x])) hx aM_ (fun k hk => ?_) rfl fun _ => ⟨(srt ks).map encZ, by rw [List.length_map]; exact ⟨hrow.1, hrow.2.imp id fun ⟨g, cap, cur, h1, h2, h3⟩ => ⟨g, cap, cur, h1, Nat.zero_le _, h3⟩⟩, dj_⟩).1
  have hk' : v.ownBlock = some k := by simpa [It.mids, ownPc] using hk
  exact (World.ownsRow.lt hrow k hk').1
section
variable {b z : Nat}
theorem keys_0_s  : Spec Tryz.prog 265 [mapV b] [] (fun z : Nat => [.blk z 151 [mapV b]]) (fun z => .fn (.func 333) [] [ptr z]) := by
 refine t_ Tryz.func265 rfl Tryz.ntmps265 rfl fun G w =>c_<|a_<|eb_ (a3_ rfl rfl) rfl rfl fun b1=>?_
 exact q_ 1 rfl<|g_<|b_<|c_<|a_<|d_ (ag_ rfl rfl) rfl rfl<|q_ 1 rfl<|g_<|b_<|o_<|f_ (rs := [.tmp 2]) rfl (RV.tmp rfl RV.nil) (b1) sr_<|rfl
end
theorem hT_ {β : Type} {V : β → Value} {m : List (Int × β)} {b z : Nat} (hl : m.length ≤ 1000000) : Spec Tryz.prog 213 [.fn (.func 333) [] [ptr z]] [.rd z 151 [mapV b], .rdpc (mapPc b intK V intOk m)] (fun v : Value => [own 2 1 v ((srt (m.map (·.1))).map fun x => [int x])]) (fun v => .v v) := fun G w vals hm hv => by
  obtain ⟨_, _, rfl, ⟨us, vs, rfl, h1, h2⟩, h3⟩ := hv
  have h1 : us = [] := h1
  have h3 : _ = [] := h3
  obtain ⟨_, _, rfl, h4, h5⟩ := h2
  have h4 : _ = Value.pointer (some ⟨z, 0, none⟩) := h4
  have h5 : _ = [] := h5
  subst h1 h3 h4 h5
  obtain ⟨cs, hb, hr⟩ := hm.hold (.rd z 151 [mapV b]) (by simp)
  obtain ⟨_, _, rfl, h6, h7⟩ := hr
  have h6 : _ = Value.map (some b) := h6
  have h7 : _ = [] := h7
  subst h6 h7
  have hmap : MapOf w b intK V intOk m := hm.hold (.rdpc (mapPc b intK V intOk m)) (by simp)
  obtain ⟨D0, hown, hperm, hsize⟩ := ef_ hmap Tryz.underlying2 (by unfold maxLen; omega)
  have hcell : w.cell? ⟨z, 0, none⟩ = some (.map (some b)) := by rw [a2_ hb]; rfl
  have hseq := AnyZI.keys_gives (ρ := jl_) { keys_0L with } Fence.wide 2 trivial rfl (by omega) z b m.length D0 (R := R0) w (aN_ hb) hcell hown
  have cS := AnyZI.sorted_in cR_ Fence.wide 5 trivial trivial trivial trivial rfl (by omega) (dW_ _) (enters_of Tryz.func294 (by kernel_rfl) rfl) 333 #[.pointer (some ⟨z, 0, none⟩)] trivial (enters_of Tryz.func333 (by kernel_rfl) rfl) _ (Maps.size D0) (by rw [hsize]; unfold maxLen; omega) (by rw [hsize]; omega) w hseq
  refine ((callsIn_wide (n := 5)).1 cS).mono fun e w' ⟨v, ss, he, hS, hrow, hnil, hbel⟩ => ?_
  exact ⟨v, v, he, by simp [It.rids], ((fb_ hm hrow (hS.trans hperm) hbel).sub (List.Sublist.cons_cons _ (List.nil_sublist _))).1, rfl⟩
section
variable {b z : Nat}
theorem keys_1_s  : Spec Tryz.prog 214 [mapV b] [] (fun z : Nat => [.blk z 154 [mapV b]]) (fun z => .fn (.func 295) [] [ptr z]) := by
 refine t_ Tryz.func214 rfl Tryz.ntmps214 rfl fun G w =>c_<|a_<|eb_ (a3_ rfl rfl) rfl rfl fun b1=>?_
 exact q_ 1 rfl<|g_<|b_<|c_<|a_<|d_ (ag_ rfl rfl) rfl rfl<|q_ 1 rfl<|g_<|b_<|o_<|f_ (rs := [.tmp 2]) rfl (RV.tmp rfl RV.nil) (b1) sr_<|rfl
end
theorem hS_ {β : Type} {V : β → Value} {m : List (Int × β)} {b z : Nat} (hl : m.length ≤ 1000000) : Spec Tryz.prog 213 [.fn (.func 295) [] [ptr z]] [.rd z 154 [mapV b], .rdpc (mapPc b intK V intOk m)] (fun v : Value => [own 2 1 v ((srt (m.map (·.1))).map fun x => [int x])]) (fun v => .v v) := fun G w vals hm hv => by
  obtain ⟨_, _, rfl, ⟨us, vs, rfl, h1, h2⟩, h3⟩ := hv
  have h1 : us = [] := h1
  have h3 : _ = [] := h3
  obtain ⟨_, _, rfl, h4, h5⟩ := h2
  have h4 : _ = Value.pointer (some ⟨z, 0, none⟩) := h4
  have h5 : _ = [] := h5
  subst h1 h3 h4 h5
  obtain ⟨cs, hb, hr⟩ := hm.hold (.rd z 154 [mapV b]) (by simp)
  obtain ⟨_, _, rfl, h6, h7⟩ := hr
  have h6 : _ = Value.map (some b) := h6
  have h7 : _ = [] := h7
  subst h6 h7
  have hmap : MapOf w b intK V intOk m := hm.hold (.rdpc (mapPc b intK V intOk m)) (by simp)
  obtain ⟨D0, hown, hperm, hsize⟩ := ef_ hmap Tryz.underlying2 (by unfold maxLen; omega)
  have hcell : w.cell? ⟨z, 0, none⟩ = some (.map (some b)) := by rw [a2_ hb]; rfl
  have hseq := AnyZI.keys_gives (ρ := jk_) { keys_1L with } Fence.wide 2 trivial rfl (by omega) z b m.length D0 (R := R0) w (aN_ hb) hcell hown
  have cS := AnyZI.sorted_in cR_ Fence.wide 5 trivial trivial trivial trivial rfl (by omega) (dW_ _) (enters_of Tryz.func294 (by kernel_rfl) rfl) 295 #[.pointer (some ⟨z, 0, none⟩)] trivial (enters_of Tryz.func295 (by kernel_rfl) rfl) _ (Maps.size D0) (by rw [hsize]; unfold maxLen; omega) (by rw [hsize]; omega) w hseq
  refine ((callsIn_wide (n := 5)).1 cS).mono fun e w' ⟨v, ss, he, hS, hrow, hnil, hbel⟩ => ?_
  exact ⟨v, v, he, by simp [It.rids], ((fb_ hm hrow (hS.trans hperm) hbel).sub (List.Sublist.cons_cons _ (List.nil_sublist _))).1, rfl⟩
section
variable {b z : Nat}
theorem keys_2_s  : Spec Tryz.prog 319 [mapV b] [] (fun z : Nat => [.blk z 113 [mapV b]]) (fun z => .fn (.func 374) [] [ptr z]) := by
 refine t_ Tryz.func319 rfl Tryz.ntmps319 rfl fun G w =>c_<|a_<|eb_ (a3_ rfl rfl) rfl rfl fun b1=>?_
 exact q_ 1 rfl<|g_<|b_<|c_<|a_<|d_ (ag_ rfl rfl) rfl rfl<|q_ 1 rfl<|g_<|b_<|o_<|f_ (rs := [.tmp 2]) rfl (RV.tmp rfl RV.nil) (b1) sr_<|rfl
end
theorem hR_ {β : Type} {V : β → Value} {m : List (Int × β)} {b z : Nat} (hl : m.length ≤ 1000000) : Spec Tryz.prog 318 [.fn (.func 374) [] [ptr z]] [.rd z 113 [mapV b], .rdpc (mapPc b intK V intOk m)] (fun v : Value => [own 3 1 v ((srt (m.map (·.1))).map fun x => [int x])]) (fun v => .v v) := fun G w vals hm hv => by
  obtain ⟨_, _, rfl, ⟨us, vs, rfl, h1, h2⟩, h3⟩ := hv
  have h1 : us = [] := h1
  have h3 : _ = [] := h3
  obtain ⟨_, _, rfl, h4, h5⟩ := h2
  have h4 : _ = Value.pointer (some ⟨z, 0, none⟩) := h4
  have h5 : _ = [] := h5
  subst h1 h3 h4 h5
  obtain ⟨cs, hb, hr⟩ := hm.hold (.rd z 113 [mapV b]) (by simp)
  obtain ⟨_, _, rfl, h6, h7⟩ := hr
  have h6 : _ = Value.map (some b) := h6
  have h7 : _ = [] := h7
  subst h6 h7
  have hmap : MapOf w b intK V intOk m := hm.hold (.rdpc (mapPc b intK V intOk m)) (by simp)
  obtain ⟨D0, hown, hperm, hsize⟩ := ef_ hmap Tryz.underlying3 (by unfold maxLen; omega)
  have hcell : w.cell? ⟨z, 0, none⟩ = some (.map (some b)) := by rw [a2_ hb]; rfl
  have hseq := AnyZI.keys_gives (ρ := jj_) { keys_2L with } Fence.wide 2 trivial rfl (by omega) z b m.length D0 (R := R0) w (aN_ hb) hcell hown
  have cS := AnyZI.sorted_in gs_ Fence.wide 5 trivial trivial trivial trivial rfl (by omega) (iL_ _) (enters_of Tryz.func373 (by kernel_rfl) rfl) 374 #[.pointer (some ⟨z, 0, none⟩)] trivial (enters_of Tryz.func374 (by kernel_rfl) rfl) _ (Maps.size D0) (by rw [hsize]; unfold maxLen; omega) (by rw [hsize]; omega) w hseq
  refine ((callsIn_wide (n := 5)).1 cS).mono fun e w' ⟨v, ss, he, hS, hrow, hnil, hbel⟩ => ?_
  exact ⟨v, v, he, by simp [It.rids], ((fb_ hm hrow (hS.trans hperm) hbel).sub (List.Sublist.cons_cons _ (List.nil_sublist _))).1, rfl⟩
theorem keysT_s {om : List (Int × Ow)} {b z : Nat} (hl : om.length ≤ 1000000) : Spec Tryz.prog 213 [.fn (.func 295) [] [ptr z]] [.rd z 154 [mapV b], .rdpc (tmPc b intK intOk Ow.enc om)] (fun v : Value => [own 2 1 v ((srt (om.map (·.1))).map fun x => [int x])]) (fun v => .v v) :=
  Spec.tmRead (σ1 := [.rd z 154 [mapV b]]) fun tm htm => by
    have h := hS_ (V := id) (m := rawM tm) (b := b) (z := z) (by rw [← htm] at hl; simpa [rawM, plM] using hl)
    rw [d6_, ← e7_, htm] at h
    exact h
def votesI (n me : Nat) (om : List (Int × Ow)) (vs : List (List Pnt)) (who : Int) : List Pnt := if who < 0 ∨ (n : Int) ≤ who then [] else votesF me om vs who.toNat
theorem eH_ {n me : Nat} {om : List (Int × Ow)} {vs : List (List Pnt)} {who : Int} (h : who < 0 ∨ (n : Int) ≤ who) : votesI n me om vs who = [] := if_pos h
theorem fu_ {n me : Nat} {om : List (Int × Ow)} {vs : List (List Pnt)} (h : me < n) : votesI n me om vs (me : Nat) = ownP om := by
  unfold votesI votesF
  rw [if_neg (by omega), if_pos (by omega)]
theorem ft_ {n me : Nat} {om : List (Int × Ow)} {vs : List (List Pnt)} {who : Int} {l : List Pnt} (h : ¬ (who < 0 ∨ (n : Int) ≤ who)) (hm : ¬ who = me) (hl : vs[who.toNat]? = some l) : votesI n me om vs who = l := by
  unfold votesI votesF
  rw [if_neg h, if_neg (by omega), hl]
  rfl
theorem ix_ {n me : Nat} {om : List (Int × Ow)} {vs : List (List Pnt)} (h : PtsOk n me om vs) (who : Int) : (∀ x ∈ votesI n me om vs who, InR .i64 x.seq) ∧ (votesI n me om vs who).length ≤ 100000 := by
  unfold votesI
  split
  · exact ⟨fun x hx => (by cases hx), by simp⟩
  · exact ⟨iy_ h _, hO_ h _⟩
theorem ja_ {om : List (Int × Ow)} {z : Nat} (hz : z < (srt (om.map (·.1))).length) : (ownP om).take (z + 1) = (ownP om).take z ++ [⟨(srt (om.map (·.1)))[z], ((aget om (srt (om.map (·.1)))[z]).getD Ow.zero).dig, ((aget om (srt (om.map (·.1)))[z]).getD Ow.zero).len⟩] := by
  have h : z < (ownP om).length := by unfold ownP; rw [List.length_map]; exact hz
  rw [List.take_succ_eq_append_getElem h]
  congr 1
  simp [ownP]
theorem pnt_fill {k : Int} {o : Ow} {place : Nat → Option (Nat × Nat)} {Z : List Abs} (hZ : Z.length = 33) (h0 : place 0 = some (0, 1)) (h1 : place 1 = some (1, 32)) : fillA place Z [(0, int k), (1, .agg (digA o.dig))] = some (Pnt.abs ⟨k, o.dig, o.len⟩) :=
  hv_ (a := 1) (b := 32) rfl (c0_ o.len) hZ h0 h1
theorem hl_ (o : Ow) : Abs.agg (part o.cells 0 32) = .agg (digA o.dig) := by
  have h := c0_ o.len
  unfold part Ow.cells
  rw [List.drop_zero, List.take_append_of_le_length (by omega), List.take_of_length_le (by omega)]
theorem dN_ (o : Ow) : o.cells.length = 33 := by
  have h := c0_ o.len
  simp [Ow.cells, h]
theorem pnt_part (x : Pnt) : Abs.agg (part x.abs 1 32) = .agg (digA x.dig) := by
  have h := c0_ x.len
  unfold part Pnt.abs
  rw [List.drop_succ_cons, List.drop_zero, List.take_of_length_le (by omega)]
theorem dJ_ {vs : List (List Pnt)} {x : Pnt} {z : Nat} {l : List Pnt} (hl : vs[z]? = some l) : ((vs.take (z + 1)).filter fun l => decide (x ∈ l)).length = ((vs.take z).filter fun l => decide (x ∈ l)).length + if x ∈ l then 1 else 0 := by
  rw [List.take_add_one, hl, Option.toList_some, List.filter_append, List.length_append]
  congr 1
  by_cases h : x ∈ l <;> simp [h]
section
variable {n me : Nat} {om : List (Int × Ow)} {vs : List (List Pnt)} {bp bm : Nat} {vv : Value} {x : Pnt} {who k : Int} {o : Ow} {l : List Pnt}
set_option maxHeartbeats 2000000 in
theorem pvotes_s (hok : PtsOk n me om vs) : Spec Tryz.prog 157 [ptr bp, int who] [.rd bp 157 [int (n : Nat), int (me : Nat), mapV bm, .v vv], .rdpc (ownPc 199 1 vv (vs.map fun l => [pntsA l])), .rdpc (tmPc bm intK intOk Ow.enc om)] (fun r : Value => [own 203 33 r (((votesI n me om vs who)).map Pnt.abs)]) (fun r => .v r) := by
 refine t_ Tryz.func157 rfl Tryz.ntmps157 rfl fun G w =>c_<|a_<|q_ 1 rfl<|g_<|b_<|c_<|w_<|c_<|a_<|q_ 1 rfl<|d_ (ax_ rfl rfl (by kernel_rfl)) rfl rfl ?_
 refine q_ 5 rfl<|D_ (t := 15) rfl ?_ ?_
 ·intro hc15
  refine q_ 8 rfl<|g_<|b_<|ab_ rfl<|c_<|aO_ 203 33<|a_<|q_ 1 rfl<|g_<|b_<|o_<|aF_<|k_ nofun ?_
  have e9 : (votesI n me om vs who) = [] := eH_ (by omega)
  refine f_ (rs := [.tmp 4]) rfl (RV.tmp rfl RV.nil) (.slice none 0 0) (by rw [e9]; repeat (first | exact List.nil_sublist _ | exact List.Sublist.refl _ | apply List.Sublist.cons_cons | apply List.Sublist.cons)) ?_
  exact rfl
 intro hc15
 refine q_ 4 rfl<|d_ (h_ tabOk rfl rfl r0_ List.not_mem_nil rfl) rfl rfl<|q_ 3 rfl<|g_<|b_<|n_ rfl ?_ ?_
 ·intro hc8
  refine c_<|aO_ 203 33<|a_<|q_ 1 rfl<|g_<|b_<|o_<|aF_<|k_ nofun ?_
  have e9 : (votesI n me om vs who) = [] := eH_ (by omega)
  refine f_ (rs := [.tmp 4]) rfl (RV.tmp rfl RV.nil) (.slice none 0 0) (by rw [e9]; repeat (first | exact List.nil_sublist _ | exact List.Sublist.refl _ | apply List.Sublist.cons_cons | apply List.Sublist.cons)) ?_
  exact rfl
 intro hc8
 refine c_<|a_<|q_ 4 rfl<|d_ (h_ tabOk rfl rfl r0_ List.not_mem_nil rfl) rfl rfl<|q_ 2 rfl<|g_<|b_<|n_ rfl ?_ ?_
 ·intro hc23
  obtain ⟨l, hvl⟩ : ∃ l, vs[who.toNat]? = some l := ⟨_, List.getElem?_eq_getElem (by rw [hok.len]; omega)⟩
  have hlm := List.mem_of_getElem? hvl
  have hl3 := hok.few l hlm
  refine c_<|a_<|q_ 3 rfl<|d_ (h_ tabOk rfl rfl r0_ List.not_mem_nil rfl) rfl rfl<|q_ 1 rfl<|d_ (aP_ (q := who.toNat) tabOk Tryz.underlying155 rfl rfl r1_ rfl (by omega) (by rw [List.length_map, hok.len]; omega) rfl rfl) rfl rfl ?_
  refine d_ (i_ (C := pntsA l) (dD_ (q := who.toNat) (s := 1) (cs := [pntsA l]) tabOk rfl rfl r1_ rfl (by rw [List.getElem?_map, hvl]; rfl) rfl) rfl) rfl rfl ?_
  refine m_ (gK_ (iZ_ l) (by rw [List.length_map]; omega)) Casts.refl (by kernel_rfl) rfl rfl rfl ?_
  refine Y_ (by repeat (first | exact Reads.nil | (refine Reads.blk ?_ ?_; focus ((repeat first|assumption|exact m0_|apply m1_); done)) | (refine Reads.rd ?_ ?_; focus ((repeat first|assumption|exact m0_|apply m1_); done)) | (refine Reads.pc ?_ ?_; focus ((repeat first|assumption|exact m0_|apply m1_); done)) | (refine Reads.rdpc ?_ ?_; focus ((repeat first|assumption|exact m0_|apply m1_); done)))) (fun _ => rfl) ?_
  intro z37
  refine q_ 1 rfl<|g_<|b_<|o_<|aF_<|k_ nofun ?_
  have e9 : (votesI n me om vs who) = l := ft_ (by omega) (by omega) hvl
  refine f_ (rs := [.tmp 4]) rfl (RV.tmp rfl RV.nil) (z37) (by rw [e9]; repeat (first | exact List.nil_sublist _ | exact List.Sublist.refl _ | apply List.Sublist.cons_cons | apply List.Sublist.cons)) ?_
  exact rfl
 intro hc23
 refine s_<|A_<|b_<|c_ ?_
 have hkl : (srt (om.map (·.1))).length = om.length := by rw [bL_, List.length_map]
 have hom := hok.om
 have hol := d7_ om
 refine aO_ 203 33<|a_<|q_ 1 rfl<|g_<|b_<|c_<|c_<|a_<|q_ 3 rfl<|d_ (h_ tabOk rfl rfl r1_ List.not_mem_nil rfl) rfl rfl<|m_ (keys_1_s (b := bm)) Casts.refl (by kernel_rfl) rfl rfl rfl ?_
 refine Y_ (by repeat first|exact .nil|refine .blk (by repeat first|assumption|exact m0_|apply m1_) ?_|refine .rd (by repeat first|assumption|exact m0_|apply m1_) ?_|refine .pc (by repeat first|assumption|exact m0_|apply m1_) ?_|refine .rdpc (by repeat first|assumption|exact m0_|apply m1_) ?_) (fun _ => rfl) ?_
 intro zk
 refine m_ (keysT_s (om := om) (b := bm) (z := zk) (by omega)) Casts.refl (by kernel_rfl) rfl rfl rfl ?_
 refine Y_ (by repeat (first | exact Reads.nil | (refine Reads.blk ?_ ?_; focus ((repeat first|assumption|exact m0_|apply m1_); done)) | (refine Reads.rd ?_ ?_; focus ((repeat first|assumption|exact m0_|apply m1_); done)) | (refine Reads.pc ?_ ?_; focus ((repeat first|assumption|exact m0_|apply m1_); done)) | (refine Reads.rdpc ?_ ?_; focus ((repeat first|assumption|exact m0_|apply m1_); done)))) (fun _ => rfl) ?_
 intro r43
 refine ge_ [] (t := 43) rfl rfl<|d_ (P_ rfl Tryz.underlying282 (List.length_map _)) rfl rfl<|q_ 1 rfl<|g_<|b_<|w_<|S_ (ι := Nat × Value) (fun z => [own 203 33 z.2 (((ownP om).take z.1).map Pnt.abs), .rd bp 157 [int (n : Nat), int (me : Nat), mapV bm, .v vv], .rdpc (ownPc 199 1 vv (vs.map fun l => [pntsA l])), .rdpc (tmPc bm intK intOk Ow.enc om)]) (fun z => [(0, ptr bp), (5, .v z.2), (43, ints (srt (om.map (·.1)))), (44, int ((srt (om.map (·.1))).length : Nat)), (45, int (z.1 : Nat))]) (fun z => z.1 ≤ (srt (om.map (·.1))).length) (fun z => (srt (om.map (·.1))).length - z.1) (0, .slice none 0 0) (Nat.zero_le _) (by exact ⟨rfl, rfl, rfl, rfl, rfl, trivial⟩) (sk_ sr_) ?_
 intro z hz
 refine c_<|a_<|q_ 1 rfl<|g_<|b_<|c_<|n_ rfl ?_ ?_
 rotate_left
 ·intro hc46
  have hta : (ownP om).take z.1 = ownP om := List.take_of_length_le (by omega)
  refine O_<|k_ nofun<|k_ nofun<|N_<|b_<|c_<|a_<|q_ 2 rfl<|g_<|b_<|o_ ?_
  have e9 : (votesI n me om vs who) = ownP om := by
   have := hok.slf
   rw [show who = (me : Nat) by omega]
   exact fu_ this
  rw [hta] at *
  refine f_ (rs := [.tmp 4]) rfl (RV.tmp rfl RV.nil) (z.2) (by rw [e9, ← hta]; repeat (first | exact List.nil_sublist _ | exact List.Sublist.refl _ | apply List.Sublist.cons_cons | apply List.Sublist.cons)) ?_
  exact rfl
 intro hc46
 have hlt : z.1 < (srt (om.map (·.1))).length := by omega
 have hki : intOk ((srt (om.map (·.1)))[z.1]'hlt) := by
  obtain ⟨e, he, h2⟩ := List.mem_map.1 (iJ_.1 (List.getElem_mem hlt))
  rw [← h2]
  exact hok.keys e he
 refine s_<|b_<|c_<|w_<|c_<|a_<|d_ (W_ tabOk Tryz.underlying282 rfl rfl rfl rfl (ce_ (by omega)) rfl rfl) rfl rfl ?_
 refine d_ (aI_ tabOk rfl rfl rfl) rfl rfl<|q_ 1 rfl<|g_<|b_<|a_<|q_ 5 rfl<|d_ (h_ tabOk rfl rfl r1_ List.not_mem_nil rfl) rfl rfl<|q_ 1 rfl<|d_ (aZ_ (a := ((srt (om.map (·.1)))[z.1]'hlt)) (m := om) (enc := Ow.enc) (z0 := Ow.zero) (zv := zow) (bh_ Tryz.underlying2) Tryz.underlying154 ir_ iq_ rfl r3_ List.not_mem_nil rfl is_v hki) rfl rfl<|d_ (i_ (C := .agg (digA ((aget om ((srt (om.map (·.1)))[z.1]'hlt)).getD Ow.zero).dig)) (ij_ tabOk rfl rfl rfl rfl rfl (by show 0 + 32 ≤ ((aget om ((srt (om.map (·.1)))[z.1]'hlt)).getD Ow.zero).cells.length; rw [dN_]; omega)) (hl_ _)) rfl rfl ?_
 refine d_ (u_ (L := (⟨(srt (om.map (·.1)))[z.1]'hlt, ((aget om ((srt (om.map (·.1)))[z.1]'hlt)).getD Ow.zero).dig, ((aget om ((srt (om.map (·.1)))[z.1]'hlt)).getD Ow.zero).len⟩ : Pnt).abs) tabOk rfl rfl rfl (pnt_fill rfl rfl rfl)) rfl rfl<|e_ (ac_ tabOk Tryz.underlying199 rfl rfl rfl (aS_ (Pnt.size (⟨(srt (om.map (·.1)))[z.1]'hlt, ((aget om ((srt (om.map (·.1)))[z.1]'hlt)).getD Ow.zero).dig, ((aget om ((srt (om.map (·.1)))[z.1]'hlt)).getD Ow.zero).len⟩ : Pnt))) rfl rfl rfl) rfl rfl<|eb_ (K_ (zs := ((ownP om).take (z.1 + 1)).map Pnt.abs) tabOk [] (by rw [ja_ hlt, List.map_append]; rfl) Tryz.underlying199 rfl rfl rfl rfl rfl rfl (by intro c hc; rw [List.mem_singleton] at hc; subst hc; exact Pnt.ones _) (by unfold maxLen; simp only [List.length_map, List.length_take, List.length_cons, List.length_nil]; omega) (by rw [show Tryz.prog.bytesOf 203 = 40 by kernel_rfl]; simp only [List.length_map, List.length_take, List.length_cons, List.length_nil]; omega)) rfl rfl fun r60=>?_
 refine q_ 1 rfl<|g_<|A_<|b_<|a_<|d_ (E_ rfl rfl (by simp only [InR, lo, hi]; omega)) rfl rfl ?_
 refine q_ 1 rfl<|g_<|J_ (z.1 + 1, r60) (by omega) ((by dsimp only; omega)) (by exact ⟨rfl, rfl, rfl, rfl, rfl, trivial⟩) sr_
end
theorem own_ones (o : Ow) : ones o.cells = true := by
  rw [bC_]; intro a ha
  rcases List.mem_append.1 ha with ha | ha
  · obtain ⟨b, _, rfl⟩ := List.mem_map.1 ha; rfl
  · rw [List.mem_singleton.1 ha]; rfl
section
variable {n me : Nat} {om : List (Int × Ow)} {vs : List (List Pnt)} {bp bm : Nat} {vv : Value} {x : Pnt} {who k : Int} {o : Ow} {l : List Pnt}
set_option maxHeartbeats 2000000 in
theorem psup_s (hok : PtsOk n me om vs) (hx : InR .i64 x.seq) : Spec Tryz.prog 268 [ptr bp, .agg x.abs] [.rd bp 157 [int (n : Nat), int (me : Nat), mapV bm, .v vv], .rdpc (ownPc 199 1 vv (vs.map fun l => [pntsA l])), .rdpc (tmPc bm intK intOk Ow.enc om)] (fun _ : Unit => []) (fun _ => int (supF om vs x : Nat)) := by
 refine t_ Tryz.func268 rfl Tryz.ntmps268 rfl fun G w =>c_<|a_<|eb_ (z_ (cs := x.abs) rfl) rfl rfl fun b3=>?_
 refine q_ 1 rfl<|g_<|b_<|c_<|c_<|a_<|q_ 1 rfl<|d_ (ax_ rfl rfl (by kernel_rfl)) rfl rfl ?_
 refine g_<|b_<|I_ rfl<|s_<|b_<|c_<|a_<|q_ 1 rfl<|g_<|b_<|cj_ (ι := Unit) (fun z => [.blk b3 203 x.abs, .rd bp 157 [int (n : Nat), int (me : Nat), mapV bm, .v vv], .rdpc (ownPc 199 1 vv (vs.map fun l => [pntsA l])), .rdpc (tmPc bm intK intOk Ow.enc om)]) (fun z => [(0, ptr bp), (3, ptr b3), (5, int (((if ownHas om x then 1 else 0) + ((vs.take 0).filter fun l => decide (x ∈ l)).length) : Nat))]) (fun z => True) ?_ ?_
 ·skip
  refine c_<|T_ [] (.q 0 (.q 1 (.q 2 (.q 3 (.q 4 (.q 5 (.q 6 (.q 7 (.q 8 (.q 9 (.e 10 (.e 11 (.q 12 .nil))))))))))))) (by kernel_rfl) (by kernel_rfl) ?_
  refine qs_ 3 rfl<|j_ rfl (h_ tabOk rfl rfl r1_ List.not_mem_nil rfl) (by simp) rfl rfl ?_
  refine qs_ 1 rfl<|hx_ fun hx9 =>j_ rfl (i_ (C := int x.seq) (h_ tabOk rfl rfl l0_ List.not_mem_nil rfl) rfl) hx9 rfl rfl<|j_ rfl (et_ (a := x.seq) (m := om) (enc := Ow.enc) (z0 := Ow.zero) (zv := zow) (bh_ Tryz.underlying2) Tryz.underlying154 ir_ iq_ rfl r3_ List.not_mem_nil rfl is_v hx) hx9 rfl rfl<|qs_ 3 rfl<|be_ tabOk rfl rfl rfl rfl fun b6 =>ex_ rfl (p_ (L' := ((aget om x.seq).getD Ow.zero).cells) tabOk rfl rfl rfl u0_ (dN_ _) (Nat.le_of_ble_eq_true rfl) (own_ones _) (by exact x_ (dN_ _))) (by simp) rfl rfl ?_
  refine hx_ fun hx9 =>qx_ 1 hx9 rfl<|C_<|b_<|c_<|a_<|q_ 2 rfl<|fq_ (t := 23) rfl ?_ ?_
  rotate_left
  ·intro hc23
   have e9 : ownHas om x = false := by unfold ownHas; simp_all
   refine q_ 6 rfl<|g_<|b_<|I_ rfl<|s_<|R_ (()) (trivial) (by refine ⟨rfl, rfl, ?_, trivial⟩; (rw [e9]; rfl)) (sk_ sr_)
  intro hc23
  refine q_ 1 rfl<|d_ (i_ (C := .agg (digA ((aget om x.seq).getD Ow.zero).dig)) (al_ tabOk rfl rfl rfl l0_ List.not_mem_nil (by show 0 + 32 ≤ ((aget om x.seq).getD Ow.zero).cells.length; rw [dN_]; omega)) (by exact hl_ _)) rfl rfl ?_
  refine q_ 1 rfl<|d_ (i_ (C := .agg (digA x.dig)) (al_ tabOk rfl rfl rfl l1_ List.not_mem_nil (by show 1 + 32 ≤ x.abs.length; rw [Pnt.size]; omega)) (by exact pnt_part _)) rfl rfl ?_
  refine d_ (ey_ rfl rfl (bk_ _) (bk_ _) (by kernel_rfl) (eqlD _ _ ((aget om x.seq).getD Ow.zero).len x.len (decide (((aget om x.seq).getD Ow.zero).dig = x.dig)) rfl)) rfl rfl ?_
  refine q_ 1 rfl<|g_<|b_<|n_ rfl ?_ ?_
  rotate_left
  ·intro hc29
   have e9 : ownHas om x = false := by unfold ownHas; simp_all
   refine s_<|R_ (()) (trivial) (by refine ⟨rfl, rfl, ?_, trivial⟩; (rw [e9]; rfl)) (sk_ sr_)
  intro hc29
  have e9 : ownHas om x = true := by unfold ownHas; simp_all
  refine a_<|q_ 1 rfl<|d_ (E_ rfl rfl (by simp only [InR, lo, hi]; omega)) rfl rfl ?_
  refine q_ 1 rfl<|g_<|R_ (()) (trivial) (by refine ⟨rfl, rfl, ?_, trivial⟩; (rw [e9]; rfl)) (sk_ sr_)
 intro z hz
 refine c_<|c_<|a_<|q_ 3 rfl<|d_ (h_ tabOk rfl rfl r1_ List.not_mem_nil rfl) rfl rfl<|d_ (cJ_ (m := vs.length) rfl r2_ Tryz.underlying155 (List.length_map _)) rfl rfl<|q_ 1 rfl<|g_<|b_<|w_ ?_
 have hvn := hok.len
 have hn7 := hok.n7
 refine S_ (ι := Nat × Unit) (fun z => [.blk b3 203 x.abs, .rd bp 157 [int (n : Nat), int (me : Nat), mapV bm, .v vv], .rdpc (ownPc 199 1 vv (vs.map fun l => [pntsA l])), .rdpc (tmPc bm intK intOk Ow.enc om)]) (fun z => [(0, ptr bp), (3, ptr b3), (5, int (((if ownHas om x then 1 else 0) + ((vs.take z.1).filter fun l => decide (x ∈ l)).length) : Nat)), (35, .v vv), (36, int (vs.length : Nat)), (37, int (z.1 : Nat))]) (fun z => z.1 ≤ vs.length ∧ ((if ownHas om x then 1 else 0) + ((vs.take z.1).filter fun l => decide (x ∈ l)).length) ≤ z.1 + 1) (fun z => vs.length - z.1) (0, ()) (⟨Nat.zero_le _, by simp only [List.take_zero, List.filter_nil, List.length_nil]; split <;> omega⟩) (by exact ⟨rfl, rfl, rfl, rfl, rfl, rfl, trivial⟩) sr_ ?_
 intro z hz
 refine c_<|a_<|q_ 1 rfl<|g_<|b_<|c_<|n_ rfl ?_ ?_
 rotate_left
 ·intro hc38
  have hta : vs.take z.1 = vs := List.take_of_length_le (by omega)
  refine O_<|k_ nofun<|k_ nofun<|N_<|b_<|c_<|a_<|q_ 2 rfl<|g_<|b_<|o_<|f_ (rs := [.tmp 4]) rfl (RV.tmp rfl RV.nil) (()) sn_ ?_
  rw [hta] at *
  exact rfl
 intro hc38
 have hlt : z.1 < vs.length := by omega
 obtain ⟨l, hvl⟩ : ∃ l, vs[z.1]? = some l := ⟨_, List.getElem?_eq_getElem hlt⟩
 have hlm := List.mem_of_getElem? hvl
 have hl3 := hok.few l hlm
 refine s_<|b_<|c_<|w_<|c_<|a_<|d_ (aP_ (q := z.1) tabOk Tryz.underlying155 rfl rfl r2_ rfl rfl (by rw [List.length_map]; exact hlt) rfl rfl) rfl rfl ?_
 refine d_ (i_ (C := pntsA l) (dD_ (q := z.1) (s := 1) (cs := [pntsA l]) tabOk rfl rfl r2_ rfl (by rw [List.getElem?_map, hvl]; rfl) rfl) rfl) rfl rfl ?_
 refine q_ 1 rfl<|g_<|b_<|c_<|a_<|q_ 1 rfl<|d_ (i_ (C := .agg x.abs) (y_ tabOk rfl rfl rfl l0_ List.not_mem_nil (Pnt.size _)) rfl) rfl rfl<|m_ (gB_ (l := l) hx (hok.ins l hlm) (by omega)) Casts.refl (by kernel_rfl) rfl rfl rfl ?_
 refine ap_<|fun _=>g_<|b_<|n_ rfl ?_ ?_
 rotate_left
 ·intro hc43
  refine s_<|A_<|b_<|a_<|d_ (E_ rfl rfl (by simp only [InR, lo, hi]; omega)) rfl rfl ?_
  refine q_ 1 rfl<|g_<|J_ (z.1 + 1, ()) (by omega) (⟨by dsimp only; omega, by have h := hz.2; dsimp only; rw [dJ_ hvl]; have h3 : (if x ∈ l then 1 else 0) ≤ 1 := (by split <;> omega); omega⟩) (by refine ⟨rfl, rfl, ?_, rfl, rfl, rfl, trivial⟩; dsimp only; rw [dJ_ hvl, if_neg hc43]; rfl) sr_
 intro hc43
 refine a_<|q_ 1 rfl<|d_ (i_ (C := int (((if ownHas om x then 1 else 0) + ((vs.take (z.1 + 1)).filter fun l => decide (x ∈ l)).length) : Nat)) (E_ rfl rfl (by simp only [InR, lo, hi]; omega)) (congrArg int (by rw [dJ_ hvl, if_pos hc43]; omega))) rfl rfl ?_
 refine q_ 1 rfl<|g_<|A_<|b_<|a_<|d_ (E_ rfl rfl (by simp only [InR, lo, hi]; omega)) rfl rfl ?_
 refine q_ 1 rfl<|g_<|J_ (z.1 + 1, ()) (by omega) (⟨by dsimp only; omega, by have h := hz.2; dsimp only; rw [dJ_ hvl]; have h3 : (if x ∈ l then 1 else 0) ≤ 1 := (by split <;> omega); omega⟩) (by exact ⟨rfl, rfl, rfl, rfl, rfl, rfl, trivial⟩) sr_
theorem id_  : Spec Tryz.prog 267 [pntsA l] [] (fun b : Nat => [.blk b 199 [pntsA l]]) (fun b => .fn (.func 335) [] [ptr b]) := by
 refine t_ Tryz.func267 rfl Tryz.ntmps267 rfl fun G w =>c_<|a_<|eb_ (a3_ rfl rfl) rfl rfl fun b1=>?_
 exact q_ 1 rfl<|g_<|b_<|c_<|a_<|d_ (ag_ rfl rfl) rfl rfl<|q_ 1 rfl<|g_<|b_<|o_<|f_ (rs := [.tmp 2]) rfl (RV.tmp rfl RV.nil) (b1) sr_<|rfl
end
end Go.Proofs.YtjclgkddfjbdiaaGreatDoor.A
