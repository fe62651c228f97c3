/-
  Packed out of the texts: AN15, AN16, AN17, AN18, AN19, AD3, A34, AN20, AN21, AN22.
-/
import Derived.Test.YtjclgkddfjbdiaaGreatDoorR09
import Derived.Sort.OwnSortedInts
set_option maxRecDepth 100000
set_option linter.unusedSimpArgs false
set_option linter.unusedVariables false
namespace Go.Proofs.YtjclgkddfjbdiaaGreatDoor.A
open Go.RowKit
def voZ : List Abs := [int 0, int 0] ++ List.replicate 32 (.v (.int .u8 0)) ++ [.v (.int .u32 0)]
abbrev Vo35 := {l : List Abs // l.length = 35}
section
variable {p bd bt N me : Nat} {R : RI} {c : Core} {dr st x : Int} {o : Abs} {l : List UInt8} {v : Value} {t d : Tg} {mk : Wo} {k b3 b6 : Nat}
set_option maxHeartbeats 1000000 in
theorem wvb_s  : Spec Tryz.prog 80 [.agg (voL st t mk)] [] (fun _ : {l : List UInt8 // l.length ≤ 200} => []) (fun l => byt l.1) := by
 have hL : lots = 100000000000 := rfl
 have hmk := mk.isLt
 refine t_ Tryz.func80 rfl Tryz.ntmps80 rfl fun G w =>c_<|a_<|eb_ (B_ (cs := voL st t mk) rfl) rfl rfl fun b1=>?_
 refine q_ 1 rfl<|d_<|b_<|c_<|ce_ [] 1 rfl rfl<|Q_ [] (.q 0 (.q 1 (.q 2 (.q 4 (.q 5 (.q 8 (.q 9 (.two 3 6 (.e 6 (.e 7 (.e 10 (.e 11 .nil)))) (.e 3 (.e 7 (.e 10 (.e 11 .nil)))))))))))) (by kernel_rfl) (by kernel_rfl) ?_
 refine sxvA rfl (X_ tabOk rfl rfl rfl rfl rfl) (by simp) ?_
 refine hx_ fun hx9 =>sxvA rfl (h_ (C := int 4) (aa_ tabOk rfl rfl rfl) rfl) hx9<|sxvA rfl (h_ (C := wrd 4) (R_ rfl Tryz.underlying27 (by kernel_rfl) (by simp only [InR, lo, hi]; omega)) rfl) hx9 ?_
 refine sxvA rfl (X_ tabOk rfl rfl rfl rfl rfl) (by simp) ?_
 refine sxvA rfl (h_ (C := int st) (aa_ tabOk rfl rfl rfl) rfl) hx9<|sxvA rfl (X_ tabOk rfl rfl rfl rfl rfl) (by simp) ?_
 refine sxvA rfl (bl_ tabOk Tryz.underlying121 rfl rfl rfl rfl (vo_row _ _ _) (by rw [List.length_drop, bf_]; omega)) hx9 ?_
 refine aV_ ?_ ?_
 ·skip
  refine bd_ rfl (dv_ (l := []) (x := 4) (n := 1) (by simp [hL]) (by omega) rfl) (by simp [mids, It.mids]) (Casts.cons (fun _ _ _ h => b3_ h) Casts.refl) (by kernel_rfl) rfl rfl rfl ?_
  refine aftM ?_
  intro r7
  refine ex_ rfl (G_ tabOk Tryz.underlying282 rfl rfl rfl rfl rfl rfl rfl) (by simp) rfl rfl ?_
  refine bd_ rfl (j1_ (v := r7) (x := st) (l := [] ++ beBytes 4 (1 : Int).toNat) (by simp only [List.length_append, v_, List.length_nil]; decide)) (by intro k hk; exact List.mem_append_left _ hk) Casts.refl (by kernel_rfl) rfl rfl rfl ?_
  refine W_ [] (β := _) rfl (J_ rfl) ?_
  intro z11
  refine gb_ [own 5 1 z11.1.1 (bysW z11.1.2)] (mids [own 5 1 r7 (bysW ([] ++ beBytes 4 (1 : Int).toNat))] ++ []) rfl rfl (K_ (zs := bysW (z11.1.2 ++ t.d)) tabOk [] (cY_ _ _) Tryz.underlying39 rfl rfl rfl rfl rfl rfl (bI_ _) (by unfold maxLen; simp only [bysW, List.length_map]; rw [t.len]; have := z11.2; omega) (by rw [show Tryz.prog.bytesOf 5 = 1 by kernel_rfl]; simp only [bysW, List.length_map]; rw [t.len]; have := z11.2; omega)) rfl (by intro k hk; refine List.mem_append_left _ ?_; simpa [mids, It.mids, ownPc] using hk) rfl rfl ?_
  rintro _ _ ⟨r14, rfl, rfl⟩
  refine ⟨[own 5 1 r14 (bysW (z11.1.2 ++ t.d))], rfl, bn_ rfl (n_ rfl) rfl rfl<|F_<|b_<|c_<|aC_ [] (t := 3) rfl rfl<|a_<|q_ 1 rfl<|slvA (X_ tabOk rfl rfl rfl rfl rfl)<|slvA (h_ (C := u32 mk) (aa_ tabOk rfl rfl (by rw [List.getElem?_drop]; exact hp_ _ _ _)) rfl) ?_⟩
  refine slvA (h_ (C := wrd mk.toNat) (R_ rfl Tryz.underlying27 (by kernel_rfl) (by simp only [InR, lo, hi]; omega)) rfl) ?_
  refine slcA (fa_ (l := z11.1.2 ++ t.d) (x := mk.toNat) (n := 1) (by rw [List.length_append, t.len]; have := z11.2; omega) (by omega) rfl) ?_
  refine ap_<|fun _=>q_ 1 rfl<|d_<|b_<|k_<|f_ (rs := [.tmp 2]) rfl (RV.tmp rfl RV.nil) (⟨z11.1.2 ++ t.d ++ beBytes mk.toNat (1 : Int).toNat, by rw [List.length_append, List.length_append, v_, t.len]; have := z11.2; show z11.1.2.length + 32 + 1 ≤ 200; omega⟩) sn_ ?_
  exact rfl
 skip
 refine ex_ rfl (G_ tabOk Tryz.underlying282 rfl rfl rfl rfl rfl rfl rfl) (by simp) rfl rfl ?_
 refine bd_ rfl (dv_ (l := []) (x := 4) (n := 1) (by simp [hL]) (by omega) rfl) (by simp [mids, It.mids]) (Casts.cons (fun _ _ _ h => b3_ h) Casts.refl) (by kernel_rfl) rfl rfl rfl ?_
 refine aftM ?_
 intro r7
 refine bd_ rfl (j1_ (v := r7) (x := st) (l := [] ++ beBytes 4 (1 : Int).toNat) (by simp only [List.length_append, v_, List.length_nil]; decide)) (by intro k hk; exact List.mem_append_left _ hk) Casts.refl (by kernel_rfl) rfl rfl rfl ?_
 refine W_ [] (β := _) rfl (J_ rfl) ?_
 intro z11
 refine gb_ [own 5 1 z11.1.1 (bysW z11.1.2)] (mids [own 5 1 r7 (bysW ([] ++ beBytes 4 (1 : Int).toNat))] ++ []) rfl rfl (K_ (zs := bysW (z11.1.2 ++ t.d)) tabOk [] (cY_ _ _) Tryz.underlying39 rfl rfl rfl rfl rfl rfl (bI_ _) (by unfold maxLen; simp only [bysW, List.length_map]; rw [t.len]; have := z11.2; omega) (by rw [show Tryz.prog.bytesOf 5 = 1 by kernel_rfl]; simp only [bysW, List.length_map]; rw [t.len]; have := z11.2; omega)) rfl (by intro k hk; refine List.mem_append_left _ ?_; simpa [mids, It.mids, ownPc] using hk) rfl rfl ?_
 rintro _ _ ⟨r14, rfl, rfl⟩
 refine ⟨[own 5 1 r14 (bysW (z11.1.2 ++ t.d))], rfl, bn_ rfl (n_ rfl) rfl rfl<|F_<|b_<|c_<|aC_ [] (t := 3) rfl rfl<|a_<|q_ 1 rfl<|slvA (X_ tabOk rfl rfl rfl rfl rfl)<|slvA (h_ (C := u32 mk) (aa_ tabOk rfl rfl (by rw [List.getElem?_drop]; exact hp_ _ _ _)) rfl) ?_⟩
 refine slvA (h_ (C := wrd mk.toNat) (R_ rfl Tryz.underlying27 (by kernel_rfl) (by simp only [InR, lo, hi]; omega)) rfl) ?_
 refine slcA (fa_ (l := z11.1.2 ++ t.d) (x := mk.toNat) (n := 1) (by rw [List.length_append, t.len]; have := z11.2; omega) (by omega) rfl) ?_
 refine ap_<|fun _=>q_ 1 rfl<|d_<|b_<|k_<|f_ (rs := [.tmp 2]) rfl (RV.tmp rfl RV.nil) (⟨z11.1.2 ++ t.d ++ beBytes mk.toNat (1 : Int).toNat, by rw [List.length_append, List.length_append, v_, t.len]; have := z11.2; show z11.1.2.length + 32 + 1 ≤ 200; omega⟩) sn_ ?_
 exact rfl
theorem row1_s  : Spec Tryz.prog 387 [.agg (voL st t mk), ptr b3, ptr b6] [.rd b3 26 (c.cells.map .v), .rd b6 121 d.abs] (fun _ : Unit => []) (fun _ => boo (decide (st = c.stamp) && decide (t.d = d.d))) := by
 refine t_ Tryz.func387 rfl Tryz.ntmps387 rfl fun G w =>c_<|a_<|eb_ (B_ (cs := voL st t mk) rfl) rfl rfl fun b3=>?_
 refine q_ 1 rfl<|d_<|b_<|c_<|a_<|q_ 1 rfl<|slvA (h_ (C := int st) (g_ tabOk rfl rfl l0_ List.not_mem_nil rfl) rfl)<|q_ 1 rfl<|slvA (h_ (C := int c.stamp) (g_ tabOk rfl rfl r1_ List.not_mem_nil rfl) rfl)<|q_ 2 rfl<|A_ (t := 10) rfl ?_ ?_
 ·intro hc10
  refine q_ 1 rfl<|slvA (h_ (C := .agg t.abs) (ad_ tabOk rfl rfl rfl l0_ List.not_mem_nil (by rw [bf_]; exact Nat.le_of_ble_eq_true rfl)) (congrArg Abs.agg (jZ_ _ _ _))) ?_
  refine slvA (h_ (C := .agg d.abs) (r_ tabOk rfl rfl rfl r2_ List.not_mem_nil (Tg.size _)) rfl)<|slvA (e7_ rfl rfl (bp_ _) (bp_ _) (by kernel_rfl) (eqlB Tryz.underlying121 (by kernel_rfl) (by kernel_rfl) _ _ t.len d.len _ rfl)) ?_
  refine q_ 2 rfl<|d_<|b_<|k_<|f_ (rs := [.tmp 4]) rfl (RV.tmp rfl RV.nil) (()) sn_<|congrArg (fun b => Abs.v (Value.bool b)) ?_
  simp_all
 intro hc10
 refine q_ 6 rfl<|d_<|b_<|k_<|f_ (rs := [.tmp 4]) rfl (RV.tmp rfl RV.nil) (()) sn_<|congrArg (fun b => Abs.v (Value.bool b)) ?_
 simp_all
theorem kO_ {xs : List Vo35} {p : Vo35 → Bool} {k : Nat} {caps : List Abs} {σ : Blks} (hb : goesIn Tryz.prog k = true) (hr : Rds σ) (hn : xs.length < 9223372036854775807) (h : ∀ x ∈ xs, Spec Tryz.prog k (.agg (Subtype.val x) :: caps) σ (fun _ : Unit => []) (fun _ => boo (p x))) : Spec Tryz.prog 386 [.sl 35 (xs.map Subtype.val), .fn (.func k) [] caps] σ (fun _ : {r : Int // IdxOf p xs r} => []) (fun z => int z.1) := by
 refine t_ Tryz.func386 rfl Tryz.ntmps386 rfl fun G w =>c_<|a_<|q_ 1 rfl<|d_<|b_<|c_<|c_<|a_<|q_ 1 rfl<|slvA (H_ rfl Tryz.underlying257 (List.length_map _))<|q_ 1 rfl<|d_<|b_<|u_<|P_ (ι := Nat) (fun z => σ) (fun z => [(0, .sl 35 (xs.map Subtype.val)), (1, .fn (.func k) [] caps), (7, int (xs.length : Nat)), (8, int (z : Nat))]) (fun z => z ≤ xs.length ∧ ∀ j (hj : j < xs.length), j < z → p xs[j] = false) (fun z => xs.length - z) (0) (⟨Nat.zero_le _, by omega⟩) (by exact ⟨rfl, rfl, rfl, rfl, trivial⟩) sr_ ?_
 intro z hz
 refine c_<|a_<|q_ 1 rfl<|d_<|b_<|c_<|l_ rfl ?_ ?_
 rotate_left
 ·intro hc9
  refine N_<|j_ nofun<|j_ nofun<|M_<|b_<|c_<|a_<|q_ 1 rfl<|d_<|b_<|k_<|f_ (rs := [.tmp 4]) rfl (RV.tmp rfl RV.nil) (⟨-1, .inl ⟨rfl, fun x hx => by obtain ⟨j, hj, rfl⟩ := List.getElem_of_mem hx; exact hz.2 j hj (by omega)⟩⟩) sn_ ?_
  exact rfl
 intro hc9
 have hlt : z < xs.length := by omega
 refine o_<|b_<|c_<|u_<|c_<|a_<|q_ 2 rfl<|d_<|b_<|c_<|a_<|q_ 3 rfl<|slvA (L_ tabOk Tryz.underlying257 rfl rfl rfl rfl (a8_ (by omega)) rfl rfl) ?_
 refine slvA (av_ tabOk rfl rfl rfl (xs[z]'hlt).2)<|bX_ (h _ (List.getElem_mem hlt)) rfl Casts.refl hb rfl rfl rfl<|c1_ (Rds.reads hr (fun x hx => by repeat (first | exact hx | apply List.mem_cons_of_mem))) (fun _ => rfl) ?_
 intro _
 refine d_<|b_<|ar_ rfl ?_ ?_
 rotate_left
 ·intro hc16
  refine o_<|w_<|b_<|a_<|slvA (y_ rfl rfl (by simp only [InR, lo, hi]; omega)) ?_
  refine q_ 1 rfl<|d_<|I_ (z + 1) (by omega) (⟨by omega, fun j hj hjz => by rcases Nat.lt_or_ge j z with h1 | h1; exact hz.2 j hj h1; obtain rfl : j = z := (by omega); exact hc16⟩) (by exact ⟨rfl, rfl, rfl, rfl, trivial⟩) sr_
 intro hc16
 refine c_<|a_<|q_ 2 rfl<|d_<|b_<|k_<|S_<|j_ nofun<|j_ nofun<|S_<|j_ nofun<|f_ (rs := [.tmp 4]) rfl (RV.tmp rfl RV.nil) (⟨(z : Nat), .inr ⟨z, hlt, rfl, hc16, fun j hj => hz.2 j (by omega) hj⟩⟩) sn_ ?_
 exact rfl
set_option maxHeartbeats 2000000 in
theorem rown_s (h1 : c.letter.size ≤ 1000) (h2 : c.text.size ≤ 1000) (hN : N ≤ 100000) (hm : me < 4) (hc : c.client = 4) : Spec Tryz.prog 344 [ptr R.r, coreA c] [wb p bd bt N, .rd R.r 118 (R.cells p me dr o), .rd R.vv 160 [int 4, mapV R.vm], .rdpc (tmPc R.vm paV paOk voE (vm1 (me : Int) st t mk))] (fun _ : Bool => [wb p bd bt (N + 1)]) (fun b => .tup [.agg (if b then voL st t mk else voZ), boo b]) := by
 refine t_ Tryz.func344 rfl Tryz.ntmps344 rfl fun G w =>c_<|a_<|eb_ (B_ (cs := c.cells.map .v) rfl) rfl rfl fun b3=>?_
 refine eb_ (C_ tabOk rfl) rfl rfl fun b4=>?_
 refine q_ 1 rfl<|d_<|b_<|c_<|a_<|q_ 1 rfl<|slvA (h_ (C := coreA c) (r_ tabOk rfl rfl rfl l1_ List.not_mem_nil rfl) rfl)<|slcA (rcd_s (p := p) (bd := bd) (bt := bt) (N := N) (me := me) (R := R) (c := c) (dr := dr) (o := o) h1 h2 hN) ?_
 refine aG_ (ys := [.rd R.r 118 (R.cells p me dr o)]) rfl i2_ (by intro y hy; rw [List.mem_singleton] at hy; subst hy; exact ⟨i3_, by intro h; cases h⟩) rfl (fun _ => rfl) ?_
 intro z11
 refine ⟨_, u2_, eb_ (C_ tabOk rfl) rfl rfl fun b6=>?_⟩
 refine e_ (m_ (L' := z11.abs) tabOk rfl rfl rfl u0_ (Tg.size _) (Nat.le_of_ble_eq_true rfl) (bO_ _) (by exact p_ (Tg.size _))) rfl rfl ?_
 refine d_<|b_<|c_<|Q_ [] (.q 0 (.q 1 (.q 2 (.q 3 (.q 4 (.q 5 (.q 6 (.q 7 (.q 8 (.q 9 (.e 10 (.q 11 .nil)))))))))))) (by kernel_rfl) (by kernel_rfl) ?_
 refine qs_ 3 rfl<|hx_ fun hx9 =>sxvA rfl (h_ (C := ptr R.vv) (g_ tabOk rfl rfl r4_ List.not_mem_nil rfl) rfl) hx9<|qs_ 3 rfl<|sxvA rfl (h_ (C := int (me : Nat)) (g_ tabOk rfl rfl r4_ List.not_mem_nil rfl) rfl) hx9<|qs_ 1 rfl<|sxvA rfl (h_ (C := int 4) (g_ tabOk rfl rfl l2_ List.not_mem_nil rfl) (congrArg int hc)) hx9<|D_ rfl (voof_s (v := R.vv) (m := R.vm) (self_ := (me : Int)) (st := st) (t := t) (mk := mk) (by omega) (by omega)) (by simp [mids, It.mids]) Casts.refl (by kernel_rfl) rfl rfl rfl ?_
 refine ap_<|fun _=>qs_ 1 rfl<|F_<|b_<|c_<|a_<|q_ 1 rfl<|slvA (V_ rfl rfl)<|slcA (kO_ (xs := [⟨voL st t mk, bf_ _ _ _⟩]) (p := fun _ => decide (st = c.stamp) && decide (t.d = z11.d)) (k := 387) (caps := [ptr b3, ptr b6]) (σ := [.rd b3 26 (c.cells.map .v), .rd b6 121 z11.abs]) (by kernel_rfl) (by intro x hx; simp only [List.mem_cons, List.not_mem_nil, or_false] at hx; rcases hx with rfl | rfl <;> exact .inl ⟨_, _, _, rfl⟩) (by simp) (fun y hy => by rw [List.mem_singleton] at hy; subst hy; exact row1_s)) ?_
 refine ap_ ?_
 intro z25
 have h25 : z25.1 < 0 ∨ z25.1 = ((0 : Nat) : Int) := by
  rcases z25.2 with ⟨h, _⟩ | ⟨i, hi, h, _⟩
  ·exact .inl (by omega)
  simp only [List.length_singleton] at hi; exact .inr (by omega)
 refine q_ 1 rfl<|d_<|b_<|c_<|c_<|a_<|q_ 2 rfl<|d_<|b_<|l_ rfl ?_ ?_
 ·intro hc27
  refine c_<|a_<|slvA (z_ tabOk rfl rfl rfl rfl)<|e_ (m_ (L' := voZ) tabOk rfl rfl rfl u1_ rfl (Nat.le_of_ble_eq_true rfl) rfl (by exact p_ rfl)) rfl rfl ?_
  refine q_ 1 rfl<|d_<|b_<|k_<|j_ nofun<|f_ (rs := [.cell 4 198, .tmp 5]) rfl (RV.cell rfl (RV.cellA tabOk rfl rfl l1_ (by rfl)) (RV.tmp rfl RV.nil)) (false) (sk_ (sk_ (sk_ (sc_ sn_)))) ?_
  exact rfl
 intro hc27
 have hq0 : z25.1 = ((0 : Nat) : Int) := by omega
 refine o_<|b_<|c_<|a_<|q_ 2 rfl<|slvA (L_ (q := 0) (xs := [voL st t mk]) tabOk Tryz.underlying257 rfl rfl rfl hq0 rfl rfl rfl)<|slvA (h_ (C := .agg (voL st t mk)) (av_ tabOk rfl rfl rfl (bf_ _ _ _)) rfl)<|e_ (m_ (L' := voL st t mk) tabOk rfl rfl rfl u1_ (bf_ _ _ _) (Nat.le_of_ble_eq_true rfl) (cg_ _ _ _) (by exact p_ (bf_ _ _ _))) rfl rfl ?_
 exact q_ 1 rfl<|d_<|b_<|k_<|f_ (rs := [.cell 4 198, .tmp 5]) rfl (RV.cell rfl (RV.cellA tabOk rfl rfl l1_ (bf_ _ _ _)) (RV.tmp rfl RV.nil)) (true) (sk_ (sk_ (sk_ (sc_ sn_))))<|rfl
end
def ParOk (n : Nat) (rows : List (List Abs)) : Prop := rows.length ≤ n ∧ ∀ r ∈ rows, r.length = 5 ∧ ones r = true
abbrev ParR (n : Nat) := {z : Value × List (List Abs) // ParOk n z.2}
theorem jT_ {b : Bool} {st : Int} {t : Tg} {mk : Wo} : (if b = true then voL st t mk else voZ).length = 35 := by
  split
  · exact bf_ _ _ _
  · rfl
theorem vz_ones {b : Bool} {st : Int} {t : Tg} {mk : Wo} : ones (if b = true then voL st t mk else voZ) = true := by
  split
  · exact cg_ _ _ _
  · rfl
noncomputable def zco : Value := .agg co0.cells.toArray
theorem hh_ (w : World) : (zeroValue 26).run Tryz.prog w = .ok zco w := by kernel_rfl
theorem hi_ (K : List Nat) (w : World) : rep K w (coE co0) zco := ⟨_, rfl, ai_.2 rfl⟩
section
variable {p bd bt N me : Nat} {R : RI} {c : Core} {dr st x : Int} {o : Abs} {l : List UInt8} {v : Value} {t d : Tg} {mk : Wo} {k : Int}
set_option maxHeartbeats 2000000 in
theorem rsay_s (hl : l.length ≤ 1000) (hm : me < 4) (hN : N ≤ 100000) : Spec Tryz.prog 120 [ptr R.r, int k, byt l] [.blk R.r 118 (R.cells p me dr (.v (.slice none 0 0))), wb p bd bt N] (fun z : ParR 4 => [own 141 5 z.1.1 z.1.2, .blk R.r 118 (R.cells p me dr (.v z.1.1)), wb p bd bt (N + 4)]) (fun _ => .tup []) := by
 refine t_ Tryz.func120 rfl Tryz.ntmps120 rfl fun G w =>bL_ (ι := Nat × {ts : List Tg // ts.length = (allN 4).length}) (fun y => [.blk y.1 42 (Msg.mk k (me : Nat) l y.2.1).abs, .blk R.r 118 (R.cells p me dr (.v (.slice none 0 0))), wb p bd bt (N + 4)]) (fun y => [(0, ptr R.r), (6, ptr y.1)]) (fun y => True) ?_ ?_
 ·skip
  refine ao_ (p := R.r ∉ [p, bd, bt]) (fun _ _ h => by
    have h1 := h.mem.nodup
    simp [mids, It.mids, ownPc, mapPc, tmPc, wbP, exP] at h1 ⊢
    grind) fun hB => ?_
  refine as_ [p, bd, bt] (.q 0 (.q 1 (.q 2 (.q 3 (.q 4 (.q 5 (.q 6 (.q 7 (.q 8 (.q 9 (.q 10 (.q 11 (.q 12 (.q 13 (.two 14 16 (.two 15 16 (.e 16 .nil) (.e 15 .nil)) (.e 14 (.e 15 .nil))))))))))))))))) (by kernel_rfl) (by kernel_rfl) ?_
  refine hxA fun hx9 => ?_
  refine qx_ 3 hx9 rfl<|sxvA rfl (h_ (C := bkI p) (g_ tabOk rfl rfl l0_ hB rfl) rfl) hx9<|qx_ 4 hx9 rfl<|sxvA rfl (h_ (C := int (me : Nat)) (g_ tabOk rfl rfl l0_ hB rfl) rfl) hx9<|qx_ 4 hx9 rfl<|sxvA rfl (h_ (C := int 4) (g_ tabOk rfl rfl l0_ hB rfl) rfl) hx9<|aV_ ?_ ?_
  ·skip
   refine D_ rfl (lg_ (n := 4)) (by simp [mids, It.mids]) Casts.refl (by kernel_rfl) rfl rfl rfl ?_
   refine ap_<|fun _=>aV_ ?_ ?_
   ·skip
    refine D_ rfl (fG_ (p := p) (bd := bd) (bt := bt) (N := N) (k := k) (f := (me : Int)) (body := l) (to := allN 4) (by omega) (by omega) (by decide) (by unfold i64r; omega) (by intro w hw; rw [alN4] at hw; simp at hw; unfold i64r; omega)) (by simp [mids, It.mids, wbP, exP]) Casts.refl (by kernel_rfl) rfl rfl rfl ?_
    refine x_ rfl i1_ (fun _ => rfl)<|fun z23=>⟨_, u1_, exb_ rfl (C_ tabOk rfl) (by simp) rfl rfl fun b6=>?_⟩
    refine F_<|aq_ rfl (m_ (L' := (Msg.mk k (me : Nat) l z23.1).abs) tabOk rfl rfl rfl u0_ rfl (lb_ (by rfl)) rfl (by exact p_ rfl)) rfl rfl ?_
    rintro _ _ ⟨rfl, rfl⟩
    refine aw_ (b6, z23) (trivial) (by exact ⟨rfl, rfl, trivial⟩) sr_
   skip
   refine exb_ rfl (C_ tabOk rfl) (by simp) rfl rfl fun b6=>?_
   refine D_ rfl (fG_ (p := p) (bd := bd) (bt := bt) (N := N) (k := k) (f := (me : Int)) (body := l) (to := allN 4) (by omega) (by omega) (by decide) (by unfold i64r; omega) (by intro w hw; rw [alN4] at hw; simp at hw; unfold i64r; omega)) (by simp [mids, It.mids, wbP, exP]) Casts.refl (by kernel_rfl) rfl rfl rfl ?_
   refine x_ rfl i2_ (fun _ => rfl)<|fun z23=>⟨_, u2_, F_<|aq_ rfl (m_ (L' := (Msg.mk k (me : Nat) l z23.1).abs) tabOk rfl rfl rfl u0_ rfl (lb_ (by rfl)) rfl (by exact p_ rfl)) rfl rfl ?_⟩
   rintro _ _ ⟨rfl, rfl⟩
   refine aw_ (b6, z23) (trivial) (by exact ⟨rfl, rfl, trivial⟩) sr_
  skip
  refine exb_ rfl (C_ tabOk rfl) (by simp) rfl rfl fun b6=>?_
  refine D_ rfl (lg_ (n := 4)) (by simp [mids, It.mids]) Casts.refl (by kernel_rfl) rfl rfl rfl ?_
  refine ap_<|fun _=>D_ rfl (fG_ (p := p) (bd := bd) (bt := bt) (N := N) (k := k) (f := (me : Int)) (body := l) (to := allN 4) (by omega) (by omega) (by decide) (by unfold i64r; omega) (by intro w hw; rw [alN4] at hw; simp at hw; unfold i64r; omega)) (by simp [mids, It.mids, wbP, exP]) Casts.refl (by kernel_rfl) rfl rfl rfl ?_
  refine x_ rfl i2_ (fun _ => rfl)<|fun z23=>⟨_, u2_, F_<|aq_ rfl (m_ (L' := (Msg.mk k (me : Nat) l z23.1).abs) tabOk rfl rfl rfl u0_ rfl (lb_ (by rfl)) rfl (by exact p_ rfl)) rfl rfl ?_⟩
  rintro _ _ ⟨rfl, rfl⟩
  refine aw_ (b6, z23) (trivial) (by exact ⟨rfl, rfl, trivial⟩) sr_
 intro y hy
 obtain ⟨b6, z23⟩ := y
 dsimp only
 refine c_<|a_<|q_ 3 rfl<|slvA (h_ (C := int 4) (g_ tabOk rfl rfl l1_ List.not_mem_nil rfl) rfl)<|q_ 1 rfl<|d_<|b_<|u_<|aF_ 141 5<|P_ (ι := Nat × Value × List (List Abs)) (fun z => [own 141 5 z.2.1 z.2.2, .blk b6 42 (Msg.mk k (me : Nat) l z23.1).abs, .blk R.r 118 (R.cells p me dr (.v z.2.1)), wb p bd bt (N + 4)]) (fun z => [(0, ptr R.r), (6, ptr b6), (27, int 4), (28, int (z.1 : Nat))]) (fun z => z.1 ≤ 4 ∧ ParOk z.1 z.2.2) (fun z => 4 - z.1) (0, .slice none 0 0, []) (⟨Nat.zero_le _, Nat.zero_le _, fun r h => by cases h⟩) (by exact ⟨rfl, rfl, rfl, rfl, trivial⟩) sr_ ?_
 intro z hz
 refine c_<|a_<|q_ 1 rfl<|d_<|b_<|c_<|l_ rfl ?_ ?_
 rotate_left
 ·intro hc29
  refine N_<|j_ nofun<|j_ nofun<|M_<|b6_ (rs := []) rfl RV.nil (⟨(z.2.1, z.2.2), by have := hz.2.1; dsimp only; omega, hz.2.2⟩) (sc_ (sk_ sr_)) (by simp [It.rids]) ?_
  exact rfl
 intro hc29
 have hz4 : z.1 < 4 := by omega
 have hzr := hz.2.1
 refine o_<|b_<|c_<|u_<|c_<|a_<|q_ 2 rfl<|d_<|b_<|c_<|a_<|q_ 4 rfl<|slvA (h_ (C := int (me : Nat)) (g_ tabOk rfl rfl l2_ List.not_mem_nil rfl) rfl)<|q_ 1 rfl<|d_<|b_<|l_ rfl ?_ ?_
 rotate_left
 ·intro hc36
  refine o_<|w_<|b_<|a_<|slvA (y_ rfl rfl (by simp only [InR, lo, hi]; omega)) ?_
  refine q_ 1 rfl<|d_<|I_ (z.1 + 1, z.2.1, z.2.2) (by omega) ((⟨by dsimp only; omega, by dsimp only; have := hz.2.1; omega, hz.2.2⟩)) (by exact ⟨rfl, rfl, rfl, rfl, trivial⟩) sr_
 intro hc36
 refine hc_ fun hnod => ?_
 have hbx : b6 ∉ mids [own 141 5 z.2.1 z.2.2] ++ [] ∧ R.r ∉ mids [own 141 5 z.2.1 z.2.2] ++ [] := by
  have h9 : (z.2.1.ownBlock.toList ++ (b6 :: R.r :: [p, bd, bt])).Nodup := hnod
  have h8 := (List.nodup_append.1 h9).2.2
  exact ⟨fun hm => h8 b6 (by simpa [mids, It.mids, ownPc] using hm) b6 (by simp) rfl, fun hm => h8 R.r (by simpa [mids, It.mids, ownPc] using hm) R.r (by simp) rfl⟩
 refine as_ (mids [own 141 5 z.2.1 z.2.2] ++ []) (.q 0 (.q 1 (.q 2 (.q 3 (.q 4 (.q 5 (.q 6 (.q 7 (.e 8 (.e 9 (.q 10 (.q 11 .nil)))))))))))) (by kernel_rfl) (by kernel_rfl) ?_
 refine hx_ fun hx9 =>qx_ 4 hx9 rfl<|sxvA rfl (h_ (C := .v z.2.1) (g_ tabOk rfl rfl l2_ (by exact hbx.2) rfl) rfl) hx9 ?_
 refine qx_ 1 hx9 rfl<|sxvA rfl (h_ (C := .agg (Msg.mk k (me : Nat) l z23.1).abs) (r_ tabOk rfl rfl rfl l1_ (by exact hbx.1) rfl) rfl) hx9 ?_
 refine sxvA rfl (h_ (C := .agg (int (z.1 : Nat) :: (Msg.mk k (me : Nat) l z23.1).abs)) (z_ tabOk rfl rfl rfl rfl) rfl) hx9<|ex_ rfl (G_ tabOk Tryz.underlying116 rfl rfl rfl (ah_ rfl) rfl rfl rfl) (by simp) rfl rfl ?_
 refine cs_ [own 141 5 z.2.1 z.2.2] [] rfl (K_ (zs := z.2.2 ++ [int (z.1 : Nat) :: (Msg.mk k (me : Nat) l z23.1).abs]) tabOk [] rfl Tryz.underlying116 rfl rfl rfl rfl rfl rfl (by intro c hc; rw [List.mem_singleton] at hc; subst hc; rfl) (by unfold maxLen; simp only [List.length_cons, List.length_nil]; omega) (by rw [show Tryz.prog.bytesOf 141 = 72 by kernel_rfl]; simp only [List.length_cons, List.length_nil]; omega)) rfl (by intro k hk; simp [mids, It.mids, ownPc] at hk ⊢; simp [hk]) rfl rfl ?_
 rintro _ _ ⟨r46, rfl, rfl⟩
 refine ⟨[own 141 5 r46 (z.2.2 ++ [int (z.1 : Nat) :: (Msg.mk k (me : Nat) l z23.1).abs])], rfl, hx_ fun hx9 =>qx_ 2 hx9 rfl<|F_<|aq_ rfl (az_ (L' := R.cells p me dr (.v r46)) tabOk rfl rfl rfl rfl i0_ u2_ rfl (by rfl)) rfl rfl ?_⟩
 rintro _ _ ⟨rfl, rfl⟩
 refine w_<|b_<|a_<|slvA (y_ rfl rfl (by simp only [InR, lo, hi]; omega)) ?_
 refine q_ 1 rfl<|d_<|I_ (z.1 + 1, r46, z.2.2 ++ [int (z.1 : Nat) :: (Msg.mk k (me : Nat) l z23.1).abs]) (by omega) ((⟨by dsimp only; omega, by dsimp only; rw [List.length_append, List.length_singleton]; have := hz.2.1; omega, by intro r hr; rcases List.mem_append.1 hr with hr | hr; exact hz.2.2 r hr; rw [List.mem_singleton] at hr; subst hr; exact ⟨rfl, rfl⟩⟩)) (by exact ⟨rfl, rfl, rfl, rfl, trivial⟩) sr_
set_option maxHeartbeats 2000000 in
theorem km_ (h1 : c.letter.size ≤ 1000) (h2 : c.text.size ≤ 1000) (hN : N ≤ 90000) (hm : me < 4) (hc : c.client = 4) : Spec Tryz.prog 274 [ptr R.r, coreA c] [.blk R.r 118 (R.cells p me dr (.v (.slice none 0 0))), wb p bd bt N, .rd R.vv 160 [int 4, mapV R.vm], .rdpc (tmPc R.vm paV paOk voE (vm1 (me : Int) st t mk))] (fun z : ParR 4 => [own 141 5 z.1.1 z.1.2, .blk R.r 118 (R.cells p me dr (.v z.1.1)), wb p bd bt (N + 5)]) (fun _ => .tup []) := by
 refine t_ Tryz.func274 rfl Tryz.ntmps274 rfl fun G w =>c_<|a_<|eb_ (B_ (cs := c.cells.map .v) rfl) rfl rfl fun b3=>?_
 refine d_<|b_<|c_<|a_<|q_ 1 rfl<|slvA (h_ (C := coreA c) (r_ tabOk rfl rfl rfl l0_ List.not_mem_nil rfl) rfl)<|slcA (rown_s (p := p) (bd := bd) (bt := bt) (N := N) (me := me) (R := R) (c := c) (dr := dr) (o := .v (.slice none 0 0)) (st := st) (t := t) (mk := mk) h1 h2 (by omega) hm hc) ?_
 refine aG_ (ys := [.blk R.r 118 (R.cells p me dr (.v (.slice none 0 0))), .rd R.vv 160 [int 4, mapV R.vm], .rdpc (tmPc R.vm paV paOk voE (vm1 (me : Int) st t mk))]) rfl i2_ (by intro y hy; simp only [List.mem_cons, List.not_mem_nil, or_false] at hy; rcases hy with rfl | rfl | rfl <;> exact ⟨(by repeat first|assumption|exact m0_|apply m1_), by intro h; cases h⟩) rfl (fun _ => rfl) ?_
 intro z9
 refine ⟨_, u2_, q_ 3 rfl<|eb_ (C_ tabOk rfl) rfl rfl fun b4=>?_⟩
 refine e_ (m_ (L' := (if z9 = true then voL st t mk else voZ)) tabOk rfl rfl rfl u0_ jT_ (Nat.le_of_ble_eq_true rfl) vz_ones (by exact p_ jT_)) rfl rfl ?_
 refine q_ 1 rfl<|d_<|b_<|c_<|a_<|q_ 1 rfl<|d_<|b_<|ar_ rfl ?_ ?_
 rotate_left
 ·intro hc12
  refine aF_ 141 5<|ct_ [_, _, _, _] (Re.wbUp (M := N + 5) (by omega)) rfl ?_
  refine o_<|b6_ (rs := []) rfl RV.nil (⟨(.slice none 0 0, []), Nat.zero_le _, fun r h => by cases h⟩) (sc_ (sk_ (sk_ (sc_ (sc_ sn_))))) (by simp [It.rids]) ?_
  exact rfl
 intro hc12
 refine a_<|q_ 1 rfl<|slvA (h_ (C := .agg (voL st t mk)) (r_ tabOk rfl rfl rfl l0_ List.not_mem_nil jT_) (congrArg Abs.agg (if_pos hc12)))<|slcA (wvb_s (st := st) (t := t) (mk := mk)) ?_
 refine ap_<|fun z15=>slcA (rsay_s (p := p) (bd := bd) (bt := bt) (N := N + 1) (me := me) (R := R) (dr := dr) (k := 2) (l := z15.1) (by have := z15.2; omega) hm (by omega)) ?_
 refine W_ [_, _] (β := [_, _]) rfl (J_ rfl) ?_
 intro z16
 refine d_<|b6_ (rs := []) rfl RV.nil (z16) (sk_ (sk_ (sc_ (sc_ (sc_ sn_))))) (by simp [It.rids]) ?_
 exact rfl
theorem rawait_s (hc : c.client = 4) : Spec Tryz.prog 271 [ptr R.r, coreA c] [.pc (tmPc R.pd intK intOk coE []), .rd R.r 118 (R.cells p me dr o)] (fun _ : Unit => [.pc (tmPc R.pd intK intOk coE [(4, c)])]) (fun _ => int 0) := by
 refine t_ Tryz.func271 rfl Tryz.ntmps271 rfl fun G w =>c_<|a_<|eb_ (B_ (cs := c.cells.map .v) rfl) rfl rfl fun b3=>?_
 refine q_ 1 rfl<|d_<|b_<|c_<|Q_ [] (.q 0 (.q 1 (.q 2 (.q 3 (.q 4 (.q 5 (.q 6 (.q 7 (.q 8 (.q 9 (.e 10 (.e 11 (.q 12 .nil))))))))))))) (by kernel_rfl) (by kernel_rfl) ?_
 refine qs_ 3 rfl<|hxA fun hx9 => ?_
 refine sxvA rfl (h_ (C := mapV R.pd) (g_ tabOk rfl rfl r2_ List.not_mem_nil rfl) rfl) hx9<|qs_ 1 rfl<|sxvA rfl (h_ (C := int 4) (g_ tabOk rfl rfl l0_ List.not_mem_nil rfl) (congrArg int hc)) hx9<|sxvA rfl (h_ (C := .tup [coreA co0, boo false]) (e4_ (a := 4) (m := []) (enc := coE) (z0 := co0) (zv := zco) (a0_ Tryz.underlying3) Tryz.underlying113 hh_ hi_ rfl l1_ List.not_mem_nil rfl is_v (by unfold intOk; simp only [InR, lo, hi]; omega)) rfl) hx9 ?_
 refine qx_ 1 hx9 rfl<|qs_ 2 rfl<|aO_ tabOk rfl rfl rfl rfl fun b5 =>ex_ rfl (m_ (L' := co0.cells.map .v) tabOk rfl rfl rfl u0_ rfl (Nat.le_of_ble_eq_true rfl) rfl (by exact p_ rfl)) (by simp) rfl rfl ?_
 refine hxA fun hx9 => ?_
 refine qx_ 1 hx9 rfl<|F_<|b_<|c_<|u_<|c_<|a_<|q_ 9 rfl<|d_<|b_<|O_ rfl<|c_<|a_<|q_ 14 rfl<|d_<|b_<|O_ rfl<|o_<|w_<|b_<|c_<|as_ [] (.q 0 (.q 1 (.q 2 (.q 3 (.q 4 (.q 5 (.q 6 .nil))))))) (by kernel_rfl) (by kernel_rfl) ?_
 refine qs_ 3 rfl<|hx_ fun hx9 =>sxvA rfl (h_ (C := mapV R.pd) (g_ tabOk rfl rfl r3_ List.not_mem_nil rfl) rfl) hx9<|qs_ 1 rfl<|sxvA rfl (h_ (C := int 4) (g_ tabOk rfl rfl l1_ List.not_mem_nil rfl) (congrArg int hc)) hx9<|sxvA rfl (h_ (C := coreA c) (r_ tabOk rfl rfl rfl l1_ List.not_mem_nil rfl) rfl) hx9<|F_<|aq_ rfl (bh_ (enc := coE) (m := []) (a := (4 : Int)) (v := c) (m' := [(4, c)]) (a0_ Tryz.underlying3) Tryz.underlying113 rfl u2_ rfl is_v (by unfold intOk; simp only [InR, lo, hi]; omega) rfl rfl) rfl rfl ?_
 rintro _ _ ⟨rfl, rfl⟩
 exact b_<|c_<|a_<|q_ 1 rfl<|d_<|b_<|k_<|f_ (rs := [.tmp 4]) rfl (RV.tmp rfl RV.nil) (()) (sk_ (sk_ (sc_ sn_)))<|rfl
end
section
variable {x k1 k2 b : Nat} {k : Int} {caps : List Abs}
theorem idx0_s  : Spec Tryz.prog 418 [.v (.slice none 0 0), .fn (.func b) [] caps] [] (fun _ : Unit => []) (fun _ => int (-1)) := by
 refine t_ Tryz.func418 rfl Tryz.ntmps418 rfl fun G w =>c_<|a_<|q_ 1 rfl<|d_<|b_<|c_<|c_<|a_<|q_ 1 rfl<|slvA (ae_ (m := 0) rfl Tryz.underlying124)<|q_ 1 rfl<|d_<|b_<|u_<|P_ (ι := Unit) (fun z => []) (fun z => [(7, int (0 : Nat)), (8, int 0)]) (fun z => True) (fun z => 0) (()) (trivial) (by exact ⟨rfl, rfl, trivial⟩) sn_ ?_
 intro z hz
 refine c_<|a_<|q_ 1 rfl<|d_<|b_<|c_<|l_ rfl (by intro hc9; exfalso; omega) ?_
 intro hc9
 exact N_<|j_ nofun<|j_ nofun<|M_<|b_<|c_<|a_<|q_ 1 rfl<|d_<|b_<|k_<|f_ (rs := [.tmp 4]) rfl (RV.tmp rfl RV.nil) (()) sn_<|rfl
theorem plc0_s  : Spec Tryz.prog 382 [.v (.slice none 0 0), int k, .fn (.func k1) [] []] [] (fun _ : Unit => []) (fun _ => .tup [int 0, boo false]) := by
 refine t_ Tryz.func382 rfl Tryz.ntmps382 rfl fun G w =>c_<|a_<|eb_ (be_ rfl rfl) rfl rfl fun b4=>?_
 refine eb_ (be_ rfl rfl) rfl rfl fun b5=>?_
 refine q_ 2 rfl<|d_<|b_<|c_<|c_<|a_<|q_ 1 rfl<|slvA (V_ rfl rfl)<|slcA (idx0_s) ?_
 refine ap_<|fun _=>q_ 1 rfl<|d_<|b_<|c_<|a_<|q_ 2 rfl<|d_<|b_<|l_ rfl (by intro hc14; exfalso; omega) ?_
 intro hc14
 refine o_<|b_<|c_<|c_<|a_<|q_ 1 rfl<|slvA (V_ rfl rfl)<|slcA (idx0_s) ?_
 refine ap_<|fun _=>q_ 1 rfl<|d_<|b_<|c_<|a_<|q_ 2 rfl<|d_<|b_<|l_ rfl (by intro hc20; exfalso; omega) ?_
 intro hc20
 exact o_<|b_<|c_<|a_<|q_ 1 rfl<|slvA (ae_ (m := 0) rfl Tryz.underlying124)<|q_ 2 rfl<|d_<|b_<|k_<|f_ (rs := [.tmp 6, .tmp 7]) rfl (RV.tmp rfl (RV.tmp rfl RV.nil)) (()) sn_<|rfl
theorem last0_s  : Spec Tryz.prog 338 [.agg [int 0, int 0, .v (.slice none 0 0), .v (.slice none 0 0)], int k] [] (fun _ : Unit => []) (fun _ => .tup [.agg [int 0, int 0, int 0], boo false]) := by
 refine t_ Tryz.func338 rfl Tryz.ntmps338 rfl fun G w =>c_<|a_<|eb_ (B_ (cs := [int 0, int 0, .v (.slice none 0 0), .v (.slice none 0 0)]) rfl) rfl rfl fun b2=>?_
 refine eb_ (C_ tabOk rfl) rfl rfl fun b4=>?_
 refine q_ 1 rfl<|d_<|b_<|c_<|a_<|q_ 1 rfl<|slvA (h_ (C := .v (.slice none 0 0)) (g_ tabOk rfl rfl l1_ List.not_mem_nil rfl) rfl)<|q_ 1 rfl<|slcA (plc0_s (k := k)) ?_
 refine ap_<|fun _=>q_ 5 rfl<|d_<|b_<|c_<|c_<|a_<|q_ 1 rfl<|slvA (eo_ rfl)<|d_<|b_<|U_ rfl<|c_<|a_<|slvA (z_ tabOk rfl rfl rfl rfl)<|e_ (m_ (L' := [int 0, int 0, int 0]) tabOk rfl rfl rfl u0_ rfl (Nat.le_of_ble_eq_true rfl) rfl (by exact p_ rfl)) rfl rfl ?_
 refine q_ 1 rfl<|d_<|b_<|k_<|j_ nofun<|f_ (rs := [.cell 4 237, .tmp 5]) rfl (RV.cell rfl (RV.cellA tabOk rfl rfl l0_ (by rfl)) (RV.tmp rfl RV.nil)) (()) sn_ ?_
 exact rfl
theorem h1_  : Spec Tryz.prog 270 [ptr x, int k] [.rd x 179 [int 4, int 0, int 0, .v (.slice none 0 0), .v (.slice none 0 0), .v (.slice none 0 0)]] (fun _ : Unit => []) (fun _ => .tup [.agg [int 0, int 0, int 0], boo false]) := by
 refine t_ Tryz.func270 rfl Tryz.ntmps270 rfl fun G w =>c_<|a_<|eb_ (C_ tabOk rfl) rfl rfl fun b4=>?_
 refine q_ 1 rfl<|d_<|b_<|c_<|c_<|a_<|q_ 1 rfl<|slvA (aD_ rfl rfl (by kernel_rfl)) ?_
 refine d_<|b_<|O_ rfl<|o_<|b_<|c_<|a_<|q_ 3 rfl<|slvA (h_ (C := .agg [int 0, int 0, .v (.slice none 0 0), .v (.slice none 0 0)]) (ad_ tabOk rfl rfl rfl r1_ List.not_mem_nil (Nat.le_of_ble_eq_true rfl)) rfl)<|q_ 1 rfl<|slcA (last0_s (k := k)) ?_
 refine ap_<|fun _=>q_ 2 rfl<|e_ (m_ (L' := [int 0, int 0, int 0]) tabOk rfl rfl rfl u0_ rfl (Nat.le_of_ble_eq_true rfl) rfl (by exact p_ rfl)) rfl rfl ?_
 refine q_ 1 rfl<|d_<|b_<|k_<|f_ (rs := [.cell 4 237, .tmp 5]) rfl (RV.cell rfl (RV.cellA tabOk rfl rfl l0_ (by rfl)) (RV.tmp rfl RV.nil)) (()) sn_ ?_
 exact rfl
end
theorem fI_ {st : Int} {t : Tg} {mk : Wo} {place : Nat → Option (Nat × Nat)} {Z : List Abs} (hZ : Z.length = 35) (h0 : place 0 = some (0, 1)) (h1 : place 1 = some (1, 1)) (h2 : place 2 = some (2, 32)) (h3 : place 3 = some (34, 1)) : fillA place Z [(0, int 4), (1, int st), (2, .agg t.abs), (3, u32 mk)] = some (voL st t mk) := by
  have hd := t.size
  match Z, hZ with
  | a :: b :: Z, hZ =>
    have hZ2 : Z.length = 33 := by simpa using hZ
    obtain ⟨y, hy⟩ : ∃ y, Z.drop 32 = [y] := List.length_eq_one_iff.1 (by rw [List.length_drop]; omega)
    have p1 : putL (a :: b :: Z) 0 [int 4] = int 4 :: b :: Z := rfl
    have p2 : putL (int 4 :: b :: Z) 1 [int st] = int 4 :: int st :: Z := rfl
    have p3 : putL (int 4 :: int st :: Z) 2 t.abs = int 4 :: int st :: (t.abs ++ [y]) := by
      rw [ck_ _ _ _ (by simp), hd]
      show [int 4, int st] ++ t.abs ++ Z.drop 32 = _
      rw [hy]
      simp
    have p4 : putL (int 4 :: int st :: (t.abs ++ [y])) 34 [u32 mk] = voL st t mk := by
      rw [ck_ _ _ _ (by simp [hd])]
      show int 4 :: int st :: ((t.abs ++ [y]).take 32) ++ [u32 mk] ++ (t.abs ++ [y]).drop 33 = _
      rw [List.take_append_of_le_length (by omega), List.take_of_length_le (by omega), List.drop_eq_nil_of_le (by simp [hd]), List.append_nil]
      rfl
    simp only [fillA, h0, h1, h2, h3, cellsA, u32, int, p1, p2, p3, hd, hZ2, List.length_cons, List.length_nil, List.length_append]
    exact congrArg some p4
structure RqZ where
  e : Int
  v : Value
  rows : List (List Abs)
  c : Core
  st : Int
  t : Tg
  ma : Wo
  okP : ParOk 4 rows
  okC : c.letter.size ≤ 1000 ∧ c.text.size ≤ 1000 ∧ c.client = 4
theorem c4_ok : core1.letter.size ≤ 1000 ∧ core1.text.size ≤ 1000 ∧ core1.client = 4 := ⟨by decide, by decide, rfl⟩
theorem p0_ok {n : Nat} : ParOk n [] := ⟨Nat.zero_le _, fun r h => by cases h⟩
def RqZ.no (e : Int) : RqZ := ⟨e, .slice none 0 0, [], core1, 0, ⟨List.replicate 32 0, rfl⟩, 0, p0_ok, c4_ok⟩
def rqT (p bd bt N me : Nat) (R : RI) (z : RqZ) : Blks := if z.e = 0 then [own 141 5 z.v z.rows, .blk R.r 118 (R.cells p me 0 (.v z.v)), .pc (tmPc R.pd intK intOk coE [(4, z.c)]), .blk R.x 179 [int 4, int 0, int 0, .v (.slice none 0 0), .v (.slice none 0 0), .v (.slice none 0 0)], .blk R.t 173 [int 32, int 0], .blk R.h 167 [bkI p, int 4, mapV R.hm, .v R.hv], .pc (tmPc R.hm intK intOk pE []), .blk R.vv 160 [int 4, mapV R.vm], .pc (tmPc R.vm paV paOk voE (vm1 (me : Int) z.st z.t z.ma)), .blk R.pp 157 [int ((4 : Nat) : Int), int (me : Nat), mapV R.om, .v R.pv], own 199 1 R.pv ((List.replicate 4 []).map fun l => [pntsA l]), .pc (tmPc R.om intK intOk Ow.enc [(0, R.ow)]), .blk R.lg 153 [int 4, int 0, mapV R.lm], .pc (tmPc R.lm intK intOk pE []), wb p bd bt (N + 6)] else [.blk R.r 118 (R.cells p me 0 (.v (.slice none 0 0))), wb p bd bt (N + 6)]
theorem dt_ {p bd bt N me : Nat} {R : RI} {z : RqZ} : ∀ x ∈ rqT p bd bt N me R z, x.rids = [] := by
  unfold rqT
  split
  · exact J_ rfl
  · exact J_ rfl
section
variable {p bd bt N me : Nat} {R : RI} {m : Msg}
set_option maxHeartbeats 8000000 in
theorem rreq_s (hm : MsOk m) (h4 : me < 4) (hN : N ≤ 80000) : Spec Tryz.prog 205 [ptr R.r, .agg m.abs] [.blk R.r 118 (R.cells p me 0 (.v (.slice none 0 0))), .pc (tmPc R.pd intK intOk coE []), .blk R.x 179 [int 4, int 0, int 0, .v (.slice none 0 0), .v (.slice none 0 0), .v (.slice none 0 0)], .blk R.t 173 [int 32, int 0], .blk R.h 167 [bkI p, int 4, mapV R.hm, .v R.hv], .pc (tmPc R.hm intK intOk pE []), .blk R.vv 160 [int 4, mapV R.vm], .pc (tmPc R.vm paV paOk voE []), .blk R.pp 157 [int ((4 : Nat) : Int), int (me : Nat), mapV R.om, .v R.pv], own 199 1 R.pv ((List.replicate 4 []).map fun l => [pntsA l]), .pc (tmPc R.om intK intOk Ow.enc [(0, R.ow)]), .blk R.lg 153 [int 4, int 0, mapV R.lm], .pc (tmPc R.lm intK intOk pE []), wb p bd bt N] (fun z : RqZ => rqT p bd bt N me R z) (fun z => int z.e) := by
 refine t_ Tryz.func205 rfl Tryz.ntmps205 rfl fun G w =>c_<|a_<|eb_ (B_ (cs := m.abs) rfl) rfl rfl fun b3=>?_
 refine q_ 1 rfl<|d_<|b_<|c_<|c_<|Q_ [] (.q 0 (.q 1 (.q 2 (.q 3 (.q 4 (.q 5 (.q 6 (.q 7 (.q 8 (.q 9 (.q 10 (.q 11 (.q 12 (.q 13 (.q 14 (.q 15 (.q 16 .nil))))))))))))))))) (by kernel_rfl) (by kernel_rfl) ?_
 refine qs_ 1 rfl<|hx_ fun hx9 =>sxvA rfl (h_ (C := int 4) (g_ tabOk rfl rfl l0_ List.not_mem_nil rfl) (congrArg int hm.2.1)) hx9<|qs_ 3 rfl<|sxvA rfl (h_ (C := int 4) (g_ tabOk rfl rfl l1_ List.not_mem_nil rfl) rfl) hx9<|qs_ 2 rfl<|aK_ (t := 20) rfl (by intro hc20; exfalso; omega) ?_
 intro hc20
 refine qs_ 1 rfl<|sxvA rfl (h_ (C := int 4) (g_ tabOk rfl rfl l0_ List.not_mem_nil rfl) (congrArg int hm.2.1)) hx9<|qs_ 3 rfl<|sxvA rfl (h_ (C := int 4) (g_ tabOk rfl rfl l1_ List.not_mem_nil rfl) rfl) hx9<|sxvA rfl (y_ rfl rfl (by simp only [InR, lo, hi]; omega)) (by simp) ?_
 refine qs_ 2 rfl<|F_<|b_<|l_ rfl (by intro hc29; exfalso; omega) ?_
 intro hc29
 refine o_<|b_<|c_<|c_<|ao_ (p := R.r ∉ [p, bd, bt] ∧ b3 ∉ [p, bd, bt]) (fun _ _ h => by
   have h1 := h.mem.nodup
   simp [mids, It.mids, ownPc, mapPc, tmPc, wbP, exP] at h1 ⊢
   grind) fun hX => ?_
 refine Q_ [p, bd, bt] (.q 0 (.q 1 (.q 2 (.q 3 (.q 4 (.q 5 (.q 6 (.q 7 (.q 8 (.q 9 (.q 10 (.q 11 (.q 12 (.e 13 (.q 14 .nil))))))))))))))) (by kernel_rfl) (by kernel_rfl) ?_
 refine hxA fun hx9 => ?_
 refine qx_ 3 hx9 rfl<|sxvA rfl (h_ (C := bkI p) (g_ tabOk rfl rfl l1_ (by exact hX.1) rfl) rfl) hx9 ?_
 refine sxvA rfl (h_ (C := .agg m.abs) (r_ tabOk rfl rfl rfl l0_ (by exact hX.2) rfl) rfl) hx9 ?_
 refine qx_ 3 hx9 rfl<|sxvA rfl (h_ (C := int (me : Nat)) (g_ tabOk rfl rfl l1_ (by exact hX.1) rfl) rfl) hx9 ?_
 refine qx_ 3 hx9 rfl<|sxvA rfl (h_ (C := int (me : Nat)) (g_ tabOk rfl rfl l1_ (by exact hX.1) rfl) rfl) hx9 ?_
 refine D_ rfl (wvchk_s (p := p) (bd := bd) (bt := bt) (N := N) (m := m) (place := (me : Int)) (who := (me : Int)) hm.2.2.1 (by rw [hm.2.1]; unfold i64r; omega) (by unfold i64r; omega) (by omega)) (by simp [mids, It.mids, wbP, exP]) Casts.refl (by kernel_rfl) rfl rfl rfl ?_
 refine x_ rfl (by repeat first|assumption|exact m0_|apply m1_) (fun _ => rfl) ?_
 intro z43
 refine ⟨_, (by repeat first|assumption|exact Upd.here|apply Upd.there), ?_⟩
 refine hxA fun hx9 => ?_
 refine qx_ 1 hx9 rfl<|F_<|b_<|c_<|a_<|q_ 2 rfl<|d_<|b_<|l_ rfl ?_ ?_
 ·intro hc45
  refine c_<|a_<|q_ 2 rfl<|d_<|b_<|k_<|j_ nofun<|c2_ [_, _, _, _, _, _, _, _, _, _, _, _, _, _] (Re.wbUp (N := N) (M := N + 6) (by omega)) rfl ?_
  refine fD_ (rs := [.tmp 4]) rfl (RV.tmp rfl RV.nil) (RqZ.no z43) (by show (rqT p bd bt N me R (RqZ.no _)).Sublist _; unfold rqT; rw [if_neg (by exact hc45)]; repeat (first | exact List.nil_sublist _ | exact List.Sublist.refl _ | apply List.Sublist.cons_cons | apply List.Sublist.cons)) dt_ ?_
  exact rfl
 intro hc45
 refine o_<|b_<|bL_ (ι := Nat × {q : Rq // RqOk q} × Int) (fun y => [.blk y.1 134 y.2.1.1.abs, .blk b3 42 m.abs, .blk R.r 118 (R.cells p me 0 (.v (.slice none 0 0))), .pc (tmPc R.pd intK intOk coE []), .blk R.x 179 [int 4, int 0, int 0, .v (.slice none 0 0), .v (.slice none 0 0), .v (.slice none 0 0)], .blk R.t 173 [int 32, int 0], .blk R.h 167 [bkI p, int 4, mapV R.hm, .v R.hv], .pc (tmPc R.hm intK intOk pE []), .blk R.vv 160 [int 4, mapV R.vm], .pc (tmPc R.vm paV paOk voE []), .blk R.pp 157 [int ((4 : Nat) : Int), int (me : Nat), mapV R.om, .v R.pv], own 199 1 R.pv ((List.replicate 4 []).map fun l => [pntsA l]), .pc (tmPc R.om intK intOk Ow.enc [(0, R.ow)]), .blk R.lg 153 [int 4, int 0, mapV R.lm], .pc (tmPc R.lm intK intOk pE []), wb p bd bt N]) (fun y => [(0, ptr R.r), (3, ptr b3), (6, ptr y.1), (7, int y.2.2)]) (fun y => True) ?_ ?_
 ·skip
  refine Q_ [] (.q 0 (.q 1 (.q 2 (.q 3 (.q 4 (.q 5 (.two 6 10 (.q 7 (.q 8 (.q 9 (.e 10 (.e 11 (.q 12 .nil)))))) (.e 6 (.q 7 (.q 8 (.q 9 (.e 11 (.q 12 .nil))))))))))))) (by kernel_rfl) (by kernel_rfl) ?_
  refine qs_ 1 rfl<|hxA fun hx9 => ?_
  refine sxvA rfl (h_ (C := byt m.body) (g_ tabOk rfl rfl l0_ List.not_mem_nil rfl) rfl) hx9<|qs_ 3 rfl<|sxvA rfl (h_ (C := int 4) (g_ tabOk rfl rfl l1_ List.not_mem_nil rfl) rfl) hx9<|aV_ ?_ ?_
  ·skip
   refine D_ rfl (h2_ (l := m.body) hm.2.2.1) (by simp [mids, It.mids]) Casts.refl (by kernel_rfl) rfl rfl rfl ?_
   refine ap_<|fun z54=>hxA fun hx9 => ?_
   refine qx_ 1 hx9 rfl<|qs_ 2 rfl<|aO_ tabOk rfl rfl rfl rfl fun b6 =>ex_ rfl (m_ (L' := z54.1.1.abs) tabOk rfl rfl rfl u0_ rfl (Nat.le_of_ble_eq_true rfl) rfl (by exact p_ rfl)) (by simp) rfl rfl ?_
   refine hxA fun hx9 => ?_
   refine qx_ 1 hx9 rfl<|F_<|aw_ (b6, z54.1, z54.2) (trivial) (by exact ⟨rfl, rfl, rfl, rfl, trivial⟩) sr_
  skip
  refine aO_ tabOk rfl rfl rfl rfl fun b6 =>D_ rfl (h2_ (l := m.body) hm.2.2.1) (by simp [mids, It.mids]) Casts.refl (by kernel_rfl) rfl rfl rfl ?_
  refine ap_<|fun z54=>hxA fun hx9 => ?_
  refine qx_ 3 hx9 rfl<|ex_ rfl (m_ (L' := z54.1.1.abs) tabOk rfl rfl rfl u0_ rfl (Nat.le_of_ble_eq_true rfl) rfl (by exact p_ rfl)) (by simp) rfl rfl ?_
  refine hxA fun hx9 => ?_
  refine qx_ 1 hx9 rfl<|F_<|aw_ (b6, z54.1, z54.2) (trivial) (by exact ⟨rfl, rfl, rfl, rfl, trivial⟩) sr_
 intro y hy
 obtain ⟨b6, ⟨q, hq⟩, e⟩ := y
 dsimp only
 refine c_<|a_<|q_ 1 rfl<|slvA (h_ (C := coreA q.core) (ad_ tabOk rfl rfl rfl l0_ List.not_mem_nil (Nat.le_of_ble_eq_true rfl)) (congrArg Abs.agg (Rq.part _)))<|eb_ (C_ tabOk rfl) rfl rfl fun b8=>?_
 refine e_ (m_ (L' := q.core.cells.map .v) tabOk rfl rfl rfl u0_ rfl (Nat.le_of_ble_eq_true rfl) rfl (by exact p_ rfl)) rfl rfl ?_
 refine d_<|b_<|c_<|u_<|c_<|a_<|q_ 3 rfl<|d_<|b_<|l_ rfl ?_ ?_
 ·intro hc59
  refine c_<|a_<|q_ 2 rfl<|d_<|b_<|k_<|S_<|j_ nofun<|c2_ [_, _, _, _, _, _, _, _, _, _, _, _, _, _, _, _] (Re.wbUp (N := N) (M := N + 6) (by omega)) rfl ?_
  refine fD_ (rs := [.tmp 4]) rfl (RV.tmp rfl RV.nil) (RqZ.no e) (by show (rqT p bd bt N me R (RqZ.no _)).Sublist _; unfold rqT; rw [if_neg (by exact hc59)]; repeat (first | exact List.nil_sublist _ | exact List.Sublist.refl _ | apply List.Sublist.cons_cons | apply List.Sublist.cons)) dt_ ?_
  exact rfl
 intro hc59
 refine c_<|a_<|q_ 1 rfl<|slvA (h_ (C := int q.core.client) (g_ tabOk rfl rfl l0_ List.not_mem_nil rfl) rfl)<|q_ 1 rfl<|slvA (h_ (C := int 4) (g_ tabOk rfl rfl l2_ List.not_mem_nil rfl) (congrArg int hm.2.1))<|q_ 2 rfl<|d_<|b_<|l_ rfl ?_ ?_
 ·intro hc63
  refine c_<|a_<|q_ 1 rfl<|d_<|b_<|k_<|S_<|j_ nofun<|c2_ [_, _, _, _, _, _, _, _, _, _, _, _, _, _, _, _] (Re.wbUp (N := N) (M := N + 6) (by omega)) rfl ?_
  refine fD_ (rs := [.tmp 4]) rfl (RV.tmp rfl RV.nil) (RqZ.no 17) (by show (rqT p bd bt N me R (RqZ.no _)).Sublist _; unfold rqT; rw [if_neg (by decide)]; repeat (first | exact List.nil_sublist _ | exact List.Sublist.refl _ | apply List.Sublist.cons_cons | apply List.Sublist.cons)) dt_ ?_
  exact rfl
 intro hc63
 have hq4 : q.core.client = 4 := Classical.byContradiction fun h => hc63 h
 refine o_<|w_<|b_<|bL_ (ι := Nat) (fun y => [.blk y 237 [int 0, int 0, int 0], .blk b8 26 (q.core.cells.map .v), .blk b6 134 q.abs, .blk b3 42 m.abs, .blk R.r 118 (R.cells p me 0 (.v (.slice none 0 0))), .pc (tmPc R.pd intK intOk coE []), .blk R.x 179 [int 4, int 0, int 0, .v (.slice none 0 0), .v (.slice none 0 0), .v (.slice none 0 0)], .blk R.t 173 [int 32, int 0], .blk R.h 167 [bkI p, int 4, mapV R.hm, .v R.hv], .pc (tmPc R.hm intK intOk pE []), .blk R.vv 160 [int 4, mapV R.vm], .pc (tmPc R.vm paV paOk voE []), .blk R.pp 157 [int ((4 : Nat) : Int), int (me : Nat), mapV R.om, .v R.pv], own 199 1 R.pv ((List.replicate 4 []).map fun l => [pntsA l]), .pc (tmPc R.om intK intOk Ow.enc [(0, R.ow)]), .blk R.lg 153 [int 4, int 0, mapV R.lm], .pc (tmPc R.lm intK intOk pE []), wb p bd bt N]) (fun y => [(0, ptr R.r), (3, ptr b3), (6, ptr b6), (8, ptr b8), (9, ptr y), (10, boo false)]) (fun y => True) ?_ ?_
 ·skip
  refine Q_ [] (.q 0 (.q 1 (.q 2 (.q 3 (.q 4 (.q 5 (.two 6 10 (.q 7 (.q 8 (.q 9 (.e 10 (.e 11 (.q 12 .nil)))))) (.e 6 (.q 7 (.q 8 (.q 9 (.e 11 (.q 12 .nil))))))))))))) (by kernel_rfl) (by kernel_rfl) ?_
  refine qs_ 3 rfl<|hxA fun hx9 => ?_
  refine sxvA rfl (h_ (C := ptr R.x) (g_ tabOk rfl rfl l3_ List.not_mem_nil rfl) rfl) hx9<|qs_ 1 rfl<|sxvA rfl (h_ (C := int 4) (g_ tabOk rfl rfl l0_ List.not_mem_nil rfl) (congrArg int hq4)) hx9<|aV_ ?_ ?_
  ·skip
   refine D_ rfl (h1_ (x := R.x) (k := 4)) (by simp [mids, It.mids]) Casts.refl (by kernel_rfl) rfl rfl rfl ?_
   refine ap_<|fun _=>hxA fun hx9 => ?_
   refine qx_ 1 hx9 rfl<|qs_ 2 rfl<|aO_ tabOk rfl rfl rfl rfl fun b9 =>ex_ rfl (m_ (L' := [int 0, int 0, int 0]) tabOk rfl rfl rfl u0_ rfl (Nat.le_of_ble_eq_true rfl) rfl (by exact p_ rfl)) (by simp) rfl rfl ?_
   refine hxA fun hx9 => ?_
   refine qx_ 1 hx9 rfl<|F_<|aw_ (b9) (trivial) (by exact ⟨rfl, rfl, rfl, rfl, rfl, rfl, trivial⟩) sr_
  skip
  refine aO_ tabOk rfl rfl rfl rfl fun b9 =>D_ rfl (h1_ (x := R.x) (k := 4)) (by simp [mids, It.mids]) Casts.refl (by kernel_rfl) rfl rfl rfl ?_
  refine ap_<|fun _=>hxA fun hx9 => ?_
  refine qx_ 3 hx9 rfl<|ex_ rfl (m_ (L' := [int 0, int 0, int 0]) tabOk rfl rfl rfl u0_ rfl (Nat.le_of_ble_eq_true rfl) rfl (by exact p_ rfl)) (by simp) rfl rfl ?_
  refine hxA fun hx9 => ?_
  refine qx_ 1 hx9 rfl<|F_<|aw_ (b9) (trivial) (by exact ⟨rfl, rfl, rfl, rfl, rfl, rfl, trivial⟩) sr_
 intro b9 hb9
 refine c_<|u_<|c_<|a_<|q_ 9 rfl<|d_<|b_<|O_ rfl<|c_<|a_<|q_ 9 rfl<|d_<|b_<|O_ rfl<|c_<|a_<|q_ 1 rfl<|slvA (h_ (C := coreA q.core) (r_ tabOk rfl rfl rfl l1_ List.not_mem_nil rfl) rfl)<|slcA (rawait_s (p := p) (me := me) (R := R) (c := q.core) (dr := 0) (o := .v (.slice none 0 0)) hq4) ?_
 refine aG_ (ys := [.blk R.r 118 (R.cells p me 0 (.v (.slice none 0 0)))]) rfl i5_ (by intro y hy; rw [List.mem_singleton] at hy; subst hy; exact ⟨i4_, by intro h; cases h⟩) rfl (fun _ => rfl) ?_
 intro _
 refine ⟨_, u5_, q_ 1 rfl<|d_<|b_<|c_<|a_<|q_ 2 rfl<|d_<|b_<|l_ rfl (by intro hc83; exfalso; omega) ?_⟩
 intro hc83
 refine o_<|w_<|b_<|bL_ (ι := Nat × Tg × Wo) (fun y => [.blk y.1 198 (voL q.core.stamp y.2.1 y.2.2), .blk b9 237 [int 0, int 0, int 0], .blk b8 26 (q.core.cells.map .v), .blk b6 134 q.abs, .blk b3 42 m.abs, .blk R.r 118 (R.cells p me 0 (.v (.slice none 0 0))), .pc (tmPc R.pd intK intOk coE [(4, q.core)]), .blk R.x 179 [int 4, int 0, int 0, .v (.slice none 0 0), .v (.slice none 0 0), .v (.slice none 0 0)], .blk R.t 173 [int 32, int 0], .blk R.h 167 [bkI p, int 4, mapV R.hm, .v R.hv], .pc (tmPc R.hm intK intOk pE []), .blk R.vv 160 [int 4, mapV R.vm], .pc (tmPc R.vm paV paOk voE []), .blk R.pp 157 [int ((4 : Nat) : Int), int (me : Nat), mapV R.om, .v R.pv], own 199 1 R.pv ((List.replicate 4 []).map fun l => [pntsA l]), .pc (tmPc R.om intK intOk Ow.enc [(0, R.ow)]), .blk R.lg 153 [int 4, int 0, mapV R.lm], .pc (tmPc R.lm intK intOk pE []), wb p bd bt (N + 1)]) (fun y => [(0, ptr R.r), (3, ptr b3), (6, ptr b6), (8, ptr b8), (12, ptr y.1)]) (fun y => True) ?_ ?_
 ·skip
  refine ao_ (p := R.r ∉ [p, bd, bt] ∧ b8 ∉ [p, bd, bt] ∧ b6 ∉ [p, bd, bt]) (fun _ _ h => by
    have h1 := h.mem.nodup
    simp [mids, It.mids, ownPc, mapPc, tmPc, wbP, exP] at h1 ⊢
    grind) fun hX => ?_
  refine Q_ [p, bd, bt] (.q 0 (.q 1 (.q 2 (.q 3 (.q 4 (.q 5 (.q 7 (.q 8 (.q 9 (.q 10 (.q 11 (.q 12 (.q 13 (.q 14 (.q 15 (.q 16 (.q 17 (.q 18 (.q 19 (.two 6 22 (.two 20 22 (.q 21 (.e 22 (.e 23 .nil))) (.e 20 (.q 21 (.e 23 .nil)))) (.e 6 (.e 20 (.q 21 (.e 23 .nil)))))))))))))))))))))))) (by kernel_rfl) (by kernel_rfl) ?_
  refine hxA fun hx9 => ?_
  refine qx_ 1 hx9 rfl<|sxvA rfl (h_ (C := int 4) (g_ tabOk rfl rfl l1_ (by exact hX.2.1) rfl) (congrArg int hq4)) hx9 ?_
  refine qx_ 1 hx9 rfl<|sxvA rfl (h_ (C := int q.core.stamp) (g_ tabOk rfl rfl l1_ (by exact hX.2.1) rfl) rfl) hx9 ?_
  refine qx_ 1 hx9 rfl<|sxvA rfl (h_ (C := coreA q.core) (r_ tabOk rfl rfl rfl l1_ (by exact hX.2.1) rfl) rfl) hx9 ?_
  refine qx_ 3 hx9 rfl<|sxvA rfl (h_ (C := bkI p) (g_ tabOk rfl rfl l4_ (by exact hX.1) rfl) rfl) hx9 ?_
  refine sxvA rfl (h_ (C := .agg q.abs) (r_ tabOk rfl rfl rfl l2_ (by exact hX.2.2) rfl) rfl) hx9 ?_
  refine qx_ 3 hx9 rfl<|sxvA rfl (h_ (C := int 4) (g_ tabOk rfl rfl l4_ (by exact hX.1) rfl) rfl) hx9 ?_
  refine qx_ 3 hx9 rfl<|sxvA rfl (h_ (C := int (me : Nat)) (g_ tabOk rfl rfl l4_ (by exact hX.1) rfl) rfl) hx9 ?_
  refine aV_ ?_ ?_
  ·skip
   refine D_ rfl (rcd_s (p := p) (bd := bd) (bt := bt) (N := N) (me := me) (R := R) (c := q.core) (dr := 0) (o := .v (.slice none 0 0)) hq.1 hq.2.1 (by omega)) (by simp [mids, It.mids, wbP, exP]) Casts.refl (by kernel_rfl) rfl rfl rfl ?_
   refine aG_ (ys := [.blk R.r 118 (R.cells p me 0 (.v (.slice none 0 0)))]) rfl (by repeat first|assumption|exact m0_|apply m1_) (by intro y hy; rw [List.mem_singleton] at hy; subst hy; exact ⟨i4_, by intro h; cases h⟩) rfl (fun _ => rfl) ?_
   intro z112
   refine ⟨_, (by repeat first|assumption|exact Upd.here|apply Upd.there), ?_⟩
   refine aV_ ?_ ?_
   ·skip
    refine D_ rfl (hn_ (p := p) (bd := bd) (bt := bt) (N := N + 1) (q := q) (n := 4) (who := (me : Int)) hq.1 hq.2.1 (by have := hq.2.2.1; omega) (fun e he => by have := hq.2.2.2 e he; unfold EnOk at this; unfold i64r; omega) (by unfold i64r; omega) (by omega)) (by simp [mids, It.mids, wbP, exP]) Casts.refl (by kernel_rfl) rfl rfl rfl ?_
    refine x_ rfl (by repeat first|assumption|exact m0_|apply m1_) (fun _ => rfl) ?_
    intro z126
    refine ⟨_, (by repeat first|assumption|exact Upd.here|apply Upd.there), ?_⟩
    refine hxA fun hx9 => ?_
    refine sxvA rfl (h_ (C := .agg (voL q.core.stamp z112 z126)) (z_ tabOk rfl rfl rfl (fI_ rfl rfl rfl rfl rfl)) rfl) hx9<|aO_ tabOk rfl rfl rfl rfl fun b12 =>ex_ rfl (m_ (L' := voL q.core.stamp z112 z126) tabOk rfl rfl rfl u0_ (bf_ _ _ _) (Nat.le_of_ble_eq_true rfl) (cg_ _ _ _) (by exact p_ (bf_ _ _ _))) (by simp) rfl rfl ?_
    refine F_<|aw_ (b12, z112, z126) (trivial) (by exact ⟨rfl, rfl, rfl, rfl, rfl, trivial⟩) sr_
   skip
   refine aO_ tabOk rfl rfl rfl rfl fun b12 =>D_ rfl (hn_ (p := p) (bd := bd) (bt := bt) (N := N + 1) (q := q) (n := 4) (who := (me : Int)) hq.1 hq.2.1 (by have := hq.2.2.1; omega) (fun e he => by have := hq.2.2.2 e he; unfold EnOk at this; unfold i64r; omega) (by unfold i64r; omega) (by omega)) (by simp [mids, It.mids, wbP, exP]) Casts.refl (by kernel_rfl) rfl rfl rfl ?_
   refine x_ rfl (by repeat first|assumption|exact m0_|apply m1_) (fun _ => rfl) ?_
   intro z126
   refine ⟨_, (by repeat first|assumption|exact Upd.here|apply Upd.there), ?_⟩
   refine hxA fun hx9 => ?_
   refine sxvA rfl (h_ (C := .agg (voL q.core.stamp z112 z126)) (z_ tabOk rfl rfl rfl (fI_ rfl rfl rfl rfl rfl)) rfl) hx9<|ex_ rfl (m_ (L' := voL q.core.stamp z112 z126) tabOk rfl rfl rfl u0_ (bf_ _ _ _) (Nat.le_of_ble_eq_true rfl) (cg_ _ _ _) (by exact p_ (bf_ _ _ _))) (by simp) rfl rfl ?_
   refine F_<|aw_ (b12, z112, z126) (trivial) (by exact ⟨rfl, rfl, rfl, rfl, rfl, trivial⟩) sr_
  skip
  refine aO_ tabOk rfl rfl rfl rfl fun b12 =>D_ rfl (rcd_s (p := p) (bd := bd) (bt := bt) (N := N) (me := me) (R := R) (c := q.core) (dr := 0) (o := .v (.slice none 0 0)) hq.1 hq.2.1 (by omega)) (by simp [mids, It.mids, wbP, exP]) Casts.refl (by kernel_rfl) rfl rfl rfl ?_
  refine aG_ (ys := [.blk R.r 118 (R.cells p me 0 (.v (.slice none 0 0)))]) rfl (by repeat first|assumption|exact m0_|apply m1_) (by intro y hy; rw [List.mem_singleton] at hy; subst hy; exact ⟨i5_, by intro h; cases h⟩) rfl (fun _ => rfl) ?_
  intro z112
  refine ⟨_, (by repeat first|assumption|exact Upd.here|apply Upd.there), ?_⟩
  refine D_ rfl (hn_ (p := p) (bd := bd) (bt := bt) (N := N + 1) (q := q) (n := 4) (who := (me : Int)) hq.1 hq.2.1 (by have := hq.2.2.1; omega) (fun e he => by have := hq.2.2.2 e he; unfold EnOk at this; unfold i64r; omega) (by unfold i64r; omega) (by omega)) (by simp [mids, It.mids, wbP, exP]) Casts.refl (by kernel_rfl) rfl rfl rfl ?_
  refine x_ rfl (by repeat first|assumption|exact m0_|apply m1_) (fun _ => rfl) ?_
  intro z126
  refine ⟨_, (by repeat first|assumption|exact Upd.here|apply Upd.there), ?_⟩
  refine hxA fun hx9 => ?_
  refine sxvA rfl (h_ (C := .agg (voL q.core.stamp z112 z126)) (z_ tabOk rfl rfl rfl (fI_ rfl rfl rfl rfl rfl)) rfl) hx9<|ex_ rfl (m_ (L' := voL q.core.stamp z112 z126) tabOk rfl rfl rfl u0_ (bf_ _ _ _) (Nat.le_of_ble_eq_true rfl) (cg_ _ _ _) (by exact p_ (bf_ _ _ _))) (by simp) rfl rfl ?_
  refine F_<|aw_ (b12, z112, z126) (trivial) (by exact ⟨rfl, rfl, rfl, rfl, rfl, trivial⟩) sr_
 intro y hy
 obtain ⟨b12, t, mk⟩ := y
 dsimp only
 refine c_<|c_<|ao_ (p := R.r ∉ [R.vv, R.vm] ∧ b12 ∉ [R.vv, R.vm]) (fun _ _ h => by
   have h1 := h.mem.nodup
   simp [mids, It.mids, ownPc, mapPc, tmPc, wbP, exP] at h1 ⊢
   grind) fun hX => ?_
 refine Q_ [R.vv, R.vm] (.q 0 (.q 1 (.q 2 (.q 3 (.q 4 (.q 5 (.q 6 (.q 7 (.q 8 (.e 9 .nil)))))))))) (by kernel_rfl) (by kernel_rfl) ?_
 refine hxA fun hx9 => ?_
 refine qx_ 3 hx9 rfl<|sxvA rfl (h_ (C := ptr R.vv) (g_ tabOk rfl rfl l5_ (by exact hX.1) rfl) rfl) hx9 ?_
 refine qx_ 3 hx9 rfl<|sxvA rfl (h_ (C := int (me : Nat)) (g_ tabOk rfl rfl l5_ (by exact hX.1) rfl) rfl) hx9 ?_
 refine sxvA rfl (h_ (C := .agg (voL q.core.stamp t mk)) (r_ tabOk rfl rfl rfl l0_ (by exact hX.2) (bf_ _ _ _)) rfl) hx9 ?_
 refine D_ rfl (voadd_s (v := R.vv) (m := R.vm) (self_ := (me : Int)) (st := q.core.stamp) (t := t) (mk := mk) (by omega) (by omega)) (by intro k hk; exact hk) Casts.refl (by kernel_rfl) rfl rfl rfl ?_
 refine W_ [_, _, _, _, _, _, _, _, _, _, _] (β := [_, _, _, _, _, _]) rfl (J_ rfl) ?_
 intro _
 refine F_<|b_<|U_ rfl<|a_<|q_ 1 rfl<|slvA (h_ (C := coreA q.core) (r_ tabOk rfl rfl rfl l2_ List.not_mem_nil rfl) rfl)<|slcA (km_ (p := p) (bd := bd) (bt := bt) (N := N + 1) (me := me) (R := R) (c := q.core) (dr := 0) (st := q.core.stamp) (t := t) (mk := mk) hq.1 hq.2.1 (by omega) h4 hq4) ?_
 refine bE_ [.blk b12 198 (voL q.core.stamp t mk), .blk b9 237 [int 0, int 0, int 0], .blk b8 26 (q.core.cells.map .v), .blk b6 134 q.abs, .blk b3 42 m.abs, .pc (tmPc R.pd intK intOk coE [(4, q.core)]), .blk R.x 179 [int 4, int 0, int 0, .v (.slice none 0 0), .v (.slice none 0 0), .v (.slice none 0 0)], .blk R.t 173 [int 32, int 0], .blk R.h 167 [bkI p, int 4, mapV R.hm, .v R.hv], .pc (tmPc R.hm intK intOk pE []), .blk R.vv 160 [int 4, mapV R.vm], .pc (tmPc R.vm paV paOk voE (vm1 (me : Int) q.core.stamp t mk)), .blk R.pp 157 [int ((4 : Nat) : Int), int (me : Nat), mapV R.om, .v R.pv], own 199 1 R.pv ((List.replicate 4 []).map fun l => [pntsA l]), .pc (tmPc R.om intK intOk Ow.enc [(0, R.ow)]), .blk R.lg 153 [int 4, int 0, mapV R.lm], .pc (tmPc R.lm intK intOk pE [])] (fun z140 => [own 141 5 z140.1.1 z140.1.2, .blk R.r 118 (R.cells p me 0 (.v z140.1.1)), .pc (tmPc R.pd intK intOk coE [(4, q.core)]), .blk R.x 179 [int 4, int 0, int 0, .v (.slice none 0 0), .v (.slice none 0 0), .v (.slice none 0 0)], .blk R.t 173 [int 32, int 0], .blk R.h 167 [bkI p, int 4, mapV R.hm, .v R.hv], .pc (tmPc R.hm intK intOk pE []), .blk R.vv 160 [int 4, mapV R.vm], .pc (tmPc R.vm paV paOk voE (vm1 (me : Int) q.core.stamp t mk)), .blk R.pp 157 [int ((4 : Nat) : Int), int (me : Nat), mapV R.om, .v R.pv], own 199 1 R.pv ((List.replicate 4 []).map fun l => [pntsA l]), .pc (tmPc R.om intK intOk Ow.enc [(0, R.ow)]), .blk R.lg 153 [int 4, int 0, mapV R.lm], .pc (tmPc R.lm intK intOk pE []), wb p bd bt (N + 6), .blk b12 198 (voL q.core.stamp t mk), .blk b9 237 [int 0, int 0, int 0], .blk b8 26 (q.core.cells.map .v), .blk b6 134 q.abs, .blk b3 42 m.abs]) (by rw [List.perm_iff_count]; intro a; simp only [mids, It.mids, List.flatMap_cons, List.flatMap_nil, List.append_nil, List.nil_append, List.count_append, List.count_cons, List.count_nil, List.cons_append]; omega) (by intro x hx; simp only [List.mem_cons, List.not_mem_nil, or_false] at hx; rcases hx with rfl | rfl | rfl | rfl <;> first | exact .inl ⟨(by repeat first|assumption|exact m0_|apply m1_), rfl⟩ | exact .inr ⟨_, List.mem_cons_self, rfl⟩ | exact .inr ⟨_, (List.mem_cons_of_mem _ List.mem_cons_self), rfl⟩ | exact .inr ⟨_, (List.mem_cons_of_mem _ (List.mem_cons_of_mem _ List.mem_cons_self)), rfl⟩ | exact .inr ⟨_, (List.mem_cons_of_mem _ (List.mem_cons_of_mem _ (List.mem_cons_of_mem _ List.mem_cons_self))), rfl⟩ | exact .inr ⟨_, (List.mem_cons_of_mem _ (List.mem_cons_of_mem _ (List.mem_cons_of_mem _ (List.mem_cons_of_mem _ List.mem_cons_self)))), rfl⟩ | exact .inr ⟨_, (List.mem_cons_of_mem _ (List.mem_cons_of_mem _ (List.mem_cons_of_mem _ (List.mem_cons_of_mem _ (List.mem_cons_of_mem _ List.mem_cons_self))))), rfl⟩ | exact .inr ⟨_, (List.mem_cons_of_mem _ (List.mem_cons_of_mem _ (List.mem_cons_of_mem _ (List.mem_cons_of_mem _ (List.mem_cons_of_mem _ (List.mem_cons_of_mem _ List.mem_cons_self)))))), rfl⟩ | exact .inr ⟨_, (List.mem_cons_of_mem _ (List.mem_cons_of_mem _ (List.mem_cons_of_mem _ (List.mem_cons_of_mem _ (List.mem_cons_of_mem _ (List.mem_cons_of_mem _ (List.mem_cons_of_mem _ List.mem_cons_self))))))), rfl⟩ | exact .inr ⟨_, (List.mem_cons_of_mem _ (List.mem_cons_of_mem _ (List.mem_cons_of_mem _ (List.mem_cons_of_mem _ (List.mem_cons_of_mem _ (List.mem_cons_of_mem _ (List.mem_cons_of_mem _ (List.mem_cons_of_mem _ List.mem_cons_self)))))))), rfl⟩ | exact .inr ⟨_, (List.mem_cons_of_mem _ (List.mem_cons_of_mem _ (List.mem_cons_of_mem _ (List.mem_cons_of_mem _ (List.mem_cons_of_mem _ (List.mem_cons_of_mem _ (List.mem_cons_of_mem _ (List.mem_cons_of_mem _ (List.mem_cons_of_mem _ List.mem_cons_self))))))))), rfl⟩ | exact .inr ⟨_, (List.mem_cons_of_mem _ (List.mem_cons_of_mem _ (List.mem_cons_of_mem _ (List.mem_cons_of_mem _ (List.mem_cons_of_mem _ (List.mem_cons_of_mem _ (List.mem_cons_of_mem _ (List.mem_cons_of_mem _ (List.mem_cons_of_mem _ (List.mem_cons_of_mem _ List.mem_cons_self)))))))))), rfl⟩ | exact .inr ⟨_, (List.mem_cons_of_mem _ (List.mem_cons_of_mem _ (List.mem_cons_of_mem _ (List.mem_cons_of_mem _ (List.mem_cons_of_mem _ (List.mem_cons_of_mem _ (List.mem_cons_of_mem _ (List.mem_cons_of_mem _ (List.mem_cons_of_mem _ (List.mem_cons_of_mem _ (List.mem_cons_of_mem _ List.mem_cons_self))))))))))), rfl⟩ | exact .inr ⟨_, (List.mem_cons_of_mem _ (List.mem_cons_of_mem _ (List.mem_cons_of_mem _ (List.mem_cons_of_mem _ (List.mem_cons_of_mem _ (List.mem_cons_of_mem _ (List.mem_cons_of_mem _ (List.mem_cons_of_mem _ (List.mem_cons_of_mem _ (List.mem_cons_of_mem _ (List.mem_cons_of_mem _ (List.mem_cons_of_mem _ List.mem_cons_self)))))))))))), rfl⟩ | exact .inr ⟨_, (List.mem_cons_of_mem _ (List.mem_cons_of_mem _ (List.mem_cons_of_mem _ (List.mem_cons_of_mem _ (List.mem_cons_of_mem _ (List.mem_cons_of_mem _ (List.mem_cons_of_mem _ (List.mem_cons_of_mem _ (List.mem_cons_of_mem _ (List.mem_cons_of_mem _ (List.mem_cons_of_mem _ (List.mem_cons_of_mem _ (List.mem_cons_of_mem _ List.mem_cons_self))))))))))))), rfl⟩ | exact .inr ⟨_, (List.mem_cons_of_mem _ (List.mem_cons_of_mem _ (List.mem_cons_of_mem _ (List.mem_cons_of_mem _ (List.mem_cons_of_mem _ (List.mem_cons_of_mem _ (List.mem_cons_of_mem _ (List.mem_cons_of_mem _ (List.mem_cons_of_mem _ (List.mem_cons_of_mem _ (List.mem_cons_of_mem _ (List.mem_cons_of_mem _ (List.mem_cons_of_mem _ (List.mem_cons_of_mem _ List.mem_cons_self)))))))))))))), rfl⟩ | exact .inr ⟨_, (List.mem_cons_of_mem _ (List.mem_cons_of_mem _ (List.mem_cons_of_mem _ (List.mem_cons_of_mem _ (List.mem_cons_of_mem _ (List.mem_cons_of_mem _ (List.mem_cons_of_mem _ (List.mem_cons_of_mem _ (List.mem_cons_of_mem _ (List.mem_cons_of_mem _ (List.mem_cons_of_mem _ (List.mem_cons_of_mem _ (List.mem_cons_of_mem _ (List.mem_cons_of_mem _ (List.mem_cons_of_mem _ List.mem_cons_self))))))))))))))), rfl⟩) (by intro x hx; simp only [List.mem_cons, List.not_mem_nil, or_false] at hx; rcases hx with rfl | rfl | rfl | rfl | rfl | rfl | rfl | rfl | rfl | rfl | rfl | rfl | rfl | rfl | rfl | rfl | rfl <;> repeat first|assumption|exact m0_|apply m1_) (fun _ => (by repeat (first | exact List.Perm.nil | refine pk_ (by repeat (first | exact Rem_.here | apply Rem_.there)) ?_))) ?_
 intro z140
 refine d_<|b_<|c_<|a_<|q_ 1 rfl<|d_<|b_<|k_<|fD_ (rs := [.tmp 4]) rfl (RV.tmp rfl RV.nil) (⟨0, z140.1.1, z140.1.2, q.core, q.core.stamp, t, mk, z140.2, hq.1, hq.2.1, hq4⟩) (by unfold rqT; rw [if_pos rfl]; repeat (first | exact List.nil_sublist _ | exact List.Sublist.refl _ | apply List.Sublist.cons_cons | apply List.Sublist.cons)) dt_ ?_
 exact rfl
end
theorem keysC_s {om : List (Int × Core)} {b z : Nat} (hl : om.length ≤ 1000000) : Spec Tryz.prog 318 [.fn (.func 374) [] [ptr z]] [.rd z 113 [mapV b], .rdpc (tmPc b intK intOk coE om)] (fun v : Value => [own 3 1 v ((srt (om.map (·.1))).map fun x => [int x])]) (fun v => .v v) :=
  Spec.tmRead (σ1 := [.rd z 113 [mapV b]]) fun tm htm => by
    have h := ja_ (V := id) (m := rawM tm) (b := b) (z := z) (by rw [← htm] at hl; simpa [rawM, plM] using hl)
    rw [eG_, ← fP_, htm] at h
    exact h
theorem keysS_s {om : List (Int × Option Nat)} {b z : Nat} (hl : om.length ≤ 1000000) : Spec Tryz.prog 213 [.fn (.func 333) [] [ptr z]] [.rd z 151 [mapV b], .rdpc (tmPc b intK intOk pE om)] (fun v : Value => [own 2 1 v ((srt (om.map (·.1))).map fun x => [int x])]) (fun v => .v v) :=
  Spec.tmRead (σ1 := [.rd z 151 [mapV b]]) fun tm htm => by
    have h := jc_ (V := id) (m := rawM tm) (b := b) (z := z) (by rw [← htm] at hl; simpa [rawM, plM] using hl)
    rw [eG_, ← fP_, htm] at h
    exact h
theorem srt4 : srt [4] = [4] := by simp [srt]
theorem srt0 : srt [] = [] := by simp [srt]
section
variable {p bd bt N me : Nat} {R : RI} {c : Core} {o : Abs} {st x : Int} {t d : Tg} {mk : Wo} {dr : Int}
theorem rquor_s  : Spec Tryz.prog 197 [ptr R.r] [.rd R.r 118 (R.cells p me dr o)] (fun _ : Unit => []) (fun _ => int 3) := by
 refine t_ Tryz.func197 rfl Tryz.ntmps197 rfl fun G w =>c_<|a_<|q_ 1 rfl<|d_<|b_<|c_<|a_<|q_ 3 rfl<|slvA (h_ (C := int 4) (g_ tabOk rfl rfl r0_ List.not_mem_nil rfl) rfl)<|slcA (ik_ (n := 4) (by omega)) ?_
 exact ap_<|fun _=>q_ 1 rfl<|d_<|b_<|k_<|f_ (rs := [.tmp 2]) rfl (RV.tmp rfl RV.nil) (()) sn_<|rfl
theorem ie_ (h1 : c.letter.size ≤ 1000) (h2 : c.text.size ≤ 1000) (hN : N ≤ 90000) (hm : me < 4) (hc : c.client = 4) : Spec Tryz.prog 262 [ptr R.r, coreA c] [wb p bd bt N, .rd R.r 118 (R.cells p me dr o), .rd R.vv 160 [int 4, mapV R.vm], .rdpc (tmPc R.vm paV paOk voE (vm1 (me : Int) st t mk))] (fun _ : Unit => [wb p bd bt (N + 1)]) (fun _ => boo false) := by
 refine t_ Tryz.func262 rfl Tryz.ntmps262 rfl fun G w =>c_<|a_<|eb_ (B_ (cs := c.cells.map .v) rfl) rfl rfl fun b3=>?_
 refine q_ 1 rfl<|d_<|b_<|c_<|ao_ (p := R.r ∉ [p, bd, bt]) (fun _ _ h => by
   intro hm
   have h2 := h.mem.ro (.rd R.r _ _) (by repeat first | exact List.mem_cons_self | apply List.mem_cons_of_mem) R.r (by simp [It.rids])
   exact h.mem.sep R.r (by simp [mids, It.mids, wbP, exP, tmPc, ownPc] at hm ⊢; grind) h2) fun hR => ?_
 refine ao_ (p := b3 ∉ [p, bd, bt]) (fun _ _ h => by
   have h1 := h.mem.nodup
   simp [mids, It.mids, ownPc, mapPc, tmPc, wbP, exP] at h1 ⊢
   grind) fun hB => ?_
 refine Q_ [p, bd, bt] (.q 0 (.q 1 (.q 2 (.q 3 (.q 4 (.q 5 (.q 6 (.q 7 (.q 8 (.q 9 (.q 12 (.e 10 (.e 11 (.e 13 (.q 14 (.q 15 .nil)))))))))))))))) (by kernel_rfl) (by kernel_rfl) ?_
 refine hxA fun hx9 => ?_
 refine qx_ 3 hx9 rfl<|sxvA rfl (h_ (C := ptr R.vv) (g_ tabOk rfl rfl r2_ (by exact hR) rfl) rfl) hx9 ?_
 refine qx_ 1 hx9 rfl<|sxvA rfl (h_ (C := int 4) (g_ tabOk rfl rfl l0_ (by exact hB) rfl) (congrArg int hc)) hx9 ?_
 refine qx_ 1 hx9 rfl<|sxvA rfl (h_ (C := int c.stamp) (g_ tabOk rfl rfl l0_ (by exact hB) rfl) rfl) hx9 ?_
 refine qx_ 1 hx9 rfl<|sxvA rfl (h_ (C := coreA c) (r_ tabOk rfl rfl rfl l0_ (by exact hB) rfl) rfl) hx9 ?_
 refine qx_ 1 hx9 rfl<|D_ rfl (rcd_s (p := p) (bd := bd) (bt := bt) (N := N) (me := me) (R := R) (c := c) (dr := dr) (o := o) h1 h2 (by omega)) (by simp [mids, It.mids, wbP, exP]) Casts.refl (by kernel_rfl) rfl rfl rfl ?_
 refine aG_ (ys := [.rd R.r 118 (R.cells p me dr o)]) rfl i1_ (by intro y hy; rw [List.mem_singleton] at hy; subst hy; exact ⟨i2_, by intro h; cases h⟩) rfl (fun _ => rfl) ?_
 intro z15
 refine ⟨_, u1_, D_ rfl (jY_ (v := R.vv) (m := R.vm) (self_ := (me : Int)) (st := st) (st' := c.stamp) (t := t) (t' := z15) (mk := mk) (by omega) (by omega)) (by simp [mids, It.mids]) Casts.refl (by kernel_rfl) rfl rfl rfl ?_⟩
 refine ap_<|fun z16=>D_ rfl (rquor_s (p := p) (me := me) (R := R) (dr := dr) (o := o)) (by simp [mids, It.mids]) Casts.refl (by kernel_rfl) rfl rfl rfl ?_
 refine ap_<|fun _=>hxA fun hx9 => ?_
 exact qx_ 2 hx9 rfl<|F_<|b_<|k_<|f_ (rs := [.tmp 4]) rfl (RV.tmp rfl RV.nil) (()) (sk_ (sc_ sn_))<|congrArg (fun b => Abs.v (Value.bool b)) (decide_eq_false (by have := z16.2; omega))
theorem rcli_s  : Spec Tryz.prog 255 [ptr R.r] [.rd R.r 118 (R.cells p me dr o), .rdpc (tmPc R.pd intK intOk coE [(4, c)])] (fun v : Value => [own 3 1 v [[int 4]]]) (fun v => .v v) := by
 refine t_ Tryz.func255 rfl Tryz.ntmps255 rfl fun G w =>c_<|a_<|q_ 1 rfl<|d_<|b_<|c_<|a_<|q_ 3 rfl<|slvA (h_ (C := mapV R.pd) (g_ tabOk rfl rfl r0_ List.not_mem_nil rfl) rfl)<|slcA (keys_2_s (b := R.pd)) ?_
 refine aftM ?_
 intro zk
 refine slcA (keysC_s (om := [(4, c)]) (b := R.pd) (z := zk) (by simp)) ?_
 refine aftM ?_
 intro r8
 rw [show (srt ([((4 : Int), c)].map (·.1))).map (fun x => [int x]) = [[int 4]] from by show (srt [4]).map _ = _; rw [srt4]; rfl]
 exact q_ 1 rfl<|d_<|b_<|k_<|f_ (rs := [.tmp 2]) rfl (RV.tmp rfl RV.nil) (r8) (sc_ sn_)<|rfl
set_option maxHeartbeats 1000000 in
theorem rwait0_s (h1 : c.letter.size ≤ 1000) (h2 : c.text.size ≤ 1000) (hN : N ≤ 90000) (hm : me < 4) (hc : c.client = 4) : Spec Tryz.prog 195 [ptr R.r] [wb p bd bt N, .rd R.r 118 (R.cells p me dr o), .rdpc (tmPc R.pd intK intOk coE [(4, c)]), .rd R.vv 160 [int 4, mapV R.vm], .rdpc (tmPc R.vm paV paOk voE (vm1 (me : Int) st t mk))] (fun _ : Unit => [wb p bd bt (N + 1)]) (fun _ => boo false) := by
 refine t_ Tryz.func195 rfl Tryz.ntmps195 rfl fun G w =>c_<|a_<|q_ 1 rfl<|d_<|b_<|c_<|c_<|a_<|q_ 1 rfl<|slcA (rcli_s (p := p) (me := me) (R := R) (c := c) (dr := dr) (o := o)) ?_
 refine aftM ?_
 intro r6
 refine slvA (aJ_ (m := 1) rfl i0_ Tryz.underlying22 rfl)<|q_ 1 rfl<|d_<|b_<|u_<|P_ (ι := Nat) (fun z => [own 3 1 r6 [[int 4]], wb p bd bt (N + z), .rd R.r 118 (R.cells p me dr o), .rdpc (tmPc R.pd intK intOk coE [(4, c)]), .rd R.vv 160 [int 4, mapV R.vm], .rdpc (tmPc R.vm paV paOk voE (vm1 (me : Int) st t mk))]) (fun z => [(0, ptr R.r), (6, .v r6), (7, int (1 : Nat)), (8, int (z : Nat))]) (fun z => z ≤ 1) (fun z => 1 - z) (0) (Nat.zero_le _) (by exact ⟨rfl, rfl, rfl, rfl, trivial⟩) sr_ ?_
 intro z hz
 refine c_<|a_<|q_ 1 rfl<|d_<|b_<|c_<|l_ rfl ?_ ?_
 rotate_left
 ·intro hc9
  have hz1 : z = 1 := by omega
  subst hz1
  exact N_<|j_ nofun<|j_ nofun<|M_<|b_<|c_<|a_<|q_ 1 rfl<|d_<|b_<|k_<|f_ (rs := [.tmp 2]) rfl (RV.tmp rfl RV.nil) (()) (sk_ (sc_ sn_))<|rfl
 intro hc9
 have hz0 : ((z : Nat) : Int) = ((0 : Nat) : Int) := by omega
 refine o_<|b_<|c_<|u_<|c_<|a_<|slvA (aU_ (q := 0) tabOk Tryz.underlying22 rfl rfl l0_ rfl hz0 (by simp) rfl rfl) ?_
 refine slvA (h_ (C := int 4) (cI_ (q := 0) (s := 1) (jj := 0) (cs := [int 4]) tabOk rfl rfl l0_ rfl rfl rfl) rfl)<|q_ 1 rfl<|d_<|b_<|c_<|a_<|q_ 4 rfl<|slvA (h_ (C := mapV R.pd) (g_ tabOk rfl rfl r2_ List.not_mem_nil rfl) rfl)<|q_ 1 rfl<|slvA (h_ (C := coreA c) (aX_ (a := (4 : Int)) (m := [(4, c)]) (enc := coE) (z0 := co0) (zv := zco) (a0_ Tryz.underlying3) Tryz.underlying113 hh_ hi_ rfl r3_ List.not_mem_nil rfl is_v (by unfold intOk; simp only [InR, lo, hi]; omega)) rfl) ?_
 refine slcA (ie_ (p := p) (bd := bd) (bt := bt) (N := N + z) (me := me) (R := R) (c := c) (dr := dr) (o := o) (st := st) (t := t) (mk := mk) h1 h2 (by omega) hm hc) ?_
 refine aG_ (ys := [.rd R.r 118 (R.cells p me dr o), .rd R.vv 160 [int 4, mapV R.vm], .rdpc (tmPc R.vm paV paOk voE (vm1 (me : Int) st t mk))]) rfl i1_ (by intro y hy; simp only [List.mem_cons, List.not_mem_nil, or_false] at hy; rcases hy with rfl | rfl | rfl <;> exact ⟨(by repeat first|assumption|exact m0_|apply m1_), by intro h; cases h⟩) rfl (fun _ => rfl) ?_
 intro _
 refine ⟨_, u1_, d_<|b_<|O_ rfl<|o_<|w_<|b_<|a_<|slvA (y_ rfl rfl (by simp only [InR, lo, hi]; omega)) ?_⟩
 refine q_ 1 rfl<|d_<|I_ (z + 1) (by omega) (by omega) (by exact ⟨rfl, rfl, rfl, rfl, trivial⟩) sr_
set_option maxHeartbeats 1000000 in
theorem rready_s (h1 : c.letter.size ≤ 1000) (h2 : c.text.size ≤ 1000) (hN : N ≤ 90000) (hm : me < 4) (hc : c.client = 4) : Spec Tryz.prog 193 [ptr R.r] [wb p bd bt N, .rd R.r 118 (R.cells p me dr o), .rdpc (tmPc R.pd intK intOk coE [(4, c)]), .rd R.vv 160 [int 4, mapV R.vm], .rdpc (tmPc R.vm paV paOk voE (vm1 (me : Int) st t mk))] (fun _ : Unit => [wb p bd bt (N + 1)]) (fun _ => .v (.slice none 0 0)) := by
 refine t_ Tryz.func193 rfl Tryz.ntmps193 rfl fun G w =>c_<|a_<|q_ 1 rfl<|d_<|b_<|c_<|a_<|q_ 1 rfl<|d_<|b_<|c_<|c_<|a_<|q_ 1 rfl<|slcA (rcli_s (p := p) (me := me) (R := R) (c := c) (dr := dr) (o := o)) ?_
 refine aftM ?_
 intro r9
 refine slvA (aJ_ (m := 1) rfl i0_ Tryz.underlying22 rfl)<|q_ 1 rfl<|d_<|b_<|u_<|P_ (ι := Nat) (fun z => [own 3 1 r9 [[int 4]], wb p bd bt (N + z), .rd R.r 118 (R.cells p me dr o), .rdpc (tmPc R.pd intK intOk coE [(4, c)]), .rd R.vv 160 [int 4, mapV R.vm], .rdpc (tmPc R.vm paV paOk voE (vm1 (me : Int) st t mk))]) (fun z => [(0, ptr R.r), (3, .v (.slice none 0 0)), (9, .v r9), (10, int (1 : Nat)), (11, int (z : Nat))]) (fun z => z ≤ 1) (fun z => 1 - z) (0) (Nat.zero_le _) (by exact ⟨rfl, rfl, rfl, rfl, rfl, trivial⟩) sr_ ?_
 intro z hz
 refine c_<|a_<|q_ 1 rfl<|d_<|b_<|c_<|l_ rfl ?_ ?_
 rotate_left
 ·intro hc12
  have hz1 : z = 1 := by omega
  subst hz1
  exact N_<|j_ nofun<|j_ nofun<|M_<|b_<|c_<|a_<|q_ 2 rfl<|d_<|b_<|k_<|f_ (rs := [.tmp 2]) rfl (RV.tmp rfl RV.nil) (()) (sk_ (sc_ sn_))<|rfl
 intro hc12
 have hz0 : ((z : Nat) : Int) = ((0 : Nat) : Int) := by omega
 refine o_<|b_<|c_<|u_<|c_<|a_<|slvA (aU_ (q := 0) tabOk Tryz.underlying22 rfl rfl l0_ rfl hz0 (by simp) rfl rfl) ?_
 refine slvA (h_ (C := int 4) (cI_ (q := 0) (s := 1) (jj := 0) (cs := [int 4]) tabOk rfl rfl l0_ rfl rfl rfl) rfl)<|q_ 1 rfl<|d_<|b_<|c_<|a_<|q_ 3 rfl<|slvA (h_ (C := mapV R.pd) (g_ tabOk rfl rfl r2_ List.not_mem_nil rfl) rfl)<|q_ 1 rfl<|slvA (h_ (C := coreA c) (aX_ (a := (4 : Int)) (m := [(4, c)]) (enc := coE) (z0 := co0) (zv := zco) (a0_ Tryz.underlying3) Tryz.underlying113 hh_ hi_ rfl r3_ List.not_mem_nil rfl is_v (by unfold intOk; simp only [InR, lo, hi]; omega)) rfl) ?_
 refine eb_ (C_ tabOk rfl) rfl rfl fun b6=>?_
 refine e_ (m_ (L' := c.cells.map .v) tabOk rfl rfl rfl u0_ rfl (Nat.le_of_ble_eq_true rfl) rfl (by exact p_ rfl)) rfl rfl ?_
 refine d_<|b_<|c_<|ao_ (p := b6 ∉ [p, bd, bt]) (fun _ _ h => by
   have h1 := h.mem.nodup
   simp [mids, It.mids, ownPc, mapPc, tmPc, wbP, exP] at h1 ⊢
   grind) fun hB => ?_
 refine Q_ [p, bd, bt] (.q 0 (.q 1 (.e 2 (.q 3 (.q 4 (.q 5 (.q 6 (.q 7 (.q 8 (.e 9 (.q 10 (.q 11 .nil)))))))))))) (by kernel_rfl) (by kernel_rfl) ?_
 refine hxA fun hx9 => ?_
 refine qx_ 1 hx9 rfl<|sxvA rfl (h_ (C := coreA c) (r_ tabOk rfl rfl rfl l0_ hB rfl) rfl) hx9<|D_ rfl (ie_ (p := p) (bd := bd) (bt := bt) (N := N + z) (me := me) (R := R) (c := c) (dr := dr) (o := o) (st := st) (t := t) (mk := mk) h1 h2 (by omega) hm hc) (by simp [mids, It.mids, wbP, exP]) Casts.refl (by kernel_rfl) rfl rfl rfl ?_
 refine aG_ (ys := [.rd R.r 118 (R.cells p me dr o), .rd R.vv 160 [int 4, mapV R.vm], .rdpc (tmPc R.vm paV paOk voE (vm1 (me : Int) st t mk))]) rfl i2_ (by intro y hy; simp only [List.mem_cons, List.not_mem_nil, or_false] at hy; rcases hy with rfl | rfl | rfl <;> exact ⟨(by repeat first|assumption|exact m0_|apply m1_), by intro h; cases h⟩) rfl (fun _ => rfl) ?_
 intro _
 refine ⟨_, u2_, hxA fun hx9 => ?_⟩
 refine qx_ 6 hx9 rfl<|bi_ rfl rfl rfl<|qx_ 2 hx9 rfl<|F_<|b_<|O_ rfl<|o_<|w_<|b_<|a_<|slvA (y_ rfl rfl (by simp only [InR, lo, hi]; omega)) ?_
 refine q_ 1 rfl<|d_<|I_ (z + 1) (by omega) (by omega) (by exact ⟨rfl, rfl, rfl, rfl, rfl, trivial⟩) (sk_ sr_)
theorem tmstop_s  : Spec Tryz.prog 114 [ptr R.t] [.blk R.t 173 [int 32, int 0]] (fun _ : Unit => [.blk R.t 173 [int 32, int 0]]) (fun _ => .tup []) := by
 refine t_ Tryz.func114 rfl Tryz.ntmps114 rfl fun G w =>c_<|a_<|q_ 1 rfl<|slvA (bK_ rfl rfl (by kernel_rfl)) ?_
 refine d_<|b_<|U_ rfl<|a_<|q_ 3 rfl<|e_ (m_ (L' := [int 32, int 0]) tabOk rfl rfl rfl u0_ rfl (Nat.le_of_ble_eq_true rfl) rfl rfl) rfl rfl<|d_<|b6_ (rs := []) rfl RV.nil (()) sr_ (by simp [It.rids]) ?_
 exact rfl
theorem rwait_s (h1 : c.letter.size ≤ 1000) (h2 : c.text.size ≤ 1000) (hN : N ≤ 90000) (hm : me < 4) (hc : c.client = 4) : Spec Tryz.prog 129 [ptr R.r] [.blk R.t 173 [int 32, int 0], wb p bd bt N, .rd R.r 118 (R.cells p me dr o), .rdpc (tmPc R.pd intK intOk coE [(4, c)]), .rd R.vv 160 [int 4, mapV R.vm], .rdpc (tmPc R.vm paV paOk voE (vm1 (me : Int) st t mk))] (fun _ : Unit => [.blk R.t 173 [int 32, int 0], wb p bd bt (N + 1)]) (fun _ => .tup []) := by
 refine t_ Tryz.func129 rfl Tryz.ntmps129 rfl fun G w =>c_<|c_<|ao_ (p := R.r ∉ [p, bd, bt]) (fun _ _ h => by
   intro hm
   have h2 := h.mem.ro (.rd R.r _ _) (by repeat first | exact List.mem_cons_self | apply List.mem_cons_of_mem) R.r (by simp [It.rids])
   exact h.mem.sep R.r (by simp [mids, It.mids, wbP, exP, tmPc, ownPc] at hm ⊢; grind) h2) fun hR => ?_
 refine Q_ [p, bd, bt] (.q 0 (.q 1 (.q 2 (.q 3 (.q 4 (.q 5 (.e 6 (.q 7 (.q 8 (.q 9 (.q 10 (.q 11 (.q 12 (.q 13 (.q 14 (.q 15 (.q 16 (.q 17 (.q 18 (.q 19 (.q 20 (.q 21 (.q 22 (.q 24 (.e 23 (.e 25 (.q 26 (.q 27 (.q 28 .nil))))))))))))))))))))))))))))) (by kernel_rfl) (by kernel_rfl) ?_
 refine hxA fun hx9 => ?_
 refine qx_ 3 hx9 rfl<|sxvA rfl (h_ (C := boo true) (g_ tabOk rfl rfl r2_ hR rfl) rfl) hx9<|qx_ 2 hx9 rfl<|D_ rfl (rwait0_s (p := p) (bd := bd) (bt := bt) (N := N) (me := me) (R := R) (c := c) (dr := dr) (o := o) (st := st) (t := t) (mk := mk) h1 h2 hN hm hc) (by simp [mids, It.mids, wbP, exP]) Casts.refl (by kernel_rfl) rfl rfl rfl ?_
 refine aG_ (ys := [.rd R.r 118 (R.cells p me dr o), .rdpc (tmPc R.pd intK intOk coE [(4, c)]), .rd R.vv 160 [int 4, mapV R.vm], .rdpc (tmPc R.vm paV paOk voE (vm1 (me : Int) st t mk))]) rfl i1_ (by intro y hy; simp only [List.mem_cons, List.not_mem_nil, or_false] at hy; rcases hy with rfl | rfl | rfl | rfl <;> exact ⟨(by repeat first|assumption|exact m0_|apply m1_), by intro h; cases h⟩) rfl (fun _ => rfl) ?_
 intro _
 refine ⟨_, u1_, hxA fun hx9 => ?_⟩
 refine qx_ 5 hx9 rfl<|sxvA rfl (h_ (C := boo true) (g_ tabOk rfl rfl r2_ hR rfl) rfl) hx9<|sxvA rfl (a4_ rfl) hx9<|qx_ 10 hx9 rfl<|bi_ rfl rfl rfl<|bi_ rfl rfl rfl<|qx_ 3 hx9 rfl<|F_<|b_<|O_ rfl<|o_<|b_<|a_<|q_ 3 rfl<|slvA (h_ (C := ptr R.t) (g_ tabOk rfl rfl r2_ List.not_mem_nil rfl) rfl)<|slcA (tmstop_s (R := R)) ?_
 refine x_ rfl i0_ (fun _ => rfl)<|fun _=>⟨_, u0_, d_<|b6_ (rs := []) rfl RV.nil (()) (sc_ (sc_ sn_)) (by simp [It.rids]) ?_⟩
 exact rfl
end
end Go.Proofs.YtjclgkddfjbdiaaGreatDoor.A
namespace Go.Proofs.YtjclgkddfjbdiaaGreatDoor.A
open Go.RowKit Go.Maps Go.Sort Go.Shelf
theorem kK_ {K : List Nat} {w : World} : ∀ {xs : List Int} {us : List Value}, repss K w 1 (xs.map fun x => [int x]) us → us = xs.map (Value.int .i64)
  | [], us, h => h
  | x :: xs, us, h => by
    obtain ⟨us1, us2, rfl, hl, h1, h2⟩ := h
    obtain ⟨u, us3, rfl, h3, h4⟩ := h1
    have h3 : u = Value.int .i64 x := h3
    have h4 : us3 = [] := h4
    subst h3 h4
    rw [kK_ h2]
    rfl
theorem sort64_s {v : Value} {xs : List Int} (hl : xs.length ≤ 1000000) : Spec Tryz.prog 294 [.v v] [own 2 1 v (xs.map fun x => [int x])] (fun _ : Unit => [own 2 1 v ((srt xs).map fun x => [int x])]) (fun _ => .tup []) := fun G w vals hm hv => by
  obtain ⟨_, _, rfl, h4, h5⟩ := hv
  have h4 : _ = v := h4
  have h5 : _ = [] := h5
  subst h4 h5
  obtain ⟨us, hown, hr⟩ : (ownPc 2 1 _ (xs.map fun x => [int x])).p _ w := hm.hold (own 2 1 _ (xs.map fun x => [int x])) List.mem_cons_self
  have hus := kK_ hr
  subst hus
  have hlen : (xs.map fun x => [int x]).length = xs.length := List.length_map _
  rw [hlen] at hown
  rcases hown.2 with ⟨h0, h1⟩ | ⟨gb, cap, cur, h0, hb, hg, hn, hc, hcs, htk⟩
  · subst h0
    have h2 : xs = [] := List.length_eq_zero_iff.1 h1
    subst h2
    refine (AnyM.slices_Sort_int_none ch_ none 0 w).mono fun e w' ⟨he, hw⟩ => ?_
    subst he hw
    exact ⟨(), _, rfl, by simp [It.rids], by rw [show srt ([] : List Int) = [] by simp [srt]]; exact hm, ⟨[], rfl, rfl⟩⟩
  · subst h0
    rw [Nat.mul_one] at htk hcs
    have hgl := aR_ hg
    refine (AnyM.slices_Sort_int ch_ gb 0 cap xs w (holds_of_blockI hg htk) hgl (by omega)).mono fun e w' ⟨he, n, os, hw⟩ => ?_
    subst he
    have hs : (xs.mergeSort fun x y => decide (x ≤ y)) = srt xs := rfl
    rw [hs] at hw
    have hgb := grownBy_sortedI (w := w) (g := gb) (n := n) (os := os) (srt xs).toArray
    have hx : Ext (own 2 1 (.slice (some ⟨gb, 0, none⟩) xs.length cap) (xs.map fun x => [int x])).mids w w' := by
      subst hw
      exact ⟨hgb.os, hgb.tape, hgb.output, hgb.size, fun k hk hn => hgb.block k hk (fun h9 => hn (by cases h9; simp [It.mids, ownPc, Value.ownBlock]))⟩
    have hm2 := hm.upd (y := own 2 1 (.slice (some ⟨gb, 0, none⟩) xs.length cap) ((srt xs).map fun x => [int x])) Upd.here hx aQ_ (fun k hk => .inl hk) rfl fun _ => ⟨(srt xs).map (Value.int .i64), by
      have h9 := ownsRow_sortedI (w := w) (base := 0) (n := n) (e := 2) (os := os) (ts := srt xs) (b7_ xs) hb hg hn hc (by rw [hcs, Nat.mul_one])
      rw [← hw] at h9
      rw [List.length_map, b7_]
      exact h9, dM_⟩
    exact ⟨(), _, rfl, by simp [It.rids], hm2.1, ⟨[], rfl, rfl⟩⟩
theorem opt_some {α : Type} {o : Option α} (h : o.isSome = true) : ∃ v, o = some v := Option.isSome_iff_exists.1 h
theorem opt_none {α : Type} {o : Option α} (h : o.isSome = false) : o = none := by simpa using h
theorem stb {me : Nat} {ow : Ow} {k : Int} {vs : List (List Pnt)} (hm : me < 4) : bestF [(0, ow)] vs (votesI 4 me [(0, ow)] vs (me : Nat)) 0 k = none := by
  rw [gi_ hm]
  unfold bestF ownP
  rw [show srt ([((0 : Int), ow)].map (·.1)) = [0] from by simp [srt]]
  simp
theorem pts_new {me : Nat} {ow : Ow} (hm : me < 4) : PtsOk 4 me [(0, ow)] (List.replicate 4 []) where
  n1 := by omega
  n7 := by omega
  slf := hm
  len := rfl
  rise := fun l hl => by rw [List.eq_of_mem_replicate hl]; exact List.Pairwise.nil
  few := fun l hl => by rw [List.eq_of_mem_replicate hl]; exact Nat.zero_le _
  ins := fun l hl x hx => by rw [List.eq_of_mem_replicate hl] at hx; cases hx
  keys := fun e he => by rw [List.mem_singleton] at he; subst he; simp only [InR, lo, hi]; omega
  nd := by simp
  om := by simp
section
variable {p bd bt N me k : Nat} {R : RI} {c : Core} {o : Abs} {st x : Int} {t d : Tg} {mk : Wo} {dr : Int} {caps : List Abs}
theorem idf0_s  : Spec Tryz.prog 309 [.v (.slice none 0 0), .fn (.func k) [] caps] [] (fun _ : Unit => []) (fun _ => int (-1)) := by
 refine t_ Tryz.func309 rfl Tryz.ntmps309 rfl fun G w =>c_<|a_<|q_ 1 rfl<|d_<|b_<|c_<|c_<|a_<|q_ 1 rfl<|slvA (ae_ (m := 0) rfl Tryz.underlying282)<|q_ 1 rfl<|d_<|b_<|u_<|P_ (ι := Unit) (fun z => []) (fun z => [(7, int (0 : Nat)), (8, int 0)]) (fun z => True) (fun z => 0) (()) (trivial) (by exact ⟨rfl, rfl, trivial⟩) sn_ ?_
 intro z hz
 refine c_<|a_<|q_ 1 rfl<|d_<|b_<|c_<|l_ rfl (by intro hc9; exfalso; omega) ?_
 intro hc9
 exact N_<|j_ nofun<|j_ nofun<|M_<|b_<|c_<|a_<|q_ 1 rfl<|d_<|b_<|k_<|f_ (rs := [.tmp 4]) rfl (RV.tmp rfl RV.nil) (()) sn_<|rfl
theorem dlf0_s  : Spec Tryz.prog 233 [.v (.slice none 0 0), .fn (.func k) [] caps] [] (fun _ : Unit => []) (fun _ => .v (.slice none 0 0)) := by
 refine t_ Tryz.func233 rfl Tryz.ntmps233 rfl fun G w =>c_<|a_<|q_ 1 rfl<|d_<|b_<|c_<|a_<|q_ 2 rfl<|slcA (idf0_s) ?_
 refine ap_<|fun _=>q_ 1 rfl<|d_<|b_<|c_<|c_<|a_<|q_ 2 rfl<|d_<|b_<|l_ rfl ?_ (by intro hc12; exfalso; omega)
 intro hc12
 exact c_<|a_<|q_ 2 rfl<|d_<|b_<|k_<|j_ nofun<|f_ (rs := [.tmp 4]) rfl (RV.tmp rfl RV.nil) (()) sn_<|rfl
theorem hvw0_s  : Spec Tryz.prog 234 [ptr R.h, int 0] [.pc (tmPc R.hm intK intOk pE []), .rd R.h 167 [bkI p, int 4, mapV R.hm, .v R.hv]] (fun _ : Unit => [.pc (tmPc R.hm intK intOk pE [])]) (fun _ => .v (.slice none 0 0)) := by
 refine t_ Tryz.func234 rfl Tryz.ntmps234 rfl fun G w =>c_<|a_<|q_ 1 rfl<|d_<|b_<|c_<|c_<|a_<|q_ 1 rfl<|slvA (aD_ rfl rfl (by kernel_rfl)) ?_
 refine d_<|b_<|O_ rfl<|o_<|b_<|c_<|a_<|q_ 1 rfl<|d_<|b_<|c_<|c_<|a_<|q_ 3 rfl<|slvA (h_ (C := mapV R.hm) (g_ tabOk rfl rfl r1_ List.not_mem_nil rfl) rfl)<|lr_ [] rfl fun tm htm => ?_
 obtain rfl : tm = [] := by simpa [plM] using htm
 refine eb_ (hd_ (K := intK) (V := id) (Good := intOk) (m := rawM []) Tryz.underlying164 rfl (fun _ => u1_)) rfl rfl fun r14=>?_
 refine d_<|b_<|u_<|P_ (ι := Unit) (fun z => [facts (facM pE []), .pc (rngPc R.hm r14 intK id intOk (rawM []) (rawM []) none), .rd R.h 167 [bkI p, int 4, mapV R.hm, .v R.hv]]) (fun z => [(1, int 0), (5, .v (.slice none 0 0)), (14, ptr r14)]) (fun z => True) (fun z => 0) (()) (trivial) (by exact ⟨rfl, rfl, rfl, trivial⟩) sr_ ?_
 intro z hz
 refine c_<|a_<|sleA (hY_ (K := intK) (V := id) (Good := intOk) (m := rawM []) (rest := rawM []) (cur := none) rfl (fun _ _ => u1_)) ?_
 rintro _ _ ⟨o, rest', ho, hpo, rfl, rfl⟩
 refine q_ 1 rfl<|d_<|b_<|c_<|ar_ rfl (by intro hc16; exfalso; obtain ⟨p, rfl⟩ := opt_some hc16; have := (hpo p rfl).1; simp [rawM] at this) ?_
 intro hc16
 have ho2 := opt_none hc16
 subst ho2
 have hr0 := ho rfl
 refine N_<|j_ nofun<|j_ nofun<|M_<|b_<|c_<|jE_ u1_<|ct_ [] (Re.tmIn (tm := []) htm) rfl<|aF_ 2 1<|a_<|q_ 1 rfl<|slcA (sort64_s (v := .slice none 0 0) (xs := []) (by simp)) ?_
 refine W_ [] (β := _) rfl (J_ rfl) ?_
 intro _
 exact d_<|b_<|c_<|a_<|q_ 2 rfl<|d_<|b_<|k_<|f_ (rs := [.tmp 4]) rfl (RV.tmp rfl RV.nil) (()) (sk_ (sc_ sn_))<|rfl
theorem hjoin0_s  : Spec Tryz.prog 166 [ptr R.h, int 0] [.pc (tmPc R.hm intK intOk pE []), .rd R.h 167 [bkI p, int 4, mapV R.hm, .v R.hv]] (fun _ : Unit => [.pc (tmPc R.hm intK intOk pE [])]) (fun _ => .tup [int 0, boo false]) := by
 refine t_ Tryz.func166 rfl Tryz.ntmps166 rfl fun G w =>c_<|a_<|eb_ (be_ rfl rfl) rfl rfl fun b3=>?_
 refine q_ 2 rfl<|d_<|b_<|c_<|c_<|a_<|q_ 1 rfl<|slvA (aD_ rfl rfl (by kernel_rfl)) ?_
 refine d_<|b_<|O_ rfl<|o_<|b_<|c_<|a_<|q_ 1 rfl<|slvA (h_ (C := int 0) (g_ tabOk rfl rfl l0_ List.not_mem_nil rfl) rfl)<|slcA (hvw0_s (p := p) (R := R)) ?_
 refine aG_ (ys := [.rd R.h 167 [bkI p, int 4, mapV R.hm, .v R.hv]]) rfl i1_ (by intro y hy; rw [List.mem_singleton] at hy; subst hy; exact ⟨i2_, by intro h; cases h⟩) rfl (fun _ => rfl) ?_
 intro _
 refine ⟨_, u1_, slvA (V_ rfl rfl)<|slcA (dlf0_s) ?_⟩
 refine ap_<|fun _=>q_ 1 rfl<|d_<|b_<|c_<|c_<|a_<|q_ 1 rfl<|slvA (ae_ (m := 0) rfl Tryz.underlying282)<|q_ 3 rfl<|slvA (h_ (C := int 4) (g_ tabOk rfl rfl r2_ List.not_mem_nil rfl) rfl)<|slcA (iC_ (n := 4) (by omega)) ?_
 refine ap_<|fun _=>q_ 1 rfl<|d_<|b_<|l_ rfl ?_ (by intro hc21; exfalso; exact hc21 (by decide))
 intro hc21
 exact c_<|a_<|q_ 2 rfl<|d_<|b_<|k_<|j_ nofun<|f_ (rs := [.tmp 4, .tmp 5]) rfl (RV.tmp rfl (RV.tmp rfl RV.nil)) (()) (sk_ (sc_ sn_))<|rfl
theorem rjoin_s  : Spec Tryz.prog 122 [ptr R.r] [.pc (tmPc R.hm intK intOk pE []), .rd R.h 167 [bkI p, int 4, mapV R.hm, .v R.hv], .rd R.r 118 (R.cells p me dr o)] (fun _ : Unit => [.pc (tmPc R.hm intK intOk pE [])]) (fun _ => boo false) := by
 refine t_ Tryz.func122 rfl Tryz.ntmps122 rfl fun G w =>c_<|a_<|q_ 1 rfl<|d_<|b_<|c_<|ao_ (p := R.r ∉ [R.hm]) (fun _ _ h => by
   intro hm
   have h2 := h.mem.ro (.rd R.r _ _) (by repeat first | exact List.mem_cons_self | apply List.mem_cons_of_mem) R.r (by simp [It.rids])
   exact h.mem.sep R.r (by simp [mids, It.mids, tmPc] at hm ⊢; grind) h2) fun hR => ?_
 refine Q_ [R.hm] (.q 0 (.q 1 (.q 2 (.q 3 (.q 4 (.q 5 (.q 6 (.q 7 (.e 8 (.q 9 (.q 10 (.q 11 (.q 12 (.q 13 .nil)))))))))))))) (by kernel_rfl) (by kernel_rfl) ?_
 refine hxA fun hx9 => ?_
 refine qx_ 3 hx9 rfl<|sxvA rfl (h_ (C := ptr R.h) (g_ tabOk rfl rfl r2_ hR rfl) rfl) hx9<|qx_ 3 hx9 rfl<|sxvA rfl (h_ (C := int 0) (g_ tabOk rfl rfl r2_ hR rfl) rfl) hx9<|D_ rfl (hjoin0_s (p := p) (R := R)) (by simp [mids, It.mids, tmPc]) Casts.refl (by kernel_rfl) rfl rfl rfl ?_
 refine aG_ (ys := [.rd R.h 167 [bkI p, int 4, mapV R.hm, .v R.hv]]) rfl i0_ (by intro y hy; rw [List.mem_singleton] at hy; subst hy; exact ⟨i1_, by intro h; cases h⟩) rfl (fun _ => rfl) ?_
 intro _
 refine ⟨_, u0_, hxA fun hx9 => ?_⟩
 exact qx_ 5 hx9 rfl<|F_<|b_<|c_<|c_<|a_<|q_ 1 rfl<|d_<|b_<|O_ rfl<|o_<|b_<|c_<|a_<|q_ 2 rfl<|d_<|b_<|k_<|f_ (rs := [.tmp 2]) rfl (RV.tmp rfl RV.nil) (()) (sc_ sn_)<|rfl
theorem llow_s  : Spec Tryz.prog 115 [ptr R.lg] [.rd R.lg 153 [int 4, int 0, mapV R.lm]] (fun _ : Unit => []) (fun _ => int 0) := by
 refine t_ Tryz.func115 rfl Tryz.ntmps115 rfl fun G w =>c_<|a_<|q_ 1 rfl<|d_<|b_<|c_<|c_<|a_<|q_ 1 rfl<|slvA (aD_ rfl rfl (by kernel_rfl)) ?_
 exact d_<|b_<|O_ rfl<|o_<|b_<|c_<|a_<|q_ 3 rfl<|slvA (h_ (C := int 0) (g_ tabOk rfl rfl r0_ List.not_mem_nil rfl) rfl)<|q_ 1 rfl<|d_<|b_<|k_<|f_ (rs := [.tmp 2]) rfl (RV.tmp rfl RV.nil) (()) sn_<|rfl
theorem lin_s  : Spec Tryz.prog 172 [ptr R.lg, int 1] [.rd R.lg 153 [int 4, int 0, mapV R.lm]] (fun _ : Unit => []) (fun _ => boo true) := by
 refine t_ Tryz.func172 rfl Tryz.ntmps172 rfl fun G w =>c_<|a_<|q_ 1 rfl<|d_<|b_<|c_<|a_<|q_ 1 rfl<|slvA (bK_ rfl rfl (by kernel_rfl)) ?_
 refine q_ 5 rfl<|slvA (h_ (C := int 0) (g_ tabOk rfl rfl r0_ List.not_mem_nil rfl) rfl)<|q_ 3 rfl<|A_ (t := 15) rfl ?_ (by intro hc15; exfalso; omega)
 intro hc15
 refine q_ 4 rfl<|slvA (h_ (C := int 0) (g_ tabOk rfl rfl r0_ List.not_mem_nil rfl) rfl)<|slvA (y_ rfl rfl (by simp only [InR, lo, hi]; omega)) ?_
 exact slvA (ep_ rfl rfl)<|q_ 3 rfl<|d_<|b_<|k_<|f_ (rs := [.tmp 4]) rfl (RV.tmp rfl RV.nil) (()) sn_<|congrArg (fun b => Abs.v (Value.bool b)) (by decide)
theorem ks_ (hm : me < 4) : Spec Tryz.prog 167 [ptr R.pp, int 0] [.rd R.pp 157 [int ((4 : Nat) : Int), int (me : Nat), mapV R.om, .v R.pv], .rdpc (ownPc 199 1 R.pv ((List.replicate 4 []).map fun l => [pntsA l])), .rdpc (tmPc R.om intK intOk Ow.enc [(0, R.ow)])] (fun _ : Unit => []) (fun _ => .tup [.agg (ptO none).abs, boo false]) := by
  have h := kr_ (n := 4) (me := me) (bp := R.pp) (bm := R.om) (vv := R.pv) (above := 0) (pts_new (ow := R.ow) hm)
  rw [stb hm] at h
  exact h
theorem kl_ (hm : me < 4) : Spec Tryz.prog 123 [ptr R.r] [.rd R.r 118 (R.cells p me dr o), .rd R.lg 153 [int 4, int 0, mapV R.lm], .rd R.pp 157 [int ((4 : Nat) : Int), int (me : Nat), mapV R.om, .v R.pv], .rdpc (ownPc 199 1 R.pv ((List.replicate 4 []).map fun l => [pntsA l])), .rdpc (tmPc R.om intK intOk Ow.enc [(0, R.ow)])] (fun _ : Unit => []) (fun _ => boo false) := by
 refine t_ Tryz.func123 rfl Tryz.ntmps123 rfl fun G w =>c_<|a_<|q_ 1 rfl<|d_<|b_<|bL_ (ι := Nat) (fun y => [.blk y 203 (ptO none).abs, .rd R.r 118 (R.cells p me dr o), .rd R.lg 153 [int 4, int 0, mapV R.lm], .rd R.pp 157 [int ((4 : Nat) : Int), int (me : Nat), mapV R.om, .v R.pv], .rdpc (ownPc 199 1 R.pv ((List.replicate 4 []).map fun l => [pntsA l])), .rdpc (tmPc R.om intK intOk Ow.enc [(0, R.ow)])]) (fun y => [(0, ptr R.r), (3, ptr y), (4, boo false)]) (fun y => True) ?_ ?_
 ·skip
  refine Q_ [] (.q 0 (.q 1 (.q 2 (.q 3 (.q 4 (.q 5 (.q 6 (.q 7 (.two 8 13 (.two 9 13 (.q 10 (.q 11 (.q 12 (.e 13 (.e 14 (.q 15 .nil)))))) (.e 9 (.q 10 (.q 11 (.q 12 (.e 14 (.q 15 .nil))))))) (.e 8 (.e 9 (.q 10 (.q 11 (.q 12 (.e 14 (.q 15 .nil)))))))))))))))) (by kernel_rfl) (by kernel_rfl) ?_
  refine qs_ 3 rfl<|hxA fun hx9 => ?_
  refine sxvA rfl (h_ (C := ptr R.pp) (g_ tabOk rfl rfl r0_ List.not_mem_nil rfl) rfl) hx9<|qs_ 3 rfl<|sxvA rfl (h_ (C := ptr R.lg) (g_ tabOk rfl rfl r0_ List.not_mem_nil rfl) rfl) hx9<|aV_ ?_ ?_
  ·skip
   refine D_ rfl (llow_s (R := R)) (by simp [mids, It.mids]) Casts.refl (by kernel_rfl) rfl rfl rfl ?_
   refine ap_<|fun _=>aV_ ?_ ?_
   ·skip
    refine D_ rfl (ks_ (R := R) hm) (by simp [mids, It.mids]) Casts.refl (by kernel_rfl) rfl rfl rfl ?_
    refine ap_<|fun _=>hxA fun hx9 => ?_
    refine qx_ 1 hx9 rfl<|qs_ 2 rfl<|aO_ tabOk rfl rfl rfl rfl fun b3 =>ex_ rfl (m_ (L' := (ptO none).abs) tabOk rfl rfl rfl u0_ (Pnt.size _) (Nat.le_of_ble_eq_true rfl) (Pnt.ones _) (by exact p_ (Pnt.size _))) (by simp) rfl rfl ?_
    refine hxA fun hx9 => ?_
    refine qx_ 1 hx9 rfl<|F_<|aw_ (b3) (trivial) (by exact ⟨rfl, rfl, rfl, trivial⟩) sr_
   skip
   refine aO_ tabOk rfl rfl rfl rfl fun b3 =>D_ rfl (ks_ (R := R) hm) (by simp [mids, It.mids]) Casts.refl (by kernel_rfl) rfl rfl rfl ?_
   refine ap_<|fun _=>hxA fun hx9 => ?_
   refine qx_ 3 hx9 rfl<|ex_ rfl (m_ (L' := (ptO none).abs) tabOk rfl rfl rfl u0_ (Pnt.size _) (Nat.le_of_ble_eq_true rfl) (Pnt.ones _) (by exact p_ (Pnt.size _))) (by simp) rfl rfl ?_
   refine hxA fun hx9 => ?_
   refine qx_ 1 hx9 rfl<|F_<|aw_ (b3) (trivial) (by exact ⟨rfl, rfl, rfl, trivial⟩) sr_
  skip
  refine aO_ tabOk rfl rfl rfl rfl fun b3 =>D_ rfl (llow_s (R := R)) (by simp [mids, It.mids]) Casts.refl (by kernel_rfl) rfl rfl rfl ?_
  refine ap_<|fun _=>D_ rfl (ks_ (R := R) hm) (by simp [mids, It.mids]) Casts.refl (by kernel_rfl) rfl rfl rfl ?_
  refine ap_<|fun _=>hxA fun hx9 => ?_
  refine qx_ 3 hx9 rfl<|ex_ rfl (m_ (L' := (ptO none).abs) tabOk rfl rfl rfl u0_ (Pnt.size _) (Nat.le_of_ble_eq_true rfl) (Pnt.ones _) (by exact p_ (Pnt.size _))) (by simp) rfl rfl ?_
  refine hxA fun hx9 => ?_
  refine qx_ 1 hx9 rfl<|F_<|aw_ (b3) (trivial) (by exact ⟨rfl, rfl, rfl, trivial⟩) sr_
 intro y hy
 refine c_<|c_<|Q_ [] (.q 0 (.q 1 (.q 2 (.q 3 (.q 4 (.q 5 (.q 6 (.q 7 (.q 8 (.e 9 (.q 10 (.q 11 .nil)))))))))))) (by kernel_rfl) (by kernel_rfl) ?_
 refine qs_ 1 rfl<|sxvA rfl (eo_ rfl) (by simp) ?_
 exact qs_ 7 rfl<|bi_ rfl rfl rfl<|qs_ 2 rfl<|F_<|b_<|U_ rfl<|c_<|a_<|q_ 1 rfl<|d_<|b_<|k_<|j_ nofun<|f_ (rs := [.tmp 2]) rfl (RV.tmp rfl RV.nil) (()) sn_<|rfl
end
section
variable {p bd bt N me k : Nat} {R : RI} {c : Core} {o : Abs} {st x : Int} {t d : Tg} {mk : Wo} {dr : Int} {caps : List Abs} {m : Msg}
theorem rseqs_s  : Spec Tryz.prog 201 [ptr R.lg] [.rd R.lg 153 [int 4, int 0, mapV R.lm], .rdpc (tmPc R.lm intK intOk pE [])] (fun v : Value => [own 2 1 v []]) (fun v => .v v) := by
 refine t_ Tryz.func201 rfl Tryz.ntmps201 rfl fun G w =>c_<|a_<|q_ 1 rfl<|d_<|b_<|c_<|c_<|a_<|q_ 1 rfl<|slvA (aD_ rfl rfl (by kernel_rfl)) ?_
 refine d_<|b_<|O_ rfl<|o_<|b_<|c_<|a_<|q_ 3 rfl<|slvA (h_ (C := mapV R.lm) (g_ tabOk rfl rfl r0_ List.not_mem_nil rfl) rfl)<|slcA (keys_0_s (b := R.lm)) ?_
 refine aftM ?_
 intro zk
 refine slcA (keysS_s (om := []) (b := R.lm) (z := zk) (by simp)) ?_
 refine aftM ?_
 intro r10
 rw [show (srt (([] : List (Int × Option Nat)).map (·.1))).map (fun x => [int x]) = [] from by show (srt []).map _ = _; rw [srt0]; rfl]
 exact q_ 1 rfl<|d_<|b_<|k_<|f_ (rs := [.tmp 2]) rfl (RV.tmp rfl RV.nil) (r10) (sc_ sn_)<|rfl
set_option maxHeartbeats 1000000 in
theorem kq_  : Spec Tryz.prog 132 [ptr R.r, .fn (.func k) [] caps] [.rd R.r 118 (R.cells p me dr o), .rd R.lg 153 [int 4, int 0, mapV R.lm], .rdpc (tmPc R.lm intK intOk pE [])] (fun _ : Unit => []) (fun _ => .tup []) := by
 refine t_ Tryz.func132 rfl Tryz.ntmps132 rfl fun G w =>c_<|c_<|a_<|q_ 3 rfl<|slvA (h_ (C := boo true) (g_ tabOk rfl rfl r0_ List.not_mem_nil rfl) rfl)<|slvA (a4_ rfl)<|d_<|b_<|O_ rfl<|o_<|b_<|c_<|a_<|q_ 3 rfl<|slvA (h_ (C := ptr R.lg) (g_ tabOk rfl rfl r0_ List.not_mem_nil rfl) rfl)<|slcA (rseqs_s (R := R)) ?_
 refine aftM ?_
 intro r20
 refine slvA (aJ_ (m := 0) rfl i0_ Tryz.underlying282 rfl)<|q_ 1 rfl<|d_<|b_<|u_<|P_ (ι := Unit) (fun z => [own 2 1 r20 [], .rd R.r 118 (R.cells p me dr o), .rd R.lg 153 [int 4, int 0, mapV R.lm], .rdpc (tmPc R.lm intK intOk pE [])]) (fun z => [(20, .v r20), (21, int (0 : Nat)), (22, int 0)]) (fun z => True) (fun z => 0) (()) (trivial) (by exact ⟨rfl, rfl, rfl, trivial⟩) sr_ ?_
 intro z hz
 refine c_<|a_<|q_ 1 rfl<|d_<|b_<|c_<|l_ rfl (by intro hc23; exfalso; omega) ?_
 intro hc23
 refine N_<|j_ nofun<|j_ nofun<|M_<|b6_ (rs := []) rfl RV.nil (()) sn_ (by simp [It.rids]) ?_
 exact rfl
theorem rcomm_s  : Spec Tryz.prog 125 [ptr R.r] [.rd R.r 118 (R.cells p me dr o), .rd R.lg 153 [int 4, int 0, mapV R.lm], .rdpc (tmPc R.lm intK intOk pE [])] (fun _ : Unit => []) (fun _ => boo false) := by
 refine t_ Tryz.func125 rfl Tryz.ntmps125 rfl fun G w =>c_<|a_<|eb_ (be_ rfl rfl) rfl rfl fun b1=>?_
 refine q_ 1 rfl<|d_<|b_<|c_<|a_<|eb_ (C_ tabOk rfl) rfl rfl fun b3=>?_
 refine e_ (m_ tabOk rfl rfl rfl u0_ rfl (Nat.le_of_ble_eq_true rfl) rfl rfl) rfl rfl<|d_<|b_<|c_<|a_<|slvA (h_ (C := ptr R.r) (g_ tabOk rfl rfl l1_ List.not_mem_nil rfl) rfl)<|slvA (V_ rfl rfl)<|slcA (kq_ (p := p) (me := me) (R := R) (dr := dr) (o := o) (k := 174) (caps := [ptr b1, ptr b3])) ?_
 exact ap_<|fun _=>d_<|b_<|c_<|a_<|slvA (h_ (C := boo false) (g_ tabOk rfl rfl l0_ List.not_mem_nil rfl) rfl)<|q_ 1 rfl<|d_<|b_<|k_<|f_ (rs := [.tmp 2]) rfl (RV.tmp rfl RV.nil) (()) sn_<|rfl
theorem rexec_s  : Spec Tryz.prog 126 [ptr R.r] [.rd R.r 118 (R.cells p me dr o), .rd R.lg 153 [int 4, int 0, mapV R.lm], .rdpc (tmPc R.lm intK intOk pE [])] (fun _ : Unit => []) (fun _ => boo false) := by
 refine t_ Tryz.func126 rfl Tryz.ntmps126 rfl fun G w =>c_<|a_<|eb_ (be_ rfl rfl) rfl rfl fun b1=>?_
 refine q_ 1 rfl<|d_<|b_<|c_<|a_<|eb_ (C_ tabOk rfl) rfl rfl fun b3=>?_
 refine e_ (m_ tabOk rfl rfl rfl u0_ rfl (Nat.le_of_ble_eq_true rfl) rfl rfl) rfl rfl<|d_<|b_<|c_<|a_<|slvA (h_ (C := ptr R.r) (g_ tabOk rfl rfl l1_ List.not_mem_nil rfl) rfl)<|slvA (V_ rfl rfl)<|slcA (kq_ (p := p) (me := me) (R := R) (dr := dr) (o := o) (k := 179) (caps := [ptr b1, ptr b3])) ?_
 exact ap_<|fun _=>d_<|b_<|c_<|a_<|slvA (h_ (C := boo false) (g_ tabOk rfl rfl l0_ List.not_mem_nil rfl) rfl)<|q_ 1 rfl<|d_<|b_<|k_<|f_ (rs := [.tmp 2]) rfl (RV.tmp rfl RV.nil) (()) sn_<|rfl
theorem rprim_s  : Spec Tryz.prog 176 [ptr R.r, int 0] [.rd R.r 118 (R.cells p me dr o)] (fun _ : Unit => []) (fun _ => int 0) := by
 refine t_ Tryz.func176 rfl Tryz.ntmps176 rfl fun G w =>c_<|a_<|q_ 1 rfl<|d_<|b_<|c_<|a_<|q_ 4 rfl<|slvA (h_ (C := int 4) (g_ tabOk rfl rfl r0_ List.not_mem_nil rfl) rfl)<|slvA (h_ (C := int 0) (c0_ rfl rfl (by omega)) (congrArg int (by decide))) ?_
 exact q_ 1 rfl<|d_<|b_<|k_<|f_ (rs := [.tmp 4]) rfl (RV.tmp rfl RV.nil) (()) sn_<|rfl
theorem rleads_s  : Spec Tryz.prog 186 [ptr R.r] [.rd R.r 118 (R.cells p me dr o)] (fun _ : Unit => []) (fun _ => boo (decide ((0 : Int) = (me : Nat)))) := by
 refine t_ Tryz.func186 rfl Tryz.ntmps186 rfl fun G w =>c_<|a_<|q_ 1 rfl<|d_<|b_<|c_<|Q_ [] (.q 0 (.q 1 (.q 2 (.q 3 (.q 4 (.q 6 (.q 7 (.q 8 (.q 9 (.e 5 (.q 10 (.q 11 .nil)))))))))))) (by kernel_rfl) (by kernel_rfl) ?_
 refine qs_ 4 rfl<|hx_ fun hx9 =>sxvA rfl (h_ (C := int 0) (g_ tabOk rfl rfl r0_ List.not_mem_nil rfl) rfl) hx9<|qs_ 3 rfl<|sxvA rfl (h_ (C := int (me : Nat)) (g_ tabOk rfl rfl r0_ List.not_mem_nil rfl) rfl) hx9<|D_ rfl (rprim_s (p := p) (me := me) (R := R) (dr := dr) (o := o)) (by simp [mids, It.mids]) Casts.refl (by kernel_rfl) rfl rfl rfl ?_
 exact ap_<|fun _=>qs_ 2 rfl<|F_<|b_<|k_<|f_ (rs := [.tmp 2]) rfl (RV.tmp rfl RV.nil) (()) sn_<|rfl
theorem rtop_s  : Spec Tryz.prog 192 [ptr R.r] [.rd R.r 118 (R.cells p me dr o)] (fun _ : Unit => []) (fun _ => int 0) := by
 refine t_ Tryz.func192 rfl Tryz.ntmps192 rfl fun G w =>c_<|a_<|q_ 1 rfl<|d_<|b_<|c_<|Q_ [] (.q 0 (.q 1 (.q 2 (.q 3 (.q 4 (.q 5 (.q 6 (.q 7 (.q 8 (.q 9 (.q 10 .nil))))))))))) (by kernel_rfl) (by kernel_rfl) ?_
 refine qs_ 3 rfl<|hx_ fun hx9 =>sxvA rfl (h_ (C := int 0) (g_ tabOk rfl rfl r0_ List.not_mem_nil rfl) rfl) hx9<|qs_ 3 rfl<|sxvA rfl (h_ (C := .v (.slice none 0 0)) (g_ tabOk rfl rfl r0_ List.not_mem_nil rfl) rfl) hx9<|sxvA rfl (ae_ (m := 0) rfl Tryz.underlying114) hx9<|sxvA rfl (h_ (C := int 0) (y_ rfl rfl (by simp only [InR, lo, hi]; omega)) rfl) hx9 ?_
 exact qs_ 1 rfl<|F_<|b_<|k_<|f_ (rs := [.tmp 2]) rfl (RV.tmp rfl RV.nil) (()) sn_<|rfl
theorem xcur_s  : Spec Tryz.prog 136 [ptr R.x] [.rd R.x 179 [int 4, int 0, int 0, .v (.slice none 0 0), .v (.slice none 0 0), .v (.slice none 0 0)]] (fun _ : Unit => []) (fun _ => int 0) := by
 refine t_ Tryz.func136 rfl Tryz.ntmps136 rfl fun G w =>c_<|a_<|q_ 1 rfl<|d_<|b_<|c_<|c_<|a_<|q_ 1 rfl<|slvA (aD_ rfl rfl (by kernel_rfl)) ?_
 exact d_<|b_<|O_ rfl<|o_<|b_<|c_<|a_<|q_ 4 rfl<|slvA (h_ (C := int 0) (g_ tabOk rfl rfl r0_ List.not_mem_nil rfl) rfl)<|q_ 1 rfl<|d_<|b_<|k_<|f_ (rs := [.tmp 2]) rfl (RV.tmp rfl RV.nil) (()) sn_<|rfl
set_option maxHeartbeats 1000000 in
theorem roffer_s (h1 : c.letter.size ≤ 1000) (h2 : c.text.size ≤ 1000) (hN : N ≤ 90000) (hm : me < 4) (hc : c.client = 4) : Spec Tryz.prog 128 [ptr R.r] [wb p bd bt N, .rd R.r 118 (R.cells p me dr o), .rdpc (tmPc R.pd intK intOk coE [(4, c)]), .rd R.x 179 [int 4, int 0, int 0, .v (.slice none 0 0), .v (.slice none 0 0), .v (.slice none 0 0)], .rd R.lg 153 [int 4, int 0, mapV R.lm], .rd R.vv 160 [int 4, mapV R.vm], .rdpc (tmPc R.vm paV paOk voE (vm1 (me : Int) st t mk))] (fun _ : Unit => [wb p bd bt (N + 1)]) (fun _ => boo false) := by
 refine t_ Tryz.func128 rfl Tryz.ntmps128 rfl fun G w =>c_<|a_<|q_ 1 rfl<|d_<|b_<|c_<|a_<|q_ 3 rfl<|slvA (h_ (C := ptr R.x) (g_ tabOk rfl rfl r1_ List.not_mem_nil rfl) rfl)<|slcA (xcur_s (R := R)) ?_
 refine ap_<|fun _=>q_ 1 rfl<|d_<|b_<|c_<|c_<|a_<|q_ 3 rfl<|slvA (h_ (C := boo true) (g_ tabOk rfl rfl r1_ List.not_mem_nil rfl) rfl)<|slvA (a4_ rfl)<|q_ 2 rfl<|slcA (rleads_s (p := p) (me := me) (R := R) (dr := dr) (o := o)) ?_
 refine ap_<|fun _=>slvA (bz_ rfl)<|q_ 2 rfl<|A_ (t := 21) rfl ?_ ?_
 ·intro hc21
  refine q_ 23 rfl<|d_<|b_<|U_ rfl<|c_<|a_<|q_ 1 rfl<|d_<|b_<|k_<|j_ nofun<|c2_ [] (Re.wbUp (N := N) (M := N + 1) (by omega)) rfl ?_
  exact f_ (rs := [.tmp 2]) rfl (RV.tmp rfl RV.nil) (()) (sc_ sn_)<|rfl
 intro hc21
 refine q_ 2 rfl<|slcA (rtop_s (p := p) (me := me) (R := R) (dr := dr) (o := o)) ?_
 refine ap_<|fun _=>q_ 3 rfl<|A_ (t := 27) rfl (by intro hc27; exfalso; omega) ?_
 intro hc27
 refine q_ 4 rfl<|slvA (h_ (C := int 0) (g_ tabOk rfl rfl r1_ List.not_mem_nil rfl) rfl)<|q_ 3 rfl<|A_ (t := 35) rfl (by intro hc35; exfalso; omega) ?_
 intro hc35
 refine q_ 3 rfl<|slvA (h_ (C := ptr R.lg) (g_ tabOk rfl rfl r1_ List.not_mem_nil rfl) rfl)<|q_ 1 rfl<|slvA (h_ (C := int 1) (y_ rfl rfl (by simp only [InR, lo, hi]; omega)) rfl) ?_
 refine slcA (lin_s (R := R)) ?_
 refine ap_<|fun _=>slvA (a4_ rfl)<|q_ 1 rfl<|d_<|b_<|O_ rfl<|o_<|b_<|c_<|a_<|q_ 1 rfl<|slcA (rready_s (p := p) (bd := bd) (bt := bt) (N := N) (me := me) (R := R) (c := c) (dr := dr) (o := o) (st := st) (t := t) (mk := mk) h1 h2 hN hm hc) ?_
 refine aG_ (ys := [.rd R.r 118 (R.cells p me dr o), .rdpc (tmPc R.pd intK intOk coE [(4, c)]), .rd R.vv 160 [int 4, mapV R.vm], .rdpc (tmPc R.vm paV paOk voE (vm1 (me : Int) st t mk))]) rfl i0_ (by intro y hy; simp only [List.mem_cons, List.not_mem_nil, or_false] at hy; rcases hy with rfl | rfl | rfl | rfl <;> exact ⟨(by repeat first|assumption|exact m0_|apply m1_), by intro h; cases h⟩) rfl (fun _ => rfl) ?_
 intro _
 refine ⟨_, u0_, q_ 1 rfl<|d_<|b_<|c_<|c_<|a_<|q_ 1 rfl<|slvA (ae_ (m := 0) rfl Tryz.underlying184)<|q_ 1 rfl<|d_<|b_<|l_ rfl ?_ (by intro hc49; exfalso; omega)⟩
 intro hc49
 exact c_<|a_<|q_ 1 rfl<|d_<|b_<|k_<|j_ nofun<|f_ (rs := [.tmp 2]) rfl (RV.tmp rfl RV.nil) (()) (sc_ sn_)<|rfl
end
theorem Re.ofEq {xs ys : Blks} (h : xs = ys) (hr : ∀ x ∈ ys, x.rids = []) : Re xs ys := by
  subst h
  exact Re.refl hr
section
variable {p bd bt N me k : Nat} {R : RI} {c : Core} {o : Abs} {st x : Int} {t d : Tg} {mk : Wo} {dr : Int} {caps : List Abs} {m : Msg} {v : Value} {rows : List (List Abs)}
theorem rinst_s  : Spec Tryz.prog 124 [ptr R.r] [.rd R.r 118 (R.cells p me dr o)] (fun _ : Unit => []) (fun _ => boo false) := by
 refine t_ Tryz.func124 rfl Tryz.ntmps124 rfl fun G w =>c_<|a_<|q_ 1 rfl<|d_<|b_<|c_<|c_<|a_<|q_ 3 rfl<|slvA (h_ (C := boo true) (g_ tabOk rfl rfl r0_ List.not_mem_nil rfl) rfl)<|slvA (a4_ rfl)<|d_<|b_<|O_ rfl<|o_<|b_<|c_<|a_<|q_ 1 rfl<|d_<|b_<|c_<|a_<|q_ 1 rfl<|d_<|b_<|c_<|c_<|a_<|q_ 3 rfl<|slvA (h_ (C := .v (.slice none 0 0)) (g_ tabOk rfl rfl r0_ List.not_mem_nil rfl) rfl)<|slvA (ae_ (m := 0) rfl Tryz.underlying114)<|q_ 1 rfl<|d_<|b_<|u_<|P_ (ι := Unit) (fun z => [.rd R.r 118 (R.cells p me dr o)]) (fun z => [(0, ptr R.r), (3, boo false), (17, int (0 : Nat)), (18, int 0)]) (fun z => True) (fun z => 0) (()) (trivial) (by exact ⟨rfl, rfl, rfl, rfl, trivial⟩) sr_ ?_
 intro z hz
 refine c_<|a_<|q_ 1 rfl<|d_<|b_<|c_<|l_ rfl (by intro hc19; exfalso; omega) ?_
 intro hc19
 exact N_<|j_ nofun<|j_ nofun<|M_<|b_<|c_<|a_<|q_ 2 rfl<|d_<|b_<|k_<|f_ (rs := [.tmp 2]) rfl (RV.tmp rfl RV.nil) (()) sn_<|rfl
theorem rbegin_s  : Spec Tryz.prog 127 [ptr R.r] [.rd R.r 118 (R.cells p me dr o)] (fun _ : Unit => []) (fun _ => boo false) := by
 exact t_ Tryz.func127 rfl Tryz.ntmps127 rfl fun G w =>c_<|a_<|q_ 1 rfl<|d_<|b_<|c_<|c_<|a_<|q_ 3 rfl<|slvA (h_ (C := boo true) (g_ tabOk rfl rfl r0_ List.not_mem_nil rfl) rfl)<|q_ 5 rfl<|d_<|b_<|U_ rfl<|c_<|a_<|q_ 1 rfl<|d_<|b_<|k_<|j_ nofun<|f_ (rs := [.tmp 2]) rfl (RV.tmp rfl RV.nil) (()) sn_<|rfl
set_option maxHeartbeats 4000000 in
theorem radv_s (h1 : c.letter.size ≤ 1000) (h2 : c.text.size ≤ 1000) (hN : N ≤ 80000) (hm : me < 4) (hc : c.client = 4) : Spec Tryz.prog 90 [ptr R.r] [wb p bd bt N, .blk R.t 173 [int 32, int 0], .pc (tmPc R.hm intK intOk pE []), .rd R.r 118 (R.cells p me dr o), .rdpc (tmPc R.pd intK intOk coE [(4, c)]), .rd R.x 179 [int 4, int 0, int 0, .v (.slice none 0 0), .v (.slice none 0 0), .v (.slice none 0 0)], .rd R.h 167 [bkI p, int 4, mapV R.hm, .v R.hv], .rd R.vv 160 [int 4, mapV R.vm], .rdpc (tmPc R.vm paV paOk voE (vm1 (me : Int) st t mk)), .rd R.pp 157 [int ((4 : Nat) : Int), int (me : Nat), mapV R.om, .v R.pv], .rdpc (ownPc 199 1 R.pv ((List.replicate 4 []).map fun l => [pntsA l])), .rdpc (tmPc R.om intK intOk Ow.enc [(0, R.ow)]), .rd R.lg 153 [int 4, int 0, mapV R.lm], .rdpc (tmPc R.lm intK intOk pE [])] (fun _ : Unit => [.blk R.t 173 [int 32, int 0], wb p bd bt (N + 2), .pc (tmPc R.hm intK intOk pE [])]) (fun _ => .tup []) := by
 refine t_ Tryz.func90 rfl Tryz.ntmps90 rfl fun G w =>c_<|u_<|P_ (ι := Unit) (fun z => [wb p bd bt N, .blk R.t 173 [int 32, int 0], .pc (tmPc R.hm intK intOk pE []), .rd R.r 118 (R.cells p me dr o), .rdpc (tmPc R.pd intK intOk coE [(4, c)]), .rd R.x 179 [int 4, int 0, int 0, .v (.slice none 0 0), .v (.slice none 0 0), .v (.slice none 0 0)], .rd R.h 167 [bkI p, int 4, mapV R.hm, .v R.hv], .rd R.vv 160 [int 4, mapV R.vm], .rdpc (tmPc R.vm paV paOk voE (vm1 (me : Int) st t mk)), .rd R.pp 157 [int ((4 : Nat) : Int), int (me : Nat), mapV R.om, .v R.pv], .rdpc (ownPc 199 1 R.pv ((List.replicate 4 []).map fun l => [pntsA l])), .rdpc (tmPc R.om intK intOk Ow.enc [(0, R.ow)]), .rd R.lg 153 [int 4, int 0, mapV R.lm], .rdpc (tmPc R.lm intK intOk pE [])]) (fun z => [(0, ptr R.r)]) (fun z => True) (fun z => 0) (()) (trivial) (by exact ⟨rfl, trivial⟩) sr_ ?_
 intro z hz
 refine c_<|c_<|a_<|q_ 1 rfl<|slcA (rjoin_s (p := p) (me := me) (R := R) (dr := dr) (o := o)) ?_
 refine aG_ (ys := [.rd R.h 167 [bkI p, int 4, mapV R.hm, .v R.hv], .rd R.r 118 (R.cells p me dr o)]) rfl i2_ (by intro y hy; simp only [List.mem_cons, List.not_mem_nil, or_false] at hy; rcases hy with rfl | rfl <;> exact ⟨(by repeat first|assumption|exact m0_|apply m1_), by intro h; cases h⟩) rfl (fun _ => rfl) ?_
 intro _
 refine ⟨_, u2_, q_ 2 rfl<|slcA (kl_ (p := p) (me := me) (R := R) (dr := dr) (o := o) hm) ?_⟩
 refine ap_<|fun _=>q_ 3 rfl<|slcA (rinst_s (p := p) (me := me) (R := R) (dr := dr) (o := o)) ?_
 refine ap_<|fun _=>q_ 3 rfl<|slcA (rcomm_s (p := p) (me := me) (R := R) (dr := dr) (o := o)) ?_
 refine ap_<|fun _=>q_ 3 rfl<|slcA (rexec_s (p := p) (me := me) (R := R) (dr := dr) (o := o)) ?_
 refine ap_<|fun _=>q_ 3 rfl<|slcA (rbegin_s (p := p) (me := me) (R := R) (dr := dr) (o := o)) ?_
 refine ap_<|fun _=>q_ 3 rfl<|slcA (roffer_s (p := p) (bd := bd) (bt := bt) (N := N) (me := me) (R := R) (c := c) (dr := dr) (o := o) (st := st) (t := t) (mk := mk) h1 h2 (by omega) hm hc) ?_
 refine aG_ (ys := [.rd R.r 118 (R.cells p me dr o), .rdpc (tmPc R.pd intK intOk coE [(4, c)]), .rd R.x 179 [int 4, int 0, int 0, .v (.slice none 0 0), .v (.slice none 0 0), .v (.slice none 0 0)], .rd R.lg 153 [int 4, int 0, mapV R.lm], .rd R.vv 160 [int 4, mapV R.vm], .rdpc (tmPc R.vm paV paOk voE (vm1 (me : Int) st t mk))]) rfl i0_ (by intro y hy; simp only [List.mem_cons, List.not_mem_nil, or_false] at hy; rcases hy with rfl | rfl | rfl | rfl | rfl | rfl <;> exact ⟨(by repeat first|assumption|exact m0_|apply m1_), by intro h; cases h⟩) rfl (fun _ => rfl) ?_
 intro _
 refine ⟨_, u0_, q_ 1 rfl<|d_<|b_<|O_ rfl<|N_<|j_ nofun<|j_ nofun<|M_<|b_<|a_<|q_ 1 rfl<|slcA (rwait_s (p := p) (bd := bd) (bt := bt) (N := N + 1) (me := me) (R := R) (c := c) (dr := dr) (o := o) (st := st) (t := t) (mk := mk) h1 h2 (by omega) hm hc) ?_⟩
 refine bE_ [.pc (tmPc R.hm intK intOk pE []), .rd R.r 118 (R.cells p me dr o), .rdpc (tmPc R.pd intK intOk coE [(4, c)]), .rd R.x 179 [int 4, int 0, int 0, .v (.slice none 0 0), .v (.slice none 0 0), .v (.slice none 0 0)], .rd R.h 167 [bkI p, int 4, mapV R.hm, .v R.hv], .rd R.vv 160 [int 4, mapV R.vm], .rdpc (tmPc R.vm paV paOk voE (vm1 (me : Int) st t mk)), .rd R.pp 157 [int ((4 : Nat) : Int), int (me : Nat), mapV R.om, .v R.pv], .rdpc (ownPc 199 1 R.pv ((List.replicate 4 []).map fun l => [pntsA l])), .rdpc (tmPc R.om intK intOk Ow.enc [(0, R.ow)]), .rd R.lg 153 [int 4, int 0, mapV R.lm], .rdpc (tmPc R.lm intK intOk pE [])] (fun _ => [.blk R.t 173 [int 32, int 0], wb p bd bt (N + 2), .pc (tmPc R.hm intK intOk pE []), .rd R.r 118 (R.cells p me dr o), .rdpc (tmPc R.pd intK intOk coE [(4, c)]), .rd R.x 179 [int 4, int 0, int 0, .v (.slice none 0 0), .v (.slice none 0 0), .v (.slice none 0 0)], .rd R.h 167 [bkI p, int 4, mapV R.hm, .v R.hv], .rd R.vv 160 [int 4, mapV R.vm], .rdpc (tmPc R.vm paV paOk voE (vm1 (me : Int) st t mk)), .rd R.pp 157 [int ((4 : Nat) : Int), int (me : Nat), mapV R.om, .v R.pv], .rdpc (ownPc 199 1 R.pv ((List.replicate 4 []).map fun l => [pntsA l])), .rdpc (tmPc R.om intK intOk Ow.enc [(0, R.ow)]), .rd R.lg 153 [int 4, int 0, mapV R.lm], .rdpc (tmPc R.lm intK intOk pE [])]) (by rw [List.perm_iff_count]; intro a; simp only [mids, It.mids, List.flatMap_cons, List.flatMap_nil, List.append_nil, List.nil_append, List.count_append, List.count_cons, List.count_nil, List.cons_append]; omega) (by intro x hx; simp only [List.mem_cons, List.not_mem_nil, or_false] at hx; rcases hx with rfl | rfl | rfl | rfl | rfl | rfl <;> first | exact .inl ⟨(by repeat first|assumption|exact m0_|apply m1_), rfl⟩ | exact .inr ⟨_, List.mem_cons_self, rfl⟩ | exact .inr ⟨_, (List.mem_cons_of_mem _ List.mem_cons_self), rfl⟩ | exact .inr ⟨_, (List.mem_cons_of_mem _ (List.mem_cons_of_mem _ List.mem_cons_self)), rfl⟩ | exact .inr ⟨_, (List.mem_cons_of_mem _ (List.mem_cons_of_mem _ (List.mem_cons_of_mem _ List.mem_cons_self))), rfl⟩ | exact .inr ⟨_, (List.mem_cons_of_mem _ (List.mem_cons_of_mem _ (List.mem_cons_of_mem _ (List.mem_cons_of_mem _ List.mem_cons_self)))), rfl⟩ | exact .inr ⟨_, (List.mem_cons_of_mem _ (List.mem_cons_of_mem _ (List.mem_cons_of_mem _ (List.mem_cons_of_mem _ (List.mem_cons_of_mem _ List.mem_cons_self))))), rfl⟩ | exact .inr ⟨_, (List.mem_cons_of_mem _ (List.mem_cons_of_mem _ (List.mem_cons_of_mem _ (List.mem_cons_of_mem _ (List.mem_cons_of_mem _ (List.mem_cons_of_mem _ List.mem_cons_self)))))), rfl⟩ | exact .inr ⟨_, (List.mem_cons_of_mem _ (List.mem_cons_of_mem _ (List.mem_cons_of_mem _ (List.mem_cons_of_mem _ (List.mem_cons_of_mem _ (List.mem_cons_of_mem _ (List.mem_cons_of_mem _ List.mem_cons_self))))))), rfl⟩ | exact .inr ⟨_, (List.mem_cons_of_mem _ (List.mem_cons_of_mem _ (List.mem_cons_of_mem _ (List.mem_cons_of_mem _ (List.mem_cons_of_mem _ (List.mem_cons_of_mem _ (List.mem_cons_of_mem _ (List.mem_cons_of_mem _ List.mem_cons_self)))))))), rfl⟩ | exact .inr ⟨_, (List.mem_cons_of_mem _ (List.mem_cons_of_mem _ (List.mem_cons_of_mem _ (List.mem_cons_of_mem _ (List.mem_cons_of_mem _ (List.mem_cons_of_mem _ (List.mem_cons_of_mem _ (List.mem_cons_of_mem _ (List.mem_cons_of_mem _ List.mem_cons_self))))))))), rfl⟩ | exact .inr ⟨_, (List.mem_cons_of_mem _ (List.mem_cons_of_mem _ (List.mem_cons_of_mem _ (List.mem_cons_of_mem _ (List.mem_cons_of_mem _ (List.mem_cons_of_mem _ (List.mem_cons_of_mem _ (List.mem_cons_of_mem _ (List.mem_cons_of_mem _ (List.mem_cons_of_mem _ List.mem_cons_self)))))))))), rfl⟩ | exact .inr ⟨_, (List.mem_cons_of_mem _ (List.mem_cons_of_mem _ (List.mem_cons_of_mem _ (List.mem_cons_of_mem _ (List.mem_cons_of_mem _ (List.mem_cons_of_mem _ (List.mem_cons_of_mem _ (List.mem_cons_of_mem _ (List.mem_cons_of_mem _ (List.mem_cons_of_mem _ (List.mem_cons_of_mem _ List.mem_cons_self))))))))))), rfl⟩) (by intro x hx; simp only [List.mem_cons, List.not_mem_nil, or_false] at hx; rcases hx with rfl | rfl | rfl | rfl | rfl | rfl | rfl | rfl | rfl | rfl | rfl | rfl <;> repeat first|assumption|exact m0_|apply m1_) (fun _ => (by repeat (first | exact List.Perm.nil | refine pk_ (by repeat (first | exact Rem_.here | apply Rem_.there)) ?_))) ?_
 intro _
 refine d_<|b6_ (rs := []) rfl RV.nil (()) (sc_ (sc_ (sc_ sn_))) (by simp [It.rids]) ?_
 exact rfl
theorem rfin_s  : Spec Tryz.prog 92 [ptr R.r] [own 141 5 v rows, .blk R.r 118 (R.cells p me dr (.v v))] (fun _ : Unit => [.blk R.r 118 (R.cells p me dr (.v (.slice none 0 0)))]) (fun _ => .sl 5 rows) := by
 exact t_ Tryz.func92 rfl Tryz.ntmps92 rfl fun G w =>c_<|a_<|q_ 1 rfl<|d_<|b_<|c_<|a_<|q_ 3 rfl<|slvA (h_ (C := .v v) (g_ tabOk rfl rfl l1_ List.not_mem_nil rfl) rfl)<|q_ 1 rfl<|d_<|b_<|c_<|a_<|q_ 3 rfl<|e_ (m_ (L' := R.cells p me dr (.v (.slice none 0 0))) tabOk rfl rfl rfl u1_ rfl (Nat.le_of_ble_eq_true rfl) rfl rfl) rfl rfl<|d_<|b_<|c_<|aC_ [] (t := 3) rfl rfl<|a_<|q_ 2 rfl<|d_<|b_<|k_<|f_ (rs := [.tmp 2]) rfl (RV.tmp rfl RV.nil) (()) sr_<|rfl
theorem rtake_s (hm : MsOk m) (h4 : me < 4) (hN : N ≤ 80000) : Spec Tryz.prog 139 [ptr R.r, .agg m.abs] [.blk R.r 118 (R.cells p me 0 (.v (.slice none 0 0))), .pc (tmPc R.pd intK intOk coE []), .blk R.x 179 [int 4, int 0, int 0, .v (.slice none 0 0), .v (.slice none 0 0), .v (.slice none 0 0)], .blk R.t 173 [int 32, int 0], .blk R.h 167 [bkI p, int 4, mapV R.hm, .v R.hv], .pc (tmPc R.hm intK intOk pE []), .blk R.vv 160 [int 4, mapV R.vm], .pc (tmPc R.vm paV paOk voE []), .blk R.pp 157 [int ((4 : Nat) : Int), int (me : Nat), mapV R.om, .v R.pv], own 199 1 R.pv ((List.replicate 4 []).map fun l => [pntsA l]), .pc (tmPc R.om intK intOk Ow.enc [(0, R.ow)]), .blk R.lg 153 [int 4, int 0, mapV R.lm], .pc (tmPc R.lm intK intOk pE []), wb p bd bt N] (fun z : RqZ => rqT p bd bt N me R z) (fun z => int z.e) := by
 refine t_ Tryz.func139 rfl Tryz.ntmps139 rfl fun G w =>c_<|a_<|eb_ (B_ (cs := m.abs) rfl) rfl rfl fun b3=>?_
 refine q_ 1 rfl<|d_<|b_<|c_<|c_<|a_<|q_ 1 rfl<|slvA (h_ (C := int 1) (g_ tabOk rfl rfl l0_ List.not_mem_nil rfl) (congrArg int hm.1))<|q_ 1 rfl<|d_<|b_<|l_ rfl ?_ (by intro hc9; exfalso; omega)
 intro hc9
 refine c_<|a_<|q_ 1 rfl<|slvA (h_ (C := .agg m.abs) (r_ tabOk rfl rfl rfl l0_ List.not_mem_nil rfl) rfl)<|slcA (rreq_s (p := p) (bd := bd) (bt := bt) (N := N) (me := me) (R := R) hm h4 hN) ?_
 refine W_ [_] (β := []) rfl (J_ rfl) ?_
 intro z12
 refine q_ 1 rfl<|d_<|b_<|k_<|j_ nofun<|fD_ (rs := [.tmp 4]) rfl (RV.tmp rfl RV.nil) (z12) (by simp) dt_ ?_
 exact rfl
set_option maxHeartbeats 4000000 in
theorem rrecv_s (hm : MsOk m) (h4 : me < 4) (hN : N ≤ 70000) : Spec Tryz.prog 96 [ptr R.r, .agg m.abs] [.blk R.r 118 (R.cells p me 0 (.v (.slice none 0 0))), .pc (tmPc R.pd intK intOk coE []), .blk R.x 179 [int 4, int 0, int 0, .v (.slice none 0 0), .v (.slice none 0 0), .v (.slice none 0 0)], .blk R.t 173 [int 32, int 0], .blk R.h 167 [bkI p, int 4, mapV R.hm, .v R.hv], .pc (tmPc R.hm intK intOk pE []), .blk R.vv 160 [int 4, mapV R.vm], .pc (tmPc R.vm paV paOk voE []), .blk R.pp 157 [int ((4 : Nat) : Int), int (me : Nat), mapV R.om, .v R.pv], own 199 1 R.pv ((List.replicate 4 []).map fun l => [pntsA l]), .pc (tmPc R.om intK intOk Ow.enc [(0, R.ow)]), .blk R.lg 153 [int 4, int 0, mapV R.lm], .pc (tmPc R.lm intK intOk pE []), wb p bd bt N] (fun _ : {rows : List (List Abs) // ParOk 4 rows} × Int => [wb p bd bt (N + 20)]) (fun z => .tup [.sl 5 z.1.1, int z.2]) := by
 refine t_ Tryz.func96 rfl Tryz.ntmps96 rfl fun G w =>c_<|a_<|eb_ (B_ (cs := m.abs) rfl) rfl rfl fun b3=>?_
 refine q_ 2 rfl<|d_<|b_<|c_<|c_<|a_<|q_ 1 rfl<|slvA (aD_ rfl rfl (by kernel_rfl)) ?_
 refine d_<|b_<|O_ rfl<|o_<|b_<|c_<|c_<|a_<|q_ 1 rfl<|slvA (h_ (C := .agg m.abs) (r_ tabOk rfl rfl rfl l0_ List.not_mem_nil rfl) rfl)<|slcA (rtake_s (p := p) (bd := bd) (bt := bt) (N := N) (me := me) (R := R) hm h4 (by omega)) ?_
 refine W_ [_] (β := []) rfl (J_ rfl) ?_
 intro z6
 refine q_ 1 rfl<|d_<|b_<|c_<|a_<|q_ 2 rfl<|d_<|b_<|l_ rfl ?_ ?_
 rotate_left
 ·intro hc13
  have he0 : z6.e = 0 := Classical.byContradiction fun h => hc13 h
  refine ct_ [_] (β := []) (Re.ofEq (if_pos he0) (J_ rfl)) rfl<|o_<|b_<|c_<|a_<|q_ 1 rfl<|slcA (radv_s (p := p) (bd := bd) (bt := bt) (N := N + 6) (me := me) (R := R) (c := z6.c) (dr := 0) (o := .v z6.v) (st := z6.st) (t := z6.t) (mk := z6.ma) z6.okC.1 z6.okC.2.1 (by omega) h4 z6.okC.2.2) ?_
  refine bE_ [.blk b3 42 m.abs, own 141 5 z6.v z6.rows, .blk R.r 118 (R.cells p me 0 (.v z6.v)), .pc (tmPc R.pd intK intOk coE [(4, z6.c)]), .blk R.x 179 [int 4, int 0, int 0, .v (.slice none 0 0), .v (.slice none 0 0), .v (.slice none 0 0)], .blk R.h 167 [bkI p, int 4, mapV R.hm, .v R.hv], .blk R.vv 160 [int 4, mapV R.vm], .pc (tmPc R.vm paV paOk voE (vm1 (me : Int) z6.st z6.t z6.ma)), .blk R.pp 157 [int ((4 : Nat) : Int), int (me : Nat), mapV R.om, .v R.pv], own 199 1 R.pv ((List.replicate 4 []).map fun l => [pntsA l]), .pc (tmPc R.om intK intOk Ow.enc [(0, R.ow)]), .blk R.lg 153 [int 4, int 0, mapV R.lm], .pc (tmPc R.lm intK intOk pE [])] (fun _ => [own 141 5 z6.v z6.rows, .blk R.r 118 (R.cells p me 0 (.v z6.v)), wb p bd bt (N + 8), .blk R.t 173 [int 32, int 0], .pc (tmPc R.hm intK intOk pE []), .blk b3 42 m.abs, .pc (tmPc R.pd intK intOk coE [(4, z6.c)]), .blk R.x 179 [int 4, int 0, int 0, .v (.slice none 0 0), .v (.slice none 0 0), .v (.slice none 0 0)], .blk R.h 167 [bkI p, int 4, mapV R.hm, .v R.hv], .blk R.vv 160 [int 4, mapV R.vm], .pc (tmPc R.vm paV paOk voE (vm1 (me : Int) z6.st z6.t z6.ma)), .blk R.pp 157 [int ((4 : Nat) : Int), int (me : Nat), mapV R.om, .v R.pv], own 199 1 R.pv ((List.replicate 4 []).map fun l => [pntsA l]), .pc (tmPc R.om intK intOk Ow.enc [(0, R.ow)]), .blk R.lg 153 [int 4, int 0, mapV R.lm], .pc (tmPc R.lm intK intOk pE [])]) (by rw [List.perm_iff_count]; intro a; simp only [mids, It.mids, List.flatMap_cons, List.flatMap_nil, List.append_nil, List.nil_append, List.count_append, List.count_cons, List.count_nil, List.cons_append]; omega) (by intro x hx; simp only [List.mem_cons, List.not_mem_nil, or_false] at hx; rcases hx with rfl | rfl | rfl | rfl | rfl | rfl | rfl | rfl | rfl | rfl | rfl | rfl | rfl | rfl <;> first | exact .inl ⟨(by repeat first|assumption|exact m0_|apply m1_), rfl⟩ | exact .inr ⟨_, List.mem_cons_self, rfl⟩ | exact .inr ⟨_, (List.mem_cons_of_mem _ List.mem_cons_self), rfl⟩ | exact .inr ⟨_, (List.mem_cons_of_mem _ (List.mem_cons_of_mem _ List.mem_cons_self)), rfl⟩ | exact .inr ⟨_, (List.mem_cons_of_mem _ (List.mem_cons_of_mem _ (List.mem_cons_of_mem _ List.mem_cons_self))), rfl⟩ | exact .inr ⟨_, (List.mem_cons_of_mem _ (List.mem_cons_of_mem _ (List.mem_cons_of_mem _ (List.mem_cons_of_mem _ List.mem_cons_self)))), rfl⟩ | exact .inr ⟨_, (List.mem_cons_of_mem _ (List.mem_cons_of_mem _ (List.mem_cons_of_mem _ (List.mem_cons_of_mem _ (List.mem_cons_of_mem _ List.mem_cons_self))))), rfl⟩ | exact .inr ⟨_, (List.mem_cons_of_mem _ (List.mem_cons_of_mem _ (List.mem_cons_of_mem _ (List.mem_cons_of_mem _ (List.mem_cons_of_mem _ (List.mem_cons_of_mem _ List.mem_cons_self)))))), rfl⟩ | exact .inr ⟨_, (List.mem_cons_of_mem _ (List.mem_cons_of_mem _ (List.mem_cons_of_mem _ (List.mem_cons_of_mem _ (List.mem_cons_of_mem _ (List.mem_cons_of_mem _ (List.mem_cons_of_mem _ List.mem_cons_self))))))), rfl⟩ | exact .inr ⟨_, (List.mem_cons_of_mem _ (List.mem_cons_of_mem _ (List.mem_cons_of_mem _ (List.mem_cons_of_mem _ (List.mem_cons_of_mem _ (List.mem_cons_of_mem _ (List.mem_cons_of_mem _ (List.mem_cons_of_mem _ List.mem_cons_self)))))))), rfl⟩ | exact .inr ⟨_, (List.mem_cons_of_mem _ (List.mem_cons_of_mem _ (List.mem_cons_of_mem _ (List.mem_cons_of_mem _ (List.mem_cons_of_mem _ (List.mem_cons_of_mem _ (List.mem_cons_of_mem _ (List.mem_cons_of_mem _ (List.mem_cons_of_mem _ List.mem_cons_self))))))))), rfl⟩ | exact .inr ⟨_, (List.mem_cons_of_mem _ (List.mem_cons_of_mem _ (List.mem_cons_of_mem _ (List.mem_cons_of_mem _ (List.mem_cons_of_mem _ (List.mem_cons_of_mem _ (List.mem_cons_of_mem _ (List.mem_cons_of_mem _ (List.mem_cons_of_mem _ (List.mem_cons_of_mem _ List.mem_cons_self)))))))))), rfl⟩ | exact .inr ⟨_, (List.mem_cons_of_mem _ (List.mem_cons_of_mem _ (List.mem_cons_of_mem _ (List.mem_cons_of_mem _ (List.mem_cons_of_mem _ (List.mem_cons_of_mem _ (List.mem_cons_of_mem _ (List.mem_cons_of_mem _ (List.mem_cons_of_mem _ (List.mem_cons_of_mem _ (List.mem_cons_of_mem _ List.mem_cons_self))))))))))), rfl⟩ | exact .inr ⟨_, (List.mem_cons_of_mem _ (List.mem_cons_of_mem _ (List.mem_cons_of_mem _ (List.mem_cons_of_mem _ (List.mem_cons_of_mem _ (List.mem_cons_of_mem _ (List.mem_cons_of_mem _ (List.mem_cons_of_mem _ (List.mem_cons_of_mem _ (List.mem_cons_of_mem _ (List.mem_cons_of_mem _ (List.mem_cons_of_mem _ List.mem_cons_self)))))))))))), rfl⟩) (by intro x hx; simp only [List.mem_cons, List.not_mem_nil, or_false] at hx; rcases hx with rfl | rfl | rfl | rfl | rfl | rfl | rfl | rfl | rfl | rfl | rfl | rfl | rfl <;> repeat first|assumption|exact m0_|apply m1_) (fun _ => (by repeat (first | exact List.Perm.nil | refine pk_ (by repeat (first | exact Rem_.here | apply Rem_.there)) ?_))) ?_
  intro _
  refine d_<|b_<|c_<|a_<|q_ 1 rfl<|slcA (rfin_s (p := p) (me := me) (R := R) (dr := 0) (v := z6.v) (rows := z6.rows)) ?_
  refine W_ [] (β := _) rfl (J_ rfl) ?_
  intro _
  refine q_ 2 rfl<|d_<|b_<|k_<|c2_ [_] (Re.wbUp (N := N + 8) (M := N + 20) (by omega)) rfl ?_
  exact f_ (rs := [.tmp 4, .tmp 5]) rfl (RV.tmp rfl (RV.tmp rfl RV.nil)) ((⟨z6.rows, z6.okP⟩, 0)) (sk_ (sc_ sn_))<|rfl
 intro hc13
 refine ct_ [_] (β := []) (Re.ofEq (if_neg hc13) (J_ rfl)) rfl<|c_<|a_<|q_ 4 rfl<|slvA (h_ (C := int 0) (g_ tabOk rfl rfl l1_ List.not_mem_nil rfl) rfl)<|slvA (y_ rfl rfl (by simp only [InR, lo, hi]; omega)) ?_
 refine slvA (h_ (C := int 1) (ep_ rfl rfl) (congrArg int (by decide))) ?_
 refine q_ 2 rfl<|e_ (m_ (L' := R.cells p me 1 (.v (.slice none 0 0))) tabOk rfl rfl rfl u1_ rfl (Nat.le_of_ble_eq_true rfl) rfl rfl) rfl rfl<|d_<|b_<|c_<|a_<|q_ 3 rfl<|e_ (m_ (L' := R.cells p me 1 (.v (.slice none 0 0))) tabOk rfl rfl rfl u1_ rfl (Nat.le_of_ble_eq_true rfl) rfl rfl) rfl rfl<|d_<|b_<|c_<|a_<|q_ 3 rfl<|d_<|b_<|k_<|j_ nofun<|c2_ [_, _] (Re.wbUp (N := N + 6) (M := N + 20) (by omega)) rfl ?_
 exact fC_ (rs := [.tmp 4, .tmp 5]) rfl (RV.tmp rfl (RV.tmp rfl RV.nil)) (Casts.nils (s := 5) Casts.refl) ((⟨[], p0_ok⟩, z6.e)) (sk_ (sk_ sr_))<|rfl
end
end Go.Proofs.YtjclgkddfjbdiaaGreatDoor.A
