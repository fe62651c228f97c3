/-
  Packed out of the texts: AD7, AD8, AD9, AD13, AD3, A34, AD10, AD11, AD12, AD14, AD15, AP1.
-/
import Derived.Test.YtggajaigfkekhaaGreatQ09
import Derived.Sort.OwnSortedInts
set_option maxRecDepth 100000
set_option linter.unusedSimpArgs false
set_option linter.unusedVariables false
namespace Go.Proofs.YtggajaigfkekhaaGreat.A
open Go.RowKit
structure Kp where
  c : Chg
  dig : List UInt8
  len : dig.length = 32
def Kp.cells (o : Kp) : List Abs := o.c.abs ++ digA o.dig
def Kp.enc (o : Kp) : Abs := .agg o.cells
def Kp.zero : Kp := ⟨Chg.zero, List.replicate 32 0, by simp⟩
theorem cf_ (o : Kp) : o.cells.length = 37 := by simp [Kp.cells, Chg.abs, digA, o.len]
theorem fg_ (o : Kp) : ones o.cells = true := by
  rw [bE_]; intro a ha
  rcases List.mem_append.1 ha with ha | ha
  · simp only [Chg.abs, List.mem_cons, List.not_mem_nil, or_false] at ha
    rcases ha with rfl | rfl | rfl | rfl | rfl <;> rfl
  · obtain ⟨b, _, rfl⟩ := List.mem_map.1 ha; rfl
theorem hX_ (o : Kp) : Abs.agg (part o.cells 0 5) = .agg o.c.abs := by
  unfold A.part Kp.cells
  rw [List.drop_zero, List.take_append_of_le_length (by simp [Chg.abs]), List.take_of_length_le (by simp [Chg.abs])]
theorem kp_dig (o : Kp) : Abs.agg (part o.cells 5 32) = .agg (digA o.dig) := by
  unfold A.part Kp.cells
  rw [show o.c.abs = [int o.c.view, int o.c.low, pntsA o.c.points, prfsA o.c.prepared, prfsA o.c.proposed] from rfl]
  simp only [List.cons_append, List.nil_append, List.drop_succ_cons, List.drop_zero]
  rw [List.take_of_length_le (by simp [digA, o.len])]
def zkp : Value := .agg ([Value.int .i64 0, Value.int .i64 0, Value.slice none 0 0, Value.slice none 0 0, Value.slice none 0 0] ++ List.replicate 32 (bc 0)).toArray
theorem f0_ (w : World) : (zeroValue 99).run Tryz.prog w = .ok zkp w := by kernel_rfl
theorem fZ_ (K : List Nat) (w : World) : rep K w Kp.zero.enc zkp := by
  refine ⟨_, rfl, a6_ ⟨_, _, rfl, rfl, _, _, rfl, rfl, _, _, rfl, dU_ rfl, _, _, rfl, dU_ rfl, _, _, rfl, dU_ rfl, rfl⟩ ?_⟩
  have h := gY_ (K := K) (w := w) ((List.replicate 32 (0 : UInt8)).map bc)
  rw [List.map_map] at h
  rw [List.map_replicate] at h
  exact h
theorem hY_ {o : Kp} {place : Nat → Option (Nat × Nat)} {Z : List Abs} (hZ : Z.length = 37) (h0 : place 0 = some (0, 5)) (h1 : place 1 = some (5, 32)) : fillA place Z [(0, .agg o.c.abs), (1, .agg (digA o.dig))] = some o.cells :=
  i7_ (a := 5) (b := 32) rfl (by show (digA o.dig).length = 32; simp [digA, o.len]) hZ h0 h1
def newTls (zs : List (Nat × Nat × Nat)) : List Tl := zs.map fun z => ⟨z.1, z.2.1, z.2.2, [], []⟩
theorem fe_ (zs : List (Nat × Nat × Nat)) (z : Nat × Nat × Nat) : newTls (zs ++ [z]) = newTls zs ++ [⟨z.1, z.2.1, z.2.2, [], []⟩] := by simp [newTls]
theorem cF_ (zs : List (Nat × Nat × Nat)) : (newTls zs).length = zs.length := List.length_map _
section
variable {q n : Nat} {nI : Int}
theorem anewno_s (h : ¬ (1 ≤ nI ∧ nI ≤ 7)) : Spec Tryz.prog 9 [.ifc 34 (ptr q), int nI] [] (fun _ : Unit => []) (fun _ => .v (.pointer none)) := by
 refine G_ Tryz.func9 rfl Tryz.ntmps9 rfl fun G w =>d_<|a_<|q_ 1 rfl<|g_<|c_<|d_<|d_<|a_<|q_ 1 rfl<|b_ (es_ Tryz.underlying88 rfl) rfl rfl<|q_ 5 rfl<|C_ (t := 12) rfl ?_ ?_
 ·intro hc12
  exact q_ 3 rfl<|g_<|c_<|O_ rfl<|d_<|a_<|q_ 1 rfl<|g_<|c_<|n_<|i_ nofun<|f_ (rs := [.tmp 4]) rfl (RV.tmp rfl RV.nil) (()) sn_<|rfl
 intro hc12
 refine q_ 3 rfl<|g_<|c_<|r_ rfl ?_ (by intro hc15; exfalso; omega)
 intro hc15
 exact d_<|a_<|q_ 1 rfl<|g_<|c_<|n_<|i_ nofun<|f_ (rs := [.tmp 4]) rfl (RV.tmp rfl RV.nil) (()) sn_<|rfl
set_option maxHeartbeats 1000000 in
theorem anew_s (h1 : 1 ≤ n) (h7 : n ≤ 7) : Spec Tryz.prog 9 [.ifc 34 (ptr q), int (n : Nat)] [] (fun z : Nat × Nat × Value × {zs : List (Nat × Nat × Nat) // zs.length = n} => [.blk z.1 92 [.ifc 34 (ptr q), int (n : Nat), mapV z.2.1, .v z.2.2.1], .pc (tmPc z.2.1 intK intOk Kp.enc []), own 93 1 z.2.2.1 ((newTls z.2.2.2.1).map fun x => [ptr x.t]), .pc (tlsP (newTls z.2.2.2.1))]) (fun z => ptr z.1) := by
 refine G_ Tryz.func9 rfl Tryz.ntmps9 rfl fun G w =>d_<|a_<|q_ 1 rfl<|g_<|c_<|d_<|d_<|a_<|q_ 1 rfl<|b_ (es_ Tryz.underlying88 rfl) rfl rfl<|q_ 5 rfl<|C_ (t := 12) rfl (by intro hc12; exfalso; omega) ?_
 intro hc12
 refine q_ 3 rfl<|g_<|c_<|r_ rfl (by intro hc15; exfalso; omega) ?_
 intro hc15
 refine p_<|c_<|d_<|a_<|q_ 2 rfl<|eb_ (j9_ intK intOk Kp.enc (fun ac w => by simp [execOp, Instr.makeMap, newObj, Sem.run, Sem.run_bind, Result.andThen])) rfl rfl fun m18=>?_
 refine b_ (J_ tabOk rfl rfl rfl rfl) rfl rfl<|eb_ (L_ (cs := [.ifc 34 (ptr q), int (n : Nat), mapV m18, .v (.slice none 0 0)]) rfl) rfl rfl fun b20=>?_
 refine q_ 1 rfl<|g_<|c_<|d_<|d_<|a_<|q_ 2 rfl<|g_<|c_<|t_<|SC.re [] (Re.empty) rfl<|bO_ 93 1<|S_ (ι := List (Nat × Nat × Nat) × Value) (fun z => [own 93 1 z.2 ((newTls z.1).map fun x => [ptr x.t]), .pc (tlsP (newTls z.1)), .blk b20 92 [.ifc 34 (ptr q), int (n : Nat), mapV m18, .v z.2], .pc (tmPc m18 intK intOk Kp.enc [])]) (fun z => [(5, ptr b20), (21, int (n : Nat)), (22, int (z.1.length : Nat))]) (fun z => z.1.length ≤ n) (fun z => n - z.1.length) ([], .slice none 0 0) (Nat.zero_le _) (by exact ⟨rfl, rfl, rfl, trivial⟩) sr_ ?_
 intro z hz
 refine d_<|a_<|q_ 1 rfl<|g_<|c_<|d_<|r_ rfl ?_ ?_
 rotate_left
 ·intro hc23
  refine Q_<|i_ nofun<|i_ nofun<|P_<|c_<|d_<|a_<|q_ 2 rfl<|g_<|c_<|n_<|iw_ (List.perm_append_comm (l₁ := [_, _]) (l₂ := [_, _]))<|f_ (rs := [.tmp 4]) rfl (RV.tmp rfl RV.nil) ((b20, m18, z.2, ⟨z.1, by omega⟩)) sr_ ?_
  exact rfl
 intro hc23
 refine p_<|c_<|d_<|t_<|lN_ fun hnod => ?_
 have hbx : b20 ∉ mids [own 93 1 z.2 ((newTls z.1).map fun x => [ptr x.t])] ++ [] := by
  intro hm
  have h9 : (z.2.ownBlock.toList ++ ((tlsP (newTls z.1)).ids ++ (b20 :: [m18]))).Nodup := hnod
  exact (List.nodup_append.1 h9).2.2 b20 (by simpa [mids, It.mids, ownPc] using hm) b20 (by simp) rfl
 refine bg_ (mids [own 93 1 z.2 ((newTls z.1).map fun x => [ptr x.t])] ++ []) (.q 0 (.q 1 (.q 2 (.q 3 (.q 4 (.e 5 (.e 6 (.e 7 (.q 8 (.q 9 .nil)))))))))) (by kernel_rfl) (by kernel_rfl) ?_
 refine ag_ (by (intro k hk; simp [mids, It.mids, ownPc, mapPc, mapAtPc] at hk ⊢; grind)) fun hx9 => ?_
 refine qx_ 4 hx9 rfl<|l_ rfl (m_ (C := .v z.2) (h_ tabOk rfl rfl l2_ hbx rfl) rfl) hx9 rfl rfl<|I_ rfl (sd_new_s) (by simp [mids, It.mids]) Casts.refl (by kernel_rfl) rfl rfl rfl ?_
 refine cB_ _ (List.Perm.refl _) (by intro x hx; cases hx) ?_
 intro zt
 refine ⟨_, List.perm_middle.symm, ex_ rfl (ae_ tabOk Tryz.underlying90 rfl rfl rfl rfl rfl rfl rfl) (by simp) rfl rfl ?_⟩
 refine gE_ [own 93 1 z.2 ((newTls z.1).map fun x => [ptr x.t])] [] rfl (ak_ (zs := (newTls (z.1 ++ [zt])).map fun x => [ptr x.t]) tabOk [] (by rw [fe_, List.map_append]; rfl) Tryz.underlying90 rfl rfl rfl rfl rfl rfl (by intro c hc; rw [List.mem_singleton] at hc; subst hc; rfl) (by unfold maxLen; simp only [List.length_map, cF_, List.length_cons, List.length_nil]; omega) (by rw [show Tryz.prog.bytesOf 93 = 8 by kernel_rfl]; simp only [List.length_map, cF_, List.length_cons, List.length_nil]; omega)) rfl (by intro k hk; simp [mids, It.mids, ownPc] at hk ⊢; simp [hk]) rfl rfl ?_
 rintro _ _ ⟨r31, rfl, rfl⟩
 refine ⟨[own 93 1 r31 ((newTls (z.1 ++ [zt])).map fun x => [ptr x.t])], rfl, ag_ (by (intro k hk; simp [mids, It.mids, ownPc, mapPc, mapAtPc] at hk ⊢; grind)) fun hx9 => ?_⟩
 refine qx_ 2 hx9 rfl<|N_<|bI_ rfl (cl_ (L' := [.ifc 34 (ptr q), int (n : Nat), mapV m18, .v r31]) tabOk rfl rfl rfl rfl i0_ u5_ rfl (by rfl)) rfl rfl ?_
 rintro _ _ ⟨rfl, rfl⟩
 refine o_<|c_<|a_<|b_ (s_ rfl rfl (by simp only [InR, lo, hi]; omega)) rfl rfl ?_
 refine q_ 1 rfl<|g_<|lL_ [_] Re.newTl rfl ?_
 rw [← fe_]
 refine x_ (z.1 ++ [zt], r31) (by dsimp only; rw [List.length_append, List.length_singleton]; omega) ((by dsimp only; rw [List.length_append, List.length_singleton]; omega)) (by refine ⟨rfl, rfl, ?_, trivial⟩; dsimp only; rw [List.length_append, List.length_singleton]; rfl) sr_
end
theorem aF_ {σ τ : Blks} (h : τ.Sublist σ) {k : Nat} (hk : k ∈ mids τ) : k ∈ mids σ := (eF_ h).subset hk
structure CIn (c : Chg) : Prop where
  asked : c.Asked
  lits : c.Lits
theorem CIn.few {c : Chg} (h : CIn c) : c.Few := h.asked.few h.lits
theorem CIn.len {c : Chg} (h : CIn c) : c.bytes.length ≤ 800000 := h.asked.bytes
noncomputable def mkKp (D : List (ByteArray × Nat)) (c : Chg) : Kp := ⟨c, numB 102 (pl D (dKey c.bytes)), aQ_ _ _⟩
noncomputable def takeE (n : Nat) (cm : List (Int × Kp)) (who : Int) (c : Chg) : Int := if ¬ (0 ≤ who ∧ who < n) then 17 else if c.check n ≠ 0 then c.check n else match aget cm who with | some k => laterE c.view k.c.view | none => 0
noncomputable def takeCm (n : Nat) (D : List (ByteArray × Nat)) (cm : List (Int × Kp)) (who : Int) (c : Chg) : List (Int × Kp) := if takeE n cm who c = 0 then aput cm who (mkKp D c) else cm
noncomputable def takeD (n : Nat) (D : List (ByteArray × Nat)) (cm : List (Int × Kp)) (who : Int) (c : Chg) : List (ByteArray × Nat) := if takeE n cm who c = 0 then pm D (dKey c.bytes) else D
section
variable {h q bd bt bm n : Nat} {av : Value} {D : List (ByteArray × Nat)} {cm : List (Int × Kp)} {g : Chg} {who : Int} {e : Int}
theorem eV_ (h : takeE n cm who g = e) (he : e ≠ 0) : takeCm n D cm who g = cm ∧ takeD n D cm who g = D ∧ takeE n cm who g = e := ⟨if_neg (by rw [h]; exact he), if_neg (by rw [h]; exact he), h⟩
theorem cW_ (h : takeE n cm who g = 0) : takeCm n D cm who g = aput cm who (mkKp D g) ∧ takeD n D cm who g = pm D (dKey g.bytes) ∧ takeE n cm who g = 0 := ⟨if_pos h, if_pos h, h⟩
theorem take_who (h : ¬ (0 ≤ who ∧ who < n)) : takeE n cm who g = 17 := if_pos h
theorem jz_ (h : 0 ≤ who ∧ who < n) (h2 : g.check n ≠ 0) : takeE n cm who g = g.check n := by
  unfold takeE
  rw [if_neg (fun h3 => h3 h), if_pos h2]
theorem eT_ {k : Kp} (h : 0 ≤ who ∧ who < n) (h2 : g.check n = 0) (h3 : aget cm who = some k) : takeE n cm who g = laterE g.view k.c.view := by
  unfold takeE
  rw [if_neg (fun h3 => h3 h), if_neg (fun h3 => h3 h2), h3]
theorem eU_ (h : 0 ≤ who ∧ who < n) (h2 : g.check n = 0) (h3 : aget cm who = none) : takeE n cm who g = 0 := by
  unfold takeE
  rw [if_neg (fun h3 => h3 h), if_neg (fun h3 => h3 h2), h3]
set_option maxHeartbeats 2000000 in
theorem gr_ (hg : CIn g) (hw : intOk who) (hn : Num1 D) (hT : D.length < 1000000) : Spec Tryz.prog 10 [ptr h, int who, .agg g.abs] [.rd h 92 [.ifc 34 (ptr q), int (n : Nat), mapV bm, .v av], .pc (tmPc bm intK intOk Kp.enc cm), .blk q 86 [mapV bd, mapV bt], .pc (mapPc bd Value.string cntV sOk D)] (fun _ : Unit => [.pc (tmPc bm intK intOk Kp.enc (takeCm n D cm who g)), .blk q 86 [mapV bd, mapV bt], .pc (mapPc bd Value.string cntV sOk (takeD n D cm who g))]) (fun _ => int (takeE n cm who g)) := by
 refine G_ Tryz.func10 rfl Tryz.ntmps10 rfl fun G w =>d_<|a_<|eb_ (L_ (cs := g.abs) rfl) rfl rfl fun b5=>?_
 refine q_ 1 rfl<|g_<|c_<|d_<|t_<|d_<|a_<|q_ 1 rfl<|b_ (aJ_ rfl rfl (by kernel_rfl)) rfl rfl ?_
 refine q_ 1 rfl<|g_<|c_<|V_ rfl<|d_<|a_<|q_ 2 rfl<|u_ (c8_ (q := q) (bm := bm) (av := av) (n := n)) Casts.refl (by kernel_rfl) rfl rfl rfl ?_
 refine ap_<|fun _=>b_ (aL_ rfl) rfl rfl<|q_ 1 rfl<|g_<|c_<|r_ rfl ?_ ?_
 ·intro hc16
  refine d_<|a_<|q_ 1 rfl<|g_<|c_<|n_<|E_<|i_ nofun ?_
  obtain ⟨e1, e2, e3⟩ := eV_ (D := D) (g := g) (cm := cm) (take_who (by omega)) (by decide)
  refine f_ (rs := [.tmp 6]) rfl (RV.tmp rfl RV.nil) (()) (by rw [e1, e2]; repeat (first | exact List.nil_sublist _ | exact List.Sublist.refl _ | apply List.Sublist.cons_cons | apply List.Sublist.cons)) ?_
  rw [e3]
  rfl
 intro hc16
 have hin : 0 ≤ who ∧ who < n := by omega
 refine p_<|o_<|c_<|d_<|d_<|Y_ [] (.q 0 (.q 1 (.q 2 (.q 3 (.q 4 (.e 5 (.q 6 .nil))))))) (by kernel_rfl) (by kernel_rfl) ?_
 refine ag_ (by (simp [mids, It.mids, ownPc, mapPc]; done)) fun hx9 => ?_
 refine l_ rfl (m_ (C := .agg g.abs) (F_ tabOk rfl rfl rfl l0_ List.not_mem_nil rfl) rfl) hx9 rfl rfl<|qs_ 3 rfl<|l_ rfl (h_ tabOk rfl rfl r1_ List.not_mem_nil rfl) (by simp) rfl rfl ?_
 refine I_ rfl (ic_ (c := g) (n := (n : Int)) hg.asked.sized.prep hg.asked.sized.prop hg.asked.sized.pts) (by simp [mids, It.mids]) Casts.refl (by kernel_rfl) rfl rfl rfl ?_
 refine ap_<|fun _=>qs_ 1 rfl<|N_<|c_<|d_<|a_<|q_ 2 rfl<|g_<|c_<|r_ rfl ?_ ?_
 ·intro hc28
  refine d_<|a_<|q_ 2 rfl<|g_<|c_<|n_<|i_ nofun ?_
  obtain ⟨e1, e2, e3⟩ := eV_ (D := D) (cm := cm) (jz_ hin hc28) hc28
  refine f_ (rs := [.tmp 6]) rfl (RV.tmp rfl RV.nil) (()) (by rw [e1, e2]; repeat (first | exact List.nil_sublist _ | exact List.Sublist.refl _ | apply List.Sublist.cons_cons | apply List.Sublist.cons)) ?_
  rw [e3]
  rfl
 intro hc28
 have hc0 : g.check n = 0 := by omega
 refine p_<|c_<|ed_ (ι := Unit) (fun z => [.blk b5 26 g.abs, .rd h 92 [.ifc 34 (ptr q), int (n : Nat), mapV bm, .v av], .pc (tmPc bm intK intOk Kp.enc cm), .blk q 86 [mapV bd, mapV bt], .pc (mapPc bd Value.string cntV sOk D)]) (fun z => [(0, ptr h), (1, int who), (5, ptr b5)]) (fun z => takeE n cm who g = 0) ?_ ?_
 ·skip
  refine d_<|a_<|q_ 3 rfl<|b_ (h_ tabOk rfl rfl r1_ List.not_mem_nil rfl) rfl rfl<|q_ 1 rfl<|b_ (cJ_ (a := who) (m := cm) (enc := Kp.enc) (z0 := Kp.zero) (zv := zkp) (bv_ Tryz.underlying3) Tryz.underlying89 f0_ fZ_ rfl l2_ List.not_mem_nil rfl is_v hw) rfl rfl<|q_ 3 rfl<|eb_ (B_ tabOk rfl) rfl rfl fun b8=>?_
  refine e_ (w_ (L' := ((aget cm who).getD Kp.zero).cells) tabOk rfl rfl rfl u0_ (cf_ _) (Nat.le_of_ble_eq_true rfl) (fg_ _) (by exact A_ (cf_ _))) rfl rfl ?_
  refine q_ 1 rfl<|g_<|c_<|d_<|a_<|q_ 1 rfl<|g_<|c_<|ac_ rfl ?_ ?_
  rotate_left
  ·intro hc39
   have hv := dm_ hc39
   have ht0 := eU_ (g := g) hin hc0 hv
   refine p_<|bx_ (()) (ht0) (by exact ⟨rfl, rfl, rfl, trivial⟩) (sk_ sr_)
  intro hc39
  obtain ⟨v, hv⟩ := dl_ hc39
  rw [hv]
  dsimp only [Option.getD_some]
  refine d_<|a_<|q_ 1 rfl<|b_ (m_ (C := int g.view) (h_ tabOk rfl rfl l1_ List.not_mem_nil rfl) rfl) rfl rfl<|q_ 2 rfl<|b_ (m_ (C := int v.c.view) (h_ tabOk rfl rfl l0_ List.not_mem_nil rfl) rfl) rfl rfl<|u_ (jm_ (x := g.view) (y := v.c.view)) Casts.refl (by kernel_rfl) rfl rfl rfl ?_
  refine ap_<|fun _=>q_ 1 rfl<|g_<|c_<|d_<|a_<|q_ 2 rfl<|g_<|c_<|r_ rfl ?_ ?_
  rotate_left
  ·intro hc47
   have ht0 : takeE n cm who g = 0 := (eT_ hin hc0 hv).trans (by omega)
   refine p_<|bx_ (()) (ht0) (by exact ⟨rfl, rfl, rfl, trivial⟩) (sk_ sr_)
  intro hc47
  refine d_<|a_<|q_ 2 rfl<|g_<|c_<|n_<|i_ nofun ?_
  obtain ⟨e1, e2, e3⟩ := eV_ (D := D) (eT_ hin hc0 hv) hc47
  refine f_ (rs := [.tmp 6]) rfl (RV.tmp rfl RV.nil) (()) (by rw [e1, e2]; repeat (first | exact List.nil_sublist _ | exact List.Sublist.refl _ | apply List.Sublist.cons_cons | apply List.Sublist.cons)) ?_
  rw [e3]
  rfl
 intro z9 ht0
 refine d_<|Y_ [] (.q 0 (.q 2 (.q 3 (.q 4 (.q 5 (.two 1 10 (.two 6 10 (.q 7 (.q 8 (.q 9 (.e 10 (.e 11 (.q 12 .nil)))))) (.e 6 (.q 7 (.q 8 (.q 9 (.e 11 (.q 12 .nil))))))) (.e 1 (.e 6 (.q 7 (.q 8 (.q 9 (.e 11 (.q 12 .nil))))))))))))) (by kernel_rfl) (by kernel_rfl) ?_
 refine ag_ (by (simp [mids, It.mids, ownPc, mapPc]; done)) fun hx9 => ?_
 refine l_ rfl (m_ (C := .agg g.abs) (F_ tabOk rfl rfl rfl l0_ List.not_mem_nil rfl) rfl) hx9 rfl rfl<|qs_ 3 rfl<|l_ rfl (h_ tabOk rfl rfl r1_ List.not_mem_nil rfl) (by simp) rfl rfl ?_
 refine cT_ ?_ ?_
 ·skip
  refine I_ rfl (gq_ (c := g) hg.few) (by simp [mids, It.mids]) Casts.refl (by kernel_rfl) rfl rfl rfl ?_
  refine ap_<|fun _=>cT_ ?_ ?_
  ·skip
   refine I_ rfl (ge_ (l := g.bytes) (n := (n : Int)) (Nat.le_trans hg.len (by decide))) (by simp [mids, It.mids]) Casts.refl (by kernel_rfl) rfl rfl rfl ?_
   refine ap_ ?_
   intro _
   rw [eL_ hg.lits hc0 (Nat.lt_of_le_of_lt hg.len (by decide))]
   refine qs_ 3 rfl<|da_ tabOk rfl rfl rfl rfl fun b11 =>ex_ rfl (w_ (L' := g.abs) tabOk rfl rfl rfl u0_ rfl (Nat.le_of_ble_eq_true rfl) rfl (by exact A_ rfl)) (by simp) rfl rfl ?_
   refine ag_ (by (simp [mids, It.mids, ownPc, mapPc]; done)) fun hx9 => ?_
   refine qx_ 1 hx9 rfl<|N_<|c_<|d_<|d_<|a_<|q_ 2 rfl<|g_<|c_<|r_ rfl (by intro hc60; exfalso; exact hc60 rfl) ?_
   intro hc60
   refine p_<|c_<|d_<|aH_ (p := b11 ∉ mids [.blk q 86 [mapV bd, mapV bt], .pc (mapPc bd Value.string cntV sOk D)] ∧ h ∉ mids [.blk q 86 [mapV bd, mapV bt], .pc (mapPc bd Value.string cntV sOk D)]) (fun _ _ h9 => ⟨fun hm => (List.nodup_cons.1 h9.mem.nodup).1 (aF_ (sk_ (sk_ (sk_ sr_))) hm), fun hm => h9.mem.sep h (aF_ (sk_ (sk_ (sk_ (sk_ sr_)))) hm) (h9.mem.ro (.rd h 92 [.ifc 34 (ptr q), int (n : Nat), mapV bm, .v av]) (by simp) h (by simp [It.rids]))⟩) fun hX => ?_
   refine bg_ (mids [.blk q 86 [mapV bd, mapV bt], .pc (mapPc bd Value.string cntV sOk D)]) (.q 0 (.q 1 (.q 2 (.q 3 (.q 4 (.q 5 (.q 6 (.q 7 (.q 8 (.q 9 (.q 10 (.e 11 (.q 12 .nil))))))))))))) (by kernel_rfl) (by kernel_rfl) ?_
   refine ag_ (by (simp [mids, It.mids, ownPc, mapPc]; done)) fun hx9 => ?_
   refine qx_ 3 hx9 rfl<|l_ rfl (h_ tabOk rfl rfl r2_ (by exact hX.2) rfl) hx9 rfl rfl ?_
   refine qx_ 1 hx9 rfl<|l_ rfl (m_ (C := .agg g.abs) (F_ tabOk rfl rfl rfl l0_ (by exact hX.1) rfl) rfl) hx9 rfl rfl ?_
   refine qx_ 3 hx9 rfl<|l_ rfl (h_ tabOk rfl rfl r2_ (by exact hX.2) rfl) hx9 rfl rfl ?_
   refine l_ rfl (m_ (C := .agg g.abs) (F_ tabOk rfl rfl rfl l0_ (by exact hX.1) rfl) rfl) hx9 rfl rfl ?_
   refine I_ rfl (fc_ (q := q) (bd := bd) (bt := bt) (D := D) (g := g) hg.few (Nat.le_trans hg.len (by decide)) hn hT) (fun k hk => hk) Casts.refl (by kernel_rfl) rfl rfl rfl ?_
   refine aW_ [_, _, _, _] (β := []) rfl (by intro x hx; simp only [List.mem_cons, List.not_mem_nil, or_false] at hx; rcases hx with rfl | rfl <;> rfl) ?_
   intro _
   refine ag_ (by (simp [mids, It.mids, ownPc, mapPc]; done)) fun hx9 => ?_
   refine l_ rfl (m_ (C := (mkKp D g).enc) (J_ tabOk rfl rfl rfl (hY_ (o := (mkKp D g)) rfl rfl rfl)) rfl) hx9 rfl rfl<|N_<|bI_ rfl (fu_ (a := who) (v := (mkKp D g)) (m' := aput cm who (mkKp D g)) (bv_ Tryz.underlying3) Tryz.underlying89 rfl u3_ rfl is_v hw rfl rfl) rfl rfl ?_
   rintro _ _ ⟨rfl, rfl⟩
   refine c_<|d_<|a_<|q_ 1 rfl<|g_<|c_<|n_ ?_
   obtain ⟨e1, e2, e3⟩ := cW_ (D := D) ht0
   refine f_ (rs := [.tmp 6]) rfl (RV.tmp rfl RV.nil) (()) (by rw [e1, e2]; repeat (first | exact List.nil_sublist _ | exact List.Sublist.refl _ | apply List.Sublist.cons_cons | apply List.Sublist.cons)) ?_
   rw [e3]
   rfl
  skip
  refine da_ tabOk rfl rfl rfl rfl fun b11 =>I_ rfl (ge_ (l := g.bytes) (n := (n : Int)) (Nat.le_trans hg.len (by decide))) (by simp [mids, It.mids]) Casts.refl (by kernel_rfl) rfl rfl rfl ?_
  refine ap_ ?_
  intro _
  rw [eL_ hg.lits hc0 (Nat.lt_of_le_of_lt hg.len (by decide))]
  refine ag_ (by (simp [mids, It.mids, ownPc, mapPc]; done)) fun hx9 => ?_
  refine qx_ 3 hx9 rfl<|ex_ rfl (w_ (L' := g.abs) tabOk rfl rfl rfl u0_ rfl (Nat.le_of_ble_eq_true rfl) rfl (by exact A_ rfl)) (by simp) rfl rfl ?_
  refine ag_ (by (simp [mids, It.mids, ownPc, mapPc]; done)) fun hx9 => ?_
  refine qx_ 1 hx9 rfl<|N_<|c_<|d_<|d_<|a_<|q_ 2 rfl<|g_<|c_<|r_ rfl (by intro hc60; exfalso; exact hc60 rfl) ?_
  intro hc60
  refine p_<|c_<|d_<|aH_ (p := b11 ∉ mids [.blk q 86 [mapV bd, mapV bt], .pc (mapPc bd Value.string cntV sOk D)] ∧ h ∉ mids [.blk q 86 [mapV bd, mapV bt], .pc (mapPc bd Value.string cntV sOk D)]) (fun _ _ h9 => ⟨fun hm => (List.nodup_cons.1 h9.mem.nodup).1 (aF_ (sk_ (sk_ (sk_ sr_))) hm), fun hm => h9.mem.sep h (aF_ (sk_ (sk_ (sk_ (sk_ sr_)))) hm) (h9.mem.ro (.rd h 92 [.ifc 34 (ptr q), int (n : Nat), mapV bm, .v av]) (by simp) h (by simp [It.rids]))⟩) fun hX => ?_
  refine bg_ (mids [.blk q 86 [mapV bd, mapV bt], .pc (mapPc bd Value.string cntV sOk D)]) (.q 0 (.q 1 (.q 2 (.q 3 (.q 4 (.q 5 (.q 6 (.q 7 (.q 8 (.q 9 (.q 10 (.e 11 (.q 12 .nil))))))))))))) (by kernel_rfl) (by kernel_rfl) ?_
  refine ag_ (by (simp [mids, It.mids, ownPc, mapPc]; done)) fun hx9 => ?_
  refine qx_ 3 hx9 rfl<|l_ rfl (h_ tabOk rfl rfl r2_ (by exact hX.2) rfl) hx9 rfl rfl ?_
  refine qx_ 1 hx9 rfl<|l_ rfl (m_ (C := .agg g.abs) (F_ tabOk rfl rfl rfl l0_ (by exact hX.1) rfl) rfl) hx9 rfl rfl ?_
  refine qx_ 3 hx9 rfl<|l_ rfl (h_ tabOk rfl rfl r2_ (by exact hX.2) rfl) hx9 rfl rfl ?_
  refine l_ rfl (m_ (C := .agg g.abs) (F_ tabOk rfl rfl rfl l0_ (by exact hX.1) rfl) rfl) hx9 rfl rfl ?_
  refine I_ rfl (fc_ (q := q) (bd := bd) (bt := bt) (D := D) (g := g) hg.few (Nat.le_trans hg.len (by decide)) hn hT) (fun k hk => hk) Casts.refl (by kernel_rfl) rfl rfl rfl ?_
  refine aW_ [_, _, _, _] (β := []) rfl (by intro x hx; simp only [List.mem_cons, List.not_mem_nil, or_false] at hx; rcases hx with rfl | rfl <;> rfl) ?_
  intro _
  refine ag_ (by (simp [mids, It.mids, ownPc, mapPc]; done)) fun hx9 => ?_
  refine l_ rfl (m_ (C := (mkKp D g).enc) (J_ tabOk rfl rfl rfl (hY_ (o := (mkKp D g)) rfl rfl rfl)) rfl) hx9 rfl rfl<|N_<|bI_ rfl (fu_ (a := who) (v := (mkKp D g)) (m' := aput cm who (mkKp D g)) (bv_ Tryz.underlying3) Tryz.underlying89 rfl u3_ rfl is_v hw rfl rfl) rfl rfl ?_
  rintro _ _ ⟨rfl, rfl⟩
  refine c_<|d_<|a_<|q_ 1 rfl<|g_<|c_<|n_ ?_
  obtain ⟨e1, e2, e3⟩ := cW_ (D := D) ht0
  refine f_ (rs := [.tmp 6]) rfl (RV.tmp rfl RV.nil) (()) (by rw [e1, e2]; repeat (first | exact List.nil_sublist _ | exact List.Sublist.refl _ | apply List.Sublist.cons_cons | apply List.Sublist.cons)) ?_
  rw [e3]
  rfl
 skip
 refine da_ tabOk rfl rfl rfl rfl fun b11 =>I_ rfl (gq_ (c := g) hg.few) (by simp [mids, It.mids]) Casts.refl (by kernel_rfl) rfl rfl rfl ?_
 refine ap_<|fun _=>I_ rfl (ge_ (l := g.bytes) (n := (n : Int)) (Nat.le_trans hg.len (by decide))) (by simp [mids, It.mids]) Casts.refl (by kernel_rfl) rfl rfl rfl ?_
 refine ap_ ?_
 intro _
 rw [eL_ hg.lits hc0 (Nat.lt_of_le_of_lt hg.len (by decide))]
 refine ag_ (by (simp [mids, It.mids, ownPc, mapPc]; done)) fun hx9 => ?_
 refine qx_ 3 hx9 rfl<|ex_ rfl (w_ (L' := g.abs) tabOk rfl rfl rfl u0_ rfl (Nat.le_of_ble_eq_true rfl) rfl (by exact A_ rfl)) (by simp) rfl rfl ?_
 refine ag_ (by (simp [mids, It.mids, ownPc, mapPc]; done)) fun hx9 => ?_
 refine qx_ 1 hx9 rfl<|N_<|c_<|d_<|d_<|a_<|q_ 2 rfl<|g_<|c_<|r_ rfl (by intro hc60; exfalso; exact hc60 rfl) ?_
 intro hc60
 refine p_<|c_<|d_<|aH_ (p := b11 ∉ mids [.blk q 86 [mapV bd, mapV bt], .pc (mapPc bd Value.string cntV sOk D)] ∧ h ∉ mids [.blk q 86 [mapV bd, mapV bt], .pc (mapPc bd Value.string cntV sOk D)]) (fun _ _ h9 => ⟨fun hm => (List.nodup_cons.1 h9.mem.nodup).1 (aF_ (sk_ (sk_ (sk_ sr_))) hm), fun hm => h9.mem.sep h (aF_ (sk_ (sk_ (sk_ (sk_ sr_)))) hm) (h9.mem.ro (.rd h 92 [.ifc 34 (ptr q), int (n : Nat), mapV bm, .v av]) (by simp) h (by simp [It.rids]))⟩) fun hX => ?_
 refine bg_ (mids [.blk q 86 [mapV bd, mapV bt], .pc (mapPc bd Value.string cntV sOk D)]) (.q 0 (.q 1 (.q 2 (.q 3 (.q 4 (.q 5 (.q 6 (.q 7 (.q 8 (.q 9 (.q 10 (.e 11 (.q 12 .nil))))))))))))) (by kernel_rfl) (by kernel_rfl) ?_
 refine ag_ (by (simp [mids, It.mids, ownPc, mapPc]; done)) fun hx9 => ?_
 refine qx_ 3 hx9 rfl<|l_ rfl (h_ tabOk rfl rfl r2_ (by exact hX.2) rfl) hx9 rfl rfl ?_
 refine qx_ 1 hx9 rfl<|l_ rfl (m_ (C := .agg g.abs) (F_ tabOk rfl rfl rfl l0_ (by exact hX.1) rfl) rfl) hx9 rfl rfl ?_
 refine qx_ 3 hx9 rfl<|l_ rfl (h_ tabOk rfl rfl r2_ (by exact hX.2) rfl) hx9 rfl rfl ?_
 refine l_ rfl (m_ (C := .agg g.abs) (F_ tabOk rfl rfl rfl l0_ (by exact hX.1) rfl) rfl) hx9 rfl rfl ?_
 refine I_ rfl (fc_ (q := q) (bd := bd) (bt := bt) (D := D) (g := g) hg.few (Nat.le_trans hg.len (by decide)) hn hT) (fun k hk => hk) Casts.refl (by kernel_rfl) rfl rfl rfl ?_
 refine aW_ [_, _, _, _] (β := []) rfl (by intro x hx; simp only [List.mem_cons, List.not_mem_nil, or_false] at hx; rcases hx with rfl | rfl <;> rfl) ?_
 intro _
 refine ag_ (by (simp [mids, It.mids, ownPc, mapPc]; done)) fun hx9 => ?_
 refine l_ rfl (m_ (C := (mkKp D g).enc) (J_ tabOk rfl rfl rfl (hY_ (o := (mkKp D g)) rfl rfl rfl)) rfl) hx9 rfl rfl<|N_<|bI_ rfl (fu_ (a := who) (v := (mkKp D g)) (m' := aput cm who (mkKp D g)) (bv_ Tryz.underlying3) Tryz.underlying89 rfl u3_ rfl is_v hw rfl rfl) rfl rfl ?_
 rintro _ _ ⟨rfl, rfl⟩
 refine c_<|d_<|a_<|q_ 1 rfl<|g_<|c_<|n_ ?_
 obtain ⟨e1, e2, e3⟩ := cW_ (D := D) ht0
 refine f_ (rs := [.tmp 6]) rfl (RV.tmp rfl RV.nil) (()) (by rw [e1, e2]; repeat (first | exact List.nil_sublist _ | exact List.Sublist.refl _ | apply List.Sublist.cons_cons | apply List.Sublist.cons)) ?_
 rw [e3]
 rfl
end
theorem cin_zero : CIn Chg.zero := ⟨⟨⟨by simp [Chg.zero], by simp [Chg.zero]⟩, ⟨by simp [Chg.zero], by simp [Chg.zero]⟩, by simp [Chg.zero]⟩, ⟨by simp [Chg.zero, InR, lo, hi], by simp [Chg.zero, InR, lo, hi], by simp [Chg.zero], by simp [Chg.zero], by simp [Chg.zero]⟩⟩
theorem kb_ (n : Int) : (Rd.chg Chg.zero.bytes n).view = 0 := by
  show sg ((Rd.of Chg.zero.bytes).num 8) = 0
  decide
theorem le_ (n : Nat) : copyC Chg.zero n = Chg.zero := by
  unfold copyC parseC
  split
  · rfl
  · split
    · rfl
    · next h1 h2 =>
      refine absurd (.inr (.inr (.inr fun h => ?_))) h2
      have hr := (d4_ h).2.1
      have hz := kb_ n
      omega
def keptC (cm : List (Int × Kp)) (who : Int) : Chg := ((aget cm who).getD Kp.zero).c
def KOk (n : Nat) (cm : List (Int × Kp)) : Prop := ∀ who v, aget cm who = some v → CIn v.c ∧ v.c.check n = 0
section
variable {h q bd bt bm n : Nat} {av : Value} {D : List (ByteArray × Nat)} {cm : List (Int × Kp)} {g : Chg} {who : Int} {e : Int}
theorem bF_ (hk : KOk n cm) : CIn (keptC cm who) := by
  unfold keptC
  cases hv : aget cm who with
  | none => exact cin_zero
  | some v => exact (hk _ _ hv).1
theorem lf_ (hc : CIn g) (h0 : g.check n = 0) : copyC g n = g := by
  unfold copyC
  rw [eL_ hc.lits h0 (Nat.lt_of_le_of_lt hc.len (by decide))]
theorem hl_ (hk : KOk n cm) : copyC (keptC cm who) n = keptC cm who := by
  unfold keptC
  cases hv : aget cm who with
  | none => exact le_ n
  | some v => exact lf_ (hk _ _ hv).1 (hk _ _ hv).2
set_option maxHeartbeats 1000000 in
theorem akept_s (hk : KOk n cm) (hw : intOk who) : Spec Tryz.prog 13 [ptr h, int who] [.rd h 92 [.ifc 34 (ptr q), int (n : Nat), mapV bm, .v av], .rdpc (tmPc bm intK intOk Kp.enc cm)] (fun _ : Unit => []) (fun _ => .tup [.agg (keptC cm who).abs, boo (aget cm who).isSome]) := by
 refine G_ Tryz.func13 rfl Tryz.ntmps13 rfl fun G w =>d_<|a_<|eb_ (B_ tabOk rfl) rfl rfl fun b4=>?_
 refine q_ 1 rfl<|g_<|c_<|d_<|d_<|a_<|q_ 1 rfl<|b_ (aJ_ rfl rfl (by kernel_rfl)) rfl rfl ?_
 refine g_<|c_<|V_ rfl<|p_<|c_<|d_<|a_<|q_ 3 rfl<|b_ (h_ tabOk rfl rfl r1_ List.not_mem_nil rfl) rfl rfl<|q_ 1 rfl<|b_ (cJ_ (a := who) (m := cm) (enc := Kp.enc) (z0 := Kp.zero) (zv := zkp) (bv_ Tryz.underlying3) Tryz.underlying89 f0_ fZ_ rfl r2_ List.not_mem_nil rfl is_v hw) rfl rfl<|q_ 3 rfl<|eb_ (B_ tabOk rfl) rfl rfl fun b6=>?_
 refine e_ (w_ (L' := ((aget cm who).getD Kp.zero).cells) tabOk rfl rfl rfl u0_ (cf_ _) (Nat.le_of_ble_eq_true rfl) (fg_ _) (by exact A_ (cf_ _))) rfl rfl ?_
 refine q_ 1 rfl<|g_<|c_<|d_<|aH_ (p := b6 ∉ [b4] ∧ h ∉ [b4]) (fun _ _ h9 => ⟨fun hm => (List.nodup_cons.1 h9.mem.nodup).1 (aF_ (σ := [.blk b4 26 _, .rd h 92 [.ifc 34 (ptr q), int (n : Nat), mapV bm, .v av], .rdpc (tmPc bm intK intOk Kp.enc cm)]) (τ := [.blk b4 26 _]) (sc_ sn_) hm), fun hm => h9.mem.sep h (aF_ (τ := [.blk b4 26 _]) (sk_ (sc_ sn_)) hm) (h9.mem.ro (.rd h 92 [.ifc 34 (ptr q), int (n : Nat), mapV bm, .v av]) (by simp) h (by simp [It.rids]))⟩) fun hX => ?_
 refine Y_ [b4] (.q 0 (.q 1 (.q 2 (.q 3 (.q 4 (.q 5 (.q 7 (.e 6 (.e 8 (.q 9 .nil)))))))))) (by kernel_rfl) (by kernel_rfl) ?_
 refine ag_ (by (simp [mids, It.mids, ownPc, mapPc]; done)) fun hx9 => ?_
 refine qx_ 1 hx9 rfl<|l_ rfl (m_ (C := .agg (keptC cm who).abs) (H_ tabOk rfl rfl rfl l0_ (by exact hX.1) (by show 0 + 5 ≤ ((aget cm who).getD Kp.zero).cells.length; rw [cf_]; omega)) (by exact hX_ _)) hx9 rfl rfl ?_
 refine qx_ 3 hx9 rfl<|l_ rfl (h_ tabOk rfl rfl r2_ (by exact hX.2) rfl) hx9 rfl rfl ?_
 refine qx_ 1 hx9 rfl<|I_ rfl (hw_ (g := keptC cm who) (n := n) (bF_ hk).few (Nat.le_trans (bF_ hk).len (by decide))) (by simp [mids, It.mids]) Casts.refl (by kernel_rfl) rfl rfl rfl ?_
 refine ap_ ?_
 intro _
 rw [hl_ hk]
 refine ex_ rfl (w_ (L' := (keptC cm who).abs) tabOk rfl rfl rfl u1_ rfl (Nat.le_of_ble_eq_true rfl) rfl (by exact A_ rfl)) (by simp) rfl rfl ?_
 refine ag_ (by (simp [mids, It.mids, ownPc, mapPc]; done)) fun hx9 => ?_
 exact qx_ 1 hx9 rfl<|N_<|c_<|n_<|f_ (rs := [.cell 4 26, .tmp 5]) rfl (RV.cell rfl (RV.cellA tabOk rfl rfl l1_ (rfl)) (RV.tmp rfl RV.nil)) (()) sn_<|rfl
end
structure TlOk (x : Tl) : Prop where
  ti : TInv x.m x.c
  few : x.m.length ≤ 1000
  ok : ∀ w v, aget x.m w = some v → sdOk v
def Tl.ack (x : Tl) (who : Int) (k : Sd) : Tl := { x with m := aput x.m who k, c := chgC x.m x.c who k }
def ackE (n : Nat) (L : List Tl) (who seq : Int) (k : Sd) : Int := if ¬ ((0 ≤ who ∧ who < n) ∧ 0 ≤ seq ∧ seq < n) then 17 else match L[seq.toNat]? with
  | none => 17
  | some x => match aget x.m who with
    | some s => laterE k.view s.view
    | none => 0
def ackL (n : Nat) (L : List Tl) (who seq : Int) (k : Sd) : List Tl := if ackE n L who seq k = 0 then match L[seq.toNat]? with
  | none => L
  | some x => L.set seq.toNat (x.ack who k)
  else L
def voA (k : Sd) (seq : Int) : List Abs := int k.view :: int seq :: digA k.dig
theorem bu_ (k : Sd) (seq : Int) : (voA k seq).length = 34 := by simp [voA, digA, k.len]
theorem dR_ (k : Sd) (seq : Int) : Abs.agg (part (voA k seq) 2 32) = .agg (digA k.dig) := by
  unfold A.part voA
  rw [List.drop_succ_cons, List.drop_succ_cons, List.drop_zero, List.take_of_length_le (by simp [digA, k.len])]
section
variable {L L1 L2 : List Tl} {x : Tl} {n : Nat} {who seq e : Int} {k : Sd}
theorem Re.tlsOut : Re [.pc (tlsP (L1 ++ x :: L2))] [.blk x.t 128 [mapV x.bv, mapV x.bn], .pc (mapPc x.bv intK sdV intOk x.m), .pc (mapPc x.bn sdV cntV sdOk x.c), .pc (tlsP (L1 ++ L2))] := by
  have h1 : Re [.pc (tlsP (L1 ++ x :: L2))] [.pc (tlP x), .pc (tlsP (L1 ++ L2))] := by
    unfold tlsP
    rw [List.map_append, List.map_append, List.map_cons]
    exact Re.out
  exact h1.trans (Re.tlOut.app _)
theorem Re.tlsIn : Re [.blk x.t 128 [mapV x.bv, mapV x.bn], .pc (mapPc x.bv intK sdV intOk x.m), .pc (mapPc x.bn sdV cntV sdOk x.c), .pc (tlsP (L1 ++ L2))] [.pc (tlsP (L1 ++ x :: L2))] := by
  have h1 : Re [.pc (tlP x), .pc (tlsP (L1 ++ L2))] [.pc (tlsP (L1 ++ x :: L2))] := by
    unfold tlsP
    rw [List.map_append, List.map_append, List.map_cons]
    exact Re.back
  exact Re.trans (Re.tlIn.app _) h1
theorem split_at {i : Nat} (h : i < L.length) : ∃ x L1 L2, L = L1 ++ x :: L2 ∧ L1.length = i := ⟨L[i], L.take i, L.drop (i + 1), by rw [← List.drop_eq_getElem_cons h, List.take_append_drop], by rw [List.length_take]; omega⟩
theorem jr_ (h : ackE n L who seq k = e) (he : e ≠ 0) : ackL n L who seq k = L ∧ ackE n L who seq k = e := ⟨if_neg (by rw [h]; exact he), h⟩
theorem io_ (h : ¬ ((0 ≤ who ∧ who < n) ∧ 0 ≤ seq ∧ seq < n)) : ackE n L who seq k = 17 := if_pos h
theorem ack_at (h : (0 ≤ who ∧ who < n) ∧ 0 ≤ seq ∧ seq < n) (hL : L1.length = seq.toNat) : ackE n (L1 ++ x :: L2) who seq k = match aget x.m who with | some s => laterE k.view s.view | none => 0 := by
  unfold ackE
  rw [if_neg (fun h2 => h2 h), List.getElem?_append_right (by omega), hL, Nat.sub_self]
  rfl
theorem ack_yes (hL : L1.length = seq.toNat) (h0 : ackE n (L1 ++ x :: L2) who seq k = 0) : ackL n (L1 ++ x :: L2) who seq k = L1 ++ x.ack who k :: L2 := by
  unfold ackL
  rw [if_pos h0, List.getElem?_append_right (by omega), hL, Nat.sub_self]
  show (L1 ++ x :: L2).set seq.toNat (x.ack who k) = _
  rw [List.set_append_right _ _ (by omega), hL, Nat.sub_self]
  rfl
end
section
variable {t bv bn : Nat} {m : List (Int × Sd)} {c : List (Sd × Nat)} {k : Sd} {who seq : Int} {h q bd bt bm n : Nat} {av : Value} {L : List Tl}
theorem hM_ (hw : intOk who) (hti : TInv m c) (hl : m.length ≤ 1000) (hk : sdOk k) (hok : ∀ w v, aget m w = some v → sdOk v) : Spec Tryz.prog 43 [ptr t, int who, .agg (sdC k)] [.blk t 128 [mapV bv, mapV bn], .pc (mapPc bv intK sdV intOk m), .pc (mapPc bn sdV cntV sdOk c)] (fun _ : Unit => [.blk t 128 [mapV bv, mapV bn], .pc (mapPc bv intK sdV intOk (aput m who k)), .pc (mapPc bn sdV cntV sdOk (chgC m c who k))]) (fun _ => .tup []) := by
  cases hv : aget m who with
  | none => exact gQ_ hw hti hl hk hok hv
  | some v => exact gP_ hw hti hl hk hok hv
set_option maxHeartbeats 2000000 in
theorem lD_ (hn : L.length = n) (hL : ∀ x ∈ L, TlOk x) (hk : sdOk k) (hw : intOk who) : Spec Tryz.prog 12 [ptr h, int who, .agg (voA k seq)] [.rd h 92 [.ifc 34 (ptr q), int (n : Nat), mapV bm, .v av], .rdpc (ownPc 93 1 av (L.map fun x => [ptr x.t])), .pc (tlsP L)] (fun _ : Unit => [.pc (tlsP (ackL n L who seq k))]) (fun _ => int (ackE n L who seq k)) := by
 refine G_ Tryz.func12 rfl Tryz.ntmps12 rfl fun G w =>d_<|a_<|eb_ (L_ (cs := voA k seq) rfl) rfl rfl fun b5=>?_
 refine q_ 1 rfl<|g_<|c_<|d_<|t_<|d_<|a_<|q_ 1 rfl<|b_ (aJ_ rfl rfl (by kernel_rfl)) rfl rfl ?_
 refine q_ 1 rfl<|g_<|c_<|V_ rfl<|d_<|a_<|q_ 2 rfl<|u_ (c8_ (q := q) (bm := bm) (av := av) (n := n)) Casts.refl (by kernel_rfl) rfl rfl rfl ?_
 refine ap_<|fun _=>b_ (aL_ rfl) rfl rfl<|q_ 1 rfl<|C_ (t := 19) rfl ?_ ?_
 ·intro hc19
  refine q_ 7 rfl<|g_<|c_<|O_ rfl<|d_<|a_<|q_ 1 rfl<|g_<|c_<|n_<|E_<|i_ nofun ?_
  obtain ⟨e1, e2⟩ := jr_ (L := L) (k := k) (io_ (n := n) (who := who) (seq := seq) (L := L) (k := k) (by omega)) (by decide)
  refine f_ (rs := [.tmp 6]) rfl (RV.tmp rfl RV.nil) (()) (by rw [e1]; repeat (first | exact List.nil_sublist _ | exact List.Sublist.refl _ | apply List.Sublist.cons_cons | apply List.Sublist.cons)) ?_
  rw [e2]
  rfl
 intro hc19
 refine q_ 2 rfl<|b_ (m_ (C := int seq) (h_ tabOk rfl rfl l0_ List.not_mem_nil rfl) rfl) rfl rfl<|u_ (c8_ (q := q) (bm := bm) (av := av) (n := n)) Casts.refl (by kernel_rfl) rfl rfl rfl ?_
 refine ap_<|fun _=>b_ (aL_ rfl) rfl rfl<|q_ 2 rfl<|g_<|c_<|r_ rfl ?_ ?_
 ·intro hc14
  refine d_<|a_<|q_ 1 rfl<|g_<|c_<|n_<|E_<|i_ nofun ?_
  obtain ⟨e1, e2⟩ := jr_ (L := L) (k := k) (io_ (n := n) (who := who) (seq := seq) (L := L) (k := k) (by omega)) (by decide)
  refine f_ (rs := [.tmp 6]) rfl (RV.tmp rfl RV.nil) (()) (by rw [e1]; repeat (first | exact List.nil_sublist _ | exact List.Sublist.refl _ | apply List.Sublist.cons_cons | apply List.Sublist.cons)) ?_
  rw [e2]
  rfl
 intro hc14
 have hin : (0 ≤ who ∧ who < n) ∧ 0 ≤ seq ∧ seq < n := by omega
 refine p_<|o_<|c_<|d_ ?_
 obtain ⟨x, L1, L2, hLe, hL1⟩ := split_at (L := L) (i := seq.toNat) (by omega)
 subst hLe
 have hx := hL x (by simp)
 have hat : (L1 ++ x :: L2)[seq.toNat]? = some x := by rw [List.getElem?_append_right (by omega), hL1, Nat.sub_self]; rfl
 refine SC.re [_, _, _] Re.tlsOut rfl<|Y_ [] (.q 0 (.q 1 (.q 2 (.q 3 (.q 4 (.q 5 (.q 6 (.q 7 (.q 8 .nil))))))))) (by kernel_rfl) (by kernel_rfl) ?_
 refine qs_ 3 rfl<|l_ rfl (h_ tabOk rfl rfl r1_ List.not_mem_nil rfl) (by simp) rfl rfl ?_
 refine qs_ 1 rfl<|ag_ (by (simp [mids, It.mids, ownPc, mapPc]; done)) fun hx9 => ?_
 refine l_ rfl (m_ (C := int seq) (h_ tabOk rfl rfl l0_ List.not_mem_nil rfl) rfl) hx9 rfl rfl<|l_ rfl (bB_ (q := seq.toNat) tabOk Tryz.underlying90 rfl rfl r2_ rfl (by omega) (by rw [List.length_map]; omega) rfl rfl) hx9 rfl rfl ?_
 refine l_ rfl (m_ (C := ptr x.t) (bW_ (q := seq.toNat) (s := 1) (cs := [ptr x.t]) tabOk rfl rfl r2_ rfl (by rw [List.getElem?_map, hat]; rfl) rfl) rfl) hx9 rfl rfl ?_
 refine qs_ 1 rfl<|N_<|c_<|ed_ (ι := Unit) (fun z => [.blk b5 43 (voA k seq), .rd h 92 [.ifc 34 (ptr q), int (n : Nat), mapV bm, .v av], .rdpc (ownPc 93 1 av ((L1 ++ x :: L2).map fun x => [ptr x.t])), .blk x.t 128 [mapV x.bv, mapV x.bn], .pc (mapPc x.bv intK sdV intOk x.m), .pc (mapPc x.bn sdV cntV sdOk x.c), .pc (tlsP (L1 ++ L2))]) (fun z => [(0, ptr h), (1, int who), (5, ptr b5), (7, ptr x.t)]) (fun z => ackE n (L1 ++ x :: L2) who seq k = 0) ?_ ?_
 ·skip
  refine d_<|a_<|q_ 2 rfl<|u_ (sd_ofR_s (t := x.t) (bv := x.bv) (bn := x.bn) (m := x.m) (c := x.c) (who := who) hw) Casts.refl (by kernel_rfl) rfl rfl rfl ?_
  refine ap_<|fun _=>q_ 3 rfl<|eb_ (B_ tabOk rfl) rfl rfl fun b8=>?_
  refine e_ (w_ (L' := (sdC (sOf x.m who))) tabOk rfl rfl rfl u0_ (by exact aM_ _) (Nat.le_of_ble_eq_true rfl) (by exact ey_ _) (A_ (by exact aM_ _))) rfl rfl ?_
  refine q_ 1 rfl<|g_<|c_<|d_<|a_<|q_ 1 rfl<|g_<|c_<|ac_ rfl ?_ ?_
  rotate_left
  ·intro hc40
   have hv := dm_ hc40
   have hE := ack_at (k := k) (x := x) (L2 := L2) hin hL1
   rw [hv] at hE
   have hE0 : ackE n (L1 ++ x :: L2) who seq k = 0 := hE
   refine p_<|bx_ (()) (hE0) (by exact ⟨rfl, rfl, rfl, rfl, trivial⟩) (sk_ sr_)
  intro hc40
  obtain ⟨v, hv⟩ := dl_ hc40
  have hso : sOf x.m who = v := by unfold sOf; rw [hv]; rfl
  have hE := ack_at (k := k) (x := x) (L2 := L2) hin hL1
  rw [hv] at hE
  dsimp only at hE
  rw [← hso] at hE
  refine d_<|a_<|q_ 1 rfl<|b_ (m_ (C := int k.view) (h_ tabOk rfl rfl l1_ List.not_mem_nil rfl) rfl) rfl rfl<|q_ 1 rfl<|b_ (m_ (C := int (sOf x.m who).view) (h_ tabOk rfl rfl l0_ List.not_mem_nil rfl) rfl) rfl rfl<|u_ (jm_ (x := k.view) (y := (sOf x.m who).view)) Casts.refl (by kernel_rfl) rfl rfl rfl ?_
  refine ap_<|fun _=>q_ 1 rfl<|g_<|c_<|d_<|a_<|q_ 2 rfl<|g_<|c_<|r_ rfl ?_ ?_
  rotate_left
  ·intro hc47
   have hE0 : ackE n (L1 ++ x :: L2) who seq k = 0 := hE.trans (by omega)
   refine p_<|bx_ (()) (hE0) (by exact ⟨rfl, rfl, rfl, rfl, trivial⟩) (sk_ sr_)
  intro hc47
  refine d_<|a_<|q_ 2 rfl<|g_<|c_<|n_<|i_ nofun ?_
  obtain ⟨e1, e2⟩ := jr_ hE hc47
  refine lL_ [_, _, _, _] Re.tlsIn rfl<|f_ (rs := [.tmp 6]) rfl (RV.tmp rfl RV.nil) (()) (by rw [e1]; repeat (first | exact List.nil_sublist _ | exact List.Sublist.refl _ | apply List.Sublist.cons_cons | apply List.Sublist.cons)) ?_
  rw [e2]
  rfl
 intro z9 hE0
 refine d_<|a_<|q_ 3 rfl<|b_ (m_ (C := int k.view) (h_ tabOk rfl rfl l0_ List.not_mem_nil rfl) rfl) rfl rfl<|q_ 1 rfl<|b_ (m_ (C := .agg (digA k.dig)) (H_ tabOk rfl rfl rfl l0_ List.not_mem_nil (by show 2 + 32 ≤ (voA k seq).length; rw [bu_]; omega)) (by exact dR_ _ _)) rfl rfl ?_
 refine b_ (m_ (C := .agg (sdC k)) (J_ tabOk rfl rfl rfl (ko_ rfl rfl rfl)) rfl) rfl rfl<|u_ (hM_ (t := x.t) (bv := x.bv) (bn := x.bn) (m := x.m) (c := x.c) (who := who) (k := k) hw hx.ti hx.few hk hx.ok) Casts.refl (by kernel_rfl) rfl rfl rfl ?_
 refine aW_ [_, _, _] (β := [_]) rfl (by intro x hx; simp only [List.mem_cons, List.not_mem_nil, or_false] at hx; rcases hx with rfl | rfl | rfl <;> rfl) ?_
 intro _
 refine g_<|c_<|d_<|a_<|q_ 1 rfl<|g_<|c_<|n_<|lL_ [_, _, _] (Re.tlsIn (x := x.ack who k)) rfl<|f_ (rs := [.tmp 6]) rfl (RV.tmp rfl RV.nil) (()) (by rw [ack_yes hL1 hE0]; repeat (first | exact List.nil_sublist _ | exact List.Sublist.refl _ | apply List.Sublist.cons_cons | apply List.Sublist.cons)) ?_
 rw [hE0]
 rfl
end
end Go.Proofs.YtggajaigfkekhaaGreat.A
namespace Go.Proofs.YtggajaigfkekhaaGreat.A
open Go.RowKit Go.Maps Go.Sort Go.Shelf
theorem kZ_ {K : List Nat} {w : World} : ∀ {xs : List Int} {us : List Value}, repss K w 1 (xs.map fun x => [int x]) us → us = xs.map (Value.int .i64)
  | [], us, h => h
  | x :: xs, us, h => by
    obtain ⟨us1, us2, rfl, hl, h1, h2⟩ := h
    obtain ⟨u, us3, rfl, h3, h4⟩ := h1
    have h3 : u = Value.int .i64 x := h3
    have h4 : us3 = [] := h4
    subst h3 h4
    rw [kZ_ h2]
    rfl
theorem sort64_s {v : Value} {xs : List Int} (hl : xs.length ≤ 1000000) : Spec Tryz.prog 88 [.v v] [own 2 1 v (xs.map fun x => [int x])] (fun _ : Unit => [own 2 1 v ((srt xs).map fun x => [int x])]) (fun _ => .tup []) := fun G w vals hm hv => by
  obtain ⟨_, _, rfl, h4, h5⟩ := hv
  have h4 : _ = v := h4
  have h5 : _ = [] := h5
  subst h4 h5
  obtain ⟨us, hown, hr⟩ : (ownPc 2 1 _ (xs.map fun x => [int x])).p _ w := hm.hold (own 2 1 _ (xs.map fun x => [int x])) List.mem_cons_self
  have hus := kZ_ hr
  subst hus
  have hlen : (xs.map fun x => [int x]).length = xs.length := List.length_map _
  rw [hlen] at hown
  rcases hown.2 with ⟨h0, h1⟩ | ⟨gb, cap, cur, h0, hb, hg, hn, hc, hcs, htk⟩
  · subst h0
    have h2 : xs = [] := List.length_eq_zero_iff.1 h1
    subst h2
    refine (AnyM.slices_Sort_int_none eW_ none 0 w).mono fun e w' ⟨he, hw⟩ => ?_
    subst he hw
    exact ⟨(), _, rfl, by simp [It.rids], by rw [show srt ([] : List Int) = [] by simp [srt]]; exact hm, ⟨[], rfl, rfl⟩⟩
  · subst h0
    rw [Nat.mul_one] at htk hcs
    have hgl := bL_ hg
    refine (AnyM.slices_Sort_int eW_ gb 0 cap xs w (holds_of_blockI hg htk) hgl (by omega)).mono fun e w' ⟨he, n, os, hw⟩ => ?_
    subst he
    have hs : (xs.mergeSort fun x y => decide (x ≤ y)) = srt xs := rfl
    rw [hs] at hw
    have hgb := grownBy_sortedI (w := w) (g := gb) (n := n) (os := os) (srt xs).toArray
    have hx : Ext (own 2 1 (.slice (some ⟨gb, 0, none⟩) xs.length cap) (xs.map fun x => [int x])).mids w w' := by
      subst hw
      exact ⟨hgb.os, hgb.tape, hgb.output, hgb.size, fun k hk hn => hgb.block k hk (fun h9 => hn (by cases h9; simp [It.mids, ownPc, Value.ownBlock]))⟩
    have hm2 := hm.upd (y := own 2 1 (.slice (some ⟨gb, 0, none⟩) xs.length cap) ((srt xs).map fun x => [int x])) Upd.here hx bT_ (fun k hk => .inl hk) rfl fun _ => ⟨(srt xs).map (Value.int .i64), by
      have h9 := ownsRow_sortedI (w := w) (base := 0) (n := n) (e := 2) (os := os) (ts := srt xs) (cX_ xs) hb hg hn hc (by rw [hcs, Nat.mul_one])
      rw [← hw] at h9
      rw [List.length_map, cX_]
      exact h9, fG_⟩
    exact ⟨(), _, rfl, by simp [It.rids], hm2.1, ⟨[], rfl, rfl⟩⟩
theorem opt_some {α : Type} {o : Option α} (h : o.isSome = true) : ∃ v, o = some v := Option.isSome_iff_exists.1 h
theorem opt_none {α : Type} {o : Option α} (h : o.isSome = false) : o = none := by simpa using h
section
variable {β : Type} {tm z : List (Int × (Value × β))} {rest : List (Int × Value)} {keep : Int × β → Bool} {p : Int × Value} {x : β}
theorem raw_in (h : p ∈ rawM tm) : ∃ x, (p.1, (p.2, x)) ∈ tm := by
  obtain ⟨e, he, rfl⟩ := List.mem_map.1 h
  exact ⟨e.2.2, he⟩
end
theorem bX_ {ι : Type} {σ σ1 : Blks} {τ' : ι → Blks} {K : Blks → ι → Prop} (φ : Blks) (hp : (mids σ1 ++ mids φ).Perm (mids σ)) (hs : ∀ x ∈ σ1, (x ∈ σ ∧ x.rids = []) ∨ ∃ y ∈ φ, x = y.toRd) (hr : ∀ x ∈ φ, x ∈ σ) (k : ∀ z, K (τ' z ++ φ) z) : After σ σ1 τ' K := ⟨φ, ⟨hp, hs, hr⟩, fun z => ⟨_, List.Perm.refl _, k z⟩⟩
def vwK (cm : List (Int × Kp)) (least : Int) : List Int := (cm.filter fun e => decide (least ≤ e.2.c.view)).map fun e => e.2.c.view
def leftV (least : Int) (tm : List (Int × (Value × Kp))) (rest : List (Int × Value)) : List Int := (tm.filter fun e => decide (e.1 ∈ rest.map (·.1)) && decide (least ≤ e.2.2.c.view)).map fun e => e.2.2.c.view
section
variable {tm : List (Int × (Value × Kp))} {rest : List (Int × Value)} {least : Int} {p : Int × Value} {x : Kp} {cm : List (Int × Kp)}
theorem hV_ : leftV least tm (rawM tm) = vwK (plM tm) least := by
  unfold leftV vwK plM
  rw [List.filter_map, List.map_map]
  congr 1
  refine List.filter_congr fun e he => ?_
  rw [kC_, decide_eq_true (List.mem_map.2 ⟨e, he, rfl⟩), Bool.true_and]
  rfl
theorem kU_ : leftV least tm [] = [] := by simp [leftV]
theorem iQ_ {γ : Type} : ∀ {t : List (Int × γ)} {a : Int} {b : γ}, (t.map (·.1)).Nodup → (a, b) ∈ t → t.Perm ((a, b) :: t.filter fun e => decide (e.1 ≠ a))
  | [], _, _, _, h => by cases h
  | e :: t, a, b, hn, h => by
    rw [List.map_cons, List.nodup_cons] at hn
    rcases List.mem_cons.1 h with h2 | h2
    · subst h2
      have h3 : t.filter (fun e => decide (e.1 ≠ a)) = t := List.filter_eq_self.2 fun e he => by
        have : e.1 ≠ a := fun h4 => hn.1 (List.mem_map.2 ⟨e, he, h4⟩)
        simpa using this
      rw [List.filter_cons, if_neg (by simp), h3]
    · have h3 : e.1 ≠ a := fun h4 => hn.1 (h4 ▸ List.mem_map.2 ⟨_, h2, rfl⟩)
      rw [List.filter_cons, if_pos (by simpa using h3)]
      exact ((iQ_ hn.2 h2).cons e).trans (List.Perm.swap _ _ _)
theorem jN_ (hn : (tm.map (·.1)).Nodup) (hx : (p.1, (p.2, x)) ∈ tm) (hp : p ∈ rest) : (leftV least tm rest).Perm ((if least ≤ x.c.view then [x.c.view] else []) ++ leftV least tm (rest.filter fun q => decide (q.1 ≠ p.1))) := by
  have h1 := (((iQ_ hn hx).filter fun e => decide (e.1 ∈ rest.map (·.1)) && decide (least ≤ e.2.2.c.view)).map fun e => e.2.2.c.view)
  refine h1.trans ?_
  have h2 : decide (p.1 ∈ rest.map (·.1)) = true := decide_eq_true (List.mem_map.2 ⟨p, hp, rfl⟩)
  have h3 : (tm.filter fun e => decide (e.1 ≠ p.1)).filter (fun e => decide (e.1 ∈ rest.map (·.1)) && decide (least ≤ e.2.2.c.view)) = tm.filter fun e => decide (e.1 ∈ (rest.filter fun q => decide (q.1 ≠ p.1)).map (·.1)) && decide (least ≤ e.2.2.c.view) := by
    rw [List.filter_filter]
    refine List.filter_congr fun e _ => ?_
    have h4 : (e.1 ∈ (rest.filter fun q => decide (q.1 ≠ p.1)).map (·.1)) ↔ e.1 ∈ rest.map (·.1) ∧ e.1 ≠ p.1 := by
      simp only [List.mem_map, List.mem_filter, decide_eq_true_eq]
      exact ⟨fun ⟨q, hq, h4⟩ => ⟨⟨q, hq.1, h4⟩, h4 ▸ hq.2⟩, fun ⟨⟨q, hq, h4⟩, h5⟩ => ⟨q, ⟨hq, h4 ▸ h5⟩, h4⟩⟩
    have h6 : decide (e.1 ∈ (rest.filter fun q => decide (q.1 ≠ p.1)).map (·.1)) = (decide (e.1 ∈ rest.map (·.1)) && decide (e.1 ≠ p.1)) := by
      rw [← Bool.decide_and]
      exact decide_eq_decide.2 h4
    rw [h6]
    cases decide (e.1 ∈ rest.map (·.1)) <;> cases decide (e.1 ≠ p.1) <;> cases decide (least ≤ e.2.2.c.view) <;> rfl
  rw [List.filter_cons, h2, Bool.true_and]
  unfold leftV
  split
  · next h5 => rw [if_pos (by simpa using h5), List.map_cons, h3]; exact List.Perm.refl _
  · next h5 => rw [if_neg (by simpa using h5), h3]; exact List.Perm.refl _
end
section
variable {h q bd bt bm n : Nat} {av : Value} {cm : List (Int × Kp)} {who least view : Int}
set_option maxHeartbeats 2000000 in
theorem ji_ (hn : (cm.map (·.1)).Nodup) (hl : cm.length ≤ 1000) : Spec Tryz.prog 50 [ptr h, int least] [.rd h 92 [.ifc 34 (ptr q), int (n : Nat), mapV bm, .v av], .pc (tmPc bm intK intOk Kp.enc cm)] (fun v : Value => [own 2 1 v (((srt (vwK cm least))).map fun x => [int x]), .pc (tmPc bm intK intOk Kp.enc cm)]) (fun v => .v v) := by
 refine G_ Tryz.func50 rfl Tryz.ntmps50 rfl fun G w =>d_<|a_<|q_ 1 rfl<|g_<|c_<|d_<|d_<|a_<|q_ 1 rfl<|b_ (aJ_ rfl rfl (by kernel_rfl)) rfl rfl ?_
 refine g_<|c_<|V_ rfl<|p_<|c_<|d_<|a_<|q_ 1 rfl<|g_<|c_<|d_<|d_<|a_<|q_ 3 rfl<|b_ (h_ tabOk rfl rfl r0_ List.not_mem_nil rfl) rfl rfl<|lI_ [_] rfl fun tm htm => ?_
 have hn2 : (tm.map (·.1)).Nodup := by rw [← plM_keys, htm]; exact hn
 refine eb_ (hD_ (K := intK) (V := id) (Good := intOk) (m := rawM tm) Tryz.underlying89 rfl (fun _ => u2_)) rfl rfl fun r14=>?_
 refine g_<|c_<|t_<|bO_ 2 1<|S_ (ι := List (Int × Value) × Option (Int × Value) × List Int × Value) (fun z => [own 2 1 z.2.2.2 ((z.2.2.1).map fun x => [int x]), .rd h 92 [.ifc 34 (ptr q), int (n : Nat), mapV bm, .v av], facts (facM Kp.enc tm), .pc (rngPc bm r14 intK id intOk (rawM tm) z.1 z.2.1)]) (fun z => [(1, int least), (5, .v z.2.2.2), (14, ptr r14)]) (fun z => (∀ q ∈ z.1, q ∈ rawM tm) ∧ (z.2.2.1 ++ leftV least tm z.1).Perm (vwK cm least)) (fun z => z.1.length) (rawM tm, none, [], .slice none 0 0) (⟨fun q hq => hq, by rw [List.nil_append, hV_, htm]⟩) (by exact ⟨rfl, rfl, rfl, trivial⟩) sr_ ?_
 intro z hz
 refine d_<|a_<|az_ (iy_ (K := intK) (V := id) (Good := intOk) (m := rawM tm) (rest := z.1) (cur := z.2.1) rfl (fun _ _ => u3_)) rfl rfl ?_
 rintro _ _ ⟨o, rest', ho, hpo, rfl, rfl⟩
 refine q_ 1 rfl<|g_<|c_<|d_<|ac_ rfl ?_ ?_
 rotate_left
 ·intro hc16
  have ho2 := opt_none hc16
  subst ho2
  have hr0 := ho rfl
  have hper : z.2.2.1.Perm (vwK cm least) := by
   have h8 := hz.2
   rw [hr0, kU_, List.append_nil] at h8
   exact h8
  refine Q_<|i_ nofun<|i_ nofun<|P_<|c_<|d_<|j6_ u3_<|SC.re [_, _] (Re.tmIn htm) rfl<|a_<|q_ 1 rfl<|u_ (sort64_s (v := z.2.2.2) (xs := z.2.2.1) (by rw [hper.length_eq]; unfold vwK; rw [List.length_map]; exact Nat.le_trans (List.length_filter_le ..) (by omega))) Casts.refl (by kernel_rfl) rfl rfl rfl ?_
  refine aW_ [] (β := [_, _]) rfl (by intro x hx; rw [List.mem_singleton.1 hx]; rfl) ?_
  intro _
  refine g_<|c_<|d_<|a_<|q_ 2 rfl<|g_<|c_<|n_<|f_ (rs := [.tmp 4]) rfl (RV.tmp rfl RV.nil) (z.2.2.2) (by rw [show (srt (vwK cm least)) = srt z.2.2.1 from (kl_ hper).symm]; repeat (first | exact List.nil_sublist _ | exact List.Sublist.refl _ | apply List.Sublist.cons_cons | apply List.Sublist.cons)) ?_
  exact rfl
 intro hc16
 obtain ⟨p, rfl⟩ := opt_some hc16
 obtain ⟨hpm, hre⟩ := hpo p rfl
 subst hre
 have hls := kw_ hpm
 obtain ⟨x, hxm⟩ := raw_in (hz.1 p hpm)
 have hst := jN_ (least := least) hn2 hxm hpm
 have hwl : z.2.2.1.length ≤ 1000 := by
  have h8 := hz.2.length_eq
  rw [List.length_append] at h8
  have h9 : (vwK cm least).length ≤ cm.length := by unfold vwK; rw [List.length_map]; exact List.length_filter_le ..
  omega
 refine p_<|c_<|t_<|d_<|a_<|b_ (hz_ rfl i3_ ⟨List.not_mem_nil, List.not_mem_nil⟩) rfl rfl<|b_ (m_ (C := .v p.2) (aV_ rfl rfl) rfl) rfl rfl<|SL.fact (t := 18) (A := Kp.enc x) rfl (.inl i2_) (List.mem_map.2 ⟨_, hxm, rfl⟩)<|eb_ (B_ tabOk rfl) rfl rfl fun b7=>?_
 refine e_ (w_ (L' := x.cells) tabOk rfl rfl rfl u0_ (cf_ _) (Nat.le_of_ble_eq_true rfl) (fg_ _) (by exact A_ (cf_ _))) rfl rfl ?_
 refine g_<|c_<|d_<|a_<|q_ 2 rfl<|b_ (m_ (C := int x.c.view) (h_ tabOk rfl rfl l0_ List.not_mem_nil rfl) rfl) rfl rfl<|q_ 2 rfl<|g_<|c_<|r_ rfl ?_ ?_
 rotate_left
 ·intro hc23
  rw [if_neg (by omega)] at hst
  refine p_<|o_<|x_ ((z.1.filter fun q => decide (q.1 ≠ p.1)), some p, z.2.2.1, z.2.2.2) (by exact hls) (⟨fun q hq => hz.1 q ((List.mem_filter.1 hq).1), (List.Perm.append_left _ hst.symm).trans hz.2⟩) (by exact ⟨rfl, rfl, rfl, trivial⟩) (sk_ sr_)
 intro hc23
 rw [if_pos (by omega)] at hst
 refine a_<|q_ 3 rfl<|b_ (m_ (C := int x.c.view) (h_ tabOk rfl rfl l0_ List.not_mem_nil rfl) rfl) rfl rfl<|e_ (ae_ tabOk Tryz.underlying113 rfl rfl rfl rfl rfl rfl rfl) rfl rfl<|eb_ (ak_ (zs := (z.2.2.1 ++ [x.c.view]).map fun x => [int x]) tabOk [_] (by rw [List.map_append]; rfl) Tryz.underlying113 rfl rfl rfl rfl rfl rfl (by intro c hc; rw [List.mem_singleton] at hc; subst hc; rfl) (by unfold maxLen; simp only [List.length_map, List.length_cons, List.length_nil]; omega) (by rw [show Tryz.prog.bytesOf 2 = 8 by kernel_rfl]; simp only [List.length_map, List.length_cons, List.length_nil]; omega)) rfl rfl fun r29=>?_
 refine q_ 1 rfl<|g_<|o_<|x_ ((z.1.filter fun q => decide (q.1 ≠ p.1)), some p, z.2.2.1 ++ [x.c.view], r29) (by exact hls) (⟨fun q hq => hz.1 q ((List.mem_filter.1 hq).1), by dsimp only; rw [List.append_assoc]; exact (List.Perm.append_left _ hst.symm).trans hz.2⟩) (by exact ⟨rfl, rfl, rfl, trivial⟩) (sk_ sr_)
end
section
variable {v : Value} {xs : List Int} {p : Int → Bool} {k : Nat} {caps : List Abs} {σ : Blks}
theorem index_s (hb : goesIn Tryz.prog k = true) (hr : RdAll σ) (hn : xs.length < 1000000) (h : ∀ x ∈ xs, Spec Tryz.prog k (int x :: caps) σ (fun _ : Unit => []) (fun _ => boo (p x))) : Spec Tryz.prog 87 [.v v, .fn (.func k) [] caps] (.rdpc (ownPc 2 1 v (xs.map fun x => [int x])) :: σ) (fun _ : {q : Int // (q = -1 ∧ ∀ x ∈ xs, p x = false) ∨ ∃ z, ∃ h : z < xs.length, p xs[z] = true ∧ (∀ j (hj : j < xs.length), j < z → p xs[j] = false) ∧ q = (z : Nat)} => []) (fun z => int z.1) := by
 refine G_ Tryz.func87 rfl Tryz.ntmps87 rfl fun G w =>d_<|a_<|q_ 1 rfl<|g_<|c_<|d_<|d_<|a_<|q_ 1 rfl<|b_ (ft_ rfl (.inr i0_) Tryz.underlying113 (List.length_map _)) rfl rfl<|q_ 1 rfl<|g_<|c_<|t_<|S_ (ι := Nat) (fun z => (.rdpc (ownPc 2 1 v (xs.map fun x => [int x])) :: σ)) (fun z => [(0, .v v), (1, .fn (.func k) [] caps), (7, int (xs.length : Nat)), (8, int (z : Nat))]) (fun z => z ≤ xs.length ∧ ∀ j (hj : j < xs.length), j < z → p xs[j] = false) (fun z => xs.length - z) (0) (⟨Nat.zero_le _, fun j hj h => by omega⟩) (by exact ⟨rfl, rfl, rfl, rfl, trivial⟩) sr_ ?_
 intro z hz
 refine d_<|a_<|q_ 1 rfl<|g_<|c_<|d_<|r_ rfl ?_ ?_
 rotate_left
 ·intro hc9
  refine Q_<|i_ nofun<|i_ nofun<|P_<|c_<|d_<|a_<|q_ 1 rfl<|g_<|c_<|n_<|f_ (rs := [.tmp 4]) rfl (RV.tmp rfl RV.nil) (⟨-1, .inl ⟨rfl, fun x hx => by obtain ⟨j, hj, rfl⟩ := List.getElem_of_mem hx; exact hz.2 j hj (by omega)⟩⟩) sn_ ?_
  exact rfl
 intro hc9
 have hlt : z < xs.length := by omega
 refine p_<|c_<|d_<|t_<|d_<|a_<|q_ 2 rfl<|g_<|c_<|d_<|a_<|q_ 3 rfl<|b_ (bB_ (q := z) tabOk Tryz.underlying113 rfl rfl (.inr i0_) rfl rfl (by rw [List.length_map]; exact hlt) rfl rfl) rfl rfl ?_
 refine b_ (m_ (C := int (xs[z]'hlt)) (bW_ (q := z) (s := 1) tabOk rfl rfl (.inr i0_) rfl (aa_ hlt) rfl) rfl) rfl rfl<|b5_ (h _ (List.getElem_mem hlt)) rfl Casts.refl hb rfl rfl rfl<|bp_ (RdAll.reads hr (fun x hx => by repeat (first | exact hx | apply List.mem_cons_of_mem))) (fun _ => rfl) ?_
 intro _
 refine g_<|c_<|ac_ rfl ?_ ?_
 ·intro hc16
  refine d_<|a_<|q_ 2 rfl<|g_<|c_<|n_<|E_<|i_ nofun<|i_ nofun<|E_<|i_ nofun<|f_ (rs := [.tmp 4]) rfl (RV.tmp rfl RV.nil) (⟨(z : Nat), .inr ⟨z, hlt, by simpa using hc16, hz.2, rfl⟩⟩) sn_ ?_
  exact rfl
 intro hc16
 refine p_<|o_<|c_<|a_<|b_ (s_ rfl rfl (by simp only [InR, lo, hi]; omega)) rfl rfl ?_
 refine q_ 1 rfl<|g_<|x_ (z + 1) (by omega) (⟨by omega, fun j hj hjz => by
  rcases Nat.lt_or_ge j z with h1 | h1
  ·exact hz.2 j hj h1
  obtain rfl : j = z := (by omega)
  simpa using hc16⟩) (by exact ⟨rfl, rfl, rfl, rfl, trivial⟩) sr_
theorem f2_ {α : Type} {ys : List α} {i : Nat} {x : α} (h : i < ys.length) : (ys.set i x).take (i + 1) = ys.take i ++ [x] := by
  apply List.ext_getElem?
  intro j
  simp only [List.getElem?_take, List.getElem?_append, List.getElem?_set, List.length_take]
  grind
theorem h5_ {α : Type} {ys : List α} {i j : Nat} {x : α} (h : i < j) : (ys.set i x).drop j = ys.drop j := by
  apply List.ext_getElem?
  intro q
  simp only [List.getElem?_drop, List.getElem?_set]
  grind
theorem bY_ {xs : List Int} {p : Int → Bool} {j : Nat} (h : j < xs.length) : (xs.take (j + 1)).filter (fun x => !p x) = (xs.take j).filter (fun x => !p x) ++ if p xs[j] then [] else [xs[j]] := by
  rw [List.take_succ_eq_append_getElem h, List.filter_append, List.filter_cons]
  cases p xs[j] <;> simp
theorem at_drop {xs ys : List Int} {j : Nat} (h : ys.drop j = xs.drop j) (hx : j < xs.length) (hy : j < ys.length) : ys[j] = xs[j] := by
  have h1 := congrArg (fun l : List Int => l[0]?) h
  simpa [List.getElem?_drop, hx, hy] using h1
theorem hi_ {xs ys : List Int} {j : Nat} (h : ys.drop j = xs.drop j) : ys.drop (j + 1) = xs.drop (j + 1) := by
  rw [← List.drop_drop, h, List.drop_drop]
theorem k3_ {xs : List Int} {p : Int → Bool} {q : Nat} (hq : q < xs.length) (hp : p xs[q] = true) (hb : ∀ j (hj : j < xs.length), j < q → p xs[j] = false) : xs.take q = (xs.take (q + 1)).filter (fun x => !p x) := by
  rw [bY_ hq, if_pos hp, List.append_nil]
  symm
  rw [List.filter_eq_self]
  intro x hx
  obtain ⟨j, hj, rfl⟩ := List.getElem_of_mem hx
  rw [List.length_take] at hj
  rw [List.getElem_take, hb j (by omega) (by omega)]
  rfl
theorem cut_all {xs ys : List Int} {p : Int → Bool} {i j m : Nat} {z : List Abs} (h1 : ys.length = xs.length) (hi : i ≤ ys.length) (h2 : ys.take i = (xs.take j).filter (fun x => !p x)) (h3 : xs.length ≤ j) : ((ys.map fun x => [int x]).take i ++ List.replicate m z).take i = (xs.filter fun x => !p x).map fun x => [int x] := by
  rw [List.take_append_of_le_length (by simp; omega), List.take_take, Nat.min_self, ← List.map_take, h2, List.take_of_length_le h3]
set_option maxHeartbeats 2000000 in
theorem delete_s (hb : goesIn Tryz.prog k = true) (hr : RdAll σ) (hn : xs.length < 1000000) (h : ∀ x ∈ xs, Spec Tryz.prog k (int x :: caps) σ (fun _ : Unit => []) (fun _ => boo (p x))) : Spec Tryz.prog 49 [.v v, .fn (.func k) [] caps] (own 2 1 v (xs.map fun x => [int x]) :: σ) (fun u : Value => [own 2 1 u (((xs.filter fun x => !p x)).map fun x => [int x])]) (fun u => .v u) := by
 refine G_ Tryz.func49 rfl Tryz.ntmps49 rfl fun G w =>d_<|a_<|q_ 1 rfl<|g_<|c_<|d_<|a_<|q_ 2 rfl<|u_ (index_s (v := v) hb hr hn h) Casts.refl (by kernel_rfl) rfl rfl rfl ?_
 refine bp_ (.pc i0_ (RdAll.reads hr (fun x hx => by repeat (first | exact hx | apply List.mem_cons_of_mem)))) (fun _ => rfl) ?_
 intro q0
 refine q_ 1 rfl<|g_<|c_<|d_<|d_<|a_<|q_ 2 rfl<|g_<|c_<|r_ rfl ?_ ?_
 ·intro hc12
  have hall : ∀ x ∈ xs, p x = false := by
   rcases q0.2 with h1 | ⟨q, h1, h2, h3, h4⟩
   ·exact h1.2
   omega
  have hfil : xs.filter (fun x => !p x) = xs := List.filter_eq_self.2 fun x hx => by rw [hall x hx]; rfl
  refine d_<|a_<|q_ 2 rfl<|g_<|c_<|n_<|i_ nofun<|f_ (rs := [.tmp 4]) rfl (RV.tmp rfl RV.nil) (v) (by rw [hfil]; exact List.sublist_append_left _ _) ?_
  exact rfl
 intro hc12
 obtain ⟨q0, hq0⟩ := q0
 have hf : ∃ q, ∃ h : q < xs.length, p xs[q] = true ∧ (∀ j (hj : j < xs.length), j < q → p xs[j] = false) ∧ q0 = (q : Nat) := by
  rcases hq0 with h1 | h1
  ·exact absurd h1.1 hc12
  exact h1
 obtain ⟨q, hq, hp, hbe, rfl⟩ := hf
 refine p_<|c_<|d_<|d_<|a_<|q_ 1 rfl<|b_ (s_ rfl rfl (by simp only [InR, lo, hi]; omega)) rfl rfl ?_
 refine q_ 1 rfl<|g_<|c_<|t_<|S_ (ι := List Int × Nat × Nat) (fun z => (own 2 1 v ((z.1).map fun x => [int x]) :: σ)) (fun z => [(0, .v v), (1, .fn (.func k) [] caps), (5, int (z.2.1 : Nat)), (6, int (z.2.2 : Nat))]) (fun z => z.1.length = xs.length ∧ z.2.1 < z.2.2 ∧ z.2.2 ≤ xs.length ∧ z.1.drop z.2.2 = xs.drop z.2.2 ∧ z.1.take z.2.1 = (xs.take z.2.2).filter (fun x => !p x)) (fun z => xs.length - z.2.2) (xs, q, q + 1) (⟨rfl, Nat.lt_succ_self _, hq, rfl, k3_ hq hp hbe⟩) (by exact ⟨rfl, rfl, rfl, rfl, trivial⟩) sr_ ?_
 intro z hz
 refine d_<|d_<|a_<|q_ 2 rfl<|b_ (ft_ rfl (.inl i0_) Tryz.underlying113 (List.length_map _)) rfl rfl<|q_ 1 rfl<|g_<|c_<|r_ rfl ?_ ?_
 rotate_left
 ·intro hc19
  refine Q_<|i_ nofun<|i_ nofun<|P_<|c_<|d_<|a_<|q_ 2 rfl<|b_ (fy_ (q := z.2.1) tabOk Tryz.underlying113 rfl rfl rfl (.inl i0_) rfl rfl (by rw [List.length_map]; omega)) rfl rfl ?_
  refine e_ (hE_ (v := v) (xs := ((z.1).map fun x => [int x])) (q := z.2.1) (z := .int .i64 0) Tryz.underlying113 (fun w => by kernel_rfl) rfl rfl rfl (by rw [List.length_map]; omega) u0_) rfl rfl ?_
  refine g_<|c_<|d_<|a_<|q_ 2 rfl<|b_ (fz_ (q := z.2.1) tabOk Tryz.underlying113 rfl rfl (.inl i0_) rfl rfl (by simp; omega)) rfl rfl ?_
  refine lJ_ (q := z.2.1) (ys := (((xs.filter fun x => !p x)).map fun x => [int x])) ?_ u0_ (by simp; omega) ?_
  ·exact cut_all hz.1 (by omega) hz.2.2.2.2 (by omega)
  exact q_ 1 rfl<|g_<|c_<|n_<|f_ (rs := [.tmp 4]) rfl (RV.tmp rfl RV.nil) (cutTo v z.2.1) (List.sublist_append_left _ _)<|rfl
 intro hc19
 have hlt : z.2.2 < xs.length := by omega
 have hly : z.2.2 < z.1.length := by omega
 refine p_<|c_<|d_<|t_<|d_<|a_<|q_ 2 rfl<|b_ (bB_ (q := z.2.2) tabOk Tryz.underlying113 rfl rfl (.inl i0_) rfl rfl (by rw [List.length_map]; exact hly) rfl rfl) rfl rfl ?_
 refine b_ (m_ (C := int (xs[z.2.2]'hlt)) (bW_ (q := z.2.2) (s := 1) tabOk rfl rfl (.inl i0_) rfl (aa_ hly) rfl) (by rw [at_drop hz.2.2.2.1 hlt hly])) rfl rfl ?_
 refine q_ 1 rfl<|g_<|c_<|d_<|a_<|q_ 2 rfl<|b5_ (h _ (List.getElem_mem hlt)) rfl Casts.refl hb rfl rfl rfl<|bp_ (RdAll.reads hr (fun x hx => by repeat (first | exact hx | apply List.mem_cons_of_mem))) (fun _ => rfl) ?_
 intro _
 refine b_ (ai_ rfl) rfl rfl<|g_<|c_<|ac_ rfl ?_ ?_
 rotate_left
 ·intro hc29
  refine p_<|o_<|c_<|a_<|q_ 1 rfl<|b_ (s_ rfl rfl (by simp only [InR, lo, hi]; omega)) rfl rfl ?_
  refine q_ 1 rfl<|g_<|x_ (z.1, z.2.1, z.2.2 + 1) (by (dsimp only; omega)) (⟨hz.1, by dsimp only; omega, hlt, hi_ hz.2.2.2.1, by dsimp only; rw [hz.2.2.2.2, bY_ hlt, if_pos (by simpa using hc29), List.append_nil]⟩) (by exact ⟨rfl, rfl, rfl, rfl, trivial⟩) sr_
 intro hc29
 refine d_<|a_<|q_ 3 rfl<|b_ (bB_ (q := z.2.1) tabOk Tryz.underlying113 rfl rfl (.inl i0_) rfl rfl (by rw [List.length_map]; omega) rfl rfl) rfl rfl ?_
 refine e_ (j7_ (ys := [int (xs[z.2.2]'hlt)]) (q := z.2.1) (s := 1) tabOk rfl rfl rfl u0_ rfl rfl rfl (by rw [List.length_map]; omega) rfl) rfl rfl ?_
 rw [show ((z.1).map fun x => [int x]).set z.2.1 [int (xs[z.2.2]'hlt)] = ((z.1.set z.2.1 (xs[z.2.2]'hlt)).map fun x => [int x]) from (List.map_set ..).symm]
 refine g_<|c_<|a_<|q_ 1 rfl<|b_ (s_ rfl rfl (by simp only [InR, lo, hi]; omega)) rfl rfl ?_
 refine q_ 1 rfl<|g_<|o_<|c_<|a_<|q_ 1 rfl<|b_ (s_ rfl rfl (by simp only [InR, lo, hi]; omega)) rfl rfl ?_
 refine q_ 1 rfl<|g_<|x_ (z.1.set z.2.1 (xs[z.2.2]'hlt), z.2.1 + 1, z.2.2 + 1) (by (dsimp only; omega)) (⟨by rw [List.length_set]; exact hz.1, by dsimp only; omega, hlt, by dsimp only; rw [h5_ (by omega)]; exact hi_ hz.2.2.2.1, by dsimp only; rw [f2_ (by omega), hz.2.2.2.2, bY_ hlt, if_neg (by simpa using hc29)]⟩) (by exact ⟨rfl, rfl, rfl, rfl, trivial⟩) sr_
end
theorem headD_at {l : List Int} (h : 0 < l.length) : l.headD 0 = l[0] := by
  cases l with
  | nil => cases h
  | cons a l => rfl
def joinL (cm : List (Int × Kp)) (view : Int) : List Int := (srt (vwK cm view)).filter fun x => !decide (x = view)
def joinR (n : Nat) (cm : List (Int × Kp)) (view : Int) : Int × Bool := if ((joinL cm view).length : Int) ≤ ((max (n : Int) 1 - 1) / 3) then (0, false) else ((joinL cm view).headD 0, true)
section
variable {h q bd bt bm n b3 : Nat} {av : Value} {cm : List (Int × Kp)} {who least view : Int}
theorem lx_ (hn : (cm.map (·.1)).Nodup) (hl : cm.length ≤ 1000) : Spec Tryz.prog 19 [ptr h, int view] [.rd h 92 [.ifc 34 (ptr q), int (n : Nat), mapV bm, .v av], .pc (tmPc bm intK intOk Kp.enc cm)] (fun _ : Unit => [.pc (tmPc bm intK intOk Kp.enc cm)]) (fun _ => int ((vwK cm view).length : Nat)) := by
 refine G_ Tryz.func19 rfl Tryz.ntmps19 rfl fun G w =>d_<|a_<|q_ 1 rfl<|g_<|c_<|d_<|a_<|q_ 2 rfl<|u_ (ji_ (h := h) (q := q) (bm := bm) (n := n) (av := av) (least := view) hn hl) Casts.refl (by kernel_rfl) rfl rfl rfl ?_
 refine bX_ [.rd h 92 [.ifc 34 (ptr q), int (n : Nat), mapV bm, .v av]] (by rw [List.perm_iff_count]; intro a; simp [mids, It.mids, List.count_append, List.count_cons]; try omega) (by intro x hx; simp only [List.mem_cons, List.not_mem_nil, or_false] at hx; rcases hx with rfl | rfl <;> first | exact .inl ⟨by simp, rfl⟩ | exact .inr ⟨_, List.mem_cons_self, rfl⟩) (by intro x hx; simp only [List.mem_cons, List.not_mem_nil, or_false] at hx; rcases hx with rfl <;> simp) ?_
 intro r7
 refine b_ (fV_ (m := (vwK cm view).length) rfl i0_ Tryz.underlying113 (by rw [List.length_map, cX_])) rfl rfl ?_
 exact q_ 1 rfl<|g_<|c_<|n_<|f_ (rs := [.tmp 4]) rfl (RV.tmp rfl RV.nil) (()) (sk_ (sc_ sn_))<|rfl
theorem ajoin1_s  : Spec Tryz.prog 51 [int who, ptr b3] [.rd b3 2 [int view]] (fun _ : Unit => []) (fun _ => boo (decide (who = view))) := by
 exact G_ Tryz.func51 rfl Tryz.ntmps51 rfl fun G w =>d_<|a_<|q_ 1 rfl<|g_<|c_<|d_<|a_<|q_ 1 rfl<|b_ (h_ tabOk rfl rfl r0_ List.not_mem_nil rfl) rfl rfl<|q_ 2 rfl<|g_<|c_<|n_<|f_ (rs := [.tmp 3]) rfl (RV.tmp rfl RV.nil) (()) sn_<|rfl
set_option maxHeartbeats 1000000 in
theorem im_ (hn : (cm.map (·.1)).Nodup) (hl : cm.length ≤ 1000) (h7 : n ≤ 7) : Spec Tryz.prog 17 [ptr h, int view] [.rd h 92 [.ifc 34 (ptr q), int (n : Nat), mapV bm, .v av], .pc (tmPc bm intK intOk Kp.enc cm)] (fun _ : Unit => [.pc (tmPc bm intK intOk Kp.enc cm)]) (fun _ => .tup [int (joinR n cm view).1, boo (joinR n cm view).2]) := by
 refine G_ Tryz.func17 rfl Tryz.ntmps17 rfl fun G w =>d_<|a_<|eb_ (cn_ rfl rfl) rfl rfl fun b3=>?_
 refine q_ 2 rfl<|g_<|c_<|d_<|d_<|a_<|q_ 1 rfl<|b_ (aJ_ rfl rfl (by kernel_rfl)) rfl rfl ?_
 refine g_<|c_<|V_ rfl<|p_<|c_<|d_ ?_
 have hvl : (vwK cm view).length ≤ 1000 := by unfold vwK; rw [List.length_map]; exact Nat.le_trans (List.length_filter_le ..) hl
 refine a_<|q_ 1 rfl<|b_ (h_ tabOk rfl rfl l0_ List.not_mem_nil rfl) rfl rfl<|u_ (ji_ (h := h) (q := q) (bm := bm) (n := n) (av := av) (least := view) hn hl) Casts.refl (by kernel_rfl) rfl rfl rfl ?_
 refine bX_ [.blk b3 2 [int view], .rd h 92 [.ifc 34 (ptr q), int (n : Nat), mapV bm, .v av]] (by rw [List.perm_iff_count]; intro a; simp [mids, It.mids, List.count_append, List.count_cons]; try omega) (by intro x hx; simp only [List.mem_cons, List.not_mem_nil, or_false] at hx; rcases hx with rfl | rfl <;> first | exact .inl ⟨by simp, rfl⟩ | exact .inr ⟨_, List.mem_cons_self, rfl⟩ | exact .inr ⟨_, (List.mem_cons_of_mem _ List.mem_cons_self), rfl⟩) (by intro x hx; simp only [List.mem_cons, List.not_mem_nil, or_false] at hx; rcases hx with rfl | rfl <;> simp) ?_
 intro r11
 refine b_ (ao_ rfl rfl) rfl rfl<|u_ (delete_s (v := r11) (xs := srt (vwK cm view)) (p := fun x => decide (x = view)) (k := 51) (caps := [ptr b3]) (σ := [.rd b3 2 [int view]]) (by kernel_rfl) (by intro x hx; rw [List.mem_singleton.1 hx]; exact .inl ⟨_, _, _, rfl⟩) (by rw [cX_]; omega) (fun x hx => ajoin1_s)) Casts.refl (by kernel_rfl) rfl rfl rfl ?_
 refine ka_ (ys := [.blk b3 2 [int view]]) rfl i0_ (by intro y hy; rw [List.mem_singleton.1 hy]; exact ⟨by simp, by intro h; cases h⟩) rfl (fun _ => rfl) ?_
 intro r13
 refine ⟨_, u0_, ?_⟩
 rw [show (srt (vwK cm view)).filter (fun x => !decide (x = view)) = (joinL cm view) from rfl]
 refine q_ 1 rfl<|g_<|c_<|d_<|d_<|a_<|q_ 1 rfl<|b_ (fV_ (m := (joinL cm view).length) rfl i0_ Tryz.underlying113 (List.length_map _)) rfl rfl<|q_ 3 rfl<|b_ (h_ tabOk rfl rfl r3_ List.not_mem_nil rfl) rfl rfl<|u_ (dF_ (n := (n : Int)) (by omega)) Casts.refl (by kernel_rfl) rfl rfl rfl ?_
 refine ap_<|fun _=>q_ 1 rfl<|g_<|c_<|r_ rfl ?_ ?_
 ·intro hc21
  have e9 : joinR n cm view = (0, false) := if_pos (by omega)
  refine d_<|a_<|q_ 2 rfl<|g_<|c_<|n_<|i_ nofun<|f_ (rs := [.tmp 4, .tmp 5]) rfl (RV.tmp rfl (RV.tmp rfl RV.nil)) (()) (sk_ (sc_ sn_)) ?_
  rw [e9]
  rfl
 intro hc21
 have e9 : joinR n cm view = ((joinL cm view).headD 0, true) := if_neg (by omega)
 have hl0 : 0 < (joinL cm view).length := by omega
 have hd0 := headD_at hl0
 refine p_<|c_<|d_<|a_<|q_ 1 rfl<|b_ (bB_ (q := 0) tabOk Tryz.underlying113 rfl rfl l0_ rfl rfl (by rw [List.length_map]; omega) rfl rfl) rfl rfl ?_
 refine b_ (m_ (C := int ((joinL cm view).headD 0)) (bW_ (q := 0) (s := 1) tabOk rfl rfl l0_ rfl (aa_ (by omega)) rfl) (by rw [hd0])) rfl rfl ?_
 refine q_ 2 rfl<|g_<|c_<|n_<|f_ (rs := [.tmp 4, .tmp 5]) rfl (RV.tmp rfl (RV.tmp rfl RV.nil)) (()) (sk_ (sc_ sn_)) ?_
 rw [e9]
 rfl
end
noncomputable def sdOf (D : List (ByteArray × Nat)) (c : Chg) : Sd := ⟨c.view, numB 102 (pl D (dKey c.bytes)), aQ_ _ _⟩
noncomputable def sameK (cm : List (Int × Kp)) (s : Sgn) : Bool := (aget cm s.who).isSome && yes (keptC cm s.who = s.chg)
noncomputable def realD (D : List (ByteArray × Nat)) (cm : List (Int × Kp)) (s : Sgn) : List (ByteArray × Nat) := if sameK cm s = true then D else pm D (dKey s.chg.bytes)
noncomputable def realB (D : List (ByteArray × Nat)) (n : Nat) (cm : List (Int × Kp)) (L : List Tl) (s : Sgn) : Bool := sameK cm s || decide (((max (n : Int) 1 - 1) / 3) < ((votesN n L s.who (sdOf D s.chg) : Nat) : Int))
section
variable {h q bd bt bm n : Nat} {av : Value} {D : List (ByteArray × Nat)} {cm : List (Int × Kp)} {L : List Tl} {s : Sgn}
set_option maxHeartbeats 2000000 in
theorem lu_ (hk : KOk n cm) (hL : L.length = n) (h7 : n ≤ 7) (hs : CIn s.chg) (hw : intOk s.who) (hn : Num1 D) (hT : D.length < 1000000) : Spec Tryz.prog 15 [ptr h, .agg s.abs] [.rd h 92 [.ifc 34 (ptr q), int (n : Nat), mapV bm, .v av], .rdpc (tmPc bm intK intOk Kp.enc cm), .rdpc (ownPc 93 1 av (L.map fun x => [ptr x.t])), .rdpc (tlsP L), .blk q 86 [mapV bd, mapV bt], .pc (mapPc bd Value.string cntV sOk D)] (fun _ : Unit => [.blk q 86 [mapV bd, mapV bt], .pc (mapPc bd Value.string cntV sOk (realD D cm s))]) (fun _ => boo (realB D n cm L s)) := by
 refine G_ Tryz.func15 rfl Tryz.ntmps15 rfl fun G w =>d_<|a_<|eb_ (L_ (cs := s.abs) rfl) rfl rfl fun b3=>?_
 refine q_ 1 rfl<|g_<|c_<|d_<|d_<|a_<|q_ 1 rfl<|b_ (aJ_ rfl rfl (by kernel_rfl)) rfl rfl ?_
 refine g_<|c_<|V_ rfl<|p_<|c_<|d_<|d_<|Y_ [] (.q 0 (.q 1 (.q 2 (.q 3 (.q 4 (.q 5 (.q 6 (.q 7 (.q 8 (.q 9 (.e 10 (.e 11 (.q 12 .nil))))))))))))) (by kernel_rfl) (by kernel_rfl) ?_
 refine qs_ 3 rfl<|l_ rfl (h_ tabOk rfl rfl r1_ List.not_mem_nil rfl) (by simp) rfl rfl ?_
 refine qs_ 1 rfl<|ag_ (by (simp [mids, It.mids, ownPc, mapPc]; done)) fun hx9 => ?_
 refine l_ rfl (m_ (C := int s.who) (h_ tabOk rfl rfl l0_ List.not_mem_nil rfl) rfl) hx9 rfl rfl<|l_ rfl (cJ_ (a := s.who) (m := cm) (enc := Kp.enc) (z0 := Kp.zero) (zv := zkp) (bv_ Tryz.underlying3) Tryz.underlying89 f0_ fZ_ rfl r2_ List.not_mem_nil rfl is_v hw) hx9 rfl rfl<|qs_ 3 rfl<|da_ tabOk rfl rfl rfl rfl fun b5 =>ex_ rfl (w_ (L' := ((aget cm s.who).getD Kp.zero).cells) tabOk rfl rfl rfl u0_ (cf_ _) (Nat.le_of_ble_eq_true rfl) (fg_ _) (by exact A_ (cf_ _))) (by simp) rfl rfl ?_
 refine ag_ (by (simp [mids, It.mids, ownPc, mapPc]; done)) fun hx9 => ?_
 refine qx_ 1 hx9 rfl<|N_<|c_<|d_<|a_<|q_ 2 rfl<|aZ_ (t := 20) rfl ?_ ?_
 rotate_left
 ·intro hc20
  have hs0 : sameK cm s = false := by unfold sameK; rw [hc20]; rfl
  refine q_ 6 rfl<|g_<|c_<|V_ rfl<|p_<|c_<|d_<|aH_ (p := b3 ∉ mids [.blk q 86 [mapV bd, mapV bt], .pc (mapPc bd Value.string cntV sOk D)] ∧ h ∉ mids [.blk q 86 [mapV bd, mapV bt], .pc (mapPc bd Value.string cntV sOk D)]) (fun _ _ h9 => by
    have h1 := h9.mem.nodup
    have h2 : h ∉ mids [.blk q 86 [mapV bd, mapV bt], .pc (mapPc bd Value.string cntV sOk D)] := fun hm => h9.mem.sep h (aF_ (sk_ (sk_ (sk_ (sk_ (sk_ (sk_ sr_)))))) hm) (h9.mem.ro (.rd h 92 [.ifc 34 (ptr q), int (n : Nat), mapV bm, .v av]) (by simp) h (by simp [It.rids]))
    refine ⟨?_, h2⟩
    simp only [aB_, It.mids, List.singleton_append, List.nodup_cons] at h1
    intro hm
    exact h1.2.1 (by simpa [mids, It.mids] using hm)) fun hX => ?_
  refine Y_ (mids [.blk q 86 [mapV bd, mapV bt], .pc (mapPc bd Value.string cntV sOk D)]) (.q 0 (.q 1 (.q 2 (.q 3 (.q 4 (.q 5 (.q 6 (.q 7 (.q 8 (.q 9 (.q 10 (.q 11 (.q 14 (.q 15 (.q 16 (.q 17 (.e 12 (.e 13 (.e 18 (.q 19 (.q 20 .nil))))))))))))))))))))) (by kernel_rfl) (by kernel_rfl) ?_
  refine ag_ (by (simp [mids, It.mids, ownPc, mapPc]; done)) fun hx9 => ?_
  refine qx_ 2 hx9 rfl<|l_ rfl (m_ (C := int s.who) (h_ tabOk rfl rfl l1_ (by exact hX.1) rfl) rfl) hx9 rfl rfl ?_
  refine qx_ 2 hx9 rfl<|l_ rfl (m_ (C := int s.chg.view) (h_ tabOk rfl rfl l1_ (by exact hX.1) rfl) rfl) hx9 rfl rfl ?_
  refine qx_ 3 hx9 rfl<|l_ rfl (h_ tabOk rfl rfl r2_ (by exact hX.2) rfl) hx9 rfl rfl ?_
  refine qx_ 1 hx9 rfl<|l_ rfl (m_ (C := .agg s.chg.abs) (H_ tabOk rfl rfl rfl l1_ (by exact hX.1) (Nat.le_of_ble_eq_true rfl)) rfl) hx9 rfl rfl ?_
  refine qx_ 3 hx9 rfl<|l_ rfl (h_ tabOk rfl rfl r2_ (by exact hX.2) rfl) hx9 rfl rfl ?_
  refine I_ rfl (fc_ (q := q) (bd := bd) (bt := bt) (D := D) (g := s.chg) hs.few (Nat.le_trans hs.len (by decide)) hn hT) (fun k hk => hk) Casts.refl (by kernel_rfl) rfl rfl rfl ?_
  refine aW_ [_, _, _, _, _, _] (β := []) rfl (by intro x hx; simp only [List.mem_cons, List.not_mem_nil, or_false] at hx; rcases hx with rfl | rfl <;> rfl) ?_
  intro _
  refine I_ rfl (dJ_ (h := h) (q := q) (bm := bm) (n := n) (av := av) (L := L) (k := (sdOf D s.chg)) (of_ := s.who) hL hs.lits.view) (by simp [mids, It.mids]) Casts.refl (by kernel_rfl) rfl rfl rfl ?_
  refine ap_<|fun _=>I_ rfl (dF_ (n := (n : Int)) (by omega)) (by simp [mids, It.mids]) Casts.refl (by kernel_rfl) rfl rfl rfl ?_
  refine ap_<|fun _=>ag_ (by (simp [mids, It.mids, ownPc, mapPc]; done)) fun hx9 => ?_
  refine qx_ 2 hx9 rfl<|N_<|c_<|n_ ?_
  have e1 : realD D cm s = pm D (dKey s.chg.bytes) := if_neg (by rw [hs0]; decide)
  refine f_ (rs := [.tmp 4]) rfl (RV.tmp rfl RV.nil) (()) (by rw [e1]; repeat (first | exact List.nil_sublist _ | exact List.Sublist.refl _ | apply List.Sublist.cons_cons | apply List.Sublist.cons)) ?_
  rw [show realB D n cm L s = decide (((max (n : Int) 1 - 1) / 3) < ((votesN n L s.who (sdOf D s.chg) : Nat) : Int)) by unfold realB; rw [hs0]; rfl]
  rfl
 intro hc20
 refine q_ 1 rfl<|b_ (m_ (C := .agg (keptC cm s.who).abs) (H_ tabOk rfl rfl rfl l0_ List.not_mem_nil (by show 0 + 5 ≤ ((aget cm s.who).getD Kp.zero).cells.length; rw [cf_]; omega)) (by exact hX_ _)) rfl rfl ?_
 refine q_ 1 rfl<|b_ (m_ (C := .agg s.chg.abs) (H_ tabOk rfl rfl rfl l1_ List.not_mem_nil (Nat.le_of_ble_eq_true rfl)) rfl) rfl rfl<|u_ (psame_s (c := keptC cm s.who) (d := s.chg) (bF_ hk).asked.sized.pts (bF_ hk).asked.sized.prep (bF_ hk).asked.sized.prop (bF_ hk).lits hs.lits) Casts.refl (by kernel_rfl) rfl rfl rfl ?_
 refine ap_<|fun _=>q_ 1 rfl<|g_<|c_<|ac_ rfl ?_ ?_
 ·intro hc26
  have hs0 : sameK cm s = true := by unfold sameK; rw [hc20, hc26]; rfl
  refine d_<|a_<|q_ 1 rfl<|g_<|c_<|n_<|i_ nofun ?_
  have e1 : realD D cm s = D := if_pos hs0
  refine f_ (rs := [.tmp 4]) rfl (RV.tmp rfl RV.nil) (()) (by rw [e1]; repeat (first | exact List.nil_sublist _ | exact List.Sublist.refl _ | apply List.Sublist.cons_cons | apply List.Sublist.cons)) ?_
  rw [show realB D n cm L s = true by unfold realB; rw [hs0]; rfl]
  rfl
 intro hc26
 have hs0 : sameK cm s = false := by unfold sameK; rw [hc20, hc26]; rfl
 refine p_<|c_<|d_<|aH_ (p := b3 ∉ mids [.blk q 86 [mapV bd, mapV bt], .pc (mapPc bd Value.string cntV sOk D)] ∧ h ∉ mids [.blk q 86 [mapV bd, mapV bt], .pc (mapPc bd Value.string cntV sOk D)]) (fun _ _ h9 => by
   have h1 := h9.mem.nodup
   have h2 : h ∉ mids [.blk q 86 [mapV bd, mapV bt], .pc (mapPc bd Value.string cntV sOk D)] := fun hm => h9.mem.sep h (aF_ (sk_ (sk_ (sk_ (sk_ (sk_ (sk_ sr_)))))) hm) (h9.mem.ro (.rd h 92 [.ifc 34 (ptr q), int (n : Nat), mapV bm, .v av]) (by simp) h (by simp [It.rids]))
   refine ⟨?_, h2⟩
   simp only [aB_, It.mids, List.singleton_append, List.nodup_cons] at h1
   intro hm
   exact h1.2.1 (by simpa [mids, It.mids] using hm)) fun hX => ?_
 refine Y_ (mids [.blk q 86 [mapV bd, mapV bt], .pc (mapPc bd Value.string cntV sOk D)]) (.q 0 (.q 1 (.q 2 (.q 3 (.q 4 (.q 5 (.q 6 (.q 7 (.q 8 (.q 9 (.q 10 (.q 11 (.q 14 (.q 15 (.q 16 (.q 17 (.e 12 (.e 13 (.e 18 (.q 19 (.q 20 .nil))))))))))))))))))))) (by kernel_rfl) (by kernel_rfl) ?_
 refine ag_ (by (simp [mids, It.mids, ownPc, mapPc]; done)) fun hx9 => ?_
 refine qx_ 2 hx9 rfl<|l_ rfl (m_ (C := int s.who) (h_ tabOk rfl rfl l1_ (by exact hX.1) rfl) rfl) hx9 rfl rfl ?_
 refine qx_ 2 hx9 rfl<|l_ rfl (m_ (C := int s.chg.view) (h_ tabOk rfl rfl l1_ (by exact hX.1) rfl) rfl) hx9 rfl rfl ?_
 refine qx_ 3 hx9 rfl<|l_ rfl (h_ tabOk rfl rfl r2_ (by exact hX.2) rfl) hx9 rfl rfl ?_
 refine qx_ 1 hx9 rfl<|l_ rfl (m_ (C := .agg s.chg.abs) (H_ tabOk rfl rfl rfl l1_ (by exact hX.1) (Nat.le_of_ble_eq_true rfl)) rfl) hx9 rfl rfl ?_
 refine qx_ 3 hx9 rfl<|l_ rfl (h_ tabOk rfl rfl r2_ (by exact hX.2) rfl) hx9 rfl rfl ?_
 refine I_ rfl (fc_ (q := q) (bd := bd) (bt := bt) (D := D) (g := s.chg) hs.few (Nat.le_trans hs.len (by decide)) hn hT) (fun k hk => hk) Casts.refl (by kernel_rfl) rfl rfl rfl ?_
 refine aW_ [_, _, _, _, _, _] (β := []) rfl (by intro x hx; simp only [List.mem_cons, List.not_mem_nil, or_false] at hx; rcases hx with rfl | rfl <;> rfl) ?_
 intro _
 refine I_ rfl (dJ_ (h := h) (q := q) (bm := bm) (n := n) (av := av) (L := L) (k := (sdOf D s.chg)) (of_ := s.who) hL hs.lits.view) (by simp [mids, It.mids]) Casts.refl (by kernel_rfl) rfl rfl rfl ?_
 refine ap_<|fun _=>I_ rfl (dF_ (n := (n : Int)) (by omega)) (by simp [mids, It.mids]) Casts.refl (by kernel_rfl) rfl rfl rfl ?_
 refine ap_<|fun _=>ag_ (by (simp [mids, It.mids, ownPc, mapPc]; done)) fun hx9 => ?_
 refine qx_ 2 hx9 rfl<|N_<|c_<|n_ ?_
 have e1 : realD D cm s = pm D (dKey s.chg.bytes) := if_neg (by rw [hs0]; decide)
 refine f_ (rs := [.tmp 4]) rfl (RV.tmp rfl RV.nil) (()) (by rw [e1]; repeat (first | exact List.nil_sublist _ | exact List.Sublist.refl _ | apply List.Sublist.cons_cons | apply List.Sublist.cons)) ?_
 rw [show realB D n cm L s = decide (((max (n : Int) 1 - 1) / 3) < ((votesN n L s.who (sdOf D s.chg) : Nat) : Int)) by unfold realB; rw [hs0]; rfl]
 rfl
end
def certOk (n : Nat) (cm : List (Int × Kp)) (L : List Tl) (view : Int) (i : Nat) : Option Sgn := match aget cm (i : Int) with
  | none => none
  | some k => if k.c.view = view ∧ 2 * ((max (n : Int) 1 - 1) / 3) + 1 ≤ ((votesN n L (i : Int) ⟨view, k.dig, k.len⟩ : Nat) : Int) then some ⟨(i : Int), k.c⟩ else none
def certTo (n : Nat) (cm : List (Int × Kp)) (L : List Tl) (view : Int) (q : Nat) : List Sgn := (List.range q).filterMap (certOk n cm L view)
section
variable {h q bd bt bm n i : Nat} {av : Value} {cm : List (Int × Kp)} {L : List Tl} {view : Int} {v : Kp}
theorem id_ (h : certOk n cm L view i = none) : certTo n cm L view (i + 1) = certTo n cm L view i := by
  unfold certTo
  rw [List.range_succ, List.filterMap_append, List.filterMap_cons, h]
  simp
theorem cert_yes {s : Sgn} (h : certOk n cm L view i = some s) : certTo n cm L view (i + 1) = certTo n cm L view i ++ [s] := by
  unfold certTo
  rw [List.range_succ, List.filterMap_append, List.filterMap_cons, h]
  simp
theorem gp_ : (certTo n cm L view i).length ≤ i := by
  unfold certTo
  exact Nat.le_trans (List.length_filterMap_le ..) (by rw [List.length_range]; omega)
set_option maxHeartbeats 2000000 in
theorem acert_s (hk : KOk n cm) (hL : L.length = n) (h7 : n ≤ 7) (hv0 : intOk view) : Spec Tryz.prog 16 [ptr h, int view] [.rd h 92 [.ifc 34 (ptr q), int (n : Nat), mapV bm, .v av], .rdpc (tmPc bm intK intOk Kp.enc cm), .rdpc (ownPc 93 1 av (L.map fun x => [ptr x.t])), .rdpc (tlsP L)] (fun v : Value => [own 50 6 v (((certTo n cm L view n)).map Sgn.abs)]) (fun v => .v v) := by
 refine G_ Tryz.func16 rfl Tryz.ntmps16 rfl fun G w =>d_<|a_<|q_ 1 rfl<|g_<|c_<|d_<|d_<|a_<|q_ 1 rfl<|b_ (aJ_ rfl rfl (by kernel_rfl)) rfl rfl ?_
 refine g_<|c_<|V_ rfl<|p_<|c_<|d_<|a_<|q_ 1 rfl<|g_<|c_<|d_<|d_<|a_<|q_ 3 rfl<|b_ (h_ tabOk rfl rfl r0_ List.not_mem_nil rfl) rfl rfl<|q_ 1 rfl<|g_<|c_<|t_<|bO_ 50 6<|S_ (ι := Nat × Value) (fun z => [own 50 6 z.2 (((certTo n cm L view z.1)).map Sgn.abs), .rd h 92 [.ifc 34 (ptr q), int (n : Nat), mapV bm, .v av], .rdpc (tmPc bm intK intOk Kp.enc cm), .rdpc (ownPc 93 1 av (L.map fun x => [ptr x.t])), .rdpc (tlsP L)]) (fun z => [(0, ptr h), (1, int view), (5, .v z.2), (14, int (n : Nat)), (15, int (z.1 : Nat))]) (fun z => z.1 ≤ n) (fun z => n - z.1) (0, .slice none 0 0) (Nat.zero_le _) (by exact ⟨rfl, rfl, rfl, rfl, rfl, trivial⟩) sr_ ?_
 intro z hz
 refine d_<|a_<|q_ 1 rfl<|g_<|c_<|d_<|r_ rfl ?_ ?_
 rotate_left
 ·intro hc16
  have hze : z.1 = n := by omega
  refine Q_<|i_ nofun<|i_ nofun<|P_<|c_<|d_<|a_<|q_ 2 rfl<|g_<|c_<|n_<|f_ (rs := [.tmp 4]) rfl (RV.tmp rfl RV.nil) (z.2) (by rw [show (certTo n cm L view n) = (certTo n cm L view z.1) by rw [hze]]; repeat (first | exact List.nil_sublist _ | exact List.Sublist.refl _ | apply List.Sublist.cons_cons | apply List.Sublist.cons)) ?_
  exact rfl
 intro hc16
 refine p_<|c_<|d_<|t_<|d_<|a_<|q_ 2 rfl<|g_<|c_<|d_<|a_<|q_ 3 rfl<|b_ (h_ tabOk rfl rfl r1_ List.not_mem_nil rfl) rfl rfl<|q_ 1 rfl<|b_ (cJ_ (a := ((z.1 : Nat) : Int)) (m := cm) (enc := Kp.enc) (z0 := Kp.zero) (zv := zkp) (bv_ Tryz.underlying3) Tryz.underlying89 f0_ fZ_ rfl r2_ List.not_mem_nil rfl is_v (by simp only [InR, lo, hi]; omega)) rfl rfl ?_
 refine q_ 3 rfl<|eb_ (B_ tabOk rfl) rfl rfl fun b7=>?_
 refine e_ (w_ (L' := ((aget cm ((z.1 : Nat) : Int)).getD Kp.zero).cells) tabOk rfl rfl rfl u0_ (cf_ _) (Nat.le_of_ble_eq_true rfl) (fg_ _) (by exact A_ (cf_ _))) rfl rfl ?_
 refine q_ 1 rfl<|g_<|c_<|d_<|Y_ [] (.q 0 (.q 1 (.q 2 (.q 3 (.q 4 (.q 5 (.q 6 (.q 7 (.q 8 (.q 9 (.q 10 (.q 11 (.q 12 (.q 13 (.q 15 (.q 16 (.q 17 (.q 18 (.e 14 (.e 19 (.q 20 (.q 21 .nil)))))))))))))))))))))) (by kernel_rfl) (by kernel_rfl) ?_
 refine qs_ 2 rfl<|cU_ (t := 28) rfl ?_ ?_
 rotate_left
 ·intro hc28
  have hv := dm_ hc28
  have e8 := id_ (n := n) (cm := cm) (L := L) (view := view) (i := z.1) (by unfold certOk; rw [hv])
  refine qs_ 16 rfl<|aE_ rfl rfl rfl<|aE_ rfl rfl rfl<|qs_ 2 rfl<|N_<|c_<|V_ rfl<|p_<|o_<|c_<|a_<|b_ (s_ rfl rfl (by simp only [InR, lo, hi]; omega)) rfl rfl ?_
  refine q_ 1 rfl<|g_<|x_ (z.1 + 1, z.2) (by omega) ((by dsimp only; omega)) (by exact ⟨rfl, rfl, rfl, rfl, rfl, trivial⟩) (by dsimp only; rw [e8]; repeat (first | exact List.nil_sublist _ | exact List.Sublist.refl _ | apply List.Sublist.cons_cons | apply List.Sublist.cons))
 intro hc28
 obtain ⟨v, hv⟩ := dl_ hc28
 have hov : ((aget cm ((z.1 : Nat) : Int)).getD Kp.zero) = v := by rw [hv]; rfl
 refine qs_ 2 rfl<|ag_ (by (simp [mids, It.mids, ownPc, mapPc]; done)) fun hx9 => ?_
 refine l_ rfl (m_ (C := int ((aget cm ((z.1 : Nat) : Int)).getD Kp.zero).c.view) (h_ tabOk rfl rfl l0_ List.not_mem_nil rfl) rfl) hx9 rfl rfl<|qs_ 4 rfl<|am_ (t := 35) rfl ?_ ?_
 rotate_left
 ·intro hc35
  rw [hov] at hc35
  have e8 := id_ (n := n) (cm := cm) (L := L) (view := view) (i := z.1) (by unfold certOk; rw [hv]; exact if_neg fun h => hc35 h.1)
  iterate 9 refine bq_ rfl rfl rfl ?_
  refine aE_ rfl rfl rfl<|aE_ rfl rfl rfl<|qs_ 2 rfl<|N_<|c_<|V_ rfl<|p_<|o_<|c_<|a_<|b_ (s_ rfl rfl (by simp only [InR, lo, hi]; omega)) rfl rfl ?_
  refine q_ 1 rfl<|g_<|x_ (z.1 + 1, z.2) (by omega) ((by dsimp only; omega)) (by exact ⟨rfl, rfl, rfl, rfl, rfl, trivial⟩) (by dsimp only; rw [e8]; repeat (first | exact List.nil_sublist _ | exact List.Sublist.refl _ | apply List.Sublist.cons_cons | apply List.Sublist.cons))
 intro hc35
 refine qs_ 4 rfl<|l_ rfl (m_ (C := .agg (digA ((aget cm ((z.1 : Nat) : Int)).getD Kp.zero).dig)) (H_ tabOk rfl rfl rfl l0_ List.not_mem_nil (by show 5 + 32 ≤ ((aget cm ((z.1 : Nat) : Int)).getD Kp.zero).cells.length; rw [cf_]; omega)) (by exact kp_dig _)) hx9 rfl rfl ?_
 refine qs_ 3 rfl<|l_ rfl (h_ tabOk rfl rfl r2_ List.not_mem_nil rfl) (by simp) rfl rfl ?_
 refine I_ rfl (dJ_ (h := h) (q := q) (bm := bm) (n := n) (av := av) (L := L) (k := (⟨view, ((aget cm ((z.1 : Nat) : Int)).getD Kp.zero).dig, ((aget cm ((z.1 : Nat) : Int)).getD Kp.zero).len⟩ : Sd)) (of_ := ((z.1 : Nat) : Int)) hL hv0) (by simp [mids, It.mids]) Casts.refl (by kernel_rfl) rfl rfl rfl ?_
 refine ap_<|fun _=>I_ rfl (f9_ (n := (n : Int)) (by omega)) (by simp [mids, It.mids]) Casts.refl (by kernel_rfl) rfl rfl rfl ?_
 refine ap_<|fun _=>qs_ 2 rfl<|N_<|c_<|r_ rfl ?_ ?_
 rotate_left
 ·intro hc48
  rw [hov] at hc48
  have e8 := id_ (n := n) (cm := cm) (L := L) (view := view) (i := z.1) (by unfold certOk; rw [hv]; exact if_neg fun h => hc48 (by omega))
  refine p_<|o_<|c_<|a_<|b_ (s_ rfl rfl (by simp only [InR, lo, hi]; omega)) rfl rfl ?_
  refine q_ 1 rfl<|g_<|x_ (z.1 + 1, z.2) (by omega) ((by dsimp only; omega)) (by exact ⟨rfl, rfl, rfl, rfl, rfl, trivial⟩) (by dsimp only; rw [e8]; repeat (first | exact List.nil_sublist _ | exact List.Sublist.refl _ | apply List.Sublist.cons_cons | apply List.Sublist.cons))
 intro hc48
 have e8 := cert_yes (n := n) (cm := cm) (L := L) (view := view) (i := z.1) (s := (⟨((z.1 : Nat) : Int), (keptC cm ((z.1 : Nat) : Int))⟩ : Sgn)) (by
  unfold certOk keptC
  rw [hov] at hc35 hc48 ⊢
  rw [hv]
  exact if_pos ⟨hc35, by omega⟩)
 refine SC.re [] (Re.perm (ys := [own 50 6 z.2 (((certTo n cm L view z.1)).map Sgn.abs), .blk b7 99 ((aget cm ((z.1 : Nat) : Int)).getD Kp.zero).cells]) (List.Perm.swap _ _ _) (by simp [It.rids])) rfl ?_
 refine aH_ (p := b7 ∉ (mids [own 50 6 z.2 (((certTo n cm L view z.1)).map Sgn.abs)] ++ []) ∧ h ∉ (mids [own 50 6 z.2 (((certTo n cm L view z.1)).map Sgn.abs)] ++ [])) (fun _ _ h9 => ⟨fun hm => (List.nodup_append.1 (show (z.2.ownBlock.toList ++ [b7]).Nodup from h9.mem.nodup)).2.2 b7 (by simpa [mids, It.mids, ownPc] using hm) b7 (by simp) rfl, fun hm => h9.mem.sep h (aF_ (τ := [own 50 6 z.2 (((certTo n cm L view z.1)).map Sgn.abs)]) (sc_ sn_) (by simpa using hm)) (h9.mem.ro (.rd h 92 [.ifc 34 (ptr q), int (n : Nat), mapV bm, .v av]) (by simp) h (by simp [It.rids]))⟩) fun hX => ?_
 refine Y_ (mids [own 50 6 z.2 (((certTo n cm L view z.1)).map Sgn.abs)] ++ []) (.q 0 (.q 1 (.q 2 (.q 3 (.q 4 (.q 5 (.q 6 (.q 7 (.e 8 (.q 9 (.e 10 (.e 11 (.q 12 .nil))))))))))))) (by kernel_rfl) (by kernel_rfl) ?_
 refine ag_ (by (intro k hk; simp [mids, It.mids, ownPc, mapPc, mapAtPc] at hk ⊢; grind)) fun hx9 => ?_
 refine qx_ 3 hx9 rfl<|l_ rfl (m_ (C := .agg (keptC cm ((z.1 : Nat) : Int)).abs) (H_ tabOk rfl rfl rfl l1_ (by exact hX.1) (by show 0 + 5 ≤ ((aget cm ((z.1 : Nat) : Int)).getD Kp.zero).cells.length; rw [cf_]; omega)) (by exact hX_ _)) hx9 rfl rfl ?_
 refine qx_ 3 hx9 rfl<|l_ rfl (h_ tabOk rfl rfl r2_ (by exact hX.2) rfl) hx9 rfl rfl ?_
 refine I_ rfl (hw_ (g := (keptC cm ((z.1 : Nat) : Int))) (n := n) (bF_ hk).few (Nat.le_trans (bF_ hk).len (by decide))) (by simp [mids, It.mids]) Casts.refl (by kernel_rfl) rfl rfl rfl ?_
 refine ap_ ?_
 intro _
 rw [hl_ hk]
 refine ag_ (by (intro k hk; simp [mids, It.mids, ownPc, mapPc, mapAtPc] at hk ⊢; grind)) fun hx9 => ?_
 refine l_ rfl (m_ (C := .agg (⟨((z.1 : Nat) : Int), (keptC cm ((z.1 : Nat) : Int))⟩ : Sgn).abs) (J_ tabOk rfl rfl rfl rfl) rfl) hx9 rfl rfl<|ex_ rfl (ae_ tabOk Tryz.underlying53 rfl rfl rfl (a2_ rfl) rfl rfl rfl) (by simp) rfl rfl ?_
 refine gE_ [own 50 6 z.2 (((certTo n cm L view z.1)).map Sgn.abs)] [] rfl (ak_ (zs := (certTo n cm L view (z.1 + 1)).map Sgn.abs) tabOk [] (by rw [e8, List.map_append]; rfl) Tryz.underlying53 rfl rfl rfl rfl rfl rfl (by intro c hc; rw [List.mem_singleton] at hc; subst hc; rfl) (by have := gp_ (n := n) (cm := cm) (L := L) (view := view) (i := z.1); unfold maxLen; simp only [List.length_map, List.length_cons, List.length_nil]; omega) (by have := gp_ (n := n) (cm := cm) (L := L) (view := view) (i := z.1); rw [show Tryz.prog.bytesOf 50 = 96 by kernel_rfl]; simp only [List.length_map, List.length_cons, List.length_nil]; omega)) rfl (by intro k hk; simp [mids, It.mids, ownPc] at hk ⊢; simp [hk]) rfl rfl ?_
 rintro _ _ ⟨r60, rfl, rfl⟩
 refine ⟨[own 50 6 r60 (((certTo n cm L view (z.1 + 1))).map Sgn.abs)], rfl, ag_ (by (intro k hk; simp [mids, It.mids, ownPc, mapPc, mapAtPc] at hk ⊢; grind)) fun hx9 => ?_⟩
 refine qx_ 1 hx9 rfl<|N_<|o_<|c_<|a_<|b_ (s_ rfl rfl (by simp only [InR, lo, hi]; omega)) rfl rfl ?_
 refine q_ 1 rfl<|g_<|x_ (z.1 + 1, r60) (by omega) ((by dsimp only; omega)) (by exact ⟨rfl, rfl, rfl, rfl, rfl, trivial⟩) (sc_ (sk_ sr_))
end
theorem hf_ (l : List Ent) : ∀ c ∈ l.map (fun e : Ent => e.cells.map Abs.v), ones c = true := by
  intro c hc
  obtain ⟨o, _, rfl⟩ := List.mem_map.1 hc
  rfl
theorem fH_ (x : Pnt) : 0 + 33 ≤ x.abs.length := by rw [Pnt.size]; omega
abbrev pfL (l : List Sgn) (n : Int) : List Abs := [sgnsA l, int (fN n + 1), int (2 * fN n + 1)]
section
variable {x : Pnt} {y p : Prf} {c : Chg} {l : List Sgn} {n seq : Int} {b bs bf : Nat}
section
variable {l : List Pnt}
theorem pindex_s (hx : InR .i64 x.seq) (hl : ∀ y ∈ l, InR .i64 y.seq) (hn : l.length ≤ 1000000) : Spec Tryz.prog 147 [pntsA l, .agg x.abs] [] (fun _ : {q : Int // 0 ≤ q ↔ x ∈ l} => []) (fun q => int q.1) := by
 refine G_ Tryz.func147 rfl Tryz.ntmps147 rfl fun G w =>d_<|a_<|eb_ (L_ (cs := x.abs) rfl) rfl rfl fun b3=>?_
 refine q_ 1 rfl<|g_<|c_<|d_<|d_<|a_<|q_ 1 rfl<|b_ (z_ rfl Tryz.underlying23 (List.length_map _)) rfl rfl<|q_ 1 rfl<|g_<|c_<|t_<|S_ (ι := Nat) (fun z => [.blk b3 59 x.abs]) (fun z => [(0, pntsA l), (3, ptr b3), (7, int (l.length : Nat)), (8, int (z : Nat))]) (fun z => z ≤ l.length ∧ ∀ j (hj : j < l.length), j < z → ¬ x = l[j]) (fun z => l.length - z) (0) (⟨Nat.zero_le _, fun j hj h => by omega⟩) (by exact ⟨rfl, rfl, rfl, rfl, trivial⟩) sr_ ?_
 intro z hz
 refine d_<|a_<|q_ 1 rfl<|g_<|c_<|d_<|r_ rfl ?_ ?_
 rotate_left
 ·intro hc9
  refine Q_<|i_ nofun<|i_ nofun<|P_<|c_<|d_<|a_<|q_ 1 rfl<|g_<|c_<|n_<|f_ (rs := [.tmp 4]) rfl (RV.tmp rfl RV.nil) (⟨-1, ⟨fun h => by omega, fun h => by obtain ⟨j, hj, h2⟩ := List.getElem_of_mem h; exact absurd h2.symm (hz.2 j hj (by omega))⟩⟩) sn_ ?_
  exact rfl
 intro hc9
 have hlt : z < l.length := by omega
 refine p_<|c_<|d_<|t_<|d_<|a_<|q_ 2 rfl<|g_<|c_<|d_<|Y_ [] (.q 0 (.q 1 (.q 2 (.q 3 (.q 4 (.q 5 .nil)))))) (by kernel_rfl) (by kernel_rfl) ?_
 refine ag_ (by (simp [mids, It.mids, ownPc, mapPc]; done)) fun hx9 => ?_
 refine l_ rfl (m_ (C := .agg x.abs) (F_ tabOk rfl rfl rfl l0_ List.not_mem_nil (Pnt.size _)) rfl) hx9 rfl rfl<|qs_ 2 rfl<|l_ rfl (D_ tabOk Tryz.underlying23 rfl rfl rfl rfl (aa_ (by omega)) rfl rfl) (by simp) rfl rfl ?_
 refine l_ rfl (K_ tabOk rfl rfl rfl (Pnt.size _)) hx9 rfl rfl<|l_ rfl (gC_ rfl rfl (bc_ _) (bc_ _) (by kernel_rfl) (eqP hx (hl _ (List.getElem_mem hlt)))) hx9 rfl rfl ?_
 refine N_<|c_<|r_ rfl ?_ ?_
 ·intro hc16
  refine d_<|a_<|q_ 2 rfl<|g_<|c_<|n_<|E_<|i_ nofun<|i_ nofun<|E_<|i_ nofun<|f_ (rs := [.tmp 4]) rfl (RV.tmp rfl RV.nil) (⟨(z : Nat), ⟨fun _ => by rw [hc16]; exact List.getElem_mem hlt, fun _ => by omega⟩⟩) sn_ ?_
  exact rfl
 intro hc16
 refine p_<|o_<|c_<|a_<|b_ (s_ rfl rfl (by simp only [InR, lo, hi]; omega)) rfl rfl ?_
 refine q_ 1 rfl<|g_<|x_ (z + 1) (by omega) (⟨by omega, fun j hj hjz => by
  rcases Nat.lt_or_ge j z with h1 | h1
  ·exact hz.2 j hj h1
  obtain rfl : j = z := (by omega)
  exact hc16⟩) (by exact ⟨rfl, rfl, rfl, rfl, trivial⟩) sr_
theorem hU_ (hx : InR .i64 x.seq) (hl : ∀ y ∈ l, InR .i64 y.seq) (hn : l.length ≤ 1000000) : Spec Tryz.prog 122 [pntsA l, .agg x.abs] [] (fun _ : Unit => []) (fun _ => boo (decide (x ∈ l))) := by
 refine G_ Tryz.func122 rfl Tryz.ntmps122 rfl fun G w =>d_<|a_<|eb_ (L_ (cs := x.abs) rfl) rfl rfl fun b3=>?_
 refine q_ 1 rfl<|g_<|c_<|d_<|a_<|q_ 1 rfl<|b_ (m_ (C := .agg x.abs) (F_ tabOk rfl rfl rfl l0_ List.not_mem_nil (Pnt.size _)) rfl) rfl rfl<|u_ (pindex_s hx hl hn) Casts.refl (by kernel_rfl) rfl rfl rfl ?_
 exact ap_<|fun q0=>q_ 2 rfl<|g_<|c_<|n_<|f_ (rs := [.tmp 4]) rfl (RV.tmp rfl RV.nil) (()) sn_<|congrArg (fun b => Abs.v (Value.bool b))<|decide_eq_decide.2 q0.2
end
theorem hn_ {xs : List (List Abs)} (h1 : ∀ c ∈ xs, ones c = true) (hn : xs.length ≤ 1000000) : Spec Tryz.prog 126 [.sl 8 xs] [] (fun _ : Unit => []) (fun _ => .sl 8 xs) := by
 refine G_ Tryz.func126 rfl Tryz.ntmps126 rfl fun G w =>d_<|a_<|q_ 1 rfl<|g_<|c_<|d_<|d_<|a_<|q_ 1 rfl<|SL.eqNil Tryz.underlying75 rfl rfl rfl<|fun b hb=>g_<|c_<|ac_ rfl ?_ ?_
 ·intro hc4
  have hnil : xs = [] := hb hc4
  subst hnil
  refine d_<|a_<|q_ 1 rfl<|g_<|c_<|n_<|i_ nofun<|lM_ (rs := [.tmp 2]) rfl (RV.tmp rfl RV.nil) (Casts.nils (s := 8) Casts.refl) () sn_ (by simp [It.rids]) rfl
 intro hc4
 refine p_<|c_<|d_<|a_<|eb_ (cm_ tabOk Tryz.underlying75 rfl rfl rfl rfl rfl rfl rfl) rfl rfl fun r5=>?_
 refine q_ 1 rfl<|eb_ (ak_ (zs := xs) tabOk [] rfl Tryz.underlying75 rfl rfl rfl rfl rfl rfl h1 (by unfold maxLen; simp only [List.length_nil]; omega) (by rw [show Tryz.prog.bytesOf 82 = 80 by kernel_rfl]; simp only [List.length_nil]; omega)) rfl rfl fun r7=>?_
 exact q_ 1 rfl<|g_<|c_<|n_<|cV_ [] (t := 2) rfl rfl<|f_ (rs := [.tmp 2]) rfl (RV.tmp rfl RV.nil) (()) sn_<|rfl
theorem cI_ {p : Chg → Bool} {k : Nat} {caps : List Abs} {σ : Blks} (hb : goesIn Tryz.prog k = true) (hr : Rds σ) (hn : l.length ≤ 1000) (h : ∀ s ∈ l, Spec Tryz.prog k (.agg s.chg.abs :: caps) σ (fun _ : Unit => []) (fun _ => boo (p s.chg))) : Spec Tryz.prog 120 [.agg (pfL l n), .fn (.func k) [] caps] σ (fun _ : Unit => []) (fun _ => int (cntS l p : Nat)) := by
 refine G_ Tryz.func120 rfl Tryz.ntmps120 rfl fun G w =>d_<|a_<|eb_ (L_ (cs := pfL l n) rfl) rfl rfl fun b2=>?_
 refine q_ 1 rfl<|g_<|c_<|d_<|a_<|q_ 1 rfl<|g_<|c_<|d_<|d_<|a_<|q_ 1 rfl<|b_ (m_ (C := sgnsA l) (h_ tabOk rfl rfl l0_ List.not_mem_nil rfl) rfl) rfl rfl<|b_ (z_ rfl Tryz.underlying53 (List.length_map _)) rfl rfl<|q_ 1 rfl<|g_<|c_<|t_<|S_ (ι := Nat × Nat) (fun z => σ) (fun z => [(1, .fn (.func k) [] caps), (5, int (z.2 : Nat)), (9, sgnsA l), (10, int (l.length : Nat)), (11, int (z.1 : Nat))]) (fun z => z.1 ≤ l.length ∧ z.2 = cntS (l.take z.1) p) (fun z => l.length - z.1) (0, 0) (⟨Nat.zero_le _, rfl⟩) (by exact ⟨rfl, rfl, rfl, rfl, rfl, trivial⟩) (sk_ sr_) ?_
 intro z hz
 refine d_<|a_<|q_ 1 rfl<|g_<|c_<|d_<|r_ rfl ?_ ?_
 rotate_left
 ·intro hc12
  refine Q_<|i_ nofun<|i_ nofun<|P_<|c_<|d_<|a_<|q_ 2 rfl<|g_<|c_<|n_<|f_ (rs := [.tmp 4]) rfl (RV.tmp rfl RV.nil) (()) sn_ ?_
  rw [show cntS l p = z.2 by rw [hz.2, c4_ (by omega)]]
  rfl
 intro hc12
 have hlt : z.1 < l.length := by omega
 have hle := d2_ (l := l.take z.1) (p := p)
 rw [← hz.2, List.length_take] at hle
 refine p_<|c_<|d_<|t_<|d_<|a_<|b_ (D_ tabOk Tryz.underlying53 rfl rfl rfl rfl (aa_ (by omega)) rfl rfl) rfl rfl ?_
 refine b_ (K_ tabOk rfl rfl rfl rfl) rfl rfl<|eb_ (B_ tabOk rfl) rfl rfl fun b7=>?_
 refine e_ (w_ (L' := (l[z.1]'hlt).abs) tabOk rfl rfl rfl u0_ rfl (Nat.le_of_ble_eq_true rfl) rfl (by exact A_ rfl)) rfl rfl ?_
 refine g_<|c_<|d_<|a_<|q_ 2 rfl<|b_ (m_ (C := .agg (l[z.1]'hlt).chg.abs) (H_ tabOk rfl rfl rfl l0_ List.not_mem_nil (Nat.le_of_ble_eq_true rfl)) rfl) rfl rfl<|b5_ (h _ (List.getElem_mem hlt)) rfl Casts.refl hb rfl rfl rfl<|bp_ (Rds.reads hr (fun x hx => by repeat (first | exact hx | apply List.mem_cons_of_mem))) (fun _ => rfl) ?_
 intro _
 refine g_<|c_<|ac_ rfl ?_ ?_
 rotate_left
 ·intro hc18
  refine p_<|o_<|c_<|a_<|b_ (s_ rfl rfl (by simp only [InR, lo, hi]; omega)) rfl rfl ?_
  refine q_ 1 rfl<|g_<|x_ (z.1 + 1, z.2) (by omega) (⟨by dsimp only; omega, by dsimp only; rw [co_ hlt (by simpa using hc18), ← hz.2]⟩) (by exact ⟨rfl, rfl, rfl, rfl, rfl, trivial⟩) (sk_ sr_)
 intro hc18
 refine a_<|q_ 1 rfl<|b_ (s_ rfl rfl (by simp only [InR, lo, hi]; omega)) rfl rfl ?_
 refine q_ 1 rfl<|g_<|o_<|c_<|a_<|b_ (s_ rfl rfl (by simp only [InR, lo, hi]; omega)) rfl rfl ?_
 refine q_ 1 rfl<|g_<|x_ (z.1 + 1, z.2 + 1) (by omega) (⟨by dsimp only; omega, by dsimp only; rw [bR_ hlt (by simpa using hc18), ← hz.2]⟩) (by exact ⟨rfl, rfl, rfl, rfl, rfl, trivial⟩) (sk_ sr_)
theorem cb1_s (hc : CIn c) (hx : InR .i64 x.seq) : Spec Tryz.prog 121 [.agg c.abs, ptr b] [.rd b 59 x.abs] (fun _ : Unit => []) (fun _ => boo (hasB x c)) := by
 refine G_ Tryz.func121 rfl Tryz.ntmps121 rfl fun G w =>d_<|a_<|eb_ (L_ (cs := c.abs) rfl) rfl rfl fun b2=>?_
 refine q_ 1 rfl<|g_<|c_<|d_<|a_<|q_ 1 rfl<|b_ (m_ (C := pntsA c.points) (h_ tabOk rfl rfl l0_ List.not_mem_nil rfl) rfl) rfl rfl<|b_ (m_ (C := .agg x.abs) (F_ tabOk rfl rfl rfl r1_ List.not_mem_nil (Pnt.size _)) rfl) rfl rfl<|u_ (hU_ (x := x) (l := c.points) hx hc.lits.pts (by have := hc.asked.2.2; omega)) Casts.refl (by kernel_rfl) rfl rfl rfl ?_
 exact ap_<|fun _=>q_ 1 rfl<|g_<|c_<|n_<|f_ (rs := [.tmp 3]) rfl (RV.tmp rfl RV.nil) (()) sn_<|rfl
theorem cb2_s  : Spec Tryz.prog 123 [.agg c.abs, ptr b] [.rd b 59 x.abs] (fun _ : Unit => []) (fun _ => boo (lowB x c)) := by
 refine G_ Tryz.func123 rfl Tryz.ntmps123 rfl fun G w =>d_<|a_<|eb_ (L_ (cs := c.abs) rfl) rfl rfl fun b2=>?_
 exact q_ 1 rfl<|g_<|c_<|d_<|a_<|q_ 1 rfl<|b_ (m_ (C := int c.low) (h_ tabOk rfl rfl l0_ List.not_mem_nil rfl) rfl) rfl rfl<|q_ 1 rfl<|b_ (m_ (C := int x.seq) (h_ tabOk rfl rfl r1_ List.not_mem_nil rfl) rfl) rfl rfl<|q_ 2 rfl<|g_<|c_<|n_<|f_ (rs := [.tmp 3]) rfl (RV.tmp rfl RV.nil) (()) sn_<|rfl
set_option maxHeartbeats 2000000 in
theorem cbase_s (hl : ∀ s ∈ l, CIn s.chg) (hn : l.length ≤ 100) : Spec Tryz.prog 91 [.agg (pfL l n)] [] (fun _ : Unit => []) (fun _ => .tup [.agg ((baseF l n).getD pz).abs, boo (baseF l n).isSome]) := by
 refine G_ Tryz.func91 rfl Tryz.ntmps91 rfl fun G w =>d_<|a_<|eb_ (L_ (cs := pfL l n) rfl) rfl rfl fun b1=>?_
 refine eb_ (B_ tabOk rfl) rfl rfl fun b2=>?_
 refine q_ 1 rfl<|g_<|c_<|d_<|d_<|a_<|q_ 1 rfl<|b_ (m_ (C := sgnsA l) (h_ tabOk rfl rfl l1_ List.not_mem_nil rfl) rfl) rfl rfl<|b_ (z_ rfl Tryz.underlying53 (List.length_map _)) rfl rfl<|q_ 1 rfl<|g_<|c_<|t_<|S_ (ι := Nat × Option Pnt) (fun z => [.blk b2 59 ((z.2).getD pz).abs, .blk b1 151 (pfL l n)]) (fun z => [(1, ptr b1), (2, ptr b2), (3, boo z.2.isSome), (11, sgnsA l), (12, int (l.length : Nat)), (13, int (z.1 : Nat))]) (fun z => z.1 ≤ l.length ∧ z.2 = (l.take z.1).foldl (baseIn l n) none) (fun z => l.length - z.1) (0, none) (⟨Nat.zero_le _, rfl⟩) (by exact ⟨rfl, rfl, rfl, rfl, rfl, rfl, trivial⟩) sr_ ?_
 intro z hz
 refine d_<|a_<|q_ 1 rfl<|g_<|c_<|d_<|r_ rfl ?_ ?_
 rotate_left
 ·intro hc14
  refine Q_<|i_ nofun<|i_ nofun<|P_<|c_<|d_<|a_<|b_ (m_ (C := .agg (z.2.getD pz).abs) (F_ tabOk rfl rfl rfl l0_ List.not_mem_nil (Pnt.size _)) rfl) rfl rfl<|q_ 1 rfl<|e_ (w_ (L' := (z.2.getD pz).abs) tabOk rfl rfl rfl u0_ (Pnt.size _) (fH_ _) (Pnt.ones _) (by exact A_ ((Pnt.size _).trans (Pnt.size _).symm))) rfl rfl ?_
  refine q_ 1 rfl<|g_<|c_<|n_<|f_ (rs := [.cell 2 59, .tmp 3]) rfl (RV.cell rfl (RV.cellA tabOk rfl rfl l0_ ((Pnt.size _))) (RV.tmp rfl RV.nil)) (()) sn_ ?_
  rw [show baseF l n = z.2 by rw [hz.2, a1_ _ _ (by omega)]; rfl]
  rfl
 intro hc14
 have hlt : z.1 < l.length := by omega
 refine p_<|c_<|d_<|t_<|d_<|a_<|b_ (D_ tabOk Tryz.underlying53 rfl rfl rfl rfl (aa_ (by omega)) rfl rfl) rfl rfl ?_
 refine b_ (K_ tabOk rfl rfl rfl rfl) rfl rfl<|eb_ (B_ tabOk rfl) rfl rfl fun b5=>?_
 refine e_ (w_ (L' := (l[z.1]'hlt).abs) tabOk rfl rfl rfl u0_ rfl (Nat.le_of_ble_eq_true rfl) rfl (by exact A_ rfl)) rfl rfl ?_
 refine g_<|c_<|d_<|a_<|q_ 2 rfl<|b_ (m_ (C := pntsA (l[z.1]'hlt).chg.points) (h_ tabOk rfl rfl l0_ List.not_mem_nil rfl) rfl) rfl rfl<|b_ (z_ rfl Tryz.underlying23 (List.length_map _)) rfl rfl<|q_ 1 rfl<|g_<|c_<|t_<|S_ (ι := Nat × Option Pnt) (fun y => [.blk b2 59 ((y.2).getD pz).abs, .blk b1 151 (pfL l n)]) (fun y => [(1, ptr b1), (2, ptr b2), (3, boo y.2.isSome), (11, sgnsA l), (12, int (l.length : Nat)), (13, int (z.1 : Nat)), (19, pntsA (l[z.1]'hlt).chg.points), (20, int ((l[z.1]'hlt).chg.points.length : Nat)), (21, int (y.1 : Nat))]) (fun y => y.1 ≤ (l[z.1]'hlt).chg.points.length ∧ y.2 = ((l[z.1]'hlt).chg.points.take y.1).foldl (baseSt l n) z.2) (fun y => (l[z.1]'hlt).chg.points.length - y.1) (0, z.2) (⟨Nat.zero_le _, rfl⟩) (by exact ⟨rfl, rfl, rfl, rfl, rfl, rfl, rfl, rfl, rfl, trivial⟩) (sk_ sr_) ?_
 intro y hy
 refine d_<|a_<|q_ 1 rfl<|g_<|c_<|d_<|r_ rfl ?_ ?_
 rotate_left
 ·intro hc22
  refine Q_<|i_ nofun<|i_ nofun<|P_<|o_<|c_<|a_<|b_ (s_ rfl rfl (by simp only [InR, lo, hi]; omega)) rfl rfl ?_
  refine q_ 1 rfl<|g_<|x_ (z.1 + 1, y.2) (by omega) (⟨by dsimp only; omega, by dsimp only; rw [W_ _ _ hlt, ← hz.2, hy.2, a1_ _ _ (by omega)]; rfl⟩) (by exact ⟨rfl, rfl, rfl, rfl, rfl, rfl, trivial⟩) sr_
 intro hc22
 have hly : y.1 < (l[z.1]'hlt).chg.points.length := by omega
 have hpl := (hl _ (List.getElem_mem hlt)).asked.2.2
 have hpy := (hl _ (List.getElem_mem hlt)).lits.pts _ (List.getElem_mem hly)
 refine p_<|c_<|d_<|t_<|d_<|a_<|b_ (D_ tabOk Tryz.underlying23 rfl rfl rfl rfl (aa_ (by omega)) rfl rfl) rfl rfl ?_
 refine b_ (K_ tabOk rfl rfl rfl (Pnt.size _)) rfl rfl<|eb_ (B_ tabOk rfl) rfl rfl fun b7=>?_
 refine e_ (w_ (L' := ((l[z.1]'hlt).chg.points[y.1]'hly).abs) tabOk rfl rfl rfl u0_ (Pnt.size _) (Nat.le_of_ble_eq_true rfl) (Pnt.ones _) (by exact A_ (Pnt.size _))) rfl rfl ?_
 refine g_<|c_<|d_<|d_<|a_<|q_ 2 rfl<|aZ_ (t := 26) rfl ?_ ?_
 rotate_left
 ·intro hc26
  refine q_ 6 rfl<|g_<|c_<|V_ rfl<|p_<|c_<|d_<|a_<|b_ (m_ (C := .agg (pfL l n)) (H_ tabOk rfl rfl rfl l2_ List.not_mem_nil (Nat.le_of_ble_eq_true rfl)) rfl) rfl rfl<|b_ (ao_ rfl rfl) rfl rfl<|u_ (cI_ (n := n) (k := 121) (caps := [ptr b7]) (σ := [.rd b7 59 ((l[z.1]'hlt).chg.points[y.1]'hly).abs]) (p := hasB ((l[z.1]'hlt).chg.points[y.1]'hly)) (by kernel_rfl) (by intro x hx; simp only [List.mem_cons, List.not_mem_nil, or_false] at hx; rcases hx with rfl <;> exact .inl ⟨_, _, _, rfl⟩) (by omega) (fun s hs => cb1_s (hl s hs) hpy)) Casts.refl (by kernel_rfl) rfl rfl rfl ?_
  refine ap_<|fun _=>q_ 1 rfl<|g_<|c_<|d_<|a_<|b_ (m_ (C := .agg (pfL l n)) (H_ tabOk rfl rfl rfl l2_ List.not_mem_nil (Nat.le_of_ble_eq_true rfl)) rfl) rfl rfl<|b_ (ao_ rfl rfl) rfl rfl<|u_ (cI_ (n := n) (k := 123) (caps := [ptr b7]) (σ := [.rd b7 59 ((l[z.1]'hlt).chg.points[y.1]'hly).abs]) (p := lowB ((l[z.1]'hlt).chg.points[y.1]'hly)) (by kernel_rfl) (by intro x hx; simp only [List.mem_cons, List.not_mem_nil, or_false] at hx; rcases hx with rfl <;> exact .inl ⟨_, _, _, rfl⟩) (by omega) (fun s hs => cb2_s)) Casts.refl (by kernel_rfl) rfl rfl rfl ?_
  refine ap_<|fun _=>q_ 1 rfl<|g_<|c_<|d_<|a_<|q_ 2 rfl<|b_ (m_ (C := int (fN n + 1)) (h_ tabOk rfl rfl l2_ List.not_mem_nil rfl) rfl) rfl rfl<|q_ 2 rfl<|C_ (t := 43) rfl ?_ ?_
  rotate_left
  ·intro hc43
   refine q_ 5 rfl<|g_<|c_<|V_ rfl<|p_<|o_<|c_<|a_<|b_ (s_ rfl rfl (by simp only [InR, lo, hi]; omega)) rfl rfl ?_
   refine q_ 1 rfl<|g_<|x_ (y.1 + 1, y.2) (by omega) (⟨by dsimp only; omega, by dsimp only; rw [W_ _ _ hly, ← hy.2, cx_ (by unfold baseOk; simp only [Bool.and_eq_false_iff, decide_eq_false_iff_not]; omega)]⟩) (by exact ⟨rfl, rfl, rfl, rfl, rfl, rfl, rfl, rfl, rfl, trivial⟩) (sk_ sr_)
  intro hc43
  refine q_ 2 rfl<|b_ (m_ (C := int (2 * fN n + 1)) (h_ tabOk rfl rfl l2_ List.not_mem_nil rfl) rfl) rfl rfl<|q_ 2 rfl<|g_<|c_<|r_ rfl ?_ ?_
  rotate_left
  ·intro hc48
   refine p_<|o_<|c_<|a_<|b_ (s_ rfl rfl (by simp only [InR, lo, hi]; omega)) rfl rfl ?_
   refine q_ 1 rfl<|g_<|x_ (y.1 + 1, y.2) (by omega) (⟨by dsimp only; omega, by dsimp only; rw [W_ _ _ hly, ← hy.2, cx_ (by unfold baseOk; simp only [Bool.and_eq_false_iff, decide_eq_false_iff_not]; omega)]⟩) (by exact ⟨rfl, rfl, rfl, rfl, rfl, rfl, rfl, rfl, rfl, trivial⟩) (sk_ sr_)
  intro hc48
  refine a_<|b_ (m_ (C := .agg ((l[z.1]'hlt).chg.points[y.1]'hly).abs) (F_ tabOk rfl rfl rfl l0_ List.not_mem_nil (Pnt.size _)) rfl) rfl rfl<|e_ (w_ (L' := ((l[z.1]'hlt).chg.points[y.1]'hly).abs) tabOk rfl rfl rfl u1_ (Pnt.size _) (fH_ _) (Pnt.ones _) (by exact A_ ((Pnt.size _).trans (Pnt.size _).symm))) rfl rfl ?_
  refine q_ 1 rfl<|g_<|o_<|c_<|a_<|b_ (s_ rfl rfl (by simp only [InR, lo, hi]; omega)) rfl rfl ?_
  refine q_ 1 rfl<|g_<|x_ (y.1 + 1, some ((l[z.1]'hlt).chg.points[y.1]'hly)) (by omega) (⟨by dsimp only; omega, by dsimp only; rw [W_ _ _ hly, ← hy.2, c7_ (fun h9 => by (rw [h9] at hc26; cases hc26)) (by unfold baseOk; simp only [Bool.and_eq_true, decide_eq_true_eq]; omega)]⟩) (by exact ⟨rfl, rfl, rfl, rfl, rfl, rfl, rfl, rfl, rfl, trivial⟩) (sk_ sr_)
 intro hc26
 refine q_ 1 rfl<|b_ (m_ (C := int ((l[z.1]'hlt).chg.points[y.1]'hly).seq) (h_ tabOk rfl rfl l0_ List.not_mem_nil rfl) rfl) rfl rfl<|q_ 1 rfl<|b_ (m_ (C := int (y.2.getD pz).seq) (h_ tabOk rfl rfl l1_ List.not_mem_nil rfl) rfl) rfl rfl<|q_ 2 rfl<|g_<|c_<|r_ rfl ?_ ?_
 ·intro hc32
  refine Q_<|i_ nofun<|P_<|c_<|a_<|b_ (s_ rfl rfl (by simp only [InR, lo, hi]; omega)) rfl rfl ?_
  refine q_ 1 rfl<|g_<|x_ (y.1 + 1, y.2) (by omega) (⟨by dsimp only; omega, by dsimp only; rw [W_ _ _ hly, ← hy.2, fp_ hc26 hc32]⟩) (by exact ⟨rfl, rfl, rfl, rfl, rfl, rfl, rfl, rfl, rfl, trivial⟩) (sk_ sr_)
 intro hc32
 refine p_<|c_<|d_<|a_<|b_ (m_ (C := .agg (pfL l n)) (H_ tabOk rfl rfl rfl l2_ List.not_mem_nil (Nat.le_of_ble_eq_true rfl)) rfl) rfl rfl<|b_ (ao_ rfl rfl) rfl rfl<|u_ (cI_ (n := n) (k := 121) (caps := [ptr b7]) (σ := [.rd b7 59 ((l[z.1]'hlt).chg.points[y.1]'hly).abs]) (p := hasB ((l[z.1]'hlt).chg.points[y.1]'hly)) (by kernel_rfl) (by intro x hx; simp only [List.mem_cons, List.not_mem_nil, or_false] at hx; rcases hx with rfl <;> exact .inl ⟨_, _, _, rfl⟩) (by omega) (fun s hs => cb1_s (hl s hs) hpy)) Casts.refl (by kernel_rfl) rfl rfl rfl ?_
 refine ap_<|fun _=>q_ 1 rfl<|g_<|c_<|d_<|a_<|b_ (m_ (C := .agg (pfL l n)) (H_ tabOk rfl rfl rfl l2_ List.not_mem_nil (Nat.le_of_ble_eq_true rfl)) rfl) rfl rfl<|b_ (ao_ rfl rfl) rfl rfl<|u_ (cI_ (n := n) (k := 123) (caps := [ptr b7]) (σ := [.rd b7 59 ((l[z.1]'hlt).chg.points[y.1]'hly).abs]) (p := lowB ((l[z.1]'hlt).chg.points[y.1]'hly)) (by kernel_rfl) (by intro x hx; simp only [List.mem_cons, List.not_mem_nil, or_false] at hx; rcases hx with rfl <;> exact .inl ⟨_, _, _, rfl⟩) (by omega) (fun s hs => cb2_s)) Casts.refl (by kernel_rfl) rfl rfl rfl ?_
 refine ap_<|fun _=>q_ 1 rfl<|g_<|c_<|d_<|a_<|q_ 2 rfl<|b_ (m_ (C := int (fN n + 1)) (h_ tabOk rfl rfl l2_ List.not_mem_nil rfl) rfl) rfl rfl<|q_ 2 rfl<|C_ (t := 43) rfl ?_ ?_
 rotate_left
 ·intro hc43
  refine q_ 5 rfl<|g_<|c_<|V_ rfl<|p_<|o_<|c_<|a_<|b_ (s_ rfl rfl (by simp only [InR, lo, hi]; omega)) rfl rfl ?_
  refine q_ 1 rfl<|g_<|x_ (y.1 + 1, y.2) (by omega) (⟨by dsimp only; omega, by dsimp only; rw [W_ _ _ hly, ← hy.2, cx_ (by unfold baseOk; simp only [Bool.and_eq_false_iff, decide_eq_false_iff_not]; omega)]⟩) (by exact ⟨rfl, rfl, rfl, rfl, rfl, rfl, rfl, rfl, rfl, trivial⟩) (sk_ sr_)
 intro hc43
 refine q_ 2 rfl<|b_ (m_ (C := int (2 * fN n + 1)) (h_ tabOk rfl rfl l2_ List.not_mem_nil rfl) rfl) rfl rfl<|q_ 2 rfl<|g_<|c_<|r_ rfl ?_ ?_
 rotate_left
 ·intro hc48
  refine p_<|o_<|c_<|a_<|b_ (s_ rfl rfl (by simp only [InR, lo, hi]; omega)) rfl rfl ?_
  refine q_ 1 rfl<|g_<|x_ (y.1 + 1, y.2) (by omega) (⟨by dsimp only; omega, by dsimp only; rw [W_ _ _ hly, ← hy.2, cx_ (by unfold baseOk; simp only [Bool.and_eq_false_iff, decide_eq_false_iff_not]; omega)]⟩) (by exact ⟨rfl, rfl, rfl, rfl, rfl, rfl, rfl, rfl, rfl, trivial⟩) (sk_ sr_)
 intro hc48
 refine a_<|b_ (m_ (C := .agg ((l[z.1]'hlt).chg.points[y.1]'hly).abs) (F_ tabOk rfl rfl rfl l0_ List.not_mem_nil (Pnt.size _)) rfl) rfl rfl<|e_ (w_ (L' := ((l[z.1]'hlt).chg.points[y.1]'hly).abs) tabOk rfl rfl rfl u1_ (Pnt.size _) (fH_ _) (Pnt.ones _) (by exact A_ ((Pnt.size _).trans (Pnt.size _).symm))) rfl rfl ?_
 refine q_ 1 rfl<|g_<|o_<|c_<|a_<|b_ (s_ rfl rfl (by simp only [InR, lo, hi]; omega)) rfl rfl ?_
 refine q_ 1 rfl<|g_<|x_ (y.1 + 1, some ((l[z.1]'hlt).chg.points[y.1]'hly)) (by omega) (⟨by dsimp only; omega, by dsimp only; rw [W_ _ _ hly, ← hy.2, c7_ (fun h9 => by omega) (by unfold baseOk; simp only [Bool.and_eq_true, decide_eq_true_eq]; omega)]⟩) (by exact ⟨rfl, rfl, rfl, rfl, rfl, rfl, rfl, rfl, rfl, trivial⟩) (sk_ sr_)
end
end Go.Proofs.YtggajaigfkekhaaGreat.A
