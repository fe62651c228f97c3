/-
  Packed out of the texts: TM3, TM4, CO3, CO4, CO7.
-/
import Derived.Test.YtejcohlpjikjpaaGreatDoorU013
/-
  Policies' texts: rows and policies, read by the program.
-/
set_option maxRecDepth 100000
set_option linter.unusedSimpArgs false
set_option linter.unusedVariables false
namespace Go.Proofs.YtejcohlpjikjpaaGreatDoor.A
open Go.RowKit

section
variable {l wd : Txt} {odd : Bool} {p : Nat} {es er : Value} {k : Nat} {d : Int}
theorem row_less {o o2 : Bool} {a b : Nat} (ho : o = false) (h : o2 = true ∨ a < b) : (if o2 = true then 0 else a + 1) < if o = true then 0 else b + 1 := by
  subst ho
  rcases h with rfl | h
  · simp
  · simp only [Bool.false_eq_true, if_false]
    split <;> omega
theorem pol0_s (hl : l.length ≤ 1000) : Spec Tryz.prog 80 [ptr p, int 11] (.blk p 116 (psA (l) odd) :: globs es er) (fun z : {z : Txt × Bool × Frm // PolR 0 l odd z} => [.blk p 116 (psA z.1.1 z.1.2.1)]) (fun z => .agg z.1.2.2.abs) := by
 refine spec_of Tryz.func80 rfl Tryz.ntmps80 rfl fun G w => ?_
 refine SC.seq (SC.region ?_)
 refine SL.eff (Eff.alloc tabOk rfl) rfl rfl ?_
 rintro _ _ ⟨b4, rfl, rfl⟩
 refine SL.nil (SE.seq ?_)
 refine SC.seq ?_
 refine SC.seq (SC.region ?_)
 refine SL.val (Val.move rfl) rfl rfl ?_
 refine SL.val (Val.gtI rfl rfl) rfl rfl ?_
 refine SL.nil (SE.seq ?_)
 refine SC.condP rfl ?_ (by intro hc8; exfalso; omega)
 intro hc8
 refine SC.region ?_
 refine SL.val (Val.move rfl) rfl rfl ?_
 refine SL.val (Val.nilCheck rfl) rfl rfl ?_
 refine SL.val (Val.fieldAddr tabOk rfl rfl rfl rfl rfl) rfl rfl ?_
 refine SL.eff (Eff.store (L' := psA l true) tabOk rfl rfl rfl (by repeat first|assumption|exact Upd.here|apply Upd.there) rfl (lb_ (by rfl)) rfl (by rfl)) rfl rfl ?_
 rintro _ _ ⟨rfl, rfl⟩
 refine SL.nil (SE.seq ?_)
 refine SC.seq ?_
 refine SC.seq (SC.region ?_)
 refine SL.val (Val.move rfl) rfl rfl ?_
 refine SL.val (Val.nilCheck rfl) rfl rfl ?_
 refine SL.val (Val.fieldAddr tabOk rfl rfl rfl rfl rfl) rfl rfl ?_
 refine SL.val (Val.load1 tabOk rfl rfl (by repeat first|assumption|exact o0_|exact o1_|apply o2_) List.not_mem_nil (by rfl)) rfl rfl ?_
 refine SL.nil (SE.seq ?_)
 refine SC.cond rfl ?_ (by intro hc15; exfalso; cases hc15)
 intro hc15
 refine SC.seq (SC.region ?_)
 refine SL.val (Val.buildS tabOk rfl rfl rfl rfl) rfl rfl ?_
 refine SL.eff (Eff.store tabOk rfl rfl rfl (by repeat first|assumption|exact Upd.here|apply Upd.there) (by rfl) (lb_ (by rfl)) (by rfl) (by rfl)) rfl rfl ?_
 rintro _ _ ⟨rfl, rfl⟩
 refine SL.nil (SE.seq ?_)
 refine SC.ret ?_
 refine SE.then_ nofun ?_
 refine SE.finC (rs := [.cell 4 95]) rfl (RV.cell rfl (RV.cellA tabOk rfl rfl (by repeat first|assumption|exact o0_|exact o1_|apply o2_) (by rfl)) RV.nil) (Casts.cons (cast_agg (Casts.keep (Casts.keep (Casts.nils (s := 3) Casts.refl)))) Casts.refl) (⟨(l, true, .mk 0 0 []), PolR.deep⟩) (by repeat first|exact s0 _|exact s1 _|apply s2|apply s3) (by simp [It.rids]) ?_
 first
  | exact congrArg Abs.agg (Frm.abs_mk _ _ _).symm
  | rfl
set_option maxHeartbeats 1000000 in
theorem row_s (he : isIf es) (hr : isIf er) (hd : 0 ≤ d ∧ d ≤ 100) (hp : ∀ (l : Txt) (odd : Bool), l.length ≤ 1000 → Spec Tryz.prog 80 [ptr p, int (d + 1)] (.blk p 116 (psA (l) odd) :: globs es er) (fun z : {z : Txt × Bool × Frm // PolR k l odd z} => [.blk p 116 (psA z.1.1 z.1.2.1)]) (fun z => .agg z.1.2.2.abs)) (hl : l.length ≤ 1000) : Spec Tryz.prog 108 [ptr p, int d] (.blk p 116 (psA (l) odd) :: globs es er) (fun z : {z : Txt × Bool × List Frm // RowF k l odd z} => [.blk p 116 (psA z.1.1 z.1.2.1)]) (fun z => .sl 3 (z.1.2.2.map Frm.abs)) := by
 refine spec_of Tryz.func108 rfl Tryz.ntmps108 rfl fun G w => ?_
 refine SC.seq (SC.region ?_)
 refine SL.val (Val.assign rfl) rfl rfl ?_
 refine SL.nil (SE.seq ?_)
 refine SC.cutS (ι := Txt × Bool) (fun z => (.blk p 116 (psA (z.1) z.2) :: globs es er)) (fun z => [(0, ptr p), (1, int d)]) (fun z => RowI k l odd (z.1, z.2, [])) ?_ ?_
 ·skip
  refine SC.seq (SC.region ?_)
  refine SL.val (Val.move rfl) rfl rfl ?_
  refine SL.call (take_s (p := p) (l := l) (odd := odd) (wd := [40])) Casts.refl (by kernel_rfl) rfl rfl rfl ?_
  refine After.one rfl (by repeat first|assumption|exact m0|apply m1) (fun _ => rfl) ?_
  intro _
  refine ⟨_, (by repeat first|assumption|exact Upd.here|apply Upd.there), ?_⟩
  refine SL.val (Val.notB rfl) rfl rfl ?_
  refine SL.nil (SE.seq ?_)
  refine SC.cond rfl ?_ ?_
  rotate_left
  ·intro hc8
   refine SC.skip ?_
   refine SE.meet (takeT l [40], odd) (RowI.start (by simpa using hc8)) (by exact ⟨rfl, rfl, trivial⟩) (by repeat first|exact s0 _|exact s1 _|apply s2|apply s3)
  intro hc8
  refine SC.region ?_
  refine SL.val (Val.move rfl) rfl rfl ?_
  refine SL.val (Val.nilCheck rfl) rfl rfl ?_
  refine SL.val (Val.fieldAddr tabOk rfl rfl rfl rfl rfl) rfl rfl ?_
  refine SL.eff (Eff.store (L' := psA (takeT l [40]) true) tabOk rfl rfl rfl (by repeat first|assumption|exact Upd.here|apply Upd.there) rfl (lb_ (by rfl)) rfl (by rfl)) rfl rfl ?_
  rintro _ _ ⟨rfl, rfl⟩
  refine SL.nil ?_
  refine SE.meet (takeT l [40], true) (RowI.odd_ (by simpa using hc8)) (by exact ⟨rfl, rfl, trivial⟩) (by repeat first|exact s0 _|exact s1 _|apply s2|apply s3)
 ·intro z hz
  refine SC.seq (SC.region ?_)
  refine SL.val (Val.assign rfl) rfl rfl ?_
  refine SL.nil (SE.seq ?_)
  refine SC.seq ?_
  refine SC.block ?_
  refine SC.own0 95 3 ?_
  refine SC.loop (ι := Txt × Bool × List Frm × Value) (fun z => own 95 3 z.2.2.2 (z.2.2.1.map Frm.abs) :: (.blk p 116 (psA (z.1) z.2.1) :: globs es er)) (fun z => [(0, ptr p), (1, int d), (5, .v z.2.2.2)]) (fun z => RowI k l odd (z.1, z.2.1, z.2.2.1)) (fun z => if z.2.1 = true then 0 else z.1.length + 1) (z.1, z.2, [], .slice none 0 0) (hz) (by exact ⟨rfl, rfl, rfl, trivial⟩) (by repeat first|exact s0 _|exact s1 _|apply s2|apply s3) ?_
  intro z hz
  refine SC.seq ?_
  refine SC.seq (SC.region ?_)
  refine SL.val (Val.move rfl) rfl rfl ?_
  refine SL.val (Val.nilCheck rfl) rfl rfl ?_
  refine SL.val (Val.fieldAddr tabOk rfl rfl rfl rfl rfl) rfl rfl ?_
  refine SL.val (Val.load1 tabOk rfl rfl (by repeat first|assumption|exact o0_|exact o1_|apply o2_) List.not_mem_nil (by rfl)) rfl rfl ?_
  refine SL.val (Val.notB rfl) rfl rfl ?_
  refine SL.nil (SE.seq ?_)
  refine SC.cond rfl ?_ ?_
  rotate_left
  ·intro hc16
   have hod : z.2.1 = true := by simpa using hc16
   refine SC.exit ?_
   refine SE.then_ nofun ?_
   refine SE.then_ nofun ?_
   refine SE.exit ?_
   refine SE.seq ?_
   refine SC.seq (SC.region ?_)
   refine SL.val (Val.move rfl) rfl rfl ?_
   refine SL.val (Val.assign rfl) rfl rfl ?_
   refine SL.nil (SE.seq ?_)
   refine SC.ret ?_
   refine SE.freeze [] (t := 4) rfl rfl ?_
   refine SE.fin (rs := [.tmp 4]) rfl (RV.tmp rfl RV.nil) (⟨(z.1, z.2.1, z.2.2.1), hz.done hod⟩) (by repeat first|exact s0 _|exact s1 _|apply s2|apply s3) (by simp [It.rids]) ?_
   exact rfl
  intro hc16
  have hod : z.2.1 = false := by simpa using hc16
  have hzl : z.1.length ≤ l.length := hz.len
  have hzf : z.2.2.1.length ≤ l.length + 2 := Nat.le_trans (Nat.le_add_right _ _) hz.few
  refine SC.skip ?_
  refine SE.seq ?_
  refine SC.block ?_
  refine SC.seq (SC.region ?_)
  iterate 3 refine SL.val (Val.move rfl) rfl rfl ?_
  first
   | refine SL.val (Val.addI rfl rfl (by simp only [InR, lo, hi]; omega)) rfl rfl ?_
   | refine SL.val (Val.addW rfl rfl) rfl rfl ?_
  refine SL.call (hp z.1 z.2.1 (by omega)) Casts.refl (by kernel_rfl) rfl rfl rfl ?_
  refine After.oneR (ys := globs es er) rfl (by repeat first|assumption|exact m0|apply m1) (by intro y hy; simp only [globs, List.mem_cons, List.not_mem_nil, or_false] at hy; rcases hy with rfl | rfl | rfl <;> exact ⟨by repeat first|assumption|exact m0|apply m1, by intro h; cases h⟩) rfl (fun _ => rfl) ?_
  intro y
  refine ⟨_, (by repeat first|assumption|exact Upd.here|apply Upd.there), ?_⟩
  refine SL.eff (Eff.buildSl tabOk Tryz.underlying93 rfl rfl rfl (elems_one (Frm.abs_len _)) rfl rfl rfl) rfl rfl ?_
  rintro _ _ ⟨rfl, rfl⟩
  refine SL.eff (Eff.appendE (zs := (z.2.2.1 ++ [y.1.2.2]).map Frm.abs) tabOk [] (by rw [List.map_append]; rfl) Tryz.underlying93 rfl rfl rfl rfl rfl rfl (by intro c hc; rw [List.mem_singleton] at hc; subst hc; exact Frm.abs_ones _) (by unfold maxLen; simp only [List.length_map, List.length_cons, List.length_nil]; omega) (by rw [show Tryz.prog.bytesOf 95 = 40 by kernel_rfl]; simp only [List.length_map, List.length_cons, List.length_nil]; omega)) rfl rfl ?_
  rintro _ _ ⟨r23, rfl, rfl⟩
  refine SL.val (Val.assign rfl) rfl rfl ?_
  refine SL.nil (SE.seq ?_)
  refine SC.seq ?_
  refine SC.seq (SC.region ?_)
  refine SL.val (Val.move rfl) rfl rfl ?_
  refine SL.call (take_s (p := p) (l := y.1.1) (odd := y.1.2.1) (wd := [41])) Casts.refl (by kernel_rfl) rfl rfl rfl ?_
  refine After.one rfl (by repeat first|assumption|exact m0|apply m1) (fun _ => rfl) ?_
  intro _
  refine ⟨_, (by repeat first|assumption|exact Upd.here|apply Upd.there), ?_⟩
  refine SL.nil (SE.seq ?_)
  refine SC.cond rfl ?_ ?_
  ·intro hc25
   refine SC.exit ?_
   refine SE.then_ nofun ?_
   refine SE.exit_ rfl ?_
   refine SE.then_ nofun ?_
   refine SE.exit ?_
   refine SE.seq ?_
   refine SC.seq (SC.region ?_)
   refine SL.val (Val.move rfl) rfl rfl ?_
   refine SL.val (Val.assign rfl) rfl rfl ?_
   refine SL.nil (SE.seq ?_)
   refine SC.ret ?_
   refine SE.freeze [] (t := 4) rfl rfl ?_
   refine SE.fin (rs := [.tmp 4]) rfl (RV.tmp rfl RV.nil) (⟨(takeT y.1.1 [41], y.1.2.1, z.2.2.1 ++ [y.1.2.2]), (hz.step hod y.2).1 hc25⟩) (by repeat first|exact s0 _|exact s1 _|apply s2|apply s3) (by simp [It.rids]) ?_
   exact rfl
  intro hc25
  refine SC.skip ?_
  refine SE.seq ?_
  refine SC.seq (SC.region ?_)
  refine SL.val (Val.move rfl) rfl rfl ?_
  refine SL.call (take_s (p := p) (l := takeT y.1.1 [41]) (odd := y.1.2.1) (wd := [44])) Casts.refl (by kernel_rfl) rfl rfl rfl ?_
  refine After.one rfl (by repeat first|assumption|exact m0|apply m1) (fun _ => rfl) ?_
  intro _
  refine ⟨_, (by repeat first|assumption|exact Upd.here|apply Upd.there), ?_⟩
  refine SL.val (Val.notB rfl) rfl rfl ?_
  refine SL.nil (SE.seq ?_)
  refine SC.cond rfl ?_ ?_
  rotate_left
  ·intro hc28
   refine SC.skip ?_
   refine SE.inBlock ?_
   have hst := (hz.step hod y.2).2.1 (by rw [hc25]; decide) (by simpa using hc28)
   refine SE.round (takeT (takeT y.1.1 [41]) [44], y.1.2.1, z.2.2.1 ++ [y.1.2.2], r23) (row_less hod hst.2) (hst.1) (by exact ⟨rfl, rfl, rfl, trivial⟩) (by repeat first|exact s0 _|exact s1 _|apply s2|apply s3)
  intro hc28
  refine SC.region ?_
  refine SL.val (Val.move rfl) rfl rfl ?_
  refine SL.val (Val.nilCheck rfl) rfl rfl ?_
  refine SL.val (Val.fieldAddr tabOk rfl rfl rfl rfl rfl) rfl rfl ?_
  refine SL.eff (Eff.store (L' := psA (takeT (takeT y.1.1 [41]) [44]) true) tabOk rfl rfl rfl (by repeat first|assumption|exact Upd.here|apply Upd.there) rfl (lb_ (by rfl)) rfl (by rfl)) rfl rfl ?_
  rintro _ _ ⟨rfl, rfl⟩
  refine SL.nil ?_
  refine SE.inBlock ?_
  refine SE.round (takeT (takeT y.1.1 [41]) [44], true, z.2.2.1 ++ [y.1.2.2], r23) (by simp [hod]) ((hz.step hod y.2).2.2 (by rw [hc25]; decide) (by simpa using hc28)) (by exact ⟨rfl, rfl, rfl, trivial⟩) (by repeat first|exact s0 _|exact s1 _|apply s2|apply s3)
set_option maxHeartbeats 2000000 in
theorem pol_step (he : isIf es) (hr : isIf er) (hd : 1 ≤ d ∧ d ≤ 10) (hp : ∀ (l : Txt) (odd : Bool), l.length ≤ 1000 → Spec Tryz.prog 80 [ptr p, int (d + 1)] (.blk p 116 (psA (l) odd) :: globs es er) (fun z : {z : Txt × Bool × Frm // PolR k l odd z} => [.blk p 116 (psA z.1.1 z.1.2.1)]) (fun z => .agg z.1.2.2.abs)) (hl : l.length ≤ 1000) : Spec Tryz.prog 80 [ptr p, int d] (.blk p 116 (psA (l) odd) :: globs es er) (fun z : {z : Txt × Bool × Frm // PolR (k + 1) l odd z} => [.blk p 116 (psA z.1.1 z.1.2.1)]) (fun z => .agg z.1.2.2.abs) := by
 have hbl := bare_len l
 have hl1 := takeT_len l [97, 108, 108]
 have hl2 := takeT_len (takeT l [97, 108, 108]) [97, 110, 121]
 have hl3 := numL_len l
 have hl4 := takeT_len (numL l) [111, 102]
 refine spec_of Tryz.func80 rfl Tryz.ntmps80 rfl fun G w => ?_
 refine SC.seq (SC.region ?_)
 refine SL.eff (Eff.alloc tabOk rfl) rfl rfl ?_
 rintro _ _ ⟨b4, rfl, rfl⟩
 refine SL.nil (SE.seq ?_)
 refine SC.seq ?_
 refine SC.seq (SC.region ?_)
 refine SL.val (Val.move rfl) rfl rfl ?_
 refine SL.val (Val.gtI rfl rfl) rfl rfl ?_
 refine SL.nil (SE.seq ?_)
 refine SC.condP rfl (by intro hc8; exfalso; omega) ?_
 intro hc8
 refine SC.skip ?_
 refine SE.seq ?_
 refine SC.seq ?_
 refine SC.seq (SC.region ?_)
 refine SL.val (Val.move rfl) rfl rfl ?_
 refine SL.val (Val.nilCheck rfl) rfl rfl ?_
 refine SL.val (Val.fieldAddr tabOk rfl rfl rfl rfl rfl) rfl rfl ?_
 refine SL.val (Val.load1 tabOk rfl rfl (by repeat first|assumption|exact o0_|exact o1_|apply o2_) List.not_mem_nil (by rfl)) rfl rfl ?_
 refine SL.nil (SE.seq ?_)
 refine SC.cond rfl ?_ ?_
 ·intro hc15
  refine SC.seq (SC.region ?_)
  refine SL.val (Val.buildS tabOk rfl rfl rfl rfl) rfl rfl ?_
  refine SL.eff (Eff.store tabOk rfl rfl rfl (by repeat first|assumption|exact Upd.here|apply Upd.there) (by rfl) (lb_ (by rfl)) (by rfl) (by rfl)) rfl rfl ?_
  rintro _ _ ⟨rfl, rfl⟩
  refine SL.nil (SE.seq ?_)
  refine SC.ret ?_
  refine SE.then_ nofun ?_
  refine SE.finC (rs := [.cell 4 95]) rfl (RV.cell rfl (RV.cellA tabOk rfl rfl (by repeat first|assumption|exact o0_|exact o1_|apply o2_) (by rfl)) RV.nil) (Casts.cons (cast_agg (Casts.keep (Casts.keep (Casts.nils (s := 3) Casts.refl)))) Casts.refl) (⟨(l, odd, .mk 0 0 []), PolR.was hc15 _⟩) (by repeat first|exact s0 _|exact s1 _|apply s2|apply s3) (by simp [It.rids]) ?_
  first
   | exact congrArg Abs.agg (Frm.abs_mk _ _ _).symm
   | rfl
 intro hc15
 refine SC.skip ?_
 refine SE.seq ?_
 refine SC.seq ?_
 refine SC.block ?_
 refine SC.seq (SC.region ?_)
 refine SL.val (Val.move rfl) rfl rfl ?_
 refine SL.call (take_s (p := p) (l := l) (odd := odd) (wd := [97, 108, 108])) Casts.refl (by kernel_rfl) rfl rfl rfl ?_
 refine After.one rfl (by repeat first|assumption|exact m0|apply m1) (fun _ => rfl) ?_
 intro _
 refine ⟨_, (by repeat first|assumption|exact Upd.here|apply Upd.there), ?_⟩
 refine SL.val (Val.assign rfl) rfl rfl ?_
 refine SL.nil (SE.seq ?_)
 refine SC.cond rfl ?_ ?_
 ·intro hc17
  refine SC.seq (SC.region ?_)
  iterate 2 refine SL.val (Val.move rfl) rfl rfl ?_
  refine SL.call (row_s (p := p) (l := takeT l [97, 108, 108]) (odd := odd) he hr (by omega) hp (by omega)) Casts.refl (by kernel_rfl) rfl rfl rfl ?_
  refine After.oneR (ys := globs es er) rfl (by repeat first|assumption|exact m0|apply m1) (by intro y hy; simp only [globs, List.mem_cons, List.not_mem_nil, or_false] at hy; rcases hy with rfl | rfl | rfl <;> exact ⟨by repeat first|assumption|exact m0|apply m1, by intro h; cases h⟩) rfl (fun _ => rfl) ?_
  intro y
  refine ⟨_, (by repeat first|assumption|exact Upd.here|apply Upd.there), ?_⟩
  refine SL.val (Val.assign rfl) rfl rfl ?_
  refine SL.nil (SE.seq ?_)
  refine SC.seq (SC.region ?_)
  refine SL.val (Val.move rfl) rfl rfl ?_
  first
   | refine SL.val (Val.lenSl rfl Tryz.underlying93 (List.length_map _)) rfl rfl ?_
   | refine SL.val (Val.lenOwn rfl (by repeat first|assumption|exact m0|apply m1) Tryz.underlying93 (List.length_map _)) rfl rfl ?_
   | refine SL.val (Val.lenNil rfl Tryz.underlying93) rfl rfl ?_
  refine SL.val (Val.move rfl) rfl rfl ?_
  refine SL.val (Val.buildS tabOk rfl rfl rfl rfl) rfl rfl ?_
  refine SL.eff (Eff.store tabOk rfl rfl rfl (by repeat first|assumption|exact Upd.here|apply Upd.there) (by rfl) (lb_ (by rfl)) (by rfl) (by rfl)) rfl rfl ?_
  rintro _ _ ⟨rfl, rfl⟩
  refine SL.nil (SE.seq ?_)
  refine SC.ret ?_
  refine SE.ret ?_
  refine SE.then_ nofun ?_
  refine SE.fin (rs := [.cell 4 95]) rfl (RV.cell rfl (RV.cellA tabOk rfl rfl (by repeat first|assumption|exact o0_|exact o1_|apply o2_) (by rfl)) RV.nil) (⟨(y.1.1, y.1.2.1, .mk 0 y.1.2.2.length y.1.2.2), PolR.all hc15 hc17 y.2⟩) (by repeat first|exact s0 _|exact s1 _|apply s2|apply s3) (by simp [It.rids]) ?_
  first
   | exact congrArg Abs.agg (Frm.abs_mk _ _ _).symm
   | rfl
 intro hc17
 have ha : ¬ begins (bare l) [97, 108, 108] = true := by rw [hc17]; decide
 refine SC.seq (SC.region ?_)
 refine SL.val (Val.move rfl) rfl rfl ?_
 refine SL.call (take_s (p := p) (l := takeT l [97, 108, 108]) (odd := odd) (wd := [97, 110, 121])) Casts.refl (by kernel_rfl) rfl rfl rfl ?_
 refine After.one rfl (by repeat first|assumption|exact m0|apply m1) (fun _ => rfl) ?_
 intro _
 refine ⟨_, (by repeat first|assumption|exact Upd.here|apply Upd.there), ?_⟩
 refine SL.val (Val.assign rfl) rfl rfl ?_
 refine SL.nil (SE.seq ?_)
 refine SC.cond rfl ?_ ?_
 ·intro hc27
  have hb : begins (bare l) [97, 110, 121] = true := by
   have h9 := hc27
   rw [takeT_no ha, bare_bare] at h9
   exact h9
  refine SC.seq (SC.region ?_)
  iterate 2 refine SL.val (Val.move rfl) rfl rfl ?_
  refine SL.call (row_s (p := p) (l := takeT (takeT l [97, 108, 108]) [97, 110, 121]) (odd := odd) he hr (by omega) hp (by omega)) Casts.refl (by kernel_rfl) rfl rfl rfl ?_
  refine After.oneR (ys := globs es er) rfl (by repeat first|assumption|exact m0|apply m1) (by intro y hy; simp only [globs, List.mem_cons, List.not_mem_nil, or_false] at hy; rcases hy with rfl | rfl | rfl <;> exact ⟨by repeat first|assumption|exact m0|apply m1, by intro h; cases h⟩) rfl (fun _ => rfl) ?_
  intro y
  refine ⟨_, (by repeat first|assumption|exact Upd.here|apply Upd.there), ?_⟩
  refine SL.val (Val.buildS tabOk rfl rfl rfl rfl) rfl rfl ?_
  refine SL.eff (Eff.store tabOk rfl rfl rfl (by repeat first|assumption|exact Upd.here|apply Upd.there) (by rfl) (lb_ (by rfl)) (by rfl) (by rfl)) rfl rfl ?_
  rintro _ _ ⟨rfl, rfl⟩
  refine SL.nil (SE.seq ?_)
  refine SC.ret ?_
  refine SE.ret ?_
  refine SE.then_ nofun ?_
  refine SE.fin (rs := [.cell 4 95]) rfl (RV.cell rfl (RV.cellA tabOk rfl rfl (by repeat first|assumption|exact o0_|exact o1_|apply o2_) (by rfl)) RV.nil) (⟨(y.1.1, y.1.2.1, .mk 0 1 y.1.2.2), PolR.any hc15 ha hb y.2⟩) (by repeat first|exact s0 _|exact s1 _|apply s2|apply s3) (by simp [It.rids]) ?_
  first
   | exact congrArg Abs.agg (Frm.abs_mk _ _ _).symm
   | rfl
 intro hc27
 have hb2 : ¬ begins (bare (takeT l [97, 108, 108])) [97, 110, 121] = true := by rw [hc27]; decide
 have hb : ¬ begins (bare l) [97, 110, 121] = true := by
  have h9 := hb2
  rw [takeT_no ha, bare_bare] at h9
  exact h9
 rw [two_no ha hb2]
 refine SC.skip ?_
 refine SE.inBlock ?_
 refine SE.seq ?_
 refine SC.seq (SC.region ?_)
 refine SL.val (Val.move rfl) rfl rfl ?_
 refine SL.call (number_s (p := p) (l := bare l) (odd := odd) he hr (by omega)) Casts.refl (by kernel_rfl) rfl rfl rfl ?_
 refine After.oneR (ys := globs es er) rfl (by repeat first|assumption|exact m0|apply m1) (by intro y hy; simp only [globs, List.mem_cons, List.not_mem_nil, or_false] at hy; rcases hy with rfl | rfl | rfl <;> exact ⟨by repeat first|assumption|exact m0|apply m1, by intro h; cases h⟩) rfl (fun _ => rfl) ?_
 intro _
 refine ⟨_, (by repeat first|assumption|exact Upd.here|apply Upd.there), ?_⟩
 rw [(numL_bare l odd).1, (numL_bare l odd).2.1, (numL_bare l odd).2.2]
 refine SL.val (Val.assign rfl) rfl rfl ?_
 refine SL.nil (SE.seq ?_)
 refine SC.seq ?_
 refine SC.seq (SC.region ?_)
 refine SL.val (Val.move rfl) rfl rfl ?_
 refine SL.val (Val.nilCheck rfl) rfl rfl ?_
 refine SL.val (Val.fieldAddr tabOk rfl rfl rfl rfl rfl) rfl rfl ?_
 refine SL.val (Val.load1 tabOk rfl rfl (by repeat first|assumption|exact o0_|exact o1_|apply o2_) List.not_mem_nil (by rfl)) rfl rfl ?_
 refine SL.val (Val.move rfl) rfl rfl ?_
 refine SL.both (t := 40) rfl ?_ ?_
 ·intro hc40
  iterate 3 refine SL.skip rfl rfl ?_
  refine SL.val (Val.pickT rfl rfl) rfl rfl ?_
  refine SL.nil (SE.seq ?_)
  refine SC.condT rfl ?_
  refine SC.seq (SC.region ?_)
  refine SL.val (Val.move rfl) rfl rfl ?_
  refine SL.val (Val.buildS tabOk rfl rfl rfl rfl) rfl rfl ?_
  refine SL.eff (Eff.store tabOk rfl rfl rfl (by repeat first|assumption|exact Upd.here|apply Upd.there) (by rfl) (lb_ (by rfl)) (by rfl) (by rfl)) rfl rfl ?_
  rintro _ _ ⟨rfl, rfl⟩
  refine SL.nil (SE.seq ?_)
  refine SC.ret ?_
  refine SE.then_ nofun ?_
  refine SE.finC (rs := [.cell 4 95]) rfl (RV.cell rfl (RV.cellA tabOk rfl rfl (by repeat first|assumption|exact o0_|exact o1_|apply o2_) (by rfl)) RV.nil) (Casts.cons (cast_agg (Casts.keep (Casts.keep (Casts.nils (s := 3) Casts.refl)))) Casts.refl) (⟨(numL l, numO l odd, .mk (numV l) 0 []), PolR.org hc15 ha hb (fun h => by rw [hc40] at h; cases h.1) _ (.inl rfl)⟩) (by repeat first|exact s0 _|exact s1 _|apply s2|apply s3) (by simp [It.rids]) ?_
  first
   | exact congrArg Abs.agg (Frm.abs_mk _ _ _).symm
   | rfl
 intro hc40
 refine SL.val (Val.move rfl) rfl rfl ?_
 refine SL.call (take_s (p := p) (l := numL l) (odd := numO l odd) (wd := [111, 102])) Casts.refl (by kernel_rfl) rfl rfl rfl ?_
 refine After.one rfl (by repeat first|assumption|exact m0|apply m1) (fun _ => rfl) ?_
 intro _
 refine ⟨_, (by repeat first|assumption|exact Upd.here|apply Upd.there), ?_⟩
 refine SL.val (Val.notB rfl) rfl rfl ?_
 refine SL.val (Val.pickF rfl rfl) rfl rfl ?_
 refine SL.nil (SE.seq ?_)
 refine SC.cond rfl ?_ ?_
 ·intro hc44
  have hof : ¬ begins (bare (numL l)) [111, 102] = true := by simpa using hc44
  refine SC.seq (SC.region ?_)
  refine SL.val (Val.move rfl) rfl rfl ?_
  refine SL.val (Val.buildS tabOk rfl rfl rfl rfl) rfl rfl ?_
  refine SL.eff (Eff.store tabOk rfl rfl rfl (by repeat first|assumption|exact Upd.here|apply Upd.there) (by rfl) (lb_ (by rfl)) (by rfl) (by rfl)) rfl rfl ?_
  rintro _ _ ⟨rfl, rfl⟩
  refine SL.nil (SE.seq ?_)
  refine SC.ret ?_
  refine SE.then_ nofun ?_
  refine SE.finC (rs := [.cell 4 95]) rfl (RV.cell rfl (RV.cellA tabOk rfl rfl (by repeat first|assumption|exact o0_|exact o1_|apply o2_) (by rfl)) RV.nil) (Casts.cons (cast_agg (Casts.keep (Casts.keep (Casts.nils (s := 3) Casts.refl)))) Casts.refl) (⟨(takeT (numL l) [111, 102], numO l odd, .mk (numV l) 0 []), PolR.org hc15 ha hb (fun h => hof h.2) _ (.inr (takeT_no hof))⟩) (by repeat first|exact s0 _|exact s1 _|apply s2|apply s3) (by simp [It.rids]) ?_
  first
   | exact congrArg Abs.agg (Frm.abs_mk _ _ _).symm
   | rfl
 intro hc44
 have hof : begins (bare (numL l)) [111, 102] = true := by simpa using hc44
 refine SC.skip ?_
 refine SE.seq ?_
 refine SC.cutS (ι := Bool) (fun z => (.blk b4 95 (zabs [.int .i64 0, .int .i64 0, .slice none 0 0]) :: (.blk p 116 (psA (takeT (numL l) [111, 102]) z) :: globs es er))) (fun z => [(0, ptr p), (1, int d), (4, ptr b4), (6, int (numV l))]) (fun z => z = (numO l odd || decide (numV l < 1 ∨ 99 < numV l))) ?_ ?_
 ·skip
  refine SC.seq (SC.region ?_)
  refine SL.val (Val.move rfl) rfl rfl ?_
  refine SL.val (Val.ltI rfl rfl) rfl rfl ?_
  refine SL.val (Val.move rfl) rfl rfl ?_
  refine SL.bothP (t := 49) rfl ?_ ?_
  ·intro hc49
   iterate 2 refine SL.skip rfl rfl ?_
   refine SL.val (Val.pickT rfl rfl) rfl rfl ?_
   refine SL.nil (SE.seq ?_)
   refine SC.condT rfl ?_
   refine SC.region ?_
   refine SL.val (Val.move rfl) rfl rfl ?_
   refine SL.val (Val.nilCheck rfl) rfl rfl ?_
   refine SL.val (Val.fieldAddr tabOk rfl rfl rfl rfl rfl) rfl rfl ?_
   refine SL.eff (Eff.store (L' := psA (takeT (numL l) [111, 102]) true) tabOk rfl rfl rfl (by repeat first|assumption|exact Upd.here|apply Upd.there) rfl (lb_ (by rfl)) rfl (by rfl)) rfl rfl ?_
   rintro _ _ ⟨rfl, rfl⟩
   refine SL.nil ?_
   refine SE.meet (true) (by rw [decide_eq_true (show numV l < 1 ∨ 99 < numV l by omega), Bool.or_true]) (by exact ⟨rfl, rfl, rfl, rfl, trivial⟩) (by repeat first|exact s0 _|exact s1 _|apply s2|apply s3)
  intro hc49
  refine SL.val (Val.move rfl) rfl rfl ?_
  refine SL.val (Val.gtI rfl rfl) rfl rfl ?_
  refine SL.val (Val.pickF rfl rfl) rfl rfl ?_
  refine SL.nil (SE.seq ?_)
  refine SC.condP rfl ?_ ?_
  rotate_left
  ·intro hc52
   refine SC.skip ?_
   refine SE.meet (numO l odd) (by rw [decide_eq_false (show ¬ (numV l < 1 ∨ 99 < numV l) by omega), Bool.or_false]) (by exact ⟨rfl, rfl, rfl, rfl, trivial⟩) (by repeat first|exact s0 _|exact s1 _|apply s2|apply s3)
  intro hc52
  refine SC.region ?_
  refine SL.val (Val.move rfl) rfl rfl ?_
  refine SL.val (Val.nilCheck rfl) rfl rfl ?_
  refine SL.val (Val.fieldAddr tabOk rfl rfl rfl rfl rfl) rfl rfl ?_
  refine SL.eff (Eff.store (L' := psA (takeT (numL l) [111, 102]) true) tabOk rfl rfl rfl (by repeat first|assumption|exact Upd.here|apply Upd.there) rfl (lb_ (by rfl)) rfl (by rfl)) rfl rfl ?_
  rintro _ _ ⟨rfl, rfl⟩
  refine SL.nil ?_
  refine SE.meet (true) (by rw [decide_eq_true (show numV l < 1 ∨ 99 < numV l by omega), Bool.or_true]) (by exact ⟨rfl, rfl, rfl, rfl, trivial⟩) (by repeat first|exact s0 _|exact s1 _|apply s2|apply s3)
 ·intro z hz
  refine SC.seq (SC.region ?_)
  iterate 3 refine SL.val (Val.move rfl) rfl rfl ?_
  refine SL.call (row_s (p := p) (l := takeT (numL l) [111, 102]) (odd := z) he hr (by omega) hp (by omega)) Casts.refl (by kernel_rfl) rfl rfl rfl ?_
  refine After.oneR (ys := globs es er) rfl (by repeat first|assumption|exact m0|apply m1) (by intro y hy; simp only [globs, List.mem_cons, List.not_mem_nil, or_false] at hy; rcases hy with rfl | rfl | rfl <;> exact ⟨by repeat first|assumption|exact m0|apply m1, by intro h; cases h⟩) rfl (fun _ => rfl) ?_
  intro y
  refine ⟨_, (by repeat first|assumption|exact Upd.here|apply Upd.there), ?_⟩
  refine SL.val (Val.buildS tabOk rfl rfl rfl rfl) rfl rfl ?_
  refine SL.eff (Eff.store tabOk rfl rfl rfl (by repeat first|assumption|exact Upd.here|apply Upd.there) (by rfl) (lb_ (by rfl)) (by rfl) (by rfl)) rfl rfl ?_
  rintro _ _ ⟨rfl, rfl⟩
  refine SL.nil (SE.seq ?_)
  refine SC.ret ?_
  refine SE.fin (rs := [.cell 4 95]) rfl (RV.cell rfl (RV.cellA tabOk rfl rfl (by repeat first|assumption|exact o0_|exact o1_|apply o2_) (by rfl)) RV.nil) (⟨(y.1.1, y.1.2.1, .mk 0 (numV l) y.1.2.2), PolR.of hc15 ha hb hc40 hof hz y.2⟩) (by repeat first|exact s0 _|exact s1 _|apply s2|apply s3) (by simp [It.rids]) ?_
  first
   | exact congrArg Abs.agg (Frm.abs_mk _ _ _).symm
   | rfl
theorem pol_s (he : isIf es) (hr : isIf er) : ∀ k : Nat, k ≤ 10 → ∀ (l : Txt) (odd : Bool), l.length ≤ 1000 → Spec Tryz.prog 80 [ptr p, int (11 - (k : Int))] (.blk p 116 (psA (l) odd) :: globs es er) (fun z : {z : Txt × Bool × Frm // PolR k l odd z} => [.blk p 116 (psA z.1.1 z.1.2.1)]) (fun z => .agg z.1.2.2.abs)
  | 0, _, l, odd, hl => pol0_s (p := p) (es := es) (er := er) (odd := odd) hl
  | k + 1, hk, l, odd, hl => pol_step he hr (by omega) (by
      rw [show (11 - ((k + 1 : Nat) : Int)) + 1 = 11 - (k : Int) by omega]
      exact pol_s he hr k (by omega)) hl
end
end Go.Proofs.YtejcohlpjikjpaaGreatDoor.A
/-
  Policies' texts: the program's Parse.
-/
namespace Go.Proofs.YtejcohlpjikjpaaGreatDoor.A
open Go.RowKit

section
variable {l wd : Txt} {odd : Bool} {p : Nat} {es er : Value} {n : Int}
theorem pol1_s (he : isIf es) (hr : isIf er) (hl : l.length ≤ 1000) : Spec Tryz.prog 80 [ptr p, int 1] (.blk p 116 (psA (l) odd) :: globs es er) (fun z : {z : Txt × Bool × Frm // PolR 10 l odd z} => [.blk p 116 (psA z.1.1 z.1.2.1)]) (fun z => .agg z.1.2.2.abs) := pol_s he hr 10 (Nat.le_refl _) l odd hl
set_option maxHeartbeats 2000000 in
theorem parse_s (he : isIf es) (hr : isIf er) : Spec Tryz.prog 59 [stA l, int n] (globs es er) (fun _ : Unit => []) (fun _ => .tup [.agg (parseF l n).1.abs, int (parseF l n).2]) := by
 refine spec_of Tryz.func59 rfl Tryz.ntmps59 rfl fun G w => ?_
 refine SC.seq (SC.region ?_)
 refine SL.eff (Eff.alloc tabOk rfl) rfl rfl ?_
 rintro _ _ ⟨b4, rfl, rfl⟩
 refine SL.val (Val.assign rfl) rfl rfl ?_
 refine SL.nil (SE.seq ?_)
 refine SC.seq ?_
 refine SC.seq (SC.region ?_)
 refine SL.val (Val.move rfl) rfl rfl ?_
 refine SL.val (Val.to (C := int ((l.length : Nat) : Int)) (Val.lenSt rfl Tryz.underlying9) rfl) rfl rfl ?_
 refine SL.val (Val.gtI rfl rfl) rfl rfl ?_
 refine SL.nil (SE.seq ?_)
 refine SC.condP rfl ?_ ?_
 ·intro hc11
  have hl2 : 200 < l.length := by omega
  refine SC.seq (SC.region ?_)
  refine SL.val (Val.buildS tabOk rfl rfl rfl rfl) rfl rfl ?_
  refine SL.eff (Eff.store tabOk rfl rfl rfl (by repeat first|assumption|exact Upd.here|apply Upd.there) (by rfl) (lb_ (by rfl)) (by rfl) (by rfl)) rfl rfl ?_
  rintro _ _ ⟨rfl, rfl⟩
  refine SL.val (Val.assign rfl) rfl rfl ?_
  refine SL.nil (SE.seq ?_)
  refine SC.ret ?_
  refine SE.then_ nofun ?_
  refine SE.finC (rs := [.cell 4 95, .tmp 5]) rfl (RV.cell rfl (RV.cellA tabOk rfl rfl (by repeat first|assumption|exact o0_|exact o1_|apply o2_) (by rfl)) (RV.tmp rfl RV.nil)) (Casts.cons (cast_agg (Casts.keep (Casts.keep (Casts.nils (s := 3) Casts.refl)))) Casts.refl) (()) (by repeat first|exact s0 _|exact s1 _|apply s2|apply s3) (by simp [It.rids]) ?_
  rw [parse_long hl2]
  rw [Frm.abs_mk]
  rfl
 intro hc11
 have hl2 : ¬ 200 < l.length := by omega
 refine SC.skip ?_
 refine SE.seq ?_
 refine SC.seq (SC.region ?_)
 refine SL.val (Val.move rfl) rfl rfl ?_
 refine SL.val (Val.buildS tabOk rfl rfl rfl rfl) rfl rfl ?_
 refine SL.eff (Eff.boxA (cs := psA l false) rfl) rfl rfl ?_
 rintro _ _ ⟨b15, rfl, rfl⟩
 refine SL.val (Val.assign rfl) rfl rfl ?_
 refine SL.nil (SE.seq ?_)
 refine SC.seq (SC.region ?_)
 refine SL.val (Val.move rfl) rfl rfl ?_
 refine SL.call (pol1_s (p := b15) (l := l) (odd := false) he hr (by omega)) Casts.refl (by kernel_rfl) rfl rfl rfl ?_
 refine After.oneR (ys := globs es er) rfl (by repeat first|assumption|exact m0|apply m1) (by intro y hy; simp only [globs, List.mem_cons, List.not_mem_nil, or_false] at hy; rcases hy with rfl | rfl | rfl <;> exact ⟨by repeat first|assumption|exact m0|apply m1, by intro h; cases h⟩) rfl (fun _ => rfl) ?_
 intro y
 refine ⟨_, (by repeat first|assumption|exact Upd.here|apply Upd.there), ?_⟩
 refine SL.eff (Eff.alloc tabOk rfl) rfl rfl ?_
 rintro _ _ ⟨b7, rfl, rfl⟩
 refine SL.eff (Eff.store (L' := y.1.2.2.abs) tabOk rfl rfl rfl (by repeat first|assumption|exact Upd.here|apply Upd.there) (by exact Frm.abs_len _) (lb_ (by rfl)) (by exact Frm.abs_ones _) (putL_whole (by exact Frm.abs_len _))) rfl rfl ?_
 rintro _ _ ⟨rfl, rfl⟩
 refine SL.nil (SE.seq ?_)
 refine SC.seq ?_
 refine SC.seq (SC.region ?_)
 refine SL.val (Val.move rfl) rfl rfl ?_
 refine SL.call (blanks_s (p := b15) (l := y.1.1) (odd := y.1.2.1)) Casts.refl (by kernel_rfl) rfl rfl rfl ?_
 refine After.one rfl (by repeat first|assumption|exact m0|apply m1) (fun _ => rfl) ?_
 intro _
 refine ⟨_, (by repeat first|assumption|exact Upd.here|apply Upd.there), ?_⟩
 refine SL.nil (SE.seq ?_)
 refine SC.seq (SC.region ?_)
 refine SL.val (Val.move rfl) rfl rfl ?_
 refine SL.val (Val.nilCheck rfl) rfl rfl ?_
 refine SL.val (Val.fieldAddr tabOk rfl rfl rfl rfl rfl) rfl rfl ?_
 refine SL.val (Val.load1 tabOk rfl rfl (by repeat first|assumption|exact o0_|exact o1_|apply o2_) List.not_mem_nil (by rfl)) rfl rfl ?_
 refine SL.val (Val.move rfl) rfl rfl ?_
 refine SL.both (t := 24) rfl ?_ ?_
 ·intro hc24
  iterate 5 refine SL.skip rfl rfl ?_
  refine SL.val (Val.pickT rfl rfl) rfl rfl ?_
  refine SL.nil (SE.seq ?_)
  refine SC.condT rfl ?_
  refine SC.seq (SC.region ?_)
  refine SL.val (Val.buildS tabOk rfl rfl rfl rfl) rfl rfl ?_
  refine SL.eff (Eff.store tabOk rfl rfl rfl (by repeat first|assumption|exact Upd.here|apply Upd.there) (by rfl) (lb_ (by rfl)) (by rfl) (by rfl)) rfl rfl ?_
  rintro _ _ ⟨rfl, rfl⟩
  refine SL.val (Val.assign rfl) rfl rfl ?_
  refine SL.nil (SE.seq ?_)
  refine SC.ret ?_
  refine SE.then_ nofun ?_
  refine SE.finC (rs := [.cell 4 95, .tmp 5]) rfl (RV.cell rfl (RV.cellA tabOk rfl rfl (by repeat first|assumption|exact o0_|exact o1_|apply o2_) (by rfl)) (RV.tmp rfl RV.nil)) (Casts.cons (cast_agg (Casts.keep (Casts.keep (Casts.nils (s := 3) Casts.refl)))) Casts.refl) (()) (by repeat first|exact s0 _|exact s1 _|apply s2|apply s3) (by simp [It.rids]) ?_
  rw [parse_odd hl2 y.2 (.inl hc24)]
  rw [Frm.abs_mk]
  rfl
 intro hc24
 refine SL.val (Val.move rfl) rfl rfl ?_
 refine SL.val (Val.nilCheck rfl) rfl rfl ?_
 refine SL.val (Val.fieldAddr tabOk rfl rfl rfl rfl rfl) rfl rfl ?_
 refine SL.val (Val.load1 tabOk rfl rfl (by repeat first|assumption|exact o0_|exact o1_|apply o2_) List.not_mem_nil (by rfl)) rfl rfl ?_
 refine SL.val (Val.to (C := boo (decide (¬ bare y.1.1 = []))) (Val.neS rfl rfl) (congrArg (fun b => Abs.v (Value.bool b)) (decide_eq_decide.2 (not_congr st_eq)))) rfl rfl ?_
 refine SL.val (Val.pickF rfl rfl) rfl rfl ?_
 refine SL.nil (SE.seq ?_)
 refine SC.condP rfl ?_ ?_
 ·intro hc30
  refine SC.seq (SC.region ?_)
  refine SL.val (Val.buildS tabOk rfl rfl rfl rfl) rfl rfl ?_
  refine SL.eff (Eff.store tabOk rfl rfl rfl (by repeat first|assumption|exact Upd.here|apply Upd.there) (by rfl) (lb_ (by rfl)) (by rfl) (by rfl)) rfl rfl ?_
  rintro _ _ ⟨rfl, rfl⟩
  refine SL.val (Val.assign rfl) rfl rfl ?_
  refine SL.nil (SE.seq ?_)
  refine SC.ret ?_
  refine SE.then_ nofun ?_
  refine SE.finC (rs := [.cell 4 95, .tmp 5]) rfl (RV.cell rfl (RV.cellA tabOk rfl rfl (by repeat first|assumption|exact o0_|exact o1_|apply o2_) (by rfl)) (RV.tmp rfl RV.nil)) (Casts.cons (cast_agg (Casts.keep (Casts.keep (Casts.nils (s := 3) Casts.refl)))) Casts.refl) (()) (by repeat first|exact s0 _|exact s1 _|apply s2|apply s3) (by simp [It.rids]) ?_
  rw [parse_odd hl2 y.2 (.inr hc30)]
  rw [Frm.abs_mk]
  rfl
 intro hc30
 have hpe := parse_end (n := n) hl2 y.2 hc24 (Classical.byContradiction hc30)
 refine SC.skip ?_
 refine SE.seq ?_
 refine SC.seq ?_
 refine SC.seq (SC.region ?_)
 refine SL.val (Val.loadA tabOk rfl rfl rfl (by repeat first|assumption|exact o0_|exact o1_|apply o2_) List.not_mem_nil (Frm.abs_len _)) rfl rfl ?_
 refine SL.val (Val.move rfl) rfl rfl ?_
 refine SL.call (fcheck_s (f := y.1.2.2) (n := n) (by have := hpe.1; omega)) Casts.refl (by kernel_rfl) rfl rfl rfl ?_
 refine ap_ ?_
 intro _
 refine SL.val (Val.assign rfl) rfl rfl ?_
 refine SL.nil (SE.seq ?_)
 refine SC.seq (SC.region ?_)
 refine SL.val (Val.move rfl) rfl rfl ?_
 refine SL.val (Val.neI rfl rfl) rfl rfl ?_
 refine SL.nil (SE.seq ?_)
 refine SC.condP rfl ?_ ?_
 rotate_left
 ·intro hc36
  refine SC.skip ?_
  refine SE.seq ?_
  refine SC.seq (SC.region ?_)
  refine SL.val (Val.loadA tabOk rfl rfl rfl (by repeat first|assumption|exact o0_|exact o1_|apply o2_) List.not_mem_nil (Frm.abs_len _)) rfl rfl ?_
  refine SL.eff (Eff.store (L' := y.1.2.2.abs) tabOk rfl rfl rfl (by repeat first|assumption|exact Upd.here|apply Upd.there) (by exact Frm.abs_len _) (lb_ (by rfl)) (by exact Frm.abs_ones _) (putL_whole (by exact Frm.abs_len _))) rfl rfl ?_
  rintro _ _ ⟨rfl, rfl⟩
  refine SL.val (Val.assign rfl) rfl rfl ?_
  refine SL.nil (SE.seq ?_)
  refine SC.ret ?_
  refine SE.fin (rs := [.cell 4 95, .tmp 5]) rfl (RV.cell rfl (RV.cellA tabOk rfl rfl (by repeat first|assumption|exact o0_|exact o1_|apply o2_) (by exact Frm.abs_len _)) (RV.tmp rfl RV.nil)) (()) (by repeat first|exact s0 _|exact s1 _|apply s2|apply s3) (by simp [It.rids]) ?_
  rw [hpe.2, if_neg hc36]
  rfl
 intro hc36
 refine SC.seq (SC.region ?_)
 refine SL.val (Val.buildS tabOk rfl rfl rfl rfl) rfl rfl ?_
 refine SL.val (Val.move rfl) rfl rfl ?_
 refine SL.eff (Eff.store tabOk rfl rfl rfl (by repeat first|assumption|exact Upd.here|apply Upd.there) (by rfl) (lb_ (by rfl)) (by rfl) (by rfl)) rfl rfl ?_
 rintro _ _ ⟨rfl, rfl⟩
 refine SL.val (Val.assign rfl) rfl rfl ?_
 refine SL.nil (SE.seq ?_)
 refine SC.ret ?_
 refine SE.then_ nofun ?_
 refine SE.finC (rs := [.cell 4 95, .tmp 5]) rfl (RV.cell rfl (RV.cellA tabOk rfl rfl (by repeat first|assumption|exact o0_|exact o1_|apply o2_) (by rfl)) (RV.tmp rfl RV.nil)) (Casts.cons (cast_agg (Casts.keep (Casts.keep (Casts.nils (s := 3) Casts.refl)))) Casts.refl) (()) (by repeat first|exact s0 _|exact s1 _|apply s2|apply s3) (by simp [It.rids]) ?_
 rw [hpe.2, if_pos hc36]
 rw [Frm.abs_mk]
 rfl
end
end Go.Proofs.YtejcohlpjikjpaaGreatDoor.A
/-
  What an entry does: the letter, the policy, the step.
-/
namespace Go.Proofs.YtejcohlpjikjpaaGreatDoor.A
open Go.RowKit

/-- An entry that is done: the ledger, the entry, how many, the letter. -/
def dgA (l : Lg) (e : Ent) (n : Int) (x : Ltr) : List Abs := l.abs ++ entA e ++ [int n] ++ ltrA x
section
variable {l : Lg} {x : Ltr} {n : Int} {e : Ent} {d : Nat} {es er : Value}
set_option maxHeartbeats 1000000 in
theorem known_s (hf : l.Few) : Spec Tryz.prog 48 [ptr d] (.blk d 84 (dgA l e n x) :: (globs es er)) (fun _ : Unit => [.blk d 84 (dgA l e n (l.old e.core.letter))]) (fun _ => int (l.known e.core)) := by
 refine spec_of Tryz.func48 rfl Tryz.ntmps48 rfl fun G w => ?_
 refine SC.seq (SC.region ?_)
 refine SL.val (Val.assign rfl) rfl rfl ?_
 refine SL.nil (SE.seq ?_)
 refine SC.seq (SC.region ?_)
 refine SL.val (Val.assign rfl) rfl rfl ?_
 refine SL.nil (SE.seq ?_)
 refine SC.seq ?_
 refine SC.seq ?_
 refine SC.draw [d] (.q 0 (.q 1 (.q 2 (.q 3 (.q 5 (.q 6 (.q 7 (.q 8 (.q 9 (.two 4 10 (.e 10 (.e 11 (.q 12 (.q 13 (.q 14 (.q 15 (.q 16 (.e 17 (.q 18 .nil))))))))) (.e 4 (.e 11 (.q 12 (.q 13 (.q 14 (.q 15 (.q 16 (.e 17 (.q 18 .nil))))))))))))))))))) (by kernel_rfl) (by kernel_rfl) ?_
 refine SX.hx (by first|(simp[mids,It.mids,ownPc];done)|(intro k hk;simp[mids,It.mids,ownPc] at hk ⊢;grind)) fun hx9 => ?_
 refine SX.val rfl (Val.move rfl) hx9 rfl rfl ?_
 refine SX.val rfl (Val.move rfl) hx9 rfl rfl ?_
 refine SX.val rfl (Val.nilCheck rfl) hx9 rfl rfl ?_
 refine SX.val rfl (Val.fieldAddr tabOk rfl rfl rfl rfl rfl) hx9 rfl rfl ?_
 refine SX.val rfl (Val.move rfl) hx9 rfl rfl ?_
 refine SX.val rfl (Val.nilCheck rfl) hx9 rfl rfl ?_
 refine SX.val rfl (Val.fieldAddr tabOk rfl rfl rfl rfl rfl) hx9 rfl rfl ?_
 refine SX.val rfl (Val.fieldAddr tabOk rfl rfl rfl rfl rfl) hx9 rfl rfl ?_
 refine SX.val rfl (Val.fieldAddr tabOk rfl rfl rfl rfl rfl) hx9 rfl rfl ?_
 refine SX.two ?_ ?_
 ·skip
  refine SX.valE rfl (Val.to (C := .agg l.abs) (Val.loadP tabOk rfl rfl rfl (by repeat first|assumption|exact o0_|exact o1_|apply o2_) List.not_mem_nil (lb_ (by rfl))) rfl) rfl rfl ?_
  refine SX.valE rfl (Val.to (C := st e.core.letter) (Val.load1 tabOk rfl rfl (by repeat first|assumption|exact o0_|exact o1_|apply o2_) List.not_mem_nil (by rfl)) rfl) rfl rfl ?_
  refine SX.call rfl (lfind_s (s := e.core.letter) hf) (by simp [mids, It.mids]) Casts.refl (by kernel_rfl) rfl rfl rfl ?_
  refine ap_ ?_
  intro _
  refine SX.hx (by first|(simp[mids,It.mids,ownPc];done)|(intro k hk;simp[mids,It.mids,ownPc] at hk ⊢;grind)) fun hx9 => ?_
  refine SX.val rfl (Val.move rfl) hx9 rfl rfl ?_
  refine SX.val rfl (Val.extract rfl rfl) hx9 rfl rfl ?_
  refine SX.val rfl (Val.extract rfl rfl) hx9 rfl rfl ?_
  refine SX.val rfl (Val.nilCheck rfl) hx9 rfl rfl ?_
  refine SX.val rfl (Val.fieldAddr tabOk rfl rfl rfl rfl rfl) hx9 rfl rfl ?_
  refine SX.eff rfl (Eff.store (L' := dgA l e n (l.old e.core.letter)) tabOk rfl rfl rfl (by repeat first|assumption|exact Upd.here|apply Upd.there) rfl (lb_ (by rfl)) rfl (by rfl)) (by simp) rfl rfl ?_
  rintro _ _ ⟨rfl, rfl⟩
  refine SX.hx (by first|(simp[mids,It.mids,ownPc];done)|(intro k hk;simp[mids,It.mids,ownPc] at hk ⊢;grind)) fun hx9 => ?_
  refine SX.val rfl (Val.assign rfl) hx9 rfl rfl ?_
  refine SX.nil (SE.seq ?_)
  refine SC.seq (SC.region ?_)
  refine SL.val (Val.move rfl) rfl rfl ?_
  refine SL.val (Val.notB rfl) rfl rfl ?_
  refine SL.val (Val.move rfl) rfl rfl ?_
  refine SL.both (t := 23) rfl ?_ ?_
  rotate_left
  ·intro hc23
   iterate 7 refine SL.skip rfl rfl ?_
   refine SL.val (Val.pickF rfl rfl) rfl rfl ?_
   refine SL.nil (SE.seq ?_)
   refine SC.condF rfl ?_
   refine SC.skip ?_
   refine SE.seq ?_
   refine SC.seq (SC.region ?_)
   refine SL.val (Val.assign rfl) rfl rfl ?_
   refine SL.nil (SE.seq ?_)
   refine SC.ret ?_
   refine SE.fin (rs := [.tmp 2]) rfl (RV.tmp rfl RV.nil) (()) (by repeat first|exact s0 _|exact s1 _|apply s2|apply s3) (by simp [It.rids]) ?_
   refine congrArg int ?_
   unfold Lg.known
   split <;> simp_all
  intro hc23
  refine SL.val (Val.move rfl) rfl rfl ?_
  refine SL.val (Val.nilCheck rfl) rfl rfl ?_
  refine SL.val (Val.fieldAddr tabOk rfl rfl rfl rfl rfl) rfl rfl ?_
  refine SL.val (Val.fieldAddr tabOk rfl rfl rfl rfl rfl) rfl rfl ?_
  refine SL.val (Val.fieldAddr tabOk rfl rfl rfl rfl rfl) rfl rfl ?_
  refine SL.val (Val.to (C := int e.core.op) (Val.load1 tabOk rfl rfl (by repeat first|assumption|exact o0_|exact o1_|apply o2_) List.not_mem_nil (by rfl)) rfl) rfl rfl ?_
  refine SL.val (Val.neI rfl rfl) rfl rfl ?_
  refine SL.val (Val.pickT rfl rfl) rfl rfl ?_
  refine SL.nil (SE.seq ?_)
  refine SC.condP rfl ?_ ?_
  ·intro hc31
   refine SC.seq (SC.region ?_)
   refine SL.val (Val.assign rfl) rfl rfl ?_
   refine SL.nil (SE.seq ?_)
   refine SC.ret ?_
   refine SE.then_ nofun ?_
   refine SE.fin (rs := [.tmp 2]) rfl (RV.tmp rfl RV.nil) (()) (by repeat first|exact s0 _|exact s1 _|apply s2|apply s3) (by simp [It.rids]) ?_
   refine congrArg int ?_
   unfold Lg.known
   split <;> simp_all
  intro hc31
  refine SC.skip ?_
  refine SE.seq ?_
  refine SC.seq (SC.region ?_)
  refine SL.val (Val.assign rfl) rfl rfl ?_
  refine SL.nil (SE.seq ?_)
  refine SC.ret ?_
  refine SE.fin (rs := [.tmp 2]) rfl (RV.tmp rfl RV.nil) (()) (by repeat first|exact s0 _|exact s1 _|apply s2|apply s3) (by simp [It.rids]) ?_
  refine congrArg int ?_
  unfold Lg.known
  split <;> simp_all
 ·skip
  refine SX.valE rfl (Val.to (C := st e.core.letter) (Val.load1 tabOk rfl rfl (by repeat first|assumption|exact o0_|exact o1_|apply o2_) List.not_mem_nil (by rfl)) rfl) rfl rfl ?_
  refine SX.valE rfl (Val.to (C := .agg l.abs) (Val.loadP tabOk rfl rfl rfl (by repeat first|assumption|exact o0_|exact o1_|apply o2_) List.not_mem_nil (lb_ (by rfl))) rfl) rfl rfl ?_
  refine SX.call rfl (lfind_s (s := e.core.letter) hf) (by simp [mids, It.mids]) Casts.refl (by kernel_rfl) rfl rfl rfl ?_
  refine ap_ ?_
  intro _
  refine SX.hx (by first|(simp[mids,It.mids,ownPc];done)|(intro k hk;simp[mids,It.mids,ownPc] at hk ⊢;grind)) fun hx9 => ?_
  refine SX.val rfl (Val.move rfl) hx9 rfl rfl ?_
  refine SX.val rfl (Val.extract rfl rfl) hx9 rfl rfl ?_
  refine SX.val rfl (Val.extract rfl rfl) hx9 rfl rfl ?_
  refine SX.val rfl (Val.nilCheck rfl) hx9 rfl rfl ?_
  refine SX.val rfl (Val.fieldAddr tabOk rfl rfl rfl rfl rfl) hx9 rfl rfl ?_
  refine SX.eff rfl (Eff.store (L' := dgA l e n (l.old e.core.letter)) tabOk rfl rfl rfl (by repeat first|assumption|exact Upd.here|apply Upd.there) rfl (lb_ (by rfl)) rfl (by rfl)) (by simp) rfl rfl ?_
  rintro _ _ ⟨rfl, rfl⟩
  refine SX.hx (by first|(simp[mids,It.mids,ownPc];done)|(intro k hk;simp[mids,It.mids,ownPc] at hk ⊢;grind)) fun hx9 => ?_
  refine SX.val rfl (Val.assign rfl) hx9 rfl rfl ?_
  refine SX.nil (SE.seq ?_)
  refine SC.seq (SC.region ?_)
  refine SL.val (Val.move rfl) rfl rfl ?_
  refine SL.val (Val.notB rfl) rfl rfl ?_
  refine SL.val (Val.move rfl) rfl rfl ?_
  refine SL.both (t := 23) rfl ?_ ?_
  rotate_left
  ·intro hc23
   iterate 7 refine SL.skip rfl rfl ?_
   refine SL.val (Val.pickF rfl rfl) rfl rfl ?_
   refine SL.nil (SE.seq ?_)
   refine SC.condF rfl ?_
   refine SC.skip ?_
   refine SE.seq ?_
   refine SC.seq (SC.region ?_)
   refine SL.val (Val.assign rfl) rfl rfl ?_
   refine SL.nil (SE.seq ?_)
   refine SC.ret ?_
   refine SE.fin (rs := [.tmp 2]) rfl (RV.tmp rfl RV.nil) (()) (by repeat first|exact s0 _|exact s1 _|apply s2|apply s3) (by simp [It.rids]) ?_
   refine congrArg int ?_
   unfold Lg.known
   split <;> simp_all
  intro hc23
  refine SL.val (Val.move rfl) rfl rfl ?_
  refine SL.val (Val.nilCheck rfl) rfl rfl ?_
  refine SL.val (Val.fieldAddr tabOk rfl rfl rfl rfl rfl) rfl rfl ?_
  refine SL.val (Val.fieldAddr tabOk rfl rfl rfl rfl rfl) rfl rfl ?_
  refine SL.val (Val.fieldAddr tabOk rfl rfl rfl rfl rfl) rfl rfl ?_
  refine SL.val (Val.to (C := int e.core.op) (Val.load1 tabOk rfl rfl (by repeat first|assumption|exact o0_|exact o1_|apply o2_) List.not_mem_nil (by rfl)) rfl) rfl rfl ?_
  refine SL.val (Val.neI rfl rfl) rfl rfl ?_
  refine SL.val (Val.pickT rfl rfl) rfl rfl ?_
  refine SL.nil (SE.seq ?_)
  refine SC.condP rfl ?_ ?_
  ·intro hc31
   refine SC.seq (SC.region ?_)
   refine SL.val (Val.assign rfl) rfl rfl ?_
   refine SL.nil (SE.seq ?_)
   refine SC.ret ?_
   refine SE.then_ nofun ?_
   refine SE.fin (rs := [.tmp 2]) rfl (RV.tmp rfl RV.nil) (()) (by repeat first|exact s0 _|exact s1 _|apply s2|apply s3) (by simp [It.rids]) ?_
   refine congrArg int ?_
   unfold Lg.known
   split <;> simp_all
  intro hc31
  refine SC.skip ?_
  refine SE.seq ?_
  refine SC.seq (SC.region ?_)
  refine SL.val (Val.assign rfl) rfl rfl ?_
  refine SL.nil (SE.seq ?_)
  refine SC.ret ?_
  refine SE.fin (rs := [.tmp 2]) rfl (RV.tmp rfl RV.nil) (()) (by repeat first|exact s0 _|exact s1 _|apply s2|apply s3) (by simp [It.rids]) ?_
  refine congrArg int ?_
  unfold Lg.known
  split <;> simp_all
set_option maxHeartbeats 1000000 in
theorem endorsed_s (he : isIf es) (hr : isIf er) (hm : e.mask < 4294967296) : Spec Tryz.prog 49 [ptr d] (.blk d 84 (dgA l e n x) :: (globs es er)) (fun _ : Unit => [.blk d 84 (dgA l e n x)]) (fun _ => int (endorsedF x e n)) := by
 refine spec_of Tryz.func49 rfl Tryz.ntmps49 rfl fun G w => ?_
 refine SC.seq (SC.region ?_)
 refine SL.val (Val.assign rfl) rfl rfl ?_
 refine SL.nil (SE.seq ?_)
 refine SC.seq (SC.region ?_)
 refine SL.val (Val.move rfl) rfl rfl ?_
 refine SL.val (Val.nilCheck rfl) rfl rfl ?_
 refine SL.val (Val.fieldAddr tabOk rfl rfl rfl rfl rfl) rfl rfl ?_
 refine SL.val (Val.fieldAddr tabOk rfl rfl rfl rfl rfl) rfl rfl ?_
 refine SL.val (Val.to (C := st x.policy) (Val.load1 tabOk rfl rfl (by repeat first|assumption|exact o0_|exact o1_|apply o2_) List.not_mem_nil (by rfl)) rfl) rfl rfl ?_
 refine SL.val (Val.assign rfl) rfl rfl ?_
 refine SL.nil (SE.seq ?_)
 refine SC.cutS (ι := Unit) (fun z => (.blk d 84 (dgA l e n x) :: (globs es er))) (fun z => [(0, ptr d), (3, st (polB x e.core))]) (fun z => True) ?_ ?_
 ·skip
  refine SC.seq (SC.region ?_)
  refine SL.val (Val.move rfl) rfl rfl ?_
  refine SL.val (Val.nilCheck rfl) rfl rfl ?_
  refine SL.val (Val.fieldAddr tabOk rfl rfl rfl rfl rfl) rfl rfl ?_
  refine SL.val (Val.fieldAddr tabOk rfl rfl rfl rfl rfl) rfl rfl ?_
  refine SL.val (Val.fieldAddr tabOk rfl rfl rfl rfl rfl) rfl rfl ?_
  refine SL.val (Val.to (C := int e.core.op) (Val.load1 tabOk rfl rfl (by repeat first|assumption|exact o0_|exact o1_|apply o2_) List.not_mem_nil (by rfl)) rfl) rfl rfl ?_
  refine SL.val (Val.eqI rfl rfl) rfl rfl ?_
  refine SL.nil (SE.seq ?_)
  refine SC.condP rfl ?_ ?_
  rotate_left
  ·intro hc17
   refine SC.skip ?_
   refine SE.meet (()) (trivial) (by exact ⟨rfl, congrArg (fun s => some (st s)) (show x.policy = (polB x e.core) from (if_neg hc17).symm), trivial⟩) (by repeat first|exact s0 _|exact s1 _|apply s2|apply s3)
  intro hc17
  refine SC.region ?_
  refine SL.val (Val.move rfl) rfl rfl ?_
  refine SL.val (Val.nilCheck rfl) rfl rfl ?_
  refine SL.val (Val.fieldAddr tabOk rfl rfl rfl rfl rfl) rfl rfl ?_
  refine SL.val (Val.fieldAddr tabOk rfl rfl rfl rfl rfl) rfl rfl ?_
  refine SL.val (Val.fieldAddr tabOk rfl rfl rfl rfl rfl) rfl rfl ?_
  refine SL.val (Val.to (C := st e.core.text) (Val.load1 tabOk rfl rfl (by repeat first|assumption|exact o0_|exact o1_|apply o2_) List.not_mem_nil (by rfl)) rfl) rfl rfl ?_
  refine SL.val (Val.assign rfl) rfl rfl ?_
  refine SL.nil ?_
  refine SE.meet (()) (trivial) (by exact ⟨rfl, congrArg (fun s => some (st s)) (show e.core.text = (polB x e.core) from (if_pos hc17).symm), trivial⟩) (by repeat first|exact s0 _|exact s1 _|apply s2|apply s3)
 ·intro z hz
  refine SC.seq (SC.region ?_)
  iterate 2 refine SL.val (Val.move rfl) rfl rfl ?_
  refine SL.val (Val.nilCheck rfl) rfl rfl ?_
  refine SL.val (Val.fieldAddr tabOk rfl rfl rfl rfl rfl) rfl rfl ?_
  refine SL.val (Val.to (C := int n) (Val.load1 tabOk rfl rfl (by repeat first|assumption|exact o0_|exact o1_|apply o2_) List.not_mem_nil (by rfl)) rfl) rfl rfl ?_
  refine SL.call (parse_s (l := tx (polB x e.core)) (n := n) he hr) (Casts.of_eq (by rw [st_tx])) (by kernel_rfl) rfl rfl rfl ?_
  refine ap_ ?_
  intro _
  refine SL.val (Val.move rfl) rfl rfl ?_
  refine SL.val (Val.extract rfl rfl) rfl rfl ?_
  refine SL.val (Val.extract rfl rfl) rfl rfl ?_
  refine SL.eff (Eff.alloc tabOk rfl) rfl rfl ?_
  rintro _ _ ⟨b4, rfl, rfl⟩
  refine SL.eff (Eff.store (L' := (parseF (tx (polB x e.core)) n).1.abs) tabOk rfl rfl rfl (by repeat first|assumption|exact Upd.here|apply Upd.there) (by exact Frm.abs_len _) (lb_ (by rfl)) (by exact Frm.abs_ones _) (putL_whole (by exact Frm.abs_len _))) rfl rfl ?_
  rintro _ _ ⟨rfl, rfl⟩
  refine SL.val (Val.assign rfl) rfl rfl ?_
  refine SL.nil (SE.seq ?_)
  refine SC.seq ?_
  refine SC.block ?_
  refine SC.seq (SC.region ?_)
  refine SL.val (Val.move rfl) rfl rfl ?_
  refine SL.val (Val.neI rfl rfl) rfl rfl ?_
  refine SL.val (Val.assign rfl) rfl rfl ?_
  refine SL.nil (SE.seq ?_)
  refine SC.condP rfl ?_ ?_
  ·intro hc33
   refine SC.seq (SC.region ?_)
   refine SL.val (Val.assign rfl) rfl rfl ?_
   refine SL.nil (SE.seq ?_)
   refine SC.ret ?_
   refine SE.ret ?_
   refine SE.then_ nofun ?_
   refine SE.fin (rs := [.tmp 2]) rfl (RV.tmp rfl RV.nil) (()) (by repeat first|exact s0 _|exact s1 _|apply s2|apply s3) (by simp [It.rids]) ?_
   first
    | (refine congrArg int ?_; unfold endorsedF; rw [if_pos hc33])
    | (refine congrArg int ?_; unfold endorsedF; rw [if_neg hc33, if_pos (by rw [hck] at hc36; simpa using hc36)])
    | (refine congrArg int ?_; unfold endorsedF; rw [if_neg hc33, if_neg (by rw [hck] at hc36; simpa using hc36)])
  intro hc33
  have hpz : (parseF (tx (polB x e.core)) n).2 = 0 := Classical.byContradiction hc33
  have hck := parseF_ok hpz
  refine SC.seq ?_
  refine SC.draw [] (.q 0 (.q 1 (.q 2 (.q 3 (.q 4 (.q 5 (.q 6 (.q 7 (.q 8 (.q 9 (.e 10 (.q 11 (.q 12 .nil))))))))))))) (by kernel_rfl) (by kernel_rfl) ?_
  refine SX.hx (by first|(simp[mids,It.mids,ownPc];done)|(intro k hk;simp[mids,It.mids,ownPc] at hk ⊢;grind)) fun hx9 => ?_
  refine SX.val rfl (Val.loadA tabOk rfl rfl rfl (by repeat first|assumption|exact o0_|exact o1_|apply o2_) List.not_mem_nil (Frm.abs_len _)) hx9 rfl rfl ?_
  refine SX.val rfl (Val.move rfl) (by simp) rfl rfl ?_
  refine SX.val rfl (Val.nilCheck rfl) (by simp) rfl rfl ?_
  refine SX.val rfl (Val.fieldAddr tabOk rfl rfl rfl rfl rfl) (by simp) rfl rfl ?_
  refine SX.val rfl (Val.fieldAddr tabOk rfl rfl rfl rfl rfl) (by simp) rfl rfl ?_
  refine SX.val rfl (Val.to (C := .v (.int .u32 (e.mask : Nat))) (Val.load1 tabOk rfl rfl (by repeat first|assumption|exact o0_|exact o1_|apply o2_) List.not_mem_nil (by rfl)) rfl) hx9 rfl rfl ?_
  refine SX.val rfl (Val.move rfl) (by simp) rfl rfl ?_
  refine SX.val rfl (Val.nilCheck rfl) (by simp) rfl rfl ?_
  refine SX.val rfl (Val.fieldAddr tabOk rfl rfl rfl rfl rfl) (by simp) rfl rfl ?_
  refine SX.val rfl (Val.to (C := int n) (Val.load1 tabOk rfl rfl (by repeat first|assumption|exact o0_|exact o1_|apply o2_) List.not_mem_nil (by rfl)) rfl) hx9 rfl rfl ?_
  refine SX.call rfl (enough_s (f := (parseF (tx (polB x e.core)) n).1) (s := BitVec.ofNat 32 e.mask) (n := n) (by have h9 := (Frm.check_ok.1 hck).2.1; omega)) (by simp [mids, It.mids]) (Casts.of_eq (by rw [mask_u32 hm])) (by kernel_rfl) rfl rfl rfl ?_
  refine ap_ ?_
  intro _
  refine SX.val rfl (Val.notB rfl) (by simp) rfl rfl ?_
  refine SX.val rfl (Val.assign rfl) (by simp) rfl rfl ?_
  refine SX.nil (SE.seq ?_)
  refine SC.cond rfl ?_ ?_
  ·intro hc36
   refine SC.seq (SC.region ?_)
   refine SL.val (Val.assign rfl) rfl rfl ?_
   refine SL.nil (SE.seq ?_)
   refine SC.ret ?_
   refine SE.ret ?_
   refine SE.then_ nofun ?_
   refine SE.fin (rs := [.tmp 2]) rfl (RV.tmp rfl RV.nil) (()) (by repeat first|exact s0 _|exact s1 _|apply s2|apply s3) (by simp [It.rids]) ?_
   first
    | (refine congrArg int ?_; unfold endorsedF; rw [if_pos hc33])
    | (refine congrArg int ?_; unfold endorsedF; rw [if_neg hc33, if_pos (by rw [hck] at hc36; simpa using hc36)])
    | (refine congrArg int ?_; unfold endorsedF; rw [if_neg hc33, if_neg (by rw [hck] at hc36; simpa using hc36)])
  intro hc36
  refine SC.skip ?_
  refine SE.inBlock ?_
  refine SE.seq ?_
  refine SC.seq (SC.region ?_)
  refine SL.val (Val.assign rfl) rfl rfl ?_
  refine SL.nil (SE.seq ?_)
  refine SC.ret ?_
  refine SE.fin (rs := [.tmp 2]) rfl (RV.tmp rfl RV.nil) (()) (by repeat first|exact s0 _|exact s1 _|apply s2|apply s3) (by simp [It.rids]) ?_
  first
   | (refine congrArg int ?_; unfold endorsedF; rw [if_pos hc33])
   | (refine congrArg int ?_; unfold endorsedF; rw [if_neg hc33, if_pos (by rw [hck] at hc36; simpa using hc36)])
   | (refine congrArg int ?_; unfold endorsedF; rw [if_neg hc33, if_neg (by rw [hck] at hc36; simpa using hc36)])
set_option maxHeartbeats 1000000 in
theorem stepped_s (hf : l.Few) (hl : l.Wf) (hx : x.Wf) (ha : i64ok e.core.a) (ht : e.core.text.size ≤ 9223372036854775807) : Spec Tryz.prog 50 [ptr d] (.blk d 84 (dgA l e n x) :: (globs es er)) (fun _ : Unit => [.blk d 84 (dgA (l.stepped x e.core).1 e n x)]) (fun _ => int (l.stepped x e.core).2) := by
 have hsw := step_wf (op := e.core.op) (a := e.core.a) (b := e.core.b) (t := e.core.text) hx
 refine spec_of Tryz.func50 rfl Tryz.ntmps50 rfl fun G w => ?_
 refine SC.seq (SC.region ?_)
 refine SL.val (Val.assign rfl) rfl rfl ?_
 refine SL.nil (SE.seq ?_)
 refine SC.seq (SC.region ?_)
 refine SL.val (Val.move rfl) rfl rfl ?_
 refine SL.val (Val.nilCheck rfl) rfl rfl ?_
 refine SL.val (Val.fieldAddr tabOk rfl rfl rfl rfl rfl) rfl rfl ?_
 refine SL.val (Val.fieldAddr tabOk rfl rfl rfl rfl rfl) rfl rfl ?_
 refine SL.val (Val.to (C := coreA e.core) (Val.loadP tabOk rfl rfl rfl (by repeat first|assumption|exact o0_|exact o1_|apply o2_) List.not_mem_nil (lb_ (by rfl))) rfl) rfl rfl ?_
 refine SL.eff (Eff.alloc tabOk rfl) rfl rfl ?_
 rintro _ _ ⟨b3, rfl, rfl⟩
 refine SL.eff (Eff.store (L' := e.core.cells.map .v) tabOk rfl rfl rfl (by repeat first|assumption|exact Upd.here|apply Upd.there) rfl (lb_ (by rfl)) rfl (by exact putL_whole rfl)) rfl rfl ?_
 rintro _ _ ⟨rfl, rfl⟩
 refine SL.nil (SE.seq ?_)
 refine SC.seq ?_
 refine SC.draw [] (.q 0 (.q 1 (.q 2 (.q 3 (.q 4 (.q 5 (.q 6 (.q 7 (.q 8 (.q 9 (.q 10 (.q 11 (.two 12 16 (.q 13 (.q 14 (.q 15 (.e 16 (.e 17 (.q 18 .nil)))))) (.e 12 (.q 13 (.q 14 (.q 15 (.e 17 (.q 18 .nil))))))))))))))))))) (by kernel_rfl) (by kernel_rfl) ?_
 refine SX.val rfl (Val.move rfl) (by simp) rfl rfl ?_
 refine SX.val rfl (Val.nilCheck rfl) (by simp) rfl rfl ?_
 refine SX.val rfl (Val.fieldAddr tabOk rfl rfl rfl rfl rfl) (by simp) rfl rfl ?_
 refine SX.hx (by first|(simp[mids,It.mids,ownPc];done)|(intro k hk;simp[mids,It.mids,ownPc] at hk ⊢;grind)) fun hx9 => ?_
 refine SX.val rfl (Val.to (C := .agg (ltrA x)) (Val.loadP tabOk rfl rfl rfl (by repeat first|assumption|exact o0_|exact o1_|apply o2_) List.not_mem_nil (lb_ (by rfl))) rfl) hx9 rfl rfl ?_
 refine SX.val rfl (Val.fieldAddr tabOk rfl rfl rfl rfl rfl) (by simp) rfl rfl ?_
 refine SX.val rfl (Val.to (C := int e.core.op) (Val.load1 tabOk rfl rfl (by repeat first|assumption|exact o0_|exact o1_|apply o2_) List.not_mem_nil (by rfl)) rfl) hx9 rfl rfl ?_
 refine SX.val rfl (Val.fieldAddr tabOk rfl rfl rfl rfl rfl) (by simp) rfl rfl ?_
 refine SX.val rfl (Val.to (C := int e.core.a) (Val.load1 tabOk rfl rfl (by repeat first|assumption|exact o0_|exact o1_|apply o2_) List.not_mem_nil (by rfl)) rfl) hx9 rfl rfl ?_
 refine SX.val rfl (Val.fieldAddr tabOk rfl rfl rfl rfl rfl) (by simp) rfl rfl ?_
 refine SX.val rfl (Val.to (C := int e.core.b) (Val.load1 tabOk rfl rfl (by repeat first|assumption|exact o0_|exact o1_|apply o2_) List.not_mem_nil (by rfl)) rfl) hx9 rfl rfl ?_
 refine SX.val rfl (Val.fieldAddr tabOk rfl rfl rfl rfl rfl) (by simp) rfl rfl ?_
 refine SX.val rfl (Val.to (C := st e.core.text) (Val.load1 tabOk rfl rfl (by repeat first|assumption|exact o0_|exact o1_|apply o2_) List.not_mem_nil (by rfl)) rfl) hx9 rfl rfl ?_
 refine SX.two ?_ ?_
 ·skip
  refine SX.call rfl (step_s (x := x) (op := e.core.op) (a := e.core.a) (b := e.core.b) (t := e.core.text) hx ha ht) (by simp [mids, It.mids]) Casts.refl (by kernel_rfl) rfl rfl rfl ?_
  refine ap_ ?_
  intro _
  refine SX.val rfl (Val.move rfl) (by simp) rfl rfl ?_
  refine SX.val rfl (Val.extract rfl rfl) (by simp) rfl rfl ?_
  refine SX.val rfl (Val.extract rfl rfl) (by simp) rfl rfl ?_
  refine SX.alloc tabOk rfl rfl rfl rfl fun b4 => ?_
  refine SX.eff rfl (Eff.store (L' := ltrA (x.step e.core.op e.core.a e.core.b e.core.text).1) tabOk rfl rfl rfl (by repeat first|assumption|exact Upd.here|apply Upd.there) rfl (lb_ (by rfl)) rfl (by exact putL_whole rfl)) (by simp) rfl rfl ?_
  rintro _ _ ⟨rfl, rfl⟩
  refine SX.hx (by first|(simp[mids,It.mids,ownPc];done)|(intro k hk;simp[mids,It.mids,ownPc] at hk ⊢;grind)) fun hx9 => ?_
  refine SX.val rfl (Val.assign rfl) hx9 rfl rfl ?_
  refine SX.nil (SE.seq ?_)
  refine SC.seq ?_
  refine SC.seq (SC.region ?_)
  refine SL.val (Val.move rfl) rfl rfl ?_
  refine SL.val (Val.neI rfl rfl) rfl rfl ?_
  refine SL.nil (SE.seq ?_)
  refine SC.condP rfl ?_ ?_
  ·intro hc29
   refine SC.seq (SC.region ?_)
   refine SL.val (Val.move rfl) rfl rfl ?_
   refine SL.val (Val.assign rfl) rfl rfl ?_
   refine SL.nil (SE.seq ?_)
   refine SC.ret ?_
   refine SE.then_ nofun ?_
   first
    | have hst := stepped_a (l := l) hc29
   refine SE.fin (rs := [.tmp 2]) rfl (RV.tmp rfl RV.nil) (()) (by rw [hst]; repeat (first | exact List.nil_sublist _ | exact List.Sublist.refl _ | apply List.Sublist.cons_cons | apply List.Sublist.cons)) (by simp [It.rids]) ?_
   rw [hst]; rfl
  intro hc29
  refine SC.skip ?_
  refine SE.seq ?_
  refine SC.seq (SC.region ?_)
  refine SL.val (Val.fieldAddr tabOk rfl rfl rfl rfl rfl) rfl rfl ?_
  refine SL.val (Val.to (C := st e.core.letter) (Val.load1 tabOk rfl rfl (by repeat first|assumption|exact o0_|exact o1_|apply o2_) List.not_mem_nil (by rfl)) rfl) rfl rfl ?_
  refine SL.val (Val.fieldAddr tabOk rfl rfl rfl rfl rfl) rfl rfl ?_
  refine SL.eff (Eff.store (L' := ltrA (nextL x e.core)) tabOk rfl rfl rfl (by repeat first|assumption|exact Upd.here|apply Upd.there) rfl (lb_ (by rfl)) rfl (by rfl)) rfl rfl ?_
  rintro _ _ ⟨rfl, rfl⟩
  refine SL.nil (SE.seq ?_)
  refine SC.seq ?_
  refine SC.draw [] (.q 0 (.q 1 (.q 2 (.q 3 (.q 4 (.two 5 9 (.q 6 (.q 7 (.q 8 (.e 9 (.e 10 (.q 11 .nil)))))) (.e 5 (.q 6 (.q 7 (.q 8 (.e 10 (.q 11 .nil)))))))))))) (by kernel_rfl) (by kernel_rfl) ?_
  refine SX.val rfl (Val.move rfl) (by simp) rfl rfl ?_
  refine SX.val rfl (Val.nilCheck rfl) (by simp) rfl rfl ?_
  refine SX.val rfl (Val.fieldAddr tabOk rfl rfl rfl rfl rfl) (by simp) rfl rfl ?_
  refine SX.hx (by first|(simp[mids,It.mids,ownPc];done)|(intro k hk;simp[mids,It.mids,ownPc] at hk ⊢;grind)) fun hx9 => ?_
  refine SX.val rfl (Val.to (C := .agg l.abs) (Val.loadP tabOk rfl rfl rfl (by repeat first|assumption|exact o0_|exact o1_|apply o2_) List.not_mem_nil (lb_ (by rfl))) rfl) hx9 rfl rfl ?_
  refine SX.val rfl (Val.to (C := .agg (ltrA (nextL x e.core))) (Val.loadP tabOk rfl rfl rfl (by repeat first|assumption|exact o0_|exact o1_|apply o2_) List.not_mem_nil (lb_ (by rfl))) rfl) hx9 rfl rfl ?_
  refine SX.two ?_ ?_
  ·skip
   refine SX.call rfl (lwith_s (x := (nextL x e.core)) hf) (by simp [mids, It.mids]) Casts.refl (by kernel_rfl) rfl rfl rfl ?_
   refine ap_ ?_
   intro _
   refine SX.val rfl (Val.move rfl) (by simp) rfl rfl ?_
   refine SX.val rfl (Val.extract rfl rfl) (by simp) rfl rfl ?_
   refine SX.val rfl (Val.extract rfl rfl) (by simp) rfl rfl ?_
   refine SX.alloc tabOk rfl rfl rfl rfl fun b6 => ?_
   refine SX.eff rfl (Eff.store (L' := (l.with_ (nextL x e.core)).1.abs) tabOk rfl rfl rfl (by repeat first|assumption|exact Upd.here|apply Upd.there) rfl (lb_ (by rfl)) rfl (by exact putL_whole rfl)) (by simp) rfl rfl ?_
   rintro _ _ ⟨rfl, rfl⟩
   refine SX.hx (by first|(simp[mids,It.mids,ownPc];done)|(intro k hk;simp[mids,It.mids,ownPc] at hk ⊢;grind)) fun hx9 => ?_
   refine SX.val rfl (Val.assign rfl) hx9 rfl rfl ?_
   refine SX.nil (SE.seq ?_)
   refine SC.seq ?_
   refine SC.seq (SC.region ?_)
   refine SL.val (Val.move rfl) rfl rfl ?_
   refine SL.val (Val.neI rfl rfl) rfl rfl ?_
   refine SL.nil (SE.seq ?_)
   refine SC.condP rfl ?_ ?_
   ·intro hc44
    refine SC.seq (SC.region ?_)
    refine SL.val (Val.move rfl) rfl rfl ?_
    refine SL.val (Val.assign rfl) rfl rfl ?_
    refine SL.nil (SE.seq ?_)
    refine SC.ret ?_
    refine SE.then_ nofun ?_
    first
     | have hst := stepped_b (l := l) hc29 hc44
    refine SE.fin (rs := [.tmp 2]) rfl (RV.tmp rfl RV.nil) (()) (by rw [hst]; repeat (first | exact List.nil_sublist _ | exact List.Sublist.refl _ | apply List.Sublist.cons_cons | apply List.Sublist.cons)) (by simp [It.rids]) ?_
    rw [hst]; rfl
   intro hc44
   refine SC.skip ?_
   refine SE.seq ?_
   refine SC.seq ?_
   refine SC.seq (SC.region ?_)
   refine SL.val (Val.fieldAddr tabOk rfl rfl rfl rfl rfl) rfl rfl ?_
   refine SL.val (Val.to (C := int e.core.op) (Val.load1 tabOk rfl rfl (by repeat first|assumption|exact o0_|exact o1_|apply o2_) List.not_mem_nil (by rfl)) rfl) rfl rfl ?_
   refine SL.val (Val.eqI rfl rfl) rfl rfl ?_
   refine SL.nil (SE.seq ?_)
   refine SC.condP rfl ?_ ?_
   rotate_left
   ·intro hc48
    refine SC.skip ?_
    refine SE.seq ?_
    refine SC.seq (SC.region ?_)
    refine SL.val (Val.move rfl) rfl rfl ?_
    refine SL.val (Val.to (C := .agg (Lg.abs (l.with_ (nextL x e.core)).1)) (Val.loadP tabOk rfl rfl rfl (by repeat first|assumption|exact o0_|exact o1_|apply o2_) List.not_mem_nil (lb_ (by rfl))) rfl) rfl rfl ?_
    refine SL.val (Val.nilCheck rfl) rfl rfl ?_
    refine SL.val (Val.fieldAddr tabOk rfl rfl rfl rfl rfl) rfl rfl ?_
    refine SL.eff (Eff.store (L' := dgA (l.with_ (nextL x e.core)).1 e n x) tabOk rfl rfl rfl (by repeat first|assumption|exact Upd.here|apply Upd.there) rfl (lb_ (by rfl)) rfl (by rfl)) rfl rfl ?_
    rintro _ _ ⟨rfl, rfl⟩
    refine SL.nil (SE.seq ?_)
    refine SC.seq (SC.region ?_)
    refine SL.val (Val.assign rfl) rfl rfl ?_
    refine SL.nil (SE.seq ?_)
    refine SC.ret ?_
    first
     | have hst := stepped_e (l := l) hc29 hc44 hc48 hc59
     | have hst := stepped_c (l := l) hc29 hc44 hc48
    refine SE.fin (rs := [.tmp 2]) rfl (RV.tmp rfl RV.nil) (()) (by rw [hst]; repeat (first | exact List.nil_sublist _ | exact List.Sublist.refl _ | apply List.Sublist.cons_cons | apply List.Sublist.cons)) (by simp [It.rids]) ?_
    rw [hst]; rfl
   intro hc48
   refine SC.seq (SC.region ?_)
   refine SL.val (Val.fieldAddr tabOk rfl rfl rfl rfl rfl) rfl rfl ?_
   refine SL.val (Val.to (C := int l.total) (Val.load1 tabOk rfl rfl (by repeat first|assumption|exact o0_|exact o1_|apply o2_) List.not_mem_nil (by rfl)) (congrArg int (with_total hc44))) rfl rfl ?_
   refine SL.val (Val.fieldAddr tabOk rfl rfl rfl rfl rfl) rfl rfl ?_
   refine SL.val (Val.to (C := int (nextL x e.core).amount) (Val.load1 tabOk rfl rfl (by repeat first|assumption|exact o0_|exact o1_|apply o2_) List.not_mem_nil (by rfl)) rfl) rfl rfl ?_
   refine SL.call (madd_s (a := l.total) (b := (nextL x e.core).amount) hl.total hsw.amount) Casts.refl (by kernel_rfl) rfl rfl rfl ?_
   refine ap_ ?_
   intro _
   refine SL.val (Val.move rfl) rfl rfl ?_
   refine SL.val (Val.extract rfl rfl) rfl rfl ?_
   refine SL.val (Val.extract rfl rfl) rfl rfl ?_
   refine SL.val (Val.fieldAddr tabOk rfl rfl rfl rfl rfl) rfl rfl ?_
   refine SL.eff (Eff.store (L' := Lg.abs { (l.with_ (nextL x e.core)).1 with total := (amtAdd l.total (nextL x e.core).amount).1 }) tabOk rfl rfl rfl (by repeat first|assumption|exact Upd.here|apply Upd.there) rfl (lb_ (by rfl)) rfl (by rfl)) rfl rfl ?_
   rintro _ _ ⟨rfl, rfl⟩
   refine SL.val (Val.assign rfl) rfl rfl ?_
   refine SL.nil (SE.seq ?_)
   refine SC.seq (SC.region ?_)
   refine SL.val (Val.move rfl) rfl rfl ?_
   refine SL.val (Val.neI rfl rfl) rfl rfl ?_
   refine SL.nil (SE.seq ?_)
   refine SC.condP rfl ?_ ?_
   ·intro hc59
    refine SC.seq (SC.region ?_)
    refine SL.val (Val.assign rfl) rfl rfl ?_
    refine SL.nil (SE.seq ?_)
    refine SC.ret ?_
    refine SE.then_ nofun ?_
    first
     | have hst := stepped_d (l := l) hc29 hc44 hc48 hc59
    refine SE.fin (rs := [.tmp 2]) rfl (RV.tmp rfl RV.nil) (()) (by rw [hst]; repeat (first | exact List.nil_sublist _ | exact List.Sublist.refl _ | apply List.Sublist.cons_cons | apply List.Sublist.cons)) (by simp [It.rids]) ?_
    rw [hst]; rfl
   intro hc59
   refine SC.skip ?_
   refine SE.seq ?_
   refine SC.seq (SC.region ?_)
   refine SL.val (Val.move rfl) rfl rfl ?_
   refine SL.val (Val.to (C := .agg (Lg.abs { (l.with_ (nextL x e.core)).1 with total := (amtAdd l.total (nextL x e.core).amount).1 })) (Val.loadP tabOk rfl rfl rfl (by repeat first|assumption|exact o0_|exact o1_|apply o2_) List.not_mem_nil (lb_ (by rfl))) rfl) rfl rfl ?_
   refine SL.val (Val.nilCheck rfl) rfl rfl ?_
   refine SL.val (Val.fieldAddr tabOk rfl rfl rfl rfl rfl) rfl rfl ?_
   refine SL.eff (Eff.store (L' := dgA { (l.with_ (nextL x e.core)).1 with total := (amtAdd l.total (nextL x e.core).amount).1 } e n x) tabOk rfl rfl rfl (by repeat first|assumption|exact Upd.here|apply Upd.there) rfl (lb_ (by rfl)) rfl (by rfl)) rfl rfl ?_
   rintro _ _ ⟨rfl, rfl⟩
   refine SL.nil (SE.seq ?_)
   refine SC.seq (SC.region ?_)
   refine SL.val (Val.assign rfl) rfl rfl ?_
   refine SL.nil (SE.seq ?_)
   refine SC.ret ?_
   first
    | have hst := stepped_e (l := l) hc29 hc44 hc48 hc59
    | have hst := stepped_c (l := l) hc29 hc44 hc48
   refine SE.fin (rs := [.tmp 2]) rfl (RV.tmp rfl RV.nil) (()) (by rw [hst]; repeat (first | exact List.nil_sublist _ | exact List.Sublist.refl _ | apply List.Sublist.cons_cons | apply List.Sublist.cons)) (by simp [It.rids]) ?_
   rw [hst]; rfl
  ·skip
   refine SX.alloc tabOk rfl rfl rfl rfl fun b6 => ?_
   refine SX.call rfl (lwith_s (x := (nextL x e.core)) hf) (by simp [mids, It.mids]) Casts.refl (by kernel_rfl) rfl rfl rfl ?_
   refine ap_ ?_
   intro _
   refine SX.hx (by first|(simp[mids,It.mids,ownPc];done)|(intro k hk;simp[mids,It.mids,ownPc] at hk ⊢;grind)) fun hx9 => ?_
   refine SX.val rfl (Val.move rfl) hx9 rfl rfl ?_
   refine SX.val rfl (Val.extract rfl rfl) hx9 rfl rfl ?_
   refine SX.val rfl (Val.extract rfl rfl) hx9 rfl rfl ?_
   refine SX.eff rfl (Eff.store (L' := (l.with_ (nextL x e.core)).1.abs) tabOk rfl rfl rfl (by repeat first|assumption|exact Upd.here|apply Upd.there) rfl (lb_ (by rfl)) rfl (by exact putL_whole rfl)) (by simp) rfl rfl ?_
   rintro _ _ ⟨rfl, rfl⟩
   refine SX.hx (by first|(simp[mids,It.mids,ownPc];done)|(intro k hk;simp[mids,It.mids,ownPc] at hk ⊢;grind)) fun hx9 => ?_
   refine SX.val rfl (Val.assign rfl) hx9 rfl rfl ?_
   refine SX.nil (SE.seq ?_)
   refine SC.seq ?_
   refine SC.seq (SC.region ?_)
   refine SL.val (Val.move rfl) rfl rfl ?_
   refine SL.val (Val.neI rfl rfl) rfl rfl ?_
   refine SL.nil (SE.seq ?_)
   refine SC.condP rfl ?_ ?_
   ·intro hc44
    refine SC.seq (SC.region ?_)
    refine SL.val (Val.move rfl) rfl rfl ?_
    refine SL.val (Val.assign rfl) rfl rfl ?_
    refine SL.nil (SE.seq ?_)
    refine SC.ret ?_
    refine SE.then_ nofun ?_
    first
     | have hst := stepped_b (l := l) hc29 hc44
    refine SE.fin (rs := [.tmp 2]) rfl (RV.tmp rfl RV.nil) (()) (by rw [hst]; repeat (first | exact List.nil_sublist _ | exact List.Sublist.refl _ | apply List.Sublist.cons_cons | apply List.Sublist.cons)) (by simp [It.rids]) ?_
    rw [hst]; rfl
   intro hc44
   refine SC.skip ?_
   refine SE.seq ?_
   refine SC.seq ?_
   refine SC.seq (SC.region ?_)
   refine SL.val (Val.fieldAddr tabOk rfl rfl rfl rfl rfl) rfl rfl ?_
   refine SL.val (Val.to (C := int e.core.op) (Val.load1 tabOk rfl rfl (by repeat first|assumption|exact o0_|exact o1_|apply o2_) List.not_mem_nil (by rfl)) rfl) rfl rfl ?_
   refine SL.val (Val.eqI rfl rfl) rfl rfl ?_
   refine SL.nil (SE.seq ?_)
   refine SC.condP rfl ?_ ?_
   rotate_left
   ·intro hc48
    refine SC.skip ?_
    refine SE.seq ?_
    refine SC.seq (SC.region ?_)
    refine SL.val (Val.move rfl) rfl rfl ?_
    refine SL.val (Val.to (C := .agg (Lg.abs (l.with_ (nextL x e.core)).1)) (Val.loadP tabOk rfl rfl rfl (by repeat first|assumption|exact o0_|exact o1_|apply o2_) List.not_mem_nil (lb_ (by rfl))) rfl) rfl rfl ?_
    refine SL.val (Val.nilCheck rfl) rfl rfl ?_
    refine SL.val (Val.fieldAddr tabOk rfl rfl rfl rfl rfl) rfl rfl ?_
    refine SL.eff (Eff.store (L' := dgA (l.with_ (nextL x e.core)).1 e n x) tabOk rfl rfl rfl (by repeat first|assumption|exact Upd.here|apply Upd.there) rfl (lb_ (by rfl)) rfl (by rfl)) rfl rfl ?_
    rintro _ _ ⟨rfl, rfl⟩
    refine SL.nil (SE.seq ?_)
    refine SC.seq (SC.region ?_)
    refine SL.val (Val.assign rfl) rfl rfl ?_
    refine SL.nil (SE.seq ?_)
    refine SC.ret ?_
    first
     | have hst := stepped_e (l := l) hc29 hc44 hc48 hc59
     | have hst := stepped_c (l := l) hc29 hc44 hc48
    refine SE.fin (rs := [.tmp 2]) rfl (RV.tmp rfl RV.nil) (()) (by rw [hst]; repeat (first | exact List.nil_sublist _ | exact List.Sublist.refl _ | apply List.Sublist.cons_cons | apply List.Sublist.cons)) (by simp [It.rids]) ?_
    rw [hst]; rfl
   intro hc48
   refine SC.seq (SC.region ?_)
   refine SL.val (Val.fieldAddr tabOk rfl rfl rfl rfl rfl) rfl rfl ?_
   refine SL.val (Val.to (C := int l.total) (Val.load1 tabOk rfl rfl (by repeat first|assumption|exact o0_|exact o1_|apply o2_) List.not_mem_nil (by rfl)) (congrArg int (with_total hc44))) rfl rfl ?_
   refine SL.val (Val.fieldAddr tabOk rfl rfl rfl rfl rfl) rfl rfl ?_
   refine SL.val (Val.to (C := int (nextL x e.core).amount) (Val.load1 tabOk rfl rfl (by repeat first|assumption|exact o0_|exact o1_|apply o2_) List.not_mem_nil (by rfl)) rfl) rfl rfl ?_
   refine SL.call (madd_s (a := l.total) (b := (nextL x e.core).amount) hl.total hsw.amount) Casts.refl (by kernel_rfl) rfl rfl rfl ?_
   refine ap_ ?_
   intro _
   refine SL.val (Val.move rfl) rfl rfl ?_
   refine SL.val (Val.extract rfl rfl) rfl rfl ?_
   refine SL.val (Val.extract rfl rfl) rfl rfl ?_
   refine SL.val (Val.fieldAddr tabOk rfl rfl rfl rfl rfl) rfl rfl ?_
   refine SL.eff (Eff.store (L' := Lg.abs { (l.with_ (nextL x e.core)).1 with total := (amtAdd l.total (nextL x e.core).amount).1 }) tabOk rfl rfl rfl (by repeat first|assumption|exact Upd.here|apply Upd.there) rfl (lb_ (by rfl)) rfl (by rfl)) rfl rfl ?_
   rintro _ _ ⟨rfl, rfl⟩
   refine SL.val (Val.assign rfl) rfl rfl ?_
   refine SL.nil (SE.seq ?_)
   refine SC.seq (SC.region ?_)
   refine SL.val (Val.move rfl) rfl rfl ?_
   refine SL.val (Val.neI rfl rfl) rfl rfl ?_
   refine SL.nil (SE.seq ?_)
   refine SC.condP rfl ?_ ?_
   ·intro hc59
    refine SC.seq (SC.region ?_)
    refine SL.val (Val.assign rfl) rfl rfl ?_
    refine SL.nil (SE.seq ?_)
    refine SC.ret ?_
    refine SE.then_ nofun ?_
    first
     | have hst := stepped_d (l := l) hc29 hc44 hc48 hc59
    refine SE.fin (rs := [.tmp 2]) rfl (RV.tmp rfl RV.nil) (()) (by rw [hst]; repeat (first | exact List.nil_sublist _ | exact List.Sublist.refl _ | apply List.Sublist.cons_cons | apply List.Sublist.cons)) (by simp [It.rids]) ?_
    rw [hst]; rfl
   intro hc59
   refine SC.skip ?_
   refine SE.seq ?_
   refine SC.seq (SC.region ?_)
   refine SL.val (Val.move rfl) rfl rfl ?_
   refine SL.val (Val.to (C := .agg (Lg.abs { (l.with_ (nextL x e.core)).1 with total := (amtAdd l.total (nextL x e.core).amount).1 })) (Val.loadP tabOk rfl rfl rfl (by repeat first|assumption|exact o0_|exact o1_|apply o2_) List.not_mem_nil (lb_ (by rfl))) rfl) rfl rfl ?_
   refine SL.val (Val.nilCheck rfl) rfl rfl ?_
   refine SL.val (Val.fieldAddr tabOk rfl rfl rfl rfl rfl) rfl rfl ?_
   refine SL.eff (Eff.store (L' := dgA { (l.with_ (nextL x e.core)).1 with total := (amtAdd l.total (nextL x e.core).amount).1 } e n x) tabOk rfl rfl rfl (by repeat first|assumption|exact Upd.here|apply Upd.there) rfl (lb_ (by rfl)) rfl (by rfl)) rfl rfl ?_
   rintro _ _ ⟨rfl, rfl⟩
   refine SL.nil (SE.seq ?_)
   refine SC.seq (SC.region ?_)
   refine SL.val (Val.assign rfl) rfl rfl ?_
   refine SL.nil (SE.seq ?_)
   refine SC.ret ?_
   first
    | have hst := stepped_e (l := l) hc29 hc44 hc48 hc59
    | have hst := stepped_c (l := l) hc29 hc44 hc48
   refine SE.fin (rs := [.tmp 2]) rfl (RV.tmp rfl RV.nil) (()) (by rw [hst]; repeat (first | exact List.nil_sublist _ | exact List.Sublist.refl _ | apply List.Sublist.cons_cons | apply List.Sublist.cons)) (by simp [It.rids]) ?_
   rw [hst]; rfl
 ·skip
  refine SX.alloc tabOk rfl rfl rfl rfl fun b4 => ?_
  refine SX.call rfl (step_s (x := x) (op := e.core.op) (a := e.core.a) (b := e.core.b) (t := e.core.text) hx ha ht) (by simp [mids, It.mids]) Casts.refl (by kernel_rfl) rfl rfl rfl ?_
  refine ap_ ?_
  intro _
  refine SX.hx (by first|(simp[mids,It.mids,ownPc];done)|(intro k hk;simp[mids,It.mids,ownPc] at hk ⊢;grind)) fun hx9 => ?_
  refine SX.val rfl (Val.move rfl) hx9 rfl rfl ?_
  refine SX.val rfl (Val.extract rfl rfl) hx9 rfl rfl ?_
  refine SX.val rfl (Val.extract rfl rfl) hx9 rfl rfl ?_
  refine SX.eff rfl (Eff.store (L' := ltrA (x.step e.core.op e.core.a e.core.b e.core.text).1) tabOk rfl rfl rfl (by repeat first|assumption|exact Upd.here|apply Upd.there) rfl (lb_ (by rfl)) rfl (by exact putL_whole rfl)) (by simp) rfl rfl ?_
  rintro _ _ ⟨rfl, rfl⟩
  refine SX.hx (by first|(simp[mids,It.mids,ownPc];done)|(intro k hk;simp[mids,It.mids,ownPc] at hk ⊢;grind)) fun hx9 => ?_
  refine SX.val rfl (Val.assign rfl) hx9 rfl rfl ?_
  refine SX.nil (SE.seq ?_)
  refine SC.seq ?_
  refine SC.seq (SC.region ?_)
  refine SL.val (Val.move rfl) rfl rfl ?_
  refine SL.val (Val.neI rfl rfl) rfl rfl ?_
  refine SL.nil (SE.seq ?_)
  refine SC.condP rfl ?_ ?_
  ·intro hc29
   refine SC.seq (SC.region ?_)
   refine SL.val (Val.move rfl) rfl rfl ?_
   refine SL.val (Val.assign rfl) rfl rfl ?_
   refine SL.nil (SE.seq ?_)
   refine SC.ret ?_
   refine SE.then_ nofun ?_
   first
    | have hst := stepped_a (l := l) hc29
   refine SE.fin (rs := [.tmp 2]) rfl (RV.tmp rfl RV.nil) (()) (by rw [hst]; repeat (first | exact List.nil_sublist _ | exact List.Sublist.refl _ | apply List.Sublist.cons_cons | apply List.Sublist.cons)) (by simp [It.rids]) ?_
   rw [hst]; rfl
  intro hc29
  refine SC.skip ?_
  refine SE.seq ?_
  refine SC.seq (SC.region ?_)
  refine SL.val (Val.fieldAddr tabOk rfl rfl rfl rfl rfl) rfl rfl ?_
  refine SL.val (Val.to (C := st e.core.letter) (Val.load1 tabOk rfl rfl (by repeat first|assumption|exact o0_|exact o1_|apply o2_) List.not_mem_nil (by rfl)) rfl) rfl rfl ?_
  refine SL.val (Val.fieldAddr tabOk rfl rfl rfl rfl rfl) rfl rfl ?_
  refine SL.eff (Eff.store (L' := ltrA (nextL x e.core)) tabOk rfl rfl rfl (by repeat first|assumption|exact Upd.here|apply Upd.there) rfl (lb_ (by rfl)) rfl (by rfl)) rfl rfl ?_
  rintro _ _ ⟨rfl, rfl⟩
  refine SL.nil (SE.seq ?_)
  refine SC.seq ?_
  refine SC.draw [] (.q 0 (.q 1 (.q 2 (.q 3 (.q 4 (.two 5 9 (.q 6 (.q 7 (.q 8 (.e 9 (.e 10 (.q 11 .nil)))))) (.e 5 (.q 6 (.q 7 (.q 8 (.e 10 (.q 11 .nil)))))))))))) (by kernel_rfl) (by kernel_rfl) ?_
  refine SX.val rfl (Val.move rfl) (by simp) rfl rfl ?_
  refine SX.val rfl (Val.nilCheck rfl) (by simp) rfl rfl ?_
  refine SX.val rfl (Val.fieldAddr tabOk rfl rfl rfl rfl rfl) (by simp) rfl rfl ?_
  refine SX.hx (by first|(simp[mids,It.mids,ownPc];done)|(intro k hk;simp[mids,It.mids,ownPc] at hk ⊢;grind)) fun hx9 => ?_
  refine SX.val rfl (Val.to (C := .agg l.abs) (Val.loadP tabOk rfl rfl rfl (by repeat first|assumption|exact o0_|exact o1_|apply o2_) List.not_mem_nil (lb_ (by rfl))) rfl) hx9 rfl rfl ?_
  refine SX.val rfl (Val.to (C := .agg (ltrA (nextL x e.core))) (Val.loadP tabOk rfl rfl rfl (by repeat first|assumption|exact o0_|exact o1_|apply o2_) List.not_mem_nil (lb_ (by rfl))) rfl) hx9 rfl rfl ?_
  refine SX.two ?_ ?_
  ·skip
   refine SX.call rfl (lwith_s (x := (nextL x e.core)) hf) (by simp [mids, It.mids]) Casts.refl (by kernel_rfl) rfl rfl rfl ?_
   refine ap_ ?_
   intro _
   refine SX.val rfl (Val.move rfl) (by simp) rfl rfl ?_
   refine SX.val rfl (Val.extract rfl rfl) (by simp) rfl rfl ?_
   refine SX.val rfl (Val.extract rfl rfl) (by simp) rfl rfl ?_
   refine SX.alloc tabOk rfl rfl rfl rfl fun b6 => ?_
   refine SX.eff rfl (Eff.store (L' := (l.with_ (nextL x e.core)).1.abs) tabOk rfl rfl rfl (by repeat first|assumption|exact Upd.here|apply Upd.there) rfl (lb_ (by rfl)) rfl (by exact putL_whole rfl)) (by simp) rfl rfl ?_
   rintro _ _ ⟨rfl, rfl⟩
   refine SX.hx (by first|(simp[mids,It.mids,ownPc];done)|(intro k hk;simp[mids,It.mids,ownPc] at hk ⊢;grind)) fun hx9 => ?_
   refine SX.val rfl (Val.assign rfl) hx9 rfl rfl ?_
   refine SX.nil (SE.seq ?_)
   refine SC.seq ?_
   refine SC.seq (SC.region ?_)
   refine SL.val (Val.move rfl) rfl rfl ?_
   refine SL.val (Val.neI rfl rfl) rfl rfl ?_
   refine SL.nil (SE.seq ?_)
   refine SC.condP rfl ?_ ?_
   ·intro hc44
    refine SC.seq (SC.region ?_)
    refine SL.val (Val.move rfl) rfl rfl ?_
    refine SL.val (Val.assign rfl) rfl rfl ?_
    refine SL.nil (SE.seq ?_)
    refine SC.ret ?_
    refine SE.then_ nofun ?_
    first
     | have hst := stepped_b (l := l) hc29 hc44
    refine SE.fin (rs := [.tmp 2]) rfl (RV.tmp rfl RV.nil) (()) (by rw [hst]; repeat (first | exact List.nil_sublist _ | exact List.Sublist.refl _ | apply List.Sublist.cons_cons | apply List.Sublist.cons)) (by simp [It.rids]) ?_
    rw [hst]; rfl
   intro hc44
   refine SC.skip ?_
   refine SE.seq ?_
   refine SC.seq ?_
   refine SC.seq (SC.region ?_)
   refine SL.val (Val.fieldAddr tabOk rfl rfl rfl rfl rfl) rfl rfl ?_
   refine SL.val (Val.to (C := int e.core.op) (Val.load1 tabOk rfl rfl (by repeat first|assumption|exact o0_|exact o1_|apply o2_) List.not_mem_nil (by rfl)) rfl) rfl rfl ?_
   refine SL.val (Val.eqI rfl rfl) rfl rfl ?_
   refine SL.nil (SE.seq ?_)
   refine SC.condP rfl ?_ ?_
   rotate_left
   ·intro hc48
    refine SC.skip ?_
    refine SE.seq ?_
    refine SC.seq (SC.region ?_)
    refine SL.val (Val.move rfl) rfl rfl ?_
    refine SL.val (Val.to (C := .agg (Lg.abs (l.with_ (nextL x e.core)).1)) (Val.loadP tabOk rfl rfl rfl (by repeat first|assumption|exact o0_|exact o1_|apply o2_) List.not_mem_nil (lb_ (by rfl))) rfl) rfl rfl ?_
    refine SL.val (Val.nilCheck rfl) rfl rfl ?_
    refine SL.val (Val.fieldAddr tabOk rfl rfl rfl rfl rfl) rfl rfl ?_
    refine SL.eff (Eff.store (L' := dgA (l.with_ (nextL x e.core)).1 e n x) tabOk rfl rfl rfl (by repeat first|assumption|exact Upd.here|apply Upd.there) rfl (lb_ (by rfl)) rfl (by rfl)) rfl rfl ?_
    rintro _ _ ⟨rfl, rfl⟩
    refine SL.nil (SE.seq ?_)
    refine SC.seq (SC.region ?_)
    refine SL.val (Val.assign rfl) rfl rfl ?_
    refine SL.nil (SE.seq ?_)
    refine SC.ret ?_
    first
     | have hst := stepped_e (l := l) hc29 hc44 hc48 hc59
     | have hst := stepped_c (l := l) hc29 hc44 hc48
    refine SE.fin (rs := [.tmp 2]) rfl (RV.tmp rfl RV.nil) (()) (by rw [hst]; repeat (first | exact List.nil_sublist _ | exact List.Sublist.refl _ | apply List.Sublist.cons_cons | apply List.Sublist.cons)) (by simp [It.rids]) ?_
    rw [hst]; rfl
   intro hc48
   refine SC.seq (SC.region ?_)
   refine SL.val (Val.fieldAddr tabOk rfl rfl rfl rfl rfl) rfl rfl ?_
   refine SL.val (Val.to (C := int l.total) (Val.load1 tabOk rfl rfl (by repeat first|assumption|exact o0_|exact o1_|apply o2_) List.not_mem_nil (by rfl)) (congrArg int (with_total hc44))) rfl rfl ?_
   refine SL.val (Val.fieldAddr tabOk rfl rfl rfl rfl rfl) rfl rfl ?_
   refine SL.val (Val.to (C := int (nextL x e.core).amount) (Val.load1 tabOk rfl rfl (by repeat first|assumption|exact o0_|exact o1_|apply o2_) List.not_mem_nil (by rfl)) rfl) rfl rfl ?_
   refine SL.call (madd_s (a := l.total) (b := (nextL x e.core).amount) hl.total hsw.amount) Casts.refl (by kernel_rfl) rfl rfl rfl ?_
   refine ap_ ?_
   intro _
   refine SL.val (Val.move rfl) rfl rfl ?_
   refine SL.val (Val.extract rfl rfl) rfl rfl ?_
   refine SL.val (Val.extract rfl rfl) rfl rfl ?_
   refine SL.val (Val.fieldAddr tabOk rfl rfl rfl rfl rfl) rfl rfl ?_
   refine SL.eff (Eff.store (L' := Lg.abs { (l.with_ (nextL x e.core)).1 with total := (amtAdd l.total (nextL x e.core).amount).1 }) tabOk rfl rfl rfl (by repeat first|assumption|exact Upd.here|apply Upd.there) rfl (lb_ (by rfl)) rfl (by rfl)) rfl rfl ?_
   rintro _ _ ⟨rfl, rfl⟩
   refine SL.val (Val.assign rfl) rfl rfl ?_
   refine SL.nil (SE.seq ?_)
   refine SC.seq (SC.region ?_)
   refine SL.val (Val.move rfl) rfl rfl ?_
   refine SL.val (Val.neI rfl rfl) rfl rfl ?_
   refine SL.nil (SE.seq ?_)
   refine SC.condP rfl ?_ ?_
   ·intro hc59
    refine SC.seq (SC.region ?_)
    refine SL.val (Val.assign rfl) rfl rfl ?_
    refine SL.nil (SE.seq ?_)
    refine SC.ret ?_
    refine SE.then_ nofun ?_
    first
     | have hst := stepped_d (l := l) hc29 hc44 hc48 hc59
    refine SE.fin (rs := [.tmp 2]) rfl (RV.tmp rfl RV.nil) (()) (by rw [hst]; repeat (first | exact List.nil_sublist _ | exact List.Sublist.refl _ | apply List.Sublist.cons_cons | apply List.Sublist.cons)) (by simp [It.rids]) ?_
    rw [hst]; rfl
   intro hc59
   refine SC.skip ?_
   refine SE.seq ?_
   refine SC.seq (SC.region ?_)
   refine SL.val (Val.move rfl) rfl rfl ?_
   refine SL.val (Val.to (C := .agg (Lg.abs { (l.with_ (nextL x e.core)).1 with total := (amtAdd l.total (nextL x e.core).amount).1 })) (Val.loadP tabOk rfl rfl rfl (by repeat first|assumption|exact o0_|exact o1_|apply o2_) List.not_mem_nil (lb_ (by rfl))) rfl) rfl rfl ?_
   refine SL.val (Val.nilCheck rfl) rfl rfl ?_
   refine SL.val (Val.fieldAddr tabOk rfl rfl rfl rfl rfl) rfl rfl ?_
   refine SL.eff (Eff.store (L' := dgA { (l.with_ (nextL x e.core)).1 with total := (amtAdd l.total (nextL x e.core).amount).1 } e n x) tabOk rfl rfl rfl (by repeat first|assumption|exact Upd.here|apply Upd.there) rfl (lb_ (by rfl)) rfl (by rfl)) rfl rfl ?_
   rintro _ _ ⟨rfl, rfl⟩
   refine SL.nil (SE.seq ?_)
   refine SC.seq (SC.region ?_)
   refine SL.val (Val.assign rfl) rfl rfl ?_
   refine SL.nil (SE.seq ?_)
   refine SC.ret ?_
   first
    | have hst := stepped_e (l := l) hc29 hc44 hc48 hc59
    | have hst := stepped_c (l := l) hc29 hc44 hc48
   refine SE.fin (rs := [.tmp 2]) rfl (RV.tmp rfl RV.nil) (()) (by rw [hst]; repeat (first | exact List.nil_sublist _ | exact List.Sublist.refl _ | apply List.Sublist.cons_cons | apply List.Sublist.cons)) (by simp [It.rids]) ?_
   rw [hst]; rfl
  ·skip
   refine SX.alloc tabOk rfl rfl rfl rfl fun b6 => ?_
   refine SX.call rfl (lwith_s (x := (nextL x e.core)) hf) (by simp [mids, It.mids]) Casts.refl (by kernel_rfl) rfl rfl rfl ?_
   refine ap_ ?_
   intro _
   refine SX.hx (by first|(simp[mids,It.mids,ownPc];done)|(intro k hk;simp[mids,It.mids,ownPc] at hk ⊢;grind)) fun hx9 => ?_
   refine SX.val rfl (Val.move rfl) hx9 rfl rfl ?_
   refine SX.val rfl (Val.extract rfl rfl) hx9 rfl rfl ?_
   refine SX.val rfl (Val.extract rfl rfl) hx9 rfl rfl ?_
   refine SX.eff rfl (Eff.store (L' := (l.with_ (nextL x e.core)).1.abs) tabOk rfl rfl rfl (by repeat first|assumption|exact Upd.here|apply Upd.there) rfl (lb_ (by rfl)) rfl (by exact putL_whole rfl)) (by simp) rfl rfl ?_
   rintro _ _ ⟨rfl, rfl⟩
   refine SX.hx (by first|(simp[mids,It.mids,ownPc];done)|(intro k hk;simp[mids,It.mids,ownPc] at hk ⊢;grind)) fun hx9 => ?_
   refine SX.val rfl (Val.assign rfl) hx9 rfl rfl ?_
   refine SX.nil (SE.seq ?_)
   refine SC.seq ?_
   refine SC.seq (SC.region ?_)
   refine SL.val (Val.move rfl) rfl rfl ?_
   refine SL.val (Val.neI rfl rfl) rfl rfl ?_
   refine SL.nil (SE.seq ?_)
   refine SC.condP rfl ?_ ?_
   ·intro hc44
    refine SC.seq (SC.region ?_)
    refine SL.val (Val.move rfl) rfl rfl ?_
    refine SL.val (Val.assign rfl) rfl rfl ?_
    refine SL.nil (SE.seq ?_)
    refine SC.ret ?_
    refine SE.then_ nofun ?_
    first
     | have hst := stepped_b (l := l) hc29 hc44
    refine SE.fin (rs := [.tmp 2]) rfl (RV.tmp rfl RV.nil) (()) (by rw [hst]; repeat (first | exact List.nil_sublist _ | exact List.Sublist.refl _ | apply List.Sublist.cons_cons | apply List.Sublist.cons)) (by simp [It.rids]) ?_
    rw [hst]; rfl
   intro hc44
   refine SC.skip ?_
   refine SE.seq ?_
   refine SC.seq ?_
   refine SC.seq (SC.region ?_)
   refine SL.val (Val.fieldAddr tabOk rfl rfl rfl rfl rfl) rfl rfl ?_
   refine SL.val (Val.to (C := int e.core.op) (Val.load1 tabOk rfl rfl (by repeat first|assumption|exact o0_|exact o1_|apply o2_) List.not_mem_nil (by rfl)) rfl) rfl rfl ?_
   refine SL.val (Val.eqI rfl rfl) rfl rfl ?_
   refine SL.nil (SE.seq ?_)
   refine SC.condP rfl ?_ ?_
   rotate_left
   ·intro hc48
    refine SC.skip ?_
    refine SE.seq ?_
    refine SC.seq (SC.region ?_)
    refine SL.val (Val.move rfl) rfl rfl ?_
    refine SL.val (Val.to (C := .agg (Lg.abs (l.with_ (nextL x e.core)).1)) (Val.loadP tabOk rfl rfl rfl (by repeat first|assumption|exact o0_|exact o1_|apply o2_) List.not_mem_nil (lb_ (by rfl))) rfl) rfl rfl ?_
    refine SL.val (Val.nilCheck rfl) rfl rfl ?_
    refine SL.val (Val.fieldAddr tabOk rfl rfl rfl rfl rfl) rfl rfl ?_
    refine SL.eff (Eff.store (L' := dgA (l.with_ (nextL x e.core)).1 e n x) tabOk rfl rfl rfl (by repeat first|assumption|exact Upd.here|apply Upd.there) rfl (lb_ (by rfl)) rfl (by rfl)) rfl rfl ?_
    rintro _ _ ⟨rfl, rfl⟩
    refine SL.nil (SE.seq ?_)
    refine SC.seq (SC.region ?_)
    refine SL.val (Val.assign rfl) rfl rfl ?_
    refine SL.nil (SE.seq ?_)
    refine SC.ret ?_
    first
     | have hst := stepped_e (l := l) hc29 hc44 hc48 hc59
     | have hst := stepped_c (l := l) hc29 hc44 hc48
    refine SE.fin (rs := [.tmp 2]) rfl (RV.tmp rfl RV.nil) (()) (by rw [hst]; repeat (first | exact List.nil_sublist _ | exact List.Sublist.refl _ | apply List.Sublist.cons_cons | apply List.Sublist.cons)) (by simp [It.rids]) ?_
    rw [hst]; rfl
   intro hc48
   refine SC.seq (SC.region ?_)
   refine SL.val (Val.fieldAddr tabOk rfl rfl rfl rfl rfl) rfl rfl ?_
   refine SL.val (Val.to (C := int l.total) (Val.load1 tabOk rfl rfl (by repeat first|assumption|exact o0_|exact o1_|apply o2_) List.not_mem_nil (by rfl)) (congrArg int (with_total hc44))) rfl rfl ?_
   refine SL.val (Val.fieldAddr tabOk rfl rfl rfl rfl rfl) rfl rfl ?_
   refine SL.val (Val.to (C := int (nextL x e.core).amount) (Val.load1 tabOk rfl rfl (by repeat first|assumption|exact o0_|exact o1_|apply o2_) List.not_mem_nil (by rfl)) rfl) rfl rfl ?_
   refine SL.call (madd_s (a := l.total) (b := (nextL x e.core).amount) hl.total hsw.amount) Casts.refl (by kernel_rfl) rfl rfl rfl ?_
   refine ap_ ?_
   intro _
   refine SL.val (Val.move rfl) rfl rfl ?_
   refine SL.val (Val.extract rfl rfl) rfl rfl ?_
   refine SL.val (Val.extract rfl rfl) rfl rfl ?_
   refine SL.val (Val.fieldAddr tabOk rfl rfl rfl rfl rfl) rfl rfl ?_
   refine SL.eff (Eff.store (L' := Lg.abs { (l.with_ (nextL x e.core)).1 with total := (amtAdd l.total (nextL x e.core).amount).1 }) tabOk rfl rfl rfl (by repeat first|assumption|exact Upd.here|apply Upd.there) rfl (lb_ (by rfl)) rfl (by rfl)) rfl rfl ?_
   rintro _ _ ⟨rfl, rfl⟩
   refine SL.val (Val.assign rfl) rfl rfl ?_
   refine SL.nil (SE.seq ?_)
   refine SC.seq (SC.region ?_)
   refine SL.val (Val.move rfl) rfl rfl ?_
   refine SL.val (Val.neI rfl rfl) rfl rfl ?_
   refine SL.nil (SE.seq ?_)
   refine SC.condP rfl ?_ ?_
   ·intro hc59
    refine SC.seq (SC.region ?_)
    refine SL.val (Val.assign rfl) rfl rfl ?_
    refine SL.nil (SE.seq ?_)
    refine SC.ret ?_
    refine SE.then_ nofun ?_
    first
     | have hst := stepped_d (l := l) hc29 hc44 hc48 hc59
    refine SE.fin (rs := [.tmp 2]) rfl (RV.tmp rfl RV.nil) (()) (by rw [hst]; repeat (first | exact List.nil_sublist _ | exact List.Sublist.refl _ | apply List.Sublist.cons_cons | apply List.Sublist.cons)) (by simp [It.rids]) ?_
    rw [hst]; rfl
   intro hc59
   refine SC.skip ?_
   refine SE.seq ?_
   refine SC.seq (SC.region ?_)
   refine SL.val (Val.move rfl) rfl rfl ?_
   refine SL.val (Val.to (C := .agg (Lg.abs { (l.with_ (nextL x e.core)).1 with total := (amtAdd l.total (nextL x e.core).amount).1 })) (Val.loadP tabOk rfl rfl rfl (by repeat first|assumption|exact o0_|exact o1_|apply o2_) List.not_mem_nil (lb_ (by rfl))) rfl) rfl rfl ?_
   refine SL.val (Val.nilCheck rfl) rfl rfl ?_
   refine SL.val (Val.fieldAddr tabOk rfl rfl rfl rfl rfl) rfl rfl ?_
   refine SL.eff (Eff.store (L' := dgA { (l.with_ (nextL x e.core)).1 with total := (amtAdd l.total (nextL x e.core).amount).1 } e n x) tabOk rfl rfl rfl (by repeat first|assumption|exact Upd.here|apply Upd.there) rfl (lb_ (by rfl)) rfl (by rfl)) rfl rfl ?_
   rintro _ _ ⟨rfl, rfl⟩
   refine SL.nil (SE.seq ?_)
   refine SC.seq (SC.region ?_)
   refine SL.val (Val.assign rfl) rfl rfl ?_
   refine SL.nil (SE.seq ?_)
   refine SC.ret ?_
   first
    | have hst := stepped_e (l := l) hc29 hc44 hc48 hc59
    | have hst := stepped_c (l := l) hc29 hc44 hc48
   refine SE.fin (rs := [.tmp 2]) rfl (RV.tmp rfl RV.nil) (()) (by rw [hst]; repeat (first | exact List.nil_sublist _ | exact List.Sublist.refl _ | apply List.Sublist.cons_cons | apply List.Sublist.cons)) (by simp [It.rids]) ?_
   rw [hst]; rfl
end
end Go.Proofs.YtejcohlpjikjpaaGreatDoor.A
/-
  What an entry does.
-/
namespace Go.Proofs.YtejcohlpjikjpaaGreatDoor.A
open Go.RowKit

/-- The function of a step. -/
def fnAt : Nat → Nat
  | 0 => 48
  | 1 => 49
  | _ => 50
theorem fn_goes (z : Nat) : goesIn Tryz.prog (fnAt z) = true := by
  rcases z with _ | _ | z
  · kernel_rfl
  · kernel_rfl
  · kernel_rfl
abbrev fnRow (d : Nat) : List (List Abs) := [[.fn (.func 48) [ptr d] []], [.fn (.func 49) [ptr d] []], [.fn (.func 50) [ptr d] []]]
theorem fn_row {d z : Nat} (hz : z < 3) : (fnRow d)[z]? = some [.fn (.func (fnAt z)) [ptr d] []] := by
  rcases (by omega : z = 0 ∨ z = 1 ∨ z = 2) with rfl | rfl | rfl <;> rfl
theorem Lg.Few.more {l l2 : Lg} (h : l.ls.length ≤ 900 ∧ l.os.length ≤ 900) (h1 : l2.ls.length ≤ l.ls.length + 1) (h2 : l2.os = l.os) : l2.Few := ⟨by omega, by rw [h2]; omega⟩
section
variable {l : Lg} {x : Ltr} {n : Int} {e : Ent} {d : Nat} {es er : Value}
theorem dstep_s (he : isIf es) (hr : isIf er) (hm : e.mask < 4294967296) (hf : l.Few) (hl : l.Wf) (ha : i64ok e.core.a) (ht : e.core.text.size ≤ 9223372036854775807) {z : Nat} (hz : z < 3) :
    Spec Tryz.prog (fnAt z) [ptr d] (.blk d 84 (dgA (lgAt l e z) e n (oldAt l e z)) :: (globs es er)) (fun _ : Unit => [.blk d 84 (dgA (lgAt l e (z + 1)) e n (oldAt l e (z + 1)))]) (fun _ => int (erAt l e n z)) := by
  rcases (by omega : z = 0 ∨ z = 1 ∨ z = 2) with rfl | rfl | rfl
  · exact known_s hf
  · exact endorsed_s he hr hm
  · exact stepped_s hf hl (Lg.old_wf hl _) ha ht
set_option maxHeartbeats 2000000 in
theorem do_s (he : isIf es) (hr : isIf er) (hm : e.mask < 4294967296) (hq : l.ls.length ≤ 900 ∧ l.os.length ≤ 900) (hl : l.Wf) (ha : i64ok e.core.a) (ht : e.core.text.size ≤ 9223372036854775807) : Spec Tryz.prog 40 [.agg l.abs, .agg (entA e), int n] (globs es er) (fun _ : Unit => []) (fun _ => .tup [.agg (l.doF e n).1.abs, int (l.doF e n).2]) := by
 have hf : l.Few := ⟨by omega, by omega⟩
 have hrl := res_len (l := l) (e := e) (n := n)
 have hf2 : (l.res e n).1.Few := Lg.Few.more hq hrl.1 hrl.2
 refine spec_of Tryz.func40 rfl Tryz.ntmps40 rfl fun G w => ?_
 refine SC.seq (SC.region ?_)
 refine SL.eff (Eff.boxA (cs := l.abs) rfl) rfl rfl ?_
 rintro _ _ ⟨b3, rfl, rfl⟩
 refine SL.eff (Eff.boxA (cs := entA e) rfl) rfl rfl ?_
 rintro _ _ ⟨b4, rfl, rfl⟩
 refine SL.eff (Eff.alloc tabOk rfl) rfl rfl ?_
 rintro _ _ ⟨b6, rfl, rfl⟩
 refine SL.val (Val.assign rfl) rfl rfl ?_
 refine SL.nil (SE.seq ?_)
 refine SC.seq ?_
 refine SC.drawS 7 [] (.q 0 (.q 1 (.q 3 (.q 4 (.e 2 (.q 6 (.e 5 .nil))))))) (.e 7 (.q 8 (.e 9 .nil))) (by kernel_rfl) (by kernel_rfl) ?_
 refine SX.val rfl (Val.fieldAddr tabOk rfl rfl rfl rfl rfl) (by simp) rfl rfl ?_
 refine SX.hx (by first|(simp[mids,It.mids,ownPc];done)|(intro k hk;simp[mids,It.mids,ownPc] at hk ⊢;grind)) fun hx9 => ?_
 refine SX.val rfl (Val.to (C := ltrsA l.ls) (Val.load1 tabOk rfl rfl (by repeat first|assumption|exact o0_|exact o1_|apply o2_) List.not_mem_nil (by rfl)) rfl) hx9 rfl rfl ?_
 refine SX.val rfl (Val.fieldAddr tabOk rfl rfl rfl rfl rfl) (by simp) rfl rfl ?_
 refine SX.val rfl (Val.to (C := .sl 3 (l.os.map Oc.abs)) (Val.load1 tabOk rfl rfl (by repeat first|assumption|exact o0_|exact o1_|apply o2_) List.not_mem_nil (by rfl)) rfl) hx9 rfl rfl ?_
 refine SX.call rfl (clone_ltr_s (ltrs_ones l.ls) (by rw [List.length_map]; omega)) (by simp [mids, It.mids]) Casts.refl (by kernel_rfl) rfl rfl rfl ?_
 refine ap_ ?_
 intro _
 refine SX.val rfl (Val.fieldAddr tabOk rfl rfl rfl rfl rfl) (by simp) rfl rfl ?_
 refine SX.call rfl (clone_oc_s (ocs_ones l.os) (by rw [List.length_map]; omega)) (by simp [mids, It.mids]) Casts.refl (by kernel_rfl) rfl rfl rfl ?_
 refine ap_ ?_
 intro _
 refine SX.nil ?_
 refine SE.rest [b3] ?_
 refine SX.eff rfl (Eff.store (L' := l.abs) tabOk rfl rfl rfl (by repeat first|assumption|exact Upd.here|apply Upd.there) rfl (lb_ (by rfl)) rfl (by rfl)) (by simp) rfl rfl ?_
 rintro _ _ ⟨rfl, rfl⟩
 refine SX.hx (by first|(simp[mids,It.mids,ownPc];done)|(intro k hk;simp[mids,It.mids,ownPc] at hk ⊢;grind)) fun hx9 => ?_
 refine SX.val rfl (Val.fieldAddr tabOk rfl rfl rfl rfl rfl) hx9 rfl rfl ?_
 refine SX.eff rfl (Eff.store (L' := l.abs) tabOk rfl rfl rfl (by repeat first|assumption|exact Upd.here|apply Upd.there) rfl (lb_ (by rfl)) rfl (by rfl)) (by simp) rfl rfl ?_
 rintro _ _ ⟨rfl, rfl⟩
 refine SX.nil (SE.seq ?_)
 refine SC.seq ?_
 refine SC.seq (SC.region ?_)
 refine SL.val (Val.to (C := .agg l.abs) (Val.loadP tabOk rfl rfl rfl (by repeat first|assumption|exact o0_|exact o1_|apply o2_) List.not_mem_nil (lb_ (by rfl))) rfl) rfl rfl ?_
 refine SL.val (Val.fieldAddr tabOk rfl rfl rfl rfl rfl) rfl rfl ?_
 refine SL.val (Val.to (C := coreA e.core) (Val.loadP tabOk rfl rfl rfl (by repeat first|assumption|exact o0_|exact o1_|apply o2_) List.not_mem_nil (lb_ (by rfl))) rfl) rfl rfl ?_
 refine SL.call (lstale_s (c := e.core) hf) Casts.refl (by kernel_rfl) rfl rfl rfl ?_
 refine ap_ ?_
 intro _
 refine SL.nil (SE.seq ?_)
 refine SC.cond rfl ?_ ?_
 ·intro hc24
  refine SC.seq (SC.region ?_)
  refine SL.val (Val.to (C := .agg l.abs) (Val.loadP tabOk rfl rfl rfl (by repeat first|assumption|exact o0_|exact o1_|apply o2_) List.not_mem_nil (lb_ (by rfl))) rfl) rfl rfl ?_
  refine SL.eff (Eff.store (L' := l.abs) tabOk rfl rfl rfl (by repeat first|assumption|exact Upd.here|apply Upd.there) rfl (lb_ (by rfl)) rfl (by exact putL_whole rfl)) rfl rfl ?_
  rintro _ _ ⟨rfl, rfl⟩
  refine SL.val (Val.assign rfl) rfl rfl ?_
  refine SL.nil (SE.seq ?_)
  refine SC.ret ?_
  refine SE.then_ nofun ?_
  refine SE.fin (rs := [.cell 6 66, .tmp 7]) rfl (RV.cell rfl (RV.cellA tabOk rfl rfl (by repeat first|assumption|exact o0_|exact o1_|apply o2_) (by rfl)) (RV.tmp rfl RV.nil)) (()) (by repeat first|exact s0 _|exact s1 _|apply s2|apply s3) (by simp [It.rids]) ?_
  unfold Lg.doF
  rw [if_pos hc24]
  rfl
 intro hc24
 refine SC.skip ?_
 refine SE.seq ?_
 refine SC.seq ?_
 refine SC.seq (SC.region ?_)
 refine SL.val (Val.fieldAddr tabOk rfl rfl rfl rfl rfl) rfl rfl ?_
 refine SL.val (Val.to (C := coreA e.core) (Val.loadP tabOk rfl rfl rfl (by repeat first|assumption|exact o0_|exact o1_|apply o2_) List.not_mem_nil (lb_ (by rfl))) rfl) rfl rfl ?_
 refine SL.val (Val.move rfl) rfl rfl ?_
 refine SL.call (ccheck_s (c := e.core) (n := n)) Casts.refl (by kernel_rfl) rfl rfl rfl ?_
 refine ap_ ?_
 intro _
 refine SL.val (Val.assign rfl) rfl rfl ?_
 refine SL.nil (SE.seq ?_)
 refine SC.seq (SC.region ?_)
 refine SL.val (Val.move rfl) rfl rfl ?_
 refine SL.val (Val.neI rfl rfl) rfl rfl ?_
 refine SL.nil (SE.seq ?_)
 refine SC.condP rfl ?_ ?_
 ·intro hc31
  refine SC.seq (SC.region ?_)
  refine SL.val (Val.to (C := .agg l.abs) (Val.loadP tabOk rfl rfl rfl (by repeat first|assumption|exact o0_|exact o1_|apply o2_) List.not_mem_nil (lb_ (by rfl))) rfl) rfl rfl ?_
  refine SL.val (Val.move rfl) rfl rfl ?_
  refine SL.eff (Eff.store (L' := l.abs) tabOk rfl rfl rfl (by repeat first|assumption|exact Upd.here|apply Upd.there) rfl (lb_ (by rfl)) rfl (by exact putL_whole rfl)) rfl rfl ?_
  rintro _ _ ⟨rfl, rfl⟩
  refine SL.val (Val.assign rfl) rfl rfl ?_
  refine SL.nil (SE.seq ?_)
  refine SC.ret ?_
  refine SE.then_ nofun ?_
  refine SE.fin (rs := [.cell 6 66, .tmp 7]) rfl (RV.cell rfl (RV.cellA tabOk rfl rfl (by repeat first|assumption|exact o0_|exact o1_|apply o2_) (by rfl)) (RV.tmp rfl RV.nil)) (()) (by repeat first|exact s0 _|exact s1 _|apply s2|apply s3) (by simp [It.rids]) ?_
  unfold Lg.doF
  rw [if_neg (by rw [hc24]; decide), if_pos hc31]
  rfl
 intro hc31
 refine SC.skip ?_
 refine SE.seq ?_
 refine SC.seq (SC.region ?_)
 refine SL.val (Val.to (C := .agg l.abs) (Val.loadP tabOk rfl rfl rfl (by repeat first|assumption|exact o0_|exact o1_|apply o2_) List.not_mem_nil (lb_ (by rfl))) rfl) rfl rfl ?_
 refine SL.val (Val.to (C := .agg (entA e)) (Val.loadP tabOk rfl rfl rfl (by repeat first|assumption|exact o0_|exact o1_|apply o2_) List.not_mem_nil (lb_ (by rfl))) rfl) rfl rfl ?_
 refine SL.val (Val.move rfl) rfl rfl ?_
 refine SL.val (Val.buildS (L := dgA l e n Ltr.none) tabOk rfl rfl rfl (by rfl)) rfl rfl ?_
 refine SL.eff (Eff.boxA rfl) rfl rfl ?_
 rintro _ _ ⟨b38, rfl, rfl⟩
 refine SL.val (Val.assign rfl) rfl rfl ?_
 refine SL.nil (SE.seq ?_)
 refine SC.seq (SC.region ?_)
 refine SL.val (Val.assign rfl) rfl rfl ?_
 refine SL.nil (SE.seq ?_)
 refine SC.cutS (ι := Ltr) (fun z => (.blk b38 84 (dgA (l.res e n).1 e n z) :: .blk b6 66 (zabs [.int .i64 0, .int .i64 0, .slice none 0 0, .slice none 0 0]) :: .blk b4 51 (entA e) :: (globs es er))) (fun z => [(4, ptr b4), (6, ptr b6), (9, ptr b38), (10, int (l.res e n).2)]) (fun z => True) ?_ ?_
 ·skip
  refine SC.seq (SC.region ?_)
  refine SL.val (Val.move rfl) rfl rfl ?_
  refine SL.val (Val.makeFunc rfl rfl) rfl rfl ?_
  refine SL.val (Val.move rfl) rfl rfl ?_
  refine SL.val (Val.makeFunc rfl rfl) rfl rfl ?_
  refine SL.val (Val.move rfl) rfl rfl ?_
  refine SL.val (Val.makeFunc rfl rfl) rfl rfl ?_
  refine SL.eff (Eff.buildSl tabOk Tryz.underlying86 rfl rfl rfl rfl rfl rfl rfl) rfl rfl ?_
  rintro _ _ ⟨rfl, rfl⟩
  refine SL.val (Val.to (C := int 3) (Val.lenSl rfl Tryz.underlying86 (by rfl)) rfl) rfl rfl ?_
  refine SL.val (Val.move rfl) rfl rfl ?_
  refine SL.nil (SE.seq ?_)
  refine SC.block ?_
  refine SC.loop (ι := Nat) (fun z => (.blk b38 84 (dgA (lgAt l e z) e n (oldAt l e z)) :: .blk b6 66 (zabs [.int .i64 0, .int .i64 0, .slice none 0 0, .slice none 0 0]) :: .blk b4 51 (entA e) :: (globs es er))) (fun z => [(4, ptr b4), (6, ptr b6), (9, ptr b38), (10, int 0), (45, .sl 1 (fnRow b38)), (46, int 3), (47, int (z : Nat))]) (fun z => z ≤ 3 ∧ ∀ j, j < z → erAt l e n j = 0) (fun z => 3 - z) (0) (⟨by omega, fun j hj => by omega⟩) (by exact ⟨rfl, rfl, rfl, rfl, rfl, rfl, rfl, trivial⟩) (by repeat first|exact s0 _|exact s1 _|apply s2|apply s3) ?_
  intro z hz
  refine SC.seq (SC.region ?_)
  refine SL.val (Val.ltI rfl rfl) rfl rfl ?_
  refine SL.nil (SE.seq ?_)
  refine SC.seq ?_
  refine SC.condP rfl ?_ ?_
  rotate_left
  ·intro hc48
   refine SC.exit ?_
   refine SE.then_ nofun ?_
   refine SE.then_ nofun ?_
   refine SE.exit ?_
   obtain rfl : z = 3 := by omega
   have hst := res_end (l := l) (e := e) (n := n) hz.2
   refine SE.meet (oldAt l e 3) (trivial) (by exact ⟨rfl, rfl, rfl, congrArg (fun k => some (int k)) (congrArg Prod.snd hst).symm, trivial⟩) (by rw [hst]; repeat (first | exact List.nil_sublist _ | exact List.Sublist.refl _ | apply List.Sublist.cons_cons | apply List.Sublist.cons))
  intro hc48
  have hz3 : z < 3 := by omega
  refine SC.skip ?_
  refine SE.seq ?_
  refine SC.seq ?_
  refine SC.block ?_
  refine SC.seq (SC.region ?_)
  refine SL.val (Val.indexSl (q := z) tabOk Tryz.underlying86 rfl rfl rfl rfl (fn_row hz3) rfl rfl) rfl rfl ?_
  refine SL.val (Val.load1R tabOk rfl rfl rfl) rfl rfl ?_
  refine SL.val (Val.assign rfl) rfl rfl ?_
  refine SL.nil (SE.seq ?_)
  refine SC.seq (SC.region ?_)
  refine SL.val (Val.move rfl) rfl rfl ?_
  refine SL.callv (dstep_s (l := l) (e := e) (n := n) he hr hm hf hl ha ht hz3) rfl Casts.refl (fn_goes z) rfl rfl rfl ?_
  refine After.oneR (ys := (globs es er)) rfl (by repeat first|assumption|exact m0|apply m1) (by intro y hy; simp only [globs, List.mem_cons, List.not_mem_nil, or_false] at hy; rcases hy with rfl | rfl | rfl <;> exact ⟨by repeat first|assumption|exact m0|apply m1, by intro h; cases h⟩) rfl (fun _ => rfl) ?_
  intro _
  refine ⟨_, (by repeat first|assumption|exact Upd.here|apply Upd.there), ?_⟩
  refine SL.val (Val.assign rfl) rfl rfl ?_
  refine SL.nil (SE.seq ?_)
  refine SC.seq (SC.region ?_)
  refine SL.val (Val.move rfl) rfl rfl ?_
  refine SL.val (Val.neI rfl rfl) rfl rfl ?_
  refine SL.nil (SE.seq ?_)
  refine SC.condP rfl ?_ ?_
  ·intro hc54
   refine SC.exit ?_
   refine SE.exit_ rfl ?_
   refine SE.then_ nofun ?_
   refine SE.then_ nofun ?_
   refine SE.exit ?_
   have hst := res_stop (l := l) (n := n) hz3 hz.2 hc54
   rw [lgAt_stop hz3 hc54]
   refine SE.meet (oldAt l e (z + 1)) (trivial) (by exact ⟨rfl, rfl, rfl, congrArg (fun k => some (int k)) (congrArg Prod.snd hst).symm, trivial⟩) (by rw [hst]; repeat (first | exact List.nil_sublist _ | exact List.Sublist.refl _ | apply List.Sublist.cons_cons | apply List.Sublist.cons))
  intro hc54
  refine SC.skip ?_
  refine SE.inBlock ?_
  refine SE.seq ?_
  refine SC.region ?_
  first
   | refine SL.val (Val.addI rfl rfl (by simp only [InR, lo, hi]; omega)) rfl rfl ?_
   | refine SL.val (Val.addW rfl rfl) rfl rfl ?_
  refine SL.val (Val.move rfl) rfl rfl ?_
  refine SL.nil ?_
  have her : erAt l e n z = 0 := Classical.byContradiction hc54
  refine SE.round (z + 1) (by first | omega | (dsimp only; omega)) (⟨by omega, fun j hj => by rcases Nat.lt_or_ge j z with h1 | h1; exact hz.2 j h1; obtain rfl : j = z := (by omega); exact her⟩) (by exact ⟨rfl, rfl, rfl, congrArg (fun k => some (int k)) her, rfl, rfl, rfl, trivial⟩) (by repeat first|exact s0 _|exact s1 _|apply s2|apply s3)
 ·intro z hz
  refine SC.seq ?_
  refine SC.known (p := b38 ∉ [b6] ∧ b4 ∉ [b6]) (fun _ _ h => by
    have h1 := h.mem.nodup
    simp [mids, It.mids] at h1 ⊢
    grind) fun hX => ?_
  refine SC.draw [b6] (.q 0 (.q 1 (.q 2 (.q 3 (.q 4 (.q 5 (.q 6 (.q 7 (.q 8 (.q 9 (.q 10 (.q 11 (.q 13 (.e 12 (.e 14 (.q 15 .nil)))))))))))))))) (by kernel_rfl) (by kernel_rfl) ?_
  refine SX.hx (by first|(simp[mids,It.mids,ownPc];done)|(intro k hk;simp[mids,It.mids,ownPc] at hk ⊢;grind)) fun hx9 => ?_
  refine SX.val rfl (Val.move rfl) hx9 rfl rfl ?_
  refine SX.val rfl (Val.nilCheck rfl) hx9 rfl rfl ?_
  refine SX.val rfl (Val.fieldAddr tabOk rfl rfl rfl rfl rfl) hx9 rfl rfl ?_
  refine SX.val rfl (Val.to (C := .agg (l.res e n).1.abs) (Val.loadP tabOk rfl rfl rfl (by repeat first|assumption|exact o0_|exact o1_|apply o2_) (by first | exact hX.1 | exact hX.2) (lb_ (by rfl))) rfl) hx9 rfl rfl ?_
  refine SX.val rfl (Val.fieldAddr tabOk rfl rfl rfl rfl rfl) hx9 rfl rfl ?_
  refine SX.val rfl (Val.fieldAddr tabOk rfl rfl rfl rfl rfl) hx9 rfl rfl ?_
  refine SX.val rfl (Val.to (C := int e.core.client) (Val.load1 tabOk rfl rfl (by repeat first|assumption|exact o0_|exact o1_|apply o2_) (by first | exact hX.1 | exact hX.2) (by rfl)) rfl) hx9 rfl rfl ?_
  refine SX.val rfl (Val.fieldAddr tabOk rfl rfl rfl rfl rfl) hx9 rfl rfl ?_
  refine SX.val rfl (Val.fieldAddr tabOk rfl rfl rfl rfl rfl) hx9 rfl rfl ?_
  refine SX.val rfl (Val.to (C := int e.core.stamp) (Val.load1 tabOk rfl rfl (by repeat first|assumption|exact o0_|exact o1_|apply o2_) (by first | exact hX.1 | exact hX.2) (by rfl)) rfl) hx9 rfl rfl ?_
  refine SX.val rfl (Val.move rfl) hx9 rfl rfl ?_
  refine SX.val rfl (Val.buildS (L := Oc.abs ⟨e.core.client, e.core.stamp, (l.res e n).2⟩) tabOk rfl rfl rfl (by rfl)) hx9 rfl rfl ?_
  refine SX.val rfl (Val.move rfl) hx9 rfl rfl ?_
  refine SX.call rfl (ltold_s (l := (l.res e n).1) (o := ⟨e.core.client, e.core.stamp, (l.res e n).2⟩) hf2) (by simp [mids, It.mids]) Casts.refl (by kernel_rfl) rfl rfl rfl ?_
  refine ap_ ?_
  intro _
  refine SX.eff rfl (Eff.store (L' := ((l.res e n).1.told ⟨e.core.client, e.core.stamp, (l.res e n).2⟩).abs) tabOk rfl rfl rfl (by repeat first|assumption|exact Upd.here|apply Upd.there) rfl (lb_ (by rfl)) rfl (by exact putL_whole rfl)) (by simp) rfl rfl ?_
  rintro _ _ ⟨rfl, rfl⟩
  refine SX.hx (by first|(simp[mids,It.mids,ownPc];done)|(intro k hk;simp[mids,It.mids,ownPc] at hk ⊢;grind)) fun hx9 => ?_
  refine SX.val rfl (Val.assign rfl) hx9 rfl rfl ?_
  refine SX.nil (SE.seq ?_)
  refine SC.ret ?_
  refine SE.fin (rs := [.cell 6 66, .tmp 7]) rfl (RV.cell rfl (RV.cellA tabOk rfl rfl (by repeat first|assumption|exact o0_|exact o1_|apply o2_) (by rfl)) (RV.tmp rfl RV.nil)) (()) (by repeat first|exact s0 _|exact s1 _|apply s2|apply s3) (by simp [It.rids]) ?_
  unfold Lg.doF
  rw [if_neg (by rw [hc24]; decide), if_neg hc31]
  rfl
end
end Go.Proofs.YtejcohlpjikjpaaGreatDoor.A
/-
  Batches; what may be asked about.
-/
namespace Go.Proofs.YtejcohlpjikjpaaGreatDoor.A
open Go.RowKit

section
variable {l a b : Lg} {x : Ltr} {o : Oc} {k n : Int} {s : ByteArray} {c : Core} {e : Ent} {p : Nat} {es : List Ent} {e1 e2 : Value}
set_option maxHeartbeats 2000000 in
theorem lfold_s (he : isIf e1) (hr : isIf e2) (hes : ∀ e ∈ es, EnIns e) (hl : l.Wf) (h1 : l.ls.length ≤ 500) (h2 : l.os.length ≤ 500) (h3 : es.length ≤ 300) (hsq : l.seq ≤ 1000000000) : Spec Tryz.prog 35 [.agg l.abs, entsR es, int n] (globs e1 e2) (fun _ : Unit => []) (fun _ => .tup [.agg (l.foldF es n).1.abs, errsR (l.foldF es n).2]) := by
 have hseq0 : -9223372036854775808 ≤ l.seq ∧ l.seq ≤ 9223372036854775807 := hl.seq
 have hseq1 := goes_seq n l es
 refine spec_of Tryz.func35 rfl Tryz.ntmps35 rfl fun G w => ?_
 refine SC.seq (SC.region ?_)
 refine SL.eff (Eff.boxA (cs := l.abs) rfl) rfl rfl ?_
 rintro _ _ ⟨b3, rfl, rfl⟩
 refine SL.eff (Eff.alloc tabOk rfl) rfl rfl ?_
 rintro _ _ ⟨b6, rfl, rfl⟩
 refine SL.val (Val.assign rfl) rfl rfl ?_
 refine SL.nil (SE.seq ?_)
 refine SC.seq (SC.region ?_)
 refine SL.val (Val.move rfl) rfl rfl ?_
 first
  | refine SL.val (Val.lenSl rfl Tryz.underlying33 (List.length_map _)) rfl rfl ?_
  | refine SL.val (Val.lenOwn rfl (by repeat first|assumption|exact m0|apply m1) Tryz.underlying33 (List.length_map _)) rfl rfl ?_
  | refine SL.val (Val.lenNil rfl Tryz.underlying33) rfl rfl ?_
 refine SL.eff (Eff.makeOwn (m := es.length) tabOk Tryz.underlying59 rfl rfl rfl rfl rfl rfl (by unfold maxLen; omega) (by rw [show Tryz.prog.bytesOf 35 = 8 by kernel_rfl]; omega)) rfl rfl ?_
 rintro _ _ ⟨v13, rfl, rfl⟩
 rw [show List.replicate es.length [Abs.v (Value.int .i64 0)] = errsA n l es 0 from (List.nil_append _).symm]
 refine SL.val (Val.assign rfl) rfl rfl ?_
 refine SL.nil (SE.seq ?_)
 refine SC.seq ?_
 refine SC.seq (SC.region ?_)
 refine SL.val (Val.move rfl) rfl rfl ?_
 first
  | refine SL.val (Val.lenSl rfl Tryz.underlying33 (List.length_map _)) rfl rfl ?_
  | refine SL.val (Val.lenOwn rfl (by repeat first|assumption|exact m0|apply m1) Tryz.underlying33 (List.length_map _)) rfl rfl ?_
  | refine SL.val (Val.lenNil rfl Tryz.underlying33) rfl rfl ?_
 refine SL.val (Val.move rfl) rfl rfl ?_
 refine SL.nil (SE.seq ?_)
 refine SC.block ?_
 refine SC.loop (ι := Nat) (fun z => (own 35 1 v13 (errsA n l es (z)) :: .blk b6 66 (zabs [.int .i64 0, .int .i64 0, .slice none 0 0, .slice none 0 0]) :: .blk b3 66 (Lg.goes n l (es.take (z))).1.abs :: (globs e1 e2))) (fun z => [(2, int n), (3, ptr b3), (6, ptr b6), (8, .v v13), (14, entsR es), (15, int (es.length : Nat)), (16, int (z : Nat))]) (fun z => z ≤ es.length) (fun z => es.length - z) (0) (Nat.zero_le _) (by exact ⟨rfl, rfl, rfl, rfl, rfl, rfl, rfl, trivial⟩) (by repeat first|exact s0 _|exact s1 _|apply s2|apply s3) ?_
 intro z hz
 refine SC.seq (SC.region ?_)
 refine SL.val (Val.ltI rfl rfl) rfl rfl ?_
 refine SL.nil (SE.seq ?_)
 refine SC.seq ?_
 refine SC.condP rfl ?_ ?_
 rotate_left
 ·intro hc17
  obtain rfl : z = es.length := by omega
  refine SC.exit ?_
  refine SE.then_ nofun ?_
  refine SE.then_ nofun ?_
  refine SE.exit ?_
  refine SE.seq ?_
  refine SC.seq ?_
  rw [errs_done]
  have htk : es.take es.length = es := List.take_length
  rw [htk]
  refine SC.region ?_
  refine SL.val (Val.fieldAddr tabOk rfl rfl rfl rfl rfl) rfl rfl ?_
  refine SL.val (Val.to (C := int (Lg.goes n l es).1.seq) (Val.load1 tabOk rfl rfl (by repeat first|assumption|exact o0_|exact o1_|apply o2_) List.not_mem_nil (by rfl)) rfl) rfl rfl ?_
  refine SL.val (Val.addI rfl rfl (by simp only [InR, lo, hi]; omega)) rfl rfl ?_
  refine SL.val (Val.fieldAddr tabOk rfl rfl rfl rfl rfl) rfl rfl ?_
  refine SL.eff (Eff.store (L' := (l.foldF es n).1.abs) tabOk rfl rfl rfl (by repeat first|assumption|exact Upd.here|apply Upd.there) rfl (lb_ (by rfl)) rfl (by rfl)) rfl rfl ?_
  rintro _ _ ⟨rfl, rfl⟩
  refine SL.nil (SE.seq ?_)
  refine SC.seq (SC.region ?_)
  refine SL.val (Val.to (C := .agg (l.foldF es n).1.abs) (Val.loadP tabOk rfl rfl rfl (by repeat first|assumption|exact o0_|exact o1_|apply o2_) List.not_mem_nil (lb_ (by rfl))) rfl) rfl rfl ?_
  refine SL.val (Val.move rfl) rfl rfl ?_
  refine SL.eff (Eff.store (L' := (l.foldF es n).1.abs) tabOk rfl rfl rfl (by repeat first|assumption|exact Upd.here|apply Upd.there) rfl (lb_ (by rfl)) rfl (by exact putL_whole rfl)) rfl rfl ?_
  rintro _ _ ⟨rfl, rfl⟩
  refine SL.val (Val.assign rfl) rfl rfl ?_
  refine SL.nil (SE.seq ?_)
  refine SC.ret ?_
  refine SE.freeze [] (t := 7) rfl rfl ?_
  refine SE.fin (rs := [.cell 6 66, .tmp 7]) rfl (RV.cell rfl (RV.cellA tabOk rfl rfl (by repeat first|assumption|exact o0_|exact o1_|apply o2_) (by rfl)) (RV.tmp rfl RV.nil)) (()) (by repeat first|exact s0 _|exact s1 _|apply s2|apply s3) (by simp [It.rids]) ?_
  exact rfl
 intro hc17
 have hlt : z < es.length := by omega
 have hen := hes _ (List.getElem_mem hlt)
 have hgf := goes_few n l (es.take z)
 rw [List.length_take] at hgf
 refine SC.skip ?_
 refine SE.seq ?_
 refine SC.seq ?_
 refine SC.block ?_
 refine SC.seq (SC.region ?_)
 refine SL.val (Val.move rfl) rfl rfl ?_
 refine SL.val (Val.indexSl tabOk Tryz.underlying33 rfl rfl rfl rfl (at_map (by omega)) rfl rfl) rfl rfl ?_
 refine SL.val (Val.loadAR tabOk rfl rfl rfl (by rfl)) rfl rfl ?_
 refine SL.eff (Eff.alloc tabOk rfl) rfl rfl ?_
 rintro _ _ ⟨b10, rfl, rfl⟩
 refine SL.val (Val.assign rfl) rfl rfl ?_
 refine SL.eff (Eff.store (L' := entA (es[z]'hlt)) tabOk rfl rfl rfl (by repeat first|assumption|exact Upd.here|apply Upd.there) rfl (lb_ (by rfl)) rfl (by exact putL_whole rfl)) rfl rfl ?_
 rintro _ _ ⟨rfl, rfl⟩
 refine SL.nil (SE.seq ?_)
 refine SC.region ?_
 iterate 2 refine SL.val (Val.move rfl) rfl rfl ?_
 refine SL.val (Val.to (C := .agg (Lg.goes n l (es.take (z))).1.abs) (Val.loadP tabOk rfl rfl rfl (by repeat first|assumption|exact o0_|exact o1_|apply o2_) List.not_mem_nil (lb_ (by rfl))) rfl) rfl rfl ?_
 refine SL.val (Val.to (C := .agg (entA (es[z]'hlt))) (Val.loadP tabOk rfl rfl rfl (by repeat first|assumption|exact o0_|exact o1_|apply o2_) List.not_mem_nil (lb_ (by rfl))) rfl) rfl rfl ?_
 refine SL.val (Val.move rfl) rfl rfl ?_
 refine SL.call (do_s (l := (Lg.goes n l (es.take (z))).1) (e := (es[z]'hlt)) (n := n) he hr hen.mask ⟨by omega, by omega⟩ (goes_wf n hl) hen.a (by have := hen.text; unfold maxLen at this; omega)) Casts.refl (by kernel_rfl) rfl rfl rfl ?_
 refine ap_ ?_
 intro _
 refine SL.val (Val.move rfl) rfl rfl ?_
 refine SL.val (Val.extract rfl rfl) rfl rfl ?_
 refine SL.val (Val.extract rfl rfl) rfl rfl ?_
 refine SL.eff (Eff.store (L' := (((Lg.goes n l (es.take (z))).1.doF (es[z]'hlt) n)).1.abs) tabOk rfl rfl rfl (by repeat first|assumption|exact Upd.here|apply Upd.there) rfl (lb_ (by rfl)) rfl (by exact putL_whole rfl)) rfl rfl ?_
 rintro _ _ ⟨rfl, rfl⟩
 refine SL.val (Val.indexOwn (q := z) tabOk Tryz.underlying59 rfl rfl (.inl (by repeat first|assumption|exact m0|apply m1)) rfl rfl (by rw [errs_len (by omega)]; exact hlt) rfl rfl) rfl rfl ?_
 refine SL.eff (Eff.setOwn (q := z) (ys := [int (((Lg.goes n l (es.take (z))).1.doF (es[z]'hlt) n)).2]) tabOk rfl rfl rfl (by repeat first|assumption|exact Upd.here|apply Upd.there) rfl rfl rfl (by rw [errs_len (by omega)]; exact hlt) rfl) rfl rfl ?_
 rintro _ _ ⟨rfl, rfl⟩
 refine SL.nil ?_
 refine SE.inBlock ?_
 refine SE.seq ?_
 refine SC.region ?_
 first
  | refine SL.val (Val.addI rfl rfl (by simp only [InR, lo, hi]; omega)) rfl rfl ?_
  | refine SL.val (Val.addW rfl rfl) rfl rfl ?_
 refine SL.val (Val.move rfl) rfl rfl ?_
 refine SL.nil ?_
 refine SE.round (z + 1) (by first | omega | (dsimp only; omega)) (by first | omega | (dsimp only; omega)) (by exact ⟨rfl, rfl, rfl, rfl, rfl, rfl, rfl, trivial⟩) (by rw [errs_set hlt, goes_take hlt]; repeat (first | exact List.nil_sublist _ | exact List.Sublist.refl _ | apply List.Sublist.cons_cons | apply List.Sublist.cons))
end
end Go.Proofs.YtejcohlpjikjpaaGreatDoor.A
