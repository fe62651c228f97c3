/-
  Packed out of the texts: WA7, WA8, WA9, Law, Open, OpenBytes, AOpen, WatO.
-/
import Derived.Test.YtiaeochlepkleaaW06
import Derived.Test.YtiaeochlepkleaaRows
import Derived.OpenShut
import Derived.SizedLaws
import Derived.Deep.Slices
/-
  Watch: the document's Look.
-/
set_option maxRecDepth 100000
set_option linter.unusedSimpArgs false
set_option linter.unusedVariables false
namespace Go.Proofs.Ytiaeochlepkleaa.A
open Go.RowKit

section
variable {g : Gl} {l L : List Gl} {br : Nat} {r : Value} {k : Int} {p : Gl → Bool}
theorem filt_le (z : Nat) : ((L.take z).filter (keepB l)).length ≤ L.length := Nat.le_trans (List.length_filter_le _ _) (by rw [List.length_take]; omega)
set_option maxHeartbeats 2000000 in
theorem rlookg_s (hl : ∀ x ∈ l, GlOk x) (hn : l.length ≤ 8) (hLg : ∀ x ∈ L, GlOk x) (hL : L.length ≤ 100000) : Spec Try.prog 8 [ptr br, glsA l] [own 41 7 r ((L).map Gl.abs), .blk br 29 [.v r]] (fun z : Value => [own 41 7 z ((lookL L l).map Gl.abs), .blk br 29 [.v z]]) (fun _ => int (oddF (lastF L) l)) := by
 refine spec_of Try.func8 rfl Try.ntmps8 rfl fun G w => ?_
 refine SC.seq (SC.region ?_)
 refine SL.val (Val.assign rfl) rfl rfl ?_
 refine SL.nil (SE.seq ?_)
 refine SC.seq ?_
 refine SC.seq (SC.region ?_)
 iterate 2 refine SL.val (Val.move rfl) rfl rfl ?_
 refine SL.call (rodd_s (L := L) (br := br) (r := r) hl hn hLg hL) Casts.refl (by kernel_rfl) rfl rfl rfl ?_
 refine ap_ ?_
 intro _
 refine SL.val (Val.assign rfl) rfl rfl ?_
 refine SL.nil (SE.seq ?_)
 refine SC.seq (SC.region ?_)
 refine SL.val (Val.move rfl) rfl rfl ?_
 refine SL.val (Val.neI rfl rfl) rfl rfl ?_
 refine SL.nil (SE.seq ?_)
 refine SC.condP rfl ?_ ?_
 ·intro hc16
  refine SC.seq (SC.region ?_)
  refine SL.val (Val.move rfl) rfl rfl ?_
  refine SL.val (Val.assign rfl) rfl rfl ?_
  refine SL.nil (SE.seq ?_)
  refine SC.ret ?_
  refine SE.then_ nofun ?_
  refine SE.fin (rs := [.tmp 4]) rfl (RV.tmp rfl RV.nil) (r) (by rw [lookL, if_neg hc16]; exact List.Sublist.refl _) (by simp [It.rids]) ?_
  exact rfl
 intro hc16
 have ho : oddF (lastF L) l = 0 := Classical.not_not.1 hc16
 refine SC.skip ?_
 refine SE.seq ?_
 refine SC.seq (SC.region ?_)
 refine SL.eff (Eff.buildOwn tabOk Try.underlying27 rfl rfl rfl rfl rfl rfl rfl) rfl rfl ?_
 rintro _ _ ⟨r18, rfl, rfl⟩
 refine SL.val (Val.move rfl) rfl rfl ?_
 refine SL.eff (Eff.appendE (zs := (l ++ (L.take 0).filter (keepB l)).map Gl.abs) tabOk [] (by simp) Try.underlying27 rfl rfl rfl rfl rfl rfl (gls_ones l) (by unfold maxLen; simp only [List.length_map, List.length_append, List.length_cons, List.length_nil]; omega) (by rw [show Try.prog.bytesOf 41 = 72 by kernel_rfl]; simp only [List.length_map, List.length_append, List.length_cons, List.length_nil]; omega)) rfl rfl ?_
 rintro _ _ ⟨r20, rfl, rfl⟩
 refine SL.val (Val.assign rfl) rfl rfl ?_
 refine SL.nil (SE.seq ?_)
 refine SC.seq ?_
 refine SC.seq (SC.region ?_)
 refine SL.val (Val.move rfl) rfl rfl ?_
 refine SL.val (Val.nilCheck rfl) rfl rfl ?_
 refine SL.val (Val.fieldAddr tabOk rfl rfl rfl rfl rfl) rfl rfl ?_
 refine SL.val (Val.to (C := .v r) (Val.load1 tabOk rfl rfl (by repeat first|assumption|exact o0_|exact o1_|apply o2_) List.not_mem_nil (by rfl)) rfl) rfl rfl ?_
 refine SL.val (Val.lenOwnR (m := L.length) rfl (.inl (by repeat first|assumption|exact m0_|apply m1_)) Try.underlying27 (List.length_map _)) rfl rfl ?_
 refine SL.val (Val.move rfl) rfl rfl ?_
 refine SL.nil (SE.seq ?_)
 refine SC.block ?_
 refine SC.loop (ι := Nat × Value) (fun z => [own 41 7 z.2 ((l ++ (L.take z.1).filter (keepB l)).map Gl.abs), own 41 7 r ((L).map Gl.abs), .blk br 29 [.v r]]) (fun z => [(0, ptr br), (1, glsA l), (6, .v z.2), (24, .v r), (25, int (L.length : Nat)), (26, int (z.1 : Nat))]) (fun z => z.1 ≤ L.length) (fun z => L.length - z.1) (0, r20) (Nat.zero_le _) (by exact ⟨rfl, rfl, rfl, rfl, rfl, rfl, trivial⟩) (by repeat first|exact s0_ _|exact s1_ _|apply s2_|apply s3_) ?_
 intro z hz
 refine SC.seq (SC.region ?_)
 refine SL.val (Val.ltI rfl rfl) rfl rfl ?_
 refine SL.nil (SE.seq ?_)
 refine SC.seq ?_
 refine SC.condP rfl ?_ ?_
 rotate_left
 ·intro hc27
  have hta : L.take z.1 = L := List.take_of_length_le (by omega)
  rw [hta]
  refine SC.exit ?_
  refine SE.then_ nofun ?_
  refine SE.then_ nofun ?_
  refine SE.exit ?_
  refine SE.seq ?_
  refine SC.seq (SC.region ?_)
  iterate 2 refine SL.val (Val.move rfl) rfl rfl ?_
  refine SL.val (Val.nilCheck rfl) rfl rfl ?_
  refine SL.val (Val.fieldAddr tabOk rfl rfl rfl rfl rfl) rfl rfl ?_
  refine SL.eff (Eff.storeOwn (L' := [.v z.2]) tabOk rfl rfl rfl rfl (by repeat first|assumption|exact m0_|apply m1_) (by repeat first|assumption|exact Upd.here|apply Upd.there) rfl (by rfl)) rfl rfl ?_
  rintro _ _ ⟨rfl, rfl⟩
  refine SL.nil (SE.seq ?_)
  refine SC.seq (SC.region ?_)
  refine SL.val (Val.assign rfl) rfl rfl ?_
  refine SL.nil (SE.seq ?_)
  refine SC.ret ?_
  refine SE.fin (rs := [.tmp 4]) rfl (RV.tmp rfl RV.nil) (z.2) (by rw [lookL, if_pos ho]; exact (((List.Sublist.refl _).cons _).cons_cons _)) (by simp [It.rids]) ?_
  rw [ho]
  rfl
 intro hc27
 have hlt : z.1 < L.length := by omega
 have hfl := filt_le (l := l) (L := L) z.1
 refine SC.skip ?_
 refine SE.seq ?_
 refine SC.seq ?_
 refine SC.block ?_
 refine SC.seq (SC.region ?_)
 refine SL.val (Val.indexOwn (q := z.1) tabOk Try.underlying27 rfl rfl (.inl (by repeat first|assumption|exact m0_|apply m1_)) rfl rfl (by rw [List.length_map]; exact hlt) rfl rfl) rfl rfl ?_
 refine SL.val (Val.loadOwnA tabOk rfl rfl rfl (.inl (by repeat first|assumption|exact m0_|apply m1_)) rfl (at_map hlt) rfl) rfl rfl ?_
 refine SL.eff (Eff.alloc tabOk rfl) rfl rfl ?_
 rintro _ _ ⟨b8, rfl, rfl⟩
 refine SL.eff (Eff.store (L' := (L[z.1]'hlt).abs) tabOk rfl rfl rfl (by repeat first|assumption|exact Upd.here|apply Upd.there) rfl (lb_ (by rfl)) rfl (by exact putL_whole rfl)) rfl rfl ?_
 rintro _ _ ⟨rfl, rfl⟩
 refine SL.nil (SE.seq ?_)
 refine SC.seq (SC.region ?_)
 refine SL.val (Val.assign rfl) rfl rfl ?_
 refine SL.nil (SE.seq ?_)
 refine SC.seq ?_
 refine SC.seq (SC.region ?_)
 refine SL.val (Val.move rfl) rfl rfl ?_
 first
  | refine SL.val (Val.lenSl rfl Try.underlying27 (List.length_map _)) rfl rfl ?_
  | refine SL.val (Val.lenOwn rfl (by repeat first|assumption|exact m0_|apply m1_) Try.underlying27 (List.length_map _)) rfl rfl ?_
  | refine SL.val (Val.lenNil rfl Try.underlying27) rfl rfl ?_
 refine SL.val (Val.move rfl) rfl rfl ?_
 refine SL.nil (SE.seq ?_)
 refine SC.block ?_
 refine SC.rowLe (i := 30) rfl fun hro5 => ?_
 rw [List.length_map] at hro5
 unfold maxLen at hro5
 refine SC.loop (ι := Nat) (fun y => [.blk b8 41 (L[z.1]'hlt).abs, own 41 7 z.2 ((l ++ (L.take z.1).filter (keepB l)).map Gl.abs), own 41 7 r ((L).map Gl.abs), .blk br 29 [.v r]]) (fun y => [(0, ptr br), (1, glsA l), (6, .v z.2), (24, .v r), (25, int (L.length : Nat)), (26, int (z.1 : Nat)), (8, ptr b8), (9, boo (keepB (l.take y) (L[z.1]'hlt))), (30, glsA l), (31, int (l.length : Nat)), (32, int (y : Nat))]) (fun y => y ≤ l.length) (fun y => l.length - y) (0) (Nat.zero_le _) (by exact ⟨rfl, rfl, rfl, rfl, rfl, rfl, rfl, rfl, rfl, rfl, rfl, trivial⟩) (by repeat first|exact s0_ _|exact s1_ _|apply s2_|apply s3_) ?_
 intro y hy
 refine SC.seq (SC.region ?_)
 refine SL.val (Val.ltI rfl rfl) rfl rfl ?_
 refine SL.nil (SE.seq ?_)
 refine SC.seq ?_
 refine SC.condP rfl ?_ ?_
 rotate_left
 ·intro hc33
  have hty : l.take y = l := List.take_of_length_le (by omega)
  rw [hty]
  refine SC.exit ?_
  refine SE.then_ nofun ?_
  refine SE.then_ nofun ?_
  refine SE.exit ?_
  refine SE.seq ?_
  refine SC.seq (SC.region ?_)
  refine SL.val (Val.move rfl) rfl rfl ?_
  refine SL.nil (SE.seq ?_)
  refine SC.cond rfl ?_ ?_
  rotate_left
  ·intro hc45
   have hka : keepB l (L[z.1]'hlt) = false := hc45
   refine SC.skip ?_
   refine SE.inBlock ?_
   refine SE.seq ?_
   refine SC.region ?_
   first
    | refine SL.val (Val.addI rfl rfl (by simp only [InR, lo, hi]; omega)) rfl rfl ?_
    | refine SL.val (Val.addW rfl rfl) rfl rfl ?_
   refine SL.val (Val.move rfl) rfl rfl ?_
   refine SL.nil ?_
   rw [← filt_no hlt hka]
   refine SE.round (z.1 + 1, z.2) (by first | omega | (dsimp only; omega)) ((by dsimp only; omega)) (by exact ⟨rfl, rfl, rfl, rfl, rfl, rfl, trivial⟩) (by repeat first|exact s0_ _|exact s1_ _|apply s2_|apply s3_)
  intro hc45
  have hka : keepB l (L[z.1]'hlt) = true := hc45
  refine SC.region ?_
  refine SL.val (Val.move rfl) rfl rfl ?_
  refine SL.val (Val.to (C := glA (L[z.1]'hlt)) (Val.loadP tabOk rfl rfl rfl (by repeat first|assumption|exact o0_|exact o1_|apply o2_) List.not_mem_nil (lb_ (by rfl))) rfl) rfl rfl ?_
  refine SL.eff (Eff.buildSl tabOk Try.underlying27 rfl rfl rfl rfl rfl rfl rfl) rfl rfl ?_
  rintro _ _ ⟨rfl, rfl⟩
  refine SL.eff (Eff.appendE (zs := (l ++ (L.take (z.1 + 1)).filter (keepB l)).map Gl.abs) tabOk [_] (by rw [filt_yes hlt hka, List.map_append (l₂ := [_])]; rfl) Try.underlying27 rfl rfl rfl rfl rfl rfl (by intro c hc; rw [List.mem_singleton] at hc; subst hc; rfl) (by unfold maxLen; simp only [List.length_map, List.length_append, List.length_cons, List.length_nil]; omega) (by rw [show Try.prog.bytesOf 41 = 72 by kernel_rfl]; simp only [List.length_map, List.length_append, List.length_cons, List.length_nil]; omega)) rfl rfl ?_
  rintro _ _ ⟨r49, rfl, rfl⟩
  refine SL.val (Val.assign rfl) rfl rfl ?_
  refine SL.nil ?_
  refine SE.inBlock ?_
  refine SE.seq ?_
  refine SC.region ?_
  first
   | refine SL.val (Val.addI rfl rfl (by simp only [InR, lo, hi]; omega)) rfl rfl ?_
   | refine SL.val (Val.addW rfl rfl) rfl rfl ?_
  refine SL.val (Val.move rfl) rfl rfl ?_
  refine SL.nil ?_
  refine SE.round (z.1 + 1, r49) (by first | omega | (dsimp only; omega)) ((by dsimp only; omega)) (by exact ⟨rfl, rfl, rfl, rfl, rfl, rfl, trivial⟩) (by repeat first|exact s0_ _|exact s1_ _|apply s2_|apply s3_)
 intro hc33
 have hly : y < l.length := by omega
 refine SC.skip ?_
 refine SE.seq ?_
 refine SC.seq ?_
 refine SC.block ?_
 refine SC.seq (SC.region ?_)
 refine SL.val (Val.indexSl tabOk Try.underlying27 rfl rfl rfl rfl (at_map (by omega)) rfl rfl) rfl rfl ?_
 refine SL.val (Val.loadAR tabOk rfl rfl rfl (by rfl)) rfl rfl ?_
 refine SL.eff (Eff.alloc tabOk rfl) rfl rfl ?_
 rintro _ _ ⟨b11, rfl, rfl⟩
 refine SL.eff (Eff.store (L' := (l[y]'hly).abs) tabOk rfl rfl rfl (by repeat first|assumption|exact Upd.here|apply Upd.there) rfl (lb_ (by rfl)) rfl (by exact putL_whole rfl)) rfl rfl ?_
 rintro _ _ ⟨rfl, rfl⟩
 refine SL.nil (SE.seq ?_)
 refine SC.region ?_
 iterate 2 refine SL.val (Val.move rfl) rfl rfl ?_
 refine SL.both (t := 37) rfl ?_ ?_
 ·intro hc37
  refine SL.val (Val.fieldAddr tabOk rfl rfl rfl rfl rfl) rfl rfl ?_
  refine SL.val (Val.to (C := int (l[y]'hly).who) (Val.load1 tabOk rfl rfl (by repeat first|assumption|exact o0_|exact o1_|apply o2_) List.not_mem_nil (by rfl)) rfl) rfl rfl ?_
  refine SL.val (Val.fieldAddr tabOk rfl rfl rfl rfl rfl) rfl rfl ?_
  refine SL.val (Val.to (C := int (L[z.1]'hlt).who) (Val.load1 tabOk rfl rfl (by repeat first|assumption|exact o0_|exact o1_|apply o2_) List.not_mem_nil (by rfl)) rfl) rfl rfl ?_
  refine SL.val (Val.neI rfl rfl) rfl rfl ?_
  refine SL.val (Val.pickT rfl rfl) rfl rfl ?_
  refine SL.val (Val.assign rfl) rfl rfl ?_
  refine SL.nil ?_
  refine SE.inBlock ?_
  refine SE.seq ?_
  refine SC.region ?_
  first
   | refine SL.val (Val.addI rfl rfl (by simp only [InR, lo, hi]; omega)) rfl rfl ?_
   | refine SL.val (Val.addW rfl rfl) rfl rfl ?_
  refine SL.val (Val.move rfl) rfl rfl ?_
  refine SL.nil ?_
  refine SE.round (y + 1) (by first | omega | (dsimp only; omega)) ((by omega)) (by exact ⟨rfl, rfl, rfl, rfl, rfl, rfl, rfl, congrArg (fun b : Bool => some (boo b)) (show decide ((l[y]'hly).who ≠ (L[z.1]'hlt).who) = keepB (l.take (y + 1)) (L[z.1]'hlt) by rw [keep_step hly, hc37, Bool.true_and]), rfl, rfl, rfl, trivial⟩) (by repeat first|exact s0_ _|exact s1_ _|apply s2_|apply s3_)
 intro hc37
 iterate 5 refine SL.skip rfl rfl ?_
 refine SL.val (Val.pickF rfl rfl) rfl rfl ?_
 refine SL.val (Val.assign rfl) rfl rfl ?_
 refine SL.nil ?_
 refine SE.inBlock ?_
 refine SE.seq ?_
 refine SC.region ?_
 first
  | refine SL.val (Val.addI rfl rfl (by simp only [InR, lo, hi]; omega)) rfl rfl ?_
  | refine SL.val (Val.addW rfl rfl) rfl rfl ?_
 refine SL.val (Val.move rfl) rfl rfl ?_
 refine SL.nil ?_
 refine SE.round (y + 1) (by first | omega | (dsimp only; omega)) ((by omega)) (by exact ⟨rfl, rfl, rfl, rfl, rfl, rfl, rfl, congrArg (fun b : Bool => some (boo b)) (show false = keepB (l.take (y + 1)) (L[z.1]'hlt) by rw [keep_step hly, hc37, Bool.false_and]), rfl, rfl, rfl, trivial⟩) (by repeat first|exact s0_ _|exact s1_ _|apply s2_|apply s3_)
end
end Go.Proofs.Ytiaeochlepkleaa.A
/-
  Watch: what may be asked about; fixed answers.
-/
namespace Go.Proofs.Ytiaeochlepkleaa.A
open Go.RowKit

section
variable {g : Gl} {l L : List Gl} {br : Nat} {r : Value} {k : Int} {a b : Int} {tm : List (Int × (Value × Gl))} {bw bm : Nat}
structure FewG (l : List Gl) : Prop where
  len : l.length ≤ 8
  en : ∀ j (hj : j < l.length), (∀ i (h2 : i < l[j].deeds.length), l[j].deeds[i].batch.length ≤ 6) ∧ l[j].deeds.length ≤ 30
noncomputable instance (l : List Gl) : Decidable (FewG l) := Classical.propDecidable _
theorem FewG.ok (h : FewG l) (h2 : ∀ g ∈ l, GlIns g) : ∀ g ∈ l, GlOk g := fun g hg => by
  obtain ⟨j, hj, rfl⟩ := List.getElem_of_mem hg
  refine ⟨h2 _ hg, (h.en j hj).2, fun d hd => ?_⟩
  obtain ⟨i, h3, rfl⟩ := List.getElem_of_mem hd
  exact (h.en j hj).1 i h3
def nmW : ByteArray := ⟨#[97]⟩
def eW (s : Int) : Ent := ⟨⟨4, s, 1, nmW, 0, 0, ⟨#[]⟩⟩, 0⟩
def dW (a b : Int) : Dd := ⟨a, [eW b], false⟩
def gWA : Gl := ⟨0, 0, 0, 1, 0, 0, [dW 1 1]⟩
def gWB : Gl := ⟨1, 0, 0, 1, 0, 0, [dW 1 2]⟩
theorem eW_ins {s : Int} (h : i64ok s) : EnIns (eW s) := ⟨by show i64ok 4; unfold i64ok; omega, h, by show i64ok 1; unfold i64ok; omega, by show i64ok 0; unfold i64ok; omega, by show i64ok 0; unfold i64ok; omega, by show (1 : Nat) ≤ _; unfold maxLen; omega, by show (0 : Nat) ≤ _; omega, by show (0 : Nat) < _; decide⟩
theorem dW_ins (ha : i64ok a) (hb : i64ok b) : DdIns (dW a b) := ⟨ha, fun e he => by rw [List.mem_singleton.1 he]; exact eW_ins hb⟩
theorem gW_ok {w c : Int} (hw : i64ok w) (hc : i64ok c) : GlOk ⟨w, 0, 0, 1, 0, 0, [dW 1 c]⟩ := ⟨⟨hw, by show i64ok 0; unfold i64ok; omega, by show i64ok 0; unfold i64ok; omega, by show i64ok 1; unfold i64ok; omega, by show i64ok 0; unfold i64ok; omega, by show i64ok 0; unfold i64ok; omega, fun d hd => by rw [List.mem_singleton.1 hd]; exact dW_ins (by unfold i64ok; omega) hc⟩, by show (1 : Nat) ≤ 30; decide, fun d hd => by rw [List.mem_singleton.1 hd]; show (1 : Nat) ≤ 6; decide⟩
theorem gWA_ok : GlOk gWA := gW_ok (by unfold i64ok; omega) (by unfold i64ok; omega)
theorem gWB_ok : GlOk gWB := gW_ok (by unfold i64ok; omega) (by unfold i64ok; omega)
theorem zero_ok : GlOk Gl.zero := ⟨⟨by show i64ok 0; unfold i64ok; omega, by show i64ok 0; unfold i64ok; omega, by show i64ok 0; unfold i64ok; omega, by show i64ok 0; unfold i64ok; omega, by show i64ok 0; unfold i64ok; omega, by show i64ok 0; unfold i64ok; omega, fun d hd => (zero_deeds hd).elim⟩, Nat.zero_le _, fun d hd => (zero_deeds hd).elim⟩
theorem fixR (f : Int → Option Gl) (hf : ∀ k, f k = none) {w c : Int} (j : Nat) : ruleB f j ⟨w, 0, 0, 1, 0, 0, [dW 1 c]⟩ = false := by
  match j with
  | 0 => rfl
  | 1 => show backO (f w) _ = false; rw [hf]; rfl
  | 2 => show otherO (f w) _ = false; rw [hf]; exact otherO_none _
  | _ + 3 => rfl
theorem fixO1 : oddF (lastF []) [gWA, gWB] = 16 := by
  rw [odd_last (by decide) fun j _ => by
    refine List.any_eq_false.2 fun x hx => ?_
    simp only [List.mem_cons, List.not_mem_nil, or_false] at hx
    rcases hx with rfl | rfl
    · rw [gWA, fixR (lastF []) (fun _ => rfl)]; decide
    · rw [gWB, fixR (lastF []) (fun _ => rfl)]; decide, if_neg fun h => by
    have h1 := h [dW 1 1] (by simp [gWA]) [dW 1 2] (by simp [gWB]) (dW 1 1) (by simp) (dW 1 2) (by simp) rfl rfl rfl
    have h2 := congrArg (fun l : List Ent => l.map (·.core.stamp)) h1
    exact absurd (List.head_eq_of_cons_eq h2) (by decide)]
theorem fixO2 : oddF (lastF []) [gWA] = 0 := by
  rw [odd_last (by decide) fun j _ => by
    refine List.any_eq_false.2 fun x hx => ?_
    rw [List.mem_singleton] at hx
    subst hx
    rw [gWA, fixR (lastF []) (fun _ => rfl)]; decide, if_pos]
  intro a ha b hb
  rw [List.map_singleton, List.mem_singleton] at ha hb
  subst ha
  subst hb
  intro x hx y hy _ _ _
  rw [List.mem_singleton.1 hx, List.mem_singleton.1 hy]
theorem fixO3 : oddF (lastF [gWA]) [Gl.zero] = 5 := by
  rw [odd_rule (q := 1) (by decide) (by decide) (fun j hj => by have h0 : j = 0 := Nat.lt_one_iff.1 hj; subst h0; rfl) rfl]
  rfl
theorem fixL1 : lookL [] [gWA, gWB] = [] := by rw [lookL, if_neg (by rw [fixO1]; decide)]
theorem fixL2 : lookL [] [gWA] = [gWA] := by rw [lookL, if_pos fixO2]; rfl
theorem fixL3 : lookL [gWA] [Gl.zero] = [gWA] := by rw [lookL, if_neg (by rw [fixO3]; decide)]
set_option maxHeartbeats 1000000 in
theorem few44_s  : Spec Try.prog 6 [glsA l] [] (fun _ : Unit => []) (fun _ => boo (decide (FewG l))) := by
 refine spec_of Try.func6 rfl Try.ntmps6 rfl fun G w => ?_
 refine SC.seq (SC.region ?_)
 refine SL.val (Val.assign rfl) rfl rfl ?_
 refine SL.nil (SE.seq ?_)
 refine SC.seq ?_
 refine SC.seq (SC.region ?_)
 refine SL.val (Val.move rfl) rfl rfl ?_
 first
  | refine SL.val (Val.lenSl rfl Try.underlying27 (List.length_map _)) rfl rfl ?_
  | refine SL.val (Val.lenOwn rfl (by repeat first|assumption|exact m0_|apply m1_) Try.underlying27 (List.length_map _)) rfl rfl ?_
  | refine SL.val (Val.lenNil rfl Try.underlying27) rfl rfl ?_
 refine SL.val (Val.move rfl) rfl rfl ?_
 refine SL.nil (SE.seq ?_)
 refine SC.block ?_
 refine SC.rowLe (i := 7) rfl fun hrow => ?_
 rw [List.length_map] at hrow
 unfold maxLen at hrow
 refine SC.loop (ι := Nat) (fun z => []) (fun z => [(0, glsA l), (7, glsA l), (8, int (l.length : Nat)), (9, int (z : Nat))]) (fun z => z ≤ l.length ∧ ∀ j (hj : j < l.length), j < z → (∀ i (h2 : i < l[j].deeds.length), l[j].deeds[i].batch.length ≤ 6) ∧ l[j].deeds.length ≤ 30) (fun z => l.length - z) (0) (⟨Nat.zero_le _, fun j h h2 => by omega⟩) (by exact ⟨rfl, rfl, rfl, rfl, trivial⟩) (by repeat first|exact s0_ _|exact s1_ _|apply s2_|apply s3_) ?_
 intro z hz
 refine SC.seq (SC.region ?_)
 refine SL.val (Val.ltI rfl rfl) rfl rfl ?_
 refine SL.nil (SE.seq ?_)
 refine SC.seq ?_
 refine SC.condP rfl ?_ ?_
 rotate_left
 ·intro hc10
  refine SC.exit ?_
  refine SE.then_ nofun ?_
  refine SE.then_ nofun ?_
  refine SE.exit ?_
  refine SE.seq ?_
  refine SC.seq (SC.region ?_)
  refine SL.val (Val.move rfl) rfl rfl ?_
  first
   | refine SL.val (Val.lenSl rfl Try.underlying27 (List.length_map _)) rfl rfl ?_
   | refine SL.val (Val.lenOwn rfl (by repeat first|assumption|exact m0_|apply m1_) Try.underlying27 (List.length_map _)) rfl rfl ?_
   | refine SL.val (Val.lenNil rfl Try.underlying27) rfl rfl ?_
  refine SL.val (Val.leI rfl rfl) rfl rfl ?_
  refine SL.val (Val.assign rfl) rfl rfl ?_
  refine SL.nil (SE.seq ?_)
  refine SC.ret ?_
  refine SE.fin (rs := [.tmp 2]) rfl (RV.tmp rfl RV.nil) (()) (by repeat first|exact s0_ _|exact s1_ _|apply s2_|apply s3_) (by simp [It.rids]) ?_
  refine congrArg (fun b => Abs.v (Value.bool b)) ?_
  rw [decide_eq_decide]
  exact ⟨fun h9 => ⟨by omega, fun j h1 => hz.2 j h1 (by omega)⟩, fun h9 => by have := h9.len; omega⟩
 intro hc10
 have hlt : z < l.length := by omega
 refine SC.skip ?_
 refine SE.seq ?_
 refine SC.seq ?_
 refine SC.block ?_
 refine SC.seq (SC.region ?_)
 refine SL.val (Val.indexSl tabOk Try.underlying27 rfl rfl rfl rfl (at_map (by omega)) rfl rfl) rfl rfl ?_
 refine SL.val (Val.loadAR tabOk rfl rfl rfl (by rfl)) rfl rfl ?_
 refine SL.eff (Eff.alloc tabOk rfl) rfl rfl ?_
 rintro _ _ ⟨b4, rfl, rfl⟩
 refine SL.eff (Eff.store (L' := (l[z]'hlt).abs) tabOk rfl rfl rfl (by repeat first|assumption|exact Upd.here|apply Upd.there) rfl (lb_ (by rfl)) rfl (by exact putL_whole rfl)) rfl rfl ?_
 rintro _ _ ⟨rfl, rfl⟩
 refine SL.nil (SE.seq ?_)
 refine SC.seq ?_
 refine SC.seq (SC.region ?_)
 refine SL.val (Val.fieldAddr tabOk rfl rfl rfl rfl rfl) rfl rfl ?_
 refine SL.val (Val.to (C := ddsA (l[z]'hlt).deeds) (Val.load1 tabOk rfl rfl (by repeat first|assumption|exact o0_|exact o1_|apply o2_) List.not_mem_nil (by rfl)) rfl) rfl rfl ?_
 refine SL.val (Val.lenSl (m := (l[z]'hlt).deeds.length) rfl Try.underlying39 (List.length_map _)) rfl rfl ?_
 refine SL.val (Val.move rfl) rfl rfl ?_
 refine SL.nil (SE.seq ?_)
 refine SC.block ?_
 refine SC.rowLe (i := 14) rfl fun hro2 => ?_
 rw [List.length_map] at hro2
 unfold maxLen at hro2
 refine SC.loop (ι := Nat) (fun y => [.blk b4 41 (l[z]'hlt).abs]) (fun y => [(0, glsA l), (4, ptr b4), (7, glsA l), (8, int (l.length : Nat)), (9, int (z : Nat)), (14, ddsA (l[z]'hlt).deeds), (15, int ((l[z]'hlt).deeds.length : Nat)), (16, int (y : Nat))]) (fun y => y ≤ (l[z]'hlt).deeds.length ∧ ∀ i (h2 : i < (l[z]'hlt).deeds.length), i < y → (l[z]'hlt).deeds[i].batch.length ≤ 6) (fun y => (l[z]'hlt).deeds.length - y) (0) (⟨Nat.zero_le _, fun j h h2 => by omega⟩) (by exact ⟨rfl, rfl, rfl, rfl, rfl, rfl, rfl, rfl, trivial⟩) (by repeat first|exact s0_ _|exact s1_ _|apply s2_|apply s3_) ?_
 intro y hy
 refine SC.seq (SC.region ?_)
 refine SL.val (Val.ltI rfl rfl) rfl rfl ?_
 refine SL.nil (SE.seq ?_)
 refine SC.seq ?_
 refine SC.condP rfl ?_ ?_
 rotate_left
 ·intro hc17
  refine SC.exit ?_
  refine SE.then_ nofun ?_
  refine SE.then_ nofun ?_
  refine SE.exit ?_
  refine SE.seq ?_
  refine SC.seq (SC.region ?_)
  refine SL.val (Val.fieldAddr tabOk rfl rfl rfl rfl rfl) rfl rfl ?_
  refine SL.val (Val.to (C := ddsA (l[z]'hlt).deeds) (Val.load1 tabOk rfl rfl (by repeat first|assumption|exact o0_|exact o1_|apply o2_) List.not_mem_nil (by rfl)) rfl) rfl rfl ?_
  refine SL.val (Val.lenSl (m := (l[z]'hlt).deeds.length) rfl Try.underlying39 (List.length_map _)) rfl rfl ?_
  refine SL.val (Val.gtI rfl rfl) rfl rfl ?_
  refine SL.nil (SE.seq ?_)
  refine SC.condP rfl ?_ ?_
  rotate_left
  ·intro hc28
   refine SC.skip ?_
   refine SE.inBlock ?_
   refine SE.seq ?_
   refine SC.region ?_
   first
    | refine SL.val (Val.addI rfl rfl (by simp only [InR, lo, hi]; omega)) rfl rfl ?_
    | refine SL.val (Val.addW rfl rfl) rfl rfl ?_
   refine SL.val (Val.move rfl) rfl rfl ?_
   refine SL.nil ?_
   refine SE.round (z + 1) (by first | omega | (dsimp only; omega)) (⟨by omega, fun j h1 h2 => by rcases Nat.lt_or_ge j z with h3 | h3; exact hz.2 j h1 h3; obtain rfl : j = z := (by omega); exact ⟨fun i h4 => hy.2 i h4 (by omega), by omega⟩⟩) (by exact ⟨rfl, rfl, rfl, rfl, trivial⟩) (by repeat first|exact s0_ _|exact s1_ _|apply s2_|apply s3_)
  intro hc28
  refine SC.seq (SC.region ?_)
  refine SL.val (Val.assign rfl) rfl rfl ?_
  refine SL.nil (SE.seq ?_)
  refine SC.ret ?_
  refine SE.ret ?_
  refine SE.then_ nofun ?_
  refine SE.then_ nofun ?_
  refine SE.ret ?_
  refine SE.then_ nofun ?_
  refine SE.fin (rs := [.tmp 2]) rfl (RV.tmp rfl RV.nil) (()) (by repeat first|exact s0_ _|exact s1_ _|apply s2_|apply s3_) (by simp [It.rids]) ?_
  refine boo_dec0 fun h9 => ?_
  have := (h9.en z hlt).2
  omega
 intro hc17
 have hyl : y < (l[z]'hlt).deeds.length := by omega
 refine SC.skip ?_
 refine SE.seq ?_
 refine SC.seq ?_
 refine SC.block ?_
 refine SC.seq (SC.region ?_)
 refine SL.val (Val.indexSl tabOk Try.underlying39 rfl rfl rfl rfl (at_map (by omega)) rfl rfl) rfl rfl ?_
 refine SL.val (Val.loadAR tabOk rfl rfl rfl (by rfl)) rfl rfl ?_
 refine SL.eff (Eff.alloc tabOk rfl) rfl rfl ?_
 rintro _ _ ⟨b6, rfl, rfl⟩
 refine SL.eff (Eff.store (L' := ((l[z]'hlt).deeds[y]'hyl).abs) tabOk rfl rfl rfl (by repeat first|assumption|exact Upd.here|apply Upd.there) rfl (lb_ (by rfl)) rfl (by exact putL_whole rfl)) rfl rfl ?_
 rintro _ _ ⟨rfl, rfl⟩
 refine SL.nil (SE.seq ?_)
 refine SC.seq (SC.region ?_)
 refine SL.val (Val.fieldAddr tabOk rfl rfl rfl rfl rfl) rfl rfl ?_
 refine SL.val (Val.to (C := entsR ((l[z]'hlt).deeds[y]'hyl).batch) (Val.load1 tabOk rfl rfl (by repeat first|assumption|exact o0_|exact o1_|apply o2_) List.not_mem_nil (by rfl)) rfl) rfl rfl ?_
 refine SL.val (Val.lenSl (m := ((l[z]'hlt).deeds[y]'hyl).batch.length) rfl Try.underlying35 (List.length_map _)) rfl rfl ?_
 refine SL.val (Val.gtI rfl rfl) rfl rfl ?_
 refine SL.nil (SE.seq ?_)
 refine SC.condP rfl ?_ ?_
 rotate_left
 ·intro hc23
  refine SC.skip ?_
  refine SE.inBlock ?_
  refine SE.seq ?_
  refine SC.region ?_
  first
   | refine SL.val (Val.addI rfl rfl (by simp only [InR, lo, hi]; omega)) rfl rfl ?_
   | refine SL.val (Val.addW rfl rfl) rfl rfl ?_
  refine SL.val (Val.move rfl) rfl rfl ?_
  refine SL.nil ?_
  refine SE.round (y + 1) (by first | omega | (dsimp only; omega)) (⟨by omega, fun j h1 h2 => by rcases Nat.lt_or_ge j y with h3 | h3; exact hy.2 j h1 h3; obtain rfl : j = y := (by omega); omega⟩) (by exact ⟨rfl, rfl, rfl, rfl, rfl, rfl, rfl, rfl, trivial⟩) (by repeat first|exact s0_ _|exact s1_ _|apply s2_|apply s3_)
 intro hc23
 refine SC.seq (SC.region ?_)
 refine SL.val (Val.assign rfl) rfl rfl ?_
 refine SL.nil (SE.seq ?_)
 refine SC.ret ?_
 refine SE.ret ?_
 refine SE.then_ nofun ?_
 refine SE.then_ nofun ?_
 refine SE.ret ?_
 refine SE.then_ nofun ?_
 refine SE.ret ?_
 refine SE.then_ nofun ?_
 refine SE.then_ nofun ?_
 refine SE.ret ?_
 refine SE.then_ nofun ?_
 refine SE.fin (rs := [.tmp 2]) rfl (RV.tmp rfl RV.nil) (()) (by repeat first|exact s0_ _|exact s1_ _|apply s2_|apply s3_) (by simp [It.rids]) ?_
 refine boo_dec0 fun h9 => ?_
 have := (h9.en z hlt).1 y hyl
 omega
theorem deed44_s  : Spec Try.prog 10 [int a, int b] [] (fun _ : Unit => []) (fun _ => .agg (dW a b).abs) := by
 refine spec_of Try.func10 rfl Try.ntmps10 rfl fun G w => ?_
 refine SC.seq (SC.region ?_)
 refine SL.eff (Eff.alloc tabOk rfl) rfl rfl ?_
 rintro _ _ ⟨b4, rfl, rfl⟩
 refine SL.nil (SE.seq ?_)
 refine SC.seq (SC.region ?_)
 iterate 2 refine SL.val (Val.move rfl) rfl rfl ?_
 refine SL.val (Val.buildS (L := (Core.cells ⟨4, b, 1, nmW, 0, 0, ⟨#[]⟩⟩).map .v) tabOk rfl rfl rfl (by rfl)) rfl rfl ?_
 refine SL.val (Val.buildS (L := entA (eW b)) tabOk rfl rfl rfl (by rfl)) rfl rfl ?_
 refine SL.eff (Eff.buildSl tabOk Try.underlying35 rfl rfl rfl rfl rfl rfl rfl) rfl rfl ?_
 rintro _ _ ⟨rfl, rfl⟩
 refine SL.val (Val.buildS (L := Dd.abs (dW a b)) tabOk rfl rfl rfl (by rfl)) rfl rfl ?_
 refine SL.eff (Eff.store (L' := (dW a b).abs) tabOk rfl rfl rfl (by repeat first|assumption|exact Upd.here|apply Upd.there) rfl (lb_ (by rfl)) rfl (by exact putL_whole rfl)) rfl rfl ?_
 rintro _ _ ⟨rfl, rfl⟩
 refine SL.nil (SE.seq ?_)
 refine SC.ret ?_
 refine SE.fin (rs := [.cell 4 37]) rfl (RV.cell rfl (RV.cellA tabOk rfl rfl (by repeat first|assumption|exact o0_|exact o1_|apply o2_) (by rfl)) RV.nil) (()) (by repeat first|exact s0_ _|exact s1_ _|apply s2_|apply s3_) (by simp [It.rids]) ?_
 exact rfl
set_option maxHeartbeats 2000000 in
theorem fixed44_s  : Spec Try.prog 4 [] [] (fun _ : Unit => []) (fun _ => boo true) := by
 refine spec_of Try.func4 rfl Try.ntmps4 rfl fun G w => ?_
 refine SC.seq (SC.region ?_)
 refine SL.val (Val.assign rfl) rfl rfl ?_
 refine SL.nil (SE.seq ?_)
 refine SC.seq (SC.region ?_)
 refine SL.call (wnew_s) Casts.refl (by kernel_rfl) rfl rfl rfl ?_
 refine After.mid [] (σ1 := []) (β := []) rfl (by intro x hx; cases hx) ?_
 intro z7
 refine SL.val (Val.assign rfl) rfl rfl ?_
 refine SL.nil (SE.seq ?_)
 refine SC.seq (SC.region ?_)
 refine SL.call (deed44_s (a := 1) (b := 1)) Casts.refl (by kernel_rfl) rfl rfl rfl ?_
 refine ap_ ?_
 intro _
 refine SL.eff (Eff.buildSl tabOk Try.underlying39 rfl rfl rfl rfl rfl rfl rfl) rfl rfl ?_
 rintro _ _ ⟨rfl, rfl⟩
 refine SL.val (Val.buildS (L := gWA.abs) tabOk rfl rfl rfl (by rfl)) rfl rfl ?_
 refine SL.eff (Eff.alloc tabOk rfl) rfl rfl ?_
 rintro _ _ ⟨b2, rfl, rfl⟩
 refine SL.eff (Eff.store (L' := gWA.abs) tabOk rfl rfl rfl (by repeat first|assumption|exact Upd.here|apply Upd.there) rfl (lb_ (by rfl)) rfl (by exact putL_whole rfl)) rfl rfl ?_
 rintro _ _ ⟨rfl, rfl⟩
 refine SL.nil (SE.seq ?_)
 refine SC.seq (SC.region ?_)
 refine SL.call (deed44_s (a := 1) (b := 2)) Casts.refl (by kernel_rfl) rfl rfl rfl ?_
 refine ap_ ?_
 intro _
 refine SL.eff (Eff.buildSl tabOk Try.underlying39 rfl rfl rfl rfl rfl rfl rfl) rfl rfl ?_
 rintro _ _ ⟨rfl, rfl⟩
 refine SL.val (Val.buildS (L := gWB.abs) tabOk rfl rfl rfl (by rfl)) rfl rfl ?_
 refine SL.eff (Eff.alloc tabOk rfl) rfl rfl ?_
 rintro _ _ ⟨b3, rfl, rfl⟩
 refine SL.eff (Eff.store (L' := gWB.abs) tabOk rfl rfl rfl (by repeat first|assumption|exact Upd.here|apply Upd.there) rfl (lb_ (by rfl)) rfl (by exact putL_whole rfl)) rfl rfl ?_
 rintro _ _ ⟨rfl, rfl⟩
 refine SL.nil (SE.seq ?_)
 refine SC.seq (SC.region ?_)
 refine SL.val (Val.move rfl) rfl rfl ?_
 refine SL.val (Val.to (C := glA gWA) (Val.loadP tabOk rfl rfl rfl (by repeat first|assumption|exact o0_|exact o1_|apply o2_) List.not_mem_nil (lb_ (by rfl))) rfl) rfl rfl ?_
 refine SL.val (Val.to (C := glA gWB) (Val.loadP tabOk rfl rfl rfl (by repeat first|assumption|exact o0_|exact o1_|apply o2_) List.not_mem_nil (lb_ (by rfl))) rfl) rfl rfl ?_
 refine SL.eff (Eff.buildSl tabOk Try.underlying27 rfl rfl rfl rfl rfl rfl rfl) rfl rfl ?_
 rintro _ _ ⟨rfl, rfl⟩
 refine SL.call (wlook_s (tm := []) (L := []) (l := [gWA, gWB]) (bw := z7.1) (bm := z7.2) Mems.nil (by intro x hx; simp only [List.mem_cons, List.not_mem_nil, or_false] at hx; rcases hx with rfl | rfl; exact gWA_ok; exact gWB_ok) (by decide)) Casts.refl (by kernel_rfl) rfl rfl rfl ?_
 refine After.mid [_, _] (β := []) rfl (by intro x hx; simp only [List.mem_cons, List.not_mem_nil, or_false] at hx; rcases hx with rfl | rfl | rfl <;> rfl) ?_
 intro t1
 rw [fixO1]
 obtain ⟨t1, hm1⟩ := t1
 rw [fixL1] at hm1
 refine SL.val (Val.assign rfl) rfl rfl ?_
 refine SL.nil (SE.seq ?_)
 refine SC.seq (SC.region ?_)
 refine SL.val (Val.move rfl) rfl rfl ?_
 refine SL.val (Val.to (C := glA gWA) (Val.loadP tabOk rfl rfl rfl (by repeat first|assumption|exact o0_|exact o1_|apply o2_) List.not_mem_nil (lb_ (by rfl))) rfl) rfl rfl ?_
 refine SL.eff (Eff.buildSl tabOk Try.underlying27 rfl rfl rfl rfl rfl rfl rfl) rfl rfl ?_
 rintro _ _ ⟨rfl, rfl⟩
 refine SL.call (wlook_s (tm := t1) (L := []) (l := [gWA]) (bw := z7.1) (bm := z7.2) hm1 (by intro x hx; rw [List.mem_singleton.1 hx]; exact gWA_ok) (by decide)) Casts.refl (by kernel_rfl) rfl rfl rfl ?_
 refine After.mid [_, _] (β := []) rfl (by intro x hx; simp only [List.mem_cons, List.not_mem_nil, or_false] at hx; rcases hx with rfl | rfl | rfl <;> rfl) ?_
 intro t2
 rw [fixO2]
 obtain ⟨t2, hm2⟩ := t2
 rw [fixL2] at hm2
 refine SL.val (Val.assign rfl) rfl rfl ?_
 refine SL.nil (SE.seq ?_)
 refine SC.seq (SC.region ?_)
 refine SL.val (Val.move rfl) rfl rfl ?_
 refine SL.val (Val.buildS (L := [int 0, int 0, int 0, int 0, int 0, int 0, .v (.slice none 0 0)]) tabOk rfl rfl rfl (by rfl)) rfl rfl ?_
 refine SL.cast (t := 24) (glA Gl.zero) rfl (cast_agg (Casts.keep (Casts.keep (Casts.keep (Casts.keep (Casts.keep (Casts.keep (Casts.nils (s := 3) Casts.refl)))))))) ?_
 refine SL.eff (Eff.buildSl tabOk Try.underlying27 rfl rfl rfl rfl rfl rfl rfl) rfl rfl ?_
 rintro _ _ ⟨rfl, rfl⟩
 refine SL.call (wlook_s (tm := t2) (L := [gWA]) (l := [Gl.zero]) (bw := z7.1) (bm := z7.2) hm2 (by intro x hx; rw [List.mem_singleton.1 hx]; exact zero_ok) (by decide)) Casts.refl (by kernel_rfl) rfl rfl rfl ?_
 refine After.mid [_, _] (β := []) rfl (by intro x hx; simp only [List.mem_cons, List.not_mem_nil, or_false] at hx; rcases hx with rfl | rfl | rfl <;> rfl) ?_
 intro t3
 rw [fixO3]
 obtain ⟨t3, hm3⟩ := t3
 rw [fixL3] at hm3
 refine SL.val (Val.assign rfl) rfl rfl ?_
 refine SL.nil (SE.seq ?_)
 refine SC.seq (SC.region ?_)
 refine SL.val (Val.move rfl) rfl rfl ?_
 refine SL.val (Val.to (C := boo true) (Val.eqI rfl rfl) (rfl)) rfl rfl ?_
 iterate 2 refine SL.val (Val.move rfl) rfl rfl ?_
 refine SL.val (Val.to (C := boo true) (Val.eqI rfl rfl) (rfl)) rfl rfl ?_
 refine SL.val (Val.pickT rfl rfl) rfl rfl ?_
 iterate 2 refine SL.val (Val.move rfl) rfl rfl ?_
 refine SL.val (Val.to (C := boo true) (Val.eqI rfl rfl) (rfl)) rfl rfl ?_
 refine SL.val (Val.pickT rfl rfl) rfl rfl ?_
 iterate 2 refine SL.val (Val.move rfl) rfl rfl ?_
 refine SL.call (wseen_s (tm := t3) (bw := z7.1) (bm := z7.2)) Casts.refl (by kernel_rfl) rfl rfl rfl ?_
 refine ap_ ?_
 intro _
 refine SL.val (Val.to (C := boo true) (Val.eqI rfl rfl) (by rw [hm3.len]; rfl)) rfl rfl ?_
 refine SL.val (Val.pickT rfl rfl) rfl rfl ?_
 refine SL.val (Val.assign rfl) rfl rfl ?_
 refine SL.nil (SE.seq ?_)
 refine SC.ret ?_
 refine SE.fin (rs := [.tmp 0]) rfl (RV.tmp rfl RV.nil) (()) (by repeat first|exact s0_ _|exact s1_ _|apply s2_|apply s3_) (by simp [It.rids]) ?_
 exact rfl
end
end Go.Proofs.Ytiaeochlepkleaa.A
/-
  WatchLooks: the law.
-/
namespace Go.Proofs.Ytiaeochlepkleaa.A
open Go.RowKit

section
variable {rows : List (List Gl)}
theorem look_le (L l : List Gl) : (lookL L l).length ≤ l.length + L.length := by
  unfold lookL
  split
  · exact newRow_le L l
  · omega
set_option maxHeartbeats 4000000 in
theorem wlooks_s (hi9 : ∀ l ∈ rows, ∀ x ∈ l, GlIns x) : Spec Try.prog 3 [.sl 1 (rows.map fun l => [glsA l])] [] (fun _ : Unit => []) (fun _ => boo true) := by
 refine spec_of Try.func3 rfl Try.ntmps3 rfl fun G w => ?_
 refine SC.seq (SC.region ?_)
 refine SL.val (Val.assign rfl) rfl rfl ?_
 refine SL.nil (SE.seq ?_)
 refine SC.seq ?_
 refine SC.seq (SC.region ?_)
 refine SL.call (fixed44_s) Casts.refl (by kernel_rfl) rfl rfl rfl ?_
 refine ap_ ?_
 intro _
 refine SL.val (Val.notT rfl) rfl rfl ?_
 refine SL.nil (SE.seq ?_)
 refine SC.condF rfl ?_
 refine SC.skip ?_
 refine SE.seq ?_
 refine SC.seq ?_
 refine SC.seq (SC.region ?_)
 refine SL.val (Val.move rfl) rfl rfl ?_
 first
  | refine SL.val (Val.lenSl rfl Try.underlying22 (List.length_map _)) rfl rfl ?_
  | refine SL.val (Val.lenOwn rfl (by repeat first|assumption|exact m0_|apply m1_) Try.underlying22 (List.length_map _)) rfl rfl ?_
  | refine SL.val (Val.lenNil rfl Try.underlying22) rfl rfl ?_
 refine SL.val (Val.gtI rfl rfl) rfl rfl ?_
 refine SL.nil (SE.seq ?_)
 refine SC.condP rfl ?_ ?_
 ·intro hc12
  refine SC.seq (SC.region ?_)
  refine SL.val (Val.assign rfl) rfl rfl ?_
  refine SL.nil (SE.seq ?_)
  refine SC.ret ?_
  refine SE.then_ nofun ?_
  refine SE.fin (rs := [.tmp 2]) rfl (RV.tmp rfl RV.nil) (()) (by repeat first|exact s0_ _|exact s1_ _|apply s2_|apply s3_) (by simp [It.rids]) ?_
  exact rfl
 intro hc12
 refine SC.skip ?_
 refine SE.seq ?_
 refine SC.seq (SC.region ?_)
 refine SL.call (wnew_s) Casts.refl (by kernel_rfl) rfl rfl rfl ?_
 refine After.mid [] (σ1 := []) (β := []) rfl (by intro x hx; cases hx) ?_
 intro z7
 refine SL.val (Val.buildS tabOk rfl rfl rfl rfl) rfl rfl ?_
 refine SL.own0 41 7 ?_
 refine SL.eff (Eff.boxA (cs := [.v (.slice none 0 0)]) rfl) rfl rfl ?_
 rintro _ _ ⟨b15, rfl, rfl⟩
 refine SL.re [] (Re.perm (List.Perm.swap _ _ _) (by intro x hx; simp only [List.mem_cons, List.not_mem_nil, or_false] at hx; rcases hx with rfl | rfl <;> rfl)) rfl ?_
 iterate 2 refine SL.val (Val.assign rfl) rfl rfl ?_
 refine SL.nil (SE.seq ?_)
 refine SC.seq ?_
 refine SC.seq (SC.region ?_)
 refine SL.val (Val.move rfl) rfl rfl ?_
 first
  | refine SL.val (Val.lenSl rfl Try.underlying22 (List.length_map _)) rfl rfl ?_
  | refine SL.val (Val.lenOwn rfl (by repeat first|assumption|exact m0_|apply m1_) Try.underlying22 (List.length_map _)) rfl rfl ?_
  | refine SL.val (Val.lenNil rfl Try.underlying22) rfl rfl ?_
 refine SL.val (Val.move rfl) rfl rfl ?_
 refine SL.nil (SE.seq ?_)
 refine SC.block ?_
 refine SC.rowLe (i := 16) rfl fun hrow => ?_
 rw [List.length_map] at hrow
 unfold maxLen at hrow
 refine SC.loop (ι := Nat × List (Int × (Value × Gl)) × List Gl × Value) (fun z => [own 41 7 z.2.2.2 ((z.2.2.1).map Gl.abs), .blk b15 29 [.v z.2.2.2], .blk z7.1 44 [mapV z7.2], facts (facM glA z.2.1), .pc (mapPc z7.2 intK id intOk (rawM z.2.1))]) (fun z => [(3, ptr z7.1), (4, ptr b15), (16, .sl 1 (rows.map fun l => [glsA l])), (17, int (rows.length : Nat)), (18, int (z.1 : Nat))]) (fun z => z.1 ≤ rows.length ∧ Mems z.2.1 z.2.2.1 ∧ z.2.2.1.length ≤ 8 * z.1) (fun z => rows.length - z.1) (0, [], [], (.slice none 0 0)) (⟨Nat.zero_le _, Mems.nil, Nat.le_refl _⟩) (by exact ⟨rfl, rfl, rfl, rfl, rfl, trivial⟩) (by repeat first|exact s0_ _|exact s1_ _|apply s2_|apply s3_) ?_
 intro z hz
 refine SC.seq (SC.region ?_)
 refine SL.val (Val.ltI rfl rfl) rfl rfl ?_
 refine SL.nil (SE.seq ?_)
 refine SC.seq ?_
 refine SC.condP rfl ?_ ?_
 rotate_left
 ·intro hc19
  refine SC.exit ?_
  refine SE.then_ nofun ?_
  refine SE.then_ nofun ?_
  refine SE.exit ?_
  refine SE.seq ?_
  refine SC.seq (SC.region ?_)
  refine SL.val (Val.assign rfl) rfl rfl ?_
  refine SL.nil (SE.seq ?_)
  refine SC.seq (SC.region ?_)
  refine SL.val (Val.move rfl) rfl rfl ?_
  refine SL.call (wlook_no (A := .v (.slice none 0 0))) Casts.refl (by kernel_rfl) rfl rfl rfl ?_
  refine ap_ ?_
  intro _
  refine SL.val (Val.to (C := boo true) (Val.eqI rfl rfl) (rfl)) rfl rfl ?_
  iterate 2 refine SL.val (Val.move rfl) rfl rfl ?_
  refine SL.call (wseen_no) Casts.refl (by kernel_rfl) rfl rfl rfl ?_
  refine ap_ ?_
  intro _
  refine SL.val (Val.to (C := boo true) (Val.eqI rfl rfl) (rfl)) rfl rfl ?_
  refine SL.val (Val.pickT rfl rfl) rfl rfl ?_
  refine SL.val (Val.assign rfl) rfl rfl ?_
  refine SL.nil (SE.seq ?_)
  refine SC.ret ?_
  refine SE.fin (rs := [.tmp 2]) rfl (RV.tmp rfl RV.nil) (()) (by repeat first|exact s0_ _|exact s1_ _|apply s2_|apply s3_) (by simp [It.rids]) ?_
  exact rfl
 intro hc19
 have hlt : z.1 < rows.length := by omega
 have hin := hi9 _ (List.getElem_mem hlt)
 refine SC.skip ?_
 refine SE.seq ?_
 refine SC.seq ?_
 refine SC.block ?_
 refine SC.seq (SC.region ?_)
 refine SL.val (Val.indexSl tabOk Try.underlying22 rfl rfl rfl rfl (at_map (by omega)) rfl rfl) rfl rfl ?_
 refine SL.val (Val.load1R tabOk rfl rfl rfl) rfl rfl ?_
 refine SL.val (Val.assign rfl) rfl rfl ?_
 refine SL.nil (SE.seq ?_)
 refine SC.seq ?_
 refine SC.seq (SC.region ?_)
 refine SL.val (Val.move rfl) rfl rfl ?_
 refine SL.call (few44_s (l := (rows[z.1]'hlt))) Casts.refl (by kernel_rfl) rfl rfl rfl ?_
 refine ap_ ?_
 intro _
 refine SL.val (Val.notP rfl) rfl rfl ?_
 refine SL.nil (SE.seq ?_)
 refine SC.condP rfl ?_ ?_
 ·intro hc24
  refine SC.seq (SC.region ?_)
  refine SL.val (Val.assign rfl) rfl rfl ?_
  refine SL.nil (SE.seq ?_)
  refine SC.ret ?_
  refine SE.then_ nofun ?_
  refine SE.ret ?_
  refine SE.then_ nofun ?_
  refine SE.then_ nofun ?_
  refine SE.ret ?_
  refine SE.then_ nofun ?_
  refine SE.fin (rs := [.tmp 2]) rfl (RV.tmp rfl RV.nil) (()) (by repeat first|exact s0_ _|exact s1_ _|apply s2_|apply s3_) (by simp [It.rids]) ?_
  exact rfl
 intro hc24
 have hfw : FewG (rows[z.1]'hlt) := by simpa using hc24
 have hok := hfw.ok hin
 have hle := look_le z.2.2.1 (rows[z.1]'hlt)
 have hl8 := hfw.len
 refine SC.skip ?_
 refine SE.seq ?_
 refine SC.seq ?_
 refine SC.draw ([z7.1, z7.2, b15] ++ z.2.2.2.ownBlock.toList) (.q 0 (.q 1 (.q 3 (.q 4 (.e 2 (.e 5 (.q 6 (.q 7 (.q 8 (.q 10 (.q 11 (.q 12 (.q 13 (.q 14 (.e 9 (.q 15 (.q 16 .nil))))))))))))))))) (by kernel_rfl) (by kernel_rfl) ?_
 refine SX.hx (by intro k hk; simp [mids, It.mids, ownPc, factsPc, mapPc] at hk ⊢ <;> grind) fun hx9 => ?_
 refine SX.val rfl (Val.move rfl) hx9 rfl rfl ?_
 refine SX.val rfl (Val.move rfl) hx9 rfl rfl ?_
 refine SX.val rfl (Val.move rfl) hx9 rfl rfl ?_
 refine SX.val rfl (Val.move rfl) hx9 rfl rfl ?_
 refine SX.call rfl (wlook_s (tm := z.2.1) (L := z.2.2.1) (l := (rows[z.1]'hlt)) (bw := z7.1) (bm := z7.2) hz.2.1 hok hfw.len) (by intro k hk; simp [mids, It.mids, ownPc, factsPc, mapPc] at hk ⊢ <;> grind) Casts.refl (by kernel_rfl) rfl rfl rfl ?_
 refine After.mid [_, _] (β := []) rfl (by intro x hx; simp only [List.mem_cons, List.not_mem_nil, or_false] at hx; rcases hx with rfl | rfl | rfl <;> rfl) ?_
 intro t1
 obtain ⟨t1, hm2⟩ := t1
 refine SX.callX ([]) rfl (rlookg_s (br := b15) (r := z.2.2.2) (L := z.2.2.1) (l := (rows[z.1]'hlt)) hok hfw.len hz.2.1.gl (by omega)) (by intro k hk; simp [mids, It.mids, ownPc, factsPc, mapPc] at hk ⊢ <;> grind) (by simp) Casts.refl (by kernel_rfl) rfl rfl rfl ?_
 refine After.mid [] (β := [_, _, _]) rfl (by intro x hx; simp only [List.mem_cons, List.not_mem_nil, or_false] at hx; rcases hx with rfl | rfl <;> rfl) ?_
 intro r30
 refine SX.hx (by intro k hk; simp [mids, It.mids, ownPc, factsPc, mapPc] at hk ⊢ <;> grind) fun hx9 => ?_
 refine SX.val rfl (Val.to (C := boo false) (Val.neI rfl rfl) (congrArg (fun b : Bool => Abs.v (Value.bool b)) (by simp))) hx9 rfl rfl ?_
 refine SX.val rfl (Val.move rfl) (by simp) rfl rfl ?_
 refine SX.val rfl (Val.move rfl) (by simp) rfl rfl ?_
 refine SX.val rfl (Val.move rfl) (by simp) rfl rfl ?_
 refine SX.val rfl (Val.nilCheck rfl) (by simp) rfl rfl ?_
 refine SX.val rfl (Val.fieldAddr tabOk rfl rfl rfl rfl rfl) (by simp) rfl rfl ?_
 refine SX.val rfl (Val.to (C := .v r30) (Val.load1 tabOk rfl rfl (by repeat first|assumption|exact o0_|exact o1_|apply o2_) List.not_mem_nil (by rfl)) rfl) hx9 rfl rfl ?_
 refine SX.val rfl (Val.lenOwnR (m := (lookL z.2.2.1 (rows[z.1]'hlt)).length) rfl (.inl (by repeat first|assumption|exact m0_|apply m1_)) Try.underlying27 (List.length_map _)) hx9 rfl rfl ?_
 refine SX.call rfl (wseen_s (tm := t1) (bw := z7.1) (bm := z7.2)) (by simp [mids, It.mids]) Casts.refl (by kernel_rfl) rfl rfl rfl ?_
 refine ap_ ?_
 intro _
 refine SX.hx (by intro k hk; simp [mids, It.mids, ownPc, factsPc, mapPc] at hk ⊢ <;> grind) fun hx9 => ?_
 refine SX.val rfl (Val.to (C := boo false) (Val.neI rfl rfl) (congrArg (fun b : Bool => Abs.v (Value.bool b)) (by rw [hm2.len]; try simp))) hx9 rfl rfl ?_
 refine SX.val rfl (Val.pickF rfl rfl) (by simp) rfl rfl ?_
 refine SX.nil (SE.seq ?_)
 refine SC.condF rfl ?_
 refine SC.skip ?_
 refine SE.inBlock ?_
 refine SE.seq ?_
 refine SC.region ?_
 first
  | refine SL.val (Val.addI rfl rfl (by simp only [InR, lo, hi]; omega)) rfl rfl ?_
  | refine SL.val (Val.addW rfl rfl) rfl rfl ?_
 refine SL.val (Val.move rfl) rfl rfl ?_
 refine SL.nil ?_
 refine SE.round (z.1 + 1, t1, lookL z.2.2.1 (rows[z.1]'hlt), r30) (by first | omega | (dsimp only; omega)) (⟨by dsimp only; omega, hm2, by dsimp only; omega⟩) (by exact ⟨rfl, rfl, rfl, rfl, rfl, trivial⟩) (by repeat first|exact s0_ _|exact s1_ _|apply s2_|apply s3_)
end
end Go.Proofs.Ytiaeochlepkleaa.A
/-
  From a walk that returns true and changes no old memory to the given statement, for any law without package variables.
-/
namespace Go.Proofs.Ytiaeochlepkleaa
open Go.ChangeShapes Go.WideShapes Go.ChangeAt Go.RowKit

theorem law_own : ownKnob Try.prog.godebug = none := by kernel_rfl
theorem law_laidOut : laidOutB Try.prog = true := by kernel_rfl

theorem trodAll_below {H : Type} {enc : TypeId × Value → H} {W W' : World} (hb : Below W.heap.size W W') :
    ∀ (ts : List TypeId) (vs : List Value) (ds : List (DataW H)) (p : List MemPlace), (∀ t ∈ ts, Try.prog.readableRec t = true ∧ t < Try.prog.types.size) →
      DataW.TrodAll enc Try.prog W 0 (fun _ => true) true ts vs ds p → ∃ q, DataW.TrodAll enc Try.prog W' 0 (fun b => decide (b < W.heap.size)) true ts vs ds q
  | [], [], [], p, _, h => ⟨p, h⟩
  | t :: ts, v :: vs, d :: ds, p, hr, h => by
    obtain ⟨p0, q0, h0, h1, rfl⟩ := h
    obtain ⟨q, hq⟩ := trodAll_below hb ts vs ds q0 (fun t ht => hr t (List.mem_cons_of_mem _ ht)) h1
    have lt0 : ∀ x ∈ p0, x.block < W.heap.size := by obtain ⟨m, hm⟩ := h0; exact DataW.trod_lt m _ _ _ hm
    exact ⟨p0 ++ q, p0, q, Below.trod law_laidOut (hr t List.mem_cons_self).1 (hr t List.mem_cons_self).2 h0 hb lt0, hq, rfl⟩
  | [], _ :: _, _, _, _, h => h.elim
  | [], [], _ :: _, _, _, h => h.elim
  | _ :: _, [], _, _, _, h => h.elim
  | _ :: _, _ :: _, [], _, _, h => h.elim

set_option maxRecDepth 100000 in
theorem law_lift {H : Type} {enc : TypeId × Value → H} {os : Os} (started : os.Started) {f : FuncId} {fn : Func} {s : ChangeSpec}
    (noInit : Try.prog.inits.idxOf? f = none) (hfn : Try.prog.funcs[f]? = some fn) (hvars : s.vars = []) (hres : fn.resultTypes = #[4])
    (hparB : (fn.params.toList.all fun t => Try.prog.readableRec t && decide (t < Try.prog.types.size)) = true)
    (hspec : ∀ ds : List (DataW H), ds.length = fn.params.size → s.fn H (ds ++ []) = { results := [.lit (.bool true)], args := ds })
    (wit : ∃ (w : World) (tape : Tape) (i : Input), w.os = os ∧ (w.forCall tape i).Shaped Try.prog ∧ i.vars = [] ∧ Input.okWide Try.prog (w.forCall tape i) .any w.heap.size f i ∧
      s.pre6 enc Try.prog fn [] false (w.forCall tape i).memory i.args ∧ Assume.holds {} Try.prog (lone (Frame.enter Try.prog f i.args .normal) [] (w.forCall tape i)))
    (walk : ∀ (W : World) (base : Nat) (args : Array Value) (ds : List (DataW H)) (p : List MemPlace),
      (∀ (j : Nat) t v, fn.params[j]? = some t → args[j]? = some v → Value.okWide Try.prog W .any base t v) →
      DataW.TrodAll enc Try.prog W 0 (fun _ => true) true fn.params.toList args.toList ds p →
      (DataW.weightsEach Try.prog fn.params.toList ds).all (· ≤ reachBytes) = true →
      Calls Try.prog f args W fun e W' => e = .returned (.bool true) ∧ Ext [] W W') :
    ReturnsInHanded {} Try.checked os f .any (s.pre6 enc Try.prog fn [] false) (s.post enc Try.prog fn false true false false) := by
  have hpar : ∀ t ∈ fn.params.toList, Try.prog.readableRec t = true ∧ t < Try.prog.types.size := by
    simpa only [List.all_eq_true, Bool.and_eq_true, decide_eq_true_eq] using hparB
  refine returnsInHanded_of_change_sized (C := Try.checked) law_own started noInit hfn wit ?_
  intro W base args ds gs before hval0 hW hcnd hsz _
  have hval : ∀ (j : Nat) t v, fn.params[j]? = some t → args[j]? = some v → Value.okWide Try.prog W .any base t v := hval0
  have hW' := hW
  obtain ⟨p, q, hA0, hV, rfl, hfz, hnd⟩ := hW
  have hA : DataW.TrodAll enc Try.prog W 0 (fun _ => true) true fn.params.toList args.toList ds p := hA0
  rw [hvars] at hV
  obtain ⟨rfl, rfl⟩ := trodVars_none hV
  have hsz' : (DataW.weightsEach Try.prog fn.params.toList ds).all (· ≤ reachBytes) = true := by
    have h2 := hsz
    simp only [ChangeSpec.plain, DataSpec.varTypes, hvars, List.filterMap_nil, List.append_nil] at h2
    exact h2
  refine (walk W base args ds p hval hA hsz').mono fun e W' ⟨he, bel⟩ => ?_
  subst he
  have hlen : ds.length = fn.params.size := by
    have : ∀ (ts : List TypeId) (vs : List Value) (ds : List (DataW H)) (p : List MemPlace), DataW.TrodAll enc Try.prog W 0 (fun _ => true) true ts vs ds p → ds.length = ts.length := by
      intro ts
      induction ts with
      | nil => intro vs ds p h; cases vs <;> cases ds <;> first | rfl | exact h.elim
      | cons t ts ih =>
        intro vs ds p h
        cases vs with
        | nil => exact h.elim
        | cons v vs =>
          cases ds with
          | nil => exact h.elim
          | cons d ds => obtain ⟨p0, q0, _, h1, _⟩ := h; simp [ih vs ds q0 h1]
    simpa using this _ _ _ _ hA
  obtain ⟨pa, hpa⟩ := trodAll_below (enc := enc) bel.below fn.params.toList args.toList ds p hpar hA
  refine ⟨_, rfl, ds, [], p ++ [], [], pa, [], hW', ?_, ?_, ?_, bel.below.frame _, fun h => by cases h⟩
  · rw [hspec ds hlen, hres]
    exact trodAll_mk1 (shut_bool Try.underlying4 _)
  · rw [hspec ds hlen]; exact hpa
  · rw [hspec ds hlen, hvars]; rfl

theorem spot_none {w : World} {b o : Nat} {s : Option Nat} {v : Value} (h : w.cell? ⟨b, o, s⟩ = some v) : s = none := by
  have := World.cell?_spot h
  simpa using this

end Go.Proofs.Ytiaeochlepkleaa
/-
  Arguments opened down to their cells: a struct, however deep, is its cells, each read by its own type.
-/
namespace Go.Proofs.Ytiaeochlepkleaa
open Go.RowKit Go.ChangeShapes Go.WideShapes Go.ChangeAt

/-- The types of a type's cells, in order. -/
def leaves (P : Program) : Nat → TypeId → Option (List TypeId)
  | 0, _ => none
  | d + 1, t =>
    match P.underlying t with
    | some (.struct fs) => fs.toList.foldlM (fun acc f => (leaves P d f.type).bind fun l => if f.offset = acc.length ∧ l.length = P.cellsOf f.type then some (acc ++ l) else none) []
    | some (.array n e) => (leaves P d e).bind fun l => if l.length = P.cellsOf e then some (List.replicate n l).flatten else none
    | some _ => some [t]
    | none => none

section
variable {H : Type} {enc : TypeId × Value → H} {P : Program} {w : World} {base : Nat} {spare : Nat → Bool} {held : Bool}

/-- Cell j reads by its own type. -/
def LeafAt (enc : TypeId × Value → H) (P : Program) (w : World) (base : Nat) (spare : Nat → Bool) (held : Bool) (u : TypeId) (v : Value) : Prop := ∃ n y, DataW.trod enc P w base spare held n u [v] = some y

theorem leaves_fields {d : Nat} {cs : List Value} {n : Nat}
    (ih : ∀ (t : TypeId) (ts : List TypeId) (fuel : Nat) (cs : List Value) (x : DataW H × List MemPlace), leaves P d t = some ts → ts.length = cs.length → DataW.trod enc P w base spare held fuel t cs = some x →
      ∀ (j : Nat) (v : Value) (u : TypeId), cs[j]? = some v → ts[j]? = some u → LeafAt enc P w base spare held u v) :
    ∀ (fs : List Field) (acc ts : List TypeId), (∀ f ∈ fs, ∃ y, DataW.trod enc P w base spare held n f.type ((cs.drop f.offset).take (P.cellsOf f.type)) = some y) →
      fs.foldlM (fun acc f => (leaves P d f.type).bind fun l => if f.offset = acc.length ∧ l.length = P.cellsOf f.type then some (acc ++ l) else none) acc = some ts →
      ts.length ≤ cs.length →
      (∀ (j : Nat) (v : Value) (u : TypeId), cs[j]? = some v → acc[j]? = some u → LeafAt enc P w base spare held u v) →
      (∀ (j : Nat) (v : Value) (u : TypeId), cs[j]? = some v → ts[j]? = some u → LeafAt enc P w base spare held u v) := by
  intro fs
  induction fs with
  | nil =>
    intro acc ts _ h _ ha
    simp at h
    subst h
    exact ha
  | cons f fs hfs =>
    intro acc ts hall h hlen ha
    simp only [List.foldlM_cons, Option.bind_eq_bind, Option.bind_eq_some_iff] at h
    obtain ⟨acc', ⟨l, hl, hif⟩, hrest⟩ := h
    split at hif
    · rename_i hc
      obtain ⟨ho, hlc⟩ := hc
      simp only [Option.some.injEq] at hif
      subst hif
      have hmono : ∀ (fs : List Field) (a b : List TypeId), fs.foldlM (fun acc f => (leaves P d f.type).bind fun l => if f.offset = acc.length ∧ l.length = P.cellsOf f.type then some (acc ++ l) else none) a = some b → a.length ≤ b.length := by
        intro fs
        induction fs with
        | nil => intro a b h; simp at h; subst h; exact Nat.le_refl _
        | cons f fs ih2 =>
          intro a b h
          simp only [List.foldlM_cons, Option.bind_eq_bind, Option.bind_eq_some_iff] at h
          obtain ⟨a', ⟨l, _, hif⟩, hr⟩ := h
          split at hif
          · simp only [Option.some.injEq] at hif
            subst hif
            have := ih2 _ _ hr
            simp at this
            omega
          · cases hif
      have hacc := hmono _ _ _ hrest
      refine hfs (acc ++ l) ts (fun g hg => hall g (List.mem_cons_of_mem _ hg)) hrest hlen ?_
      intro j v u hv hu
      rw [List.getElem?_append] at hu
      split at hu
      · exact ha j v u hv hu
      · rename_i hj
        obtain ⟨y, hy⟩ := hall f List.mem_cons_self
        rw [List.length_append] at hacc
        refine ih f.type l n _ y hl ?_ hy (j - acc.length) v u ?_ hu
        · rw [List.length_take, List.length_drop]; omega
        · have hjl : j - acc.length < l.length := (List.getElem?_eq_some_iff.1 hu).1
          rw [List.getElem?_take, if_pos (by omega), List.getElem?_drop, ho, show acc.length + (j - acc.length) = j by omega]
          exact hv
    · cases hif

theorem leaves_trod : ∀ (d : Nat) (t : TypeId) (ts : List TypeId) (fuel : Nat) (cs : List Value) (x : DataW H × List MemPlace), leaves P d t = some ts → ts.length = cs.length → DataW.trod enc P w base spare held fuel t cs = some x →
    ∀ (j : Nat) (v : Value) (u : TypeId), cs[j]? = some v → ts[j]? = some u → LeafAt enc P w base spare held u v := by
  intro d
  induction d with
  | zero => intro t ts fuel cs x h; simp [leaves] at h
  | succ d ih =>
    intro t ts fuel cs x h hlen ht
    unfold leaves at h
    split at h
    · rename_i fs hu
      obtain ⟨xs, n, _, _, hcl, hxl, hf⟩ := DataW.trod_struct hu ht
      refine leaves_fields (n := n) ih fs.toList [] ts ?_ h (by omega) (by simp)
      intro f hfm
      obtain ⟨i, hi, he⟩ := List.getElem_of_mem hfm
      have h1 := hf i f (by rw [← Array.getElem?_toList, List.getElem?_eq_getElem hi, he])
      have : i < xs.length := by rw [hxl]; simpa using hi
      exact ⟨xs[i], by rw [h1, List.getElem?_eq_getElem this]⟩
    · rename_i m e hu
      obtain ⟨xs, n, _, _, hcl, hxl, hf⟩ := DataW.trod_array hu ht
      simp only [Option.bind_eq_some_iff] at h
      obtain ⟨l, hl, hif⟩ := h
      split at hif
      · rename_i hc
        simp only [Option.some.injEq] at hif
        subst hif
        intro j v u hv hu'
        have hjl : j < (List.replicate m l).flatten.length := (List.getElem?_eq_some_iff.1 hu').1
        have hfl : ∀ k, (List.replicate k l).flatten.length = k * l.length := by
          intro k; simp
        rw [hfl] at hjl
        have hl0 : 0 < l.length := by
          rcases Nat.eq_zero_or_pos l.length with h0 | h0
          · rw [h0] at hjl; simp at hjl
          · exact h0
        have hi : j / l.length < m := by rw [Nat.div_lt_iff_lt_mul hl0]; exact hjl
        have hmod := Nat.mod_lt j hl0
        have hjd := Nat.div_add_mod j l.length
        have hget : ∀ (k j : Nat), j < k * l.length → (List.replicate k l).flatten[j]? = l[j % l.length]? := by
          intro k
          induction k with
          | zero => intro j hj; simp at hj
          | succ k ihk =>
            intro j hj
            rw [List.replicate_succ, List.flatten_cons, List.getElem?_append]
            split
            · rename_i h1; rw [Nat.mod_eq_of_lt h1]
            · rename_i h1
              rw [ihk (j - l.length) (by rw [Nat.succ_mul] at hj; omega)]
              rw [← Nat.mod_eq_sub_mod (show l.length ≤ j by omega)]
        rw [hget m j hjl] at hu'
        have h1 := hf (j / l.length) hi
        have hxi : j / l.length < xs.length := by omega
        rw [List.getElem?_eq_getElem hxi] at h1
        have hsz : (j / l.length) * P.cellsOf e + P.cellsOf e ≤ cs.length := by
          rw [← hlen, hfl, ← hc]
          calc (j / l.length) * l.length + l.length = (j / l.length + 1) * l.length := by rw [Nat.succ_mul]
            _ ≤ m * l.length := Nat.mul_le_mul_right _ hi
        refine ih e l n _ _ hl ?_ h1 (j % l.length) v u ?_ hu'
        · rw [List.length_take, List.length_drop]; omega
        · rw [List.getElem?_take, if_pos (by omega), List.getElem?_drop, ← hc, ← hv]
          congr 1
          rw [Nat.mul_comm]; exact hjd
      · cases hif
    · rename_i hu1 hu2 hs
      simp only [Option.some.injEq] at h
      subst h
      intro j v u hv hu'
      have hc1 : cs.length = 1 := by simpa using hlen.symm
      match cs, hc1 with
      | [c], _ =>
        match j with
        | 0 =>
          simp at hv hu'
          subst hv; subst hu'
          exact ⟨fuel, x, ht⟩
        | j + 1 => simp at hv
    · cases h
theorem LeafAt.int {u : TypeId} {v : Value} {k : IntKind} (h : LeafAt enc P w base spare held u v) (hu : P.underlying u = some (.int k)) : ∃ n, v = .int k n ∧ (Lit.int k n).wf = true := by
  obtain ⟨n, y, hy⟩ := h
  obtain ⟨m, h1, _, h2⟩ := DataW.trod_int hu hy
  simp at h1
  exact ⟨m, h1, h2⟩
theorem LeafAt.string {u : TypeId} {v : Value} (h : LeafAt enc P w base spare held u v) (hu : P.underlying u = some .string) : ∃ s, v = .string s ∧ s.size ≤ maxLen := by
  obtain ⟨n, y, hy⟩ := h
  obtain ⟨m, h1, _, h2⟩ := DataW.trod_string hu hy
  simp at h1
  exact ⟨m, h1, h2⟩
theorem LeafAt.bool {u : TypeId} {v : Value} (h : LeafAt enc P w base spare held u v) (hu : P.underlying u = some .bool) : ∃ b, v = .bool b := by
  obtain ⟨n, y, hy⟩ := h
  obtain ⟨m, h1, _⟩ := DataW.trod_bool hu hy
  simp at h1
  exact ⟨m, h1⟩

theorem flatten_get {α : Type} {sz : Nat} (h0 : 0 < sz) : ∀ (xs : List (List α)), (∀ x ∈ xs, x.length = sz) → ∀ j, xs.flatten[j]? = (xs[j / sz]?).bind fun x => x[j % sz]? := by
  intro xs
  induction xs with
  | nil => intro _ j; simp
  | cons x xs ih =>
    intro hx j
    have hxl := hx x List.mem_cons_self
    rw [List.flatten_cons, List.getElem?_append]
    split
    · rename_i h1
      rw [Nat.div_eq_of_lt (by omega), Nat.mod_eq_of_lt (by omega)]
      simp
    · rename_i h1
      rw [ih (fun y hy => hx y (List.mem_cons_of_mem _ hy)), hxl]
      have h2 : j / sz = (j - sz) / sz + 1 := by
        rw [Nat.div_eq_sub_div h0 (by omega)]
      rw [h2, List.getElem?_cons_succ, ← Nat.mod_eq_sub_mod (show sz ≤ j by omega)]
theorem flatten_length {α : Type} {sz : Nat} : ∀ (xs : List (List α)), (∀ x ∈ xs, x.length = sz) → xs.flatten.length = xs.length * sz := by
  intro xs
  induction xs with
  | nil => intro _; simp
  | cons x xs ih =>
    intro hx
    rw [List.flatten_cons, List.length_append, ih (fun y hy => hx y (List.mem_cons_of_mem _ hy)), hx x List.mem_cons_self, List.length_cons, Nat.succ_mul, Nat.add_comm]
theorem add_eq (b off : Nat) (j : Nat) : (⟨b, off, none⟩ : Addr).add j = ⟨b, off + j, none⟩ := by
  unfold Addr.add
  split
  · rename_i h0; subst h0; rfl
  · rfl

/-- A slice that came in: its row, element by element: each element's cells read by the element's type. -/
theorem open_row {t e : TypeId} {fuel : Nat} {A : Option Addr} {n c : Nat} {x : DataW H × List MemPlace} (ht : P.underlying t = some (.slice e)) (h : DataW.trod enc P w base spare held fuel t [.slice A n c] = some x) :
    n ≤ c ∧ c ≤ maxLen ∧ ∃ xs : List (List Value), xs.length = n ∧ (∀ cs ∈ xs, cs.length = P.cellsOf e ∧ ∃ m y, DataW.trod enc P w base spare held m e cs = some y) ∧ (xs.flatten ≠ [] → ∃ b off : Nat, A = some ⟨b, off, none⟩ ∧ ∀ j u, xs.flatten[j]? = some u → w.cell? ⟨b, off + j, none⟩ = some u) := by
  rcases Deep.open_slice ht h with ⟨hcs, _⟩ | ⟨a, len, cap, m, n', D, Pl, hcs, _, hl, hm, hmm, _, hi⟩
  · simp at hcs
    obtain ⟨rfl, rfl, rfl⟩ := hcs
    exact ⟨Nat.le_refl _, Nat.zero_le _, [], rfl, by simp, by simp⟩
  · simp at hcs
    obtain ⟨rfl, rfl, rfl⟩ := hcs
    have hnm : n ≤ m := by rw [hmm]; split <;> omega
    refine ⟨hl, hm, (List.range n).map fun i => ((w.cells? base (a.add (i * P.cellsOf e)) (P.cellsOf e)).getD []), by simp, ?_, ?_⟩
    · intro cs hcs
      simp only [List.mem_map, List.mem_range] at hcs
      obtain ⟨i, hin, rfl⟩ := hcs
      obtain ⟨cs', h1, h2⟩ := hi i (by omega)
      rw [h1]
      exact ⟨(World.cells?_some h1).2.1, n', _, h2⟩
    · intro hne
      have hall : ∀ y ∈ (List.range n).map (fun i => ((w.cells? base (a.add (i * P.cellsOf e)) (P.cellsOf e)).getD [])), y.length = P.cellsOf e := by
        intro y hy
        simp only [List.mem_map, List.mem_range] at hy
        obtain ⟨i, hin, rfl⟩ := hy
        obtain ⟨cs', h1, _⟩ := hi i (by omega)
        rw [h1]
        exact (World.cells?_some h1).2.1
      have hlen0 := flatten_length _ hall
      have hpos : 0 < n * P.cellsOf e := by
        rcases Nat.eq_zero_or_pos (n * P.cellsOf e) with h0 | h0
        · exfalso
          apply hne
          apply List.eq_nil_of_length_eq_zero
          rw [hlen0]
          simpa using h0
        · exact h0
      have hsz : 0 < P.cellsOf e := Nat.pos_of_mul_pos_left hpos
      have hn0 : 0 < n := Nat.pos_of_mul_pos_right hpos
      obtain ⟨b, off, spot⟩ := a
      have hs : spot = none := by
        obtain ⟨cs', h1, _⟩ := hi 0 (by omega)
        obtain ⟨_, hl1, hc1⟩ := World.cells?_some h1
        have h2 := hc1 0 hsz
        have h3 : ((⟨b, off, spot⟩ : Addr).add (0 * P.cellsOf e)).add 0 = ⟨b, off, spot⟩ := by simp [Addr.add]
        rw [h3, List.getElem?_eq_getElem (by omega)] at h2
        exact spot_none h2
      subst hs
      refine ⟨b, off, rfl, fun j u hu => ?_⟩
      rw [flatten_get hsz _ hall] at hu
      simp only [Option.bind_eq_some_iff, List.getElem?_map, Option.map_eq_some_iff] at hu
      obtain ⟨y, ⟨i, hir, rfl⟩, hy⟩ := hu
      have hrl := List.getElem?_eq_some_iff.1 hir
      obtain ⟨hir1, hir2⟩ := hrl
      simp at hir1 hir2
      subst hir2
      obtain ⟨cs', h1, _⟩ := hi (j / P.cellsOf e) (by omega)
      rw [h1] at hy
      simp only [Option.getD_some] at hy
      obtain ⟨_, hl1, hc1⟩ := World.cells?_some h1
      have h2 := hc1 (j % P.cellsOf e) (Nat.mod_lt _ hsz)
      rw [add_eq, add_eq, hy] at h2
      have hjd := Nat.div_add_mod j (P.cellsOf e)
      rw [show off + j = off + j / P.cellsOf e * P.cellsOf e + j % P.cellsOf e by rw [Nat.mul_comm (j / P.cellsOf e)]; omega]
      exact h2
end
end Go.Proofs.Ytiaeochlepkleaa
/-
  Rows of bytes that come in as arguments.
-/
namespace Go.Proofs.Ytiaeochlepkleaa
open Go.RowKit Go.ChangeShapes Go.WideShapes Go.ChangeAt

section
variable {H : Type} {enc : TypeId × Value → H} {w : World} {base : Nat} {spare : Nat → Bool} {held : Bool}
theorem open_none {t e : TypeId} {fuel : Nat} {A : Option Addr} {n c : Nat} {x : DataW H × List MemPlace} (ht : Try.prog.underlying t = some (.slice e)) (h : DataW.trod enc Try.prog w base spare held fuel t [.slice A n c] = some x) : A = none → c = 0 := by
  intro hA
  rcases Deep.open_slice ht h with ⟨hcs, _⟩ | ⟨a, len, cap, m, n', D, Pl, hcs, _⟩
  · simp at hcs
    exact hcs.2.2
  · simp at hcs
    rw [hA] at hcs
    simp at hcs
end
end Go.Proofs.Ytiaeochlepkleaa
/-
  Arguments that are rows of structs as trees: opened down to their cells; from a walk to the statement.
-/
namespace Go.Proofs.Ytiaeochlepkleaa.A
open Go.RowKit Go.ChangeShapes Go.WideShapes Go.ChangeAt

section
variable {H : Type} {enc : TypeId × Value → H} {w : World} {base : Nat} {spare : Nat → Bool} {held : Bool}
theorem open_rows {α : Type} {abs : α → List Abs} {Ok : α → Prop} {s : Nat} : ∀ {ys : List (List Value)}, (∀ cs ∈ ys, cs.length = s ∧ ∃ a, reps [] w (abs a) cs ∧ Ok a) → ∃ xs : List α, repss [] w s (xs.map abs) ys.flatten ∧ xs.length = ys.length ∧ ∀ a ∈ xs, Ok a
  | [], _ => ⟨[], rfl, rfl, by simp⟩
  | cs :: ys, h => by
    obtain ⟨h1, a, h2, h3⟩ := h cs List.mem_cons_self
    obtain ⟨xs, h4, h5, h6⟩ := open_rows (ys := ys) fun c hc => h c (List.mem_cons_of_mem _ hc)
    exact ⟨a :: xs, ⟨cs, _, rfl, h1, h2, h4⟩, by simp [h5], by simpa using ⟨h3, h6⟩⟩
/-- A slice that came in, as a tree. -/
theorem open_slA {α : Type} {abs : α → List Abs} {Ok : α → Prop} {t e : TypeId} {s : Nat} {v : Value} (ht : Try.prog.underlying t = some (.slice e)) (hs : Try.prog.cellsOf e = s) (h : LeafAt enc Try.prog w base spare held t v)
    (hdec : ∀ cs, cs.length = Try.prog.cellsOf e → (∃ m y, DataW.trod enc Try.prog w base spare held m e cs = some y) → ∃ a, reps [] w (abs a) cs ∧ Ok a) :
    ∃ xs : List α, rep [] w (.sl s (xs.map abs)) v ∧ ∀ a ∈ xs, Ok a := by
  obtain ⟨fuel, x, h⟩ := h
  obtain ⟨A, n, c, rfl⟩ : ∃ A n c, v = .slice A n c := by
    rcases Deep.open_slice ht h with ⟨hcs, _⟩ | ⟨a, len, cap, m, n', D, Pl, hcs, _⟩
    · simp at hcs; exact ⟨_, _, _, hcs⟩
    · simp at hcs; exact ⟨_, _, _, hcs⟩
  obtain ⟨h1, h2, ys, h3, h4, h5⟩ := open_row ht h
  obtain ⟨xs, h6, h7, h8⟩ := open_rows (abs := abs) (Ok := Ok) (s := s) (w := w) (ys := ys) fun cs hc => ⟨by rw [← hs]; exact (h4 cs hc).1, hdec cs (h4 cs hc).1 (h4 cs hc).2⟩
  refine ⟨xs, ⟨ys.flatten, ⟨⟨A, c, ?_, ?_, h2, open_none ht h⟩, fun hn => ?_⟩, h6⟩, h8⟩
  · rw [List.length_map, h7, h3]
  · rw [List.length_map, h7, h3]; exact h1
  · obtain ⟨b, off, rfl, hc⟩ := h5 hn
    exact ⟨b, off, _, _, rfl, by simp, hc⟩
end
/-- A law's walk, as a call in a world. -/
theorem law_of {f : FuncId} {args : List Abs} (h : Pure Try.prog f args (boo true)) {w : World} {vals : List Value} (hv : reps [] w args vals) : Calls Try.prog f vals.toArray w fun e w' => e = .returned (.bool true) ∧ Ext [] w w' := by
  have hm : Mem w (mids []) [] [] w := ⟨Ext.refl w, by simp [mids], by simp, by simp, by simp, by simp [mids], by simp⟩
  refine (h [] w vals hm hv).mono fun e w' ⟨z, r, he, _, h1, h2⟩ => ⟨?_, h1.ext⟩
  have h2 : r = .bool true := h2
  rw [he, h2]
end Go.Proofs.Ytiaeochlepkleaa.A
/-
  Glances that came in, as trees.
-/
namespace Go.Proofs.Ytiaeochlepkleaa.A
open Go.RowKit Go.ChangeShapes Go.WideShapes Go.ChangeAt

section
variable {H : Type} {enc : TypeId × Value → H} {w : World} {base : Nat} {spare : Nat → Bool} {held : Bool}
theorem wfW {a : Int} (h : (Lit.int .i64 a).wf = true) : i64ok a := by
  have := bounds_i64 h
  unfold i64ok
  omega
theorem enW_leaves : leaves Try.prog 4 50 = some [3, 2, 3, 9, 2, 2, 9, 48] := by kernel_rfl
theorem open_enW (cs : List Value) (hl : cs.length = Try.prog.cellsOf 50) (h : ∃ m y, DataW.trod enc Try.prog w base spare held m 50 cs = some y) : ∃ e : Ent, reps [] w (entA e) cs ∧ EnIns e := by
  obtain ⟨fuel, x, h⟩ := h
  rw [show Try.prog.cellsOf 50 = 8 by kernel_rfl] at hl
  have hh := leaves_trod 4 _ _ _ _ _ enW_leaves (by simpa using hl.symm) h
  match cs, hl with
  | [v0, v1, v2, v3, v4, v5, v6, v7], _ =>
    obtain ⟨n0, rfl, b0⟩ := (hh 0 v0 _ rfl rfl).int Try.underlying3
    obtain ⟨n1, rfl, b1⟩ := (hh 1 v1 _ rfl rfl).int Try.underlying2
    obtain ⟨n2, rfl, b2⟩ := (hh 2 v2 _ rfl rfl).int Try.underlying3
    obtain ⟨s3, rfl, b3⟩ := (hh 3 v3 _ rfl rfl).string Try.underlying9
    obtain ⟨n4, rfl, b4⟩ := (hh 4 v4 _ rfl rfl).int Try.underlying2
    obtain ⟨n5, rfl, b5⟩ := (hh 5 v5 _ rfl rfl).int Try.underlying2
    obtain ⟨s6, rfl, b6⟩ := (hh 6 v6 _ rfl rfl).string Try.underlying9
    obtain ⟨n7, rfl, b7⟩ := (hh 7 v7 _ rfl rfl).int Try.underlying48
    simp only [Lit.wf, Bool.and_eq_true, decide_eq_true_eq] at b7
    have c0 : (0 : Int) ≤ n7 := b7.1
    have c1 : n7 ≤ (4294967295 : Int) := b7.2
    obtain ⟨m, rfl⟩ : ∃ m : Nat, n7 = m := ⟨n7.toNat, by omega⟩
    exact ⟨⟨⟨n0, n1, n2, s3, n4, n5, s6⟩, m⟩, reps_plain.2 rfl, ⟨wfW b0, wfW b1, wfW b2, wfW b4, wfW b5, b3, b6, by show m < 4294967296; omega⟩⟩
theorem open_ensW {v : Value} (h : LeafAt enc Try.prog w base spare held 35 v) : ∃ es : List Ent, rep [] w (entsR es) v ∧ ∀ e ∈ es, EnIns e :=
  open_slA (abs := entA) (Ok := EnIns) (s := 8) Try.underlying35 (by kernel_rfl) h open_enW
theorem ddW_leaves : leaves Try.prog 4 37 = some [2, 35, 4] := by kernel_rfl
theorem open_ddW (cs : List Value) (hl : cs.length = Try.prog.cellsOf 37) (h : ∃ m y, DataW.trod enc Try.prog w base spare held m 37 cs = some y) : ∃ d : Dd, reps [] w d.abs cs ∧ DdIns d := by
  obtain ⟨fuel, x, h⟩ := h
  rw [show Try.prog.cellsOf 37 = 3 by kernel_rfl] at hl
  have hh := leaves_trod 4 _ _ _ _ _ ddW_leaves (by simpa using hl.symm) h
  match cs, hl with
  | [v0, v1, v2], _ =>
    obtain ⟨n0, rfl, b0⟩ := (hh 0 v0 _ rfl rfl).int Try.underlying2
    obtain ⟨es, h1, i1⟩ := open_ensW (hh 1 v1 _ rfl rfl)
    obtain ⟨b, rfl⟩ := (hh 2 v2 _ rfl rfl).bool Try.underlying4
    exact ⟨⟨n0, es, b⟩, ⟨_, _, rfl, rfl, _, _, rfl, h1, _, _, rfl, rfl, rfl⟩, ⟨wfW b0, i1⟩⟩
theorem gl_leaves : leaves Try.prog 4 41 = some [3, 2, 2, 2, 3, 3, 39] := by kernel_rfl
theorem open_gl (cs : List Value) (hl : cs.length = Try.prog.cellsOf 41) (h : ∃ m y, DataW.trod enc Try.prog w base spare held m 41 cs = some y) : ∃ g : Gl, reps [] w g.abs cs ∧ GlIns g := by
  obtain ⟨fuel, x, h⟩ := h
  rw [show Try.prog.cellsOf 41 = 7 by kernel_rfl] at hl
  have hh := leaves_trod 4 _ _ _ _ _ gl_leaves (by simpa using hl.symm) h
  match cs, hl with
  | [v0, v1, v2, v3, v4, v5, v6], _ =>
    obtain ⟨n0, rfl, b0⟩ := (hh 0 v0 _ rfl rfl).int Try.underlying3
    obtain ⟨n1, rfl, b1⟩ := (hh 1 v1 _ rfl rfl).int Try.underlying2
    obtain ⟨n2, rfl, b2⟩ := (hh 2 v2 _ rfl rfl).int Try.underlying2
    obtain ⟨n3, rfl, b3⟩ := (hh 3 v3 _ rfl rfl).int Try.underlying2
    obtain ⟨n4, rfl, b4⟩ := (hh 4 v4 _ rfl rfl).int Try.underlying3
    obtain ⟨n5, rfl, b5⟩ := (hh 5 v5 _ rfl rfl).int Try.underlying3
    obtain ⟨ds, h6, i6⟩ := open_slA (abs := Dd.abs) (Ok := DdIns) (s := 3) Try.underlying39 (by kernel_rfl) (hh 6 v6 _ rfl rfl) open_ddW
    exact ⟨⟨n0, n1, n2, n3, n4, n5, ds⟩, ⟨_, _, rfl, rfl, _, _, rfl, rfl, _, _, rfl, rfl, _, _, rfl, rfl, _, _, rfl, rfl, _, _, rfl, rfl, _, _, rfl, h6, rfl⟩, ⟨wfW b0, wfW b1, wfW b2, wfW b3, wfW b4, wfW b5, i6⟩⟩
theorem open_gls {v : Value} (h : LeafAt enc Try.prog w base spare held 27 v) : ∃ l : List Gl, rep [] w (glsA l) v ∧ ∀ g ∈ l, GlIns g :=
  open_slA (abs := Gl.abs) (Ok := GlIns) (s := 7) Try.underlying27 (by kernel_rfl) h open_gl
theorem open_glss {v : Value} (h : LeafAt enc Try.prog w base spare held 22 v) : ∃ l : List (List Gl), rep [] w (.sl 1 (l.map fun b => [glsA b])) v ∧ ∀ b ∈ l, ∀ g ∈ b, GlIns g :=
  open_slA (abs := fun b : List Gl => [glsA b]) (Ok := fun b => ∀ g ∈ b, GlIns g) (s := 1) Try.underlying22 (by kernel_rfl) h fun cs hl ⟨m, y, h⟩ => by
    rw [show Try.prog.cellsOf 27 = 1 by kernel_rfl] at hl
    match cs, hl with
    | [v0], _ =>
      obtain ⟨b, hb, ib⟩ := open_gls (v := v0) ⟨m, y, h⟩
      exact ⟨b, ⟨v0, [], rfl, hb, rfl⟩, ib⟩
end
end Go.Proofs.Ytiaeochlepkleaa.A
