/-
  Packed out of the texts: E2, E3.
-/
import Derived.Test.YtbhjchlflkgjbaaM18
/-
  Endorsements: texts, and put into requests.
-/
set_option maxRecDepth 100000
set_option linter.unusedSimpArgs false
set_option linter.unusedVariables false
namespace Go.Proofs.Ytbhjchlflkgjbaa.A
open Go.RowKit

/-- The place of the first one, or -1. -/
def IdxOf {α : Type} (p : α → Bool) (xs : List α) (r : Int) : Prop := (r = -1 ∧ ∀ x ∈ xs, p x = false) ∨ ∃ i, ∃ h : i < xs.length, r = (i : Nat) ∧ p xs[i] = true ∧ ∀ j (hj : j < i), p (xs[j]'(by omega)) = false
section
variable {c : Core} {q q2 : Rq} {e : En} {es : List En} {n who : Int}
theorem etext_s (h1 : c.letter.size ≤ 1000) (h2 : c.text.size ≤ 1000) : Spec Try.prog 12 [coreA c] [] (fun _ : Unit => []) (fun _ => byt (textV 100 c.bytes)) := by
  refine spec_of Try.func12 rfl Try.ntmps12 rfl fun G w => ?_
  refine SC.seq (SC.region ?_)
  refine SL.eff (Eff.boxA (cs := c.cells.map .v) rfl) rfl rfl ?_
  rintro _ _ ⟨b1, rfl, rfl⟩
  refine SL.val (Val.assign rfl) rfl rfl ?_
  refine SL.nil (SE.seq ?_)
  refine SC.seq (SC.region ?_)
  refine SL.val (Val.loadA tabOk rfl rfl rfl (by first|(apply Or.inl;(repeat first|assumption|exact m0|apply m1);done)|(apply Or.inr;(repeat first|assumption|exact m0|apply m1);done)) List.not_mem_nil rfl) rfl rfl ?_
  refine SL.call (cbytes_s (by omega) (by omega)) Casts.refl (by kernel_rfl) rfl rfl rfl ?_
  refine After.pure (by repeat first|exact .nil|refine .blk (by repeat first|assumption|exact m0|apply m1) ?_|refine .rd (by repeat first|assumption|exact m0|apply m1) ?_|refine .pc (by repeat first|assumption|exact m0|apply m1) ?_|refine .rdpc (by repeat first|assumption|exact m0|apply m1) ?_) (fun _ => rfl) ?_
  intro _
  refine SL.call (text_s (k := 100) (l := c.bytes) (by rw [core_len]; omega)) Casts.refl (by kernel_rfl) rfl rfl rfl ?_
  refine After.pure (by repeat first|exact .nil|refine .blk (by repeat first|assumption|exact m0|apply m1) ?_|refine .rd (by repeat first|assumption|exact m0|apply m1) ?_|refine .pc (by repeat first|assumption|exact m0|apply m1) ?_|refine .rdpc (by repeat first|assumption|exact m0|apply m1) ?_) (fun _ => rfl) ?_
  intro _
  refine SL.val (Val.assign rfl) rfl rfl ?_
  refine SL.nil (SE.seq ?_)
  refine SC.ret ?_
  refine SE.fin (rs := [.tmp 2]) rfl (RV.tmp rfl RV.nil) (()) (by repeat first|exact s0 _|exact s1 _|apply s2|apply s3) (by simp [It.rids]) ?_
  exact rfl
theorem retext_s (h1 : c.letter.size ≤ 1000) (h2 : c.text.size ≤ 1000) : Spec Try.prog 13 [coreA c] [] (fun _ : Unit => []) (fun _ => byt (textV 100 c.bytes)) := by
  refine spec_of Try.func13 rfl Try.ntmps13 rfl fun G w => ?_
  refine SC.seq (SC.region ?_)
  refine SL.eff (Eff.boxA (cs := c.cells.map .v) rfl) rfl rfl ?_
  rintro _ _ ⟨b1, rfl, rfl⟩
  refine SL.val (Val.assign rfl) rfl rfl ?_
  refine SL.nil (SE.seq ?_)
  refine SC.seq (SC.region ?_)
  refine SL.eff (Eff.buildOwn tabOk Try.underlying40 rfl rfl rfl rfl rfl rfl rfl) rfl rfl ?_
  rintro _ _ ⟨r3, rfl, rfl⟩
  refine SL.val (Val.loadA tabOk rfl rfl rfl (by first|(apply Or.inl;(repeat first|assumption|exact m0|apply m1);done)|(apply Or.inr;(repeat first|assumption|exact m0|apply m1);done)) List.not_mem_nil rfl) rfl rfl ?_
  refine SL.call (rcbytes_s (by omega) (by omega)) Casts.refl (by kernel_rfl) rfl rfl rfl ?_
  refine After.pure (by repeat first|exact .nil|refine .blk (by repeat first|assumption|exact m0|apply m1) ?_|refine .rd (by repeat first|assumption|exact m0|apply m1) ?_|refine .pc (by repeat first|assumption|exact m0|apply m1) ?_|refine .rdpc (by repeat first|assumption|exact m0|apply m1) ?_) (fun _ => rfl) ?_
  intro _
  refine SL.eff (Eff.appendE (zs := bs (textV 100 c.bytes)) tabOk [] (rfl) Try.underlying40 rfl rfl rfl rfl rfl rfl (bs_ones _) (by unfold maxLen; simp only [bs, List.length_map, List.length_cons, List.length_nil]; rw [core_len]; omega) (by rw [show Try.prog.bytesOf 5 = 1 by kernel_rfl]; simp only [List.length_map, List.length_cons, List.length_nil]; rw [core_len]; omega)) rfl rfl ?_
  rintro _ _ ⟨r6, rfl, rfl⟩
  refine SL.val (Val.assign rfl) rfl rfl ?_
  refine SL.nil (SE.seq ?_)
  refine SC.ret ?_
  refine SE.freeze [] (t := 2) rfl rfl ?_
  refine SE.fin (rs := [.tmp 2]) rfl (RV.tmp rfl RV.nil) (()) (by repeat first|exact s0 _|exact s1 _|apply s2|apply s3) (by simp [It.rids]) ?_
  exact rfl
theorem clone_ends_s {xs : List (List Abs)} (h1 : ∀ c ∈ xs, ones c = true) (hn : xs.length ≤ 1000000) : Spec Try.prog 24 [.sl 2 xs] [] (fun r : Value => [own 34 2 r xs]) (fun r => .v r) := by
  refine spec_of Try.func24 rfl Try.ntmps24 rfl fun G w => ?_
  refine SC.seq (SC.region ?_)
  refine SL.val (Val.assign rfl) rfl rfl ?_
  refine SL.nil (SE.seq ?_)
  refine SC.seq ?_
  refine SC.seq (SC.region ?_)
  refine SL.val (Val.move rfl) rfl rfl ?_
  refine SL.eqNil Try.underlying24 rfl rfl rfl ?_
  intro b hb
  refine SL.nil (SE.seq ?_)
  refine SC.cond rfl ?_ ?_
  · intro hc4
    have hnil : xs = [] := hb hc4
    subst hnil
    refine SC.seq ?_
    refine SC.own0 34 2 ?_
    refine SC.region ?_
    refine SL.val (Val.assign rfl) rfl rfl ?_
    refine SL.nil (SE.seq ?_)
    refine SC.ret ?_
    refine SE.then_ (by intro h; cases h) ?_
    refine SE.fin (rs := [.tmp 2]) rfl (RV.tmp rfl RV.nil) (.slice none 0 0) (by repeat first|exact s0 _|exact s1 _|apply s2|apply s3) (by simp [It.rids]) ?_
    exact rfl
  intro hc4
  refine SC.skip ?_
  refine SE.seq ?_
  refine SC.seq (SC.region ?_)
  refine SL.eff (Eff.buildOwn tabOk Try.underlying24 rfl rfl rfl rfl rfl rfl rfl) rfl rfl ?_
  rintro _ _ ⟨r5, rfl, rfl⟩
  refine SL.val (Val.move rfl) rfl rfl ?_
  refine SL.eff (Eff.appendE (zs := xs) tabOk [] rfl Try.underlying24 rfl rfl rfl rfl rfl rfl h1 (by unfold maxLen; simp only [List.length_nil]; omega) (by rw [show Try.prog.bytesOf 34 = 32 by kernel_rfl]; simp only [List.length_nil]; omega)) rfl rfl ?_
  rintro _ _ ⟨r7, rfl, rfl⟩
  refine SL.val (Val.assign rfl) rfl rfl ?_
  refine SL.nil (SE.seq ?_)
  refine SC.ret ?_
  refine SE.fin (rs := [.tmp 2]) rfl (RV.tmp rfl RV.nil) (r7) (by repeat first|exact s0 _|exact s1 _|apply s2|apply s3) (by simp [It.rids]) ?_
  exact rfl
theorem clone_tags_s {xs : List (List Abs)} (h1 : ∀ c ∈ xs, ones c = true) (hn : xs.length ≤ 1000000) : Spec Try.prog 25 [.sl 32 xs] [] (fun _ : Unit => []) (fun _ => .sl 32 xs) := by
  refine spec_of Try.func25 rfl Try.ntmps25 rfl fun G w => ?_
  refine SC.seq (SC.region ?_)
  refine SL.val (Val.assign rfl) rfl rfl ?_
  refine SL.nil (SE.seq ?_)
  refine SC.seq ?_
  refine SC.seq (SC.region ?_)
  refine SL.val (Val.move rfl) rfl rfl ?_
  refine SL.eqNil Try.underlying32 rfl rfl rfl ?_
  intro b hb
  refine SL.nil (SE.seq ?_)
  refine SC.cond rfl ?_ ?_
  · intro hc4
    have hnil : xs = [] := hb hc4
    subst hnil
    refine SC.seq (SC.region ?_)
    refine SL.val (Val.assign rfl) rfl rfl ?_
    refine SL.nil (SE.seq ?_)
    refine SC.ret ?_
    refine SE.then_ (by intro h; cases h) ?_
    refine SE.finC (rs := [.tmp 2]) rfl (RV.tmp rfl RV.nil) (Casts.nils (s := 32) Casts.refl) () (by repeat first|exact s0 _|exact s1 _|apply s2|apply s3) (by simp [It.rids]) rfl
  intro hc4
  refine SC.skip ?_
  refine SE.seq ?_
  refine SC.seq (SC.region ?_)
  refine SL.eff (Eff.buildOwn tabOk Try.underlying32 rfl rfl rfl rfl rfl rfl rfl) rfl rfl ?_
  rintro _ _ ⟨r5, rfl, rfl⟩
  refine SL.val (Val.move rfl) rfl rfl ?_
  refine SL.eff (Eff.appendE (zs := xs) tabOk [] rfl Try.underlying32 rfl rfl rfl rfl rfl rfl h1 (by unfold maxLen; simp only [List.length_nil]; omega) (by rw [show Try.prog.bytesOf 68 = 32 by kernel_rfl]; simp only [List.length_nil]; omega)) rfl rfl ?_
  rintro _ _ ⟨r7, rfl, rfl⟩
  refine SL.val (Val.assign rfl) rfl rfl ?_
  refine SL.nil (SE.seq ?_)
  refine SC.ret ?_
  refine SE.freeze [] (t := 2) rfl rfl ?_
  refine SE.fin (rs := [.tmp 2]) rfl (RV.tmp rfl RV.nil) (()) (by repeat first|exact s0 _|exact s1 _|apply s2|apply s3) (by simp [It.rids]) ?_
  exact rfl
theorem indexO_end {v : Value} {xs : List En} {p : En → Bool} {k : Nat} {caps : List Abs} {σ : Blks} (hb : goesIn Try.prog k = true) (hr : Rds σ) (hn : xs.length < 9223372036854775807) (h : ∀ x ∈ xs, Spec Try.prog k (.agg (En.abs x) :: caps) σ (fun _ : Unit => []) (fun _ => boo (p x))) : Spec Try.prog 26 [.v v, .fn (.func k) [] caps] (.rdpc (ownPc 34 2 v (xs.map En.abs)) :: σ) (fun _ : {r : Int // IdxOf p xs r} => []) (fun z => int z.1) := by
  refine spec_of Try.func26 rfl Try.ntmps26 rfl fun G w => ?_
  refine SC.seq (SC.region ?_)
  refine SL.val (Val.assign rfl) rfl rfl ?_
  refine SL.nil (SE.seq ?_)
  refine SC.seq ?_
  refine SC.seq (SC.region ?_)
  refine SL.val (Val.move rfl) rfl rfl ?_
  refine SL.val (Val.lenOwnR (m := xs.length) rfl (.inr (by repeat first|assumption|exact m0|apply m1)) Try.underlying24 (List.length_map _)) rfl rfl ?_
  refine SL.val (Val.move rfl) rfl rfl ?_
  refine SL.nil (SE.seq ?_)
  refine SC.block ?_
  refine SC.loop (ι := Nat) (fun z => (.rdpc (ownPc 34 2 v (xs.map En.abs)) :: σ)) (fun z => [(0, .v v), (1, .fn (.func k) [] caps), (7, int (xs.length : Nat)), (8, int (z : Nat))]) (fun z => z ≤ xs.length ∧ ∀ j (hj : j < xs.length), j < z → p xs[j] = false) (fun z => xs.length - z) (0) (⟨Nat.zero_le _, by omega⟩) (by exact ⟨rfl, rfl, rfl, rfl, trivial⟩) (by repeat first|exact s0 _|exact s1 _|apply s2|apply s3) ?_
  intro z hz
  refine SC.seq (SC.region ?_)
  refine SL.val (Val.ltI rfl rfl) rfl rfl ?_
  refine SL.nil (SE.seq ?_)
  refine SC.seq ?_
  refine SC.condP rfl ?_ ?_
  rotate_left
  · intro hc9
    refine SC.exit ?_
    refine SE.then_ (by intro h; cases h) ?_
    refine SE.then_ (by intro h; cases h) ?_
    refine SE.exit ?_
    refine SE.seq ?_
    refine SC.seq (SC.region ?_)
    refine SL.val (Val.assign rfl) rfl rfl ?_
    refine SL.nil (SE.seq ?_)
    refine SC.ret ?_
    refine SE.fin (rs := [.tmp 4]) rfl (RV.tmp rfl RV.nil) (⟨-1, .inl ⟨rfl, fun x hx => by obtain ⟨j, hj, rfl⟩ := List.getElem_of_mem hx; exact hz.2 j hj (by omega)⟩⟩) (by repeat first|exact s0 _|exact s1 _|apply s2|apply s3) (by simp [It.rids]) ?_
    exact rfl
  intro hc9
  have hlt : z < xs.length := by omega
  refine SC.skip ?_
  refine SE.seq ?_
  refine SC.seq ?_
  refine SC.block ?_
  refine SC.seq (SC.region ?_)
  refine SL.val (Val.move rfl) rfl rfl ?_
  refine SL.val (Val.assign rfl) rfl rfl ?_
  refine SL.nil (SE.seq ?_)
  refine SC.seq (SC.region ?_)
  refine SL.val (Val.move rfl) rfl rfl ?_
  refine SL.val (Val.move rfl) rfl rfl ?_
  refine SL.val (Val.move rfl) rfl rfl ?_
  refine SL.val (Val.indexOwn (q := z) tabOk Try.underlying24 rfl rfl (.inr (by repeat first|assumption|exact m0|apply m1)) rfl rfl (by rw [List.length_map]; exact hlt) rfl rfl) rfl rfl ?_
  refine SL.val (Val.loadOwnA tabOk rfl rfl rfl (.inr (by repeat first|assumption|exact m0|apply m1)) rfl (at_map hlt) rfl) rfl rfl ?_
  refine SL.callv (h _ (List.getElem_mem hlt)) rfl Casts.refl hb rfl rfl rfl ?_
  refine After.pure (Rds.reads hr (fun x hx => by repeat (first | exact hx | apply List.mem_cons_of_mem))) (fun _ => rfl) ?_
  intro _
  refine SL.nil (SE.seq ?_)
  refine SC.cond rfl ?_ ?_
  rotate_left
  · intro hc16
    refine SC.skip ?_
    refine SE.inBlock ?_
    refine SE.seq ?_
    refine SC.region ?_
    first
      | refine SL.val (Val.addI rfl rfl (by simp only [InR, lo, hi]; omega)) rfl rfl ?_
      | refine SL.val (Val.addW rfl rfl) rfl rfl ?_
    refine SL.val (Val.move rfl) rfl rfl ?_
    refine SL.nil ?_
    refine SE.round (z + 1) (by first | omega | (dsimp only; omega)) (⟨by omega, fun j hj hjz => by rcases Nat.lt_or_ge j z with h1 | h1; exact hz.2 j hj h1; obtain rfl : j = z := (by omega); exact hc16⟩) (by exact ⟨rfl, rfl, rfl, rfl, trivial⟩) (by repeat first|exact s0 _|exact s1 _|apply s2|apply s3)
  intro hc16
  refine SC.seq (SC.region ?_)
  refine SL.val (Val.move rfl) rfl rfl ?_
  refine SL.val (Val.assign rfl) rfl rfl ?_
  refine SL.nil (SE.seq ?_)
  refine SC.ret ?_
  refine SE.ret ?_
  refine SE.then_ (by intro h; cases h) ?_
  refine SE.then_ (by intro h; cases h) ?_
  refine SE.ret ?_
  refine SE.then_ (by intro h; cases h) ?_
  refine SE.fin (rs := [.tmp 4]) rfl (RV.tmp rfl RV.nil) (⟨(z : Nat), .inr ⟨z, hlt, rfl, hc16, fun j hj => hz.2 j (by omega) hj⟩⟩) (by repeat first|exact s0 _|exact s1 _|apply s2|apply s3) (by simp [It.rids]) ?_
  exact rfl
theorem with1_s {x : En} {p : Nat} : Spec Try.prog 27 [.agg x.abs, ptr p] [.rd p 34 e.abs] (fun _ : Unit => []) (fun _ => boo (decide (x.org = e.org))) := by
  refine spec_of Try.func27 rfl Try.ntmps27 rfl fun G w => ?_
  refine SC.seq (SC.region ?_)
  refine SL.eff (Eff.boxA (cs := x.abs) rfl) rfl rfl ?_
  rintro _ _ ⟨b2, rfl, rfl⟩
  refine SL.val (Val.assign rfl) rfl rfl ?_
  refine SL.nil (SE.seq ?_)
  refine SC.seq (SC.region ?_)
  refine SL.val (Val.fieldAddr tabOk rfl rfl rfl rfl rfl) rfl rfl ?_
  refine SL.val (Val.load1 tabOk rfl rfl (by first|(apply Or.inl;(repeat first|assumption|exact m0|apply m1);done)|(apply Or.inr;(repeat first|assumption|exact m0|apply m1);done)) List.not_mem_nil (by rfl)) rfl rfl ?_
  refine SL.val (Val.fieldAddr tabOk rfl rfl rfl rfl rfl) rfl rfl ?_
  refine SL.val (Val.load1 tabOk rfl rfl (by first|(apply Or.inl;(repeat first|assumption|exact m0|apply m1);done)|(apply Or.inr;(repeat first|assumption|exact m0|apply m1);done)) List.not_mem_nil (by rfl)) rfl rfl ?_
  refine SL.val (Val.eqI rfl rfl) rfl rfl ?_
  refine SL.val (Val.assign rfl) rfl rfl ?_
  refine SL.nil (SE.seq ?_)
  refine SC.ret ?_
  refine SE.fin (rs := [.tmp 3]) rfl (RV.tmp rfl RV.nil) (()) (by repeat first|exact s0 _|exact s1 _|apply s2|apply s3) (by simp [It.rids]) ?_
  exact rfl
theorem with2_s {x : En} {p : Nat} : Spec Try.prog 28 [.agg x.abs, ptr p] [.rd p 34 e.abs] (fun _ : Unit => []) (fun _ => boo (decide (e.org < x.org))) := by
  refine spec_of Try.func28 rfl Try.ntmps28 rfl fun G w => ?_
  refine SC.seq (SC.region ?_)
  refine SL.eff (Eff.boxA (cs := x.abs) rfl) rfl rfl ?_
  rintro _ _ ⟨b2, rfl, rfl⟩
  refine SL.val (Val.assign rfl) rfl rfl ?_
  refine SL.nil (SE.seq ?_)
  refine SC.seq (SC.region ?_)
  refine SL.val (Val.fieldAddr tabOk rfl rfl rfl rfl rfl) rfl rfl ?_
  refine SL.val (Val.load1 tabOk rfl rfl (by first|(apply Or.inl;(repeat first|assumption|exact m0|apply m1);done)|(apply Or.inr;(repeat first|assumption|exact m0|apply m1);done)) List.not_mem_nil (by rfl)) rfl rfl ?_
  refine SL.val (Val.fieldAddr tabOk rfl rfl rfl rfl rfl) rfl rfl ?_
  refine SL.val (Val.load1 tabOk rfl rfl (by first|(apply Or.inl;(repeat first|assumption|exact m0|apply m1);done)|(apply Or.inr;(repeat first|assumption|exact m0|apply m1);done)) List.not_mem_nil (by rfl)) rfl rfl ?_
  refine SL.val (Val.gtI rfl rfl) rfl rfl ?_
  refine SL.val (Val.assign rfl) rfl rfl ?_
  refine SL.nil (SE.seq ?_)
  refine SC.ret ?_
  refine SE.fin (rs := [.tmp 3]) rfl (RV.tmp rfl RV.nil) (()) (by repeat first|exact s0 _|exact s1 _|apply s2|apply s3) (by simp [It.rids]) ?_
  exact rfl
set_option maxHeartbeats 2000000 in
theorem with_s (hn : q.ends.length ≤ 100000) (ht : e.tags.length ≤ 100000) : Spec Try.prog 9 [.agg q.abs, .agg e.abs] [] (fun _ : Unit => []) (fun _ => .agg (Rq.mk q.core (withL q.ends e)).abs) := by
  refine spec_of Try.func9 rfl Try.ntmps9 rfl fun G w => ?_
  refine SC.seq (SC.region ?_)
  refine SL.eff (Eff.boxA (cs := q.abs) rfl) rfl rfl ?_
  rintro _ _ ⟨b2, rfl, rfl⟩
  refine SL.eff (Eff.boxA (cs := e.abs) rfl) rfl rfl ?_
  rintro _ _ ⟨b3, rfl, rfl⟩
  refine SL.eff (Eff.alloc tabOk rfl) rfl rfl ?_
  rintro _ _ ⟨b4, rfl, rfl⟩
  refine SL.nil (SE.seq ?_)
  refine SC.seq (SC.region ?_)
  refine SL.val (Val.fieldAddr tabOk rfl rfl rfl rfl rfl) rfl rfl ?_
  refine SL.val (Val.load1 tabOk rfl rfl (by first|(apply Or.inl;(repeat first|assumption|exact m0|apply m1);done)|(apply Or.inr;(repeat first|assumption|exact m0|apply m1);done)) List.not_mem_nil (by rfl)) rfl rfl ?_
  refine SL.call (clone_ends_s (ends_ones q.ends) (by rw [List.length_map]; omega)) Casts.refl (by kernel_rfl) rfl rfl rfl ?_
  refine After.make (by repeat (first | exact Reads.nil | (refine Reads.blk ?_ ?_; focus ((repeat first|assumption|exact m0|apply m1); done)) | (refine Reads.rd ?_ ?_; focus ((repeat first|assumption|exact m0|apply m1); done)) | (refine Reads.pc ?_ ?_; focus ((repeat first|assumption|exact m0|apply m1); done)) | (refine Reads.rdpc ?_ ?_; focus ((repeat first|assumption|exact m0|apply m1); done)))) (fun _ => rfl) ?_
  intro z5
  refine SL.val (Val.assign rfl) rfl rfl ?_
  refine SL.nil (SE.seq ?_)
  refine SC.seq (SC.region ?_)
  refine SL.val (Val.fieldAddr tabOk rfl rfl rfl rfl rfl) rfl rfl ?_
  refine SL.val (Val.load1 tabOk rfl rfl (by first|(apply Or.inl;(repeat first|assumption|exact m0|apply m1);done)|(apply Or.inr;(repeat first|assumption|exact m0|apply m1);done)) List.not_mem_nil (by rfl)) rfl rfl ?_
  refine SL.call (clone_tags_s (tags_ones e.tags) (by rw [List.length_map]; omega)) Casts.refl (by kernel_rfl) rfl rfl rfl ?_
  refine After.pure (by repeat first|exact .nil|refine .blk (by repeat first|assumption|exact m0|apply m1) ?_|refine .rd (by repeat first|assumption|exact m0|apply m1) ?_|refine .pc (by repeat first|assumption|exact m0|apply m1) ?_|refine .rdpc (by repeat first|assumption|exact m0|apply m1) ?_) (fun _ => rfl) ?_
  intro _
  refine SL.val (Val.fieldAddr tabOk rfl rfl rfl rfl rfl) rfl rfl ?_
  refine SL.eff (Eff.store (L' := e.abs) tabOk rfl rfl rfl (by repeat first|assumption|exact Upd.here|apply Upd.there) rfl (Nat.le_of_ble_eq_true (by rfl)) rfl (by rfl)) rfl rfl ?_
  rintro _ _ ⟨rfl, rfl⟩
  refine SL.nil (SE.seq ?_)
  refine SC.seq ?_
  refine SC.seq (SC.region ?_)
  refine SL.val (Val.move rfl) rfl rfl ?_
  refine SL.val (Val.makeFunc rfl rfl) rfl rfl ?_
  refine SL.call (indexO_end (v := z5) (xs := q.ends) (k := 27) (caps := [ptr b3]) (σ := [.rd b3 34 e.abs]) (p := fun x : En => decide (x.org = e.org)) (by kernel_rfl) (by intro x hx; simp only [List.mem_cons, List.not_mem_nil, or_false] at hx; rcases hx with rfl; exact .inl ⟨_, _, _, rfl⟩) (by omega) (fun x _ => with1_s (e := e))) Casts.refl (by kernel_rfl) rfl rfl rfl ?_
  refine After.pure (by repeat (first | exact Reads.nil | (refine Reads.blk ?_ ?_; focus ((repeat first|assumption|exact m0|apply m1); done)) | (refine Reads.rd ?_ ?_; focus ((repeat first|assumption|exact m0|apply m1); done)) | (refine Reads.pc ?_ ?_; focus ((repeat first|assumption|exact m0|apply m1); done)) | (refine Reads.rdpc ?_ ?_; focus ((repeat first|assumption|exact m0|apply m1); done)))) (fun _ => rfl) ?_
  intro z1
  refine SL.val (Val.assign rfl) rfl rfl ?_
  refine SL.nil (SE.seq ?_)
  refine SC.seq (SC.region ?_)
  refine SL.val (Val.move rfl) rfl rfl ?_
  refine SL.val (Val.geI rfl rfl) rfl rfl ?_
  refine SL.nil (SE.seq ?_)
  refine SC.condP rfl ?_ ?_
  · intro hc19
    obtain ⟨i1, hi1, he1, hp1, hn1⟩ : ∃ i, ∃ h : i < q.ends.length, z1.1 = (i : Nat) ∧ q.ends[i].org = e.org ∧ ∀ j (hj : j < i), ¬ (q.ends[j]'(by omega)).org = e.org := by
      rcases z1.2 with ⟨h, _⟩ | ⟨i, hi, h1, h2, h3⟩
      · omega
      · exact ⟨i, hi, h1, of_decide_eq_true h2, fun j hj => of_decide_eq_false (h3 j hj)⟩
    have hw : withL q.ends e = q.ends.set i1 e := by
      unfold withL
      rw [show hasE q.ends e.org = true from List.any_eq_true.2 ⟨_, List.getElem_mem hi1, decide_eq_true hp1⟩]
      exact putE_set hi1 hp1 hn1
    refine SC.seq (SC.region ?_)
    refine SL.val (Val.move rfl) rfl rfl ?_
    refine SL.val (Val.move rfl) rfl rfl ?_
    refine SL.val (Val.loadA tabOk rfl rfl rfl (by first|(apply Or.inl;(repeat first|assumption|exact m0|apply m1);done)|(apply Or.inr;(repeat first|assumption|exact m0|apply m1);done)) List.not_mem_nil rfl) rfl rfl ?_
    refine SL.val (Val.indexOwn (q := i1) tabOk Try.underlying24 rfl rfl (.inl (by repeat first|assumption|exact m0|apply m1)) rfl he1 (by rw [List.length_map]; exact hi1) rfl rfl) rfl rfl ?_
    refine SL.eff (Eff.setOwn (q := i1) (ys := e.abs) tabOk rfl rfl rfl (by repeat first|assumption|exact Upd.here|apply Upd.there) rfl rfl rfl (by rw [List.length_map]; exact hi1) rfl) rfl rfl ?_
    rintro _ _ ⟨rfl, rfl⟩
    refine SL.nil (SE.seq ?_)
    refine SC.seq ?_
    refine SC.freeze [] (t := 5) rfl rfl ?_
    rw [show List.set (List.map En.abs q.ends) i1 e.abs = (withL q.ends e).map En.abs by rw [hw, List.map_set]]
    refine SC.region ?_
    refine SL.val (Val.fieldAddr tabOk rfl rfl rfl rfl rfl) rfl rfl ?_
    refine SL.val (Val.to (C := coreA q.core) (Val.loadP tabOk rfl rfl rfl (by first|(apply Or.inl;(repeat first|assumption|exact m0|apply m1);done)|(apply Or.inr;(repeat first|assumption|exact m0|apply m1);done)) List.not_mem_nil (Nat.le_of_ble_eq_true (by rfl))) (congrArg Abs.agg (Rq.part _))) rfl rfl ?_
    refine SL.val (Val.move rfl) rfl rfl ?_
    refine SL.val (Val.buildS (L := (Rq.mk q.core (withL q.ends e)).abs) tabOk rfl rfl rfl rfl) rfl rfl ?_
    refine SL.eff (Eff.store (L' := (Rq.mk q.core (withL q.ends e)).abs) tabOk rfl rfl rfl (by repeat first|assumption|exact Upd.here|apply Upd.there) rfl (Nat.le_of_ble_eq_true (by rfl)) rfl (by exact putL_whole rfl)) rfl rfl ?_
    rintro _ _ ⟨rfl, rfl⟩
    refine SL.nil (SE.seq ?_)
    refine SC.ret ?_
    refine SE.then_ (by intro h; cases h) ?_
    refine SE.fin (rs := [.cell 4 26]) rfl (RV.cell rfl (RV.cellA tabOk rfl rfl (by first|(apply Or.inl;(repeat first|assumption|exact m0|apply m1);done)|(apply Or.inr;(repeat first|assumption|exact m0|apply m1);done)) (by rfl)) RV.nil) (()) (by repeat first|exact s0 _|exact s1 _|apply s2|apply s3) (by simp [It.rids]) ?_
    exact rfl
  intro hc19
  have hno : hasE q.ends e.org = false := by
    rcases z1.2 with ⟨_, h⟩ | ⟨i, hi, h1, _⟩
    · unfold hasE
      rw [Bool.eq_false_iff]
      intro h2
      obtain ⟨x, hx, h3⟩ := List.any_eq_true.1 h2
      have h4 : decide (x.org = e.org) = false := h x hx
      rw [h4] at h3
      cases h3
    · omega
  refine SC.skip ?_
  refine SE.seq ?_
  refine SC.seq (SC.region ?_)
  refine SL.val (Val.move rfl) rfl rfl ?_
  refine SL.val (Val.makeFunc rfl rfl) rfl rfl ?_
  refine SL.call (indexO_end (v := z5) (xs := q.ends) (k := 28) (caps := [ptr b3]) (σ := [.rd b3 34 e.abs]) (p := fun x : En => decide (e.org < x.org)) (by kernel_rfl) (by intro x hx; simp only [List.mem_cons, List.not_mem_nil, or_false] at hx; rcases hx with rfl; exact .inl ⟨_, _, _, rfl⟩) (by omega) (fun x _ => with2_s (e := e))) Casts.refl (by kernel_rfl) rfl rfl rfl ?_
  refine After.pure (by repeat (first | exact Reads.nil | (refine Reads.blk ?_ ?_; focus ((repeat first|assumption|exact m0|apply m1); done)) | (refine Reads.rd ?_ ?_; focus ((repeat first|assumption|exact m0|apply m1); done)) | (refine Reads.pc ?_ ?_; focus ((repeat first|assumption|exact m0|apply m1); done)) | (refine Reads.rdpc ?_ ?_; focus ((repeat first|assumption|exact m0|apply m1); done)))) (fun _ => rfl) ?_
  intro z2
  refine SL.val (Val.assign rfl) rfl rfl ?_
  refine SL.nil (SE.seq ?_)
  refine SC.seq ?_
  refine SC.seq (SC.region ?_)
  refine SL.val (Val.move rfl) rfl rfl ?_
  refine SL.val (Val.ltI rfl rfl) rfl rfl ?_
  refine SL.nil (SE.seq ?_)
  refine SC.condP rfl ?_ ?_
  rotate_left
  · intro hc32
    obtain ⟨i2, hi2, he2, hw⟩ : ∃ i : Nat, i ≤ q.ends.length ∧ z2.1 = (i : Nat) ∧ withL q.ends e = q.ends.take i ++ e :: q.ends.drop i := by
      unfold withL
      rw [hno]
      rcases z2.2 with ⟨h, h1⟩ | ⟨i, hi, h1, h2, h3⟩
      · first
          | exact ⟨q.ends.length, Nat.le_refl _, rfl, putE_end fun x hx => of_decide_eq_false (h1 x hx)⟩
          | omega
      · first
          | exact ⟨i, by omega, h1, putE_ins hi (of_decide_eq_true h2) fun j hj => of_decide_eq_false (h3 j hj)⟩
          | omega
    refine SC.skip ?_
    refine SE.seq ?_
    refine SC.seq ?_
    have hX : True := trivial
    refine SC.known (p := b2 ∉ (mids ([] : Blks) ++ z5.ownBlock.toList) ∧ b3 ∉ (mids ([] : Blks) ++ z5.ownBlock.toList)) (fun _ _ h => by
        have h1 := h.mem.nodup
        simp [mids, It.mids, ownPc] at h1 ⊢
        grind) fun hX => ?_
    refine SC.drawZ (mids ([] : Blks) ++ z5.ownBlock.toList) (.q 0 (.q 1 (.q 2 (.q 3 (.q 4 (.e 5 (.e 6 (.q 7 .nil)))))))) (by kernel_rfl) (by kernel_rfl) ?_
    refine SX.val rfl (Val.fieldAddr tabOk rfl rfl rfl rfl rfl) (by first | (simp [mids, It.mids, ownPc, bkPc, mapPc]; done) | (intro k hk; simp [mids, It.mids, ownPc, bkPc, mapPc] at hk ⊢; grind)) rfl rfl ?_
    refine SX.val rfl (Val.to (C := coreA q.core) (Val.loadP tabOk rfl rfl rfl (by first|(apply Or.inl;(repeat first|assumption|exact m0|apply m1);done)|(apply Or.inr;(repeat first|assumption|exact m0|apply m1);done)) (by first | exact hX.1 | exact hX.2) (Nat.le_of_ble_eq_true (by rfl))) (congrArg Abs.agg (Rq.part _))) (by first | (simp [mids, It.mids, ownPc, bkPc, mapPc]; done) | (intro k hk; simp [mids, It.mids, ownPc, bkPc, mapPc] at hk ⊢; grind)) rfl rfl ?_
    refine SX.val rfl (Val.move rfl) (by first | (simp [mids, It.mids, ownPc, bkPc, mapPc]; done) | (intro k hk; simp [mids, It.mids, ownPc, bkPc, mapPc] at hk ⊢; grind)) rfl rfl ?_
    refine SX.val rfl (Val.move rfl) (by first | (simp [mids, It.mids, ownPc, bkPc, mapPc]; done) | (intro k hk; simp [mids, It.mids, ownPc, bkPc, mapPc] at hk ⊢; grind)) rfl rfl ?_
    refine SX.val rfl (Val.loadA tabOk rfl rfl rfl (by first|(apply Or.inl;(repeat first|assumption|exact m0|apply m1);done)|(apply Or.inr;(repeat first|assumption|exact m0|apply m1);done)) (by first | exact hX.1 | exact hX.2) rfl) (by first | (simp [mids, It.mids, ownPc, bkPc, mapPc]; done) | (intro k hk; simp [mids, It.mids, ownPc, bkPc, mapPc] at hk ⊢; grind)) rfl rfl ?_
    refine SX.effN [] z5.ownBlock.toList rfl (Eff.buildOwn tabOk Try.underlying24 rfl rfl rfl rfl rfl rfl rfl) rfl (by simp) rfl rfl ?_
    rintro _ _ ⟨r40, rfl, rfl⟩
    refine ⟨[own 34 2 r40 ([e.abs])], rfl, ?_⟩
    refine SX.callX ([]) rfl (ins_end (u := r40) (v := z5) (xs := q.ends.map En.abs) (y := e.abs) (i := i2) (by rw [List.length_map]; exact hi2) (ends_ones q.ends) rfl (by rw [List.length_map]; omega)) (by simp [mids, It.mids, ownPc]) (by simp) (Casts.of_eq (by rw [he2])) (by kernel_rfl) rfl rfl rfl ?_
    refine After.mid [] (β := [_, _, _]) rfl (by intro x hx; simp only [List.mem_cons, List.not_mem_nil, or_false] at hx; rcases hx with rfl | rfl <;> rfl) ?_
    intro z41
    refine SX.freeze [] (t := 41) rfl rfl ?_
    rw [show List.take i2 (List.map En.abs q.ends) ++ e.abs :: List.drop i2 (List.map En.abs q.ends) = (withL q.ends e).map En.abs by rw [hw, List.map_append, List.map_cons, List.map_take, List.map_drop]]
    refine SX.val rfl (Val.buildS (L := (Rq.mk q.core (withL q.ends e)).abs) tabOk rfl rfl rfl rfl) (by first | (simp [mids, It.mids, ownPc, bkPc, mapPc]; done) | (intro k hk; simp [mids, It.mids, ownPc, bkPc, mapPc] at hk ⊢; grind)) rfl rfl ?_
    refine SX.nil ?_
    refine SE.effZ rfl (Eff.store (L' := (Rq.mk q.core (withL q.ends e)).abs) tabOk rfl rfl rfl (by repeat first|assumption|exact Upd.here|apply Upd.there) rfl (Nat.le_of_ble_eq_true (by rfl)) rfl (by exact putL_whole rfl)) rfl rfl ?_
    rintro _ _ ⟨rfl, rfl⟩
    refine SE.seq ?_
    refine SC.ret ?_
    refine SE.fin (rs := [.cell 4 26]) rfl (RV.cell rfl (RV.cellA tabOk rfl rfl (by first|(apply Or.inl;(repeat first|assumption|exact m0|apply m1);done)|(apply Or.inr;(repeat first|assumption|exact m0|apply m1);done)) (by rfl)) RV.nil) (()) (by repeat first|exact s0 _|exact s1 _|apply s2|apply s3) (by simp [It.rids]) ?_
    exact rfl
  intro hc32
  obtain ⟨i2, hi2, he2, hw⟩ : ∃ i : Nat, i ≤ q.ends.length ∧ ((q.ends.length : Nat) : Int) = (i : Nat) ∧ withL q.ends e = q.ends.take i ++ e :: q.ends.drop i := by
    unfold withL
    rw [hno]
    rcases z2.2 with ⟨h, h1⟩ | ⟨i, hi, h1, h2, h3⟩
    · first
        | exact ⟨q.ends.length, Nat.le_refl _, rfl, putE_end fun x hx => of_decide_eq_false (h1 x hx)⟩
        | omega
    · first
        | exact ⟨i, by omega, h1, putE_ins hi (of_decide_eq_true h2) fun j hj => of_decide_eq_false (h3 j hj)⟩
        | omega
  refine SC.region ?_
  refine SL.val (Val.move rfl) rfl rfl ?_
  first
    | refine SL.val (Val.lenSl rfl Try.underlying24 (List.length_map _)) rfl rfl ?_
    | refine SL.val (Val.lenOwn rfl (by repeat first|assumption|exact m0|apply m1) Try.underlying24 (List.length_map _)) rfl rfl ?_
    | refine SL.val (Val.lenNil rfl Try.underlying24) rfl rfl ?_
  refine SL.val (Val.assign rfl) rfl rfl ?_
  refine SL.nil (SE.seq ?_)
  refine SC.seq ?_
  have hX : True := trivial
  refine SC.known (p := b2 ∉ (mids ([] : Blks) ++ z5.ownBlock.toList) ∧ b3 ∉ (mids ([] : Blks) ++ z5.ownBlock.toList)) (fun _ _ h => by
      have h1 := h.mem.nodup
      simp [mids, It.mids, ownPc] at h1 ⊢
      grind) fun hX => ?_
  refine SC.drawZ (mids ([] : Blks) ++ z5.ownBlock.toList) (.q 0 (.q 1 (.q 2 (.q 3 (.q 4 (.e 5 (.e 6 (.q 7 .nil)))))))) (by kernel_rfl) (by kernel_rfl) ?_
  refine SX.val rfl (Val.fieldAddr tabOk rfl rfl rfl rfl rfl) (by first | (simp [mids, It.mids, ownPc, bkPc, mapPc]; done) | (intro k hk; simp [mids, It.mids, ownPc, bkPc, mapPc] at hk ⊢; grind)) rfl rfl ?_
  refine SX.val rfl (Val.to (C := coreA q.core) (Val.loadP tabOk rfl rfl rfl (by first|(apply Or.inl;(repeat first|assumption|exact m0|apply m1);done)|(apply Or.inr;(repeat first|assumption|exact m0|apply m1);done)) (by first | exact hX.1 | exact hX.2) (Nat.le_of_ble_eq_true (by rfl))) (congrArg Abs.agg (Rq.part _))) (by first | (simp [mids, It.mids, ownPc, bkPc, mapPc]; done) | (intro k hk; simp [mids, It.mids, ownPc, bkPc, mapPc] at hk ⊢; grind)) rfl rfl ?_
  refine SX.val rfl (Val.move rfl) (by first | (simp [mids, It.mids, ownPc, bkPc, mapPc]; done) | (intro k hk; simp [mids, It.mids, ownPc, bkPc, mapPc] at hk ⊢; grind)) rfl rfl ?_
  refine SX.val rfl (Val.move rfl) (by first | (simp [mids, It.mids, ownPc, bkPc, mapPc]; done) | (intro k hk; simp [mids, It.mids, ownPc, bkPc, mapPc] at hk ⊢; grind)) rfl rfl ?_
  refine SX.val rfl (Val.loadA tabOk rfl rfl rfl (by first|(apply Or.inl;(repeat first|assumption|exact m0|apply m1);done)|(apply Or.inr;(repeat first|assumption|exact m0|apply m1);done)) (by first | exact hX.1 | exact hX.2) rfl) (by first | (simp [mids, It.mids, ownPc, bkPc, mapPc]; done) | (intro k hk; simp [mids, It.mids, ownPc, bkPc, mapPc] at hk ⊢; grind)) rfl rfl ?_
  refine SX.effN [] z5.ownBlock.toList rfl (Eff.buildOwn tabOk Try.underlying24 rfl rfl rfl rfl rfl rfl rfl) rfl (by simp) rfl rfl ?_
  rintro _ _ ⟨r40, rfl, rfl⟩
  refine ⟨[own 34 2 r40 ([e.abs])], rfl, ?_⟩
  refine SX.callX ([]) rfl (ins_end (u := r40) (v := z5) (xs := q.ends.map En.abs) (y := e.abs) (i := i2) (by rw [List.length_map]; exact hi2) (ends_ones q.ends) rfl (by rw [List.length_map]; omega)) (by simp [mids, It.mids, ownPc]) (by simp) (Casts.of_eq (by rw [he2])) (by kernel_rfl) rfl rfl rfl ?_
  refine After.mid [] (β := [_, _, _]) rfl (by intro x hx; simp only [List.mem_cons, List.not_mem_nil, or_false] at hx; rcases hx with rfl | rfl <;> rfl) ?_
  intro z41
  refine SX.freeze [] (t := 41) rfl rfl ?_
  rw [show List.take i2 (List.map En.abs q.ends) ++ e.abs :: List.drop i2 (List.map En.abs q.ends) = (withL q.ends e).map En.abs by rw [hw, List.map_append, List.map_cons, List.map_take, List.map_drop]]
  refine SX.val rfl (Val.buildS (L := (Rq.mk q.core (withL q.ends e)).abs) tabOk rfl rfl rfl rfl) (by first | (simp [mids, It.mids, ownPc, bkPc, mapPc]; done) | (intro k hk; simp [mids, It.mids, ownPc, bkPc, mapPc] at hk ⊢; grind)) rfl rfl ?_
  refine SX.nil ?_
  refine SE.effZ rfl (Eff.store (L' := (Rq.mk q.core (withL q.ends e)).abs) tabOk rfl rfl rfl (by repeat first|assumption|exact Upd.here|apply Upd.there) rfl (Nat.le_of_ble_eq_true (by rfl)) rfl (by exact putL_whole rfl)) rfl rfl ?_
  rintro _ _ ⟨rfl, rfl⟩
  refine SE.seq ?_
  refine SC.ret ?_
  refine SE.fin (rs := [.cell 4 26]) rfl (RV.cell rfl (RV.cellA tabOk rfl rfl (by first|(apply Or.inl;(repeat first|assumption|exact m0|apply m1);done)|(apply Or.inr;(repeat first|assumption|exact m0|apply m1);done)) (by rfl)) RV.nil) (()) (by repeat first|exact s0 _|exact s1 _|apply s2|apply s3) (by simp [It.rids]) ?_
  exact rfl
end
end Go.Proofs.Ytbhjchlflkgjbaa.A
/-
  Requests: few; the document's With; the same.
-/
set_option maxRecDepth 100000
set_option linter.unusedSimpArgs false
set_option linter.unusedVariables false
namespace Go.Proofs.Ytbhjchlflkgjbaa.A
open Go.RowKit

theorem take_snocE {es : List En} {z : Nat} (h : z < es.length) : es.take (z + 1) = es.take z ++ [es[z]] := List.take_succ_eq_append_getElem h
theorem hasE_take {es : List En} {o : Int} {z : Nat} (h : z < es.length) : hasE (es.take (z + 1)) o = (hasE (es.take z) o || decide (es[z].org = o)) := by rw [take_snocE h, hasE_app]
theorem wf_take {th : Bool} {e : En} {es : List En} {z : Nat} {s : List En × Bool} (h : z < es.length) (hs : (es.take z).foldl (wStep th e) ([], false) = s) : (es.take (z + 1)).foldl (wStep th e) ([], false) = wStep th e s es[z] := by
  rw [take_snocE h, List.foldl_append, hs]
  rfl
theorem wf_len {th : Bool} {e : En} : ∀ (l : List En) (s : List En × Bool), (l.foldl (wStep th e) s).1.length ≤ s.1.length + 2 * l.length
  | [], s => by simp
  | x :: l, s => by
    have h1 := wf_len (th := th) (e := e) l (wStep th e s x)
    have h2 := wStep_len th e s x
    rw [List.foldl_cons, List.length_cons]
    omega
theorem boo_b {a b : Bool} (h : a = b) : boo a = boo b := by rw [h]
section
variable {q q2 : Rq} {e : En} {n who : Int}
set_option maxHeartbeats 4000000 in
theorem rwith_s (hn : q.ends.length ≤ 100000) : Spec Try.prog 18 [.agg q.abs, .agg e.abs] [] (fun _ : Unit => []) (fun _ => .agg (Rq.mk q.core (withL q.ends e)).abs) := by
  refine spec_of Try.func18 rfl Try.ntmps18 rfl fun G w => ?_
  refine SC.seq (SC.region ?_)
  refine SL.eff (Eff.boxA (cs := q.abs) rfl) rfl rfl ?_
  rintro _ _ ⟨b2, rfl, rfl⟩
  refine SL.eff (Eff.boxA (cs := e.abs) rfl) rfl rfl ?_
  rintro _ _ ⟨b3, rfl, rfl⟩
  refine SL.eff (Eff.alloc tabOk rfl) rfl rfl ?_
  rintro _ _ ⟨b4, rfl, rfl⟩
  refine SL.nil (SE.seq ?_)
  refine SC.seq (SC.region ?_)
  refine SL.val (Val.assign rfl) rfl rfl ?_
  refine SL.nil (SE.seq ?_)
  refine SC.seq ?_
  refine SC.seq (SC.region ?_)
  refine SL.val (Val.fieldAddr tabOk rfl rfl rfl rfl rfl) rfl rfl ?_
  refine SL.val (Val.load1 tabOk rfl rfl (by first|(apply Or.inl;(repeat first|assumption|exact m0|apply m1);done)|(apply Or.inr;(repeat first|assumption|exact m0|apply m1);done)) List.not_mem_nil (by rfl)) rfl rfl ?_
  first
    | refine SL.val (Val.lenSl rfl Try.underlying24 (List.length_map _)) rfl rfl ?_
    | refine SL.val (Val.lenOwn rfl (by repeat first|assumption|exact m0|apply m1) Try.underlying24 (List.length_map _)) rfl rfl ?_
    | refine SL.val (Val.lenNil rfl Try.underlying24) rfl rfl ?_
  refine SL.val (Val.move rfl) rfl rfl ?_
  refine SL.nil (SE.seq ?_)
  refine SC.block ?_
  refine SC.loop (ι := Nat) (fun z => [.blk b4 26 (zabs [.int .i64 0, .int .i64 0, .int .i64 0, .string ⟨#[]⟩, .int .i64 0, .int .i64 0, .string ⟨#[]⟩, .slice none 0 0]), .blk b3 34 e.abs, .blk b2 26 q.abs]) (fun z => [(2, ptr b2), (3, ptr b3), (4, ptr b4), (5, boo (hasE (q.ends.take z) e.org)), (13, endsA q.ends), (14, int (q.ends.length : Nat)), (15, int (z : Nat))]) (fun z => z ≤ q.ends.length) (fun z => q.ends.length - z) (0) (Nat.zero_le _) (by exact ⟨rfl, rfl, rfl, rfl, rfl, rfl, rfl, trivial⟩) (by repeat first|exact s0 _|exact s1 _|apply s2|apply s3) ?_
  intro z hz
  refine SC.seq (SC.region ?_)
  refine SL.val (Val.ltI rfl rfl) rfl rfl ?_
  refine SL.nil (SE.seq ?_)
  refine SC.seq ?_
  refine SC.condP rfl ?_ ?_
  · intro hc16
    have hlt : z < q.ends.length := by omega
    refine SC.skip ?_
    refine SE.seq ?_
    refine SC.seq ?_
    refine SC.block ?_
    refine SC.seq (SC.region ?_)
    refine SL.val (Val.indexSl tabOk Try.underlying24 rfl rfl rfl rfl (at_map (by omega)) rfl rfl) rfl rfl ?_
    refine SL.val (Val.loadAR tabOk rfl rfl rfl rfl) rfl rfl ?_
    refine SL.eff (Eff.alloc tabOk rfl) rfl rfl ?_
    rintro _ _ ⟨b7, rfl, rfl⟩
    refine SL.eff (Eff.store (L' := (q.ends[z]'hlt).abs) tabOk rfl rfl rfl (by repeat first|assumption|exact Upd.here|apply Upd.there) rfl (Nat.le_of_ble_eq_true (by rfl)) rfl (by exact putL_whole rfl)) rfl rfl ?_
    rintro _ _ ⟨rfl, rfl⟩
    refine SL.nil (SE.seq ?_)
    refine SC.region ?_
    refine SL.val (Val.move rfl) rfl rfl ?_
    refine SL.val (Val.move rfl) rfl rfl ?_
    refine SL.both (t := 20) rfl ?_ ?_
    · intro hc20
      iterate 5 refine SL.skip rfl rfl ?_
      refine SL.val (Val.to (C := boo (hasE (q.ends.take (z + 1)) e.org)) (Val.pickT rfl rfl) (boo_b (by rw [hasE_take hlt, hc20]; rfl))) rfl rfl ?_
      refine SL.val (Val.assign rfl) rfl rfl ?_
      refine SL.nil ?_
      refine SE.inBlock ?_
      refine SE.seq ?_
      refine SC.region ?_
      first
        | refine SL.val (Val.addI rfl rfl (by simp only [InR, lo, hi]; omega)) rfl rfl ?_
        | refine SL.val (Val.addW rfl rfl) rfl rfl ?_
      refine SL.val (Val.move rfl) rfl rfl ?_
      refine SL.nil ?_
      refine SE.round (z + 1) (by first | omega | (dsimp only; omega)) (by first | omega | (dsimp only; omega)) (by exact ⟨rfl, rfl, rfl, rfl, rfl, rfl, rfl, trivial⟩) (by repeat first|exact s0 _|exact s1 _|apply s2|apply s3)
    intro hc20
    refine SL.val (Val.fieldAddr tabOk rfl rfl rfl rfl rfl) rfl rfl ?_
    refine SL.val (Val.load1 tabOk rfl rfl (by first|(apply Or.inl;(repeat first|assumption|exact m0|apply m1);done)|(apply Or.inr;(repeat first|assumption|exact m0|apply m1);done)) List.not_mem_nil (by rfl)) rfl rfl ?_
    refine SL.val (Val.fieldAddr tabOk rfl rfl rfl rfl rfl) rfl rfl ?_
    refine SL.val (Val.load1 tabOk rfl rfl (by first|(apply Or.inl;(repeat first|assumption|exact m0|apply m1);done)|(apply Or.inr;(repeat first|assumption|exact m0|apply m1);done)) List.not_mem_nil (by rfl)) rfl rfl ?_
    refine SL.val (Val.eqI rfl rfl) rfl rfl ?_
    refine SL.val (Val.to (C := boo (hasE (q.ends.take (z + 1)) e.org)) (Val.pickF rfl rfl) (boo_b (by rw [hasE_take hlt, hc20, Bool.false_or]))) rfl rfl ?_
    refine SL.val (Val.assign rfl) rfl rfl ?_
    refine SL.nil ?_
    refine SE.inBlock ?_
    refine SE.seq ?_
    refine SC.region ?_
    first
      | refine SL.val (Val.addI rfl rfl (by simp only [InR, lo, hi]; omega)) rfl rfl ?_
      | refine SL.val (Val.addW rfl rfl) rfl rfl ?_
    refine SL.val (Val.move rfl) rfl rfl ?_
    refine SL.nil ?_
    refine SE.round (z + 1) (by first | omega | (dsimp only; omega)) (by first | omega | (dsimp only; omega)) (by exact ⟨rfl, rfl, rfl, rfl, rfl, rfl, rfl, trivial⟩) (by repeat first|exact s0 _|exact s1 _|apply s2|apply s3)
  intro hc16
  refine SC.exit ?_
  refine SE.then_ (by intro h; cases h) ?_
  refine SE.then_ (by intro h; cases h) ?_
  refine SE.exit ?_
  refine SE.seq ?_
  refine SC.seq (SC.region ?_)
  refine SL.val (Val.assign rfl) rfl rfl ?_
  refine SL.nil (SE.seq ?_)
  refine SC.seq (SC.region ?_)
  refine SL.val (Val.assign rfl) rfl rfl ?_
  refine SL.nil (SE.seq ?_)
  refine SC.seq ?_
  refine SC.seq (SC.region ?_)
  refine SL.val (Val.fieldAddr tabOk rfl rfl rfl rfl rfl) rfl rfl ?_
  refine SL.val (Val.load1 tabOk rfl rfl (by first|(apply Or.inl;(repeat first|assumption|exact m0|apply m1);done)|(apply Or.inr;(repeat first|assumption|exact m0|apply m1);done)) List.not_mem_nil (by rfl)) rfl rfl ?_
  first
    | refine SL.val (Val.lenSl rfl Try.underlying24 (List.length_map _)) rfl rfl ?_
    | refine SL.val (Val.lenOwn rfl (by repeat first|assumption|exact m0|apply m1) Try.underlying24 (List.length_map _)) rfl rfl ?_
    | refine SL.val (Val.lenNil rfl Try.underlying24) rfl rfl ?_
  refine SL.val (Val.move rfl) rfl rfl ?_
  refine SL.nil (SE.seq ?_)
  refine SC.block ?_
  refine SC.own0 34 2 ?_
  refine SC.loop (ι := List En × Bool × Nat × Value) (fun x => [own 34 2 x.2.2.2 ((x.1).map En.abs), .blk b4 26 (zabs [.int .i64 0, .int .i64 0, .int .i64 0, .string ⟨#[]⟩, .int .i64 0, .int .i64 0, .string ⟨#[]⟩, .slice none 0 0]), .blk b3 34 e.abs, .blk b2 26 q.abs]) (fun x => [(2, ptr b2), (3, ptr b3), (4, ptr b4), (5, boo (hasE q.ends e.org)), (8, .v x.2.2.2), (9, boo x.2.1), (29, endsA q.ends), (30, int (q.ends.length : Nat)), (31, int (x.2.2.1 : Nat))]) (fun x => x.2.2.1 ≤ q.ends.length ∧ ((q.ends.take x.2.2.1).foldl (wStep (hasE q.ends e.org) e) ([], false)) = (x.1, x.2.1)) (fun x => q.ends.length - x.2.2.1) ([], false, 0, .slice none 0 0) (⟨Nat.zero_le _, rfl⟩) (by exact ⟨rfl, rfl, rfl, congrArg (fun b : Bool => some (boo b)) (show hasE (q.ends.take z) e.org = hasE q.ends e.org by rw [List.take_of_length_le (by omega)]), rfl, rfl, rfl, rfl, rfl, trivial⟩) (by repeat first|exact s0 _|exact s1 _|apply s2|apply s3) ?_
  intro x hx
  refine SC.seq (SC.region ?_)
  refine SL.val (Val.ltI rfl rfl) rfl rfl ?_
  refine SL.nil (SE.seq ?_)
  refine SC.seq ?_
  refine SC.condP rfl ?_ ?_
  rotate_left
  · intro hc32
    have hz2 : x.2.2.1 = q.ends.length := by omega
    have hwl := wf_len (th := hasE q.ends e.org) (e := e) (q.ends.take x.2.2.1) ([], false)
    rw [hx.2] at hwl
    simp only [List.length_take, List.length_nil] at hwl
    have hfin : withL q.ends e = wFin e (x.1, x.2.1) := by
      rw [withL_fold, ← hx.2, List.take_of_length_le (by omega)]
    refine SC.exit ?_
    refine SE.then_ (by intro h; cases h) ?_
    refine SE.then_ (by intro h; cases h) ?_
    refine SE.exit ?_
    refine SE.seq ?_
    refine SC.cutS (ι := Value) (fun z => [own 34 2 z ((withL q.ends e).map En.abs), .blk b4 26 (zabs [.int .i64 0, .int .i64 0, .int .i64 0, .string ⟨#[]⟩, .int .i64 0, .int .i64 0, .string ⟨#[]⟩, .slice none 0 0]), .blk b2 26 q.abs]) (fun z => [(2, ptr b2), (4, ptr b4), (8, .v z)]) (fun z => True) ?_ ?_
    · skip
      refine SC.seq (SC.region ?_)
      refine SL.val (Val.move rfl) rfl rfl ?_
      refine SL.val (Val.notB rfl) rfl rfl ?_
      refine SL.nil (SE.seq ?_)
      refine SC.cond rfl ?_ ?_
      rotate_left
      · intro hc69
        refine SC.skip ?_
        refine SE.meet (x.2.2.2) (trivial) (by exact ⟨rfl, rfl, rfl, trivial⟩) (by rw [hfin]; unfold wFin; rw [if_pos (by simpa using hc69)]; repeat (first | exact List.nil_sublist _ | exact List.Sublist.refl _ | apply List.Sublist.cons_cons | apply List.Sublist.cons))
      intro hc69
      refine SC.region ?_
      refine SL.val (Val.move rfl) rfl rfl ?_
      refine SL.val (Val.loadA tabOk rfl rfl rfl (by first|(apply Or.inl;(repeat first|assumption|exact m0|apply m1);done)|(apply Or.inr;(repeat first|assumption|exact m0|apply m1);done)) List.not_mem_nil rfl) rfl rfl ?_
      refine SL.eff (Eff.buildSl tabOk Try.underlying24 rfl rfl rfl rfl rfl rfl rfl) rfl rfl ?_
      rintro _ _ ⟨rfl, rfl⟩
      refine SL.eff (Eff.appendE (zs := (x.1 ++ [e]).map En.abs) tabOk [] (by simp only [List.map_append]; rfl) Try.underlying24 rfl rfl rfl rfl rfl rfl (by intro c hc; rw [List.mem_singleton] at hc; subst hc; rfl) (by unfold maxLen; simp only [List.length_map, List.length_append, List.length_cons, List.length_nil]; omega) (by rw [show Try.prog.bytesOf 34 = 32 by kernel_rfl]; simp only [List.length_map, List.length_append, List.length_cons, List.length_nil]; omega)) rfl rfl ?_
      rintro _ _ ⟨r73, rfl, rfl⟩
      refine SL.val (Val.assign rfl) rfl rfl ?_
      refine SL.nil ?_
      refine SE.meet (r73) (trivial) (by exact ⟨rfl, rfl, rfl, trivial⟩) (by rw [hfin]; unfold wFin; rw [if_neg (by simpa using hc69)]; repeat (first | exact List.nil_sublist _ | exact List.Sublist.refl _ | apply List.Sublist.cons_cons | apply List.Sublist.cons))
    · intro z hz
      refine SC.freeze [] (t := 8) rfl rfl ?_
      refine SC.seq (SC.region ?_)
      refine SL.val (Val.fieldAddr tabOk rfl rfl rfl rfl rfl) rfl rfl ?_
      refine SL.val (Val.to (C := coreA q.core) (Val.loadP tabOk rfl rfl rfl (by first|(apply Or.inl;(repeat first|assumption|exact m0|apply m1);done)|(apply Or.inr;(repeat first|assumption|exact m0|apply m1);done)) List.not_mem_nil (Nat.le_of_ble_eq_true (by rfl))) (congrArg Abs.agg (Rq.part _))) rfl rfl ?_
      refine SL.val (Val.move rfl) rfl rfl ?_
      refine SL.val (Val.buildS (L := (Rq.mk q.core (withL q.ends e)).abs) tabOk rfl rfl rfl rfl) rfl rfl ?_
      refine SL.eff (Eff.store (L' := (Rq.mk q.core (withL q.ends e)).abs) tabOk rfl rfl rfl (by repeat first|assumption|exact Upd.here|apply Upd.there) rfl (Nat.le_of_ble_eq_true (by rfl)) rfl (by exact putL_whole rfl)) rfl rfl ?_
      rintro _ _ ⟨rfl, rfl⟩
      refine SL.nil (SE.seq ?_)
      refine SC.ret ?_
      refine SE.fin (rs := [.cell 4 26]) rfl (RV.cell rfl (RV.cellA tabOk rfl rfl (by first|(apply Or.inl;(repeat first|assumption|exact m0|apply m1);done)|(apply Or.inr;(repeat first|assumption|exact m0|apply m1);done)) (by rfl)) RV.nil) (()) (by repeat first|exact s0 _|exact s1 _|apply s2|apply s3) (by simp [It.rids]) ?_
      exact rfl
  intro hc32
  have hlt : x.2.2.1 < q.ends.length := by omega
  have hwl := wf_len (th := hasE q.ends e.org) (e := e) (q.ends.take x.2.2.1) ([], false)
  rw [hx.2] at hwl
  simp only [List.length_take, List.length_nil] at hwl
  refine SC.skip ?_
  refine SE.seq ?_
  refine SC.seq ?_
  refine SC.block ?_
  refine SC.seq (SC.region ?_)
  refine SL.val (Val.indexSl tabOk Try.underlying24 rfl rfl rfl rfl (at_map (by omega)) rfl rfl) rfl rfl ?_
  refine SL.val (Val.loadAR tabOk rfl rfl rfl rfl) rfl rfl ?_
  refine SL.eff (Eff.alloc tabOk rfl) rfl rfl ?_
  rintro _ _ ⟨b11, rfl, rfl⟩
  refine SL.eff (Eff.store (L' := (q.ends[x.2.2.1]'hlt).abs) tabOk rfl rfl rfl (by repeat first|assumption|exact Upd.here|apply Upd.there) rfl (Nat.le_of_ble_eq_true (by rfl)) rfl (by exact putL_whole rfl)) rfl rfl ?_
  rintro _ _ ⟨rfl, rfl⟩
  refine SL.nil (SE.seq ?_)
  refine SC.seq ?_
  refine SC.seq (SC.region ?_)
  refine SL.val (Val.move rfl) rfl rfl ?_
  refine SL.val (Val.notB rfl) rfl rfl ?_
  refine SL.val (Val.move rfl) rfl rfl ?_
  refine SL.both (t := 37) rfl ?_ ?_
  rotate_left
  · intro hc37
    iterate 19 refine SL.skip rfl rfl ?_
    refine SL.val (Val.pickF rfl rfl) rfl rfl ?_
    refine SL.nil (SE.seq ?_)
    refine SC.condF rfl ?_
    refine SC.skip ?_
    refine SE.seq ?_
    refine SC.region ?_
    refine SL.val (Val.move rfl) rfl rfl ?_
    refine SL.val (Val.loadA tabOk rfl rfl rfl (by first|(apply Or.inl;(repeat first|assumption|exact m0|apply m1);done)|(apply Or.inr;(repeat first|assumption|exact m0|apply m1);done)) List.not_mem_nil rfl) rfl rfl ?_
    refine SL.eff (Eff.buildSl tabOk Try.underlying24 rfl rfl rfl rfl rfl rfl rfl) rfl rfl ?_
    rintro _ _ ⟨rfl, rfl⟩
    refine SL.eff (Eff.appendE (zs := (x.1 ++ [(q.ends[x.2.2.1]'hlt)]).map En.abs) tabOk [_] (by simp only [List.map_append]; rfl) Try.underlying24 rfl rfl rfl rfl rfl rfl (by intro c hc; rw [List.mem_singleton] at hc; subst hc; rfl) (by unfold maxLen; simp only [List.length_map, List.length_append, List.length_cons, List.length_nil]; omega) (by rw [show Try.prog.bytesOf 34 = 32 by kernel_rfl]; simp only [List.length_map, List.length_append, List.length_cons, List.length_nil]; omega)) rfl rfl ?_
    rintro _ _ ⟨r66, rfl, rfl⟩
    refine SL.val (Val.assign rfl) rfl rfl ?_
    refine SL.nil ?_
    refine SE.inBlock ?_
    refine SE.seq ?_
    refine SC.region ?_
    first
      | refine SL.val (Val.addI rfl rfl (by simp only [InR, lo, hi]; omega)) rfl rfl ?_
      | refine SL.val (Val.addW rfl rfl) rfl rfl ?_
    refine SL.val (Val.move rfl) rfl rfl ?_
    refine SL.nil ?_
    refine SE.round (x.1 ++ [(q.ends[x.2.2.1]'hlt)], x.2.1, x.2.2.1 + 1, r66) (by first | omega | (dsimp only; omega)) (⟨by dsimp only; omega, by dsimp only; rw [wf_take hlt hx.2]; unfold wStep; dsimp only; simp_all⟩) (by exact ⟨rfl, rfl, rfl, rfl, rfl, rfl, rfl, rfl, rfl, trivial⟩) (by repeat first|exact s0 _|exact s1 _|apply s2|apply s3)
  intro hc37
  refine SL.val (Val.move rfl) rfl rfl ?_
  refine SL.val (Val.move rfl) rfl rfl ?_
  refine SL.both (t := 39) rfl ?_ ?_
  rotate_left
  · intro hc39
    iterate 5 refine SL.skip rfl rfl ?_
    refine SL.val (Val.pickF rfl rfl) rfl rfl ?_
    refine SL.val (Val.move rfl) rfl rfl ?_
    refine SL.val (Val.move rfl) rfl rfl ?_
    refine SL.val (Val.notB rfl) rfl rfl ?_
    refine SL.val (Val.move rfl) rfl rfl ?_
    refine SL.both (t := 49) rfl ?_ (by intro hc49; exfalso; rw [hc39] at hc49; cases hc49)
    intro hc49
    refine SL.val (Val.fieldAddr tabOk rfl rfl rfl rfl rfl) rfl rfl ?_
    refine SL.val (Val.load1 tabOk rfl rfl (by first|(apply Or.inl;(repeat first|assumption|exact m0|apply m1);done)|(apply Or.inr;(repeat first|assumption|exact m0|apply m1);done)) List.not_mem_nil (by rfl)) rfl rfl ?_
    refine SL.val (Val.fieldAddr tabOk rfl rfl rfl rfl rfl) rfl rfl ?_
    refine SL.val (Val.load1 tabOk rfl rfl (by first|(apply Or.inl;(repeat first|assumption|exact m0|apply m1);done)|(apply Or.inr;(repeat first|assumption|exact m0|apply m1);done)) List.not_mem_nil (by rfl)) rfl rfl ?_
    refine SL.val (Val.gtI rfl rfl) rfl rfl ?_
    refine SL.val (Val.pickT rfl rfl) rfl rfl ?_
    refine SL.val (Val.pickF rfl rfl) rfl rfl ?_
    refine SL.val (Val.pickT rfl rfl) rfl rfl ?_
    refine SL.nil (SE.seq ?_)
    refine SC.condP rfl ?_ ?_
    rotate_left
    · intro hc57
      refine SC.skip ?_
      refine SE.seq ?_
      refine SC.region ?_
      refine SL.val (Val.move rfl) rfl rfl ?_
      refine SL.val (Val.loadA tabOk rfl rfl rfl (by first|(apply Or.inl;(repeat first|assumption|exact m0|apply m1);done)|(apply Or.inr;(repeat first|assumption|exact m0|apply m1);done)) List.not_mem_nil rfl) rfl rfl ?_
      refine SL.eff (Eff.buildSl tabOk Try.underlying24 rfl rfl rfl rfl rfl rfl rfl) rfl rfl ?_
      rintro _ _ ⟨rfl, rfl⟩
      refine SL.eff (Eff.appendE (zs := (x.1 ++ [(q.ends[x.2.2.1]'hlt)]).map En.abs) tabOk [_] (by simp only [List.map_append]; rfl) Try.underlying24 rfl rfl rfl rfl rfl rfl (by intro c hc; rw [List.mem_singleton] at hc; subst hc; rfl) (by unfold maxLen; simp only [List.length_map, List.length_append, List.length_cons, List.length_nil]; omega) (by rw [show Try.prog.bytesOf 34 = 32 by kernel_rfl]; simp only [List.length_map, List.length_append, List.length_cons, List.length_nil]; omega)) rfl rfl ?_
      rintro _ _ ⟨r66, rfl, rfl⟩
      refine SL.val (Val.assign rfl) rfl rfl ?_
      refine SL.nil ?_
      refine SE.inBlock ?_
      refine SE.seq ?_
      refine SC.region ?_
      first
        | refine SL.val (Val.addI rfl rfl (by simp only [InR, lo, hi]; omega)) rfl rfl ?_
        | refine SL.val (Val.addW rfl rfl) rfl rfl ?_
      refine SL.val (Val.move rfl) rfl rfl ?_
      refine SL.nil ?_
      refine SE.round (x.1 ++ [(q.ends[x.2.2.1]'hlt)], x.2.1, x.2.2.1 + 1, r66) (by first | omega | (dsimp only; omega)) (⟨by dsimp only; omega, by dsimp only; rw [wf_take hlt hx.2]; unfold wStep; dsimp only; simp_all⟩) (by exact ⟨rfl, rfl, rfl, rfl, rfl, rfl, rfl, rfl, rfl, trivial⟩) (by repeat first|exact s0 _|exact s1 _|apply s2|apply s3)
    intro hc57
    refine SC.seq (SC.region ?_)
    refine SL.val (Val.move rfl) rfl rfl ?_
    refine SL.val (Val.loadA tabOk rfl rfl rfl (by first|(apply Or.inl;(repeat first|assumption|exact m0|apply m1);done)|(apply Or.inr;(repeat first|assumption|exact m0|apply m1);done)) List.not_mem_nil rfl) rfl rfl ?_
    refine SL.eff (Eff.buildSl tabOk Try.underlying24 rfl rfl rfl rfl rfl rfl rfl) rfl rfl ?_
    rintro _ _ ⟨rfl, rfl⟩
    refine SL.eff (Eff.appendE (zs := (x.1 ++ [e]).map En.abs) tabOk [_] (by simp only [List.map_append]; rfl) Try.underlying24 rfl rfl rfl rfl rfl rfl (by intro c hc; rw [List.mem_singleton] at hc; subst hc; rfl) (by unfold maxLen; simp only [List.length_map, List.length_append, List.length_cons, List.length_nil]; omega) (by rw [show Try.prog.bytesOf 34 = 32 by kernel_rfl]; simp only [List.length_map, List.length_append, List.length_cons, List.length_nil]; omega)) rfl rfl ?_
    rintro _ _ ⟨r61, rfl, rfl⟩
    refine SL.val (Val.assign rfl) rfl rfl ?_
    refine SL.nil (SE.seq ?_)
    refine SC.seq (SC.region ?_)
    refine SL.val (Val.assign rfl) rfl rfl ?_
    refine SL.nil (SE.seq ?_)
    refine SC.seq (SC.region ?_)
    refine SL.val (Val.move rfl) rfl rfl ?_
    refine SL.nil (SE.seq ?_)
    refine SC.cond rfl (by intro hc62; exfalso; rw [hc39] at hc62; cases hc62) ?_
    intro hc62
    refine SC.skip ?_
    refine SE.seq ?_
    refine SC.region ?_
    refine SL.val (Val.move rfl) rfl rfl ?_
    refine SL.val (Val.loadA tabOk rfl rfl rfl (by first|(apply Or.inl;(repeat first|assumption|exact m0|apply m1);done)|(apply Or.inr;(repeat first|assumption|exact m0|apply m1);done)) List.not_mem_nil rfl) rfl rfl ?_
    refine SL.eff (Eff.buildSl tabOk Try.underlying24 rfl rfl rfl rfl rfl rfl rfl) rfl rfl ?_
    rintro _ _ ⟨rfl, rfl⟩
    refine SL.eff (Eff.appendE (zs := (x.1 ++ [e] ++ [(q.ends[x.2.2.1]'hlt)]).map En.abs) tabOk [_] (by simp only [List.map_append]; rfl) Try.underlying24 rfl rfl rfl rfl rfl rfl (by intro c hc; rw [List.mem_singleton] at hc; subst hc; rfl) (by unfold maxLen; simp only [List.length_map, List.length_append, List.length_cons, List.length_nil]; omega) (by rw [show Try.prog.bytesOf 34 = 32 by kernel_rfl]; simp only [List.length_map, List.length_append, List.length_cons, List.length_nil]; omega)) rfl rfl ?_
    rintro _ _ ⟨r66, rfl, rfl⟩
    refine SL.val (Val.assign rfl) rfl rfl ?_
    refine SL.nil ?_
    refine SE.inBlock ?_
    refine SE.seq ?_
    refine SC.region ?_
    first
      | refine SL.val (Val.addI rfl rfl (by simp only [InR, lo, hi]; omega)) rfl rfl ?_
      | refine SL.val (Val.addW rfl rfl) rfl rfl ?_
    refine SL.val (Val.move rfl) rfl rfl ?_
    refine SL.nil ?_
    refine SE.round (x.1 ++ [e] ++ [(q.ends[x.2.2.1]'hlt)], true, x.2.2.1 + 1, r66) (by first | omega | (dsimp only; omega)) (⟨by dsimp only; omega, by dsimp only; rw [wf_take hlt hx.2]; unfold wStep; dsimp only; simp_all⟩) (by exact ⟨rfl, rfl, rfl, rfl, rfl, rfl, rfl, rfl, rfl, trivial⟩) (by repeat first|exact s0 _|exact s1 _|apply s2|apply s3)
  intro hc39
  refine SL.val (Val.fieldAddr tabOk rfl rfl rfl rfl rfl) rfl rfl ?_
  refine SL.val (Val.load1 tabOk rfl rfl (by first|(apply Or.inl;(repeat first|assumption|exact m0|apply m1);done)|(apply Or.inr;(repeat first|assumption|exact m0|apply m1);done)) List.not_mem_nil (by rfl)) rfl rfl ?_
  refine SL.val (Val.fieldAddr tabOk rfl rfl rfl rfl rfl) rfl rfl ?_
  refine SL.val (Val.load1 tabOk rfl rfl (by first|(apply Or.inl;(repeat first|assumption|exact m0|apply m1);done)|(apply Or.inr;(repeat first|assumption|exact m0|apply m1);done)) List.not_mem_nil (by rfl)) rfl rfl ?_
  refine SL.val (Val.eqI rfl rfl) rfl rfl ?_
  refine SL.val (Val.pickT rfl rfl) rfl rfl ?_
  refine SL.val (Val.move rfl) rfl rfl ?_
  refine SL.bothP (t := 46) rfl ?_ ?_
  rotate_left
  · intro hc46
    refine SL.val (Val.move rfl) rfl rfl ?_
    refine SL.val (Val.notB rfl) rfl rfl ?_
    refine SL.val (Val.move rfl) rfl rfl ?_
    refine SL.both (t := 49) rfl (by intro hc49; exfalso; rw [hc39] at hc49; cases hc49) ?_
    intro hc49
    iterate 5 refine SL.skip rfl rfl ?_
    refine SL.val (Val.pickF rfl rfl) rfl rfl ?_
    refine SL.val (Val.pickF rfl rfl) rfl rfl ?_
    refine SL.val (Val.pickT rfl rfl) rfl rfl ?_
    refine SL.nil (SE.seq ?_)
    refine SC.condF rfl ?_
    refine SC.skip ?_
    refine SE.seq ?_
    refine SC.region ?_
    refine SL.val (Val.move rfl) rfl rfl ?_
    refine SL.val (Val.loadA tabOk rfl rfl rfl (by first|(apply Or.inl;(repeat first|assumption|exact m0|apply m1);done)|(apply Or.inr;(repeat first|assumption|exact m0|apply m1);done)) List.not_mem_nil rfl) rfl rfl ?_
    refine SL.eff (Eff.buildSl tabOk Try.underlying24 rfl rfl rfl rfl rfl rfl rfl) rfl rfl ?_
    rintro _ _ ⟨rfl, rfl⟩
    refine SL.eff (Eff.appendE (zs := (x.1 ++ [(q.ends[x.2.2.1]'hlt)]).map En.abs) tabOk [_] (by simp only [List.map_append]; rfl) Try.underlying24 rfl rfl rfl rfl rfl rfl (by intro c hc; rw [List.mem_singleton] at hc; subst hc; rfl) (by unfold maxLen; simp only [List.length_map, List.length_append, List.length_cons, List.length_nil]; omega) (by rw [show Try.prog.bytesOf 34 = 32 by kernel_rfl]; simp only [List.length_map, List.length_append, List.length_cons, List.length_nil]; omega)) rfl rfl ?_
    rintro _ _ ⟨r66, rfl, rfl⟩
    refine SL.val (Val.assign rfl) rfl rfl ?_
    refine SL.nil ?_
    refine SE.inBlock ?_
    refine SE.seq ?_
    refine SC.region ?_
    first
      | refine SL.val (Val.addI rfl rfl (by simp only [InR, lo, hi]; omega)) rfl rfl ?_
      | refine SL.val (Val.addW rfl rfl) rfl rfl ?_
    refine SL.val (Val.move rfl) rfl rfl ?_
    refine SL.nil ?_
    refine SE.round (x.1 ++ [(q.ends[x.2.2.1]'hlt)], x.2.1, x.2.2.1 + 1, r66) (by first | omega | (dsimp only; omega)) (⟨by dsimp only; omega, by dsimp only; rw [wf_take hlt hx.2]; unfold wStep; dsimp only; simp_all⟩) (by exact ⟨rfl, rfl, rfl, rfl, rfl, rfl, rfl, rfl, rfl, trivial⟩) (by repeat first|exact s0 _|exact s1 _|apply s2|apply s3)
  intro hc46
  iterate 9 refine SL.skip rfl rfl ?_
  refine SL.val (Val.pickT rfl rfl) rfl rfl ?_
  refine SL.val (Val.pickT rfl rfl) rfl rfl ?_
  refine SL.nil (SE.seq ?_)
  refine SC.condT rfl ?_
  refine SC.seq (SC.region ?_)
  refine SL.val (Val.move rfl) rfl rfl ?_
  refine SL.val (Val.loadA tabOk rfl rfl rfl (by first|(apply Or.inl;(repeat first|assumption|exact m0|apply m1);done)|(apply Or.inr;(repeat first|assumption|exact m0|apply m1);done)) List.not_mem_nil rfl) rfl rfl ?_
  refine SL.eff (Eff.buildSl tabOk Try.underlying24 rfl rfl rfl rfl rfl rfl rfl) rfl rfl ?_
  rintro _ _ ⟨rfl, rfl⟩
  refine SL.eff (Eff.appendE (zs := (x.1 ++ [e]).map En.abs) tabOk [_] (by simp only [List.map_append]; rfl) Try.underlying24 rfl rfl rfl rfl rfl rfl (by intro c hc; rw [List.mem_singleton] at hc; subst hc; rfl) (by unfold maxLen; simp only [List.length_map, List.length_append, List.length_cons, List.length_nil]; omega) (by rw [show Try.prog.bytesOf 34 = 32 by kernel_rfl]; simp only [List.length_map, List.length_append, List.length_cons, List.length_nil]; omega)) rfl rfl ?_
  rintro _ _ ⟨r61, rfl, rfl⟩
  refine SL.val (Val.assign rfl) rfl rfl ?_
  refine SL.nil (SE.seq ?_)
  refine SC.seq (SC.region ?_)
  refine SL.val (Val.assign rfl) rfl rfl ?_
  refine SL.nil (SE.seq ?_)
  refine SC.seq (SC.region ?_)
  refine SL.val (Val.move rfl) rfl rfl ?_
  refine SL.nil (SE.seq ?_)
  refine SC.cond rfl ?_ (by intro hc62; exfalso; rw [hc39] at hc62; cases hc62)
  intro hc62
  refine SC.exit ?_
  refine SE.then_ (by intro h; cases h) ?_
  refine SE.exit ?_
  refine SE.seq ?_
  refine SC.region ?_
  first
    | refine SL.val (Val.addI rfl rfl (by simp only [InR, lo, hi]; omega)) rfl rfl ?_
    | refine SL.val (Val.addW rfl rfl) rfl rfl ?_
  refine SL.val (Val.move rfl) rfl rfl ?_
  refine SL.nil ?_
  refine SE.round (x.1 ++ [e], true, x.2.2.1 + 1, r61) (by first | omega | (dsimp only; omega)) (⟨by dsimp only; omega, by dsimp only; rw [wf_take hlt hx.2]; unfold wStep; dsimp only; simp_all⟩) (by exact ⟨rfl, rfl, rfl, rfl, rfl, rfl, rfl, rfl, rfl, trivial⟩) (by repeat first|exact s0 _|exact s1 _|apply s2|apply s3)
def Rq.few (q : Rq) : Bool := (q.ends.all fun e => decide ((e.tags.length : Int) ≤ 20)) && (decide ((q.core.letter.size : Int) ≤ 100) && (decide ((q.core.text.size : Int) ≤ 300) && decide ((q.ends.length : Int) ≤ 20)))
theorem Rq.few_iff {q : Rq} : q.few = true ↔ (∀ e ∈ q.ends, e.tags.length ≤ 20) ∧ q.core.letter.size ≤ 100 ∧ q.core.text.size ≤ 300 ∧ q.ends.length ≤ 20 := by
  unfold Rq.few
  simp only [Bool.and_eq_true, List.all_eq_true, decide_eq_true_eq]
  constructor
  · rintro ⟨h1, h2, h3, h4⟩
    exact ⟨fun e he => by have := h1 e he; omega, by omega, by omega, by omega⟩
  · rintro ⟨h1, h2, h3, h4⟩
    exact ⟨fun e he => by have := h1 e he; omega, by omega, by omega, by omega⟩
set_option maxHeartbeats 1000000 in
theorem few13_s  : Spec Try.prog 6 [.agg q.abs] [] (fun _ : Unit => []) (fun _ => boo q.few) := by
  refine spec_of Try.func6 rfl Try.ntmps6 rfl fun G w => ?_
  refine SC.seq (SC.region ?_)
  refine SL.eff (Eff.boxA (cs := q.abs) rfl) rfl rfl ?_
  rintro _ _ ⟨b1, rfl, rfl⟩
  refine SL.val (Val.assign rfl) rfl rfl ?_
  refine SL.nil (SE.seq ?_)
  refine SC.seq ?_
  refine SC.seq (SC.region ?_)
  refine SL.val (Val.fieldAddr tabOk rfl rfl rfl rfl rfl) rfl rfl ?_
  refine SL.val (Val.load1 tabOk rfl rfl (by first|(apply Or.inl;(repeat first|assumption|exact m0|apply m1);done)|(apply Or.inr;(repeat first|assumption|exact m0|apply m1);done)) List.not_mem_nil (by rfl)) rfl rfl ?_
  first
    | refine SL.val (Val.lenSl rfl Try.underlying24 (List.length_map _)) rfl rfl ?_
    | refine SL.val (Val.lenOwn rfl (by repeat first|assumption|exact m0|apply m1) Try.underlying24 (List.length_map _)) rfl rfl ?_
    | refine SL.val (Val.lenNil rfl Try.underlying24) rfl rfl ?_
  refine SL.val (Val.move rfl) rfl rfl ?_
  refine SL.nil (SE.seq ?_)
  refine SC.block ?_
  refine SC.rowLe (i := 6) rfl fun hrow => ?_
  rw [List.length_map] at hrow
  unfold maxLen at hrow
  refine SC.loop (ι := Nat) (fun z => [.blk b1 26 q.abs]) (fun z => [(1, ptr b1), (6, endsA q.ends), (7, int (q.ends.length : Nat)), (8, int (z : Nat))]) (fun z => z ≤ q.ends.length ∧ ∀ j (h : j < q.ends.length), j < z → q.ends[j].tags.length ≤ 20) (fun z => q.ends.length - z) (0) (⟨Nat.zero_le _, fun j h hj => by omega⟩) (by exact ⟨rfl, rfl, rfl, rfl, trivial⟩) (by repeat first|exact s0 _|exact s1 _|apply s2|apply s3) ?_
  intro z hz
  refine SC.seq (SC.region ?_)
  refine SL.val (Val.ltI rfl rfl) rfl rfl ?_
  refine SL.nil (SE.seq ?_)
  refine SC.seq ?_
  refine SC.condP rfl ?_ ?_
  · intro hc9
    have hlt : z < q.ends.length := by omega
    refine SC.skip ?_
    refine SE.seq ?_
    refine SC.seq ?_
    refine SC.block ?_
    refine SC.seq (SC.region ?_)
    refine SL.val (Val.indexSl tabOk Try.underlying24 rfl rfl rfl rfl (at_map (by omega)) rfl rfl) rfl rfl ?_
    refine SL.val (Val.loadAR tabOk rfl rfl rfl rfl) rfl rfl ?_
    refine SL.eff (Eff.alloc tabOk rfl) rfl rfl ?_
    rintro _ _ ⟨b4, rfl, rfl⟩
    refine SL.eff (Eff.store (L' := (q.ends[z]'hlt).abs) tabOk rfl rfl rfl (by repeat first|assumption|exact Upd.here|apply Upd.there) rfl (Nat.le_of_ble_eq_true (by rfl)) rfl (by exact putL_whole rfl)) rfl rfl ?_
    rintro _ _ ⟨rfl, rfl⟩
    refine SL.nil (SE.seq ?_)
    refine SC.seq (SC.region ?_)
    refine SL.val (Val.fieldAddr tabOk rfl rfl rfl rfl rfl) rfl rfl ?_
    refine SL.val (Val.load1 tabOk rfl rfl (by first|(apply Or.inl;(repeat first|assumption|exact m0|apply m1);done)|(apply Or.inr;(repeat first|assumption|exact m0|apply m1);done)) List.not_mem_nil (by rfl)) rfl rfl ?_
    first
      | refine SL.val (Val.lenSl rfl Try.underlying32 (List.length_map _)) rfl rfl ?_
      | refine SL.val (Val.lenOwn rfl (by repeat first|assumption|exact m0|apply m1) Try.underlying32 (List.length_map _)) rfl rfl ?_
      | refine SL.val (Val.lenNil rfl Try.underlying32) rfl rfl ?_
    refine SL.val (Val.gtI rfl rfl) rfl rfl ?_
    refine SL.nil (SE.seq ?_)
    refine SC.condP rfl ?_ ?_
    rotate_left
    · intro hc15
      refine SC.skip ?_
      refine SE.inBlock ?_
      refine SE.seq ?_
      refine SC.region ?_
      first
        | refine SL.val (Val.addI rfl rfl (by simp only [InR, lo, hi]; omega)) rfl rfl ?_
        | refine SL.val (Val.addW rfl rfl) rfl rfl ?_
      refine SL.val (Val.move rfl) rfl rfl ?_
      refine SL.nil ?_
      refine SE.round (z + 1) (by first | omega | (dsimp only; omega)) (⟨by omega, fun j h hj => by
            rcases Nat.lt_or_ge j z with h1 | h1
            · exact hz.2 j h h1
            · obtain rfl : j = z := by omega
              have h9 := hc15
              omega⟩) (by exact ⟨rfl, rfl, rfl, rfl, trivial⟩) (by repeat first|exact s0 _|exact s1 _|apply s2|apply s3)
    intro hc15
    refine SC.seq (SC.region ?_)
    refine SL.val (Val.assign rfl) rfl rfl ?_
    refine SL.nil (SE.seq ?_)
    refine SC.ret ?_
    refine SE.ret ?_
    refine SE.then_ (by intro h; cases h) ?_
    refine SE.then_ (by intro h; cases h) ?_
    refine SE.ret ?_
    refine SE.then_ (by intro h; cases h) ?_
    refine SE.fin (rs := [.tmp 2]) rfl (RV.tmp rfl RV.nil) (()) (by repeat first|exact s0 _|exact s1 _|apply s2|apply s3) (by simp [It.rids]) ?_
    refine boo_f' ?_
    rw [Bool.eq_false_iff]
    intro h
    rw [Rq.few_iff] at h
    have := h.1 _ (List.getElem_mem hlt)
    omega
  intro hc9
  refine SC.exit ?_
  refine SE.then_ (by intro h; cases h) ?_
  refine SE.then_ (by intro h; cases h) ?_
  refine SE.exit ?_
  refine SE.seq ?_
  refine SC.seq (SC.region ?_)
  refine SL.val (Val.fieldAddr tabOk rfl rfl rfl rfl rfl) rfl rfl ?_
  refine SL.val (Val.fieldAddr tabOk rfl rfl rfl rfl rfl) rfl rfl ?_
  refine SL.val (Val.load1 tabOk rfl rfl (by first|(apply Or.inl;(repeat first|assumption|exact m0|apply m1);done)|(apply Or.inr;(repeat first|assumption|exact m0|apply m1);done)) List.not_mem_nil (by rfl)) rfl rfl ?_
  refine SL.val (Val.lenSt rfl Try.underlying9) rfl rfl ?_
  refine SL.val (Val.leI rfl rfl) rfl rfl ?_
  refine SL.val (Val.move rfl) rfl rfl ?_
  refine SL.bothP (t := 22) rfl ?_ ?_
  rotate_left
  · intro hc22
    iterate 5 refine SL.skip rfl rfl ?_
    refine SL.val (Val.pickF rfl rfl) rfl rfl ?_
    refine SL.val (Val.move rfl) rfl rfl ?_
    iterate 4 refine SL.skip rfl rfl ?_
    refine SL.val (Val.pickF rfl rfl) rfl rfl ?_
    refine SL.val (Val.assign rfl) rfl rfl ?_
    refine SL.nil (SE.seq ?_)
    refine SC.ret ?_
    refine SE.fin (rs := [.tmp 2]) rfl (RV.tmp rfl RV.nil) (()) (by repeat first|exact s0 _|exact s1 _|apply s2|apply s3) (by simp [It.rids]) ?_
    first
      | (refine boo_i' ?_; rw [Rq.few_iff]; constructor <;> intro h9 <;> first | omega | (refine ⟨fun e he => ?_, by omega, by omega, by omega⟩; obtain ⟨j, hj, rfl⟩ := List.getElem_of_mem he; exact hz.2 j hj (by omega)))
      | (refine boo_f' ?_; rw [Bool.eq_false_iff]; intro h; rw [Rq.few_iff] at h; omega)
  intro hc22
  refine SL.val (Val.fieldAddr tabOk rfl rfl rfl rfl rfl) rfl rfl ?_
  refine SL.val (Val.fieldAddr tabOk rfl rfl rfl rfl rfl) rfl rfl ?_
  refine SL.val (Val.load1 tabOk rfl rfl (by first|(apply Or.inl;(repeat first|assumption|exact m0|apply m1);done)|(apply Or.inr;(repeat first|assumption|exact m0|apply m1);done)) List.not_mem_nil (by rfl)) rfl rfl ?_
  refine SL.val (Val.lenSt rfl Try.underlying9) rfl rfl ?_
  refine SL.val (Val.leI rfl rfl) rfl rfl ?_
  refine SL.val (Val.pickT rfl rfl) rfl rfl ?_
  refine SL.val (Val.move rfl) rfl rfl ?_
  refine SL.bothP (t := 29) rfl ?_ ?_
  rotate_left
  · intro hc29
    iterate 4 refine SL.skip rfl rfl ?_
    refine SL.val (Val.pickF rfl rfl) rfl rfl ?_
    refine SL.val (Val.assign rfl) rfl rfl ?_
    refine SL.nil (SE.seq ?_)
    refine SC.ret ?_
    refine SE.fin (rs := [.tmp 2]) rfl (RV.tmp rfl RV.nil) (()) (by repeat first|exact s0 _|exact s1 _|apply s2|apply s3) (by simp [It.rids]) ?_
    first
      | (refine boo_i' ?_; rw [Rq.few_iff]; constructor <;> intro h9 <;> first | omega | (refine ⟨fun e he => ?_, by omega, by omega, by omega⟩; obtain ⟨j, hj, rfl⟩ := List.getElem_of_mem he; exact hz.2 j hj (by omega)))
      | (refine boo_f' ?_; rw [Bool.eq_false_iff]; intro h; rw [Rq.few_iff] at h; omega)
  intro hc29
  refine SL.val (Val.fieldAddr tabOk rfl rfl rfl rfl rfl) rfl rfl ?_
  refine SL.val (Val.load1 tabOk rfl rfl (by first|(apply Or.inl;(repeat first|assumption|exact m0|apply m1);done)|(apply Or.inr;(repeat first|assumption|exact m0|apply m1);done)) List.not_mem_nil (by rfl)) rfl rfl ?_
  first
    | refine SL.val (Val.lenSl rfl Try.underlying24 (List.length_map _)) rfl rfl ?_
    | refine SL.val (Val.lenOwn rfl (by repeat first|assumption|exact m0|apply m1) Try.underlying24 (List.length_map _)) rfl rfl ?_
    | refine SL.val (Val.lenNil rfl Try.underlying24) rfl rfl ?_
  refine SL.val (Val.leI rfl rfl) rfl rfl ?_
  refine SL.val (Val.pickT rfl rfl) rfl rfl ?_
  refine SL.val (Val.assign rfl) rfl rfl ?_
  refine SL.nil (SE.seq ?_)
  refine SC.ret ?_
  refine SE.fin (rs := [.tmp 2]) rfl (RV.tmp rfl RV.nil) (()) (by repeat first|exact s0 _|exact s1 _|apply s2|apply s3) (by simp [It.rids]) ?_
  first
    | (refine boo_i' ?_; rw [Rq.few_iff]; constructor <;> intro h9 <;> first | omega | (refine ⟨fun e he => ?_, by omega, by omega, by omega⟩; obtain ⟨j, hj, rfl⟩ := List.getElem_of_mem he; exact hz.2 j hj (by omega)))
    | (refine boo_f' ?_; rw [Bool.eq_false_iff]; intro h; rw [Rq.few_iff] at h; omega)
end
end Go.Proofs.Ytbhjchlflkgjbaa.A
