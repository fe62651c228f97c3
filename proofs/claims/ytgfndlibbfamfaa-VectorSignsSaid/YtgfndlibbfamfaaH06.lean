/-
  Packed out of the texts: V2, A13, Doc, T1, A14, T2, Mac, T3, T4.
-/
import Derived.Test.YtgfndlibbfamfaaH05
/-
  Messages: signing, checking; VectorAll: the walk.
-/
set_option maxRecDepth 100000
set_option linter.unusedSimpArgs false
set_option linter.unusedVariables false
namespace Go.Proofs.Ytgfndlibbfamfaa.A
open Go.RowKit

/-- A tag. -/
structure Tg where
  d : List UInt8
  len : d.length = 32
def Tg.abs (t : Tg) : List Abs := digA t.d
theorem Tg.size (t : Tg) : t.abs.length = 32 := by simp [Tg.abs, digA, t.len]
/-- A message. -/
structure Msg where
  kind : Int
  from_ : Int
  body : List UInt8
  tags : List Tg
def Msg.abs (m : Msg) : List Abs := [int m.kind, int m.from_, byt m.body, .sl 32 (m.tags.map Tg.abs)]
def chkM (T : TMap) (m : Msg) (place who : Int) : Int :=
  if place < 0 ∨ (m.tags.length : Int) ≤ place then 12 else
  if ((aget T ((m.from_, who), textV m.kind m.body)).isSome && decide (((m.tags[place.toNat]?).map Tg.d).getD [] = numB 255 (pl T ((m.from_, who), textV m.kind m.body)))) = true then 0 else 12
section
variable {m : Msg} {place who k f n : Int} {body : List UInt8} {to : List Int} {p bd bt : Nat} {Dm : DMap} {T : TMap}
set_option maxHeartbeats 2000000 in
theorem check0_s  : Spec Try.prog 10 [.v .nilIface, .agg m.abs, int place, int who] [] (fun _ : Unit => []) (fun _ => int 12) := by
  refine spec_of Try.func10 rfl Try.ntmps10 rfl fun G w => ?_
  refine SC.seq (SC.region ?_)
  refine SL.eff (Eff.boxA rfl) rfl rfl ?_
  rintro _ _ ⟨b5, rfl, rfl⟩
  refine SL.val (Val.assign rfl) rfl rfl ?_
  refine SL.nil (SE.seq ?_)
  refine SC.seq ?_
  refine SC.seq ?_
  refine SC.draw [] (.q 0 (.q 1 (.q 2 (.q 3 (.q 4 (.q 5 (.q 6 (.q 7 (.q 8 (.q 9 (.q 10 (.q 11 (.q 12 (.q 13 (.q 14 (.q 15 (.q 16 (.q 17 (.q 18 (.q 19 (.q 20 (.q 21 (.q 23 (.q 24 (.q 25 (.q 26 (.q 27 (.q 28 (.q 29 (.q 30 (.e 22 (.e 31 (.q 32 (.q 33 .nil)))))))))))))))))))))))))))))))))) (by kernel_rfl) (by kernel_rfl) ?_
  refine SX.val rfl (Val.move rfl) (by simp) rfl rfl ?_
  refine SX.val rfl (Val.nilNil Try.underlying50 rfl) (by first | (simp [mids, It.mids, ownPc, bkPc]; done) | (intro k hk; simp [mids, It.mids, ownPc, bkPc] at hk ⊢; grind)) rfl rfl ?_
  refine SX.val rfl (Val.move rfl) (by simp) rfl rfl ?_
  iterate 2 refine SX.skip rfl rfl rfl ?_
  refine SX.val rfl (Val.pickT rfl rfl) (by simp) rfl rfl ?_
  refine SX.val rfl (Val.move rfl) (by simp) rfl rfl ?_
  iterate 5 refine SX.skip rfl rfl rfl ?_
  refine SX.val rfl (Val.pickT rfl rfl) (by simp) rfl rfl ?_
  refine SX.val rfl (Val.move rfl) (by simp) rfl rfl ?_
  iterate 16 refine SX.skip rfl rfl rfl ?_
  refine SX.skip' rfl rfl rfl ?_
  refine SX.skip' rfl rfl rfl ?_
  refine SX.skip rfl rfl rfl ?_
  refine SX.val rfl (Val.pickT rfl rfl) (by simp) rfl rfl ?_
  refine SX.nil (SE.seq ?_)
  refine SC.condT rfl ?_
  refine SC.seq (SC.region ?_)
  refine SL.val (Val.assign rfl) rfl rfl ?_
  refine SL.nil (SE.seq ?_)
  refine SC.ret ?_
  refine SE.then_ (by intro h; cases h) ?_
  refine SE.fin (rs := [.tmp 8]) rfl (RV.tmp rfl RV.nil) (()) (by repeat first|exact s0 _|exact s1 _|apply s2|apply s3) (by simp [It.rids]) ?_
  exact rfl
set_option maxHeartbeats 4000000 in
theorem checkb_s (hl : m.body.length ≤ 1000) (hx : i64r m.from_) (hy : i64r who) (hm : T.length < 1000000) (hpl : pl T ((m.from_, who), textV m.kind m.body) < 9223372036854775808) : Spec Try.prog 10 [.ifc 30 (.v (.pointer (some ⟨p, 0, none⟩))), .agg m.abs, int place, int who] [.pc (bkPc p bd bt Dm T)] (fun _ : Unit => [.pc (bkPc p bd bt Dm T)]) (fun _ => int (chkM T m place who)) := by
  refine spec_of Try.func10 rfl Try.ntmps10 rfl fun G w => ?_
  refine SC.seq (SC.region ?_)
  refine SL.eff (Eff.boxA rfl) rfl rfl ?_
  rintro _ _ ⟨b5, rfl, rfl⟩
  refine SL.val (Val.assign rfl) rfl rfl ?_
  refine SL.nil (SE.seq ?_)
  refine SC.seq ?_
  refine SC.seq ?_
  refine SC.known (p := b5 ∉ [p, bd, bt]) (fun _ _ h => by
      have h1 := h.mem.nodup
      simp [mids, It.mids, bkPc, ownPc] at h1 ⊢
      grind) fun hX => ?_
  refine SC.draw [p, bd, bt] (.q 0 (.q 1 (.q 2 (.q 3 (.q 4 (.q 5 (.q 6 (.q 7 (.q 8 (.q 9 (.q 10 (.q 11 (.q 12 (.q 13 (.q 14 (.q 15 (.q 16 (.q 17 (.q 18 (.q 19 (.q 20 (.q 21 (.q 23 (.q 24 (.q 25 (.q 26 (.q 27 (.q 28 (.q 29 (.q 30 (.e 22 (.e 31 (.q 32 (.q 33 .nil)))))))))))))))))))))))))))))))))) (by kernel_rfl) (by kernel_rfl) ?_
  refine SX.val rfl (Val.move rfl) (by first | (simp [mids, It.mids, ownPc, bkPc]; done) | (intro k hk; simp [mids, It.mids, ownPc, bkPc] at hk ⊢; grind)) rfl rfl ?_
  refine SX.val rfl (Val.ifaceNil Try.underlying50 rfl) (by first | (simp [mids, It.mids, ownPc, bkPc]; done) | (intro k hk; simp [mids, It.mids, ownPc, bkPc] at hk ⊢; grind)) rfl rfl ?_
  refine SX.val rfl (Val.move rfl) (by first | (simp [mids, It.mids, ownPc, bkPc]; done) | (intro k hk; simp [mids, It.mids, ownPc, bkPc] at hk ⊢; grind)) rfl rfl ?_
  refine SX.val rfl (Val.move rfl) (by first | (simp [mids, It.mids, ownPc, bkPc]; done) | (intro k hk; simp [mids, It.mids, ownPc, bkPc] at hk ⊢; grind)) rfl rfl ?_
  refine SX.val rfl (Val.ltI rfl rfl) (by first | (simp [mids, It.mids, ownPc, bkPc]; done) | (intro k hk; simp [mids, It.mids, ownPc, bkPc] at hk ⊢; grind)) rfl rfl ?_
  refine SX.val rfl (Val.pickF rfl rfl) (by first | (simp [mids, It.mids, ownPc, bkPc]; done) | (intro k hk; simp [mids, It.mids, ownPc, bkPc] at hk ⊢; grind)) rfl rfl ?_
  refine SX.val rfl (Val.move rfl) (by first | (simp [mids, It.mids, ownPc, bkPc]; done) | (intro k hk; simp [mids, It.mids, ownPc, bkPc] at hk ⊢; grind)) rfl rfl ?_
  refine SX.bothP (t := 15) rfl ?_ ?_
  · intro hc15
    iterate 5 refine SX.skip rfl rfl rfl ?_
    refine SX.val rfl (Val.pickT rfl rfl) (by first | (simp [mids, It.mids, ownPc, bkPc]; done) | (intro k hk; simp [mids, It.mids, ownPc, bkPc] at hk ⊢; grind)) rfl rfl ?_
    refine SX.val rfl (Val.move rfl) (by first | (simp [mids, It.mids, ownPc, bkPc]; done) | (intro k hk; simp [mids, It.mids, ownPc, bkPc] at hk ⊢; grind)) rfl rfl ?_
    iterate 16 refine SX.skip rfl rfl rfl ?_
    refine SX.skip' rfl rfl rfl ?_
    refine SX.skip' rfl rfl rfl ?_
    refine SX.skip rfl rfl rfl ?_
    refine SX.val rfl (Val.pickT rfl rfl) (by first | (simp [mids, It.mids, ownPc, bkPc]; done) | (intro k hk; simp [mids, It.mids, ownPc, bkPc] at hk ⊢; grind)) rfl rfl ?_
    refine SX.nil (SE.seq ?_)
    refine SC.condT rfl ?_
    refine SC.seq (SC.region ?_)
    refine SL.val (Val.assign rfl) rfl rfl ?_
    refine SL.nil (SE.seq ?_)
    refine SC.ret ?_
    refine SE.then_ (by intro h; cases h) ?_
    refine SE.fin (rs := [.tmp 8]) rfl (RV.tmp rfl RV.nil) (()) (by repeat first|exact s0 _|exact s1 _|apply s2|apply s3) (by simp [It.rids]) ?_
    refine congrArg int ?_
    unfold chkM
    first
      | (rw [if_pos (by omega)])
      | (rw [if_neg (by omega), if_neg (by
          have h8 := hc42
          simp only [Int.toNat_natCast, List.getElem?_eq_getElem hq, Option.map_some, Option.getD_some]
          intro h9
          rw [h9] at h8
          simp at h8)])
  intro hc15
  refine SX.val rfl (Val.move rfl) (by first | (simp [mids, It.mids, ownPc, bkPc]; done) | (intro k hk; simp [mids, It.mids, ownPc, bkPc] at hk ⊢; grind)) rfl rfl ?_
  refine SX.val rfl (Val.fieldAddr tabOk rfl rfl rfl rfl rfl) (by first | (simp [mids, It.mids, ownPc, bkPc]; done) | (intro k hk; simp [mids, It.mids, ownPc, bkPc] at hk ⊢; grind)) rfl rfl ?_
  refine SX.val rfl (Val.load1 tabOk rfl rfl (by first|(apply Or.inl;(repeat first|assumption|exact m0|apply m1);done)|(apply Or.inr;(repeat first|assumption|exact m0|apply m1);done)) hX (by rfl)) (by first | (simp [mids, It.mids, ownPc, bkPc]; done) | (intro k hk; simp [mids, It.mids, ownPc, bkPc] at hk ⊢; grind)) rfl rfl ?_
  first
    | refine SX.val rfl (Val.lenSl rfl Try.underlying24 (List.length_map _)) (by first | (simp [mids, It.mids, ownPc, bkPc]; done) | (intro k hk; simp [mids, It.mids, ownPc, bkPc] at hk ⊢; grind)) rfl rfl ?_
    | refine SX.val rfl (Val.lenOwn rfl (by repeat first|assumption|exact m0|apply m1) Try.underlying24 (List.length_map _)) (by first | (simp [mids, It.mids, ownPc, bkPc]; done) | (intro k hk; simp [mids, It.mids, ownPc, bkPc] at hk ⊢; grind)) rfl rfl ?_
    | refine SX.val rfl (Val.lenNil rfl Try.underlying24) (by first | (simp [mids, It.mids, ownPc, bkPc]; done) | (intro k hk; simp [mids, It.mids, ownPc, bkPc] at hk ⊢; grind)) rfl rfl ?_
  refine SX.val rfl (Val.geI rfl rfl) (by first | (simp [mids, It.mids, ownPc, bkPc]; done) | (intro k hk; simp [mids, It.mids, ownPc, bkPc] at hk ⊢; grind)) rfl rfl ?_
  refine SX.val rfl (Val.pickF rfl rfl) (by first | (simp [mids, It.mids, ownPc, bkPc]; done) | (intro k hk; simp [mids, It.mids, ownPc, bkPc] at hk ⊢; grind)) rfl rfl ?_
  refine SX.val rfl (Val.move rfl) (by first | (simp [mids, It.mids, ownPc, bkPc]; done) | (intro k hk; simp [mids, It.mids, ownPc, bkPc] at hk ⊢; grind)) rfl rfl ?_
  refine SX.bothP (t := 22) rfl ?_ ?_
  · intro hc22
    iterate 16 refine SX.skip rfl rfl rfl ?_
    refine SX.skip' rfl rfl rfl ?_
    refine SX.skip' rfl rfl rfl ?_
    refine SX.skip rfl rfl rfl ?_
    refine SX.val rfl (Val.pickT rfl rfl) (by first | (simp [mids, It.mids, ownPc, bkPc]; done) | (intro k hk; simp [mids, It.mids, ownPc, bkPc] at hk ⊢; grind)) rfl rfl ?_
    refine SX.nil (SE.seq ?_)
    refine SC.condT rfl ?_
    refine SC.seq (SC.region ?_)
    refine SL.val (Val.assign rfl) rfl rfl ?_
    refine SL.nil (SE.seq ?_)
    refine SC.ret ?_
    refine SE.then_ (by intro h; cases h) ?_
    refine SE.fin (rs := [.tmp 8]) rfl (RV.tmp rfl RV.nil) (()) (by repeat first|exact s0 _|exact s1 _|apply s2|apply s3) (by simp [It.rids]) ?_
    refine congrArg int ?_
    unfold chkM
    first
      | (rw [if_pos (by omega)])
      | (rw [if_neg (by omega), if_neg (by
          have h8 := hc42
          simp only [Int.toNat_natCast, List.getElem?_eq_getElem hq, Option.map_some, Option.getD_some]
          intro h9
          rw [h9] at h8
          simp at h8)])
  intro hc22
  obtain ⟨q, rfl⟩ : ∃ q : Nat, place = (q : Nat) := ⟨place.toNat, by omega⟩
  have hq : q < m.tags.length := by omega
  refine SX.val rfl (Val.move rfl) (by first | (simp [mids, It.mids, ownPc, bkPc]; done) | (intro k hk; simp [mids, It.mids, ownPc, bkPc] at hk ⊢; grind)) rfl rfl ?_
  refine SX.val rfl (Val.fieldAddr tabOk rfl rfl rfl rfl rfl) (by first | (simp [mids, It.mids, ownPc, bkPc]; done) | (intro k hk; simp [mids, It.mids, ownPc, bkPc] at hk ⊢; grind)) rfl rfl ?_
  refine SX.val rfl (Val.load1 tabOk rfl rfl (by first|(apply Or.inl;(repeat first|assumption|exact m0|apply m1);done)|(apply Or.inr;(repeat first|assumption|exact m0|apply m1);done)) hX (by rfl)) (by first | (simp [mids, It.mids, ownPc, bkPc]; done) | (intro k hk; simp [mids, It.mids, ownPc, bkPc] at hk ⊢; grind)) rfl rfl ?_
  refine SX.val rfl (Val.move rfl) (by first | (simp [mids, It.mids, ownPc, bkPc]; done) | (intro k hk; simp [mids, It.mids, ownPc, bkPc] at hk ⊢; grind)) rfl rfl ?_
  refine SX.val rfl (Val.fieldAddr tabOk rfl rfl rfl rfl rfl) (by first | (simp [mids, It.mids, ownPc, bkPc]; done) | (intro k hk; simp [mids, It.mids, ownPc, bkPc] at hk ⊢; grind)) rfl rfl ?_
  refine SX.val rfl (Val.load1 tabOk rfl rfl (by first|(apply Or.inl;(repeat first|assumption|exact m0|apply m1);done)|(apply Or.inr;(repeat first|assumption|exact m0|apply m1);done)) hX (by rfl)) (by first | (simp [mids, It.mids, ownPc, bkPc]; done) | (intro k hk; simp [mids, It.mids, ownPc, bkPc] at hk ⊢; grind)) rfl rfl ?_
  refine SX.val rfl (Val.fieldAddr tabOk rfl rfl rfl rfl rfl) (by first | (simp [mids, It.mids, ownPc, bkPc]; done) | (intro k hk; simp [mids, It.mids, ownPc, bkPc] at hk ⊢; grind)) rfl rfl ?_
  refine SX.val rfl (Val.load1 tabOk rfl rfl (by first|(apply Or.inl;(repeat first|assumption|exact m0|apply m1);done)|(apply Or.inr;(repeat first|assumption|exact m0|apply m1);done)) hX (by rfl)) (by first | (simp [mids, It.mids, ownPc, bkPc]; done) | (intro k hk; simp [mids, It.mids, ownPc, bkPc] at hk ⊢; grind)) rfl rfl ?_
  refine SX.val rfl (Val.fieldAddr tabOk rfl rfl rfl rfl rfl) (by first | (simp [mids, It.mids, ownPc, bkPc]; done) | (intro k hk; simp [mids, It.mids, ownPc, bkPc] at hk ⊢; grind)) rfl rfl ?_
  refine SX.val rfl (Val.load1 tabOk rfl rfl (by first|(apply Or.inl;(repeat first|assumption|exact m0|apply m1);done)|(apply Or.inr;(repeat first|assumption|exact m0|apply m1);done)) hX (by rfl)) (by first | (simp [mids, It.mids, ownPc, bkPc]; done) | (intro k hk; simp [mids, It.mids, ownPc, bkPc] at hk ⊢; grind)) rfl rfl ?_
  refine SX.val rfl (Val.move rfl) (by first | (simp [mids, It.mids, ownPc, bkPc]; done) | (intro k hk; simp [mids, It.mids, ownPc, bkPc] at hk ⊢; grind)) rfl rfl ?_
  refine SX.val rfl (Val.indexSl tabOk Try.underlying24 rfl rfl rfl rfl (at_map (by omega)) rfl rfl) (by first | (simp [mids, It.mids, ownPc, bkPc]; done) | (intro k hk; simp [mids, It.mids, ownPc, bkPc] at hk ⊢; grind)) rfl rfl ?_
  refine SX.val rfl (Val.loadAR tabOk rfl rfl rfl (Tg.size _)) (by first | (simp [mids, It.mids, ownPc, bkPc]; done) | (intro k hk; simp [mids, It.mids, ownPc, bkPc] at hk ⊢; grind)) rfl rfl ?_
  refine SX.val rfl (Val.makeFunc rfl rfl) (by first | (simp [mids, It.mids, ownPc, bkPc]; done) | (intro k hk; simp [mids, It.mids, ownPc, bkPc] at hk ⊢; grind)) rfl rfl ?_
  refine SX.val rfl (Val.nilMethod rfl (fun w => by kernel_rfl)) (by first | (simp [mids, It.mids, ownPc, bkPc]; done) | (intro k hk; simp [mids, It.mids, ownPc, bkPc] at hk ⊢; grind)) rfl rfl ?_
  refine SX.val rfl (Val.move rfl) (by first | (simp [mids, It.mids, ownPc, bkPc]; done) | (intro k hk; simp [mids, It.mids, ownPc, bkPc] at hk ⊢; grind)) rfl rfl ?_
  refine SX.call rfl (text_s (k := m.kind) (l := m.body) (by omega)) (by simp [mids, It.mids]) Casts.refl (by kernel_rfl) rfl rfl rfl ?_
  refine After.pure (by repeat first|exact .nil|refine .blk (by repeat first|assumption|exact m0|apply m1) ?_|refine .rd (by repeat first|assumption|exact m0|apply m1) ?_|refine .pc (by repeat first|assumption|exact m0|apply m1) ?_|refine .rdpc (by repeat first|assumption|exact m0|apply m1) ?_) (fun _ => rfl) ?_
  intro _
  refine SX.invokeR rfl (bkcheck_s (p := p) (bd := bd) (bt := bt) (D := Dm) (T := T) (from_ := m.from_) (to_ := who) (l := textV m.kind m.body) (M := (m.tags[q]'hq).d) hx hy (by unfold maxLen; simp [textV]; omega) (m.tags[q]'hq).len hm hpl) (by simp [mids, It.mids, bkPc]) rfl Casts.refl (fun _ _ _ => by kernel_rfl) rfl rfl rfl ?_
  refine After.one rfl (by repeat first|assumption|exact m0|apply m1) (fun _ => rfl) ?_
  intro _
  refine ⟨_, (by repeat first|assumption|exact Upd.here|apply Upd.there), ?_⟩
  refine SX.val rfl (Val.notB rfl) (by first | (simp [mids, It.mids, ownPc, bkPc]; done) | (intro k hk; simp [mids, It.mids, ownPc, bkPc] at hk ⊢; grind)) rfl rfl ?_
  refine SX.val rfl (Val.pickF rfl rfl) (by first | (simp [mids, It.mids, ownPc, bkPc]; done) | (intro k hk; simp [mids, It.mids, ownPc, bkPc] at hk ⊢; grind)) rfl rfl ?_
  refine SX.nil (SE.seq ?_)
  refine SC.cond rfl ?_ ?_
  rotate_left
  · intro hc42
    refine SC.skip ?_
    refine SE.seq ?_
    refine SC.seq (SC.region ?_)
    refine SL.val (Val.assign rfl) rfl rfl ?_
    refine SL.nil (SE.seq ?_)
    refine SC.ret ?_
    refine SE.fin (rs := [.tmp 8]) rfl (RV.tmp rfl RV.nil) (()) (by repeat first|exact s0 _|exact s1 _|apply s2|apply s3) (by simp [It.rids]) ?_
    refine congrArg int ?_
    unfold chkM
    rw [if_neg (by omega), if_pos (by
      have h8 := hc42
      simp only [Int.toNat_natCast, List.getElem?_eq_getElem hq, Option.map_some, Option.getD_some]
      simpa using h8)]
  intro hc42
  refine SC.seq (SC.region ?_)
  refine SL.val (Val.assign rfl) rfl rfl ?_
  refine SL.nil (SE.seq ?_)
  refine SC.ret ?_
  refine SE.then_ (by intro h; cases h) ?_
  refine SE.fin (rs := [.tmp 8]) rfl (RV.tmp rfl RV.nil) (()) (by repeat first|exact s0 _|exact s1 _|apply s2|apply s3) (by simp [It.rids]) ?_
  refine congrArg int ?_
  unfold chkM
  first
    | (rw [if_pos (by omega)])
    | (rw [if_neg (by omega), if_neg (by
        have h8 := hc42
        simp only [Int.toNat_natCast, List.getElem?_eq_getElem hq, Option.map_some, Option.getD_some]
        intro h9
        rw [h9] at h8
        simp at h8)])
set_option maxHeartbeats 2000000 in
theorem sign0_s (hl : body.length ≤ 1000) : Spec Try.prog 7 [.v .nilIface, int k, int f, byt body, ints to] [] (fun _ : Unit => []) (fun _ => .agg (Msg.mk k f body []).abs) := by
  refine spec_of Try.func7 rfl Try.ntmps7 rfl fun G w => ?_
  refine SC.seq (SC.region ?_)
  refine SL.eff (Eff.alloc tabOk rfl) rfl rfl ?_
  rintro _ _ ⟨b10, rfl, rfl⟩
  refine SL.nil (SE.seq ?_)
  refine SC.seq (SC.region ?_)
  refine SL.val (Val.move rfl) rfl rfl ?_
  refine SL.val (Val.move rfl) rfl rfl ?_
  refine SL.val (Val.move rfl) rfl rfl ?_
  refine SL.call (clone_s (l := body) (by omega)) Casts.refl (by kernel_rfl) rfl rfl rfl ?_
  refine After.pure (by repeat first|exact .nil|refine .blk (by repeat first|assumption|exact m0|apply m1) ?_|refine .rd (by repeat first|assumption|exact m0|apply m1) ?_|refine .pc (by repeat first|assumption|exact m0|apply m1) ?_|refine .rdpc (by repeat first|assumption|exact m0|apply m1) ?_) (fun _ => rfl) ?_
  intro _
  refine SL.val (Val.buildS tabOk rfl rfl rfl rfl) rfl rfl ?_
  refine SL.eff (Eff.alloc tabOk rfl) rfl rfl ?_
  rintro _ _ ⟨b11, rfl, rfl⟩
  refine SL.eff (Eff.store tabOk rfl rfl rfl (by repeat first|assumption|exact Upd.here|apply Upd.there) (by rfl) (Nat.le_of_ble_eq_true (by rfl)) (by rfl) (by rfl)) rfl rfl ?_
  rintro _ _ ⟨rfl, rfl⟩
  refine SL.nil (SE.seq ?_)
  refine SC.seq ?_
  refine SC.seq (SC.region ?_)
  refine SL.val (Val.move rfl) rfl rfl ?_
  refine SL.val (Val.nilNil Try.underlying50 rfl) rfl rfl ?_
  refine SL.nil (SE.seq ?_)
  refine SC.condT rfl ?_
  refine SC.seq (SC.region ?_)
  first
    | refine SL.val (Val.loadA tabOk rfl rfl rfl (by first|(apply Or.inl;(repeat first|assumption|exact m0|apply m1);done)|(apply Or.inr;(repeat first|assumption|exact m0|apply m1);done)) List.not_mem_nil (by rfl)) rfl rfl ?_
    | refine SL.val (Val.loadP tabOk rfl rfl rfl (by first|(apply Or.inl;(repeat first|assumption|exact m0|apply m1);done)|(apply Or.inr;(repeat first|assumption|exact m0|apply m1);done)) List.not_mem_nil (Nat.le_of_ble_eq_true (by rfl))) rfl rfl ?_
  refine SL.eff (Eff.store tabOk rfl rfl rfl (by repeat first|assumption|exact Upd.here|apply Upd.there) (by rfl) (Nat.le_of_ble_eq_true (by rfl)) (by rfl) (by rfl)) rfl rfl ?_
  rintro _ _ ⟨rfl, rfl⟩
  refine SL.nil (SE.seq ?_)
  refine SC.ret ?_
  refine SE.then_ (by intro h; cases h) ?_
  refine SE.finC (rs := [.cell 10 26]) rfl (RV.cell rfl (RV.cellA tabOk rfl rfl (by first|(apply Or.inl;(repeat first|assumption|exact m0|apply m1);done)|(apply Or.inr;(repeat first|assumption|exact m0|apply m1);done)) (by rfl)) RV.nil) (Casts.cons (cast_agg (Casts.keep (Casts.keep (Casts.keep (Casts.nils (s := 32) Casts.refl))))) Casts.refl) (()) (by repeat first|exact s0 _|exact s1 _|apply s2|apply s3) (by simp [It.rids]) ?_
  exact rfl
/-- What a new book says of four messages. -/
def T4 (i : Nat) : TMap := (List.range i).map fun j => (((0, (j : Nat)), [2, 120]), j + 1)
def tg4 (i : Nat) : List Tg := (List.range i).map fun j => ⟨numB 255 (j + 1), numB_length _ _⟩
theorem T4_length (i : Nat) : (T4 i).length = i := by simp [T4]
theorem T4_none (i : Nat) : aget (T4 i) (((0, (i : Nat)), [2, 120]) : (Int × Int) × List UInt8) = none := by
  rw [aget_none]
  unfold T4
  simp only [List.map_map, List.mem_map, List.mem_range, Function.comp, not_exists, not_and]
  intro j hj h
  simp only [Prod.mk.injEq, true_and, and_true] at h
  omega
theorem T4_pl (i : Nat) : pl (T4 i) (((0, (i : Nat)), [2, 120]) : (Int × Int) × List UInt8) = i + 1 := by
  unfold pl
  rw [T4_none, T4_length]
  rfl
theorem T4_pm (i : Nat) : pm (T4 i) (((0, (i : Nat)), [2, 120]) : (Int × Int) × List UInt8) = T4 (i + 1) := by
  unfold pm aput
  rw [T4_none, if_neg (by simp), if_neg (by simp), T4_length]
  unfold T4
  rw [List.range_succ, List.map_append]
  rfl
theorem tg4_succ (i : Nat) : (tg4 i).map Tg.abs ++ [digA (numB 255 (i + 1))] = (tg4 (i + 1)).map Tg.abs := by
  unfold tg4
  rw [List.range_succ, List.map_append, List.map_append]
  rfl
def m4 : Msg := ⟨2, 0, [120], tg4 4⟩
theorem all4 : allN 4 = [0, 1, 2, 3] := by decide
theorem all4_get {i : Nat} (h : i < (allN 4).length) : (allN 4)[i] = (i : Nat) := by
  unfold allN
  simp
theorem m4_ok : chkM (T4 4) m4 3 3 = 0 := by decide +kernel
theorem m4_no : chkM (T4 4) m4 3 2 = 12 := by decide +kernel
theorem m4_out : chkM (T4 4) m4 4 4 = 12 := by decide +kernel
set_option maxHeartbeats 4000000 in
theorem sign4_s  : Spec Try.prog 7 [.ifc 30 (.v (.pointer (some ⟨p, 0, none⟩))), int 2, int 0, byt [120], ints (allN 4)] [.pc (bkPc p bd bt [] [])] (fun _ : Unit => [.pc (bkPc p bd bt [] (T4 4))]) (fun _ => .agg m4.abs) := by
  have hlen : (allN 4).length = 4 := by rw [all4]; rfl
  refine spec_of Try.func7 rfl Try.ntmps7 rfl fun G w => ?_
  refine SC.seq (SC.region ?_)
  refine SL.eff (Eff.alloc tabOk rfl) rfl rfl ?_
  rintro _ _ ⟨b10, rfl, rfl⟩
  refine SL.nil (SE.seq ?_)
  refine SC.seq (SC.region ?_)
  refine SL.val (Val.move rfl) rfl rfl ?_
  refine SL.val (Val.move rfl) rfl rfl ?_
  refine SL.val (Val.move rfl) rfl rfl ?_
  refine SL.call (clone_s (l := [120]) (by simp)) Casts.refl (by kernel_rfl) rfl rfl rfl ?_
  refine After.pure (by repeat first|exact .nil|refine .blk (by repeat first|assumption|exact m0|apply m1) ?_|refine .rd (by repeat first|assumption|exact m0|apply m1) ?_|refine .pc (by repeat first|assumption|exact m0|apply m1) ?_|refine .rdpc (by repeat first|assumption|exact m0|apply m1) ?_) (fun _ => rfl) ?_
  intro _
  refine SL.val (Val.buildS tabOk rfl rfl rfl rfl) rfl rfl ?_
  refine SL.eff (Eff.alloc tabOk rfl) rfl rfl ?_
  rintro _ _ ⟨b11, rfl, rfl⟩
  refine SL.eff (Eff.store tabOk rfl rfl rfl (by repeat first|assumption|exact Upd.here|apply Upd.there) (by rfl) (Nat.le_of_ble_eq_true (by rfl)) (by rfl) (by rfl)) rfl rfl ?_
  rintro _ _ ⟨rfl, rfl⟩
  refine SL.nil (SE.seq ?_)
  refine SC.seq ?_
  refine SC.seq (SC.region ?_)
  refine SL.val (Val.move rfl) rfl rfl ?_
  refine SL.val (Val.ifaceNil Try.underlying50 rfl) rfl rfl ?_
  refine SL.nil (SE.seq ?_)
  refine SC.condF rfl ?_
  refine SC.skip ?_
  refine SE.seq ?_
  refine SC.seq (SC.region ?_)
  refine SL.val (Val.move rfl) rfl rfl ?_
  refine SL.val (Val.move rfl) rfl rfl ?_
  refine SL.call ((text_s (k := 2) (l := [120]) (by simp) : Pure Try.prog 8 [int 2, byt [120]] (byt [2, 120]))) Casts.refl (by kernel_rfl) rfl rfl rfl ?_
  refine After.pure (by repeat first|exact .nil|refine .blk (by repeat first|assumption|exact m0|apply m1) ?_|refine .rd (by repeat first|assumption|exact m0|apply m1) ?_|refine .pc (by repeat first|assumption|exact m0|apply m1) ?_|refine .rdpc (by repeat first|assumption|exact m0|apply m1) ?_) (fun _ => rfl) ?_
  intro _
  refine SL.val (Val.assign rfl) rfl rfl ?_
  refine SL.nil (SE.seq ?_)
  refine SC.seq ?_
  refine SC.seq (SC.region ?_)
  refine SL.val (Val.move rfl) rfl rfl ?_
  first
    | refine SL.val (Val.lenSl rfl Try.underlying23 (List.length_map _)) rfl rfl ?_
    | refine SL.val (Val.lenOwn rfl (by repeat first|assumption|exact m0|apply m1) Try.underlying23 (List.length_map _)) rfl rfl ?_
    | refine SL.val (Val.lenNil rfl Try.underlying23) rfl rfl ?_
  refine SL.val (Val.move rfl) rfl rfl ?_
  refine SL.nil (SE.seq ?_)
  refine SC.block ?_
  refine SC.own0 37 32 ?_
  refine SC.loop (ι := Nat × Value) (fun z => [own 37 32 z.2 ((tg4 z.1).map Tg.abs), .blk b11 26 [int 2, int 0, byt [120], .v z.2], .blk b10 26 (zabs [.int .i64 0, .int .i64 0, .slice none 0 0, .slice none 0 0]), .pc (bkPc p bd bt [] (T4 z.1))]) (fun z => [(0, .ifc 30 (.v (.pointer (some ⟨p, 0, none⟩)))), (2, int 0), (10, ptr b10), (11, ptr b11), (12, byt [2, 120]), (26, ints (allN 4)), (27, int ((allN 4).length : Nat)), (28, int (z.1 : Nat))]) (fun z => z.1 ≤ 4) (fun z => 4 - z.1) (0, .slice none 0 0) (by decide) (by exact ⟨rfl, rfl, rfl, rfl, rfl, rfl, rfl, rfl, trivial⟩) (by repeat first|exact s0 _|exact s1 _|apply s2|apply s3) ?_
  intro z hz
  refine SC.seq (SC.region ?_)
  refine SL.val (Val.ltI rfl rfl) rfl rfl ?_
  refine SL.nil (SE.seq ?_)
  refine SC.seq ?_
  refine SC.condP rfl ?_ ?_
  rotate_left
  · intro hc29
    refine SC.exit ?_
    refine SE.then_ (by intro h; cases h) ?_
    refine SE.then_ (by intro h; cases h) ?_
    refine SE.exit ?_
    refine SE.seq ?_
    refine SC.seq ?_
    have hz4 : z.1 = 4 := by omega
    refine SC.freezeC [] 3 rfl (by repeat first|assumption|exact Upd.here|apply Upd.there) rfl ?_
    rw [hz4]
    refine SC.region ?_
    first
      | refine SL.val (Val.loadA tabOk rfl rfl rfl (by first|(apply Or.inl;(repeat first|assumption|exact m0|apply m1);done)|(apply Or.inr;(repeat first|assumption|exact m0|apply m1);done)) List.not_mem_nil (by rfl)) rfl rfl ?_
      | refine SL.val (Val.loadP tabOk rfl rfl rfl (by first|(apply Or.inl;(repeat first|assumption|exact m0|apply m1);done)|(apply Or.inr;(repeat first|assumption|exact m0|apply m1);done)) List.not_mem_nil (Nat.le_of_ble_eq_true (by rfl))) rfl rfl ?_
    refine SL.eff (Eff.store tabOk rfl rfl rfl (by repeat first|assumption|exact Upd.here|apply Upd.there) (by rfl) (Nat.le_of_ble_eq_true (by rfl)) (by rfl) (by rfl)) rfl rfl ?_
    rintro _ _ ⟨rfl, rfl⟩
    refine SL.nil (SE.seq ?_)
    refine SC.ret ?_
    refine SE.fin (rs := [.cell 10 26]) rfl (RV.cell rfl (RV.cellA tabOk rfl rfl (by first|(apply Or.inl;(repeat first|assumption|exact m0|apply m1);done)|(apply Or.inr;(repeat first|assumption|exact m0|apply m1);done)) (by rfl)) RV.nil) (()) (by repeat first|exact s0 _|exact s1 _|apply s2|apply s3) (by simp [It.rids]) ?_
    exact rfl
  intro hc29
  have hlt : z.1 < (allN 4).length := by omega
  refine SC.skip ?_
  refine SE.seq ?_
  refine SC.seq ?_
  refine SC.block ?_
  refine SC.seq (SC.region ?_)
  refine SL.val (Val.indexSl tabOk Try.underlying23 rfl rfl rfl rfl (at_map (by omega)) rfl rfl) rfl rfl ?_
  refine SL.val (Val.to (C := int (z.1 : Nat)) (Val.load1R tabOk rfl rfl rfl) (by rw [all4_get])) rfl rfl ?_
  refine SL.val (Val.assign rfl) rfl rfl ?_
  refine SL.nil (SE.seq ?_)
  refine SC.draw (z.2.ownBlock.toList ++ [b11, p, bd, bt]) (.q 0 (.q 2 (.q 3 (.q 4 (.q 5 (.two 1 6 (.e 6 (.e 7 (.e 8 (.q 9 (.e 10 .nil))))) (.two 1 7 (.e 7 (.e 8 (.q 9 (.e 10 .nil)))) (.e 1 (.e 8 (.q 9 (.e 10 .nil))))))))))) (by kernel_rfl) (by kernel_rfl) ?_
  refine SX.val rfl (Val.fieldAddr tabOk rfl rfl rfl rfl rfl) (by first | (simp [mids, It.mids, ownPc, bkPc]; done) | (intro k hk; simp [mids, It.mids, ownPc, bkPc] at hk ⊢; grind)) rfl rfl ?_
  refine SX.val rfl (Val.move rfl) (by first | (simp [mids, It.mids, ownPc, bkPc]; done) | (intro k hk; simp [mids, It.mids, ownPc, bkPc] at hk ⊢; grind)) rfl rfl ?_
  refine SX.val rfl (Val.move rfl) (by first | (simp [mids, It.mids, ownPc, bkPc]; done) | (intro k hk; simp [mids, It.mids, ownPc, bkPc] at hk ⊢; grind)) rfl rfl ?_
  refine SX.val rfl (Val.move rfl) (by first | (simp [mids, It.mids, ownPc, bkPc]; done) | (intro k hk; simp [mids, It.mids, ownPc, bkPc] at hk ⊢; grind)) rfl rfl ?_
  refine SX.val rfl (Val.move rfl) (by first | (simp [mids, It.mids, ownPc, bkPc]; done) | (intro k hk; simp [mids, It.mids, ownPc, bkPc] at hk ⊢; grind)) rfl rfl ?_
  refine SX.two ?_ ?_
  · skip
    refine SX.valE rfl (Val.load1 tabOk rfl rfl (by first|(apply Or.inl;(repeat first|assumption|exact m0|apply m1);done)|(apply Or.inr;(repeat first|assumption|exact m0|apply m1);done)) List.not_mem_nil (by rfl)) rfl rfl ?_
    refine SX.invokeR rfl ((by have h := bktag_s (p := p) (bd := bd) (bt := bt) (D := []) (T := T4 z.1) (from_ := 0) (to_ := (z.1 : Nat)) (l := [2, 120]) (by unfold i64r; omega) (by unfold i64r; omega) (by unfold maxLen; simp) (by rw [T4_length]; omega) (by rw [T4_pl]; omega); rw [T4_pl, T4_pm] at h; exact h : Spec Try.prog 71 [.v (.pointer (some ⟨p, 0, none⟩)), int 0, int (z.1 : Nat), byt [2, 120]] [.pc (bkPc p bd bt [] (T4 z.1))] (fun _ : Unit => [.pc (bkPc p bd bt [] (T4 (z.1 + 1)))]) (fun _ => .agg (digA (numB 255 (z.1 + 1)))))) (by simp [mids, It.mids, bkPc]) rfl Casts.refl (fun _ _ _ => by kernel_rfl) rfl rfl rfl ?_
    refine After.one rfl (by repeat first|assumption|exact m0|apply m1) (fun _ => rfl) ?_
    intro _
    refine ⟨_, (by repeat first|assumption|exact Upd.here|apply Upd.there), ?_⟩
    refine SX.eff rfl (Eff.buildSl tabOk Try.underlying24 rfl rfl rfl (elems_one (by simp [digA, numB_length])) rfl rfl rfl) (by simp) rfl rfl ?_
    rintro _ _ ⟨rfl, rfl⟩
    refine SX.effX [b11] rfl (Eff.appendE (zs := (tg4 (z.1 + 1)).map Tg.abs) tabOk [] (tg4_succ z.1) Try.underlying24 rfl rfl rfl rfl rfl rfl (by intro c hc; rw [List.mem_singleton] at hc; subst hc; rw [ones_iff]; intro a ha; obtain ⟨b, _, rfl⟩ := List.mem_map.1 ha; rfl) (by unfold maxLen; simp only [tg4, List.length_map, List.length_range, List.length_cons, List.length_nil]; omega) (by rw [show Try.prog.bytesOf 37 = 32 by kernel_rfl]; simp only [tg4, List.length_map, List.length_range, List.length_cons, List.length_nil]; omega)) (fun k hk => List.mem_append_left _ hk) (by simp) rfl rfl ?_
    rintro _ _ ⟨r40, rfl, rfl⟩
    refine SX.val rfl (Val.fieldAddr tabOk rfl rfl rfl rfl rfl) (by first | (simp [mids, It.mids, ownPc, bkPc]; done) | (intro k hk; simp [mids, It.mids, ownPc, bkPc] at hk ⊢; grind)) rfl rfl ?_
    first
      | refine SX.eff rfl (Eff.store tabOk rfl rfl rfl (by repeat first|assumption|exact Upd.here|apply Upd.there) (by rfl) (Nat.le_of_ble_eq_true (by rfl)) (by rfl) (by rfl)) (by simp) rfl rfl ?_
      | refine SX.eff rfl (Eff.storeOwn tabOk rfl rfl rfl rfl (by repeat first|assumption|exact m0|apply m1) (by repeat first|assumption|exact Upd.here|apply Upd.there) rfl (by rfl)) (by simp) rfl rfl ?_
    rintro _ _ ⟨rfl, rfl⟩
    refine SX.nil ?_
    refine SE.inBlock ?_
    refine SE.seq ?_
    refine SC.region ?_
    first
      | refine SL.val (Val.addI rfl rfl (by simp only [InR, lo, hi]; omega)) rfl rfl ?_
      | refine SL.val (Val.addW rfl rfl) rfl rfl ?_
    refine SL.val (Val.move rfl) rfl rfl ?_
    refine SL.nil ?_
    refine SE.round (z.1 + 1, r40) (by first | omega | (dsimp only; omega)) (by dsimp only; omega) (by exact ⟨rfl, rfl, rfl, rfl, rfl, rfl, rfl, rfl, trivial⟩) (by repeat first|exact s0 _|exact s1 _|apply s2|apply s3)
  · skip
    refine SX.invokeR rfl ((by have h := bktag_s (p := p) (bd := bd) (bt := bt) (D := []) (T := T4 z.1) (from_ := 0) (to_ := (z.1 : Nat)) (l := [2, 120]) (by unfold i64r; omega) (by unfold i64r; omega) (by unfold maxLen; simp) (by rw [T4_length]; omega) (by rw [T4_pl]; omega); rw [T4_pl, T4_pm] at h; exact h : Spec Try.prog 71 [.v (.pointer (some ⟨p, 0, none⟩)), int 0, int (z.1 : Nat), byt [2, 120]] [.pc (bkPc p bd bt [] (T4 z.1))] (fun _ : Unit => [.pc (bkPc p bd bt [] (T4 (z.1 + 1)))]) (fun _ => .agg (digA (numB 255 (z.1 + 1)))))) (by simp [mids, It.mids, bkPc]) rfl Casts.refl (fun _ _ _ => by kernel_rfl) rfl rfl rfl ?_
    refine After.one rfl (by repeat first|assumption|exact m0|apply m1) (fun _ => rfl) ?_
    intro _
    refine ⟨_, (by repeat first|assumption|exact Upd.here|apply Upd.there), ?_⟩
    refine SX.two ?_ ?_
    · skip
      refine SX.valE rfl (Val.load1 tabOk rfl rfl (by first|(apply Or.inl;(repeat first|assumption|exact m0|apply m1);done)|(apply Or.inr;(repeat first|assumption|exact m0|apply m1);done)) List.not_mem_nil (by rfl)) rfl rfl ?_
      refine SX.eff rfl (Eff.buildSl tabOk Try.underlying24 rfl rfl rfl (elems_one (by simp [digA, numB_length])) rfl rfl rfl) (by simp) rfl rfl ?_
      rintro _ _ ⟨rfl, rfl⟩
      refine SX.effX [b11] rfl (Eff.appendE (zs := (tg4 (z.1 + 1)).map Tg.abs) tabOk [] (tg4_succ z.1) Try.underlying24 rfl rfl rfl rfl rfl rfl (by intro c hc; rw [List.mem_singleton] at hc; subst hc; rw [ones_iff]; intro a ha; obtain ⟨b, _, rfl⟩ := List.mem_map.1 ha; rfl) (by unfold maxLen; simp only [tg4, List.length_map, List.length_range, List.length_cons, List.length_nil]; omega) (by rw [show Try.prog.bytesOf 37 = 32 by kernel_rfl]; simp only [tg4, List.length_map, List.length_range, List.length_cons, List.length_nil]; omega)) (fun k hk => List.mem_append_left _ hk) (by simp) rfl rfl ?_
      rintro _ _ ⟨r40, rfl, rfl⟩
      refine SX.val rfl (Val.fieldAddr tabOk rfl rfl rfl rfl rfl) (by first | (simp [mids, It.mids, ownPc, bkPc]; done) | (intro k hk; simp [mids, It.mids, ownPc, bkPc] at hk ⊢; grind)) rfl rfl ?_
      first
        | refine SX.eff rfl (Eff.store tabOk rfl rfl rfl (by repeat first|assumption|exact Upd.here|apply Upd.there) (by rfl) (Nat.le_of_ble_eq_true (by rfl)) (by rfl) (by rfl)) (by simp) rfl rfl ?_
        | refine SX.eff rfl (Eff.storeOwn tabOk rfl rfl rfl rfl (by repeat first|assumption|exact m0|apply m1) (by repeat first|assumption|exact Upd.here|apply Upd.there) rfl (by rfl)) (by simp) rfl rfl ?_
      rintro _ _ ⟨rfl, rfl⟩
      refine SX.nil ?_
      refine SE.inBlock ?_
      refine SE.seq ?_
      refine SC.region ?_
      first
        | refine SL.val (Val.addI rfl rfl (by simp only [InR, lo, hi]; omega)) rfl rfl ?_
        | refine SL.val (Val.addW rfl rfl) rfl rfl ?_
      refine SL.val (Val.move rfl) rfl rfl ?_
      refine SL.nil ?_
      refine SE.round (z.1 + 1, r40) (by first | omega | (dsimp only; omega)) (by dsimp only; omega) (by exact ⟨rfl, rfl, rfl, rfl, rfl, rfl, rfl, rfl, trivial⟩) (by repeat first|exact s0 _|exact s1 _|apply s2|apply s3)
    · skip
      refine SX.eff rfl (Eff.buildSl tabOk Try.underlying24 rfl rfl rfl (elems_one (by simp [digA, numB_length])) rfl rfl rfl) (by simp) rfl rfl ?_
      rintro _ _ ⟨rfl, rfl⟩
      refine SX.valE rfl (Val.load1 tabOk rfl rfl (by first|(apply Or.inl;(repeat first|assumption|exact m0|apply m1);done)|(apply Or.inr;(repeat first|assumption|exact m0|apply m1);done)) List.not_mem_nil (by rfl)) rfl rfl ?_
      refine SX.effX [b11] rfl (Eff.appendE (zs := (tg4 (z.1 + 1)).map Tg.abs) tabOk [] (tg4_succ z.1) Try.underlying24 rfl rfl rfl rfl rfl rfl (by intro c hc; rw [List.mem_singleton] at hc; subst hc; rw [ones_iff]; intro a ha; obtain ⟨b, _, rfl⟩ := List.mem_map.1 ha; rfl) (by unfold maxLen; simp only [tg4, List.length_map, List.length_range, List.length_cons, List.length_nil]; omega) (by rw [show Try.prog.bytesOf 37 = 32 by kernel_rfl]; simp only [tg4, List.length_map, List.length_range, List.length_cons, List.length_nil]; omega)) (fun k hk => List.mem_append_left _ hk) (by simp) rfl rfl ?_
      rintro _ _ ⟨r40, rfl, rfl⟩
      refine SX.val rfl (Val.fieldAddr tabOk rfl rfl rfl rfl rfl) (by first | (simp [mids, It.mids, ownPc, bkPc]; done) | (intro k hk; simp [mids, It.mids, ownPc, bkPc] at hk ⊢; grind)) rfl rfl ?_
      first
        | refine SX.eff rfl (Eff.store tabOk rfl rfl rfl (by repeat first|assumption|exact Upd.here|apply Upd.there) (by rfl) (Nat.le_of_ble_eq_true (by rfl)) (by rfl) (by rfl)) (by simp) rfl rfl ?_
        | refine SX.eff rfl (Eff.storeOwn tabOk rfl rfl rfl rfl (by repeat first|assumption|exact m0|apply m1) (by repeat first|assumption|exact Upd.here|apply Upd.there) rfl (by rfl)) (by simp) rfl rfl ?_
      rintro _ _ ⟨rfl, rfl⟩
      refine SX.nil ?_
      refine SE.inBlock ?_
      refine SE.seq ?_
      refine SC.region ?_
      first
        | refine SL.val (Val.addI rfl rfl (by simp only [InR, lo, hi]; omega)) rfl rfl ?_
        | refine SL.val (Val.addW rfl rfl) rfl rfl ?_
      refine SL.val (Val.move rfl) rfl rfl ?_
      refine SL.nil ?_
      refine SE.round (z.1 + 1, r40) (by first | omega | (dsimp only; omega)) (by dsimp only; omega) (by exact ⟨rfl, rfl, rfl, rfl, rfl, rfl, rfl, rfl, trivial⟩) (by repeat first|exact s0 _|exact s1 _|apply s2|apply s3)
set_option maxHeartbeats 4000000 in
theorem fixed06_s  : Spec Try.prog 4 [] [] (fun _ : Unit => []) (fun _ => boo true) := by
  refine spec_of Try.func4 rfl Try.ntmps4 rfl fun G w => ?_
  refine SC.seq (SC.region ?_)
  refine SL.val (Val.assign rfl) rfl rfl ?_
  refine SL.nil (SE.seq ?_)
  refine SC.seq (SC.region ?_)
  refine SL.call (bknew_s) Casts.refl (by kernel_rfl) rfl rfl rfl ?_
  refine After.make (by repeat first|exact .nil|refine .blk (by repeat first|assumption|exact m0|apply m1) ?_|refine .rd (by repeat first|assumption|exact m0|apply m1) ?_|refine .pc (by repeat first|assumption|exact m0|apply m1) ?_|refine .rdpc (by repeat first|assumption|exact m0|apply m1) ?_) (fun _ => rfl) ?_
  intro z0
  refine SL.val (Val.assign rfl) rfl rfl ?_
  refine SL.nil (SE.seq ?_)
  refine SC.seq (SC.region ?_)
  refine SL.val (Val.move rfl) rfl rfl ?_
  refine SL.val (Val.makeIface rfl (fun _ _ => by kernel_rfl)) rfl rfl ?_
  refine SL.eff (Eff.buildOwn tabOk Try.underlying22 rfl rfl rfl rfl rfl rfl rfl) rfl rfl ?_
  rintro _ _ ⟨r6, rfl, rfl⟩
  refine SL.eff (Eff.litBytes (m := [120]) [] Try.underlying22 Try.underlying5 rfl rfl (by simp)) rfl rfl ?_
  rintro _ _ ⟨rfl, rfl⟩
  refine SL.call (all_s (n := 4)) Casts.refl (by kernel_rfl) rfl rfl rfl ?_
  refine After.pure (by repeat first|exact .nil|refine .blk (by repeat first|assumption|exact m0|apply m1) ?_|refine .rd (by repeat first|assumption|exact m0|apply m1) ?_|refine .pc (by repeat first|assumption|exact m0|apply m1) ?_|refine .rdpc (by repeat first|assumption|exact m0|apply m1) ?_) (fun _ => rfl) ?_
  intro _
  refine SL.call (sign4_s (p := z0.1) (bd := z0.2.1) (bt := z0.2.2)) Casts.refl (by kernel_rfl) rfl rfl rfl ?_
  refine After.one rfl (by repeat first|assumption|exact m0|apply m1) (fun _ => rfl) ?_
  intro _
  refine ⟨_, (by repeat first|assumption|exact Upd.here|apply Upd.there), ?_⟩
  refine SL.eff (Eff.alloc tabOk rfl) rfl rfl ?_
  rintro _ _ ⟨b2, rfl, rfl⟩
  refine SL.eff (Eff.store tabOk rfl rfl rfl (by repeat first|assumption|exact Upd.here|apply Upd.there) (by rfl) (Nat.le_of_ble_eq_true (by rfl)) (by rfl) (by rfl)) rfl rfl ?_
  rintro _ _ ⟨rfl, rfl⟩
  refine SL.nil (SE.seq ?_)
  refine SC.seq (SC.region ?_)
  refine SL.eff (Eff.buildOwn tabOk Try.underlying22 rfl rfl rfl rfl rfl rfl rfl) rfl rfl ?_
  rintro _ _ ⟨r10, rfl, rfl⟩
  refine SL.eff (Eff.litBytes (m := [120]) [] Try.underlying22 Try.underlying5 rfl rfl (by simp)) rfl rfl ?_
  rintro _ _ ⟨rfl, rfl⟩
  refine SL.call ((text_s (k := 2) (l := [120]) (by simp) : Pure Try.prog 8 [int 2, byt [120]] (byt [2, 120]))) Casts.refl (by kernel_rfl) rfl rfl rfl ?_
  refine After.pure (by repeat first|exact .nil|refine .blk (by repeat first|assumption|exact m0|apply m1) ?_|refine .rd (by repeat first|assumption|exact m0|apply m1) ?_|refine .pc (by repeat first|assumption|exact m0|apply m1) ?_|refine .rdpc (by repeat first|assumption|exact m0|apply m1) ?_) (fun _ => rfl) ?_
  intro _
  refine SL.val (Val.strOf rfl) rfl rfl ?_
  refine SL.val (Val.to (C := boo true) (Val.eqS rfl rfl) (by rfl)) rfl rfl ?_
  refine SL.val (Val.move rfl) rfl rfl ?_
  refine SL.val (Val.fieldAddr tabOk rfl rfl rfl rfl rfl) rfl rfl ?_
  refine SL.val (Val.load1 tabOk rfl rfl (by first|(apply Or.inl;(repeat first|assumption|exact m0|apply m1);done)|(apply Or.inr;(repeat first|assumption|exact m0|apply m1);done)) List.not_mem_nil (by rfl)) rfl rfl ?_
  refine SL.val (Val.lenSl (m := 4) rfl Try.underlying24 (by rw [List.length_map]; rfl)) rfl rfl ?_
  refine SL.val (Val.eqI rfl rfl) rfl rfl ?_
  refine SL.val (Val.pickT rfl rfl) rfl rfl ?_
  refine SL.val (Val.move rfl) rfl rfl ?_
  refine SL.bothP (t := 21) rfl ?_ (by intro hc21; exfalso; omega)
  intro hc21
  refine SL.val (Val.move rfl) rfl rfl ?_
  refine SL.val (Val.makeIface rfl (fun _ _ => by kernel_rfl)) rfl rfl ?_
  first
    | refine SL.val (Val.loadA tabOk rfl rfl rfl (by first|(apply Or.inl;(repeat first|assumption|exact m0|apply m1);done)|(apply Or.inr;(repeat first|assumption|exact m0|apply m1);done)) List.not_mem_nil (by rfl)) rfl rfl ?_
    | refine SL.val (Val.loadP tabOk rfl rfl rfl (by first|(apply Or.inl;(repeat first|assumption|exact m0|apply m1);done)|(apply Or.inr;(repeat first|assumption|exact m0|apply m1);done)) List.not_mem_nil (Nat.le_of_ble_eq_true (by rfl))) rfl rfl ?_
  refine SL.call (((by have h := checkb_s (m := m4) (place := 3) (who := 3) (p := z0.1) (bd := z0.2.1) (bt := z0.2.2) (Dm := []) (T := T4 4) (by simp [m4]) (by show i64r 0; unfold i64r; omega) (by unfold i64r; omega) (by rw [T4_length]; omega) (by decide +kernel); rw [m4_ok] at h; exact h) : Spec Try.prog 10 [.ifc 30 (.v (.pointer (some ⟨z0.1, 0, none⟩))), .agg m4.abs, int 3, int 3] [.pc (bkPc z0.1 z0.2.1 z0.2.2 [] (T4 4))] (fun _ : Unit => [.pc (bkPc z0.1 z0.2.1 z0.2.2 [] (T4 4))]) (fun _ => int 0))) Casts.refl (by kernel_rfl) rfl rfl rfl ?_
  refine After.one rfl (by repeat first|assumption|exact m0|apply m1) (fun _ => rfl) ?_
  intro _
  refine ⟨_, (by repeat first|assumption|exact Upd.here|apply Upd.there), ?_⟩
  refine SL.val (Val.eqI rfl rfl) rfl rfl ?_
  refine SL.val (Val.pickT rfl rfl) rfl rfl ?_
  refine SL.val (Val.move rfl) rfl rfl ?_
  refine SL.bothP (t := 28) rfl ?_ (by intro hc28; exfalso; omega)
  intro hc28
  refine SL.val (Val.move rfl) rfl rfl ?_
  refine SL.val (Val.makeIface rfl (fun _ _ => by kernel_rfl)) rfl rfl ?_
  first
    | refine SL.val (Val.loadA tabOk rfl rfl rfl (by first|(apply Or.inl;(repeat first|assumption|exact m0|apply m1);done)|(apply Or.inr;(repeat first|assumption|exact m0|apply m1);done)) List.not_mem_nil (by rfl)) rfl rfl ?_
    | refine SL.val (Val.loadP tabOk rfl rfl rfl (by first|(apply Or.inl;(repeat first|assumption|exact m0|apply m1);done)|(apply Or.inr;(repeat first|assumption|exact m0|apply m1);done)) List.not_mem_nil (Nat.le_of_ble_eq_true (by rfl))) rfl rfl ?_
  refine SL.call (((by have h := checkb_s (m := m4) (place := 3) (who := 2) (p := z0.1) (bd := z0.2.1) (bt := z0.2.2) (Dm := []) (T := T4 4) (by simp [m4]) (by show i64r 0; unfold i64r; omega) (by unfold i64r; omega) (by rw [T4_length]; omega) (by decide +kernel); rw [m4_no] at h; exact h) : Spec Try.prog 10 [.ifc 30 (.v (.pointer (some ⟨z0.1, 0, none⟩))), .agg m4.abs, int 3, int 2] [.pc (bkPc z0.1 z0.2.1 z0.2.2 [] (T4 4))] (fun _ : Unit => [.pc (bkPc z0.1 z0.2.1 z0.2.2 [] (T4 4))]) (fun _ => int 12))) Casts.refl (by kernel_rfl) rfl rfl rfl ?_
  refine After.one rfl (by repeat first|assumption|exact m0|apply m1) (fun _ => rfl) ?_
  intro _
  refine ⟨_, (by repeat first|assumption|exact Upd.here|apply Upd.there), ?_⟩
  refine SL.val (Val.eqI rfl rfl) rfl rfl ?_
  refine SL.val (Val.pickT rfl rfl) rfl rfl ?_
  refine SL.val (Val.move rfl) rfl rfl ?_
  refine SL.bothP (t := 35) rfl ?_ (by intro hc35; exfalso; omega)
  intro hc35
  refine SL.val (Val.move rfl) rfl rfl ?_
  refine SL.val (Val.makeIface rfl (fun _ _ => by kernel_rfl)) rfl rfl ?_
  first
    | refine SL.val (Val.loadA tabOk rfl rfl rfl (by first|(apply Or.inl;(repeat first|assumption|exact m0|apply m1);done)|(apply Or.inr;(repeat first|assumption|exact m0|apply m1);done)) List.not_mem_nil (by rfl)) rfl rfl ?_
    | refine SL.val (Val.loadP tabOk rfl rfl rfl (by first|(apply Or.inl;(repeat first|assumption|exact m0|apply m1);done)|(apply Or.inr;(repeat first|assumption|exact m0|apply m1);done)) List.not_mem_nil (Nat.le_of_ble_eq_true (by rfl))) rfl rfl ?_
  refine SL.call (((by have h := checkb_s (m := m4) (place := 4) (who := 4) (p := z0.1) (bd := z0.2.1) (bt := z0.2.2) (Dm := []) (T := T4 4) (by simp [m4]) (by show i64r 0; unfold i64r; omega) (by unfold i64r; omega) (by rw [T4_length]; omega) (by decide +kernel); rw [m4_out] at h; exact h) : Spec Try.prog 10 [.ifc 30 (.v (.pointer (some ⟨z0.1, 0, none⟩))), .agg m4.abs, int 4, int 4] [.pc (bkPc z0.1 z0.2.1 z0.2.2 [] (T4 4))] (fun _ : Unit => [.pc (bkPc z0.1 z0.2.1 z0.2.2 [] (T4 4))]) (fun _ => int 12))) Casts.refl (by kernel_rfl) rfl rfl rfl ?_
  refine After.one rfl (by repeat first|assumption|exact m0|apply m1) (fun _ => rfl) ?_
  intro _
  refine ⟨_, (by repeat first|assumption|exact Upd.here|apply Upd.there), ?_⟩
  refine SL.val (Val.eqI rfl rfl) rfl rfl ?_
  refine SL.val (Val.pickT rfl rfl) rfl rfl ?_
  refine SL.val (Val.move rfl) rfl rfl ?_
  refine SL.bothP (t := 42) rfl ?_ (by intro hc42; exfalso; omega)
  intro hc42
  refine SL.call (all_s (n := 8)) Casts.refl (by kernel_rfl) rfl rfl rfl ?_
  refine After.pure (by repeat first|exact .nil|refine .blk (by repeat first|assumption|exact m0|apply m1) ?_|refine .rd (by repeat first|assumption|exact m0|apply m1) ?_|refine .pc (by repeat first|assumption|exact m0|apply m1) ?_|refine .rdpc (by repeat first|assumption|exact m0|apply m1) ?_) (fun _ => rfl) ?_
  intro _
  refine SL.val (Val.lenSl (m := 0) rfl Try.underlying23 (by rw [List.length_map]; rfl)) rfl rfl ?_
  refine SL.val (Val.eqI rfl rfl) rfl rfl ?_
  refine SL.val (Val.pickT rfl rfl) rfl rfl ?_
  refine SL.val (Val.assign rfl) rfl rfl ?_
  refine SL.nil (SE.seq ?_)
  refine SC.ret ?_
  refine SE.fin (rs := [.tmp 0]) rfl (RV.tmp rfl RV.nil) (()) (by repeat first|exact s0 _|exact s1 _|apply s2|apply s3) (by simp [It.rids]) ?_
  rfl
theorem row_any {m : Msg} : True := trivial
end
end Go.Proofs.Ytgfndlibbfamfaa.A
/-
  The second engine: regions that draw, in two parts; an element of a row of the call's own stored; words of 64 bits.
-/
set_option maxRecDepth 100000
set_option linter.unusedSimpArgs false
set_option linter.unusedVariables false
namespace Go.Proofs.Ytgfndlibbfamfaa
open Go.RowKit
section
variable {P : Program} {ops : Array Oper}
/-- In whatever order; what the operations from m on leave is asked nothing. -/
def anyS (P : Program) (ops : Array Oper) (D : World → Prop) (m : Nat) (Q : Act → World → Prop) : Nat → Array Bool → Act → World → Prop
  | 0, listed, a, w => Region.ready .any ops listed = [] ∧ Q a w
  | fuel + 1, listed, a, w => (Region.ready .any ops listed = [] → Q a w) ∧
      ∀ i ∈ Region.ready .any ops listed, wpOp P ops NoExit i (fun a' w' => (m ≤ i ∨ D w') ∧ anyS P ops D m Q fuel (listed.setIfInBounds i true) a' w') a w
theorem anyS.wpAny {D : World → Prop} {m : Nat} {Q : Exit → Act → World → Prop} : ∀ (fuel : Nat) (listed : Array Bool) (a : Act) (w : World),
    anyS P ops D m (Q .normal) fuel listed a w → wpAny P .any ops Q fuel listed a w
  | 0, _, _, _, h => h
  | fuel + 1, _, _, _, h => ⟨h.1, fun i hi => wpOp_of_noExit (wpOp_mono (fun a' w' h3 => anyS.wpAny fuel _ a' w' h3.2) (h.2 i hi))⟩
theorem anyS.mono {D D' : World → Prop} {m : Nat} {Q : Act → World → Prop} (hD : ∀ w, D' w → D w) : ∀ (fuel : Nat) (listed : Array Bool) (a : Act) (w : World),
    anyS P ops D' m Q fuel listed a w → anyS P ops D m Q fuel listed a w
  | 0, _, _, _, h => h
  | fuel + 1, _, _, _, h => ⟨h.1, fun i hi => wpOp_mono (fun a' w' h3 => ⟨h3.1.imp_right (hD _), anyS.mono hD fuel _ a' w' h3.2⟩) (h.2 i hi)⟩
/-- Those ahead of m are listed. -/
def headIn (m : Nat) (L : Array Bool) : Bool := (List.range m).all fun i => L.getD i false
theorem headIn_set {m : Nat} {L : Array Bool} (h : headIn m L = true) (j : Nat) : headIn m (L.setIfInBounds j true) = true := by
  unfold headIn at *
  rw [List.all_eq_true] at *
  exact fun i hi => getD_set_true (h i hi)
theorem headIn_get {m : Nat} {L : Array Bool} (h : headIn m L = true) {i : Nat} (hi : i < m) : L.getD i false = true := by
  unfold headIn at h
  rw [List.all_eq_true] at h
  exact h i (List.mem_range.2 hi)
theorem anyD.toS {D D2 : World → Prop} {m : Nat} {Q : Act → World → Prop} : ∀ (fuel : Nat) (listed : Array Bool) (a : Act) (w : World), headIn m listed = true →
    anyD P ops D2 Q fuel listed a w → anyS P ops D m Q fuel listed a w
  | 0, _, _, _, _, h => h
  | fuel + 1, L, _, _, hL, h => ⟨h.1, fun i hi => wpOp_mono (fun a' w' h3 => ⟨.inl (by
      rcases Nat.lt_or_ge i m with h1 | h1
      · have h2 := headIn_get hL h1
        rw [getD_ff (mem_ready.1 hi).1] at h2
        cases h2
      · exact h1), anyD.toS fuel _ a' w' (headIn_set hL i) h3.2⟩) (h.2 i hi)⟩
/-- Each ahead of m comes ahead of a later one up to m; each behind m comes behind one from m on. -/
def domOkS (ops : Array Oper) (m : Nat) : Bool :=
  ((List.range m).all fun i => (List.range (m + 1)).any fun j => Nat.blt i j && ((ops[j]?).map fun o => o.after.any fun e => Region.binds .any e && e.on == i).getD false) &&
  ((List.range ops.size).all fun j => Nat.ble j m || ((ops[j]?).map fun o => o.after.any fun e => Region.binds .any e && Nat.ble m e.on && Nat.blt e.on j).getD false)
theorem domS_next {m : Nat} (hd : domOkS ops m = true) {i : Nat} (hi : i < m) : ∃ j o, i < j ∧ j ≤ m ∧ ops[j]? = some o ∧ ∃ e ∈ o.after, Region.binds .any e = true ∧ e.on = i := by
  unfold domOkS at hd
  rw [Bool.and_eq_true, List.all_eq_true] at hd
  have h1 := hd.1 i (by rw [List.mem_range]; omega)
  rw [List.any_eq_true] at h1
  obtain ⟨j, hj, h2⟩ := h1
  rw [List.mem_range] at hj
  simp only [Bool.and_eq_true, Nat.blt_eq] at h2
  obtain ⟨h2, h3⟩ := h2
  cases ho : ops[j]? with
  | none => rw [ho] at h3; cases h3
  | some o =>
    rw [ho] at h3
    simp only [Option.map_some, Option.getD_some, Array.any_eq_true, Bool.and_eq_true, beq_iff_eq] at h3
    obtain ⟨x, hx, hb, hon⟩ := h3
    exact ⟨j, o, h2, by omega, ho, _, Array.getElem_mem hx, hb, hon⟩
theorem domS_back {m : Nat} (hd : domOkS ops m = true) {j : Nat} {o : Oper} (ho : ops[j]? = some o) (hj : m < j) : ∃ e ∈ o.after, Region.binds .any e = true ∧ m ≤ e.on ∧ e.on < j := by
  unfold domOkS at hd
  rw [Bool.and_eq_true, List.all_eq_true, List.all_eq_true] at hd
  have h1 := hd.2 j (by rw [List.mem_range]; exact (Array.getElem?_eq_some_iff.1 ho).1)
  rw [ho] at h1
  simp only [Option.map_some, Option.getD_some, Bool.or_eq_true, Nat.ble_eq, Array.any_eq_true, Bool.and_eq_true, Nat.blt_eq] at h1
  rcases h1 with h1 | ⟨x, hx, ⟨hb, h2⟩, h3⟩
  · omega
  · exact ⟨_, Array.getElem_mem hx, hb, h2, h3⟩
/-- All that one comes behind is listed. -/
def Due (ops : Array Oper) (L : Array Bool) (j : Nat) : Prop := ∃ o, ops[j]? = some o ∧ ∀ e ∈ o.after, Region.binds .any e = true → L.getD e.on false = true
theorem Due.down {m : Nat} (hd : domOkS ops m = true) {L : Array Bool} (hL : Down ops L) (hin : ∀ k, L.getD k false = true → ∃ o, ops[k]? = some o) : ∀ j, m ≤ j → Due ops L j → Due ops L m := by
  intro j
  induction j using Nat.strongRecOn with
  | _ j ih =>
    intro hj h
    by_cases hjm : j = m
    · subst hjm; exact h
    · obtain ⟨o, ho, hall⟩ := h
      obtain ⟨e, he, hb, h1, h2⟩ := domS_back hd ho (by omega)
      have h3 := hall e he hb
      obtain ⟨o2, ho2⟩ := hin _ h3
      exact ih e.on h2 h1 ⟨o2, ho2, hL _ _ ho2 h3⟩
theorem domS_all {m : Nat} (hd : domOkS ops m = true) {L : Array Bool} (hL : Down ops L) (hz : Due ops L m) : ∀ k i, m - i = k → i < m → L.getD i false = true := by
  intro k
  induction k using Nat.strongRecOn with
  | _ k ih =>
    intro i hk hi
    obtain ⟨j, o, hij, hj, ho, e, he, hb, hon⟩ := domS_next hd hi
    subst hon
    by_cases hjz : j = m
    · subst hjz
      obtain ⟨o', ho', hall⟩ := hz
      rw [ho'] at ho
      cases ho
      exact hall e he hb
    · exact hL j o ho (ih _ (by omega) j rfl (by omega)) e he hb
/-- What is listed is there, with all that it comes behind. -/
structure Listed (ops : Array Oper) (L : Array Bool) : Prop where
  down : Down ops L
  there : ∀ k, L.getD k false = true → ∃ o, ops[k]? = some o
theorem Listed.set {L : Array Bool} (h : Listed ops L) {j : Nat} (hj : j ∈ Region.ready .any ops L) : Listed ops (L.setIfInBounds j true) := by
  refine ⟨h.down.set hj, fun k hk => ?_⟩
  by_cases hkj : k = j
  · subst hkj
    obtain ⟨_, o, ho, _⟩ := mem_ready.1 hj
    exact ⟨o, ho⟩
  · have : (L.setIfInBounds j true).getD k false = L.getD k false := getD_set_ne false (Ne.symm hkj)
    exact h.there k (this ▸ hk)
theorem Listed.none (n : Nat) : Listed ops (Array.replicate n false) := by
  refine ⟨down_none n, fun k h => ?_⟩
  rw [Array.getD_eq_getD_getElem?, Array.getElem?_replicate] at h
  split at h <;> cases h
theorem anyS_first {D : World → Prop} {m : Nat} {Q : Act → World → Prop} {i : Nat} {oi : Oper} {v : Value} (hd : domOkS ops m = true) (hiz : i < m) (hi : ops[i]? = some oi) (hsel : ∀ (j : Nat) (o : Oper) cs b, ops[j]? = some o → o.op ≠ .select cs b) :
    ∀ (fuel : Nat) (listed : Array Bool) (a : Act) (w : World), D w → Listed ops listed →
      (∀ j oj, ops[j]? = some oj → j ≠ i → listed.getD j true = false → (∀ e ∈ oj.after, Region.binds .any e = true → e.on ≠ i) → oi.apart ops oj = true) →
      i ∈ Region.ready .any ops listed → YieldsD P ops D oi v a →
      anyS P ops D m Q fuel (listed.setIfInBounds i true) (a.put oi.dst v) w → anyS P ops D m Q (fuel + 1) listed a w := by
  intro fuel
  induction fuel with
  | zero =>
    intro listed a w hDw _ _ hr hy H
    refine ⟨fun h => (by rw [h] at hr; cases hr), fun j hj => ?_⟩
    by_cases hji : j = i
    · subst hji; exact hy.wpOp hi hDw ⟨.inr hDw, H⟩
    · have := ready_mono hj hji
      rw [H.1] at this
      cases this
  | succ fuel ih =>
    intro listed a w hDw hdn hfree hr hy H
    refine ⟨fun h => (by rw [h] at hr; cases hr), fun j hj => ?_⟩
    by_cases hji : j = i
    · subst hji; exact hy.wpOp hi hDw ⟨.inr hDw, H⟩
    · have hjz : ¬ m ≤ j := fun h => by
        have h2 : Due ops listed j := (mem_ready.1 hj).2
        have h1 := domS_all hd hdn.down (h2.down hd hdn.down hdn.there j h) _ i rfl hiz
        have h0 := getD_ff (mem_ready.1 hr).1
        rw [h1] at h0
        cases h0
      have h1 := H.2 j (ready_mono hj hji)
      obtain ⟨hjun, oj, hoj, hall⟩ := mem_ready.1 hj
      have hnot : ∀ e ∈ oj.after, Region.binds .any e = true → e.on ≠ i := fun e he hb heq => by
        have h1 := hall e he hb
        have h0 := (mem_ready.1 hr).1
        rw [heq] at h1
        rw [getD_ff h0] at h1
        cases h1
      have h2 := wpOp_putD hoj (hfree j oj hoj hji hjun hnot) (fun cs b => hsel i oi cs b hi) (fun cs b => hsel j oj cs b hoj) hy h1
      have hfree' : ∀ k ok, ops[k]? = some ok → k ≠ i → (listed.setIfInBounds j true).getD k true = false →
          (∀ e ∈ ok.after, Region.binds .any e = true → e.on ≠ i) → oi.apart ops ok = true := fun k ok hk hki hun hno => by
        refine hfree k ok hk hki ?_ hno
        by_cases hjk : j = k
        · subst hjk; exact hjun
        · rw [getD_set_ne true hjk] at hun; exact hun
      refine wpOp_mono (fun a' w' h3 => ?_) h2
      have hDw' : D w' := h3.2.1.resolve_left hjz
      refine ⟨.inr hDw', ih (listed.setIfInBounds j true) a' w' hDw' (hdn.set hj) hfree' (ready_mono hr (Ne.symm hji)) h3.1 ?_⟩
      rw [Array.setIfInBounds_comm _ _ hji]
      exact h3.2.2
def planOkS (ops : Array Oper) (m : Nat) (k2 : Plan) : Nat → Array Bool → Plan → Bool
  | n, listed, .nil => headIn m listed && planOk ops n listed k2
  | n + 1, listed, .q i k => Nat.blt i m && Region.free .any ops listed i && (Region.ready .any ops listed).contains i && planOkS ops m k2 n (listed.setIfInBounds i true) k
  | n + 1, listed, .e i k => (Region.ready .any ops listed == [i]) && planOkS ops m k2 n (listed.setIfInBounds i true) k
  | n + 1, listed, .two i j k h => (Region.ready .any ops listed == [i, j]) && planOkS ops m k2 n (listed.setIfInBounds i true) k && planOkS ops m k2 n (listed.setIfInBounds j true) h
  | 0, _, _ => false
/-- What is to be shown ahead of a region's other part. -/
def RestOf (P : Program) (ops : Array Oper) (k2 : Plan) (Q : Exit → Act → World → Prop) : Exit → Act → World → Prop := fun _ a w => ∃ D : World → Prop, D w ∧ planW P ops (Q .normal) k2 D a w
theorem planW.anyS {Q : Exit → Act → World → Prop} {m : Nat} {k2 : Plan} (hs : Region.noSelect ops = true) (hd : domOkS ops m = true) : ∀ (n : Nat) (ix : Plan) (D : World → Prop) (listed : Array Bool) (a : Act) (w : World), planOkS ops m k2 n listed ix = true → D w → Listed ops listed →
    planW P ops (RestOf P ops k2 Q .normal) ix D a w → Proofs.Ytgfndlibbfamfaa.anyS P ops D m (Q .normal) n listed a w
  | n, .nil, D, listed, a, w, hok, hD, hdn, ⟨D2, h1, h2⟩ => by
    unfold planOkS at hok
    simp only [Bool.and_eq_true] at hok
    exact anyD.toS _ _ _ _ hok.1 (planW.anyD hs n k2 D2 _ _ _ hok.2 h1 h2)
  | n + 1, .q i ix, D, listed, a, w, hok, hD, hdn, ⟨o, v, hi, hy, h⟩ => by
    simp only [planOkS, Bool.and_eq_true, Nat.blt_eq] at hok
    have hrd : i ∈ Region.ready .any ops listed := by simpa using hok.1.2
    exact anyS_first hd hok.1.1.1 hi (Region.noSelect_spec hs) n listed a w hD hdn (Region.free_spec hi hok.1.1.2) hrd hy (planW.anyS hs hd n ix D _ _ _ hok.2 hD (hdn.set hrd) h)
  | n + 1, .e i ix, D, listed, a, w, hok, hD, hdn, h => by
    simp only [planOkS, Bool.and_eq_true, beq_iff_eq] at hok
    refine ⟨fun h0 => (by rw [hok.1] at h0; cases h0), fun j hj => ?_⟩
    have hj0 := hj
    rw [hok.1] at hj
    simp only [List.mem_singleton] at hj
    subst hj
    exact wpOp_mono (fun a' w' ⟨D', hD', hw', h'⟩ => ⟨.inr (hD' _ hw'), anyS.mono hD' _ _ _ _ (planW.anyS hs hd n ix D' _ a' w' hok.2 hw' (hdn.set hj0) h')⟩) h
  | n + 1, .two i j k r, D, listed, a, w, hok, hD, hdn, h => by
    simp only [planOkS, Bool.and_eq_true, beq_iff_eq] at hok
    refine ⟨fun h0 => (by rw [hok.1.1] at h0; cases h0), fun q hq => ?_⟩
    have hq0 := hq
    rw [hok.1.1] at hq
    simp only [List.mem_cons, List.not_mem_nil, or_false] at hq
    rcases hq with rfl | rfl
    · exact wpOp_mono (fun a' w' ⟨D', hD', hw', h'⟩ => ⟨.inr (hD' _ hw'), anyS.mono hD' _ _ _ _ (planW.anyS hs hd n k D' _ a' w' hok.1.2 hw' (hdn.set hq0) h')⟩) h.1
    · exact wpOp_mono (fun a' w' ⟨D', hD', hw', h'⟩ => ⟨.inr (hD' _ hw'), anyS.mono hD' _ _ _ _ (planW.anyS hs hd n r D' _ a' w' hok.2 hw' (hdn.set hq0) h')⟩) h.2
theorem wp_region_planS {id m : Nat} {k2 : Plan} {a : Act} {w : World} {Q : Exit → Act → World → Prop} (D : World → Prop) (ix : Plan) (hm : P.follows .mixedOrders = true)
    (hok : (Region.noSelect ops && domOkS ops m && planOkS ops m k2 ops.size (Array.replicate ops.size false) ix) = true) (hD : D w.drew)
    (h : planW P ops (RestOf P ops k2 Q .normal) ix D a w.drew) : (Code.region id ops true).wp P Q a w := by
  simp only [Bool.and_eq_true] at hok
  refine wp_region_any hm ?_
  exact anyS.wpAny _ _ _ _ (planW.anyS hok.1.1 hok.1.2 _ ix D _ a _ hok.2 hD (Listed.none _) h)
end
end Go.Proofs.Ytgfndlibbfamfaa
namespace Go.Proofs.Ytgfndlibbfamfaa.A
open Go.RowKit
section
variable {P : Program} {n : Nat} {W : Wd} {σ τ : Blks} {l : Slots} {X : List Nat} {x y : Operand} {d : Option Nat} {ty t t' e : TypeId} {pos : String} {aft : Array Edge} {g : Option (Nat × Bool)} {A : Abs} {tab : List (Nat × TI)} {ops : Array Oper} {Q : Exit → Act → World → Prop} {v : Value} {xs : List (List Abs)} {s q : Nat} {a b : Int}
/-- A region that draws, in two parts: what the second part changes, the first may read. -/
theorem SC.drawS {id : Nat} (m : Nat) (X : List Nat) (ix k2 : Plan) (hm : P.follows .mixedOrders = true)
    (hok : (Region.noSelect ops && domOkS ops m && planOkS ops m k2 ops.size (Array.replicate ops.size false) ix) = true) (h : SX P ops ix X (St n W σ l) (RestOf P ops k2 Q)) : SC P (.region id ops true) (St n W σ l) Q := fun a w hs =>
  wp_region_planS (fun w' => Ext X w.drew w') ix hm hok (Ext.refl _) (h a _ hs.drew)
theorem SE.rest {k2 : Plan} (X : List Nat) (h : SX P ops k2 X (St n W σ l) Q) : SE .normal (St n W σ l) (RestOf P ops k2 Q) := fun a w hs => ⟨fun w' => Ext X w w', Ext.refl w, h a w hs⟩
theorem repss_set {K : List Nat} {w : World} {ys : List Abs} {vs : List Value} (hy : reps K w ys vs) (hv : vs.length = s) : ∀ {xs : List (List Abs)} {us : List Value} {q : Nat}, repss K w s xs us → q < xs.length → repss K w s (xs.set q ys) (us.take (q * s) ++ vs ++ us.drop (q * s + s))
  | [], _, _, _, h => by simp at h
  | c :: xs, _, 0, ⟨u1, u2, h1, h2, h3, h4⟩, _ => by
    subst h1
    refine ⟨vs, u2, ?_, hv, hy, h4⟩
    simp [← h2]
  | c :: xs, _, q + 1, ⟨u1, u2, h1, h2, h3, h4⟩, hq => by
    subst h1
    have h5 := repss_set hy hv h4 (q := q) (by simpa using hq)
    refine ⟨u1, _, ?_, h2, h3, h5⟩
    have e1 : (q + 1) * s = u1.length + q * s := by rw [Nat.succ_mul]; omega
    rw [e1, Nat.add_assoc, List.take_length_add_append, List.drop_length_add_append]
    simp
/-- An element of a row of the call's own is another one then. -/
theorem Eff.setOwn (hT : TabOk P tab) {i : TI} {ys : List Abs} (ht : ti tab t = some i) (hx : look l x = some (.v (eptr v (q * s)))) (hy : look l y = some A) (hu : Upd (own e s v xs) (own e s v (xs.set q ys)) σ τ) (hc : cellsA A = ys) (hs : Nat.beq i.size s = true) (hl : Nat.beq ys.length s = true) (hq : q < xs.length) (h1 : ones ys = true) :
    Eff P n W σ l v.ownBlock.toList ⟨d, .store t x y, ty, pos, aft, g⟩ fun u τ' => u = .v undef ∧ τ' = τ := fun ac w hst => by
  have hs := Nat.eq_of_beq_eq_true hs
  have hl := Nat.eq_of_beq_eq_true hl
  obtain ⟨us, hown, hr⟩ : (ownPc e s v xs).p _ w := hst.mem.hold _ hu.mem
  have hry := cellsA_rep (hst.eval hy)
  rw [hc] at hry
  have hlen := reps_length hry
  have hone := ones_reps hry h1
  rcases hown.2 with ⟨h, h0⟩ | ⟨gb, cap, cur, hv, hbase, hg, hn, hcap, hsz, htk⟩
  · omega
  · subst hv
    have h2 := (hT t _ ht).sizeOf (w := w)
    have hb1 : q * s + s ≤ xs.length * s := by rw [← Nat.succ_mul]; exact Nat.mul_le_mul_right _ hq
    have hb2 : xs.length * s ≤ cap * s := Nat.mul_le_mul_right _ hn
    have hrun := run_storeCells_at (P := P) gb (0 + q * s) e (cellsL (ac.eval y)) 0 cur w hg (by omega) hone
    have e0 : 0 + q * s + 0 = q * s := by omega
    rw [e0] at hrun
    have hcl : cur.toList.length = cur.size := by simp
    have hle : (cellsL (ac.eval y)).length = s := by omega
    have hxx : Ext (Value.ownBlock (.slice (some ⟨gb, 0, none⟩) xs.length cap)).toList w (w.setRow gb (cur.toList.take (q * s) ++ cellsL (ac.eval y) ++ cur.toList.drop (q * s + (cellsL (ac.eval y)).length)).toArray) := (Ext.refl w).setRow (.inl (by simp [Value.ownBlock])) _
    have hnew : (cur.toList.take (q * s) ++ cellsL (ac.eval y) ++ cur.toList.drop (q * s + (cellsL (ac.eval y)).length)).take (xs.length * s) = us.take (q * s) ++ cellsL (ac.eval y) ++ us.drop (q * s + s) := by
      rw [← htk, hle]
      apply List.ext_getElem?
      intro j
      simp only [List.getElem?_take, List.getElem?_append, List.length_append, List.length_take, List.getElem?_drop, hle]
      grind
    have hm := hst.mem.upd hu hxx own_nodup (fun k hk => .inl hk) rfl fun hca => ⟨us.take (q * s) ++ cellsL (ac.eval y) ++ us.drop (q * s + s), ⟨?_, .inr ⟨gb, cap, _, by rw [List.length_set], hbase, setRow_heap w gb cur _ e (0, 0) hg, by rw [List.length_set]; exact hn, hcap, ?_, ?_⟩⟩, repss_carry hca _ _ _ (repss_set hry (by omega) hr hq)⟩
    · refine ⟨undef, _, _, _, ⟨rfl, rfl⟩, hxx, rfl, hm.1, hm.2, .inr ⟨rfl, ?_⟩⟩
      have hcs := cellsL_eq (ac.eval y)
      have hle2 : (cellsL (ac.eval y)).length = i.size := by omega
      have hx2 : ac.eval x = .pointer (some ⟨gb, 0 + q * s, none⟩) := hst.plain hx
      simp [execOp, hx2, Instr.storeAt, Instr.sureAddr, storeVar, Sem.run_bind, hcs, h2, hle2, hrun, Result.andThen]
      first | rfl | (simp only [Nat.zero_add] at hrun; simp [hle2, hrun])
    · have h5 := hown.1
      simp only [List.length_append, List.length_take, List.length_drop, List.length_set]
      omega
    · simp only [List.size_toArray, List.length_append, List.length_take, List.length_drop]
      omega
    · rw [List.length_set]
      simpa using hnew
end
end Go.Proofs.Ytgfndlibbfamfaa.A
/-
  Sums: what the document's answer comes to, as plain functions; the same as the program's.
-/
set_option maxRecDepth 100000
set_option linter.unusedSimpArgs false
set_option linter.unusedVariables false
namespace Go.Proofs.Ytgfndlibbfamfaa.A
open Go.RowKit

def an64 (x y : Nat) : Nat := (x % 18446744073709551616) &&& (y % 18446744073709551616)
def or64 (x y : Nat) : Nat := (x % 18446744073709551616) ||| (y % 18446744073709551616)
section
variable {P : Program} {n : Nat} {W : Wd} {σ τ : Blks} {l : Slots} {X : List Nat} {x y z : Operand} {d : Option Nat} {ty t t' e : TypeId} {pos : String} {aft : Array Edge} {g : Option (Nat × Bool)} {k k' : IntKind} {a b : Int} {p q : Nat} {c : Wo}
theorem wrap64 (v : Int) : IntKind.u64.wrap v = v % 18446744073709551616 := by simp [IntKind.wrap, IntKind.bits, IntKind.signed]
theorem ofInt64 (p : Nat) : BitVec.ofInt IntKind.u64.bits ((p : Nat) : Int) = BitVec.ofNat 64 p := by
  show BitVec.ofInt 64 ((p : Nat) : Int) = _
  rw [BitVec.ofInt_natCast]
theorem Val.an64 (hx : look l x = some (.v (.int .u64 a))) (hy : look l y = some (.v (.int .u64 b))) (p q : Nat) (ha : a = (p : Nat)) (hb : b = (q : Nat)) : Val P n W σ l X ⟨d, .binOp .and t x y t', ty, pos, aft, g⟩ (wrd (an64 p q)) := by
  subst ha hb
  refine Val.bitI hx hy (fun w => ?_) rfl
  simp only [Op.intBits, ofInt64]
  refine congrArg (fun r => Result.ok (Value.int .u64 r) w) ?_
  rw [wrap64]
  have h : (BitVec.ofNat 64 p &&& BitVec.ofNat 64 q).toNat = Proofs.Ytgfndlibbfamfaa.A.an64 p q := by rw [BitVec.toNat_and, BitVec.toNat_ofNat, BitVec.toNat_ofNat]; rfl
  have h2 := (BitVec.ofNat 64 p &&& BitVec.ofNat 64 q).isLt
  show (((BitVec.ofNat 64 p &&& BitVec.ofNat 64 q).toNat : Nat) : Int) % _ = _
  rw [← h]
  omega
theorem Val.or64 (hx : look l x = some (.v (.int .u64 a))) (hy : look l y = some (.v (.int .u64 b))) (p q : Nat) (ha : a = (p : Nat)) (hb : b = (q : Nat)) : Val P n W σ l X ⟨d, .binOp .or t x y t', ty, pos, aft, g⟩ (wrd (or64 p q)) := by
  subst ha hb
  refine Val.bitI hx hy (fun w => ?_) rfl
  simp only [Op.intBits, ofInt64]
  refine congrArg (fun r => Result.ok (Value.int .u64 r) w) ?_
  rw [wrap64]
  have h : (BitVec.ofNat 64 p ||| BitVec.ofNat 64 q).toNat = Proofs.Ytgfndlibbfamfaa.A.or64 p q := by rw [BitVec.toNat_or, BitVec.toNat_ofNat, BitVec.toNat_ofNat]; rfl
  have h2 := (BitVec.ofNat 64 p ||| BitVec.ofNat 64 q).isLt
  show (((BitVec.ofNat 64 p ||| BitVec.ofNat 64 q).toNat : Nat) : Int) % _ = _
  rw [← h]
  omega
theorem Val.sum64 (hx : look l x = some (.v (.int .u64 a))) (hy : look l y = some (.v (.int .u64 b))) (p q : Nat) (ha : a = (p : Nat)) (hb : b = (q : Nat)) : Val P n W σ l X ⟨d, .binOp .add t x y t', ty, pos, aft, g⟩ (wrd ((p + q) % 18446744073709551616)) :=
  Val.to (Val.addW hx hy) (congrArg (fun r => Abs.v (.int .u64 r)) (by rw [wrap64]; subst ha hb; show _ = (((p + q) % 18446744073709551616 : Nat) : Int); omega))
theorem Val.mul64 (hx : look l x = some (.v (.int .u64 a))) (hy : look l y = some (.v (.int .u64 b))) (p q : Nat) (ha : a = (p : Nat)) (hb : b = (q : Nat)) : Val P n W σ l X ⟨d, .binOp .mul t x y t', ty, pos, aft, g⟩ (wrd (p * q % 18446744073709551616)) :=
  Val.to (Val.mulW hx hy) (congrArg (fun r => Abs.v (.int .u64 r)) (by rw [wrap64, ha, hb, ← Int.natCast_mul]; show _ = ((p * q % 18446744073709551616 : Nat) : Int); omega))
theorem Val.shr64 (hx : look l x = some (.v (.int .u64 a))) (hy : look l y = some (.v (.int k b))) (p q : Nat) (ha : a = (p : Nat)) (hb : b = (q : Nat)) (hq : q ≤ 64) : Val P n W σ l X ⟨d, .binOp .shr t x y t', ty, pos, aft, g⟩ (wrd (p / 2 ^ q)) :=
  Val.to (Val.shrI hx hy (by omega)) (congrArg (fun r => Abs.v (.int .u64 r)) (by
    subst ha hb
    simp only [IntKind.bits, Int.toNat_natCast]
    rw [Int.fdiv_eq_ediv_of_nonneg _ (by exact Int.le_of_lt (Int.pow_pos (by decide))), Nat.min_eq_left hq]
    simp))
theorem Val.shl64 (hx : look l x = some (.v (.int .u64 a))) (hy : look l y = some (.v (.int k b))) (p q : Nat) (ha : a = (p : Nat)) (hb : b = (q : Nat)) (hq : q ≤ 64) : Val P n W σ l X ⟨d, .binOp .shl t x y t', ty, pos, aft, g⟩ (wrd (p * 2 ^ q % 18446744073709551616)) :=
  Val.to (Val.shlW hx hy (by omega)) (congrArg (fun r => Abs.v (.int .u64 r)) (by
    subst ha hb
    rw [wrap64, show IntKind.u64.bits = 64 from rfl, Int.toNat_natCast, Nat.min_eq_left hq]
    simp))
theorem Val.conv6432 (hx : look l x = some (.v (.int .u64 a))) (ht : P.underlying t' = some (.int .u32)) (hs : (P.underlying t).isSome = true) (p : Nat) (ha : a = (p : Nat)) : Val P n W σ l X ⟨d, .convert t t' x, ty, pos, aft, g⟩ (u32 (BitVec.ofNat 32 p)) :=
  Val.to (Val.convW hx ht hs) (congrArg (fun r => Abs.v (.int .u32 r)) (by
    subst ha
    rw [BitVec.toNat_ofNat]
    simp [IntKind.wrap, IntKind.bits, IntKind.signed]))
theorem Val.notW (hx : look l x = some (u32 c)) : Val P n W σ l X ⟨d, .unOp .xor t x, ty, pos, aft, g⟩ (u32 (~~~c)) :=
  Val.of1 hx fun _ h A w hf _ => by
    have h1 : (Op.intBits .xor .u32 4294967295 ((c.toNat : Nat) : Int)).run P w = .ok (.int .u32 (((~~~c).toNat : Nat) : Int)) w := by
      simp only [Op.intBits, ofInt32]
      have e : (BitVec.ofInt 32 4294967295) ^^^ c = ~~~c := BitVec.allOnes_xor
      show Result.ok (Value.int .u32 (IntKind.u32.wrap (((BitVec.ofInt 32 4294967295 ^^^ c).toNat : Nat) : Int))) w = _
      rw [e, wrap32]
    have h2 : (Op.unary .xor (.int .u32 ((c.toNat : Nat) : Int))).run P w = .ok (.int .u32 (((~~~c).toNat : Nat) : Int)) w := h1
    simp only [execOp, hf.eval h, Sem.run_bind, h2, Result.andThen_ok, Sem.run_pure]
end
/-! ### Constants -/
def mulHi (x y : Nat) : Nat :=
  let w0 := an64 x 4294967295 * an64 y 4294967295 % 18446744073709551616
  let t := (x / 2 ^ 32 * an64 y 4294967295 % 18446744073709551616 + w0 / 2 ^ 32) % 18446744073709551616
  ((x / 2 ^ 32 * (y / 2 ^ 32) % 18446744073709551616 + t / 2 ^ 32) % 18446744073709551616 + (an64 t 4294967295 + an64 x 4294967295 * (y / 2 ^ 32) % 18446744073709551616) % 18446744073709551616 / 2 ^ 32) % 18446744073709551616
def gt2 (hi lo p : Nat) : Bool := Nat.blt p hi || (Nat.beq hi p && Nat.blt 0 lo)
def above (x p : Nat) (cube : Bool) : Bool :=
  match cube with
  | false => gt2 (mulHi x x) (x * x % 18446744073709551616) p
  | true => gt2 ((mulHi x x * x % 18446744073709551616 + mulHi (x * x % 18446744073709551616) x) % 18446744073709551616) (x * x % 18446744073709551616 * x % 18446744073709551616) (p * 2 ^ 32 % 18446744073709551616)
def rootN (p : Nat) (cube : Bool) : Nat → Nat
  | 0 => 0
  | j + 1 => bif Nat.blt (37 - j) 36 && !above (or64 (rootN p cube j) (1 * 2 ^ (37 - j) % 18446744073709551616)) p cube then or64 (rootN p cube j) (1 * 2 ^ (37 - j) % 18446744073709551616) else rootN p cube j
def rootW (p : Nat) (cube : Bool) : Wo := BitVec.ofNat 32 (rootN p cube 38)
def noDiv (p q : Nat) : Bool := !(Nat.ble 2 q && Nat.ble (q * q) p && Nat.beq (p % q) 0)
def primeB (p : Nat) : Bool := Nat.blt 1 p && (List.range p).all (noDiv p)
def primes (p : Nat) : List Nat := (List.range p).filter primeB
def kAt (p : Nat) : List Wo := (primes p).map fun q => rootW q true
def hAt (p : Nat) : List Wo := ((primes p).take 8).map fun q => rootW q false
set_option maxHeartbeats 4000000 in
theorem kAt_all : kAt 312 = roundsL := by decide +kernel
set_option maxHeartbeats 4000000 in
theorem hAt_all : hAt 312 = firstR.l := by decide +kernel
theorem primes_311 : (primes 311).length = 63 := by decide +kernel
theorem primes_312 : (primes 312).length = 64 := by decide +kernel
theorem primes_succ (p : Nat) : primes (p + 1) = if primeB p then primes p ++ [p] else primes p := by
  unfold primes
  rw [List.range_succ, List.filter_append]
  by_cases h : primeB p = true
  · rw [if_pos h]; simp [h]
  · rw [if_neg h]; simp [h]
theorem primes_mono {p q : Nat} (h : p ≤ q) : (primes p).length ≤ (primes q).length := by
  induction q with
  | zero => obtain rfl : p = 0 := by omega
            exact Nat.le_refl _
  | succ q ih =>
    by_cases hq : p = q + 1
    · subst hq; exact Nat.le_refl _
    · have h1 := ih (by omega)
      rw [primes_succ]
      split
      · rw [List.length_append]; omega
      · exact h1
theorem kAt_length (p : Nat) : (kAt p).length = (primes p).length := by simp [kAt]
theorem kAt_succ (p : Nat) : kAt (p + 1) = if primeB p then kAt p ++ [rootW p true] else kAt p := by
  unfold kAt
  rw [primes_succ]
  split <;> simp
theorem hAt_length (p : Nat) : (hAt p).length = min 8 (primes p).length := by simp [hAt]
theorem hAt_succ (p : Nat) : hAt (p + 1) = if primeB p ∧ (hAt p).length < 8 then hAt p ++ [rootW p false] else hAt p := by
  unfold hAt
  rw [primes_succ]
  simp only [List.length_map, List.length_take]
  by_cases h : primeB p = true
  · by_cases h8 : (primes p).length < 8
    · rw [if_pos h, if_pos ⟨h, by omega⟩, List.take_of_length_le (by rw [List.length_append]; simp; omega), List.take_of_length_le (by omega)]
      simp
    · rw [if_pos h, if_neg (by omega), List.take_append_of_le_length (by omega)]
  · rw [if_neg h, if_neg (fun h2 => h h2.1)]
/-! ### Turning -/
theorem rot_bit (x : Wo) {n i : Nat} (hn : n < 32) (hi : i < 32) : (rot x n).getLsbD i = x.getLsbD ((i + n) % 32) := by
  unfold rot
  rw [BitVec.getLsbD_or, BitVec.getLsbD_ushiftRight, BitVec.getLsbD_shiftLeft]
  by_cases h : i + n < 32
  · rw [Nat.mod_eq_of_lt h, Nat.add_comm n i]
    have : i < 32 - n := by omega
    simp [this]
  · have e : (i + n) % 32 = i - (32 - n) := by omega
    rw [e, BitVec.getLsbD_of_ge x (n + i) (by omega)]
    have : ¬ i < 32 - n := by omega
    simp [hi, this]
theorem step_eq (p : Wo) : (p >>> 1 ||| p <<< 31).toNat = p.toNat / 2 + p.toNat % 2 * 2147483648 := by
  have hp := p.isLt
  rw [BitVec.toNat_or, BitVec.toNat_ushiftRight, BitVec.toNat_shiftLeft, Nat.shiftRight_eq_div_pow, Nat.shiftLeft_eq]
  have e : p.toNat * 2 ^ 31 % 2 ^ 32 = 2 ^ 31 * (p.toNat % 2) := by omega
  rw [e, Nat.or_comm, ← Nat.two_pow_add_eq_or_of_lt (by omega)]
  omega
theorem rot_succ (x : Wo) {n : Nat} (hn : n + 1 < 32) : rot x (n + 1) = (rot x n) >>> 1 ||| (rot x n) <<< 31 := by
  apply BitVec.eq_of_getLsbD_eq
  intro i hi
  rw [rot_bit x hn hi, BitVec.getLsbD_or, BitVec.getLsbD_ushiftRight, BitVec.getLsbD_shiftLeft]
  by_cases h : i < 31
  · rw [rot_bit x (by omega) (by omega : 1 + i < 32)]
    simp [h]
    congr 1
    omega
  · obtain rfl : i = 31 := by omega
    rw [BitVec.getLsbD_of_ge _ (1 + 31) (by omega)]
    simp only [Nat.lt_irrefl, decide_false, Bool.not_false, Nat.sub_self, Bool.false_or, Bool.true_and, decide_true, hi]
    rw [rot_bit x (by omega) (by omega : 0 < 32)]
    congr 1
    omega
theorem rot_zero (x : Wo) : rot x 0 = x := by
  apply BitVec.eq_of_getLsbD_eq
  intro i hi
  rw [rot_bit x (by omega) hi, Nat.add_zero, Nat.mod_eq_of_lt hi]
theorem rot_step (x : Wo) {n : Nat} (hn : n + 1 < 32) : (((rot x n).toNat : Nat) : Int) / 2 + (((rot x n).toNat : Nat) : Int) % 2 * 2147483648 = (((rot x (n + 1)).toNat : Nat) : Int) := by
  rw [rot_succ x hn, step_eq]
  omega
/-! ### What is mixed -/
theorem choose_eq (a b c : Wo) : (a &&& b ||| ~~~a &&& c) = c ^^^ (a &&& (b ^^^ c)) := by
  apply BitVec.eq_of_getLsbD_eq
  intro i hi
  simp only [BitVec.getLsbD_or, BitVec.getLsbD_and, BitVec.getLsbD_xor, BitVec.getLsbD_not, hi, decide_true, Bool.true_and]
  cases a.getLsbD i <;> cases b.getLsbD i <;> cases c.getLsbD i <;> rfl
theorem most_eq (a b c : Wo) : (a &&& b ||| a &&& c ||| b &&& c) = (a &&& b) ^^^ (a &&& c) ^^^ (b &&& c) := by
  apply BitVec.eq_of_getLsbD_eq
  intro i hi
  simp only [BitVec.getLsbD_or, BitVec.getLsbD_and, BitVec.getLsbD_xor]
  cases a.getLsbD i <;> cases b.getLsbD i <;> cases c.getLsbD i <;> rfl
/-! ### Rows of words -/
abbrev ws (l : List Wo) : List (List Abs) := l.map fun p => [u32 p]
theorem ws_at {l : List Wo} {q : Nat} (h : q < l.length) : (ws l)[q]? = some [u32 (l.getD q 0)] := by
  simp [List.getD, h]
theorem ws_ones (l : List Wo) : ∀ c ∈ ws l, ones c = true := by
  intro c hc
  obtain ⟨b, _, rfl⟩ := List.mem_map.1 hc
  rfl
theorem ws_snoc (l : List Wo) (p : Wo) : ws l ++ [[u32 p]] = ws (l ++ [p]) := by simp
theorem grow_get (l : List Wo) (k : Nat) : ∀ (m j : Nat), k ≤ m → j < l.length + k → (grow l m).getD j 0 = (grow l k).getD j 0
  | 0, j, h, hj => by
    obtain rfl : k = 0 := by omega
    rfl
  | m + 1, j, h, hj => by
    by_cases hk : k = m + 1
    · subst hk; rfl
    · have h1 := grow_get l k m j (by omega) hj
      rw [← h1]
      show (grow l m ++ [nextW (grow l m) m]).getD j 0 = _
      simp only [List.getD_eq_getElem?_getD]
      rw [List.getElem?_append_left (by rw [grow_length]; omega)]
theorem sched_low (l : List UInt8) {z : Nat} (h : z < 16) : (sched l).getD z 0 = wordAt l z := by
  unfold sched
  rw [grow_get _ 0 48 z (by omega) (by rw [sched0_length]; omega)]
  show (sched0 l 16).getD z 0 = _
  simp [sched0, List.getD, h]
theorem sched_high (l : List UInt8) {z : Nat} (h : z < 48) : (sched l).getD (16 + z) 0 = nextW (sched l) z := by
  have hl := sched0_length l 16
  have e : ∀ j, j < 16 + z → (grow (sched0 l 16) z).getD j 0 = (sched l).getD j 0 := fun j hj => (grow_get (sched0 l 16) z 48 j (by omega) (by omega)).symm
  have h1 := grow_get (sched0 l 16) (z + 1) 48 (16 + z) (by omega) (by omega)
  show (grow (sched0 l 16) 48).getD (16 + z) 0 = _
  rw [h1]
  show (grow (sched0 l 16) z ++ [nextW (grow (sched0 l 16) z) z]).getD (16 + z) 0 = _
  rw [List.getD_eq_getElem?_getD, List.getElem?_append_right (by rw [grow_length]; omega), grow_length, hl, Nat.sub_self]
  show nextW (grow (sched0 l 16) z) z = _
  unfold nextW
  rw [e z (by omega), e (z + 1) (by omega), e (z + 9) (by omega), e (z + 14) (by omega)]
/-- A word out of four bytes. -/
theorem word_be (a b c d : UInt8) : BitVec.ofNat 32 (((a.toNat * 256 + b.toNat) * 256 + c.toNat) * 256 + d.toNat) = (BitVec.ofNat 32 a.toNat <<< 24 ||| BitVec.ofNat 32 b.toNat <<< 16 ||| BitVec.ofNat 32 c.toNat <<< 8 ||| BitVec.ofNat 32 d.toNat : Wo) := by
  have ha := a.toNat_lt
  have hb := b.toNat_lt
  have hc := c.toNat_lt
  have hd := d.toNat_lt
  apply BitVec.eq_of_toNat_eq
  simp only [BitVec.toNat_or, BitVec.toNat_shiftLeft, BitVec.toNat_ofNat, Nat.shiftLeft_eq]
  rw [show a.toNat % 2 ^ 32 * 2 ^ 24 % 2 ^ 32 = 2 ^ 24 * a.toNat by omega, show b.toNat % 2 ^ 32 * 2 ^ 16 % 2 ^ 32 = 2 ^ 16 * b.toNat by omega, show c.toNat % 2 ^ 32 * 2 ^ 8 % 2 ^ 32 = 2 ^ 8 * c.toNat by omega, show d.toNat % 2 ^ 32 = d.toNat by omega]
  rw [← Nat.two_pow_add_eq_or_of_lt (by omega : 2 ^ 16 * b.toNat < 2 ^ 24)]
  rw [show 2 ^ 24 * a.toNat + 2 ^ 16 * b.toNat = 2 ^ 16 * (256 * a.toNat + b.toNat) by omega, ← Nat.two_pow_add_eq_or_of_lt (by omega : 2 ^ 8 * c.toNat < 2 ^ 16)]
  rw [show 2 ^ 16 * (256 * a.toNat + b.toNat) + 2 ^ 8 * c.toNat = 2 ^ 8 * (256 * (256 * a.toNat + b.toNat) + c.toNat) by omega, ← Nat.two_pow_add_eq_or_of_lt (by omega : d.toNat < 2 ^ 8)]
  omega
end Go.Proofs.Ytgfndlibbfamfaa.A
/-
  The document's sum: constants.
-/
set_option maxRecDepth 100000
set_option linter.unusedSimpArgs false
set_option linter.unusedVariables false
namespace Go.Proofs.Ytgfndlibbfamfaa.A
open Go.RowKit

theorem blt_d (a b : Nat) : Nat.blt a b = decide (a < b) := by
  rw [Bool.eq_iff_iff, Nat.blt_eq, decide_eq_true_iff]
theorem ble_d (a b : Nat) : Nat.ble a b = decide (a ≤ b) := by
  rw [Bool.eq_iff_iff, decide_eq_true_iff]
  exact ⟨Nat.le_of_ble_eq_true, Nat.ble_eq_true_of_le⟩
theorem beq_d (a b : Nat) : Nat.beq a b = decide (a = b) := by
  rw [Bool.eq_iff_iff, decide_eq_true_iff]
  exact ⟨Nat.eq_of_beq_eq_true, fun h => by subst h; exact Nat.beq_refl a⟩
theorem gt2_eq (hi lo p : Nat) : gt2 hi lo p = decide (p < hi ∨ (hi = p ∧ 0 < lo)) := by
  unfold gt2
  rw [blt_d, blt_d, beq_d, Bool.eq_iff_iff]
  simp
theorem rootN_succ (p : Nat) (c : Bool) (j : Nat) : rootN p c (j + 1) = if 37 - j < 36 ∧ above (or64 (rootN p c j) (1 * 2 ^ (37 - j) % 18446744073709551616)) p c = false then or64 (rootN p c j) (1 * 2 ^ (37 - j) % 18446744073709551616) else rootN p c j := by
  rw [rootN, blt_d]
  generalize or64 (rootN p c j) (1 * 2 ^ (37 - j) % 18446744073709551616) = Y
  by_cases h1 : 37 - j < 36
  · cases h2 : above Y p c <;> simp [h1]
  · simp [h1]
theorem noDiv_iff (p q : Nat) : noDiv p q = true ↔ ¬ (2 ≤ q ∧ q * q ≤ p ∧ p % q = 0) := by
  unfold noDiv
  rw [ble_d, ble_d, beq_d]
  by_cases h1 : 2 ≤ q <;> by_cases h2 : q * q ≤ p <;> by_cases h3 : p % q = 0 <;> simp [h1, h2, h3] <;> omega
theorem prime_yes {p z : Nat} (h : ∀ q, 2 ≤ q → q < z → p % q ≠ 0) (hz : p < z * z) : primeB p = decide (1 < p) := by
  unfold primeB
  have : (List.range p).all (noDiv p) = true := by
    rw [List.all_eq_true]
    intro q hq
    rw [noDiv_iff]
    rintro ⟨h1, h2, h3⟩
    have : q < z := by
      rcases Nat.lt_or_ge q z with h4 | h4
      · exact h4
      · have := Nat.mul_le_mul h4 h4
        omega
    exact h q h1 this h3
  rw [this, Bool.and_true, blt_d]
theorem prime_no {p z : Nat} (h2 : 2 ≤ z) (hz : z * z ≤ p) (h : p % z = 0) : primeB p = false := by
  unfold primeB
  have hlt : z < p := by
    have := Nat.mul_le_mul h2 (Nat.le_refl z)
    omega
  have : (List.range p).all (noDiv p) = false := by
    rw [List.all_eq_false]
    exact ⟨z, List.mem_range.2 hlt, fun h3 => (noDiv_iff p z).1 h3 ⟨h2, hz, h⟩⟩
  rw [this, Bool.and_false]
theorem kAt_lt {p : Nat} (h : (kAt p).length < 64) : p < 312 := by
  rcases Nat.lt_or_ge p 312 with h1 | h1
  · exact h1
  · have := primes_mono h1
    rw [primes_312] at this
    rw [kAt_length] at h
    omega
theorem kAt_end {p : Nat} (h : ¬ (kAt p).length < 64) (h1 : p ≤ 312) : p = 312 := by
  rcases Nat.lt_or_ge p 312 with h2 | h2
  · have := primes_mono (show p ≤ 311 by omega)
    rw [primes_311] at this
    rw [kAt_length] at h
    omega
  · omega
section
variable {x y p : Nat} {c : Bool}
end
end Go.Proofs.Ytgfndlibbfamfaa.A
/-
  The second engine: slices of arrays in blocks; bytes mixed.
-/
set_option maxRecDepth 100000
set_option linter.unusedSimpArgs false
set_option linter.unusedVariables false
namespace Go.Proofs.Ytgfndlibbfamfaa.A
open Go.RowKit
section
variable {P : Program} {n : Nat} {W : Wd} {σ τ : Blks} {l : Slots} {X : List Nat} {x y z : Operand} {d : Option Nat} {ty t t' e : TypeId} {pos : String} {aft : Array Edge} {g : Option (Nat × Bool)} {A : Abs} {tab : List (Nat × TI)} {ops : Array Oper} {Q : Exit → Act → World → Prop} {k : IntKind}
/-- An element's address in a slice of a block. -/
theorem Val.indexBs (hT : TabOk P tab) {j : TI} {b off m c q : Nat} {r : Int} (hu : P.underlying t = some (.slice e)) (hj : ti tab e = some j) (hx : look l x = some (.v (.slice (some ⟨b, off, none⟩) m c))) (hy : look l y = some (.v (.int k r))) (hr : r = (q : Nat)) (hq : q < m) :
    Val P n W σ l X ⟨d, .indexAddr t x y, ty, pos, aft, g⟩ (.v (.pointer (some ⟨b, off + q * j.size, none⟩))) := Val.mk' fun a w hs hX => by
  subst hr
  exact ⟨_, rfl, fun w' _ => Proofs.Ytgfndlibbfamfaa.Val.indexSlN hT hu hj (by rw [hs.at2 hx, hs.plain hx]) (by rw [hs.at2 hy, hs.plain hy]) hq⟩
theorem ofInt8 (c : UInt8) : BitVec.ofInt IntKind.u8.bits ((c.toNat : Nat) : Int) = c.toBitVec := by
  show BitVec.ofInt 8 ((c.toBitVec.toNat : Nat) : Int) = _
  rw [BitVec.ofInt_natCast, BitVec.ofNat_toNat, BitVec.setWidth_eq]
theorem wrap8 (p : BitVec 8) : IntKind.u8.wrap (p.toNat : Nat) = (p.toNat : Nat) := by
  have := p.isLt
  simp only [IntKind.wrap, IntKind.bits, IntKind.signed]
  simp
  omega
theorem Val.xor8 {c f : UInt8} (hx : look l x = some (.v (bc c))) (hy : look l y = some (.v (bc f))) : Val P n W σ l X ⟨d, .binOp .xor t x y t', ty, pos, aft, g⟩ (.v (bc (c ^^^ f))) :=
  Val.bitI hx hy (fun w => by
    simp only [Op.intBits, ofInt8]
    exact congrArg (fun r => Result.ok (Value.int .u8 r) w) (wrap8 (c.toBitVec ^^^ f.toBitVec))) rfl
theorem Val.or8 {c f : UInt8} (hx : look l x = some (.v (bc c))) (hy : look l y = some (.v (bc f))) : Val P n W σ l X ⟨d, .binOp .or t x y t', ty, pos, aft, g⟩ (.v (bc (c ||| f))) :=
  Val.bitI hx hy (fun w => by
    simp only [Op.intBits, ofInt8]
    exact congrArg (fun r => Result.ok (Value.int .u8 r) w) (wrap8 (c.toBitVec ||| f.toBitVec))) rfl
/-- 's[p:q]' -/
theorem Val.sliceMid (hT : TabOk P tab) {i : TI} {k' : IntKind} {p q s : Nat} {a b : Int} {xs : List (List Abs)} (hu : P.underlying t = some (.slice e)) (hi : ti tab e = some i) (hsz : Nat.beq s i.size = true) (hx : look l x = some (.sl s xs)) (hy : look l y = some (.v (.int k a))) (hz : look l z = some (.v (.int k' b))) (ha : a = (p : Nat)) (hb : b = (q : Nat)) (hpq : p ≤ q) (hq : q ≤ xs.length) :
    Val P n W σ l X ⟨d, .slice t x (some y) (some z) none, ty, pos, aft, g⟩ (.sl s ((xs.drop p).take (q - p))) := fun ac w hs _ => by
  subst ha hb
  have hsz := Nat.eq_of_beq_eq_true hsz
  subst hsz
  obtain ⟨us, h1, h2⟩ := hs.eval hx
  obtain ⟨A', c, hsh, h3, h4, h5⟩ := h1.shape
  rw [hsh] at h1
  have h6 := IsRow.tailN h1 (show p ≤ xs.length by omega) (repss_length h2)
  have h8 := IsRow.headN (s := i.size) h6 (show q - p ≤ xs.length - p by omega) (c - p) (by omega) (Nat.le_refl _) (fun hA => by
    split at hA
    · omega
    · cases A' with
      | none => have := h5 rfl; omega
      | some a => simp at hA)
  have h9 := (repss_drop h2 p (by omega)).1
  refine ⟨.slice (if c = p then A' else A'.map (·.add (p * i.size))) (q - p) (c - p), ⟨_, by rw [List.length_take, List.length_drop, Nat.min_eq_left (by omega)]; exact h8, (repss_drop h9 (q - p) (by rw [List.length_drop]; omega)).2⟩, fun w' _ => ?_⟩
  have h7 := (hT _ _ hi).sizeOf (w := w')
  have hqc : q ≤ c := by omega
  have hpc : p ≤ c := by omega
  simp [execOp, Instr.sliceAt, Instr.slice, Instr.sliceBounds, Instr.sliceBound, asIntOf, hsh, hs.plain hy, hs.plain hz, run_underlying hu, Sem.run_bind, Result.andThen, h7, hqc, hpc, hpq]
end
/-! ### Rows of words -/
theorem ws_length (l : List Wo) : (ws l).length = l.length := List.length_map _
theorem ws_take_at {l : List Wo} {q z : Nat} (h : q < z) (hz : z ≤ l.length) : (ws (l.take z))[q]? = some [u32 (l.getD q 0)] := by
  rw [ws_at (by rw [List.length_take]; omega)]
  simp [List.getD, List.getElem?_take_of_lt h]
theorem ws_take_snoc {l : List Wo} {z : Nat} {p : Wo} (h : z < l.length) (hp : l.getD z 0 = p) : ws (l.take z) ++ [[u32 p]] = ws (l.take (z + 1)) := by
  rw [ws_snoc, ← hp, List.take_add_one, List.getElem?_eq_getElem h]
  simp [List.getD, h]
theorem add_getD (r s : R8) {y : Nat} (h : y < 8) : r.l.getD y 0 + s.l.getD y 0 = (r.add s).l.getD y 0 := by
  rcases y with _ | _ | _ | _ | _ | _ | _ | _ | y
  · rfl
  · rfl
  · rfl
  · rfl
  · rfl
  · rfl
  · rfl
  · rfl
  · omega
/-- A word's four bytes. -/
def be4 (p : Wo) : List UInt8 := beBytes p.toNat 4
def be32 (l : List Wo) : List UInt8 := l.flatMap be4
theorem be32_snoc (l : List Wo) (p : Wo) : be32 l ++ be4 p = be32 (l ++ [p]) := by simp [be32]
theorem be4_length (p : Wo) : (be4 p).length = 4 := beBytes_length _ _
theorem be32_length (l : List Wo) : (be32 l).length = 4 * l.length := by
  induction l with
  | nil => rfl
  | cons p l ih =>
    show (be4 p ++ be32 l).length = _
    rw [List.length_append, be4_length, ih, List.length_cons]
    omega
theorem be4_get (p : Wo) {j : Nat} (h : j < 4) : (be4 p)[j]? = some (UInt8.ofNat (p >>> (24 - 8 * j)).toNat) := by
  unfold be4
  rw [beBytes_getElem _ _ _ h, BitVec.toNat_ushiftRight, Nat.shiftRight_eq_div_pow]
  congr 3
  rcases j with _ | _ | _ | _ | j
  · rfl
  · rfl
  · rfl
  · rfl
  · omega
theorem be32_get : ∀ (l : List Wo) {q j : Nat}, q < l.length → j < 4 → (be32 l)[4 * q + j]? = some (UInt8.ofNat (l.getD q 0 >>> (24 - 8 * j)).toNat)
  | [], q, j, h, _ => by simp at h
  | p :: l, 0, j, _, hj => by
    show (be4 p ++ be32 l)[4 * 0 + j]? = _
    rw [Nat.mul_zero, Nat.zero_add, List.getElem?_append_left (by rw [be4_length]; exact hj), be4_get p hj]
    rfl
  | p :: l, q + 1, j, h, hj => by
    show (be4 p ++ be32 l)[4 * (q + 1) + j]? = _
    rw [List.getElem?_append_right (by rw [be4_length]; omega), be4_length, show 4 * (q + 1) + j - 4 = 4 * q + j by omega, be32_get l (by simpa using h) hj]
    rfl
theorem be32_at {l : List Wo} {y : Nat} (h : y < 4 * l.length) : (be32 l)[y]? = some (byteAt l y) := by
  have := be32_get l (q := y / 4) (j := y % 4) (by omega) (by omega)
  rw [show 4 * (y / 4) + y % 4 = y by omega] at this
  exact this
theorem be32_take {l : List Wo} {z : Nat} (h : z < l.length) : be32 (l.take z) ++ be4 (l.getD z 0) = be32 (l.take (z + 1)) := by
  rw [be32_snoc, List.take_add_one, List.getElem?_eq_getElem h]
  simp [List.getD, h]
/-- Four bytes as a word. -/
theorem word_four {l : List UInt8} {z : Nat} (h : 4 * z + 4 ≤ l.length) : BitVec.ofNat 32 (beVal ((l.drop (4 * z)).take 4)) = wordAt l z := by
  have e : (l.drop (4 * z)).take 4 = [l.getD (4 * z + 0) 0, l.getD (4 * z + 1) 0, l.getD (4 * z + 2) 0, l.getD (4 * z + 3) 0] := by
    apply List.ext_getElem?
    intro j
    by_cases hj : j < 4
    · rw [List.getElem?_take_of_lt hj, List.getElem?_drop, List.getElem?_eq_getElem (by omega)]
      rcases j with _ | _ | _ | _ | j
      · simp [List.getD, show 4 * z < l.length by omega]
      · simp [List.getD, show 4 * z + 1 < l.length by omega]
      · simp [List.getD, show 4 * z + 2 < l.length by omega]
      · simp [List.getD, show 4 * z + 3 < l.length by omega]
      · omega
    · rw [List.getElem?_eq_none (by rw [List.length_take]; omega), List.getElem?_eq_none (by simp; omega)]
  rw [e]
  show BitVec.ofNat 32 ((((0 * 256 + (l.getD (4 * z + 0) 0).toNat) * 256 + (l.getD (4 * z + 1) 0).toNat) * 256 + (l.getD (4 * z + 2) 0).toNat) * 256 + (l.getD (4 * z + 3) 0).toNat) = _
  rw [Nat.zero_mul, Nat.zero_add, word_be]
  rfl
end Go.Proofs.Ytgfndlibbfamfaa.A
/-
  The document's sum: turning, a block.
-/
set_option maxRecDepth 100000
set_option linter.unusedSimpArgs false
set_option linter.unusedVariables false
namespace Go.Proofs.Ytgfndlibbfamfaa.A
open Go.RowKit

section
variable {l b : List UInt8} {r : R8}
theorem four_num {b : List UInt8} (hb : b.length = 64) {z : Nat} (h : z < 16) : BitVec.ofNat 32 ((Rd.of ((b.drop (4 * z)).take 4)).num 4) = wordAt b z := by
  have hl : ((b.drop (4 * z)).take 4).length = 4 := by rw [List.length_take, List.length_drop]; omega
  rw [← word_four (by omega)]
  have e : (Rd.of ((b.drop (4 * z)).take 4)).out 4 = (b.drop (4 * z)).take 4 := by
    unfold Rd.out
    rw [if_neg (by intro h; exact h rfl), if_neg (by unfold Rd.bad; show ¬ ((4 : Int) < 0 ∨ (((b.drop (4 * z)).take 4).length : Int) < 4); omega)]
    exact List.take_of_length_le (Nat.le_of_eq hl)
  unfold Rd.num
  rw [e]
end
end Go.Proofs.Ytgfndlibbfamfaa.A
/-
  Sums of whole texts, tags, keys: what the document's answer comes to, as plain functions; the same as the program's, which takes a text in by parts.
-/
set_option maxRecDepth 100000
set_option linter.unusedSimpArgs false
set_option linter.unusedVariables false
namespace Go.Proofs.Ytgfndlibbfamfaa.A
open Go.RowKit

/-- A text, made whole blocks long. -/
def shaP (l : List UInt8) : List UInt8 := l ++ [128] ++ List.replicate ((119 - l.length % 64) % 64) 0 ++ beBytes (l.length * 8) 8
def shaR (l : List UInt8) : R8 := blocks firstR (shaP l) ((shaP l).length / 64)
/-- The sum of a text. -/
def sha (l : List UInt8) : List UInt8 := outN (shaR l).l 32
theorem sha_length (l : List UInt8) : (sha l).length = 32 := outN_length _ (by omega)
theorem shaP_length (l : List UInt8) : (shaP l).length % 64 = 0 := by
  simp only [shaP, List.length_append, List.length_cons, List.length_nil, List.length_replicate, beBytes_length]
  omega
theorem byW_take {l : List UInt8} {k n : Nat} (h : k < n) : byW (l.take n) k = byW l k := by
  unfold byW
  rw [List.getD_eq_getElem?_getD, List.getElem?_take_of_lt h, List.getD_eq_getElem?_getD]
theorem byW_append {a b : List UInt8} {k : Nat} (h : k < a.length) : byW (a ++ b) k = byW a k := by
  unfold byW
  rw [List.getD_eq_getElem?_getD, List.getElem?_append_left h, List.getD_eq_getElem?_getD]
theorem sched_congr {a b : List UInt8} (h : ∀ k, k < 64 → byW a k = byW b k) : sched a = sched b := by
  have : sched0 a 16 = sched0 b 16 := by
    unfold sched0
    refine List.map_congr_left fun i hi => ?_
    have hi := List.mem_range.1 hi
    unfold wordAt
    rw [h _ (by omega), h _ (by omega), h _ (by omega), h _ (by omega)]
  unfold sched
  rw [this]
theorem blockW_take (r : R8) (l : List UInt8) : blockW r (l.take 64) = blockW r l := by
  unfold blockW
  rw [sched_congr fun k hk => byW_take hk]
theorem blockW_append (r : R8) {a : List UInt8} (b : List UInt8) (h : 64 ≤ a.length) : blockW r (a ++ b) = blockW r a := by
  unfold blockW
  rw [sched_congr fun k hk => byW_append (by omega)]
theorem blocks_add (r : R8) (l : List UInt8) (m : Nat) : ∀ k, blocks r l (m + k) = blocks (blocks r l m) (l.drop (64 * m)) k
  | 0 => rfl
  | k + 1 => by
    show blockW (blocks r l (m + k)) (l.drop (64 * (m + k))) = blockW (blocks (blocks r l m) (l.drop (64 * m)) k) ((l.drop (64 * m)).drop (64 * k))
    rw [blocks_add r l m k, List.drop_drop, Nat.mul_add]
theorem blocks_head (r : R8) {a : List UInt8} (b : List UInt8) : ∀ k, 64 * k ≤ a.length → blocks r (a ++ b) k = blocks r a k
  | 0, _ => rfl
  | k + 1, h => by
    show blockW (blocks r (a ++ b) k) ((a ++ b).drop (64 * k)) = blockW (blocks r a k) (a.drop (64 * k))
    rw [blocks_head r b k (by omega), List.drop_append_of_le_length (by omega), blockW_append _ _ (by rw [List.length_drop]; omega)]
/-- A sum that has taken in a text. -/
def Sm.of (t : List UInt8) : Sm := ⟨blocks firstR t (t.length / 64), t.drop (64 * (t.length / 64)), t.length⟩
theorem Sm.new_of : Sm.new = Sm.of [] := rfl
theorem Sm.of_add (t l : List UInt8) : (Sm.of t).add l = Sm.of (t ++ l) := by
  have e : t.drop (64 * (t.length / 64)) ++ l = (t ++ l).drop (64 * (t.length / 64)) := (List.drop_append_of_le_length (by omega)).symm
  have e2 : (t ++ l).length / 64 = t.length / 64 + ((t ++ l).drop (64 * (t.length / 64))).length / 64 := by
    rw [List.length_drop, List.length_append]
    omega
  unfold Sm.add Sm.of
  dsimp only
  rw [e, Sm.mk.injEq]
  refine ⟨?_, ?_, by rw [List.length_append]⟩
  · rw [e2, blocks_add, blocks_head firstR l (t.length / 64) (by omega)]
  · rw [List.drop_drop, ← Nat.mul_add, ← e2]
theorem Sm.of_sum (t : List UInt8) : (Sm.of t).sum = sha t := by
  have e : t.take (64 * (t.length / 64)) ++ t.drop (64 * (t.length / 64)) = t := List.take_append_drop _ _
  have hd : (t.drop (64 * (t.length / 64))).length = t.length % 64 := by rw [List.length_drop]; omega
  have e1 : shaP t = t.take (64 * (t.length / 64)) ++ padded (t.drop (64 * (t.length / 64))) t.length := by
    unfold shaP padded
    rw [hd, ← List.append_assoc, ← List.append_assoc, ← List.append_assoc, e]
  have hl : (t.take (64 * (t.length / 64))).length = 64 * (t.length / 64) := by rw [List.length_take]; omega
  have e2 : (shaP t).length / 64 = t.length / 64 + (padded (t.drop (64 * (t.length / 64))) t.length).length / 64 := by
    rw [e1, List.length_append, hl]
    omega
  have e5 : ∀ b, blocks firstR (t.take (64 * (t.length / 64)) ++ b) (t.length / 64) = blocks firstR (t.take (64 * (t.length / 64))) (t.length / 64) := fun b => blocks_head _ _ _ (by omega)
  have e3 : blocks firstR (shaP t) (t.length / 64) = blocks firstR t (t.length / 64) :=
    (congrArg (fun q => blocks firstR q (t.length / 64)) e1).trans ((e5 _).trans ((e5 _).symm.trans (congrArg (fun q => blocks firstR q (t.length / 64)) e)))
  have e4 : (shaP t).drop (64 * (t.length / 64)) = padded (t.drop (64 * (t.length / 64))) t.length := by
    rw [e1]
    exact List.drop_left' hl
  unfold sha Sm.sum finish shaR
  rw [e2, blocks_add, e3, e4]
  rfl
theorem kdigest_sha (k : Nat) (l : List UInt8) : kdigest k l = sha (UInt8.ofNat k :: l) := by
  unfold kdigest
  rw [Sm.new_of, Sm.of_add, Sm.of_add, Sm.of_sum]
  rfl
/-! ### Tags -/
def padN (k : List UInt8) : List UInt8 := k ++ List.replicate (64 - k.length) 0
/-- A key as a whole block, each byte with a number. -/
def padK (k : List UInt8) (x : UInt8) : List UInt8 := (padN (if 64 < k.length then sha k else k)).map (· ^^^ x)
def hmac (k l : List UInt8) : List UInt8 := sha (padK k 92 ++ sha (padK k 54 ++ l))
theorem hmac_length (k l : List UInt8) : (hmac k l).length = 32 := sha_length _
theorem padK_length (k : List UInt8) (x : UInt8) : (padK k x).length = 64 := by
  unfold padK padN
  rw [List.length_map, List.length_append, List.length_replicate]
  split
  · rw [sha_length]
  · omega
/-! ### Keys -/
def w16 (a : Int) : Nat := (a % 65536).toNat
theorem w16_lt (a : Int) : w16 a < 65536 := by unfold w16; omega
/-- Two numbers, the lower one first. -/
def pairOf (a b : Int) : Nat × Nat := if w16 b < w16 a then (w16 b, w16 a) else (w16 a, w16 b)
def twoB (p : Nat × Nat) : List UInt8 := beBytes p.1 2 ++ beBytes p.2 2
def keyB (seed : List UInt8) (a b : Int) : List UInt8 := hmac seed (twoB (pairOf a b))
def ktagB (seed : List UInt8) (a b : Int) (l : List UInt8) : List UInt8 := hmac (keyB seed a b) (twoB (w16 a, w16 b) ++ l)
theorem pairOf_swap (a b : Int) : pairOf a b = pairOf b a := by
  unfold pairOf
  split <;> split <;> first | rfl | omega | (congr 1 <;> omega)
theorem keyB_swap (seed : List UInt8) (a b : Int) : keyB seed a b = keyB seed b a := by unfold keyB; rw [pairOf_swap]
theorem keyB_length (seed : List UInt8) (a b : Int) : (keyB seed a b).length = 32 := hmac_length _ _
theorem ktagB_length (seed : List UInt8) (a b : Int) (l : List UInt8) : (ktagB seed a b l).length = 32 := hmac_length _ _
theorem twoB_length (p : Nat × Nat) : (twoB p).length = 4 := by simp [twoB, beBytes_length]
end Go.Proofs.Ytgfndlibbfamfaa.A
/-
  The document's sum.
-/
set_option maxRecDepth 100000
set_option linter.unusedSimpArgs false
set_option linter.unusedVariables false
namespace Go.Proofs.Ytgfndlibbfamfaa.A
open Go.RowKit

theorem b32_at {r : R8} {x : Nat} (h : x < 32) : ((be32 (r.l.take 8)).map fun b => [Abs.v (bc b)])[x]? = some [.v (bc (byteAt r.l x))] := by
  rw [show r.l.take 8 = r.l from rfl, List.getElem?_map, be32_at (by show x < 4 * 8; omega)]
  rfl
section
variable {l : List UInt8}
end
end Go.Proofs.Ytgfndlibbfamfaa.A
/-
  The document's tags and keys.
-/
set_option maxRecDepth 100000
set_option linter.unusedSimpArgs false
set_option linter.unusedVariables false
namespace Go.Proofs.Ytgfndlibbfamfaa.A
open Go.RowKit

theorem byt_get {l : List UInt8} {z : Nat} (h : z < l.length) : (l.map fun b => [Abs.v (bc b)])[z]? = some [.v (bc (l.getD z 0))] := by
  simp [List.getD, h]
theorem bs_take_snoc {l : List UInt8} {z : Nat} {c : UInt8} (h : z < l.length) (hc : l.getD z 0 = c) : bs (l.take z) ++ [[.v (bc c)]] = bs (l.take (z + 1)) := by
  subst hc
  rw [show [[Abs.v (bc (l.getD z 0))]] = bs [l.getD z 0] from rfl, ← List.map_append, List.take_add_one, List.getElem?_eq_getElem h]
  simp [List.getD, h]
abbrev keyN (k : List UInt8) : List UInt8 := if 64 < k.length then sha k else k
theorem keyN_le (k : List UInt8) : (keyN k).length ≤ 64 := by
  unfold keyN
  split
  · rw [sha_length]; omega
  · omega
theorem padK_get (k : List UInt8) (x : UInt8) {z : Nat} (hz : z < 64) : (padK k x).getD z 0 = (if z < (keyN k).length then (keyN k).getD z 0 else 0) ^^^ x := by
  have hl := keyN_le k
  unfold padK padN
  rw [List.getD_eq_getElem?_getD, List.getElem?_map]
  show (((keyN k ++ List.replicate (64 - (keyN k).length) 0)[z]?).map (· ^^^ x)).getD 0 = _
  by_cases h : z < (keyN k).length
  · rw [if_pos h, List.getElem?_append_left h, List.getElem?_eq_getElem h]
    simp [List.getD, h]
  · rw [if_neg h, List.getElem?_append_right (by omega), List.getElem?_replicate_of_lt (by omega)]
    rfl
theorem padT {k : List UInt8} {x : UInt8} {z : Nat} (hz : z < 64) (h : z < (keyN k).length) : bs ((padK k x).take z) ++ [[.v (bc ((keyN k).getD z 0 ^^^ x))]] = bs ((padK k x).take (z + 1)) :=
  bs_take_snoc (by rw [padK_length]; exact hz) (by rw [padK_get k x hz, if_pos h])
theorem padF {k : List UInt8} {x : UInt8} {z : Nat} (hz : z < 64) (h : ¬ z < (keyN k).length) : bs ((padK k x).take z) ++ [[.v (bc (0 ^^^ x))]] = bs ((padK k x).take (z + 1)) :=
  bs_take_snoc (by rw [padK_length]; exact hz) (by rw [padK_get k x hz, if_neg h])
theorem w16_wrap (a : Int) : IntKind.u16.wrap a = (w16 a : Nat) := by
  simp [IntKind.wrap, IntKind.bits, IntKind.signed, w16]
  omega
theorem w16_id {a : Nat} (h : a < 65536) : w16 (a : Nat) = a := by unfold w16; omega
theorem be2_u64 (a : Int) : beBytes (u64 a) 2 = beBytes (w16 a) 2 := by
  have h : u64 a % 65536 = w16 a := by unfold u64 w16; omega
  have e1 : UInt8.ofNat (u64 a) = UInt8.ofNat (w16 a) := by
    apply UInt8.toNat.inj
    simp
    omega
  have e2 : UInt8.ofNat (u64 a / 256) = UInt8.ofNat (w16 a / 256) := by
    apply UInt8.toNat.inj
    simp
    omega
  simp only [beBytes, e1, e2]
abbrev h16 (x : Nat) : Abs := .v (.int .u16 (x : Nat))
theorem dig_get {d : List UInt8} {q : Nat} (h : q < d.length) : (digA d)[q]? = some (.v (bc (d.getD q 0))) := by
  simp [digA, List.getD, h]
section
variable {l k d : List UInt8} {x : UInt8} {a b : Int}
theorem putO_s {x : Nat} {n : Int} (hl : l.length ≤ lots) (hx : x < 18446744073709551616) (hn : sizeB n = true) : Spec Try.prog 21 [byt l, wrd x, int n] [] (fun r : Value => [own 5 1 r (bs (l ++ beBytes x n.toNat))]) (fun r => .v r) := Spec.ofOwnB fun K w vals hK hv => by
  obtain ⟨v, us', rfl, h1, h2⟩ := hv
  have := (reps_plain (us := [.int .u64 x, .int .i64 n])).1 h2
  subst this
  have hw := (enter2 w K).add (z := bytesD v l) (row2 (rep_byt.1 h1))
  exact (put_own hw (hw.bytes (by simp)) hl hx hn).mono fun e w' ⟨r, he, hm⟩ => ⟨r, _, he, hm⟩
end
end Go.Proofs.Ytgfndlibbfamfaa.A
