/-
  Packed out of the texts: CO7, LedK, LedL, TDoc, TM5, CO8.
-/
import Derived.Test.YtkeapnefdjkhoaaGreatDoorP010
/-
  Batches; what may be asked about.
-/
set_option maxRecDepth 100000
set_option linter.unusedSimpArgs false
set_option linter.unusedVariables false
namespace Go.Proofs.YtkeapnefdjkhoaaGreatDoor.A
open Go.RowKit

section
variable {l a b : Lg} {x : Ltr} {o : Oc} {k n : Int} {s : ByteArray} {c : Core} {e : Ent} {p : Nat} {es : List Ent} {e1 e2 : Value}
set_option maxHeartbeats 2000000 in
theorem few14_s  : Spec Tryz.prog 7 [.agg l.abs, entsR es] [] (fun _ : Unit => []) (fun _ => boo (decide (FewC l es))) := by
  refine spec_of Tryz.func7 rfl Tryz.ntmps7 rfl fun G w => ?_
  refine SC.seq (SC.region ?_)
  refine SL.eff (Eff.boxA (cs := l.abs) rfl) rfl rfl ?_
  rintro _ _ ⟨b2, rfl, rfl⟩
  refine SL.val (Val.assign rfl) rfl rfl ?_
  refine SL.nil (SE.seq ?_)
  refine SC.cutS (ι := Unit) (fun z => [.blk b2 25 l.abs]) (fun z => [(1, entsR es), (2, ptr b2)]) (fun z => ∀ j (h : j < l.ls.length), l.ls[j].name.size ≤ 100 ∧ l.ls[j].policy.size ≤ 300 ∧ l.ls[j].papers.size ≤ 300) ?_ ?_
  · skip
    refine SC.seq (SC.region ?_)
    refine SL.val (Val.fieldAddr tabOk rfl rfl rfl rfl rfl) rfl rfl ?_
    refine SL.val (Val.to (C := .sl 6 (l.ls.map ltrA)) (Val.load1 tabOk rfl rfl (by first|(apply Or.inl;(repeat first|assumption|exact m0|apply m1);done)|(apply Or.inr;(repeat first|assumption|exact m0|apply m1);done)) List.not_mem_nil (by rfl)) rfl) rfl rfl ?_
    first
      | refine SL.val (Val.lenSl rfl Tryz.underlying22 (List.length_map _)) rfl rfl ?_
      | refine SL.val (Val.lenOwn rfl (by repeat first|assumption|exact m0|apply m1) Tryz.underlying22 (List.length_map _)) rfl rfl ?_
      | refine SL.val (Val.lenNil rfl Tryz.underlying22) rfl rfl ?_
    refine SL.val (Val.move rfl) rfl rfl ?_
    refine SL.nil (SE.seq ?_)
    refine SC.block ?_
    refine SC.rowLe (i := 10) rfl fun hrow => ?_
    rw [List.length_map] at hrow
    unfold maxLen at hrow
    refine SC.loop (ι := Nat) (fun z => [.blk b2 25 l.abs]) (fun z => [(1, entsR es), (2, ptr b2), (10, ltrsA l.ls), (11, int (l.ls.length : Nat)), (12, int (z : Nat))]) (fun z => z ≤ l.ls.length ∧ ∀ j (h : j < l.ls.length), j < z → l.ls[j].name.size ≤ 100 ∧ l.ls[j].policy.size ≤ 300 ∧ l.ls[j].papers.size ≤ 300) (fun z => l.ls.length - z) (0) (⟨Nat.zero_le _, fun j h h2 => by omega⟩) (by exact ⟨rfl, rfl, rfl, rfl, rfl, trivial⟩) (by repeat first|exact s0 _|exact s1 _|apply s2|apply s3) ?_
    intro z hz
    refine SC.seq (SC.region ?_)
    refine SL.val (Val.ltI rfl rfl) rfl rfl ?_
    refine SL.nil (SE.seq ?_)
    refine SC.seq ?_
    refine SC.condP rfl ?_ ?_
    rotate_left
    · intro hc13
      refine SC.exit ?_
      refine SE.then_ (by intro h; cases h) ?_
      refine SE.then_ (by intro h; cases h) ?_
      refine SE.exit ?_
      refine SE.meet (()) (fun j h => hz.2 j h (by omega)) (by exact ⟨rfl, rfl, trivial⟩) (by repeat first|exact s0 _|exact s1 _|apply s2|apply s3)
    intro hc13
    have hlt : z < l.ls.length := by omega
    refine SC.skip ?_
    refine SE.seq ?_
    refine SC.seq ?_
    refine SC.block ?_
    refine SC.seq (SC.region ?_)
    refine SL.val (Val.indexSl tabOk Tryz.underlying22 rfl rfl rfl rfl (at_map (by omega)) rfl rfl) rfl rfl ?_
    refine SL.val (Val.loadAR tabOk rfl rfl rfl (by rfl)) rfl rfl ?_
    refine SL.eff (Eff.alloc tabOk rfl) rfl rfl ?_
    rintro _ _ ⟨b6, rfl, rfl⟩
    refine SL.eff (Eff.store (L' := ltrA (l.ls[z]'hlt)) tabOk rfl rfl rfl (by repeat first|assumption|exact Upd.here|apply Upd.there) rfl (Nat.le_of_ble_eq_true (by rfl)) rfl (by exact putL_whole rfl)) rfl rfl ?_
    rintro _ _ ⟨rfl, rfl⟩
    refine SL.nil (SE.seq ?_)
    refine SC.seq (SC.region ?_)
    refine SL.val (Val.fieldAddr tabOk rfl rfl rfl rfl rfl) rfl rfl ?_
    refine SL.val (Val.to (C := st (l.ls[z]'hlt).name) (Val.load1 tabOk rfl rfl (by first|(apply Or.inl;(repeat first|assumption|exact m0|apply m1);done)|(apply Or.inr;(repeat first|assumption|exact m0|apply m1);done)) List.not_mem_nil (by rfl)) rfl) rfl rfl ?_
    refine SL.val (Val.lenSt rfl Tryz.underlying9) rfl rfl ?_
    refine SL.val (Val.gtI rfl rfl) rfl rfl ?_
    refine SL.val (Val.move rfl) rfl rfl ?_
    refine SL.bothP (t := 20) rfl ?_ ?_
    · intro hc20
      iterate 4 refine SL.skip rfl rfl ?_
      refine SL.val (Val.pickT rfl rfl) rfl rfl ?_
      refine SL.val (Val.move rfl) rfl rfl ?_
      iterate 4 refine SL.skip rfl rfl ?_
      refine SL.val (Val.pickT rfl rfl) rfl rfl ?_
      refine SL.nil (SE.seq ?_)
      refine SC.condT rfl ?_
      refine SC.seq (SC.region ?_)
      refine SL.val (Val.assign rfl) rfl rfl ?_
      refine SL.nil (SE.seq ?_)
      refine SC.ret ?_
      refine SE.ret ?_
      refine SE.then_ (by intro h; cases h) ?_
      refine SE.then_ (by intro h; cases h) ?_
      refine SE.ret ?_
      refine SE.then_ (by intro h; cases h) ?_
      refine SE.fin (rs := [.tmp 4]) rfl (RV.tmp rfl RV.nil) (()) (by repeat first|exact s0 _|exact s1 _|apply s2|apply s3) (by simp [It.rids]) ?_
      refine boo_dec0 fun he => ?_
      have := he.ls z hlt
      omega
    intro hc20
    refine SL.val (Val.fieldAddr tabOk rfl rfl rfl rfl rfl) rfl rfl ?_
    refine SL.val (Val.to (C := st (l.ls[z]'hlt).policy) (Val.load1 tabOk rfl rfl (by first|(apply Or.inl;(repeat first|assumption|exact m0|apply m1);done)|(apply Or.inr;(repeat first|assumption|exact m0|apply m1);done)) List.not_mem_nil (by rfl)) rfl) rfl rfl ?_
    refine SL.val (Val.lenSt rfl Tryz.underlying9) rfl rfl ?_
    refine SL.val (Val.gtI rfl rfl) rfl rfl ?_
    refine SL.val (Val.pickF rfl rfl) rfl rfl ?_
    refine SL.val (Val.move rfl) rfl rfl ?_
    refine SL.bothP (t := 26) rfl ?_ ?_
    · intro hc26
      iterate 4 refine SL.skip rfl rfl ?_
      refine SL.val (Val.pickT rfl rfl) rfl rfl ?_
      refine SL.nil (SE.seq ?_)
      refine SC.condT rfl ?_
      refine SC.seq (SC.region ?_)
      refine SL.val (Val.assign rfl) rfl rfl ?_
      refine SL.nil (SE.seq ?_)
      refine SC.ret ?_
      refine SE.ret ?_
      refine SE.then_ (by intro h; cases h) ?_
      refine SE.then_ (by intro h; cases h) ?_
      refine SE.ret ?_
      refine SE.then_ (by intro h; cases h) ?_
      refine SE.fin (rs := [.tmp 4]) rfl (RV.tmp rfl RV.nil) (()) (by repeat first|exact s0 _|exact s1 _|apply s2|apply s3) (by simp [It.rids]) ?_
      refine boo_dec0 fun he => ?_
      have := he.ls z hlt
      omega
    intro hc26
    refine SL.val (Val.fieldAddr tabOk rfl rfl rfl rfl rfl) rfl rfl ?_
    refine SL.val (Val.to (C := st (l.ls[z]'hlt).papers) (Val.load1 tabOk rfl rfl (by first|(apply Or.inl;(repeat first|assumption|exact m0|apply m1);done)|(apply Or.inr;(repeat first|assumption|exact m0|apply m1);done)) List.not_mem_nil (by rfl)) rfl) rfl rfl ?_
    refine SL.val (Val.lenSt rfl Tryz.underlying9) rfl rfl ?_
    refine SL.val (Val.gtI rfl rfl) rfl rfl ?_
    refine SL.val (Val.pickF rfl rfl) rfl rfl ?_
    refine SL.nil (SE.seq ?_)
    refine SC.condP rfl ?_ ?_
    rotate_left
    · intro hc31
      refine SC.skip ?_
      refine SE.inBlock ?_
      refine SE.seq ?_
      refine SC.region ?_
      first
        | refine SL.val (Val.addI rfl rfl (by simp only [InR, lo, hi]; omega)) rfl rfl ?_
        | refine SL.val (Val.addW rfl rfl) rfl rfl ?_
      refine SL.val (Val.move rfl) rfl rfl ?_
      refine SL.nil ?_
      refine SE.round (z + 1) (by first | omega | (dsimp only; omega)) (⟨by omega, fun j h h2 => by rcases Nat.lt_or_ge j z with h3 | h3; exact hz.2 j h h3; obtain rfl : j = z := (by omega); omega⟩) (by exact ⟨rfl, rfl, rfl, rfl, rfl, trivial⟩) (by repeat first|exact s0 _|exact s1 _|apply s2|apply s3)
    intro hc31
    refine SC.seq (SC.region ?_)
    refine SL.val (Val.assign rfl) rfl rfl ?_
    refine SL.nil (SE.seq ?_)
    refine SC.ret ?_
    refine SE.ret ?_
    refine SE.then_ (by intro h; cases h) ?_
    refine SE.then_ (by intro h; cases h) ?_
    refine SE.ret ?_
    refine SE.then_ (by intro h; cases h) ?_
    refine SE.fin (rs := [.tmp 4]) rfl (RV.tmp rfl RV.nil) (()) (by repeat first|exact s0 _|exact s1 _|apply s2|apply s3) (by simp [It.rids]) ?_
    refine boo_dec0 fun he => ?_
    have := he.ls z hlt
    omega
  · intro z0 hls
    refine SC.seq ?_
    refine SC.seq (SC.region ?_)
    refine SL.val (Val.move rfl) rfl rfl ?_
    first
      | refine SL.val (Val.lenSl rfl Tryz.underlying33 (List.length_map _)) rfl rfl ?_
      | refine SL.val (Val.lenOwn rfl (by repeat first|assumption|exact m0|apply m1) Tryz.underlying33 (List.length_map _)) rfl rfl ?_
      | refine SL.val (Val.lenNil rfl Tryz.underlying33) rfl rfl ?_
    refine SL.val (Val.move rfl) rfl rfl ?_
    refine SL.nil (SE.seq ?_)
    refine SC.block ?_
    refine SC.rowLe (i := 33) rfl fun hro2 => ?_
    rw [List.length_map] at hro2
    unfold maxLen at hro2
    refine SC.loop (ι := Nat) (fun z => [.blk b2 25 l.abs]) (fun z => [(1, entsR es), (2, ptr b2), (33, entsR es), (34, int (es.length : Nat)), (35, int (z : Nat))]) (fun z => z ≤ es.length ∧ ∀ j (h : j < es.length), j < z → es[j].core.letter.size ≤ 100 ∧ es[j].core.text.size ≤ 300) (fun z => es.length - z) (0) (⟨Nat.zero_le _, fun j h h2 => by omega⟩) (by exact ⟨rfl, rfl, rfl, rfl, rfl, trivial⟩) (by repeat first|exact s0 _|exact s1 _|apply s2|apply s3) ?_
    intro z hz
    refine SC.seq (SC.region ?_)
    refine SL.val (Val.ltI rfl rfl) rfl rfl ?_
    refine SL.nil (SE.seq ?_)
    refine SC.seq ?_
    refine SC.condP rfl ?_ ?_
    rotate_left
    · intro hc36
      refine SC.exit ?_
      refine SE.then_ (by intro h; cases h) ?_
      refine SE.then_ (by intro h; cases h) ?_
      refine SE.exit ?_
      refine SE.seq ?_
      refine SC.seq (SC.region ?_)
      refine SL.val (Val.fieldAddr tabOk rfl rfl rfl rfl rfl) rfl rfl ?_
      refine SL.val (Val.to (C := .sl 6 (l.ls.map ltrA)) (Val.load1 tabOk rfl rfl (by first|(apply Or.inl;(repeat first|assumption|exact m0|apply m1);done)|(apply Or.inr;(repeat first|assumption|exact m0|apply m1);done)) List.not_mem_nil (by rfl)) rfl) rfl rfl ?_
      first
        | refine SL.val (Val.lenSl rfl Tryz.underlying22 (List.length_map _)) rfl rfl ?_
        | refine SL.val (Val.lenOwn rfl (by repeat first|assumption|exact m0|apply m1) Tryz.underlying22 (List.length_map _)) rfl rfl ?_
        | refine SL.val (Val.lenNil rfl Tryz.underlying22) rfl rfl ?_
      refine SL.val (Val.leI rfl rfl) rfl rfl ?_
      refine SL.val (Val.move rfl) rfl rfl ?_
      refine SL.bothP (t := 56) rfl ?_ ?_
      rotate_left
      · intro hc56
        iterate 4 refine SL.skip rfl rfl ?_
        refine SL.val (Val.pickF rfl rfl) rfl rfl ?_
        refine SL.val (Val.move rfl) rfl rfl ?_
        iterate 3 refine SL.skip rfl rfl ?_
        refine SL.val (Val.pickF rfl rfl) rfl rfl ?_
        refine SL.val (Val.assign rfl) rfl rfl ?_
        refine SL.nil (SE.seq ?_)
        refine SC.ret ?_
        refine SE.fin (rs := [.tmp 4]) rfl (RV.tmp rfl RV.nil) (()) (by repeat first|exact s0 _|exact s1 _|apply s2|apply s3) (by simp [It.rids]) ?_
        first
          | (refine boo_dec0 fun he => ?_; have g1 := he.nl; have g2 := he.no; have g3 := he.ne; omega)
          | (refine congrArg (fun b => Abs.v (Value.bool b)) ?_; rw [decide_eq_decide]; exact ⟨fun h => ⟨hls, fun j h1 => hz.2 j h1 (by omega), by omega, by omega, by omega⟩, fun h => by have := h.ne; omega⟩)
      intro hc56
      refine SL.val (Val.fieldAddr tabOk rfl rfl rfl rfl rfl) rfl rfl ?_
      refine SL.val (Val.to (C := .sl 3 (l.os.map Oc.abs)) (Val.load1 tabOk rfl rfl (by first|(apply Or.inl;(repeat first|assumption|exact m0|apply m1);done)|(apply Or.inr;(repeat first|assumption|exact m0|apply m1);done)) List.not_mem_nil (by rfl)) rfl) rfl rfl ?_
      first
        | refine SL.val (Val.lenSl rfl Tryz.underlying23 (List.length_map _)) rfl rfl ?_
        | refine SL.val (Val.lenOwn rfl (by repeat first|assumption|exact m0|apply m1) Tryz.underlying23 (List.length_map _)) rfl rfl ?_
        | refine SL.val (Val.lenNil rfl Tryz.underlying23) rfl rfl ?_
      refine SL.val (Val.leI rfl rfl) rfl rfl ?_
      refine SL.val (Val.pickT rfl rfl) rfl rfl ?_
      refine SL.val (Val.move rfl) rfl rfl ?_
      refine SL.bothP (t := 62) rfl ?_ ?_
      rotate_left
      · intro hc62
        iterate 3 refine SL.skip rfl rfl ?_
        refine SL.val (Val.pickF rfl rfl) rfl rfl ?_
        refine SL.val (Val.assign rfl) rfl rfl ?_
        refine SL.nil (SE.seq ?_)
        refine SC.ret ?_
        refine SE.fin (rs := [.tmp 4]) rfl (RV.tmp rfl RV.nil) (()) (by repeat first|exact s0 _|exact s1 _|apply s2|apply s3) (by simp [It.rids]) ?_
        first
          | (refine boo_dec0 fun he => ?_; have g1 := he.nl; have g2 := he.no; have g3 := he.ne; omega)
          | (refine congrArg (fun b => Abs.v (Value.bool b)) ?_; rw [decide_eq_decide]; exact ⟨fun h => ⟨hls, fun j h1 => hz.2 j h1 (by omega), by omega, by omega, by omega⟩, fun h => by have := h.ne; omega⟩)
      intro hc62
      refine SL.val (Val.move rfl) rfl rfl ?_
      first
        | refine SL.val (Val.lenSl rfl Tryz.underlying33 (List.length_map _)) rfl rfl ?_
        | refine SL.val (Val.lenOwn rfl (by repeat first|assumption|exact m0|apply m1) Tryz.underlying33 (List.length_map _)) rfl rfl ?_
        | refine SL.val (Val.lenNil rfl Tryz.underlying33) rfl rfl ?_
      refine SL.val (Val.leI rfl rfl) rfl rfl ?_
      refine SL.val (Val.pickT rfl rfl) rfl rfl ?_
      refine SL.val (Val.assign rfl) rfl rfl ?_
      refine SL.nil (SE.seq ?_)
      refine SC.ret ?_
      refine SE.fin (rs := [.tmp 4]) rfl (RV.tmp rfl RV.nil) (()) (by repeat first|exact s0 _|exact s1 _|apply s2|apply s3) (by simp [It.rids]) ?_
      first
        | (refine boo_dec0 fun he => ?_; have g1 := he.nl; have g2 := he.no; have g3 := he.ne; omega)
        | (refine congrArg (fun b => Abs.v (Value.bool b)) ?_; rw [decide_eq_decide]; exact ⟨fun h => ⟨hls, fun j h1 => hz.2 j h1 (by omega), by omega, by omega, by omega⟩, fun h => by have := h.ne; omega⟩)
    intro hc36
    have hlt : z < es.length := by omega
    refine SC.skip ?_
    refine SE.seq ?_
    refine SC.seq ?_
    refine SC.block ?_
    refine SC.seq (SC.region ?_)
    refine SL.val (Val.indexSl tabOk Tryz.underlying33 rfl rfl rfl rfl (at_map (by omega)) rfl rfl) rfl rfl ?_
    refine SL.val (Val.loadAR tabOk rfl rfl rfl (by rfl)) rfl rfl ?_
    refine SL.eff (Eff.alloc tabOk rfl) rfl rfl ?_
    rintro _ _ ⟨b8, rfl, rfl⟩
    refine SL.eff (Eff.store (L' := entA (es[z]'hlt)) tabOk rfl rfl rfl (by repeat first|assumption|exact Upd.here|apply Upd.there) rfl (Nat.le_of_ble_eq_true (by rfl)) rfl (by exact putL_whole rfl)) rfl rfl ?_
    rintro _ _ ⟨rfl, rfl⟩
    refine SL.nil (SE.seq ?_)
    refine SC.seq (SC.region ?_)
    refine SL.val (Val.fieldAddr tabOk rfl rfl rfl rfl rfl) rfl rfl ?_
    refine SL.val (Val.fieldAddr tabOk rfl rfl rfl rfl rfl) rfl rfl ?_
    refine SL.val (Val.to (C := st (es[z]'hlt).core.letter) (Val.load1 tabOk rfl rfl (by first|(apply Or.inl;(repeat first|assumption|exact m0|apply m1);done)|(apply Or.inr;(repeat first|assumption|exact m0|apply m1);done)) List.not_mem_nil (by rfl)) rfl) rfl rfl ?_
    refine SL.val (Val.lenSt rfl Tryz.underlying9) rfl rfl ?_
    refine SL.val (Val.gtI rfl rfl) rfl rfl ?_
    refine SL.val (Val.move rfl) rfl rfl ?_
    refine SL.bothP (t := 44) rfl ?_ ?_
    · intro hc44
      iterate 5 refine SL.skip rfl rfl ?_
      refine SL.val (Val.pickT rfl rfl) rfl rfl ?_
      refine SL.nil (SE.seq ?_)
      refine SC.condT rfl ?_
      refine SC.seq (SC.region ?_)
      refine SL.val (Val.assign rfl) rfl rfl ?_
      refine SL.nil (SE.seq ?_)
      refine SC.ret ?_
      refine SE.ret ?_
      refine SE.then_ (by intro h; cases h) ?_
      refine SE.then_ (by intro h; cases h) ?_
      refine SE.ret ?_
      refine SE.then_ (by intro h; cases h) ?_
      refine SE.fin (rs := [.tmp 4]) rfl (RV.tmp rfl RV.nil) (()) (by repeat first|exact s0 _|exact s1 _|apply s2|apply s3) (by simp [It.rids]) ?_
      refine boo_dec0 fun he => ?_
      have := he.en z hlt
      omega
    intro hc44
    refine SL.val (Val.fieldAddr tabOk rfl rfl rfl rfl rfl) rfl rfl ?_
    refine SL.val (Val.fieldAddr tabOk rfl rfl rfl rfl rfl) rfl rfl ?_
    refine SL.val (Val.to (C := st (es[z]'hlt).core.text) (Val.load1 tabOk rfl rfl (by first|(apply Or.inl;(repeat first|assumption|exact m0|apply m1);done)|(apply Or.inr;(repeat first|assumption|exact m0|apply m1);done)) List.not_mem_nil (by rfl)) rfl) rfl rfl ?_
    refine SL.val (Val.lenSt rfl Tryz.underlying9) rfl rfl ?_
    refine SL.val (Val.gtI rfl rfl) rfl rfl ?_
    refine SL.val (Val.pickF rfl rfl) rfl rfl ?_
    refine SL.nil (SE.seq ?_)
    refine SC.condP rfl ?_ ?_
    rotate_left
    · intro hc50
      refine SC.skip ?_
      refine SE.inBlock ?_
      refine SE.seq ?_
      refine SC.region ?_
      first
        | refine SL.val (Val.addI rfl rfl (by simp only [InR, lo, hi]; omega)) rfl rfl ?_
        | refine SL.val (Val.addW rfl rfl) rfl rfl ?_
      refine SL.val (Val.move rfl) rfl rfl ?_
      refine SL.nil ?_
      refine SE.round (z + 1) (by first | omega | (dsimp only; omega)) (⟨by omega, fun j h h2 => by rcases Nat.lt_or_ge j z with h3 | h3; exact hz.2 j h h3; obtain rfl : j = z := (by omega); omega⟩) (by exact ⟨rfl, rfl, rfl, rfl, rfl, trivial⟩) (by repeat first|exact s0 _|exact s1 _|apply s2|apply s3)
    intro hc50
    refine SC.seq (SC.region ?_)
    refine SL.val (Val.assign rfl) rfl rfl ?_
    refine SL.nil (SE.seq ?_)
    refine SC.ret ?_
    refine SE.ret ?_
    refine SE.then_ (by intro h; cases h) ?_
    refine SE.then_ (by intro h; cases h) ?_
    refine SE.ret ?_
    refine SE.then_ (by intro h; cases h) ?_
    refine SE.fin (rs := [.tmp 4]) rfl (RV.tmp rfl RV.nil) (()) (by repeat first|exact s0 _|exact s1 _|apply s2|apply s3) (by simp [It.rids]) ?_
    refine boo_dec0 fun he => ?_
    have := he.en z hlt
    omega
end
end Go.Proofs.YtkeapnefdjkhoaaGreatDoor.A
/-
  Rows with keys in order, plain: what is put in keeps the order; unlike keys may go in any order.
-/
set_option maxRecDepth 100000
set_option linter.unusedSimpArgs false
set_option linter.unusedVariables false
namespace Go.Proofs.YtkeapnefdjkhoaaGreatDoor.A
open Go.RowKit

/-- Keys in a strict order. -/
structure KOrd {α κ : Type} (key : α → κ) (lt : κ → κ → Prop) (eq gt : κ → α → Bool) : Prop where
  irr : ∀ k, ¬ lt k k
  trans : ∀ {a b c}, lt a b → lt b c → lt a c
  tri : ∀ a b, lt a b ∨ a = b ∨ lt b a
  eq_ : ∀ k x, eq k x = true ↔ key x = k
  gt_ : ∀ k x, gt k x = true ↔ lt k (key x)
theorem ltrOrd : KOrd (fun x : Ltr => x.name) ltB eqL gtL := ⟨ltB_irr, ltB_trans, ltB_tri, fun _ _ => decide_eq_true_iff, fun _ _ => decide_eq_true_iff⟩
theorem ocOrd : KOrd (fun o : Oc => o.client) (fun a b : Int => a < b) eqO gtO := ⟨fun k => by omega, fun h k => by omega, fun a b => by omega, fun _ _ => decide_eq_true_iff, fun _ _ => decide_eq_true_iff⟩
section
variable {α κ : Type} {key : α → κ} {lt : κ → κ → Prop} {eq gt : κ → α → Bool}
/-- In order. -/
def Asc (key : α → κ) (lt : κ → κ → Prop) (l : List α) : Prop := (l.map key).Pairwise lt
theorem Asc.of_adj (h : KOrd key lt eq gt) {l : List α} (ha : ∀ j (hj : j < l.length), 0 < j → lt (key (l[j - 1]'(by omega))) (key l[j])) : Asc key lt l := by
  unfold Asc
  rw [List.pairwise_iff_getElem]
  intro i j hi hj hij
  simp only [List.length_map] at hi hj
  simp only [List.getElem_map]
  have aux : ∀ d (hd : i + d + 1 < l.length), lt (key (l[i]'hi)) (key (l[i + d + 1]'hd)) := by
    intro d
    induction d with
    | zero => intro hd; exact ha (i + 1) hd (by omega)
    | succ d ih => intro hd; exact h.trans (ih (by omega)) (ha (i + (d + 1) + 1) hd (by omega))
  have h2 := aux (j - i - 1) (by omega)
  simpa only [show i + (j - i - 1) + 1 = j by omega] using h2
theorem Asc.adj {l : List α} (h : Asc key lt l) : ∀ j (hj : j < l.length), 0 < j → lt (key (l[j - 1]'(by omega))) (key l[j]) := fun j hj h0 => by
  unfold Asc at h
  rw [List.pairwise_iff_getElem] at h
  have := h (j - 1) j (by rw [List.length_map]; omega) (by rw [List.length_map]; omega) (by omega)
  simpa only [List.getElem_map] using this
theorem asc_cons {x : α} {l : List α} : Asc key lt (x :: l) ↔ (∀ y ∈ l, lt (key x) (key y)) ∧ Asc key lt l := by
  unfold Asc
  rw [List.map_cons, List.pairwise_cons]
  simp
end
theorem LtsR.asc {ls : List Ltr} (h : LtsR ls) : Asc (fun x : Ltr => x.name) ltB ls := Asc.of_adj ltrOrd h.rise
theorem OcsR.asc {os : List Oc} (h : OcsR os) : Asc (fun o : Oc => o.client) (fun a b : Int => a < b) os := Asc.of_adj ocOrd h.rise
theorem LtsR.mk' {ls : List Ltr} (h : ∀ x ∈ ls, LtR x) (ha : Asc (fun x : Ltr => x.name) ltB ls) : LtsR ls := ⟨fun j hj => h _ (List.getElem_mem hj), ha.adj⟩
theorem OcsR.mk' {os : List Oc} (h : ∀ x ∈ os, OcR x) (ha : Asc (fun o : Oc => o.client) (fun a b : Int => a < b) os) : OcsR os := ⟨fun j hj => h _ (List.getElem_mem hj), ha.adj⟩
/-- So few, if their numbers are so few. -/
theorem asc_few {os : List Oc} : ∀ {lo_ up : Int}, Asc (fun o : Oc => o.client) (fun a b : Int => a < b) os → (∀ o ∈ os, lo_ ≤ o.client ∧ o.client < up) → (os.length : Int) ≤ max (up - lo_) 0 := by
  induction os with
  | nil => intro lo_ up _ _; simp; omega
  | cons o os ih =>
    intro lo_ up ha hb
    obtain ⟨h1, h2⟩ := asc_cons.1 ha
    have h3 := hb o List.mem_cons_self
    have h4 := ih (lo_ := o.client + 1) (up := up) h2 fun p hp => by
      have h5 := h1 p hp
      have h6 := hb p (List.mem_cons_of_mem _ hp)
      omega
    rw [List.length_cons]
    omega
end Go.Proofs.YtkeapnefdjkhoaaGreatDoor.A
/-
  What entries do, plain: what is refused leaves letters; never twice; in any order; ledgers that may be stay so.
-/
set_option maxRecDepth 100000
set_option linter.unusedSimpArgs false
set_option linter.unusedVariables false
namespace Go.Proofs.YtkeapnefdjkhoaaGreatDoor.A
open Go.RowKit

section
variable {l : Lg} {x : Ltr} {e : Ent} {c : Core} {n : Int} {op a b : Int} {t : ByteArray}
theorem res_same (h : (l.res e n).2 ≠ 0) : (l.res e n).1 = l := by
  unfold Lg.res at h ⊢
  split
  · rfl
  · next h1 =>
    rw [if_neg h1] at h
    split
    · rfl
    · next h2 =>
      rw [if_neg h2] at h
      exact stepped_same h
theorem doF_err (h : (l.doF e n).2 ≠ 0) : (l.doF e n).1.total = l.total ∧ (l.doF e n).1.ls = l.ls := by
  unfold Lg.doF at h ⊢
  split
  · exact ⟨rfl, rfl⟩
  · next h1 =>
    rw [if_neg h1] at h
    split
    · exact ⟨rfl, rfl⟩
    · next h2 =>
      rw [if_neg h2] at h
      have := res_same h
      show (l.res e n).1.total = _ ∧ (l.res e n).1.ls = _
      rw [this]
      exact ⟨rfl, rfl⟩
theorem doF_ok (h : (l.doF e n).2 = 0) : l.stale e.core = false ∧ e.core.check n = 0 ∧ l.known e.core = 0 ∧ endorsedF (l.old e.core.letter) e n = 0 ∧ (l.stepped (l.old e.core.letter) e.core).2 = 0 ∧ (l.doF e n).1 = (l.stepped (l.old e.core.letter) e.core).1.told ⟨e.core.client, e.core.stamp, 0⟩ := by
  unfold Lg.doF at h ⊢
  split at h
  · cases h
  · next h1 =>
    split at h
    · next h2 => exact absurd h h2
    · next h2 =>
      rw [if_neg h1, if_neg h2]
      dsimp only at h
      have hr : l.res e n = l.stepped (l.old e.core.letter) e.core ∧ l.known e.core = 0 ∧ endorsedF (l.old e.core.letter) e n = 0 := by
        unfold Lg.res at h ⊢
        split at h
        · next h3 => exact absurd h h3
        · next h3 =>
          split at h
          · next h4 => exact absurd h h4
          · next h4 => rw [if_neg h3, if_neg h4]; exact ⟨rfl, Classical.byContradiction h3, Classical.byContradiction h4⟩
      obtain ⟨g1, g2, g3⟩ := hr
      refine ⟨by simpa using h1, Classical.byContradiction h2, g2, g3, by rw [← g1]; exact h, ?_⟩
      show (l.res e n).1.told ⟨_, _, (l.res e n).2⟩ = _
      rw [h, g1]
theorem told_last (o : Oc) : (l.told o).last o.client = some o := withG_find (eq := eqO o.client) (show eqO o.client o = true from decide_eq_true rfl)
theorem doF_again (h : (l.doF e n).2 = 0) : (l.doF e n).1.doF e n = ((l.doF e n).1, 10) := by
  obtain ⟨_, _, _, _, _, h6⟩ := doF_ok h
  have hs : (l.doF e n).1.stale e.core = true := by
    unfold Lg.stale
    rw [h6]
    have := told_last (l := (l.stepped (l.old e.core.letter) e.core).1) ⟨e.core.client, e.core.stamp, 0⟩
    dsimp only at this
    rw [this]
    exact decide_eq_true (Int.le_refl _)
  have key : ∀ m : Lg, m.stale e.core = true → m.doF e n = (m, 10) := fun m hm => by
    unfold Lg.doF
    rw [if_pos hm]
  exact key _ hs
theorem endorsed_ok (h : endorsedF x e n = 0) : (parseF (tx (polB x e.core)) n).2 = 0 ∧ (parseF (tx (polB x e.core)) n).1.holds (BitVec.ofNat 32 e.mask) = true := by
  unfold endorsedF at h
  split at h
  · cases h
  · next h1 =>
    split at h
    · cases h
    · next h2 => exact ⟨Classical.byContradiction h1, by simpa using h2⟩
theorem stepped_ok (h : (l.stepped x c).2 = 0) : (x.step c.op c.a c.b c.text).2 = 0 ∧ (l.with_ (nextL x c)).2 = 0 ∧ (l.stepped x c).1 = (if c.op = 7 then { l.putL (nextL x c) with total := (amtAdd l.total (nextL x c).amount).1 } else l.putL (nextL x c)) ∧ (c.op = 7 → (amtAdd l.total (nextL x c).amount).2 = 0) := by
  by_cases h1 : (x.step c.op c.a c.b c.text).2 ≠ 0
  · rw [stepped_a h1] at h; exact absurd h h1
  · by_cases h2 : (l.with_ (nextL x c)).2 ≠ 0
    · rw [stepped_b h1 h2] at h; exact absurd h h2
    · have h0 := (with_ok h2).1
      by_cases h3 : c.op = 7
      · by_cases h4 : (amtAdd l.total (nextL x c).amount).2 ≠ 0
        · rw [stepped_d h1 h2 h3 h4] at h; cases h
        · rw [stepped_e h1 h2 h3 h4, if_pos h3, h0]
          exact ⟨Classical.byContradiction h1, Classical.byContradiction h2, rfl, fun _ => Classical.byContradiction h4⟩
      · rw [stepped_c h1 h2 h3, if_neg h3, h0]
        exact ⟨Classical.byContradiction h1, Classical.byContradiction h2, rfl, fun h => absurd h h3⟩
theorem step_ok (h : (x.step op a b t).2 = 0) : (1 ≤ op ∧ op ≤ 9) ∧ ltrNext x.state op ≠ 0 ∧ (x.does op a b t).2 = 0 ∧ (x.step op a b t).1 = { (x.does op a b t).1 with state := ltrNext x.state op } := by
  unfold Ltr.step at h ⊢
  split at h
  · cases h
  · next h1 =>
    split at h
    · cases h
    · next h2 =>
      split at h
      · next h3 => exact absurd h h3
      · next h3 =>
        rw [if_neg h1, if_neg h2, if_neg h3]
        exact ⟨by omega, h2, Classical.byContradiction h3, rfl⟩
theorem next_from {s op : Int} (h : ltrNext s op ≠ 0) : (0 ≤ s ∧ s ≤ 3 ∨ s = 4 ∧ op = 7) ∧ (op = 1 ↔ s = 0) ∧ (1 ≤ ltrNext s op ∧ ltrNext s op ≤ 7) ∧ (ltrNext s op = 5 ↔ op = 7) ∧ (op = 7 → s = 4) := by
  unfold ltrNext at h ⊢
  by_cases hs : s < 0
  · rw [if_pos hs] at h; exact absurd rfl h
  · rw [if_neg hs] at h ⊢
    obtain ⟨m, rfl⟩ : ∃ m : Nat, s = (m : Int) := ⟨s.toNat, by omega⟩
    rw [Int.toNat_natCast] at h ⊢
    have hm : m < 8 := by
      rcases Nat.lt_or_ge m 8 with h1 | h1
      · exact h1
      · exfalso
        apply h
        rw [List.getD_eq_getElem?_getD, List.getElem?_eq_none, Option.getD_none]
        have : (ltrRow op).length = 8 := by
          unfold ltrRow
          repeat' split
          all_goals rfl
        omega
    have hcase : m = 0 ∨ m = 1 ∨ m = 2 ∨ m = 3 ∨ m = 4 ∨ m = 5 ∨ m = 6 ∨ m = 7 := by omega
    rcases (by omega : op = 1 ∨ op = 2 ∨ op = 3 ∨ op = 4 ∨ op = 5 ∨ op = 6 ∨ op = 7 ∨ op = 8 ∨ op = 9 ∨ (op < 1 ∨ 9 < op)) with rfl | rfl | rfl | rfl | rfl | rfl | rfl | rfl | rfl | ho
    all_goals try (rcases hcase with rfl | rfl | rfl | rfl | rfl | rfl | rfl | rfl <;> revert h <;> decide)
    exfalso
    have h0 : ltrRow op = [0, 0, 0, 0, 0, 0, 0, 0] := by
      unfold ltrRow
      repeat rw [if_neg (by omega)]
    rw [h0] at h
    rcases hcase with rfl | rfl | rfl | rfl | rfl | rfl | rfl | rfl <;> exact h rfl
theorem check_ok (h : c.check n = 0) : (1 ≤ n ∧ n ≤ 7) ∧ (n ≤ c.client ∧ c.client < n + 4) ∧ (1 ≤ c.stamp ∧ c.stamp ≤ 1099511627776) ∧ (1 ≤ c.op ∧ c.op ≤ 9) ∧ nameB c.letter = true ∧ c.text.size ≤ 200 := by
  unfold Core.check at h
  split at h
  · cases h
  · split at h
    · cases h
    · split at h
      · cases h
      · split at h
        · cases h
        · next h4 =>
          split at h
          · cases h
          · exact ⟨by omega, by omega, by omega, by omega, by simpa using h4, by omega⟩
/-- What is paid. -/
def paidF (x : Ltr) : Int := if x.state = 5 then x.amount else 0
def paidL (ls : List Ltr) : Int := (ls.map paidF).sum
/-- A ledger of four replicas, from the empty one on. -/
structure Lg.Keep (l : Lg) : Prop where
  each : ∀ x ∈ l.ls, LtR x
  asc : Asc (fun x : Ltr => x.name) ltB l.ls
  few : l.ls.length ≤ 16
  os : ∀ o ∈ l.os, OcR o ∧ 4 ≤ o.client ∧ o.client < 8
  oasc : Asc (fun o : Oc => o.client) (fun a b : Int => a < b) l.os
  total : isAmt l.total = true
  paid : l.total = paidL l.ls
theorem Lg.Keep.right (h : l.Keep) {s : Int} (hs : 0 ≤ s ∧ s ≤ 1048576) : ({ l with seq := s } : Lg).Right := by
  have hf := asc_few (lo_ := 4) (up := 8) h.oasc fun o ho => (h.os o ho).2
  exact ⟨OcsR.mk' (fun o ho => (h.os o ho).1) h.oasc, hs, h.total, by show l.os.length ≤ 4; omega, LtsR.mk' h.each h.asc, h.few⟩
/-! ### In any order -/
end
end Go.Proofs.YtkeapnefdjkhoaaGreatDoor.A
/-
  Policies' texts, plain: what the document's parser answers, step by step.
-/
set_option maxRecDepth 100000
set_option linter.unusedSimpArgs false
set_option linter.unusedVariables false
namespace Go.Proofs.YtkeapnefdjkhoaaGreatDoor.A
open Go.RowKit

/-- A number, as the document's parser answers. -/
def numF (t : Txt) : Int × Txt × Bool := match numT t with
  | none => (0, t, false)
  | some x => (((x.1 : Nat) : Int), x.2, true)
theorem numF_none {t : Txt} (h : numT t = none) : numF t = (0, t, false) := by unfold numF; rw [h]
theorem numF_some {t : Txt} {x : Nat × Txt} (h : numT t = some x) : numF t = (((x.1 : Nat) : Int), x.2, true) := by unfold numF; rw [h]
theorem numF_no {t : Txt} (h : (numF t).2.2 = false) : numT t = none := by
  cases hq : numT t with
  | none => rfl
  | some x => rw [numF_some hq] at h; cases h
theorem numF_ok {t : Txt} (h : (numF t).2.2 = true) : ∃ v : Nat, numT t = some (v, (numF t).2.1) ∧ (numF t).1 = (v : Int) ∧ (numF t).2.1.length < t.length ∧ v ≤ 9999 := by
  cases hq : numT t with
  | none => rw [numF_none hq] at h; cases h
  | some x =>
    obtain ⟨v, r⟩ := x
    rw [numF_some hq]
    exact ⟨v, rfl, rfl, numT_short hq, numT_le hq⟩
theorem decV_few {l : Txt} {z : Nat} (h : ∀ j (hj : j < l.length), j < z → isDig l[j] = true) : decV (l.take (min z 5)) < 100000 := by
  have h1 := decV_lt (l.take (min z 5)) fun c hc => by
    obtain ⟨j, hj, rfl⟩ := List.getElem_of_mem hc
    rw [List.length_take] at hj
    rw [List.getElem_take]
    exact h j (by omega) (by omega)
  have h2 : 10 ^ (l.take (min z 5)).length ≤ 10 ^ 5 := Nat.pow_le_pow_right (by omega) (by rw [List.length_take]; omega)
  omega
theorem decV_next {l : Txt} {z : Nat} (hq : z < l.length) (h5 : z < 5) : decV (l.take (min (z + 1) 5)) = decV (l.take (min z 5)) * 10 + (l[z].toNat - 48) := by
  rw [Nat.min_eq_left (by omega), Nat.min_eq_left (by omega), List.take_succ_eq_append_getElem hq, decV_snoc]
theorem digs_first {l : Txt} (h : 0 < (digs l).length) (hq : 0 < l.length) : (digs l).head? = some (l[0]'hq) := by
  cases l with
  | nil => simp at hq
  | cons c t =>
    unfold digs at h ⊢
    rw [List.takeWhile_cons] at h ⊢
    split at h
    · next hd => rw [if_pos hd]; rfl
    · simp at h
/-- What the document's parser answers of a policy. -/
def DocP (k : Nat) (l : Txt) (z : Frm × Txt × Bool) : Prop := (polT k l = none → z.2.2 = false) ∧ ∀ x, polT k l = some x → z = (x.1, x.2, true)
def DocR (k : Nat) (l : Txt) (z : List Frm × Txt × Bool) : Prop := (rowT (polT k) l = none → z.2.2 = false) ∧ ∀ x, rowT (polT k) l = some x → z = (x.1, x.2, true)
section
variable {k : Nat} {l : Txt} {y : Frm × Txt × Bool} {w : List Frm × Txt × Bool} {z : Txt × List Frm}
theorem DocP.no (h : DocP k l y) (ho : y.2.2 = false) : polT k l = none := by
  cases hq : polT k l with
  | none => rfl
  | some x => rw [h.2 x hq] at ho; cases ho
theorem DocP.get (h : DocP k l y) (ho : y.2.2 = true) : polT k l = some (y.1, y.2.1) := by
  cases hq : polT k l with
  | none => rw [h.1 hq] at ho; cases ho
  | some x => rw [h.2 x hq]
theorem DocR.no (h : DocR k l w) (ho : w.2.2 = false) : rowT (polT k) l = none := by
  cases hq : rowT (polT k) l with
  | none => rfl
  | some x => rw [h.2 x hq] at ho; cases ho
theorem DocR.get (h : DocR k l w) (ho : w.2.2 = true) : rowT (polT k) l = some (w.1, w.2.1) := by
  cases hq : rowT (polT k) l with
  | none => rw [h.1 hq] at ho; cases ho
  | some x => rw [h.2 x hq]
theorem DocR.of_none (h : rowT (polT k) l = none) (t : Txt) : DocR k l ([], t, false) := ⟨fun _ => rfl, fun x hx => (by rw [h] at hx; cases hx)⟩
theorem DocR.of_some {a : List Frm} {b : Txt} (h : rowT (polT k) l = some (a, b)) : DocR k l (a, b, true) := ⟨fun hx => (by rw [h] at hx; cases hx), fun x hx => (by rw [h] at hx; cases hx; rfl)⟩
theorem DocP.of_none (h : polT k l = none) (hy : y.2.2 = false) : DocP k l y := ⟨fun _ => hy, fun x hx => (by rw [h] at hx; cases hx)⟩
theorem DocP.of_some {a : Frm} {b : Txt} (h : polT k l = some (a, b)) : DocP k l (a, b, true) := ⟨fun hx => (by rw [h] at hx; cases hx), fun x hx => (by rw [h] at hx; cases hx; rfl)⟩
/-- At the head of a round: the text begins with a bracket or a comma. -/
structure DocI (k : Nat) (l : Txt) (z : Txt × List Frm) : Prop where
  pos : 1 ≤ z.1.length
  len : z.1.length ≤ l.length
  few : z.2.length + z.1.length ≤ l.length + 1
  go : ∃ F, z.1.length ≤ F ∧ rowT (polT k) l = rowL (polT k) F (z.1.drop 1) z.2
theorem DocI.start (h : begins (bare l) [40] = true) : DocI k l (bare l, []) := by
  have h1 := begins_len h
  have h2 := bare_len l
  refine ⟨h1, h2, (by simp only [List.length_nil]; omega), l.length + 1, (by simp only; omega), ?_⟩
  unfold rowT
  rw [if_pos h]
theorem DocI.more (h : DocI k l z) : ∃ m, z.1.length ≤ m + 1 ∧ rowT (polT k) l = match polT k (z.1.drop 1) with
    | none => none
    | some (f, r) => if begins (bare r) [41] = true then some (z.2 ++ [f], (bare r).drop 1) else if begins (bare r) [44] = true then rowL (polT k) m ((bare r).drop 1) (z.2 ++ [f]) else none := by
  obtain ⟨F, hF, hR⟩ := h.go
  have hp := h.pos
  obtain ⟨m, rfl⟩ : ∃ m, F = m + 1 := ⟨F - 1, (by omega)⟩
  refine ⟨m, hF, hR.trans ?_⟩
  conv => lhs; unfold rowL
  cases polT k (z.1.drop 1) with
  | none => rfl
  | some x => obtain ⟨f, r⟩ := x; rfl
theorem DocI.no (h : DocI k l z) (hy : DocP k (z.1.drop 1) y) (ho : y.2.2 = false) : rowT (polT k) l = none := by
  obtain ⟨m, _, hR⟩ := h.more
  rw [hR, hy.no ho]
theorem DocI.done (h : DocI k l z) (hy : DocP k (z.1.drop 1) y) (ho : y.2.2 = true) (hb : begins (bare y.2.1) [41] = true) : rowT (polT k) l = some (z.2 ++ [y.1], (bare y.2.1).drop 1) := by
  obtain ⟨m, _, hR⟩ := h.more
  rw [hR, hy.get ho]
  exact if_pos hb
theorem DocI.bad (h : DocI k l z) (hy : DocP k (z.1.drop 1) y) (ho : y.2.2 = true) (hb : ¬ begins (bare y.2.1) [41] = true) (hc : ¬ begins (bare y.2.1) [44] = true) : rowT (polT k) l = none := by
  obtain ⟨m, _, hR⟩ := h.more
  rw [hR, hy.get ho]
  exact (if_neg hb).trans (if_neg hc)
theorem DocI.step (h : DocI k l z) (hy : DocP k (z.1.drop 1) y) (ho : y.2.2 = true) (hb : ¬ begins (bare y.2.1) [41] = true) (hc : begins (bare y.2.1) [44] = true) : DocI k l (bare y.2.1, z.2 ++ [y.1]) ∧ (bare y.2.1).length < z.1.length := by
  obtain ⟨m, hm, hR⟩ := h.more
  have hg := hy.get ho
  have hs := polT_short k _ _ _ hg
  rw [List.length_drop] at hs
  have hbl := bare_len y.2.1
  have hp := h.pos
  have hl := h.len
  have hf := h.few
  have hcl := begins_len hc
  simp only [List.length_singleton] at hcl
  rw [hg] at hR
  refine ⟨⟨hcl, (by simp only; omega), (by simp only [List.length_append, List.length_singleton]; omega), m, (by simp only; omega), ?_⟩, (by omega)⟩
  rw [hR]
  exact (if_neg hb).trans (if_pos hc)
/-! ### Policies -/
theorem DocP.deep (hy : y.2.2 = false) : DocP 0 l y := DocP.of_none rfl hy
theorem DocP.all (hb : begins (bare l) [97, 108, 108] = true) (hw : DocR k ((bare l).drop 3) w) : DocP (k + 1) l (.mk 0 w.1.length w.1, w.2.1, w.2.2) := by
  have e : polT (k + 1) l = (rowT (polT k) ((bare l).drop 3)).map fun x => (.mk 0 x.1.length x.1, x.2) := by
    conv => lhs; unfold polT
    rw [if_pos hb]
  cases hq : rowT (polT k) ((bare l).drop 3) with
  | none => rw [hq] at e; exact DocP.of_none e (hw.1 hq)
  | some x => rw [hq] at e; rw [hw.2 x hq]; exact DocP.of_some e
theorem DocP.any (ha : ¬ begins (bare l) [97, 108, 108] = true) (hb : begins (bare l) [97, 110, 121] = true) (hw : DocR k ((bare l).drop 3) w) : DocP (k + 1) l (.mk 0 1 w.1, w.2.1, w.2.2) := by
  have e : polT (k + 1) l = (rowT (polT k) ((bare l).drop 3)).map fun x => (.mk 0 1 x.1, x.2) := by
    conv => lhs; unfold polT
    rw [if_neg ha, if_pos hb]
  cases hq : rowT (polT k) ((bare l).drop 3) with
  | none => rw [hq] at e; exact DocP.of_none e (hw.1 hq)
  | some x => rw [hq] at e; rw [hw.2 x hq]; exact DocP.of_some e
theorem DocP.bad (ha : ¬ begins (bare l) [97, 108, 108] = true) (hb : ¬ begins (bare l) [97, 110, 121] = true) (hn : (numF (bare l)).2.2 = false) (hy : y.2.2 = false) : DocP (k + 1) l y :=
  DocP.of_none (by rw [pol_num ha hb, numF_no hn]) hy
theorem DocP.org (ha : ¬ begins (bare l) [97, 108, 108] = true) (hb : ¬ begins (bare l) [97, 110, 121] = true) (hn : (numF (bare l)).2.2 = true) (hof : ¬ begins (bare (numF (bare l)).2.1) [111, 102] = true) : DocP (k + 1) l (.mk (numF (bare l)).1 0 [], (numF (bare l)).2.1, true) := by
  obtain ⟨v, h1, h2, _⟩ := numF_ok hn
  refine DocP.of_some ?_
  rw [pol_num ha hb, h1, h2]
  exact if_neg hof
theorem DocP.of (ha : ¬ begins (bare l) [97, 108, 108] = true) (hb : ¬ begins (bare l) [97, 110, 121] = true) (hn : (numF (bare l)).2.2 = true) (hof : begins (bare (numF (bare l)).2.1) [111, 102] = true) (hw : DocR k ((bare (numF (bare l)).2.1).drop 2) w) {o : Bool}
    (ho : o = true ↔ w.2.2 = true ∧ 1 ≤ (numF (bare l)).1 ∧ (numF (bare l)).1 ≤ 99) : DocP (k + 1) l (.mk 0 (numF (bare l)).1 w.1, w.2.1, o) := by
  obtain ⟨v, h1, h2, _⟩ := numF_ok hn
  rw [h2] at ho ⊢
  have e := pol_num (k := k) ha hb
  rw [h1] at e
  dsimp only at e
  rw [if_pos hof] at e
  by_cases hv : 1 ≤ v ∧ v ≤ 99
  · rw [if_pos hv] at e
    cases hq : rowT (polT k) ((bare (numF (bare l)).2.1).drop 2) with
    | none =>
      rw [hq] at e
      refine DocP.of_none e ?_
      have := hw.1 hq
      cases o with
      | false => rfl
      | true => rw [(ho.1 rfl).1] at this; cases this
    | some x =>
      rw [hq] at e
      have hx := hw.2 x hq
      have ho2 : o = true := ho.2 ⟨(by rw [hx]), (by omega), (by omega)⟩
      rw [ho2, hx]
      exact DocP.of_some e
  · rw [if_neg hv] at e
    refine DocP.of_none e ?_
    cases o with
    | false => rfl
    | true => have := ho.1 rfl; exact absurd ⟨(by omega), (by omega)⟩ hv
theorem doc_odd {n : Int} (h : ¬ 200 < l.length) (hy : DocP 10 l y) (ho : y.2.2 = false ∨ ¬ bare y.2.1 = []) : parseF l n = (.mk 0 0 [], 2) := by
  unfold parseF
  rw [if_neg h]
  cases hq : polT 10 l with
  | none => rfl
  | some x =>
    obtain ⟨f, r⟩ := x
    rw [hy.2 _ hq] at ho
    rcases ho with ho | ho
    · cases ho
    · exact if_pos ho
theorem doc_end {n : Int} (h : ¬ 200 < l.length) (hy : DocP 10 l y) (ho : y.2.2 = true) (hb : bare y.2.1 = []) : y.1.nodes ≤ l.length ∧ parseF l n = if y.1.check n ≠ 0 then (.mk 0 0 [], y.1.check n) else (y.1, 0) := by
  have hg := hy.get ho
  have hn := polT_nodes 10 _ _ _ hg
  refine ⟨(by omega), ?_⟩
  unfold parseF
  rw [if_neg h, hg]
  exact if_neg (by rw [hb]; simp)
end
end Go.Proofs.YtkeapnefdjkhoaaGreatDoor.A
/-
  Policies' texts: the document's parser.
-/
set_option maxRecDepth 100000
set_option linter.unusedSimpArgs false
set_option linter.unusedVariables false
namespace Go.Proofs.YtkeapnefdjkhoaaGreatDoor.A
open Go.RowKit

section
variable {l wd : Txt} {k : Nat} {d n : Int}
theorem cut_digs {z : Nat} (h : ∀ j (hj : j < l.length), j < z → isDig l[j] = true) (hz : z ≤ l.length) (hs : ∀ hq : z < l.length, ¬ isDig (l[z]'hq) = true) : z = (digs l).length := by
  rcases Nat.lt_or_ge z l.length with h1 | h1
  · exact (digs_stop h1 h (hs h1)).symm
  · exact ((digs_all fun j hj => h j hj (by omega)).trans (by omega)).symm
set_option maxHeartbeats 2000000 in
theorem rnumber_s (hl : l.length ≤ 100000) : Spec Tryz.prog 42 [stA l] [] (fun _ : Unit => []) (fun _ => .tup [int (numF l).1, stA (numF l).2.1, boo (numF l).2.2]) := by
  have hdl := digs_len l
  refine spec_of Tryz.func42 rfl Tryz.ntmps42 rfl fun G w => ?_
  refine SC.seq (SC.region ?_)
  refine SL.val (Val.assign rfl) rfl rfl ?_
  refine SL.val (Val.assign rfl) rfl rfl ?_
  refine SL.val (Val.assign rfl) rfl rfl ?_
  refine SL.nil (SE.seq ?_)
  refine SC.seq (SC.region ?_)
  refine SL.val (Val.assign rfl) rfl rfl ?_
  refine SL.val (Val.assign rfl) rfl rfl ?_
  refine SL.nil (SE.seq ?_)
  refine SC.cutS (ι := Unit) (fun z => []) (fun z => [(0, stA l), (5, int ((digs l).length : Nat)), (6, int (decV (l.take (min (digs l).length 5)) : Nat))]) (fun z => True) ?_ ?_
  · skip
    refine SC.block ?_
    refine SC.loop (ι := Nat) (fun z => []) (fun z => [(0, stA l), (5, int (z : Nat)), (6, int (decV (l.take (min z 5)) : Nat))]) (fun z => z ≤ l.length ∧ ∀ j (hj : j < l.length), j < z → isDig l[j] = true) (fun z => l.length - z) (0) (⟨Nat.zero_le _, fun j _ h => absurd h (by omega)⟩) (by exact ⟨rfl, rfl, rfl, trivial⟩) (by repeat first|exact s0 _|exact s1 _|apply s2|apply s3) ?_
    intro z hz
    refine SC.seq ?_
    refine SC.seq (SC.region ?_)
    refine SL.val (Val.move rfl) rfl rfl ?_
    refine SL.val (Val.move rfl) rfl rfl ?_
    refine SL.val (Val.to (C := int ((l.length : Nat) : Int)) (Val.lenSt rfl Tryz.underlying9) rfl) rfl rfl ?_
    refine SL.val (Val.ltI rfl rfl) rfl rfl ?_
    refine SL.val (Val.move rfl) rfl rfl ?_
    refine SL.bothP (t := 11) rfl ?_ ?_
    rotate_left
    · intro hc11
      iterate 4 refine SL.skip rfl rfl ?_
      refine SL.val (Val.pickF rfl rfl) rfl rfl ?_
      refine SL.val (Val.move rfl) rfl rfl ?_
      iterate 4 refine SL.skip rfl rfl ?_
      refine SL.val (Val.pickF rfl rfl) rfl rfl ?_
      refine SL.nil (SE.seq ?_)
      refine SC.condF rfl ?_
      refine SC.exit ?_
      refine SE.then_ (by intro h; cases h) ?_
      refine SE.then_ (by intro h; cases h) ?_
      refine SE.exit ?_
      have hdz := cut_digs hz.2 hz.1 fun hq2 hdd => by
        have h3 := of_decide_eq_true (show decide (48 ≤ (l[z]'hq2).toNat ∧ (l[z]'hq2).toNat ≤ 57) = true from hdd)
        omega
      refine SE.meet (()) (trivial) (by exact ⟨rfl, congrArg (fun k : Nat => some (int (k : Nat))) hdz, congrArg (fun k : Nat => some (int (decV (l.take (min k 5)) : Nat))) hdz, trivial⟩) (by repeat first|exact s0 _|exact s1 _|apply s2|apply s3)
    intro hc11
    have hq : z < l.length := by omega
    refine SL.val (Val.move rfl) rfl rfl ?_
    refine SL.val (Val.move rfl) rfl rfl ?_
    refine SL.val (Val.to (C := .v (.int .u8 ((l[z]'hq).toNat : Nat))) (Val.indexSt (s := ⟨l.toArray⟩) (q := z) rfl rfl rfl hq Tryz.underlying9) rfl) rfl rfl ?_
    refine SL.val (Val.geI rfl rfl) rfl rfl ?_
    refine SL.val (Val.pickT rfl rfl) rfl rfl ?_
    refine SL.val (Val.move rfl) rfl rfl ?_
    refine SL.bothP (t := 17) rfl ?_ ?_
    rotate_left
    · intro hc17
      iterate 4 refine SL.skip rfl rfl ?_
      refine SL.val (Val.pickF rfl rfl) rfl rfl ?_
      refine SL.nil (SE.seq ?_)
      refine SC.condF rfl ?_
      refine SC.exit ?_
      refine SE.then_ (by intro h; cases h) ?_
      refine SE.then_ (by intro h; cases h) ?_
      refine SE.exit ?_
      have hdz := cut_digs hz.2 hz.1 fun hq2 hdd => by
        have h3 := of_decide_eq_true (show decide (48 ≤ (l[z]'hq2).toNat ∧ (l[z]'hq2).toNat ≤ 57) = true from hdd)
        omega
      refine SE.meet (()) (trivial) (by exact ⟨rfl, congrArg (fun k : Nat => some (int (k : Nat))) hdz, congrArg (fun k : Nat => some (int (decV (l.take (min k 5)) : Nat))) hdz, trivial⟩) (by repeat first|exact s0 _|exact s1 _|apply s2|apply s3)
    intro hc17
    refine SL.val (Val.move rfl) rfl rfl ?_
    refine SL.val (Val.move rfl) rfl rfl ?_
    refine SL.val (Val.to (C := .v (.int .u8 ((l[z]'hq).toNat : Nat))) (Val.indexSt (s := ⟨l.toArray⟩) (q := z) rfl rfl rfl hq Tryz.underlying9) rfl) rfl rfl ?_
    refine SL.val (Val.leI rfl rfl) rfl rfl ?_
    refine SL.val (Val.pickT rfl rfl) rfl rfl ?_
    refine SL.nil (SE.seq ?_)
    refine SC.condP rfl ?_ ?_
    rotate_left
    · intro hc22
      refine SC.exit ?_
      refine SE.then_ (by intro h; cases h) ?_
      refine SE.then_ (by intro h; cases h) ?_
      refine SE.exit ?_
      have hdz := cut_digs hz.2 hz.1 fun hq2 hdd => by
        have h3 := of_decide_eq_true (show decide (48 ≤ (l[z]'hq2).toNat ∧ (l[z]'hq2).toNat ≤ 57) = true from hdd)
        omega
      refine SE.meet (()) (trivial) (by exact ⟨rfl, congrArg (fun k : Nat => some (int (k : Nat))) hdz, congrArg (fun k : Nat => some (int (decV (l.take (min k 5)) : Nat))) hdz, trivial⟩) (by repeat first|exact s0 _|exact s1 _|apply s2|apply s3)
    intro hc22
    have hdv : decV (l.take (min z 5)) < 100000 := decV_few hz.2
    have h8 := (l[z]'hq).toNat_lt
    refine SC.skip ?_
    refine SE.seq ?_
    refine SC.block ?_
    refine SC.seq ?_
    refine SC.seq (SC.region ?_)
    refine SL.val (Val.move rfl) rfl rfl ?_
    refine SL.val (Val.ltI rfl rfl) rfl rfl ?_
    refine SL.nil (SE.seq ?_)
    refine SC.condP rfl ?_ ?_
    rotate_left
    · intro hc24
      refine SC.skip ?_
      refine SE.seq ?_
      refine SC.region ?_
      refine SL.val (Val.move rfl) rfl rfl ?_
      first
        | refine SL.val (Val.addI rfl rfl (by simp only [InR, lo, hi]; omega)) rfl rfl ?_
        | refine SL.val (Val.addW rfl rfl) rfl rfl ?_
      refine SL.val (Val.assign rfl) rfl rfl ?_
      refine SL.nil ?_
      refine SE.inBlock ?_
      have hdd : isDig (l[z]'hq) = true := decide_eq_true (by omega)
      have hnx : min (z + 1) 5 = min z 5 := by omega
      refine SE.round (z + 1) (by first | omega | (dsimp only; omega)) (⟨hq, fun j hj h => by rcases Nat.lt_or_ge j z with h1 | h1; exact hz.2 j hj h1; obtain rfl : j = z := (by omega); exact hdd⟩) (by exact ⟨rfl, rfl, congrArg (fun x : Nat => some (int (x : Nat))) (by rw [hnx]), trivial⟩) (by repeat first|exact s0 _|exact s1 _|apply s2|apply s3)
    intro hc24
    refine SC.region ?_
    refine SL.val (Val.move rfl) rfl rfl ?_
    first
      | refine SL.val (Val.mulI rfl rfl (by simp only [InR, lo, hi]; omega)) rfl rfl ?_
      | refine SL.val (Val.mulW rfl rfl) rfl rfl ?_
    refine SL.val (Val.move rfl) rfl rfl ?_
    refine SL.val (Val.move rfl) rfl rfl ?_
    refine SL.val (Val.to (C := .v (.int .u8 ((l[z]'hq).toNat : Nat))) (Val.indexSt (s := ⟨l.toArray⟩) (q := z) rfl rfl rfl hq Tryz.underlying9) rfl) rfl rfl ?_
    first
      | refine SL.val (Val.subI rfl rfl (by simp only [InR, lo, hi]; omega)) rfl rfl ?_
      | refine SL.val (Val.subW rfl rfl) rfl rfl ?_
    first
      | refine SL.val (Val.convI rfl Tryz.underlying3 (by kernel_rfl) (by simp only [InR, lo, hi]; omega)) rfl rfl ?_
      | refine SL.val (Val.convW rfl Tryz.underlying3 (by kernel_rfl)) rfl rfl ?_
    first
      | refine SL.val (Val.addI rfl rfl (by simp only [InR, lo, hi]; omega)) rfl rfl ?_
      | refine SL.val (Val.addW rfl rfl) rfl rfl ?_
    refine SL.val (Val.assign rfl) rfl rfl ?_
    refine SL.nil (SE.seq ?_)
    refine SC.region ?_
    refine SL.val (Val.move rfl) rfl rfl ?_
    first
      | refine SL.val (Val.addI rfl rfl (by simp only [InR, lo, hi]; omega)) rfl rfl ?_
      | refine SL.val (Val.addW rfl rfl) rfl rfl ?_
    refine SL.val (Val.assign rfl) rfl rfl ?_
    refine SL.nil ?_
    refine SE.inBlock ?_
    have hdd : isDig (l[z]'hq) = true := decide_eq_true (by omega)
    have hnx := decV_next hq (by omega)
    refine SE.round (z + 1) (by first | omega | (dsimp only; omega)) (⟨hq, fun j hj h => by rcases Nat.lt_or_ge j z with h1 | h1; exact hz.2 j hj h1; obtain rfl : j = z := (by omega); exact hdd⟩) (by exact ⟨rfl, rfl, congrArg (fun x : Int => some (int x)) (by rw [hnx]; omega), trivial⟩) (by repeat first|exact s0 _|exact s1 _|apply s2|apply s3)
  · intro z hz
    refine SC.seq ?_
    refine SC.seq (SC.region ?_)
    refine SL.val (Val.move rfl) rfl rfl ?_
    refine SL.val (Val.eqI rfl rfl) rfl rfl ?_
    refine SL.val (Val.move rfl) rfl rfl ?_
    refine SL.bothP (t := 37) rfl ?_ ?_
    · intro hc37
      iterate 2 refine SL.skip rfl rfl ?_
      refine SL.val (Val.pickT rfl rfl) rfl rfl ?_
      refine SL.val (Val.move rfl) rfl rfl ?_
      iterate 7 refine SL.skip rfl rfl ?_
      refine SL.val (Val.pickT rfl rfl) rfl rfl ?_
      refine SL.nil (SE.seq ?_)
      refine SC.condT rfl ?_
      refine SC.seq (SC.region ?_)
      refine SL.val (Val.move rfl) rfl rfl ?_
      refine SL.val (Val.assign rfl) rfl rfl ?_
      refine SL.val (Val.assign rfl) rfl rfl ?_
      refine SL.val (Val.assign rfl) rfl rfl ?_
      refine SL.nil (SE.seq ?_)
      refine SC.ret ?_
      refine SE.then_ (by intro h; cases h) ?_
      have hnn : numT l = none := by
        refine if_pos ?_
        first
          | exact .inl (by omega)
          | exact .inr (.inl (by omega))
          | exact .inr (.inr ⟨by omega, by rw [hdf]; exact congrArg some (UInt8.toNat_inj.1 (by show _ = 48; omega))⟩)
      refine SE.fin (rs := [.tmp 2, .tmp 3, .tmp 4]) rfl (RV.tmp rfl (RV.tmp rfl (RV.tmp rfl RV.nil))) (()) (by repeat first|exact s0 _|exact s1 _|apply s2|apply s3) (by simp [It.rids]) ?_
      rw [numF_none hnn]
      rfl
    intro hc37
    have hq0 : 0 < l.length := by omega
    have hdf := digs_first (l := l) (by omega) hq0
    refine SL.val (Val.move rfl) rfl rfl ?_
    refine SL.val (Val.gtI rfl rfl) rfl rfl ?_
    refine SL.val (Val.pickF rfl rfl) rfl rfl ?_
    refine SL.val (Val.move rfl) rfl rfl ?_
    refine SL.bothP (t := 41) rfl ?_ ?_
    · intro hc41
      iterate 7 refine SL.skip rfl rfl ?_
      refine SL.val (Val.pickT rfl rfl) rfl rfl ?_
      refine SL.nil (SE.seq ?_)
      refine SC.condT rfl ?_
      refine SC.seq (SC.region ?_)
      refine SL.val (Val.move rfl) rfl rfl ?_
      refine SL.val (Val.assign rfl) rfl rfl ?_
      refine SL.val (Val.assign rfl) rfl rfl ?_
      refine SL.val (Val.assign rfl) rfl rfl ?_
      refine SL.nil (SE.seq ?_)
      refine SC.ret ?_
      refine SE.then_ (by intro h; cases h) ?_
      have hnn : numT l = none := by
        refine if_pos ?_
        first
          | exact .inl (by omega)
          | exact .inr (.inl (by omega))
          | exact .inr (.inr ⟨by omega, by rw [hdf]; exact congrArg some (UInt8.toNat_inj.1 (by show _ = 48; omega))⟩)
      refine SE.fin (rs := [.tmp 2, .tmp 3, .tmp 4]) rfl (RV.tmp rfl (RV.tmp rfl (RV.tmp rfl RV.nil))) (()) (by repeat first|exact s0 _|exact s1 _|apply s2|apply s3) (by simp [It.rids]) ?_
      rw [numF_none hnn]
      rfl
    intro hc41
    refine SL.val (Val.move rfl) rfl rfl ?_
    refine SL.val (Val.gtI rfl rfl) rfl rfl ?_
    refine SL.val (Val.move rfl) rfl rfl ?_
    refine SL.bothP (t := 44) rfl ?_ ?_
    rotate_left
    · intro hc44
      iterate 3 refine SL.skip rfl rfl ?_
      refine SL.val (Val.pickF rfl rfl) rfl rfl ?_
      refine SL.val (Val.pickF rfl rfl) rfl rfl ?_
      refine SL.nil (SE.seq ?_)
      refine SC.condF rfl ?_
      refine SC.skip ?_
      refine SE.seq ?_
      refine SC.seq ?_
      refine SC.draw [] (.q 0 (.q 1 (.q 2 (.q 3 (.q 4 (.q 5 (.q 6 .nil))))))) (by kernel_rfl) (by kernel_rfl) ?_
      refine SX.val rfl (Val.move rfl) (by simp) rfl rfl ?_
      refine SX.val rfl (Val.move rfl) (by simp) rfl rfl ?_
      refine SX.val rfl (Val.move rfl) (by simp) rfl rfl ?_
      refine SX.hx (by first|(simp[mids,It.mids,ownPc];done)|(intro k hk;simp[mids,It.mids,ownPc] at hk ⊢;grind)) fun hx9 => ?_
      refine SX.val rfl (Val.to (C := stA (l.drop (digs l).length)) (Val.sliceStLo (q := (digs l).length) Tryz.underlying9 rfl rfl rfl (by simp only [tx_size]; omega)) (st_lo _ _)) hx9 rfl rfl ?_
      refine SX.val rfl (Val.assign rfl) (by simp) rfl rfl ?_
      refine SX.val rfl (Val.assign rfl) (by simp) rfl rfl ?_
      refine SX.val rfl (Val.assign rfl) (by simp) rfl rfl ?_
      refine SX.nil (SE.seq ?_)
      refine SC.ret ?_
      have hnn : numT l = some (decV (digs l), l.drop (digs l).length) := if_neg (by
        rintro (h | h | ⟨h1, h2⟩)
        · omega
        · omega
        · first
            | omega
            | (rw [hdf] at h2; have h3 := congrArg UInt8.toNat (Option.some.inj h2); have h4 : (48 : UInt8).toNat = 48 := rfl; omega))
      refine SE.fin (rs := [.tmp 2, .tmp 3, .tmp 4]) rfl (RV.tmp rfl (RV.tmp rfl (RV.tmp rfl RV.nil))) (()) (by repeat first|exact s0 _|exact s1 _|apply s2|apply s3) (by simp [It.rids]) ?_
      rw [numF_some hnn, Nat.min_eq_left (show (digs l).length ≤ 5 by omega), take_digs]
      rfl
    intro hc44
    refine SL.val (Val.move rfl) rfl rfl ?_
    refine SL.val (Val.to (C := .v (.int .u8 ((l[0]'hq0).toNat : Nat))) (Val.indexSt (s := ⟨l.toArray⟩) (q := 0) rfl rfl rfl hq0 Tryz.underlying9) rfl) rfl rfl ?_
    refine SL.val (Val.eqI rfl rfl) rfl rfl ?_
    refine SL.val (Val.pickT rfl rfl) rfl rfl ?_
    refine SL.val (Val.pickF rfl rfl) rfl rfl ?_
    refine SL.nil (SE.seq ?_)
    refine SC.condP rfl ?_ ?_
    · intro hc49
      refine SC.seq (SC.region ?_)
      refine SL.val (Val.move rfl) rfl rfl ?_
      refine SL.val (Val.assign rfl) rfl rfl ?_
      refine SL.val (Val.assign rfl) rfl rfl ?_
      refine SL.val (Val.assign rfl) rfl rfl ?_
      refine SL.nil (SE.seq ?_)
      refine SC.ret ?_
      refine SE.then_ (by intro h; cases h) ?_
      have hnn : numT l = none := by
        refine if_pos ?_
        first
          | exact .inl (by omega)
          | exact .inr (.inl (by omega))
          | exact .inr (.inr ⟨by omega, by rw [hdf]; exact congrArg some (UInt8.toNat_inj.1 (by show _ = 48; omega))⟩)
      refine SE.fin (rs := [.tmp 2, .tmp 3, .tmp 4]) rfl (RV.tmp rfl (RV.tmp rfl (RV.tmp rfl RV.nil))) (()) (by repeat first|exact s0 _|exact s1 _|apply s2|apply s3) (by simp [It.rids]) ?_
      rw [numF_none hnn]
      rfl
    intro hc49
    refine SC.skip ?_
    refine SE.seq ?_
    refine SC.seq ?_
    refine SC.draw [] (.q 0 (.q 1 (.q 2 (.q 3 (.q 4 (.q 5 (.q 6 .nil))))))) (by kernel_rfl) (by kernel_rfl) ?_
    refine SX.val rfl (Val.move rfl) (by simp) rfl rfl ?_
    refine SX.val rfl (Val.move rfl) (by simp) rfl rfl ?_
    refine SX.val rfl (Val.move rfl) (by simp) rfl rfl ?_
    refine SX.hx (by first|(simp[mids,It.mids,ownPc];done)|(intro k hk;simp[mids,It.mids,ownPc] at hk ⊢;grind)) fun hx9 => ?_
    refine SX.val rfl (Val.to (C := stA (l.drop (digs l).length)) (Val.sliceStLo (q := (digs l).length) Tryz.underlying9 rfl rfl rfl (by simp only [tx_size]; omega)) (st_lo _ _)) hx9 rfl rfl ?_
    refine SX.val rfl (Val.assign rfl) (by simp) rfl rfl ?_
    refine SX.val rfl (Val.assign rfl) (by simp) rfl rfl ?_
    refine SX.val rfl (Val.assign rfl) (by simp) rfl rfl ?_
    refine SX.nil (SE.seq ?_)
    refine SC.ret ?_
    have hnn : numT l = some (decV (digs l), l.drop (digs l).length) := if_neg (by
      rintro (h | h | ⟨h1, h2⟩)
      · omega
      · omega
      · first
          | omega
          | (rw [hdf] at h2; have h3 := congrArg UInt8.toNat (Option.some.inj h2); have h4 : (48 : UInt8).toNat = 48 := rfl; omega))
    refine SE.fin (rs := [.tmp 2, .tmp 3, .tmp 4]) rfl (RV.tmp rfl (RV.tmp rfl (RV.tmp rfl RV.nil))) (()) (by repeat first|exact s0 _|exact s1 _|apply s2|apply s3) (by simp [It.rids]) ?_
    rw [numF_some hnn, Nat.min_eq_left (show (digs l).length ≤ 5 by omega), take_digs]
    rfl
set_option maxHeartbeats 2000000 in
theorem rrow_s (hd : 0 ≤ d ∧ d ≤ 100) (hp : ∀ l : Txt, l.length ≤ 1000 → Spec Tryz.prog 23 [stA l, int (d + 1)] [] (fun _ : {z : Frm × Txt × Bool // DocP k l z} => []) (fun z => .tup [.agg z.1.1.abs, stA z.1.2.1, boo z.1.2.2])) (hl : l.length ≤ 1000) : Spec Tryz.prog 41 [stA l, int d] [] (fun _ : {z : List Frm × Txt × Bool // DocR k l z} => []) (fun z => .tup [.sl 3 (z.1.1.map Frm.abs), stA z.1.2.1, boo z.1.2.2]) := by
  refine spec_of Tryz.func41 rfl Tryz.ntmps41 rfl fun G w => ?_
  refine SC.seq (SC.region ?_)
  refine SL.val (Val.assign rfl) rfl rfl ?_
  refine SL.val (Val.assign rfl) rfl rfl ?_
  refine SL.val (Val.assign rfl) rfl rfl ?_
  refine SL.nil (SE.seq ?_)
  refine SC.seq (SC.region ?_)
  refine SL.val (Val.move rfl) rfl rfl ?_
  refine SL.call (rbare_s (l := l)) Casts.refl (by kernel_rfl) rfl rfl rfl ?_
  refine After.pure (by repeat first|exact .nil|refine .blk (by repeat first|assumption|exact m0|apply m1) ?_|refine .rd (by repeat first|assumption|exact m0|apply m1) ?_|refine .pc (by repeat first|assumption|exact m0|apply m1) ?_|refine .rdpc (by repeat first|assumption|exact m0|apply m1) ?_) (fun _ => rfl) ?_
  intro _
  refine SL.val (Val.assign rfl) rfl rfl ?_
  refine SL.nil (SE.seq ?_)
  refine SC.seq ?_
  refine SC.seq (SC.region ?_)
  refine SL.val (Val.move rfl) rfl rfl ?_
  refine SL.call (rbegins_s (l := (bare l)) (wd := [40])) Casts.refl (by kernel_rfl) rfl rfl rfl ?_
  refine After.pure (by repeat first|exact .nil|refine .blk (by repeat first|assumption|exact m0|apply m1) ?_|refine .rd (by repeat first|assumption|exact m0|apply m1) ?_|refine .pc (by repeat first|assumption|exact m0|apply m1) ?_|refine .rdpc (by repeat first|assumption|exact m0|apply m1) ?_) (fun _ => rfl) ?_
  intro _
  refine SL.val (Val.notB rfl) rfl rfl ?_
  refine SL.nil (SE.seq ?_)
  refine SC.cond rfl ?_ ?_
  · intro hc15
    have hb0 : ¬ begins (bare l) [40] = true := by simpa using hc15
    refine SC.seq (SC.region ?_)
    refine SL.val (Val.move rfl) rfl rfl ?_
    refine SL.val (Val.assign rfl) rfl rfl ?_
    refine SL.val (Val.assign rfl) rfl rfl ?_
    refine SL.val (Val.assign rfl) rfl rfl ?_
    refine SL.nil (SE.seq ?_)
    refine SC.ret ?_
    refine SE.then_ (by intro h; cases h) ?_
    refine SE.finC (rs := [.tmp 4, .tmp 5, .tmp 6]) rfl (RV.tmp rfl (RV.tmp rfl (RV.tmp rfl RV.nil))) (Casts.nils (s := 3) Casts.refl) (⟨([], bare l, false), DocR.of_none (if_neg hb0) _⟩) (by repeat first|exact s0 _|exact s1 _|apply s2|apply s3) (by simp [It.rids]) ?_
    exact rfl
  intro hc15
  have hb0 : begins (bare l) [40] = true := by simpa using hc15
  refine SC.skip ?_
  refine SE.seq ?_
  refine SC.seq (SC.region ?_)
  refine SL.val (Val.assign rfl) rfl rfl ?_
  refine SL.nil (SE.seq ?_)
  refine SC.block ?_
  refine SC.own0 44 3 ?_
  refine SC.loop (ι := Txt × List Frm × Value) (fun z => [own 44 3 z.2.2 (z.2.1.map Frm.abs)]) (fun z => [(0, stA z.1), (1, int d), (7, .v z.2.2)]) (fun z => DocI k l (z.1, z.2.1)) (fun z => z.1.length) (bare l, [], .slice none 0 0) (DocI.start hb0) (by exact ⟨rfl, rfl, rfl, trivial⟩) (by repeat first|exact s0 _|exact s1 _|apply s2|apply s3) ?_
  intro z hz
  have hzp := hz.pos
  have hzl := hz.len
  have hzf := hz.few
  dsimp only at hzp hzl hzf
  refine SC.block ?_
  refine SC.seq (SC.region ?_)
  refine SL.val (Val.move rfl) rfl rfl ?_
  refine SL.val (Val.to (C := stA (z.1.drop 1)) (Val.sliceStLo (q := 1) Tryz.underlying9 rfl rfl rfl (by simp only [tx_size]; omega)) (st_lo _ _)) rfl rfl ?_
  refine SL.val (Val.move rfl) rfl rfl ?_
  first
    | refine SL.val (Val.addI rfl rfl (by simp only [InR, lo, hi]; omega)) rfl rfl ?_
    | refine SL.val (Val.addW rfl rfl) rfl rfl ?_
  refine SL.call (hp (z.1.drop 1) (by have := hz.len; rw [List.length_drop]; omega)) Casts.refl (by kernel_rfl) rfl rfl rfl ?_
  refine After.pure (by repeat first|exact .nil|refine .blk (by repeat first|assumption|exact m0|apply m1) ?_|refine .rd (by repeat first|assumption|exact m0|apply m1) ?_|refine .pc (by repeat first|assumption|exact m0|apply m1) ?_|refine .rdpc (by repeat first|assumption|exact m0|apply m1) ?_) (fun _ => rfl) ?_
  intro y
  refine SL.val (Val.move rfl) rfl rfl ?_
  refine SL.val (Val.extract rfl rfl) rfl rfl ?_
  refine SL.val (Val.extract rfl rfl) rfl rfl ?_
  refine SL.val (Val.extract rfl rfl) rfl rfl ?_
  refine SL.eff (Eff.alloc tabOk rfl) rfl rfl ?_
  rintro _ _ ⟨b8, rfl, rfl⟩
  refine SL.eff (Eff.store (L' := y.1.1.abs) tabOk rfl rfl rfl (by repeat first|assumption|exact Upd.here|apply Upd.there) (by exact Frm.abs_len _) (Nat.le_of_ble_eq_true (by rfl)) (by exact Frm.abs_ones _) (putL_whole (by exact Frm.abs_len _))) rfl rfl ?_
  rintro _ _ ⟨rfl, rfl⟩
  refine SL.val (Val.assign rfl) rfl rfl ?_
  refine SL.val (Val.assign rfl) rfl rfl ?_
  refine SL.nil (SE.seq ?_)
  refine SC.seq ?_
  refine SC.seq (SC.region ?_)
  refine SL.val (Val.move rfl) rfl rfl ?_
  refine SL.val (Val.notB rfl) rfl rfl ?_
  refine SL.nil (SE.seq ?_)
  refine SC.cond rfl ?_ ?_
  · intro hc27
    have ho : y.1.2.2 = false := by simpa using hc27
    refine SC.seq (SC.region ?_)
    refine SL.val (Val.move rfl) rfl rfl ?_
    refine SL.val (Val.assign rfl) rfl rfl ?_
    refine SL.val (Val.assign rfl) rfl rfl ?_
    refine SL.val (Val.assign rfl) rfl rfl ?_
    refine SL.nil (SE.seq ?_)
    refine SC.ret ?_
    refine SE.then_ (by intro h; cases h) ?_
    refine SE.ret ?_
    refine SE.then_ (by intro h; cases h) ?_
    refine SE.ret ?_
    refine SE.finC (rs := [.tmp 4, .tmp 5, .tmp 6]) rfl (RV.tmp rfl (RV.tmp rfl (RV.tmp rfl RV.nil))) (Casts.nils (s := 3) Casts.refl) (⟨([], z.1, false), DocR.of_none (hz.no y.2 ho) _⟩) (by repeat first|exact s0 _|exact s1 _|apply s2|apply s3) (by simp [It.rids]) ?_
    exact rfl
  intro hc27
  have ho : y.1.2.2 = true := by simpa using hc27
  refine SC.skip ?_
  refine SE.seq ?_
  refine SC.seq (SC.region ?_)
  refine SL.val (Val.move rfl) rfl rfl ?_
  refine SL.val (Val.loadA tabOk rfl rfl rfl (by first|(apply Or.inl;(repeat first|assumption|exact m0|apply m1);done)|(apply Or.inr;(repeat first|assumption|exact m0|apply m1);done)) List.not_mem_nil (Frm.abs_len _)) rfl rfl ?_
  refine SL.eff (Eff.buildSl tabOk Tryz.underlying42 rfl rfl rfl (elems_one (Frm.abs_len _)) rfl rfl rfl) rfl rfl ?_
  rintro _ _ ⟨rfl, rfl⟩
  refine SL.eff (Eff.appendE (zs := (z.2.1 ++ [y.1.1]).map Frm.abs) tabOk [_] (by rw [List.map_append]; rfl) Tryz.underlying42 rfl rfl rfl rfl rfl rfl (by intro c hc; rw [List.mem_singleton] at hc; subst hc; exact Frm.abs_ones _) (by unfold maxLen; simp only [List.length_map, List.length_cons, List.length_nil]; omega) (by rw [show Tryz.prog.bytesOf 44 = 40 by kernel_rfl]; simp only [List.length_map, List.length_cons, List.length_nil]; omega)) rfl rfl ?_
  rintro _ _ ⟨r32, rfl, rfl⟩
  refine SL.val (Val.assign rfl) rfl rfl ?_
  refine SL.nil (SE.seq ?_)
  refine SC.seq (SC.region ?_)
  refine SL.val (Val.move rfl) rfl rfl ?_
  refine SL.call (rbare_s (l := y.1.2.1)) Casts.refl (by kernel_rfl) rfl rfl rfl ?_
  refine After.pure (by repeat first|exact .nil|refine .blk (by repeat first|assumption|exact m0|apply m1) ?_|refine .rd (by repeat first|assumption|exact m0|apply m1) ?_|refine .pc (by repeat first|assumption|exact m0|apply m1) ?_|refine .rdpc (by repeat first|assumption|exact m0|apply m1) ?_) (fun _ => rfl) ?_
  intro _
  refine SL.val (Val.assign rfl) rfl rfl ?_
  refine SL.nil (SE.seq ?_)
  refine SC.seq ?_
  refine SC.seq (SC.region ?_)
  refine SL.val (Val.move rfl) rfl rfl ?_
  refine SL.call (rbegins_s (l := (bare y.1.2.1)) (wd := [41])) Casts.refl (by kernel_rfl) rfl rfl rfl ?_
  refine After.pure (by repeat first|exact .nil|refine .blk (by repeat first|assumption|exact m0|apply m1) ?_|refine .rd (by repeat first|assumption|exact m0|apply m1) ?_|refine .pc (by repeat first|assumption|exact m0|apply m1) ?_|refine .rdpc (by repeat first|assumption|exact m0|apply m1) ?_) (fun _ => rfl) ?_
  intro _
  refine SL.nil (SE.seq ?_)
  refine SC.cond rfl ?_ ?_
  · intro hc36
    have hbl := begins_len hc36
    simp only [List.length_singleton] at hbl
    refine SC.seq ?_
    refine SC.draw [] (.q 0 (.q 1 (.q 2 (.q 3 (.q 4 (.q 5 .nil)))))) (by kernel_rfl) (by kernel_rfl) ?_
    refine SX.val rfl (Val.move rfl) (by simp) rfl rfl ?_
    refine SX.val rfl (Val.move rfl) (by simp) rfl rfl ?_
    refine SX.hx (by first|(simp[mids,It.mids,ownPc];done)|(intro k hk;simp[mids,It.mids,ownPc] at hk ⊢;grind)) fun hx9 => ?_
    refine SX.val rfl (Val.to (C := stA ((bare y.1.2.1).drop 1)) (Val.sliceStLo (q := 1) Tryz.underlying9 rfl rfl rfl (by simp only [tx_size]; omega)) (st_lo _ _)) hx9 rfl rfl ?_
    refine SX.val rfl (Val.assign rfl) (by simp) rfl rfl ?_
    refine SX.val rfl (Val.assign rfl) (by simp) rfl rfl ?_
    refine SX.val rfl (Val.assign rfl) (by simp) rfl rfl ?_
    refine SX.nil (SE.seq ?_)
    refine SC.ret ?_
    refine SE.then_ (by intro h; cases h) ?_
    refine SE.ret ?_
    refine SE.then_ (by intro h; cases h) ?_
    refine SE.ret ?_
    refine SE.freeze [_] (t := 4) rfl rfl ?_
    refine SE.fin (rs := [.tmp 4, .tmp 5, .tmp 6]) rfl (RV.tmp rfl (RV.tmp rfl (RV.tmp rfl RV.nil))) (⟨(z.2.1 ++ [y.1.1], (bare y.1.2.1).drop 1, true), DocR.of_some (hz.done y.2 ho hc36)⟩) (by repeat first|exact s0 _|exact s1 _|apply s2|apply s3) (by simp [It.rids]) ?_
    exact rfl
  intro hc36
  have hb1 : ¬ begins (bare y.1.2.1) [41] = true := by rw [hc36]; decide
  refine SC.skip ?_
  refine SE.seq ?_
  refine SC.seq (SC.region ?_)
  refine SL.val (Val.move rfl) rfl rfl ?_
  refine SL.call (rbegins_s (l := (bare y.1.2.1)) (wd := [44])) Casts.refl (by kernel_rfl) rfl rfl rfl ?_
  refine After.pure (by repeat first|exact .nil|refine .blk (by repeat first|assumption|exact m0|apply m1) ?_|refine .rd (by repeat first|assumption|exact m0|apply m1) ?_|refine .pc (by repeat first|assumption|exact m0|apply m1) ?_|refine .rdpc (by repeat first|assumption|exact m0|apply m1) ?_) (fun _ => rfl) ?_
  intro _
  refine SL.val (Val.notB rfl) rfl rfl ?_
  refine SL.nil (SE.seq ?_)
  refine SC.cond rfl ?_ ?_
  rotate_left
  · intro hc42
    have hb2 : begins (bare y.1.2.1) [44] = true := by simpa using hc42
    refine SC.skip ?_
    refine SE.inBlock ?_
    have hst := hz.step y.2 ho hb1 hb2
    refine SE.round (bare y.1.2.1, z.2.1 ++ [y.1.1], r32) hst.2 (hst.1) (by exact ⟨rfl, rfl, rfl, trivial⟩) (by repeat first|exact s0 _|exact s1 _|apply s2|apply s3)
  intro hc42
  have hb2 : ¬ begins (bare y.1.2.1) [44] = true := by simpa using hc42
  refine SC.seq (SC.region ?_)
  refine SL.val (Val.move rfl) rfl rfl ?_
  refine SL.val (Val.assign rfl) rfl rfl ?_
  refine SL.val (Val.assign rfl) rfl rfl ?_
  refine SL.val (Val.assign rfl) rfl rfl ?_
  refine SL.nil (SE.seq ?_)
  refine SC.ret ?_
  refine SE.ret ?_
  refine SE.then_ (by intro h; cases h) ?_
  refine SE.ret ?_
  refine SE.finC (rs := [.tmp 4, .tmp 5, .tmp 6]) rfl (RV.tmp rfl (RV.tmp rfl (RV.tmp rfl RV.nil))) (Casts.nils (s := 3) Casts.refl) (⟨([], bare y.1.2.1, false), DocR.of_none (hz.bad y.2 ho hb1 hb2) _⟩) (by repeat first|exact s0 _|exact s1 _|apply s2|apply s3) (by simp [It.rids]) ?_
  exact rfl
theorem rpol0_s (hl : l.length ≤ 1000) : Spec Tryz.prog 23 [stA l, int 11] [] (fun _ : {z : Frm × Txt × Bool // DocP 0 l z} => []) (fun z => .tup [.agg z.1.1.abs, stA z.1.2.1, boo z.1.2.2]) := by
  refine spec_of Tryz.func23 rfl Tryz.ntmps23 rfl fun G w => ?_
  refine SC.seq (SC.region ?_)
  refine SL.eff (Eff.alloc tabOk rfl) rfl rfl ?_
  rintro _ _ ⟨b4, rfl, rfl⟩
  refine SL.val (Val.assign rfl) rfl rfl ?_
  refine SL.val (Val.assign rfl) rfl rfl ?_
  refine SL.nil (SE.seq ?_)
  refine SC.seq (SC.region ?_)
  refine SL.val (Val.move rfl) rfl rfl ?_
  refine SL.call (rbare_s (l := l)) Casts.refl (by kernel_rfl) rfl rfl rfl ?_
  refine After.pure (by repeat first|exact .nil|refine .blk (by repeat first|assumption|exact m0|apply m1) ?_|refine .rd (by repeat first|assumption|exact m0|apply m1) ?_|refine .pc (by repeat first|assumption|exact m0|apply m1) ?_|refine .rdpc (by repeat first|assumption|exact m0|apply m1) ?_) (fun _ => rfl) ?_
  intro _
  refine SL.val (Val.assign rfl) rfl rfl ?_
  refine SL.nil (SE.seq ?_)
  refine SC.seq ?_
  refine SC.seq (SC.region ?_)
  refine SL.val (Val.move rfl) rfl rfl ?_
  refine SL.val (Val.gtI rfl rfl) rfl rfl ?_
  refine SL.nil (SE.seq ?_)
  refine SC.condP rfl ?_ (by intro hc19; exfalso; omega)
  intro hc19
  refine SC.seq (SC.region ?_)
  refine SL.val (Val.buildS tabOk rfl rfl rfl rfl) rfl rfl ?_
  refine SL.val (Val.move rfl) rfl rfl ?_
  refine SL.eff (Eff.store tabOk rfl rfl rfl (by repeat first|assumption|exact Upd.here|apply Upd.there) (by rfl) (Nat.le_of_ble_eq_true (by rfl)) (by rfl) (by rfl)) rfl rfl ?_
  rintro _ _ ⟨rfl, rfl⟩
  refine SL.val (Val.assign rfl) rfl rfl ?_
  refine SL.val (Val.assign rfl) rfl rfl ?_
  refine SL.nil (SE.seq ?_)
  refine SC.ret ?_
  refine SE.then_ (by intro h; cases h) ?_
  refine SE.finC (rs := [.cell 4 44, .tmp 5, .tmp 6]) rfl (RV.cell rfl (RV.cellA tabOk rfl rfl (by first|(apply Or.inl;(repeat first|assumption|exact m0|apply m1);done)|(apply Or.inr;(repeat first|assumption|exact m0|apply m1);done)) (by rfl)) (RV.tmp rfl (RV.tmp rfl RV.nil))) (Casts.cons (cast_agg (Casts.keep (Casts.keep (Casts.nils (s := 3) Casts.refl)))) Casts.refl) (⟨(.mk 0 0 [], bare l, false), DocP.deep rfl⟩) (by repeat first|exact s0 _|exact s1 _|apply s2|apply s3) (by simp [It.rids]) ?_
  first
    | (rw [Frm.abs_mk]; rfl)
    | rfl
set_option maxHeartbeats 2000000 in
theorem rpol_step (hd : 1 ≤ d ∧ d ≤ 10) (hp : ∀ l : Txt, l.length ≤ 1000 → Spec Tryz.prog 23 [stA l, int (d + 1)] [] (fun _ : {z : Frm × Txt × Bool // DocP k l z} => []) (fun z => .tup [.agg z.1.1.abs, stA z.1.2.1, boo z.1.2.2])) (hl : l.length ≤ 1000) : Spec Tryz.prog 23 [stA l, int d] [] (fun _ : {z : Frm × Txt × Bool // DocP (k + 1) l z} => []) (fun z => .tup [.agg z.1.1.abs, stA z.1.2.1, boo z.1.2.2]) := by
  have hbl := bare_len l
  refine spec_of Tryz.func23 rfl Tryz.ntmps23 rfl fun G w => ?_
  refine SC.seq (SC.region ?_)
  refine SL.eff (Eff.alloc tabOk rfl) rfl rfl ?_
  rintro _ _ ⟨b4, rfl, rfl⟩
  refine SL.val (Val.assign rfl) rfl rfl ?_
  refine SL.val (Val.assign rfl) rfl rfl ?_
  refine SL.nil (SE.seq ?_)
  refine SC.seq (SC.region ?_)
  refine SL.val (Val.move rfl) rfl rfl ?_
  refine SL.call (rbare_s (l := l)) Casts.refl (by kernel_rfl) rfl rfl rfl ?_
  refine After.pure (by repeat first|exact .nil|refine .blk (by repeat first|assumption|exact m0|apply m1) ?_|refine .rd (by repeat first|assumption|exact m0|apply m1) ?_|refine .pc (by repeat first|assumption|exact m0|apply m1) ?_|refine .rdpc (by repeat first|assumption|exact m0|apply m1) ?_) (fun _ => rfl) ?_
  intro _
  refine SL.val (Val.assign rfl) rfl rfl ?_
  refine SL.nil (SE.seq ?_)
  refine SC.seq ?_
  refine SC.seq (SC.region ?_)
  refine SL.val (Val.move rfl) rfl rfl ?_
  refine SL.val (Val.gtI rfl rfl) rfl rfl ?_
  refine SL.nil (SE.seq ?_)
  refine SC.condP rfl (by intro hc19; exfalso; omega) ?_
  intro hc19
  refine SC.skip ?_
  refine SE.seq ?_
  refine SC.seq ?_
  refine SC.seq (SC.region ?_)
  refine SL.val (Val.move rfl) rfl rfl ?_
  refine SL.call (rbegins_s (l := (bare l)) (wd := [97, 108, 108])) Casts.refl (by kernel_rfl) rfl rfl rfl ?_
  refine After.pure (by repeat first|exact .nil|refine .blk (by repeat first|assumption|exact m0|apply m1) ?_|refine .rd (by repeat first|assumption|exact m0|apply m1) ?_|refine .pc (by repeat first|assumption|exact m0|apply m1) ?_|refine .rdpc (by repeat first|assumption|exact m0|apply m1) ?_) (fun _ => rfl) ?_
  intro _
  refine SL.val (Val.move rfl) rfl rfl ?_
  refine SL.both (t := 24) rfl ?_ ?_
  · intro hc24
    have ha : begins (bare l) [97, 108, 108] = true := hc24
    have hal := begins_len ha
    simp only [List.length_cons, List.length_nil] at hal
    iterate 2 refine SL.skip rfl rfl ?_
    refine SL.val (Val.pickT rfl rfl) rfl rfl ?_
    refine SL.nil (SE.seq ?_)
    refine SC.condT rfl ?_
    refine SC.seq (SC.region ?_)
    refine SL.val (Val.move rfl) rfl rfl ?_
    refine SL.val (Val.to (C := stA ((bare l).drop 3)) (Val.sliceStLo (q := 3) Tryz.underlying9 rfl rfl rfl (by simp only [tx_size]; omega)) (st_lo _ _)) rfl rfl ?_
    refine SL.val (Val.move rfl) rfl rfl ?_
    refine SL.call (rrow_s (l := (bare l).drop 3) (by omega) hp (by rw [List.length_drop]; omega)) Casts.refl (by kernel_rfl) rfl rfl rfl ?_
    refine After.pure (by repeat first|exact .nil|refine .blk (by repeat first|assumption|exact m0|apply m1) ?_|refine .rd (by repeat first|assumption|exact m0|apply m1) ?_|refine .pc (by repeat first|assumption|exact m0|apply m1) ?_|refine .rdpc (by repeat first|assumption|exact m0|apply m1) ?_) (fun _ => rfl) ?_
    intro y
    refine SL.val (Val.move rfl) rfl rfl ?_
    refine SL.val (Val.extract rfl rfl) rfl rfl ?_
    refine SL.val (Val.extract rfl rfl) rfl rfl ?_
    refine SL.val (Val.extract rfl rfl) rfl rfl ?_
    refine SL.val (Val.assign rfl) rfl rfl ?_
    refine SL.val (Val.assign rfl) rfl rfl ?_
    refine SL.val (Val.assign rfl) rfl rfl ?_
    refine SL.nil (SE.seq ?_)
    refine SC.seq (SC.region ?_)
    refine SL.val (Val.assign rfl) rfl rfl ?_
    refine SL.nil (SE.seq ?_)
    refine SC.seq ?_
    refine SC.seq (SC.region ?_)
    refine SL.val (Val.move rfl) rfl rfl ?_
    refine SL.call (rbegins_s (l := (bare l)) (wd := [97, 108, 108])) Casts.refl (by kernel_rfl) rfl rfl rfl ?_
    refine After.pure (by repeat first|exact .nil|refine .blk (by repeat first|assumption|exact m0|apply m1) ?_|refine .rd (by repeat first|assumption|exact m0|apply m1) ?_|refine .pc (by repeat first|assumption|exact m0|apply m1) ?_|refine .rdpc (by repeat first|assumption|exact m0|apply m1) ?_) (fun _ => rfl) ?_
    intro _
    refine SL.nil (SE.seq ?_)
    refine SC.cond rfl ?_ (by intro hc37; exfalso; rw [hc24] at hc37; cases hc37)
    intro hc37
    refine SC.region ?_
    refine SL.val (Val.move rfl) rfl rfl ?_
    first
      | refine SL.val (Val.lenSl rfl Tryz.underlying42 (List.length_map _)) rfl rfl ?_
      | refine SL.val (Val.lenOwn rfl (by repeat first|assumption|exact m0|apply m1) Tryz.underlying42 (List.length_map _)) rfl rfl ?_
      | refine SL.val (Val.lenNil rfl Tryz.underlying42) rfl rfl ?_
    refine SL.val (Val.assign rfl) rfl rfl ?_
    refine SL.nil (SE.seq ?_)
    refine SC.seq (SC.region ?_)
    refine SL.val (Val.move rfl) rfl rfl ?_
    refine SL.val (Val.move rfl) rfl rfl ?_
    refine SL.val (Val.buildS tabOk rfl rfl rfl rfl) rfl rfl ?_
    refine SL.val (Val.move rfl) rfl rfl ?_
    refine SL.val (Val.move rfl) rfl rfl ?_
    refine SL.eff (Eff.store tabOk rfl rfl rfl (by repeat first|assumption|exact Upd.here|apply Upd.there) (by rfl) (Nat.le_of_ble_eq_true (by rfl)) (by rfl) (by rfl)) rfl rfl ?_
    rintro _ _ ⟨rfl, rfl⟩
    refine SL.val (Val.assign rfl) rfl rfl ?_
    refine SL.val (Val.assign rfl) rfl rfl ?_
    refine SL.nil (SE.seq ?_)
    refine SC.ret ?_
    refine SE.then_ (by intro h; cases h) ?_
    refine SE.fin (rs := [.cell 4 44, .tmp 5, .tmp 6]) rfl (RV.cell rfl (RV.cellA tabOk rfl rfl (by first|(apply Or.inl;(repeat first|assumption|exact m0|apply m1);done)|(apply Or.inr;(repeat first|assumption|exact m0|apply m1);done)) (by rfl)) (RV.tmp rfl (RV.tmp rfl RV.nil))) (⟨(.mk 0 y.1.1.length y.1.1, y.1.2.1, y.1.2.2), DocP.all ha y.2⟩) (by repeat first|exact s0 _|exact s1 _|apply s2|apply s3) (by simp [It.rids]) ?_
    first
      | (rw [Frm.abs_mk]; rfl)
      | rfl
  intro hc24
  have ha : ¬ begins (bare l) [97, 108, 108] = true := by rw [hc24]; decide
  refine SL.val (Val.move rfl) rfl rfl ?_
  refine SL.call (rbegins_s (l := (bare l)) (wd := [97, 110, 121])) Casts.refl (by kernel_rfl) rfl rfl rfl ?_
  refine After.pure (by repeat first|exact .nil|refine .blk (by repeat first|assumption|exact m0|apply m1) ?_|refine .rd (by repeat first|assumption|exact m0|apply m1) ?_|refine .pc (by repeat first|assumption|exact m0|apply m1) ?_|refine .rdpc (by repeat first|assumption|exact m0|apply m1) ?_) (fun _ => rfl) ?_
  intro _
  refine SL.val (Val.pickF rfl rfl) rfl rfl ?_
  refine SL.nil (SE.seq ?_)
  refine SC.cond rfl ?_ ?_
  · intro hc27
    have hb : begins (bare l) [97, 110, 121] = true := hc27
    have hal := begins_len hb
    simp only [List.length_cons, List.length_nil] at hal
    refine SC.seq (SC.region ?_)
    refine SL.val (Val.move rfl) rfl rfl ?_
    refine SL.val (Val.to (C := stA ((bare l).drop 3)) (Val.sliceStLo (q := 3) Tryz.underlying9 rfl rfl rfl (by simp only [tx_size]; omega)) (st_lo _ _)) rfl rfl ?_
    refine SL.val (Val.move rfl) rfl rfl ?_
    refine SL.call (rrow_s (l := (bare l).drop 3) (by omega) hp (by rw [List.length_drop]; omega)) Casts.refl (by kernel_rfl) rfl rfl rfl ?_
    refine After.pure (by repeat first|exact .nil|refine .blk (by repeat first|assumption|exact m0|apply m1) ?_|refine .rd (by repeat first|assumption|exact m0|apply m1) ?_|refine .pc (by repeat first|assumption|exact m0|apply m1) ?_|refine .rdpc (by repeat first|assumption|exact m0|apply m1) ?_) (fun _ => rfl) ?_
    intro y
    refine SL.val (Val.move rfl) rfl rfl ?_
    refine SL.val (Val.extract rfl rfl) rfl rfl ?_
    refine SL.val (Val.extract rfl rfl) rfl rfl ?_
    refine SL.val (Val.extract rfl rfl) rfl rfl ?_
    refine SL.val (Val.assign rfl) rfl rfl ?_
    refine SL.val (Val.assign rfl) rfl rfl ?_
    refine SL.val (Val.assign rfl) rfl rfl ?_
    refine SL.nil (SE.seq ?_)
    refine SC.seq (SC.region ?_)
    refine SL.val (Val.assign rfl) rfl rfl ?_
    refine SL.nil (SE.seq ?_)
    refine SC.seq ?_
    refine SC.seq (SC.region ?_)
    refine SL.val (Val.move rfl) rfl rfl ?_
    refine SL.call (rbegins_s (l := (bare l)) (wd := [97, 108, 108])) Casts.refl (by kernel_rfl) rfl rfl rfl ?_
    refine After.pure (by repeat first|exact .nil|refine .blk (by repeat first|assumption|exact m0|apply m1) ?_|refine .rd (by repeat first|assumption|exact m0|apply m1) ?_|refine .pc (by repeat first|assumption|exact m0|apply m1) ?_|refine .rdpc (by repeat first|assumption|exact m0|apply m1) ?_) (fun _ => rfl) ?_
    intro _
    refine SL.nil (SE.seq ?_)
    refine SC.cond rfl (by intro hc37; exfalso; rw [hc24] at hc37; cases hc37) ?_
    intro hc37
    refine SC.skip ?_
    refine SE.seq ?_
    refine SC.seq (SC.region ?_)
    refine SL.val (Val.move rfl) rfl rfl ?_
    refine SL.val (Val.move rfl) rfl rfl ?_
    refine SL.val (Val.buildS tabOk rfl rfl rfl rfl) rfl rfl ?_
    refine SL.val (Val.move rfl) rfl rfl ?_
    refine SL.val (Val.move rfl) rfl rfl ?_
    refine SL.eff (Eff.store tabOk rfl rfl rfl (by repeat first|assumption|exact Upd.here|apply Upd.there) (by rfl) (Nat.le_of_ble_eq_true (by rfl)) (by rfl) (by rfl)) rfl rfl ?_
    rintro _ _ ⟨rfl, rfl⟩
    refine SL.val (Val.assign rfl) rfl rfl ?_
    refine SL.val (Val.assign rfl) rfl rfl ?_
    refine SL.nil (SE.seq ?_)
    refine SC.ret ?_
    refine SE.then_ (by intro h; cases h) ?_
    refine SE.fin (rs := [.cell 4 44, .tmp 5, .tmp 6]) rfl (RV.cell rfl (RV.cellA tabOk rfl rfl (by first|(apply Or.inl;(repeat first|assumption|exact m0|apply m1);done)|(apply Or.inr;(repeat first|assumption|exact m0|apply m1);done)) (by rfl)) (RV.tmp rfl (RV.tmp rfl RV.nil))) (⟨(.mk 0 1 y.1.1, y.1.2.1, y.1.2.2), DocP.any ha hb y.2⟩) (by repeat first|exact s0 _|exact s1 _|apply s2|apply s3) (by simp [It.rids]) ?_
    first
      | (rw [Frm.abs_mk]; rfl)
      | rfl
  intro hc27
  have hb : ¬ begins (bare l) [97, 110, 121] = true := by rw [hc27]; decide
  refine SC.skip ?_
  refine SE.seq ?_
  refine SC.seq (SC.region ?_)
  refine SL.val (Val.move rfl) rfl rfl ?_
  refine SL.call (rnumber_s (l := bare l) (by omega)) Casts.refl (by kernel_rfl) rfl rfl rfl ?_
  refine After.pure (by repeat first|exact .nil|refine .blk (by repeat first|assumption|exact m0|apply m1) ?_|refine .rd (by repeat first|assumption|exact m0|apply m1) ?_|refine .pc (by repeat first|assumption|exact m0|apply m1) ?_|refine .rdpc (by repeat first|assumption|exact m0|apply m1) ?_) (fun _ => rfl) ?_
  intro _
  refine SL.val (Val.move rfl) rfl rfl ?_
  refine SL.val (Val.extract rfl rfl) rfl rfl ?_
  refine SL.val (Val.extract rfl rfl) rfl rfl ?_
  refine SL.val (Val.extract rfl rfl) rfl rfl ?_
  refine SL.val (Val.assign rfl) rfl rfl ?_
  refine SL.val (Val.assign rfl) rfl rfl ?_
  refine SL.val (Val.assign rfl) rfl rfl ?_
  refine SL.nil (SE.seq ?_)
  refine SC.seq ?_
  refine SC.seq (SC.region ?_)
  refine SL.val (Val.move rfl) rfl rfl ?_
  refine SL.val (Val.notB rfl) rfl rfl ?_
  refine SL.nil (SE.seq ?_)
  refine SC.cond rfl ?_ ?_
  · intro hc52
    have hn : (numF (bare l)).2.2 = false := by simpa using hc52
    refine SC.seq (SC.region ?_)
    refine SL.val (Val.buildS tabOk rfl rfl rfl rfl) rfl rfl ?_
    refine SL.val (Val.move rfl) rfl rfl ?_
    refine SL.eff (Eff.store tabOk rfl rfl rfl (by repeat first|assumption|exact Upd.here|apply Upd.there) (by rfl) (Nat.le_of_ble_eq_true (by rfl)) (by rfl) (by rfl)) rfl rfl ?_
    rintro _ _ ⟨rfl, rfl⟩
    refine SL.val (Val.assign rfl) rfl rfl ?_
    refine SL.val (Val.assign rfl) rfl rfl ?_
    refine SL.nil (SE.seq ?_)
    refine SC.ret ?_
    refine SE.then_ (by intro h; cases h) ?_
    refine SE.finC (rs := [.cell 4 44, .tmp 5, .tmp 6]) rfl (RV.cell rfl (RV.cellA tabOk rfl rfl (by first|(apply Or.inl;(repeat first|assumption|exact m0|apply m1);done)|(apply Or.inr;(repeat first|assumption|exact m0|apply m1);done)) (by rfl)) (RV.tmp rfl (RV.tmp rfl RV.nil))) (Casts.cons (cast_agg (Casts.keep (Casts.keep (Casts.nils (s := 3) Casts.refl)))) Casts.refl) (⟨(.mk 0 0 [], bare l, false), DocP.bad ha hb hn rfl⟩) (by repeat first|exact s0 _|exact s1 _|apply s2|apply s3) (by simp [It.rids]) ?_
    first
      | (rw [Frm.abs_mk]; rfl)
      | rfl
  intro hc52
  have hn : (numF (bare l)).2.2 = true := by simpa using hc52
  obtain ⟨v, hv1, hv2, hv3, hv4⟩ := numF_ok hn
  have hb9 := bare_len (numF (bare l)).2.1
  refine SC.skip ?_
  refine SE.seq ?_
  refine SC.seq ?_
  refine SC.seq (SC.region ?_)
  refine SL.val (Val.move rfl) rfl rfl ?_
  refine SL.call (rbare_s (l := (numF (bare l)).2.1)) Casts.refl (by kernel_rfl) rfl rfl rfl ?_
  refine After.pure (by repeat first|exact .nil|refine .blk (by repeat first|assumption|exact m0|apply m1) ?_|refine .rd (by repeat first|assumption|exact m0|apply m1) ?_|refine .pc (by repeat first|assumption|exact m0|apply m1) ?_|refine .rdpc (by repeat first|assumption|exact m0|apply m1) ?_) (fun _ => rfl) ?_
  intro _
  refine SL.call (rbegins_s (l := (bare (numF (bare l)).2.1)) (wd := [111, 102])) Casts.refl (by kernel_rfl) rfl rfl rfl ?_
  refine After.pure (by repeat first|exact .nil|refine .blk (by repeat first|assumption|exact m0|apply m1) ?_|refine .rd (by repeat first|assumption|exact m0|apply m1) ?_|refine .pc (by repeat first|assumption|exact m0|apply m1) ?_|refine .rdpc (by repeat first|assumption|exact m0|apply m1) ?_) (fun _ => rfl) ?_
  intro _
  refine SL.val (Val.notB rfl) rfl rfl ?_
  refine SL.nil (SE.seq ?_)
  refine SC.cond rfl ?_ ?_
  · intro hc58
    have hof : ¬ begins (bare (numF (bare l)).2.1) [111, 102] = true := by simpa using hc58
    refine SC.seq (SC.region ?_)
    refine SL.val (Val.move rfl) rfl rfl ?_
    refine SL.val (Val.buildS tabOk rfl rfl rfl rfl) rfl rfl ?_
    refine SL.val (Val.move rfl) rfl rfl ?_
    refine SL.eff (Eff.store tabOk rfl rfl rfl (by repeat first|assumption|exact Upd.here|apply Upd.there) (by rfl) (Nat.le_of_ble_eq_true (by rfl)) (by rfl) (by rfl)) rfl rfl ?_
    rintro _ _ ⟨rfl, rfl⟩
    refine SL.val (Val.assign rfl) rfl rfl ?_
    refine SL.val (Val.assign rfl) rfl rfl ?_
    refine SL.nil (SE.seq ?_)
    refine SC.ret ?_
    refine SE.then_ (by intro h; cases h) ?_
    refine SE.finC (rs := [.cell 4 44, .tmp 5, .tmp 6]) rfl (RV.cell rfl (RV.cellA tabOk rfl rfl (by first|(apply Or.inl;(repeat first|assumption|exact m0|apply m1);done)|(apply Or.inr;(repeat first|assumption|exact m0|apply m1);done)) (by rfl)) (RV.tmp rfl (RV.tmp rfl RV.nil))) (Casts.cons (cast_agg (Casts.keep (Casts.keep (Casts.nils (s := 3) Casts.refl)))) Casts.refl) (⟨(.mk (numF (bare l)).1 0 [], (numF (bare l)).2.1, true), DocP.org ha hb hn hof⟩) (by repeat first|exact s0 _|exact s1 _|apply s2|apply s3) (by simp [It.rids]) ?_
    first
      | (rw [Frm.abs_mk]; rfl)
      | rfl
  intro hc58
  have hof : begins (bare (numF (bare l)).2.1) [111, 102] = true := by simpa using hc58
  have hol := begins_len hof
  simp only [List.length_cons, List.length_nil] at hol
  refine SC.skip ?_
  refine SE.seq ?_
  refine SC.seq (SC.region ?_)
  refine SL.val (Val.move rfl) rfl rfl ?_
  refine SL.call (rbare_s (l := (numF (bare l)).2.1)) Casts.refl (by kernel_rfl) rfl rfl rfl ?_
  refine After.pure (by repeat first|exact .nil|refine .blk (by repeat first|assumption|exact m0|apply m1) ?_|refine .rd (by repeat first|assumption|exact m0|apply m1) ?_|refine .pc (by repeat first|assumption|exact m0|apply m1) ?_|refine .rdpc (by repeat first|assumption|exact m0|apply m1) ?_) (fun _ => rfl) ?_
  intro _
  refine SL.val (Val.to (C := stA ((bare (numF (bare l)).2.1).drop 2)) (Val.sliceStLo (q := 2) Tryz.underlying9 rfl rfl rfl (by simp only [tx_size]; omega)) (st_lo _ _)) rfl rfl ?_
  refine SL.val (Val.move rfl) rfl rfl ?_
  refine SL.call (rrow_s (l := (bare (numF (bare l)).2.1).drop 2) (by omega) hp (by rw [List.length_drop]; omega)) Casts.refl (by kernel_rfl) rfl rfl rfl ?_
  refine After.pure (by repeat first|exact .nil|refine .blk (by repeat first|assumption|exact m0|apply m1) ?_|refine .rd (by repeat first|assumption|exact m0|apply m1) ?_|refine .pc (by repeat first|assumption|exact m0|apply m1) ?_|refine .rdpc (by repeat first|assumption|exact m0|apply m1) ?_) (fun _ => rfl) ?_
  intro y
  refine SL.val (Val.move rfl) rfl rfl ?_
  refine SL.val (Val.extract rfl rfl) rfl rfl ?_
  refine SL.val (Val.extract rfl rfl) rfl rfl ?_
  refine SL.val (Val.extract rfl rfl) rfl rfl ?_
  refine SL.val (Val.assign rfl) rfl rfl ?_
  refine SL.val (Val.assign rfl) rfl rfl ?_
  refine SL.val (Val.assign rfl) rfl rfl ?_
  refine SL.nil (SE.seq ?_)
  refine SC.seq (SC.region ?_)
  refine SL.val (Val.move rfl) rfl rfl ?_
  refine SL.val (Val.move rfl) rfl rfl ?_
  refine SL.val (Val.buildS tabOk rfl rfl rfl rfl) rfl rfl ?_
  refine SL.val (Val.move rfl) rfl rfl ?_
  refine SL.val (Val.move rfl) rfl rfl ?_
  refine SL.val (Val.move rfl) rfl rfl ?_
  refine SL.both (t := 76) rfl ?_ ?_
  rotate_left
  · intro hc76
    iterate 2 refine SL.skip rfl rfl ?_
    refine SL.val (Val.pickF rfl rfl) rfl rfl ?_
    refine SL.val (Val.move rfl) rfl rfl ?_
    iterate 2 refine SL.skip rfl rfl ?_
    refine SL.val (Val.pickF rfl rfl) rfl rfl ?_
    refine SL.eff (Eff.store tabOk rfl rfl rfl (by repeat first|assumption|exact Upd.here|apply Upd.there) (by rfl) (Nat.le_of_ble_eq_true (by rfl)) (by rfl) (by rfl)) rfl rfl ?_
    rintro _ _ ⟨rfl, rfl⟩
    refine SL.val (Val.assign rfl) rfl rfl ?_
    refine SL.val (Val.assign rfl) rfl rfl ?_
    refine SL.nil (SE.seq ?_)
    refine SC.ret ?_
    refine SE.fin (rs := [.cell 4 44, .tmp 5, .tmp 6]) rfl (RV.cell rfl (RV.cellA tabOk rfl rfl (by first|(apply Or.inl;(repeat first|assumption|exact m0|apply m1);done)|(apply Or.inr;(repeat first|assumption|exact m0|apply m1);done)) (by rfl)) (RV.tmp rfl (RV.tmp rfl RV.nil))) (⟨(.mk 0 (numF (bare l)).1 y.1.1, y.1.2.1, false), DocP.of ha hb hn hof y.2 ⟨fun h => (by cases h), fun h => (by rw [hc76] at h; cases h.1)⟩⟩) (by repeat first|exact s0 _|exact s1 _|apply s2|apply s3) (by simp [It.rids]) ?_
    first
      | (rw [Frm.abs_mk]; rfl)
      | rfl
  intro hc76
  refine SL.val (Val.move rfl) rfl rfl ?_
  refine SL.val (Val.geI rfl rfl) rfl rfl ?_
  refine SL.val (Val.pickT rfl rfl) rfl rfl ?_
  refine SL.val (Val.move rfl) rfl rfl ?_
  refine SL.bothP (t := 80) rfl ?_ ?_
  · intro hc80
    refine SL.val (Val.move rfl) rfl rfl ?_
    refine SL.val (Val.leI rfl rfl) rfl rfl ?_
    refine SL.val (Val.pickT rfl rfl) rfl rfl ?_
    refine SL.eff (Eff.store tabOk rfl rfl rfl (by repeat first|assumption|exact Upd.here|apply Upd.there) (by rfl) (Nat.le_of_ble_eq_true (by rfl)) (by rfl) (by rfl)) rfl rfl ?_
    rintro _ _ ⟨rfl, rfl⟩
    refine SL.val (Val.assign rfl) rfl rfl ?_
    refine SL.val (Val.assign rfl) rfl rfl ?_
    refine SL.nil (SE.seq ?_)
    refine SC.ret ?_
    refine SE.fin (rs := [.cell 4 44, .tmp 5, .tmp 6]) rfl (RV.cell rfl (RV.cellA tabOk rfl rfl (by first|(apply Or.inl;(repeat first|assumption|exact m0|apply m1);done)|(apply Or.inr;(repeat first|assumption|exact m0|apply m1);done)) (by rfl)) (RV.tmp rfl (RV.tmp rfl RV.nil))) (⟨(.mk 0 (numF (bare l)).1 y.1.1, y.1.2.1, decide ((numF (bare l)).1 ≤ 99)), DocP.of ha hb hn hof y.2 (by rw [decide_eq_true_iff]; exact ⟨fun h => ⟨hc76, by omega, h⟩, fun h => h.2.2⟩)⟩) (by repeat first|exact s0 _|exact s1 _|apply s2|apply s3) (by simp [It.rids]) ?_
    first
      | (rw [Frm.abs_mk]; rfl)
      | rfl
  intro hc80
  iterate 2 refine SL.skip rfl rfl ?_
  refine SL.val (Val.pickF rfl rfl) rfl rfl ?_
  refine SL.eff (Eff.store tabOk rfl rfl rfl (by repeat first|assumption|exact Upd.here|apply Upd.there) (by rfl) (Nat.le_of_ble_eq_true (by rfl)) (by rfl) (by rfl)) rfl rfl ?_
  rintro _ _ ⟨rfl, rfl⟩
  refine SL.val (Val.assign rfl) rfl rfl ?_
  refine SL.val (Val.assign rfl) rfl rfl ?_
  refine SL.nil (SE.seq ?_)
  refine SC.ret ?_
  refine SE.fin (rs := [.cell 4 44, .tmp 5, .tmp 6]) rfl (RV.cell rfl (RV.cellA tabOk rfl rfl (by first|(apply Or.inl;(repeat first|assumption|exact m0|apply m1);done)|(apply Or.inr;(repeat first|assumption|exact m0|apply m1);done)) (by rfl)) (RV.tmp rfl (RV.tmp rfl RV.nil))) (⟨(.mk 0 (numF (bare l)).1 y.1.1, y.1.2.1, false), DocP.of ha hb hn hof y.2 ⟨fun h => (by cases h), fun h => absurd h.2.1 (by omega)⟩⟩) (by repeat first|exact s0 _|exact s1 _|apply s2|apply s3) (by simp [It.rids]) ?_
  first
    | (rw [Frm.abs_mk]; rfl)
    | rfl
theorem rpol_s : ∀ k : Nat, k ≤ 10 → ∀ l : Txt, l.length ≤ 1000 → Spec Tryz.prog 23 [stA l, int (11 - (k : Int))] [] (fun _ : {z : Frm × Txt × Bool // DocP k l z} => []) (fun z => .tup [.agg z.1.1.abs, stA z.1.2.1, boo z.1.2.2])
  | 0, _, l, hl => rpol0_s hl
  | k + 1, hk, l, hl => rpol_step (by omega) (by
      rw [show (11 - ((k + 1 : Nat) : Int)) + 1 = 11 - (k : Int) by omega]
      exact rpol_s k (by omega)) hl
theorem rpol1_s (hl : l.length ≤ 1000) : Spec Tryz.prog 23 [stA l, int 1] [] (fun _ : {z : Frm × Txt × Bool // DocP 10 l z} => []) (fun z => .tup [.agg z.1.1.abs, stA z.1.2.1, boo z.1.2.2]) := rpol_s 10 (Nat.le_refl _) l hl
set_option maxHeartbeats 2000000 in
theorem rparse_s  : Spec Tryz.prog 11 [stA l, int n] [] (fun _ : Unit => []) (fun _ => .tup [.agg (parseF l n).1.abs, int (parseF l n).2]) := by
  refine spec_of Tryz.func11 rfl Tryz.ntmps11 rfl fun G w => ?_
  refine SC.seq (SC.region ?_)
  refine SL.eff (Eff.alloc tabOk rfl) rfl rfl ?_
  rintro _ _ ⟨b4, rfl, rfl⟩
  refine SL.val (Val.assign rfl) rfl rfl ?_
  refine SL.nil (SE.seq ?_)
  refine SC.seq ?_
  refine SC.seq (SC.region ?_)
  refine SL.val (Val.move rfl) rfl rfl ?_
  refine SL.val (Val.to (C := int ((l.length : Nat) : Int)) (Val.lenSt rfl Tryz.underlying9) rfl) rfl rfl ?_
  refine SL.val (Val.gtI rfl rfl) rfl rfl ?_
  refine SL.nil (SE.seq ?_)
  refine SC.condP rfl ?_ ?_
  · intro hc12
    have hl2 : 200 < l.length := by omega
    refine SC.seq (SC.region ?_)
    refine SL.val (Val.buildS tabOk rfl rfl rfl rfl) rfl rfl ?_
    refine SL.eff (Eff.store tabOk rfl rfl rfl (by repeat first|assumption|exact Upd.here|apply Upd.there) (by rfl) (Nat.le_of_ble_eq_true (by rfl)) (by rfl) (by rfl)) rfl rfl ?_
    rintro _ _ ⟨rfl, rfl⟩
    refine SL.val (Val.assign rfl) rfl rfl ?_
    refine SL.nil (SE.seq ?_)
    refine SC.ret ?_
    refine SE.then_ (by intro h; cases h) ?_
    refine SE.finC (rs := [.cell 4 44, .tmp 5]) rfl (RV.cell rfl (RV.cellA tabOk rfl rfl (by first|(apply Or.inl;(repeat first|assumption|exact m0|apply m1);done)|(apply Or.inr;(repeat first|assumption|exact m0|apply m1);done)) (by rfl)) (RV.tmp rfl RV.nil)) (Casts.cons (cast_agg (Casts.keep (Casts.keep (Casts.nils (s := 3) Casts.refl)))) Casts.refl) (()) (by repeat first|exact s0 _|exact s1 _|apply s2|apply s3) (by simp [It.rids]) ?_
    rw [parse_long hl2]
    rw [Frm.abs_mk]
    rfl
  intro hc12
  have hl2 : ¬ 200 < l.length := by omega
  refine SC.skip ?_
  refine SE.seq ?_
  refine SC.seq (SC.region ?_)
  refine SL.val (Val.move rfl) rfl rfl ?_
  refine SL.call (rpol1_s (l := l) (by omega)) Casts.refl (by kernel_rfl) rfl rfl rfl ?_
  refine After.pure (by repeat first|exact .nil|refine .blk (by repeat first|assumption|exact m0|apply m1) ?_|refine .rd (by repeat first|assumption|exact m0|apply m1) ?_|refine .pc (by repeat first|assumption|exact m0|apply m1) ?_|refine .rdpc (by repeat first|assumption|exact m0|apply m1) ?_) (fun _ => rfl) ?_
  intro y
  refine SL.val (Val.move rfl) rfl rfl ?_
  refine SL.val (Val.extract rfl rfl) rfl rfl ?_
  refine SL.val (Val.extract rfl rfl) rfl rfl ?_
  refine SL.val (Val.extract rfl rfl) rfl rfl ?_
  refine SL.eff (Eff.alloc tabOk rfl) rfl rfl ?_
  rintro _ _ ⟨b6, rfl, rfl⟩
  refine SL.eff (Eff.store (L' := y.1.1.abs) tabOk rfl rfl rfl (by repeat first|assumption|exact Upd.here|apply Upd.there) (by exact Frm.abs_len _) (Nat.le_of_ble_eq_true (by rfl)) (by exact Frm.abs_ones _) (putL_whole (by exact Frm.abs_len _))) rfl rfl ?_
  rintro _ _ ⟨rfl, rfl⟩
  refine SL.val (Val.assign rfl) rfl rfl ?_
  refine SL.val (Val.assign rfl) rfl rfl ?_
  refine SL.nil (SE.seq ?_)
  refine SC.seq ?_
  refine SC.seq (SC.region ?_)
  refine SL.val (Val.move rfl) rfl rfl ?_
  refine SL.val (Val.notB rfl) rfl rfl ?_
  refine SL.val (Val.move rfl) rfl rfl ?_
  refine SL.both (t := 22) rfl ?_ ?_
  · intro hc22
    have ho : y.1.2.2 = false := by simpa using hc22
    iterate 3 refine SL.skip rfl rfl ?_
    refine SL.val (Val.pickT rfl rfl) rfl rfl ?_
    refine SL.nil (SE.seq ?_)
    refine SC.condT rfl ?_
    refine SC.seq (SC.region ?_)
    refine SL.val (Val.buildS tabOk rfl rfl rfl rfl) rfl rfl ?_
    refine SL.eff (Eff.store tabOk rfl rfl rfl (by repeat first|assumption|exact Upd.here|apply Upd.there) (by rfl) (Nat.le_of_ble_eq_true (by rfl)) (by rfl) (by rfl)) rfl rfl ?_
    rintro _ _ ⟨rfl, rfl⟩
    refine SL.val (Val.assign rfl) rfl rfl ?_
    refine SL.nil (SE.seq ?_)
    refine SC.ret ?_
    refine SE.then_ (by intro h; cases h) ?_
    refine SE.finC (rs := [.cell 4 44, .tmp 5]) rfl (RV.cell rfl (RV.cellA tabOk rfl rfl (by first|(apply Or.inl;(repeat first|assumption|exact m0|apply m1);done)|(apply Or.inr;(repeat first|assumption|exact m0|apply m1);done)) (by rfl)) (RV.tmp rfl RV.nil)) (Casts.cons (cast_agg (Casts.keep (Casts.keep (Casts.nils (s := 3) Casts.refl)))) Casts.refl) (()) (by repeat first|exact s0 _|exact s1 _|apply s2|apply s3) (by simp [It.rids]) ?_
    rw [doc_odd hl2 y.2 (.inl ho)]
    rw [Frm.abs_mk]
    rfl
  intro hc22
  have ho : y.1.2.2 = true := by simpa using hc22
  refine SL.val (Val.move rfl) rfl rfl ?_
  refine SL.call (rbare_s (l := y.1.2.1)) Casts.refl (by kernel_rfl) rfl rfl rfl ?_
  refine After.pure (by repeat first|exact .nil|refine .blk (by repeat first|assumption|exact m0|apply m1) ?_|refine .rd (by repeat first|assumption|exact m0|apply m1) ?_|refine .pc (by repeat first|assumption|exact m0|apply m1) ?_|refine .rdpc (by repeat first|assumption|exact m0|apply m1) ?_) (fun _ => rfl) ?_
  intro _
  refine SL.val (Val.to (C := boo (decide (¬ bare y.1.2.1 = []))) (Val.neS rfl rfl) (congrArg (fun b => Abs.v (Value.bool b)) (decide_eq_decide.2 (not_congr st_eq)))) rfl rfl ?_
  refine SL.val (Val.pickF rfl rfl) rfl rfl ?_
  refine SL.nil (SE.seq ?_)
  refine SC.condP rfl ?_ ?_
  · intro hc26
    refine SC.seq (SC.region ?_)
    refine SL.val (Val.buildS tabOk rfl rfl rfl rfl) rfl rfl ?_
    refine SL.eff (Eff.store tabOk rfl rfl rfl (by repeat first|assumption|exact Upd.here|apply Upd.there) (by rfl) (Nat.le_of_ble_eq_true (by rfl)) (by rfl) (by rfl)) rfl rfl ?_
    rintro _ _ ⟨rfl, rfl⟩
    refine SL.val (Val.assign rfl) rfl rfl ?_
    refine SL.nil (SE.seq ?_)
    refine SC.ret ?_
    refine SE.then_ (by intro h; cases h) ?_
    refine SE.finC (rs := [.cell 4 44, .tmp 5]) rfl (RV.cell rfl (RV.cellA tabOk rfl rfl (by first|(apply Or.inl;(repeat first|assumption|exact m0|apply m1);done)|(apply Or.inr;(repeat first|assumption|exact m0|apply m1);done)) (by rfl)) (RV.tmp rfl RV.nil)) (Casts.cons (cast_agg (Casts.keep (Casts.keep (Casts.nils (s := 3) Casts.refl)))) Casts.refl) (()) (by repeat first|exact s0 _|exact s1 _|apply s2|apply s3) (by simp [It.rids]) ?_
    rw [doc_odd hl2 y.2 (.inr hc26)]
    rw [Frm.abs_mk]
    rfl
  intro hc26
  have hpe := doc_end (n := n) hl2 y.2 ho (Classical.byContradiction hc26)
  refine SC.skip ?_
  refine SE.seq ?_
  refine SC.seq ?_
  refine SC.seq (SC.region ?_)
  refine SL.val (Val.loadA tabOk rfl rfl rfl (by first|(apply Or.inl;(repeat first|assumption|exact m0|apply m1);done)|(apply Or.inr;(repeat first|assumption|exact m0|apply m1);done)) List.not_mem_nil (Frm.abs_len _)) rfl rfl ?_
  refine SL.val (Val.move rfl) rfl rfl ?_
  refine SL.call (rfcheck_s (f := y.1.1) (n := n) (by have := hpe.1; omega)) Casts.refl (by kernel_rfl) rfl rfl rfl ?_
  refine After.pure (by repeat first|exact .nil|refine .blk (by repeat first|assumption|exact m0|apply m1) ?_|refine .rd (by repeat first|assumption|exact m0|apply m1) ?_|refine .pc (by repeat first|assumption|exact m0|apply m1) ?_|refine .rdpc (by repeat first|assumption|exact m0|apply m1) ?_) (fun _ => rfl) ?_
  intro _
  refine SL.val (Val.assign rfl) rfl rfl ?_
  refine SL.nil (SE.seq ?_)
  refine SC.seq (SC.region ?_)
  refine SL.val (Val.move rfl) rfl rfl ?_
  refine SL.val (Val.neI rfl rfl) rfl rfl ?_
  refine SL.nil (SE.seq ?_)
  refine SC.condP rfl ?_ ?_
  rotate_left
  · intro hc32
    refine SC.skip ?_
    refine SE.seq ?_
    refine SC.seq (SC.region ?_)
    refine SL.val (Val.loadA tabOk rfl rfl rfl (by first|(apply Or.inl;(repeat first|assumption|exact m0|apply m1);done)|(apply Or.inr;(repeat first|assumption|exact m0|apply m1);done)) List.not_mem_nil (Frm.abs_len _)) rfl rfl ?_
    refine SL.eff (Eff.store (L' := y.1.1.abs) tabOk rfl rfl rfl (by repeat first|assumption|exact Upd.here|apply Upd.there) (by exact Frm.abs_len _) (Nat.le_of_ble_eq_true (by rfl)) (by exact Frm.abs_ones _) (putL_whole (by exact Frm.abs_len _))) rfl rfl ?_
    rintro _ _ ⟨rfl, rfl⟩
    refine SL.val (Val.assign rfl) rfl rfl ?_
    refine SL.nil (SE.seq ?_)
    refine SC.ret ?_
    refine SE.fin (rs := [.cell 4 44, .tmp 5]) rfl (RV.cell rfl (RV.cellA tabOk rfl rfl (by first|(apply Or.inl;(repeat first|assumption|exact m0|apply m1);done)|(apply Or.inr;(repeat first|assumption|exact m0|apply m1);done)) (by exact Frm.abs_len _)) (RV.tmp rfl RV.nil)) (()) (by repeat first|exact s0 _|exact s1 _|apply s2|apply s3) (by simp [It.rids]) ?_
    rw [hpe.2, if_neg hc32]
    rfl
  intro hc32
  refine SC.seq (SC.region ?_)
  refine SL.val (Val.buildS tabOk rfl rfl rfl rfl) rfl rfl ?_
  refine SL.val (Val.move rfl) rfl rfl ?_
  refine SL.eff (Eff.store tabOk rfl rfl rfl (by repeat first|assumption|exact Upd.here|apply Upd.there) (by rfl) (Nat.le_of_ble_eq_true (by rfl)) (by rfl) (by rfl)) rfl rfl ?_
  rintro _ _ ⟨rfl, rfl⟩
  refine SL.val (Val.assign rfl) rfl rfl ?_
  refine SL.nil (SE.seq ?_)
  refine SC.ret ?_
  refine SE.then_ (by intro h; cases h) ?_
  refine SE.finC (rs := [.cell 4 44, .tmp 5]) rfl (RV.cell rfl (RV.cellA tabOk rfl rfl (by first|(apply Or.inl;(repeat first|assumption|exact m0|apply m1);done)|(apply Or.inr;(repeat first|assumption|exact m0|apply m1);done)) (by rfl)) (RV.tmp rfl RV.nil)) (Casts.cons (cast_agg (Casts.keep (Casts.keep (Casts.nils (s := 3) Casts.refl)))) Casts.refl) (()) (by repeat first|exact s0 _|exact s1 _|apply s2|apply s3) (by simp [It.rids]) ?_
  rw [hpe.2, if_pos hc32]
  rw [Frm.abs_mk]
  rfl
end
end Go.Proofs.YtkeapnefdjkhoaaGreatDoor.A
/-
  The contract: fixed answers.
-/
set_option maxRecDepth 100000
set_option linter.unusedSimpArgs false
set_option linter.unusedVariables false
namespace Go.Proofs.YtkeapnefdjkhoaaGreatDoor.A
open Go.RowKit

section
variable {l a b : Lg} {x : Ltr} {o : Oc} {k n : Int} {s : ByteArray} {c : Core} {e : Ent} {p : Nat} {es : List Ent} {e1 e2 : Value}
def coF (s o : Int) : Core := ⟨4, s, o, ⟨#[97]⟩, 5, 0, ⟨#[48]⟩⟩
def enF (s o : Int) (m : Nat) : Ent := ⟨coF s o, m⟩
def lgF (os : List Oc) : Lg := ⟨0, 0, [⟨⟨#[97]⟩, 1, 5, 0, ⟨#[48]⟩, ⟨#[]⟩⟩], os⟩
theorem fix1 : Lg.zero.doF (enF 1 1 1) 4 = (lgF [⟨4, 1, 0⟩], 0) := by kernel_rfl
theorem fix2 : (lgF [⟨4, 1, 0⟩]).doF (enF 1 1 1) 4 = (lgF [⟨4, 1, 0⟩], 10) := by kernel_rfl
theorem fix3 : (lgF [⟨4, 1, 0⟩]).doF (enF 2 2 6) 4 = (lgF [⟨4, 2, 9⟩], 9) := by kernel_rfl
theorem lgF_wf {os : List Oc} : (lgF os).Wf := ⟨by show i64ok 0; unfold i64ok; omega, by show i64ok 0; unfold i64ok; omega, fun x hx => by
  obtain rfl : x = ⟨⟨#[97]⟩, 1, 5, 0, ⟨#[48]⟩, ⟨#[]⟩⟩ := List.mem_singleton.1 hx
  exact ⟨by show i64ok 1; unfold i64ok; omega, by show i64ok 5; unfold i64ok; omega, by show i64ok 0; unfold i64ok; omega⟩⟩
theorem oc_ins3 {a b c : Int} (h1 : i64ok a) (h2 : i64ok b) (h3 : i64ok c) : OcIns ⟨a, b, c⟩ := ⟨h1, h2, h3⟩
set_option maxHeartbeats 2000000 in
theorem fixed14_s (he : isIf e1) (hr : isIf e2) : Spec Tryz.prog 6 [] (globs e1 e2) (fun _ : Unit => []) (fun _ => boo true) := by
  refine spec_of Tryz.func6 rfl Tryz.ntmps6 rfl fun G w => ?_
  refine SC.seq (SC.region ?_)
  refine SL.val (Val.assign rfl) rfl rfl ?_
  refine SL.nil (SE.seq ?_)
  refine SC.seq (SC.region ?_)
  refine SL.val (Val.buildS (L := (coF 1 1).cells.map .v) tabOk rfl rfl rfl (by rfl)) rfl rfl ?_
  refine SL.val (Val.buildS (L := entA (enF 1 1 1)) tabOk rfl rfl rfl (by rfl)) rfl rfl ?_
  refine SL.eff (Eff.alloc tabOk rfl) rfl rfl ?_
  rintro _ _ ⟨b1, rfl, rfl⟩
  refine SL.eff (Eff.store (L' := entA (enF 1 1 1)) tabOk rfl rfl rfl (by repeat first|assumption|exact Upd.here|apply Upd.there) rfl (Nat.le_of_ble_eq_true (by rfl)) rfl (by exact putL_whole rfl)) rfl rfl ?_
  rintro _ _ ⟨rfl, rfl⟩
  refine SL.nil (SE.seq ?_)
  refine SC.seq (SC.region ?_)
  refine SL.val (Val.buildS tabOk rfl rfl rfl rfl) rfl rfl ?_
  refine SL.val (Val.to (C := .agg (entA (enF 1 1 1))) (Val.loadP tabOk rfl rfl rfl (by first|(apply Or.inl;(repeat first|assumption|exact m0|apply m1);done)|(apply Or.inr;(repeat first|assumption|exact m0|apply m1);done)) List.not_mem_nil (Nat.le_of_ble_eq_true (by rfl))) rfl) rfl rfl ?_
  refine SL.call (do_s (l := Lg.zero) (e := (enF 1 1 1)) (n := 4) he hr (by decide) ⟨by decide, by decide⟩ Lg.zero_ins.wf (show i64ok 5 by unfold i64ok; omega) (by show (1 : Nat) ≤ _; omega)) (Casts.cons (cast_agg (Casts.keep (Casts.keep (Casts.nils (s := 6) (Casts.nils (s := 3) Casts.refl))))) Casts.refl) (by kernel_rfl) rfl rfl rfl ?_
  refine After.pure (by repeat (first | exact Reads.nil | (refine Reads.blk ?_ ?_; focus ((repeat first|assumption|exact m0|apply m1); done)) | (refine Reads.rd ?_ ?_; focus ((repeat first|assumption|exact m0|apply m1); done)) | (refine Reads.pc ?_ ?_; focus ((repeat first|assumption|exact m0|apply m1); done)) | (refine Reads.rdpc ?_ ?_; focus ((repeat first|assumption|exact m0|apply m1); done)))) (fun _ => rfl) ?_
  intro _
  rw [fix1]
  refine SL.val (Val.move rfl) rfl rfl ?_
  refine SL.val (Val.extract rfl rfl) rfl rfl ?_
  refine SL.val (Val.extract rfl rfl) rfl rfl ?_
  refine SL.eff (Eff.alloc tabOk rfl) rfl rfl ?_
  rintro _ _ ⟨b2, rfl, rfl⟩
  refine SL.eff (Eff.store (L' := (lgF [⟨4, 1, 0⟩]).abs) tabOk rfl rfl rfl (by repeat first|assumption|exact Upd.here|apply Upd.there) rfl (Nat.le_of_ble_eq_true (by rfl)) rfl (by exact putL_whole rfl)) rfl rfl ?_
  rintro _ _ ⟨rfl, rfl⟩
  refine SL.val (Val.assign rfl) rfl rfl ?_
  refine SL.nil (SE.seq ?_)
  refine SC.seq (SC.region ?_)
  refine SL.val (Val.to (C := .agg (lgF [⟨4, 1, 0⟩]).abs) (Val.loadP tabOk rfl rfl rfl (by first|(apply Or.inl;(repeat first|assumption|exact m0|apply m1);done)|(apply Or.inr;(repeat first|assumption|exact m0|apply m1);done)) List.not_mem_nil (Nat.le_of_ble_eq_true (by rfl))) rfl) rfl rfl ?_
  refine SL.val (Val.to (C := .agg (entA (enF 1 1 1))) (Val.loadP tabOk rfl rfl rfl (by first|(apply Or.inl;(repeat first|assumption|exact m0|apply m1);done)|(apply Or.inr;(repeat first|assumption|exact m0|apply m1);done)) List.not_mem_nil (Nat.le_of_ble_eq_true (by rfl))) rfl) rfl rfl ?_
  refine SL.call (do_s (l := (lgF [⟨4, 1, 0⟩])) (e := (enF 1 1 1)) (n := 4) he hr (by decide) ⟨by decide, by decide⟩ lgF_wf (show i64ok 5 by unfold i64ok; omega) (by show (1 : Nat) ≤ _; omega)) Casts.refl (by kernel_rfl) rfl rfl rfl ?_
  refine After.pure (by repeat (first | exact Reads.nil | (refine Reads.blk ?_ ?_; focus ((repeat first|assumption|exact m0|apply m1); done)) | (refine Reads.rd ?_ ?_; focus ((repeat first|assumption|exact m0|apply m1); done)) | (refine Reads.pc ?_ ?_; focus ((repeat first|assumption|exact m0|apply m1); done)) | (refine Reads.rdpc ?_ ?_; focus ((repeat first|assumption|exact m0|apply m1); done)))) (fun _ => rfl) ?_
  intro _
  rw [fix2]
  refine SL.val (Val.move rfl) rfl rfl ?_
  refine SL.val (Val.extract rfl rfl) rfl rfl ?_
  refine SL.val (Val.extract rfl rfl) rfl rfl ?_
  refine SL.eff (Eff.alloc tabOk rfl) rfl rfl ?_
  rintro _ _ ⟨b4, rfl, rfl⟩
  refine SL.eff (Eff.store (L' := (lgF [⟨4, 1, 0⟩]).abs) tabOk rfl rfl rfl (by repeat first|assumption|exact Upd.here|apply Upd.there) rfl (Nat.le_of_ble_eq_true (by rfl)) rfl (by exact putL_whole rfl)) rfl rfl ?_
  rintro _ _ ⟨rfl, rfl⟩
  refine SL.val (Val.assign rfl) rfl rfl ?_
  refine SL.nil (SE.seq ?_)
  refine SC.seq (SC.region ?_)
  refine SL.val (Val.fieldAddr tabOk rfl rfl rfl rfl rfl) rfl rfl ?_
  refine SL.val (Val.fieldAddr tabOk rfl rfl rfl rfl rfl) rfl rfl ?_
  refine SL.eff (Eff.store (L' := entA (enF 2 1 1)) tabOk rfl rfl rfl (by repeat first|assumption|exact Upd.here|apply Upd.there) rfl (Nat.le_of_ble_eq_true (by rfl)) rfl (by rfl)) rfl rfl ?_
  rintro _ _ ⟨rfl, rfl⟩
  refine SL.val (Val.fieldAddr tabOk rfl rfl rfl rfl rfl) rfl rfl ?_
  refine SL.val (Val.fieldAddr tabOk rfl rfl rfl rfl rfl) rfl rfl ?_
  refine SL.eff (Eff.store (L' := entA (enF 2 2 1)) tabOk rfl rfl rfl (by repeat first|assumption|exact Upd.here|apply Upd.there) rfl (Nat.le_of_ble_eq_true (by rfl)) rfl (by rfl)) rfl rfl ?_
  rintro _ _ ⟨rfl, rfl⟩
  refine SL.val (Val.fieldAddr tabOk rfl rfl rfl rfl rfl) rfl rfl ?_
  refine SL.eff (Eff.store (L' := entA (enF 2 2 6)) tabOk rfl rfl rfl (by repeat first|assumption|exact Upd.here|apply Upd.there) rfl (Nat.le_of_ble_eq_true (by rfl)) rfl (by rfl)) rfl rfl ?_
  rintro _ _ ⟨rfl, rfl⟩
  refine SL.nil (SE.seq ?_)
  refine SC.seq (SC.region ?_)
  refine SL.val (Val.to (C := .agg (lgF [⟨4, 1, 0⟩]).abs) (Val.loadP tabOk rfl rfl rfl (by first|(apply Or.inl;(repeat first|assumption|exact m0|apply m1);done)|(apply Or.inr;(repeat first|assumption|exact m0|apply m1);done)) List.not_mem_nil (Nat.le_of_ble_eq_true (by rfl))) rfl) rfl rfl ?_
  refine SL.val (Val.to (C := .agg (entA (enF 2 2 6))) (Val.loadP tabOk rfl rfl rfl (by first|(apply Or.inl;(repeat first|assumption|exact m0|apply m1);done)|(apply Or.inr;(repeat first|assumption|exact m0|apply m1);done)) List.not_mem_nil (Nat.le_of_ble_eq_true (by rfl))) rfl) rfl rfl ?_
  refine SL.call (do_s (l := (lgF [⟨4, 1, 0⟩])) (e := (enF 2 2 6)) (n := 4) he hr (by decide) ⟨by decide, by decide⟩ lgF_wf (show i64ok 5 by unfold i64ok; omega) (by show (1 : Nat) ≤ _; omega)) Casts.refl (by kernel_rfl) rfl rfl rfl ?_
  refine After.pure (by repeat (first | exact Reads.nil | (refine Reads.blk ?_ ?_; focus ((repeat first|assumption|exact m0|apply m1); done)) | (refine Reads.rd ?_ ?_; focus ((repeat first|assumption|exact m0|apply m1); done)) | (refine Reads.pc ?_ ?_; focus ((repeat first|assumption|exact m0|apply m1); done)) | (refine Reads.rdpc ?_ ?_; focus ((repeat first|assumption|exact m0|apply m1); done)))) (fun _ => rfl) ?_
  intro _
  rw [fix3]
  refine SL.val (Val.move rfl) rfl rfl ?_
  refine SL.val (Val.extract rfl rfl) rfl rfl ?_
  refine SL.val (Val.extract rfl rfl) rfl rfl ?_
  refine SL.eff (Eff.alloc tabOk rfl) rfl rfl ?_
  rintro _ _ ⟨b6, rfl, rfl⟩
  refine SL.eff (Eff.store (L' := (lgF [⟨4, 2, 9⟩]).abs) tabOk rfl rfl rfl (by repeat first|assumption|exact Upd.here|apply Upd.there) rfl (Nat.le_of_ble_eq_true (by rfl)) rfl (by exact putL_whole rfl)) rfl rfl ?_
  rintro _ _ ⟨rfl, rfl⟩
  refine SL.val (Val.assign rfl) rfl rfl ?_
  refine SL.nil (SE.seq ?_)
  refine SC.seq (SC.region ?_)
  refine SL.val (Val.move rfl) rfl rfl ?_
  refine SL.val (Val.to (C := boo true) (Val.eqI rfl rfl) (congrArg (fun b => Abs.v (Value.bool b)) (decide_eq_true (rfl)))) rfl rfl ?_
  refine SL.val (Val.move rfl) rfl rfl ?_
  refine SL.val (Val.move rfl) rfl rfl ?_
  refine SL.val (Val.to (C := boo true) (Val.eqI rfl rfl) (congrArg (fun b => Abs.v (Value.bool b)) (decide_eq_true (rfl)))) rfl rfl ?_
  refine SL.val (Val.pickT rfl rfl) rfl rfl ?_
  refine SL.val (Val.move rfl) rfl rfl ?_
  refine SL.val (Val.move rfl) rfl rfl ?_
  refine SL.val (Val.to (C := boo true) (Val.eqI rfl rfl) (congrArg (fun b => Abs.v (Value.bool b)) (decide_eq_true (rfl)))) rfl rfl ?_
  refine SL.val (Val.pickT rfl rfl) rfl rfl ?_
  refine SL.val (Val.move rfl) rfl rfl ?_
  refine SL.val (Val.fieldAddr tabOk rfl rfl rfl rfl rfl) rfl rfl ?_
  refine SL.val (Val.to (C := ltrsA (lgF []).ls) (Val.load1 tabOk rfl rfl (by first|(apply Or.inl;(repeat first|assumption|exact m0|apply m1);done)|(apply Or.inr;(repeat first|assumption|exact m0|apply m1);done)) List.not_mem_nil (by rfl)) rfl) rfl rfl ?_
  refine SL.val (Val.to (C := int 1) (Val.lenSl rfl Tryz.underlying22 (by rfl)) rfl) rfl rfl ?_
  refine SL.val (Val.to (C := boo true) (Val.eqI rfl rfl) (congrArg (fun b => Abs.v (Value.bool b)) (decide_eq_true (rfl)))) rfl rfl ?_
  refine SL.val (Val.pickT rfl rfl) rfl rfl ?_
  refine SL.val (Val.move rfl) rfl rfl ?_
  refine SL.val (Val.fieldAddr tabOk rfl rfl rfl rfl rfl) rfl rfl ?_
  refine SL.val (Val.to (C := ltrsA (lgF []).ls) (Val.load1 tabOk rfl rfl (by first|(apply Or.inl;(repeat first|assumption|exact m0|apply m1);done)|(apply Or.inr;(repeat first|assumption|exact m0|apply m1);done)) List.not_mem_nil (by rfl)) rfl) rfl rfl ?_
  refine SL.val (Val.indexSl (q := 0) (cs := ltrA ⟨⟨#[97]⟩, 1, 5, 0, ⟨#[48]⟩, ⟨#[]⟩⟩) tabOk Tryz.underlying22 rfl rfl rfl rfl (by rfl) rfl rfl) rfl rfl ?_
  first
    | refine SL.val (Val.fieldAddr tabOk rfl rfl rfl rfl rfl) rfl rfl ?_
    | refine SL.val (Val.fieldAddrR tabOk rfl rfl rfl rfl rfl) rfl rfl ?_
  refine SL.val (Val.to (C := int 1) (Val.load1R tabOk rfl rfl rfl) rfl) rfl rfl ?_
  refine SL.val (Val.to (C := boo true) (Val.eqI rfl rfl) (congrArg (fun b => Abs.v (Value.bool b)) (decide_eq_true (rfl)))) rfl rfl ?_
  refine SL.val (Val.pickT rfl rfl) rfl rfl ?_
  refine SL.val (Val.move rfl) rfl rfl ?_
  refine SL.val (Val.fieldAddr tabOk rfl rfl rfl rfl rfl) rfl rfl ?_
  refine SL.val (Val.to (C := .sl 3 [Oc.abs ⟨4, 2, 9⟩]) (Val.load1 tabOk rfl rfl (by first|(apply Or.inl;(repeat first|assumption|exact m0|apply m1);done)|(apply Or.inr;(repeat first|assumption|exact m0|apply m1);done)) List.not_mem_nil (by rfl)) rfl) rfl rfl ?_
  refine SL.val (Val.indexSl (q := 0) (cs := Oc.abs ⟨4, 2, 9⟩) tabOk Tryz.underlying23 rfl rfl rfl rfl (by rfl) rfl rfl) rfl rfl ?_
  refine SL.val (Val.loadAR tabOk rfl rfl rfl (by rfl)) rfl rfl ?_
  refine SL.val (Val.buildS (L := Oc.abs ⟨4, 2, 9⟩) tabOk rfl rfl rfl (by rfl)) rfl rfl ?_
  refine SL.val (Val.to (C := boo true) (Val.eqA rfl rfl (oc_plains _) (oc_plains _) (by kernel_rfl) (eqlOc (oc_ins3 (show i64ok 4 by unfold i64ok; omega) (show i64ok 2 by unfold i64ok; omega) (show i64ok 9 by unfold i64ok; omega)) (oc_ins3 (show i64ok 4 by unfold i64ok; omega) (show i64ok 2 by unfold i64ok; omega) (show i64ok 9 by unfold i64ok; omega)))) (congrArg (fun b => Abs.v (Value.bool b)) (decide_eq_true (rfl)))) rfl rfl ?_
  refine SL.val (Val.pickT rfl rfl) rfl rfl ?_
  refine SL.val (Val.assign rfl) rfl rfl ?_
  refine SL.nil (SE.seq ?_)
  refine SC.ret ?_
  refine SE.fin (rs := [.tmp 0]) rfl (RV.tmp rfl RV.nil) (()) (by repeat first|exact s0 _|exact s1 _|apply s2|apply s3) (by simp [It.rids]) ?_
  exact rfl
end
end Go.Proofs.YtkeapnefdjkhoaaGreatDoor.A
