/-
  Packed out of the texts: L8, Cli3, L9, L10, L11, Cli4, L12, L13, Cli5.
-/
import Derived.Test.YtmkijjmbiiiicaaL011
/-
  The program's client: New, Ask.
-/
set_option maxRecDepth 100000
set_option linter.unusedSimpArgs false
set_option linter.unusedVariables false
namespace Go.Proofs.Ytmkijjmbiiiicaa.A
open Go.RowKit

theorem After.make3 {ι : Type} {σ σ1 : Blks} {τ' : ι → Blks} {a b c : ι → It} {K : Blks → ι → Prop} (h : Reads σ σ1) (hτ : ∀ z, τ' z = [a z, b z, c z]) (k : ∀ z, K (a z :: b z :: c z :: σ) z) : After σ σ1 τ' K := ⟨σ, h.split, fun z => ⟨_, by rw [hτ z]; exact List.Perm.refl _, k z⟩⟩
noncomputable def askE (n id stamp : Int) (x : Core) : Int := if x = nextC id stamp x then x.check n else 1
def askM (T : List (ByteArray × Nat)) (n id : Int) (x : Core) : Msg := Msg.mk 1 id (askB x) (tagsG (gI id (textV 1 (askB x))) T (allN n))
def askT (T : List (ByteArray × Nat)) (n id : Int) (x : Core) : List (ByteArray × Nat) := tmG (gI id (textV 1 (askB x))) T (allN n)
def askP (e : Int) (p q bd bt : Nat) (n id stamp : Int) (x : Core) (T : List (ByteArray × Nat)) (av : Value) (z : Nat × Nat × Nat × Nat) : Blks :=
  if e = 0 then [.blk z.1 82 (wtA x (askM T n id x) z.2.1), .blk z.2.1 114 [mapV z.2.2.1, mapV z.2.2.2], .pc (mapPc z.2.2.1 intK intK intOk []), .pc (mapPc z.2.2.2 intK cntV intOk []), .blk p 73 (clA q n id x.stamp (ptrV z.1) av), .blk q 68 [mapV bd, mapV bt], .pc (mapPc bt Value.string cntV sOk (askT T n id x))]
  else [.blk p 73 (clA q n id stamp (.pointer none) av), .blk q 68 [mapV bd, mapV bt], .pc (mapPc bt Value.string cntV sOk T)]
theorem askP_rids {e : Int} {p q bd bt : Nat} {n id stamp : Int} {x : Core} {T : List (ByteArray × Nat)} {av : Value} {z : Nat × Nat × Nat × Nat} : ∀ y ∈ askP e p q bd bt n id stamp x T av z, y.rids = [] := by
  unfold askP
  split <;> simp [It.rids]
def askL (e : Int) (T : List (ByteArray × Nat)) (n id : Int) (x : Core) : List (List Abs) := if e = 0 then parcels (askM T n id x) (allN n) else []
section
variable {p q bd bt wb t bv bn : Nat} {n id stamp : Int} {av w : Value} {x c : Core} {m mw : Msg} {T : List (ByteArray × Nat)}
set_option maxHeartbeats 1000000 in
theorem recv0_s (hl : m.body.length ≤ 100000) (hn : Num1 T) (hT : T.length < 1000000) : Spec Try.prog 11 [ptr p, .agg m.abs] [.rd p 73 (clA q n id stamp (.pointer none) av), .rd q 68 [mapV bd, mapV bt], .rdpc (mapPc bt Value.string cntV sOk (T))] (fun _ : Unit => []) (fun _ => int (readR T n id stamp false m).2) := by
  refine spec_of Try.func11 rfl Try.ntmps11 rfl fun G w => ?_
  refine SC.seq (SC.region ?_)
  refine SL.eff (Eff.boxA (cs := m.abs) rfl) rfl rfl ?_
  rintro _ _ ⟨b3, rfl, rfl⟩
  refine SL.val (Val.assign rfl) rfl rfl ?_
  refine SL.nil (SE.seq ?_)
  refine SC.seq ?_
  refine SC.seq (SC.region ?_)
  refine SL.val (Val.move rfl) rfl rfl ?_
  refine SL.val (Val.eqP rfl rfl (by kernel_rfl)) rfl rfl ?_
  refine SL.nil (SE.seq ?_)
  refine SC.condF rfl ?_
  refine SC.skip ?_
  refine SE.seq ?_
  refine SC.seq (SC.region ?_)
  refine SL.val (Val.move rfl) rfl rfl ?_
  refine SL.val (Val.loadA tabOk rfl rfl rfl (by first|(apply Or.inl;(repeat first|assumption|exact m0|apply m1);done)|(apply Or.inr;(repeat first|assumption|exact m0|apply m1);done)) List.not_mem_nil rfl) rfl rfl ?_
  refine SL.call (read0_s (p := p) (q := q) (bd := bd) (bt := bt) (n := n) (id := id) (stamp := stamp) (av := av) (m := m) (T := T) hl hn hT) Casts.refl (by kernel_rfl) rfl rfl rfl ?_
  refine After.pure (by repeat (first | exact Reads.nil | (refine Reads.blk ?_ ?_; focus ((repeat first|assumption|exact m0|apply m1); done)) | (refine Reads.rd ?_ ?_; focus ((repeat first|assumption|exact m0|apply m1); done)) | (refine Reads.pc ?_ ?_; focus ((repeat first|assumption|exact m0|apply m1); done)) | (refine Reads.rdpc ?_ ?_; focus ((repeat first|assumption|exact m0|apply m1); done)))) (fun _ => rfl) ?_
  intro _
  refine SL.val (Val.move rfl) rfl rfl ?_
  refine SL.val (Val.extract rfl rfl) rfl rfl ?_
  refine SL.val (Val.extract rfl rfl) rfl rfl ?_
  refine SL.eff (Eff.alloc tabOk rfl) rfl rfl ?_
  rintro _ _ ⟨b5, rfl, rfl⟩
  refine SL.eff (Eff.store (L' := (readR T n id stamp false m).1.abs) tabOk rfl rfl rfl (by repeat first|assumption|exact Upd.here|apply Upd.there) rfl (Nat.le_of_ble_eq_true (by rfl)) rfl (by exact putL_whole rfl)) rfl rfl ?_
  rintro _ _ ⟨rfl, rfl⟩
  refine SL.val (Val.assign rfl) rfl rfl ?_
  refine SL.nil (SE.seq ?_)
  refine SC.seq ?_
  refine SC.seq (SC.region ?_)
  refine SL.val (Val.move rfl) rfl rfl ?_
  refine SL.val (Val.neI rfl rfl) rfl rfl ?_
  refine SL.nil (SE.seq ?_)
  refine SC.condP rfl ?_ (by intro hc18; exfalso; exact absurd (readR_ok (T := T) (n := n) (id := id) (stamp := stamp) (b := false) (m := m) (by omega)).waits (by decide))
  intro hc18
  refine SC.seq (SC.region ?_)
  refine SL.val (Val.move rfl) rfl rfl ?_
  refine SL.val (Val.assign rfl) rfl rfl ?_
  refine SL.nil (SE.seq ?_)
  refine SC.ret ?_
  refine SE.then_ (by intro h; cases h) ?_
  refine SE.fin (rs := [.tmp 4]) rfl (RV.tmp rfl RV.nil) (()) (by repeat first|exact s0 _|exact s1 _|apply s2|apply s3) (by simp [It.rids]) ?_
  exact rfl
theorem new_s (h1 : 1 ≤ n ∧ n ≤ 7) (h2 : n ≤ id ∧ id ≤ n + 3) : Spec Try.prog 8 [.ifc 24 (ptr q), int n, int id] [] (fun p : Nat => [.blk p 73 (clA q n id 0 (.pointer none) (.slice none 0 0)), own 60 3 (.slice none 0 0) []]) (fun p => ptr p) := by
  refine spec_of Try.func8 rfl Try.ntmps8 rfl fun G w => ?_
  refine SC.seq ?_
  refine SC.own0 60 3 ?_
  refine SC.region ?_
  refine SL.val (Val.assign rfl) rfl rfl ?_
  refine SL.nil (SE.seq ?_)
  refine SC.seq ?_
  refine SC.seq (SC.region ?_)
  refine SL.val (Val.move rfl) rfl rfl ?_
  refine SL.val (Val.ifaceNil Try.underlying70 rfl) rfl rfl ?_
  refine SL.val (Val.move rfl) rfl rfl ?_
  refine SL.val (Val.move rfl) rfl rfl ?_
  refine SL.val (Val.ltI rfl rfl) rfl rfl ?_
  refine SL.val (Val.pickF rfl rfl) rfl rfl ?_
  refine SL.val (Val.move rfl) rfl rfl ?_
  refine SL.bothP (t := 13) rfl (by intro hc13; exfalso; omega) ?_
  intro hc13
  refine SL.val (Val.move rfl) rfl rfl ?_
  refine SL.val (Val.gtI rfl rfl) rfl rfl ?_
  refine SL.val (Val.pickF rfl rfl) rfl rfl ?_
  refine SL.val (Val.move rfl) rfl rfl ?_
  refine SL.bothP (t := 17) rfl (by intro hc17; exfalso; omega) ?_
  intro hc17
  refine SL.val (Val.move rfl) rfl rfl ?_
  refine SL.val (Val.move rfl) rfl rfl ?_
  refine SL.val (Val.ltI rfl rfl) rfl rfl ?_
  refine SL.val (Val.pickF rfl rfl) rfl rfl ?_
  refine SL.val (Val.move rfl) rfl rfl ?_
  refine SL.bothP (t := 22) rfl (by intro hc22; exfalso; omega) ?_
  intro hc22
  refine SL.val (Val.move rfl) rfl rfl ?_
  refine SL.val (Val.move rfl) rfl rfl ?_
  first
    | refine SL.val (Val.addI rfl rfl (by simp only [InR, lo, hi]; omega)) rfl rfl ?_
    | refine SL.val (Val.addW rfl rfl) rfl rfl ?_
  refine SL.val (Val.geI rfl rfl) rfl rfl ?_
  refine SL.val (Val.pickF rfl rfl) rfl rfl ?_
  refine SL.nil (SE.seq ?_)
  refine SC.condP rfl (by intro hc27; exfalso; omega) ?_
  intro hc27
  refine SC.skip ?_
  refine SE.seq ?_
  refine SC.seq (SC.region ?_)
  refine SL.val (Val.move rfl) rfl rfl ?_
  refine SL.val (Val.move rfl) rfl rfl ?_
  refine SL.val (Val.move rfl) rfl rfl ?_
  refine SL.val (Val.buildS (L := clA q n id 0 (.pointer none) (.slice none 0 0)) tabOk rfl rfl rfl (by rfl)) rfl rfl ?_
  refine SL.eff (Eff.boxA (cs := clA q n id 0 (.pointer none) (.slice none 0 0)) rfl) rfl rfl ?_
  rintro _ _ ⟨b32, rfl, rfl⟩
  refine SL.val (Val.assign rfl) rfl rfl ?_
  refine SL.nil (SE.seq ?_)
  refine SC.ret ?_
  refine SE.fin (rs := [.tmp 6]) rfl (RV.tmp rfl RV.nil) (b32) (by repeat first|exact s0 _|exact s1 _|apply s2|apply s3) (by simp [It.rids]) ?_
  exact rfl
theorem newno_s (h1 : n < 1 ∨ 7 < n ∨ id < n ∨ n + 3 < id) : Spec Try.prog 8 [.ifc 24 (ptr q), int n, int id] [] (fun _ : Unit => []) (fun _ => .v (.pointer none)) := by
  refine spec_of Try.func8 rfl Try.ntmps8 rfl fun G w => ?_
  refine SC.seq (SC.region ?_)
  refine SL.val (Val.assign rfl) rfl rfl ?_
  refine SL.nil (SE.seq ?_)
  refine SC.seq ?_
  refine SC.seq (SC.region ?_)
  refine SL.val (Val.move rfl) rfl rfl ?_
  refine SL.val (Val.ifaceNil Try.underlying70 rfl) rfl rfl ?_
  refine SL.val (Val.move rfl) rfl rfl ?_
  refine SL.val (Val.move rfl) rfl rfl ?_
  refine SL.val (Val.ltI rfl rfl) rfl rfl ?_
  refine SL.val (Val.pickF rfl rfl) rfl rfl ?_
  refine SL.val (Val.move rfl) rfl rfl ?_
  refine SL.bothP (t := 13) rfl ?_ ?_
  · intro hc13
    iterate 2 refine SL.skip rfl rfl ?_
    refine SL.val (Val.pickT rfl rfl) rfl rfl ?_
    refine SL.val (Val.move rfl) rfl rfl ?_
    iterate 3 refine SL.skip rfl rfl ?_
    refine SL.val (Val.pickT rfl rfl) rfl rfl ?_
    refine SL.val (Val.move rfl) rfl rfl ?_
    iterate 4 refine SL.skip rfl rfl ?_
    refine SL.val (Val.pickT rfl rfl) rfl rfl ?_
    refine SL.nil (SE.seq ?_)
    refine SC.condT rfl ?_
    refine SC.seq (SC.region ?_)
    refine SL.val (Val.assign rfl) rfl rfl ?_
    refine SL.nil (SE.seq ?_)
    refine SC.ret ?_
    refine SE.then_ (by intro h; cases h) ?_
    refine SE.fin (rs := [.tmp 6]) rfl (RV.tmp rfl RV.nil) (()) (by repeat first|exact s0 _|exact s1 _|apply s2|apply s3) (by simp [It.rids]) ?_
    exact rfl
  intro hc13
  refine SL.val (Val.move rfl) rfl rfl ?_
  refine SL.val (Val.gtI rfl rfl) rfl rfl ?_
  refine SL.val (Val.pickF rfl rfl) rfl rfl ?_
  refine SL.val (Val.move rfl) rfl rfl ?_
  refine SL.bothP (t := 17) rfl ?_ ?_
  · intro hc17
    iterate 3 refine SL.skip rfl rfl ?_
    refine SL.val (Val.pickT rfl rfl) rfl rfl ?_
    refine SL.val (Val.move rfl) rfl rfl ?_
    iterate 4 refine SL.skip rfl rfl ?_
    refine SL.val (Val.pickT rfl rfl) rfl rfl ?_
    refine SL.nil (SE.seq ?_)
    refine SC.condT rfl ?_
    refine SC.seq (SC.region ?_)
    refine SL.val (Val.assign rfl) rfl rfl ?_
    refine SL.nil (SE.seq ?_)
    refine SC.ret ?_
    refine SE.then_ (by intro h; cases h) ?_
    refine SE.fin (rs := [.tmp 6]) rfl (RV.tmp rfl RV.nil) (()) (by repeat first|exact s0 _|exact s1 _|apply s2|apply s3) (by simp [It.rids]) ?_
    exact rfl
  intro hc17
  refine SL.val (Val.move rfl) rfl rfl ?_
  refine SL.val (Val.move rfl) rfl rfl ?_
  refine SL.val (Val.ltI rfl rfl) rfl rfl ?_
  refine SL.val (Val.pickF rfl rfl) rfl rfl ?_
  refine SL.val (Val.move rfl) rfl rfl ?_
  refine SL.bothP (t := 22) rfl ?_ ?_
  · intro hc22
    iterate 4 refine SL.skip rfl rfl ?_
    refine SL.val (Val.pickT rfl rfl) rfl rfl ?_
    refine SL.nil (SE.seq ?_)
    refine SC.condT rfl ?_
    refine SC.seq (SC.region ?_)
    refine SL.val (Val.assign rfl) rfl rfl ?_
    refine SL.nil (SE.seq ?_)
    refine SC.ret ?_
    refine SE.then_ (by intro h; cases h) ?_
    refine SE.fin (rs := [.tmp 6]) rfl (RV.tmp rfl RV.nil) (()) (by repeat first|exact s0 _|exact s1 _|apply s2|apply s3) (by simp [It.rids]) ?_
    exact rfl
  intro hc22
  refine SL.val (Val.move rfl) rfl rfl ?_
  refine SL.val (Val.move rfl) rfl rfl ?_
  first
    | refine SL.val (Val.addI rfl rfl (by simp only [InR, lo, hi]; omega)) rfl rfl ?_
    | refine SL.val (Val.addW rfl rfl) rfl rfl ?_
  refine SL.val (Val.geI rfl rfl) rfl rfl ?_
  refine SL.val (Val.pickF rfl rfl) rfl rfl ?_
  refine SL.nil (SE.seq ?_)
  refine SC.condP rfl ?_ (by intro hc27; exfalso; omega)
  intro hc27
  refine SC.seq (SC.region ?_)
  refine SL.val (Val.assign rfl) rfl rfl ?_
  refine SL.nil (SE.seq ?_)
  refine SC.ret ?_
  refine SE.then_ (by intro h; cases h) ?_
  refine SE.fin (rs := [.tmp 6]) rfl (RV.tmp rfl RV.nil) (()) (by repeat first|exact s0 _|exact s1 _|apply s2|apply s3) (by simp [It.rids]) ?_
  exact rfl
theorem asktwice_s  : Spec Try.prog 9 [ptr p, coreA x, .sl 2 []] [.rd p 73 (clA q n id stamp (ptrV wb) av)] (fun _ : Unit => []) (fun _ => .tup [.v (.slice none 0 0), int 15]) := by
  refine spec_of Try.func9 rfl Try.ntmps9 rfl fun G w => ?_
  refine SC.seq (SC.region ?_)
  refine SL.eff (Eff.boxA (cs := x.cells.map .v) rfl) rfl rfl ?_
  rintro _ _ ⟨b4, rfl, rfl⟩
  refine SL.val (Val.assign rfl) rfl rfl ?_
  refine SL.val (Val.assign rfl) rfl rfl ?_
  refine SL.nil (SE.seq ?_)
  refine SC.seq ?_
  refine SC.block ?_
  refine SC.seq (SC.region ?_)
  refine SL.val (Val.move rfl) rfl rfl ?_
  refine SL.val (Val.eqP rfl rfl (by kernel_rfl)) rfl rfl ?_
  refine SL.val (Val.assign rfl) rfl rfl ?_
  refine SL.nil (SE.seq ?_)
  refine SC.condF rfl ?_
  refine SC.seq (SC.region ?_)
  refine SL.val (Val.move rfl) rfl rfl ?_
  refine SL.val (Val.nilCheck rfl) rfl rfl ?_
  refine SL.val (Val.fieldAddr tabOk rfl rfl rfl rfl rfl) rfl rfl ?_
  refine SL.val (Val.to (C := ptr wb) (Val.load1 tabOk rfl rfl (by first|(apply Or.inl;(repeat first|assumption|exact m0|apply m1);done)|(apply Or.inr;(repeat first|assumption|exact m0|apply m1);done)) List.not_mem_nil (by rfl)) rfl) rfl rfl ?_
  refine SL.val (Val.neP rfl rfl (by kernel_rfl)) rfl rfl ?_
  refine SL.val (Val.assign rfl) rfl rfl ?_
  refine SL.nil (SE.seq ?_)
  refine SC.condT rfl ?_
  refine SC.seq (SC.region ?_)
  refine SL.val (Val.assign rfl) rfl rfl ?_
  refine SL.val (Val.assign rfl) rfl rfl ?_
  refine SL.nil (SE.seq ?_)
  refine SC.ret ?_
  refine SE.ret ?_
  refine SE.then_ (by intro h; cases h) ?_
  refine SE.fin (rs := [.tmp 6, .tmp 7]) rfl (RV.tmp rfl (RV.tmp rfl RV.nil)) (()) (by repeat first|exact s0 _|exact s1 _|apply s2|apply s3) (by simp [It.rids]) ?_
  exact rfl
set_option maxHeartbeats 8000000 in
theorem ask_c_s (hc : Core.ins x) (hd : Core.ins (nextC id stamp x)) (h1 : x.letter.size ≤ 1000) (h2 : x.text.size ≤ 1000) (hn : Num1 T) (hT : T.length ≤ 900000) (hs : 0 ≤ stamp ∧ stamp ≤ 1000000000) : Spec Try.prog 9 [ptr p, coreA x, .sl 2 []] [.blk p 73 (clA q n id stamp (.pointer none) av), .blk q 68 [mapV bd, mapV bt], .pc (mapPc bt Value.string cntV sOk (T))] (fun z : Nat × Nat × Nat × Nat => askP (askE n id stamp x) p q bd bt n id stamp x T av z) (fun _ => .tup [.sl 5 (askL (askE n id stamp x) T n id x), int (askE n id stamp x)]) := by
  have hal := allN_le n
  have hab := askB_length x
  have hcl := core_len (c := x)
  refine spec_of Try.func9 rfl Try.ntmps9 rfl fun G w => ?_
  refine SC.seq (SC.region ?_)
  refine SL.eff (Eff.boxA (cs := x.cells.map .v) rfl) rfl rfl ?_
  rintro _ _ ⟨b4, rfl, rfl⟩
  refine SL.val (Val.assign rfl) rfl rfl ?_
  refine SL.val (Val.assign rfl) rfl rfl ?_
  refine SL.nil (SE.seq ?_)
  refine SC.seq ?_
  refine SC.block ?_
  refine SC.seq (SC.region ?_)
  refine SL.val (Val.move rfl) rfl rfl ?_
  refine SL.val (Val.eqP rfl rfl (by kernel_rfl)) rfl rfl ?_
  refine SL.val (Val.assign rfl) rfl rfl ?_
  refine SL.nil (SE.seq ?_)
  refine SC.condF rfl ?_
  refine SC.seq (SC.region ?_)
  refine SL.val (Val.move rfl) rfl rfl ?_
  refine SL.val (Val.nilCheck rfl) rfl rfl ?_
  refine SL.val (Val.fieldAddr tabOk rfl rfl rfl rfl rfl) rfl rfl ?_
  refine SL.val (Val.to (C := .v (.pointer none)) (Val.load1 tabOk rfl rfl (by first|(apply Or.inl;(repeat first|assumption|exact m0|apply m1);done)|(apply Or.inr;(repeat first|assumption|exact m0|apply m1);done)) List.not_mem_nil (by rfl)) rfl) rfl rfl ?_
  refine SL.val (Val.neP rfl rfl (by kernel_rfl)) rfl rfl ?_
  refine SL.val (Val.assign rfl) rfl rfl ?_
  refine SL.nil (SE.seq ?_)
  refine SC.condF rfl ?_
  refine SC.seq ?_
  refine SC.draw [] (.q 0 (.q 1 (.q 2 (.e 3 (.q 4 (.q 5 .nil)))))) (by kernel_rfl) (by kernel_rfl) ?_
  refine SX.val rfl (Val.loadA tabOk rfl rfl rfl (by first|(apply Or.inl;(repeat first|assumption|exact m0|apply m1);done)|(apply Or.inr;(repeat first|assumption|exact m0|apply m1);done)) List.not_mem_nil rfl) (by first | (simp [mids, It.mids, ownPc, mapPc]; done) | (intro k hk; simp [mids, It.mids, ownPc, mapPc] at hk ⊢; grind)) rfl rfl ?_
  refine SX.val rfl (Val.move rfl) (by simp) rfl rfl ?_
  refine SX.val rfl (Val.loadA tabOk rfl rfl rfl (by first|(apply Or.inl;(repeat first|assumption|exact m0|apply m1);done)|(apply Or.inr;(repeat first|assumption|exact m0|apply m1);done)) List.not_mem_nil rfl) (by first | (simp [mids, It.mids, ownPc, mapPc]; done) | (intro k hk; simp [mids, It.mids, ownPc, mapPc] at hk ⊢; grind)) rfl rfl ?_
  refine SX.call rfl (next_s (p := p) (q := q) (n := n) (id := id) (stamp := stamp) (w := .pointer none) (av := av) (x := x) (by omega) (by omega)) (by simp [mids, It.mids]) Casts.refl (by kernel_rfl) rfl rfl rfl ?_
  refine After.pure (by repeat (first | exact Reads.nil | (refine Reads.blk ?_ ?_; focus ((repeat first|assumption|exact m0|apply m1); done)) | (refine Reads.rd ?_ ?_; focus ((repeat first|assumption|exact m0|apply m1); done)) | (refine Reads.pc ?_ ?_; focus ((repeat first|assumption|exact m0|apply m1); done)) | (refine Reads.rdpc ?_ ?_; focus ((repeat first|assumption|exact m0|apply m1); done)))) (fun _ => rfl) ?_
  intro _
  refine SX.val rfl (Val.neA rfl rfl (core_plains _) (core_plains _) (by kernel_rfl) (neqCo hc hd)) (by first | (simp [mids, It.mids, ownPc, mapPc]; done) | (intro k hk; simp [mids, It.mids, ownPc, mapPc] at hk ⊢; grind)) rfl rfl ?_
  refine SX.val rfl (Val.assign rfl) (by simp) rfl rfl ?_
  refine SX.nil (SE.seq ?_)
  refine SC.condP rfl ?_ ?_
  · intro hc19
    have hE : askE n id stamp x = 1 := if_neg (by simpa using hc19)
    refine SC.seq (SC.region ?_)
    refine SL.val (Val.assign rfl) rfl rfl ?_
    refine SL.val (Val.assign rfl) rfl rfl ?_
    refine SL.nil (SE.seq ?_)
    refine SC.ret ?_
    refine SE.ret ?_
    refine SE.then_ (by intro h; cases h) ?_
    refine SE.finC (rs := [.tmp 6, .tmp 7]) rfl (RV.tmp rfl (RV.tmp rfl RV.nil)) (Casts.nils (s := 5) Casts.refl) (0, 0, 0, 0) (by rw [hE]; unfold askP; rw [if_neg (by decide)]; repeat (first | exact List.nil_sublist _ | exact List.Sublist.refl _ | apply List.Sublist.cons_cons | apply List.Sublist.cons)) askP_rids ?_
    rw [hE]
    rfl
  intro hc19
  have hx : x = nextC id stamp x := Classical.byContradiction fun h => hc19 h
  have hE : askE n id stamp x = x.check n := if_pos hx
  refine SC.skip ?_
  refine SE.inBlock ?_
  refine SE.seq ?_
  refine SC.seq ?_
  refine SC.seq ?_
  refine SC.draw [] (.q 0 (.q 1 (.q 2 (.q 3 (.q 4 (.e 5 (.q 6 .nil))))))) (by kernel_rfl) (by kernel_rfl) ?_
  refine SX.val rfl (Val.loadA tabOk rfl rfl rfl (by first|(apply Or.inl;(repeat first|assumption|exact m0|apply m1);done)|(apply Or.inr;(repeat first|assumption|exact m0|apply m1);done)) List.not_mem_nil rfl) (by first | (simp [mids, It.mids, ownPc, mapPc]; done) | (intro k hk; simp [mids, It.mids, ownPc, mapPc] at hk ⊢; grind)) rfl rfl ?_
  refine SX.val rfl (Val.move rfl) (by simp) rfl rfl ?_
  refine SX.val rfl (Val.nilCheck rfl) (by simp) rfl rfl ?_
  refine SX.val rfl (Val.fieldAddr tabOk rfl rfl rfl rfl rfl) (by simp) rfl rfl ?_
  refine SX.val rfl (Val.load1 tabOk rfl rfl (by first|(apply Or.inl;(repeat first|assumption|exact m0|apply m1);done)|(apply Or.inr;(repeat first|assumption|exact m0|apply m1);done)) List.not_mem_nil (by rfl)) (by simp) rfl rfl ?_
  refine SX.call rfl (ccheck_s (c := x) (n := n)) (by simp [mids, It.mids]) Casts.refl (by kernel_rfl) rfl rfl rfl ?_
  refine After.pure (by repeat (first | exact Reads.nil | (refine Reads.blk ?_ ?_; focus ((repeat first|assumption|exact m0|apply m1); done)) | (refine Reads.rd ?_ ?_; focus ((repeat first|assumption|exact m0|apply m1); done)) | (refine Reads.pc ?_ ?_; focus ((repeat first|assumption|exact m0|apply m1); done)) | (refine Reads.rdpc ?_ ?_; focus ((repeat first|assumption|exact m0|apply m1); done)))) (fun _ => rfl) ?_
  intro _
  refine SX.val rfl (Val.assign rfl) (by simp) rfl rfl ?_
  refine SX.nil (SE.seq ?_)
  refine SC.seq (SC.region ?_)
  refine SL.val (Val.move rfl) rfl rfl ?_
  refine SL.val (Val.neI rfl rfl) rfl rfl ?_
  refine SL.nil (SE.seq ?_)
  refine SC.condP rfl ?_ ?_
  · intro hc32
    refine SC.seq (SC.region ?_)
    refine SL.val (Val.move rfl) rfl rfl ?_
    refine SL.val (Val.assign rfl) rfl rfl ?_
    refine SL.val (Val.assign rfl) rfl rfl ?_
    refine SL.nil (SE.seq ?_)
    refine SC.ret ?_
    refine SE.then_ (by intro h; cases h) ?_
    refine SE.finC (rs := [.tmp 6, .tmp 7]) rfl (RV.tmp rfl (RV.tmp rfl RV.nil)) (Casts.nils (s := 5) Casts.refl) (0, 0, 0, 0) (by rw [hE]; unfold askP; rw [if_neg (by assumption)]; repeat (first | exact List.nil_sublist _ | exact List.Sublist.refl _ | apply List.Sublist.cons_cons | apply List.Sublist.cons)) askP_rids ?_
    rw [hE]
    unfold askL
    rw [if_neg (by assumption)]
    rfl
  intro hc32
  have hE0 : askE n id stamp x = 0 := by rw [hE]; omega
  refine SC.skip ?_
  refine SE.seq ?_
  refine SC.seq (SC.region ?_)
  refine SL.val (Val.loadA tabOk rfl rfl rfl (by first|(apply Or.inl;(repeat first|assumption|exact m0|apply m1);done)|(apply Or.inr;(repeat first|assumption|exact m0|apply m1);done)) List.not_mem_nil rfl) rfl rfl ?_
  refine SL.val (Val.move rfl) rfl rfl ?_
  refine SL.val (Val.buildS (L := (Rq.mk x []).abs) tabOk rfl rfl rfl (by rfl)) rfl rfl ?_
  refine SL.call (ask_s (c := x) (by omega) (by omega)) Casts.refl (by kernel_rfl) rfl rfl rfl ?_
  refine After.pure (by repeat (first | exact Reads.nil | (refine Reads.blk ?_ ?_; focus ((repeat first|assumption|exact m0|apply m1); done)) | (refine Reads.rd ?_ ?_; focus ((repeat first|assumption|exact m0|apply m1); done)) | (refine Reads.pc ?_ ?_; focus ((repeat first|assumption|exact m0|apply m1); done)) | (refine Reads.rdpc ?_ ?_; focus ((repeat first|assumption|exact m0|apply m1); done)))) (fun _ => rfl) ?_
  intro _
  refine SL.val (Val.assign rfl) rfl rfl ?_
  refine SL.nil (SE.seq ?_)
  refine SC.seq (SC.region ?_)
  refine SL.val (Val.move rfl) rfl rfl ?_
  refine SL.val (Val.fieldAddr tabOk rfl rfl rfl rfl rfl) rfl rfl ?_
  refine SL.val (Val.load1 tabOk rfl rfl (by first|(apply Or.inl;(repeat first|assumption|exact m0|apply m1);done)|(apply Or.inr;(repeat first|assumption|exact m0|apply m1);done)) List.not_mem_nil (by rfl)) rfl rfl ?_
  refine SL.val (Val.nilCheck rfl) rfl rfl ?_
  refine SL.val (Val.fieldAddr tabOk rfl rfl rfl rfl rfl) rfl rfl ?_
  refine SL.eff (Eff.store tabOk rfl rfl rfl (by repeat first|assumption|exact Upd.here|apply Upd.there) (by rfl) (Nat.le_of_ble_eq_true (by rfl)) (by rfl) (by rfl)) rfl rfl ?_
  rintro _ _ ⟨rfl, rfl⟩
  refine SL.nil (SE.seq ?_)
  refine SC.seq ?_
  refine SC.known (p := p ∉ [q, bt] ∧ b4 ∉ [q, bt]) (fun _ _ h => by
      have h1 := h.mem.nodup
      simp [mids, It.mids, ownPc, mapPc] at h1 ⊢
      grind) fun hX => ?_
  refine SC.drawZ [q, bt] (.q 0 (.q 1 (.q 2 (.q 3 (.q 4 (.q 5 (.q 6 (.q 7 (.q 8 (.q 9 (.q 10 (.q 11 (.q 12 (.q 13 (.q 14 (.e 15 (.e 16 (.e 17 (.q 18 (.e 19 (.q 20 (.q 21 .nil)))))))))))))))))))))) (by kernel_rfl) (by kernel_rfl) ?_
  refine SX.val rfl (Val.move rfl) (by first | (simp [mids, It.mids, ownPc, mapPc]; done) | (intro k hk; simp [mids, It.mids, ownPc, mapPc] at hk ⊢; grind)) rfl rfl ?_
  refine SX.val rfl (Val.loadA tabOk rfl rfl rfl (by first|(apply Or.inl;(repeat first|assumption|exact m0|apply m1);done)|(apply Or.inr;(repeat first|assumption|exact m0|apply m1);done)) (by first | exact hX.1 | exact hX.2) rfl) (by first | (simp [mids, It.mids, ownPc, mapPc]; done) | (intro k hk; simp [mids, It.mids, ownPc, mapPc] at hk ⊢; grind)) rfl rfl ?_
  refine SX.val rfl (Val.move rfl) (by first | (simp [mids, It.mids, ownPc, mapPc]; done) | (intro k hk; simp [mids, It.mids, ownPc, mapPc] at hk ⊢; grind)) rfl rfl ?_
  refine SX.val rfl (Val.nilCheck rfl) (by first | (simp [mids, It.mids, ownPc, mapPc]; done) | (intro k hk; simp [mids, It.mids, ownPc, mapPc] at hk ⊢; grind)) rfl rfl ?_
  refine SX.val rfl (Val.fieldAddr tabOk rfl rfl rfl rfl rfl) (by first | (simp [mids, It.mids, ownPc, mapPc]; done) | (intro k hk; simp [mids, It.mids, ownPc, mapPc] at hk ⊢; grind)) rfl rfl ?_
  refine SX.val rfl (Val.load1 tabOk rfl rfl (by first|(apply Or.inl;(repeat first|assumption|exact m0|apply m1);done)|(apply Or.inr;(repeat first|assumption|exact m0|apply m1);done)) (by first | exact hX.1 | exact hX.2) (by rfl)) (by first | (simp [mids, It.mids, ownPc, mapPc]; done) | (intro k hk; simp [mids, It.mids, ownPc, mapPc] at hk ⊢; grind)) rfl rfl ?_
  refine SX.val rfl (Val.move rfl) (by first | (simp [mids, It.mids, ownPc, mapPc]; done) | (intro k hk; simp [mids, It.mids, ownPc, mapPc] at hk ⊢; grind)) rfl rfl ?_
  refine SX.val rfl (Val.nilCheck rfl) (by first | (simp [mids, It.mids, ownPc, mapPc]; done) | (intro k hk; simp [mids, It.mids, ownPc, mapPc] at hk ⊢; grind)) rfl rfl ?_
  refine SX.val rfl (Val.fieldAddr tabOk rfl rfl rfl rfl rfl) (by first | (simp [mids, It.mids, ownPc, mapPc]; done) | (intro k hk; simp [mids, It.mids, ownPc, mapPc] at hk ⊢; grind)) rfl rfl ?_
  refine SX.val rfl (Val.load1 tabOk rfl rfl (by first|(apply Or.inl;(repeat first|assumption|exact m0|apply m1);done)|(apply Or.inr;(repeat first|assumption|exact m0|apply m1);done)) (by first | exact hX.1 | exact hX.2) (by rfl)) (by first | (simp [mids, It.mids, ownPc, mapPc]; done) | (intro k hk; simp [mids, It.mids, ownPc, mapPc] at hk ⊢; grind)) rfl rfl ?_
  refine SX.val rfl (Val.move rfl) (by first | (simp [mids, It.mids, ownPc, mapPc]; done) | (intro k hk; simp [mids, It.mids, ownPc, mapPc] at hk ⊢; grind)) rfl rfl ?_
  refine SX.val rfl (Val.move rfl) (by first | (simp [mids, It.mids, ownPc, mapPc]; done) | (intro k hk; simp [mids, It.mids, ownPc, mapPc] at hk ⊢; grind)) rfl rfl ?_
  refine SX.val rfl (Val.nilCheck rfl) (by first | (simp [mids, It.mids, ownPc, mapPc]; done) | (intro k hk; simp [mids, It.mids, ownPc, mapPc] at hk ⊢; grind)) rfl rfl ?_
  refine SX.val rfl (Val.fieldAddr tabOk rfl rfl rfl rfl rfl) (by first | (simp [mids, It.mids, ownPc, mapPc]; done) | (intro k hk; simp [mids, It.mids, ownPc, mapPc] at hk ⊢; grind)) rfl rfl ?_
  refine SX.val rfl (Val.load1 tabOk rfl rfl (by first|(apply Or.inl;(repeat first|assumption|exact m0|apply m1);done)|(apply Or.inr;(repeat first|assumption|exact m0|apply m1);done)) (by first | exact hX.1 | exact hX.2) (by rfl)) (by first | (simp [mids, It.mids, ownPc, mapPc]; done) | (intro k hk; simp [mids, It.mids, ownPc, mapPc] at hk ⊢; grind)) rfl rfl ?_
  refine SX.call rfl (all_s (n := n)) (by simp [mids, It.mids]) Casts.refl (by kernel_rfl) rfl rfl rfl ?_
  refine After.pure (by repeat (first | exact Reads.nil | (refine Reads.blk ?_ ?_; focus ((repeat first|assumption|exact m0|apply m1); done)) | (refine Reads.rd ?_ ?_; focus ((repeat first|assumption|exact m0|apply m1); done)) | (refine Reads.pc ?_ ?_; focus ((repeat first|assumption|exact m0|apply m1); done)) | (refine Reads.rdpc ?_ ?_; focus ((repeat first|assumption|exact m0|apply m1); done)))) (fun _ => rfl) ?_
  intro _
  refine SX.call rfl (signi_s (q := q) (bd := bd) (bt := bt) (k := 1) (f := id) (body := askB x) (to := allN n) (T := T) (by omega) hn hT (by omega)) (by simp [mids, It.mids, mapPc]) Casts.refl (by kernel_rfl) rfl rfl rfl ?_
  first
    | refine After.mid [_, _] (β := []) rfl (by intro x hx; simp only [List.mem_cons, List.not_mem_nil, or_false] at hx; rcases hx with rfl | rfl <;> rfl) ?_
    | refine After.mid [_, _, _, _, _] (β := []) rfl (by intro x hx; simp only [List.mem_cons, List.not_mem_nil, or_false] at hx; rcases hx with rfl | rfl <;> rfl) ?_
  intro _
  refine SX.call rfl (er_new_s) (by simp [mids, It.mids]) Casts.refl (by kernel_rfl) rfl rfl rfl ?_
  refine After.make3 (by repeat (first | exact Reads.nil | (refine Reads.blk ?_ ?_; focus ((repeat first|assumption|exact m0|apply m1); done)) | (refine Reads.rd ?_ ?_; focus ((repeat first|assumption|exact m0|apply m1); done)) | (refine Reads.pc ?_ ?_; focus ((repeat first|assumption|exact m0|apply m1); done)) | (refine Reads.rdpc ?_ ?_; focus ((repeat first|assumption|exact m0|apply m1); done)))) (fun _ => rfl) ?_
  intro z60
  refine SX.val rfl (Val.buildS (L := wtA x (askM T n id x) z60.1) tabOk rfl rfl rfl (by rfl)) (by first | (simp [mids, It.mids, ownPc, mapPc]; done) | (intro k hk; simp [mids, It.mids, ownPc, mapPc] at hk ⊢; grind)) rfl rfl ?_
  refine SX.eff rfl (Eff.boxA (cs := wtA x (askM T n id x) z60.1) rfl) (by simp) rfl rfl ?_
  rintro _ _ ⟨b62, rfl, rfl⟩
  refine SX.val rfl (Val.nilCheck rfl) (by first | (simp [mids, It.mids, ownPc, mapPc]; done) | (intro k hk; simp [mids, It.mids, ownPc, mapPc] at hk ⊢; grind)) rfl rfl ?_
  refine SX.val rfl (Val.fieldAddr tabOk rfl rfl rfl rfl rfl) (by first | (simp [mids, It.mids, ownPc, mapPc]; done) | (intro k hk; simp [mids, It.mids, ownPc, mapPc] at hk ⊢; grind)) rfl rfl ?_
  refine SX.nil ?_
  refine SE.effZ rfl (Eff.store tabOk rfl rfl rfl (by repeat first|assumption|exact Upd.here|apply Upd.there) (by rfl) (Nat.le_of_ble_eq_true (by rfl)) (by rfl) (by rfl)) rfl rfl ?_
  rintro _ _ ⟨rfl, rfl⟩
  refine SE.seq ?_
  refine SC.seq (SC.region ?_)
  refine SL.val (Val.move rfl) rfl rfl ?_
  refine SL.call (againw_s (p := p) (q := q) (wb := b62) (t := z60.1) (n := n) (id := id) (stamp := x.stamp) (av := av) (c := x) (m := (askM T n id x))) Casts.refl (by kernel_rfl) rfl rfl rfl ?_
  refine After.pure (by repeat (first | exact Reads.nil | (refine Reads.blk ?_ ?_; focus ((repeat first|assumption|exact m0|apply m1); done)) | (refine Reads.rd ?_ ?_; focus ((repeat first|assumption|exact m0|apply m1); done)) | (refine Reads.pc ?_ ?_; focus ((repeat first|assumption|exact m0|apply m1); done)) | (refine Reads.rdpc ?_ ?_; focus ((repeat first|assumption|exact m0|apply m1); done)))) (fun _ => rfl) ?_
  intro _
  refine SL.val (Val.assign rfl) rfl rfl ?_
  refine SL.val (Val.assign rfl) rfl rfl ?_
  refine SL.nil (SE.seq ?_)
  refine SC.ret ?_
  refine SE.fin (rs := [.tmp 6, .tmp 7]) rfl (RV.tmp rfl (RV.tmp rfl RV.nil)) (b62, z60.1, z60.2.1, z60.2.2) (by rw [hE0]; unfold askP; rw [if_pos rfl]; repeat (first | exact List.nil_sublist _ | exact List.Sublist.refl _ | apply List.Sublist.cons_cons | apply List.Sublist.cons)) askP_rids ?_
  rw [hE0]
  unfold askL
  rw [if_pos rfl]
  rfl
end
end Go.Proofs.Ytmkijjmbiiiicaa.A
/-
  Clients: one state, whether something waits or not.
-/
set_option maxRecDepth 100000
set_option linter.unusedSimpArgs false
set_option linter.unusedVariables false
namespace Go.Proofs.Ytmkijjmbiiiicaa.A
open Go.RowKit

structure Wn where
  core : Core
  msg : Msg
  m : List (Int × Int)
  c : List (Int × Nat)
  wb : Nat
  t : Nat
  bv : Nat
  bn : Nat
structure CS where
  stamp : Int
  wait : Option Wn
  acc : List Oc
  av : Value
def clP (p q : Nat) (n id : Int) (s : CS) : Blks := match s with
  | ⟨stamp, none, acc, av⟩ => [.blk p 73 (clA q n id stamp (.pointer none) av), own 60 3 av (acc.map Oc.abs)]
  | ⟨stamp, some w, acc, av⟩ => [.blk p 73 (clA q n id stamp (ptrV w.wb) av), own 60 3 av (acc.map Oc.abs), .blk w.wb 82 (wtA w.core w.msg w.t), .blk w.t 114 [mapV w.bv, mapV w.bn], .pc (mapPc w.bv intK intK intOk w.m), .pc (mapPc w.bn intK cntV intOk w.c)]
theorem clP_rids {p q : Nat} {n id : Int} (s : CS) : ∀ x ∈ clP p q n id s, x.rids = [] := by
  obtain ⟨stamp, wait, acc, av⟩ := s
  cases wait <;> simp [clP, It.rids, own]
/-- The state behind a message. -/
def recvS (T : List (ByteArray × Nat)) (n id : Int) (s : CS) (m : Msg) (z : Value) : CS := match s with
  | ⟨stamp, none, acc, av⟩ => ⟨stamp, none, acc, av⟩
  | ⟨stamp, some w, acc, av⟩ => if recvD T n id stamp w.m w.c m = true then ⟨stamp, none, acc ++ [Oc.mk id (readR T n id stamp true m).1.stamp (readR T n id stamp true m).1.result], z⟩
    else ⟨stamp, some { w with m := recvM T n id stamp w.m m, c := recvC T n id stamp w.m w.c m }, acc, z⟩
/-- What is answered to a message. -/
def recvSE (T : List (ByteArray × Nat)) (n id : Int) (s : CS) (m : Msg) : Int := match s with
  | ⟨stamp, none, acc, av⟩ => (readR T n id stamp false m).2
  | ⟨stamp, some w, acc, av⟩ => recvE T n id stamp w.m m
/-- Votes as they come. -/
structure Votes (n : Int) (m : List (Int × Int)) (c : List (Int × Nat)) : Prop where
  inv : TInv m c
  who : ∀ w ∈ m.map (·.1), 0 ≤ w ∧ w < n
  what : ∀ w v, aget m w = some v → 0 ≤ v ∧ v ≤ 99
structure CSOk (n : Int) (s : CS) : Prop where
  votes : ∀ w, s.wait = some w → Votes n w.m w.c
  few : s.acc.length ≤ 1000
theorem nodup_le : ∀ (k : Nat) {l : List Int}, l.Nodup → (∀ x ∈ l, 0 ≤ x ∧ x < (k : Nat)) → l.length ≤ k
  | 0, l, _, h => by
    cases l with
    | nil => exact Nat.le_refl _
    | cons x l => have := h x List.mem_cons_self; omega
  | k + 1, l, hd, h => by
    have h1 := nodup_le k (l := l.erase (k : Int)) (hd.erase _) fun x hx => by
      have h2 := (hd.mem_erase_iff).1 hx
      have h3 := h x h2.2
      have := h2.1
      omega
    have h4 := List.length_erase (a := (k : Int)) (l := l)
    split at h4 <;> omega
theorem Votes.few {n : Int} {m : List (Int × Int)} {c : List (Int × Nat)} (h : Votes n m c) (hn : 1 ≤ n ∧ n ≤ 7) : m.length ≤ 7 := by
  have h1 := nodup_le 7 h.inv.nd fun x hx => by have := h.who x hx; omega
  simpa using h1
end Go.Proofs.Ytmkijjmbiiiicaa.A
/-
  The program's client as one state.
-/
set_option maxRecDepth 100000
set_option linter.unusedSimpArgs false
set_option linter.unusedVariables false
namespace Go.Proofs.Ytmkijjmbiiiicaa.A
open Go.RowKit

section
variable {p q bd bt : Nat} {n id stamp : Int} {av : Value} {x c : Core} {m mw : Msg} {acc : List Oc} {T : List (ByteArray × Nat)} {s : CS}
set_option maxHeartbeats 1000000 in
theorem recvn_s (hl : m.body.length ≤ 100000) (hn : Num1 T) (hT : T.length < 1000000) : Spec Try.prog 11 [ptr p, .agg m.abs] [.blk p 73 (clA q n id stamp (.pointer none) av), own 60 3 av (acc.map Oc.abs), .rd q 68 [mapV bd, mapV bt], .rdpc (mapPc bt Value.string cntV sOk (T))] (fun _ : Value => [.blk p 73 (clA q n id stamp (.pointer none) av), own 60 3 av (acc.map Oc.abs)]) (fun _ => int (readR T n id stamp false m).2) := by
  refine spec_of Try.func11 rfl Try.ntmps11 rfl fun G w => ?_
  refine SC.seq (SC.region ?_)
  refine SL.eff (Eff.boxA (cs := m.abs) rfl) rfl rfl ?_
  rintro _ _ ⟨b3, rfl, rfl⟩
  refine SL.val (Val.assign rfl) rfl rfl ?_
  refine SL.nil (SE.seq ?_)
  refine SC.seq ?_
  refine SC.seq (SC.region ?_)
  refine SL.val (Val.move rfl) rfl rfl ?_
  refine SL.val (Val.eqP rfl rfl (by kernel_rfl)) rfl rfl ?_
  refine SL.nil (SE.seq ?_)
  refine SC.condF rfl ?_
  refine SC.skip ?_
  refine SE.seq ?_
  refine SC.seq (SC.region ?_)
  refine SL.val (Val.move rfl) rfl rfl ?_
  refine SL.val (Val.loadA tabOk rfl rfl rfl (by first|(apply Or.inl;(repeat first|assumption|exact m0|apply m1);done)|(apply Or.inr;(repeat first|assumption|exact m0|apply m1);done)) List.not_mem_nil rfl) rfl rfl ?_
  refine SL.call (read0_s (p := p) (q := q) (bd := bd) (bt := bt) (n := n) (id := id) (stamp := stamp) (av := av) (m := m) (T := T) hl hn hT) Casts.refl (by kernel_rfl) rfl rfl rfl ?_
  refine After.pure (by repeat (first | exact Reads.nil | (refine Reads.blk ?_ ?_; focus ((repeat first|assumption|exact m0|apply m1); done)) | (refine Reads.rd ?_ ?_; focus ((repeat first|assumption|exact m0|apply m1); done)) | (refine Reads.pc ?_ ?_; focus ((repeat first|assumption|exact m0|apply m1); done)) | (refine Reads.rdpc ?_ ?_; focus ((repeat first|assumption|exact m0|apply m1); done)))) (fun _ => rfl) ?_
  intro _
  refine SL.val (Val.move rfl) rfl rfl ?_
  refine SL.val (Val.extract rfl rfl) rfl rfl ?_
  refine SL.val (Val.extract rfl rfl) rfl rfl ?_
  refine SL.eff (Eff.alloc tabOk rfl) rfl rfl ?_
  rintro _ _ ⟨b5, rfl, rfl⟩
  refine SL.eff (Eff.store (L' := (readR T n id stamp false m).1.abs) tabOk rfl rfl rfl (by repeat first|assumption|exact Upd.here|apply Upd.there) rfl (Nat.le_of_ble_eq_true (by rfl)) rfl (by exact putL_whole rfl)) rfl rfl ?_
  rintro _ _ ⟨rfl, rfl⟩
  refine SL.val (Val.assign rfl) rfl rfl ?_
  refine SL.nil (SE.seq ?_)
  refine SC.seq ?_
  refine SC.seq (SC.region ?_)
  refine SL.val (Val.move rfl) rfl rfl ?_
  refine SL.val (Val.neI rfl rfl) rfl rfl ?_
  refine SL.nil (SE.seq ?_)
  refine SC.condP rfl ?_ (by intro hc18; exfalso; exact absurd (readR_ok (T := T) (n := n) (id := id) (stamp := stamp) (b := false) (m := m) (by omega)).waits (by decide))
  intro hc18
  refine SC.seq (SC.region ?_)
  refine SL.val (Val.move rfl) rfl rfl ?_
  refine SL.val (Val.assign rfl) rfl rfl ?_
  refine SL.nil (SE.seq ?_)
  refine SC.ret ?_
  refine SE.then_ (by intro h; cases h) ?_
  refine SE.fin (rs := [.tmp 4]) rfl (RV.tmp rfl RV.nil) (av) (by repeat first|exact s0 _|exact s1 _|apply s2|apply s3) (by simp [It.rids, own]) ?_
  exact rfl
theorem recv_s (hl : m.body.length ≤ 100000) (hn : Num1 T) (hT : T.length < 1000000) (hs : CSOk n s) (h7 : 1 ≤ n ∧ n ≤ 7) : Spec Try.prog 11 [ptr p, .agg m.abs] (clP p q n id s ++ [.rd q 68 [mapV bd, mapV bt], .rdpc (mapPc bt Value.string cntV sOk (T))]) (fun z : Value => clP p q n id (recvS T n id s m z)) (fun _ => int (recvSE T n id s m)) := by
  obtain ⟨stamp, wait, acc, av⟩ := s
  cases wait with
  | none => exact recvn_s (p := p) (q := q) (bd := bd) (bt := bt) (n := n) (id := id) (stamp := stamp) (av := av) (acc := acc) (m := m) (T := T) hl hn hT
  | some w =>
    have hv := hs.votes w rfl
    have hf := hv.few h7
    have h := recvw_s (p := p) (q := q) (bd := bd) (bt := bt) (wb := w.wb) (t := w.t) (bv := w.bv) (bn := w.bn) (n := n) (id := id) (stamp := stamp) (av := av) (c := w.core) (m := m) (mw := w.msg) (acc := acc) (T := T) (M := w.m) (K := w.c) hl hn hT hv.inv (by omega) (fun a v ha => by have := hv.what a v ha; simp only [InR, lo, hi]; omega) (by have := hs.few; simp only at this; omega)
    have e : (fun z : Value => clP p q n id (recvS T n id ⟨stamp, some w, acc, av⟩ m z)) = fun z : Value => recvP (recvD T n id stamp w.m w.c m) p q w.t w.bv w.bn w.wb n id stamp w.core w.msg (recvM T n id stamp w.m m) (recvC T n id stamp w.m w.c m) (if recvD T n id stamp w.m w.c m = true then (acc ++ [Oc.mk id (readR T n id stamp true m).1.stamp (readR T n id stamp true m).1.result]) else acc) z := by
      funext z
      dsimp only [recvS]
      unfold recvP
      by_cases hD : recvD T n id stamp w.m w.c m = true
      · simp only [if_pos hD]; rfl
      · simp only [if_neg hD]; rfl
    rw [e]
    exact h
end
end Go.Proofs.Ytmkijjmbiiiicaa.A
/-
  The program's client as one state: Ask.
-/
set_option maxRecDepth 100000
set_option linter.unusedSimpArgs false
set_option linter.unusedVariables false
namespace Go.Proofs.Ytmkijjmbiiiicaa.A
open Go.RowKit

noncomputable def askS (T : List (ByteArray × Nat)) (n id : Int) (s : CS) (x : Core) (z : Nat × Nat × Nat × Nat) : CS := match s with
  | ⟨stamp, none, acc, av⟩ => if askE n id stamp x = 0 then ⟨x.stamp, some ⟨x, askM T n id x, [], [], z.1, z.2.1, z.2.2.1, z.2.2.2⟩, acc, av⟩ else ⟨stamp, none, acc, av⟩
  | ⟨stamp, some w, acc, av⟩ => ⟨stamp, some w, acc, av⟩
noncomputable def askSE (n id : Int) (s : CS) (x : Core) : Int := match s.wait with
  | none => askE n id s.stamp x
  | some _ => 15
noncomputable def askST (T : List (ByteArray × Nat)) (n id : Int) (s : CS) (x : Core) : List (ByteArray × Nat) := if askSE n id s x = 0 then askT T n id x else T
noncomputable def askSL (T : List (ByteArray × Nat)) (n id : Int) (s : CS) (x : Core) : List (List Abs) := if askSE n id s x = 0 then parcels (askM T n id x) (allN n) else []
def hidP (q bd bt : Nat) (T : List (ByteArray × Nat)) : Blks := [.blk q 68 [mapV bd, mapV bt], .pc (mapPc bt Value.string cntV sOk T)]
theorem askS_rids {p q bd bt : Nat} {n id : Int} {s : CS} {T : List (ByteArray × Nat)} : ∀ y ∈ clP p q n id s ++ hidP q bd bt T, y.rids = [] := by
  intro y hy
  rcases List.mem_append.1 hy with hy | hy
  · exact clP_rids s y hy
  · simp only [hidP, List.mem_cons, List.not_mem_nil, or_false] at hy
    rcases hy with rfl | rfl <;> rfl
section
variable {p q bd bt : Nat} {n id stamp : Int} {av : Value} {x c : Core} {m mw : Msg} {acc : List Oc} {T : List (ByteArray × Nat)} {s : CS} {ww : Wn}
theorem askw_s  : Spec Try.prog 9 [ptr p, coreA x, .sl 2 []] [.blk p 73 (clA q n id stamp (ptrV ww.wb) av), own 60 3 av (acc.map Oc.abs), .blk ww.wb 82 (wtA ww.core ww.msg ww.t), .blk ww.t 114 [mapV ww.bv, mapV ww.bn], .pc (mapPc ww.bv intK intK intOk ww.m), .pc (mapPc ww.bn intK cntV intOk ww.c), .blk q 68 [mapV bd, mapV bt], .pc (mapPc bt Value.string cntV sOk (T))] (fun z : Nat × Nat × Nat × Nat => clP p q n id (askS T n id (CS.mk stamp (some ww) acc av) x z) ++ hidP q bd bt (askST T n id (CS.mk stamp (some ww) acc av) x)) (fun _ => .tup [.sl 5 (askSL T n id (CS.mk stamp (some ww) acc av) x), int (askSE n id (CS.mk stamp (some ww) acc av) x)]) := by
  refine spec_of Try.func9 rfl Try.ntmps9 rfl fun G w => ?_
  refine SC.seq (SC.region ?_)
  refine SL.eff (Eff.boxA (cs := x.cells.map .v) rfl) rfl rfl ?_
  rintro _ _ ⟨b4, rfl, rfl⟩
  refine SL.val (Val.assign rfl) rfl rfl ?_
  refine SL.val (Val.assign rfl) rfl rfl ?_
  refine SL.nil (SE.seq ?_)
  refine SC.seq ?_
  refine SC.block ?_
  refine SC.seq (SC.region ?_)
  refine SL.val (Val.move rfl) rfl rfl ?_
  refine SL.val (Val.eqP rfl rfl (by kernel_rfl)) rfl rfl ?_
  refine SL.val (Val.assign rfl) rfl rfl ?_
  refine SL.nil (SE.seq ?_)
  refine SC.condF rfl ?_
  refine SC.seq (SC.region ?_)
  refine SL.val (Val.move rfl) rfl rfl ?_
  refine SL.val (Val.nilCheck rfl) rfl rfl ?_
  refine SL.val (Val.fieldAddr tabOk rfl rfl rfl rfl rfl) rfl rfl ?_
  refine SL.val (Val.to (C := ptr ww.wb) (Val.load1 tabOk rfl rfl (by first|(apply Or.inl;(repeat first|assumption|exact m0|apply m1);done)|(apply Or.inr;(repeat first|assumption|exact m0|apply m1);done)) List.not_mem_nil (by rfl)) rfl) rfl rfl ?_
  refine SL.val (Val.neP rfl rfl (by kernel_rfl)) rfl rfl ?_
  refine SL.val (Val.assign rfl) rfl rfl ?_
  refine SL.nil (SE.seq ?_)
  refine SC.condT rfl ?_
  refine SC.seq (SC.region ?_)
  refine SL.val (Val.assign rfl) rfl rfl ?_
  refine SL.val (Val.assign rfl) rfl rfl ?_
  refine SL.nil (SE.seq ?_)
  refine SC.ret ?_
  refine SE.ret ?_
  refine SE.then_ (by intro h; cases h) ?_
  have hE : askSE n id (CS.mk stamp (some ww) acc av) x = 15 := rfl
  have hT9 : askST T n id (CS.mk stamp (some ww) acc av) x = T := if_neg (by rw [hE]; decide)
  have hL9 : askSL T n id (CS.mk stamp (some ww) acc av) x = [] := if_neg (by rw [hE]; decide)
  refine SE.finC (rs := [.tmp 6, .tmp 7]) rfl (RV.tmp rfl (RV.tmp rfl RV.nil)) (Casts.nils (s := 5) Casts.refl) (0, 0, 0, 0) (by rw [hT9]; show List.Sublist [_, _, _, _, _, _, _, _] _; repeat (first | exact List.nil_sublist _ | exact List.Sublist.refl _ | apply List.Sublist.cons_cons | apply List.Sublist.cons)) askS_rids ?_
  rw [hL9]
  rfl
set_option maxHeartbeats 8000000 in
theorem askn_s (hc : Core.ins x) (hd : Core.ins (nextC id stamp x)) (h1 : x.letter.size ≤ 1000) (h2 : x.text.size ≤ 1000) (hn : Num1 T) (hT : T.length ≤ 900000) (hs : 0 ≤ stamp ∧ stamp ≤ 1000000000) : Spec Try.prog 9 [ptr p, coreA x, .sl 2 []] [.blk p 73 (clA q n id stamp (.pointer none) av), own 60 3 av (acc.map Oc.abs), .blk q 68 [mapV bd, mapV bt], .pc (mapPc bt Value.string cntV sOk (T))] (fun z : Nat × Nat × Nat × Nat => clP p q n id (askS T n id (CS.mk stamp none acc av) x z) ++ hidP q bd bt (askST T n id (CS.mk stamp none acc av) x)) (fun _ => .tup [.sl 5 (askSL T n id (CS.mk stamp none acc av) x), int (askSE n id (CS.mk stamp none acc av) x)]) := by
  have hal := allN_le n
  have hab := askB_length x
  have hcl := core_len (c := x)
  refine spec_of Try.func9 rfl Try.ntmps9 rfl fun G w => ?_
  refine SC.seq (SC.region ?_)
  refine SL.eff (Eff.boxA (cs := x.cells.map .v) rfl) rfl rfl ?_
  rintro _ _ ⟨b4, rfl, rfl⟩
  refine SL.val (Val.assign rfl) rfl rfl ?_
  refine SL.val (Val.assign rfl) rfl rfl ?_
  refine SL.nil (SE.seq ?_)
  refine SC.seq ?_
  refine SC.block ?_
  refine SC.seq (SC.region ?_)
  refine SL.val (Val.move rfl) rfl rfl ?_
  refine SL.val (Val.eqP rfl rfl (by kernel_rfl)) rfl rfl ?_
  refine SL.val (Val.assign rfl) rfl rfl ?_
  refine SL.nil (SE.seq ?_)
  refine SC.condF rfl ?_
  refine SC.seq (SC.region ?_)
  refine SL.val (Val.move rfl) rfl rfl ?_
  refine SL.val (Val.nilCheck rfl) rfl rfl ?_
  refine SL.val (Val.fieldAddr tabOk rfl rfl rfl rfl rfl) rfl rfl ?_
  refine SL.val (Val.to (C := .v (.pointer none)) (Val.load1 tabOk rfl rfl (by first|(apply Or.inl;(repeat first|assumption|exact m0|apply m1);done)|(apply Or.inr;(repeat first|assumption|exact m0|apply m1);done)) List.not_mem_nil (by rfl)) rfl) rfl rfl ?_
  refine SL.val (Val.neP rfl rfl (by kernel_rfl)) rfl rfl ?_
  refine SL.val (Val.assign rfl) rfl rfl ?_
  refine SL.nil (SE.seq ?_)
  refine SC.condF rfl ?_
  refine SC.seq ?_
  refine SC.draw [] (.q 0 (.q 1 (.q 2 (.e 3 (.q 4 (.q 5 .nil)))))) (by kernel_rfl) (by kernel_rfl) ?_
  refine SX.val rfl (Val.loadA tabOk rfl rfl rfl (by first|(apply Or.inl;(repeat first|assumption|exact m0|apply m1);done)|(apply Or.inr;(repeat first|assumption|exact m0|apply m1);done)) List.not_mem_nil rfl) (by first | (simp [mids, It.mids, ownPc, mapPc]; done) | (intro k hk; simp [mids, It.mids, ownPc, mapPc] at hk ⊢; grind)) rfl rfl ?_
  refine SX.val rfl (Val.move rfl) (by simp) rfl rfl ?_
  refine SX.val rfl (Val.loadA tabOk rfl rfl rfl (by first|(apply Or.inl;(repeat first|assumption|exact m0|apply m1);done)|(apply Or.inr;(repeat first|assumption|exact m0|apply m1);done)) List.not_mem_nil rfl) (by first | (simp [mids, It.mids, ownPc, mapPc]; done) | (intro k hk; simp [mids, It.mids, ownPc, mapPc] at hk ⊢; grind)) rfl rfl ?_
  refine SX.call rfl (next_s (p := p) (q := q) (n := n) (id := id) (stamp := stamp) (w := .pointer none) (av := av) (x := x) (by omega) (by omega)) (by simp [mids, It.mids]) Casts.refl (by kernel_rfl) rfl rfl rfl ?_
  refine After.pure (by repeat (first | exact Reads.nil | (refine Reads.blk ?_ ?_; focus ((repeat first|assumption|exact m0|apply m1); done)) | (refine Reads.rd ?_ ?_; focus ((repeat first|assumption|exact m0|apply m1); done)) | (refine Reads.pc ?_ ?_; focus ((repeat first|assumption|exact m0|apply m1); done)) | (refine Reads.rdpc ?_ ?_; focus ((repeat first|assumption|exact m0|apply m1); done)))) (fun _ => rfl) ?_
  intro _
  refine SX.val rfl (Val.neA rfl rfl (core_plains _) (core_plains _) (by kernel_rfl) (neqCo hc hd)) (by first | (simp [mids, It.mids, ownPc, mapPc]; done) | (intro k hk; simp [mids, It.mids, ownPc, mapPc] at hk ⊢; grind)) rfl rfl ?_
  refine SX.val rfl (Val.assign rfl) (by simp) rfl rfl ?_
  refine SX.nil (SE.seq ?_)
  refine SC.condP rfl ?_ ?_
  · intro hc19
    have hE : askE n id stamp x = 1 := if_neg (by simpa using hc19)
    refine SC.seq (SC.region ?_)
    refine SL.val (Val.assign rfl) rfl rfl ?_
    refine SL.val (Val.assign rfl) rfl rfl ?_
    refine SL.nil (SE.seq ?_)
    refine SC.ret ?_
    refine SE.ret ?_
    refine SE.then_ (by intro h; cases h) ?_
    have hE9 : askSE n id (CS.mk stamp none acc av) x = askE n id stamp x := rfl
    have hne : askE n id stamp x ≠ 0 := by rw [hE]; first | assumption | decide
    have hT9 : askST T n id (CS.mk stamp none acc av) x = T := if_neg (by rw [hE9]; exact hne)
    have hL9 : askSL T n id (CS.mk stamp none acc av) x = [] := if_neg (by rw [hE9]; exact hne)
    have hS9 : ∀ z, askS T n id (CS.mk stamp none acc av) x z = (CS.mk stamp none acc av) := fun z => if_neg hne
    refine SE.finC (rs := [.tmp 6, .tmp 7]) rfl (RV.tmp rfl (RV.tmp rfl RV.nil)) (Casts.nils (s := 5) Casts.refl) (0, 0, 0, 0) (by rw [hT9, hS9]; show List.Sublist [_, _, _, _] _; repeat (first | exact List.nil_sublist _ | exact List.Sublist.refl _ | apply List.Sublist.cons_cons | apply List.Sublist.cons)) askS_rids ?_
    rw [hL9, hE9, hE]
    rfl
  intro hc19
  have hx : x = nextC id stamp x := Classical.byContradiction fun h => hc19 h
  have hE : askE n id stamp x = x.check n := if_pos hx
  refine SC.skip ?_
  refine SE.inBlock ?_
  refine SE.seq ?_
  refine SC.seq ?_
  refine SC.seq ?_
  refine SC.draw [] (.q 0 (.q 1 (.q 2 (.q 3 (.q 4 (.e 5 (.q 6 .nil))))))) (by kernel_rfl) (by kernel_rfl) ?_
  refine SX.val rfl (Val.loadA tabOk rfl rfl rfl (by first|(apply Or.inl;(repeat first|assumption|exact m0|apply m1);done)|(apply Or.inr;(repeat first|assumption|exact m0|apply m1);done)) List.not_mem_nil rfl) (by first | (simp [mids, It.mids, ownPc, mapPc]; done) | (intro k hk; simp [mids, It.mids, ownPc, mapPc] at hk ⊢; grind)) rfl rfl ?_
  refine SX.val rfl (Val.move rfl) (by simp) rfl rfl ?_
  refine SX.val rfl (Val.nilCheck rfl) (by simp) rfl rfl ?_
  refine SX.val rfl (Val.fieldAddr tabOk rfl rfl rfl rfl rfl) (by simp) rfl rfl ?_
  refine SX.val rfl (Val.load1 tabOk rfl rfl (by first|(apply Or.inl;(repeat first|assumption|exact m0|apply m1);done)|(apply Or.inr;(repeat first|assumption|exact m0|apply m1);done)) List.not_mem_nil (by rfl)) (by simp) rfl rfl ?_
  refine SX.call rfl (ccheck_s (c := x) (n := n)) (by simp [mids, It.mids]) Casts.refl (by kernel_rfl) rfl rfl rfl ?_
  refine After.pure (by repeat (first | exact Reads.nil | (refine Reads.blk ?_ ?_; focus ((repeat first|assumption|exact m0|apply m1); done)) | (refine Reads.rd ?_ ?_; focus ((repeat first|assumption|exact m0|apply m1); done)) | (refine Reads.pc ?_ ?_; focus ((repeat first|assumption|exact m0|apply m1); done)) | (refine Reads.rdpc ?_ ?_; focus ((repeat first|assumption|exact m0|apply m1); done)))) (fun _ => rfl) ?_
  intro _
  refine SX.val rfl (Val.assign rfl) (by simp) rfl rfl ?_
  refine SX.nil (SE.seq ?_)
  refine SC.seq (SC.region ?_)
  refine SL.val (Val.move rfl) rfl rfl ?_
  refine SL.val (Val.neI rfl rfl) rfl rfl ?_
  refine SL.nil (SE.seq ?_)
  refine SC.condP rfl ?_ ?_
  · intro hc32
    refine SC.seq (SC.region ?_)
    refine SL.val (Val.move rfl) rfl rfl ?_
    refine SL.val (Val.assign rfl) rfl rfl ?_
    refine SL.val (Val.assign rfl) rfl rfl ?_
    refine SL.nil (SE.seq ?_)
    refine SC.ret ?_
    refine SE.then_ (by intro h; cases h) ?_
    have hE9 : askSE n id (CS.mk stamp none acc av) x = askE n id stamp x := rfl
    have hne : askE n id stamp x ≠ 0 := by rw [hE]; first | assumption | decide
    have hT9 : askST T n id (CS.mk stamp none acc av) x = T := if_neg (by rw [hE9]; exact hne)
    have hL9 : askSL T n id (CS.mk stamp none acc av) x = [] := if_neg (by rw [hE9]; exact hne)
    have hS9 : ∀ z, askS T n id (CS.mk stamp none acc av) x z = (CS.mk stamp none acc av) := fun z => if_neg hne
    refine SE.finC (rs := [.tmp 6, .tmp 7]) rfl (RV.tmp rfl (RV.tmp rfl RV.nil)) (Casts.nils (s := 5) Casts.refl) (0, 0, 0, 0) (by rw [hT9, hS9]; show List.Sublist [_, _, _, _] _; repeat (first | exact List.nil_sublist _ | exact List.Sublist.refl _ | apply List.Sublist.cons_cons | apply List.Sublist.cons)) askS_rids ?_
    rw [hL9, hE9, hE]
    rfl
  intro hc32
  have hE0 : askE n id stamp x = 0 := by rw [hE]; omega
  refine SC.skip ?_
  refine SE.seq ?_
  refine SC.seq (SC.region ?_)
  refine SL.val (Val.loadA tabOk rfl rfl rfl (by first|(apply Or.inl;(repeat first|assumption|exact m0|apply m1);done)|(apply Or.inr;(repeat first|assumption|exact m0|apply m1);done)) List.not_mem_nil rfl) rfl rfl ?_
  refine SL.val (Val.move rfl) rfl rfl ?_
  refine SL.val (Val.buildS (L := (Rq.mk x []).abs) tabOk rfl rfl rfl (by rfl)) rfl rfl ?_
  refine SL.call (ask_s (c := x) (by omega) (by omega)) Casts.refl (by kernel_rfl) rfl rfl rfl ?_
  refine After.pure (by repeat (first | exact Reads.nil | (refine Reads.blk ?_ ?_; focus ((repeat first|assumption|exact m0|apply m1); done)) | (refine Reads.rd ?_ ?_; focus ((repeat first|assumption|exact m0|apply m1); done)) | (refine Reads.pc ?_ ?_; focus ((repeat first|assumption|exact m0|apply m1); done)) | (refine Reads.rdpc ?_ ?_; focus ((repeat first|assumption|exact m0|apply m1); done)))) (fun _ => rfl) ?_
  intro _
  refine SL.val (Val.assign rfl) rfl rfl ?_
  refine SL.nil (SE.seq ?_)
  refine SC.seq (SC.region ?_)
  refine SL.val (Val.move rfl) rfl rfl ?_
  refine SL.val (Val.fieldAddr tabOk rfl rfl rfl rfl rfl) rfl rfl ?_
  refine SL.val (Val.load1 tabOk rfl rfl (by first|(apply Or.inl;(repeat first|assumption|exact m0|apply m1);done)|(apply Or.inr;(repeat first|assumption|exact m0|apply m1);done)) List.not_mem_nil (by rfl)) rfl rfl ?_
  refine SL.val (Val.nilCheck rfl) rfl rfl ?_
  refine SL.val (Val.fieldAddr tabOk rfl rfl rfl rfl rfl) rfl rfl ?_
  refine SL.eff (Eff.store tabOk rfl rfl rfl (by repeat first|assumption|exact Upd.here|apply Upd.there) (by rfl) (Nat.le_of_ble_eq_true (by rfl)) (by rfl) (by rfl)) rfl rfl ?_
  rintro _ _ ⟨rfl, rfl⟩
  refine SL.nil (SE.seq ?_)
  refine SC.seq ?_
  refine SC.known (p := p ∉ [q, bt] ∧ b4 ∉ [q, bt]) (fun _ _ h => by
      have h1 := h.mem.nodup
      simp [mids, It.mids, ownPc, mapPc] at h1 ⊢
      grind) fun hX => ?_
  refine SC.drawZ [q, bt] (.q 0 (.q 1 (.q 2 (.q 3 (.q 4 (.q 5 (.q 6 (.q 7 (.q 8 (.q 9 (.q 10 (.q 11 (.q 12 (.q 13 (.q 14 (.e 15 (.e 16 (.e 17 (.q 18 (.e 19 (.q 20 (.q 21 .nil)))))))))))))))))))))) (by kernel_rfl) (by kernel_rfl) ?_
  refine SX.val rfl (Val.move rfl) (by first | (simp [mids, It.mids, ownPc, mapPc]; done) | (intro k hk; simp [mids, It.mids, ownPc, mapPc] at hk ⊢; grind)) rfl rfl ?_
  refine SX.val rfl (Val.loadA tabOk rfl rfl rfl (by first|(apply Or.inl;(repeat first|assumption|exact m0|apply m1);done)|(apply Or.inr;(repeat first|assumption|exact m0|apply m1);done)) (by first | exact hX.1 | exact hX.2) rfl) (by first | (simp [mids, It.mids, ownPc, mapPc]; done) | (intro k hk; simp [mids, It.mids, ownPc, mapPc] at hk ⊢; grind)) rfl rfl ?_
  refine SX.val rfl (Val.move rfl) (by first | (simp [mids, It.mids, ownPc, mapPc]; done) | (intro k hk; simp [mids, It.mids, ownPc, mapPc] at hk ⊢; grind)) rfl rfl ?_
  refine SX.val rfl (Val.nilCheck rfl) (by first | (simp [mids, It.mids, ownPc, mapPc]; done) | (intro k hk; simp [mids, It.mids, ownPc, mapPc] at hk ⊢; grind)) rfl rfl ?_
  refine SX.val rfl (Val.fieldAddr tabOk rfl rfl rfl rfl rfl) (by first | (simp [mids, It.mids, ownPc, mapPc]; done) | (intro k hk; simp [mids, It.mids, ownPc, mapPc] at hk ⊢; grind)) rfl rfl ?_
  refine SX.val rfl (Val.load1 tabOk rfl rfl (by first|(apply Or.inl;(repeat first|assumption|exact m0|apply m1);done)|(apply Or.inr;(repeat first|assumption|exact m0|apply m1);done)) (by first | exact hX.1 | exact hX.2) (by rfl)) (by first | (simp [mids, It.mids, ownPc, mapPc]; done) | (intro k hk; simp [mids, It.mids, ownPc, mapPc] at hk ⊢; grind)) rfl rfl ?_
  refine SX.val rfl (Val.move rfl) (by first | (simp [mids, It.mids, ownPc, mapPc]; done) | (intro k hk; simp [mids, It.mids, ownPc, mapPc] at hk ⊢; grind)) rfl rfl ?_
  refine SX.val rfl (Val.nilCheck rfl) (by first | (simp [mids, It.mids, ownPc, mapPc]; done) | (intro k hk; simp [mids, It.mids, ownPc, mapPc] at hk ⊢; grind)) rfl rfl ?_
  refine SX.val rfl (Val.fieldAddr tabOk rfl rfl rfl rfl rfl) (by first | (simp [mids, It.mids, ownPc, mapPc]; done) | (intro k hk; simp [mids, It.mids, ownPc, mapPc] at hk ⊢; grind)) rfl rfl ?_
  refine SX.val rfl (Val.load1 tabOk rfl rfl (by first|(apply Or.inl;(repeat first|assumption|exact m0|apply m1);done)|(apply Or.inr;(repeat first|assumption|exact m0|apply m1);done)) (by first | exact hX.1 | exact hX.2) (by rfl)) (by first | (simp [mids, It.mids, ownPc, mapPc]; done) | (intro k hk; simp [mids, It.mids, ownPc, mapPc] at hk ⊢; grind)) rfl rfl ?_
  refine SX.val rfl (Val.move rfl) (by first | (simp [mids, It.mids, ownPc, mapPc]; done) | (intro k hk; simp [mids, It.mids, ownPc, mapPc] at hk ⊢; grind)) rfl rfl ?_
  refine SX.val rfl (Val.move rfl) (by first | (simp [mids, It.mids, ownPc, mapPc]; done) | (intro k hk; simp [mids, It.mids, ownPc, mapPc] at hk ⊢; grind)) rfl rfl ?_
  refine SX.val rfl (Val.nilCheck rfl) (by first | (simp [mids, It.mids, ownPc, mapPc]; done) | (intro k hk; simp [mids, It.mids, ownPc, mapPc] at hk ⊢; grind)) rfl rfl ?_
  refine SX.val rfl (Val.fieldAddr tabOk rfl rfl rfl rfl rfl) (by first | (simp [mids, It.mids, ownPc, mapPc]; done) | (intro k hk; simp [mids, It.mids, ownPc, mapPc] at hk ⊢; grind)) rfl rfl ?_
  refine SX.val rfl (Val.load1 tabOk rfl rfl (by first|(apply Or.inl;(repeat first|assumption|exact m0|apply m1);done)|(apply Or.inr;(repeat first|assumption|exact m0|apply m1);done)) (by first | exact hX.1 | exact hX.2) (by rfl)) (by first | (simp [mids, It.mids, ownPc, mapPc]; done) | (intro k hk; simp [mids, It.mids, ownPc, mapPc] at hk ⊢; grind)) rfl rfl ?_
  refine SX.call rfl (all_s (n := n)) (by simp [mids, It.mids]) Casts.refl (by kernel_rfl) rfl rfl rfl ?_
  refine After.pure (by repeat (first | exact Reads.nil | (refine Reads.blk ?_ ?_; focus ((repeat first|assumption|exact m0|apply m1); done)) | (refine Reads.rd ?_ ?_; focus ((repeat first|assumption|exact m0|apply m1); done)) | (refine Reads.pc ?_ ?_; focus ((repeat first|assumption|exact m0|apply m1); done)) | (refine Reads.rdpc ?_ ?_; focus ((repeat first|assumption|exact m0|apply m1); done)))) (fun _ => rfl) ?_
  intro _
  refine SX.call rfl (signi_s (q := q) (bd := bd) (bt := bt) (k := 1) (f := id) (body := askB x) (to := allN n) (T := T) (by omega) hn hT (by omega)) (by simp [mids, It.mids, mapPc]) Casts.refl (by kernel_rfl) rfl rfl rfl ?_
  first
    | refine After.mid [_, _, _] (β := []) rfl (by intro x hx; simp only [List.mem_cons, List.not_mem_nil, or_false] at hx; rcases hx with rfl | rfl <;> rfl) ?_
    | refine After.mid [_, _, _, _, _, _] (β := []) rfl (by intro x hx; simp only [List.mem_cons, List.not_mem_nil, or_false] at hx; rcases hx with rfl | rfl <;> rfl) ?_
  intro _
  refine SX.call rfl (er_new_s) (by simp [mids, It.mids]) Casts.refl (by kernel_rfl) rfl rfl rfl ?_
  refine After.make3 (by repeat (first | exact Reads.nil | (refine Reads.blk ?_ ?_; focus ((repeat first|assumption|exact m0|apply m1); done)) | (refine Reads.rd ?_ ?_; focus ((repeat first|assumption|exact m0|apply m1); done)) | (refine Reads.pc ?_ ?_; focus ((repeat first|assumption|exact m0|apply m1); done)) | (refine Reads.rdpc ?_ ?_; focus ((repeat first|assumption|exact m0|apply m1); done)))) (fun _ => rfl) ?_
  intro z60
  refine SX.val rfl (Val.buildS (L := wtA x (askM T n id x) z60.1) tabOk rfl rfl rfl (by rfl)) (by first | (simp [mids, It.mids, ownPc, mapPc]; done) | (intro k hk; simp [mids, It.mids, ownPc, mapPc] at hk ⊢; grind)) rfl rfl ?_
  refine SX.eff rfl (Eff.boxA (cs := wtA x (askM T n id x) z60.1) rfl) (by simp) rfl rfl ?_
  rintro _ _ ⟨b62, rfl, rfl⟩
  refine SX.val rfl (Val.nilCheck rfl) (by first | (simp [mids, It.mids, ownPc, mapPc]; done) | (intro k hk; simp [mids, It.mids, ownPc, mapPc] at hk ⊢; grind)) rfl rfl ?_
  refine SX.val rfl (Val.fieldAddr tabOk rfl rfl rfl rfl rfl) (by first | (simp [mids, It.mids, ownPc, mapPc]; done) | (intro k hk; simp [mids, It.mids, ownPc, mapPc] at hk ⊢; grind)) rfl rfl ?_
  refine SX.nil ?_
  refine SE.effZ rfl (Eff.store tabOk rfl rfl rfl (by repeat first|assumption|exact Upd.here|apply Upd.there) (by rfl) (Nat.le_of_ble_eq_true (by rfl)) (by rfl) (by rfl)) rfl rfl ?_
  rintro _ _ ⟨rfl, rfl⟩
  refine SE.seq ?_
  refine SC.seq (SC.region ?_)
  refine SL.val (Val.move rfl) rfl rfl ?_
  refine SL.call (againw_s (p := p) (q := q) (wb := b62) (t := z60.1) (n := n) (id := id) (stamp := x.stamp) (av := av) (c := x) (m := (askM T n id x))) Casts.refl (by kernel_rfl) rfl rfl rfl ?_
  refine After.pure (by repeat (first | exact Reads.nil | (refine Reads.blk ?_ ?_; focus ((repeat first|assumption|exact m0|apply m1); done)) | (refine Reads.rd ?_ ?_; focus ((repeat first|assumption|exact m0|apply m1); done)) | (refine Reads.pc ?_ ?_; focus ((repeat first|assumption|exact m0|apply m1); done)) | (refine Reads.rdpc ?_ ?_; focus ((repeat first|assumption|exact m0|apply m1); done)))) (fun _ => rfl) ?_
  intro _
  refine SL.val (Val.assign rfl) rfl rfl ?_
  refine SL.val (Val.assign rfl) rfl rfl ?_
  refine SL.nil (SE.seq ?_)
  refine SC.ret ?_
  have hE9 : askSE n id (CS.mk stamp none acc av) x = askE n id stamp x := rfl
  have hT9 : askST T n id (CS.mk stamp none acc av) x = askT T n id x := if_pos (by rw [hE9]; exact hE0)
  have hL9 : askSL T n id (CS.mk stamp none acc av) x = parcels (askM T n id x) (allN n) := if_pos (by rw [hE9]; exact hE0)
  have hS9 : ∀ z, askS T n id (CS.mk stamp none acc av) x z = ⟨x.stamp, some ⟨x, askM T n id x, [], [], z.1, z.2.1, z.2.2.1, z.2.2.2⟩, acc, av⟩ := fun z => if_pos hE0
  refine SE.perm (List.perm_append_comm_assoc [_, _] [_, _, _, _, _] [_, _]) ?_
  refine SE.fin (rs := [.tmp 6, .tmp 7]) rfl (RV.tmp rfl (RV.tmp rfl RV.nil)) (b62, z60.1, z60.2.1, z60.2.2) (by rw [hT9, hS9]; show List.Sublist [_, _, _, _, _, _, _, _] _; repeat (first | exact List.nil_sublist _ | exact List.Sublist.refl _ | apply List.Sublist.cons_cons | apply List.Sublist.cons)) askS_rids ?_
  rw [hL9, hE9, hE0]
  rfl
end
end Go.Proofs.Ytmkijjmbiiiicaa.A
/-
  The program's client as one state: what it tells; acts.
-/
set_option maxRecDepth 100000
set_option linter.unusedSimpArgs false
set_option linter.unusedVariables false
namespace Go.Proofs.Ytmkijjmbiiiicaa.A
open Go.RowKit

theorem Spec.keep {P : Program} {f : FuncId} {args : List Abs} {σ σr : Blks} {r : Abs} (h : Spec P f args σr (fun _ : Unit => []) (fun _ => r)) (hr : Reads σ σr) (hro : ∀ x ∈ σ, x.rids = []) : Spec P f args σ (fun _ : Unit => σ) (fun _ => r) := fun G w vals hm hv =>
  (h.after hm hv (After.pure hr (fun _ => rfl) (K := fun ν _ => ν = σ) (fun _ => rfl))).mono fun e w' ⟨z, u, ν, he, hx, ho, hm', hc, hr', hk⟩ => by
    subst hk
    exact ⟨(), u, he, hro, hm', hr'⟩
def Wn.none_ : Core := ⟨0, 0, 0, ⟨#[]⟩, 0, 0, ⟨#[]⟩⟩
def CS.core (s : CS) : Core := match s.wait with
  | none => Wn.none_
  | some w => w.core
/-- An act of a client's laws. -/
structure Ac where
  kind : Int
  from_ : Int
  to_ : Int
  core : Core
  reply : Rp
  msg : Msg
def Ac.abs (a : Ac) : List Abs := [int a.kind, int a.from_, int a.to_] ++ (a.core.cells.map .v ++ (a.reply.abs ++ a.msg.abs))
def Ac.few (a : Ac) : Bool := decide ((a.core.letter.size : Int) ≤ 100) && (decide ((a.core.text.size : Int) ≤ 300) && (decide ((a.msg.body.length : Int) ≤ 300) && decide ((a.msg.tags.length : Int) ≤ 20)))
theorem Ac.few_iff {a : Ac} : a.few = true ↔ a.core.letter.size ≤ 100 ∧ a.core.text.size ≤ 300 ∧ a.msg.body.length ≤ 300 ∧ a.msg.tags.length ≤ 20 := by
  unfold Ac.few
  simp only [Bool.and_eq_true, decide_eq_true_iff]
  omega
section
variable {p q bd bt : Nat} {n id : Int} {x : Core} {m : Msg} {T : List (ByteArray × Nat)} {s : CS} {a : Ac}
theorem nextS_s (h0 : s.stamp ≤ 1000000000) (h1 : 0 ≤ s.stamp) : Spec Try.prog 14 [ptr p, coreA x] (clP p q n id s) (fun _ : Unit => clP p q n id s) (fun _ => coreA (nextC id s.stamp x)) := by
  obtain ⟨stamp, wait, acc, av⟩ := s
  cases wait with
  | none => exact (next_s (p := p) (q := q) (n := n) (id := id) (stamp := stamp) (w := .pointer none) (av := av) (x := x) h0 h1).keep (by repeat (first | exact Reads.nil | (refine Reads.blk ?_ ?_; focus ((simp [clP]; done))) | (refine Reads.pc ?_ ?_; focus ((simp [clP, own]; done))))) (clP_rids _)
  | some w => exact (next_s (p := p) (q := q) (n := n) (id := id) (stamp := stamp) (w := ptrV w.wb) (av := av) (x := x) h0 h1).keep (by repeat (first | exact Reads.nil | (refine Reads.blk ?_ ?_; focus ((simp [clP]; done))) | (refine Reads.pc ?_ ?_; focus ((simp [clP, own]; done))))) (clP_rids _)
theorem waitS_s : Spec Try.prog 10 [ptr p] (clP p q n id s) (fun _ : Unit => clP p q n id s) (fun _ => .tup [coreA s.core, boo s.wait.isSome]) := by
  obtain ⟨stamp, wait, acc, av⟩ := s
  cases wait with
  | none => exact (waiting0_s (p := p) (q := q) (n := n) (id := id) (stamp := stamp) (av := av)).keep (by repeat (first | exact Reads.nil | (refine Reads.blk ?_ ?_; focus ((simp [clP]; done))) | (refine Reads.pc ?_ ?_; focus ((simp [clP, own]; done))))) (clP_rids _)
  | some w => exact (waitingw_s (p := p) (q := q) (n := n) (id := id) (stamp := stamp) (av := av) (wb := w.wb) (c := w.core) (m := w.msg) (t := w.t)).keep (by repeat (first | exact Reads.nil | (refine Reads.blk ?_ ?_; focus ((simp [clP]; done))) | (refine Reads.pc ?_ ?_; focus ((simp [clP, own]; done))))) (clP_rids _)
theorem accS_s (h : s.acc.length ≤ 1000000) : Spec Try.prog 13 [ptr p] (clP p q n id s) (fun _ : Unit => clP p q n id s) (fun _ => outA s.acc) := by
  obtain ⟨stamp, wait, acc, av⟩ := s
  cases wait with
  | none => exact (accepted_s (p := p) (q := q) (n := n) (id := id) (stamp := stamp) (w := .pointer none) (av := av) (acc := acc) h).keep (by repeat (first | exact Reads.nil | (refine Reads.blk ?_ ?_; focus ((simp [clP]; done))) | (refine Reads.pc ?_ ?_; focus ((simp [clP, own]; done))))) (clP_rids _)
  | some w => exact (accepted_s (p := p) (q := q) (n := n) (id := id) (stamp := stamp) (w := ptrV w.wb) (av := av) (acc := acc) h).keep (by repeat (first | exact Reads.nil | (refine Reads.blk ?_ ?_; focus ((simp [clP]; done))) | (refine Reads.pc ?_ ?_; focus ((simp [clP, own]; done))))) (clP_rids _)
theorem askS_s (hc : Core.ins x) (hd : Core.ins (nextC id s.stamp x)) (h1 : x.letter.size ≤ 1000) (h2 : x.text.size ≤ 1000) (hn : Num1 T) (hT : T.length ≤ 900000) (hs : 0 ≤ s.stamp ∧ s.stamp ≤ 1000000000) :
    Spec Try.prog 9 [ptr p, coreA x, .sl 2 []] (clP p q n id s ++ hidP q bd bt T) (fun z : Nat × Nat × Nat × Nat => clP p q n id (askS T n id s x z) ++ hidP q bd bt (askST T n id s x)) (fun _ => .tup [.sl 5 (askSL T n id s x), int (askSE n id s x)]) := by
  obtain ⟨stamp, wait, acc, av⟩ := s
  cases wait with
  | none => exact askn_s (p := p) (q := q) (bd := bd) (bt := bt) (n := n) (id := id) (stamp := stamp) (av := av) (x := x) (acc := acc) (T := T) hc hd h1 h2 hn hT hs
  | some w => exact askw_s (p := p) (q := q) (bd := bd) (bt := bt) (n := n) (id := id) (stamp := stamp) (av := av) (x := x) (acc := acc) (T := T) (ww := w)
theorem few31_s  : Spec Try.prog 15 [.agg a.abs] [] (fun _ : Unit => []) (fun _ => boo a.few) := by
  refine spec_of Try.func15 rfl Try.ntmps15 rfl fun G w => ?_
  refine SC.seq (SC.region ?_)
  refine SL.eff (Eff.boxA (cs := a.abs) rfl) rfl rfl ?_
  rintro _ _ ⟨b1, rfl, rfl⟩
  refine SL.val (Val.assign rfl) rfl rfl ?_
  refine SL.nil (SE.seq ?_)
  refine SC.seq (SC.region ?_)
  refine SL.val (Val.fieldAddr tabOk rfl rfl rfl rfl rfl) rfl rfl ?_
  refine SL.val (Val.fieldAddr tabOk rfl rfl rfl rfl rfl) rfl rfl ?_
  refine SL.val (Val.load1 tabOk rfl rfl (by first|(apply Or.inl;(repeat first|assumption|exact m0|apply m1);done)|(apply Or.inr;(repeat first|assumption|exact m0|apply m1);done)) List.not_mem_nil (by rfl)) rfl rfl ?_
  refine SL.val (Val.lenSt rfl Try.underlying9) rfl rfl ?_
  refine SL.val (Val.leI rfl rfl) rfl rfl ?_
  refine SL.val (Val.move rfl) rfl rfl ?_
  refine SL.bothP (t := 8) rfl ?_ ?_
  rotate_left
  · intro hc8
    iterate 5 refine SL.skip rfl rfl ?_
    refine SL.val (Val.pickF rfl rfl) rfl rfl ?_
    refine SL.val (Val.move rfl) rfl rfl ?_
    iterate 5 refine SL.skip rfl rfl ?_
    refine SL.val (Val.pickF rfl rfl) rfl rfl ?_
    refine SL.val (Val.move rfl) rfl rfl ?_
    iterate 5 refine SL.skip rfl rfl ?_
    refine SL.val (Val.pickF rfl rfl) rfl rfl ?_
    refine SL.val (Val.assign rfl) rfl rfl ?_
    refine SL.nil (SE.seq ?_)
    refine SC.ret ?_
    refine SE.fin (rs := [.tmp 2]) rfl (RV.tmp rfl RV.nil) (()) (by repeat first|exact s0 _|exact s1 _|apply s2|apply s3) (by simp [It.rids]) ?_
    refine congrArg (fun b => Abs.v (Value.bool b)) ?_
    unfold Ac.few
    first
      | (simp only [hc8, hc15, hc22, decide_true, decide_false, Bool.true_and, Bool.false_and]; done)
      | (simp only [hc8, hc15, decide_true, decide_false, Bool.true_and, Bool.false_and]; done)
      | (simp only [hc8, decide_true, decide_false, Bool.true_and, Bool.false_and]; done)
  intro hc8
  refine SL.val (Val.fieldAddr tabOk rfl rfl rfl rfl rfl) rfl rfl ?_
  refine SL.val (Val.fieldAddr tabOk rfl rfl rfl rfl rfl) rfl rfl ?_
  refine SL.val (Val.load1 tabOk rfl rfl (by first|(apply Or.inl;(repeat first|assumption|exact m0|apply m1);done)|(apply Or.inr;(repeat first|assumption|exact m0|apply m1);done)) List.not_mem_nil (by rfl)) rfl rfl ?_
  refine SL.val (Val.lenSt rfl Try.underlying9) rfl rfl ?_
  refine SL.val (Val.leI rfl rfl) rfl rfl ?_
  refine SL.val (Val.pickT rfl rfl) rfl rfl ?_
  refine SL.val (Val.move rfl) rfl rfl ?_
  refine SL.bothP (t := 15) rfl ?_ ?_
  rotate_left
  · intro hc15
    iterate 5 refine SL.skip rfl rfl ?_
    refine SL.val (Val.pickF rfl rfl) rfl rfl ?_
    refine SL.val (Val.move rfl) rfl rfl ?_
    iterate 5 refine SL.skip rfl rfl ?_
    refine SL.val (Val.pickF rfl rfl) rfl rfl ?_
    refine SL.val (Val.assign rfl) rfl rfl ?_
    refine SL.nil (SE.seq ?_)
    refine SC.ret ?_
    refine SE.fin (rs := [.tmp 2]) rfl (RV.tmp rfl RV.nil) (()) (by repeat first|exact s0 _|exact s1 _|apply s2|apply s3) (by simp [It.rids]) ?_
    refine congrArg (fun b => Abs.v (Value.bool b)) ?_
    unfold Ac.few
    first
      | (simp only [hc8, hc15, hc22, decide_true, decide_false, Bool.true_and, Bool.false_and]; done)
      | (simp only [hc8, hc15, decide_true, decide_false, Bool.true_and, Bool.false_and]; done)
      | (simp only [hc8, decide_true, decide_false, Bool.true_and, Bool.false_and]; done)
  intro hc15
  refine SL.val (Val.fieldAddr tabOk rfl rfl rfl rfl rfl) rfl rfl ?_
  refine SL.val (Val.fieldAddr tabOk rfl rfl rfl rfl rfl) rfl rfl ?_
  refine SL.val (Val.load1 tabOk rfl rfl (by first|(apply Or.inl;(repeat first|assumption|exact m0|apply m1);done)|(apply Or.inr;(repeat first|assumption|exact m0|apply m1);done)) List.not_mem_nil (by rfl)) rfl rfl ?_
  first
    | refine SL.val (Val.lenSl rfl Try.underlying37 (List.length_map _)) rfl rfl ?_
    | refine SL.val (Val.lenOwn rfl (by repeat first|assumption|exact m0|apply m1) Try.underlying37 (List.length_map _)) rfl rfl ?_
    | refine SL.val (Val.lenNil rfl Try.underlying37) rfl rfl ?_
  refine SL.val (Val.leI rfl rfl) rfl rfl ?_
  refine SL.val (Val.pickT rfl rfl) rfl rfl ?_
  refine SL.val (Val.move rfl) rfl rfl ?_
  refine SL.bothP (t := 22) rfl ?_ ?_
  rotate_left
  · intro hc22
    iterate 5 refine SL.skip rfl rfl ?_
    refine SL.val (Val.pickF rfl rfl) rfl rfl ?_
    refine SL.val (Val.assign rfl) rfl rfl ?_
    refine SL.nil (SE.seq ?_)
    refine SC.ret ?_
    refine SE.fin (rs := [.tmp 2]) rfl (RV.tmp rfl RV.nil) (()) (by repeat first|exact s0 _|exact s1 _|apply s2|apply s3) (by simp [It.rids]) ?_
    refine congrArg (fun b => Abs.v (Value.bool b)) ?_
    unfold Ac.few
    first
      | (simp only [hc8, hc15, hc22, decide_true, decide_false, Bool.true_and, Bool.false_and]; done)
      | (simp only [hc8, hc15, decide_true, decide_false, Bool.true_and, Bool.false_and]; done)
      | (simp only [hc8, decide_true, decide_false, Bool.true_and, Bool.false_and]; done)
  intro hc22
  refine SL.val (Val.fieldAddr tabOk rfl rfl rfl rfl rfl) rfl rfl ?_
  refine SL.val (Val.fieldAddr tabOk rfl rfl rfl rfl rfl) rfl rfl ?_
  refine SL.val (Val.load1 tabOk rfl rfl (by first|(apply Or.inl;(repeat first|assumption|exact m0|apply m1);done)|(apply Or.inr;(repeat first|assumption|exact m0|apply m1);done)) List.not_mem_nil (by rfl)) rfl rfl ?_
  first
    | refine SL.val (Val.lenSl rfl Try.underlying38 (List.length_map _)) rfl rfl ?_
    | refine SL.val (Val.lenOwn rfl (by repeat first|assumption|exact m0|apply m1) Try.underlying38 (List.length_map _)) rfl rfl ?_
    | refine SL.val (Val.lenNil rfl Try.underlying38) rfl rfl ?_
  refine SL.val (Val.leI rfl rfl) rfl rfl ?_
  refine SL.val (Val.pickT rfl rfl) rfl rfl ?_
  refine SL.val (Val.assign rfl) rfl rfl ?_
  refine SL.nil (SE.seq ?_)
  refine SC.ret ?_
  refine SE.fin (rs := [.tmp 2]) rfl (RV.tmp rfl RV.nil) (()) (by repeat first|exact s0 _|exact s1 _|apply s2|apply s3) (by simp [It.rids]) ?_
  refine congrArg (fun b => Abs.v (Value.bool b)) ?_
  unfold Ac.few
  first
    | (simp only [hc8, hc15, hc22, decide_true, decide_false, Bool.true_and, Bool.false_and]; done)
    | (simp only [hc8, hc15, decide_true, decide_false, Bool.true_and, Bool.false_and]; done)
    | (simp only [hc8, decide_true, decide_false, Bool.true_and, Bool.false_and]; done)
end
end Go.Proofs.Ytmkijjmbiiiicaa.A
/-
  Clients, plain: what stays true from act to act (the program's own calls).
-/
set_option maxRecDepth 100000
set_option linter.unusedSimpArgs false
set_option linter.unusedVariables false
namespace Go.Proofs.Ytmkijjmbiiiicaa.A
open Go.RowKit

theorem TInv.add' {α : Type} [DecidableEq α] {m : List (Int × α)} {c : List (α × Nat)} (h : TInv m c) (who : Int) (k : α) : TInv (tAddM m who k) (tAddC m c who k) := by
  cases hv : aget m who with
  | none => rw [tAddM_new hv, tAddC_new hv]; exact h.chg who k
  | some v => rw [tAddM_old hv, tAddC_old hv]; exact h
theorem aget_tAddM {m : List (Int × Int)} {who k w : Int} : aget (tAddM m who k) w = if w = who ∧ aget m who = none then some k else aget m w := by
  cases hv : aget m who with
  | none =>
    rw [tAddM_new hv, aget_aput]
    by_cases h : w = who
    · rw [if_pos h, if_pos ⟨h, rfl⟩]
    · rw [if_neg h, if_neg (fun h2 => h h2.1)]
  | some v => rw [tAddM_old hv, if_neg (fun h2 => by cases h2.2)]
section
variable {T : List (ByteArray × Nat)} {n id stamp : Int} {m : Msg} {M : List (Int × Int)} {K : List (Int × Nat)}
theorem Votes.nil {n : Int} : Votes n [] [] := ⟨TInv.nil, by simp, by simp [aget]⟩
theorem Votes.recv (h : Votes n M K) : Votes n (recvM T n id stamp M m) (recvC T n id stamp M K m) := by
  by_cases h0 : (readR T n id stamp true m).2 ≠ 0
  · unfold recvM recvC
    rw [if_pos h0, if_pos h0]
    exact h
  · have hr := readR_ok (show (readR T n id stamp true m).2 = 0 by omega)
    have hn := hr.nums
    unfold recvM recvC
    rw [if_neg h0, if_neg h0]
    refine ⟨h.inv.add' _ _, fun w hw => ?_, fun w v hv => ?_⟩
    · rw [← aget_isSome, aget_tAddM] at hw
      split at hw
      · next h2 => rw [h2.1]; exact ⟨hr.lo, hr.hi⟩
      · exact h.who w ((aget_isSome _ _).1 hw)
    · rw [aget_tAddM] at hv
      split at hv
      · cases hv; exact hn.2
      · exact h.what w v hv
end
theorem nextC_twice (id stamp : Int) (x : Core) : nextC id stamp (nextC id stamp x) = nextC id stamp x := rfl
theorem askE_next (n id stamp : Int) (x : Core) : askE n id stamp (nextC id stamp x) = (nextC id stamp x).check n := if_pos rfl
/-- What stays true of a client that asks its next, one behind the other: 'asked' times it was well. -/
structure COnce (n id : Int) (k : Nat) (asked : Nat) (s : CS) (T : List (ByteArray × Nat)) : Prop where
  stamp : s.stamp = asked
  few : asked ≤ k
  accs : ∀ (i : Nat) (h : i < s.acc.length), (s.acc[i]).client = id ∧ (s.acc[i]).stamp = (i : Nat) + 1
  idle : s.wait = none → s.acc.length = asked
  busy : ∀ w, s.wait = some w → s.acc.length + 1 = asked ∧ w.core.stamp = asked ∧ Votes n w.m w.c
  num : Num1 T
  tags : T.length ≤ 8 * k
theorem COnce.start {n id : Int} (av : Value) : COnce n id 0 0 ⟨0, none, [], av⟩ [] := ⟨rfl, Nat.le_refl _, fun i h => by simp at h, fun _ => rfl, by simp, Num1.nil, Nat.le_refl _⟩
theorem COnce.ok {n id : Int} {k asked : Nat} {s : CS} {T : List (ByteArray × Nat)} (h : COnce n id k asked s T) (hk : k ≤ 900) : CSOk n s := by
  refine ⟨fun w hw => (h.busy w hw).2.2, ?_⟩
  have h1 := h.few
  cases hw : s.wait with
  | none => have := h.idle hw; omega
  | some w => have := (h.busy w hw).1; omega
theorem COnce.ask {n id : Int} {k asked : Nat} {s : CS} {T : List (ByteArray × Nat)} (h : COnce n id k asked s T) (x : Core) (z : Nat × Nat × Nat × Nat) :
    COnce n id (k + 1) (if askSE n id s (nextC id s.stamp x) = 0 then asked + 1 else asked) (askS T n id s (nextC id s.stamp x) z) (askST T n id s (nextC id s.stamp x)) := by
  have hl := allN_le n
  obtain ⟨stamp, wait, acc, av⟩ := s
  have hst : stamp = asked := h.stamp
  have hT : COnce n id (k + 1) asked ⟨stamp, wait, acc, av⟩ T := ⟨h.stamp, by have := h.few; omega, h.accs, h.idle, h.busy, h.num, by have := h.tags; omega⟩
  by_cases he : askSE n id ⟨stamp, wait, acc, av⟩ (nextC id stamp x) = 0
  · cases wait with
    | some w => exact absurd he (by show ¬ (15 : Int) = 0; decide)
    | none =>
      have he2 : askE n id stamp (nextC id stamp x) = 0 := he
      have hS : askS T n id ⟨stamp, none, acc, av⟩ (nextC id stamp x) z = ⟨stamp + 1, some ⟨nextC id stamp x, askM T n id (nextC id stamp x), [], [], z.1, z.2.1, z.2.2.1, z.2.2.2⟩, acc, av⟩ := if_pos he2
      have hTT : askST T n id ⟨stamp, none, acc, av⟩ (nextC id stamp x) = askT T n id (nextC id stamp x) := if_pos he
      rw [if_pos he, hS, hTT]
      refine ⟨by show stamp + 1 = ((asked + 1 : Nat) : Int); omega, by have := h.few; omega, h.accs, by simp, fun w hw => ?_, tmG_num h.num _ _, ?_⟩
      · cases hw
        exact ⟨by have := h.idle rfl; show acc.length + 1 = asked + 1; simp only at this; omega, by show stamp + 1 = ((asked + 1 : Nat) : Int); omega, Votes.nil⟩
      · have h1 := tmG_len (gI id (textV 1 (askB (nextC id stamp x)))) T (allN n)
        have h2 := h.tags
        show (tmG _ _ _).length ≤ _
        omega
  · have hS : askS T n id ⟨stamp, wait, acc, av⟩ (nextC id stamp x) z = ⟨stamp, wait, acc, av⟩ := by
      cases wait with
      | some w => rfl
      | none => exact if_neg he
    have hTT : askST T n id ⟨stamp, wait, acc, av⟩ (nextC id stamp x) = T := if_neg he
    rw [if_neg he, hS, hTT]
    exact hT
theorem COnce.recv {n id : Int} {k asked : Nat} {s : CS} {T : List (ByteArray × Nat)} (h : COnce n id k asked s T) (m : Msg) (z : Value) : COnce n id k asked (recvS T n id s m z) T := by
  obtain ⟨stamp, wait, acc, av⟩ := s
  cases wait with
  | none => exact h
  | some w =>
    have hb := h.busy w rfl
    have hb1 : acc.length + 1 = asked := hb.1
    have hst : stamp = asked := h.stamp
    by_cases hD : recvD T n id stamp w.m w.c m = true
    · have hS : recvS T n id ⟨stamp, some w, acc, av⟩ m z = ⟨stamp, none, acc ++ [Oc.mk id (readR T n id stamp true m).1.stamp (readR T n id stamp true m).1.result], z⟩ := if_pos hD
      rw [hS]
      have h0 : (readR T n id stamp true m).2 = 0 := by
        by_cases h1 : (readR T n id stamp true m).2 = 0
        · exact h1
        · rw [(recv_bad (M := w.m) (K := w.c) h1).2.2.2] at hD; cases hD
      have hr := readR_ok h0
      have hs2 : (readR T n id stamp true m).1.stamp = stamp := by rw [hr.val]; exact hr.stamp
      refine ⟨h.stamp, h.few, fun i hi => ?_, fun _ => by show (acc ++ [_]).length = asked; simp; omega, by simp, h.num, h.tags⟩
      have hi' : i < acc.length + 1 := by simpa using hi
      by_cases h2 : i < acc.length
      · have := h.accs i h2
        simp only [List.getElem_append_left h2]
        exact this
      · obtain rfl : i = acc.length := by omega
        simp only [List.getElem_append_right (Nat.le_refl _), Nat.sub_self, List.getElem_cons_zero]
        exact ⟨trivial, by rw [hs2, hst]; omega⟩
    · have hS : recvS T n id ⟨stamp, some w, acc, av⟩ m z = ⟨stamp, some { w with m := recvM T n id stamp w.m m, c := recvC T n id stamp w.m w.c m }, acc, z⟩ := if_neg hD
      rw [hS]
      refine ⟨h.stamp, h.few, h.accs, by simp, fun v hv => ?_, h.num, h.tags⟩
      cases hv
      exact ⟨hb1, hb.2.1, hb.2.2.recv⟩
theorem COnce.more {n id : Int} {k asked : Nat} {s : CS} {T : List (ByteArray × Nat)} (h : COnce n id k asked s T) (g : Int → ByteArray) (b : Int) : COnce n id (k + 1) asked s (tmG g T [b]) :=
  ⟨h.stamp, by have := h.few; omega, h.accs, h.idle, h.busy, tmG_num h.num _ _, by
    have h1 := tmG_len g T [b]
    have h2 := h.tags
    simp only [List.length_singleton] at h1
    omega⟩
/-- A reply just said is well said. -/
theorem chk_said (T : List (ByteArray × Nat)) (a b : Int) (body : List UInt8) : chkMI (tmG (gI a (textV 12 body)) T [b]) ⟨12, a, body, tagsG (gI a (textV 12 body)) T [b]⟩ 0 b = 0 := by
  have e : tmG (gI a (textV 12 body)) T [b] = pm T (gI a (textV 12 body) b) := rfl
  unfold chkMI
  rw [if_neg (by simp [tagsG]), if_pos]
  rw [e]
  have h1 := hasK_pm (T := T) (k := gI a (textV 12 body) b) (gI a (textV 12 body) b)
  rw [decide_eq_true rfl, Bool.true_or] at h1
  unfold hasK at h1
  rw [Bool.and_eq_true]
  refine ⟨h1, decide_eq_true ?_⟩
  rfl
end Go.Proofs.Ytmkijjmbiiiicaa.A
/-
  The program's client as one state: Receive, whole.
-/
set_option maxRecDepth 100000
set_option linter.unusedSimpArgs false
set_option linter.unusedVariables false
namespace Go.Proofs.Ytmkijjmbiiiicaa.A
open Go.RowKit

theorem Spec.withR {P : Program} {f : FuncId} {args : List Abs} {α ys : Blks} {ι : Type} {τ : ι → Blks} {res : ι → Abs} (h : Spec P f args (α ++ ys.map It.toRd) τ res) (hα : ∀ x ∈ α, x.rids = []) (hτ : ∀ z, ∀ x ∈ τ z ++ ys, x.rids = []) : Spec P f args (α ++ ys) (fun z => τ z ++ ys) res := fun G w vals hm hv => by
  have hsp : Split (α ++ ys) (α ++ ys.map It.toRd) ys := by
    refine ⟨?_, fun x hx => ?_, fun x hx => List.mem_append_right _ hx⟩
    · have h0 : mids (ys.map It.toRd) = [] := by
        unfold mids
        simp [List.flatMap_map, toRd_mids]
      rw [mids_append, mids_append, h0, List.append_nil]
    · rcases List.mem_append.1 hx with hx | hx
      · exact .inl ⟨List.mem_append_left _ hx, hα x hx⟩
      · obtain ⟨y, hy, rfl⟩ := List.mem_map.1 hx
        exact .inr ⟨y, hy, rfl⟩
  refine (h.after hm hv (K := fun ν z => ν = τ z ++ ys) ⟨ys, hsp, fun z => ⟨_, List.Perm.refl _, rfl⟩⟩).mono fun e w' ⟨z, u, ν, he, hx, ho, hm', hc, hr', hk⟩ => ?_
  subst hk
  exact ⟨z, u, he, hτ z, hm', hr'⟩
theorem ac_core (a : Ac) : A.part a.abs 3 7 = a.core.cells.map .v := rfl
theorem ac_reply (a : Ac) : A.part a.abs 10 4 = a.reply.abs := rfl
section
variable {p q bd bt : Nat} {n id : Int} {x : Core} {m : Msg} {T : List (ByteArray × Nat)} {s : CS} {a : Ac}
theorem recvF_s (hl : m.body.length ≤ 100000) (hn : Num1 T) (hT : T.length < 1000000) (hs : CSOk n s) (h7 : 1 ≤ n ∧ n ≤ 7) : Spec Try.prog 11 [ptr p, .agg m.abs] (clP p q n id s ++ hidP q bd bt T) (fun z : Value => clP p q n id (recvS T n id s m z) ++ hidP q bd bt T) (fun _ => int (recvSE T n id s m)) :=
  Spec.withR (ys := hidP q bd bt T) (recv_s (p := p) (q := q) (bd := bd) (bt := bt) (id := id) hl hn hT hs h7) (clP_rids _) (fun z => askS_rids)
end
end Go.Proofs.Ytmkijjmbiiiicaa.A
/-
  ClientOnce: the walk.
-/
set_option maxRecDepth 100000
set_option linter.unusedSimpArgs false
set_option linter.unusedVariables false
namespace Go.Proofs.Ytmkijjmbiiiicaa.A
open Go.RowKit

def actsA (l : List Ac) : Abs := .sl 18 (l.map Ac.abs)
structure OnceOk (l : List Ac) (y : Nat × Nat × CS × List (ByteArray × Nat)) : Prop where
  le : y.1 ≤ l.length
  once : COnce 4 4 y.1 y.2.1 y.2.2.1 y.2.2.2
section
variable {l : List Ac}
set_option maxHeartbeats 8000000 in
theorem once_s (hfix : Spec Try.prog 6 [] [] (fun _ : Unit => []) (fun _ => boo true)) (hin : ∀ a ∈ l, Core.ins a.core) : Spec Try.prog 5 [actsA l] [] (fun _ : Unit => []) (fun _ => boo true) := by
  refine spec_of Try.func5 rfl Try.ntmps5 rfl fun G w => ?_
  refine SC.seq (SC.region ?_)
  refine SL.val (Val.assign rfl) rfl rfl ?_
  refine SL.nil (SE.seq ?_)
  refine SC.seq ?_
  refine SC.seq (SC.region ?_)
  refine SL.call (hfix) Casts.refl (by kernel_rfl) rfl rfl rfl ?_
  refine After.pure (by repeat first|exact .nil|refine .blk (by repeat first|assumption|exact m0|apply m1) ?_|refine .rd (by repeat first|assumption|exact m0|apply m1) ?_|refine .pc (by repeat first|assumption|exact m0|apply m1) ?_|refine .rdpc (by repeat first|assumption|exact m0|apply m1) ?_) (fun _ => rfl) ?_
  intro _
  refine SL.val (Val.notT rfl) rfl rfl ?_
  refine SL.nil (SE.seq ?_)
  refine SC.condF rfl ?_
  refine SC.skip ?_
  refine SE.seq ?_
  refine SC.seq ?_
  refine SC.seq (SC.region ?_)
  refine SL.val (Val.move rfl) rfl rfl ?_
  first
    | refine SL.val (Val.lenSl rfl Try.underlying22 (List.length_map _)) rfl rfl ?_
    | refine SL.val (Val.lenOwn rfl (by repeat first|assumption|exact m0|apply m1) Try.underlying22 (List.length_map _)) rfl rfl ?_
    | refine SL.val (Val.lenNil rfl Try.underlying22) rfl rfl ?_
  refine SL.val (Val.gtI rfl rfl) rfl rfl ?_
  refine SL.nil (SE.seq ?_)
  refine SC.condP rfl ?_ ?_
  · intro hc19
    refine SC.seq (SC.region ?_)
    refine SL.val (Val.assign rfl) rfl rfl ?_
    refine SL.nil (SE.seq ?_)
    refine SC.ret ?_
    refine SE.then_ (by intro h; cases h) ?_
    refine SE.fin (rs := [.tmp 2]) rfl (RV.tmp rfl RV.nil) (()) (by repeat first|exact s0 _|exact s1 _|apply s2|apply s3) (by simp [It.rids]) ?_
    first
      | rfl
      | exact congrArg (fun b => Abs.v (Value.bool b)) (decide_eq_true (by rw [hcr]; exact hbz.2.1))
      | exact congrArg (fun b => Abs.v (Value.bool b)) (decide_eq_true (by omega))
  intro hc19
  refine SC.skip ?_
  refine SE.seq ?_
  refine SC.seq (SC.region ?_)
  refine SL.call (inew_s) Casts.refl (by kernel_rfl) rfl rfl rfl ?_
  refine After.make3 (by repeat (first | exact Reads.nil | (refine Reads.blk ?_ ?_; focus ((repeat first|assumption|exact m0|apply m1); done)) | (refine Reads.rd ?_ ?_; focus ((repeat first|assumption|exact m0|apply m1); done)) | (refine Reads.pc ?_ ?_; focus ((repeat first|assumption|exact m0|apply m1); done)) | (refine Reads.rdpc ?_ ?_; focus ((repeat first|assumption|exact m0|apply m1); done)))) (fun _ => rfl) ?_
  intro z0
  refine SL.val (Val.assign rfl) rfl rfl ?_
  refine SL.nil (SE.seq ?_)
  refine SC.seq (SC.region ?_)
  refine SL.val (Val.move rfl) rfl rfl ?_
  refine SL.val (Val.makeIface rfl (fun _ _ => by kernel_rfl)) rfl rfl ?_
  refine SL.call (new_s (q := z0.1) (n := 4) (id := 4) (by decide) (by decide)) Casts.refl (by kernel_rfl) rfl rfl rfl ?_
  refine After.make2 (by repeat (first | exact Reads.nil | (refine Reads.blk ?_ ?_; focus ((repeat first|assumption|exact m0|apply m1); done)) | (refine Reads.rd ?_ ?_; focus ((repeat first|assumption|exact m0|apply m1); done)) | (refine Reads.pc ?_ ?_; focus ((repeat first|assumption|exact m0|apply m1); done)) | (refine Reads.rdpc ?_ ?_; focus ((repeat first|assumption|exact m0|apply m1); done)))) (fun _ => rfl) ?_
  intro z1
  refine SL.val (Val.assign rfl) rfl rfl ?_
  refine SL.nil (SE.seq ?_)
  refine SC.seq (SC.region ?_)
  refine SL.val (Val.assign rfl) rfl rfl ?_
  refine SL.nil (SE.seq ?_)
  refine SC.seq ?_
  refine SC.seq (SC.region ?_)
  refine SL.val (Val.move rfl) rfl rfl ?_
  first
    | refine SL.val (Val.lenSl rfl Try.underlying22 (List.length_map _)) rfl rfl ?_
    | refine SL.val (Val.lenOwn rfl (by repeat first|assumption|exact m0|apply m1) Try.underlying22 (List.length_map _)) rfl rfl ?_
    | refine SL.val (Val.lenNil rfl Try.underlying22) rfl rfl ?_
  refine SL.val (Val.move rfl) rfl rfl ?_
  refine SL.nil (SE.seq ?_)
  refine SC.block ?_
  refine SC.loop (ι := Nat × Nat × CS × List (ByteArray × Nat)) (fun y => clP z1 z0.1 4 4 (y.2.2.1) ++ hidP z0.1 z0.2.1 z0.2.2 (y.2.2.2)) (fun y => [(3, ptr z0.1), (4, ptr z1), (5, int (y.2.1 : Nat)), (24, actsA l), (25, int (l.length : Nat)), (26, int (y.1 : Nat))]) (fun y => OnceOk l y) (fun y => l.length - y.1) (0, 0, ⟨0, none, [], .slice none 0 0⟩, []) (⟨Nat.zero_le _, COnce.start _⟩) (by exact ⟨rfl, rfl, rfl, rfl, rfl, rfl, trivial⟩) (by repeat first|exact s0 _|exact s1 _|apply s2|apply s3) ?_
  intro y hy
  refine SC.seq (SC.region ?_)
  refine SL.val (Val.ltI rfl rfl) rfl rfl ?_
  refine SL.nil (SE.seq ?_)
  refine SC.seq ?_
  refine SC.condP rfl ?_ ?_
  · intro hc27
    have hlt : y.1 < l.length := by omega
    have hco := hy.once
    have hcf := hco.few
    have hct := hco.tags
    have hcs := hco.stamp
    refine SC.skip ?_
    refine SE.seq ?_
    refine SC.seq ?_
    refine SC.block ?_
    refine SC.seq (SC.region ?_)
    refine SL.val (Val.indexSl tabOk Try.underlying22 rfl rfl rfl rfl (at_map (by omega)) rfl rfl) rfl rfl ?_
    refine SL.val (Val.loadAR tabOk rfl rfl rfl rfl) rfl rfl ?_
    refine SL.eff (Eff.alloc tabOk rfl) rfl rfl ?_
    rintro _ _ ⟨b7, rfl, rfl⟩
    refine SL.eff (Eff.store (L' := (l[y.1]'hlt).abs) tabOk rfl rfl rfl (by repeat first|assumption|exact Upd.here|apply Upd.there) rfl (Nat.le_of_ble_eq_true (by rfl)) rfl (by exact putL_whole rfl)) rfl rfl ?_
    rintro _ _ ⟨rfl, rfl⟩
    refine SL.nil (SE.seq ?_)
    refine SC.seq ?_
    refine SC.seq (SC.region ?_)
    refine SL.val (Val.loadA tabOk rfl rfl rfl (by first|(apply Or.inl;(repeat first|assumption|exact m0|apply m1);done)|(apply Or.inr;(repeat first|assumption|exact m0|apply m1);done)) List.not_mem_nil rfl) rfl rfl ?_
    refine SL.call (few31_s (a := (l[y.1]'hlt))) Casts.refl (by kernel_rfl) rfl rfl rfl ?_
    refine After.pure (by repeat (first | exact Reads.nil | (refine Reads.blk ?_ ?_; focus ((repeat first|assumption|exact m0|apply m1); done)) | (refine Reads.rd ?_ ?_; focus ((repeat first|assumption|exact m0|apply m1); done)) | (refine Reads.pc ?_ ?_; focus ((repeat first|assumption|exact m0|apply m1); done)) | (refine Reads.rdpc ?_ ?_; focus ((repeat first|assumption|exact m0|apply m1); done)))) (fun _ => rfl) ?_
    intro _
    refine SL.val (Val.notB rfl) rfl rfl ?_
    refine SL.nil (SE.seq ?_)
    refine SC.cond rfl ?_ ?_
    · intro hc32
      refine SC.seq (SC.region ?_)
      refine SL.val (Val.assign rfl) rfl rfl ?_
      refine SL.nil (SE.seq ?_)
      refine SC.ret ?_
      refine SE.then_ (by intro h; cases h) ?_
      refine SE.ret ?_
      refine SE.then_ (by intro h; cases h) ?_
      refine SE.then_ (by intro h; cases h) ?_
      refine SE.ret ?_
      refine SE.then_ (by intro h; cases h) ?_
      refine SE.fin (rs := [.tmp 2]) rfl (RV.tmp rfl RV.nil) (()) (by repeat first|exact s0 _|exact s1 _|apply s2|apply s3) (by simp [It.rids]) ?_
      first
        | rfl
        | exact congrArg (fun b => Abs.v (Value.bool b)) (decide_eq_true (by rw [hcr]; exact hbz.2.1))
        | exact congrArg (fun b => Abs.v (Value.bool b)) (decide_eq_true (by omega))
    intro hc32
    have hfw := Ac.few_iff.1 (show (l[y.1]'hlt).few = true by simpa using hc32)
    refine SC.skip ?_
    refine SE.seq ?_
    refine SC.seq ?_
    refine SC.seq (SC.region ?_)
    refine SL.val (Val.fieldAddr tabOk rfl rfl rfl rfl rfl) rfl rfl ?_
    refine SL.val (Val.load1 tabOk rfl rfl (by first|(apply Or.inl;(repeat first|assumption|exact m0|apply m1);done)|(apply Or.inr;(repeat first|assumption|exact m0|apply m1);done)) List.not_mem_nil (by rfl)) rfl rfl ?_
    refine SL.val (Val.eqI rfl rfl) rfl rfl ?_
    refine SL.nil (SE.seq ?_)
    refine SC.condP rfl ?_ ?_
    · intro hc35
      refine SC.seq (SC.region ?_)
      refine SL.val (Val.move rfl) rfl rfl ?_
      refine SL.val (Val.move rfl) rfl rfl ?_
      refine SL.val (Val.fieldAddr tabOk rfl rfl rfl rfl rfl) rfl rfl ?_
      refine SL.val (Val.load1 tabOk rfl rfl (by first|(apply Or.inl;(repeat first|assumption|exact m0|apply m1);done)|(apply Or.inr;(repeat first|assumption|exact m0|apply m1);done)) List.not_mem_nil (by rfl)) rfl rfl ?_
      refine SL.val (Val.fieldAddr tabOk rfl rfl rfl rfl rfl) rfl rfl ?_
      refine SL.val (Val.to (C := .agg (l[y.1]'hlt).reply.abs) (Val.loadP tabOk rfl rfl rfl (by first|(apply Or.inl;(repeat first|assumption|exact m0|apply m1);done)|(apply Or.inr;(repeat first|assumption|exact m0|apply m1);done)) List.not_mem_nil (Nat.le_of_ble_eq_true (by rfl))) (congrArg Abs.agg (ac_reply _))) rfl rfl ?_
      refine SL.call (reply_s (q := z0.1) (bd := z0.2.1) (bt := z0.2.2) (a := (l[y.1]'hlt).from_) (b := 4) (r := (l[y.1]'hlt).reply) (T := y.2.2.2) hco.num (by omega)) Casts.refl (by kernel_rfl) rfl rfl rfl ?_
      refine After.mid (.blk b7 55 (l[y.1]'hlt).abs :: clP z1 z0.1 4 4 (y.2.2.1)) (β := []) rfl (by intro x hx; simp only [hidP, List.mem_cons, List.not_mem_nil, or_false] at hx; rcases hx with rfl | rfl <;> rfl) ?_
      intro _
      refine SL.call (recvF_s (p := z1) (q := z0.1) (bd := z0.2.1) (bt := z0.2.2) (n := 4) (id := 4) (m := (Msg.mk 12 (l[y.1]'hlt).from_ (l[y.1]'hlt).reply.bytes (tagsG (gI (l[y.1]'hlt).from_ (textV 12 (l[y.1]'hlt).reply.bytes)) y.2.2.2 [4]))) (T := (tmG (gI (l[y.1]'hlt).from_ (textV 12 (l[y.1]'hlt).reply.bytes)) y.2.2.2 [4])) (s := y.2.2.1) (by show (l[y.1]'hlt).reply.bytes.length ≤ _; rw [Rp.bytes_length]; omega) (tmG_num hco.num _ _) (by have := (hco.more (gI (l[y.1]'hlt).from_ (textV 12 (l[y.1]'hlt).reply.bytes)) 4).tags; omega) (hco.ok (by omega)) (by decide)) Casts.refl (by kernel_rfl) rfl rfl rfl ?_
      refine After.mid [.blk b7 55 (l[y.1]'hlt).abs] (β := []) (by first | rfl | (simp; done) | (simp [hidP]; done)) askS_rids ?_
      intro zr
      refine SL.nil (SE.seq ?_)
      refine SC.exit ?_
      refine SE.then_ (by intro h; cases h) ?_
      refine SE.exit ?_
      refine SE.seq ?_
      refine SC.region ?_
      first
        | refine SL.val (Val.addI rfl rfl (by simp only [InR, lo, hi]; omega)) rfl rfl ?_
        | refine SL.val (Val.addW rfl rfl) rfl rfl ?_
      refine SL.val (Val.move rfl) rfl rfl ?_
      refine SL.nil ?_
      refine SE.round (y.1 + 1, y.2.1, recvS (tmG (gI (l[y.1]'hlt).from_ (textV 12 (l[y.1]'hlt).reply.bytes)) y.2.2.2 [4]) 4 4 (y.2.2.1) (Msg.mk 12 (l[y.1]'hlt).from_ (l[y.1]'hlt).reply.bytes (tagsG (gI (l[y.1]'hlt).from_ (textV 12 (l[y.1]'hlt).reply.bytes)) y.2.2.2 [4])) zr, (tmG (gI (l[y.1]'hlt).from_ (textV 12 (l[y.1]'hlt).reply.bytes)) y.2.2.2 [4])) (by first | omega | (dsimp only; omega)) (⟨hlt, (hco.more _ 4).recv _ _⟩) (by exact ⟨rfl, rfl, rfl, rfl, rfl, rfl, trivial⟩) (by first | (simp; done) | (simp only [List.append_nil, List.nil_append]; exact List.sublist_cons_self _ _) | (simp [hidP]; done))
    intro hc35
    have hins : Core.ins (nextC 4 y.2.2.1.stamp (l[y.1]'hlt).core) := by
      have h9 := hin _ (List.getElem_mem hlt)
      obtain ⟨g1, g2, g3, g4, g5, g6, g7⟩ := h9
      refine ⟨by show InR .i64 (4 : Int); simp only [InR, lo, hi]; omega, by show InR .i64 (y.2.2.1.stamp + 1); simp only [InR, lo, hi]; omega, g3, g4, g5, g6, g7⟩
    refine SC.skip ?_
    refine SE.seq ?_
    refine SC.seq (SC.region ?_)
    refine SL.val (Val.move rfl) rfl rfl ?_
    refine SL.val (Val.move rfl) rfl rfl ?_
    refine SL.val (Val.fieldAddr tabOk rfl rfl rfl rfl rfl) rfl rfl ?_
    refine SL.val (Val.to (C := coreA (l[y.1]'hlt).core) (Val.loadP tabOk rfl rfl rfl (by first|(apply Or.inl;(repeat first|assumption|exact m0|apply m1);done)|(apply Or.inr;(repeat first|assumption|exact m0|apply m1);done)) List.not_mem_nil (Nat.le_of_ble_eq_true (by rfl))) (congrArg Abs.agg (ac_core _))) rfl rfl ?_
    refine SL.call (nextS_s (p := z1) (q := z0.1) (n := 4) (id := 4) (s := y.2.2.1) (x := (l[y.1]'hlt).core) (by omega) (by omega)) Casts.refl (by kernel_rfl) rfl rfl rfl ?_
    refine After.mid [.blk b7 55 (l[y.1]'hlt).abs] (β := hidP z0.1 z0.2.1 z0.2.2 (y.2.2.2)) rfl (clP_rids _) ?_
    intro _
    refine SL.call (askS_s (p := z1) (q := z0.1) (bd := z0.2.1) (bt := z0.2.2) (n := 4) (id := 4) (x := (nextC 4 y.2.2.1.stamp (l[y.1]'hlt).core)) (T := y.2.2.2) (s := y.2.2.1) hins hins (by show (l[y.1]'hlt).core.letter.size ≤ _; omega) (by show (l[y.1]'hlt).core.text.size ≤ _; omega) hco.num (by omega) (by omega)) (Casts.keep (Casts.keep (Casts.nils (s := 2) Casts.refl))) (by kernel_rfl) rfl rfl rfl ?_
    refine After.mid [.blk b7 55 (l[y.1]'hlt).abs] (β := []) (by first | rfl | (simp; done) | (simp [hidP]; done)) askS_rids ?_
    intro za
    refine SL.val (Val.move rfl) rfl rfl ?_
    refine SL.val (Val.extract rfl rfl) rfl rfl ?_
    refine SL.val (Val.extract rfl rfl) rfl rfl ?_
    refine SL.val (Val.assign rfl) rfl rfl ?_
    refine SL.val (Val.assign rfl) rfl rfl ?_
    refine SL.nil (SE.seq ?_)
    refine SC.seq (SC.region ?_)
    refine SL.val (Val.move rfl) rfl rfl ?_
    refine SL.val (Val.eqI rfl rfl) rfl rfl ?_
    refine SL.nil (SE.seq ?_)
    refine SC.condP rfl ?_ ?_
    rotate_left
    · intro hc54
      refine SC.skip ?_
      refine SE.inBlock ?_
      refine SE.seq ?_
      refine SC.region ?_
      first
        | refine SL.val (Val.addI rfl rfl (by simp only [InR, lo, hi]; omega)) rfl rfl ?_
        | refine SL.val (Val.addW rfl rfl) rfl rfl ?_
      refine SL.val (Val.move rfl) rfl rfl ?_
      refine SL.nil ?_
      refine SE.round (y.1 + 1, y.2.1, askS y.2.2.2 4 4 (y.2.2.1) (nextC 4 y.2.2.1.stamp (l[y.1]'hlt).core) za, askST y.2.2.2 4 4 (y.2.2.1) (nextC 4 y.2.2.1.stamp (l[y.1]'hlt).core)) (by first | omega | (dsimp only; omega)) (⟨hlt, by have h9 := hco.ask (l[y.1]'hlt).core za; rw [if_neg (by assumption)] at h9; exact h9⟩) (by exact ⟨rfl, rfl, rfl, rfl, rfl, rfl, trivial⟩) (by first | (simp; done) | (simp only [List.append_nil, List.nil_append]; exact List.sublist_cons_self _ _) | (simp [hidP]; done))
    intro hc54
    refine SC.region ?_
    refine SL.val (Val.move rfl) rfl rfl ?_
    first
      | refine SL.val (Val.addI rfl rfl (by simp only [InR, lo, hi]; omega)) rfl rfl ?_
      | refine SL.val (Val.addW rfl rfl) rfl rfl ?_
    refine SL.val (Val.assign rfl) rfl rfl ?_
    refine SL.nil ?_
    refine SE.inBlock ?_
    refine SE.seq ?_
    refine SC.region ?_
    first
      | refine SL.val (Val.addI rfl rfl (by simp only [InR, lo, hi]; omega)) rfl rfl ?_
      | refine SL.val (Val.addW rfl rfl) rfl rfl ?_
    refine SL.val (Val.move rfl) rfl rfl ?_
    refine SL.nil ?_
    refine SE.round (y.1 + 1, y.2.1 + 1, askS y.2.2.2 4 4 (y.2.2.1) (nextC 4 y.2.2.1.stamp (l[y.1]'hlt).core) za, askST y.2.2.2 4 4 (y.2.2.1) (nextC 4 y.2.2.1.stamp (l[y.1]'hlt).core)) (by first | omega | (dsimp only; omega)) (⟨hlt, by have h9 := hco.ask (l[y.1]'hlt).core za; rw [if_pos (by assumption)] at h9; exact h9⟩) (by exact ⟨rfl, rfl, rfl, rfl, rfl, rfl, trivial⟩) (by first | (simp; done) | (simp only [List.append_nil, List.nil_append]; exact List.sublist_cons_self _ _) | (simp [hidP]; done))
  intro hc27
  have hz9 : y.1 = l.length := by have := hy.le; omega
  have hfw9 := (hy.once.ok (by omega)).few
  refine SC.exit ?_
  refine SE.then_ (by intro h; cases h) ?_
  refine SE.then_ (by intro h; cases h) ?_
  refine SE.exit ?_
  refine SE.seq ?_
  refine SC.seq (SC.region ?_)
  refine SL.val (Val.move rfl) rfl rfl ?_
  refine SL.call (accS_s (p := z1) (q := z0.1) (n := 4) (id := 4) (s := y.2.2.1) (by have := (hy.once.ok (by omega)).few; omega)) Casts.refl (by kernel_rfl) rfl rfl rfl ?_
  refine After.mid [] (β := hidP z0.1 z0.2.1 z0.2.2 (y.2.2.2)) rfl (clP_rids _) ?_
  intro _
  refine SL.val (Val.assign rfl) rfl rfl ?_
  refine SL.nil (SE.seq ?_)
  refine SC.seq ?_
  refine SC.seq (SC.region ?_)
  refine SL.val (Val.move rfl) rfl rfl ?_
  first
    | refine SL.val (Val.lenSl rfl Try.underlying42 (List.length_map _)) rfl rfl ?_
    | refine SL.val (Val.lenOwn rfl (by repeat first|assumption|exact m0|apply m1) Try.underlying42 (List.length_map _)) rfl rfl ?_
    | refine SL.val (Val.lenNil rfl Try.underlying42) rfl rfl ?_
  refine SL.val (Val.move rfl) rfl rfl ?_
  refine SL.nil (SE.seq ?_)
  refine SC.block ?_
  refine SC.loop (ι := Nat) (fun v => clP z1 z0.1 4 4 (y.2.2.1) ++ hidP z0.1 z0.2.1 z0.2.2 (y.2.2.2)) (fun v => [(4, ptr z1), (5, int (y.2.1 : Nat)), (10, outA (y.2.2.1).acc), (60, outA (y.2.2.1).acc), (61, int ((y.2.2.1).acc.length : Nat)), (62, int (v : Nat))]) (fun v => v ≤ (y.2.2.1).acc.length) (fun v => (y.2.2.1).acc.length - v) (0) (Nat.zero_le _) (by exact ⟨rfl, rfl, rfl, rfl, rfl, rfl, trivial⟩) (by repeat first|exact s0 _|exact s1 _|apply s2|apply s3) ?_
  intro v hv
  refine SC.seq (SC.region ?_)
  refine SL.val (Val.ltI rfl rfl) rfl rfl ?_
  refine SL.nil (SE.seq ?_)
  refine SC.seq ?_
  refine SC.condP rfl ?_ ?_
  · intro hc63
    have hl2 : v < (y.2.2.1).acc.length := by omega
    have hac := hy.once.accs v hl2
    refine SC.skip ?_
    refine SE.seq ?_
    refine SC.seq ?_
    refine SC.block ?_
    refine SC.seq (SC.region ?_)
    refine SL.val (Val.move rfl) rfl rfl ?_
    refine SL.val (Val.indexSl tabOk Try.underlying42 rfl rfl rfl rfl (at_map (by omega)) rfl rfl) rfl rfl ?_
    refine SL.val (Val.loadAR tabOk rfl rfl rfl rfl) rfl rfl ?_
    refine SL.eff (Eff.alloc tabOk rfl) rfl rfl ?_
    rintro _ _ ⟨b12, rfl, rfl⟩
    refine SL.val (Val.assign rfl) rfl rfl ?_
    refine SL.eff (Eff.store (L' := ((y.2.2.1).acc[v]'hl2).abs) tabOk rfl rfl rfl (by repeat first|assumption|exact Upd.here|apply Upd.there) rfl (Nat.le_of_ble_eq_true (by rfl)) rfl (by exact putL_whole rfl)) rfl rfl ?_
    rintro _ _ ⟨rfl, rfl⟩
    refine SL.nil (SE.seq ?_)
    refine SC.seq (SC.region ?_)
    refine SL.val (Val.fieldAddr tabOk rfl rfl rfl rfl rfl) rfl rfl ?_
    refine SL.val (Val.load1 tabOk rfl rfl (by first|(apply Or.inl;(repeat first|assumption|exact m0|apply m1);done)|(apply Or.inr;(repeat first|assumption|exact m0|apply m1);done)) List.not_mem_nil (by rfl)) rfl rfl ?_
    refine SL.val (Val.move rfl) rfl rfl ?_
    first
      | refine SL.val (Val.addI rfl rfl (by simp only [InR, lo, hi]; omega)) rfl rfl ?_
      | refine SL.val (Val.addW rfl rfl) rfl rfl ?_
    refine SL.val (Val.to (C := boo false) (Val.neI rfl rfl) (congrArg (fun b => Abs.v (Value.bool b)) (decide_eq_false (by have := hac.2; omega)))) rfl rfl ?_
    refine SL.val (Val.move rfl) rfl rfl ?_
    refine SL.val (Val.fieldAddr tabOk rfl rfl rfl rfl rfl) rfl rfl ?_
    refine SL.val (Val.load1 tabOk rfl rfl (by first|(apply Or.inl;(repeat first|assumption|exact m0|apply m1);done)|(apply Or.inr;(repeat first|assumption|exact m0|apply m1);done)) List.not_mem_nil (by rfl)) rfl rfl ?_
    refine SL.val (Val.to (C := boo false) (Val.neI rfl rfl) (congrArg (fun b => Abs.v (Value.bool b)) (decide_eq_false (by have := hac.1; omega)))) rfl rfl ?_
    refine SL.val (Val.pickF rfl rfl) rfl rfl ?_
    refine SL.nil (SE.seq ?_)
    refine SC.condF rfl ?_
    refine SC.skip ?_
    refine SE.inBlock ?_
    refine SE.seq ?_
    refine SC.region ?_
    first
      | refine SL.val (Val.addI rfl rfl (by simp only [InR, lo, hi]; omega)) rfl rfl ?_
      | refine SL.val (Val.addW rfl rfl) rfl rfl ?_
    refine SL.val (Val.move rfl) rfl rfl ?_
    refine SL.nil ?_
    refine SE.round (v + 1) (by first | omega | (dsimp only; omega)) (by first | omega | (dsimp only; omega)) (by exact ⟨rfl, rfl, rfl, rfl, rfl, rfl, trivial⟩) (by repeat first|exact s0 _|exact s1 _|apply s2|apply s3)
  intro hc63
  refine SC.exit ?_
  refine SE.then_ (by intro h; cases h) ?_
  refine SE.then_ (by intro h; cases h) ?_
  refine SE.exit ?_
  refine SE.seq ?_
  refine SC.seq (SC.region ?_)
  refine SL.val (Val.move rfl) rfl rfl ?_
  refine SL.call (waitS_s (p := z1) (q := z0.1) (n := 4) (id := 4) (s := y.2.2.1)) Casts.refl (by kernel_rfl) rfl rfl rfl ?_
  refine After.mid [] (β := hidP z0.1 z0.2.1 z0.2.2 (y.2.2.2)) rfl (clP_rids _) ?_
  intro _
  refine SL.val (Val.move rfl) rfl rfl ?_
  refine SL.val (Val.extract rfl rfl) rfl rfl ?_
  refine SL.val (Val.extract rfl rfl) rfl rfl ?_
  refine SL.eff (Eff.alloc tabOk rfl) rfl rfl ?_
  rintro _ _ ⟨b13, rfl, rfl⟩
  refine SL.eff (Eff.store tabOk rfl rfl rfl (by repeat first|assumption|exact Upd.here|apply Upd.there) (by rfl) (Nat.le_of_ble_eq_true (by rfl)) (by rfl) (by rfl)) rfl rfl ?_
  rintro _ _ ⟨rfl, rfl⟩
  refine SL.val (Val.assign rfl) rfl rfl ?_
  refine SL.nil (SE.seq ?_)
  refine SC.seq ?_
  refine SC.seq (SC.region ?_)
  refine SL.val (Val.move rfl) rfl rfl ?_
  refine SL.nil (SE.seq ?_)
  refine SC.cond rfl ?_ ?_
  rotate_left
  · intro hc83
    have hno : y.2.2.1.wait = none := by simpa using hc83
    have hid := hy.once.idle hno
    refine SC.skip ?_
    refine SE.seq ?_
    refine SC.seq (SC.region ?_)
    refine SL.val (Val.move rfl) rfl rfl ?_
    first
      | refine SL.val (Val.lenSl rfl Try.underlying42 (List.length_map _)) rfl rfl ?_
      | refine SL.val (Val.lenOwn rfl (by repeat first|assumption|exact m0|apply m1) Try.underlying42 (List.length_map _)) rfl rfl ?_
      | refine SL.val (Val.lenNil rfl Try.underlying42) rfl rfl ?_
    refine SL.val (Val.move rfl) rfl rfl ?_
    refine SL.val (Val.eqI rfl rfl) rfl rfl ?_
    refine SL.val (Val.assign rfl) rfl rfl ?_
    refine SL.nil (SE.seq ?_)
    refine SC.ret ?_
    refine SE.fin (rs := [.tmp 2]) rfl (RV.tmp rfl RV.nil) (()) (by repeat first|exact s0 _|exact s1 _|apply s2|apply s3) (by simp [It.rids]) ?_
    first
      | rfl
      | exact congrArg (fun b => Abs.v (Value.bool b)) (decide_eq_true (by rw [hcr]; exact hbz.2.1))
      | exact congrArg (fun b => Abs.v (Value.bool b)) (decide_eq_true (by omega))
  intro hc83
  obtain ⟨w9, hw9⟩ := Option.isSome_iff_exists.1 hc83
  have hbz := hy.once.busy w9 hw9
  have hb1 := hbz.1
  have hcr : CS.core y.2.2.1 = w9.core := by unfold CS.core; rw [hw9]
  have hcf9 := hy.once.few
  refine SC.seq (SC.region ?_)
  refine SL.val (Val.move rfl) rfl rfl ?_
  first
    | refine SL.val (Val.lenSl rfl Try.underlying42 (List.length_map _)) rfl rfl ?_
    | refine SL.val (Val.lenOwn rfl (by repeat first|assumption|exact m0|apply m1) Try.underlying42 (List.length_map _)) rfl rfl ?_
    | refine SL.val (Val.lenNil rfl Try.underlying42) rfl rfl ?_
  refine SL.val (Val.move rfl) rfl rfl ?_
  first
    | refine SL.val (Val.subI rfl rfl (by simp only [InR, lo, hi]; omega)) rfl rfl ?_
    | refine SL.val (Val.subW rfl rfl) rfl rfl ?_
  refine SL.val (Val.eqI rfl rfl) rfl rfl ?_
  refine SL.val (Val.move rfl) rfl rfl ?_
  refine SL.bothP (t := 89) rfl ?_ (by intro hc89; exfalso; omega)
  intro hc89
  refine SL.val (Val.fieldAddr tabOk rfl rfl rfl rfl rfl) rfl rfl ?_
  refine SL.val (Val.load1 tabOk rfl rfl (by first|(apply Or.inl;(repeat first|assumption|exact m0|apply m1);done)|(apply Or.inr;(repeat first|assumption|exact m0|apply m1);done)) List.not_mem_nil (by rfl)) rfl rfl ?_
  refine SL.val (Val.move rfl) rfl rfl ?_
  refine SL.val (Val.eqI rfl rfl) rfl rfl ?_
  refine SL.val (Val.pickT rfl rfl) rfl rfl ?_
  refine SL.val (Val.assign rfl) rfl rfl ?_
  refine SL.nil (SE.seq ?_)
  refine SC.ret ?_
  refine SE.then_ (by intro h; cases h) ?_
  refine SE.fin (rs := [.tmp 2]) rfl (RV.tmp rfl RV.nil) (()) (by repeat first|exact s0 _|exact s1 _|apply s2|apply s3) (by simp [It.rids]) ?_
  first
    | rfl
    | exact congrArg (fun b => Abs.v (Value.bool b)) (decide_eq_true (by rw [hcr]; exact hbz.2.1))
    | exact congrArg (fun b => Abs.v (Value.bool b)) (decide_eq_true (by omega))
end
end Go.Proofs.Ytmkijjmbiiiicaa.A
/-
  Clients, plain: the calls whose answers the document fixes.
-/
set_option maxRecDepth 100000
set_option linter.unusedSimpArgs false
set_option linter.unusedVariables false
namespace Go.Proofs.Ytmkijjmbiiiicaa.A
open Go.RowKit

def x31 : Core := ⟨5, 1, 1, ⟨#[97]⟩, 0, 0, ⟨#[]⟩⟩
def r31 : Rp := ⟨0, 5, 1, 0⟩
theorem x31_ask : askE 4 5 0 x31 = 0 := (if_pos rfl).trans (by kernel_rfl)
theorem r31_parse : parseR r31.bytes 4 = (r31, 0) := by kernel_rfl
def m31 (T : List (ByteArray × Nat)) (a : Int) : Msg := ⟨12, a, r31.bytes, tagsG (gI a (textV 12 r31.bytes)) T [5]⟩
def t31 (T : List (ByteArray × Nat)) (a : Int) : List (ByteArray × Nat) := tmG (gI a (textV 12 r31.bytes)) T [5]
theorem r31_read (T : List (ByteArray × Nat)) (a : Int) (h : 0 ≤ a ∧ a < 4) : readR (t31 T a) 4 5 1 true (m31 T a) = (r31, 0) := by
  have h1 := chk_said T a 5 r31.bytes
  have h2 : parseR (m31 T a).body 4 = (r31, 0) := r31_parse
  unfold readR
  rw [if_neg (by show ¬ ((12 : Int) ≠ 12 ∨ a < 0 ∨ 4 ≤ a); omega), if_neg (fun h3 => h3 h1), h2]
  rfl
theorem recv31a (T : List (ByteArray × Nat)) : recvE (t31 T 0) 4 5 1 [] (m31 T 0) = 0 ∧ recvM (t31 T 0) 4 5 1 [] (m31 T 0) = [(0, 0)] ∧ recvC (t31 T 0) 4 5 1 [] [] (m31 T 0) = [(0, 1)] ∧ recvD (t31 T 0) 4 5 1 [] [] (m31 T 0) = false := by
  have h := r31_read T 0 (by decide)
  obtain ⟨h1, h2, h3, h4⟩ := recv_new (T := t31 T 0) (n := 4) (id := 5) (stamp := 1) (m := m31 T 0) (M := []) (K := []) (by rw [h]) rfl
  rw [h] at h2 h3 h4
  refine ⟨h1, h2.trans rfl, h3.trans rfl, h4.trans ?_⟩
  exact decide_eq_false (by show ¬ ((max (4 : Int) 1 - 1) / 3 < ((cget (tAddC ([] : List (Int × Int)) [] 0 0) 0 : Nat) : Int)); decide)
theorem recv31b (T : List (ByteArray × Nat)) : recvE (t31 T 2) 4 5 1 [(0, 0)] (m31 T 2) = 0 ∧ recvD (t31 T 2) 4 5 1 [(0, 0)] [(0, 1)] (m31 T 2) = true := by
  have h := r31_read T 2 (by decide)
  obtain ⟨h1, h2, h3, h4⟩ := recv_new (T := t31 T 2) (n := 4) (id := 5) (stamp := 1) (m := m31 T 2) (M := [(0, 0)]) (K := [(0, 1)]) (by rw [h]) rfl
  rw [h] at h4
  exact ⟨h1, h4.trans (decide_eq_true (by show (max (4 : Int) 1 - 1) / 3 < ((cget (tAddC ([(0, 0)] : List (Int × Int)) [(0, 1)] 2 0) 0 : Nat) : Int); decide))⟩
end Go.Proofs.Ytmkijjmbiiiicaa.A
