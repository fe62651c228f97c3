/-
  Batches, read whole: the program's, over the engine.
-/
import Derived.Test.YtdbeinbgekdnmaaRdCan
set_option maxRecDepth 100000
namespace Go.Proofs.Ytdbeinbgekdnmaa
open Go.RowKit

section
variable {S : List (World × List Nat)} {σ τ : Blks} {ρ : List Dt} {w : World}
/-- Entries as a row of the call's own. -/
abbrev ownE (v : Value) (es : List Ent) : It := .pc (ownPc 139 8 v es.length (es.flatMap Ent.cells))
theorem cells8 (es : List Ent) : (es.flatMap Ent.cells).length = es.length * 8 := by
  induction es with
  | nil => rfl
  | cons e es ih => rw [List.flatMap_cons, List.length_append, ih, List.length_cons, Nat.succ_mul]; show 8 + _ = _; omega
theorem batchCheckOwn_c {v : Value} {es : List Ent} {n : Int} (hw : Mem S σ ρ w) (ho : ownE v es ∈ σ) (hl : es.length ≤ 1000000) : Calls Try.prog 69 #[v, .int .i64 n] w fun e w' => e = .returned (.int .i64 (chkB es n)) ∧ Mem S σ ρ w' :=
  (batchCheck_c ((Mem.start w).add (z := entsD v es) (ownsRow.isRow (hw.hold _ ho) (by simp))) List.mem_cons_self hl).mono fun _ _ ⟨h1, h2⟩ => ⟨h1, hw.same (h2.ext _ List.mem_cons_self)⟩
theorem Mem.nilE (h : Mem S σ ρ w) : Mem S (ownE (.slice none 0 0) [] :: σ) ρ w := h.own0 139 8

set_option maxHeartbeats 4000000 in
theorem parse_own {v : Value} {l : List UInt8} {n : Int} (hw : Mem S σ ρ w) (hb : bytesD v l ∈ ρ) (hl : l.length ≤ 900000) : Calls Try.prog 72 #[v, .int .i64 n] w fun e w' => ∃ r, e = .returned (.tuple #[r, .int .i64 (parseS l n).2]) ∧ Mem S (ownE r (parseS l n).1 :: σ) ρ w' := by
  have hL : lots = 100000000000 := rfl
  have hll : l.length ≤ lots := by omega
  obtain ⟨A, c, rfl, hs1, hs2, hs3⟩ := (hw.data hb).shape
  refine calls_of [.slice A l.length c, .int .i64 n] Try.func72 rfl Try.ntmps72 rfl (Mem S σ ρ) hw ?_
  refine SC.seq ?_
  refine SC.region ?_
  refine SL.val (Val.assign rfl) rfl rfl ?_
  refine SL.val (Val.assign rfl) rfl rfl ?_
  refine SL.nil ?_
  refine SE.seq ?_
  refine SC.seq ?_
  refine SC.region ?_
  refine SL.val (Val.move rfl) rfl rfl ?_
  refine SL.call (by kernel_rfl) rfl rfl rfl ?_
  intro w hw
  refine (read_c (l := l) hw hb (by unfold lots; omega)).mono ?_; rintro _ _ ⟨p, z, rfl, hm⟩; have n1 := (Rd.of l).num_lt (n := 2) (k := 2) (Nat.le_refl _); refine ⟨_, _, rfl, hm, ?_⟩; clear hm hw w
  refine SL.val (Val.assign rfl) rfl rfl ?_
  refine SL.nil ?_
  refine SE.seq ?_
  refine SC.seq ?_
  refine SC.region ?_
  refine SL.val (Val.assign rfl) rfl rfl ?_
  refine SL.to (fun _ h => Mem.nilE h) ?_
  refine SL.nil ?_
  refine SE.seq ?_
  refine SC.seq ?_
  refine SC.seq ?_
  refine SC.region ?_
  refine SL.val (Val.move rfl) rfl rfl ?_
  refine SL.call (by kernel_rfl) rfl rfl rfl ?_
  intro w hw
  refine (number_c (s := ⟨z, l, 0⟩) (n := 2) hw (by repeat (first | assumption | exact Upd.here | apply Upd.there)) (by repeat (first | assumption | exact List.mem_cons_self | apply List.mem_cons_of_mem)) hll rfl).mono ?_; rintro _ _ ⟨he, hm⟩; rw [(of_as z l).num 2] at he; subst he; refine ⟨_, _, rfl, hm, ?_⟩; clear hm hw w
  refine SL.val (Val.convI rfl Try.underlying3 (by kernel_rfl) (by simp only [InR, lo, hi]; omega)) rfl rfl ?_
  refine SL.val (Val.move rfl) rfl rfl ?_
  refine SL.val (Val.lenSl rfl Try.underlying34) rfl rfl ?_
  refine SL.val (Val.addI rfl rfl (by simp only [InR, lo, hi]; omega)) rfl rfl ?_
  refine SL.val (Val.minN (j := l.length + 1) rfl rfl (by simp)) rfl rfl ?_
  refine SL.val (Val.move rfl) rfl rfl ?_
  refine SL.nil ?_
  refine SE.seq ?_
  refine SC.block ?_
  refine SC.loop (ι := Rd × List Ent × Nat × Value) (fun z => [(0, .slice A l.length c), (1, .int .i64 n), (6, .pointer (some ⟨p, 0, none⟩)), (7, z.2.2.2), (19, .int .i64 (manyOf l : Nat)), (20, .int .i64 (z.2.2.1 : Nat))]) (fun z w' => (z.2.2.1 ≤ manyOf l ∧ z.2.1.length = z.2.2.1 ∧ z.1.l.length ≤ l.length ∧ parse2 n (Rd.ents ((l.length : Nat) : Int) (manyOf l - z.2.2.1) z.1 z.2.1) = parseS l n) ∧ Mem S (ownE z.2.2.2 z.2.1 :: rdI 194 p z.1 :: σ) (bytesD z.1.v z.1.l :: ρ) w') (fun z => manyOf l - z.2.2.1) ((⟨z, l, 0⟩ : Rd).fixed 2, [], 0, .slice none 0 0) (by exact ⟨rfl, rfl, rfl, rfl, rfl, rfl, trivial⟩) (fun w' hw' => ⟨⟨Nat.zero_le _, rfl, (⟨z, l, 0⟩ : Rd).fixed_length 2, by rw [Nat.sub_zero]; exact ents_as _ _ ((of_as z l).fixed 2)⟩, hw'.less (by intro x hx; simp only [List.mem_cons] at hx ⊢; rcases hx with rfl | hx <;> simp [*])⟩) ?_
  intro z
  refine SC.facts ?_
  rintro ⟨f1, f2, f3, f4⟩
  have n2 := (z.1.row ((l.length : Nat) : Int)).num_lt (n := 1) (k := 1) (Nat.le_refl _)
  have n3 : (z.1.rowOut ((l.length : Nat) : Int)).length ≤ z.1.l.length := z.1.rowOut_length _
  have n4 : manyOf l ≤ l.length + 1 := Nat.min_le_right _ _
  refine SC.seq ?_
  refine SC.region ?_
  refine SL.val (Val.ltI rfl rfl) rfl rfl ?_
  refine SL.nil ?_
  refine SE.seq ?_
  refine SC.seq ?_
  refine SC.condP rfl ?_ ?_
  · intro hc21
    have hlt : z.2.2.1 < manyOf l := by omega
    refine SC.skip ?_
    refine SE.seq ?_
    refine SC.seq ?_
    refine SC.block ?_
    refine SC.seq ?_
    refine SC.region ?_
    refine SL.val (Val.move rfl) rfl rfl ?_
    refine SL.val (Val.move rfl) rfl rfl ?_
    refine SL.val (Val.lenSl rfl Try.underlying34) rfl rfl ?_
    refine SL.call (by kernel_rfl) rfl rfl rfl ?_
    intro w hw
    refine (row_c (s := z.1) (most := ((l.length : Nat) : Int)) hw (by repeat (first | assumption | exact Upd.here | apply Upd.there)) (by repeat (first | assumption | exact List.mem_cons_self | apply List.mem_cons_of_mem)) (by omega) (by omega)).mono ?_; rintro _ _ ⟨r, rfl, hm⟩; refine ⟨_, _, rfl, hm, ?_⟩; clear hm hw w
    refine SL.call (by kernel_rfl) rfl rfl rfl ?_
    intro w hw
    refine (formed_c (l := (z.1.rowOut ((l.length : Nat) : Int))) hw (by repeat (first | assumption | exact List.mem_cons_self | apply List.mem_cons_of_mem)) (by omega)).mono ?_; rintro _ _ ⟨z0, he, hm⟩; rw [(of_as z0 _).core, ((of_as z0 _).coreEnd _).end_] at he; subst he; refine ⟨_, _, rfl, hm, ?_⟩; clear hm hw w
    refine SL.val (Val.move rfl) rfl rfl ?_
    refine SL.val (Val.extract rfl rfl) rfl rfl ?_
    refine SL.val (Val.extract rfl rfl) rfl rfl ?_
    refine SL.eff (Eff.alloc tabOk rfl) rfl rfl ?_
    rintro _ _ ⟨b8, rfl, rfl⟩
    refine SL.eff (Eff.storeA (L' := (coreOf (z.1.rowOut ((l.length : Nat) : Int)) ((z.1.rowOut ((l.length : Nat) : Int)).length : Nat)).cells) (vs := (coreOf (z.1.rowOut ((l.length : Nat) : Int)) ((z.1.rowOut ((l.length : Nat) : Int)).length : Nat)).cells) tabOk rfl rfl rfl (by repeat (first | assumption | exact Upd.here | apply Upd.there)) (by rfl) (Nat.le_of_ble_eq_true (by rfl)) (Core.one _) (by rfl)) rfl rfl ?_
    rintro _ _ ⟨rfl, rfl⟩
    refine SL.val (Val.assign rfl) rfl rfl ?_
    refine SL.nil ?_
    refine SE.seq ?_
    refine SC.seq ?_
    refine SC.seq ?_
    refine SC.region ?_
    refine SL.val (Val.move rfl) rfl rfl ?_
    refine SL.val (Val.notP rfl) rfl rfl ?_
    refine SL.nil ?_
    refine SE.seq ?_
    refine SC.condP rfl ?_ ?_
    · intro hc31
      have hok : okOf (z.1.rowOut ((l.length : Nat) : Int)) ((z.1.rowOut ((l.length : Nat) : Int)).length : Nat) = false := by simpa [okOf] using hc31
      refine SC.seq ?_
      refine SC.region ?_
      refine SL.val (Val.assign rfl) rfl rfl ?_
      refine SL.val (Val.assign rfl) rfl rfl ?_
      refine SL.nil ?_
      refine SE.seq ?_
      refine SC.ret ?_
      refine SE.then_ (by intro h; cases h) ?_
      refine SE.ret ?_
      refine SE.then_ (by intro h; cases h) ?_
      refine SE.then_ (by intro h; cases h) ?_
      refine SE.ret ?_
      refine SE.then_ (by intro h; cases h) ?_
      refine SE.ret2 rfl rfl rfl ?_
      intro w' hw'
      have e0 : parseS l n = ([], 2) := by
        rw [← f4, show manyOf l - z.2.2.1 = (manyOf l - (z.2.2.1 + 1)) + 1 by omega]
        simp only [Rd.ents, hok]
        rfl
      rw [e0]
      exact ⟨_, rfl, (((hw'.sub (fun _ h => h) (List.sublist_append_right [_, _, _] _)).less (fun x hx => by simp [hx])).nilE)⟩
    · intro hc31
      have hok : okOf (z.1.rowOut ((l.length : Nat) : Int)) ((z.1.rowOut ((l.length : Nat) : Int)).length : Nat) = true := by simpa [okOf] using hc31
      refine SC.skip ?_
      refine SE.seq ?_
      refine SC.draw (Mem S [.blk b8 (row 136 (coreOf (z.1.rowOut ((l.length : Nat) : Int)) ((z.1.rowOut ((l.length : Nat) : Int)).length : Nat)).cells)] []) (.q 0 (.q 1 (.q 2 (.e 3 (.q 4 (.q 5 (.e 6 (.e 7 (.q 8 .nil))))))))) (by kernel_rfl) (by kernel_rfl) (fun _ h => (h.sub (fun _ h => h) (by first | exact List.sublist_append_left [_] _ | exact List.Sublist.cons _ (List.sublist_append_left [_] _))).less (by simp)) (fun _ h => h.drew) ?_
      refine SX.val rfl (Val.move rfl) rfl rfl ?_
      first
        | refine SX.val rfl (Val.loadA tabOk rfl rfl rfl (by repeat (first | assumption | exact List.mem_cons_self | apply List.mem_cons_of_mem)) (by rfl)) rfl rfl ?_
        | refine SX.val rfl (Val.loadAC tabOk rfl rfl rfl (by assumption) (by assumption)) rfl rfl ?_
        | refine SX.val rfl (Val.loadP tabOk rfl rfl rfl (by repeat (first | assumption | exact List.mem_cons_self | apply List.mem_cons_of_mem)) (Nat.le_of_ble_eq_true (by rfl))) rfl rfl ?_
      refine SX.val rfl (Val.move rfl) rfl rfl ?_
      refine SX.call rfl (by kernel_rfl) rfl rfl rfl ?_
      intro w hw
      refine (number_c (s := (z.1.row ((l.length : Nat) : Int))) (n := 1) hw (by repeat (first | assumption | exact Upd.here | apply Upd.there)) (by repeat (first | assumption | exact List.mem_cons_self | apply List.mem_cons_of_mem)) (by have := z.1.row_length ((l.length : Nat) : Int); omega) rfl).mono ?_; rintro _ _ ⟨rfl, hm⟩; refine ⟨_, _, rfl, hm, _, fun _ h => h, fun _ h => (h.sub (fun _ h => h) (by first | exact List.sublist_append_left [_] _ | exact List.Sublist.cons _ (List.sublist_append_left [_] _))).less (by simp), ?_⟩; clear hm hw w
      refine SX.val rfl (Val.convI rfl Try.underlying137 (by kernel_rfl) (by simp only [InR, lo, hi]; omega)) rfl rfl ?_
      refine SX.val rfl (Val.buildS (L := (⟨coreOf (z.1.rowOut ((l.length : Nat) : Int)) ((z.1.rowOut ((l.length : Nat) : Int)).length : Nat), (z.1.row ((l.length : Nat) : Int)).num 1⟩ : Ent).cells) tabOk rfl rfl rfl (by rfl)) rfl rfl ?_
      refine SX.eff rfl (Eff.buildSlice (L := (⟨coreOf (z.1.rowOut ((l.length : Nat) : Int)) ((z.1.rowOut ((l.length : Nat) : Int)).length : Nat), (z.1.row ((l.length : Nat) : Int)).num 1⟩ : Ent).cells) tabOk Try.underlying89 rfl rfl (fun L0 h => by match L0, h with | [_, _, _, _, _, _, _, _], _ => rfl) rfl) rfl rfl ?_
      rintro _ _ ⟨b38, rfl, rfl⟩
      refine ⟨_, fun _ h => h, fun _ h => (h.sub (fun _ h => h) (by first | exact List.sublist_append_left [_] _ | exact List.Sublist.cons _ (List.sublist_append_left [_] _))).less (by simp), ?_⟩
      refine SX.eff rfl (Eff.append (pre := [_, _]) (k := z.2.1.length) (news := (⟨coreOf (z.1.rowOut ((l.length : Nat) : Int)) ((z.1.rowOut ((l.length : Nat) : Int)).length : Nat), (z.1.row ((l.length : Nat) : Int)).num 1⟩ : Ent).cells) tabOk Try.underlying89 rfl rfl rfl rfl rfl (fun _ hw => ⟨_, hw.blkRow List.mem_cons_self (Nat.le_refl _) (by decide)⟩) rfl (Ent.one _) (by unfold maxLen; omega) (by rw [show Try.prog.bytesOf 139 = 80 by kernel_rfl]; omega)) rfl rfl ?_
      rintro r _ rfl
      refine ⟨_, fun _ h => h, fun _ h => (h.sub (fun _ h => h) (by first | exact List.sublist_append_left [_] _ | exact List.Sublist.cons _ (List.sublist_append_left [_] _))).less (by simp), ?_⟩
      refine SX.val rfl (Val.assign rfl) rfl rfl ?_
      refine SX.nil ?_
      refine SE.inBlock ?_
      refine SE.seq ?_
      refine SC.region ?_
      first
        | refine SL.val (Val.addI rfl rfl (by simp only [InR, lo, hi]; omega)) rfl rfl ?_
        | refine SL.val (Val.addW rfl rfl) rfl rfl ?_
      refine SL.val (Val.move rfl) rfl rfl ?_
      refine SL.nil ?_
      refine SE.round ((z.1.row ((l.length : Nat) : Int)).fixed 1, z.2.1 ++ [(⟨coreOf (z.1.rowOut ((l.length : Nat) : Int)) ((z.1.rowOut ((l.length : Nat) : Int)).length : Nat), (z.1.row ((l.length : Nat) : Int)).num 1⟩ : Ent)], z.2.2.1 + 1, r) (by show manyOf l - (z.2.2.1 + 1) < manyOf l - z.2.2.1; omega) (by exact ⟨rfl, rfl, rfl, rfl, rfl, rfl, trivial⟩) (fun w' hw' => ⟨⟨by show z.2.2.1 + 1 ≤ manyOf l; omega, by show (z.2.1 ++ [(⟨coreOf (z.1.rowOut ((l.length : Nat) : Int)) ((z.1.rowOut ((l.length : Nat) : Int)).length : Nat), (z.1.row ((l.length : Nat) : Int)).num 1⟩ : Ent)]).length = z.2.2.1 + 1; simp [f2], by show ((z.1.row ((l.length : Nat) : Int)).fixed 1).l.length ≤ l.length; have := (z.1.row ((l.length : Nat) : Int)).fixed_length 1; have := z.1.row_length ((l.length : Nat) : Int); omega, ?_⟩, ?_⟩)
      · rw [← f4, show manyOf l - z.2.2.1 = (manyOf l - (z.2.2.1 + 1)) + 1 by omega]
        simp only [Rd.ents, hok]
        rfl
      · have e1 : (z.2.1 ++ [(⟨coreOf (z.1.rowOut ((l.length : Nat) : Int)) ((z.1.rowOut ((l.length : Nat) : Int)).length : Nat), (z.1.row ((l.length : Nat) : Int)).num 1⟩ : Ent)]).flatMap Ent.cells = z.2.1.flatMap Ent.cells ++ (⟨coreOf (z.1.rowOut ((l.length : Nat) : Int)) ((z.1.rowOut ((l.length : Nat) : Int)).length : Nat), (z.1.row ((l.length : Nat) : Int)).num 1⟩ : Ent).cells := by rw [List.flatMap_append]; simp
        show Mem S (.pc (ownPc _ _ _ (z.2.1 ++ [(⟨coreOf (z.1.rowOut ((l.length : Nat) : Int)) ((z.1.rowOut ((l.length : Nat) : Int)).length : Nat), (z.1.row ((l.length : Nat) : Int)).num 1⟩ : Ent)]).length ((z.2.1 ++ [(⟨coreOf (z.1.rowOut ((l.length : Nat) : Int)) ((z.1.rowOut ((l.length : Nat) : Int)).length : Nat), (z.1.row ((l.length : Nat) : Int)).num 1⟩ : Ent)]).flatMap Ent.cells)) :: _) _ w'
        rw [e1, List.length_append]
        exact (hw'.sub (fun _ h => h) (List.sublist_append_right [_, _] _)).less (fun x hx => by simp only [List.mem_cons] at hx ⊢; rcases hx with rfl | hx <;> simp [*])
  · intro hc21
    refine SC.exit ?_
    refine SE.then_ (by intro h; cases h) ?_
    refine SE.then_ (by intro h; cases h) ?_
    refine SE.exit ?_
    refine SE.seq ?_
    refine SC.seq ?_
    refine SC.seq ?_
    refine SC.region ?_
    refine SL.val (Val.move rfl) rfl rfl ?_
    refine SL.call (by kernel_rfl) rfl rfl rfl ?_
    intro w hw
    refine (end_c (s := z.1) hw (by repeat (first | assumption | exact List.mem_cons_self | apply List.mem_cons_of_mem)) (by repeat (first | assumption | exact List.mem_cons_self | apply List.mem_cons_of_mem))).mono ?_; rintro _ _ ⟨rfl, hm⟩; refine ⟨_, _, rfl, hm, ?_⟩; clear hm hw w
    refine SL.val (Val.neI rfl rfl) rfl rfl ?_
    refine SL.nil ?_
    refine SE.seq ?_
    refine SC.condP rfl ?_ ?_
    · intro hc43
      refine SC.seq ?_
      refine SC.region ?_
      refine SL.val (Val.assign rfl) rfl rfl ?_
      refine SL.val (Val.assign rfl) rfl rfl ?_
      refine SL.nil ?_
      refine SE.seq ?_
      refine SC.ret ?_
      refine SE.then_ (by intro h; cases h) ?_
      refine SE.ret2 rfl rfl rfl ?_
      intro w' hw'
      have hk : z.2.2.1 = manyOf l := by omega
      have e0 : parseS l n = ([], 2) := by
        rw [← f4, hk, Nat.sub_self]
        simp only [Rd.ents, parse2]
        rw [if_pos hc43]
      rw [e0]
      exact ⟨_, rfl, (((hw'.sub (fun _ h => h) (List.sublist_append_right [_, _] _)).less (fun x hx => by simp [hx])).nilE)⟩
    · intro hc43
      refine SC.skip ?_
      refine SE.seq ?_
      refine SC.seq ?_
      refine SC.seq ?_
      refine SC.region ?_
      refine SL.val (Val.move rfl) rfl rfl ?_
      refine SL.val (Val.move rfl) rfl rfl ?_
      refine SL.call (by kernel_rfl) rfl rfl rfl ?_
      intro w hw
      refine (batchCheckOwn_c (es := z.2.1) hw (by repeat (first | assumption | exact List.mem_cons_self | apply List.mem_cons_of_mem)) (by omega)).mono ?_; rintro _ _ ⟨rfl, hm⟩; refine ⟨_, _, rfl, hm, ?_⟩; clear hm hw w
      refine SL.val (Val.assign rfl) rfl rfl ?_
      refine SL.nil ?_
      refine SE.seq ?_
      refine SC.seq ?_
      refine SC.region ?_
      refine SL.val (Val.move rfl) rfl rfl ?_
      refine SL.val (Val.neI rfl rfl) rfl rfl ?_
      refine SL.nil ?_
      refine SE.seq ?_
      refine SC.condP rfl ?_ ?_
      · intro hc48
        refine SC.seq ?_
        refine SC.region ?_
        refine SL.val (Val.move rfl) rfl rfl ?_
        refine SL.val (Val.assign rfl) rfl rfl ?_
        refine SL.val (Val.assign rfl) rfl rfl ?_
        refine SL.nil ?_
        refine SE.seq ?_
        refine SC.ret ?_
        refine SE.then_ (by intro h; cases h) ?_
        refine SE.ret2 rfl rfl rfl ?_
        intro w' hw'
        have hk : z.2.2.1 = manyOf l := by omega
        have e0 : parseS l n = ([], chkB z.2.1 n) := by
          rw [← f4, hk, Nat.sub_self]
          simp only [Rd.ents, parse2]
          rw [if_neg hc43, if_pos hc48]
        rw [e0]
        exact ⟨_, rfl, (((hw'.sub (fun _ h => h) (List.sublist_append_right [_, _] _)).less (fun x hx => by simp [hx])).nilE)⟩
      · intro hc48
        refine SC.skip ?_
        refine SE.seq ?_
        refine SC.seq ?_
        refine SC.region ?_
        refine SL.val (Val.move rfl) rfl rfl ?_
        refine SL.val (Val.assign rfl) rfl rfl ?_
        refine SL.val (Val.assign rfl) rfl rfl ?_
        refine SL.nil ?_
        refine SE.seq ?_
        refine SC.ret ?_
        refine SE.ret2 rfl rfl rfl ?_
        intro w' hw'
        have hk : z.2.2.1 = manyOf l := by omega
        have e0 : parseS l n = (z.2.1, 0) := by
          rw [← f4, hk, Nat.sub_self]
          simp only [Rd.ents, parse2]
          rw [if_neg hc43, if_neg hc48]
        rw [e0]
        exact ⟨_, rfl, (hw'.sub (fun _ h => h) (List.Sublist.cons_cons _ (List.sublist_cons_self _ _))).less (fun x hx => by simp [hx])⟩
end
end Go.Proofs.Ytdbeinbgekdnmaa
