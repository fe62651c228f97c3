/-
  Packed out of the texts: Batch5, Batch6, BatchTwo, A7.
-/
import Derived.Test.YtpgffckfbgfgcaaD07
/-
  Batches, read whole: the document's, over the engine.
-/
set_option maxRecDepth 100000
namespace Go.Proofs.Ytpgffckfbgfgcaa
open Go.RowKit

/-- Entries as the document reads them: as long as nothing failed. -/
def Rd.rents : Nat → Rd → List Ent → Bool → List Ent × Bool × Rd
  | 0, s, acc, ok => (acc, ok, s)
  | k + 1, s, acc, ok => if s.e ≠ 0 then (acc, ok, s) else Rd.rents k ((s.row 1048576).fixed 1) (acc ++ [⟨coreOf (s.rowOut 1048576) 1048576, (s.row 1048576).num 1⟩]) (ok && okOf (s.rowOut 1048576) 1048576)
theorem rents_stop {s : Rd} {acc : List Ent} {ok : Bool} (h : s.e ≠ 0) : ∀ k, s.rents k acc ok = (acc, ok, s)
  | 0 => rfl
  | k + 1 => by simp only [Rd.rents, if_pos h]
theorem Upd.fn {x y : It} {σ τ : Blks} (h : Upd x y σ τ) : ∃ rep : It → Blks, rep x = σ ∧ rep y = τ ∧ ∀ a b, Upd a b (rep a) (rep b) := by
  induction h with
  | here => exact ⟨fun a => a :: _, rfl, rfl, fun a b => .here⟩
  | @there z σ0 τ0 _ ih =>
    obtain ⟨rep, h1, h2, h3⟩ := ih
    exact ⟨fun a => z :: rep a, by show z :: rep x = _; rw [h1], by show z :: rep y = _; rw [h2], fun a b => .there (h3 a b)⟩
section
variable {S : List (World × List Nat)} {σ τ : Blks} {ρ : List Dt} {w : World} {p : Nat} {s : Rd}
theorem Mem.swap {x y : It} (h : Mem S (x :: y :: σ) ρ w) : Mem S (y :: x :: σ) ρ w := by
  have hp : ((x :: y :: σ).flatMap It.ids).Perm ((y :: x :: σ).flatMap It.ids) := by
    simp only [List.flatMap_cons, ← List.append_assoc]
    exact List.Perm.append_right _ List.perm_append_comm
  refine ⟨h.ext, fun z hz => h.out z ?_, hp.nodup_iff.1 h.nodup, fun z hz => h.hold z ?_, fun z hz => z.grow _ _ w (fun k hk => .inl (hp.mem_iff.2 hk)) (h.dat z hz)⟩
  all_goals
    simp only [List.mem_cons] at hz ⊢
    rcases hz with h1 | h1 | h1 <;> simp [h1]

set_option maxHeartbeats 4000000 in
theorem rread_own (hw : Mem S σ ρ w) (hu : Upd (rdI 188 p s) (rdI 188 p ((s.fixed 2).rents (s.num 2) [] true).2.2) σ τ) (hv : bytesD s.v s.l ∈ ρ) (hl : s.l.length ≤ lots) :
    Calls Try.prog 227 #[.pointer (some ⟨p, 0, none⟩)] w fun e w' => ∃ r, e = .returned (.tuple #[r, .bool ((s.fixed 2).rents (s.num 2) [] true).2.1]) ∧ Mem S (ownE r ((s.fixed 2).rents (s.num 2) [] true).1 :: τ) (bytesD ((s.fixed 2).rents (s.num 2) [] true).2.2.v ((s.fixed 2).rents (s.num 2) [] true).2.2.l :: ρ) w' := by
  have hL : lots = 100000000000 := rfl
  have hnum := s.num_lt (n := 2) (k := 2) (Nat.le_refl _)
  obtain ⟨rep, rfl, rfl, hrep⟩ := hu.fn
  have hmem : ∀ a, a ∈ rep a := fun a => (hrep a a).mem
  refine calls_of [.pointer (some ⟨p, 0, none⟩)] Try.func227 rfl Try.ntmps227 rfl (Mem S (rep (rdI 188 p s)) ρ) hw ?_
  refine SC.seq (SC.region ?_)
  refine SL.val (Val.assign rfl) rfl rfl ?_
  refine SL.val (Val.assign rfl) rfl rfl ?_
  refine SL.nil (SE.seq ?_)
  refine SC.seq (SC.region ?_)
  refine SL.val (Val.assign rfl) rfl rfl ?_
  refine SL.to (fun _ h => Mem.nilE h) ?_
  refine SL.nil (SE.seq ?_)
  refine SC.seq (SC.region ?_)
  refine SL.val (Val.assign rfl) rfl rfl ?_
  refine SL.nil (SE.seq ?_)
  refine SC.seq ?_
  refine SC.seq (SC.region ?_)
  refine SL.val (Val.move rfl) rfl rfl ?_
  refine SL.call (by kernel_rfl) rfl rfl rfl ?_
  intro w hw
  refine (rnumber_c (s := s) (n := 2) hw (by repeat (first | assumption | exact Upd.here | exact hrep _ _ | apply Upd.there)) (by repeat (first | assumption | exact List.mem_cons_self | exact hmem _ | apply List.mem_cons_of_mem)) hl rfl).mono ?_; rintro _ _ ⟨rfl, hm⟩; refine ⟨_, _, rfl, hm, ?_⟩; clear hm hw w
  refine SL.val (Val.convI rfl Try.underlying3 (by kernel_rfl) (by simp only [InR, lo, hi]; omega)) rfl rfl ?_
  refine SL.val (Val.assign rfl) rfl rfl ?_
  refine SL.nil (SE.seq ?_)
  refine SC.block ?_
  refine SC.loop (ι := Rd × List Ent × Nat × Bool × Value) (fun z => [(0, .pointer (some ⟨p, 0, none⟩)), (4, z.2.2.2.2), (5, .bool z.2.2.2.1), (6, .int .i64 (z.2.2.1 : Nat))]) (fun z w' => (z.2.1.length + z.2.2.1 = s.num 2 ∧ z.1.l.length ≤ s.l.length ∧ z.1.rents z.2.2.1 z.2.1 z.2.2.2.1 = (s.fixed 2).rents (s.num 2) [] true) ∧ Mem S (ownE z.2.2.2.2 z.2.1 :: rep (rdI 188 p z.1)) (bytesD z.1.v z.1.l :: ρ) w') (fun z => z.2.2.1) (s.fixed 2, [], s.num 2, true, .slice none 0 0) (by exact ⟨rfl, rfl, rfl, rfl, trivial⟩) (fun w' hw' => ⟨⟨by simp, s.fixed_length 2, rfl⟩, hw'⟩) ?_
  intro z
  refine SC.facts ?_
  rintro ⟨f2, f3, f4⟩
  have n3 := (z.1.row 1048576).num_lt (n := 1) (k := 1) (Nat.le_refl _)
  have n4 : (z.1.rowOut 1048576).length ≤ z.1.l.length := z.1.rowOut_length _
  refine SC.seq ?_
  refine SC.seq (SC.region ?_)
  refine SL.val (Val.move rfl) rfl rfl ?_
  refine SL.val (Val.gtI rfl rfl) rfl rfl ?_
  refine SL.val (Val.move rfl) rfl rfl ?_
  refine SL.bothP (t := 16) rfl ?_ ?_
  rotate_left
  · intro hc16
    iterate 5 refine SL.skip rfl rfl ?_
    refine SL.val (Val.pickF rfl rfl) rfl rfl ?_
    refine SL.nil (SE.seq ?_)
    refine SC.condF rfl ?_
    refine SC.exit ?_
    refine SE.then_ (by intro h; cases h) ?_
    refine SE.then_ (by intro h; cases h) ?_
    refine SE.exit ?_
    refine SE.seq ?_
    refine SC.seq (SC.region ?_)
    refine SL.val (Val.move rfl) rfl rfl ?_
    refine SL.val (Val.move rfl) rfl rfl ?_
    refine SL.val (Val.assign rfl) rfl rfl ?_
    refine SL.val (Val.assign rfl) rfl rfl ?_
    refine SL.nil (SE.seq ?_)
    refine SC.ret ?_
    refine SE.ret2 rfl rfl rfl ?_
    intro w' hw'
    have e0 : (s.fixed 2).rents (s.num 2) [] true = (z.2.1, z.2.2.2.1, z.1) := by
      rw [← f4]
      first
        | (rw [show z.2.2.1 = 0 by omega]; rfl)
        | exact rents_stop hc22 _
    rw [e0]
    exact ⟨_, rfl, hw'⟩
  intro hc16
  refine SL.val (Val.move rfl) rfl rfl ?_
  refine SL.val (Val.nilCheck rfl) rfl rfl ?_
  refine SL.val (Val.fieldAddr tabOk rfl rfl rfl rfl rfl) rfl rfl ?_
  first
    | refine SL.val (Val.load1 tabOk rfl rfl (by repeat (first | assumption | exact List.mem_cons_self | exact hmem _ | apply List.mem_cons_of_mem)) (by rfl)) rfl rfl ?_
    | refine SL.val (Val.load1C tabOk rfl rfl (by assumption)) rfl rfl ?_
  refine SL.val (Val.eqI rfl rfl) rfl rfl ?_
  refine SL.val (Val.pickT rfl rfl) rfl rfl ?_
  refine SL.nil (SE.seq ?_)
  refine SC.condP rfl ?_ ?_
  rotate_left
  · intro hc22
    refine SC.exit ?_
    refine SE.then_ (by intro h; cases h) ?_
    refine SE.then_ (by intro h; cases h) ?_
    refine SE.exit ?_
    refine SE.seq ?_
    refine SC.seq (SC.region ?_)
    refine SL.val (Val.move rfl) rfl rfl ?_
    refine SL.val (Val.move rfl) rfl rfl ?_
    refine SL.val (Val.assign rfl) rfl rfl ?_
    refine SL.val (Val.assign rfl) rfl rfl ?_
    refine SL.nil (SE.seq ?_)
    refine SC.ret ?_
    refine SE.ret2 rfl rfl rfl ?_
    intro w' hw'
    have e0 : (s.fixed 2).rents (s.num 2) [] true = (z.2.1, z.2.2.2.1, z.1) := by
      rw [← f4]
      first
        | (rw [show z.2.2.1 = 0 by omega]; rfl)
        | exact rents_stop hc22 _
    rw [e0]
    exact ⟨_, rfl, hw'⟩
  intro hc22
  have hc16b := hc22
  refine SC.skip ?_
  refine SE.seq ?_
  refine SC.seq ?_
  refine SC.block ?_
  refine SC.seq (SC.region ?_)
  refine SL.val (Val.move rfl) rfl rfl ?_
  refine SL.call (by kernel_rfl) rfl rfl rfl ?_
  intro w hw
  refine (rrow_c (s := z.1) (most := 1048576) hw (by repeat (first | assumption | exact Upd.here | exact hrep _ _ | apply Upd.there)) (by repeat (first | assumption | exact List.mem_cons_self | exact hmem _ | apply List.mem_cons_of_mem)) (by omega) (by omega)).mono ?_; rintro _ _ ⟨rv, rfl, hm⟩; obtain ⟨Arow, crow, hrv, _⟩ := (hm.data List.mem_cons_self).shape; refine ⟨_, _, rfl, hm, ?_⟩; clear hm hw w
  refine SL.val (Val.assign rfl) rfl rfl ?_
  refine SL.nil (SE.seq ?_)
  refine SC.seq (SC.region ?_)
  refine SL.val (Val.move rfl) rfl rfl ?_
  refine SL.call (by kernel_rfl) rfl rfl rfl ?_
  intro w hw
  refine (rnumber_c (s := (z.1.row 1048576)) (n := 1) hw (by repeat (first | assumption | exact Upd.here | exact hrep _ _ | apply Upd.there)) (by repeat (first | assumption | exact List.mem_cons_self | exact hmem _ | apply List.mem_cons_of_mem)) (by have := z.1.row_length 1048576; omega) rfl).mono ?_; rintro _ _ ⟨rfl, hm⟩; have h1 := (⟨rv, (z.1.rowOut 1048576), 0⟩ : Rd).fixed_length 1; have h2 := ((⟨rv, (z.1.rowOut 1048576), 0⟩ : Rd).fixed 1).fixed_length 8; have h3 : ((⟨rv, (z.1.rowOut 1048576), 0⟩ : Rd).c3).l.length ≤ (((⟨rv, (z.1.rowOut 1048576), 0⟩ : Rd).fixed 1).fixed 8).l.length := (((⟨rv, (z.1.rowOut 1048576), 0⟩ : Rd).fixed 1).fixed 8).fixed_length 1; have h4 : ((⟨rv, (z.1.rowOut 1048576), 0⟩ : Rd).c4 1048576).l.length ≤ ((⟨rv, (z.1.rowOut 1048576), 0⟩ : Rd).c3).l.length := ((⟨rv, (z.1.rowOut 1048576), 0⟩ : Rd).c3).row_length _; have h5 := ((⟨rv, (z.1.rowOut 1048576), 0⟩ : Rd).c4 1048576).fixed_length 8; have h6 : ((⟨rv, (z.1.rowOut 1048576), 0⟩ : Rd).c6 1048576).l.length ≤ (((⟨rv, (z.1.rowOut 1048576), 0⟩ : Rd).c4 1048576).fixed 8).l.length := (((⟨rv, (z.1.rowOut 1048576), 0⟩ : Rd).c4 1048576).fixed 8).fixed_length 8; have n1 := (⟨rv, (z.1.rowOut 1048576), 0⟩ : Rd).num_lt (n := 1) (k := 1) (Nat.le_refl _); have n2 := (((⟨rv, (z.1.rowOut 1048576), 0⟩ : Rd).fixed 1).fixed 8).num_lt (n := 1) (k := 1) (Nat.le_refl _); dsimp only at h1; refine ⟨_, _, rfl, hm, ?_⟩; clear hm hw w
  refine SL.val (Val.convI rfl Try.underlying148 (by kernel_rfl) (by simp only [InR, lo, hi]; omega)) rfl rfl ?_
  refine SL.val (Val.assign rfl) rfl rfl ?_
  refine SL.nil (SE.seq ?_)
  refine SC.seq (SC.region ?_)
  refine SL.val (Val.move rfl) rfl rfl ?_
  refine SL.val (Val.buildS (L := [rv, .int .i64 0]) tabOk rfl rfl rfl (by rw [hrv]; rfl)) rfl rfl ?_
  refine SL.eff (Eff.boxA rfl) rfl rfl ?_
  rintro _ _ ⟨b32, rfl, rfl⟩
  refine SL.val (Val.assign rfl) rfl rfl ?_
  refine SL.nil (SE.seq ?_)
  refine SC.cut (ι := Nat) (fun bb => [(0, .pointer (some ⟨p, 0, none⟩)), (4, z.2.2.2.2), (5, .bool z.2.2.2.1), (6, .int .i64 (z.2.2.1 : Nat)), (8, .int .u32 ((z.1.row 1048576).num 1 : Nat)), (9, .pointer (some ⟨b32, 0, none⟩)), (10, .pointer (some ⟨bb, 0, none⟩))]) (fun bb => Mem S (.blk bb (row 147 ((⟨rv, (z.1.rowOut 1048576), 0⟩ : Rd).core 1048576).cells) :: rdI 188 b32 ((⟨rv, (z.1.rowOut 1048576), 0⟩ : Rd).coreEnd 1048576) :: ownE z.2.2.2.2 z.2.1 :: rep (rdI 188 p ((z.1.row 1048576).fixed 1))) (bytesD ((⟨rv, (z.1.rowOut 1048576), 0⟩ : Rd).coreEnd 1048576).v ((⟨rv, (z.1.rowOut 1048576), 0⟩ : Rd).coreEnd 1048576).l :: bytesD ((z.1.row 1048576).fixed 1).v ((z.1.row 1048576).fixed 1).l :: ρ)) ?_ ?_
  · skip
    refine SC.draw (Mem S [] []) (.q 0 (.q 3 (.q 6 (.q 9 (.q 12 (.q 15 (.q 18 (.two 1 22 (.q 2 (.two 4 22 (.q 5 (.two 7 22 (.q 8 (.two 10 22 (.q 11 (.two 13 22 (.q 14 (.two 16 22 (.q 17 (.two 19 22 (.q 20 (.q 21 (.e 22 (.e 23 .nil)))) (.e 19 (.q 20 (.q 21 (.e 23 .nil)))))) (.e 16 (.q 17 (.e 19 (.q 20 (.q 21 (.e 23 .nil)))))))) (.e 13 (.q 14 (.e 16 (.q 17 (.e 19 (.q 20 (.q 21 (.e 23 .nil)))))))))) (.e 10 (.q 11 (.e 13 (.q 14 (.e 16 (.q 17 (.e 19 (.q 20 (.q 21 (.e 23 .nil)))))))))))) (.e 7 (.q 8 (.e 10 (.q 11 (.e 13 (.q 14 (.e 16 (.q 17 (.e 19 (.q 20 (.q 21 (.e 23 .nil)))))))))))))) (.e 4 (.q 5 (.e 7 (.q 8 (.e 10 (.q 11 (.e 13 (.q 14 (.e 16 (.q 17 (.e 19 (.q 20 (.q 21 (.e 23 .nil)))))))))))))))) (.e 1 (.q 2 (.e 4 (.q 5 (.e 7 (.q 8 (.e 10 (.q 11 (.e 13 (.q 14 (.e 16 (.q 17 (.e 19 (.q 20 (.q 21 (.e 23 .nil)))))))))))))))))))))))) (by kernel_rfl) (by kernel_rfl) (fun _ h => (h.sub (fun _ h => h) (List.nil_sublist _)).less (by repeat (first | exact (fun _ h => (List.not_mem_nil h).elim) | refine List.forall_mem_cons.2 ⟨(by repeat (first | assumption | exact List.mem_cons_self | exact hmem _ | apply List.mem_cons_of_mem)), ?_⟩))) (fun _ h => h.drew) ?_
    refine SX.val rfl (Val.move rfl) rfl rfl ?_
    refine SX.val rfl (Val.move rfl) rfl rfl ?_
    refine SX.val rfl (Val.move rfl) rfl rfl ?_
    refine SX.val rfl (Val.move rfl) rfl rfl ?_
    refine SX.val rfl (Val.move rfl) rfl rfl ?_
    refine SX.val rfl (Val.move rfl) rfl rfl ?_
    refine SX.val rfl (Val.move rfl) rfl rfl ?_
    refine SX.two ?_ ?_
    · skip
      refine SX.call rfl (by kernel_rfl) rfl rfl rfl ?_
      intro w hw
      refine (rnumber_c (s := (⟨rv, (z.1.rowOut 1048576), 0⟩ : Rd)) (n := 1) hw (by repeat (first | assumption | exact Upd.here | exact hrep _ _ | apply Upd.there)) (by repeat (first | assumption | exact List.mem_cons_self | exact hmem _ | apply List.mem_cons_of_mem)) (by (try dsimp only); omega) rfl).mono ?_; rintro _ _ ⟨rfl, hm⟩; refine ⟨_, _, rfl, hm, _, fun _ h => h, fun _ h => (h.sub (fun _ h => h) (List.nil_sublist _)).less (by repeat (first | exact (fun _ h => (List.not_mem_nil h).elim) | refine List.forall_mem_cons.2 ⟨(by repeat (first | assumption | exact List.mem_cons_self | exact hmem _ | apply List.mem_cons_of_mem)), ?_⟩)), ?_⟩; clear hm hw w
      refine SX.val rfl (Val.convI rfl Try.underlying3 (by kernel_rfl) (by simp only [InR, lo, hi]; omega)) rfl rfl ?_
      refine SX.two ?_ ?_
      · skip
        refine SX.call rfl (by kernel_rfl) rfl rfl rfl ?_
        intro w hw
        refine (rnumber_c (s := ((⟨rv, (z.1.rowOut 1048576), 0⟩ : Rd).fixed 1)) (n := 8) hw (by repeat (first | assumption | exact Upd.here | exact hrep _ _ | apply Upd.there)) (by repeat (first | assumption | exact List.mem_cons_self | exact hmem _ | apply List.mem_cons_of_mem)) (by (try dsimp only); omega) rfl).mono ?_; rintro _ _ ⟨rfl, hm⟩; refine ⟨_, _, rfl, hm, _, fun _ h => h, fun _ h => (h.sub (fun _ h => h) (List.nil_sublist _)).less (by repeat (first | exact (fun _ h => (List.not_mem_nil h).elim) | refine List.forall_mem_cons.2 ⟨(by repeat (first | assumption | exact List.mem_cons_self | exact hmem _ | apply List.mem_cons_of_mem)), ?_⟩)), ?_⟩; clear hm hw w
        refine SX.val rfl (Val.convW rfl Try.underlying2 (by kernel_rfl)) rfl rfl ?_
        refine SX.two ?_ ?_
        · skip
          refine SX.call rfl (by kernel_rfl) rfl rfl rfl ?_
          intro w hw
          refine (rnumber_c (s := (((⟨rv, (z.1.rowOut 1048576), 0⟩ : Rd).fixed 1).fixed 8)) (n := 1) hw (by repeat (first | assumption | exact Upd.here | exact hrep _ _ | apply Upd.there)) (by repeat (first | assumption | exact List.mem_cons_self | exact hmem _ | apply List.mem_cons_of_mem)) (by (try dsimp only); omega) rfl).mono ?_; rintro _ _ ⟨rfl, hm⟩; refine ⟨_, _, rfl, hm, _, fun _ h => h, fun _ h => (h.sub (fun _ h => h) (List.nil_sublist _)).less (by repeat (first | exact (fun _ h => (List.not_mem_nil h).elim) | refine List.forall_mem_cons.2 ⟨(by repeat (first | assumption | exact List.mem_cons_self | exact hmem _ | apply List.mem_cons_of_mem)), ?_⟩)), ?_⟩; clear hm hw w
          refine SX.val rfl (Val.convI rfl Try.underlying3 (by kernel_rfl) (by simp only [InR, lo, hi]; omega)) rfl rfl ?_
          refine SX.two ?_ ?_
          · skip
            refine SX.call rfl (by kernel_rfl) rfl rfl rfl ?_
            intro w hw
            refine (rrow_c (s := ((⟨rv, (z.1.rowOut 1048576), 0⟩ : Rd).c3)) (most := 1048576) hw (by repeat (first | assumption | exact Upd.here | exact hrep _ _ | apply Upd.there)) (by repeat (first | assumption | exact List.mem_cons_self | exact hmem _ | apply List.mem_cons_of_mem)) (by omega) (by omega)).mono ?_; rintro _ _ ⟨r, rfl, hm⟩; refine ⟨_, _, rfl, hm, Mem S [] (bytesD r (((⟨rv, (z.1.rowOut 1048576), 0⟩ : Rd).c3).rowOut 1048576) :: _), fun _ h => h.less (fun x hx => List.mem_cons_of_mem _ hx), fun _ h => (h.sub (fun _ h => h) (List.nil_sublist _)).less (by repeat (first | exact (fun _ h => (List.not_mem_nil h).elim) | refine List.forall_mem_cons.2 ⟨(by repeat (first | assumption | exact List.mem_cons_self | exact hmem _ | apply List.mem_cons_of_mem)), ?_⟩)), ?_⟩; clear hm hw w
            refine SX.val rfl (Val.strOf rfl (by repeat (first | assumption | exact List.mem_cons_self | exact hmem _ | apply List.mem_cons_of_mem))) rfl rfl ?_
            refine SX.two ?_ ?_
            · skip
              refine SX.call rfl (by kernel_rfl) rfl rfl rfl ?_
              intro w hw
              refine (rnumber_c (s := ((⟨rv, (z.1.rowOut 1048576), 0⟩ : Rd).c4 1048576)) (n := 8) hw (by repeat (first | assumption | exact Upd.here | exact hrep _ _ | apply Upd.there)) (by repeat (first | assumption | exact List.mem_cons_self | exact hmem _ | apply List.mem_cons_of_mem)) (by (try dsimp only); omega) rfl).mono ?_; rintro _ _ ⟨rfl, hm⟩; refine ⟨_, _, rfl, hm, _, fun _ h => h, fun _ h => (h.sub (fun _ h => h) (List.nil_sublist _)).less (by repeat (first | exact (fun _ h => (List.not_mem_nil h).elim) | refine List.forall_mem_cons.2 ⟨(by repeat (first | assumption | exact List.mem_cons_self | exact hmem _ | apply List.mem_cons_of_mem)), ?_⟩)), ?_⟩; clear hm hw w
              refine SX.val rfl (Val.convW rfl Try.underlying2 (by kernel_rfl)) rfl rfl ?_
              refine SX.two ?_ ?_
              · skip
                refine SX.call rfl (by kernel_rfl) rfl rfl rfl ?_
                intro w hw
                refine (rnumber_c (s := (((⟨rv, (z.1.rowOut 1048576), 0⟩ : Rd).c4 1048576).fixed 8)) (n := 8) hw (by repeat (first | assumption | exact Upd.here | exact hrep _ _ | apply Upd.there)) (by repeat (first | assumption | exact List.mem_cons_self | exact hmem _ | apply List.mem_cons_of_mem)) (by (try dsimp only); omega) rfl).mono ?_; rintro _ _ ⟨rfl, hm⟩; refine ⟨_, _, rfl, hm, _, fun _ h => h, fun _ h => (h.sub (fun _ h => h) (List.nil_sublist _)).less (by repeat (first | exact (fun _ h => (List.not_mem_nil h).elim) | refine List.forall_mem_cons.2 ⟨(by repeat (first | assumption | exact List.mem_cons_self | exact hmem _ | apply List.mem_cons_of_mem)), ?_⟩)), ?_⟩; clear hm hw w
                refine SX.val rfl (Val.convW rfl Try.underlying2 (by kernel_rfl)) rfl rfl ?_
                refine SX.two ?_ ?_
                · skip
                  refine SX.call rfl (by kernel_rfl) rfl rfl rfl ?_
                  intro w hw
                  refine (rrow_c (s := ((⟨rv, (z.1.rowOut 1048576), 0⟩ : Rd).c6 1048576)) (most := 1048576) hw (by repeat (first | assumption | exact Upd.here | exact hrep _ _ | apply Upd.there)) (by repeat (first | assumption | exact List.mem_cons_self | exact hmem _ | apply List.mem_cons_of_mem)) (by omega) (by omega)).mono ?_; rintro _ _ ⟨r, rfl, hm⟩; refine ⟨_, _, rfl, hm, Mem S [] (bytesD r (((⟨rv, (z.1.rowOut 1048576), 0⟩ : Rd).c6 1048576).rowOut 1048576) :: _), fun _ h => h.less (fun x hx => List.mem_cons_of_mem _ hx), fun _ h => (h.sub (fun _ h => h) (List.nil_sublist _)).less (by repeat (first | exact (fun _ h => (List.not_mem_nil h).elim) | refine List.forall_mem_cons.2 ⟨(by repeat (first | assumption | exact List.mem_cons_self | exact hmem _ | apply List.mem_cons_of_mem)), ?_⟩)), ?_⟩; clear hm hw w
                  refine SX.val rfl (Val.strOf rfl (by repeat (first | assumption | exact List.mem_cons_self | exact hmem _ | apply List.mem_cons_of_mem))) rfl rfl ?_
                  refine SX.val rfl (Val.buildS (L := ((⟨rv, (z.1.rowOut 1048576), 0⟩ : Rd).core 1048576).cells) tabOk rfl rfl rfl (by rfl)) rfl rfl ?_
                  refine SX.eff rfl (Eff.alloc tabOk rfl) rfl rfl ?_
                  rintro _ _ ⟨b10, rfl, rfl⟩
                  refine ⟨_, fun _ h => h, fun _ h => (h.sub (fun _ h => h) (List.nil_sublist _)).less (by repeat (first | exact (fun _ h => (List.not_mem_nil h).elim) | refine List.forall_mem_cons.2 ⟨(by repeat (first | assumption | exact List.mem_cons_self | exact hmem _ | apply List.mem_cons_of_mem)), ?_⟩)), ?_⟩
                  refine SX.eff rfl (Eff.storeA (L' := ((⟨rv, (z.1.rowOut 1048576), 0⟩ : Rd).core 1048576).cells) (vs := ((⟨rv, (z.1.rowOut 1048576), 0⟩ : Rd).core 1048576).cells) tabOk rfl rfl rfl (by repeat (first | assumption | exact Upd.here | exact hrep _ _ | apply Upd.there)) (by rfl) (Nat.le_of_ble_eq_true (by rfl)) (Core.one _) (by rfl)) rfl rfl ?_
                  rintro _ _ ⟨rfl, rfl⟩
                  refine ⟨_, fun _ h => h, fun _ h => (h.sub (fun _ h => h) (List.nil_sublist _)).less (by repeat (first | exact (fun _ h => (List.not_mem_nil h).elim) | refine List.forall_mem_cons.2 ⟨(by repeat (first | assumption | exact List.mem_cons_self | exact hmem _ | apply List.mem_cons_of_mem)), ?_⟩)), ?_⟩
                  refine SX.nil ?_
                  exact SE.meet b10 (by exact ⟨rfl, rfl, rfl, rfl, rfl, rfl, rfl, trivial⟩) (fun _ h => by
                    first
                      | exact Mem.less h (fun x hx => by rcases List.mem_cons.1 hx with rfl | hx; exact List.mem_cons_of_mem _ List.mem_cons_self; rcases List.mem_cons.1 hx with rfl | hx; (repeat (first | exact List.mem_cons_self | apply List.mem_cons_of_mem)); (repeat (first | exact hx | apply List.mem_cons_of_mem)))
                      | exact Mem.less (Mem.swap h) (fun x hx => by rcases List.mem_cons.1 hx with rfl | hx; exact List.mem_cons_of_mem _ List.mem_cons_self; rcases List.mem_cons.1 hx with rfl | hx; (repeat (first | exact List.mem_cons_self | apply List.mem_cons_of_mem)); (repeat (first | exact hx | apply List.mem_cons_of_mem))))
                · skip
                  refine SX.eff rfl (Eff.alloc tabOk rfl) rfl rfl ?_
                  rintro _ _ ⟨b10, rfl, rfl⟩
                  refine ⟨_, fun _ h => h, fun _ h => (h.sub (fun _ h => h) (List.nil_sublist _)).less (by repeat (first | exact (fun _ h => (List.not_mem_nil h).elim) | refine List.forall_mem_cons.2 ⟨(by repeat (first | assumption | exact List.mem_cons_self | exact hmem _ | apply List.mem_cons_of_mem)), ?_⟩)), ?_⟩
                  refine SX.call rfl (by kernel_rfl) rfl rfl rfl ?_
                  intro w hw
                  refine (rrow_c (s := ((⟨rv, (z.1.rowOut 1048576), 0⟩ : Rd).c6 1048576)) (most := 1048576) hw (by repeat (first | assumption | exact Upd.here | exact hrep _ _ | apply Upd.there)) (by repeat (first | assumption | exact List.mem_cons_self | exact hmem _ | apply List.mem_cons_of_mem)) (by omega) (by omega)).mono ?_; rintro _ _ ⟨r, rfl, hm⟩; refine ⟨_, _, rfl, hm, Mem S [] (bytesD r (((⟨rv, (z.1.rowOut 1048576), 0⟩ : Rd).c6 1048576).rowOut 1048576) :: _), fun _ h => h.less (fun x hx => List.mem_cons_of_mem _ hx), fun _ h => (h.sub (fun _ h => h) (List.nil_sublist _)).less (by repeat (first | exact (fun _ h => (List.not_mem_nil h).elim) | refine List.forall_mem_cons.2 ⟨(by repeat (first | assumption | exact List.mem_cons_self | exact hmem _ | apply List.mem_cons_of_mem)), ?_⟩)), ?_⟩; clear hm hw w
                  refine SX.val rfl (Val.strOf rfl (by repeat (first | assumption | exact List.mem_cons_self | exact hmem _ | apply List.mem_cons_of_mem))) rfl rfl ?_
                  refine SX.val rfl (Val.buildS (L := ((⟨rv, (z.1.rowOut 1048576), 0⟩ : Rd).core 1048576).cells) tabOk rfl rfl rfl (by rfl)) rfl rfl ?_
                  refine SX.eff rfl (Eff.storeA (L' := ((⟨rv, (z.1.rowOut 1048576), 0⟩ : Rd).core 1048576).cells) (vs := ((⟨rv, (z.1.rowOut 1048576), 0⟩ : Rd).core 1048576).cells) tabOk rfl rfl rfl (by repeat (first | assumption | exact Upd.here | exact hrep _ _ | apply Upd.there)) (by rfl) (Nat.le_of_ble_eq_true (by rfl)) (Core.one _) (by rfl)) rfl rfl ?_
                  rintro _ _ ⟨rfl, rfl⟩
                  refine ⟨_, fun _ h => h, fun _ h => (h.sub (fun _ h => h) (List.nil_sublist _)).less (by repeat (first | exact (fun _ h => (List.not_mem_nil h).elim) | refine List.forall_mem_cons.2 ⟨(by repeat (first | assumption | exact List.mem_cons_self | exact hmem _ | apply List.mem_cons_of_mem)), ?_⟩)), ?_⟩
                  refine SX.nil ?_
                  exact SE.meet b10 (by exact ⟨rfl, rfl, rfl, rfl, rfl, rfl, rfl, trivial⟩) (fun _ h => by
                    first
                      | exact Mem.less h (fun x hx => by rcases List.mem_cons.1 hx with rfl | hx; exact List.mem_cons_of_mem _ List.mem_cons_self; rcases List.mem_cons.1 hx with rfl | hx; (repeat (first | exact List.mem_cons_self | apply List.mem_cons_of_mem)); (repeat (first | exact hx | apply List.mem_cons_of_mem)))
                      | exact Mem.less (Mem.swap h) (fun x hx => by rcases List.mem_cons.1 hx with rfl | hx; exact List.mem_cons_of_mem _ List.mem_cons_self; rcases List.mem_cons.1 hx with rfl | hx; (repeat (first | exact List.mem_cons_self | apply List.mem_cons_of_mem)); (repeat (first | exact hx | apply List.mem_cons_of_mem))))
              · skip
                refine SX.eff rfl (Eff.alloc tabOk rfl) rfl rfl ?_
                rintro _ _ ⟨b10, rfl, rfl⟩
                refine ⟨_, fun _ h => h, fun _ h => (h.sub (fun _ h => h) (List.nil_sublist _)).less (by repeat (first | exact (fun _ h => (List.not_mem_nil h).elim) | refine List.forall_mem_cons.2 ⟨(by repeat (first | assumption | exact List.mem_cons_self | exact hmem _ | apply List.mem_cons_of_mem)), ?_⟩)), ?_⟩
                refine SX.call rfl (by kernel_rfl) rfl rfl rfl ?_
                intro w hw
                refine (rnumber_c (s := (((⟨rv, (z.1.rowOut 1048576), 0⟩ : Rd).c4 1048576).fixed 8)) (n := 8) hw (by repeat (first | assumption | exact Upd.here | exact hrep _ _ | apply Upd.there)) (by repeat (first | assumption | exact List.mem_cons_self | exact hmem _ | apply List.mem_cons_of_mem)) (by (try dsimp only); omega) rfl).mono ?_; rintro _ _ ⟨rfl, hm⟩; refine ⟨_, _, rfl, hm, _, fun _ h => h, fun _ h => (h.sub (fun _ h => h) (List.nil_sublist _)).less (by repeat (first | exact (fun _ h => (List.not_mem_nil h).elim) | refine List.forall_mem_cons.2 ⟨(by repeat (first | assumption | exact List.mem_cons_self | exact hmem _ | apply List.mem_cons_of_mem)), ?_⟩)), ?_⟩; clear hm hw w
                refine SX.val rfl (Val.convW rfl Try.underlying2 (by kernel_rfl)) rfl rfl ?_
                refine SX.call rfl (by kernel_rfl) rfl rfl rfl ?_
                intro w hw
                refine (rrow_c (s := ((⟨rv, (z.1.rowOut 1048576), 0⟩ : Rd).c6 1048576)) (most := 1048576) hw (by repeat (first | assumption | exact Upd.here | exact hrep _ _ | apply Upd.there)) (by repeat (first | assumption | exact List.mem_cons_self | exact hmem _ | apply List.mem_cons_of_mem)) (by omega) (by omega)).mono ?_; rintro _ _ ⟨r, rfl, hm⟩; refine ⟨_, _, rfl, hm, Mem S [] (bytesD r (((⟨rv, (z.1.rowOut 1048576), 0⟩ : Rd).c6 1048576).rowOut 1048576) :: _), fun _ h => h.less (fun x hx => List.mem_cons_of_mem _ hx), fun _ h => (h.sub (fun _ h => h) (List.nil_sublist _)).less (by repeat (first | exact (fun _ h => (List.not_mem_nil h).elim) | refine List.forall_mem_cons.2 ⟨(by repeat (first | assumption | exact List.mem_cons_self | exact hmem _ | apply List.mem_cons_of_mem)), ?_⟩)), ?_⟩; clear hm hw w
                refine SX.val rfl (Val.strOf rfl (by repeat (first | assumption | exact List.mem_cons_self | exact hmem _ | apply List.mem_cons_of_mem))) rfl rfl ?_
                refine SX.val rfl (Val.buildS (L := ((⟨rv, (z.1.rowOut 1048576), 0⟩ : Rd).core 1048576).cells) tabOk rfl rfl rfl (by rfl)) rfl rfl ?_
                refine SX.eff rfl (Eff.storeA (L' := ((⟨rv, (z.1.rowOut 1048576), 0⟩ : Rd).core 1048576).cells) (vs := ((⟨rv, (z.1.rowOut 1048576), 0⟩ : Rd).core 1048576).cells) tabOk rfl rfl rfl (by repeat (first | assumption | exact Upd.here | exact hrep _ _ | apply Upd.there)) (by rfl) (Nat.le_of_ble_eq_true (by rfl)) (Core.one _) (by rfl)) rfl rfl ?_
                rintro _ _ ⟨rfl, rfl⟩
                refine ⟨_, fun _ h => h, fun _ h => (h.sub (fun _ h => h) (List.nil_sublist _)).less (by repeat (first | exact (fun _ h => (List.not_mem_nil h).elim) | refine List.forall_mem_cons.2 ⟨(by repeat (first | assumption | exact List.mem_cons_self | exact hmem _ | apply List.mem_cons_of_mem)), ?_⟩)), ?_⟩
                refine SX.nil ?_
                exact SE.meet b10 (by exact ⟨rfl, rfl, rfl, rfl, rfl, rfl, rfl, trivial⟩) (fun _ h => by
                  first
                    | exact Mem.less h (fun x hx => by rcases List.mem_cons.1 hx with rfl | hx; exact List.mem_cons_of_mem _ List.mem_cons_self; rcases List.mem_cons.1 hx with rfl | hx; (repeat (first | exact List.mem_cons_self | apply List.mem_cons_of_mem)); (repeat (first | exact hx | apply List.mem_cons_of_mem)))
                    | exact Mem.less (Mem.swap h) (fun x hx => by rcases List.mem_cons.1 hx with rfl | hx; exact List.mem_cons_of_mem _ List.mem_cons_self; rcases List.mem_cons.1 hx with rfl | hx; (repeat (first | exact List.mem_cons_self | apply List.mem_cons_of_mem)); (repeat (first | exact hx | apply List.mem_cons_of_mem))))
            · skip
              refine SX.eff rfl (Eff.alloc tabOk rfl) rfl rfl ?_
              rintro _ _ ⟨b10, rfl, rfl⟩
              refine ⟨_, fun _ h => h, fun _ h => (h.sub (fun _ h => h) (List.nil_sublist _)).less (by repeat (first | exact (fun _ h => (List.not_mem_nil h).elim) | refine List.forall_mem_cons.2 ⟨(by repeat (first | assumption | exact List.mem_cons_self | exact hmem _ | apply List.mem_cons_of_mem)), ?_⟩)), ?_⟩
              refine SX.call rfl (by kernel_rfl) rfl rfl rfl ?_
              intro w hw
              refine (rnumber_c (s := ((⟨rv, (z.1.rowOut 1048576), 0⟩ : Rd).c4 1048576)) (n := 8) hw (by repeat (first | assumption | exact Upd.here | exact hrep _ _ | apply Upd.there)) (by repeat (first | assumption | exact List.mem_cons_self | exact hmem _ | apply List.mem_cons_of_mem)) (by (try dsimp only); omega) rfl).mono ?_; rintro _ _ ⟨rfl, hm⟩; refine ⟨_, _, rfl, hm, _, fun _ h => h, fun _ h => (h.sub (fun _ h => h) (List.nil_sublist _)).less (by repeat (first | exact (fun _ h => (List.not_mem_nil h).elim) | refine List.forall_mem_cons.2 ⟨(by repeat (first | assumption | exact List.mem_cons_self | exact hmem _ | apply List.mem_cons_of_mem)), ?_⟩)), ?_⟩; clear hm hw w
              refine SX.val rfl (Val.convW rfl Try.underlying2 (by kernel_rfl)) rfl rfl ?_
              refine SX.call rfl (by kernel_rfl) rfl rfl rfl ?_
              intro w hw
              refine (rnumber_c (s := (((⟨rv, (z.1.rowOut 1048576), 0⟩ : Rd).c4 1048576).fixed 8)) (n := 8) hw (by repeat (first | assumption | exact Upd.here | exact hrep _ _ | apply Upd.there)) (by repeat (first | assumption | exact List.mem_cons_self | exact hmem _ | apply List.mem_cons_of_mem)) (by (try dsimp only); omega) rfl).mono ?_; rintro _ _ ⟨rfl, hm⟩; refine ⟨_, _, rfl, hm, _, fun _ h => h, fun _ h => (h.sub (fun _ h => h) (List.nil_sublist _)).less (by repeat (first | exact (fun _ h => (List.not_mem_nil h).elim) | refine List.forall_mem_cons.2 ⟨(by repeat (first | assumption | exact List.mem_cons_self | exact hmem _ | apply List.mem_cons_of_mem)), ?_⟩)), ?_⟩; clear hm hw w
              refine SX.val rfl (Val.convW rfl Try.underlying2 (by kernel_rfl)) rfl rfl ?_
              refine SX.call rfl (by kernel_rfl) rfl rfl rfl ?_
              intro w hw
              refine (rrow_c (s := ((⟨rv, (z.1.rowOut 1048576), 0⟩ : Rd).c6 1048576)) (most := 1048576) hw (by repeat (first | assumption | exact Upd.here | exact hrep _ _ | apply Upd.there)) (by repeat (first | assumption | exact List.mem_cons_self | exact hmem _ | apply List.mem_cons_of_mem)) (by omega) (by omega)).mono ?_; rintro _ _ ⟨r, rfl, hm⟩; refine ⟨_, _, rfl, hm, Mem S [] (bytesD r (((⟨rv, (z.1.rowOut 1048576), 0⟩ : Rd).c6 1048576).rowOut 1048576) :: _), fun _ h => h.less (fun x hx => List.mem_cons_of_mem _ hx), fun _ h => (h.sub (fun _ h => h) (List.nil_sublist _)).less (by repeat (first | exact (fun _ h => (List.not_mem_nil h).elim) | refine List.forall_mem_cons.2 ⟨(by repeat (first | assumption | exact List.mem_cons_self | exact hmem _ | apply List.mem_cons_of_mem)), ?_⟩)), ?_⟩; clear hm hw w
              refine SX.val rfl (Val.strOf rfl (by repeat (first | assumption | exact List.mem_cons_self | exact hmem _ | apply List.mem_cons_of_mem))) rfl rfl ?_
              refine SX.val rfl (Val.buildS (L := ((⟨rv, (z.1.rowOut 1048576), 0⟩ : Rd).core 1048576).cells) tabOk rfl rfl rfl (by rfl)) rfl rfl ?_
              refine SX.eff rfl (Eff.storeA (L' := ((⟨rv, (z.1.rowOut 1048576), 0⟩ : Rd).core 1048576).cells) (vs := ((⟨rv, (z.1.rowOut 1048576), 0⟩ : Rd).core 1048576).cells) tabOk rfl rfl rfl (by repeat (first | assumption | exact Upd.here | exact hrep _ _ | apply Upd.there)) (by rfl) (Nat.le_of_ble_eq_true (by rfl)) (Core.one _) (by rfl)) rfl rfl ?_
              rintro _ _ ⟨rfl, rfl⟩
              refine ⟨_, fun _ h => h, fun _ h => (h.sub (fun _ h => h) (List.nil_sublist _)).less (by repeat (first | exact (fun _ h => (List.not_mem_nil h).elim) | refine List.forall_mem_cons.2 ⟨(by repeat (first | assumption | exact List.mem_cons_self | exact hmem _ | apply List.mem_cons_of_mem)), ?_⟩)), ?_⟩
              refine SX.nil ?_
              exact SE.meet b10 (by exact ⟨rfl, rfl, rfl, rfl, rfl, rfl, rfl, trivial⟩) (fun _ h => by
                first
                  | exact Mem.less h (fun x hx => by rcases List.mem_cons.1 hx with rfl | hx; exact List.mem_cons_of_mem _ List.mem_cons_self; rcases List.mem_cons.1 hx with rfl | hx; (repeat (first | exact List.mem_cons_self | apply List.mem_cons_of_mem)); (repeat (first | exact hx | apply List.mem_cons_of_mem)))
                  | exact Mem.less (Mem.swap h) (fun x hx => by rcases List.mem_cons.1 hx with rfl | hx; exact List.mem_cons_of_mem _ List.mem_cons_self; rcases List.mem_cons.1 hx with rfl | hx; (repeat (first | exact List.mem_cons_self | apply List.mem_cons_of_mem)); (repeat (first | exact hx | apply List.mem_cons_of_mem))))
          · skip
            refine SX.eff rfl (Eff.alloc tabOk rfl) rfl rfl ?_
            rintro _ _ ⟨b10, rfl, rfl⟩
            refine ⟨_, fun _ h => h, fun _ h => (h.sub (fun _ h => h) (List.nil_sublist _)).less (by repeat (first | exact (fun _ h => (List.not_mem_nil h).elim) | refine List.forall_mem_cons.2 ⟨(by repeat (first | assumption | exact List.mem_cons_self | exact hmem _ | apply List.mem_cons_of_mem)), ?_⟩)), ?_⟩
            refine SX.call rfl (by kernel_rfl) rfl rfl rfl ?_
            intro w hw
            refine (rrow_c (s := ((⟨rv, (z.1.rowOut 1048576), 0⟩ : Rd).c3)) (most := 1048576) hw (by repeat (first | assumption | exact Upd.here | exact hrep _ _ | apply Upd.there)) (by repeat (first | assumption | exact List.mem_cons_self | exact hmem _ | apply List.mem_cons_of_mem)) (by omega) (by omega)).mono ?_; rintro _ _ ⟨r, rfl, hm⟩; refine ⟨_, _, rfl, hm, Mem S [] (bytesD r (((⟨rv, (z.1.rowOut 1048576), 0⟩ : Rd).c3).rowOut 1048576) :: _), fun _ h => h.less (fun x hx => List.mem_cons_of_mem _ hx), fun _ h => (h.sub (fun _ h => h) (List.nil_sublist _)).less (by repeat (first | exact (fun _ h => (List.not_mem_nil h).elim) | refine List.forall_mem_cons.2 ⟨(by repeat (first | assumption | exact List.mem_cons_self | exact hmem _ | apply List.mem_cons_of_mem)), ?_⟩)), ?_⟩; clear hm hw w
            refine SX.val rfl (Val.strOf rfl (by repeat (first | assumption | exact List.mem_cons_self | exact hmem _ | apply List.mem_cons_of_mem))) rfl rfl ?_
            refine SX.call rfl (by kernel_rfl) rfl rfl rfl ?_
            intro w hw
            refine (rnumber_c (s := ((⟨rv, (z.1.rowOut 1048576), 0⟩ : Rd).c4 1048576)) (n := 8) hw (by repeat (first | assumption | exact Upd.here | exact hrep _ _ | apply Upd.there)) (by repeat (first | assumption | exact List.mem_cons_self | exact hmem _ | apply List.mem_cons_of_mem)) (by (try dsimp only); omega) rfl).mono ?_; rintro _ _ ⟨rfl, hm⟩; refine ⟨_, _, rfl, hm, _, fun _ h => h, fun _ h => (h.sub (fun _ h => h) (List.nil_sublist _)).less (by repeat (first | exact (fun _ h => (List.not_mem_nil h).elim) | refine List.forall_mem_cons.2 ⟨(by repeat (first | assumption | exact List.mem_cons_self | exact hmem _ | apply List.mem_cons_of_mem)), ?_⟩)), ?_⟩; clear hm hw w
            refine SX.val rfl (Val.convW rfl Try.underlying2 (by kernel_rfl)) rfl rfl ?_
            refine SX.call rfl (by kernel_rfl) rfl rfl rfl ?_
            intro w hw
            refine (rnumber_c (s := (((⟨rv, (z.1.rowOut 1048576), 0⟩ : Rd).c4 1048576).fixed 8)) (n := 8) hw (by repeat (first | assumption | exact Upd.here | exact hrep _ _ | apply Upd.there)) (by repeat (first | assumption | exact List.mem_cons_self | exact hmem _ | apply List.mem_cons_of_mem)) (by (try dsimp only); omega) rfl).mono ?_; rintro _ _ ⟨rfl, hm⟩; refine ⟨_, _, rfl, hm, _, fun _ h => h, fun _ h => (h.sub (fun _ h => h) (List.nil_sublist _)).less (by repeat (first | exact (fun _ h => (List.not_mem_nil h).elim) | refine List.forall_mem_cons.2 ⟨(by repeat (first | assumption | exact List.mem_cons_self | exact hmem _ | apply List.mem_cons_of_mem)), ?_⟩)), ?_⟩; clear hm hw w
            refine SX.val rfl (Val.convW rfl Try.underlying2 (by kernel_rfl)) rfl rfl ?_
            refine SX.call rfl (by kernel_rfl) rfl rfl rfl ?_
            intro w hw
            refine (rrow_c (s := ((⟨rv, (z.1.rowOut 1048576), 0⟩ : Rd).c6 1048576)) (most := 1048576) hw (by repeat (first | assumption | exact Upd.here | exact hrep _ _ | apply Upd.there)) (by repeat (first | assumption | exact List.mem_cons_self | exact hmem _ | apply List.mem_cons_of_mem)) (by omega) (by omega)).mono ?_; rintro _ _ ⟨r, rfl, hm⟩; refine ⟨_, _, rfl, hm, Mem S [] (bytesD r (((⟨rv, (z.1.rowOut 1048576), 0⟩ : Rd).c6 1048576).rowOut 1048576) :: _), fun _ h => h.less (fun x hx => List.mem_cons_of_mem _ hx), fun _ h => (h.sub (fun _ h => h) (List.nil_sublist _)).less (by repeat (first | exact (fun _ h => (List.not_mem_nil h).elim) | refine List.forall_mem_cons.2 ⟨(by repeat (first | assumption | exact List.mem_cons_self | exact hmem _ | apply List.mem_cons_of_mem)), ?_⟩)), ?_⟩; clear hm hw w
            refine SX.val rfl (Val.strOf rfl (by repeat (first | assumption | exact List.mem_cons_self | exact hmem _ | apply List.mem_cons_of_mem))) rfl rfl ?_
            refine SX.val rfl (Val.buildS (L := ((⟨rv, (z.1.rowOut 1048576), 0⟩ : Rd).core 1048576).cells) tabOk rfl rfl rfl (by rfl)) rfl rfl ?_
            refine SX.eff rfl (Eff.storeA (L' := ((⟨rv, (z.1.rowOut 1048576), 0⟩ : Rd).core 1048576).cells) (vs := ((⟨rv, (z.1.rowOut 1048576), 0⟩ : Rd).core 1048576).cells) tabOk rfl rfl rfl (by repeat (first | assumption | exact Upd.here | exact hrep _ _ | apply Upd.there)) (by rfl) (Nat.le_of_ble_eq_true (by rfl)) (Core.one _) (by rfl)) rfl rfl ?_
            rintro _ _ ⟨rfl, rfl⟩
            refine ⟨_, fun _ h => h, fun _ h => (h.sub (fun _ h => h) (List.nil_sublist _)).less (by repeat (first | exact (fun _ h => (List.not_mem_nil h).elim) | refine List.forall_mem_cons.2 ⟨(by repeat (first | assumption | exact List.mem_cons_self | exact hmem _ | apply List.mem_cons_of_mem)), ?_⟩)), ?_⟩
            refine SX.nil ?_
            exact SE.meet b10 (by exact ⟨rfl, rfl, rfl, rfl, rfl, rfl, rfl, trivial⟩) (fun _ h => by
              first
                | exact Mem.less h (fun x hx => by rcases List.mem_cons.1 hx with rfl | hx; exact List.mem_cons_of_mem _ List.mem_cons_self; rcases List.mem_cons.1 hx with rfl | hx; (repeat (first | exact List.mem_cons_self | apply List.mem_cons_of_mem)); (repeat (first | exact hx | apply List.mem_cons_of_mem)))
                | exact Mem.less (Mem.swap h) (fun x hx => by rcases List.mem_cons.1 hx with rfl | hx; exact List.mem_cons_of_mem _ List.mem_cons_self; rcases List.mem_cons.1 hx with rfl | hx; (repeat (first | exact List.mem_cons_self | apply List.mem_cons_of_mem)); (repeat (first | exact hx | apply List.mem_cons_of_mem))))
        · skip
          refine SX.eff rfl (Eff.alloc tabOk rfl) rfl rfl ?_
          rintro _ _ ⟨b10, rfl, rfl⟩
          refine ⟨_, fun _ h => h, fun _ h => (h.sub (fun _ h => h) (List.nil_sublist _)).less (by repeat (first | exact (fun _ h => (List.not_mem_nil h).elim) | refine List.forall_mem_cons.2 ⟨(by repeat (first | assumption | exact List.mem_cons_self | exact hmem _ | apply List.mem_cons_of_mem)), ?_⟩)), ?_⟩
          refine SX.call rfl (by kernel_rfl) rfl rfl rfl ?_
          intro w hw
          refine (rnumber_c (s := (((⟨rv, (z.1.rowOut 1048576), 0⟩ : Rd).fixed 1).fixed 8)) (n := 1) hw (by repeat (first | assumption | exact Upd.here | exact hrep _ _ | apply Upd.there)) (by repeat (first | assumption | exact List.mem_cons_self | exact hmem _ | apply List.mem_cons_of_mem)) (by (try dsimp only); omega) rfl).mono ?_; rintro _ _ ⟨rfl, hm⟩; refine ⟨_, _, rfl, hm, _, fun _ h => h, fun _ h => (h.sub (fun _ h => h) (List.nil_sublist _)).less (by repeat (first | exact (fun _ h => (List.not_mem_nil h).elim) | refine List.forall_mem_cons.2 ⟨(by repeat (first | assumption | exact List.mem_cons_self | exact hmem _ | apply List.mem_cons_of_mem)), ?_⟩)), ?_⟩; clear hm hw w
          refine SX.val rfl (Val.convI rfl Try.underlying3 (by kernel_rfl) (by simp only [InR, lo, hi]; omega)) rfl rfl ?_
          refine SX.call rfl (by kernel_rfl) rfl rfl rfl ?_
          intro w hw
          refine (rrow_c (s := ((⟨rv, (z.1.rowOut 1048576), 0⟩ : Rd).c3)) (most := 1048576) hw (by repeat (first | assumption | exact Upd.here | exact hrep _ _ | apply Upd.there)) (by repeat (first | assumption | exact List.mem_cons_self | exact hmem _ | apply List.mem_cons_of_mem)) (by omega) (by omega)).mono ?_; rintro _ _ ⟨r, rfl, hm⟩; refine ⟨_, _, rfl, hm, Mem S [] (bytesD r (((⟨rv, (z.1.rowOut 1048576), 0⟩ : Rd).c3).rowOut 1048576) :: _), fun _ h => h.less (fun x hx => List.mem_cons_of_mem _ hx), fun _ h => (h.sub (fun _ h => h) (List.nil_sublist _)).less (by repeat (first | exact (fun _ h => (List.not_mem_nil h).elim) | refine List.forall_mem_cons.2 ⟨(by repeat (first | assumption | exact List.mem_cons_self | exact hmem _ | apply List.mem_cons_of_mem)), ?_⟩)), ?_⟩; clear hm hw w
          refine SX.val rfl (Val.strOf rfl (by repeat (first | assumption | exact List.mem_cons_self | exact hmem _ | apply List.mem_cons_of_mem))) rfl rfl ?_
          refine SX.call rfl (by kernel_rfl) rfl rfl rfl ?_
          intro w hw
          refine (rnumber_c (s := ((⟨rv, (z.1.rowOut 1048576), 0⟩ : Rd).c4 1048576)) (n := 8) hw (by repeat (first | assumption | exact Upd.here | exact hrep _ _ | apply Upd.there)) (by repeat (first | assumption | exact List.mem_cons_self | exact hmem _ | apply List.mem_cons_of_mem)) (by (try dsimp only); omega) rfl).mono ?_; rintro _ _ ⟨rfl, hm⟩; refine ⟨_, _, rfl, hm, _, fun _ h => h, fun _ h => (h.sub (fun _ h => h) (List.nil_sublist _)).less (by repeat (first | exact (fun _ h => (List.not_mem_nil h).elim) | refine List.forall_mem_cons.2 ⟨(by repeat (first | assumption | exact List.mem_cons_self | exact hmem _ | apply List.mem_cons_of_mem)), ?_⟩)), ?_⟩; clear hm hw w
          refine SX.val rfl (Val.convW rfl Try.underlying2 (by kernel_rfl)) rfl rfl ?_
          refine SX.call rfl (by kernel_rfl) rfl rfl rfl ?_
          intro w hw
          refine (rnumber_c (s := (((⟨rv, (z.1.rowOut 1048576), 0⟩ : Rd).c4 1048576).fixed 8)) (n := 8) hw (by repeat (first | assumption | exact Upd.here | exact hrep _ _ | apply Upd.there)) (by repeat (first | assumption | exact List.mem_cons_self | exact hmem _ | apply List.mem_cons_of_mem)) (by (try dsimp only); omega) rfl).mono ?_; rintro _ _ ⟨rfl, hm⟩; refine ⟨_, _, rfl, hm, _, fun _ h => h, fun _ h => (h.sub (fun _ h => h) (List.nil_sublist _)).less (by repeat (first | exact (fun _ h => (List.not_mem_nil h).elim) | refine List.forall_mem_cons.2 ⟨(by repeat (first | assumption | exact List.mem_cons_self | exact hmem _ | apply List.mem_cons_of_mem)), ?_⟩)), ?_⟩; clear hm hw w
          refine SX.val rfl (Val.convW rfl Try.underlying2 (by kernel_rfl)) rfl rfl ?_
          refine SX.call rfl (by kernel_rfl) rfl rfl rfl ?_
          intro w hw
          refine (rrow_c (s := ((⟨rv, (z.1.rowOut 1048576), 0⟩ : Rd).c6 1048576)) (most := 1048576) hw (by repeat (first | assumption | exact Upd.here | exact hrep _ _ | apply Upd.there)) (by repeat (first | assumption | exact List.mem_cons_self | exact hmem _ | apply List.mem_cons_of_mem)) (by omega) (by omega)).mono ?_; rintro _ _ ⟨r, rfl, hm⟩; refine ⟨_, _, rfl, hm, Mem S [] (bytesD r (((⟨rv, (z.1.rowOut 1048576), 0⟩ : Rd).c6 1048576).rowOut 1048576) :: _), fun _ h => h.less (fun x hx => List.mem_cons_of_mem _ hx), fun _ h => (h.sub (fun _ h => h) (List.nil_sublist _)).less (by repeat (first | exact (fun _ h => (List.not_mem_nil h).elim) | refine List.forall_mem_cons.2 ⟨(by repeat (first | assumption | exact List.mem_cons_self | exact hmem _ | apply List.mem_cons_of_mem)), ?_⟩)), ?_⟩; clear hm hw w
          refine SX.val rfl (Val.strOf rfl (by repeat (first | assumption | exact List.mem_cons_self | exact hmem _ | apply List.mem_cons_of_mem))) rfl rfl ?_
          refine SX.val rfl (Val.buildS (L := ((⟨rv, (z.1.rowOut 1048576), 0⟩ : Rd).core 1048576).cells) tabOk rfl rfl rfl (by rfl)) rfl rfl ?_
          refine SX.eff rfl (Eff.storeA (L' := ((⟨rv, (z.1.rowOut 1048576), 0⟩ : Rd).core 1048576).cells) (vs := ((⟨rv, (z.1.rowOut 1048576), 0⟩ : Rd).core 1048576).cells) tabOk rfl rfl rfl (by repeat (first | assumption | exact Upd.here | exact hrep _ _ | apply Upd.there)) (by rfl) (Nat.le_of_ble_eq_true (by rfl)) (Core.one _) (by rfl)) rfl rfl ?_
          rintro _ _ ⟨rfl, rfl⟩
          refine ⟨_, fun _ h => h, fun _ h => (h.sub (fun _ h => h) (List.nil_sublist _)).less (by repeat (first | exact (fun _ h => (List.not_mem_nil h).elim) | refine List.forall_mem_cons.2 ⟨(by repeat (first | assumption | exact List.mem_cons_self | exact hmem _ | apply List.mem_cons_of_mem)), ?_⟩)), ?_⟩
          refine SX.nil ?_
          exact SE.meet b10 (by exact ⟨rfl, rfl, rfl, rfl, rfl, rfl, rfl, trivial⟩) (fun _ h => by
            first
              | exact Mem.less h (fun x hx => by rcases List.mem_cons.1 hx with rfl | hx; exact List.mem_cons_of_mem _ List.mem_cons_self; rcases List.mem_cons.1 hx with rfl | hx; (repeat (first | exact List.mem_cons_self | apply List.mem_cons_of_mem)); (repeat (first | exact hx | apply List.mem_cons_of_mem)))
              | exact Mem.less (Mem.swap h) (fun x hx => by rcases List.mem_cons.1 hx with rfl | hx; exact List.mem_cons_of_mem _ List.mem_cons_self; rcases List.mem_cons.1 hx with rfl | hx; (repeat (first | exact List.mem_cons_self | apply List.mem_cons_of_mem)); (repeat (first | exact hx | apply List.mem_cons_of_mem))))
      · skip
        refine SX.eff rfl (Eff.alloc tabOk rfl) rfl rfl ?_
        rintro _ _ ⟨b10, rfl, rfl⟩
        refine ⟨_, fun _ h => h, fun _ h => (h.sub (fun _ h => h) (List.nil_sublist _)).less (by repeat (first | exact (fun _ h => (List.not_mem_nil h).elim) | refine List.forall_mem_cons.2 ⟨(by repeat (first | assumption | exact List.mem_cons_self | exact hmem _ | apply List.mem_cons_of_mem)), ?_⟩)), ?_⟩
        refine SX.call rfl (by kernel_rfl) rfl rfl rfl ?_
        intro w hw
        refine (rnumber_c (s := ((⟨rv, (z.1.rowOut 1048576), 0⟩ : Rd).fixed 1)) (n := 8) hw (by repeat (first | assumption | exact Upd.here | exact hrep _ _ | apply Upd.there)) (by repeat (first | assumption | exact List.mem_cons_self | exact hmem _ | apply List.mem_cons_of_mem)) (by (try dsimp only); omega) rfl).mono ?_; rintro _ _ ⟨rfl, hm⟩; refine ⟨_, _, rfl, hm, _, fun _ h => h, fun _ h => (h.sub (fun _ h => h) (List.nil_sublist _)).less (by repeat (first | exact (fun _ h => (List.not_mem_nil h).elim) | refine List.forall_mem_cons.2 ⟨(by repeat (first | assumption | exact List.mem_cons_self | exact hmem _ | apply List.mem_cons_of_mem)), ?_⟩)), ?_⟩; clear hm hw w
        refine SX.val rfl (Val.convW rfl Try.underlying2 (by kernel_rfl)) rfl rfl ?_
        refine SX.call rfl (by kernel_rfl) rfl rfl rfl ?_
        intro w hw
        refine (rnumber_c (s := (((⟨rv, (z.1.rowOut 1048576), 0⟩ : Rd).fixed 1).fixed 8)) (n := 1) hw (by repeat (first | assumption | exact Upd.here | exact hrep _ _ | apply Upd.there)) (by repeat (first | assumption | exact List.mem_cons_self | exact hmem _ | apply List.mem_cons_of_mem)) (by (try dsimp only); omega) rfl).mono ?_; rintro _ _ ⟨rfl, hm⟩; refine ⟨_, _, rfl, hm, _, fun _ h => h, fun _ h => (h.sub (fun _ h => h) (List.nil_sublist _)).less (by repeat (first | exact (fun _ h => (List.not_mem_nil h).elim) | refine List.forall_mem_cons.2 ⟨(by repeat (first | assumption | exact List.mem_cons_self | exact hmem _ | apply List.mem_cons_of_mem)), ?_⟩)), ?_⟩; clear hm hw w
        refine SX.val rfl (Val.convI rfl Try.underlying3 (by kernel_rfl) (by simp only [InR, lo, hi]; omega)) rfl rfl ?_
        refine SX.call rfl (by kernel_rfl) rfl rfl rfl ?_
        intro w hw
        refine (rrow_c (s := ((⟨rv, (z.1.rowOut 1048576), 0⟩ : Rd).c3)) (most := 1048576) hw (by repeat (first | assumption | exact Upd.here | exact hrep _ _ | apply Upd.there)) (by repeat (first | assumption | exact List.mem_cons_self | exact hmem _ | apply List.mem_cons_of_mem)) (by omega) (by omega)).mono ?_; rintro _ _ ⟨r, rfl, hm⟩; refine ⟨_, _, rfl, hm, Mem S [] (bytesD r (((⟨rv, (z.1.rowOut 1048576), 0⟩ : Rd).c3).rowOut 1048576) :: _), fun _ h => h.less (fun x hx => List.mem_cons_of_mem _ hx), fun _ h => (h.sub (fun _ h => h) (List.nil_sublist _)).less (by repeat (first | exact (fun _ h => (List.not_mem_nil h).elim) | refine List.forall_mem_cons.2 ⟨(by repeat (first | assumption | exact List.mem_cons_self | exact hmem _ | apply List.mem_cons_of_mem)), ?_⟩)), ?_⟩; clear hm hw w
        refine SX.val rfl (Val.strOf rfl (by repeat (first | assumption | exact List.mem_cons_self | exact hmem _ | apply List.mem_cons_of_mem))) rfl rfl ?_
        refine SX.call rfl (by kernel_rfl) rfl rfl rfl ?_
        intro w hw
        refine (rnumber_c (s := ((⟨rv, (z.1.rowOut 1048576), 0⟩ : Rd).c4 1048576)) (n := 8) hw (by repeat (first | assumption | exact Upd.here | exact hrep _ _ | apply Upd.there)) (by repeat (first | assumption | exact List.mem_cons_self | exact hmem _ | apply List.mem_cons_of_mem)) (by (try dsimp only); omega) rfl).mono ?_; rintro _ _ ⟨rfl, hm⟩; refine ⟨_, _, rfl, hm, _, fun _ h => h, fun _ h => (h.sub (fun _ h => h) (List.nil_sublist _)).less (by repeat (first | exact (fun _ h => (List.not_mem_nil h).elim) | refine List.forall_mem_cons.2 ⟨(by repeat (first | assumption | exact List.mem_cons_self | exact hmem _ | apply List.mem_cons_of_mem)), ?_⟩)), ?_⟩; clear hm hw w
        refine SX.val rfl (Val.convW rfl Try.underlying2 (by kernel_rfl)) rfl rfl ?_
        refine SX.call rfl (by kernel_rfl) rfl rfl rfl ?_
        intro w hw
        refine (rnumber_c (s := (((⟨rv, (z.1.rowOut 1048576), 0⟩ : Rd).c4 1048576).fixed 8)) (n := 8) hw (by repeat (first | assumption | exact Upd.here | exact hrep _ _ | apply Upd.there)) (by repeat (first | assumption | exact List.mem_cons_self | exact hmem _ | apply List.mem_cons_of_mem)) (by (try dsimp only); omega) rfl).mono ?_; rintro _ _ ⟨rfl, hm⟩; refine ⟨_, _, rfl, hm, _, fun _ h => h, fun _ h => (h.sub (fun _ h => h) (List.nil_sublist _)).less (by repeat (first | exact (fun _ h => (List.not_mem_nil h).elim) | refine List.forall_mem_cons.2 ⟨(by repeat (first | assumption | exact List.mem_cons_self | exact hmem _ | apply List.mem_cons_of_mem)), ?_⟩)), ?_⟩; clear hm hw w
        refine SX.val rfl (Val.convW rfl Try.underlying2 (by kernel_rfl)) rfl rfl ?_
        refine SX.call rfl (by kernel_rfl) rfl rfl rfl ?_
        intro w hw
        refine (rrow_c (s := ((⟨rv, (z.1.rowOut 1048576), 0⟩ : Rd).c6 1048576)) (most := 1048576) hw (by repeat (first | assumption | exact Upd.here | exact hrep _ _ | apply Upd.there)) (by repeat (first | assumption | exact List.mem_cons_self | exact hmem _ | apply List.mem_cons_of_mem)) (by omega) (by omega)).mono ?_; rintro _ _ ⟨r, rfl, hm⟩; refine ⟨_, _, rfl, hm, Mem S [] (bytesD r (((⟨rv, (z.1.rowOut 1048576), 0⟩ : Rd).c6 1048576).rowOut 1048576) :: _), fun _ h => h.less (fun x hx => List.mem_cons_of_mem _ hx), fun _ h => (h.sub (fun _ h => h) (List.nil_sublist _)).less (by repeat (first | exact (fun _ h => (List.not_mem_nil h).elim) | refine List.forall_mem_cons.2 ⟨(by repeat (first | assumption | exact List.mem_cons_self | exact hmem _ | apply List.mem_cons_of_mem)), ?_⟩)), ?_⟩; clear hm hw w
        refine SX.val rfl (Val.strOf rfl (by repeat (first | assumption | exact List.mem_cons_self | exact hmem _ | apply List.mem_cons_of_mem))) rfl rfl ?_
        refine SX.val rfl (Val.buildS (L := ((⟨rv, (z.1.rowOut 1048576), 0⟩ : Rd).core 1048576).cells) tabOk rfl rfl rfl (by rfl)) rfl rfl ?_
        refine SX.eff rfl (Eff.storeA (L' := ((⟨rv, (z.1.rowOut 1048576), 0⟩ : Rd).core 1048576).cells) (vs := ((⟨rv, (z.1.rowOut 1048576), 0⟩ : Rd).core 1048576).cells) tabOk rfl rfl rfl (by repeat (first | assumption | exact Upd.here | exact hrep _ _ | apply Upd.there)) (by rfl) (Nat.le_of_ble_eq_true (by rfl)) (Core.one _) (by rfl)) rfl rfl ?_
        rintro _ _ ⟨rfl, rfl⟩
        refine ⟨_, fun _ h => h, fun _ h => (h.sub (fun _ h => h) (List.nil_sublist _)).less (by repeat (first | exact (fun _ h => (List.not_mem_nil h).elim) | refine List.forall_mem_cons.2 ⟨(by repeat (first | assumption | exact List.mem_cons_self | exact hmem _ | apply List.mem_cons_of_mem)), ?_⟩)), ?_⟩
        refine SX.nil ?_
        exact SE.meet b10 (by exact ⟨rfl, rfl, rfl, rfl, rfl, rfl, rfl, trivial⟩) (fun _ h => by
          first
            | exact Mem.less h (fun x hx => by rcases List.mem_cons.1 hx with rfl | hx; exact List.mem_cons_of_mem _ List.mem_cons_self; rcases List.mem_cons.1 hx with rfl | hx; (repeat (first | exact List.mem_cons_self | apply List.mem_cons_of_mem)); (repeat (first | exact hx | apply List.mem_cons_of_mem)))
            | exact Mem.less (Mem.swap h) (fun x hx => by rcases List.mem_cons.1 hx with rfl | hx; exact List.mem_cons_of_mem _ List.mem_cons_self; rcases List.mem_cons.1 hx with rfl | hx; (repeat (first | exact List.mem_cons_self | apply List.mem_cons_of_mem)); (repeat (first | exact hx | apply List.mem_cons_of_mem))))
    · skip
      refine SX.eff rfl (Eff.alloc tabOk rfl) rfl rfl ?_
      rintro _ _ ⟨b10, rfl, rfl⟩
      refine ⟨_, fun _ h => h, fun _ h => (h.sub (fun _ h => h) (List.nil_sublist _)).less (by repeat (first | exact (fun _ h => (List.not_mem_nil h).elim) | refine List.forall_mem_cons.2 ⟨(by repeat (first | assumption | exact List.mem_cons_self | exact hmem _ | apply List.mem_cons_of_mem)), ?_⟩)), ?_⟩
      refine SX.call rfl (by kernel_rfl) rfl rfl rfl ?_
      intro w hw
      refine (rnumber_c (s := (⟨rv, (z.1.rowOut 1048576), 0⟩ : Rd)) (n := 1) hw (by repeat (first | assumption | exact Upd.here | exact hrep _ _ | apply Upd.there)) (by repeat (first | assumption | exact List.mem_cons_self | exact hmem _ | apply List.mem_cons_of_mem)) (by (try dsimp only); omega) rfl).mono ?_; rintro _ _ ⟨rfl, hm⟩; refine ⟨_, _, rfl, hm, _, fun _ h => h, fun _ h => (h.sub (fun _ h => h) (List.nil_sublist _)).less (by repeat (first | exact (fun _ h => (List.not_mem_nil h).elim) | refine List.forall_mem_cons.2 ⟨(by repeat (first | assumption | exact List.mem_cons_self | exact hmem _ | apply List.mem_cons_of_mem)), ?_⟩)), ?_⟩; clear hm hw w
      refine SX.val rfl (Val.convI rfl Try.underlying3 (by kernel_rfl) (by simp only [InR, lo, hi]; omega)) rfl rfl ?_
      refine SX.call rfl (by kernel_rfl) rfl rfl rfl ?_
      intro w hw
      refine (rnumber_c (s := ((⟨rv, (z.1.rowOut 1048576), 0⟩ : Rd).fixed 1)) (n := 8) hw (by repeat (first | assumption | exact Upd.here | exact hrep _ _ | apply Upd.there)) (by repeat (first | assumption | exact List.mem_cons_self | exact hmem _ | apply List.mem_cons_of_mem)) (by (try dsimp only); omega) rfl).mono ?_; rintro _ _ ⟨rfl, hm⟩; refine ⟨_, _, rfl, hm, _, fun _ h => h, fun _ h => (h.sub (fun _ h => h) (List.nil_sublist _)).less (by repeat (first | exact (fun _ h => (List.not_mem_nil h).elim) | refine List.forall_mem_cons.2 ⟨(by repeat (first | assumption | exact List.mem_cons_self | exact hmem _ | apply List.mem_cons_of_mem)), ?_⟩)), ?_⟩; clear hm hw w
      refine SX.val rfl (Val.convW rfl Try.underlying2 (by kernel_rfl)) rfl rfl ?_
      refine SX.call rfl (by kernel_rfl) rfl rfl rfl ?_
      intro w hw
      refine (rnumber_c (s := (((⟨rv, (z.1.rowOut 1048576), 0⟩ : Rd).fixed 1).fixed 8)) (n := 1) hw (by repeat (first | assumption | exact Upd.here | exact hrep _ _ | apply Upd.there)) (by repeat (first | assumption | exact List.mem_cons_self | exact hmem _ | apply List.mem_cons_of_mem)) (by (try dsimp only); omega) rfl).mono ?_; rintro _ _ ⟨rfl, hm⟩; refine ⟨_, _, rfl, hm, _, fun _ h => h, fun _ h => (h.sub (fun _ h => h) (List.nil_sublist _)).less (by repeat (first | exact (fun _ h => (List.not_mem_nil h).elim) | refine List.forall_mem_cons.2 ⟨(by repeat (first | assumption | exact List.mem_cons_self | exact hmem _ | apply List.mem_cons_of_mem)), ?_⟩)), ?_⟩; clear hm hw w
      refine SX.val rfl (Val.convI rfl Try.underlying3 (by kernel_rfl) (by simp only [InR, lo, hi]; omega)) rfl rfl ?_
      refine SX.call rfl (by kernel_rfl) rfl rfl rfl ?_
      intro w hw
      refine (rrow_c (s := ((⟨rv, (z.1.rowOut 1048576), 0⟩ : Rd).c3)) (most := 1048576) hw (by repeat (first | assumption | exact Upd.here | exact hrep _ _ | apply Upd.there)) (by repeat (first | assumption | exact List.mem_cons_self | exact hmem _ | apply List.mem_cons_of_mem)) (by omega) (by omega)).mono ?_; rintro _ _ ⟨r, rfl, hm⟩; refine ⟨_, _, rfl, hm, Mem S [] (bytesD r (((⟨rv, (z.1.rowOut 1048576), 0⟩ : Rd).c3).rowOut 1048576) :: _), fun _ h => h.less (fun x hx => List.mem_cons_of_mem _ hx), fun _ h => (h.sub (fun _ h => h) (List.nil_sublist _)).less (by repeat (first | exact (fun _ h => (List.not_mem_nil h).elim) | refine List.forall_mem_cons.2 ⟨(by repeat (first | assumption | exact List.mem_cons_self | exact hmem _ | apply List.mem_cons_of_mem)), ?_⟩)), ?_⟩; clear hm hw w
      refine SX.val rfl (Val.strOf rfl (by repeat (first | assumption | exact List.mem_cons_self | exact hmem _ | apply List.mem_cons_of_mem))) rfl rfl ?_
      refine SX.call rfl (by kernel_rfl) rfl rfl rfl ?_
      intro w hw
      refine (rnumber_c (s := ((⟨rv, (z.1.rowOut 1048576), 0⟩ : Rd).c4 1048576)) (n := 8) hw (by repeat (first | assumption | exact Upd.here | exact hrep _ _ | apply Upd.there)) (by repeat (first | assumption | exact List.mem_cons_self | exact hmem _ | apply List.mem_cons_of_mem)) (by (try dsimp only); omega) rfl).mono ?_; rintro _ _ ⟨rfl, hm⟩; refine ⟨_, _, rfl, hm, _, fun _ h => h, fun _ h => (h.sub (fun _ h => h) (List.nil_sublist _)).less (by repeat (first | exact (fun _ h => (List.not_mem_nil h).elim) | refine List.forall_mem_cons.2 ⟨(by repeat (first | assumption | exact List.mem_cons_self | exact hmem _ | apply List.mem_cons_of_mem)), ?_⟩)), ?_⟩; clear hm hw w
      refine SX.val rfl (Val.convW rfl Try.underlying2 (by kernel_rfl)) rfl rfl ?_
      refine SX.call rfl (by kernel_rfl) rfl rfl rfl ?_
      intro w hw
      refine (rnumber_c (s := (((⟨rv, (z.1.rowOut 1048576), 0⟩ : Rd).c4 1048576).fixed 8)) (n := 8) hw (by repeat (first | assumption | exact Upd.here | exact hrep _ _ | apply Upd.there)) (by repeat (first | assumption | exact List.mem_cons_self | exact hmem _ | apply List.mem_cons_of_mem)) (by (try dsimp only); omega) rfl).mono ?_; rintro _ _ ⟨rfl, hm⟩; refine ⟨_, _, rfl, hm, _, fun _ h => h, fun _ h => (h.sub (fun _ h => h) (List.nil_sublist _)).less (by repeat (first | exact (fun _ h => (List.not_mem_nil h).elim) | refine List.forall_mem_cons.2 ⟨(by repeat (first | assumption | exact List.mem_cons_self | exact hmem _ | apply List.mem_cons_of_mem)), ?_⟩)), ?_⟩; clear hm hw w
      refine SX.val rfl (Val.convW rfl Try.underlying2 (by kernel_rfl)) rfl rfl ?_
      refine SX.call rfl (by kernel_rfl) rfl rfl rfl ?_
      intro w hw
      refine (rrow_c (s := ((⟨rv, (z.1.rowOut 1048576), 0⟩ : Rd).c6 1048576)) (most := 1048576) hw (by repeat (first | assumption | exact Upd.here | exact hrep _ _ | apply Upd.there)) (by repeat (first | assumption | exact List.mem_cons_self | exact hmem _ | apply List.mem_cons_of_mem)) (by omega) (by omega)).mono ?_; rintro _ _ ⟨r, rfl, hm⟩; refine ⟨_, _, rfl, hm, Mem S [] (bytesD r (((⟨rv, (z.1.rowOut 1048576), 0⟩ : Rd).c6 1048576).rowOut 1048576) :: _), fun _ h => h.less (fun x hx => List.mem_cons_of_mem _ hx), fun _ h => (h.sub (fun _ h => h) (List.nil_sublist _)).less (by repeat (first | exact (fun _ h => (List.not_mem_nil h).elim) | refine List.forall_mem_cons.2 ⟨(by repeat (first | assumption | exact List.mem_cons_self | exact hmem _ | apply List.mem_cons_of_mem)), ?_⟩)), ?_⟩; clear hm hw w
      refine SX.val rfl (Val.strOf rfl (by repeat (first | assumption | exact List.mem_cons_self | exact hmem _ | apply List.mem_cons_of_mem))) rfl rfl ?_
      refine SX.val rfl (Val.buildS (L := ((⟨rv, (z.1.rowOut 1048576), 0⟩ : Rd).core 1048576).cells) tabOk rfl rfl rfl (by rfl)) rfl rfl ?_
      refine SX.eff rfl (Eff.storeA (L' := ((⟨rv, (z.1.rowOut 1048576), 0⟩ : Rd).core 1048576).cells) (vs := ((⟨rv, (z.1.rowOut 1048576), 0⟩ : Rd).core 1048576).cells) tabOk rfl rfl rfl (by repeat (first | assumption | exact Upd.here | exact hrep _ _ | apply Upd.there)) (by rfl) (Nat.le_of_ble_eq_true (by rfl)) (Core.one _) (by rfl)) rfl rfl ?_
      rintro _ _ ⟨rfl, rfl⟩
      refine ⟨_, fun _ h => h, fun _ h => (h.sub (fun _ h => h) (List.nil_sublist _)).less (by repeat (first | exact (fun _ h => (List.not_mem_nil h).elim) | refine List.forall_mem_cons.2 ⟨(by repeat (first | assumption | exact List.mem_cons_self | exact hmem _ | apply List.mem_cons_of_mem)), ?_⟩)), ?_⟩
      refine SX.nil ?_
      exact SE.meet b10 (by exact ⟨rfl, rfl, rfl, rfl, rfl, rfl, rfl, trivial⟩) (fun _ h => by
        first
          | exact Mem.less h (fun x hx => by rcases List.mem_cons.1 hx with rfl | hx; exact List.mem_cons_of_mem _ List.mem_cons_self; rcases List.mem_cons.1 hx with rfl | hx; (repeat (first | exact List.mem_cons_self | apply List.mem_cons_of_mem)); (repeat (first | exact hx | apply List.mem_cons_of_mem)))
          | exact Mem.less (Mem.swap h) (fun x hx => by rcases List.mem_cons.1 hx with rfl | hx; exact List.mem_cons_of_mem _ List.mem_cons_self; rcases List.mem_cons.1 hx with rfl | hx; (repeat (first | exact List.mem_cons_self | apply List.mem_cons_of_mem)); (repeat (first | exact hx | apply List.mem_cons_of_mem))))
  · intro bb
    refine SC.seq (SC.region ?_)
    refine SL.val (Val.move rfl) rfl rfl ?_
    refine SL.val (Val.move rfl) rfl rfl ?_
    refine SL.both (t := 56) rfl ?_ ?_
    rotate_left
    · intro hc56
      have hok := hc56
      iterate 3 refine SL.skip rfl rfl ?_
      refine SL.val (Val.pickF rfl rfl) rfl rfl ?_
      refine SL.val (Val.assign rfl) rfl rfl ?_
      refine SL.nil (SE.seq ?_)
      refine SC.region ?_
      refine SL.val (Val.move rfl) rfl rfl ?_
      first
        | refine SL.val (Val.loadA tabOk rfl rfl rfl (by repeat (first | assumption | exact List.mem_cons_self | exact hmem _ | apply List.mem_cons_of_mem)) (by rfl)) rfl rfl ?_
        | refine SL.val (Val.loadAC tabOk rfl rfl rfl (by assumption) (by assumption)) rfl rfl ?_
        | refine SL.val (Val.loadP tabOk rfl rfl rfl (by repeat (first | assumption | exact List.mem_cons_self | exact hmem _ | apply List.mem_cons_of_mem)) (Nat.le_of_ble_eq_true (by rfl))) rfl rfl ?_
      refine SL.val (Val.move rfl) rfl rfl ?_
      refine SL.val (Val.buildS (L := (⟨coreOf (z.1.rowOut 1048576) 1048576, (z.1.row 1048576).num 1⟩ : Ent).cells) tabOk rfl rfl rfl (by rw [(of_as rv (z.1.rowOut 1048576)).core]; rfl)) rfl rfl ?_
      refine SL.eff (Eff.buildSlice (L := (⟨coreOf (z.1.rowOut 1048576) 1048576, (z.1.row 1048576).num 1⟩ : Ent).cells) tabOk Try.underlying22 rfl rfl (fun L0 h => by match L0, h with | [_, _, _, _, _, _, _, _], _ => rfl) rfl) rfl rfl ?_
      rintro _ _ ⟨b65, rfl, rfl⟩
      refine SL.eff (Eff.append (pre := [_, _, _]) (k := z.2.1.length) (news := (⟨coreOf (z.1.rowOut 1048576) 1048576, (z.1.row 1048576).num 1⟩ : Ent).cells) tabOk Try.underlying22 rfl rfl rfl rfl rfl (fun _ hw => ⟨_, hw.blkRow List.mem_cons_self (Nat.le_refl _) (by decide)⟩) rfl (Ent.one _) (by unfold maxLen; omega) (by rw [show Try.prog.bytesOf 150 = 80 by kernel_rfl]; omega)) rfl rfl ?_
      rintro r _ rfl
      refine SL.val (Val.assign rfl) rfl rfl ?_
      refine SL.nil ?_
      refine SE.inBlock ?_
      refine SE.seq ?_
      refine SC.region ?_
      refine SL.val (Val.move rfl) rfl rfl ?_
      first
        | refine SL.val (Val.subI rfl rfl (by simp only [InR, lo, hi]; omega)) rfl rfl ?_
        | refine SL.val (Val.subW rfl rfl) rfl rfl ?_
      refine SL.val (Val.assign rfl) rfl rfl ?_
      refine SL.nil ?_
      refine SE.round ((z.1.row 1048576).fixed 1, z.2.1 ++ [(⟨coreOf (z.1.rowOut 1048576) 1048576, (z.1.row 1048576).num 1⟩ : Ent)], z.2.2.1 - 1, (z.2.2.2.1 && okOf (z.1.rowOut 1048576) 1048576), r) (by show z.2.2.1 - 1 < z.2.2.1; omega) (by exact ⟨rfl, rfl, by show some (Value.bool _) = some (Value.bool _); rw [hok, Bool.false_and], by show some (Value.int _ ((z.2.2.1 : Int) - 1)) = some (Value.int _ ((z.2.2.1 - 1 : Nat) : Int)); congr 2; omega, trivial⟩) (fun w' hw' => ⟨⟨by show (z.2.1 ++ [(⟨coreOf (z.1.rowOut 1048576) 1048576, (z.1.row 1048576).num 1⟩ : Ent)]).length + (z.2.2.1 - 1) = s.num 2; rw [List.length_append, List.length_singleton]; omega, by show ((z.1.row 1048576).fixed 1).l.length ≤ s.l.length; have := (z.1.row 1048576).fixed_length 1; have := z.1.row_length 1048576; omega, ?_⟩, ?_⟩)
      · rw [← f4]
        obtain ⟨j, hj⟩ : ∃ j, z.2.2.1 = j + 1 := ⟨z.2.2.1 - 1, by omega⟩
        show Rd.rents (z.2.2.1 - 1) ((z.1.row 1048576).fixed 1) (z.2.1 ++ [(⟨coreOf (z.1.rowOut 1048576) 1048576, (z.1.row 1048576).num 1⟩ : Ent)]) (z.2.2.2.1 && okOf (z.1.rowOut 1048576) 1048576) = _
        rw [hj, Nat.add_sub_cancel]
        simp only [Rd.rents]
        rw [if_neg (by simpa using hc16b)]
      · have e1 : (z.2.1 ++ [(⟨coreOf (z.1.rowOut 1048576) 1048576, (z.1.row 1048576).num 1⟩ : Ent)]).flatMap Ent.cells = z.2.1.flatMap Ent.cells ++ (⟨coreOf (z.1.rowOut 1048576) 1048576, (z.1.row 1048576).num 1⟩ : Ent).cells := by rw [List.flatMap_append]; simp
        show Mem S (.pc (ownPc _ _ _ (z.2.1 ++ [(⟨coreOf (z.1.rowOut 1048576) 1048576, (z.1.row 1048576).num 1⟩ : Ent)]).length ((z.2.1 ++ [(⟨coreOf (z.1.rowOut 1048576) 1048576, (z.1.row 1048576).num 1⟩ : Ent)]).flatMap Ent.cells)) :: _) _ w'
        rw [e1, List.length_append]
        exact (hw'.sub (fun _ h => h) (List.sublist_append_right [_, _, _] _)).less (fun x hx => by simp only [List.mem_cons] at hx ⊢; rcases hx with rfl | hx <;> simp [*])
    intro hc56
    have hok := hc56
    refine SL.val (Val.move rfl) rfl rfl ?_
    refine SL.call (by kernel_rfl) rfl rfl rfl ?_
    intro w hw
    refine (rend_c (s := (⟨rv, (z.1.rowOut 1048576), 0⟩ : Rd).coreEnd 1048576) hw (by repeat (first | assumption | exact List.mem_cons_self | exact hmem _ | apply List.mem_cons_of_mem)) (by repeat (first | assumption | exact List.mem_cons_self | exact hmem _ | apply List.mem_cons_of_mem))).mono ?_; rintro _ _ ⟨rfl, hm⟩; refine ⟨_, _, rfl, hm, ?_⟩; clear hm hw w
    refine SL.val (Val.eqI rfl rfl) rfl rfl ?_
    refine SL.val (Val.pickT rfl rfl) rfl rfl ?_
    refine SL.val (Val.assign rfl) rfl rfl ?_
    refine SL.nil (SE.seq ?_)
    refine SC.region ?_
    refine SL.val (Val.move rfl) rfl rfl ?_
    first
      | refine SL.val (Val.loadA tabOk rfl rfl rfl (by repeat (first | assumption | exact List.mem_cons_self | exact hmem _ | apply List.mem_cons_of_mem)) (by rfl)) rfl rfl ?_
      | refine SL.val (Val.loadAC tabOk rfl rfl rfl (by assumption) (by assumption)) rfl rfl ?_
      | refine SL.val (Val.loadP tabOk rfl rfl rfl (by repeat (first | assumption | exact List.mem_cons_self | exact hmem _ | apply List.mem_cons_of_mem)) (Nat.le_of_ble_eq_true (by rfl))) rfl rfl ?_
    refine SL.val (Val.move rfl) rfl rfl ?_
    refine SL.val (Val.buildS (L := (⟨coreOf (z.1.rowOut 1048576) 1048576, (z.1.row 1048576).num 1⟩ : Ent).cells) tabOk rfl rfl rfl (by rw [(of_as rv (z.1.rowOut 1048576)).core]; rfl)) rfl rfl ?_
    refine SL.eff (Eff.buildSlice (L := (⟨coreOf (z.1.rowOut 1048576) 1048576, (z.1.row 1048576).num 1⟩ : Ent).cells) tabOk Try.underlying22 rfl rfl (fun L0 h => by match L0, h with | [_, _, _, _, _, _, _, _], _ => rfl) rfl) rfl rfl ?_
    rintro _ _ ⟨b65, rfl, rfl⟩
    refine SL.eff (Eff.append (pre := [_, _, _]) (k := z.2.1.length) (news := (⟨coreOf (z.1.rowOut 1048576) 1048576, (z.1.row 1048576).num 1⟩ : Ent).cells) tabOk Try.underlying22 rfl rfl rfl rfl rfl (fun _ hw => ⟨_, hw.blkRow List.mem_cons_self (Nat.le_refl _) (by decide)⟩) rfl (Ent.one _) (by unfold maxLen; omega) (by rw [show Try.prog.bytesOf 150 = 80 by kernel_rfl]; omega)) rfl rfl ?_
    rintro r _ rfl
    refine SL.val (Val.assign rfl) rfl rfl ?_
    refine SL.nil ?_
    refine SE.inBlock ?_
    refine SE.seq ?_
    refine SC.region ?_
    refine SL.val (Val.move rfl) rfl rfl ?_
    first
      | refine SL.val (Val.subI rfl rfl (by simp only [InR, lo, hi]; omega)) rfl rfl ?_
      | refine SL.val (Val.subW rfl rfl) rfl rfl ?_
    refine SL.val (Val.assign rfl) rfl rfl ?_
    refine SL.nil ?_
    refine SE.round ((z.1.row 1048576).fixed 1, z.2.1 ++ [(⟨coreOf (z.1.rowOut 1048576) 1048576, (z.1.row 1048576).num 1⟩ : Ent)], z.2.2.1 - 1, (z.2.2.2.1 && okOf (z.1.rowOut 1048576) 1048576), r) (by show z.2.2.1 - 1 < z.2.2.1; omega) (by exact ⟨rfl, rfl, by show some (Value.bool _) = some (Value.bool _); rw [hok, Bool.true_and, okOf, ← ((of_as rv _).coreEnd _).end_], by show some (Value.int _ ((z.2.2.1 : Int) - 1)) = some (Value.int _ ((z.2.2.1 - 1 : Nat) : Int)); congr 2; omega, trivial⟩) (fun w' hw' => ⟨⟨by show (z.2.1 ++ [(⟨coreOf (z.1.rowOut 1048576) 1048576, (z.1.row 1048576).num 1⟩ : Ent)]).length + (z.2.2.1 - 1) = s.num 2; rw [List.length_append, List.length_singleton]; omega, by show ((z.1.row 1048576).fixed 1).l.length ≤ s.l.length; have := (z.1.row 1048576).fixed_length 1; have := z.1.row_length 1048576; omega, ?_⟩, ?_⟩)
    · rw [← f4]
      obtain ⟨j, hj⟩ : ∃ j, z.2.2.1 = j + 1 := ⟨z.2.2.1 - 1, by omega⟩
      show Rd.rents (z.2.2.1 - 1) ((z.1.row 1048576).fixed 1) (z.2.1 ++ [(⟨coreOf (z.1.rowOut 1048576) 1048576, (z.1.row 1048576).num 1⟩ : Ent)]) (z.2.2.2.1 && okOf (z.1.rowOut 1048576) 1048576) = _
      rw [hj, Nat.add_sub_cancel]
      simp only [Rd.rents]
      rw [if_neg (by simpa using hc16b)]
    · have e1 : (z.2.1 ++ [(⟨coreOf (z.1.rowOut 1048576) 1048576, (z.1.row 1048576).num 1⟩ : Ent)]).flatMap Ent.cells = z.2.1.flatMap Ent.cells ++ (⟨coreOf (z.1.rowOut 1048576) 1048576, (z.1.row 1048576).num 1⟩ : Ent).cells := by rw [List.flatMap_append]; simp
      show Mem S (.pc (ownPc _ _ _ (z.2.1 ++ [(⟨coreOf (z.1.rowOut 1048576) 1048576, (z.1.row 1048576).num 1⟩ : Ent)]).length ((z.2.1 ++ [(⟨coreOf (z.1.rowOut 1048576) 1048576, (z.1.row 1048576).num 1⟩ : Ent)]).flatMap Ent.cells)) :: _) _ w'
      rw [e1, List.length_append]
      exact (hw'.sub (fun _ h => h) (List.sublist_append_right [_, _, _] _)).less (fun x hx => by simp only [List.mem_cons] at hx ⊢; rcases hx with rfl | hx <;> simp [*])
end
end Go.Proofs.Ytpgffckfbgfgcaa
/-
  Batches: whether two are the same; the document's Parse, over the engine.
-/
set_option maxRecDepth 100000
namespace Go.Proofs.Ytpgffckfbgfgcaa
open Go.RowKit

/-! ### The same -/
structure Ent.Lits (e : Ent) : Prop where
  client : InR .i64 e.core.client
  stamp : InR .i64 e.core.stamp
  op : InR .i64 e.core.op
  a : InR .i64 e.core.a
  b : InR .i64 e.core.b
  letter : e.core.letter.size ≤ maxLen
  text : e.core.text.size ≤ maxLen
  mask : e.mask < 4294967296
noncomputable instance : DecidableEq Ent := fun _ _ => Classical.propDecidable _
theorem wfI {a : Int} (h : InR .i64 a) : (Lit.int .i64 a).wf = true := by
  obtain ⟨h0, h1⟩ := h
  simp only [lo, hi] at h0 h1
  simp [Lit.wf, IntKind.min, IntKind.max, IntKind.signed, IntKind.bits]; omega
theorem wfU {a : Nat} (h : a < 4294967296) : (Lit.int .u32 (a : Nat)).wf = true := by
  simp [Lit.wf, IntKind.min, IntKind.max, IntKind.signed, IntKind.bits]; omega
def Ent.lits (e : Ent) : List Lit := [.int .i64 e.core.client, .int .i64 e.core.stamp, .int .i64 e.core.op, .string e.core.letter.data.toList, .int .i64 e.core.a, .int .i64 e.core.b, .string e.core.text.data.toList, .int .u32 e.mask]
theorem ent_lits (e : Ent) (h : e.Lits) : Try.prog.keyLits 4 150 e.cells = some e.lits := by
  have h1 := wfI h.client
  have h2 := wfI h.stamp
  have h3 := wfI h.op
  have h4 := wfI h.a
  have h5 := wfI h.b
  have h6 := h.letter
  have h7 := h.text
  have h8 := wfU h.mask
  have c1 : Try.prog.cellsOf 150 = 8 := by kernel_rfl
  have c2 : Try.prog.cellsOf 147 = 7 := by kernel_rfl
  have c3 : Try.prog.cellsOf 9 = 1 := by kernel_rfl
  have c4 : Try.prog.cellsOf 3 = 1 := by kernel_rfl
  have c5 : Try.prog.cellsOf 2 = 1 := by kernel_rfl
  have c6 : Try.prog.cellsOf 148 = 1 := by kernel_rfl
  simp [Program.keyLits, Try.underlying150, Try.underlying147, Try.underlying9, Try.underlying3, Try.underlying2, Try.underlying148, c1, c2, c3, c4, c5, c6, Ent.cells, Ent.lits, h1, h2, h3, h4, h5, h6, h7, h8]
  rw [if_pos (by decide)]
  rfl
theorem ent_formed (e : Ent) : (Value.agg e.cells.toArray).formed Try.prog 150 = true := by kernel_rfl
theorem ByteArray.of_data {a b : ByteArray} (h : a.data.toList = b.data.toList) : a = b := by
  cases a; cases b; simp at h; simp [h]
theorem Ent.lits_inj {e f : Ent} (h : e.lits = f.lits) : e = f := by
  simp only [Ent.lits, List.cons.injEq, Lit.string.injEq, Lit.int.injEq, true_and, and_true] at h
  obtain ⟨h1, h2, h3, h4, h5, h6, h7, h8⟩ := h
  obtain ⟨⟨a1, a2, a3, a4, a5, a6, a7⟩, a8⟩ := e
  obtain ⟨⟨b1, b2, b3, b4, b5, b6, b7⟩, b8⟩ := f
  simp only [Ent.mk.injEq, Core.mk.injEq]
  exact ⟨⟨h1, h2, h3, ByteArray.of_data h4, h5, h6, ByteArray.of_data h7⟩, by dsimp only at h8; omega⟩
theorem neqE {e f : Ent} (he : e.Lits) (hf : f.Lits) (w : World) : (binOp .neq 150 (.agg e.cells.toArray) (.agg f.cells.toArray)).run Try.prog w = .ok (.bool (decide (e ≠ f))) w :=
  run_neq_lits (m := 10) (by decide) (by kernel_rfl) (ent_formed e) (ent_formed f) (by simpa using ent_lits e he) (by simpa using ent_lits f hf) _ (by
    rw [decide_eq_true_eq]
    exact ⟨fun h h2 => h (Ent.lits_inj h2), fun h h2 => h (by rw [h2])⟩) w
theorem take_succ_eq {α : Type} {es fs : List α} {k : Nat} (h : es.take k = fs.take k) (h1 : k < es.length) (h2 : k < fs.length) (h3 : es[k] = fs[k]) : es.take (k + 1) = fs.take (k + 1) := by
  rw [List.take_succ_eq_append_getElem h1, List.take_succ_eq_append_getElem h2, h, h3]
section
variable {S : List (World × List Nat)} {σ τ : Blks} {ρ : List Dt} {w : World} {p : Nat} {s : Rd}

set_option maxHeartbeats 1000000 in
theorem equal_c {v u : Value} {es fs : List Ent} (hw : Mem S σ ρ w) (he : entsD v es ∈ ρ) (hf : entsD u fs ∈ ρ) (hl : es.length ≤ 1000000) (h1 : ∀ e ∈ es, e.Lits) (h2 : ∀ e ∈ fs, e.Lits) : Calls Try.prog 108 #[v, u] w fun e w' => e = .returned (.bool (decide (es = fs))) ∧ Mem S σ ρ w' := by
  obtain ⟨A, c, rfl, hs1, hs2, hs3⟩ := (hw.data he).shape
  obtain ⟨B, d, rfl, ht1, ht2, ht3⟩ := (hw.data hf).shape
  have hA : es ≠ [] → ∃ b off, A = some ⟨b, off, none⟩ := fun h => row_at (hw.data he) (by cases es with | nil => exact absurd rfl h | cons e es => simp [Ent.cells])
  have hB : fs ≠ [] → ∃ b off, B = some ⟨b, off, none⟩ := fun h => row_at (hw.data hf) (by cases fs with | nil => exact absurd rfl h | cons e es => simp [Ent.cells])
  refine calls_of [.slice A es.length c, .slice B fs.length d] Try.func108 rfl Try.ntmps108 rfl (Mem S σ ρ) hw ?_
  refine SC.seq (SC.region ?_)
  refine SL.val (Val.assign rfl) rfl rfl ?_
  refine SL.nil (SE.seq ?_)
  refine SC.seq ?_
  refine SC.seq (SC.region ?_)
  refine SL.val (Val.move rfl) rfl rfl ?_
  refine SL.val (Val.lenSl rfl Try.underlying22) rfl rfl ?_
  refine SL.val (Val.move rfl) rfl rfl ?_
  refine SL.val (Val.lenSl rfl Try.underlying22) rfl rfl ?_
  refine SL.val (Val.neI rfl rfl) rfl rfl ?_
  refine SL.nil (SE.seq ?_)
  refine SC.condP rfl ?_ ?_
  · intro hc10
    refine SC.seq (SC.region ?_)
    refine SL.val (Val.assign rfl) rfl rfl ?_
    refine SL.nil (SE.seq ?_)
    refine SC.ret ?_
    refine SE.then_ (by intro h; cases h) ?_
    refine SE.ret1 rfl rfl ?_
    intro w' hw'
    refine ⟨?_, hw'⟩; congr 2; exact (decide_eq_false (fun h => hc10 (by rw [h]))).symm
  intro hc10
  have hle : es.length = fs.length := by omega
  refine SC.skip ?_
  refine SE.seq ?_
  refine SC.seq ?_
  refine SC.seq (SC.region ?_)
  refine SL.val (Val.move rfl) rfl rfl ?_
  refine SL.val (Val.lenSl rfl Try.underlying22) rfl rfl ?_
  refine SL.val (Val.move rfl) rfl rfl ?_
  refine SL.nil (SE.seq ?_)
  refine SC.block ?_
  refine SC.loop (ι := Nat) (fun k => [(0, .slice A es.length c), (1, .slice B fs.length d), (12, .int .i64 (es.length : Nat)), (13, .int .i64 (k : Nat))]) (fun k w' => (k ≤ es.length ∧ es.take k = fs.take k) ∧ Mem S σ ρ w') (fun k => es.length - k) 0 (by exact ⟨rfl, rfl, rfl, rfl, trivial⟩) (fun w' hw' => ⟨⟨Nat.zero_le _, by simp⟩, hw'⟩) ?_
  intro k
  refine SC.facts ?_
  rintro ⟨hk, hk2⟩
  refine SC.seq (SC.region ?_)
  refine SL.val (Val.ltI rfl rfl) rfl rfl ?_
  refine SL.nil (SE.seq ?_)
  refine SC.seq ?_
  refine SC.condP rfl ?_ ?_
  rotate_left
  · intro hc14
    refine SC.exit ?_
    refine SE.then_ (by intro h; cases h) ?_
    refine SE.then_ (by intro h; cases h) ?_
    refine SE.exit ?_
    refine SE.seq ?_
    refine SC.seq (SC.region ?_)
    refine SL.val (Val.assign rfl) rfl rfl ?_
    refine SL.nil (SE.seq ?_)
    refine SC.ret ?_
    refine SE.ret1 rfl rfl ?_
    intro w' hw'
    refine ⟨?_, hw'⟩; congr 2; refine (decide_eq_true ?_).symm; rw [List.take_of_length_le (by omega), List.take_of_length_le (by omega)] at hk2; exact hk2
  intro hc14
  have hlt : k < es.length := by omega
  have hlt2 : k < fs.length := by omega
  obtain ⟨bb, off, rfl⟩ := hA (by intro h0; rw [h0] at hlt; simp at hlt)
  obtain ⟨bb2, off2, rfl⟩ := hB (by intro h0; rw [h0] at hlt2; simp at hlt2)
  refine SC.skip ?_
  refine SE.seq ?_
  refine SC.seq ?_
  refine SC.block ?_
  refine SC.seq (SC.region ?_)
  refine SL.val (Val.move rfl) rfl rfl ?_
  refine SL.val (Val.assign rfl) rfl rfl ?_
  refine SL.nil (SE.seq ?_)
  refine SC.seq ?_
  refine SC.draw _ (.q 0 (.q 1 (.q 2 (.q 3 (.q 4 (.q 5 (.q 6 (.q 7 (.q 8 .nil))))))))) (by kernel_rfl) (by kernel_rfl) (fun _ h => h) (fun _ h => h.drew) ?_
  refine SX.val rfl (Val.move rfl) rfl rfl ?_
  refine SX.val rfl (Val.move rfl) rfl rfl ?_
  first
    | refine SX.val rfl (Val.indexSlN tabOk Try.underlying22 rfl rfl rfl (by omega)) rfl rfl ?_
    | refine SX.val rfl (Val.indexSl tabOk Try.underlying22 rfl rfl rfl (by omega)) rfl rfl ?_
  refine SX.val rfl (Val.loadAD (f := Ent.cells) tabOk rfl rfl rfl (by repeat (first | assumption | exact List.mem_cons_self | exact hmem _ | apply List.mem_cons_of_mem)) (fun _ => rfl) hlt) rfl rfl ?_
  refine SX.val rfl (Val.move rfl) rfl rfl ?_
  refine SX.val rfl (Val.move rfl) rfl rfl ?_
  first
    | refine SX.val rfl (Val.indexSlN tabOk Try.underlying22 rfl rfl rfl (by omega)) rfl rfl ?_
    | refine SX.val rfl (Val.indexSl tabOk Try.underlying22 rfl rfl rfl (by omega)) rfl rfl ?_
  refine SX.val rfl (Val.loadAD (f := Ent.cells) tabOk rfl rfl rfl (by repeat (first | assumption | exact List.mem_cons_self | exact hmem _ | apply List.mem_cons_of_mem)) (fun _ => rfl) hlt2) rfl rfl ?_
  refine SX.val rfl (Val.neA rfl rfl (by kernel_rfl) (neqE (h1 _ (List.getElem_mem hlt)) (h2 _ (List.getElem_mem hlt2)))) rfl rfl ?_
  refine SX.nil (SE.seq ?_)
  refine SC.condP rfl ?_ ?_
  rotate_left
  · intro hc24
    refine SC.skip ?_
    refine SE.inBlock ?_
    refine SE.seq ?_
    refine SC.region ?_
    first
      | refine SL.val (Val.addI rfl rfl (by simp only [InR, lo, hi]; omega)) rfl rfl ?_
      | refine SL.val (Val.addW rfl rfl) rfl rfl ?_
    refine SL.val (Val.move rfl) rfl rfl ?_
    refine SL.nil ?_
    exact SE.round (k + 1) (by omega) (by exact ⟨rfl, rfl, rfl, rfl, trivial⟩) (fun w' hw' => ⟨⟨hlt, take_succ_eq hk2 hlt hlt2 (Decidable.not_not.1 hc24)⟩, hw'⟩)
  intro hc24
  refine SC.seq (SC.region ?_)
  refine SL.val (Val.assign rfl) rfl rfl ?_
  refine SL.nil (SE.seq ?_)
  refine SC.ret ?_
  refine SE.ret ?_
  refine SE.then_ (by intro h; cases h) ?_
  refine SE.then_ (by intro h; cases h) ?_
  refine SE.ret ?_
  refine SE.then_ (by intro h; cases h) ?_
  refine SE.ret1 rfl rfl ?_
  intro w' hw'
  refine ⟨?_, hw'⟩; congr 2; refine (decide_eq_false (fun h => hc24 ?_)).symm; subst h; rfl

set_option maxHeartbeats 1000000 in
theorem rsame_c {v u : Value} {es fs : List Ent} (hw : Mem S σ ρ w) (he : entsD v es ∈ ρ) (hf : entsD u fs ∈ ρ) (hl : es.length ≤ 1000000) (h1 : ∀ e ∈ es, e.Lits) (h2 : ∀ e ∈ fs, e.Lits) : Calls Try.prog 21 #[v, u] w fun e w' => e = .returned (.bool (decide (es = fs))) ∧ Mem S σ ρ w' := by
  obtain ⟨A, c, rfl, hs1, hs2, hs3⟩ := (hw.data he).shape
  obtain ⟨B, d, rfl, ht1, ht2, ht3⟩ := (hw.data hf).shape
  have hA : es ≠ [] → ∃ b off, A = some ⟨b, off, none⟩ := fun h => row_at (hw.data he) (by cases es with | nil => exact absurd rfl h | cons e es => simp [Ent.cells])
  have hB : fs ≠ [] → ∃ b off, B = some ⟨b, off, none⟩ := fun h => row_at (hw.data hf) (by cases fs with | nil => exact absurd rfl h | cons e es => simp [Ent.cells])
  refine calls_of [.slice A es.length c, .slice B fs.length d] Try.func21 rfl Try.ntmps21 rfl (Mem S σ ρ) hw ?_
  refine SC.seq (SC.region ?_)
  refine SL.val (Val.assign rfl) rfl rfl ?_
  refine SL.nil (SE.seq ?_)
  refine SC.seq ?_
  refine SC.seq (SC.region ?_)
  refine SL.val (Val.move rfl) rfl rfl ?_
  refine SL.val (Val.lenSl rfl Try.underlying22) rfl rfl ?_
  refine SL.val (Val.move rfl) rfl rfl ?_
  refine SL.val (Val.lenSl rfl Try.underlying22) rfl rfl ?_
  refine SL.val (Val.neI rfl rfl) rfl rfl ?_
  refine SL.nil (SE.seq ?_)
  refine SC.condP rfl ?_ ?_
  · intro hc10
    refine SC.seq (SC.region ?_)
    refine SL.val (Val.assign rfl) rfl rfl ?_
    refine SL.nil (SE.seq ?_)
    refine SC.ret ?_
    refine SE.then_ (by intro h; cases h) ?_
    refine SE.ret1 rfl rfl ?_
    intro w' hw'
    refine ⟨?_, hw'⟩; congr 2; exact (decide_eq_false (fun h => hc10 (by rw [h]))).symm
  intro hc10
  have hle : es.length = fs.length := by omega
  refine SC.skip ?_
  refine SE.seq ?_
  refine SC.seq ?_
  refine SC.seq (SC.region ?_)
  refine SL.val (Val.move rfl) rfl rfl ?_
  refine SL.val (Val.lenSl rfl Try.underlying22) rfl rfl ?_
  refine SL.val (Val.move rfl) rfl rfl ?_
  refine SL.nil (SE.seq ?_)
  refine SC.block ?_
  refine SC.loop (ι := Nat) (fun k => [(0, .slice A es.length c), (1, .slice B fs.length d), (12, .int .i64 (es.length : Nat)), (13, .int .i64 (k : Nat))]) (fun k w' => (k ≤ es.length ∧ es.take k = fs.take k) ∧ Mem S σ ρ w') (fun k => es.length - k) 0 (by exact ⟨rfl, rfl, rfl, rfl, trivial⟩) (fun w' hw' => ⟨⟨Nat.zero_le _, by simp⟩, hw'⟩) ?_
  intro k
  refine SC.facts ?_
  rintro ⟨hk, hk2⟩
  refine SC.seq (SC.region ?_)
  refine SL.val (Val.ltI rfl rfl) rfl rfl ?_
  refine SL.nil (SE.seq ?_)
  refine SC.seq ?_
  refine SC.condP rfl ?_ ?_
  rotate_left
  · intro hc14
    refine SC.exit ?_
    refine SE.then_ (by intro h; cases h) ?_
    refine SE.then_ (by intro h; cases h) ?_
    refine SE.exit ?_
    refine SE.seq ?_
    refine SC.seq (SC.region ?_)
    refine SL.val (Val.assign rfl) rfl rfl ?_
    refine SL.nil (SE.seq ?_)
    refine SC.ret ?_
    refine SE.ret1 rfl rfl ?_
    intro w' hw'
    refine ⟨?_, hw'⟩; congr 2; refine (decide_eq_true ?_).symm; rw [List.take_of_length_le (by omega), List.take_of_length_le (by omega)] at hk2; exact hk2
  intro hc14
  have hlt : k < es.length := by omega
  have hlt2 : k < fs.length := by omega
  obtain ⟨bb, off, rfl⟩ := hA (by intro h0; rw [h0] at hlt; simp at hlt)
  obtain ⟨bb2, off2, rfl⟩ := hB (by intro h0; rw [h0] at hlt2; simp at hlt2)
  refine SC.skip ?_
  refine SE.seq ?_
  refine SC.seq ?_
  refine SC.block ?_
  refine SC.seq (SC.region ?_)
  refine SL.val (Val.move rfl) rfl rfl ?_
  refine SL.val (Val.assign rfl) rfl rfl ?_
  refine SL.nil (SE.seq ?_)
  refine SC.seq ?_
  refine SC.draw _ (.q 0 (.q 1 (.q 2 (.q 3 (.q 4 (.q 5 (.q 6 (.q 7 (.q 8 .nil))))))))) (by kernel_rfl) (by kernel_rfl) (fun _ h => h) (fun _ h => h.drew) ?_
  refine SX.val rfl (Val.move rfl) rfl rfl ?_
  refine SX.val rfl (Val.move rfl) rfl rfl ?_
  first
    | refine SX.val rfl (Val.indexSlN tabOk Try.underlying22 rfl rfl rfl (by omega)) rfl rfl ?_
    | refine SX.val rfl (Val.indexSl tabOk Try.underlying22 rfl rfl rfl (by omega)) rfl rfl ?_
  refine SX.val rfl (Val.loadAD (f := Ent.cells) tabOk rfl rfl rfl (by repeat (first | assumption | exact List.mem_cons_self | exact hmem _ | apply List.mem_cons_of_mem)) (fun _ => rfl) hlt) rfl rfl ?_
  refine SX.val rfl (Val.move rfl) rfl rfl ?_
  refine SX.val rfl (Val.move rfl) rfl rfl ?_
  first
    | refine SX.val rfl (Val.indexSlN tabOk Try.underlying22 rfl rfl rfl (by omega)) rfl rfl ?_
    | refine SX.val rfl (Val.indexSl tabOk Try.underlying22 rfl rfl rfl (by omega)) rfl rfl ?_
  refine SX.val rfl (Val.loadAD (f := Ent.cells) tabOk rfl rfl rfl (by repeat (first | assumption | exact List.mem_cons_self | exact hmem _ | apply List.mem_cons_of_mem)) (fun _ => rfl) hlt2) rfl rfl ?_
  refine SX.val rfl (Val.neA rfl rfl (by kernel_rfl) (neqE (h1 _ (List.getElem_mem hlt)) (h2 _ (List.getElem_mem hlt2)))) rfl rfl ?_
  refine SX.nil (SE.seq ?_)
  refine SC.condP rfl ?_ ?_
  rotate_left
  · intro hc24
    refine SC.skip ?_
    refine SE.inBlock ?_
    refine SE.seq ?_
    refine SC.region ?_
    first
      | refine SL.val (Val.addI rfl rfl (by simp only [InR, lo, hi]; omega)) rfl rfl ?_
      | refine SL.val (Val.addW rfl rfl) rfl rfl ?_
    refine SL.val (Val.move rfl) rfl rfl ?_
    refine SL.nil ?_
    exact SE.round (k + 1) (by omega) (by exact ⟨rfl, rfl, rfl, rfl, trivial⟩) (fun w' hw' => ⟨⟨hlt, take_succ_eq hk2 hlt hlt2 (Decidable.not_not.1 hc24)⟩, hw'⟩)
  intro hc24
  refine SC.seq (SC.region ?_)
  refine SL.val (Val.assign rfl) rfl rfl ?_
  refine SL.nil (SE.seq ?_)
  refine SC.ret ?_
  refine SE.ret ?_
  refine SE.then_ (by intro h; cases h) ?_
  refine SE.then_ (by intro h; cases h) ?_
  refine SE.ret ?_
  refine SE.then_ (by intro h; cases h) ?_
  refine SE.ret1 rfl rfl ?_
  intro w' hw'
  refine ⟨?_, hw'⟩; congr 2; refine (decide_eq_false (fun h => hc24 ?_)).symm; subst h; rfl

theorem same_c {v u : Value} {es fs : List Ent} (hw : Mem S σ ρ w) (he : entsD v es ∈ ρ) (hf : entsD u fs ∈ ρ) (hl : es.length ≤ 1000000) (h1 : ∀ e ∈ es, e.Lits) (h2 : ∀ e ∈ fs, e.Lits) : Calls Try.prog 20 #[v, u] w fun e w' => e = .returned (.bool (decide (es = fs))) ∧ Mem S σ ρ w' := by
  refine calls_of [v, u] Try.func20 rfl Try.ntmps20 rfl (Mem S σ ρ) hw ?_
  refine SC.seq (SC.region ?_)
  refine SL.val (Val.assign rfl) rfl rfl ?_
  refine SL.nil (SE.seq ?_)
  refine SC.seq (SC.region ?_)
  refine SL.val (Val.move rfl) rfl rfl ?_
  refine SL.val (Val.move rfl) rfl rfl ?_
  refine SL.call (by kernel_rfl) rfl rfl rfl ?_
  intro w hw
  refine (equal_c hw he hf hl h1 h2).mono ?_; rintro _ _ ⟨rfl, hm⟩; refine ⟨_, _, rfl, hm, ?_⟩; clear hm hw w
  refine SL.val (Val.assign rfl) rfl rfl ?_
  refine SL.nil (SE.seq ?_)
  refine SC.ret ?_
  refine SE.ret1 rfl rfl ?_
  intro w' hw'
  exact ⟨rfl, hw'⟩

/-! ### The document's Parse -/
theorem sg_in (x : Nat) : InR .i64 (sg x) := by
  unfold sg
  simp [InR, lo, hi, IntKind.wrap, IntKind.bits, IntKind.signed]
  split <;> omega
theorem txtB_size (l : List UInt8) : (txtB l).size = l.length := rfl
theorem Rd.core_lits (s : Rd) (most : Int) {m : Nat} (hm : m < 4294967296) (h : s.l.length ≤ maxLen) : (⟨s.core most, m⟩ : Ent).Lits := by
  have n1 := s.num_lt (n := 1) (k := 1) (Nat.le_refl _)
  have n2 := ((s.fixed 1).fixed 8).num_lt (n := 1) (k := 1) (Nat.le_refl _)
  have h1 := s.fixed_length 1
  have h2 := (s.fixed 1).fixed_length 8
  have h3 : s.c3.l.length ≤ ((s.fixed 1).fixed 8).l.length := ((s.fixed 1).fixed 8).fixed_length 1
  have h4 : (s.c4 most).l.length ≤ s.c3.l.length := s.c3.row_length _
  have h5 := (s.c4 most).fixed_length 8
  have h6 : (s.c6 most).l.length ≤ ((s.c4 most).fixed 8).l.length := ((s.c4 most).fixed 8).fixed_length 8
  have h7 := s.c3.rowOut_length most
  have h8 := (s.c6 most).rowOut_length most
  refine ⟨?_, sg_in _, ?_, sg_in _, sg_in _, ?_, ?_, hm⟩
  · show InR .i64 (s.num 1 : Nat)
    simp only [InR, lo, hi]; omega
  · show InR .i64 (((s.fixed 1).fixed 8).num 1 : Nat)
    simp only [InR, lo, hi]; omega
  · show (txtB (s.c3.rowOut most)).size ≤ maxLen
    rw [txtB_size]; omega
  · show (txtB ((s.c6 most).rowOut most)).size ≤ maxLen
    rw [txtB_size]; omega
theorem coreOf_lits {l : List UInt8} {most : Int} {m : Nat} (hm : m < 4294967296) (h : l.length ≤ maxLen) : (⟨coreOf l most, m⟩ : Ent).Lits := Rd.core_lits (Rd.of l) most hm h
/-- What is so of all entries that are read. -/
theorem rents_all (Q : Ent → Prop) {B : Nat} (hQ : ∀ (l : List UInt8) (m : Nat), l.length ≤ B → m < 256 → Q ⟨coreOf l 1048576, m⟩) : ∀ (k : Nat) (s : Rd) (acc : List Ent) (ok : Bool), s.l.length ≤ B → (∀ e ∈ acc, Q e) → ∀ e ∈ (s.rents k acc ok).1, Q e
  | 0, _, _, _, _, h => h
  | k + 1, s, acc, ok, hs, h => by
    simp only [Rd.rents]
    split
    · exact h
    · have h1 := s.rowOut_length 1048576
      have h2 := s.row_length 1048576
      have h3 := (s.row 1048576).fixed_length 1
      have h4 := (s.row 1048576).num_lt (n := 1) (k := 1) (Nat.le_refl _)
      refine rents_all Q hQ k _ _ _ (by omega) fun e he => ?_
      rcases List.mem_append.1 he with he | he
      · exact h e he
      · rw [List.mem_singleton.1 he]
        exact hQ _ _ (by omega) (by omega)
theorem rents_length : ∀ (k : Nat) (s : Rd) (acc : List Ent) (ok : Bool), (s.rents k acc ok).1.length ≤ acc.length + k
  | 0, _, _, _ => by simp [Rd.rents]
  | k + 1, s, acc, ok => by
    simp only [Rd.rents]
    split
    · show acc.length ≤ _; omega
    · have := rents_length k ((s.row 1048576).fixed 1) (acc ++ [⟨coreOf (s.rowOut 1048576) 1048576, (s.row 1048576).num 1⟩]) (ok && okOf (s.rowOut 1048576) 1048576)
      simp only [List.length_append, List.length_singleton] at this
      omega
theorem rents_as : ∀ (k : Nat) (s t : Rd) (acc : List Ent) (ok : Bool), s.as t → (s.rents k acc ok).1 = (t.rents k acc ok).1 ∧ (s.rents k acc ok).2.1 = (t.rents k acc ok).2.1 ∧ (s.rents k acc ok).2.2.as (t.rents k acc ok).2.2
  | 0, _, _, _, _, h => ⟨rfl, rfl, h⟩
  | k + 1, s, t, acc, ok, h => by
    have he : s.e = t.e := by first | exact h.1 | exact h.2
    simp only [Rd.rents, he, h.rowOut, (h.row 1048576).num]
    split
    · exact ⟨rfl, rfl, h⟩
    · exact rents_as k _ _ _ _ ((h.row 1048576).fixed 1)
def rparse2 (n : Int) (t : List Ent × Bool × Rd) : List Ent × Int :=
  if t.2.2.end_ ≠ 0 ∨ t.2.1 = false then ([], 2) else if chkB t.1 n ≠ 0 then ([], chkB t.1 n) else (t.1, 0)
def rparseS (l : List UInt8) (n : Int) : List Ent × Int := rparse2 n (((Rd.of l).fixed 2).rents ((Rd.of l).num 2) [] true)
theorem rparseS_at (v : Value) (l : List UInt8) (n : Int) : rparseS l n = rparse2 n (((⟨v, l, 0⟩ : Rd).fixed 2).rents ((⟨v, l, 0⟩ : Rd).num 2) [] true) := by
  obtain ⟨h1, h2, h3⟩ := rents_as ((Rd.of l).num 2) _ _ [] true ((of_as v l).fixed 2)
  rw [rparseS, (of_as v l).num, rparse2, rparse2, h1, h2, h3.end_]
theorem rbatchCheckOwn_c {v : Value} {es : List Ent} {n : Int} (hw : Mem S σ ρ w) (ho : ownE v es ∈ σ) (hl : es.length ≤ 1000000) (hs : ∀ e ∈ es, e.core.letter.size ≤ lots) : Calls Try.prog 24 #[v, .int .i64 n] w fun e w' => e = .returned (.int .i64 (chkB es n)) ∧ Mem S σ ρ w' :=
  (rbatchCheck_c ((Mem.start w).add (z := entsD v es) (ownsRow.isRow (hw.hold _ ho) (by simp))) List.mem_cons_self hl hs).mono fun _ _ ⟨h1, h2⟩ => ⟨h1, hw.same (h2.ext _ List.mem_cons_self)⟩

end
section
variable {S : List (World × List Nat)} {σ τ : Blks} {ρ : List Dt} {w : World} {P : Program} {n : Nat} {l : Slots} {D : World → Prop} {o : Oper} {v u : Value}
theorem Val.to (h : Val P n l D o v) (e : v = u) : Val P n l D o u := e ▸ h
theorem Mem.blkData {b k c : Nat} {e : TypeId} {L : List Value} (h : Mem S (.blk b (row e L) :: σ) ρ w) (hk : k ≤ c) (hc : c ≤ maxLen) : Mem S σ (rowD (.slice (some ⟨b, 0, none⟩) k c) k L :: ρ) w := by
  have h1 := h.blkRow (k := k) (c := c) List.mem_cons_self hk hc
  refine (h.sub (fun _ h => h) (List.sublist_cons_self _ _)).add ⟨h1.shape, fun hn => ?_⟩
  obtain ⟨b', off, n', c', hv, _, hcell⟩ := h1.cells hn
  refine ⟨b', off, n', c', hv, ?_, hcell⟩
  have h2 := h.nodup
  simp only [List.flatMap_cons, List.nodup_append] at h2
  intro hm
  simp only [Value.slice.injEq, Option.some.injEq, Addr.mk.injEq] at hv
  obtain ⟨⟨rfl, _⟩, _⟩ := hv
  exact h2.2.2 b (by simp [It.ids]) b hm rfl
/-- The same, of rows wherever they lie. -/
theorem same_at {K L : List Nat} {es fs : List Ent} (hw : Mem S σ ρ w) (he : IsRow K w v es.length (es.flatMap Ent.cells)) (hf : IsRow L w u fs.length (fs.flatMap Ent.cells)) (hl : es.length ≤ 1000000) (h1 : ∀ e ∈ es, e.Lits) (h2 : ∀ e ∈ fs, e.Lits) : Calls Try.prog 20 #[v, u] w fun e w' => e = .returned (.bool (decide (es = fs))) ∧ Mem S σ ρ w' :=
  (same_c (((Mem.start w).add (z := entsD v es) (he.grow (fun k hk => absurd hk (by simp)))).add (z := entsD u fs) (hf.grow (fun k hk => absurd hk (by simp)))) (by simp) (by simp) hl h1 h2).mono fun _ _ ⟨h3, h4⟩ => ⟨h3, hw.same (h4.ext _ List.mem_cons_self)⟩
theorem rsame_at {K L : List Nat} {es fs : List Ent} (hw : Mem S σ ρ w) (he : IsRow K w v es.length (es.flatMap Ent.cells)) (hf : IsRow L w u fs.length (fs.flatMap Ent.cells)) (hl : es.length ≤ 1000000) (h1 : ∀ e ∈ es, e.Lits) (h2 : ∀ e ∈ fs, e.Lits) : Calls Try.prog 21 #[v, u] w fun e w' => e = .returned (.bool (decide (es = fs))) ∧ Mem S σ ρ w' :=
  (rsame_c (((Mem.start w).add (z := entsD v es) (he.grow (fun k hk => absurd hk (by simp)))).add (z := entsD u fs) (hf.grow (fun k hk => absurd hk (by simp)))) (by simp) (by simp) hl h1 h2).mono fun _ _ ⟨h3, h4⟩ => ⟨h3, hw.same (h4.ext _ List.mem_cons_self)⟩
theorem Mem.ownRow {e : TypeId} {size k : Nat} {cs : List Value} (hw : Mem S σ ρ w) (ho : It.pc (ownPc e size v k cs) ∈ σ) : IsRow [] w v k cs := ownsRow.isRow (hw.hold _ ho) (by simp)

end
end Go.Proofs.Ytpgffckfbgfgcaa
/-
  Batches, in plain Lean: the program's Parse answers as the document's.
-/
set_option maxRecDepth 100000
namespace Go.Proofs.Ytpgffckfbgfgcaa
open Go.RowKit

theorem Rd.fixed_bad {s : Rd} (h : s.e ≠ 0) (n : Int) : s.fixed n = s := if_pos h
theorem Rd.row_bad {s : Rd} (h : s.e ≠ 0) (m : Int) : s.row m = s := by
  unfold Rd.row
  rw [Rd.fixed_bad h, if_pos h]
theorem Rd.end_bad {s : Rd} (h : s.e ≠ 0) : s.end_ ≠ 0 := by
  unfold Rd.end_
  rw [if_neg (fun h2 => h h2.1)]
  exact h
theorem Rd.fixed_ok {s : Rd} {n : Int} (h : (s.fixed n).e = 0) : s.e = 0 ∧ 0 ≤ n ∧ n ≤ s.l.length ∧ s.fixed n = ⟨tailV s.v n.toNat, s.l.drop n.toNat, 0⟩ := by
  by_cases he : s.e = 0
  · by_cases hb : s.bad n
    · rw [Rd.fixed, if_neg (by simpa using he), if_pos hb] at h
      exact absurd h (by show ¬ (2 : Int) = 0; decide)
    · rw [Rd.fixed, if_neg (by simpa using he), if_neg hb]
      unfold Rd.bad at hb
      exact ⟨he, by omega, by omega, rfl⟩
  · rw [Rd.fixed_bad he] at h
    exact absurd h he
theorem row_two {s : Rd} {L M : Int} (h1 : (s.l.length : Int) ≤ L) (h2 : L ≤ M) : ((s.row L).e ≠ 0 ∧ (s.row M).e ≠ 0) ∨ (s.row L = s.row M ∧ s.rowOut L = s.rowOut M) := by
  have h4 := s.fixed_length 4
  unfold Rd.row Rd.rowOut
  by_cases he : (s.fixed 4).e = 0
  · simp only [he, ne_eq, not_true_eq_false, if_false]
    by_cases hL : L < s.num 4
    · refine .inl ⟨?_, ?_⟩
      · rw [if_pos hL]; show ¬ (3 : Int) = 0; decide
      · split
        · show ¬ (3 : Int) = 0; decide
        · rw [Rd.fixed, if_neg (by simpa using he), if_pos (show (s.fixed 4).bad _ from Or.inr (by omega))]
          show ¬ (2 : Int) = 0; decide
    · refine .inr ?_
      have hM : ¬ M < s.num 4 := by omega
      simp only [hL, hM, if_false, and_self]
  · refine .inl ?_
    rw [if_pos he, if_pos he]
    exact ⟨he, he⟩
theorem row_less {s : Rd} {L : Int} (h : (s.row L).e = 0) : (s.row L).l.length + 4 ≤ s.l.length := by
  unfold Rd.row at h ⊢
  by_cases he : (s.fixed 4).e = 0
  · obtain ⟨_, _, h3, h4⟩ := Rd.fixed_ok he
    rw [if_neg (by simpa using he)] at h ⊢
    split at h
    · exact absurd h (by show ¬ (3 : Int) = 0; decide)
    · rename_i hn
      rw [if_neg hn]
      have h5 := (s.fixed 4).fixed_length (s.num 4)
      have h6 : (s.fixed 4).l.length = s.l.length - 4 := by rw [h4]; simp
      omega
  · rw [if_pos he] at h
    exact absurd h he
theorem core_two {s : Rd} {L M : Int} (h1 : (s.l.length : Int) ≤ L) (h2 : L ≤ M) : ((s.coreEnd L).e ≠ 0 ∧ (s.coreEnd M).e ≠ 0) ∨ (s.coreEnd L = s.coreEnd M ∧ s.core L = s.core M) := by
  have l1 := s.fixed_length 1
  have l2 := (s.fixed 1).fixed_length 8
  have l3 : s.c3.l.length ≤ ((s.fixed 1).fixed 8).l.length := ((s.fixed 1).fixed 8).fixed_length 1
  have l4 : (s.c4 L).l.length ≤ s.c3.l.length := s.c3.row_length _
  have l5 := (s.c4 L).fixed_length 8
  have l6 : (s.c6 L).l.length ≤ ((s.c4 L).fixed 8).l.length := ((s.c4 L).fixed 8).fixed_length 8
  have bad : ∀ m, (s.c4 m).e ≠ 0 → (s.coreEnd m).e ≠ 0 := fun m h => by
    have e6 : s.c6 m = s.c4 m := by unfold Rd.c6; rw [Rd.fixed_bad h, Rd.fixed_bad h]
    unfold Rd.coreEnd
    rw [e6, Rd.row_bad h]
    exact h
  rcases row_two (s := s.c3) (L := L) (M := M) (by omega) h2 with ⟨a, b⟩ | ⟨a, b⟩
  · exact .inl ⟨bad L a, bad M b⟩
  · have a' : s.c4 L = s.c4 M := a
    have a6 : s.c6 L = s.c6 M := by unfold Rd.c6; rw [a']
    rcases row_two (s := s.c6 L) (L := L) (M := M) (by omega) h2 with ⟨c, d⟩ | ⟨c, d⟩
    · exact .inl ⟨c, by unfold Rd.coreEnd; rw [← a6]; exact d⟩
    · refine .inr ⟨by unfold Rd.coreEnd; rw [← a6]; exact c, ?_⟩
      unfold Rd.core
      rw [b, a', ← a6, d]
theorem okOf_two {r : List UInt8} {M : Int} (h : (r.length : Int) ≤ M) : (okOf r r.length = false ∧ okOf r M = false) ∨ (okOf r r.length = okOf r M ∧ coreOf r r.length = coreOf r M) := by
  rcases core_two (s := Rd.of r) (L := r.length) (M := M) (Int.le_refl _) h with ⟨a, b⟩ | ⟨a, b⟩
  · refine .inl ⟨decide_eq_false ?_, decide_eq_false ?_⟩
    · exact Rd.end_bad a
    · exact Rd.end_bad b
  · refine .inr ⟨?_, b⟩
    unfold okOf
    rw [a]
/-- Once a reader has failed, nothing comes of it. -/
theorem ents_bad {n most : Int} : ∀ (k : Nat) {s : Rd} (acc : List Ent), s.e ≠ 0 → parse2 n (s.ents most k acc) = ([], 2)
  | 0, s, acc, h => by
    simp only [Rd.ents, parse2]
    rw [if_pos (Rd.end_bad h)]
  | k + 1, s, acc, h => by
    simp only [Rd.ents]
    split
    · rfl
    · refine ents_bad k _ ?_
      rw [Rd.row_bad h, Rd.fixed_bad h]
      exact h
theorem rents_bad {n : Int} (k : Nat) {s : Rd} (acc : List Ent) (ok : Bool) (h : s.e ≠ 0) : rparse2 n (s.rents k acc ok) = ([], 2) := by
  rw [rents_stop h, rparse2, if_pos (.inl (Rd.end_bad h))]
theorem rents_flag : ∀ (k : Nat) (s : Rd) (acc : List Ent), (s.rents k acc false).2.1 = false
  | 0, _, _ => rfl
  | k + 1, s, acc => by
    simp only [Rd.rents, Bool.false_and]
    split
    · rfl
    · exact rents_flag k _ _
theorem parse_steps {n L : Int} (hL : L ≤ 1048576) : ∀ (k j : Nat) (s : Rd) (acc : List Ent), s.e = 0 → (s.l.length : Int) ≤ L → (k = j ∨ (s.l.length < k ∧ s.l.length < j)) → parse2 n (s.ents L k acc) = rparse2 n (s.rents j acc true)
  | 0, j, s, acc, he, hs, hk => by
    have : j = 0 := by omega
    subst this
    simp only [Rd.ents, Rd.rents, parse2, rparse2]
    by_cases h1 : s.end_ = 0 <;> by_cases h2 : chkB acc n = 0 <;> simp [h1, h2]
  | k + 1, j, s, acc, he, hs, hk => by
    obtain ⟨i, rfl⟩ : ∃ i, j = i + 1 := ⟨j - 1, by omega⟩
    simp only [Rd.ents, Rd.rents]
    rw [if_neg (by simpa using he : ¬ s.e ≠ 0)]
    rcases row_two (s := s) hs hL with ⟨a, b⟩ | ⟨a, b⟩
    · rw [rents_bad i _ _ (by rw [Rd.fixed_bad b]; exact b)]
      split
      · rfl
      · exact ents_bad k _ (by rw [Rd.fixed_bad a]; exact a)
    · rw [← a, ← b]
      have h5 := s.rowOut_length L
      have h6 := (s.row L).fixed_length 1
      by_cases he1 : ((s.row L).fixed 1).e = 0
      · have h7 := Rd.fixed_ok he1
        have h8 := row_less h7.1
        rcases okOf_two (r := s.rowOut L) (M := 1048576) (by omega) with ⟨c, d⟩ | ⟨c, d⟩
        · rw [if_pos c, d, Bool.true_and, rparse2, if_pos (.inr (rents_flag _ _ _))]
          rfl
        · rw [← c, ← d]
          split
          · rename_i hc
            rw [hc, Bool.true_and, rparse2, if_pos (.inr (rents_flag _ _ _))]
            rfl
          · rename_i hc
            rw [Bool.not_eq_false] at hc
            rw [hc, Bool.true_and]
            exact parse_steps hL k i _ _ he1 (by omega) (by omega)
      · rw [rents_bad i _ _ he1]
        split
        · rfl
        · exact ents_bad k _ he1
/-- The program's Parse and the document's answer alike. -/
theorem parse_two {l : List UInt8} {n : Int} (hl : l.length ≤ 1000000) : parseS l n = rparseS l n := by
  unfold parseS rparseS
  by_cases he : ((Rd.of l).fixed 2).e = 0
  · have h1 := (Rd.of l).fixed_length 2
    have h2 : (Rd.of l).l = l := rfl
    rw [h2] at h1
    refine parse_steps (by omega) _ _ _ _ he (by omega) ?_
    unfold manyOf
    omega
  · rw [ents_bad _ _ he, rents_bad _ _ _ he]
end Go.Proofs.Ytpgffckfbgfgcaa
/-
  The second engine: the contracts of batches, as they stand.
-/
set_option maxRecDepth 100000
set_option linter.unusedSimpArgs false
set_option linter.unusedVariables false
namespace Go.Proofs.Ytpgffckfbgfgcaa.A
open Go.RowKit

abbrev entsA (es : List Ent) : Abs := flat 8 Ent.cells es
theorem ent8 (e : Ent) : e.cells.length = 8 := rfl
section
variable {K : List Nat} {w : World} {v u : Value} {es fs : List Ent} {n : Int} {l : List UInt8} {p : Nat} {s : Rd}
theorem ent2 {ρ : List Dt} {σ2 : Proofs.Ytpgffckfbgfgcaa.Blks} {w' : World} (h : Proofs.Ytpgffckfbgfgcaa.Mem [(w, K)] (old2 w K :: σ2) ρ w') : ∀ k, k < w.heap.size → k ∈ K → k ∈ (old2 w K :: σ2).flatMap Proofs.Ytpgffckfbgfgcaa.It.ids := fun k hk hm => by
  simp only [List.flatMap_cons, List.mem_append]
  exact .inl (old2_ids.2 ⟨hk, hm⟩)
theorem bbytes_s (hl : es.length ≤ 1000000) (hf : ∀ e ∈ es, e.Few) : Pure Try.prog 105 [entsA es] (byt (batchB es)) := Pure.of2 fun K w vals hK hv => by
  obtain ⟨v, us', rfl, h1, h2⟩ := hv
  have h2 : us' = [] := h2
  subst h2
  refine (batchBytes_c ((enter2 w K).add (z := entsD v es) (row2 ((rep_flat ent8).1 h1))) (by simp) hl hf).mono fun e w' ⟨r, he, hm⟩ => ⟨r, he, leave2 hm (by simp), rep_byt.2 (row3 hK (ent2 hm) (hm.data (z := bytesD r _) (by simp)))⟩
theorem rbbytes_s (hl : es.length ≤ 1000000) (hf : ∀ e ∈ es, e.Few) : Pure Try.prog 23 [entsA es] (byt (batchB es)) := Pure.of2 fun K w vals hK hv => by
  obtain ⟨v, us', rfl, h1, h2⟩ := hv
  have h2 : us' = [] := h2
  subst h2
  refine (rbatchBytes_c ((enter2 w K).add (z := entsD v es) (row2 ((rep_flat ent8).1 h1))) (by simp) hl hf).mono fun e w' ⟨r, he, hm⟩ => ⟨r, he, leave2 hm (by simp), rep_byt.2 (row3 hK (ent2 hm) (hm.data (z := bytesD r _) (by simp)))⟩
theorem bcheck_s (hl : es.length ≤ 1000000) : Pure Try.prog 106 [entsA es, int n] (int (chkB es n)) := Pure.of2 fun K w vals hK hv => by
  obtain ⟨v, us', rfl, h1, h2⟩ := hv
  have h2 := (reps_plain (us := [.int .i64 n])).1 h2
  subst h2
  refine (batchCheck_c ((enter2 w K).add (z := entsD v es) (row2 ((rep_flat ent8).1 h1))) (by simp) hl).mono fun e w' ⟨he, hm⟩ => ⟨_, he, leave2 hm (by simp), rfl⟩
theorem rbcheck_s (hl : es.length ≤ 1000000) (hs : ∀ e ∈ es, e.core.letter.size ≤ lots) : Pure Try.prog 24 [entsA es, int n] (int (chkB es n)) := Pure.of2 fun K w vals hK hv => by
  obtain ⟨v, us', rfl, h1, h2⟩ := hv
  have h2 := (reps_plain (us := [.int .i64 n])).1 h2
  subst h2
  refine (rbatchCheck_c ((enter2 w K).add (z := entsD v es) (row2 ((rep_flat ent8).1 h1))) (by simp) hl hs).mono fun e w' ⟨he, hm⟩ => ⟨_, he, leave2 hm (by simp), rfl⟩
theorem bsame_s (hl : es.length ≤ 1000000) (h1 : ∀ e ∈ es, e.Lits) (h2 : ∀ e ∈ fs, e.Lits) : Pure Try.prog 20 [entsA es, entsA fs] (boo (decide (es = fs))) := Pure.of2 fun K w vals hK hv => by
  obtain ⟨v, us', rfl, g1, u, us2, rfl, g2, g3⟩ := hv
  have g3 : us2 = [] := g3
  subst g3
  refine (same_c (((enter2 w K).add (z := entsD v es) (row2 ((rep_flat ent8).1 g1))).add (z := entsD u fs) (row2 ((rep_flat ent8).1 g2))) (by simp) (by simp) hl h1 h2).mono fun e w' ⟨he, hm⟩ => ⟨_, he, leave2 hm (by simp), rfl⟩
theorem rbsame_s (hl : es.length ≤ 1000000) (h1 : ∀ e ∈ es, e.Lits) (h2 : ∀ e ∈ fs, e.Lits) : Pure Try.prog 21 [entsA es, entsA fs] (boo (decide (es = fs))) := Pure.of2 fun K w vals hK hv => by
  obtain ⟨v, us', rfl, g1, u, us2, rfl, g2, g3⟩ := hv
  have g3 : us2 = [] := g3
  subst g3
  refine (rsame_c (((enter2 w K).add (z := entsD v es) (row2 ((rep_flat ent8).1 g1))).add (z := entsD u fs) (row2 ((rep_flat ent8).1 g2))) (by simp) (by simp) hl h1 h2).mono fun e w' ⟨he, hm⟩ => ⟨_, he, leave2 hm (by simp), rfl⟩
theorem own2_row {xs : List Ent} {r : Value} {w w' : World} {ρ : List Dt} (hK : ∀ k ∈ K, k < w.heap.size) (hm : Proofs.Ytpgffckfbgfgcaa.Mem [(w, K)] (ownE r xs :: [old2 w K]) ρ w') : IsRow K w' r xs.length (xs.flatMap Ent.cells) := by
  have h1 := hm.freeze.data (z := rowD r xs.length (xs.flatMap Ent.cells)) (by simp)
  exact row3 hK (ent2 hm.freeze) h1
theorem bparse_s (hl : l.length ≤ 10000000) : Pure Try.prog 104 [byt l, int n] (.tup [entsA (parseS l n).1, int (parseS l n).2]) := Pure.of2 fun K w vals hK hv => by
  obtain ⟨v, us', rfl, h1, h2⟩ := hv
  have h2 := (reps_plain (us := [.int .i64 n])).1 h2
  subst h2
  refine (parse_own ((enter2 w K).add (z := bytesD v l) (row2 (rep_byt.1 h1))) (by simp) hl).mono fun e w' ⟨r, he, hm⟩ => ⟨_, he, leave2 hm (by simp), ⟨_, rfl, _, _, rfl, (rep_flat ent8).2 (own2_row hK hm), _, _, rfl, rfl, rfl⟩⟩
/-- The document's Read of entries. -/
def Rd.ens (s : Rd) : List Ent × Bool × Rd := (s.fixed 2).rents (s.num 2) [] true
theorem ens_as {s t : Rd} (h : s.as t) : (Rd.ens s).1 = (Rd.ens t).1 ∧ (Rd.ens s).2.1 = (Rd.ens t).2.1 ∧ (Rd.ens s).2.2.as (Rd.ens t).2.2 := by
  unfold Rd.ens
  rw [h.num]
  exact rents_as _ _ _ _ _ (h.fixed 2)
theorem rbread_s (hl : s.l.length ≤ lots) : Spec Try.prog 227 [ptr p] [rdA RR p s] (fun _ : Unit => [rdA RR p (Rd.ens s).2.2]) (fun _ => .tup [entsA (Rd.ens s).1, boo (Rd.ens s).2.1]) :=
  Spec.ofRdG (vals := [pv p]) fun S σ2 ρ w v hw hd => (rread_own hw .here hd hl).mono fun e w' ⟨r, h1, h2⟩ => by
    obtain ⟨e1, e2, e3⟩ := ens_as (as_mk v s)
    have h3 := h2.freeze
    refine ⟨_, _, _, h1, rdI_as e3 ▸ h3, ?_, fun K' hK => ⟨_, rfl, r, _, rfl, ?_, _, _, rfl, ?_, rfl⟩⟩
    · rw [← e3.1]; simp [Rd.ens]
    · rw [← e1]; exact (rep_flat ent8).2 (hK _ _ _ List.mem_cons_self)
    · show _ = Value.bool _
      rw [← e2]; rfl
end
end Go.Proofs.Ytpgffckfbgfgcaa.A
