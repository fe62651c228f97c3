/-
  Batches, read whole: the document's, over the engine.
-/
import Derived.Test.YtdbeinbgekdnmaaBatch4
set_option maxRecDepth 100000
namespace Go.Proofs.Ytdbeinbgekdnmaa
open Go.RowKit

/-- Entries as the document reads them: as long as nothing failed. -/
def Rd.rents : Nat → Rd → List Ent → Bool → List Ent × Bool × Rd
  | 0, s, acc, ok => (acc, ok, s)
  | k + 1, s, acc, ok => if s.e ≠ 0 then (acc, ok, s) else Rd.rents k ((s.row 1048576).fixed 1) (acc ++ [⟨coreOf (s.rowOut 1048576) 1048576, (s.row 1048576).num 1⟩]) (ok && okOf (s.rowOut 1048576) 1048576)
theorem rents_stop {s : Rd} {acc : List Ent} {ok : Bool} (h : s.e ≠ 0) : ∀ k, s.rents k acc ok = (acc, ok, s)
  | 0 => rfl
  | k + 1 => by simp only [Rd.rents, if_pos h]
theorem Upd.fn {x y : It} {σ τ : Blks} (h : Upd x y σ τ) : ∃ rep : It → Blks, rep x = σ ∧ rep y = τ ∧ ∀ a b, Upd a b (rep a) (rep b) := by
  induction h with
  | here => exact ⟨fun a => a :: _, rfl, rfl, fun a b => .here⟩
  | @there z σ0 τ0 _ ih =>
    obtain ⟨rep, h1, h2, h3⟩ := ih
    exact ⟨fun a => z :: rep a, by show z :: rep x = _; rw [h1], by show z :: rep y = _; rw [h2], fun a b => .there (h3 a b)⟩
section
variable {S : List (World × List Nat)} {σ τ : Blks} {ρ : List Dt} {w : World} {p : Nat} {s : Rd}
theorem Mem.swap {x y : It} (h : Mem S (x :: y :: σ) ρ w) : Mem S (y :: x :: σ) ρ w := by
  have hp : ((x :: y :: σ).flatMap It.ids).Perm ((y :: x :: σ).flatMap It.ids) := by
    simp only [List.flatMap_cons, ← List.append_assoc]
    exact List.Perm.append_right _ List.perm_append_comm
  refine ⟨h.ext, fun z hz => h.out z ?_, hp.nodup_iff.1 h.nodup, fun z hz => h.hold z ?_, fun z hz => z.grow _ _ w (fun k hk => .inl (hp.mem_iff.2 hk)) (h.dat z hz)⟩
  all_goals
    simp only [List.mem_cons] at hz ⊢
    rcases hz with h1 | h1 | h1 <;> simp [h1]

set_option maxHeartbeats 4000000 in
theorem rread_own (hw : Mem S σ ρ w) (hu : Upd (rdI 158 p s) (rdI 158 p ((s.fixed 2).rents (s.num 2) [] true).2.2) σ τ) (hv : bytesD s.v s.l ∈ ρ) (hl : s.l.length ≤ lots) :
    Calls Try.prog 122 #[.pointer (some ⟨p, 0, none⟩)] w fun e w' => ∃ r, e = .returned (.tuple #[r, .bool ((s.fixed 2).rents (s.num 2) [] true).2.1]) ∧ Mem S (ownE r ((s.fixed 2).rents (s.num 2) [] true).1 :: τ) (bytesD ((s.fixed 2).rents (s.num 2) [] true).2.2.v ((s.fixed 2).rents (s.num 2) [] true).2.2.l :: ρ) w' := by
  have hL : lots = 100000000000 := rfl
  have hnum := s.num_lt (n := 2) (k := 2) (Nat.le_refl _)
  obtain ⟨rep, rfl, rfl, hrep⟩ := hu.fn
  have hmem : ∀ a, a ∈ rep a := fun a => (hrep a a).mem
  refine calls_of [.pointer (some ⟨p, 0, none⟩)] Try.func122 rfl Try.ntmps122 rfl (Mem S (rep (rdI 158 p s)) ρ) hw ?_
  refine SC.seq ?_
  refine SC.region ?_
  refine SL.val (Val.assign rfl) rfl rfl ?_
  refine SL.val (Val.assign rfl) rfl rfl ?_
  refine SL.nil ?_
  refine SE.seq ?_
  refine SC.seq ?_
  refine SC.region ?_
  refine SL.val (Val.assign rfl) rfl rfl ?_
  refine SL.to (fun _ h => Mem.nilE h) ?_
  refine SL.nil ?_
  refine SE.seq ?_
  refine SC.seq ?_
  refine SC.region ?_
  refine SL.val (Val.assign rfl) rfl rfl ?_
  refine SL.nil ?_
  refine SE.seq ?_
  refine SC.seq ?_
  refine SC.seq ?_
  refine SC.region ?_
  refine SL.val (Val.move rfl) rfl rfl ?_
  refine SL.call (by kernel_rfl) rfl rfl rfl ?_
  intro w hw
  refine (rnumber_c (s := s) (n := 2) hw (by repeat (first | assumption | exact Upd.here | exact hrep _ _ | apply Upd.there)) (by repeat (first | assumption | exact List.mem_cons_self | exact hmem _ | apply List.mem_cons_of_mem)) hl rfl).mono ?_; rintro _ _ ⟨rfl, hm⟩; refine ⟨_, _, rfl, hm, ?_⟩; clear hm hw w
  refine SL.val (Val.convI rfl Try.underlying3 (by kernel_rfl) (by simp only [InR, lo, hi]; omega)) rfl rfl ?_
  refine SL.val (Val.assign rfl) rfl rfl ?_
  refine SL.nil ?_
  refine SE.seq ?_
  refine SC.block ?_
  refine SC.loop (ι := Rd × List Ent × Nat × Bool × Value) (fun z => [(0, .pointer (some ⟨p, 0, none⟩)), (4, z.2.2.2.2), (5, .bool z.2.2.2.1), (6, .int .i64 (z.2.2.1 : Nat))]) (fun z w' => (z.2.1.length + z.2.2.1 = s.num 2 ∧ z.1.l.length ≤ s.l.length ∧ z.1.rents z.2.2.1 z.2.1 z.2.2.2.1 = (s.fixed 2).rents (s.num 2) [] true) ∧ Mem S (ownE z.2.2.2.2 z.2.1 :: rep (rdI 158 p z.1)) (bytesD z.1.v z.1.l :: ρ) w') (fun z => z.2.2.1) (s.fixed 2, [], s.num 2, true, .slice none 0 0) (by exact ⟨rfl, rfl, rfl, rfl, trivial⟩) (fun w' hw' => ⟨⟨by simp, s.fixed_length 2, rfl⟩, hw'⟩) ?_
  intro z
  refine SC.facts ?_
  rintro ⟨f2, f3, f4⟩
  have n3 := (z.1.row 1048576).num_lt (n := 1) (k := 1) (Nat.le_refl _)
  have n4 : (z.1.rowOut 1048576).length ≤ z.1.l.length := z.1.rowOut_length _
  refine SC.seq ?_
  refine SC.seq ?_
  refine SC.region ?_
  refine SL.val (Val.move rfl) rfl rfl ?_
  refine SL.val (Val.gtI rfl rfl) rfl rfl ?_
  refine SL.val (Val.move rfl) rfl rfl ?_
  refine SL.bothP (t := 16) rfl ?_ ?_
  · intro hc16
    refine SL.val (Val.move rfl) rfl rfl ?_
    refine SL.val (Val.nilCheck rfl) rfl rfl ?_
    refine SL.val (Val.fieldAddr tabOk rfl rfl rfl rfl rfl) rfl rfl ?_
    first
      | refine SL.val (Val.load1 tabOk rfl rfl (by repeat (first | assumption | exact List.mem_cons_self | exact hmem _ | apply List.mem_cons_of_mem)) (by rfl)) rfl rfl ?_
      | refine SL.val (Val.load1C tabOk rfl rfl (by assumption)) rfl rfl ?_
    refine SL.val (Val.eqI rfl rfl) rfl rfl ?_
    refine SL.val (Val.pickT rfl rfl) rfl rfl ?_
    refine SL.nil ?_
    refine SE.seq ?_
    refine SC.condP rfl ?_ ?_
    · intro hc22
      have hc16b := hc22
      refine SC.skip ?_
      refine SE.seq ?_
      refine SC.seq ?_
      refine SC.block ?_
      refine SC.seq ?_
      refine SC.region ?_
      refine SL.val (Val.move rfl) rfl rfl ?_
      refine SL.call (by kernel_rfl) rfl rfl rfl ?_
      intro w hw
      refine (rrow_c (s := z.1) (most := 1048576) hw (by repeat (first | assumption | exact Upd.here | exact hrep _ _ | apply Upd.there)) (by repeat (first | assumption | exact List.mem_cons_self | exact hmem _ | apply List.mem_cons_of_mem)) (by omega) (by omega)).mono ?_; rintro _ _ ⟨rv, rfl, hm⟩; obtain ⟨Arow, crow, hrv, _⟩ := (hm.data List.mem_cons_self).shape; refine ⟨_, _, rfl, hm, ?_⟩; clear hm hw w
      refine SL.val (Val.assign rfl) rfl rfl ?_
      refine SL.nil ?_
      refine SE.seq ?_
      refine SC.seq ?_
      refine SC.region ?_
      refine SL.val (Val.move rfl) rfl rfl ?_
      refine SL.call (by kernel_rfl) rfl rfl rfl ?_
      intro w hw
      refine (rnumber_c (s := (z.1.row 1048576)) (n := 1) hw (by repeat (first | assumption | exact Upd.here | exact hrep _ _ | apply Upd.there)) (by repeat (first | assumption | exact List.mem_cons_self | exact hmem _ | apply List.mem_cons_of_mem)) (by have := z.1.row_length 1048576; omega) rfl).mono ?_; rintro _ _ ⟨rfl, hm⟩; have h1 := (⟨rv, (z.1.rowOut 1048576), 0⟩ : Rd).fixed_length 1; have h2 := ((⟨rv, (z.1.rowOut 1048576), 0⟩ : Rd).fixed 1).fixed_length 8; have h3 : ((⟨rv, (z.1.rowOut 1048576), 0⟩ : Rd).c3).l.length ≤ (((⟨rv, (z.1.rowOut 1048576), 0⟩ : Rd).fixed 1).fixed 8).l.length := (((⟨rv, (z.1.rowOut 1048576), 0⟩ : Rd).fixed 1).fixed 8).fixed_length 1; have h4 : ((⟨rv, (z.1.rowOut 1048576), 0⟩ : Rd).c4 1048576).l.length ≤ ((⟨rv, (z.1.rowOut 1048576), 0⟩ : Rd).c3).l.length := ((⟨rv, (z.1.rowOut 1048576), 0⟩ : Rd).c3).row_length _; have h5 := ((⟨rv, (z.1.rowOut 1048576), 0⟩ : Rd).c4 1048576).fixed_length 8; have h6 : ((⟨rv, (z.1.rowOut 1048576), 0⟩ : Rd).c6 1048576).l.length ≤ (((⟨rv, (z.1.rowOut 1048576), 0⟩ : Rd).c4 1048576).fixed 8).l.length := (((⟨rv, (z.1.rowOut 1048576), 0⟩ : Rd).c4 1048576).fixed 8).fixed_length 8; have n1 := (⟨rv, (z.1.rowOut 1048576), 0⟩ : Rd).num_lt (n := 1) (k := 1) (Nat.le_refl _); have n2 := (((⟨rv, (z.1.rowOut 1048576), 0⟩ : Rd).fixed 1).fixed 8).num_lt (n := 1) (k := 1) (Nat.le_refl _); dsimp only at h1; refine ⟨_, _, rfl, hm, ?_⟩; clear hm hw w
      refine SL.val (Val.convI rfl Try.underlying137 (by kernel_rfl) (by simp only [InR, lo, hi]; omega)) rfl rfl ?_
      refine SL.val (Val.assign rfl) rfl rfl ?_
      refine SL.nil ?_
      refine SE.seq ?_
      refine SC.seq ?_
      refine SC.region ?_
      refine SL.val (Val.move rfl) rfl rfl ?_
      refine SL.val (Val.buildS (L := [rv, .int .i64 0]) tabOk rfl rfl rfl (by rw [hrv]; rfl)) rfl rfl ?_
      refine SL.eff (Eff.boxA rfl) rfl rfl ?_
      rintro _ _ ⟨b32, rfl, rfl⟩
      refine SL.val (Val.assign rfl) rfl rfl ?_
      refine SL.nil ?_
      refine SE.seq ?_
      refine SC.cut (ι := Nat) (fun bb => [(0, .pointer (some ⟨p, 0, none⟩)), (4, z.2.2.2.2), (5, .bool z.2.2.2.1), (6, .int .i64 (z.2.2.1 : Nat)), (8, .int .u32 ((z.1.row 1048576).num 1 : Nat)), (9, .pointer (some ⟨b32, 0, none⟩)), (10, .pointer (some ⟨bb, 0, none⟩))]) (fun bb => Mem S (.blk bb (row 136 ((⟨rv, (z.1.rowOut 1048576), 0⟩ : Rd).core 1048576).cells) :: rdI 158 b32 ((⟨rv, (z.1.rowOut 1048576), 0⟩ : Rd).coreEnd 1048576) :: ownE z.2.2.2.2 z.2.1 :: rep (rdI 158 p ((z.1.row 1048576).fixed 1))) (bytesD ((⟨rv, (z.1.rowOut 1048576), 0⟩ : Rd).coreEnd 1048576).v ((⟨rv, (z.1.rowOut 1048576), 0⟩ : Rd).coreEnd 1048576).l :: bytesD ((z.1.row 1048576).fixed 1).v ((z.1.row 1048576).fixed 1).l :: ρ)) ?_ ?_
      · skip
        refine SC.draw (Mem S [] []) (.q 0 (.q 3 (.q 6 (.q 9 (.q 12 (.q 15 (.q 18 (.two 1 22 (.q 2 (.two 4 22 (.q 5 (.two 7 22 (.q 8 (.two 10 22 (.q 11 (.two 13 22 (.q 14 (.two 16 22 (.q 17 (.two 19 22 (.q 20 (.q 21 (.e 22 (.e 23 .nil)))) (.e 19 (.q 20 (.q 21 (.e 23 .nil)))))) (.e 16 (.q 17 (.e 19 (.q 20 (.q 21 (.e 23 .nil)))))))) (.e 13 (.q 14 (.e 16 (.q 17 (.e 19 (.q 20 (.q 21 (.e 23 .nil)))))))))) (.e 10 (.q 11 (.e 13 (.q 14 (.e 16 (.q 17 (.e 19 (.q 20 (.q 21 (.e 23 .nil)))))))))))) (.e 7 (.q 8 (.e 10 (.q 11 (.e 13 (.q 14 (.e 16 (.q 17 (.e 19 (.q 20 (.q 21 (.e 23 .nil)))))))))))))) (.e 4 (.q 5 (.e 7 (.q 8 (.e 10 (.q 11 (.e 13 (.q 14 (.e 16 (.q 17 (.e 19 (.q 20 (.q 21 (.e 23 .nil)))))))))))))))) (.e 1 (.q 2 (.e 4 (.q 5 (.e 7 (.q 8 (.e 10 (.q 11 (.e 13 (.q 14 (.e 16 (.q 17 (.e 19 (.q 20 (.q 21 (.e 23 .nil)))))))))))))))))))))))) (by kernel_rfl) (by kernel_rfl) (fun _ h => (h.sub (fun _ h => h) (List.nil_sublist _)).less (by repeat (first | exact (fun _ h => (List.not_mem_nil h).elim) | refine List.forall_mem_cons.2 ⟨(by repeat (first | assumption | exact List.mem_cons_self | exact hmem _ | apply List.mem_cons_of_mem)), ?_⟩))) (fun _ h => h.drew) ?_
        refine SX.val rfl (Val.move rfl) rfl rfl ?_
        refine SX.val rfl (Val.move rfl) rfl rfl ?_
        refine SX.val rfl (Val.move rfl) rfl rfl ?_
        refine SX.val rfl (Val.move rfl) rfl rfl ?_
        refine SX.val rfl (Val.move rfl) rfl rfl ?_
        refine SX.val rfl (Val.move rfl) rfl rfl ?_
        refine SX.val rfl (Val.move rfl) rfl rfl ?_
        refine SX.two ?_ ?_
        · skip
          refine SX.call rfl (by kernel_rfl) rfl rfl rfl ?_
          intro w hw
          refine (rnumber_c (s := (⟨rv, (z.1.rowOut 1048576), 0⟩ : Rd)) (n := 1) hw (by repeat (first | assumption | exact Upd.here | exact hrep _ _ | apply Upd.there)) (by repeat (first | assumption | exact List.mem_cons_self | exact hmem _ | apply List.mem_cons_of_mem)) (by (try dsimp only); omega) rfl).mono ?_; rintro _ _ ⟨rfl, hm⟩; refine ⟨_, _, rfl, hm, _, fun _ h => h, fun _ h => (h.sub (fun _ h => h) (List.nil_sublist _)).less (by repeat (first | exact (fun _ h => (List.not_mem_nil h).elim) | refine List.forall_mem_cons.2 ⟨(by repeat (first | assumption | exact List.mem_cons_self | exact hmem _ | apply List.mem_cons_of_mem)), ?_⟩)), ?_⟩; clear hm hw w
          refine SX.val rfl (Val.convI rfl Try.underlying3 (by kernel_rfl) (by simp only [InR, lo, hi]; omega)) rfl rfl ?_
          refine SX.two ?_ ?_
          · skip
            refine SX.call rfl (by kernel_rfl) rfl rfl rfl ?_
            intro w hw
            refine (rnumber_c (s := ((⟨rv, (z.1.rowOut 1048576), 0⟩ : Rd).fixed 1)) (n := 8) hw (by repeat (first | assumption | exact Upd.here | exact hrep _ _ | apply Upd.there)) (by repeat (first | assumption | exact List.mem_cons_self | exact hmem _ | apply List.mem_cons_of_mem)) (by (try dsimp only); omega) rfl).mono ?_; rintro _ _ ⟨rfl, hm⟩; refine ⟨_, _, rfl, hm, _, fun _ h => h, fun _ h => (h.sub (fun _ h => h) (List.nil_sublist _)).less (by repeat (first | exact (fun _ h => (List.not_mem_nil h).elim) | refine List.forall_mem_cons.2 ⟨(by repeat (first | assumption | exact List.mem_cons_self | exact hmem _ | apply List.mem_cons_of_mem)), ?_⟩)), ?_⟩; clear hm hw w
            refine SX.val rfl (Val.convW rfl Try.underlying2 (by kernel_rfl)) rfl rfl ?_
            refine SX.two ?_ ?_
            · skip
              refine SX.call rfl (by kernel_rfl) rfl rfl rfl ?_
              intro w hw
              refine (rnumber_c (s := (((⟨rv, (z.1.rowOut 1048576), 0⟩ : Rd).fixed 1).fixed 8)) (n := 1) hw (by repeat (first | assumption | exact Upd.here | exact hrep _ _ | apply Upd.there)) (by repeat (first | assumption | exact List.mem_cons_self | exact hmem _ | apply List.mem_cons_of_mem)) (by (try dsimp only); omega) rfl).mono ?_; rintro _ _ ⟨rfl, hm⟩; refine ⟨_, _, rfl, hm, _, fun _ h => h, fun _ h => (h.sub (fun _ h => h) (List.nil_sublist _)).less (by repeat (first | exact (fun _ h => (List.not_mem_nil h).elim) | refine List.forall_mem_cons.2 ⟨(by repeat (first | assumption | exact List.mem_cons_self | exact hmem _ | apply List.mem_cons_of_mem)), ?_⟩)), ?_⟩; clear hm hw w
              refine SX.val rfl (Val.convI rfl Try.underlying3 (by kernel_rfl) (by simp only [InR, lo, hi]; omega)) rfl rfl ?_
              refine SX.two ?_ ?_
              · skip
                refine SX.call rfl (by kernel_rfl) rfl rfl rfl ?_
                intro w hw
                refine (rrow_c (s := ((⟨rv, (z.1.rowOut 1048576), 0⟩ : Rd).c3)) (most := 1048576) hw (by repeat (first | assumption | exact Upd.here | exact hrep _ _ | apply Upd.there)) (by repeat (first | assumption | exact List.mem_cons_self | exact hmem _ | apply List.mem_cons_of_mem)) (by omega) (by omega)).mono ?_; rintro _ _ ⟨r, rfl, hm⟩; refine ⟨_, _, rfl, hm, Mem S [] (bytesD r (((⟨rv, (z.1.rowOut 1048576), 0⟩ : Rd).c3).rowOut 1048576) :: _), fun _ h => h.less (fun x hx => List.mem_cons_of_mem _ hx), fun _ h => (h.sub (fun _ h => h) (List.nil_sublist _)).less (by repeat (first | exact (fun _ h => (List.not_mem_nil h).elim) | refine List.forall_mem_cons.2 ⟨(by repeat (first | assumption | exact List.mem_cons_self | exact hmem _ | apply List.mem_cons_of_mem)), ?_⟩)), ?_⟩; clear hm hw w
                refine SX.val rfl (Val.strOf rfl (by repeat (first | assumption | exact List.mem_cons_self | exact hmem _ | apply List.mem_cons_of_mem))) rfl rfl ?_
                refine SX.two ?_ ?_
                · skip
                  refine SX.call rfl (by kernel_rfl) rfl rfl rfl ?_
                  intro w hw
                  refine (rnumber_c (s := ((⟨rv, (z.1.rowOut 1048576), 0⟩ : Rd).c4 1048576)) (n := 8) hw (by repeat (first | assumption | exact Upd.here | exact hrep _ _ | apply Upd.there)) (by repeat (first | assumption | exact List.mem_cons_self | exact hmem _ | apply List.mem_cons_of_mem)) (by (try dsimp only); omega) rfl).mono ?_; rintro _ _ ⟨rfl, hm⟩; refine ⟨_, _, rfl, hm, _, fun _ h => h, fun _ h => (h.sub (fun _ h => h) (List.nil_sublist _)).less (by repeat (first | exact (fun _ h => (List.not_mem_nil h).elim) | refine List.forall_mem_cons.2 ⟨(by repeat (first | assumption | exact List.mem_cons_self | exact hmem _ | apply List.mem_cons_of_mem)), ?_⟩)), ?_⟩; clear hm hw w
                  refine SX.val rfl (Val.convW rfl Try.underlying2 (by kernel_rfl)) rfl rfl ?_
                  refine SX.two ?_ ?_
                  · skip
                    refine SX.call rfl (by kernel_rfl) rfl rfl rfl ?_
                    intro w hw
                    refine (rnumber_c (s := (((⟨rv, (z.1.rowOut 1048576), 0⟩ : Rd).c4 1048576).fixed 8)) (n := 8) hw (by repeat (first | assumption | exact Upd.here | exact hrep _ _ | apply Upd.there)) (by repeat (first | assumption | exact List.mem_cons_self | exact hmem _ | apply List.mem_cons_of_mem)) (by (try dsimp only); omega) rfl).mono ?_; rintro _ _ ⟨rfl, hm⟩; refine ⟨_, _, rfl, hm, _, fun _ h => h, fun _ h => (h.sub (fun _ h => h) (List.nil_sublist _)).less (by repeat (first | exact (fun _ h => (List.not_mem_nil h).elim) | refine List.forall_mem_cons.2 ⟨(by repeat (first | assumption | exact List.mem_cons_self | exact hmem _ | apply List.mem_cons_of_mem)), ?_⟩)), ?_⟩; clear hm hw w
                    refine SX.val rfl (Val.convW rfl Try.underlying2 (by kernel_rfl)) rfl rfl ?_
                    refine SX.two ?_ ?_
                    · skip
                      refine SX.call rfl (by kernel_rfl) rfl rfl rfl ?_
                      intro w hw
                      refine (rrow_c (s := ((⟨rv, (z.1.rowOut 1048576), 0⟩ : Rd).c6 1048576)) (most := 1048576) hw (by repeat (first | assumption | exact Upd.here | exact hrep _ _ | apply Upd.there)) (by repeat (first | assumption | exact List.mem_cons_self | exact hmem _ | apply List.mem_cons_of_mem)) (by omega) (by omega)).mono ?_; rintro _ _ ⟨r, rfl, hm⟩; refine ⟨_, _, rfl, hm, Mem S [] (bytesD r (((⟨rv, (z.1.rowOut 1048576), 0⟩ : Rd).c6 1048576).rowOut 1048576) :: _), fun _ h => h.less (fun x hx => List.mem_cons_of_mem _ hx), fun _ h => (h.sub (fun _ h => h) (List.nil_sublist _)).less (by repeat (first | exact (fun _ h => (List.not_mem_nil h).elim) | refine List.forall_mem_cons.2 ⟨(by repeat (first | assumption | exact List.mem_cons_self | exact hmem _ | apply List.mem_cons_of_mem)), ?_⟩)), ?_⟩; clear hm hw w
                      refine SX.val rfl (Val.strOf rfl (by repeat (first | assumption | exact List.mem_cons_self | exact hmem _ | apply List.mem_cons_of_mem))) rfl rfl ?_
                      refine SX.val rfl (Val.buildS (L := ((⟨rv, (z.1.rowOut 1048576), 0⟩ : Rd).core 1048576).cells) tabOk rfl rfl rfl (by rfl)) rfl rfl ?_
                      refine SX.eff rfl (Eff.alloc tabOk rfl) rfl rfl ?_
                      rintro _ _ ⟨b10, rfl, rfl⟩
                      refine ⟨_, fun _ h => h, fun _ h => (h.sub (fun _ h => h) (List.nil_sublist _)).less (by repeat (first | exact (fun _ h => (List.not_mem_nil h).elim) | refine List.forall_mem_cons.2 ⟨(by repeat (first | assumption | exact List.mem_cons_self | exact hmem _ | apply List.mem_cons_of_mem)), ?_⟩)), ?_⟩
                      refine SX.eff rfl (Eff.storeA (L' := ((⟨rv, (z.1.rowOut 1048576), 0⟩ : Rd).core 1048576).cells) (vs := ((⟨rv, (z.1.rowOut 1048576), 0⟩ : Rd).core 1048576).cells) tabOk rfl rfl rfl (by repeat (first | assumption | exact Upd.here | exact hrep _ _ | apply Upd.there)) (by rfl) (Nat.le_of_ble_eq_true (by rfl)) (Core.one _) (by rfl)) rfl rfl ?_
                      rintro _ _ ⟨rfl, rfl⟩
                      refine ⟨_, fun _ h => h, fun _ h => (h.sub (fun _ h => h) (List.nil_sublist _)).less (by repeat (first | exact (fun _ h => (List.not_mem_nil h).elim) | refine List.forall_mem_cons.2 ⟨(by repeat (first | assumption | exact List.mem_cons_self | exact hmem _ | apply List.mem_cons_of_mem)), ?_⟩)), ?_⟩
                      refine SX.nil ?_
                      exact SE.meet b10 (by exact ⟨rfl, rfl, rfl, rfl, rfl, rfl, rfl, trivial⟩) (fun _ h => by
                        first
                          | exact Mem.less h (fun x hx => by rcases List.mem_cons.1 hx with rfl | hx; exact List.mem_cons_of_mem _ List.mem_cons_self; rcases List.mem_cons.1 hx with rfl | hx; (repeat (first | exact List.mem_cons_self | apply List.mem_cons_of_mem)); (repeat (first | exact hx | apply List.mem_cons_of_mem)))
                          | exact Mem.less (Mem.swap h) (fun x hx => by rcases List.mem_cons.1 hx with rfl | hx; exact List.mem_cons_of_mem _ List.mem_cons_self; rcases List.mem_cons.1 hx with rfl | hx; (repeat (first | exact List.mem_cons_self | apply List.mem_cons_of_mem)); (repeat (first | exact hx | apply List.mem_cons_of_mem))))
                    · skip
                      refine SX.eff rfl (Eff.alloc tabOk rfl) rfl rfl ?_
                      rintro _ _ ⟨b10, rfl, rfl⟩
                      refine ⟨_, fun _ h => h, fun _ h => (h.sub (fun _ h => h) (List.nil_sublist _)).less (by repeat (first | exact (fun _ h => (List.not_mem_nil h).elim) | refine List.forall_mem_cons.2 ⟨(by repeat (first | assumption | exact List.mem_cons_self | exact hmem _ | apply List.mem_cons_of_mem)), ?_⟩)), ?_⟩
                      refine SX.call rfl (by kernel_rfl) rfl rfl rfl ?_
                      intro w hw
                      refine (rrow_c (s := ((⟨rv, (z.1.rowOut 1048576), 0⟩ : Rd).c6 1048576)) (most := 1048576) hw (by repeat (first | assumption | exact Upd.here | exact hrep _ _ | apply Upd.there)) (by repeat (first | assumption | exact List.mem_cons_self | exact hmem _ | apply List.mem_cons_of_mem)) (by omega) (by omega)).mono ?_; rintro _ _ ⟨r, rfl, hm⟩; refine ⟨_, _, rfl, hm, Mem S [] (bytesD r (((⟨rv, (z.1.rowOut 1048576), 0⟩ : Rd).c6 1048576).rowOut 1048576) :: _), fun _ h => h.less (fun x hx => List.mem_cons_of_mem _ hx), fun _ h => (h.sub (fun _ h => h) (List.nil_sublist _)).less (by repeat (first | exact (fun _ h => (List.not_mem_nil h).elim) | refine List.forall_mem_cons.2 ⟨(by repeat (first | assumption | exact List.mem_cons_self | exact hmem _ | apply List.mem_cons_of_mem)), ?_⟩)), ?_⟩; clear hm hw w
                      refine SX.val rfl (Val.strOf rfl (by repeat (first | assumption | exact List.mem_cons_self | exact hmem _ | apply List.mem_cons_of_mem))) rfl rfl ?_
                      refine SX.val rfl (Val.buildS (L := ((⟨rv, (z.1.rowOut 1048576), 0⟩ : Rd).core 1048576).cells) tabOk rfl rfl rfl (by rfl)) rfl rfl ?_
                      refine SX.eff rfl (Eff.storeA (L' := ((⟨rv, (z.1.rowOut 1048576), 0⟩ : Rd).core 1048576).cells) (vs := ((⟨rv, (z.1.rowOut 1048576), 0⟩ : Rd).core 1048576).cells) tabOk rfl rfl rfl (by repeat (first | assumption | exact Upd.here | exact hrep _ _ | apply Upd.there)) (by rfl) (Nat.le_of_ble_eq_true (by rfl)) (Core.one _) (by rfl)) rfl rfl ?_
                      rintro _ _ ⟨rfl, rfl⟩
                      refine ⟨_, fun _ h => h, fun _ h => (h.sub (fun _ h => h) (List.nil_sublist _)).less (by repeat (first | exact (fun _ h => (List.not_mem_nil h).elim) | refine List.forall_mem_cons.2 ⟨(by repeat (first | assumption | exact List.mem_cons_self | exact hmem _ | apply List.mem_cons_of_mem)), ?_⟩)), ?_⟩
                      refine SX.nil ?_
                      exact SE.meet b10 (by exact ⟨rfl, rfl, rfl, rfl, rfl, rfl, rfl, trivial⟩) (fun _ h => by
                        first
                          | exact Mem.less h (fun x hx => by rcases List.mem_cons.1 hx with rfl | hx; exact List.mem_cons_of_mem _ List.mem_cons_self; rcases List.mem_cons.1 hx with rfl | hx; (repeat (first | exact List.mem_cons_self | apply List.mem_cons_of_mem)); (repeat (first | exact hx | apply List.mem_cons_of_mem)))
                          | exact Mem.less (Mem.swap h) (fun x hx => by rcases List.mem_cons.1 hx with rfl | hx; exact List.mem_cons_of_mem _ List.mem_cons_self; rcases List.mem_cons.1 hx with rfl | hx; (repeat (first | exact List.mem_cons_self | apply List.mem_cons_of_mem)); (repeat (first | exact hx | apply List.mem_cons_of_mem))))
                  · skip
                    refine SX.eff rfl (Eff.alloc tabOk rfl) rfl rfl ?_
                    rintro _ _ ⟨b10, rfl, rfl⟩
                    refine ⟨_, fun _ h => h, fun _ h => (h.sub (fun _ h => h) (List.nil_sublist _)).less (by repeat (first | exact (fun _ h => (List.not_mem_nil h).elim) | refine List.forall_mem_cons.2 ⟨(by repeat (first | assumption | exact List.mem_cons_self | exact hmem _ | apply List.mem_cons_of_mem)), ?_⟩)), ?_⟩
                    refine SX.call rfl (by kernel_rfl) rfl rfl rfl ?_
                    intro w hw
                    refine (rnumber_c (s := (((⟨rv, (z.1.rowOut 1048576), 0⟩ : Rd).c4 1048576).fixed 8)) (n := 8) hw (by repeat (first | assumption | exact Upd.here | exact hrep _ _ | apply Upd.there)) (by repeat (first | assumption | exact List.mem_cons_self | exact hmem _ | apply List.mem_cons_of_mem)) (by (try dsimp only); omega) rfl).mono ?_; rintro _ _ ⟨rfl, hm⟩; refine ⟨_, _, rfl, hm, _, fun _ h => h, fun _ h => (h.sub (fun _ h => h) (List.nil_sublist _)).less (by repeat (first | exact (fun _ h => (List.not_mem_nil h).elim) | refine List.forall_mem_cons.2 ⟨(by repeat (first | assumption | exact List.mem_cons_self | exact hmem _ | apply List.mem_cons_of_mem)), ?_⟩)), ?_⟩; clear hm hw w
                    refine SX.val rfl (Val.convW rfl Try.underlying2 (by kernel_rfl)) rfl rfl ?_
                    refine SX.call rfl (by kernel_rfl) rfl rfl rfl ?_
                    intro w hw
                    refine (rrow_c (s := ((⟨rv, (z.1.rowOut 1048576), 0⟩ : Rd).c6 1048576)) (most := 1048576) hw (by repeat (first | assumption | exact Upd.here | exact hrep _ _ | apply Upd.there)) (by repeat (first | assumption | exact List.mem_cons_self | exact hmem _ | apply List.mem_cons_of_mem)) (by omega) (by omega)).mono ?_; rintro _ _ ⟨r, rfl, hm⟩; refine ⟨_, _, rfl, hm, Mem S [] (bytesD r (((⟨rv, (z.1.rowOut 1048576), 0⟩ : Rd).c6 1048576).rowOut 1048576) :: _), fun _ h => h.less (fun x hx => List.mem_cons_of_mem _ hx), fun _ h => (h.sub (fun _ h => h) (List.nil_sublist _)).less (by repeat (first | exact (fun _ h => (List.not_mem_nil h).elim) | refine List.forall_mem_cons.2 ⟨(by repeat (first | assumption | exact List.mem_cons_self | exact hmem _ | apply List.mem_cons_of_mem)), ?_⟩)), ?_⟩; clear hm hw w
                    refine SX.val rfl (Val.strOf rfl (by repeat (first | assumption | exact List.mem_cons_self | exact hmem _ | apply List.mem_cons_of_mem))) rfl rfl ?_
                    refine SX.val rfl (Val.buildS (L := ((⟨rv, (z.1.rowOut 1048576), 0⟩ : Rd).core 1048576).cells) tabOk rfl rfl rfl (by rfl)) rfl rfl ?_
                    refine SX.eff rfl (Eff.storeA (L' := ((⟨rv, (z.1.rowOut 1048576), 0⟩ : Rd).core 1048576).cells) (vs := ((⟨rv, (z.1.rowOut 1048576), 0⟩ : Rd).core 1048576).cells) tabOk rfl rfl rfl (by repeat (first | assumption | exact Upd.here | exact hrep _ _ | apply Upd.there)) (by rfl) (Nat.le_of_ble_eq_true (by rfl)) (Core.one _) (by rfl)) rfl rfl ?_
                    rintro _ _ ⟨rfl, rfl⟩
                    refine ⟨_, fun _ h => h, fun _ h => (h.sub (fun _ h => h) (List.nil_sublist _)).less (by repeat (first | exact (fun _ h => (List.not_mem_nil h).elim) | refine List.forall_mem_cons.2 ⟨(by repeat (first | assumption | exact List.mem_cons_self | exact hmem _ | apply List.mem_cons_of_mem)), ?_⟩)), ?_⟩
                    refine SX.nil ?_
                    exact SE.meet b10 (by exact ⟨rfl, rfl, rfl, rfl, rfl, rfl, rfl, trivial⟩) (fun _ h => by
                      first
                        | exact Mem.less h (fun x hx => by rcases List.mem_cons.1 hx with rfl | hx; exact List.mem_cons_of_mem _ List.mem_cons_self; rcases List.mem_cons.1 hx with rfl | hx; (repeat (first | exact List.mem_cons_self | apply List.mem_cons_of_mem)); (repeat (first | exact hx | apply List.mem_cons_of_mem)))
                        | exact Mem.less (Mem.swap h) (fun x hx => by rcases List.mem_cons.1 hx with rfl | hx; exact List.mem_cons_of_mem _ List.mem_cons_self; rcases List.mem_cons.1 hx with rfl | hx; (repeat (first | exact List.mem_cons_self | apply List.mem_cons_of_mem)); (repeat (first | exact hx | apply List.mem_cons_of_mem))))
                · skip
                  refine SX.eff rfl (Eff.alloc tabOk rfl) rfl rfl ?_
                  rintro _ _ ⟨b10, rfl, rfl⟩
                  refine ⟨_, fun _ h => h, fun _ h => (h.sub (fun _ h => h) (List.nil_sublist _)).less (by repeat (first | exact (fun _ h => (List.not_mem_nil h).elim) | refine List.forall_mem_cons.2 ⟨(by repeat (first | assumption | exact List.mem_cons_self | exact hmem _ | apply List.mem_cons_of_mem)), ?_⟩)), ?_⟩
                  refine SX.call rfl (by kernel_rfl) rfl rfl rfl ?_
                  intro w hw
                  refine (rnumber_c (s := ((⟨rv, (z.1.rowOut 1048576), 0⟩ : Rd).c4 1048576)) (n := 8) hw (by repeat (first | assumption | exact Upd.here | exact hrep _ _ | apply Upd.there)) (by repeat (first | assumption | exact List.mem_cons_self | exact hmem _ | apply List.mem_cons_of_mem)) (by (try dsimp only); omega) rfl).mono ?_; rintro _ _ ⟨rfl, hm⟩; refine ⟨_, _, rfl, hm, _, fun _ h => h, fun _ h => (h.sub (fun _ h => h) (List.nil_sublist _)).less (by repeat (first | exact (fun _ h => (List.not_mem_nil h).elim) | refine List.forall_mem_cons.2 ⟨(by repeat (first | assumption | exact List.mem_cons_self | exact hmem _ | apply List.mem_cons_of_mem)), ?_⟩)), ?_⟩; clear hm hw w
                  refine SX.val rfl (Val.convW rfl Try.underlying2 (by kernel_rfl)) rfl rfl ?_
                  refine SX.call rfl (by kernel_rfl) rfl rfl rfl ?_
                  intro w hw
                  refine (rnumber_c (s := (((⟨rv, (z.1.rowOut 1048576), 0⟩ : Rd).c4 1048576).fixed 8)) (n := 8) hw (by repeat (first | assumption | exact Upd.here | exact hrep _ _ | apply Upd.there)) (by repeat (first | assumption | exact List.mem_cons_self | exact hmem _ | apply List.mem_cons_of_mem)) (by (try dsimp only); omega) rfl).mono ?_; rintro _ _ ⟨rfl, hm⟩; refine ⟨_, _, rfl, hm, _, fun _ h => h, fun _ h => (h.sub (fun _ h => h) (List.nil_sublist _)).less (by repeat (first | exact (fun _ h => (List.not_mem_nil h).elim) | refine List.forall_mem_cons.2 ⟨(by repeat (first | assumption | exact List.mem_cons_self | exact hmem _ | apply List.mem_cons_of_mem)), ?_⟩)), ?_⟩; clear hm hw w
                  refine SX.val rfl (Val.convW rfl Try.underlying2 (by kernel_rfl)) rfl rfl ?_
                  refine SX.call rfl (by kernel_rfl) rfl rfl rfl ?_
                  intro w hw
                  refine (rrow_c (s := ((⟨rv, (z.1.rowOut 1048576), 0⟩ : Rd).c6 1048576)) (most := 1048576) hw (by repeat (first | assumption | exact Upd.here | exact hrep _ _ | apply Upd.there)) (by repeat (first | assumption | exact List.mem_cons_self | exact hmem _ | apply List.mem_cons_of_mem)) (by omega) (by omega)).mono ?_; rintro _ _ ⟨r, rfl, hm⟩; refine ⟨_, _, rfl, hm, Mem S [] (bytesD r (((⟨rv, (z.1.rowOut 1048576), 0⟩ : Rd).c6 1048576).rowOut 1048576) :: _), fun _ h => h.less (fun x hx => List.mem_cons_of_mem _ hx), fun _ h => (h.sub (fun _ h => h) (List.nil_sublist _)).less (by repeat (first | exact (fun _ h => (List.not_mem_nil h).elim) | refine List.forall_mem_cons.2 ⟨(by repeat (first | assumption | exact List.mem_cons_self | exact hmem _ | apply List.mem_cons_of_mem)), ?_⟩)), ?_⟩; clear hm hw w
                  refine SX.val rfl (Val.strOf rfl (by repeat (first | assumption | exact List.mem_cons_self | exact hmem _ | apply List.mem_cons_of_mem))) rfl rfl ?_
                  refine SX.val rfl (Val.buildS (L := ((⟨rv, (z.1.rowOut 1048576), 0⟩ : Rd).core 1048576).cells) tabOk rfl rfl rfl (by rfl)) rfl rfl ?_
                  refine SX.eff rfl (Eff.storeA (L' := ((⟨rv, (z.1.rowOut 1048576), 0⟩ : Rd).core 1048576).cells) (vs := ((⟨rv, (z.1.rowOut 1048576), 0⟩ : Rd).core 1048576).cells) tabOk rfl rfl rfl (by repeat (first | assumption | exact Upd.here | exact hrep _ _ | apply Upd.there)) (by rfl) (Nat.le_of_ble_eq_true (by rfl)) (Core.one _) (by rfl)) rfl rfl ?_
                  rintro _ _ ⟨rfl, rfl⟩
                  refine ⟨_, fun _ h => h, fun _ h => (h.sub (fun _ h => h) (List.nil_sublist _)).less (by repeat (first | exact (fun _ h => (List.not_mem_nil h).elim) | refine List.forall_mem_cons.2 ⟨(by repeat (first | assumption | exact List.mem_cons_self | exact hmem _ | apply List.mem_cons_of_mem)), ?_⟩)), ?_⟩
                  refine SX.nil ?_
                  exact SE.meet b10 (by exact ⟨rfl, rfl, rfl, rfl, rfl, rfl, rfl, trivial⟩) (fun _ h => by
                    first
                      | exact Mem.less h (fun x hx => by rcases List.mem_cons.1 hx with rfl | hx; exact List.mem_cons_of_mem _ List.mem_cons_self; rcases List.mem_cons.1 hx with rfl | hx; (repeat (first | exact List.mem_cons_self | apply List.mem_cons_of_mem)); (repeat (first | exact hx | apply List.mem_cons_of_mem)))
                      | exact Mem.less (Mem.swap h) (fun x hx => by rcases List.mem_cons.1 hx with rfl | hx; exact List.mem_cons_of_mem _ List.mem_cons_self; rcases List.mem_cons.1 hx with rfl | hx; (repeat (first | exact List.mem_cons_self | apply List.mem_cons_of_mem)); (repeat (first | exact hx | apply List.mem_cons_of_mem))))
              · skip
                refine SX.eff rfl (Eff.alloc tabOk rfl) rfl rfl ?_
                rintro _ _ ⟨b10, rfl, rfl⟩
                refine ⟨_, fun _ h => h, fun _ h => (h.sub (fun _ h => h) (List.nil_sublist _)).less (by repeat (first | exact (fun _ h => (List.not_mem_nil h).elim) | refine List.forall_mem_cons.2 ⟨(by repeat (first | assumption | exact List.mem_cons_self | exact hmem _ | apply List.mem_cons_of_mem)), ?_⟩)), ?_⟩
                refine SX.call rfl (by kernel_rfl) rfl rfl rfl ?_
                intro w hw
                refine (rrow_c (s := ((⟨rv, (z.1.rowOut 1048576), 0⟩ : Rd).c3)) (most := 1048576) hw (by repeat (first | assumption | exact Upd.here | exact hrep _ _ | apply Upd.there)) (by repeat (first | assumption | exact List.mem_cons_self | exact hmem _ | apply List.mem_cons_of_mem)) (by omega) (by omega)).mono ?_; rintro _ _ ⟨r, rfl, hm⟩; refine ⟨_, _, rfl, hm, Mem S [] (bytesD r (((⟨rv, (z.1.rowOut 1048576), 0⟩ : Rd).c3).rowOut 1048576) :: _), fun _ h => h.less (fun x hx => List.mem_cons_of_mem _ hx), fun _ h => (h.sub (fun _ h => h) (List.nil_sublist _)).less (by repeat (first | exact (fun _ h => (List.not_mem_nil h).elim) | refine List.forall_mem_cons.2 ⟨(by repeat (first | assumption | exact List.mem_cons_self | exact hmem _ | apply List.mem_cons_of_mem)), ?_⟩)), ?_⟩; clear hm hw w
                refine SX.val rfl (Val.strOf rfl (by repeat (first | assumption | exact List.mem_cons_self | exact hmem _ | apply List.mem_cons_of_mem))) rfl rfl ?_
                refine SX.call rfl (by kernel_rfl) rfl rfl rfl ?_
                intro w hw
                refine (rnumber_c (s := ((⟨rv, (z.1.rowOut 1048576), 0⟩ : Rd).c4 1048576)) (n := 8) hw (by repeat (first | assumption | exact Upd.here | exact hrep _ _ | apply Upd.there)) (by repeat (first | assumption | exact List.mem_cons_self | exact hmem _ | apply List.mem_cons_of_mem)) (by (try dsimp only); omega) rfl).mono ?_; rintro _ _ ⟨rfl, hm⟩; refine ⟨_, _, rfl, hm, _, fun _ h => h, fun _ h => (h.sub (fun _ h => h) (List.nil_sublist _)).less (by repeat (first | exact (fun _ h => (List.not_mem_nil h).elim) | refine List.forall_mem_cons.2 ⟨(by repeat (first | assumption | exact List.mem_cons_self | exact hmem _ | apply List.mem_cons_of_mem)), ?_⟩)), ?_⟩; clear hm hw w
                refine SX.val rfl (Val.convW rfl Try.underlying2 (by kernel_rfl)) rfl rfl ?_
                refine SX.call rfl (by kernel_rfl) rfl rfl rfl ?_
                intro w hw
                refine (rnumber_c (s := (((⟨rv, (z.1.rowOut 1048576), 0⟩ : Rd).c4 1048576).fixed 8)) (n := 8) hw (by repeat (first | assumption | exact Upd.here | exact hrep _ _ | apply Upd.there)) (by repeat (first | assumption | exact List.mem_cons_self | exact hmem _ | apply List.mem_cons_of_mem)) (by (try dsimp only); omega) rfl).mono ?_; rintro _ _ ⟨rfl, hm⟩; refine ⟨_, _, rfl, hm, _, fun _ h => h, fun _ h => (h.sub (fun _ h => h) (List.nil_sublist _)).less (by repeat (first | exact (fun _ h => (List.not_mem_nil h).elim) | refine List.forall_mem_cons.2 ⟨(by repeat (first | assumption | exact List.mem_cons_self | exact hmem _ | apply List.mem_cons_of_mem)), ?_⟩)), ?_⟩; clear hm hw w
                refine SX.val rfl (Val.convW rfl Try.underlying2 (by kernel_rfl)) rfl rfl ?_
                refine SX.call rfl (by kernel_rfl) rfl rfl rfl ?_
                intro w hw
                refine (rrow_c (s := ((⟨rv, (z.1.rowOut 1048576), 0⟩ : Rd).c6 1048576)) (most := 1048576) hw (by repeat (first | assumption | exact Upd.here | exact hrep _ _ | apply Upd.there)) (by repeat (first | assumption | exact List.mem_cons_self | exact hmem _ | apply List.mem_cons_of_mem)) (by omega) (by omega)).mono ?_; rintro _ _ ⟨r, rfl, hm⟩; refine ⟨_, _, rfl, hm, Mem S [] (bytesD r (((⟨rv, (z.1.rowOut 1048576), 0⟩ : Rd).c6 1048576).rowOut 1048576) :: _), fun _ h => h.less (fun x hx => List.mem_cons_of_mem _ hx), fun _ h => (h.sub (fun _ h => h) (List.nil_sublist _)).less (by repeat (first | exact (fun _ h => (List.not_mem_nil h).elim) | refine List.forall_mem_cons.2 ⟨(by repeat (first | assumption | exact List.mem_cons_self | exact hmem _ | apply List.mem_cons_of_mem)), ?_⟩)), ?_⟩; clear hm hw w
                refine SX.val rfl (Val.strOf rfl (by repeat (first | assumption | exact List.mem_cons_self | exact hmem _ | apply List.mem_cons_of_mem))) rfl rfl ?_
                refine SX.val rfl (Val.buildS (L := ((⟨rv, (z.1.rowOut 1048576), 0⟩ : Rd).core 1048576).cells) tabOk rfl rfl rfl (by rfl)) rfl rfl ?_
                refine SX.eff rfl (Eff.storeA (L' := ((⟨rv, (z.1.rowOut 1048576), 0⟩ : Rd).core 1048576).cells) (vs := ((⟨rv, (z.1.rowOut 1048576), 0⟩ : Rd).core 1048576).cells) tabOk rfl rfl rfl (by repeat (first | assumption | exact Upd.here | exact hrep _ _ | apply Upd.there)) (by rfl) (Nat.le_of_ble_eq_true (by rfl)) (Core.one _) (by rfl)) rfl rfl ?_
                rintro _ _ ⟨rfl, rfl⟩
                refine ⟨_, fun _ h => h, fun _ h => (h.sub (fun _ h => h) (List.nil_sublist _)).less (by repeat (first | exact (fun _ h => (List.not_mem_nil h).elim) | refine List.forall_mem_cons.2 ⟨(by repeat (first | assumption | exact List.mem_cons_self | exact hmem _ | apply List.mem_cons_of_mem)), ?_⟩)), ?_⟩
                refine SX.nil ?_
                exact SE.meet b10 (by exact ⟨rfl, rfl, rfl, rfl, rfl, rfl, rfl, trivial⟩) (fun _ h => by
                  first
                    | exact Mem.less h (fun x hx => by rcases List.mem_cons.1 hx with rfl | hx; exact List.mem_cons_of_mem _ List.mem_cons_self; rcases List.mem_cons.1 hx with rfl | hx; (repeat (first | exact List.mem_cons_self | apply List.mem_cons_of_mem)); (repeat (first | exact hx | apply List.mem_cons_of_mem)))
                    | exact Mem.less (Mem.swap h) (fun x hx => by rcases List.mem_cons.1 hx with rfl | hx; exact List.mem_cons_of_mem _ List.mem_cons_self; rcases List.mem_cons.1 hx with rfl | hx; (repeat (first | exact List.mem_cons_self | apply List.mem_cons_of_mem)); (repeat (first | exact hx | apply List.mem_cons_of_mem))))
            · skip
              refine SX.eff rfl (Eff.alloc tabOk rfl) rfl rfl ?_
              rintro _ _ ⟨b10, rfl, rfl⟩
              refine ⟨_, fun _ h => h, fun _ h => (h.sub (fun _ h => h) (List.nil_sublist _)).less (by repeat (first | exact (fun _ h => (List.not_mem_nil h).elim) | refine List.forall_mem_cons.2 ⟨(by repeat (first | assumption | exact List.mem_cons_self | exact hmem _ | apply List.mem_cons_of_mem)), ?_⟩)), ?_⟩
              refine SX.call rfl (by kernel_rfl) rfl rfl rfl ?_
              intro w hw
              refine (rnumber_c (s := (((⟨rv, (z.1.rowOut 1048576), 0⟩ : Rd).fixed 1).fixed 8)) (n := 1) hw (by repeat (first | assumption | exact Upd.here | exact hrep _ _ | apply Upd.there)) (by repeat (first | assumption | exact List.mem_cons_self | exact hmem _ | apply List.mem_cons_of_mem)) (by (try dsimp only); omega) rfl).mono ?_; rintro _ _ ⟨rfl, hm⟩; refine ⟨_, _, rfl, hm, _, fun _ h => h, fun _ h => (h.sub (fun _ h => h) (List.nil_sublist _)).less (by repeat (first | exact (fun _ h => (List.not_mem_nil h).elim) | refine List.forall_mem_cons.2 ⟨(by repeat (first | assumption | exact List.mem_cons_self | exact hmem _ | apply List.mem_cons_of_mem)), ?_⟩)), ?_⟩; clear hm hw w
              refine SX.val rfl (Val.convI rfl Try.underlying3 (by kernel_rfl) (by simp only [InR, lo, hi]; omega)) rfl rfl ?_
              refine SX.call rfl (by kernel_rfl) rfl rfl rfl ?_
              intro w hw
              refine (rrow_c (s := ((⟨rv, (z.1.rowOut 1048576), 0⟩ : Rd).c3)) (most := 1048576) hw (by repeat (first | assumption | exact Upd.here | exact hrep _ _ | apply Upd.there)) (by repeat (first | assumption | exact List.mem_cons_self | exact hmem _ | apply List.mem_cons_of_mem)) (by omega) (by omega)).mono ?_; rintro _ _ ⟨r, rfl, hm⟩; refine ⟨_, _, rfl, hm, Mem S [] (bytesD r (((⟨rv, (z.1.rowOut 1048576), 0⟩ : Rd).c3).rowOut 1048576) :: _), fun _ h => h.less (fun x hx => List.mem_cons_of_mem _ hx), fun _ h => (h.sub (fun _ h => h) (List.nil_sublist _)).less (by repeat (first | exact (fun _ h => (List.not_mem_nil h).elim) | refine List.forall_mem_cons.2 ⟨(by repeat (first | assumption | exact List.mem_cons_self | exact hmem _ | apply List.mem_cons_of_mem)), ?_⟩)), ?_⟩; clear hm hw w
              refine SX.val rfl (Val.strOf rfl (by repeat (first | assumption | exact List.mem_cons_self | exact hmem _ | apply List.mem_cons_of_mem))) rfl rfl ?_
              refine SX.call rfl (by kernel_rfl) rfl rfl rfl ?_
              intro w hw
              refine (rnumber_c (s := ((⟨rv, (z.1.rowOut 1048576), 0⟩ : Rd).c4 1048576)) (n := 8) hw (by repeat (first | assumption | exact Upd.here | exact hrep _ _ | apply Upd.there)) (by repeat (first | assumption | exact List.mem_cons_self | exact hmem _ | apply List.mem_cons_of_mem)) (by (try dsimp only); omega) rfl).mono ?_; rintro _ _ ⟨rfl, hm⟩; refine ⟨_, _, rfl, hm, _, fun _ h => h, fun _ h => (h.sub (fun _ h => h) (List.nil_sublist _)).less (by repeat (first | exact (fun _ h => (List.not_mem_nil h).elim) | refine List.forall_mem_cons.2 ⟨(by repeat (first | assumption | exact List.mem_cons_self | exact hmem _ | apply List.mem_cons_of_mem)), ?_⟩)), ?_⟩; clear hm hw w
              refine SX.val rfl (Val.convW rfl Try.underlying2 (by kernel_rfl)) rfl rfl ?_
              refine SX.call rfl (by kernel_rfl) rfl rfl rfl ?_
              intro w hw
              refine (rnumber_c (s := (((⟨rv, (z.1.rowOut 1048576), 0⟩ : Rd).c4 1048576).fixed 8)) (n := 8) hw (by repeat (first | assumption | exact Upd.here | exact hrep _ _ | apply Upd.there)) (by repeat (first | assumption | exact List.mem_cons_self | exact hmem _ | apply List.mem_cons_of_mem)) (by (try dsimp only); omega) rfl).mono ?_; rintro _ _ ⟨rfl, hm⟩; refine ⟨_, _, rfl, hm, _, fun _ h => h, fun _ h => (h.sub (fun _ h => h) (List.nil_sublist _)).less (by repeat (first | exact (fun _ h => (List.not_mem_nil h).elim) | refine List.forall_mem_cons.2 ⟨(by repeat (first | assumption | exact List.mem_cons_self | exact hmem _ | apply List.mem_cons_of_mem)), ?_⟩)), ?_⟩; clear hm hw w
              refine SX.val rfl (Val.convW rfl Try.underlying2 (by kernel_rfl)) rfl rfl ?_
              refine SX.call rfl (by kernel_rfl) rfl rfl rfl ?_
              intro w hw
              refine (rrow_c (s := ((⟨rv, (z.1.rowOut 1048576), 0⟩ : Rd).c6 1048576)) (most := 1048576) hw (by repeat (first | assumption | exact Upd.here | exact hrep _ _ | apply Upd.there)) (by repeat (first | assumption | exact List.mem_cons_self | exact hmem _ | apply List.mem_cons_of_mem)) (by omega) (by omega)).mono ?_; rintro _ _ ⟨r, rfl, hm⟩; refine ⟨_, _, rfl, hm, Mem S [] (bytesD r (((⟨rv, (z.1.rowOut 1048576), 0⟩ : Rd).c6 1048576).rowOut 1048576) :: _), fun _ h => h.less (fun x hx => List.mem_cons_of_mem _ hx), fun _ h => (h.sub (fun _ h => h) (List.nil_sublist _)).less (by repeat (first | exact (fun _ h => (List.not_mem_nil h).elim) | refine List.forall_mem_cons.2 ⟨(by repeat (first | assumption | exact List.mem_cons_self | exact hmem _ | apply List.mem_cons_of_mem)), ?_⟩)), ?_⟩; clear hm hw w
              refine SX.val rfl (Val.strOf rfl (by repeat (first | assumption | exact List.mem_cons_self | exact hmem _ | apply List.mem_cons_of_mem))) rfl rfl ?_
              refine SX.val rfl (Val.buildS (L := ((⟨rv, (z.1.rowOut 1048576), 0⟩ : Rd).core 1048576).cells) tabOk rfl rfl rfl (by rfl)) rfl rfl ?_
              refine SX.eff rfl (Eff.storeA (L' := ((⟨rv, (z.1.rowOut 1048576), 0⟩ : Rd).core 1048576).cells) (vs := ((⟨rv, (z.1.rowOut 1048576), 0⟩ : Rd).core 1048576).cells) tabOk rfl rfl rfl (by repeat (first | assumption | exact Upd.here | exact hrep _ _ | apply Upd.there)) (by rfl) (Nat.le_of_ble_eq_true (by rfl)) (Core.one _) (by rfl)) rfl rfl ?_
              rintro _ _ ⟨rfl, rfl⟩
              refine ⟨_, fun _ h => h, fun _ h => (h.sub (fun _ h => h) (List.nil_sublist _)).less (by repeat (first | exact (fun _ h => (List.not_mem_nil h).elim) | refine List.forall_mem_cons.2 ⟨(by repeat (first | assumption | exact List.mem_cons_self | exact hmem _ | apply List.mem_cons_of_mem)), ?_⟩)), ?_⟩
              refine SX.nil ?_
              exact SE.meet b10 (by exact ⟨rfl, rfl, rfl, rfl, rfl, rfl, rfl, trivial⟩) (fun _ h => by
                first
                  | exact Mem.less h (fun x hx => by rcases List.mem_cons.1 hx with rfl | hx; exact List.mem_cons_of_mem _ List.mem_cons_self; rcases List.mem_cons.1 hx with rfl | hx; (repeat (first | exact List.mem_cons_self | apply List.mem_cons_of_mem)); (repeat (first | exact hx | apply List.mem_cons_of_mem)))
                  | exact Mem.less (Mem.swap h) (fun x hx => by rcases List.mem_cons.1 hx with rfl | hx; exact List.mem_cons_of_mem _ List.mem_cons_self; rcases List.mem_cons.1 hx with rfl | hx; (repeat (first | exact List.mem_cons_self | apply List.mem_cons_of_mem)); (repeat (first | exact hx | apply List.mem_cons_of_mem))))
          · skip
            refine SX.eff rfl (Eff.alloc tabOk rfl) rfl rfl ?_
            rintro _ _ ⟨b10, rfl, rfl⟩
            refine ⟨_, fun _ h => h, fun _ h => (h.sub (fun _ h => h) (List.nil_sublist _)).less (by repeat (first | exact (fun _ h => (List.not_mem_nil h).elim) | refine List.forall_mem_cons.2 ⟨(by repeat (first | assumption | exact List.mem_cons_self | exact hmem _ | apply List.mem_cons_of_mem)), ?_⟩)), ?_⟩
            refine SX.call rfl (by kernel_rfl) rfl rfl rfl ?_
            intro w hw
            refine (rnumber_c (s := ((⟨rv, (z.1.rowOut 1048576), 0⟩ : Rd).fixed 1)) (n := 8) hw (by repeat (first | assumption | exact Upd.here | exact hrep _ _ | apply Upd.there)) (by repeat (first | assumption | exact List.mem_cons_self | exact hmem _ | apply List.mem_cons_of_mem)) (by (try dsimp only); omega) rfl).mono ?_; rintro _ _ ⟨rfl, hm⟩; refine ⟨_, _, rfl, hm, _, fun _ h => h, fun _ h => (h.sub (fun _ h => h) (List.nil_sublist _)).less (by repeat (first | exact (fun _ h => (List.not_mem_nil h).elim) | refine List.forall_mem_cons.2 ⟨(by repeat (first | assumption | exact List.mem_cons_self | exact hmem _ | apply List.mem_cons_of_mem)), ?_⟩)), ?_⟩; clear hm hw w
            refine SX.val rfl (Val.convW rfl Try.underlying2 (by kernel_rfl)) rfl rfl ?_
            refine SX.call rfl (by kernel_rfl) rfl rfl rfl ?_
            intro w hw
            refine (rnumber_c (s := (((⟨rv, (z.1.rowOut 1048576), 0⟩ : Rd).fixed 1).fixed 8)) (n := 1) hw (by repeat (first | assumption | exact Upd.here | exact hrep _ _ | apply Upd.there)) (by repeat (first | assumption | exact List.mem_cons_self | exact hmem _ | apply List.mem_cons_of_mem)) (by (try dsimp only); omega) rfl).mono ?_; rintro _ _ ⟨rfl, hm⟩; refine ⟨_, _, rfl, hm, _, fun _ h => h, fun _ h => (h.sub (fun _ h => h) (List.nil_sublist _)).less (by repeat (first | exact (fun _ h => (List.not_mem_nil h).elim) | refine List.forall_mem_cons.2 ⟨(by repeat (first | assumption | exact List.mem_cons_self | exact hmem _ | apply List.mem_cons_of_mem)), ?_⟩)), ?_⟩; clear hm hw w
            refine SX.val rfl (Val.convI rfl Try.underlying3 (by kernel_rfl) (by simp only [InR, lo, hi]; omega)) rfl rfl ?_
            refine SX.call rfl (by kernel_rfl) rfl rfl rfl ?_
            intro w hw
            refine (rrow_c (s := ((⟨rv, (z.1.rowOut 1048576), 0⟩ : Rd).c3)) (most := 1048576) hw (by repeat (first | assumption | exact Upd.here | exact hrep _ _ | apply Upd.there)) (by repeat (first | assumption | exact List.mem_cons_self | exact hmem _ | apply List.mem_cons_of_mem)) (by omega) (by omega)).mono ?_; rintro _ _ ⟨r, rfl, hm⟩; refine ⟨_, _, rfl, hm, Mem S [] (bytesD r (((⟨rv, (z.1.rowOut 1048576), 0⟩ : Rd).c3).rowOut 1048576) :: _), fun _ h => h.less (fun x hx => List.mem_cons_of_mem _ hx), fun _ h => (h.sub (fun _ h => h) (List.nil_sublist _)).less (by repeat (first | exact (fun _ h => (List.not_mem_nil h).elim) | refine List.forall_mem_cons.2 ⟨(by repeat (first | assumption | exact List.mem_cons_self | exact hmem _ | apply List.mem_cons_of_mem)), ?_⟩)), ?_⟩; clear hm hw w
            refine SX.val rfl (Val.strOf rfl (by repeat (first | assumption | exact List.mem_cons_self | exact hmem _ | apply List.mem_cons_of_mem))) rfl rfl ?_
            refine SX.call rfl (by kernel_rfl) rfl rfl rfl ?_
            intro w hw
            refine (rnumber_c (s := ((⟨rv, (z.1.rowOut 1048576), 0⟩ : Rd).c4 1048576)) (n := 8) hw (by repeat (first | assumption | exact Upd.here | exact hrep _ _ | apply Upd.there)) (by repeat (first | assumption | exact List.mem_cons_self | exact hmem _ | apply List.mem_cons_of_mem)) (by (try dsimp only); omega) rfl).mono ?_; rintro _ _ ⟨rfl, hm⟩; refine ⟨_, _, rfl, hm, _, fun _ h => h, fun _ h => (h.sub (fun _ h => h) (List.nil_sublist _)).less (by repeat (first | exact (fun _ h => (List.not_mem_nil h).elim) | refine List.forall_mem_cons.2 ⟨(by repeat (first | assumption | exact List.mem_cons_self | exact hmem _ | apply List.mem_cons_of_mem)), ?_⟩)), ?_⟩; clear hm hw w
            refine SX.val rfl (Val.convW rfl Try.underlying2 (by kernel_rfl)) rfl rfl ?_
            refine SX.call rfl (by kernel_rfl) rfl rfl rfl ?_
            intro w hw
            refine (rnumber_c (s := (((⟨rv, (z.1.rowOut 1048576), 0⟩ : Rd).c4 1048576).fixed 8)) (n := 8) hw (by repeat (first | assumption | exact Upd.here | exact hrep _ _ | apply Upd.there)) (by repeat (first | assumption | exact List.mem_cons_self | exact hmem _ | apply List.mem_cons_of_mem)) (by (try dsimp only); omega) rfl).mono ?_; rintro _ _ ⟨rfl, hm⟩; refine ⟨_, _, rfl, hm, _, fun _ h => h, fun _ h => (h.sub (fun _ h => h) (List.nil_sublist _)).less (by repeat (first | exact (fun _ h => (List.not_mem_nil h).elim) | refine List.forall_mem_cons.2 ⟨(by repeat (first | assumption | exact List.mem_cons_self | exact hmem _ | apply List.mem_cons_of_mem)), ?_⟩)), ?_⟩; clear hm hw w
            refine SX.val rfl (Val.convW rfl Try.underlying2 (by kernel_rfl)) rfl rfl ?_
            refine SX.call rfl (by kernel_rfl) rfl rfl rfl ?_
            intro w hw
            refine (rrow_c (s := ((⟨rv, (z.1.rowOut 1048576), 0⟩ : Rd).c6 1048576)) (most := 1048576) hw (by repeat (first | assumption | exact Upd.here | exact hrep _ _ | apply Upd.there)) (by repeat (first | assumption | exact List.mem_cons_self | exact hmem _ | apply List.mem_cons_of_mem)) (by omega) (by omega)).mono ?_; rintro _ _ ⟨r, rfl, hm⟩; refine ⟨_, _, rfl, hm, Mem S [] (bytesD r (((⟨rv, (z.1.rowOut 1048576), 0⟩ : Rd).c6 1048576).rowOut 1048576) :: _), fun _ h => h.less (fun x hx => List.mem_cons_of_mem _ hx), fun _ h => (h.sub (fun _ h => h) (List.nil_sublist _)).less (by repeat (first | exact (fun _ h => (List.not_mem_nil h).elim) | refine List.forall_mem_cons.2 ⟨(by repeat (first | assumption | exact List.mem_cons_self | exact hmem _ | apply List.mem_cons_of_mem)), ?_⟩)), ?_⟩; clear hm hw w
            refine SX.val rfl (Val.strOf rfl (by repeat (first | assumption | exact List.mem_cons_self | exact hmem _ | apply List.mem_cons_of_mem))) rfl rfl ?_
            refine SX.val rfl (Val.buildS (L := ((⟨rv, (z.1.rowOut 1048576), 0⟩ : Rd).core 1048576).cells) tabOk rfl rfl rfl (by rfl)) rfl rfl ?_
            refine SX.eff rfl (Eff.storeA (L' := ((⟨rv, (z.1.rowOut 1048576), 0⟩ : Rd).core 1048576).cells) (vs := ((⟨rv, (z.1.rowOut 1048576), 0⟩ : Rd).core 1048576).cells) tabOk rfl rfl rfl (by repeat (first | assumption | exact Upd.here | exact hrep _ _ | apply Upd.there)) (by rfl) (Nat.le_of_ble_eq_true (by rfl)) (Core.one _) (by rfl)) rfl rfl ?_
            rintro _ _ ⟨rfl, rfl⟩
            refine ⟨_, fun _ h => h, fun _ h => (h.sub (fun _ h => h) (List.nil_sublist _)).less (by repeat (first | exact (fun _ h => (List.not_mem_nil h).elim) | refine List.forall_mem_cons.2 ⟨(by repeat (first | assumption | exact List.mem_cons_self | exact hmem _ | apply List.mem_cons_of_mem)), ?_⟩)), ?_⟩
            refine SX.nil ?_
            exact SE.meet b10 (by exact ⟨rfl, rfl, rfl, rfl, rfl, rfl, rfl, trivial⟩) (fun _ h => by
              first
                | exact Mem.less h (fun x hx => by rcases List.mem_cons.1 hx with rfl | hx; exact List.mem_cons_of_mem _ List.mem_cons_self; rcases List.mem_cons.1 hx with rfl | hx; (repeat (first | exact List.mem_cons_self | apply List.mem_cons_of_mem)); (repeat (first | exact hx | apply List.mem_cons_of_mem)))
                | exact Mem.less (Mem.swap h) (fun x hx => by rcases List.mem_cons.1 hx with rfl | hx; exact List.mem_cons_of_mem _ List.mem_cons_self; rcases List.mem_cons.1 hx with rfl | hx; (repeat (first | exact List.mem_cons_self | apply List.mem_cons_of_mem)); (repeat (first | exact hx | apply List.mem_cons_of_mem))))
        · skip
          refine SX.eff rfl (Eff.alloc tabOk rfl) rfl rfl ?_
          rintro _ _ ⟨b10, rfl, rfl⟩
          refine ⟨_, fun _ h => h, fun _ h => (h.sub (fun _ h => h) (List.nil_sublist _)).less (by repeat (first | exact (fun _ h => (List.not_mem_nil h).elim) | refine List.forall_mem_cons.2 ⟨(by repeat (first | assumption | exact List.mem_cons_self | exact hmem _ | apply List.mem_cons_of_mem)), ?_⟩)), ?_⟩
          refine SX.call rfl (by kernel_rfl) rfl rfl rfl ?_
          intro w hw
          refine (rnumber_c (s := (⟨rv, (z.1.rowOut 1048576), 0⟩ : Rd)) (n := 1) hw (by repeat (first | assumption | exact Upd.here | exact hrep _ _ | apply Upd.there)) (by repeat (first | assumption | exact List.mem_cons_self | exact hmem _ | apply List.mem_cons_of_mem)) (by (try dsimp only); omega) rfl).mono ?_; rintro _ _ ⟨rfl, hm⟩; refine ⟨_, _, rfl, hm, _, fun _ h => h, fun _ h => (h.sub (fun _ h => h) (List.nil_sublist _)).less (by repeat (first | exact (fun _ h => (List.not_mem_nil h).elim) | refine List.forall_mem_cons.2 ⟨(by repeat (first | assumption | exact List.mem_cons_self | exact hmem _ | apply List.mem_cons_of_mem)), ?_⟩)), ?_⟩; clear hm hw w
          refine SX.val rfl (Val.convI rfl Try.underlying3 (by kernel_rfl) (by simp only [InR, lo, hi]; omega)) rfl rfl ?_
          refine SX.call rfl (by kernel_rfl) rfl rfl rfl ?_
          intro w hw
          refine (rnumber_c (s := ((⟨rv, (z.1.rowOut 1048576), 0⟩ : Rd).fixed 1)) (n := 8) hw (by repeat (first | assumption | exact Upd.here | exact hrep _ _ | apply Upd.there)) (by repeat (first | assumption | exact List.mem_cons_self | exact hmem _ | apply List.mem_cons_of_mem)) (by (try dsimp only); omega) rfl).mono ?_; rintro _ _ ⟨rfl, hm⟩; refine ⟨_, _, rfl, hm, _, fun _ h => h, fun _ h => (h.sub (fun _ h => h) (List.nil_sublist _)).less (by repeat (first | exact (fun _ h => (List.not_mem_nil h).elim) | refine List.forall_mem_cons.2 ⟨(by repeat (first | assumption | exact List.mem_cons_self | exact hmem _ | apply List.mem_cons_of_mem)), ?_⟩)), ?_⟩; clear hm hw w
          refine SX.val rfl (Val.convW rfl Try.underlying2 (by kernel_rfl)) rfl rfl ?_
          refine SX.call rfl (by kernel_rfl) rfl rfl rfl ?_
          intro w hw
          refine (rnumber_c (s := (((⟨rv, (z.1.rowOut 1048576), 0⟩ : Rd).fixed 1).fixed 8)) (n := 1) hw (by repeat (first | assumption | exact Upd.here | exact hrep _ _ | apply Upd.there)) (by repeat (first | assumption | exact List.mem_cons_self | exact hmem _ | apply List.mem_cons_of_mem)) (by (try dsimp only); omega) rfl).mono ?_; rintro _ _ ⟨rfl, hm⟩; refine ⟨_, _, rfl, hm, _, fun _ h => h, fun _ h => (h.sub (fun _ h => h) (List.nil_sublist _)).less (by repeat (first | exact (fun _ h => (List.not_mem_nil h).elim) | refine List.forall_mem_cons.2 ⟨(by repeat (first | assumption | exact List.mem_cons_self | exact hmem _ | apply List.mem_cons_of_mem)), ?_⟩)), ?_⟩; clear hm hw w
          refine SX.val rfl (Val.convI rfl Try.underlying3 (by kernel_rfl) (by simp only [InR, lo, hi]; omega)) rfl rfl ?_
          refine SX.call rfl (by kernel_rfl) rfl rfl rfl ?_
          intro w hw
          refine (rrow_c (s := ((⟨rv, (z.1.rowOut 1048576), 0⟩ : Rd).c3)) (most := 1048576) hw (by repeat (first | assumption | exact Upd.here | exact hrep _ _ | apply Upd.there)) (by repeat (first | assumption | exact List.mem_cons_self | exact hmem _ | apply List.mem_cons_of_mem)) (by omega) (by omega)).mono ?_; rintro _ _ ⟨r, rfl, hm⟩; refine ⟨_, _, rfl, hm, Mem S [] (bytesD r (((⟨rv, (z.1.rowOut 1048576), 0⟩ : Rd).c3).rowOut 1048576) :: _), fun _ h => h.less (fun x hx => List.mem_cons_of_mem _ hx), fun _ h => (h.sub (fun _ h => h) (List.nil_sublist _)).less (by repeat (first | exact (fun _ h => (List.not_mem_nil h).elim) | refine List.forall_mem_cons.2 ⟨(by repeat (first | assumption | exact List.mem_cons_self | exact hmem _ | apply List.mem_cons_of_mem)), ?_⟩)), ?_⟩; clear hm hw w
          refine SX.val rfl (Val.strOf rfl (by repeat (first | assumption | exact List.mem_cons_self | exact hmem _ | apply List.mem_cons_of_mem))) rfl rfl ?_
          refine SX.call rfl (by kernel_rfl) rfl rfl rfl ?_
          intro w hw
          refine (rnumber_c (s := ((⟨rv, (z.1.rowOut 1048576), 0⟩ : Rd).c4 1048576)) (n := 8) hw (by repeat (first | assumption | exact Upd.here | exact hrep _ _ | apply Upd.there)) (by repeat (first | assumption | exact List.mem_cons_self | exact hmem _ | apply List.mem_cons_of_mem)) (by (try dsimp only); omega) rfl).mono ?_; rintro _ _ ⟨rfl, hm⟩; refine ⟨_, _, rfl, hm, _, fun _ h => h, fun _ h => (h.sub (fun _ h => h) (List.nil_sublist _)).less (by repeat (first | exact (fun _ h => (List.not_mem_nil h).elim) | refine List.forall_mem_cons.2 ⟨(by repeat (first | assumption | exact List.mem_cons_self | exact hmem _ | apply List.mem_cons_of_mem)), ?_⟩)), ?_⟩; clear hm hw w
          refine SX.val rfl (Val.convW rfl Try.underlying2 (by kernel_rfl)) rfl rfl ?_
          refine SX.call rfl (by kernel_rfl) rfl rfl rfl ?_
          intro w hw
          refine (rnumber_c (s := (((⟨rv, (z.1.rowOut 1048576), 0⟩ : Rd).c4 1048576).fixed 8)) (n := 8) hw (by repeat (first | assumption | exact Upd.here | exact hrep _ _ | apply Upd.there)) (by repeat (first | assumption | exact List.mem_cons_self | exact hmem _ | apply List.mem_cons_of_mem)) (by (try dsimp only); omega) rfl).mono ?_; rintro _ _ ⟨rfl, hm⟩; refine ⟨_, _, rfl, hm, _, fun _ h => h, fun _ h => (h.sub (fun _ h => h) (List.nil_sublist _)).less (by repeat (first | exact (fun _ h => (List.not_mem_nil h).elim) | refine List.forall_mem_cons.2 ⟨(by repeat (first | assumption | exact List.mem_cons_self | exact hmem _ | apply List.mem_cons_of_mem)), ?_⟩)), ?_⟩; clear hm hw w
          refine SX.val rfl (Val.convW rfl Try.underlying2 (by kernel_rfl)) rfl rfl ?_
          refine SX.call rfl (by kernel_rfl) rfl rfl rfl ?_
          intro w hw
          refine (rrow_c (s := ((⟨rv, (z.1.rowOut 1048576), 0⟩ : Rd).c6 1048576)) (most := 1048576) hw (by repeat (first | assumption | exact Upd.here | exact hrep _ _ | apply Upd.there)) (by repeat (first | assumption | exact List.mem_cons_self | exact hmem _ | apply List.mem_cons_of_mem)) (by omega) (by omega)).mono ?_; rintro _ _ ⟨r, rfl, hm⟩; refine ⟨_, _, rfl, hm, Mem S [] (bytesD r (((⟨rv, (z.1.rowOut 1048576), 0⟩ : Rd).c6 1048576).rowOut 1048576) :: _), fun _ h => h.less (fun x hx => List.mem_cons_of_mem _ hx), fun _ h => (h.sub (fun _ h => h) (List.nil_sublist _)).less (by repeat (first | exact (fun _ h => (List.not_mem_nil h).elim) | refine List.forall_mem_cons.2 ⟨(by repeat (first | assumption | exact List.mem_cons_self | exact hmem _ | apply List.mem_cons_of_mem)), ?_⟩)), ?_⟩; clear hm hw w
          refine SX.val rfl (Val.strOf rfl (by repeat (first | assumption | exact List.mem_cons_self | exact hmem _ | apply List.mem_cons_of_mem))) rfl rfl ?_
          refine SX.val rfl (Val.buildS (L := ((⟨rv, (z.1.rowOut 1048576), 0⟩ : Rd).core 1048576).cells) tabOk rfl rfl rfl (by rfl)) rfl rfl ?_
          refine SX.eff rfl (Eff.storeA (L' := ((⟨rv, (z.1.rowOut 1048576), 0⟩ : Rd).core 1048576).cells) (vs := ((⟨rv, (z.1.rowOut 1048576), 0⟩ : Rd).core 1048576).cells) tabOk rfl rfl rfl (by repeat (first | assumption | exact Upd.here | exact hrep _ _ | apply Upd.there)) (by rfl) (Nat.le_of_ble_eq_true (by rfl)) (Core.one _) (by rfl)) rfl rfl ?_
          rintro _ _ ⟨rfl, rfl⟩
          refine ⟨_, fun _ h => h, fun _ h => (h.sub (fun _ h => h) (List.nil_sublist _)).less (by repeat (first | exact (fun _ h => (List.not_mem_nil h).elim) | refine List.forall_mem_cons.2 ⟨(by repeat (first | assumption | exact List.mem_cons_self | exact hmem _ | apply List.mem_cons_of_mem)), ?_⟩)), ?_⟩
          refine SX.nil ?_
          exact SE.meet b10 (by exact ⟨rfl, rfl, rfl, rfl, rfl, rfl, rfl, trivial⟩) (fun _ h => by
            first
              | exact Mem.less h (fun x hx => by rcases List.mem_cons.1 hx with rfl | hx; exact List.mem_cons_of_mem _ List.mem_cons_self; rcases List.mem_cons.1 hx with rfl | hx; (repeat (first | exact List.mem_cons_self | apply List.mem_cons_of_mem)); (repeat (first | exact hx | apply List.mem_cons_of_mem)))
              | exact Mem.less (Mem.swap h) (fun x hx => by rcases List.mem_cons.1 hx with rfl | hx; exact List.mem_cons_of_mem _ List.mem_cons_self; rcases List.mem_cons.1 hx with rfl | hx; (repeat (first | exact List.mem_cons_self | apply List.mem_cons_of_mem)); (repeat (first | exact hx | apply List.mem_cons_of_mem))))
      · intro bb
        refine SC.seq ?_
        refine SC.region ?_
        refine SL.val (Val.move rfl) rfl rfl ?_
        refine SL.val (Val.move rfl) rfl rfl ?_
        refine SL.both (t := 56) rfl ?_ ?_
        · intro hc56
          have hok := hc56
          refine SL.val (Val.move rfl) rfl rfl ?_
          refine SL.call (by kernel_rfl) rfl rfl rfl ?_
          intro w hw
          refine (rend_c (s := (⟨rv, (z.1.rowOut 1048576), 0⟩ : Rd).coreEnd 1048576) hw (by repeat (first | assumption | exact List.mem_cons_self | exact hmem _ | apply List.mem_cons_of_mem)) (by repeat (first | assumption | exact List.mem_cons_self | exact hmem _ | apply List.mem_cons_of_mem))).mono ?_; rintro _ _ ⟨rfl, hm⟩; refine ⟨_, _, rfl, hm, ?_⟩; clear hm hw w
          refine SL.val (Val.eqI rfl rfl) rfl rfl ?_
          refine SL.val (Val.pickT rfl rfl) rfl rfl ?_
          refine SL.val (Val.assign rfl) rfl rfl ?_
          refine SL.nil ?_
          refine SE.seq ?_
          refine SC.region ?_
          refine SL.val (Val.move rfl) rfl rfl ?_
          first
            | refine SL.val (Val.loadA tabOk rfl rfl rfl (by repeat (first | assumption | exact List.mem_cons_self | exact hmem _ | apply List.mem_cons_of_mem)) (by rfl)) rfl rfl ?_
            | refine SL.val (Val.loadAC tabOk rfl rfl rfl (by assumption) (by assumption)) rfl rfl ?_
            | refine SL.val (Val.loadP tabOk rfl rfl rfl (by repeat (first | assumption | exact List.mem_cons_self | exact hmem _ | apply List.mem_cons_of_mem)) (Nat.le_of_ble_eq_true (by rfl))) rfl rfl ?_
          refine SL.val (Val.move rfl) rfl rfl ?_
          refine SL.val (Val.buildS (L := (⟨coreOf (z.1.rowOut 1048576) 1048576, (z.1.row 1048576).num 1⟩ : Ent).cells) tabOk rfl rfl rfl (by rw [(of_as rv (z.1.rowOut 1048576)).core]; rfl)) rfl rfl ?_
          refine SL.eff (Eff.buildSlice (L := (⟨coreOf (z.1.rowOut 1048576) 1048576, (z.1.row 1048576).num 1⟩ : Ent).cells) tabOk Try.underlying89 rfl rfl (fun L0 h => by match L0, h with | [_, _, _, _, _, _, _, _], _ => rfl) rfl) rfl rfl ?_
          rintro _ _ ⟨b65, rfl, rfl⟩
          refine SL.eff (Eff.append (pre := [_, _, _]) (k := z.2.1.length) (news := (⟨coreOf (z.1.rowOut 1048576) 1048576, (z.1.row 1048576).num 1⟩ : Ent).cells) tabOk Try.underlying89 rfl rfl rfl rfl rfl (fun _ hw => ⟨_, hw.blkRow List.mem_cons_self (Nat.le_refl _) (by decide)⟩) rfl (Ent.one _) (by unfold maxLen; omega) (by rw [show Try.prog.bytesOf 139 = 80 by kernel_rfl]; omega)) rfl rfl ?_
          rintro r _ rfl
          refine SL.val (Val.assign rfl) rfl rfl ?_
          refine SL.nil ?_
          refine SE.inBlock ?_
          refine SE.seq ?_
          refine SC.region ?_
          refine SL.val (Val.move rfl) rfl rfl ?_
          first
            | refine SL.val (Val.subI rfl rfl (by simp only [InR, lo, hi]; omega)) rfl rfl ?_
            | refine SL.val (Val.subW rfl rfl) rfl rfl ?_
          refine SL.val (Val.assign rfl) rfl rfl ?_
          refine SL.nil ?_
          refine SE.round ((z.1.row 1048576).fixed 1, z.2.1 ++ [(⟨coreOf (z.1.rowOut 1048576) 1048576, (z.1.row 1048576).num 1⟩ : Ent)], z.2.2.1 - 1, (z.2.2.2.1 && okOf (z.1.rowOut 1048576) 1048576), r) (by show z.2.2.1 - 1 < z.2.2.1; omega) (by exact ⟨rfl, rfl, by show some (Value.bool _) = some (Value.bool _); rw [hok, Bool.true_and, okOf, ← ((of_as rv _).coreEnd _).end_], by show some (Value.int _ ((z.2.2.1 : Int) - 1)) = some (Value.int _ ((z.2.2.1 - 1 : Nat) : Int)); congr 2; omega, trivial⟩) (fun w' hw' => ⟨⟨by show (z.2.1 ++ [(⟨coreOf (z.1.rowOut 1048576) 1048576, (z.1.row 1048576).num 1⟩ : Ent)]).length + (z.2.2.1 - 1) = s.num 2; rw [List.length_append, List.length_singleton]; omega, by show ((z.1.row 1048576).fixed 1).l.length ≤ s.l.length; have := (z.1.row 1048576).fixed_length 1; have := z.1.row_length 1048576; omega, ?_⟩, ?_⟩)
          · rw [← f4]
            obtain ⟨j, hj⟩ : ∃ j, z.2.2.1 = j + 1 := ⟨z.2.2.1 - 1, by omega⟩
            show Rd.rents (z.2.2.1 - 1) ((z.1.row 1048576).fixed 1) (z.2.1 ++ [(⟨coreOf (z.1.rowOut 1048576) 1048576, (z.1.row 1048576).num 1⟩ : Ent)]) (z.2.2.2.1 && okOf (z.1.rowOut 1048576) 1048576) = _
            rw [hj, Nat.add_sub_cancel]
            simp only [Rd.rents]
            rw [if_neg (by simpa using hc16b)]
          · have e1 : (z.2.1 ++ [(⟨coreOf (z.1.rowOut 1048576) 1048576, (z.1.row 1048576).num 1⟩ : Ent)]).flatMap Ent.cells = z.2.1.flatMap Ent.cells ++ (⟨coreOf (z.1.rowOut 1048576) 1048576, (z.1.row 1048576).num 1⟩ : Ent).cells := by rw [List.flatMap_append]; simp
            show Mem S (.pc (ownPc _ _ _ (z.2.1 ++ [(⟨coreOf (z.1.rowOut 1048576) 1048576, (z.1.row 1048576).num 1⟩ : Ent)]).length ((z.2.1 ++ [(⟨coreOf (z.1.rowOut 1048576) 1048576, (z.1.row 1048576).num 1⟩ : Ent)]).flatMap Ent.cells)) :: _) _ w'
            rw [e1, List.length_append]
            exact (hw'.sub (fun _ h => h) (List.sublist_append_right [_, _, _] _)).less (fun x hx => by simp only [List.mem_cons] at hx ⊢; rcases hx with rfl | hx <;> simp [*])
        · intro hc56
          have hok := hc56
          refine SL.skip rfl rfl ?_
          refine SL.skip rfl rfl ?_
          refine SL.skip rfl rfl ?_
          refine SL.val (Val.pickF rfl rfl) rfl rfl ?_
          refine SL.val (Val.assign rfl) rfl rfl ?_
          refine SL.nil ?_
          refine SE.seq ?_
          refine SC.region ?_
          refine SL.val (Val.move rfl) rfl rfl ?_
          first
            | refine SL.val (Val.loadA tabOk rfl rfl rfl (by repeat (first | assumption | exact List.mem_cons_self | exact hmem _ | apply List.mem_cons_of_mem)) (by rfl)) rfl rfl ?_
            | refine SL.val (Val.loadAC tabOk rfl rfl rfl (by assumption) (by assumption)) rfl rfl ?_
            | refine SL.val (Val.loadP tabOk rfl rfl rfl (by repeat (first | assumption | exact List.mem_cons_self | exact hmem _ | apply List.mem_cons_of_mem)) (Nat.le_of_ble_eq_true (by rfl))) rfl rfl ?_
          refine SL.val (Val.move rfl) rfl rfl ?_
          refine SL.val (Val.buildS (L := (⟨coreOf (z.1.rowOut 1048576) 1048576, (z.1.row 1048576).num 1⟩ : Ent).cells) tabOk rfl rfl rfl (by rw [(of_as rv (z.1.rowOut 1048576)).core]; rfl)) rfl rfl ?_
          refine SL.eff (Eff.buildSlice (L := (⟨coreOf (z.1.rowOut 1048576) 1048576, (z.1.row 1048576).num 1⟩ : Ent).cells) tabOk Try.underlying89 rfl rfl (fun L0 h => by match L0, h with | [_, _, _, _, _, _, _, _], _ => rfl) rfl) rfl rfl ?_
          rintro _ _ ⟨b65, rfl, rfl⟩
          refine SL.eff (Eff.append (pre := [_, _, _]) (k := z.2.1.length) (news := (⟨coreOf (z.1.rowOut 1048576) 1048576, (z.1.row 1048576).num 1⟩ : Ent).cells) tabOk Try.underlying89 rfl rfl rfl rfl rfl (fun _ hw => ⟨_, hw.blkRow List.mem_cons_self (Nat.le_refl _) (by decide)⟩) rfl (Ent.one _) (by unfold maxLen; omega) (by rw [show Try.prog.bytesOf 139 = 80 by kernel_rfl]; omega)) rfl rfl ?_
          rintro r _ rfl
          refine SL.val (Val.assign rfl) rfl rfl ?_
          refine SL.nil ?_
          refine SE.inBlock ?_
          refine SE.seq ?_
          refine SC.region ?_
          refine SL.val (Val.move rfl) rfl rfl ?_
          first
            | refine SL.val (Val.subI rfl rfl (by simp only [InR, lo, hi]; omega)) rfl rfl ?_
            | refine SL.val (Val.subW rfl rfl) rfl rfl ?_
          refine SL.val (Val.assign rfl) rfl rfl ?_
          refine SL.nil ?_
          refine SE.round ((z.1.row 1048576).fixed 1, z.2.1 ++ [(⟨coreOf (z.1.rowOut 1048576) 1048576, (z.1.row 1048576).num 1⟩ : Ent)], z.2.2.1 - 1, (z.2.2.2.1 && okOf (z.1.rowOut 1048576) 1048576), r) (by show z.2.2.1 - 1 < z.2.2.1; omega) (by exact ⟨rfl, rfl, by show some (Value.bool _) = some (Value.bool _); rw [hok, Bool.false_and], by show some (Value.int _ ((z.2.2.1 : Int) - 1)) = some (Value.int _ ((z.2.2.1 - 1 : Nat) : Int)); congr 2; omega, trivial⟩) (fun w' hw' => ⟨⟨by show (z.2.1 ++ [(⟨coreOf (z.1.rowOut 1048576) 1048576, (z.1.row 1048576).num 1⟩ : Ent)]).length + (z.2.2.1 - 1) = s.num 2; rw [List.length_append, List.length_singleton]; omega, by show ((z.1.row 1048576).fixed 1).l.length ≤ s.l.length; have := (z.1.row 1048576).fixed_length 1; have := z.1.row_length 1048576; omega, ?_⟩, ?_⟩)
          · rw [← f4]
            obtain ⟨j, hj⟩ : ∃ j, z.2.2.1 = j + 1 := ⟨z.2.2.1 - 1, by omega⟩
            show Rd.rents (z.2.2.1 - 1) ((z.1.row 1048576).fixed 1) (z.2.1 ++ [(⟨coreOf (z.1.rowOut 1048576) 1048576, (z.1.row 1048576).num 1⟩ : Ent)]) (z.2.2.2.1 && okOf (z.1.rowOut 1048576) 1048576) = _
            rw [hj, Nat.add_sub_cancel]
            simp only [Rd.rents]
            rw [if_neg (by simpa using hc16b)]
          · have e1 : (z.2.1 ++ [(⟨coreOf (z.1.rowOut 1048576) 1048576, (z.1.row 1048576).num 1⟩ : Ent)]).flatMap Ent.cells = z.2.1.flatMap Ent.cells ++ (⟨coreOf (z.1.rowOut 1048576) 1048576, (z.1.row 1048576).num 1⟩ : Ent).cells := by rw [List.flatMap_append]; simp
            show Mem S (.pc (ownPc _ _ _ (z.2.1 ++ [(⟨coreOf (z.1.rowOut 1048576) 1048576, (z.1.row 1048576).num 1⟩ : Ent)]).length ((z.2.1 ++ [(⟨coreOf (z.1.rowOut 1048576) 1048576, (z.1.row 1048576).num 1⟩ : Ent)]).flatMap Ent.cells)) :: _) _ w'
            rw [e1, List.length_append]
            exact (hw'.sub (fun _ h => h) (List.sublist_append_right [_, _, _] _)).less (fun x hx => by simp only [List.mem_cons] at hx ⊢; rcases hx with rfl | hx <;> simp [*])
    · intro hc22
      refine SC.exit ?_
      refine SE.then_ (by intro h; cases h) ?_
      refine SE.then_ (by intro h; cases h) ?_
      refine SE.exit ?_
      refine SE.seq ?_
      refine SC.seq ?_
      refine SC.region ?_
      refine SL.val (Val.move rfl) rfl rfl ?_
      refine SL.val (Val.move rfl) rfl rfl ?_
      refine SL.val (Val.assign rfl) rfl rfl ?_
      refine SL.val (Val.assign rfl) rfl rfl ?_
      refine SL.nil ?_
      refine SE.seq ?_
      refine SC.ret ?_
      refine SE.ret2 rfl rfl rfl ?_
      intro w' hw'
      have e0 : (s.fixed 2).rents (s.num 2) [] true = (z.2.1, z.2.2.2.1, z.1) := by
        rw [← f4]
        first
          | (rw [show z.2.2.1 = 0 by omega]; rfl)
          | exact rents_stop hc22 _
      rw [e0]
      exact ⟨_, rfl, hw'⟩
  · intro hc16
    refine SL.skip rfl rfl ?_
    refine SL.skip rfl rfl ?_
    refine SL.skip rfl rfl ?_
    refine SL.skip rfl rfl ?_
    refine SL.skip rfl rfl ?_
    refine SL.val (Val.pickF rfl rfl) rfl rfl ?_
    refine SL.nil ?_
    refine SE.seq ?_
    refine SC.condF rfl ?_
    refine SC.exit ?_
    refine SE.then_ (by intro h; cases h) ?_
    refine SE.then_ (by intro h; cases h) ?_
    refine SE.exit ?_
    refine SE.seq ?_
    refine SC.seq ?_
    refine SC.region ?_
    refine SL.val (Val.move rfl) rfl rfl ?_
    refine SL.val (Val.move rfl) rfl rfl ?_
    refine SL.val (Val.assign rfl) rfl rfl ?_
    refine SL.val (Val.assign rfl) rfl rfl ?_
    refine SL.nil ?_
    refine SE.seq ?_
    refine SC.ret ?_
    refine SE.ret2 rfl rfl rfl ?_
    intro w' hw'
    have e0 : (s.fixed 2).rents (s.num 2) [] true = (z.2.1, z.2.2.2.1, z.1) := by
      rw [← f4]
      first
        | (rw [show z.2.2.1 = 0 by omega]; rfl)
        | exact rents_stop hc22 _
    rw [e0]
    exact ⟨_, rfl, hw'⟩
end
end Go.Proofs.Ytdbeinbgekdnmaa
