/-
  Packed out of the texts: CO1, CO5, CO6.
-/
import Derived.Test.YtejcohlpjikjpaaGreatDoorU09
/-
  Ledgers: letters and outcomes put in where they belong.
-/
set_option maxRecDepth 100000
set_option linter.unusedSimpArgs false
set_option linter.unusedVariables false
namespace Go.Proofs.YtejcohlpjikjpaaGreatDoor.A
open Go.RowKit

section
variable {x : Oc} {xs : List Oc} {p q : Nat} {k : Int} {v : Value}
theorem key_oc  : Spec Tryz.prog 66 [.agg (Oc.abs x)] [] (fun _ : Unit => []) (fun _ => int x.client) := by
 refine spec_of Tryz.func66 rfl Tryz.ntmps66 rfl fun G w => ?_
 refine SC.seq (SC.region ?_)
 refine SL.eff (Eff.boxA (cs := Oc.abs x) rfl) rfl rfl ?_
 rintro _ _ ⟨b1, rfl, rfl⟩
 refine SL.val (Val.assign rfl) rfl rfl ?_
 refine SL.nil (SE.seq ?_)
 refine SC.seq (SC.region ?_)
 refine SL.val (Val.fieldAddr tabOk rfl rfl rfl rfl rfl) rfl rfl ?_
 refine SL.val (Val.load1 tabOk rfl rfl (by repeat first|assumption|exact o0_|exact o1_|apply o2_) List.not_mem_nil (by rfl)) rfl rfl ?_
 refine SL.val (Val.assign rfl) rfl rfl ?_
 refine SL.nil (SE.seq ?_)
 refine SC.ret ?_
 refine SE.fin (rs := [.tmp 2]) rfl (RV.tmp rfl RV.nil) (()) (by repeat first|exact s0 _|exact s1 _|apply s2|apply s3) (by simp [It.rids]) ?_
 exact rfl
theorem pl1_oc  : Spec Tryz.prog 101 [.agg (Oc.abs x), ptr p, ptr q] [.rd p 106 [.fn (.func 66) [] []], .rd q 3 [int k]] (fun _ : Unit => []) (fun _ => boo (eqO k x)) := by
 refine spec_of Tryz.func101 rfl Tryz.ntmps101 rfl fun G w => ?_
 refine SC.seq (SC.region ?_)
 refine SL.eff (Eff.boxA (cs := Oc.abs x) rfl) rfl rfl ?_
 rintro _ _ ⟨b3, rfl, rfl⟩
 refine SL.val (Val.assign rfl) rfl rfl ?_
 refine SL.nil (SE.seq ?_)
 refine SC.seq ?_
 refine SC.draw [] (.q 0 (.q 1 (.q 3 (.e 2 (.q 4 (.q 5 .nil)))))) (by kernel_rfl) (by kernel_rfl) ?_
 refine SX.val rfl (Val.load1 tabOk rfl rfl (by repeat first|assumption|exact o0_|exact o1_|apply o2_) List.not_mem_nil (by rfl)) (by simp) rfl rfl ?_
 refine SX.hx (by first|(simp[mids,It.mids,ownPc];done)|(intro k hk;simp[mids,It.mids,ownPc] at hk ⊢;grind)) fun hx9 => ?_
 refine SX.val rfl (Val.loadA tabOk rfl rfl rfl (by repeat first|assumption|exact o0_|exact o1_|apply o2_) List.not_mem_nil (by rfl)) hx9 rfl rfl ?_
 refine SX.val rfl (Val.load1 tabOk rfl rfl (by repeat first|assumption|exact o0_|exact o1_|apply o2_) List.not_mem_nil (by rfl)) (by simp) rfl rfl ?_
 refine SX.callv rfl (key_oc (x := x)) (by simp [mids, It.mids]) rfl Casts.refl (by kernel_rfl) rfl rfl rfl ?_
 refine ap_ ?_
 intro _
 refine SX.hx (by first|(simp[mids,It.mids,ownPc];done)|(intro k hk;simp[mids,It.mids,ownPc] at hk ⊢;grind)) fun hx9 => ?_
 refine SX.val rfl (Val.eqI rfl rfl) hx9 rfl rfl ?_
 refine SX.val rfl (Val.assign rfl) (by simp) rfl rfl ?_
 refine SX.nil (SE.seq ?_)
 refine SC.ret ?_
 refine SE.fin (rs := [.tmp 4]) rfl (RV.tmp rfl RV.nil) (()) (by repeat first|exact s0 _|exact s1 _|apply s2|apply s3) (by simp [It.rids]) ?_
 exact rfl
theorem pl2_oc  : Spec Tryz.prog 102 [.agg (Oc.abs x), ptr p, ptr q] [.rd p 106 [.fn (.func 66) [] []], .rd q 3 [int k]] (fun _ : Unit => []) (fun _ => boo (gtO k x)) := by
 refine spec_of Tryz.func102 rfl Tryz.ntmps102 rfl fun G w => ?_
 refine SC.seq (SC.region ?_)
 refine SL.eff (Eff.boxA (cs := Oc.abs x) rfl) rfl rfl ?_
 rintro _ _ ⟨b3, rfl, rfl⟩
 refine SL.val (Val.assign rfl) rfl rfl ?_
 refine SL.nil (SE.seq ?_)
 refine SC.seq ?_
 refine SC.draw [] (.q 0 (.q 1 (.q 3 (.e 2 (.q 4 (.q 5 .nil)))))) (by kernel_rfl) (by kernel_rfl) ?_
 refine SX.val rfl (Val.load1 tabOk rfl rfl (by repeat first|assumption|exact o0_|exact o1_|apply o2_) List.not_mem_nil (by rfl)) (by simp) rfl rfl ?_
 refine SX.hx (by first|(simp[mids,It.mids,ownPc];done)|(intro k hk;simp[mids,It.mids,ownPc] at hk ⊢;grind)) fun hx9 => ?_
 refine SX.val rfl (Val.loadA tabOk rfl rfl rfl (by repeat first|assumption|exact o0_|exact o1_|apply o2_) List.not_mem_nil (by rfl)) hx9 rfl rfl ?_
 refine SX.val rfl (Val.load1 tabOk rfl rfl (by repeat first|assumption|exact o0_|exact o1_|apply o2_) List.not_mem_nil (by rfl)) (by simp) rfl rfl ?_
 refine SX.callv rfl (key_oc (x := x)) (by simp [mids, It.mids]) rfl Casts.refl (by kernel_rfl) rfl rfl rfl ?_
 refine ap_ ?_
 intro _
 refine SX.hx (by first|(simp[mids,It.mids,ownPc];done)|(intro k hk;simp[mids,It.mids,ownPc] at hk ⊢;grind)) fun hx9 => ?_
 refine SX.val rfl (Val.gtI rfl rfl) hx9 rfl rfl ?_
 refine SX.val rfl (Val.assign rfl) (by simp) rfl rfl ?_
 refine SX.nil (SE.seq ?_)
 refine SC.ret ?_
 refine SE.fin (rs := [.tmp 4]) rfl (RV.tmp rfl RV.nil) (()) (by repeat first|exact s0 _|exact s1 _|apply s2|apply s3) (by simp [It.rids]) ?_
 exact rfl
theorem clone_oc_s {xs : List (List Abs)} (h1 : ∀ c ∈ xs, ones c = true) (hn : xs.length ≤ 1000000) : Spec Tryz.prog 45 [.sl 3 xs] [] (fun _ : Unit => []) (fun _ => .sl 3 xs) := by
 refine spec_of Tryz.func45 rfl Tryz.ntmps45 rfl fun G w => ?_
 refine SC.seq (SC.region ?_)
 refine SL.val (Val.assign rfl) rfl rfl ?_
 refine SL.nil (SE.seq ?_)
 refine SC.seq ?_
 refine SC.seq (SC.region ?_)
 refine SL.val (Val.move rfl) rfl rfl ?_
 refine SL.eqNil Tryz.underlying64 rfl rfl rfl ?_
 intro b hb
 refine SL.nil (SE.seq ?_)
 refine SC.cond rfl ?_ ?_
 ·intro hc4
  have hnil : xs = [] := hb hc4
  subst hnil
  refine SC.seq (SC.region ?_)
  refine SL.val (Val.assign rfl) rfl rfl ?_
  refine SL.nil (SE.seq ?_)
  refine SC.ret ?_
  refine SE.then_ nofun ?_
  refine SE.finC (rs := [.tmp 2]) rfl (RV.tmp rfl RV.nil) (Casts.nils (s := 3) Casts.refl) () (by repeat first|exact s0 _|exact s1 _|apply s2|apply s3) (by simp [It.rids]) rfl
 intro hc4
 refine SC.skip ?_
 refine SE.seq ?_
 refine SC.seq (SC.region ?_)
 refine SL.eff (Eff.buildOwn tabOk Tryz.underlying64 rfl rfl rfl rfl rfl rfl rfl) rfl rfl ?_
 rintro _ _ ⟨r5, rfl, rfl⟩
 refine SL.val (Val.move rfl) rfl rfl ?_
 refine SL.eff (Eff.appendE (zs := xs) tabOk [] rfl Tryz.underlying64 rfl rfl rfl rfl rfl rfl h1 (by unfold maxLen; simp only [List.length_nil]; omega) (by rw [show Tryz.prog.bytesOf 76 = 24 by kernel_rfl]; simp only [List.length_nil]; omega)) rfl rfl ?_
 rintro _ _ ⟨r7, rfl, rfl⟩
 refine SL.val (Val.assign rfl) rfl rfl ?_
 refine SL.nil (SE.seq ?_)
 refine SC.ret ?_
 refine SE.freeze [] (t := 2) rfl rfl ?_
 refine SE.fin (rs := [.tmp 2]) rfl (RV.tmp rfl RV.nil) (()) (by repeat first|exact s0 _|exact s1 _|apply s2|apply s3) (by simp [It.rids]) ?_
 exact rfl
theorem cloneO_oc_s {xs : List (List Abs)} (h1 : ∀ c ∈ xs, ones c = true) (hn : xs.length ≤ 1000000) : Spec Tryz.prog 45 [.sl 3 xs] [] (fun r : Value => [own 76 3 r xs]) (fun r => .v r) := by
 refine spec_of Tryz.func45 rfl Tryz.ntmps45 rfl fun G w => ?_
 refine SC.seq (SC.region ?_)
 refine SL.val (Val.assign rfl) rfl rfl ?_
 refine SL.nil (SE.seq ?_)
 refine SC.seq ?_
 refine SC.seq (SC.region ?_)
 refine SL.val (Val.move rfl) rfl rfl ?_
 refine SL.eqNil Tryz.underlying64 rfl rfl rfl ?_
 intro b hb
 refine SL.nil (SE.seq ?_)
 refine SC.cond rfl ?_ ?_
 ·intro hc4
  have hnil : xs = [] := hb hc4
  subst hnil
  refine SC.seq ?_
  refine SC.own0 76 3 ?_
  refine SC.region ?_
  refine SL.val (Val.assign rfl) rfl rfl ?_
  refine SL.nil (SE.seq ?_)
  refine SC.ret ?_
  refine SE.then_ nofun ?_
  refine SE.fin (rs := [.tmp 2]) rfl (RV.tmp rfl RV.nil) (.slice none 0 0) (by repeat first|exact s0 _|exact s1 _|apply s2|apply s3) (by simp [It.rids]) ?_
  exact rfl
 intro hc4
 refine SC.skip ?_
 refine SE.seq ?_
 refine SC.seq (SC.region ?_)
 refine SL.eff (Eff.buildOwn tabOk Tryz.underlying64 rfl rfl rfl rfl rfl rfl rfl) rfl rfl ?_
 rintro _ _ ⟨r5, rfl, rfl⟩
 refine SL.val (Val.move rfl) rfl rfl ?_
 refine SL.eff (Eff.appendE (zs := xs) tabOk [] rfl Tryz.underlying64 rfl rfl rfl rfl rfl rfl h1 (by unfold maxLen; simp only [List.length_nil]; omega) (by rw [show Tryz.prog.bytesOf 76 = 24 by kernel_rfl]; simp only [List.length_nil]; omega)) rfl rfl ?_
 rintro _ _ ⟨r7, rfl, rfl⟩
 refine SL.val (Val.assign rfl) rfl rfl ?_
 refine SL.nil (SE.seq ?_)
 refine SC.ret ?_
 refine SE.fin (rs := [.tmp 2]) rfl (RV.tmp rfl RV.nil) (r7) (by repeat first|exact s0 _|exact s1 _|apply s2|apply s3) (by simp [It.rids]) ?_
 exact rfl
end
theorem indexI_oc {xs : List Oc} {p : Oc → Bool} {k : Nat} {caps : List Abs} {σ : Blks} (hb : goesIn Tryz.prog k = true) (hr : Rds σ) (hn : xs.length < 9223372036854775807) (h : ∀ x ∈ xs, Spec Tryz.prog k (.agg (Oc.abs x) :: caps) σ (fun _ : Unit => []) (fun _ => boo (p x))) : Spec Tryz.prog 100 [.sl 3 (xs.map Oc.abs), .fn (.func k) [] caps] σ (fun _ : {r : Int // IdxOf p xs r} => []) (fun z => int z.1) := by
 refine spec_of Tryz.func100 rfl Tryz.ntmps100 rfl fun G w => ?_
 refine SC.seq (SC.region ?_)
 refine SL.val (Val.assign rfl) rfl rfl ?_
 refine SL.nil (SE.seq ?_)
 refine SC.seq ?_
 refine SC.seq (SC.region ?_)
 refine SL.val (Val.move rfl) rfl rfl ?_
 first
  | refine SL.val (Val.lenSl rfl Tryz.underlying64 (List.length_map _)) rfl rfl ?_
  | refine SL.val (Val.lenOwn rfl (by repeat first|assumption|exact m0|apply m1) Tryz.underlying64 (List.length_map _)) rfl rfl ?_
  | refine SL.val (Val.lenNil rfl Tryz.underlying64) rfl rfl ?_
 refine SL.val (Val.move rfl) rfl rfl ?_
 refine SL.nil (SE.seq ?_)
 refine SC.block ?_
 refine SC.loop (ι := Nat) (fun z => σ) (fun z => [(0, .sl 3 (xs.map Oc.abs)), (1, .fn (.func k) [] caps), (7, int (xs.length : Nat)), (8, int (z : Nat))]) (fun z => z ≤ xs.length ∧ ∀ j (hj : j < xs.length), j < z → p xs[j] = false) (fun z => xs.length - z) (0) (⟨Nat.zero_le _, by omega⟩) (by exact ⟨rfl, rfl, rfl, rfl, trivial⟩) (by repeat first|exact s0 _|exact s1 _|apply s2|apply s3) ?_
 intro z hz
 refine SC.seq (SC.region ?_)
 refine SL.val (Val.ltI rfl rfl) rfl rfl ?_
 refine SL.nil (SE.seq ?_)
 refine SC.seq ?_
 refine SC.condP rfl ?_ ?_
 rotate_left
 ·intro hc9
  refine SC.exit ?_
  refine SE.then_ nofun ?_
  refine SE.then_ nofun ?_
  refine SE.exit ?_
  refine SE.seq ?_
  refine SC.seq (SC.region ?_)
  refine SL.val (Val.assign rfl) rfl rfl ?_
  refine SL.nil (SE.seq ?_)
  refine SC.ret ?_
  refine SE.fin (rs := [.tmp 4]) rfl (RV.tmp rfl RV.nil) (⟨-1, .inl ⟨rfl, fun x hx => by obtain ⟨j, hj, rfl⟩ := List.getElem_of_mem hx; exact hz.2 j hj (by omega)⟩⟩) (by repeat first|exact s0 _|exact s1 _|apply s2|apply s3) (by simp [It.rids]) ?_
  exact rfl
 intro hc9
 have hlt : z < xs.length := by omega
 refine SC.skip ?_
 refine SE.seq ?_
 refine SC.seq ?_
 refine SC.block ?_
 refine SC.seq (SC.region ?_)
 refine SL.val (Val.move rfl) rfl rfl ?_
 refine SL.val (Val.assign rfl) rfl rfl ?_
 refine SL.nil (SE.seq ?_)
 refine SC.seq (SC.region ?_)
 iterate 3 refine SL.val (Val.move rfl) rfl rfl ?_
 refine SL.val (Val.indexSl tabOk Tryz.underlying64 rfl rfl rfl rfl (at_map (by omega)) rfl rfl) rfl rfl ?_
 refine SL.val (Val.loadAR tabOk rfl rfl rfl (by rfl)) rfl rfl ?_
 refine SL.callv (h _ (List.getElem_mem hlt)) rfl Casts.refl hb rfl rfl rfl ?_
 refine After.pure (Rds.reads hr (fun x hx => by repeat (first | exact hx | apply List.mem_cons_of_mem))) (fun _ => rfl) ?_
 intro _
 refine SL.nil (SE.seq ?_)
 refine SC.cond rfl ?_ ?_
 rotate_left
 ·intro hc16
  refine SC.skip ?_
  refine SE.inBlock ?_
  refine SE.seq ?_
  refine SC.region ?_
  first
   | refine SL.val (Val.addI rfl rfl (by simp only [InR, lo, hi]; omega)) rfl rfl ?_
   | refine SL.val (Val.addW rfl rfl) rfl rfl ?_
  refine SL.val (Val.move rfl) rfl rfl ?_
  refine SL.nil ?_
  refine SE.round (z + 1) (by first | omega | (dsimp only; omega)) (⟨by omega, fun j hj hjz => by rcases Nat.lt_or_ge j z with h1 | h1; exact hz.2 j hj h1; obtain rfl : j = z := (by omega); exact hc16⟩) (by exact ⟨rfl, rfl, rfl, rfl, trivial⟩) (by repeat first|exact s0 _|exact s1 _|apply s2|apply s3)
 intro hc16
 refine SC.seq (SC.region ?_)
 refine SL.val (Val.move rfl) rfl rfl ?_
 refine SL.val (Val.assign rfl) rfl rfl ?_
 refine SL.nil (SE.seq ?_)
 refine SC.ret ?_
 refine SE.ret ?_
 refine SE.then_ nofun ?_
 refine SE.then_ nofun ?_
 refine SE.ret ?_
 refine SE.then_ nofun ?_
 refine SE.fin (rs := [.tmp 4]) rfl (RV.tmp rfl RV.nil) (⟨(z : Nat), .inr ⟨z, hlt, rfl, hc16, fun j hj => hz.2 j (by omega) hj⟩⟩) (by repeat first|exact s0 _|exact s1 _|apply s2|apply s3) (by simp [It.rids]) ?_
 exact rfl
theorem indexO_oc {v : Value} {xs : List Oc} {p : Oc → Bool} {k : Nat} {caps : List Abs} {σ : Blks} (hb : goesIn Tryz.prog k = true) (hr : Rds σ) (hn : xs.length < 9223372036854775807) (h : ∀ x ∈ xs, Spec Tryz.prog k (.agg (Oc.abs x) :: caps) σ (fun _ : Unit => []) (fun _ => boo (p x))) : Spec Tryz.prog 100 [.v v, .fn (.func k) [] caps] (.rdpc (ownPc 76 3 v (xs.map Oc.abs)) :: σ) (fun _ : {r : Int // IdxOf p xs r} => []) (fun z => int z.1) := by
 refine spec_of Tryz.func100 rfl Tryz.ntmps100 rfl fun G w => ?_
 refine SC.seq (SC.region ?_)
 refine SL.val (Val.assign rfl) rfl rfl ?_
 refine SL.nil (SE.seq ?_)
 refine SC.seq ?_
 refine SC.seq (SC.region ?_)
 refine SL.val (Val.move rfl) rfl rfl ?_
 refine SL.val (Val.lenOwnR (m := xs.length) rfl (.inr (by repeat first|assumption|exact m0|apply m1)) Tryz.underlying64 (List.length_map _)) rfl rfl ?_
 refine SL.val (Val.move rfl) rfl rfl ?_
 refine SL.nil (SE.seq ?_)
 refine SC.block ?_
 refine SC.loop (ι := Nat) (fun z => (.rdpc (ownPc 76 3 v (xs.map Oc.abs)) :: σ)) (fun z => [(0, .v v), (1, .fn (.func k) [] caps), (7, int (xs.length : Nat)), (8, int (z : Nat))]) (fun z => z ≤ xs.length ∧ ∀ j (hj : j < xs.length), j < z → p xs[j] = false) (fun z => xs.length - z) (0) (⟨Nat.zero_le _, by omega⟩) (by exact ⟨rfl, rfl, rfl, rfl, trivial⟩) (by repeat first|exact s0 _|exact s1 _|apply s2|apply s3) ?_
 intro z hz
 refine SC.seq (SC.region ?_)
 refine SL.val (Val.ltI rfl rfl) rfl rfl ?_
 refine SL.nil (SE.seq ?_)
 refine SC.seq ?_
 refine SC.condP rfl ?_ ?_
 rotate_left
 ·intro hc9
  refine SC.exit ?_
  refine SE.then_ nofun ?_
  refine SE.then_ nofun ?_
  refine SE.exit ?_
  refine SE.seq ?_
  refine SC.seq (SC.region ?_)
  refine SL.val (Val.assign rfl) rfl rfl ?_
  refine SL.nil (SE.seq ?_)
  refine SC.ret ?_
  refine SE.fin (rs := [.tmp 4]) rfl (RV.tmp rfl RV.nil) (⟨-1, .inl ⟨rfl, fun x hx => by obtain ⟨j, hj, rfl⟩ := List.getElem_of_mem hx; exact hz.2 j hj (by omega)⟩⟩) (by repeat first|exact s0 _|exact s1 _|apply s2|apply s3) (by simp [It.rids]) ?_
  exact rfl
 intro hc9
 have hlt : z < xs.length := by omega
 refine SC.skip ?_
 refine SE.seq ?_
 refine SC.seq ?_
 refine SC.block ?_
 refine SC.seq (SC.region ?_)
 refine SL.val (Val.move rfl) rfl rfl ?_
 refine SL.val (Val.assign rfl) rfl rfl ?_
 refine SL.nil (SE.seq ?_)
 refine SC.seq (SC.region ?_)
 iterate 3 refine SL.val (Val.move rfl) rfl rfl ?_
 refine SL.val (Val.indexOwn (q := z) tabOk Tryz.underlying64 rfl rfl (.inr (by repeat first|assumption|exact m0|apply m1)) rfl rfl (by rw [List.length_map]; exact hlt) rfl rfl) rfl rfl ?_
 refine SL.val (Val.loadOwnA tabOk rfl rfl rfl (.inr (by repeat first|assumption|exact m0|apply m1)) rfl (at_map hlt) rfl) rfl rfl ?_
 refine SL.callv (h _ (List.getElem_mem hlt)) rfl Casts.refl hb rfl rfl rfl ?_
 refine After.pure (Rds.reads hr (fun x hx => by repeat (first | exact hx | apply List.mem_cons_of_mem))) (fun _ => rfl) ?_
 intro _
 refine SL.nil (SE.seq ?_)
 refine SC.cond rfl ?_ ?_
 rotate_left
 ·intro hc16
  refine SC.skip ?_
  refine SE.inBlock ?_
  refine SE.seq ?_
  refine SC.region ?_
  first
   | refine SL.val (Val.addI rfl rfl (by simp only [InR, lo, hi]; omega)) rfl rfl ?_
   | refine SL.val (Val.addW rfl rfl) rfl rfl ?_
  refine SL.val (Val.move rfl) rfl rfl ?_
  refine SL.nil ?_
  refine SE.round (z + 1) (by first | omega | (dsimp only; omega)) (⟨by omega, fun j hj hjz => by rcases Nat.lt_or_ge j z with h1 | h1; exact hz.2 j hj h1; obtain rfl : j = z := (by omega); exact hc16⟩) (by exact ⟨rfl, rfl, rfl, rfl, trivial⟩) (by repeat first|exact s0 _|exact s1 _|apply s2|apply s3)
 intro hc16
 refine SC.seq (SC.region ?_)
 refine SL.val (Val.move rfl) rfl rfl ?_
 refine SL.val (Val.assign rfl) rfl rfl ?_
 refine SL.nil (SE.seq ?_)
 refine SC.ret ?_
 refine SE.ret ?_
 refine SE.then_ nofun ?_
 refine SE.then_ nofun ?_
 refine SE.ret ?_
 refine SE.then_ nofun ?_
 refine SE.fin (rs := [.tmp 4]) rfl (RV.tmp rfl RV.nil) (⟨(z : Nat), .inr ⟨z, hlt, rfl, hc16, fun j hj => hz.2 j (by omega) hj⟩⟩) (by repeat first|exact s0 _|exact s1 _|apply s2|apply s3) (by simp [It.rids]) ?_
 exact rfl
theorem ins_oc {v u : Value} {xs : List (List Abs)} {y : List Abs} {i : Nat} (hil : i ≤ xs.length) (h1 : ∀ c ∈ xs, ones c = true) (hy : ones y = true) (hn : xs.length ≤ 1000000) : Spec Tryz.prog 89 [.v v, int (i : Nat), .v u] [own 76 3 u [y], own 76 3 v xs] (fun r : Value => [own 76 3 r (xs.take i ++ y :: xs.drop i)]) (fun r => .v r) := by
 refine spec_of Tryz.func89 rfl Tryz.ntmps89 rfl fun G w => ?_
 refine SC.seq (SC.region ?_)
 refine SL.val (Val.assign rfl) rfl rfl ?_
 refine SL.nil (SE.seq ?_)
 refine SC.seq (SC.region ?_)
 iterate 2 refine SL.val (Val.move rfl) rfl rfl ?_
 refine SL.val (Val.cutLo (s := 3) (q := i) tabOk Tryz.underlying64 rfl rfl rfl (by repeat first|assumption|exact m0|apply m1) rfl (by omega) (by first | omega | (simp only [List.length_append, List.length_take, List.length_drop, List.length_cons, List.length_nil]; omega))) rfl rfl ?_
 refine SL.nil (SE.seq ?_)
 refine SC.seq (SC.region ?_)
 refine SL.val (Val.move rfl) rfl rfl ?_
 refine SL.val (Val.lenOwn (m := 1) rfl (by repeat first|assumption|exact m0|apply m1) Tryz.underlying64 rfl) rfl rfl ?_
 refine SL.val (Val.assign rfl) rfl rfl ?_
 refine SL.nil (SE.seq ?_)
 refine SC.seq ?_
 refine SC.seq (SC.region ?_)
 refine SL.val (Val.move rfl) rfl rfl ?_
 refine SL.val (Val.eqI rfl rfl) rfl rfl ?_
 refine SL.nil (SE.seq ?_)
 refine SC.condP rfl (by intro hc16; exfalso; omega) ?_
 intro hc16
 refine SC.skip ?_
 refine SE.seq ?_
 refine SC.seq (SC.region ?_)
 refine SL.val (Val.move rfl) rfl rfl ?_
 refine SL.val (Val.lenOwn (m := xs.length) rfl (by repeat first|assumption|exact m0|apply m1) Tryz.underlying64 rfl) rfl rfl ?_
 refine SL.val (Val.assign rfl) rfl rfl ?_
 refine SL.nil (SE.seq ?_)
 refine SC.seq ?_
 refine SC.seq (SC.region ?_)
 iterate 2 refine SL.val (Val.move rfl) rfl rfl ?_
 refine SL.val (Val.eqI rfl rfl) rfl rfl ?_
 refine SL.nil (SE.seq ?_)
 refine SC.condP rfl ?_ ?_
 ·intro hc22
  refine SC.seq ?_
  refine SC.freeze [] (t := 2) rfl rfl ?_
  refine SC.region ?_
  iterate 2 refine SL.val (Val.move rfl) rfl rfl ?_
  refine SL.eff (Eff.append tabOk [] Tryz.underlying64 rfl rfl rfl rfl rfl rfl (by intro c hc; rw [List.mem_singleton] at hc; subst hc; exact hy) (by unfold maxLen; simp; omega) (by rw [show Tryz.prog.bytesOf 76 = 24 by kernel_rfl]; simp; omega)) rfl rfl ?_
  rintro _ _ ⟨r25, rfl, rfl⟩
  refine SL.val (Val.assign rfl) rfl rfl ?_
  refine SL.nil (SE.seq ?_)
  refine SC.ret ?_
  refine SE.then_ nofun ?_
  refine SE.fin (rs := [.tmp 6]) rfl (RV.tmp rfl RV.nil) (r25) (by rw [← ins_all (y := y) (by omega : i = xs.length)]; exact List.Sublist.refl _) (by simp [It.rids]) ?_
  exact rfl
 intro hc22
 have hlt : i < xs.length := by omega
 refine SC.skip ?_
 refine SE.seq ?_
 refine SC.seq ?_
 refine SC.seq (SC.region ?_)
 iterate 2 refine SL.val (Val.move rfl) rfl rfl ?_
 first
  | refine SL.val (Val.addI rfl rfl (by simp only [InR, lo, hi]; omega)) rfl rfl ?_
  | refine SL.val (Val.addW rfl rfl) rfl rfl ?_
 refine SL.val (Val.move rfl) rfl rfl ?_
 refine SL.val (Val.capOwn rfl (by repeat first|assumption|exact m0|apply m1) Tryz.underlying64) rfl rfl ?_
 refine SL.val (Val.gtI rfl rfl) rfl rfl ?_
 refine SL.nil (SE.seq ?_)
 refine SC.condP rfl ?_ ?_
 ·intro hc31
  refine SC.seq (SC.region ?_)
  iterate 2 refine SL.val (Val.move rfl) rfl rfl ?_
  refine SL.val (Val.sliceOwnHi (s := 3) (q := i) tabOk Tryz.underlying64 rfl rfl (.inl (by repeat first|assumption|exact m0|apply m1)) rfl rfl (by omega)) rfl rfl ?_
  iterate 2 refine SL.val (Val.move rfl) rfl rfl ?_
  first
   | refine SL.val (Val.addI rfl rfl (by simp only [InR, lo, hi]; omega)) rfl rfl ?_
   | refine SL.val (Val.addW rfl rfl) rfl rfl ?_
  refine SL.val (Val.move rfl) rfl rfl ?_
  refine SL.val (Val.to (C := int ((xs.length + 1 - i : Nat) : Int)) (Val.subI rfl rfl (by simp only [InR, lo, hi]; omega)) (congrArg int (by omega))) rfl rfl ?_
  refine SL.eff (Eff.appendZeros (s := 3) (q := i) (m := xs.length + 1 - i) tabOk Tryz.underlying64 Tryz.underlying3 rfl rfl rfl rfl (by repeat first|assumption|exact m0|apply m1) rfl rfl (by omega) (by omega) (by omega) (by unfold maxLen; omega) (by rw [show Tryz.prog.bytesOf 76 = 24 by kernel_rfl]; omega)) rfl rfl ?_
  rintro _ _ ⟨r40, js, rfl, hjs, rfl⟩
  refine SL.val (Val.assign rfl) rfl rfl ?_
  refine SL.nil (SE.seq ?_)
  refine SC.seq (SC.region ?_)
  iterate 2 refine SL.val (Val.move rfl) rfl rfl ?_
  refine SL.val (Val.cutLo (s := 3) (q := i) tabOk Tryz.underlying64 rfl rfl rfl (by repeat first|assumption|exact m0|apply m1) rfl (by omega) (by first | omega | (simp only [List.length_append, List.length_take, List.length_drop, List.length_cons, List.length_nil]; omega))) rfl rfl ?_
  refine SL.val (Val.move rfl) rfl rfl ?_
  refine SL.eff (Eff.copyRow (s := 3) (q := i) (ys := [y]) (zs := xs.take i ++ y :: js.drop 1) tabOk Tryz.underlying64 rfl rfl rfl (by first | omega | (simp only [List.length_append, List.length_take, List.length_drop, List.length_cons, List.length_nil]; omega)) (Src.ofAll rfl (by repeat first|assumption|exact m0|apply m1) (by simp) (by first | omega | (simp only [List.length_append, List.length_take, List.length_drop, List.length_cons, List.length_nil]; omega))) (by first | exact ins_ones h1 _ | (intro c hc; rw [List.mem_singleton] at hc; subst hc; exact hy)) (ins_a hlt hjs) (by repeat first|assumption|exact Upd.here|apply Upd.there)) rfl rfl ?_
  rintro _ _ ⟨rfl, rfl⟩
  refine SL.nil (SE.seq ?_)
  refine SC.seq ?_
  refine SC.draw r40.ownBlock.toList (.q 0 (.q 1 (.q 2 (.q 3 (.q 4 (.q 5 (.q 6 (.q 7 (.e 8 .nil))))))))) (by kernel_rfl) (by kernel_rfl) ?_
  refine SX.hx (by first|(simp[mids,It.mids,ownPc];done)|(intro k hk;simp[mids,It.mids,ownPc] at hk ⊢;grind)) fun hx9 => ?_
  refine SX.val rfl (Val.move rfl) hx9 rfl rfl ?_
  refine SX.val rfl (Val.move rfl) hx9 rfl rfl ?_
  refine SX.val rfl (Val.move rfl) hx9 rfl rfl ?_
  first
   | refine SX.val rfl (Val.addI rfl rfl (by simp only [InR, lo, hi]; omega)) hx9 rfl rfl ?_
   | refine SX.val rfl (Val.addW rfl rfl) hx9 rfl rfl ?_
  refine SX.val rfl (Val.cutLo (s := 3) (q := i + 1) tabOk Tryz.underlying64 rfl rfl rfl (by repeat first|assumption|exact m0|apply m1) rfl (by omega) (by first | omega | (simp only [List.length_append, List.length_take, List.length_drop, List.length_cons, List.length_nil]; omega))) hx9 rfl rfl ?_
  refine SX.val rfl (Val.move rfl) hx9 rfl rfl ?_
  refine SX.val rfl (Val.move rfl) hx9 rfl rfl ?_
  refine SX.val rfl (Val.cutLo (s := 3) (q := i) tabOk Tryz.underlying64 rfl rfl rfl (by repeat first|assumption|exact m0|apply m1) rfl (by omega) (by first | omega | (simp only [List.length_append, List.length_take, List.length_drop, List.length_cons, List.length_nil]; omega))) hx9 rfl rfl ?_
  refine SX.eff rfl (Eff.copyRow (s := 3) (q := i + 1) (ys := (xs.drop i)) (zs := (xs.take i ++ y :: xs.drop i)) tabOk Tryz.underlying64 rfl rfl rfl (by first | omega | (simp only [List.length_append, List.length_take, List.length_drop, List.length_cons, List.length_nil]; omega)) (Src.ofOwn (xs := xs) (q := i) rfl (by repeat first|assumption|exact m0|apply m1) hlt (by first | omega | (simp only [List.length_append, List.length_take, List.length_drop, List.length_cons, List.length_nil]; omega)) (by rw [List.take_of_length_le (Nat.le_refl _)])) (by first | exact ins_ones h1 _ | (intro c hc; rw [List.mem_singleton] at hc; subst hc; exact hy)) (ins_b hlt hjs) (by repeat first|assumption|exact Upd.here|apply Upd.there)) (by simp) rfl rfl ?_
  rintro _ _ ⟨rfl, rfl⟩
  refine SX.nil (SE.seq ?_)
  refine SC.seq (SC.region ?_)
  refine SL.val (Val.move rfl) rfl rfl ?_
  refine SL.val (Val.assign rfl) rfl rfl ?_
  refine SL.nil (SE.seq ?_)
  refine SC.ret ?_
  refine SE.then_ nofun ?_
  refine SE.fin (rs := [.tmp 6]) rfl (RV.tmp rfl RV.nil) (r40) (by repeat first|exact s0 _|exact s1 _|apply s2|apply s3) (by simp [It.rids]) ?_
  exact rfl
 intro hc31
 refine SC.skip ?_
 refine SE.seq ?_
 refine SC.seq (SC.region ?_)
 iterate 3 refine SL.val (Val.move rfl) rfl rfl ?_
 first
  | refine SL.val (Val.addI rfl rfl (by simp only [InR, lo, hi]; omega)) rfl rfl ?_
  | refine SL.val (Val.addW rfl rfl) rfl rfl ?_
 refine SL.val (Val.cutUp (s := 3) (q := xs.length + 1) tabOk Tryz.underlying64 rfl rfl (by repeat first|assumption|exact m0|apply m1) rfl (by omega) (by omega)) rfl rfl ?_
 refine SL.val (Val.assign rfl) rfl rfl ?_
 refine SL.nil (SE.seq ?_)
 refine SC.seq ?_
 refine SC.seq ?_
 refine SC.growOwn (v := v) (xs := xs) (q := xs.length + 1) (by repeat first|assumption|exact m0|apply m1) (by omega) (by omega) fun js hjs => ⟨_, (by repeat first|assumption|exact Upd.here|apply Upd.there), ?_⟩
 refine SC.region ?_
 iterate 4 refine SL.val (Val.move rfl) rfl rfl ?_
 first
  | refine SL.val (Val.addI rfl rfl (by simp only [InR, lo, hi]; omega)) rfl rfl ?_
  | refine SL.val (Val.addW rfl rfl) rfl rfl ?_
 refine SL.val (Val.cutLo (s := 3) (q := i + 1) tabOk Tryz.underlying64 rfl rfl rfl (by repeat first|assumption|exact m0|apply m1) rfl (by omega) (by first | omega | (simp only [List.length_append, List.length_take, List.length_drop, List.length_cons, List.length_nil]; omega))) rfl rfl ?_
 refine SL.val (Val.overlapsOff (tr := 4) (s := 3) (q := i + 1) (α := [_]) (ys := [y]) Tryz.func120 (by kernel_rfl) (by kernel_rfl) (by kernel_rfl) (by kernel_rfl) tabOk Tryz.underlying64 rfl rfl rfl rfl rfl rfl (by repeat first|assumption|exact m0|apply m1) (by simp) (by first | omega | (simp only [List.length_append, List.length_take, List.length_drop, List.length_cons, List.length_nil]; omega))) rfl rfl ?_
 refine SL.val (Val.notF rfl) rfl rfl ?_
 refine SL.nil (SE.seq ?_)
 refine SC.condT rfl ?_
 refine SC.seq ?_
 refine SC.draw (cutTo v (xs.length + 1)).ownBlock.toList (.q 0 (.q 1 (.q 2 (.q 3 (.q 4 (.q 5 (.q 6 (.q 7 (.e 8 .nil))))))))) (by kernel_rfl) (by kernel_rfl) ?_
 refine SX.hx (by first|(simp[mids,It.mids,ownPc];done)|(intro k hk;simp[mids,It.mids,ownPc] at hk ⊢;grind)) fun hx9 => ?_
 refine SX.val rfl (Val.move rfl) hx9 rfl rfl ?_
 refine SX.val rfl (Val.move rfl) hx9 rfl rfl ?_
 refine SX.val rfl (Val.move rfl) hx9 rfl rfl ?_
 first
  | refine SX.val rfl (Val.addI rfl rfl (by simp only [InR, lo, hi]; omega)) hx9 rfl rfl ?_
  | refine SX.val rfl (Val.addW rfl rfl) hx9 rfl rfl ?_
 refine SX.val rfl (Val.cutLo (s := 3) (q := i + 1) tabOk Tryz.underlying64 rfl rfl rfl (by repeat first|assumption|exact m0|apply m1) rfl (by omega) (by first | omega | (simp only [List.length_append, List.length_take, List.length_drop, List.length_cons, List.length_nil]; omega))) hx9 rfl rfl ?_
 refine SX.val rfl (Val.move rfl) hx9 rfl rfl ?_
 refine SX.val rfl (Val.move rfl) hx9 rfl rfl ?_
 refine SX.val rfl (Val.cutLo (s := 3) (q := i) tabOk Tryz.underlying64 rfl rfl rfl (by repeat first|assumption|exact m0|apply m1) rfl (by omega) (by first | omega | (simp only [List.length_append, List.length_take, List.length_drop, List.length_cons, List.length_nil]; omega))) hx9 rfl rfl ?_
 refine SX.eff rfl (Eff.copyRow (s := 3) (q := i + 1) (ys := (xs.drop i)) (zs := (xs ++ js).take (i + 1) ++ xs.drop i) tabOk Tryz.underlying64 rfl rfl rfl (by first | omega | (simp only [List.length_append, List.length_take, List.length_drop, List.length_cons, List.length_nil]; omega)) (Src.ofOwn (xs := xs ++ js) (q := i) rfl (by repeat first|assumption|exact m0|apply m1) (by first | omega | (simp only [List.length_append, List.length_take, List.length_drop, List.length_cons, List.length_nil]; omega)) (by first | omega | (simp only [List.length_append, List.length_take, List.length_drop, List.length_cons, List.length_nil]; omega)) (ins_src hlt)) (by first | exact ins_ones h1 _ | (intro c hc; rw [List.mem_singleton] at hc; subst hc; exact hy)) (ins_c hlt hjs) (by repeat first|assumption|exact Upd.here|apply Upd.there)) (by simp) rfl rfl ?_
 rintro _ _ ⟨rfl, rfl⟩
 refine SX.nil (SE.seq ?_)
 refine SC.seq (SC.region ?_)
 iterate 2 refine SL.val (Val.move rfl) rfl rfl ?_
 refine SL.val (Val.cutLo (s := 3) (q := i) tabOk Tryz.underlying64 rfl rfl rfl (by repeat first|assumption|exact m0|apply m1) rfl (by omega) (by first | omega | (simp only [List.length_append, List.length_take, List.length_drop, List.length_cons, List.length_nil]; omega))) rfl rfl ?_
 refine SL.val (Val.move rfl) rfl rfl ?_
 refine SL.eff (Eff.copyRow (s := 3) (q := i) (ys := [y]) (zs := (xs.take i ++ y :: xs.drop i)) tabOk Tryz.underlying64 rfl rfl rfl (by first | omega | (simp only [List.length_append, List.length_take, List.length_drop, List.length_cons, List.length_nil]; omega)) (Src.ofAll rfl (by repeat first|assumption|exact m0|apply m1) (by simp) (by rw [ins_len hlt hjs]; simp only [List.length_cons, List.length_nil]; omega)) (by first | exact ins_ones h1 _ | (intro c hc; rw [List.mem_singleton] at hc; subst hc; exact hy)) (ins_d hlt hjs) (by repeat first|assumption|exact Upd.here|apply Upd.there)) rfl rfl ?_
 rintro _ _ ⟨rfl, rfl⟩
 refine SL.nil (SE.seq ?_)
 refine SC.seq (SC.region ?_)
 refine SL.val (Val.move rfl) rfl rfl ?_
 refine SL.val (Val.assign rfl) rfl rfl ?_
 refine SL.nil (SE.seq ?_)
 refine SC.ret ?_
 refine SE.then_ nofun ?_
 refine SE.fin (rs := [.tmp 6]) rfl (RV.tmp rfl RV.nil) ((cutTo v (xs.length + 1))) (by repeat first|exact s0 _|exact s1 _|apply s2|apply s3) (by simp [It.rids]) ?_
 exact rfl
section
variable {x : Oc} {xs : List Oc} {p q : Nat} {k : Int} {v : Value}
theorem place_oc (hn : xs.length ≤ 1000000) : Spec Tryz.prog 75 [.sl 3 (xs.map Oc.abs), int k, .fn (.func 66) [] []] [] (fun _ : Unit => []) (fun _ => .tup [int ((placeG (eqO k) (gtO k) xs).1 : Nat), boo (placeG (eqO k) (gtO k) xs).2]) := by
 refine spec_of Tryz.func75 rfl Tryz.ntmps75 rfl fun G w => ?_
 refine SC.seq (SC.region ?_)
 refine SL.eff (Eff.box1 rfl rfl) rfl rfl ?_
 rintro _ _ ⟨b4, rfl, rfl⟩
 refine SL.eff (Eff.box1 rfl rfl) rfl rfl ?_
 rintro _ _ ⟨b5, rfl, rfl⟩
 iterate 2 refine SL.val (Val.assign rfl) rfl rfl ?_
 refine SL.nil (SE.seq ?_)
 refine SC.seq ?_
 refine SC.seq (SC.region ?_)
 refine SL.val (Val.move rfl) rfl rfl ?_
 refine SL.val (Val.makeFunc rfl rfl) rfl rfl ?_
 refine SL.call (indexI_oc (xs := xs) (k := 101) (caps := [ptr b5, ptr b4]) (σ := [.rd b5 106 [.fn (.func 66) [] []], .rd b4 3 [int k]]) (p := eqO k) (by kernel_rfl) (by intro x hx; simp only [List.mem_cons, List.not_mem_nil, or_false] at hx; rcases hx with rfl | rfl <;> exact .inl ⟨_, _, _, rfl⟩) (by omega) (fun x _ => pl1_oc)) Casts.refl (by kernel_rfl) rfl rfl rfl ?_
 refine ap_ ?_
 intro z1
 have e1 := z1.2.eq
 refine SL.val (Val.assign rfl) rfl rfl ?_
 refine SL.nil (SE.seq ?_)
 refine SC.seq (SC.region ?_)
 refine SL.val (Val.move rfl) rfl rfl ?_
 refine SL.val (Val.geI rfl rfl) rfl rfl ?_
 refine SL.nil (SE.seq ?_)
 refine SC.condP rfl ?_ ?_
 ·intro hc14
  have ha : xs.any (eqO k) = true := by
   rcases Bool.eq_false_or_eq_true (xs.any (eqO k)) with h | h
   ·exact h
   ·rw [if_neg (by rw [h]; decide)] at e1; omega
  rw [if_pos ha] at e1
  refine SC.seq (SC.region ?_)
  refine SL.val (Val.move rfl) rfl rfl ?_
  iterate 2 refine SL.val (Val.assign rfl) rfl rfl ?_
  refine SL.nil (SE.seq ?_)
  refine SC.ret ?_
  refine SE.then_ nofun ?_
  refine SE.fin (rs := [.tmp 6, .tmp 7]) rfl (RV.tmp rfl (RV.tmp rfl RV.nil)) (()) (by repeat first|exact s0 _|exact s1 _|apply s2|apply s3) (by simp [It.rids]) ?_
  have hp : placeG (eqO k) (gtO k) xs = (xs.findIdx (eqO k), true) := if_pos ha
  rw [hp, e1]
  rfl
 intro hc14
 have hn1 : ¬ xs.any (eqO k) = true := fun h => by rw [if_pos h] at e1; omega
 refine SC.skip ?_
 refine SE.seq ?_
 refine SC.seq ?_
 refine SC.seq (SC.region ?_)
 refine SL.val (Val.move rfl) rfl rfl ?_
 refine SL.val (Val.makeFunc rfl rfl) rfl rfl ?_
 refine SL.call (indexI_oc (xs := xs) (k := 102) (caps := [ptr b5, ptr b4]) (σ := [.rd b5 106 [.fn (.func 66) [] []], .rd b4 3 [int k]]) (p := gtO k) (by kernel_rfl) (by intro x hx; simp only [List.mem_cons, List.not_mem_nil, or_false] at hx; rcases hx with rfl | rfl <;> exact .inl ⟨_, _, _, rfl⟩) (by omega) (fun x _ => pl2_oc)) Casts.refl (by kernel_rfl) rfl rfl rfl ?_
 refine ap_ ?_
 intro z2
 have e2 := z2.2.eq
 refine SL.val (Val.assign rfl) rfl rfl ?_
 refine SL.nil (SE.seq ?_)
 refine SC.seq (SC.region ?_)
 refine SL.val (Val.move rfl) rfl rfl ?_
 refine SL.val (Val.geI rfl rfl) rfl rfl ?_
 refine SL.nil (SE.seq ?_)
 refine SC.condP rfl ?_ ?_
 ·intro hc20
  refine SC.seq (SC.region ?_)
  refine SL.val (Val.move rfl) rfl rfl ?_
  iterate 2 refine SL.val (Val.assign rfl) rfl rfl ?_
  refine SL.nil (SE.seq ?_)
  refine SC.ret ?_
  refine SE.then_ nofun ?_
  refine SE.fin (rs := [.tmp 6, .tmp 7]) rfl (RV.tmp rfl (RV.tmp rfl RV.nil)) (()) (by repeat first|exact s0 _|exact s1 _|apply s2|apply s3) (by simp [It.rids]) ?_
  have hp : placeG (eqO k) (gtO k) xs = (xs.findIdx (gtO k), false) := if_neg hn1
  rw [hp]
  rcases Bool.eq_false_or_eq_true (xs.any (gtO k)) with h | h
  ·rw [if_pos h] at e2
   first
    | (rw [e2]; rfl)
    | (exfalso; omega)
  ·rw [if_neg (by rw [h]; decide)] at e2
   first
    | (exfalso; omega)
    | (rw [show xs.findIdx (gtO k) = xs.length from List.findIdx_eq_length.2 (by simpa using h)]; rfl)
 intro hc20
 refine SC.skip ?_
 refine SE.seq ?_
 refine SC.seq (SC.region ?_)
 refine SL.val (Val.move rfl) rfl rfl ?_
 first
  | refine SL.val (Val.lenSl rfl Tryz.underlying64 (List.length_map _)) rfl rfl ?_
  | refine SL.val (Val.lenOwn rfl (by repeat first|assumption|exact m0|apply m1) Tryz.underlying64 (List.length_map _)) rfl rfl ?_
  | refine SL.val (Val.lenNil rfl Tryz.underlying64) rfl rfl ?_
 iterate 2 refine SL.val (Val.assign rfl) rfl rfl ?_
 refine SL.nil (SE.seq ?_)
 refine SC.ret ?_
 refine SE.fin (rs := [.tmp 6, .tmp 7]) rfl (RV.tmp rfl (RV.tmp rfl RV.nil)) (()) (by repeat first|exact s0 _|exact s1 _|apply s2|apply s3) (by simp [It.rids]) ?_
 have hp : placeG (eqO k) (gtO k) xs = (xs.findIdx (gtO k), false) := if_neg hn1
 rw [hp]
 rcases Bool.eq_false_or_eq_true (xs.any (gtO k)) with h | h
 ·rw [if_pos h] at e2
  first
   | (rw [e2]; rfl)
   | (exfalso; omega)
 ·rw [if_neg (by rw [h]; decide)] at e2
  first
   | (exfalso; omega)
   | (rw [show xs.findIdx (gtO k) = xs.length from List.findIdx_eq_length.2 (by simpa using h)]; rfl)
theorem placeO_oc (hn : xs.length ≤ 1000000) : Spec Tryz.prog 75 [.v v, int k, .fn (.func 66) [] []] [.rdpc (ownPc 76 3 v (xs.map Oc.abs))] (fun _ : Unit => []) (fun _ => .tup [int ((placeG (eqO k) (gtO k) xs).1 : Nat), boo (placeG (eqO k) (gtO k) xs).2]) := by
 refine spec_of Tryz.func75 rfl Tryz.ntmps75 rfl fun G w => ?_
 refine SC.seq (SC.region ?_)
 refine SL.eff (Eff.box1 rfl rfl) rfl rfl ?_
 rintro _ _ ⟨b4, rfl, rfl⟩
 refine SL.eff (Eff.box1 rfl rfl) rfl rfl ?_
 rintro _ _ ⟨b5, rfl, rfl⟩
 iterate 2 refine SL.val (Val.assign rfl) rfl rfl ?_
 refine SL.nil (SE.seq ?_)
 refine SC.seq ?_
 refine SC.seq (SC.region ?_)
 refine SL.val (Val.move rfl) rfl rfl ?_
 refine SL.val (Val.makeFunc rfl rfl) rfl rfl ?_
 refine SL.call (indexO_oc (xs := xs) (k := 101) (caps := [ptr b5, ptr b4]) (σ := [.rd b5 106 [.fn (.func 66) [] []], .rd b4 3 [int k]]) (p := eqO k) (by kernel_rfl) (by intro x hx; simp only [List.mem_cons, List.not_mem_nil, or_false] at hx; rcases hx with rfl | rfl <;> exact .inl ⟨_, _, _, rfl⟩) (by omega) (fun x _ => pl1_oc)) Casts.refl (by kernel_rfl) rfl rfl rfl ?_
 refine ap_ ?_
 intro z1
 have e1 := z1.2.eq
 refine SL.val (Val.assign rfl) rfl rfl ?_
 refine SL.nil (SE.seq ?_)
 refine SC.seq (SC.region ?_)
 refine SL.val (Val.move rfl) rfl rfl ?_
 refine SL.val (Val.geI rfl rfl) rfl rfl ?_
 refine SL.nil (SE.seq ?_)
 refine SC.condP rfl ?_ ?_
 ·intro hc14
  have ha : xs.any (eqO k) = true := by
   rcases Bool.eq_false_or_eq_true (xs.any (eqO k)) with h | h
   ·exact h
   ·rw [if_neg (by rw [h]; decide)] at e1; omega
  rw [if_pos ha] at e1
  refine SC.seq (SC.region ?_)
  refine SL.val (Val.move rfl) rfl rfl ?_
  iterate 2 refine SL.val (Val.assign rfl) rfl rfl ?_
  refine SL.nil (SE.seq ?_)
  refine SC.ret ?_
  refine SE.then_ nofun ?_
  refine SE.fin (rs := [.tmp 6, .tmp 7]) rfl (RV.tmp rfl (RV.tmp rfl RV.nil)) (()) (by repeat first|exact s0 _|exact s1 _|apply s2|apply s3) (by simp [It.rids]) ?_
  have hp : placeG (eqO k) (gtO k) xs = (xs.findIdx (eqO k), true) := if_pos ha
  rw [hp, e1]
  rfl
 intro hc14
 have hn1 : ¬ xs.any (eqO k) = true := fun h => by rw [if_pos h] at e1; omega
 refine SC.skip ?_
 refine SE.seq ?_
 refine SC.seq ?_
 refine SC.seq (SC.region ?_)
 refine SL.val (Val.move rfl) rfl rfl ?_
 refine SL.val (Val.makeFunc rfl rfl) rfl rfl ?_
 refine SL.call (indexO_oc (xs := xs) (k := 102) (caps := [ptr b5, ptr b4]) (σ := [.rd b5 106 [.fn (.func 66) [] []], .rd b4 3 [int k]]) (p := gtO k) (by kernel_rfl) (by intro x hx; simp only [List.mem_cons, List.not_mem_nil, or_false] at hx; rcases hx with rfl | rfl <;> exact .inl ⟨_, _, _, rfl⟩) (by omega) (fun x _ => pl2_oc)) Casts.refl (by kernel_rfl) rfl rfl rfl ?_
 refine ap_ ?_
 intro z2
 have e2 := z2.2.eq
 refine SL.val (Val.assign rfl) rfl rfl ?_
 refine SL.nil (SE.seq ?_)
 refine SC.seq (SC.region ?_)
 refine SL.val (Val.move rfl) rfl rfl ?_
 refine SL.val (Val.geI rfl rfl) rfl rfl ?_
 refine SL.nil (SE.seq ?_)
 refine SC.condP rfl ?_ ?_
 ·intro hc20
  refine SC.seq (SC.region ?_)
  refine SL.val (Val.move rfl) rfl rfl ?_
  iterate 2 refine SL.val (Val.assign rfl) rfl rfl ?_
  refine SL.nil (SE.seq ?_)
  refine SC.ret ?_
  refine SE.then_ nofun ?_
  refine SE.fin (rs := [.tmp 6, .tmp 7]) rfl (RV.tmp rfl (RV.tmp rfl RV.nil)) (()) (by repeat first|exact s0 _|exact s1 _|apply s2|apply s3) (by simp [It.rids]) ?_
  have hp : placeG (eqO k) (gtO k) xs = (xs.findIdx (gtO k), false) := if_neg hn1
  rw [hp]
  rcases Bool.eq_false_or_eq_true (xs.any (gtO k)) with h | h
  ·rw [if_pos h] at e2
   first
    | (rw [e2]; rfl)
    | (exfalso; omega)
  ·rw [if_neg (by rw [h]; decide)] at e2
   first
    | (exfalso; omega)
    | (rw [show xs.findIdx (gtO k) = xs.length from List.findIdx_eq_length.2 (by simpa using h)]; rfl)
 intro hc20
 refine SC.skip ?_
 refine SE.seq ?_
 refine SC.seq (SC.region ?_)
 refine SL.val (Val.move rfl) rfl rfl ?_
 refine SL.val (Val.lenOwnR (m := xs.length) rfl (.inr (by repeat first|assumption|exact m0|apply m1)) Tryz.underlying64 (List.length_map _)) rfl rfl ?_
 iterate 2 refine SL.val (Val.assign rfl) rfl rfl ?_
 refine SL.nil (SE.seq ?_)
 refine SC.ret ?_
 refine SE.fin (rs := [.tmp 6, .tmp 7]) rfl (RV.tmp rfl (RV.tmp rfl RV.nil)) (()) (by repeat first|exact s0 _|exact s1 _|apply s2|apply s3) (by simp [It.rids]) ?_
 have hp : placeG (eqO k) (gtO k) xs = (xs.findIdx (gtO k), false) := if_neg hn1
 rw [hp]
 rcases Bool.eq_false_or_eq_true (xs.any (gtO k)) with h | h
 ·rw [if_pos h] at e2
  first
   | (rw [e2]; rfl)
   | (exfalso; omega)
 ·rw [if_neg (by rw [h]; decide)] at e2
  first
   | (exfalso; omega)
   | (rw [show xs.findIdx (gtO k) = xs.length from List.findIdx_eq_length.2 (by simpa using h)]; rfl)
set_option maxHeartbeats 1000000 in
theorem put_oc (hn : xs.length ≤ 100000) : Spec Tryz.prog 65 [.sl 3 (xs.map Oc.abs), .agg (Oc.abs x), .fn (.func 66) [] []] [] (fun _ : Unit => []) (fun _ => .sl 3 ((withG (eqO x.client) (gtO x.client) x xs).map Oc.abs)) := by
 refine spec_of Tryz.func65 rfl Tryz.ntmps65 rfl fun G w => ?_
 refine SC.seq (SC.region ?_)
 refine SL.eff (Eff.boxA (cs := Oc.abs x) rfl) rfl rfl ?_
 rintro _ _ ⟨b4, rfl, rfl⟩
 refine SL.val (Val.assign rfl) rfl rfl ?_
 refine SL.nil (SE.seq ?_)
 refine SC.seq (SC.region ?_)
 refine SL.val (Val.move rfl) rfl rfl ?_
 refine SL.call (cloneO_oc_s (ocs_ones xs) (by rw [List.length_map]; omega)) Casts.refl (by kernel_rfl) rfl rfl rfl ?_
 refine After.make (by repeat (first | exact Reads.nil | (refine Reads.blk ?_ ?_; focus ((repeat first|assumption|exact m0|apply m1); done)) | (refine Reads.rd ?_ ?_; focus ((repeat first|assumption|exact m0|apply m1); done)) | (refine Reads.pc ?_ ?_; focus ((repeat first|assumption|exact m0|apply m1); done)) | (refine Reads.rdpc ?_ ?_; focus ((repeat first|assumption|exact m0|apply m1); done)))) (fun _ => rfl) ?_
 intro z5
 refine SL.val (Val.assign rfl) rfl rfl ?_
 refine SL.nil (SE.seq ?_)
 refine SC.seq (SC.region ?_)
 iterate 2 refine SL.val (Val.move rfl) rfl rfl ?_
 refine SL.val (Val.loadA tabOk rfl rfl rfl (by repeat first|assumption|exact o0_|exact o1_|apply o2_) List.not_mem_nil (by rfl)) rfl rfl ?_
 refine SL.callv (key_oc (x := x)) rfl Casts.refl (by kernel_rfl) rfl rfl rfl ?_
 refine ap_ ?_
 intro _
 refine SL.val (Val.move rfl) rfl rfl ?_
 refine SL.call (placeO_oc (v := z5) (xs := xs) (k := x.client) (by omega)) Casts.refl (by kernel_rfl) rfl rfl rfl ?_
 refine ap_ ?_
 intro _
 refine SL.val (Val.move rfl) rfl rfl ?_
 refine SL.val (Val.extract rfl rfl) rfl rfl ?_
 refine SL.val (Val.extract rfl rfl) rfl rfl ?_
 iterate 2 refine SL.val (Val.assign rfl) rfl rfl ?_
 refine SL.nil (SE.seq ?_)
 refine SC.seq ?_
 refine SC.seq (SC.region ?_)
 refine SL.val (Val.move rfl) rfl rfl ?_
 refine SL.nil (SE.seq ?_)
 refine SC.cond rfl ?_ ?_
 rotate_left
 ·intro hc20
  have hn1 : ¬ xs.any (eqO x.client) = true := fun h => by unfold placeG at hc20; rw [if_pos h] at hc20; cases hc20
  have hp : (placeG (eqO x.client) (gtO x.client) xs) = (xs.findIdx (gtO x.client), false) := if_neg hn1
  have hle : (placeG (eqO x.client) (gtO x.client) xs).1 ≤ xs.length := by rw [hp]; exact findIdx_le
  have hw : (withG (eqO x.client) (gtO x.client) x xs) = xs.take (placeG (eqO x.client) (gtO x.client) xs).1 ++ x :: xs.drop (placeG (eqO x.client) (gtO x.client) xs).1 := by
   rw [hp]
   exact (if_neg hn1).trans putG_ins
  refine SC.skip ?_
  refine SE.seq ?_
  refine SC.seq (SC.region ?_)
  iterate 2 refine SL.val (Val.move rfl) rfl rfl ?_
  refine SL.val (Val.loadA tabOk rfl rfl rfl (by repeat first|assumption|exact o0_|exact o1_|apply o2_) List.not_mem_nil (by rfl)) rfl rfl ?_
  refine SL.eff (Eff.buildOwn tabOk Tryz.underlying64 rfl rfl rfl rfl rfl rfl rfl) rfl rfl ?_
  rintro _ _ ⟨r29, rfl, rfl⟩
  refine SL.call (ins_oc (u := r29) (v := z5) (xs := xs.map Oc.abs) (y := Oc.abs x) (i := (placeG (eqO x.client) (gtO x.client) xs).1) (by rw [List.length_map]; exact hle) (ocs_ones xs) rfl (by rw [List.length_map]; omega)) Casts.refl (by kernel_rfl) rfl rfl rfl ?_
  refine After.mid [] (β := [_]) rfl (by intro x hx; simp only [List.mem_cons, List.not_mem_nil, or_false] at hx; rcases hx with rfl | rfl <;> rfl) ?_
  intro z30
  refine SL.freeze [] (t := 30) rfl rfl ?_
  rw [show List.take (placeG (eqO x.client) (gtO x.client) xs).1 (List.map Oc.abs xs) ++ Oc.abs x :: List.drop (placeG (eqO x.client) (gtO x.client) xs).1 (List.map Oc.abs xs) = (withG (eqO x.client) (gtO x.client) x xs).map Oc.abs by rw [hw, List.map_append, List.map_cons, List.map_take, List.map_drop]]
  refine SL.val (Val.assign rfl) rfl rfl ?_
  refine SL.nil (SE.seq ?_)
  refine SC.ret ?_
  refine SE.fin (rs := [.tmp 6]) rfl (RV.tmp rfl RV.nil) (()) (by repeat first|exact s0 _|exact s1 _|apply s2|apply s3) (by simp [It.rids]) ?_
  exact rfl
 intro hc20
 have ha : xs.any (eqO x.client) = true := by
  rcases Bool.eq_false_or_eq_true (xs.any (eqO x.client)) with h | h
  ·exact h
  ·unfold placeG at hc20; rw [if_neg (by rw [h]; decide)] at hc20; cases hc20
 have hp : (placeG (eqO x.client) (gtO x.client) xs) = (xs.findIdx (eqO x.client), true) := if_pos ha
 have hlt : (placeG (eqO x.client) (gtO x.client) xs).1 < xs.length := by rw [hp]; exact findIdx_in ha
 have hw : (withG (eqO x.client) (gtO x.client) x xs) = xs.set (placeG (eqO x.client) (gtO x.client) xs).1 x := by
  rw [hp]
  exact (if_pos ha).trans (putG_set ha)
 refine SC.seq (SC.region ?_)
 iterate 2 refine SL.val (Val.move rfl) rfl rfl ?_
 refine SL.val (Val.loadA tabOk rfl rfl rfl (by repeat first|assumption|exact o0_|exact o1_|apply o2_) List.not_mem_nil (by rfl)) rfl rfl ?_
 refine SL.val (Val.indexOwn (q := (placeG (eqO x.client) (gtO x.client) xs).1) tabOk Tryz.underlying64 rfl rfl (.inl (by repeat first|assumption|exact m0|apply m1)) rfl rfl (by rw [List.length_map]; exact hlt) rfl rfl) rfl rfl ?_
 refine SL.eff (Eff.setOwn (q := (placeG (eqO x.client) (gtO x.client) xs).1) (ys := Oc.abs x) tabOk rfl rfl rfl (by repeat first|assumption|exact Upd.here|apply Upd.there) rfl rfl rfl (by rw [List.length_map]; exact hlt) rfl) rfl rfl ?_
 rintro _ _ ⟨rfl, rfl⟩
 refine SL.nil (SE.seq ?_)
 refine SC.seq ?_
 refine SC.freeze [] (t := 0) rfl rfl ?_
 rw [show List.set (List.map Oc.abs xs) (placeG (eqO x.client) (gtO x.client) xs).1 (Oc.abs x) = (withG (eqO x.client) (gtO x.client) x xs).map Oc.abs by rw [hw, List.map_set]]
 refine SC.region ?_
 refine SL.val (Val.move rfl) rfl rfl ?_
 refine SL.val (Val.assign rfl) rfl rfl ?_
 refine SL.nil (SE.seq ?_)
 refine SC.ret ?_
 refine SE.then_ nofun ?_
 refine SE.fin (rs := [.tmp 6]) rfl (RV.tmp rfl RV.nil) (()) (by repeat first|exact s0 _|exact s1 _|apply s2|apply s3) (by simp [It.rids]) ?_
 exact rfl
end
section
variable {x : Ltr} {xs : List Ltr} {p q : Nat} {k : ByteArray} {v : Value}
theorem key_ltr  : Spec Tryz.prog 79 [.agg (ltrA x)] [] (fun _ : Unit => []) (fun _ => st x.name) := by
 refine spec_of Tryz.func79 rfl Tryz.ntmps79 rfl fun G w => ?_
 refine SC.seq (SC.region ?_)
 refine SL.eff (Eff.boxA (cs := ltrA x) rfl) rfl rfl ?_
 rintro _ _ ⟨b1, rfl, rfl⟩
 refine SL.val (Val.assign rfl) rfl rfl ?_
 refine SL.nil (SE.seq ?_)
 refine SC.seq (SC.region ?_)
 refine SL.val (Val.fieldAddr tabOk rfl rfl rfl rfl rfl) rfl rfl ?_
 refine SL.val (Val.load1 tabOk rfl rfl (by repeat first|assumption|exact o0_|exact o1_|apply o2_) List.not_mem_nil (by rfl)) rfl rfl ?_
 refine SL.val (Val.assign rfl) rfl rfl ?_
 refine SL.nil (SE.seq ?_)
 refine SC.ret ?_
 refine SE.fin (rs := [.tmp 2]) rfl (RV.tmp rfl RV.nil) (()) (by repeat first|exact s0 _|exact s1 _|apply s2|apply s3) (by simp [It.rids]) ?_
 exact rfl
theorem pl1_ltr  : Spec Tryz.prog 105 [.agg (ltrA x), ptr p, ptr q] [.rd p 113 [.fn (.func 79) [] []], .rd q 9 [st k]] (fun _ : Unit => []) (fun _ => boo (eqL k x)) := by
 refine spec_of Tryz.func105 rfl Tryz.ntmps105 rfl fun G w => ?_
 refine SC.seq (SC.region ?_)
 refine SL.eff (Eff.boxA (cs := ltrA x) rfl) rfl rfl ?_
 rintro _ _ ⟨b3, rfl, rfl⟩
 refine SL.val (Val.assign rfl) rfl rfl ?_
 refine SL.nil (SE.seq ?_)
 refine SC.seq ?_
 refine SC.draw [] (.q 0 (.q 1 (.q 3 (.e 2 (.q 4 (.q 5 .nil)))))) (by kernel_rfl) (by kernel_rfl) ?_
 refine SX.val rfl (Val.load1 tabOk rfl rfl (by repeat first|assumption|exact o0_|exact o1_|apply o2_) List.not_mem_nil (by rfl)) (by simp) rfl rfl ?_
 refine SX.hx (by first|(simp[mids,It.mids,ownPc];done)|(intro k hk;simp[mids,It.mids,ownPc] at hk ⊢;grind)) fun hx9 => ?_
 refine SX.val rfl (Val.loadA tabOk rfl rfl rfl (by repeat first|assumption|exact o0_|exact o1_|apply o2_) List.not_mem_nil (by rfl)) hx9 rfl rfl ?_
 refine SX.val rfl (Val.load1 tabOk rfl rfl (by repeat first|assumption|exact o0_|exact o1_|apply o2_) List.not_mem_nil (by rfl)) (by simp) rfl rfl ?_
 refine SX.callv rfl (key_ltr (x := x)) (by simp [mids, It.mids]) rfl Casts.refl (by kernel_rfl) rfl rfl rfl ?_
 refine ap_ ?_
 intro _
 refine SX.hx (by first|(simp[mids,It.mids,ownPc];done)|(intro k hk;simp[mids,It.mids,ownPc] at hk ⊢;grind)) fun hx9 => ?_
 refine SX.val rfl (Val.eqS rfl rfl) hx9 rfl rfl ?_
 refine SX.val rfl (Val.assign rfl) (by simp) rfl rfl ?_
 refine SX.nil (SE.seq ?_)
 refine SC.ret ?_
 refine SE.fin (rs := [.tmp 4]) rfl (RV.tmp rfl RV.nil) (()) (by repeat first|exact s0 _|exact s1 _|apply s2|apply s3) (by simp [It.rids]) ?_
 exact rfl
theorem pl2_ltr  : Spec Tryz.prog 106 [.agg (ltrA x), ptr p, ptr q] [.rd p 113 [.fn (.func 79) [] []], .rd q 9 [st k]] (fun _ : Unit => []) (fun _ => boo (gtL k x)) := by
 refine spec_of Tryz.func106 rfl Tryz.ntmps106 rfl fun G w => ?_
 refine SC.seq (SC.region ?_)
 refine SL.eff (Eff.boxA (cs := ltrA x) rfl) rfl rfl ?_
 rintro _ _ ⟨b3, rfl, rfl⟩
 refine SL.val (Val.assign rfl) rfl rfl ?_
 refine SL.nil (SE.seq ?_)
 refine SC.seq ?_
 refine SC.draw [] (.q 0 (.q 1 (.q 3 (.e 2 (.q 4 (.q 5 .nil)))))) (by kernel_rfl) (by kernel_rfl) ?_
 refine SX.val rfl (Val.load1 tabOk rfl rfl (by repeat first|assumption|exact o0_|exact o1_|apply o2_) List.not_mem_nil (by rfl)) (by simp) rfl rfl ?_
 refine SX.hx (by first|(simp[mids,It.mids,ownPc];done)|(intro k hk;simp[mids,It.mids,ownPc] at hk ⊢;grind)) fun hx9 => ?_
 refine SX.val rfl (Val.loadA tabOk rfl rfl rfl (by repeat first|assumption|exact o0_|exact o1_|apply o2_) List.not_mem_nil (by rfl)) hx9 rfl rfl ?_
 refine SX.val rfl (Val.load1 tabOk rfl rfl (by repeat first|assumption|exact o0_|exact o1_|apply o2_) List.not_mem_nil (by rfl)) (by simp) rfl rfl ?_
 refine SX.callv rfl (key_ltr (x := x)) (by simp [mids, It.mids]) rfl Casts.refl (by kernel_rfl) rfl rfl rfl ?_
 refine ap_ ?_
 intro _
 refine SX.hx (by first|(simp[mids,It.mids,ownPc];done)|(intro k hk;simp[mids,It.mids,ownPc] at hk ⊢;grind)) fun hx9 => ?_
 refine SX.val rfl (Val.gtS rfl rfl) hx9 rfl rfl ?_
 refine SX.val rfl (Val.assign rfl) (by simp) rfl rfl ?_
 refine SX.nil (SE.seq ?_)
 refine SC.ret ?_
 refine SE.fin (rs := [.tmp 4]) rfl (RV.tmp rfl RV.nil) (()) (by repeat first|exact s0 _|exact s1 _|apply s2|apply s3) (by simp [It.rids]) ?_
 exact rfl
theorem clone_ltr_s {xs : List (List Abs)} (h1 : ∀ c ∈ xs, ones c = true) (hn : xs.length ≤ 1000000) : Spec Tryz.prog 44 [.sl 6 xs] [] (fun _ : Unit => []) (fun _ => .sl 6 xs) := by
 refine spec_of Tryz.func44 rfl Tryz.ntmps44 rfl fun G w => ?_
 refine SC.seq (SC.region ?_)
 refine SL.val (Val.assign rfl) rfl rfl ?_
 refine SL.nil (SE.seq ?_)
 refine SC.seq ?_
 refine SC.seq (SC.region ?_)
 refine SL.val (Val.move rfl) rfl rfl ?_
 refine SL.eqNil Tryz.underlying63 rfl rfl rfl ?_
 intro b hb
 refine SL.nil (SE.seq ?_)
 refine SC.cond rfl ?_ ?_
 ·intro hc4
  have hnil : xs = [] := hb hc4
  subst hnil
  refine SC.seq (SC.region ?_)
  refine SL.val (Val.assign rfl) rfl rfl ?_
  refine SL.nil (SE.seq ?_)
  refine SC.ret ?_
  refine SE.then_ nofun ?_
  refine SE.finC (rs := [.tmp 2]) rfl (RV.tmp rfl RV.nil) (Casts.nils (s := 6) Casts.refl) () (by repeat first|exact s0 _|exact s1 _|apply s2|apply s3) (by simp [It.rids]) rfl
 intro hc4
 refine SC.skip ?_
 refine SE.seq ?_
 refine SC.seq (SC.region ?_)
 refine SL.eff (Eff.buildOwn tabOk Tryz.underlying63 rfl rfl rfl rfl rfl rfl rfl) rfl rfl ?_
 rintro _ _ ⟨r5, rfl, rfl⟩
 refine SL.val (Val.move rfl) rfl rfl ?_
 refine SL.eff (Eff.appendE (zs := xs) tabOk [] rfl Tryz.underlying63 rfl rfl rfl rfl rfl rfl h1 (by unfold maxLen; simp only [List.length_nil]; omega) (by rw [show Tryz.prog.bytesOf 74 = 72 by kernel_rfl]; simp only [List.length_nil]; omega)) rfl rfl ?_
 rintro _ _ ⟨r7, rfl, rfl⟩
 refine SL.val (Val.assign rfl) rfl rfl ?_
 refine SL.nil (SE.seq ?_)
 refine SC.ret ?_
 refine SE.freeze [] (t := 2) rfl rfl ?_
 refine SE.fin (rs := [.tmp 2]) rfl (RV.tmp rfl RV.nil) (()) (by repeat first|exact s0 _|exact s1 _|apply s2|apply s3) (by simp [It.rids]) ?_
 exact rfl
theorem cloneO_ltr_s {xs : List (List Abs)} (h1 : ∀ c ∈ xs, ones c = true) (hn : xs.length ≤ 1000000) : Spec Tryz.prog 44 [.sl 6 xs] [] (fun r : Value => [own 74 6 r xs]) (fun r => .v r) := by
 refine spec_of Tryz.func44 rfl Tryz.ntmps44 rfl fun G w => ?_
 refine SC.seq (SC.region ?_)
 refine SL.val (Val.assign rfl) rfl rfl ?_
 refine SL.nil (SE.seq ?_)
 refine SC.seq ?_
 refine SC.seq (SC.region ?_)
 refine SL.val (Val.move rfl) rfl rfl ?_
 refine SL.eqNil Tryz.underlying63 rfl rfl rfl ?_
 intro b hb
 refine SL.nil (SE.seq ?_)
 refine SC.cond rfl ?_ ?_
 ·intro hc4
  have hnil : xs = [] := hb hc4
  subst hnil
  refine SC.seq ?_
  refine SC.own0 74 6 ?_
  refine SC.region ?_
  refine SL.val (Val.assign rfl) rfl rfl ?_
  refine SL.nil (SE.seq ?_)
  refine SC.ret ?_
  refine SE.then_ nofun ?_
  refine SE.fin (rs := [.tmp 2]) rfl (RV.tmp rfl RV.nil) (.slice none 0 0) (by repeat first|exact s0 _|exact s1 _|apply s2|apply s3) (by simp [It.rids]) ?_
  exact rfl
 intro hc4
 refine SC.skip ?_
 refine SE.seq ?_
 refine SC.seq (SC.region ?_)
 refine SL.eff (Eff.buildOwn tabOk Tryz.underlying63 rfl rfl rfl rfl rfl rfl rfl) rfl rfl ?_
 rintro _ _ ⟨r5, rfl, rfl⟩
 refine SL.val (Val.move rfl) rfl rfl ?_
 refine SL.eff (Eff.appendE (zs := xs) tabOk [] rfl Tryz.underlying63 rfl rfl rfl rfl rfl rfl h1 (by unfold maxLen; simp only [List.length_nil]; omega) (by rw [show Tryz.prog.bytesOf 74 = 72 by kernel_rfl]; simp only [List.length_nil]; omega)) rfl rfl ?_
 rintro _ _ ⟨r7, rfl, rfl⟩
 refine SL.val (Val.assign rfl) rfl rfl ?_
 refine SL.nil (SE.seq ?_)
 refine SC.ret ?_
 refine SE.fin (rs := [.tmp 2]) rfl (RV.tmp rfl RV.nil) (r7) (by repeat first|exact s0 _|exact s1 _|apply s2|apply s3) (by simp [It.rids]) ?_
 exact rfl
end
theorem indexI_ltr {xs : List Ltr} {p : Ltr → Bool} {k : Nat} {caps : List Abs} {σ : Blks} (hb : goesIn Tryz.prog k = true) (hr : Rds σ) (hn : xs.length < 9223372036854775807) (h : ∀ x ∈ xs, Spec Tryz.prog k (.agg (ltrA x) :: caps) σ (fun _ : Unit => []) (fun _ => boo (p x))) : Spec Tryz.prog 104 [.sl 6 (xs.map ltrA), .fn (.func k) [] caps] σ (fun _ : {r : Int // IdxOf p xs r} => []) (fun z => int z.1) := by
 refine spec_of Tryz.func104 rfl Tryz.ntmps104 rfl fun G w => ?_
 refine SC.seq (SC.region ?_)
 refine SL.val (Val.assign rfl) rfl rfl ?_
 refine SL.nil (SE.seq ?_)
 refine SC.seq ?_
 refine SC.seq (SC.region ?_)
 refine SL.val (Val.move rfl) rfl rfl ?_
 first
  | refine SL.val (Val.lenSl rfl Tryz.underlying63 (List.length_map _)) rfl rfl ?_
  | refine SL.val (Val.lenOwn rfl (by repeat first|assumption|exact m0|apply m1) Tryz.underlying63 (List.length_map _)) rfl rfl ?_
  | refine SL.val (Val.lenNil rfl Tryz.underlying63) rfl rfl ?_
 refine SL.val (Val.move rfl) rfl rfl ?_
 refine SL.nil (SE.seq ?_)
 refine SC.block ?_
 refine SC.loop (ι := Nat) (fun z => σ) (fun z => [(0, .sl 6 (xs.map ltrA)), (1, .fn (.func k) [] caps), (7, int (xs.length : Nat)), (8, int (z : Nat))]) (fun z => z ≤ xs.length ∧ ∀ j (hj : j < xs.length), j < z → p xs[j] = false) (fun z => xs.length - z) (0) (⟨Nat.zero_le _, by omega⟩) (by exact ⟨rfl, rfl, rfl, rfl, trivial⟩) (by repeat first|exact s0 _|exact s1 _|apply s2|apply s3) ?_
 intro z hz
 refine SC.seq (SC.region ?_)
 refine SL.val (Val.ltI rfl rfl) rfl rfl ?_
 refine SL.nil (SE.seq ?_)
 refine SC.seq ?_
 refine SC.condP rfl ?_ ?_
 rotate_left
 ·intro hc9
  refine SC.exit ?_
  refine SE.then_ nofun ?_
  refine SE.then_ nofun ?_
  refine SE.exit ?_
  refine SE.seq ?_
  refine SC.seq (SC.region ?_)
  refine SL.val (Val.assign rfl) rfl rfl ?_
  refine SL.nil (SE.seq ?_)
  refine SC.ret ?_
  refine SE.fin (rs := [.tmp 4]) rfl (RV.tmp rfl RV.nil) (⟨-1, .inl ⟨rfl, fun x hx => by obtain ⟨j, hj, rfl⟩ := List.getElem_of_mem hx; exact hz.2 j hj (by omega)⟩⟩) (by repeat first|exact s0 _|exact s1 _|apply s2|apply s3) (by simp [It.rids]) ?_
  exact rfl
 intro hc9
 have hlt : z < xs.length := by omega
 refine SC.skip ?_
 refine SE.seq ?_
 refine SC.seq ?_
 refine SC.block ?_
 refine SC.seq (SC.region ?_)
 refine SL.val (Val.move rfl) rfl rfl ?_
 refine SL.val (Val.assign rfl) rfl rfl ?_
 refine SL.nil (SE.seq ?_)
 refine SC.seq (SC.region ?_)
 iterate 3 refine SL.val (Val.move rfl) rfl rfl ?_
 refine SL.val (Val.indexSl tabOk Tryz.underlying63 rfl rfl rfl rfl (at_map (by omega)) rfl rfl) rfl rfl ?_
 refine SL.val (Val.loadAR tabOk rfl rfl rfl (by rfl)) rfl rfl ?_
 refine SL.callv (h _ (List.getElem_mem hlt)) rfl Casts.refl hb rfl rfl rfl ?_
 refine After.pure (Rds.reads hr (fun x hx => by repeat (first | exact hx | apply List.mem_cons_of_mem))) (fun _ => rfl) ?_
 intro _
 refine SL.nil (SE.seq ?_)
 refine SC.cond rfl ?_ ?_
 rotate_left
 ·intro hc16
  refine SC.skip ?_
  refine SE.inBlock ?_
  refine SE.seq ?_
  refine SC.region ?_
  first
   | refine SL.val (Val.addI rfl rfl (by simp only [InR, lo, hi]; omega)) rfl rfl ?_
   | refine SL.val (Val.addW rfl rfl) rfl rfl ?_
  refine SL.val (Val.move rfl) rfl rfl ?_
  refine SL.nil ?_
  refine SE.round (z + 1) (by first | omega | (dsimp only; omega)) (⟨by omega, fun j hj hjz => by rcases Nat.lt_or_ge j z with h1 | h1; exact hz.2 j hj h1; obtain rfl : j = z := (by omega); exact hc16⟩) (by exact ⟨rfl, rfl, rfl, rfl, trivial⟩) (by repeat first|exact s0 _|exact s1 _|apply s2|apply s3)
 intro hc16
 refine SC.seq (SC.region ?_)
 refine SL.val (Val.move rfl) rfl rfl ?_
 refine SL.val (Val.assign rfl) rfl rfl ?_
 refine SL.nil (SE.seq ?_)
 refine SC.ret ?_
 refine SE.ret ?_
 refine SE.then_ nofun ?_
 refine SE.then_ nofun ?_
 refine SE.ret ?_
 refine SE.then_ nofun ?_
 refine SE.fin (rs := [.tmp 4]) rfl (RV.tmp rfl RV.nil) (⟨(z : Nat), .inr ⟨z, hlt, rfl, hc16, fun j hj => hz.2 j (by omega) hj⟩⟩) (by repeat first|exact s0 _|exact s1 _|apply s2|apply s3) (by simp [It.rids]) ?_
 exact rfl
theorem indexO_ltr {v : Value} {xs : List Ltr} {p : Ltr → Bool} {k : Nat} {caps : List Abs} {σ : Blks} (hb : goesIn Tryz.prog k = true) (hr : Rds σ) (hn : xs.length < 9223372036854775807) (h : ∀ x ∈ xs, Spec Tryz.prog k (.agg (ltrA x) :: caps) σ (fun _ : Unit => []) (fun _ => boo (p x))) : Spec Tryz.prog 104 [.v v, .fn (.func k) [] caps] (.rdpc (ownPc 74 6 v (xs.map ltrA)) :: σ) (fun _ : {r : Int // IdxOf p xs r} => []) (fun z => int z.1) := by
 refine spec_of Tryz.func104 rfl Tryz.ntmps104 rfl fun G w => ?_
 refine SC.seq (SC.region ?_)
 refine SL.val (Val.assign rfl) rfl rfl ?_
 refine SL.nil (SE.seq ?_)
 refine SC.seq ?_
 refine SC.seq (SC.region ?_)
 refine SL.val (Val.move rfl) rfl rfl ?_
 refine SL.val (Val.lenOwnR (m := xs.length) rfl (.inr (by repeat first|assumption|exact m0|apply m1)) Tryz.underlying63 (List.length_map _)) rfl rfl ?_
 refine SL.val (Val.move rfl) rfl rfl ?_
 refine SL.nil (SE.seq ?_)
 refine SC.block ?_
 refine SC.loop (ι := Nat) (fun z => (.rdpc (ownPc 74 6 v (xs.map ltrA)) :: σ)) (fun z => [(0, .v v), (1, .fn (.func k) [] caps), (7, int (xs.length : Nat)), (8, int (z : Nat))]) (fun z => z ≤ xs.length ∧ ∀ j (hj : j < xs.length), j < z → p xs[j] = false) (fun z => xs.length - z) (0) (⟨Nat.zero_le _, by omega⟩) (by exact ⟨rfl, rfl, rfl, rfl, trivial⟩) (by repeat first|exact s0 _|exact s1 _|apply s2|apply s3) ?_
 intro z hz
 refine SC.seq (SC.region ?_)
 refine SL.val (Val.ltI rfl rfl) rfl rfl ?_
 refine SL.nil (SE.seq ?_)
 refine SC.seq ?_
 refine SC.condP rfl ?_ ?_
 rotate_left
 ·intro hc9
  refine SC.exit ?_
  refine SE.then_ nofun ?_
  refine SE.then_ nofun ?_
  refine SE.exit ?_
  refine SE.seq ?_
  refine SC.seq (SC.region ?_)
  refine SL.val (Val.assign rfl) rfl rfl ?_
  refine SL.nil (SE.seq ?_)
  refine SC.ret ?_
  refine SE.fin (rs := [.tmp 4]) rfl (RV.tmp rfl RV.nil) (⟨-1, .inl ⟨rfl, fun x hx => by obtain ⟨j, hj, rfl⟩ := List.getElem_of_mem hx; exact hz.2 j hj (by omega)⟩⟩) (by repeat first|exact s0 _|exact s1 _|apply s2|apply s3) (by simp [It.rids]) ?_
  exact rfl
 intro hc9
 have hlt : z < xs.length := by omega
 refine SC.skip ?_
 refine SE.seq ?_
 refine SC.seq ?_
 refine SC.block ?_
 refine SC.seq (SC.region ?_)
 refine SL.val (Val.move rfl) rfl rfl ?_
 refine SL.val (Val.assign rfl) rfl rfl ?_
 refine SL.nil (SE.seq ?_)
 refine SC.seq (SC.region ?_)
 iterate 3 refine SL.val (Val.move rfl) rfl rfl ?_
 refine SL.val (Val.indexOwn (q := z) tabOk Tryz.underlying63 rfl rfl (.inr (by repeat first|assumption|exact m0|apply m1)) rfl rfl (by rw [List.length_map]; exact hlt) rfl rfl) rfl rfl ?_
 refine SL.val (Val.loadOwnA tabOk rfl rfl rfl (.inr (by repeat first|assumption|exact m0|apply m1)) rfl (at_map hlt) rfl) rfl rfl ?_
 refine SL.callv (h _ (List.getElem_mem hlt)) rfl Casts.refl hb rfl rfl rfl ?_
 refine After.pure (Rds.reads hr (fun x hx => by repeat (first | exact hx | apply List.mem_cons_of_mem))) (fun _ => rfl) ?_
 intro _
 refine SL.nil (SE.seq ?_)
 refine SC.cond rfl ?_ ?_
 rotate_left
 ·intro hc16
  refine SC.skip ?_
  refine SE.inBlock ?_
  refine SE.seq ?_
  refine SC.region ?_
  first
   | refine SL.val (Val.addI rfl rfl (by simp only [InR, lo, hi]; omega)) rfl rfl ?_
   | refine SL.val (Val.addW rfl rfl) rfl rfl ?_
  refine SL.val (Val.move rfl) rfl rfl ?_
  refine SL.nil ?_
  refine SE.round (z + 1) (by first | omega | (dsimp only; omega)) (⟨by omega, fun j hj hjz => by rcases Nat.lt_or_ge j z with h1 | h1; exact hz.2 j hj h1; obtain rfl : j = z := (by omega); exact hc16⟩) (by exact ⟨rfl, rfl, rfl, rfl, trivial⟩) (by repeat first|exact s0 _|exact s1 _|apply s2|apply s3)
 intro hc16
 refine SC.seq (SC.region ?_)
 refine SL.val (Val.move rfl) rfl rfl ?_
 refine SL.val (Val.assign rfl) rfl rfl ?_
 refine SL.nil (SE.seq ?_)
 refine SC.ret ?_
 refine SE.ret ?_
 refine SE.then_ nofun ?_
 refine SE.then_ nofun ?_
 refine SE.ret ?_
 refine SE.then_ nofun ?_
 refine SE.fin (rs := [.tmp 4]) rfl (RV.tmp rfl RV.nil) (⟨(z : Nat), .inr ⟨z, hlt, rfl, hc16, fun j hj => hz.2 j (by omega) hj⟩⟩) (by repeat first|exact s0 _|exact s1 _|apply s2|apply s3) (by simp [It.rids]) ?_
 exact rfl
theorem ins_ltr {v u : Value} {xs : List (List Abs)} {y : List Abs} {i : Nat} (hil : i ≤ xs.length) (h1 : ∀ c ∈ xs, ones c = true) (hy : ones y = true) (hn : xs.length ≤ 1000000) : Spec Tryz.prog 119 [.v v, int (i : Nat), .v u] [own 74 6 u [y], own 74 6 v xs] (fun r : Value => [own 74 6 r (xs.take i ++ y :: xs.drop i)]) (fun r => .v r) := by
 refine spec_of Tryz.func119 rfl Tryz.ntmps119 rfl fun G w => ?_
 refine SC.seq (SC.region ?_)
 refine SL.val (Val.assign rfl) rfl rfl ?_
 refine SL.nil (SE.seq ?_)
 refine SC.seq (SC.region ?_)
 iterate 2 refine SL.val (Val.move rfl) rfl rfl ?_
 refine SL.val (Val.cutLo (s := 6) (q := i) tabOk Tryz.underlying63 rfl rfl rfl (by repeat first|assumption|exact m0|apply m1) rfl (by omega) (by first | omega | (simp only [List.length_append, List.length_take, List.length_drop, List.length_cons, List.length_nil]; omega))) rfl rfl ?_
 refine SL.nil (SE.seq ?_)
 refine SC.seq (SC.region ?_)
 refine SL.val (Val.move rfl) rfl rfl ?_
 refine SL.val (Val.lenOwn (m := 1) rfl (by repeat first|assumption|exact m0|apply m1) Tryz.underlying63 rfl) rfl rfl ?_
 refine SL.val (Val.assign rfl) rfl rfl ?_
 refine SL.nil (SE.seq ?_)
 refine SC.seq ?_
 refine SC.seq (SC.region ?_)
 refine SL.val (Val.move rfl) rfl rfl ?_
 refine SL.val (Val.eqI rfl rfl) rfl rfl ?_
 refine SL.nil (SE.seq ?_)
 refine SC.condP rfl (by intro hc16; exfalso; omega) ?_
 intro hc16
 refine SC.skip ?_
 refine SE.seq ?_
 refine SC.seq (SC.region ?_)
 refine SL.val (Val.move rfl) rfl rfl ?_
 refine SL.val (Val.lenOwn (m := xs.length) rfl (by repeat first|assumption|exact m0|apply m1) Tryz.underlying63 rfl) rfl rfl ?_
 refine SL.val (Val.assign rfl) rfl rfl ?_
 refine SL.nil (SE.seq ?_)
 refine SC.seq ?_
 refine SC.seq (SC.region ?_)
 iterate 2 refine SL.val (Val.move rfl) rfl rfl ?_
 refine SL.val (Val.eqI rfl rfl) rfl rfl ?_
 refine SL.nil (SE.seq ?_)
 refine SC.condP rfl ?_ ?_
 ·intro hc22
  refine SC.seq ?_
  refine SC.freeze [] (t := 2) rfl rfl ?_
  refine SC.region ?_
  iterate 2 refine SL.val (Val.move rfl) rfl rfl ?_
  refine SL.eff (Eff.append tabOk [] Tryz.underlying63 rfl rfl rfl rfl rfl rfl (by intro c hc; rw [List.mem_singleton] at hc; subst hc; exact hy) (by unfold maxLen; simp; omega) (by rw [show Tryz.prog.bytesOf 74 = 72 by kernel_rfl]; simp; omega)) rfl rfl ?_
  rintro _ _ ⟨r25, rfl, rfl⟩
  refine SL.val (Val.assign rfl) rfl rfl ?_
  refine SL.nil (SE.seq ?_)
  refine SC.ret ?_
  refine SE.then_ nofun ?_
  refine SE.fin (rs := [.tmp 6]) rfl (RV.tmp rfl RV.nil) (r25) (by rw [← ins_all (y := y) (by omega : i = xs.length)]; exact List.Sublist.refl _) (by simp [It.rids]) ?_
  exact rfl
 intro hc22
 have hlt : i < xs.length := by omega
 refine SC.skip ?_
 refine SE.seq ?_
 refine SC.seq ?_
 refine SC.seq (SC.region ?_)
 iterate 2 refine SL.val (Val.move rfl) rfl rfl ?_
 first
  | refine SL.val (Val.addI rfl rfl (by simp only [InR, lo, hi]; omega)) rfl rfl ?_
  | refine SL.val (Val.addW rfl rfl) rfl rfl ?_
 refine SL.val (Val.move rfl) rfl rfl ?_
 refine SL.val (Val.capOwn rfl (by repeat first|assumption|exact m0|apply m1) Tryz.underlying63) rfl rfl ?_
 refine SL.val (Val.gtI rfl rfl) rfl rfl ?_
 refine SL.nil (SE.seq ?_)
 refine SC.condP rfl ?_ ?_
 ·intro hc31
  refine SC.seq (SC.region ?_)
  iterate 2 refine SL.val (Val.move rfl) rfl rfl ?_
  refine SL.val (Val.sliceOwnHi (s := 6) (q := i) tabOk Tryz.underlying63 rfl rfl (.inl (by repeat first|assumption|exact m0|apply m1)) rfl rfl (by omega)) rfl rfl ?_
  iterate 2 refine SL.val (Val.move rfl) rfl rfl ?_
  first
   | refine SL.val (Val.addI rfl rfl (by simp only [InR, lo, hi]; omega)) rfl rfl ?_
   | refine SL.val (Val.addW rfl rfl) rfl rfl ?_
  refine SL.val (Val.move rfl) rfl rfl ?_
  refine SL.val (Val.to (C := int ((xs.length + 1 - i : Nat) : Int)) (Val.subI rfl rfl (by simp only [InR, lo, hi]; omega)) (congrArg int (by omega))) rfl rfl ?_
  refine SL.eff (Eff.appendZeros (s := 6) (q := i) (m := xs.length + 1 - i) tabOk Tryz.underlying63 Tryz.underlying3 rfl rfl rfl rfl (by repeat first|assumption|exact m0|apply m1) rfl rfl (by omega) (by omega) (by omega) (by unfold maxLen; omega) (by rw [show Tryz.prog.bytesOf 74 = 72 by kernel_rfl]; omega)) rfl rfl ?_
  rintro _ _ ⟨r40, js, rfl, hjs, rfl⟩
  refine SL.val (Val.assign rfl) rfl rfl ?_
  refine SL.nil (SE.seq ?_)
  refine SC.seq (SC.region ?_)
  iterate 2 refine SL.val (Val.move rfl) rfl rfl ?_
  refine SL.val (Val.cutLo (s := 6) (q := i) tabOk Tryz.underlying63 rfl rfl rfl (by repeat first|assumption|exact m0|apply m1) rfl (by omega) (by first | omega | (simp only [List.length_append, List.length_take, List.length_drop, List.length_cons, List.length_nil]; omega))) rfl rfl ?_
  refine SL.val (Val.move rfl) rfl rfl ?_
  refine SL.eff (Eff.copyRow (s := 6) (q := i) (ys := [y]) (zs := xs.take i ++ y :: js.drop 1) tabOk Tryz.underlying63 rfl rfl rfl (by first | omega | (simp only [List.length_append, List.length_take, List.length_drop, List.length_cons, List.length_nil]; omega)) (Src.ofAll rfl (by repeat first|assumption|exact m0|apply m1) (by simp) (by first | omega | (simp only [List.length_append, List.length_take, List.length_drop, List.length_cons, List.length_nil]; omega))) (by first | exact ins_ones h1 _ | (intro c hc; rw [List.mem_singleton] at hc; subst hc; exact hy)) (ins_a hlt hjs) (by repeat first|assumption|exact Upd.here|apply Upd.there)) rfl rfl ?_
  rintro _ _ ⟨rfl, rfl⟩
  refine SL.nil (SE.seq ?_)
  refine SC.seq ?_
  refine SC.draw r40.ownBlock.toList (.q 0 (.q 1 (.q 2 (.q 3 (.q 4 (.q 5 (.q 6 (.q 7 (.e 8 .nil))))))))) (by kernel_rfl) (by kernel_rfl) ?_
  refine SX.hx (by first|(simp[mids,It.mids,ownPc];done)|(intro k hk;simp[mids,It.mids,ownPc] at hk ⊢;grind)) fun hx9 => ?_
  refine SX.val rfl (Val.move rfl) hx9 rfl rfl ?_
  refine SX.val rfl (Val.move rfl) hx9 rfl rfl ?_
  refine SX.val rfl (Val.move rfl) hx9 rfl rfl ?_
  first
   | refine SX.val rfl (Val.addI rfl rfl (by simp only [InR, lo, hi]; omega)) hx9 rfl rfl ?_
   | refine SX.val rfl (Val.addW rfl rfl) hx9 rfl rfl ?_
  refine SX.val rfl (Val.cutLo (s := 6) (q := i + 1) tabOk Tryz.underlying63 rfl rfl rfl (by repeat first|assumption|exact m0|apply m1) rfl (by omega) (by first | omega | (simp only [List.length_append, List.length_take, List.length_drop, List.length_cons, List.length_nil]; omega))) hx9 rfl rfl ?_
  refine SX.val rfl (Val.move rfl) hx9 rfl rfl ?_
  refine SX.val rfl (Val.move rfl) hx9 rfl rfl ?_
  refine SX.val rfl (Val.cutLo (s := 6) (q := i) tabOk Tryz.underlying63 rfl rfl rfl (by repeat first|assumption|exact m0|apply m1) rfl (by omega) (by first | omega | (simp only [List.length_append, List.length_take, List.length_drop, List.length_cons, List.length_nil]; omega))) hx9 rfl rfl ?_
  refine SX.eff rfl (Eff.copyRow (s := 6) (q := i + 1) (ys := (xs.drop i)) (zs := (xs.take i ++ y :: xs.drop i)) tabOk Tryz.underlying63 rfl rfl rfl (by first | omega | (simp only [List.length_append, List.length_take, List.length_drop, List.length_cons, List.length_nil]; omega)) (Src.ofOwn (xs := xs) (q := i) rfl (by repeat first|assumption|exact m0|apply m1) hlt (by first | omega | (simp only [List.length_append, List.length_take, List.length_drop, List.length_cons, List.length_nil]; omega)) (by rw [List.take_of_length_le (Nat.le_refl _)])) (by first | exact ins_ones h1 _ | (intro c hc; rw [List.mem_singleton] at hc; subst hc; exact hy)) (ins_b hlt hjs) (by repeat first|assumption|exact Upd.here|apply Upd.there)) (by simp) rfl rfl ?_
  rintro _ _ ⟨rfl, rfl⟩
  refine SX.nil (SE.seq ?_)
  refine SC.seq (SC.region ?_)
  refine SL.val (Val.move rfl) rfl rfl ?_
  refine SL.val (Val.assign rfl) rfl rfl ?_
  refine SL.nil (SE.seq ?_)
  refine SC.ret ?_
  refine SE.then_ nofun ?_
  refine SE.fin (rs := [.tmp 6]) rfl (RV.tmp rfl RV.nil) (r40) (by repeat first|exact s0 _|exact s1 _|apply s2|apply s3) (by simp [It.rids]) ?_
  exact rfl
 intro hc31
 refine SC.skip ?_
 refine SE.seq ?_
 refine SC.seq (SC.region ?_)
 iterate 3 refine SL.val (Val.move rfl) rfl rfl ?_
 first
  | refine SL.val (Val.addI rfl rfl (by simp only [InR, lo, hi]; omega)) rfl rfl ?_
  | refine SL.val (Val.addW rfl rfl) rfl rfl ?_
 refine SL.val (Val.cutUp (s := 6) (q := xs.length + 1) tabOk Tryz.underlying63 rfl rfl (by repeat first|assumption|exact m0|apply m1) rfl (by omega) (by omega)) rfl rfl ?_
 refine SL.val (Val.assign rfl) rfl rfl ?_
 refine SL.nil (SE.seq ?_)
 refine SC.seq ?_
 refine SC.seq ?_
 refine SC.growOwn (v := v) (xs := xs) (q := xs.length + 1) (by repeat first|assumption|exact m0|apply m1) (by omega) (by omega) fun js hjs => ⟨_, (by repeat first|assumption|exact Upd.here|apply Upd.there), ?_⟩
 refine SC.region ?_
 iterate 4 refine SL.val (Val.move rfl) rfl rfl ?_
 first
  | refine SL.val (Val.addI rfl rfl (by simp only [InR, lo, hi]; omega)) rfl rfl ?_
  | refine SL.val (Val.addW rfl rfl) rfl rfl ?_
 refine SL.val (Val.cutLo (s := 6) (q := i + 1) tabOk Tryz.underlying63 rfl rfl rfl (by repeat first|assumption|exact m0|apply m1) rfl (by omega) (by first | omega | (simp only [List.length_append, List.length_take, List.length_drop, List.length_cons, List.length_nil]; omega))) rfl rfl ?_
 refine SL.val (Val.overlapsOff (tr := 4) (s := 6) (q := i + 1) (α := [_]) (ys := [y]) Tryz.func139 (by kernel_rfl) (by kernel_rfl) (by kernel_rfl) (by kernel_rfl) tabOk Tryz.underlying63 rfl rfl rfl rfl rfl rfl (by repeat first|assumption|exact m0|apply m1) (by simp) (by first | omega | (simp only [List.length_append, List.length_take, List.length_drop, List.length_cons, List.length_nil]; omega))) rfl rfl ?_
 refine SL.val (Val.notF rfl) rfl rfl ?_
 refine SL.nil (SE.seq ?_)
 refine SC.condT rfl ?_
 refine SC.seq ?_
 refine SC.draw (cutTo v (xs.length + 1)).ownBlock.toList (.q 0 (.q 1 (.q 2 (.q 3 (.q 4 (.q 5 (.q 6 (.q 7 (.e 8 .nil))))))))) (by kernel_rfl) (by kernel_rfl) ?_
 refine SX.hx (by first|(simp[mids,It.mids,ownPc];done)|(intro k hk;simp[mids,It.mids,ownPc] at hk ⊢;grind)) fun hx9 => ?_
 refine SX.val rfl (Val.move rfl) hx9 rfl rfl ?_
 refine SX.val rfl (Val.move rfl) hx9 rfl rfl ?_
 refine SX.val rfl (Val.move rfl) hx9 rfl rfl ?_
 first
  | refine SX.val rfl (Val.addI rfl rfl (by simp only [InR, lo, hi]; omega)) hx9 rfl rfl ?_
  | refine SX.val rfl (Val.addW rfl rfl) hx9 rfl rfl ?_
 refine SX.val rfl (Val.cutLo (s := 6) (q := i + 1) tabOk Tryz.underlying63 rfl rfl rfl (by repeat first|assumption|exact m0|apply m1) rfl (by omega) (by first | omega | (simp only [List.length_append, List.length_take, List.length_drop, List.length_cons, List.length_nil]; omega))) hx9 rfl rfl ?_
 refine SX.val rfl (Val.move rfl) hx9 rfl rfl ?_
 refine SX.val rfl (Val.move rfl) hx9 rfl rfl ?_
 refine SX.val rfl (Val.cutLo (s := 6) (q := i) tabOk Tryz.underlying63 rfl rfl rfl (by repeat first|assumption|exact m0|apply m1) rfl (by omega) (by first | omega | (simp only [List.length_append, List.length_take, List.length_drop, List.length_cons, List.length_nil]; omega))) hx9 rfl rfl ?_
 refine SX.eff rfl (Eff.copyRow (s := 6) (q := i + 1) (ys := (xs.drop i)) (zs := (xs ++ js).take (i + 1) ++ xs.drop i) tabOk Tryz.underlying63 rfl rfl rfl (by first | omega | (simp only [List.length_append, List.length_take, List.length_drop, List.length_cons, List.length_nil]; omega)) (Src.ofOwn (xs := xs ++ js) (q := i) rfl (by repeat first|assumption|exact m0|apply m1) (by first | omega | (simp only [List.length_append, List.length_take, List.length_drop, List.length_cons, List.length_nil]; omega)) (by first | omega | (simp only [List.length_append, List.length_take, List.length_drop, List.length_cons, List.length_nil]; omega)) (ins_src hlt)) (by first | exact ins_ones h1 _ | (intro c hc; rw [List.mem_singleton] at hc; subst hc; exact hy)) (ins_c hlt hjs) (by repeat first|assumption|exact Upd.here|apply Upd.there)) (by simp) rfl rfl ?_
 rintro _ _ ⟨rfl, rfl⟩
 refine SX.nil (SE.seq ?_)
 refine SC.seq (SC.region ?_)
 iterate 2 refine SL.val (Val.move rfl) rfl rfl ?_
 refine SL.val (Val.cutLo (s := 6) (q := i) tabOk Tryz.underlying63 rfl rfl rfl (by repeat first|assumption|exact m0|apply m1) rfl (by omega) (by first | omega | (simp only [List.length_append, List.length_take, List.length_drop, List.length_cons, List.length_nil]; omega))) rfl rfl ?_
 refine SL.val (Val.move rfl) rfl rfl ?_
 refine SL.eff (Eff.copyRow (s := 6) (q := i) (ys := [y]) (zs := (xs.take i ++ y :: xs.drop i)) tabOk Tryz.underlying63 rfl rfl rfl (by first | omega | (simp only [List.length_append, List.length_take, List.length_drop, List.length_cons, List.length_nil]; omega)) (Src.ofAll rfl (by repeat first|assumption|exact m0|apply m1) (by simp) (by rw [ins_len hlt hjs]; simp only [List.length_cons, List.length_nil]; omega)) (by first | exact ins_ones h1 _ | (intro c hc; rw [List.mem_singleton] at hc; subst hc; exact hy)) (ins_d hlt hjs) (by repeat first|assumption|exact Upd.here|apply Upd.there)) rfl rfl ?_
 rintro _ _ ⟨rfl, rfl⟩
 refine SL.nil (SE.seq ?_)
 refine SC.seq (SC.region ?_)
 refine SL.val (Val.move rfl) rfl rfl ?_
 refine SL.val (Val.assign rfl) rfl rfl ?_
 refine SL.nil (SE.seq ?_)
 refine SC.ret ?_
 refine SE.then_ nofun ?_
 refine SE.fin (rs := [.tmp 6]) rfl (RV.tmp rfl RV.nil) ((cutTo v (xs.length + 1))) (by repeat first|exact s0 _|exact s1 _|apply s2|apply s3) (by simp [It.rids]) ?_
 exact rfl
section
variable {x : Ltr} {xs : List Ltr} {p q : Nat} {k : ByteArray} {v : Value}
theorem place_ltr (hn : xs.length ≤ 1000000) : Spec Tryz.prog 78 [.sl 6 (xs.map ltrA), st k, .fn (.func 79) [] []] [] (fun _ : Unit => []) (fun _ => .tup [int ((placeG (eqL k) (gtL k) xs).1 : Nat), boo (placeG (eqL k) (gtL k) xs).2]) := by
 refine spec_of Tryz.func78 rfl Tryz.ntmps78 rfl fun G w => ?_
 refine SC.seq (SC.region ?_)
 refine SL.eff (Eff.box1 rfl rfl) rfl rfl ?_
 rintro _ _ ⟨b4, rfl, rfl⟩
 refine SL.eff (Eff.box1 rfl rfl) rfl rfl ?_
 rintro _ _ ⟨b5, rfl, rfl⟩
 iterate 2 refine SL.val (Val.assign rfl) rfl rfl ?_
 refine SL.nil (SE.seq ?_)
 refine SC.seq ?_
 refine SC.seq (SC.region ?_)
 refine SL.val (Val.move rfl) rfl rfl ?_
 refine SL.val (Val.makeFunc rfl rfl) rfl rfl ?_
 refine SL.call (indexI_ltr (xs := xs) (k := 105) (caps := [ptr b5, ptr b4]) (σ := [.rd b5 113 [.fn (.func 79) [] []], .rd b4 9 [st k]]) (p := eqL k) (by kernel_rfl) (by intro x hx; simp only [List.mem_cons, List.not_mem_nil, or_false] at hx; rcases hx with rfl | rfl <;> exact .inl ⟨_, _, _, rfl⟩) (by omega) (fun x _ => pl1_ltr)) Casts.refl (by kernel_rfl) rfl rfl rfl ?_
 refine ap_ ?_
 intro z1
 have e1 := z1.2.eq
 refine SL.val (Val.assign rfl) rfl rfl ?_
 refine SL.nil (SE.seq ?_)
 refine SC.seq (SC.region ?_)
 refine SL.val (Val.move rfl) rfl rfl ?_
 refine SL.val (Val.geI rfl rfl) rfl rfl ?_
 refine SL.nil (SE.seq ?_)
 refine SC.condP rfl ?_ ?_
 ·intro hc14
  have ha : xs.any (eqL k) = true := by
   rcases Bool.eq_false_or_eq_true (xs.any (eqL k)) with h | h
   ·exact h
   ·rw [if_neg (by rw [h]; decide)] at e1; omega
  rw [if_pos ha] at e1
  refine SC.seq (SC.region ?_)
  refine SL.val (Val.move rfl) rfl rfl ?_
  iterate 2 refine SL.val (Val.assign rfl) rfl rfl ?_
  refine SL.nil (SE.seq ?_)
  refine SC.ret ?_
  refine SE.then_ nofun ?_
  refine SE.fin (rs := [.tmp 6, .tmp 7]) rfl (RV.tmp rfl (RV.tmp rfl RV.nil)) (()) (by repeat first|exact s0 _|exact s1 _|apply s2|apply s3) (by simp [It.rids]) ?_
  have hp : placeG (eqL k) (gtL k) xs = (xs.findIdx (eqL k), true) := if_pos ha
  rw [hp, e1]
  rfl
 intro hc14
 have hn1 : ¬ xs.any (eqL k) = true := fun h => by rw [if_pos h] at e1; omega
 refine SC.skip ?_
 refine SE.seq ?_
 refine SC.seq ?_
 refine SC.seq (SC.region ?_)
 refine SL.val (Val.move rfl) rfl rfl ?_
 refine SL.val (Val.makeFunc rfl rfl) rfl rfl ?_
 refine SL.call (indexI_ltr (xs := xs) (k := 106) (caps := [ptr b5, ptr b4]) (σ := [.rd b5 113 [.fn (.func 79) [] []], .rd b4 9 [st k]]) (p := gtL k) (by kernel_rfl) (by intro x hx; simp only [List.mem_cons, List.not_mem_nil, or_false] at hx; rcases hx with rfl | rfl <;> exact .inl ⟨_, _, _, rfl⟩) (by omega) (fun x _ => pl2_ltr)) Casts.refl (by kernel_rfl) rfl rfl rfl ?_
 refine ap_ ?_
 intro z2
 have e2 := z2.2.eq
 refine SL.val (Val.assign rfl) rfl rfl ?_
 refine SL.nil (SE.seq ?_)
 refine SC.seq (SC.region ?_)
 refine SL.val (Val.move rfl) rfl rfl ?_
 refine SL.val (Val.geI rfl rfl) rfl rfl ?_
 refine SL.nil (SE.seq ?_)
 refine SC.condP rfl ?_ ?_
 ·intro hc20
  refine SC.seq (SC.region ?_)
  refine SL.val (Val.move rfl) rfl rfl ?_
  iterate 2 refine SL.val (Val.assign rfl) rfl rfl ?_
  refine SL.nil (SE.seq ?_)
  refine SC.ret ?_
  refine SE.then_ nofun ?_
  refine SE.fin (rs := [.tmp 6, .tmp 7]) rfl (RV.tmp rfl (RV.tmp rfl RV.nil)) (()) (by repeat first|exact s0 _|exact s1 _|apply s2|apply s3) (by simp [It.rids]) ?_
  have hp : placeG (eqL k) (gtL k) xs = (xs.findIdx (gtL k), false) := if_neg hn1
  rw [hp]
  rcases Bool.eq_false_or_eq_true (xs.any (gtL k)) with h | h
  ·rw [if_pos h] at e2
   first
    | (rw [e2]; rfl)
    | (exfalso; omega)
  ·rw [if_neg (by rw [h]; decide)] at e2
   first
    | (exfalso; omega)
    | (rw [show xs.findIdx (gtL k) = xs.length from List.findIdx_eq_length.2 (by simpa using h)]; rfl)
 intro hc20
 refine SC.skip ?_
 refine SE.seq ?_
 refine SC.seq (SC.region ?_)
 refine SL.val (Val.move rfl) rfl rfl ?_
 first
  | refine SL.val (Val.lenSl rfl Tryz.underlying63 (List.length_map _)) rfl rfl ?_
  | refine SL.val (Val.lenOwn rfl (by repeat first|assumption|exact m0|apply m1) Tryz.underlying63 (List.length_map _)) rfl rfl ?_
  | refine SL.val (Val.lenNil rfl Tryz.underlying63) rfl rfl ?_
 iterate 2 refine SL.val (Val.assign rfl) rfl rfl ?_
 refine SL.nil (SE.seq ?_)
 refine SC.ret ?_
 refine SE.fin (rs := [.tmp 6, .tmp 7]) rfl (RV.tmp rfl (RV.tmp rfl RV.nil)) (()) (by repeat first|exact s0 _|exact s1 _|apply s2|apply s3) (by simp [It.rids]) ?_
 have hp : placeG (eqL k) (gtL k) xs = (xs.findIdx (gtL k), false) := if_neg hn1
 rw [hp]
 rcases Bool.eq_false_or_eq_true (xs.any (gtL k)) with h | h
 ·rw [if_pos h] at e2
  first
   | (rw [e2]; rfl)
   | (exfalso; omega)
 ·rw [if_neg (by rw [h]; decide)] at e2
  first
   | (exfalso; omega)
   | (rw [show xs.findIdx (gtL k) = xs.length from List.findIdx_eq_length.2 (by simpa using h)]; rfl)
theorem placeO_ltr (hn : xs.length ≤ 1000000) : Spec Tryz.prog 78 [.v v, st k, .fn (.func 79) [] []] [.rdpc (ownPc 74 6 v (xs.map ltrA))] (fun _ : Unit => []) (fun _ => .tup [int ((placeG (eqL k) (gtL k) xs).1 : Nat), boo (placeG (eqL k) (gtL k) xs).2]) := by
 refine spec_of Tryz.func78 rfl Tryz.ntmps78 rfl fun G w => ?_
 refine SC.seq (SC.region ?_)
 refine SL.eff (Eff.box1 rfl rfl) rfl rfl ?_
 rintro _ _ ⟨b4, rfl, rfl⟩
 refine SL.eff (Eff.box1 rfl rfl) rfl rfl ?_
 rintro _ _ ⟨b5, rfl, rfl⟩
 iterate 2 refine SL.val (Val.assign rfl) rfl rfl ?_
 refine SL.nil (SE.seq ?_)
 refine SC.seq ?_
 refine SC.seq (SC.region ?_)
 refine SL.val (Val.move rfl) rfl rfl ?_
 refine SL.val (Val.makeFunc rfl rfl) rfl rfl ?_
 refine SL.call (indexO_ltr (xs := xs) (k := 105) (caps := [ptr b5, ptr b4]) (σ := [.rd b5 113 [.fn (.func 79) [] []], .rd b4 9 [st k]]) (p := eqL k) (by kernel_rfl) (by intro x hx; simp only [List.mem_cons, List.not_mem_nil, or_false] at hx; rcases hx with rfl | rfl <;> exact .inl ⟨_, _, _, rfl⟩) (by omega) (fun x _ => pl1_ltr)) Casts.refl (by kernel_rfl) rfl rfl rfl ?_
 refine ap_ ?_
 intro z1
 have e1 := z1.2.eq
 refine SL.val (Val.assign rfl) rfl rfl ?_
 refine SL.nil (SE.seq ?_)
 refine SC.seq (SC.region ?_)
 refine SL.val (Val.move rfl) rfl rfl ?_
 refine SL.val (Val.geI rfl rfl) rfl rfl ?_
 refine SL.nil (SE.seq ?_)
 refine SC.condP rfl ?_ ?_
 ·intro hc14
  have ha : xs.any (eqL k) = true := by
   rcases Bool.eq_false_or_eq_true (xs.any (eqL k)) with h | h
   ·exact h
   ·rw [if_neg (by rw [h]; decide)] at e1; omega
  rw [if_pos ha] at e1
  refine SC.seq (SC.region ?_)
  refine SL.val (Val.move rfl) rfl rfl ?_
  iterate 2 refine SL.val (Val.assign rfl) rfl rfl ?_
  refine SL.nil (SE.seq ?_)
  refine SC.ret ?_
  refine SE.then_ nofun ?_
  refine SE.fin (rs := [.tmp 6, .tmp 7]) rfl (RV.tmp rfl (RV.tmp rfl RV.nil)) (()) (by repeat first|exact s0 _|exact s1 _|apply s2|apply s3) (by simp [It.rids]) ?_
  have hp : placeG (eqL k) (gtL k) xs = (xs.findIdx (eqL k), true) := if_pos ha
  rw [hp, e1]
  rfl
 intro hc14
 have hn1 : ¬ xs.any (eqL k) = true := fun h => by rw [if_pos h] at e1; omega
 refine SC.skip ?_
 refine SE.seq ?_
 refine SC.seq ?_
 refine SC.seq (SC.region ?_)
 refine SL.val (Val.move rfl) rfl rfl ?_
 refine SL.val (Val.makeFunc rfl rfl) rfl rfl ?_
 refine SL.call (indexO_ltr (xs := xs) (k := 106) (caps := [ptr b5, ptr b4]) (σ := [.rd b5 113 [.fn (.func 79) [] []], .rd b4 9 [st k]]) (p := gtL k) (by kernel_rfl) (by intro x hx; simp only [List.mem_cons, List.not_mem_nil, or_false] at hx; rcases hx with rfl | rfl <;> exact .inl ⟨_, _, _, rfl⟩) (by omega) (fun x _ => pl2_ltr)) Casts.refl (by kernel_rfl) rfl rfl rfl ?_
 refine ap_ ?_
 intro z2
 have e2 := z2.2.eq
 refine SL.val (Val.assign rfl) rfl rfl ?_
 refine SL.nil (SE.seq ?_)
 refine SC.seq (SC.region ?_)
 refine SL.val (Val.move rfl) rfl rfl ?_
 refine SL.val (Val.geI rfl rfl) rfl rfl ?_
 refine SL.nil (SE.seq ?_)
 refine SC.condP rfl ?_ ?_
 ·intro hc20
  refine SC.seq (SC.region ?_)
  refine SL.val (Val.move rfl) rfl rfl ?_
  iterate 2 refine SL.val (Val.assign rfl) rfl rfl ?_
  refine SL.nil (SE.seq ?_)
  refine SC.ret ?_
  refine SE.then_ nofun ?_
  refine SE.fin (rs := [.tmp 6, .tmp 7]) rfl (RV.tmp rfl (RV.tmp rfl RV.nil)) (()) (by repeat first|exact s0 _|exact s1 _|apply s2|apply s3) (by simp [It.rids]) ?_
  have hp : placeG (eqL k) (gtL k) xs = (xs.findIdx (gtL k), false) := if_neg hn1
  rw [hp]
  rcases Bool.eq_false_or_eq_true (xs.any (gtL k)) with h | h
  ·rw [if_pos h] at e2
   first
    | (rw [e2]; rfl)
    | (exfalso; omega)
  ·rw [if_neg (by rw [h]; decide)] at e2
   first
    | (exfalso; omega)
    | (rw [show xs.findIdx (gtL k) = xs.length from List.findIdx_eq_length.2 (by simpa using h)]; rfl)
 intro hc20
 refine SC.skip ?_
 refine SE.seq ?_
 refine SC.seq (SC.region ?_)
 refine SL.val (Val.move rfl) rfl rfl ?_
 refine SL.val (Val.lenOwnR (m := xs.length) rfl (.inr (by repeat first|assumption|exact m0|apply m1)) Tryz.underlying63 (List.length_map _)) rfl rfl ?_
 iterate 2 refine SL.val (Val.assign rfl) rfl rfl ?_
 refine SL.nil (SE.seq ?_)
 refine SC.ret ?_
 refine SE.fin (rs := [.tmp 6, .tmp 7]) rfl (RV.tmp rfl (RV.tmp rfl RV.nil)) (()) (by repeat first|exact s0 _|exact s1 _|apply s2|apply s3) (by simp [It.rids]) ?_
 have hp : placeG (eqL k) (gtL k) xs = (xs.findIdx (gtL k), false) := if_neg hn1
 rw [hp]
 rcases Bool.eq_false_or_eq_true (xs.any (gtL k)) with h | h
 ·rw [if_pos h] at e2
  first
   | (rw [e2]; rfl)
   | (exfalso; omega)
 ·rw [if_neg (by rw [h]; decide)] at e2
  first
   | (exfalso; omega)
   | (rw [show xs.findIdx (gtL k) = xs.length from List.findIdx_eq_length.2 (by simpa using h)]; rfl)
set_option maxHeartbeats 1000000 in
theorem put_ltr (hn : xs.length ≤ 100000) : Spec Tryz.prog 86 [.sl 6 (xs.map ltrA), .agg (ltrA x), .fn (.func 79) [] []] [] (fun _ : Unit => []) (fun _ => .sl 6 ((withG (eqL x.name) (gtL x.name) x xs).map ltrA)) := by
 refine spec_of Tryz.func86 rfl Tryz.ntmps86 rfl fun G w => ?_
 refine SC.seq (SC.region ?_)
 refine SL.eff (Eff.boxA (cs := ltrA x) rfl) rfl rfl ?_
 rintro _ _ ⟨b4, rfl, rfl⟩
 refine SL.val (Val.assign rfl) rfl rfl ?_
 refine SL.nil (SE.seq ?_)
 refine SC.seq (SC.region ?_)
 refine SL.val (Val.move rfl) rfl rfl ?_
 refine SL.call (cloneO_ltr_s (ltrs_ones xs) (by rw [List.length_map]; omega)) Casts.refl (by kernel_rfl) rfl rfl rfl ?_
 refine After.make (by repeat (first | exact Reads.nil | (refine Reads.blk ?_ ?_; focus ((repeat first|assumption|exact m0|apply m1); done)) | (refine Reads.rd ?_ ?_; focus ((repeat first|assumption|exact m0|apply m1); done)) | (refine Reads.pc ?_ ?_; focus ((repeat first|assumption|exact m0|apply m1); done)) | (refine Reads.rdpc ?_ ?_; focus ((repeat first|assumption|exact m0|apply m1); done)))) (fun _ => rfl) ?_
 intro z5
 refine SL.val (Val.assign rfl) rfl rfl ?_
 refine SL.nil (SE.seq ?_)
 refine SC.seq (SC.region ?_)
 iterate 2 refine SL.val (Val.move rfl) rfl rfl ?_
 refine SL.val (Val.loadA tabOk rfl rfl rfl (by repeat first|assumption|exact o0_|exact o1_|apply o2_) List.not_mem_nil (by rfl)) rfl rfl ?_
 refine SL.callv (key_ltr (x := x)) rfl Casts.refl (by kernel_rfl) rfl rfl rfl ?_
 refine ap_ ?_
 intro _
 refine SL.val (Val.move rfl) rfl rfl ?_
 refine SL.call (placeO_ltr (v := z5) (xs := xs) (k := x.name) (by omega)) Casts.refl (by kernel_rfl) rfl rfl rfl ?_
 refine ap_ ?_
 intro _
 refine SL.val (Val.move rfl) rfl rfl ?_
 refine SL.val (Val.extract rfl rfl) rfl rfl ?_
 refine SL.val (Val.extract rfl rfl) rfl rfl ?_
 iterate 2 refine SL.val (Val.assign rfl) rfl rfl ?_
 refine SL.nil (SE.seq ?_)
 refine SC.seq ?_
 refine SC.seq (SC.region ?_)
 refine SL.val (Val.move rfl) rfl rfl ?_
 refine SL.nil (SE.seq ?_)
 refine SC.cond rfl ?_ ?_
 rotate_left
 ·intro hc20
  have hn1 : ¬ xs.any (eqL x.name) = true := fun h => by unfold placeG at hc20; rw [if_pos h] at hc20; cases hc20
  have hp : (placeG (eqL x.name) (gtL x.name) xs) = (xs.findIdx (gtL x.name), false) := if_neg hn1
  have hle : (placeG (eqL x.name) (gtL x.name) xs).1 ≤ xs.length := by rw [hp]; exact findIdx_le
  have hw : (withG (eqL x.name) (gtL x.name) x xs) = xs.take (placeG (eqL x.name) (gtL x.name) xs).1 ++ x :: xs.drop (placeG (eqL x.name) (gtL x.name) xs).1 := by
   rw [hp]
   exact (if_neg hn1).trans putG_ins
  refine SC.skip ?_
  refine SE.seq ?_
  refine SC.seq (SC.region ?_)
  iterate 2 refine SL.val (Val.move rfl) rfl rfl ?_
  refine SL.val (Val.loadA tabOk rfl rfl rfl (by repeat first|assumption|exact o0_|exact o1_|apply o2_) List.not_mem_nil (by rfl)) rfl rfl ?_
  refine SL.eff (Eff.buildOwn tabOk Tryz.underlying63 rfl rfl rfl rfl rfl rfl rfl) rfl rfl ?_
  rintro _ _ ⟨r29, rfl, rfl⟩
  refine SL.call (ins_ltr (u := r29) (v := z5) (xs := xs.map ltrA) (y := ltrA x) (i := (placeG (eqL x.name) (gtL x.name) xs).1) (by rw [List.length_map]; exact hle) (ltrs_ones xs) rfl (by rw [List.length_map]; omega)) Casts.refl (by kernel_rfl) rfl rfl rfl ?_
  refine After.mid [] (β := [_]) rfl (by intro x hx; simp only [List.mem_cons, List.not_mem_nil, or_false] at hx; rcases hx with rfl | rfl <;> rfl) ?_
  intro z30
  refine SL.freeze [] (t := 30) rfl rfl ?_
  rw [show List.take (placeG (eqL x.name) (gtL x.name) xs).1 (List.map ltrA xs) ++ ltrA x :: List.drop (placeG (eqL x.name) (gtL x.name) xs).1 (List.map ltrA xs) = (withG (eqL x.name) (gtL x.name) x xs).map ltrA by rw [hw, List.map_append, List.map_cons, List.map_take, List.map_drop]]
  refine SL.val (Val.assign rfl) rfl rfl ?_
  refine SL.nil (SE.seq ?_)
  refine SC.ret ?_
  refine SE.fin (rs := [.tmp 6]) rfl (RV.tmp rfl RV.nil) (()) (by repeat first|exact s0 _|exact s1 _|apply s2|apply s3) (by simp [It.rids]) ?_
  exact rfl
 intro hc20
 have ha : xs.any (eqL x.name) = true := by
  rcases Bool.eq_false_or_eq_true (xs.any (eqL x.name)) with h | h
  ·exact h
  ·unfold placeG at hc20; rw [if_neg (by rw [h]; decide)] at hc20; cases hc20
 have hp : (placeG (eqL x.name) (gtL x.name) xs) = (xs.findIdx (eqL x.name), true) := if_pos ha
 have hlt : (placeG (eqL x.name) (gtL x.name) xs).1 < xs.length := by rw [hp]; exact findIdx_in ha
 have hw : (withG (eqL x.name) (gtL x.name) x xs) = xs.set (placeG (eqL x.name) (gtL x.name) xs).1 x := by
  rw [hp]
  exact (if_pos ha).trans (putG_set ha)
 refine SC.seq (SC.region ?_)
 iterate 2 refine SL.val (Val.move rfl) rfl rfl ?_
 refine SL.val (Val.loadA tabOk rfl rfl rfl (by repeat first|assumption|exact o0_|exact o1_|apply o2_) List.not_mem_nil (by rfl)) rfl rfl ?_
 refine SL.val (Val.indexOwn (q := (placeG (eqL x.name) (gtL x.name) xs).1) tabOk Tryz.underlying63 rfl rfl (.inl (by repeat first|assumption|exact m0|apply m1)) rfl rfl (by rw [List.length_map]; exact hlt) rfl rfl) rfl rfl ?_
 refine SL.eff (Eff.setOwn (q := (placeG (eqL x.name) (gtL x.name) xs).1) (ys := ltrA x) tabOk rfl rfl rfl (by repeat first|assumption|exact Upd.here|apply Upd.there) rfl rfl rfl (by rw [List.length_map]; exact hlt) rfl) rfl rfl ?_
 rintro _ _ ⟨rfl, rfl⟩
 refine SL.nil (SE.seq ?_)
 refine SC.seq ?_
 refine SC.freeze [] (t := 0) rfl rfl ?_
 rw [show List.set (List.map ltrA xs) (placeG (eqL x.name) (gtL x.name) xs).1 (ltrA x) = (withG (eqL x.name) (gtL x.name) x xs).map ltrA by rw [hw, List.map_set]]
 refine SC.region ?_
 refine SL.val (Val.move rfl) rfl rfl ?_
 refine SL.val (Val.assign rfl) rfl rfl ?_
 refine SL.nil (SE.seq ?_)
 refine SC.ret ?_
 refine SE.then_ nofun ?_
 refine SE.fin (rs := [.tmp 6]) rfl (RV.tmp rfl RV.nil) (()) (by repeat first|exact s0 _|exact s1 _|apply s2|apply s3) (by simp [It.rids]) ?_
 exact rfl
end
end Go.Proofs.YtejcohlpjikjpaaGreatDoor.A
/-
  The document's ledgers: the same, found.
-/
namespace Go.Proofs.YtejcohlpjikjpaaGreatDoor.A
open Go.RowKit

theorem boo_dec {p : Prop} [Decidable p] (h : p) : retA [boo true] = boo (decide p) := by rw [decide_eq_true h]; rfl
theorem boo_dec0 {p : Prop} [Decidable p] (h : ¬ p) : retA [boo false] = boo (decide p) := by rw [decide_eq_false h]; rfl
section
variable {l a b : Lg} {x : Ltr} {o : Oc} {k n : Int} {s : ByteArray} {c : Core} {e : Ent} {p : Nat} {es : List Ent}
set_option maxHeartbeats 2000000 in
theorem lsame_s (ha : a.Ins) (hb : b.Ins) : Spec Tryz.prog 34 [.agg a.abs, .agg b.abs] [] (fun _ : Unit => []) (fun _ => boo (decide (a = b))) := by
 refine spec_of Tryz.func34 rfl Tryz.ntmps34 rfl fun G w => ?_
 refine SC.seq (SC.region ?_)
 refine SL.eff (Eff.boxA (cs := a.abs) rfl) rfl rfl ?_
 rintro _ _ ⟨b2, rfl, rfl⟩
 refine SL.eff (Eff.boxA (cs := b.abs) rfl) rfl rfl ?_
 rintro _ _ ⟨b3, rfl, rfl⟩
 refine SL.val (Val.assign rfl) rfl rfl ?_
 refine SL.nil (SE.seq ?_)
 refine SC.seq ?_
 refine SC.seq (SC.region ?_)
 refine SL.val (Val.fieldAddr tabOk rfl rfl rfl rfl rfl) rfl rfl ?_
 refine SL.val (Val.to (C := int a.seq) (Val.load1 tabOk rfl rfl (by repeat first|assumption|exact o0_|exact o1_|apply o2_) List.not_mem_nil (by rfl)) rfl) rfl rfl ?_
 refine SL.val (Val.fieldAddr tabOk rfl rfl rfl rfl rfl) rfl rfl ?_
 refine SL.val (Val.to (C := int b.seq) (Val.load1 tabOk rfl rfl (by repeat first|assumption|exact o0_|exact o1_|apply o2_) List.not_mem_nil (by rfl)) rfl) rfl rfl ?_
 refine SL.val (Val.neI rfl rfl) rfl rfl ?_
 refine SL.val (Val.move rfl) rfl rfl ?_
 refine SL.bothP (t := 12) rfl ?_ ?_
 ·intro hc12
  iterate 5 refine SL.skip rfl rfl ?_
  refine SL.val (Val.pickT rfl rfl) rfl rfl ?_
  refine SL.val (Val.move rfl) rfl rfl ?_
  iterate 7 refine SL.skip rfl rfl ?_
  refine SL.val (Val.pickT rfl rfl) rfl rfl ?_
  refine SL.val (Val.move rfl) rfl rfl ?_
  iterate 7 refine SL.skip rfl rfl ?_
  refine SL.val (Val.pickT rfl rfl) rfl rfl ?_
  refine SL.nil (SE.seq ?_)
  refine SC.condT rfl ?_
  refine SC.seq (SC.region ?_)
  refine SL.val (Val.assign rfl) rfl rfl ?_
  refine SL.nil (SE.seq ?_)
  refine SC.ret ?_
  refine SE.then_ nofun ?_
  refine SE.fin (rs := [.tmp 4]) rfl (RV.tmp rfl RV.nil) (()) (by repeat first|exact s0 _|exact s1 _|apply s2|apply s3) (by simp [It.rids]) ?_
  refine boo_dec0 fun he => ?_
  subst he
  first
   | exact absurd rfl (by assumption)
   | omega
 intro hc12
 refine SL.val (Val.fieldAddr tabOk rfl rfl rfl rfl rfl) rfl rfl ?_
 refine SL.val (Val.to (C := int a.total) (Val.load1 tabOk rfl rfl (by repeat first|assumption|exact o0_|exact o1_|apply o2_) List.not_mem_nil (by rfl)) rfl) rfl rfl ?_
 refine SL.val (Val.fieldAddr tabOk rfl rfl rfl rfl rfl) rfl rfl ?_
 refine SL.val (Val.to (C := int b.total) (Val.load1 tabOk rfl rfl (by repeat first|assumption|exact o0_|exact o1_|apply o2_) List.not_mem_nil (by rfl)) rfl) rfl rfl ?_
 refine SL.val (Val.neI rfl rfl) rfl rfl ?_
 refine SL.val (Val.pickF rfl rfl) rfl rfl ?_
 refine SL.val (Val.move rfl) rfl rfl ?_
 refine SL.bothP (t := 19) rfl ?_ ?_
 ·intro hc19
  iterate 7 refine SL.skip rfl rfl ?_
  refine SL.val (Val.pickT rfl rfl) rfl rfl ?_
  refine SL.val (Val.move rfl) rfl rfl ?_
  iterate 7 refine SL.skip rfl rfl ?_
  refine SL.val (Val.pickT rfl rfl) rfl rfl ?_
  refine SL.nil (SE.seq ?_)
  refine SC.condT rfl ?_
  refine SC.seq (SC.region ?_)
  refine SL.val (Val.assign rfl) rfl rfl ?_
  refine SL.nil (SE.seq ?_)
  refine SC.ret ?_
  refine SE.then_ nofun ?_
  refine SE.fin (rs := [.tmp 4]) rfl (RV.tmp rfl RV.nil) (()) (by repeat first|exact s0 _|exact s1 _|apply s2|apply s3) (by simp [It.rids]) ?_
  refine boo_dec0 fun he => ?_
  subst he
  first
   | exact absurd rfl (by assumption)
   | omega
 intro hc19
 refine SL.val (Val.fieldAddr tabOk rfl rfl rfl rfl rfl) rfl rfl ?_
 refine SL.val (Val.to (C := .sl 6 (a.ls.map ltrA)) (Val.load1 tabOk rfl rfl (by repeat first|assumption|exact o0_|exact o1_|apply o2_) List.not_mem_nil (by rfl)) rfl) rfl rfl ?_
 first
  | refine SL.val (Val.lenSl rfl Tryz.underlying63 (List.length_map _)) rfl rfl ?_
  | refine SL.val (Val.lenOwn rfl (by repeat first|assumption|exact m0|apply m1) Tryz.underlying63 (List.length_map _)) rfl rfl ?_
  | refine SL.val (Val.lenNil rfl Tryz.underlying63) rfl rfl ?_
 refine SL.val (Val.fieldAddr tabOk rfl rfl rfl rfl rfl) rfl rfl ?_
 refine SL.val (Val.to (C := .sl 6 (b.ls.map ltrA)) (Val.load1 tabOk rfl rfl (by repeat first|assumption|exact o0_|exact o1_|apply o2_) List.not_mem_nil (by rfl)) rfl) rfl rfl ?_
 first
  | refine SL.val (Val.lenSl rfl Tryz.underlying63 (List.length_map _)) rfl rfl ?_
  | refine SL.val (Val.lenOwn rfl (by repeat first|assumption|exact m0|apply m1) Tryz.underlying63 (List.length_map _)) rfl rfl ?_
  | refine SL.val (Val.lenNil rfl Tryz.underlying63) rfl rfl ?_
 refine SL.val (Val.neI rfl rfl) rfl rfl ?_
 refine SL.val (Val.pickF rfl rfl) rfl rfl ?_
 refine SL.val (Val.move rfl) rfl rfl ?_
 refine SL.bothP (t := 28) rfl ?_ ?_
 ·intro hc28
  iterate 7 refine SL.skip rfl rfl ?_
  refine SL.val (Val.pickT rfl rfl) rfl rfl ?_
  refine SL.nil (SE.seq ?_)
  refine SC.condT rfl ?_
  refine SC.seq (SC.region ?_)
  refine SL.val (Val.assign rfl) rfl rfl ?_
  refine SL.nil (SE.seq ?_)
  refine SC.ret ?_
  refine SE.then_ nofun ?_
  refine SE.fin (rs := [.tmp 4]) rfl (RV.tmp rfl RV.nil) (()) (by repeat first|exact s0 _|exact s1 _|apply s2|apply s3) (by simp [It.rids]) ?_
  refine boo_dec0 fun he => ?_
  subst he
  first
   | exact absurd rfl (by assumption)
   | omega
 intro hc28
 refine SL.val (Val.fieldAddr tabOk rfl rfl rfl rfl rfl) rfl rfl ?_
 refine SL.val (Val.to (C := .sl 3 (a.os.map Oc.abs)) (Val.load1 tabOk rfl rfl (by repeat first|assumption|exact o0_|exact o1_|apply o2_) List.not_mem_nil (by rfl)) rfl) rfl rfl ?_
 first
  | refine SL.val (Val.lenSl rfl Tryz.underlying64 (List.length_map _)) rfl rfl ?_
  | refine SL.val (Val.lenOwn rfl (by repeat first|assumption|exact m0|apply m1) Tryz.underlying64 (List.length_map _)) rfl rfl ?_
  | refine SL.val (Val.lenNil rfl Tryz.underlying64) rfl rfl ?_
 refine SL.val (Val.fieldAddr tabOk rfl rfl rfl rfl rfl) rfl rfl ?_
 refine SL.val (Val.to (C := .sl 3 (b.os.map Oc.abs)) (Val.load1 tabOk rfl rfl (by repeat first|assumption|exact o0_|exact o1_|apply o2_) List.not_mem_nil (by rfl)) rfl) rfl rfl ?_
 first
  | refine SL.val (Val.lenSl rfl Tryz.underlying64 (List.length_map _)) rfl rfl ?_
  | refine SL.val (Val.lenOwn rfl (by repeat first|assumption|exact m0|apply m1) Tryz.underlying64 (List.length_map _)) rfl rfl ?_
  | refine SL.val (Val.lenNil rfl Tryz.underlying64) rfl rfl ?_
 refine SL.val (Val.neI rfl rfl) rfl rfl ?_
 refine SL.val (Val.pickF rfl rfl) rfl rfl ?_
 refine SL.nil (SE.seq ?_)
 refine SC.condP rfl ?_ ?_
 ·intro hc36
  refine SC.seq (SC.region ?_)
  refine SL.val (Val.assign rfl) rfl rfl ?_
  refine SL.nil (SE.seq ?_)
  refine SC.ret ?_
  refine SE.then_ nofun ?_
  refine SE.fin (rs := [.tmp 4]) rfl (RV.tmp rfl RV.nil) (()) (by repeat first|exact s0 _|exact s1 _|apply s2|apply s3) (by simp [It.rids]) ?_
  refine boo_dec0 fun he => ?_
  subst he
  first
   | exact absurd rfl (by assumption)
   | omega
 intro hc36
 refine SC.skip ?_
 refine SE.seq ?_
 refine SC.cutS (ι := Unit) (fun z => [.blk b3 66 b.abs, .blk b2 66 a.abs]) (fun z => [(2, ptr b2), (3, ptr b3)]) (fun z => a.ls = b.ls) ?_ ?_
 ·skip
  refine SC.seq (SC.region ?_)
  refine SL.val (Val.fieldAddr tabOk rfl rfl rfl rfl rfl) rfl rfl ?_
  refine SL.val (Val.to (C := .sl 6 (a.ls.map ltrA)) (Val.load1 tabOk rfl rfl (by repeat first|assumption|exact o0_|exact o1_|apply o2_) List.not_mem_nil (by rfl)) rfl) rfl rfl ?_
  first
   | refine SL.val (Val.lenSl rfl Tryz.underlying63 (List.length_map _)) rfl rfl ?_
   | refine SL.val (Val.lenOwn rfl (by repeat first|assumption|exact m0|apply m1) Tryz.underlying63 (List.length_map _)) rfl rfl ?_
   | refine SL.val (Val.lenNil rfl Tryz.underlying63) rfl rfl ?_
  refine SL.val (Val.move rfl) rfl rfl ?_
  refine SL.nil (SE.seq ?_)
  refine SC.block ?_
  refine SC.rowLe (i := 38) rfl fun hrow => ?_
  rw [List.length_map] at hrow
  unfold maxLen at hrow
  refine SC.loop (ι := Nat) (fun z => [.blk b3 66 b.abs, .blk b2 66 a.abs]) (fun z => [(2, ptr b2), (3, ptr b3), (39, int (a.ls.length : Nat)), (40, int (z : Nat))]) (fun z => z ≤ a.ls.length ∧ ∀ j (h1 : j < a.ls.length) (h2 : j < b.ls.length), j < z → a.ls[j] = b.ls[j]) (fun z => a.ls.length - z) (0) (⟨Nat.zero_le _, fun j h1 h2 h => by omega⟩) (by exact ⟨rfl, rfl, rfl, rfl, trivial⟩) (by repeat first|exact s0 _|exact s1 _|apply s2|apply s3) ?_
  intro z hz
  refine SC.seq (SC.region ?_)
  refine SL.val (Val.ltI rfl rfl) rfl rfl ?_
  refine SL.nil (SE.seq ?_)
  refine SC.seq ?_
  refine SC.condP rfl ?_ ?_
  rotate_left
  ·intro hc41
   refine SC.exit ?_
   refine SE.then_ nofun ?_
   refine SE.then_ nofun ?_
   refine SE.exit ?_
   refine SE.meet (()) (List.ext_getElem (by omega) fun j h1 h2 => hz.2 j h1 h2 (by omega)) (by exact ⟨rfl, rfl, trivial⟩) (by repeat first|exact s0 _|exact s1 _|apply s2|apply s3)
  intro hc41
  have hlt : z < a.ls.length := by omega
  have hlt2 : z < b.ls.length := by omega
  refine SC.skip ?_
  refine SE.seq ?_
  refine SC.seq ?_
  refine SC.block ?_
  refine SC.seq (SC.region ?_)
  refine SL.val (Val.move rfl) rfl rfl ?_
  refine SL.val (Val.assign rfl) rfl rfl ?_
  refine SL.nil (SE.seq ?_)
  refine SC.seq ?_
  refine SC.draw [] (.q 0 (.q 1 (.q 2 (.q 3 (.q 4 (.q 5 (.q 6 (.q 7 (.q 8 (.q 9 (.q 10 .nil))))))))))) (by kernel_rfl) (by kernel_rfl) ?_
  refine SX.val rfl (Val.fieldAddr tabOk rfl rfl rfl rfl rfl) (by simp) rfl rfl ?_
  refine SX.hx (by first|(simp[mids,It.mids,ownPc];done)|(intro k hk;simp[mids,It.mids,ownPc] at hk ⊢;grind)) fun hx9 => ?_
  refine SX.val rfl (Val.to (C := .sl 6 (a.ls.map ltrA)) (Val.load1 tabOk rfl rfl (by repeat first|assumption|exact o0_|exact o1_|apply o2_) List.not_mem_nil (by rfl)) rfl) hx9 rfl rfl ?_
  refine SX.val rfl (Val.move rfl) (by simp) rfl rfl ?_
  refine SX.val rfl (Val.indexSl (q := z) tabOk Tryz.underlying63 rfl rfl rfl rfl (at_map hlt) rfl rfl) hx9 rfl rfl ?_
  refine SX.val rfl (Val.loadAR tabOk rfl rfl rfl (by rfl)) hx9 rfl rfl ?_
  refine SX.val rfl (Val.fieldAddr tabOk rfl rfl rfl rfl rfl) (by simp) rfl rfl ?_
  refine SX.val rfl (Val.to (C := .sl 6 (b.ls.map ltrA)) (Val.load1 tabOk rfl rfl (by repeat first|assumption|exact o0_|exact o1_|apply o2_) List.not_mem_nil (by rfl)) rfl) hx9 rfl rfl ?_
  refine SX.val rfl (Val.move rfl) (by simp) rfl rfl ?_
  refine SX.val rfl (Val.indexSl (q := z) tabOk Tryz.underlying63 rfl rfl rfl rfl (at_map hlt2) rfl rfl) hx9 rfl rfl ?_
  refine SX.val rfl (Val.loadAR tabOk rfl rfl rfl (by rfl)) hx9 rfl rfl ?_
  refine SX.val rfl (Val.neA rfl rfl (ltr_plains _) (ltr_plains _) (by kernel_rfl) (neqLtr (ha.ls _ (List.getElem_mem hlt)) (hb.ls _ (List.getElem_mem hlt2)))) hx9 rfl rfl ?_
  refine SX.nil (SE.seq ?_)
  refine SC.condP rfl ?_ ?_
  rotate_left
  ·intro hc53
   refine SC.skip ?_
   refine SE.inBlock ?_
   refine SE.seq ?_
   refine SC.region ?_
   first
    | refine SL.val (Val.addI rfl rfl (by simp only [InR, lo, hi]; omega)) rfl rfl ?_
    | refine SL.val (Val.addW rfl rfl) rfl rfl ?_
   refine SL.val (Val.move rfl) rfl rfl ?_
   refine SL.nil ?_
   have heq : a.ls[z]'hlt = b.ls[z]'hlt2 := Classical.byContradiction hc53
   refine SE.round (z + 1) (by first | omega | (dsimp only; omega)) (⟨by omega, fun j h1 h2 h => by rcases Nat.lt_or_ge j z with h3 | h3; exact hz.2 j h1 h2 h3; obtain rfl : j = z := (by omega); exact heq⟩) (by exact ⟨rfl, rfl, rfl, rfl, trivial⟩) (by repeat first|exact s0 _|exact s1 _|apply s2|apply s3)
  intro hc53
  refine SC.seq (SC.region ?_)
  refine SL.val (Val.assign rfl) rfl rfl ?_
  refine SL.nil (SE.seq ?_)
  refine SC.ret ?_
  refine SE.ret ?_
  refine SE.then_ nofun ?_
  refine SE.then_ nofun ?_
  refine SE.ret ?_
  refine SE.then_ nofun ?_
  refine SE.fin (rs := [.tmp 4]) rfl (RV.tmp rfl RV.nil) (()) (by repeat first|exact s0 _|exact s1 _|apply s2|apply s3) (by simp [It.rids]) ?_
  refine boo_dec0 fun he => ?_
  subst he
  exact hc53 rfl
 ·intro z hz
  refine SC.seq ?_
  refine SC.seq (SC.region ?_)
  refine SL.val (Val.fieldAddr tabOk rfl rfl rfl rfl rfl) rfl rfl ?_
  refine SL.val (Val.to (C := .sl 3 (a.os.map Oc.abs)) (Val.load1 tabOk rfl rfl (by repeat first|assumption|exact o0_|exact o1_|apply o2_) List.not_mem_nil (by rfl)) rfl) rfl rfl ?_
  first
   | refine SL.val (Val.lenSl rfl Tryz.underlying64 (List.length_map _)) rfl rfl ?_
   | refine SL.val (Val.lenOwn rfl (by repeat first|assumption|exact m0|apply m1) Tryz.underlying64 (List.length_map _)) rfl rfl ?_
   | refine SL.val (Val.lenNil rfl Tryz.underlying64) rfl rfl ?_
  refine SL.val (Val.move rfl) rfl rfl ?_
  refine SL.nil (SE.seq ?_)
  refine SC.block ?_
  refine SC.rowLe (i := 56) rfl fun hrow => ?_
  rw [List.length_map] at hrow
  unfold maxLen at hrow
  refine SC.loop (ι := Nat) (fun z => [.blk b3 66 b.abs, .blk b2 66 a.abs]) (fun z => [(2, ptr b2), (3, ptr b3), (57, int (a.os.length : Nat)), (58, int (z : Nat))]) (fun z => z ≤ a.os.length ∧ ∀ j (h1 : j < a.os.length) (h2 : j < b.os.length), j < z → a.os[j] = b.os[j]) (fun z => a.os.length - z) (0) (⟨Nat.zero_le _, fun j h1 h2 h => by omega⟩) (by exact ⟨rfl, rfl, rfl, rfl, trivial⟩) (by repeat first|exact s0 _|exact s1 _|apply s2|apply s3) ?_
  intro z hz
  refine SC.seq (SC.region ?_)
  refine SL.val (Val.ltI rfl rfl) rfl rfl ?_
  refine SL.nil (SE.seq ?_)
  refine SC.seq ?_
  refine SC.condP rfl ?_ ?_
  rotate_left
  ·intro hc59
   refine SC.exit ?_
   refine SE.then_ nofun ?_
   refine SE.then_ nofun ?_
   refine SE.exit ?_
   refine SE.seq ?_
   refine SC.seq (SC.region ?_)
   refine SL.val (Val.assign rfl) rfl rfl ?_
   refine SL.nil (SE.seq ?_)
   refine SC.ret ?_
   refine SE.fin (rs := [.tmp 4]) rfl (RV.tmp rfl RV.nil) (()) (by repeat first|exact s0 _|exact s1 _|apply s2|apply s3) (by simp [It.rids]) ?_
   refine boo_dec ?_
   have h2 : a.os = b.os := List.ext_getElem (by omega) fun j h1 h2 => hz.2 j h1 h2 (by omega)
   obtain ⟨a1, a2, a3, a4⟩ := a
   obtain ⟨b1, b2, b3, b4⟩ := b
   simp only [Lg.mk.injEq] at *
   exact ⟨by omega, by omega, by assumption, h2⟩
  intro hc59
  have hlt : z < a.os.length := by omega
  have hlt2 : z < b.os.length := by omega
  refine SC.skip ?_
  refine SE.seq ?_
  refine SC.seq ?_
  refine SC.block ?_
  refine SC.seq (SC.region ?_)
  refine SL.val (Val.move rfl) rfl rfl ?_
  refine SL.val (Val.assign rfl) rfl rfl ?_
  refine SL.nil (SE.seq ?_)
  refine SC.seq ?_
  refine SC.draw [] (.q 0 (.q 1 (.q 2 (.q 3 (.q 4 (.q 5 (.q 6 (.q 7 (.q 8 (.q 9 (.q 10 .nil))))))))))) (by kernel_rfl) (by kernel_rfl) ?_
  refine SX.val rfl (Val.fieldAddr tabOk rfl rfl rfl rfl rfl) (by simp) rfl rfl ?_
  refine SX.hx (by first|(simp[mids,It.mids,ownPc];done)|(intro k hk;simp[mids,It.mids,ownPc] at hk ⊢;grind)) fun hx9 => ?_
  refine SX.val rfl (Val.to (C := .sl 3 (a.os.map Oc.abs)) (Val.load1 tabOk rfl rfl (by repeat first|assumption|exact o0_|exact o1_|apply o2_) List.not_mem_nil (by rfl)) rfl) hx9 rfl rfl ?_
  refine SX.val rfl (Val.move rfl) (by simp) rfl rfl ?_
  refine SX.val rfl (Val.indexSl (q := z) tabOk Tryz.underlying64 rfl rfl rfl rfl (at_map hlt) rfl rfl) hx9 rfl rfl ?_
  refine SX.val rfl (Val.loadAR tabOk rfl rfl rfl (by rfl)) hx9 rfl rfl ?_
  refine SX.val rfl (Val.fieldAddr tabOk rfl rfl rfl rfl rfl) (by simp) rfl rfl ?_
  refine SX.val rfl (Val.to (C := .sl 3 (b.os.map Oc.abs)) (Val.load1 tabOk rfl rfl (by repeat first|assumption|exact o0_|exact o1_|apply o2_) List.not_mem_nil (by rfl)) rfl) hx9 rfl rfl ?_
  refine SX.val rfl (Val.move rfl) (by simp) rfl rfl ?_
  refine SX.val rfl (Val.indexSl (q := z) tabOk Tryz.underlying64 rfl rfl rfl rfl (at_map hlt2) rfl rfl) hx9 rfl rfl ?_
  refine SX.val rfl (Val.loadAR tabOk rfl rfl rfl (by rfl)) hx9 rfl rfl ?_
  refine SX.val rfl (Val.neA rfl rfl (oc_plains _) (oc_plains _) (by kernel_rfl) (neqOc (ha.os _ (List.getElem_mem hlt)) (hb.os _ (List.getElem_mem hlt2)))) hx9 rfl rfl ?_
  refine SX.nil (SE.seq ?_)
  refine SC.condP rfl ?_ ?_
  rotate_left
  ·intro hc71
   refine SC.skip ?_
   refine SE.inBlock ?_
   refine SE.seq ?_
   refine SC.region ?_
   first
    | refine SL.val (Val.addI rfl rfl (by simp only [InR, lo, hi]; omega)) rfl rfl ?_
    | refine SL.val (Val.addW rfl rfl) rfl rfl ?_
   refine SL.val (Val.move rfl) rfl rfl ?_
   refine SL.nil ?_
   have heq : a.os[z]'hlt = b.os[z]'hlt2 := Classical.byContradiction hc71
   refine SE.round (z + 1) (by first | omega | (dsimp only; omega)) (⟨by omega, fun j h1 h2 h => by rcases Nat.lt_or_ge j z with h3 | h3; exact hz.2 j h1 h2 h3; obtain rfl : j = z := (by omega); exact heq⟩) (by exact ⟨rfl, rfl, rfl, rfl, trivial⟩) (by repeat first|exact s0 _|exact s1 _|apply s2|apply s3)
  intro hc71
  refine SC.seq (SC.region ?_)
  refine SL.val (Val.assign rfl) rfl rfl ?_
  refine SL.nil (SE.seq ?_)
  refine SC.ret ?_
  refine SE.ret ?_
  refine SE.then_ nofun ?_
  refine SE.then_ nofun ?_
  refine SE.ret ?_
  refine SE.then_ nofun ?_
  refine SE.fin (rs := [.tmp 4]) rfl (RV.tmp rfl RV.nil) (()) (by repeat first|exact s0 _|exact s1 _|apply s2|apply s3) (by simp [It.rids]) ?_
  refine boo_dec0 fun he => ?_
  subst he
  exact hc71 rfl
theorem rfind_s  : Spec Tryz.prog 69 [.agg l.abs, st s] [] (fun _ : Unit => []) (fun _ => .tup [.agg (ltrA ((l.find s).getD Ltr.none)), boo (l.find s).isSome]) := by
 refine spec_of Tryz.func69 rfl Tryz.ntmps69 rfl fun G w => ?_
 refine SC.seq (SC.region ?_)
 refine SL.eff (Eff.boxA (cs := l.abs) rfl) rfl rfl ?_
 rintro _ _ ⟨b2, rfl, rfl⟩
 refine SL.eff (Eff.alloc tabOk rfl) rfl rfl ?_
 rintro _ _ ⟨b4, rfl, rfl⟩
 refine SL.val (Val.assign rfl) rfl rfl ?_
 refine SL.nil (SE.seq ?_)
 refine SC.seq ?_
 refine SC.seq (SC.region ?_)
 refine SL.val (Val.fieldAddr tabOk rfl rfl rfl rfl rfl) rfl rfl ?_
 refine SL.val (Val.to (C := .sl 6 (l.ls.map ltrA)) (Val.load1 tabOk rfl rfl (by repeat first|assumption|exact o0_|exact o1_|apply o2_) List.not_mem_nil (by rfl)) rfl) rfl rfl ?_
 first
  | refine SL.val (Val.lenSl rfl Tryz.underlying63 (List.length_map _)) rfl rfl ?_
  | refine SL.val (Val.lenOwn rfl (by repeat first|assumption|exact m0|apply m1) Tryz.underlying63 (List.length_map _)) rfl rfl ?_
  | refine SL.val (Val.lenNil rfl Tryz.underlying63) rfl rfl ?_
 refine SL.val (Val.move rfl) rfl rfl ?_
 refine SL.nil (SE.seq ?_)
 refine SC.block ?_
 refine SC.rowLe (i := 9) rfl fun hrow => ?_
 rw [List.length_map] at hrow
 unfold maxLen at hrow
 refine SC.loop (ι := Nat) (fun z => [.blk b4 74 (ltrA Ltr.none)]) (fun z => [(1, st s), (4, ptr b4), (9, ltrsA l.ls), (10, int (l.ls.length : Nat)), (11, int (z : Nat))]) (fun z => z ≤ l.ls.length ∧ ∀ j (h : j < l.ls.length), j < z → ¬ l.ls[j].name = s) (fun z => l.ls.length - z) (0) (⟨Nat.zero_le _, fun j h h2 => by omega⟩) (by exact ⟨rfl, rfl, rfl, rfl, rfl, trivial⟩) (by repeat first|exact s0 _|exact s1 _|apply s2|apply s3) ?_
 intro z hz
 refine SC.seq (SC.region ?_)
 refine SL.val (Val.ltI rfl rfl) rfl rfl ?_
 refine SL.nil (SE.seq ?_)
 refine SC.seq ?_
 refine SC.condP rfl ?_ ?_
 rotate_left
 ·intro hc12
  refine SC.exit ?_
  refine SE.then_ nofun ?_
  refine SE.then_ nofun ?_
  refine SE.exit ?_
  refine SE.seq ?_
  refine SC.seq (SC.region ?_)
  refine SL.val (Val.buildS tabOk rfl rfl rfl rfl) rfl rfl ?_
  refine SL.eff (Eff.store (L' := ltrA Ltr.none) tabOk rfl rfl rfl (by repeat first|assumption|exact Upd.here|apply Upd.there) rfl (lb_ (by rfl)) rfl (by exact putL_whole rfl)) rfl rfl ?_
  rintro _ _ ⟨rfl, rfl⟩
  refine SL.val (Val.assign rfl) rfl rfl ?_
  refine SL.nil (SE.seq ?_)
  refine SC.ret ?_
  have hfn : l.find s = none := by
   unfold Lg.find
   rw [List.find?_eq_none]
   intro y hy
   obtain ⟨j, hj, rfl⟩ := List.getElem_of_mem hy
   simpa using hz.2 j hj (by omega)
  refine SE.fin (rs := [.cell 4 74, .tmp 5]) rfl (RV.cell rfl (RV.cellA tabOk rfl rfl (by repeat first|assumption|exact o0_|exact o1_|apply o2_) (by rfl)) (RV.tmp rfl RV.nil)) (()) (by repeat first|exact s0 _|exact s1 _|apply s2|apply s3) (by simp [It.rids]) ?_
  rw [hfn]
  rfl
 intro hc12
 have hlt : z < l.ls.length := by omega
 refine SC.skip ?_
 refine SE.seq ?_
 refine SC.seq ?_
 refine SC.block ?_
 refine SC.seq (SC.region ?_)
 refine SL.val (Val.indexSl tabOk Tryz.underlying63 rfl rfl rfl rfl (at_map (by omega)) rfl rfl) rfl rfl ?_
 refine SL.val (Val.loadAR tabOk rfl rfl rfl (by rfl)) rfl rfl ?_
 refine SL.eff (Eff.alloc tabOk rfl) rfl rfl ?_
 rintro _ _ ⟨b7, rfl, rfl⟩
 refine SL.eff (Eff.store (L' := ltrA (l.ls[z]'hlt)) tabOk rfl rfl rfl (by repeat first|assumption|exact Upd.here|apply Upd.there) rfl (lb_ (by rfl)) rfl (by exact putL_whole rfl)) rfl rfl ?_
 rintro _ _ ⟨rfl, rfl⟩
 refine SL.nil (SE.seq ?_)
 refine SC.seq (SC.region ?_)
 refine SL.val (Val.fieldAddr tabOk rfl rfl rfl rfl rfl) rfl rfl ?_
 refine SL.val (Val.to (C := st (l.ls[z]'hlt).name) (Val.load1 tabOk rfl rfl (by repeat first|assumption|exact o0_|exact o1_|apply o2_) List.not_mem_nil (by rfl)) rfl) rfl rfl ?_
 refine SL.val (Val.move rfl) rfl rfl ?_
 refine SL.val (Val.eqS rfl rfl) rfl rfl ?_
 refine SL.nil (SE.seq ?_)
 refine SC.condP rfl ?_ ?_
 rotate_left
 ·intro hc18
  refine SC.skip ?_
  refine SE.inBlock ?_
  refine SE.seq ?_
  refine SC.region ?_
  first
   | refine SL.val (Val.addI rfl rfl (by simp only [InR, lo, hi]; omega)) rfl rfl ?_
   | refine SL.val (Val.addW rfl rfl) rfl rfl ?_
  refine SL.val (Val.move rfl) rfl rfl ?_
  refine SL.nil ?_
  refine SE.round (z + 1) (by first | omega | (dsimp only; omega)) (⟨by omega, fun j h h2 => by rcases Nat.lt_or_ge j z with h3 | h3; exact hz.2 j h h3; obtain rfl : j = z := (by omega); exact hc18⟩) (by exact ⟨rfl, rfl, rfl, rfl, rfl, trivial⟩) (by repeat first|exact s0 _|exact s1 _|apply s2|apply s3)
 intro hc18
 refine SC.seq (SC.region ?_)
 refine SL.val (Val.loadA tabOk rfl rfl rfl (by repeat first|assumption|exact o0_|exact o1_|apply o2_) List.not_mem_nil (by rfl)) rfl rfl ?_
 refine SL.eff (Eff.store (L' := ltrA (l.ls[z]'hlt)) tabOk rfl rfl rfl (by repeat first|assumption|exact Upd.here|apply Upd.there) rfl (lb_ (by rfl)) rfl (by exact putL_whole rfl)) rfl rfl ?_
 rintro _ _ ⟨rfl, rfl⟩
 refine SL.val (Val.assign rfl) rfl rfl ?_
 refine SL.nil (SE.seq ?_)
 refine SC.ret ?_
 refine SE.ret ?_
 refine SE.then_ nofun ?_
 refine SE.then_ nofun ?_
 refine SE.ret ?_
 refine SE.then_ nofun ?_
 have hfs : l.find s = some (l.ls[z]'hlt) := by
  unfold Lg.find
  rw [List.find?_eq_some_iff_getElem]
  exact ⟨decide_eq_true hc18, z, hlt, rfl, fun j hj => by simpa using hz.2 j (by omega) hj⟩
 refine SE.fin (rs := [.cell 4 74, .tmp 5]) rfl (RV.cell rfl (RV.cellA tabOk rfl rfl (by repeat first|assumption|exact o0_|exact o1_|apply o2_) (by rfl)) (RV.tmp rfl RV.nil)) (()) (by repeat first|exact s0 _|exact s1 _|apply s2|apply s3) (by simp [It.rids]) ?_
 rw [hfs]
 rfl
end
end Go.Proofs.YtejcohlpjikjpaaGreatDoor.A
/-
  The document's ledgers: which may be.
-/
namespace Go.Proofs.YtejcohlpjikjpaaGreatDoor.A
open Go.RowKit

section
variable {l a b : Lg} {x : Ltr} {o : Oc} {k n : Int} {s : ByteArray} {c : Core} {e : Ent} {p : Nat} {es : List Ent} {ls : List Ltr}
end
end Go.Proofs.YtejcohlpjikjpaaGreatDoor.A
