/-
  Packed out of the texts: CO1, CO2.
-/
import Derived.Test.YtickdhjljpnlpaaGreatDoorP08
/-
  Ledgers: letters and outcomes put in where they belong.
-/
set_option maxRecDepth 100000
set_option linter.unusedSimpArgs false
set_option linter.unusedVariables false
namespace Go.Proofs.YtickdhjljpnlpaaGreatDoor.A
open Go.RowKit

section
variable {x : Oc} {xs : List Oc} {p q : Nat} {k : Int} {v : Value}
theorem key_oc  : Spec Tryz.prog 62 [.agg (Oc.abs x)] [] (fun _ : Unit => []) (fun _ => int x.client) := by
 refine spec_of Tryz.func62 rfl Tryz.ntmps62 rfl fun G w => ?_
 refine SC.seq (SC.region ?_)
 refine SL.eff (Eff.boxA (cs := Oc.abs x) rfl) rfl rfl ?_
 rintro _ _ ⟨b1, rfl, rfl⟩
 refine SL.val (Val.assign rfl) rfl rfl ?_
 refine SL.nil (SE.seq ?_)
 refine SC.seq (SC.region ?_)
 refine SL.val (Val.fieldAddr tabOk rfl rfl rfl rfl rfl) rfl rfl ?_
 refine SL.val (Val.load1 tabOk rfl rfl (by repeat first|assumption|exact o0_|exact o1_|apply o2_) List.not_mem_nil (by rfl)) rfl rfl ?_
 refine SL.val (Val.assign rfl) rfl rfl ?_
 refine SL.nil (SE.seq ?_)
 refine SC.ret ?_
 refine SE.fin (rs := [.tmp 2]) rfl (RV.tmp rfl RV.nil) (()) (by repeat first|exact s0_ _|exact s1_ _|apply s2_|apply s3_) (by simp [It.rids]) ?_
 exact rfl
theorem pl1_oc  : Spec Tryz.prog 94 [.agg (Oc.abs x), ptr p, ptr q] [.rd p 105 [.fn (.func 62) [] []], .rd q 3 [int k]] (fun _ : Unit => []) (fun _ => boo (eqO k x)) := by
 refine spec_of Tryz.func94 rfl Tryz.ntmps94 rfl fun G w => ?_
 refine SC.seq (SC.region ?_)
 refine SL.eff (Eff.boxA (cs := Oc.abs x) rfl) rfl rfl ?_
 rintro _ _ ⟨b3, rfl, rfl⟩
 refine SL.val (Val.assign rfl) rfl rfl ?_
 refine SL.nil (SE.seq ?_)
 refine SC.seq ?_
 refine SC.draw [] (.q 0 (.q 1 (.q 3 (.e 2 (.q 4 (.q 5 .nil)))))) (by kernel_rfl) (by kernel_rfl) ?_
 refine SX.val rfl (Val.load1 tabOk rfl rfl (by repeat first|assumption|exact o0_|exact o1_|apply o2_) List.not_mem_nil (by rfl)) (by simp) rfl rfl ?_
 refine SX.hx (by first|(simp[mids,It.mids,ownPc];done)|(intro k hk;simp[mids,It.mids,ownPc] at hk ⊢;grind)) fun hx9 => ?_
 refine SX.val rfl (Val.loadA tabOk rfl rfl rfl (by repeat first|assumption|exact o0_|exact o1_|apply o2_) List.not_mem_nil (by rfl)) hx9 rfl rfl ?_
 refine SX.val rfl (Val.load1 tabOk rfl rfl (by repeat first|assumption|exact o0_|exact o1_|apply o2_) List.not_mem_nil (by rfl)) (by simp) rfl rfl ?_
 refine SX.callv rfl (key_oc (x := x)) (by simp [mids, It.mids]) rfl Casts.refl (by kernel_rfl) rfl rfl rfl ?_
 refine ap_ ?_
 intro _
 refine SX.hx (by first|(simp[mids,It.mids,ownPc];done)|(intro k hk;simp[mids,It.mids,ownPc] at hk ⊢;grind)) fun hx9 => ?_
 refine SX.val rfl (Val.eqI rfl rfl) hx9 rfl rfl ?_
 refine SX.val rfl (Val.assign rfl) (by simp) rfl rfl ?_
 refine SX.nil (SE.seq ?_)
 refine SC.ret ?_
 refine SE.fin (rs := [.tmp 4]) rfl (RV.tmp rfl RV.nil) (()) (by repeat first|exact s0_ _|exact s1_ _|apply s2_|apply s3_) (by simp [It.rids]) ?_
 exact rfl
theorem pl2_oc  : Spec Tryz.prog 95 [.agg (Oc.abs x), ptr p, ptr q] [.rd p 105 [.fn (.func 62) [] []], .rd q 3 [int k]] (fun _ : Unit => []) (fun _ => boo (gtO k x)) := by
 refine spec_of Tryz.func95 rfl Tryz.ntmps95 rfl fun G w => ?_
 refine SC.seq (SC.region ?_)
 refine SL.eff (Eff.boxA (cs := Oc.abs x) rfl) rfl rfl ?_
 rintro _ _ ⟨b3, rfl, rfl⟩
 refine SL.val (Val.assign rfl) rfl rfl ?_
 refine SL.nil (SE.seq ?_)
 refine SC.seq ?_
 refine SC.draw [] (.q 0 (.q 1 (.q 3 (.e 2 (.q 4 (.q 5 .nil)))))) (by kernel_rfl) (by kernel_rfl) ?_
 refine SX.val rfl (Val.load1 tabOk rfl rfl (by repeat first|assumption|exact o0_|exact o1_|apply o2_) List.not_mem_nil (by rfl)) (by simp) rfl rfl ?_
 refine SX.hx (by first|(simp[mids,It.mids,ownPc];done)|(intro k hk;simp[mids,It.mids,ownPc] at hk ⊢;grind)) fun hx9 => ?_
 refine SX.val rfl (Val.loadA tabOk rfl rfl rfl (by repeat first|assumption|exact o0_|exact o1_|apply o2_) List.not_mem_nil (by rfl)) hx9 rfl rfl ?_
 refine SX.val rfl (Val.load1 tabOk rfl rfl (by repeat first|assumption|exact o0_|exact o1_|apply o2_) List.not_mem_nil (by rfl)) (by simp) rfl rfl ?_
 refine SX.callv rfl (key_oc (x := x)) (by simp [mids, It.mids]) rfl Casts.refl (by kernel_rfl) rfl rfl rfl ?_
 refine ap_ ?_
 intro _
 refine SX.hx (by first|(simp[mids,It.mids,ownPc];done)|(intro k hk;simp[mids,It.mids,ownPc] at hk ⊢;grind)) fun hx9 => ?_
 refine SX.val rfl (Val.gtI rfl rfl) hx9 rfl rfl ?_
 refine SX.val rfl (Val.assign rfl) (by simp) rfl rfl ?_
 refine SX.nil (SE.seq ?_)
 refine SC.ret ?_
 refine SE.fin (rs := [.tmp 4]) rfl (RV.tmp rfl RV.nil) (()) (by repeat first|exact s0_ _|exact s1_ _|apply s2_|apply s3_) (by simp [It.rids]) ?_
 exact rfl
theorem clone_oc_s {xs : List (List Abs)} (h1 : ∀ c ∈ xs, ones c = true) (hn : xs.length ≤ 1000000) : Spec Tryz.prog 38 [.sl 3 xs] [] (fun _ : Unit => []) (fun _ => .sl 3 xs) := by
 refine spec_of Tryz.func38 rfl Tryz.ntmps38 rfl fun G w => ?_
 refine SC.seq (SC.region ?_)
 refine SL.val (Val.assign rfl) rfl rfl ?_
 refine SL.nil (SE.seq ?_)
 refine SC.seq ?_
 refine SC.seq (SC.region ?_)
 refine SL.val (Val.move rfl) rfl rfl ?_
 refine SL.eqNil Tryz.underlying28 rfl rfl rfl ?_
 intro b hb
 refine SL.nil (SE.seq ?_)
 refine SC.cond rfl ?_ ?_
 ·intro hc4
  have hnil : xs = [] := hb hc4
  subst hnil
  refine SC.seq (SC.region ?_)
  refine SL.val (Val.assign rfl) rfl rfl ?_
  refine SL.nil (SE.seq ?_)
  refine SC.ret ?_
  refine SE.then_ nofun ?_
  refine SE.finC (rs := [.tmp 2]) rfl (RV.tmp rfl RV.nil) (Casts.nils (s := 3) Casts.refl) () (by repeat first|exact s0_ _|exact s1_ _|apply s2_|apply s3_) (by simp [It.rids]) rfl
 intro hc4
 refine SC.skip ?_
 refine SE.seq ?_
 refine SC.seq (SC.region ?_)
 refine SL.eff (Eff.buildOwn tabOk Tryz.underlying28 rfl rfl rfl rfl rfl rfl rfl) rfl rfl ?_
 rintro _ _ ⟨r5, rfl, rfl⟩
 refine SL.val (Val.move rfl) rfl rfl ?_
 refine SL.eff (Eff.appendE (zs := xs) tabOk [] rfl Tryz.underlying28 rfl rfl rfl rfl rfl rfl h1 (by unfold maxLen; simp only [List.length_nil]; omega) (by rw [show Tryz.prog.bytesOf 40 = 24 by kernel_rfl]; simp only [List.length_nil]; omega)) rfl rfl ?_
 rintro _ _ ⟨r7, rfl, rfl⟩
 refine SL.val (Val.assign rfl) rfl rfl ?_
 refine SL.nil (SE.seq ?_)
 refine SC.ret ?_
 refine SE.freeze [] (t := 2) rfl rfl ?_
 refine SE.fin (rs := [.tmp 2]) rfl (RV.tmp rfl RV.nil) (()) (by repeat first|exact s0_ _|exact s1_ _|apply s2_|apply s3_) (by simp [It.rids]) ?_
 exact rfl
theorem cloneO_oc_s {xs : List (List Abs)} (h1 : ∀ c ∈ xs, ones c = true) (hn : xs.length ≤ 1000000) : Spec Tryz.prog 38 [.sl 3 xs] [] (fun r : Value => [own 40 3 r xs]) (fun r => .v r) := by
 refine spec_of Tryz.func38 rfl Tryz.ntmps38 rfl fun G w => ?_
 refine SC.seq (SC.region ?_)
 refine SL.val (Val.assign rfl) rfl rfl ?_
 refine SL.nil (SE.seq ?_)
 refine SC.seq ?_
 refine SC.seq (SC.region ?_)
 refine SL.val (Val.move rfl) rfl rfl ?_
 refine SL.eqNil Tryz.underlying28 rfl rfl rfl ?_
 intro b hb
 refine SL.nil (SE.seq ?_)
 refine SC.cond rfl ?_ ?_
 ·intro hc4
  have hnil : xs = [] := hb hc4
  subst hnil
  refine SC.seq ?_
  refine SC.own0 40 3 ?_
  refine SC.region ?_
  refine SL.val (Val.assign rfl) rfl rfl ?_
  refine SL.nil (SE.seq ?_)
  refine SC.ret ?_
  refine SE.then_ nofun ?_
  refine SE.fin (rs := [.tmp 2]) rfl (RV.tmp rfl RV.nil) (.slice none 0 0) (by repeat first|exact s0_ _|exact s1_ _|apply s2_|apply s3_) (by simp [It.rids]) ?_
  exact rfl
 intro hc4
 refine SC.skip ?_
 refine SE.seq ?_
 refine SC.seq (SC.region ?_)
 refine SL.eff (Eff.buildOwn tabOk Tryz.underlying28 rfl rfl rfl rfl rfl rfl rfl) rfl rfl ?_
 rintro _ _ ⟨r5, rfl, rfl⟩
 refine SL.val (Val.move rfl) rfl rfl ?_
 refine SL.eff (Eff.appendE (zs := xs) tabOk [] rfl Tryz.underlying28 rfl rfl rfl rfl rfl rfl h1 (by unfold maxLen; simp only [List.length_nil]; omega) (by rw [show Tryz.prog.bytesOf 40 = 24 by kernel_rfl]; simp only [List.length_nil]; omega)) rfl rfl ?_
 rintro _ _ ⟨r7, rfl, rfl⟩
 refine SL.val (Val.assign rfl) rfl rfl ?_
 refine SL.nil (SE.seq ?_)
 refine SC.ret ?_
 refine SE.fin (rs := [.tmp 2]) rfl (RV.tmp rfl RV.nil) (r7) (by repeat first|exact s0_ _|exact s1_ _|apply s2_|apply s3_) (by simp [It.rids]) ?_
 exact rfl
end
theorem indexI_oc {xs : List Oc} {p : Oc → Bool} {k : Nat} {caps : List Abs} {σ : Blks} (hb : goesIn Tryz.prog k = true) (hr : Rds σ) (hn : xs.length < 9223372036854775807) (h : ∀ x ∈ xs, Spec Tryz.prog k (.agg (Oc.abs x) :: caps) σ (fun _ : Unit => []) (fun _ => boo (p x))) : Spec Tryz.prog 93 [.sl 3 (xs.map Oc.abs), .fn (.func k) [] caps] σ (fun _ : {r : Int // IdxOf p xs r} => []) (fun z => int z.1) := by
 refine spec_of Tryz.func93 rfl Tryz.ntmps93 rfl fun G w => ?_
 refine SC.seq (SC.region ?_)
 refine SL.val (Val.assign rfl) rfl rfl ?_
 refine SL.nil (SE.seq ?_)
 refine SC.seq ?_
 refine SC.seq (SC.region ?_)
 refine SL.val (Val.move rfl) rfl rfl ?_
 first
  | refine SL.val (Val.lenSl rfl Tryz.underlying28 (List.length_map _)) rfl rfl ?_
  | refine SL.val (Val.lenOwn rfl (by repeat first|assumption|exact m0_|apply m1_) Tryz.underlying28 (List.length_map _)) rfl rfl ?_
  | refine SL.val (Val.lenNil rfl Tryz.underlying28) rfl rfl ?_
 refine SL.val (Val.move rfl) rfl rfl ?_
 refine SL.nil (SE.seq ?_)
 refine SC.block ?_
 refine SC.loop (ι := Nat) (fun z => σ) (fun z => [(0, .sl 3 (xs.map Oc.abs)), (1, .fn (.func k) [] caps), (7, int (xs.length : Nat)), (8, int (z : Nat))]) (fun z => z ≤ xs.length ∧ ∀ j (hj : j < xs.length), j < z → p xs[j] = false) (fun z => xs.length - z) (0) (⟨Nat.zero_le _, by omega⟩) (by exact ⟨rfl, rfl, rfl, rfl, trivial⟩) (by repeat first|exact s0_ _|exact s1_ _|apply s2_|apply s3_) ?_
 intro z hz
 refine SC.seq (SC.region ?_)
 refine SL.val (Val.ltI rfl rfl) rfl rfl ?_
 refine SL.nil (SE.seq ?_)
 refine SC.seq ?_
 refine SC.condP rfl ?_ ?_
 rotate_left
 ·intro hc9
  refine SC.exit ?_
  refine SE.then_ nofun ?_
  refine SE.then_ nofun ?_
  refine SE.exit ?_
  refine SE.seq ?_
  refine SC.seq (SC.region ?_)
  refine SL.val (Val.assign rfl) rfl rfl ?_
  refine SL.nil (SE.seq ?_)
  refine SC.ret ?_
  refine SE.fin (rs := [.tmp 4]) rfl (RV.tmp rfl RV.nil) (⟨-1, .inl ⟨rfl, fun x hx => by obtain ⟨j, hj, rfl⟩ := List.getElem_of_mem hx; exact hz.2 j hj (by omega)⟩⟩) (by repeat first|exact s0_ _|exact s1_ _|apply s2_|apply s3_) (by simp [It.rids]) ?_
  exact rfl
 intro hc9
 have hlt : z < xs.length := by omega
 refine SC.skip ?_
 refine SE.seq ?_
 refine SC.seq ?_
 refine SC.block ?_
 refine SC.seq (SC.region ?_)
 refine SL.val (Val.move rfl) rfl rfl ?_
 refine SL.val (Val.assign rfl) rfl rfl ?_
 refine SL.nil (SE.seq ?_)
 refine SC.seq (SC.region ?_)
 iterate 3 refine SL.val (Val.move rfl) rfl rfl ?_
 refine SL.val (Val.indexSl tabOk Tryz.underlying28 rfl rfl rfl rfl (at_map (by omega)) rfl rfl) rfl rfl ?_
 refine SL.val (Val.loadAR tabOk rfl rfl rfl (by rfl)) rfl rfl ?_
 refine SL.callv (h _ (List.getElem_mem hlt)) rfl Casts.refl hb rfl rfl rfl ?_
 refine After.pure (Rds.reads hr (fun x hx => by repeat (first | exact hx | apply List.mem_cons_of_mem))) (fun _ => rfl) ?_
 intro _
 refine SL.nil (SE.seq ?_)
 refine SC.cond rfl ?_ ?_
 rotate_left
 ·intro hc16
  refine SC.skip ?_
  refine SE.inBlock ?_
  refine SE.seq ?_
  refine SC.region ?_
  first
   | refine SL.val (Val.addI rfl rfl (by simp only [InR, lo, hi]; omega)) rfl rfl ?_
   | refine SL.val (Val.addW rfl rfl) rfl rfl ?_
  refine SL.val (Val.move rfl) rfl rfl ?_
  refine SL.nil ?_
  refine SE.round (z + 1) (by first | omega | (dsimp only; omega)) (⟨by omega, fun j hj hjz => by rcases Nat.lt_or_ge j z with h1 | h1; exact hz.2 j hj h1; obtain rfl : j = z := (by omega); exact hc16⟩) (by exact ⟨rfl, rfl, rfl, rfl, trivial⟩) (by repeat first|exact s0_ _|exact s1_ _|apply s2_|apply s3_)
 intro hc16
 refine SC.seq (SC.region ?_)
 refine SL.val (Val.move rfl) rfl rfl ?_
 refine SL.val (Val.assign rfl) rfl rfl ?_
 refine SL.nil (SE.seq ?_)
 refine SC.ret ?_
 refine SE.ret ?_
 refine SE.then_ nofun ?_
 refine SE.then_ nofun ?_
 refine SE.ret ?_
 refine SE.then_ nofun ?_
 refine SE.fin (rs := [.tmp 4]) rfl (RV.tmp rfl RV.nil) (⟨(z : Nat), .inr ⟨z, hlt, rfl, hc16, fun j hj => hz.2 j (by omega) hj⟩⟩) (by repeat first|exact s0_ _|exact s1_ _|apply s2_|apply s3_) (by simp [It.rids]) ?_
 exact rfl
theorem indexO_oc {v : Value} {xs : List Oc} {p : Oc → Bool} {k : Nat} {caps : List Abs} {σ : Blks} (hb : goesIn Tryz.prog k = true) (hr : Rds σ) (hn : xs.length < 9223372036854775807) (h : ∀ x ∈ xs, Spec Tryz.prog k (.agg (Oc.abs x) :: caps) σ (fun _ : Unit => []) (fun _ => boo (p x))) : Spec Tryz.prog 93 [.v v, .fn (.func k) [] caps] (.rdpc (ownPc 40 3 v (xs.map Oc.abs)) :: σ) (fun _ : {r : Int // IdxOf p xs r} => []) (fun z => int z.1) := by
 refine spec_of Tryz.func93 rfl Tryz.ntmps93 rfl fun G w => ?_
 refine SC.seq (SC.region ?_)
 refine SL.val (Val.assign rfl) rfl rfl ?_
 refine SL.nil (SE.seq ?_)
 refine SC.seq ?_
 refine SC.seq (SC.region ?_)
 refine SL.val (Val.move rfl) rfl rfl ?_
 refine SL.val (Val.lenOwnR (m := xs.length) rfl (.inr (by repeat first|assumption|exact m0_|apply m1_)) Tryz.underlying28 (List.length_map _)) rfl rfl ?_
 refine SL.val (Val.move rfl) rfl rfl ?_
 refine SL.nil (SE.seq ?_)
 refine SC.block ?_
 refine SC.loop (ι := Nat) (fun z => (.rdpc (ownPc 40 3 v (xs.map Oc.abs)) :: σ)) (fun z => [(0, .v v), (1, .fn (.func k) [] caps), (7, int (xs.length : Nat)), (8, int (z : Nat))]) (fun z => z ≤ xs.length ∧ ∀ j (hj : j < xs.length), j < z → p xs[j] = false) (fun z => xs.length - z) (0) (⟨Nat.zero_le _, by omega⟩) (by exact ⟨rfl, rfl, rfl, rfl, trivial⟩) (by repeat first|exact s0_ _|exact s1_ _|apply s2_|apply s3_) ?_
 intro z hz
 refine SC.seq (SC.region ?_)
 refine SL.val (Val.ltI rfl rfl) rfl rfl ?_
 refine SL.nil (SE.seq ?_)
 refine SC.seq ?_
 refine SC.condP rfl ?_ ?_
 rotate_left
 ·intro hc9
  refine SC.exit ?_
  refine SE.then_ nofun ?_
  refine SE.then_ nofun ?_
  refine SE.exit ?_
  refine SE.seq ?_
  refine SC.seq (SC.region ?_)
  refine SL.val (Val.assign rfl) rfl rfl ?_
  refine SL.nil (SE.seq ?_)
  refine SC.ret ?_
  refine SE.fin (rs := [.tmp 4]) rfl (RV.tmp rfl RV.nil) (⟨-1, .inl ⟨rfl, fun x hx => by obtain ⟨j, hj, rfl⟩ := List.getElem_of_mem hx; exact hz.2 j hj (by omega)⟩⟩) (by repeat first|exact s0_ _|exact s1_ _|apply s2_|apply s3_) (by simp [It.rids]) ?_
  exact rfl
 intro hc9
 have hlt : z < xs.length := by omega
 refine SC.skip ?_
 refine SE.seq ?_
 refine SC.seq ?_
 refine SC.block ?_
 refine SC.seq (SC.region ?_)
 refine SL.val (Val.move rfl) rfl rfl ?_
 refine SL.val (Val.assign rfl) rfl rfl ?_
 refine SL.nil (SE.seq ?_)
 refine SC.seq (SC.region ?_)
 iterate 3 refine SL.val (Val.move rfl) rfl rfl ?_
 refine SL.val (Val.indexOwn (q := z) tabOk Tryz.underlying28 rfl rfl (.inr (by repeat first|assumption|exact m0_|apply m1_)) rfl rfl (by rw [List.length_map]; exact hlt) rfl rfl) rfl rfl ?_
 refine SL.val (Val.loadOwnA tabOk rfl rfl rfl (.inr (by repeat first|assumption|exact m0_|apply m1_)) rfl (at_map hlt) rfl) rfl rfl ?_
 refine SL.callv (h _ (List.getElem_mem hlt)) rfl Casts.refl hb rfl rfl rfl ?_
 refine After.pure (Rds.reads hr (fun x hx => by repeat (first | exact hx | apply List.mem_cons_of_mem))) (fun _ => rfl) ?_
 intro _
 refine SL.nil (SE.seq ?_)
 refine SC.cond rfl ?_ ?_
 rotate_left
 ·intro hc16
  refine SC.skip ?_
  refine SE.inBlock ?_
  refine SE.seq ?_
  refine SC.region ?_
  first
   | refine SL.val (Val.addI rfl rfl (by simp only [InR, lo, hi]; omega)) rfl rfl ?_
   | refine SL.val (Val.addW rfl rfl) rfl rfl ?_
  refine SL.val (Val.move rfl) rfl rfl ?_
  refine SL.nil ?_
  refine SE.round (z + 1) (by first | omega | (dsimp only; omega)) (⟨by omega, fun j hj hjz => by rcases Nat.lt_or_ge j z with h1 | h1; exact hz.2 j hj h1; obtain rfl : j = z := (by omega); exact hc16⟩) (by exact ⟨rfl, rfl, rfl, rfl, trivial⟩) (by repeat first|exact s0_ _|exact s1_ _|apply s2_|apply s3_)
 intro hc16
 refine SC.seq (SC.region ?_)
 refine SL.val (Val.move rfl) rfl rfl ?_
 refine SL.val (Val.assign rfl) rfl rfl ?_
 refine SL.nil (SE.seq ?_)
 refine SC.ret ?_
 refine SE.ret ?_
 refine SE.then_ nofun ?_
 refine SE.then_ nofun ?_
 refine SE.ret ?_
 refine SE.then_ nofun ?_
 refine SE.fin (rs := [.tmp 4]) rfl (RV.tmp rfl RV.nil) (⟨(z : Nat), .inr ⟨z, hlt, rfl, hc16, fun j hj => hz.2 j (by omega) hj⟩⟩) (by repeat first|exact s0_ _|exact s1_ _|apply s2_|apply s3_) (by simp [It.rids]) ?_
 exact rfl
theorem ins_oc {v u : Value} {xs : List (List Abs)} {y : List Abs} {i : Nat} (hil : i ≤ xs.length) (h1 : ∀ c ∈ xs, ones c = true) (hy : ones y = true) (hn : xs.length ≤ 1000000) : Spec Tryz.prog 126 [.v v, int (i : Nat), .v u] [own 40 3 u [y], own 40 3 v xs] (fun r : Value => [own 40 3 r (xs.take i ++ y :: xs.drop i)]) (fun r => .v r) := by
 refine spec_of Tryz.func126 rfl Tryz.ntmps126 rfl fun G w => ?_
 refine SC.seq (SC.region ?_)
 refine SL.val (Val.assign rfl) rfl rfl ?_
 refine SL.nil (SE.seq ?_)
 refine SC.seq (SC.region ?_)
 iterate 2 refine SL.val (Val.move rfl) rfl rfl ?_
 refine SL.val (Val.cutLo (s := 3) (q := i) tabOk Tryz.underlying28 rfl rfl rfl (by repeat first|assumption|exact m0_|apply m1_) rfl (by omega) (by first | omega | (simp only [List.length_append, List.length_take, List.length_drop, List.length_cons, List.length_nil]; omega))) rfl rfl ?_
 refine SL.nil (SE.seq ?_)
 refine SC.seq (SC.region ?_)
 refine SL.val (Val.move rfl) rfl rfl ?_
 refine SL.val (Val.lenOwn (m := 1) rfl (by repeat first|assumption|exact m0_|apply m1_) Tryz.underlying28 rfl) rfl rfl ?_
 refine SL.val (Val.assign rfl) rfl rfl ?_
 refine SL.nil (SE.seq ?_)
 refine SC.seq ?_
 refine SC.seq (SC.region ?_)
 refine SL.val (Val.move rfl) rfl rfl ?_
 refine SL.val (Val.eqI rfl rfl) rfl rfl ?_
 refine SL.nil (SE.seq ?_)
 refine SC.condP rfl (by intro hc16; exfalso; omega) ?_
 intro hc16
 refine SC.skip ?_
 refine SE.seq ?_
 refine SC.seq (SC.region ?_)
 refine SL.val (Val.move rfl) rfl rfl ?_
 refine SL.val (Val.lenOwn (m := xs.length) rfl (by repeat first|assumption|exact m0_|apply m1_) Tryz.underlying28 rfl) rfl rfl ?_
 refine SL.val (Val.assign rfl) rfl rfl ?_
 refine SL.nil (SE.seq ?_)
 refine SC.seq ?_
 refine SC.seq (SC.region ?_)
 iterate 2 refine SL.val (Val.move rfl) rfl rfl ?_
 refine SL.val (Val.eqI rfl rfl) rfl rfl ?_
 refine SL.nil (SE.seq ?_)
 refine SC.condP rfl ?_ ?_
 ·intro hc22
  refine SC.seq ?_
  refine SC.freeze [] (t := 2) rfl rfl ?_
  refine SC.region ?_
  iterate 2 refine SL.val (Val.move rfl) rfl rfl ?_
  refine SL.eff (Eff.append tabOk [] Tryz.underlying28 rfl rfl rfl rfl rfl rfl (by intro c hc; rw [List.mem_singleton] at hc; subst hc; exact hy) (by unfold maxLen; simp; omega) (by rw [show Tryz.prog.bytesOf 40 = 24 by kernel_rfl]; simp; omega)) rfl rfl ?_
  rintro _ _ ⟨r25, rfl, rfl⟩
  refine SL.val (Val.assign rfl) rfl rfl ?_
  refine SL.nil (SE.seq ?_)
  refine SC.ret ?_
  refine SE.then_ nofun ?_
  refine SE.fin (rs := [.tmp 6]) rfl (RV.tmp rfl RV.nil) (r25) (by rw [← ins_all (y := y) (by omega : i = xs.length)]; exact List.Sublist.refl _) (by simp [It.rids]) ?_
  exact rfl
 intro hc22
 have hlt : i < xs.length := by omega
 refine SC.skip ?_
 refine SE.seq ?_
 refine SC.seq ?_
 refine SC.seq (SC.region ?_)
 iterate 2 refine SL.val (Val.move rfl) rfl rfl ?_
 first
  | refine SL.val (Val.addI rfl rfl (by simp only [InR, lo, hi]; omega)) rfl rfl ?_
  | refine SL.val (Val.addW rfl rfl) rfl rfl ?_
 refine SL.val (Val.move rfl) rfl rfl ?_
 refine SL.val (Val.capOwn rfl (by repeat first|assumption|exact m0_|apply m1_) Tryz.underlying28) rfl rfl ?_
 refine SL.val (Val.gtI rfl rfl) rfl rfl ?_
 refine SL.nil (SE.seq ?_)
 refine SC.condP rfl ?_ ?_
 ·intro hc31
  refine SC.seq (SC.region ?_)
  iterate 2 refine SL.val (Val.move rfl) rfl rfl ?_
  refine SL.val (Val.sliceOwnHi (s := 3) (q := i) tabOk Tryz.underlying28 rfl rfl (.inl (by repeat first|assumption|exact m0_|apply m1_)) rfl rfl (by omega)) rfl rfl ?_
  iterate 2 refine SL.val (Val.move rfl) rfl rfl ?_
  first
   | refine SL.val (Val.addI rfl rfl (by simp only [InR, lo, hi]; omega)) rfl rfl ?_
   | refine SL.val (Val.addW rfl rfl) rfl rfl ?_
  refine SL.val (Val.move rfl) rfl rfl ?_
  refine SL.val (Val.to (C := int ((xs.length + 1 - i : Nat) : Int)) (Val.subI rfl rfl (by simp only [InR, lo, hi]; omega)) (congrArg int (by omega))) rfl rfl ?_
  refine SL.eff (Eff.appendZeros (s := 3) (q := i) (m := xs.length + 1 - i) tabOk Tryz.underlying28 Tryz.underlying3 rfl rfl rfl rfl (by repeat first|assumption|exact m0_|apply m1_) rfl rfl (by omega) (by omega) (by omega) (by unfold maxLen; omega) (by rw [show Tryz.prog.bytesOf 40 = 24 by kernel_rfl]; omega)) rfl rfl ?_
  rintro _ _ ⟨r40, js, rfl, hjs, rfl⟩
  refine SL.val (Val.assign rfl) rfl rfl ?_
  refine SL.nil (SE.seq ?_)
  refine SC.seq (SC.region ?_)
  iterate 2 refine SL.val (Val.move rfl) rfl rfl ?_
  refine SL.val (Val.cutLo (s := 3) (q := i) tabOk Tryz.underlying28 rfl rfl rfl (by repeat first|assumption|exact m0_|apply m1_) rfl (by omega) (by first | omega | (simp only [List.length_append, List.length_take, List.length_drop, List.length_cons, List.length_nil]; omega))) rfl rfl ?_
  refine SL.val (Val.move rfl) rfl rfl ?_
  refine SL.eff (Eff.copyRow (s := 3) (q := i) (ys := [y]) (zs := xs.take i ++ y :: js.drop 1) tabOk Tryz.underlying28 rfl rfl rfl (by first | omega | (simp only [List.length_append, List.length_take, List.length_drop, List.length_cons, List.length_nil]; omega)) (Src.ofAll rfl (by repeat first|assumption|exact m0_|apply m1_) (by simp) (by first | omega | (simp only [List.length_append, List.length_take, List.length_drop, List.length_cons, List.length_nil]; omega))) (by first | exact ins_ones h1 _ | (intro c hc; rw [List.mem_singleton] at hc; subst hc; exact hy)) (ins_a hlt hjs) (by repeat first|assumption|exact Upd.here|apply Upd.there)) rfl rfl ?_
  rintro _ _ ⟨rfl, rfl⟩
  refine SL.nil (SE.seq ?_)
  refine SC.seq ?_
  refine SC.draw r40.ownBlock.toList (.q 0 (.q 1 (.q 2 (.q 3 (.q 4 (.q 5 (.q 6 (.q 7 (.e 8 .nil))))))))) (by kernel_rfl) (by kernel_rfl) ?_
  refine SX.hx (by first|(simp[mids,It.mids,ownPc];done)|(intro k hk;simp[mids,It.mids,ownPc] at hk ⊢;grind)) fun hx9 => ?_
  refine SX.val rfl (Val.move rfl) hx9 rfl rfl ?_
  refine SX.val rfl (Val.move rfl) hx9 rfl rfl ?_
  refine SX.val rfl (Val.move rfl) hx9 rfl rfl ?_
  first
   | refine SX.val rfl (Val.addI rfl rfl (by simp only [InR, lo, hi]; omega)) hx9 rfl rfl ?_
   | refine SX.val rfl (Val.addW rfl rfl) hx9 rfl rfl ?_
  refine SX.val rfl (Val.cutLo (s := 3) (q := i + 1) tabOk Tryz.underlying28 rfl rfl rfl (by repeat first|assumption|exact m0_|apply m1_) rfl (by omega) (by first | omega | (simp only [List.length_append, List.length_take, List.length_drop, List.length_cons, List.length_nil]; omega))) hx9 rfl rfl ?_
  refine SX.val rfl (Val.move rfl) hx9 rfl rfl ?_
  refine SX.val rfl (Val.move rfl) hx9 rfl rfl ?_
  refine SX.val rfl (Val.cutLo (s := 3) (q := i) tabOk Tryz.underlying28 rfl rfl rfl (by repeat first|assumption|exact m0_|apply m1_) rfl (by omega) (by first | omega | (simp only [List.length_append, List.length_take, List.length_drop, List.length_cons, List.length_nil]; omega))) hx9 rfl rfl ?_
  refine SX.eff rfl (Eff.copyRow (s := 3) (q := i + 1) (ys := (xs.drop i)) (zs := (xs.take i ++ y :: xs.drop i)) tabOk Tryz.underlying28 rfl rfl rfl (by first | omega | (simp only [List.length_append, List.length_take, List.length_drop, List.length_cons, List.length_nil]; omega)) (Src.ofOwn (xs := xs) (q := i) rfl (by repeat first|assumption|exact m0_|apply m1_) hlt (by first | omega | (simp only [List.length_append, List.length_take, List.length_drop, List.length_cons, List.length_nil]; omega)) (by rw [List.take_of_length_le (Nat.le_refl _)])) (by first | exact ins_ones h1 _ | (intro c hc; rw [List.mem_singleton] at hc; subst hc; exact hy)) (ins_b hlt hjs) (by repeat first|assumption|exact Upd.here|apply Upd.there)) (by simp) rfl rfl ?_
  rintro _ _ ⟨rfl, rfl⟩
  refine SX.nil (SE.seq ?_)
  refine SC.seq (SC.region ?_)
  refine SL.val (Val.move rfl) rfl rfl ?_
  refine SL.val (Val.assign rfl) rfl rfl ?_
  refine SL.nil (SE.seq ?_)
  refine SC.ret ?_
  refine SE.then_ nofun ?_
  refine SE.fin (rs := [.tmp 6]) rfl (RV.tmp rfl RV.nil) (r40) (by repeat first|exact s0_ _|exact s1_ _|apply s2_|apply s3_) (by simp [It.rids]) ?_
  exact rfl
 intro hc31
 refine SC.skip ?_
 refine SE.seq ?_
 refine SC.seq (SC.region ?_)
 iterate 3 refine SL.val (Val.move rfl) rfl rfl ?_
 first
  | refine SL.val (Val.addI rfl rfl (by simp only [InR, lo, hi]; omega)) rfl rfl ?_
  | refine SL.val (Val.addW rfl rfl) rfl rfl ?_
 refine SL.val (Val.cutUp (s := 3) (q := xs.length + 1) tabOk Tryz.underlying28 rfl rfl (by repeat first|assumption|exact m0_|apply m1_) rfl (by omega) (by omega)) rfl rfl ?_
 refine SL.val (Val.assign rfl) rfl rfl ?_
 refine SL.nil (SE.seq ?_)
 refine SC.seq ?_
 refine SC.seq ?_
 refine SC.growOwn (v := v) (xs := xs) (q := xs.length + 1) (by repeat first|assumption|exact m0_|apply m1_) (by omega) (by omega) fun js hjs => ⟨_, (by repeat first|assumption|exact Upd.here|apply Upd.there), ?_⟩
 refine SC.region ?_
 iterate 4 refine SL.val (Val.move rfl) rfl rfl ?_
 first
  | refine SL.val (Val.addI rfl rfl (by simp only [InR, lo, hi]; omega)) rfl rfl ?_
  | refine SL.val (Val.addW rfl rfl) rfl rfl ?_
 refine SL.val (Val.cutLo (s := 3) (q := i + 1) tabOk Tryz.underlying28 rfl rfl rfl (by repeat first|assumption|exact m0_|apply m1_) rfl (by omega) (by first | omega | (simp only [List.length_append, List.length_take, List.length_drop, List.length_cons, List.length_nil]; omega))) rfl rfl ?_
 refine SL.val (Val.overlapsOff (tr := 4) (s := 3) (q := i + 1) (α := [_]) (ys := [y]) Tryz.func149 (by kernel_rfl) (by kernel_rfl) (by kernel_rfl) (by kernel_rfl) tabOk Tryz.underlying28 rfl rfl rfl rfl rfl rfl (by repeat first|assumption|exact m0_|apply m1_) (by simp) (by first | omega | (simp only [List.length_append, List.length_take, List.length_drop, List.length_cons, List.length_nil]; omega))) rfl rfl ?_
 refine SL.val (Val.notF rfl) rfl rfl ?_
 refine SL.nil (SE.seq ?_)
 refine SC.condT rfl ?_
 refine SC.seq ?_
 refine SC.draw (cutTo v (xs.length + 1)).ownBlock.toList (.q 0 (.q 1 (.q 2 (.q 3 (.q 4 (.q 5 (.q 6 (.q 7 (.e 8 .nil))))))))) (by kernel_rfl) (by kernel_rfl) ?_
 refine SX.hx (by first|(simp[mids,It.mids,ownPc];done)|(intro k hk;simp[mids,It.mids,ownPc] at hk ⊢;grind)) fun hx9 => ?_
 refine SX.val rfl (Val.move rfl) hx9 rfl rfl ?_
 refine SX.val rfl (Val.move rfl) hx9 rfl rfl ?_
 refine SX.val rfl (Val.move rfl) hx9 rfl rfl ?_
 first
  | refine SX.val rfl (Val.addI rfl rfl (by simp only [InR, lo, hi]; omega)) hx9 rfl rfl ?_
  | refine SX.val rfl (Val.addW rfl rfl) hx9 rfl rfl ?_
 refine SX.val rfl (Val.cutLo (s := 3) (q := i + 1) tabOk Tryz.underlying28 rfl rfl rfl (by repeat first|assumption|exact m0_|apply m1_) rfl (by omega) (by first | omega | (simp only [List.length_append, List.length_take, List.length_drop, List.length_cons, List.length_nil]; omega))) hx9 rfl rfl ?_
 refine SX.val rfl (Val.move rfl) hx9 rfl rfl ?_
 refine SX.val rfl (Val.move rfl) hx9 rfl rfl ?_
 refine SX.val rfl (Val.cutLo (s := 3) (q := i) tabOk Tryz.underlying28 rfl rfl rfl (by repeat first|assumption|exact m0_|apply m1_) rfl (by omega) (by first | omega | (simp only [List.length_append, List.length_take, List.length_drop, List.length_cons, List.length_nil]; omega))) hx9 rfl rfl ?_
 refine SX.eff rfl (Eff.copyRow (s := 3) (q := i + 1) (ys := (xs.drop i)) (zs := (xs ++ js).take (i + 1) ++ xs.drop i) tabOk Tryz.underlying28 rfl rfl rfl (by first | omega | (simp only [List.length_append, List.length_take, List.length_drop, List.length_cons, List.length_nil]; omega)) (Src.ofOwn (xs := xs ++ js) (q := i) rfl (by repeat first|assumption|exact m0_|apply m1_) (by first | omega | (simp only [List.length_append, List.length_take, List.length_drop, List.length_cons, List.length_nil]; omega)) (by first | omega | (simp only [List.length_append, List.length_take, List.length_drop, List.length_cons, List.length_nil]; omega)) (ins_src hlt)) (by first | exact ins_ones h1 _ | (intro c hc; rw [List.mem_singleton] at hc; subst hc; exact hy)) (ins_c hlt hjs) (by repeat first|assumption|exact Upd.here|apply Upd.there)) (by simp) rfl rfl ?_
 rintro _ _ ⟨rfl, rfl⟩
 refine SX.nil (SE.seq ?_)
 refine SC.seq (SC.region ?_)
 iterate 2 refine SL.val (Val.move rfl) rfl rfl ?_
 refine SL.val (Val.cutLo (s := 3) (q := i) tabOk Tryz.underlying28 rfl rfl rfl (by repeat first|assumption|exact m0_|apply m1_) rfl (by omega) (by first | omega | (simp only [List.length_append, List.length_take, List.length_drop, List.length_cons, List.length_nil]; omega))) rfl rfl ?_
 refine SL.val (Val.move rfl) rfl rfl ?_
 refine SL.eff (Eff.copyRow (s := 3) (q := i) (ys := [y]) (zs := (xs.take i ++ y :: xs.drop i)) tabOk Tryz.underlying28 rfl rfl rfl (by first | omega | (simp only [List.length_append, List.length_take, List.length_drop, List.length_cons, List.length_nil]; omega)) (Src.ofAll rfl (by repeat first|assumption|exact m0_|apply m1_) (by simp) (by rw [ins_len hlt hjs]; simp only [List.length_cons, List.length_nil]; omega)) (by first | exact ins_ones h1 _ | (intro c hc; rw [List.mem_singleton] at hc; subst hc; exact hy)) (ins_d hlt hjs) (by repeat first|assumption|exact Upd.here|apply Upd.there)) rfl rfl ?_
 rintro _ _ ⟨rfl, rfl⟩
 refine SL.nil (SE.seq ?_)
 refine SC.seq (SC.region ?_)
 refine SL.val (Val.move rfl) rfl rfl ?_
 refine SL.val (Val.assign rfl) rfl rfl ?_
 refine SL.nil (SE.seq ?_)
 refine SC.ret ?_
 refine SE.then_ nofun ?_
 refine SE.fin (rs := [.tmp 6]) rfl (RV.tmp rfl RV.nil) ((cutTo v (xs.length + 1))) (by repeat first|exact s0_ _|exact s1_ _|apply s2_|apply s3_) (by simp [It.rids]) ?_
 exact rfl
section
variable {x : Oc} {xs : List Oc} {p q : Nat} {k : Int} {v : Value}
theorem place_oc (hn : xs.length ≤ 1000000) : Spec Tryz.prog 61 [.sl 3 (xs.map Oc.abs), int k, .fn (.func 62) [] []] [] (fun _ : Unit => []) (fun _ => .tup [int ((placeG (eqO k) (gtO k) xs).1 : Nat), boo (placeG (eqO k) (gtO k) xs).2]) := by
 refine spec_of Tryz.func61 rfl Tryz.ntmps61 rfl fun G w => ?_
 refine SC.seq (SC.region ?_)
 refine SL.eff (Eff.box1 rfl rfl) rfl rfl ?_
 rintro _ _ ⟨b4, rfl, rfl⟩
 refine SL.eff (Eff.box1 rfl rfl) rfl rfl ?_
 rintro _ _ ⟨b5, rfl, rfl⟩
 iterate 2 refine SL.val (Val.assign rfl) rfl rfl ?_
 refine SL.nil (SE.seq ?_)
 refine SC.seq ?_
 refine SC.seq (SC.region ?_)
 refine SL.val (Val.move rfl) rfl rfl ?_
 refine SL.val (Val.makeFunc rfl rfl) rfl rfl ?_
 refine SL.call (indexI_oc (xs := xs) (k := 94) (caps := [ptr b5, ptr b4]) (σ := [.rd b5 105 [.fn (.func 62) [] []], .rd b4 3 [int k]]) (p := eqO k) (by kernel_rfl) (by intro x hx; simp only [List.mem_cons, List.not_mem_nil, or_false] at hx; rcases hx with rfl | rfl <;> exact .inl ⟨_, _, _, rfl⟩) (by omega) (fun x _ => pl1_oc)) Casts.refl (by kernel_rfl) rfl rfl rfl ?_
 refine ap_ ?_
 intro z1
 have e1 := z1.2.eq
 refine SL.val (Val.assign rfl) rfl rfl ?_
 refine SL.nil (SE.seq ?_)
 refine SC.seq (SC.region ?_)
 refine SL.val (Val.move rfl) rfl rfl ?_
 refine SL.val (Val.geI rfl rfl) rfl rfl ?_
 refine SL.nil (SE.seq ?_)
 refine SC.condP rfl ?_ ?_
 ·intro hc14
  have ha : xs.any (eqO k) = true := by
   rcases Bool.eq_false_or_eq_true (xs.any (eqO k)) with h | h
   ·exact h
   ·rw [if_neg (by rw [h]; decide)] at e1; omega
  rw [if_pos ha] at e1
  refine SC.seq (SC.region ?_)
  refine SL.val (Val.move rfl) rfl rfl ?_
  iterate 2 refine SL.val (Val.assign rfl) rfl rfl ?_
  refine SL.nil (SE.seq ?_)
  refine SC.ret ?_
  refine SE.then_ nofun ?_
  refine SE.fin (rs := [.tmp 6, .tmp 7]) rfl (RV.tmp rfl (RV.tmp rfl RV.nil)) (()) (by repeat first|exact s0_ _|exact s1_ _|apply s2_|apply s3_) (by simp [It.rids]) ?_
  have hp : placeG (eqO k) (gtO k) xs = (xs.findIdx (eqO k), true) := if_pos ha
  rw [hp, e1]
  rfl
 intro hc14
 have hn1 : ¬ xs.any (eqO k) = true := fun h => by rw [if_pos h] at e1; omega
 refine SC.skip ?_
 refine SE.seq ?_
 refine SC.seq ?_
 refine SC.seq (SC.region ?_)
 refine SL.val (Val.move rfl) rfl rfl ?_
 refine SL.val (Val.makeFunc rfl rfl) rfl rfl ?_
 refine SL.call (indexI_oc (xs := xs) (k := 95) (caps := [ptr b5, ptr b4]) (σ := [.rd b5 105 [.fn (.func 62) [] []], .rd b4 3 [int k]]) (p := gtO k) (by kernel_rfl) (by intro x hx; simp only [List.mem_cons, List.not_mem_nil, or_false] at hx; rcases hx with rfl | rfl <;> exact .inl ⟨_, _, _, rfl⟩) (by omega) (fun x _ => pl2_oc)) Casts.refl (by kernel_rfl) rfl rfl rfl ?_
 refine ap_ ?_
 intro z2
 have e2 := z2.2.eq
 refine SL.val (Val.assign rfl) rfl rfl ?_
 refine SL.nil (SE.seq ?_)
 refine SC.seq (SC.region ?_)
 refine SL.val (Val.move rfl) rfl rfl ?_
 refine SL.val (Val.geI rfl rfl) rfl rfl ?_
 refine SL.nil (SE.seq ?_)
 refine SC.condP rfl ?_ ?_
 ·intro hc20
  refine SC.seq (SC.region ?_)
  refine SL.val (Val.move rfl) rfl rfl ?_
  iterate 2 refine SL.val (Val.assign rfl) rfl rfl ?_
  refine SL.nil (SE.seq ?_)
  refine SC.ret ?_
  refine SE.then_ nofun ?_
  refine SE.fin (rs := [.tmp 6, .tmp 7]) rfl (RV.tmp rfl (RV.tmp rfl RV.nil)) (()) (by repeat first|exact s0_ _|exact s1_ _|apply s2_|apply s3_) (by simp [It.rids]) ?_
  have hp : placeG (eqO k) (gtO k) xs = (xs.findIdx (gtO k), false) := if_neg hn1
  rw [hp]
  rcases Bool.eq_false_or_eq_true (xs.any (gtO k)) with h | h
  ·rw [if_pos h] at e2
   first
    | (rw [e2]; rfl)
    | (exfalso; omega)
  ·rw [if_neg (by rw [h]; decide)] at e2
   first
    | (exfalso; omega)
    | (rw [show xs.findIdx (gtO k) = xs.length from List.findIdx_eq_length.2 (by simpa using h)]; rfl)
 intro hc20
 refine SC.skip ?_
 refine SE.seq ?_
 refine SC.seq (SC.region ?_)
 refine SL.val (Val.move rfl) rfl rfl ?_
 first
  | refine SL.val (Val.lenSl rfl Tryz.underlying28 (List.length_map _)) rfl rfl ?_
  | refine SL.val (Val.lenOwn rfl (by repeat first|assumption|exact m0_|apply m1_) Tryz.underlying28 (List.length_map _)) rfl rfl ?_
  | refine SL.val (Val.lenNil rfl Tryz.underlying28) rfl rfl ?_
 iterate 2 refine SL.val (Val.assign rfl) rfl rfl ?_
 refine SL.nil (SE.seq ?_)
 refine SC.ret ?_
 refine SE.fin (rs := [.tmp 6, .tmp 7]) rfl (RV.tmp rfl (RV.tmp rfl RV.nil)) (()) (by repeat first|exact s0_ _|exact s1_ _|apply s2_|apply s3_) (by simp [It.rids]) ?_
 have hp : placeG (eqO k) (gtO k) xs = (xs.findIdx (gtO k), false) := if_neg hn1
 rw [hp]
 rcases Bool.eq_false_or_eq_true (xs.any (gtO k)) with h | h
 ·rw [if_pos h] at e2
  first
   | (rw [e2]; rfl)
   | (exfalso; omega)
 ·rw [if_neg (by rw [h]; decide)] at e2
  first
   | (exfalso; omega)
   | (rw [show xs.findIdx (gtO k) = xs.length from List.findIdx_eq_length.2 (by simpa using h)]; rfl)
theorem placeO_oc (hn : xs.length ≤ 1000000) : Spec Tryz.prog 61 [.v v, int k, .fn (.func 62) [] []] [.rdpc (ownPc 40 3 v (xs.map Oc.abs))] (fun _ : Unit => []) (fun _ => .tup [int ((placeG (eqO k) (gtO k) xs).1 : Nat), boo (placeG (eqO k) (gtO k) xs).2]) := by
 refine spec_of Tryz.func61 rfl Tryz.ntmps61 rfl fun G w => ?_
 refine SC.seq (SC.region ?_)
 refine SL.eff (Eff.box1 rfl rfl) rfl rfl ?_
 rintro _ _ ⟨b4, rfl, rfl⟩
 refine SL.eff (Eff.box1 rfl rfl) rfl rfl ?_
 rintro _ _ ⟨b5, rfl, rfl⟩
 iterate 2 refine SL.val (Val.assign rfl) rfl rfl ?_
 refine SL.nil (SE.seq ?_)
 refine SC.seq ?_
 refine SC.seq (SC.region ?_)
 refine SL.val (Val.move rfl) rfl rfl ?_
 refine SL.val (Val.makeFunc rfl rfl) rfl rfl ?_
 refine SL.call (indexO_oc (xs := xs) (k := 94) (caps := [ptr b5, ptr b4]) (σ := [.rd b5 105 [.fn (.func 62) [] []], .rd b4 3 [int k]]) (p := eqO k) (by kernel_rfl) (by intro x hx; simp only [List.mem_cons, List.not_mem_nil, or_false] at hx; rcases hx with rfl | rfl <;> exact .inl ⟨_, _, _, rfl⟩) (by omega) (fun x _ => pl1_oc)) Casts.refl (by kernel_rfl) rfl rfl rfl ?_
 refine ap_ ?_
 intro z1
 have e1 := z1.2.eq
 refine SL.val (Val.assign rfl) rfl rfl ?_
 refine SL.nil (SE.seq ?_)
 refine SC.seq (SC.region ?_)
 refine SL.val (Val.move rfl) rfl rfl ?_
 refine SL.val (Val.geI rfl rfl) rfl rfl ?_
 refine SL.nil (SE.seq ?_)
 refine SC.condP rfl ?_ ?_
 ·intro hc14
  have ha : xs.any (eqO k) = true := by
   rcases Bool.eq_false_or_eq_true (xs.any (eqO k)) with h | h
   ·exact h
   ·rw [if_neg (by rw [h]; decide)] at e1; omega
  rw [if_pos ha] at e1
  refine SC.seq (SC.region ?_)
  refine SL.val (Val.move rfl) rfl rfl ?_
  iterate 2 refine SL.val (Val.assign rfl) rfl rfl ?_
  refine SL.nil (SE.seq ?_)
  refine SC.ret ?_
  refine SE.then_ nofun ?_
  refine SE.fin (rs := [.tmp 6, .tmp 7]) rfl (RV.tmp rfl (RV.tmp rfl RV.nil)) (()) (by repeat first|exact s0_ _|exact s1_ _|apply s2_|apply s3_) (by simp [It.rids]) ?_
  have hp : placeG (eqO k) (gtO k) xs = (xs.findIdx (eqO k), true) := if_pos ha
  rw [hp, e1]
  rfl
 intro hc14
 have hn1 : ¬ xs.any (eqO k) = true := fun h => by rw [if_pos h] at e1; omega
 refine SC.skip ?_
 refine SE.seq ?_
 refine SC.seq ?_
 refine SC.seq (SC.region ?_)
 refine SL.val (Val.move rfl) rfl rfl ?_
 refine SL.val (Val.makeFunc rfl rfl) rfl rfl ?_
 refine SL.call (indexO_oc (xs := xs) (k := 95) (caps := [ptr b5, ptr b4]) (σ := [.rd b5 105 [.fn (.func 62) [] []], .rd b4 3 [int k]]) (p := gtO k) (by kernel_rfl) (by intro x hx; simp only [List.mem_cons, List.not_mem_nil, or_false] at hx; rcases hx with rfl | rfl <;> exact .inl ⟨_, _, _, rfl⟩) (by omega) (fun x _ => pl2_oc)) Casts.refl (by kernel_rfl) rfl rfl rfl ?_
 refine ap_ ?_
 intro z2
 have e2 := z2.2.eq
 refine SL.val (Val.assign rfl) rfl rfl ?_
 refine SL.nil (SE.seq ?_)
 refine SC.seq (SC.region ?_)
 refine SL.val (Val.move rfl) rfl rfl ?_
 refine SL.val (Val.geI rfl rfl) rfl rfl ?_
 refine SL.nil (SE.seq ?_)
 refine SC.condP rfl ?_ ?_
 ·intro hc20
  refine SC.seq (SC.region ?_)
  refine SL.val (Val.move rfl) rfl rfl ?_
  iterate 2 refine SL.val (Val.assign rfl) rfl rfl ?_
  refine SL.nil (SE.seq ?_)
  refine SC.ret ?_
  refine SE.then_ nofun ?_
  refine SE.fin (rs := [.tmp 6, .tmp 7]) rfl (RV.tmp rfl (RV.tmp rfl RV.nil)) (()) (by repeat first|exact s0_ _|exact s1_ _|apply s2_|apply s3_) (by simp [It.rids]) ?_
  have hp : placeG (eqO k) (gtO k) xs = (xs.findIdx (gtO k), false) := if_neg hn1
  rw [hp]
  rcases Bool.eq_false_or_eq_true (xs.any (gtO k)) with h | h
  ·rw [if_pos h] at e2
   first
    | (rw [e2]; rfl)
    | (exfalso; omega)
  ·rw [if_neg (by rw [h]; decide)] at e2
   first
    | (exfalso; omega)
    | (rw [show xs.findIdx (gtO k) = xs.length from List.findIdx_eq_length.2 (by simpa using h)]; rfl)
 intro hc20
 refine SC.skip ?_
 refine SE.seq ?_
 refine SC.seq (SC.region ?_)
 refine SL.val (Val.move rfl) rfl rfl ?_
 refine SL.val (Val.lenOwnR (m := xs.length) rfl (.inr (by repeat first|assumption|exact m0_|apply m1_)) Tryz.underlying28 (List.length_map _)) rfl rfl ?_
 iterate 2 refine SL.val (Val.assign rfl) rfl rfl ?_
 refine SL.nil (SE.seq ?_)
 refine SC.ret ?_
 refine SE.fin (rs := [.tmp 6, .tmp 7]) rfl (RV.tmp rfl (RV.tmp rfl RV.nil)) (()) (by repeat first|exact s0_ _|exact s1_ _|apply s2_|apply s3_) (by simp [It.rids]) ?_
 have hp : placeG (eqO k) (gtO k) xs = (xs.findIdx (gtO k), false) := if_neg hn1
 rw [hp]
 rcases Bool.eq_false_or_eq_true (xs.any (gtO k)) with h | h
 ·rw [if_pos h] at e2
  first
   | (rw [e2]; rfl)
   | (exfalso; omega)
 ·rw [if_neg (by rw [h]; decide)] at e2
  first
   | (exfalso; omega)
   | (rw [show xs.findIdx (gtO k) = xs.length from List.findIdx_eq_length.2 (by simpa using h)]; rfl)
set_option maxHeartbeats 1000000 in
theorem put_oc (hn : xs.length ≤ 100000) : Spec Tryz.prog 106 [.sl 3 (xs.map Oc.abs), .agg (Oc.abs x), .fn (.func 62) [] []] [] (fun _ : Unit => []) (fun _ => .sl 3 ((withG (eqO x.client) (gtO x.client) x xs).map Oc.abs)) := by
 refine spec_of Tryz.func106 rfl Tryz.ntmps106 rfl fun G w => ?_
 refine SC.seq (SC.region ?_)
 refine SL.eff (Eff.boxA (cs := Oc.abs x) rfl) rfl rfl ?_
 rintro _ _ ⟨b4, rfl, rfl⟩
 refine SL.val (Val.assign rfl) rfl rfl ?_
 refine SL.nil (SE.seq ?_)
 refine SC.seq (SC.region ?_)
 refine SL.val (Val.move rfl) rfl rfl ?_
 refine SL.call (cloneO_oc_s (ocs_ones xs) (by rw [List.length_map]; omega)) Casts.refl (by kernel_rfl) rfl rfl rfl ?_
 refine After.make (by repeat (first | exact Reads.nil | (refine Reads.blk ?_ ?_; focus ((repeat first|assumption|exact m0_|apply m1_); done)) | (refine Reads.rd ?_ ?_; focus ((repeat first|assumption|exact m0_|apply m1_); done)) | (refine Reads.pc ?_ ?_; focus ((repeat first|assumption|exact m0_|apply m1_); done)) | (refine Reads.rdpc ?_ ?_; focus ((repeat first|assumption|exact m0_|apply m1_); done)))) (fun _ => rfl) ?_
 intro z5
 refine SL.val (Val.assign rfl) rfl rfl ?_
 refine SL.nil (SE.seq ?_)
 refine SC.seq (SC.region ?_)
 iterate 2 refine SL.val (Val.move rfl) rfl rfl ?_
 refine SL.val (Val.loadA tabOk rfl rfl rfl (by repeat first|assumption|exact o0_|exact o1_|apply o2_) List.not_mem_nil (by rfl)) rfl rfl ?_
 refine SL.callv (key_oc (x := x)) rfl Casts.refl (by kernel_rfl) rfl rfl rfl ?_
 refine ap_ ?_
 intro _
 refine SL.val (Val.move rfl) rfl rfl ?_
 refine SL.call (placeO_oc (v := z5) (xs := xs) (k := x.client) (by omega)) Casts.refl (by kernel_rfl) rfl rfl rfl ?_
 refine ap_ ?_
 intro _
 refine SL.val (Val.move rfl) rfl rfl ?_
 refine SL.val (Val.extract rfl rfl) rfl rfl ?_
 refine SL.val (Val.extract rfl rfl) rfl rfl ?_
 iterate 2 refine SL.val (Val.assign rfl) rfl rfl ?_
 refine SL.nil (SE.seq ?_)
 refine SC.seq ?_
 refine SC.seq (SC.region ?_)
 refine SL.val (Val.move rfl) rfl rfl ?_
 refine SL.nil (SE.seq ?_)
 refine SC.cond rfl ?_ ?_
 rotate_left
 ·intro hc20
  have hn1 : ¬ xs.any (eqO x.client) = true := fun h => by unfold placeG at hc20; rw [if_pos h] at hc20; cases hc20
  have hp : (placeG (eqO x.client) (gtO x.client) xs) = (xs.findIdx (gtO x.client), false) := if_neg hn1
  have hle : (placeG (eqO x.client) (gtO x.client) xs).1 ≤ xs.length := by rw [hp]; exact findIdx_le
  have hw : (withG (eqO x.client) (gtO x.client) x xs) = xs.take (placeG (eqO x.client) (gtO x.client) xs).1 ++ x :: xs.drop (placeG (eqO x.client) (gtO x.client) xs).1 := by
   rw [hp]
   exact (if_neg hn1).trans putG_ins
  refine SC.skip ?_
  refine SE.seq ?_
  refine SC.seq (SC.region ?_)
  iterate 2 refine SL.val (Val.move rfl) rfl rfl ?_
  refine SL.val (Val.loadA tabOk rfl rfl rfl (by repeat first|assumption|exact o0_|exact o1_|apply o2_) List.not_mem_nil (by rfl)) rfl rfl ?_
  refine SL.eff (Eff.buildOwn tabOk Tryz.underlying28 rfl rfl rfl rfl rfl rfl rfl) rfl rfl ?_
  rintro _ _ ⟨r29, rfl, rfl⟩
  refine SL.call (ins_oc (u := r29) (v := z5) (xs := xs.map Oc.abs) (y := Oc.abs x) (i := (placeG (eqO x.client) (gtO x.client) xs).1) (by rw [List.length_map]; exact hle) (ocs_ones xs) rfl (by rw [List.length_map]; omega)) Casts.refl (by kernel_rfl) rfl rfl rfl ?_
  refine After.mid [] (β := [_]) rfl (by intro x hx; simp only [List.mem_cons, List.not_mem_nil, or_false] at hx; rcases hx with rfl | rfl <;> rfl) ?_
  intro z30
  refine SL.freeze [] (t := 30) rfl rfl ?_
  rw [show List.take (placeG (eqO x.client) (gtO x.client) xs).1 (List.map Oc.abs xs) ++ Oc.abs x :: List.drop (placeG (eqO x.client) (gtO x.client) xs).1 (List.map Oc.abs xs) = (withG (eqO x.client) (gtO x.client) x xs).map Oc.abs by rw [hw, List.map_append, List.map_cons, List.map_take, List.map_drop]]
  refine SL.val (Val.assign rfl) rfl rfl ?_
  refine SL.nil (SE.seq ?_)
  refine SC.ret ?_
  refine SE.fin (rs := [.tmp 6]) rfl (RV.tmp rfl RV.nil) (()) (by repeat first|exact s0_ _|exact s1_ _|apply s2_|apply s3_) (by simp [It.rids]) ?_
  exact rfl
 intro hc20
 have ha : xs.any (eqO x.client) = true := by
  rcases Bool.eq_false_or_eq_true (xs.any (eqO x.client)) with h | h
  ·exact h
  ·unfold placeG at hc20; rw [if_neg (by rw [h]; decide)] at hc20; cases hc20
 have hp : (placeG (eqO x.client) (gtO x.client) xs) = (xs.findIdx (eqO x.client), true) := if_pos ha
 have hlt : (placeG (eqO x.client) (gtO x.client) xs).1 < xs.length := by rw [hp]; exact findIdx_in ha
 have hw : (withG (eqO x.client) (gtO x.client) x xs) = xs.set (placeG (eqO x.client) (gtO x.client) xs).1 x := by
  rw [hp]
  exact (if_pos ha).trans (putG_set ha)
 refine SC.seq (SC.region ?_)
 iterate 2 refine SL.val (Val.move rfl) rfl rfl ?_
 refine SL.val (Val.loadA tabOk rfl rfl rfl (by repeat first|assumption|exact o0_|exact o1_|apply o2_) List.not_mem_nil (by rfl)) rfl rfl ?_
 refine SL.val (Val.indexOwn (q := (placeG (eqO x.client) (gtO x.client) xs).1) tabOk Tryz.underlying28 rfl rfl (.inl (by repeat first|assumption|exact m0_|apply m1_)) rfl rfl (by rw [List.length_map]; exact hlt) rfl rfl) rfl rfl ?_
 refine SL.eff (Eff.setOwn (q := (placeG (eqO x.client) (gtO x.client) xs).1) (ys := Oc.abs x) tabOk rfl rfl rfl (by repeat first|assumption|exact Upd.here|apply Upd.there) rfl rfl rfl (by rw [List.length_map]; exact hlt) rfl) rfl rfl ?_
 rintro _ _ ⟨rfl, rfl⟩
 refine SL.nil (SE.seq ?_)
 refine SC.seq ?_
 refine SC.freeze [] (t := 0) rfl rfl ?_
 rw [show List.set (List.map Oc.abs xs) (placeG (eqO x.client) (gtO x.client) xs).1 (Oc.abs x) = (withG (eqO x.client) (gtO x.client) x xs).map Oc.abs by rw [hw, List.map_set]]
 refine SC.region ?_
 refine SL.val (Val.move rfl) rfl rfl ?_
 refine SL.val (Val.assign rfl) rfl rfl ?_
 refine SL.nil (SE.seq ?_)
 refine SC.ret ?_
 refine SE.then_ nofun ?_
 refine SE.fin (rs := [.tmp 6]) rfl (RV.tmp rfl RV.nil) (()) (by repeat first|exact s0_ _|exact s1_ _|apply s2_|apply s3_) (by simp [It.rids]) ?_
 exact rfl
end
section
variable {x : Ltr} {xs : List Ltr} {p q : Nat} {k : ByteArray} {v : Value}
theorem key_ltr  : Spec Tryz.prog 117 [.agg (ltrA x)] [] (fun _ : Unit => []) (fun _ => st x.name) := by
 refine spec_of Tryz.func117 rfl Tryz.ntmps117 rfl fun G w => ?_
 refine SC.seq (SC.region ?_)
 refine SL.eff (Eff.boxA (cs := ltrA x) rfl) rfl rfl ?_
 rintro _ _ ⟨b1, rfl, rfl⟩
 refine SL.val (Val.assign rfl) rfl rfl ?_
 refine SL.nil (SE.seq ?_)
 refine SC.seq (SC.region ?_)
 refine SL.val (Val.fieldAddr tabOk rfl rfl rfl rfl rfl) rfl rfl ?_
 refine SL.val (Val.load1 tabOk rfl rfl (by repeat first|assumption|exact o0_|exact o1_|apply o2_) List.not_mem_nil (by rfl)) rfl rfl ?_
 refine SL.val (Val.assign rfl) rfl rfl ?_
 refine SL.nil (SE.seq ?_)
 refine SC.ret ?_
 refine SE.fin (rs := [.tmp 2]) rfl (RV.tmp rfl RV.nil) (()) (by repeat first|exact s0_ _|exact s1_ _|apply s2_|apply s3_) (by simp [It.rids]) ?_
 exact rfl
theorem pl1_ltr  : Spec Tryz.prog 134 [.agg (ltrA x), ptr p, ptr q] [.rd p 155 [.fn (.func 117) [] []], .rd q 9 [st k]] (fun _ : Unit => []) (fun _ => boo (eqL k x)) := by
 refine spec_of Tryz.func134 rfl Tryz.ntmps134 rfl fun G w => ?_
 refine SC.seq (SC.region ?_)
 refine SL.eff (Eff.boxA (cs := ltrA x) rfl) rfl rfl ?_
 rintro _ _ ⟨b3, rfl, rfl⟩
 refine SL.val (Val.assign rfl) rfl rfl ?_
 refine SL.nil (SE.seq ?_)
 refine SC.seq ?_
 refine SC.draw [] (.q 0 (.q 1 (.q 3 (.e 2 (.q 4 (.q 5 .nil)))))) (by kernel_rfl) (by kernel_rfl) ?_
 refine SX.val rfl (Val.load1 tabOk rfl rfl (by repeat first|assumption|exact o0_|exact o1_|apply o2_) List.not_mem_nil (by rfl)) (by simp) rfl rfl ?_
 refine SX.hx (by first|(simp[mids,It.mids,ownPc];done)|(intro k hk;simp[mids,It.mids,ownPc] at hk ⊢;grind)) fun hx9 => ?_
 refine SX.val rfl (Val.loadA tabOk rfl rfl rfl (by repeat first|assumption|exact o0_|exact o1_|apply o2_) List.not_mem_nil (by rfl)) hx9 rfl rfl ?_
 refine SX.val rfl (Val.load1 tabOk rfl rfl (by repeat first|assumption|exact o0_|exact o1_|apply o2_) List.not_mem_nil (by rfl)) (by simp) rfl rfl ?_
 refine SX.callv rfl (key_ltr (x := x)) (by simp [mids, It.mids]) rfl Casts.refl (by kernel_rfl) rfl rfl rfl ?_
 refine ap_ ?_
 intro _
 refine SX.hx (by first|(simp[mids,It.mids,ownPc];done)|(intro k hk;simp[mids,It.mids,ownPc] at hk ⊢;grind)) fun hx9 => ?_
 refine SX.val rfl (Val.eqS rfl rfl) hx9 rfl rfl ?_
 refine SX.val rfl (Val.assign rfl) (by simp) rfl rfl ?_
 refine SX.nil (SE.seq ?_)
 refine SC.ret ?_
 refine SE.fin (rs := [.tmp 4]) rfl (RV.tmp rfl RV.nil) (()) (by repeat first|exact s0_ _|exact s1_ _|apply s2_|apply s3_) (by simp [It.rids]) ?_
 exact rfl
theorem pl2_ltr  : Spec Tryz.prog 135 [.agg (ltrA x), ptr p, ptr q] [.rd p 155 [.fn (.func 117) [] []], .rd q 9 [st k]] (fun _ : Unit => []) (fun _ => boo (gtL k x)) := by
 refine spec_of Tryz.func135 rfl Tryz.ntmps135 rfl fun G w => ?_
 refine SC.seq (SC.region ?_)
 refine SL.eff (Eff.boxA (cs := ltrA x) rfl) rfl rfl ?_
 rintro _ _ ⟨b3, rfl, rfl⟩
 refine SL.val (Val.assign rfl) rfl rfl ?_
 refine SL.nil (SE.seq ?_)
 refine SC.seq ?_
 refine SC.draw [] (.q 0 (.q 1 (.q 3 (.e 2 (.q 4 (.q 5 .nil)))))) (by kernel_rfl) (by kernel_rfl) ?_
 refine SX.val rfl (Val.load1 tabOk rfl rfl (by repeat first|assumption|exact o0_|exact o1_|apply o2_) List.not_mem_nil (by rfl)) (by simp) rfl rfl ?_
 refine SX.hx (by first|(simp[mids,It.mids,ownPc];done)|(intro k hk;simp[mids,It.mids,ownPc] at hk ⊢;grind)) fun hx9 => ?_
 refine SX.val rfl (Val.loadA tabOk rfl rfl rfl (by repeat first|assumption|exact o0_|exact o1_|apply o2_) List.not_mem_nil (by rfl)) hx9 rfl rfl ?_
 refine SX.val rfl (Val.load1 tabOk rfl rfl (by repeat first|assumption|exact o0_|exact o1_|apply o2_) List.not_mem_nil (by rfl)) (by simp) rfl rfl ?_
 refine SX.callv rfl (key_ltr (x := x)) (by simp [mids, It.mids]) rfl Casts.refl (by kernel_rfl) rfl rfl rfl ?_
 refine ap_ ?_
 intro _
 refine SX.hx (by first|(simp[mids,It.mids,ownPc];done)|(intro k hk;simp[mids,It.mids,ownPc] at hk ⊢;grind)) fun hx9 => ?_
 refine SX.val rfl (Val.gtS rfl rfl) hx9 rfl rfl ?_
 refine SX.val rfl (Val.assign rfl) (by simp) rfl rfl ?_
 refine SX.nil (SE.seq ?_)
 refine SC.ret ?_
 refine SE.fin (rs := [.tmp 4]) rfl (RV.tmp rfl RV.nil) (()) (by repeat first|exact s0_ _|exact s1_ _|apply s2_|apply s3_) (by simp [It.rids]) ?_
 exact rfl
theorem clone_ltr_s {xs : List (List Abs)} (h1 : ∀ c ∈ xs, ones c = true) (hn : xs.length ≤ 1000000) : Spec Tryz.prog 37 [.sl 6 xs] [] (fun _ : Unit => []) (fun _ => .sl 6 xs) := by
 refine spec_of Tryz.func37 rfl Tryz.ntmps37 rfl fun G w => ?_
 refine SC.seq (SC.region ?_)
 refine SL.val (Val.assign rfl) rfl rfl ?_
 refine SL.nil (SE.seq ?_)
 refine SC.seq ?_
 refine SC.seq (SC.region ?_)
 refine SL.val (Val.move rfl) rfl rfl ?_
 refine SL.eqNil Tryz.underlying27 rfl rfl rfl ?_
 intro b hb
 refine SL.nil (SE.seq ?_)
 refine SC.cond rfl ?_ ?_
 ·intro hc4
  have hnil : xs = [] := hb hc4
  subst hnil
  refine SC.seq (SC.region ?_)
  refine SL.val (Val.assign rfl) rfl rfl ?_
  refine SL.nil (SE.seq ?_)
  refine SC.ret ?_
  refine SE.then_ nofun ?_
  refine SE.finC (rs := [.tmp 2]) rfl (RV.tmp rfl RV.nil) (Casts.nils (s := 6) Casts.refl) () (by repeat first|exact s0_ _|exact s1_ _|apply s2_|apply s3_) (by simp [It.rids]) rfl
 intro hc4
 refine SC.skip ?_
 refine SE.seq ?_
 refine SC.seq (SC.region ?_)
 refine SL.eff (Eff.buildOwn tabOk Tryz.underlying27 rfl rfl rfl rfl rfl rfl rfl) rfl rfl ?_
 rintro _ _ ⟨r5, rfl, rfl⟩
 refine SL.val (Val.move rfl) rfl rfl ?_
 refine SL.eff (Eff.appendE (zs := xs) tabOk [] rfl Tryz.underlying27 rfl rfl rfl rfl rfl rfl h1 (by unfold maxLen; simp only [List.length_nil]; omega) (by rw [show Tryz.prog.bytesOf 81 = 72 by kernel_rfl]; simp only [List.length_nil]; omega)) rfl rfl ?_
 rintro _ _ ⟨r7, rfl, rfl⟩
 refine SL.val (Val.assign rfl) rfl rfl ?_
 refine SL.nil (SE.seq ?_)
 refine SC.ret ?_
 refine SE.freeze [] (t := 2) rfl rfl ?_
 refine SE.fin (rs := [.tmp 2]) rfl (RV.tmp rfl RV.nil) (()) (by repeat first|exact s0_ _|exact s1_ _|apply s2_|apply s3_) (by simp [It.rids]) ?_
 exact rfl
theorem cloneO_ltr_s {xs : List (List Abs)} (h1 : ∀ c ∈ xs, ones c = true) (hn : xs.length ≤ 1000000) : Spec Tryz.prog 37 [.sl 6 xs] [] (fun r : Value => [own 81 6 r xs]) (fun r => .v r) := by
 refine spec_of Tryz.func37 rfl Tryz.ntmps37 rfl fun G w => ?_
 refine SC.seq (SC.region ?_)
 refine SL.val (Val.assign rfl) rfl rfl ?_
 refine SL.nil (SE.seq ?_)
 refine SC.seq ?_
 refine SC.seq (SC.region ?_)
 refine SL.val (Val.move rfl) rfl rfl ?_
 refine SL.eqNil Tryz.underlying27 rfl rfl rfl ?_
 intro b hb
 refine SL.nil (SE.seq ?_)
 refine SC.cond rfl ?_ ?_
 ·intro hc4
  have hnil : xs = [] := hb hc4
  subst hnil
  refine SC.seq ?_
  refine SC.own0 81 6 ?_
  refine SC.region ?_
  refine SL.val (Val.assign rfl) rfl rfl ?_
  refine SL.nil (SE.seq ?_)
  refine SC.ret ?_
  refine SE.then_ nofun ?_
  refine SE.fin (rs := [.tmp 2]) rfl (RV.tmp rfl RV.nil) (.slice none 0 0) (by repeat first|exact s0_ _|exact s1_ _|apply s2_|apply s3_) (by simp [It.rids]) ?_
  exact rfl
 intro hc4
 refine SC.skip ?_
 refine SE.seq ?_
 refine SC.seq (SC.region ?_)
 refine SL.eff (Eff.buildOwn tabOk Tryz.underlying27 rfl rfl rfl rfl rfl rfl rfl) rfl rfl ?_
 rintro _ _ ⟨r5, rfl, rfl⟩
 refine SL.val (Val.move rfl) rfl rfl ?_
 refine SL.eff (Eff.appendE (zs := xs) tabOk [] rfl Tryz.underlying27 rfl rfl rfl rfl rfl rfl h1 (by unfold maxLen; simp only [List.length_nil]; omega) (by rw [show Tryz.prog.bytesOf 81 = 72 by kernel_rfl]; simp only [List.length_nil]; omega)) rfl rfl ?_
 rintro _ _ ⟨r7, rfl, rfl⟩
 refine SL.val (Val.assign rfl) rfl rfl ?_
 refine SL.nil (SE.seq ?_)
 refine SC.ret ?_
 refine SE.fin (rs := [.tmp 2]) rfl (RV.tmp rfl RV.nil) (r7) (by repeat first|exact s0_ _|exact s1_ _|apply s2_|apply s3_) (by simp [It.rids]) ?_
 exact rfl
end
theorem indexI_ltr {xs : List Ltr} {p : Ltr → Bool} {k : Nat} {caps : List Abs} {σ : Blks} (hb : goesIn Tryz.prog k = true) (hr : Rds σ) (hn : xs.length < 9223372036854775807) (h : ∀ x ∈ xs, Spec Tryz.prog k (.agg (ltrA x) :: caps) σ (fun _ : Unit => []) (fun _ => boo (p x))) : Spec Tryz.prog 133 [.sl 6 (xs.map ltrA), .fn (.func k) [] caps] σ (fun _ : {r : Int // IdxOf p xs r} => []) (fun z => int z.1) := by
 refine spec_of Tryz.func133 rfl Tryz.ntmps133 rfl fun G w => ?_
 refine SC.seq (SC.region ?_)
 refine SL.val (Val.assign rfl) rfl rfl ?_
 refine SL.nil (SE.seq ?_)
 refine SC.seq ?_
 refine SC.seq (SC.region ?_)
 refine SL.val (Val.move rfl) rfl rfl ?_
 first
  | refine SL.val (Val.lenSl rfl Tryz.underlying27 (List.length_map _)) rfl rfl ?_
  | refine SL.val (Val.lenOwn rfl (by repeat first|assumption|exact m0_|apply m1_) Tryz.underlying27 (List.length_map _)) rfl rfl ?_
  | refine SL.val (Val.lenNil rfl Tryz.underlying27) rfl rfl ?_
 refine SL.val (Val.move rfl) rfl rfl ?_
 refine SL.nil (SE.seq ?_)
 refine SC.block ?_
 refine SC.loop (ι := Nat) (fun z => σ) (fun z => [(0, .sl 6 (xs.map ltrA)), (1, .fn (.func k) [] caps), (7, int (xs.length : Nat)), (8, int (z : Nat))]) (fun z => z ≤ xs.length ∧ ∀ j (hj : j < xs.length), j < z → p xs[j] = false) (fun z => xs.length - z) (0) (⟨Nat.zero_le _, by omega⟩) (by exact ⟨rfl, rfl, rfl, rfl, trivial⟩) (by repeat first|exact s0_ _|exact s1_ _|apply s2_|apply s3_) ?_
 intro z hz
 refine SC.seq (SC.region ?_)
 refine SL.val (Val.ltI rfl rfl) rfl rfl ?_
 refine SL.nil (SE.seq ?_)
 refine SC.seq ?_
 refine SC.condP rfl ?_ ?_
 rotate_left
 ·intro hc9
  refine SC.exit ?_
  refine SE.then_ nofun ?_
  refine SE.then_ nofun ?_
  refine SE.exit ?_
  refine SE.seq ?_
  refine SC.seq (SC.region ?_)
  refine SL.val (Val.assign rfl) rfl rfl ?_
  refine SL.nil (SE.seq ?_)
  refine SC.ret ?_
  refine SE.fin (rs := [.tmp 4]) rfl (RV.tmp rfl RV.nil) (⟨-1, .inl ⟨rfl, fun x hx => by obtain ⟨j, hj, rfl⟩ := List.getElem_of_mem hx; exact hz.2 j hj (by omega)⟩⟩) (by repeat first|exact s0_ _|exact s1_ _|apply s2_|apply s3_) (by simp [It.rids]) ?_
  exact rfl
 intro hc9
 have hlt : z < xs.length := by omega
 refine SC.skip ?_
 refine SE.seq ?_
 refine SC.seq ?_
 refine SC.block ?_
 refine SC.seq (SC.region ?_)
 refine SL.val (Val.move rfl) rfl rfl ?_
 refine SL.val (Val.assign rfl) rfl rfl ?_
 refine SL.nil (SE.seq ?_)
 refine SC.seq (SC.region ?_)
 iterate 3 refine SL.val (Val.move rfl) rfl rfl ?_
 refine SL.val (Val.indexSl tabOk Tryz.underlying27 rfl rfl rfl rfl (at_map (by omega)) rfl rfl) rfl rfl ?_
 refine SL.val (Val.loadAR tabOk rfl rfl rfl (by rfl)) rfl rfl ?_
 refine SL.callv (h _ (List.getElem_mem hlt)) rfl Casts.refl hb rfl rfl rfl ?_
 refine After.pure (Rds.reads hr (fun x hx => by repeat (first | exact hx | apply List.mem_cons_of_mem))) (fun _ => rfl) ?_
 intro _
 refine SL.nil (SE.seq ?_)
 refine SC.cond rfl ?_ ?_
 rotate_left
 ·intro hc16
  refine SC.skip ?_
  refine SE.inBlock ?_
  refine SE.seq ?_
  refine SC.region ?_
  first
   | refine SL.val (Val.addI rfl rfl (by simp only [InR, lo, hi]; omega)) rfl rfl ?_
   | refine SL.val (Val.addW rfl rfl) rfl rfl ?_
  refine SL.val (Val.move rfl) rfl rfl ?_
  refine SL.nil ?_
  refine SE.round (z + 1) (by first | omega | (dsimp only; omega)) (⟨by omega, fun j hj hjz => by rcases Nat.lt_or_ge j z with h1 | h1; exact hz.2 j hj h1; obtain rfl : j = z := (by omega); exact hc16⟩) (by exact ⟨rfl, rfl, rfl, rfl, trivial⟩) (by repeat first|exact s0_ _|exact s1_ _|apply s2_|apply s3_)
 intro hc16
 refine SC.seq (SC.region ?_)
 refine SL.val (Val.move rfl) rfl rfl ?_
 refine SL.val (Val.assign rfl) rfl rfl ?_
 refine SL.nil (SE.seq ?_)
 refine SC.ret ?_
 refine SE.ret ?_
 refine SE.then_ nofun ?_
 refine SE.then_ nofun ?_
 refine SE.ret ?_
 refine SE.then_ nofun ?_
 refine SE.fin (rs := [.tmp 4]) rfl (RV.tmp rfl RV.nil) (⟨(z : Nat), .inr ⟨z, hlt, rfl, hc16, fun j hj => hz.2 j (by omega) hj⟩⟩) (by repeat first|exact s0_ _|exact s1_ _|apply s2_|apply s3_) (by simp [It.rids]) ?_
 exact rfl
theorem indexO_ltr {v : Value} {xs : List Ltr} {p : Ltr → Bool} {k : Nat} {caps : List Abs} {σ : Blks} (hb : goesIn Tryz.prog k = true) (hr : Rds σ) (hn : xs.length < 9223372036854775807) (h : ∀ x ∈ xs, Spec Tryz.prog k (.agg (ltrA x) :: caps) σ (fun _ : Unit => []) (fun _ => boo (p x))) : Spec Tryz.prog 133 [.v v, .fn (.func k) [] caps] (.rdpc (ownPc 81 6 v (xs.map ltrA)) :: σ) (fun _ : {r : Int // IdxOf p xs r} => []) (fun z => int z.1) := by
 refine spec_of Tryz.func133 rfl Tryz.ntmps133 rfl fun G w => ?_
 refine SC.seq (SC.region ?_)
 refine SL.val (Val.assign rfl) rfl rfl ?_
 refine SL.nil (SE.seq ?_)
 refine SC.seq ?_
 refine SC.seq (SC.region ?_)
 refine SL.val (Val.move rfl) rfl rfl ?_
 refine SL.val (Val.lenOwnR (m := xs.length) rfl (.inr (by repeat first|assumption|exact m0_|apply m1_)) Tryz.underlying27 (List.length_map _)) rfl rfl ?_
 refine SL.val (Val.move rfl) rfl rfl ?_
 refine SL.nil (SE.seq ?_)
 refine SC.block ?_
 refine SC.loop (ι := Nat) (fun z => (.rdpc (ownPc 81 6 v (xs.map ltrA)) :: σ)) (fun z => [(0, .v v), (1, .fn (.func k) [] caps), (7, int (xs.length : Nat)), (8, int (z : Nat))]) (fun z => z ≤ xs.length ∧ ∀ j (hj : j < xs.length), j < z → p xs[j] = false) (fun z => xs.length - z) (0) (⟨Nat.zero_le _, by omega⟩) (by exact ⟨rfl, rfl, rfl, rfl, trivial⟩) (by repeat first|exact s0_ _|exact s1_ _|apply s2_|apply s3_) ?_
 intro z hz
 refine SC.seq (SC.region ?_)
 refine SL.val (Val.ltI rfl rfl) rfl rfl ?_
 refine SL.nil (SE.seq ?_)
 refine SC.seq ?_
 refine SC.condP rfl ?_ ?_
 rotate_left
 ·intro hc9
  refine SC.exit ?_
  refine SE.then_ nofun ?_
  refine SE.then_ nofun ?_
  refine SE.exit ?_
  refine SE.seq ?_
  refine SC.seq (SC.region ?_)
  refine SL.val (Val.assign rfl) rfl rfl ?_
  refine SL.nil (SE.seq ?_)
  refine SC.ret ?_
  refine SE.fin (rs := [.tmp 4]) rfl (RV.tmp rfl RV.nil) (⟨-1, .inl ⟨rfl, fun x hx => by obtain ⟨j, hj, rfl⟩ := List.getElem_of_mem hx; exact hz.2 j hj (by omega)⟩⟩) (by repeat first|exact s0_ _|exact s1_ _|apply s2_|apply s3_) (by simp [It.rids]) ?_
  exact rfl
 intro hc9
 have hlt : z < xs.length := by omega
 refine SC.skip ?_
 refine SE.seq ?_
 refine SC.seq ?_
 refine SC.block ?_
 refine SC.seq (SC.region ?_)
 refine SL.val (Val.move rfl) rfl rfl ?_
 refine SL.val (Val.assign rfl) rfl rfl ?_
 refine SL.nil (SE.seq ?_)
 refine SC.seq (SC.region ?_)
 iterate 3 refine SL.val (Val.move rfl) rfl rfl ?_
 refine SL.val (Val.indexOwn (q := z) tabOk Tryz.underlying27 rfl rfl (.inr (by repeat first|assumption|exact m0_|apply m1_)) rfl rfl (by rw [List.length_map]; exact hlt) rfl rfl) rfl rfl ?_
 refine SL.val (Val.loadOwnA tabOk rfl rfl rfl (.inr (by repeat first|assumption|exact m0_|apply m1_)) rfl (at_map hlt) rfl) rfl rfl ?_
 refine SL.callv (h _ (List.getElem_mem hlt)) rfl Casts.refl hb rfl rfl rfl ?_
 refine After.pure (Rds.reads hr (fun x hx => by repeat (first | exact hx | apply List.mem_cons_of_mem))) (fun _ => rfl) ?_
 intro _
 refine SL.nil (SE.seq ?_)
 refine SC.cond rfl ?_ ?_
 rotate_left
 ·intro hc16
  refine SC.skip ?_
  refine SE.inBlock ?_
  refine SE.seq ?_
  refine SC.region ?_
  first
   | refine SL.val (Val.addI rfl rfl (by simp only [InR, lo, hi]; omega)) rfl rfl ?_
   | refine SL.val (Val.addW rfl rfl) rfl rfl ?_
  refine SL.val (Val.move rfl) rfl rfl ?_
  refine SL.nil ?_
  refine SE.round (z + 1) (by first | omega | (dsimp only; omega)) (⟨by omega, fun j hj hjz => by rcases Nat.lt_or_ge j z with h1 | h1; exact hz.2 j hj h1; obtain rfl : j = z := (by omega); exact hc16⟩) (by exact ⟨rfl, rfl, rfl, rfl, trivial⟩) (by repeat first|exact s0_ _|exact s1_ _|apply s2_|apply s3_)
 intro hc16
 refine SC.seq (SC.region ?_)
 refine SL.val (Val.move rfl) rfl rfl ?_
 refine SL.val (Val.assign rfl) rfl rfl ?_
 refine SL.nil (SE.seq ?_)
 refine SC.ret ?_
 refine SE.ret ?_
 refine SE.then_ nofun ?_
 refine SE.then_ nofun ?_
 refine SE.ret ?_
 refine SE.then_ nofun ?_
 refine SE.fin (rs := [.tmp 4]) rfl (RV.tmp rfl RV.nil) (⟨(z : Nat), .inr ⟨z, hlt, rfl, hc16, fun j hj => hz.2 j (by omega) hj⟩⟩) (by repeat first|exact s0_ _|exact s1_ _|apply s2_|apply s3_) (by simp [It.rids]) ?_
 exact rfl
theorem ins_ltr {v u : Value} {xs : List (List Abs)} {y : List Abs} {i : Nat} (hil : i ≤ xs.length) (h1 : ∀ c ∈ xs, ones c = true) (hy : ones y = true) (hn : xs.length ≤ 1000000) : Spec Tryz.prog 148 [.v v, int (i : Nat), .v u] [own 81 6 u [y], own 81 6 v xs] (fun r : Value => [own 81 6 r (xs.take i ++ y :: xs.drop i)]) (fun r => .v r) := by
 refine spec_of Tryz.func148 rfl Tryz.ntmps148 rfl fun G w => ?_
 refine SC.seq (SC.region ?_)
 refine SL.val (Val.assign rfl) rfl rfl ?_
 refine SL.nil (SE.seq ?_)
 refine SC.seq (SC.region ?_)
 iterate 2 refine SL.val (Val.move rfl) rfl rfl ?_
 refine SL.val (Val.cutLo (s := 6) (q := i) tabOk Tryz.underlying27 rfl rfl rfl (by repeat first|assumption|exact m0_|apply m1_) rfl (by omega) (by first | omega | (simp only [List.length_append, List.length_take, List.length_drop, List.length_cons, List.length_nil]; omega))) rfl rfl ?_
 refine SL.nil (SE.seq ?_)
 refine SC.seq (SC.region ?_)
 refine SL.val (Val.move rfl) rfl rfl ?_
 refine SL.val (Val.lenOwn (m := 1) rfl (by repeat first|assumption|exact m0_|apply m1_) Tryz.underlying27 rfl) rfl rfl ?_
 refine SL.val (Val.assign rfl) rfl rfl ?_
 refine SL.nil (SE.seq ?_)
 refine SC.seq ?_
 refine SC.seq (SC.region ?_)
 refine SL.val (Val.move rfl) rfl rfl ?_
 refine SL.val (Val.eqI rfl rfl) rfl rfl ?_
 refine SL.nil (SE.seq ?_)
 refine SC.condP rfl (by intro hc16; exfalso; omega) ?_
 intro hc16
 refine SC.skip ?_
 refine SE.seq ?_
 refine SC.seq (SC.region ?_)
 refine SL.val (Val.move rfl) rfl rfl ?_
 refine SL.val (Val.lenOwn (m := xs.length) rfl (by repeat first|assumption|exact m0_|apply m1_) Tryz.underlying27 rfl) rfl rfl ?_
 refine SL.val (Val.assign rfl) rfl rfl ?_
 refine SL.nil (SE.seq ?_)
 refine SC.seq ?_
 refine SC.seq (SC.region ?_)
 iterate 2 refine SL.val (Val.move rfl) rfl rfl ?_
 refine SL.val (Val.eqI rfl rfl) rfl rfl ?_
 refine SL.nil (SE.seq ?_)
 refine SC.condP rfl ?_ ?_
 ·intro hc22
  refine SC.seq ?_
  refine SC.freeze [] (t := 2) rfl rfl ?_
  refine SC.region ?_
  iterate 2 refine SL.val (Val.move rfl) rfl rfl ?_
  refine SL.eff (Eff.append tabOk [] Tryz.underlying27 rfl rfl rfl rfl rfl rfl (by intro c hc; rw [List.mem_singleton] at hc; subst hc; exact hy) (by unfold maxLen; simp; omega) (by rw [show Tryz.prog.bytesOf 81 = 72 by kernel_rfl]; simp; omega)) rfl rfl ?_
  rintro _ _ ⟨r25, rfl, rfl⟩
  refine SL.val (Val.assign rfl) rfl rfl ?_
  refine SL.nil (SE.seq ?_)
  refine SC.ret ?_
  refine SE.then_ nofun ?_
  refine SE.fin (rs := [.tmp 6]) rfl (RV.tmp rfl RV.nil) (r25) (by rw [← ins_all (y := y) (by omega : i = xs.length)]; exact List.Sublist.refl _) (by simp [It.rids]) ?_
  exact rfl
 intro hc22
 have hlt : i < xs.length := by omega
 refine SC.skip ?_
 refine SE.seq ?_
 refine SC.seq ?_
 refine SC.seq (SC.region ?_)
 iterate 2 refine SL.val (Val.move rfl) rfl rfl ?_
 first
  | refine SL.val (Val.addI rfl rfl (by simp only [InR, lo, hi]; omega)) rfl rfl ?_
  | refine SL.val (Val.addW rfl rfl) rfl rfl ?_
 refine SL.val (Val.move rfl) rfl rfl ?_
 refine SL.val (Val.capOwn rfl (by repeat first|assumption|exact m0_|apply m1_) Tryz.underlying27) rfl rfl ?_
 refine SL.val (Val.gtI rfl rfl) rfl rfl ?_
 refine SL.nil (SE.seq ?_)
 refine SC.condP rfl ?_ ?_
 ·intro hc31
  refine SC.seq (SC.region ?_)
  iterate 2 refine SL.val (Val.move rfl) rfl rfl ?_
  refine SL.val (Val.sliceOwnHi (s := 6) (q := i) tabOk Tryz.underlying27 rfl rfl (.inl (by repeat first|assumption|exact m0_|apply m1_)) rfl rfl (by omega)) rfl rfl ?_
  iterate 2 refine SL.val (Val.move rfl) rfl rfl ?_
  first
   | refine SL.val (Val.addI rfl rfl (by simp only [InR, lo, hi]; omega)) rfl rfl ?_
   | refine SL.val (Val.addW rfl rfl) rfl rfl ?_
  refine SL.val (Val.move rfl) rfl rfl ?_
  refine SL.val (Val.to (C := int ((xs.length + 1 - i : Nat) : Int)) (Val.subI rfl rfl (by simp only [InR, lo, hi]; omega)) (congrArg int (by omega))) rfl rfl ?_
  refine SL.eff (Eff.appendZeros (s := 6) (q := i) (m := xs.length + 1 - i) tabOk Tryz.underlying27 Tryz.underlying3 rfl rfl rfl rfl (by repeat first|assumption|exact m0_|apply m1_) rfl rfl (by omega) (by omega) (by omega) (by unfold maxLen; omega) (by rw [show Tryz.prog.bytesOf 81 = 72 by kernel_rfl]; omega)) rfl rfl ?_
  rintro _ _ ⟨r40, js, rfl, hjs, rfl⟩
  refine SL.val (Val.assign rfl) rfl rfl ?_
  refine SL.nil (SE.seq ?_)
  refine SC.seq (SC.region ?_)
  iterate 2 refine SL.val (Val.move rfl) rfl rfl ?_
  refine SL.val (Val.cutLo (s := 6) (q := i) tabOk Tryz.underlying27 rfl rfl rfl (by repeat first|assumption|exact m0_|apply m1_) rfl (by omega) (by first | omega | (simp only [List.length_append, List.length_take, List.length_drop, List.length_cons, List.length_nil]; omega))) rfl rfl ?_
  refine SL.val (Val.move rfl) rfl rfl ?_
  refine SL.eff (Eff.copyRow (s := 6) (q := i) (ys := [y]) (zs := xs.take i ++ y :: js.drop 1) tabOk Tryz.underlying27 rfl rfl rfl (by first | omega | (simp only [List.length_append, List.length_take, List.length_drop, List.length_cons, List.length_nil]; omega)) (Src.ofAll rfl (by repeat first|assumption|exact m0_|apply m1_) (by simp) (by first | omega | (simp only [List.length_append, List.length_take, List.length_drop, List.length_cons, List.length_nil]; omega))) (by first | exact ins_ones h1 _ | (intro c hc; rw [List.mem_singleton] at hc; subst hc; exact hy)) (ins_a hlt hjs) (by repeat first|assumption|exact Upd.here|apply Upd.there)) rfl rfl ?_
  rintro _ _ ⟨rfl, rfl⟩
  refine SL.nil (SE.seq ?_)
  refine SC.seq ?_
  refine SC.draw r40.ownBlock.toList (.q 0 (.q 1 (.q 2 (.q 3 (.q 4 (.q 5 (.q 6 (.q 7 (.e 8 .nil))))))))) (by kernel_rfl) (by kernel_rfl) ?_
  refine SX.hx (by first|(simp[mids,It.mids,ownPc];done)|(intro k hk;simp[mids,It.mids,ownPc] at hk ⊢;grind)) fun hx9 => ?_
  refine SX.val rfl (Val.move rfl) hx9 rfl rfl ?_
  refine SX.val rfl (Val.move rfl) hx9 rfl rfl ?_
  refine SX.val rfl (Val.move rfl) hx9 rfl rfl ?_
  first
   | refine SX.val rfl (Val.addI rfl rfl (by simp only [InR, lo, hi]; omega)) hx9 rfl rfl ?_
   | refine SX.val rfl (Val.addW rfl rfl) hx9 rfl rfl ?_
  refine SX.val rfl (Val.cutLo (s := 6) (q := i + 1) tabOk Tryz.underlying27 rfl rfl rfl (by repeat first|assumption|exact m0_|apply m1_) rfl (by omega) (by first | omega | (simp only [List.length_append, List.length_take, List.length_drop, List.length_cons, List.length_nil]; omega))) hx9 rfl rfl ?_
  refine SX.val rfl (Val.move rfl) hx9 rfl rfl ?_
  refine SX.val rfl (Val.move rfl) hx9 rfl rfl ?_
  refine SX.val rfl (Val.cutLo (s := 6) (q := i) tabOk Tryz.underlying27 rfl rfl rfl (by repeat first|assumption|exact m0_|apply m1_) rfl (by omega) (by first | omega | (simp only [List.length_append, List.length_take, List.length_drop, List.length_cons, List.length_nil]; omega))) hx9 rfl rfl ?_
  refine SX.eff rfl (Eff.copyRow (s := 6) (q := i + 1) (ys := (xs.drop i)) (zs := (xs.take i ++ y :: xs.drop i)) tabOk Tryz.underlying27 rfl rfl rfl (by first | omega | (simp only [List.length_append, List.length_take, List.length_drop, List.length_cons, List.length_nil]; omega)) (Src.ofOwn (xs := xs) (q := i) rfl (by repeat first|assumption|exact m0_|apply m1_) hlt (by first | omega | (simp only [List.length_append, List.length_take, List.length_drop, List.length_cons, List.length_nil]; omega)) (by rw [List.take_of_length_le (Nat.le_refl _)])) (by first | exact ins_ones h1 _ | (intro c hc; rw [List.mem_singleton] at hc; subst hc; exact hy)) (ins_b hlt hjs) (by repeat first|assumption|exact Upd.here|apply Upd.there)) (by simp) rfl rfl ?_
  rintro _ _ ⟨rfl, rfl⟩
  refine SX.nil (SE.seq ?_)
  refine SC.seq (SC.region ?_)
  refine SL.val (Val.move rfl) rfl rfl ?_
  refine SL.val (Val.assign rfl) rfl rfl ?_
  refine SL.nil (SE.seq ?_)
  refine SC.ret ?_
  refine SE.then_ nofun ?_
  refine SE.fin (rs := [.tmp 6]) rfl (RV.tmp rfl RV.nil) (r40) (by repeat first|exact s0_ _|exact s1_ _|apply s2_|apply s3_) (by simp [It.rids]) ?_
  exact rfl
 intro hc31
 refine SC.skip ?_
 refine SE.seq ?_
 refine SC.seq (SC.region ?_)
 iterate 3 refine SL.val (Val.move rfl) rfl rfl ?_
 first
  | refine SL.val (Val.addI rfl rfl (by simp only [InR, lo, hi]; omega)) rfl rfl ?_
  | refine SL.val (Val.addW rfl rfl) rfl rfl ?_
 refine SL.val (Val.cutUp (s := 6) (q := xs.length + 1) tabOk Tryz.underlying27 rfl rfl (by repeat first|assumption|exact m0_|apply m1_) rfl (by omega) (by omega)) rfl rfl ?_
 refine SL.val (Val.assign rfl) rfl rfl ?_
 refine SL.nil (SE.seq ?_)
 refine SC.seq ?_
 refine SC.seq ?_
 refine SC.growOwn (v := v) (xs := xs) (q := xs.length + 1) (by repeat first|assumption|exact m0_|apply m1_) (by omega) (by omega) fun js hjs => ⟨_, (by repeat first|assumption|exact Upd.here|apply Upd.there), ?_⟩
 refine SC.region ?_
 iterate 4 refine SL.val (Val.move rfl) rfl rfl ?_
 first
  | refine SL.val (Val.addI rfl rfl (by simp only [InR, lo, hi]; omega)) rfl rfl ?_
  | refine SL.val (Val.addW rfl rfl) rfl rfl ?_
 refine SL.val (Val.cutLo (s := 6) (q := i + 1) tabOk Tryz.underlying27 rfl rfl rfl (by repeat first|assumption|exact m0_|apply m1_) rfl (by omega) (by first | omega | (simp only [List.length_append, List.length_take, List.length_drop, List.length_cons, List.length_nil]; omega))) rfl rfl ?_
 refine SL.val (Val.overlapsOff (tr := 4) (s := 6) (q := i + 1) (α := [_]) (ys := [y]) Tryz.func162 (by kernel_rfl) (by kernel_rfl) (by kernel_rfl) (by kernel_rfl) tabOk Tryz.underlying27 rfl rfl rfl rfl rfl rfl (by repeat first|assumption|exact m0_|apply m1_) (by simp) (by first | omega | (simp only [List.length_append, List.length_take, List.length_drop, List.length_cons, List.length_nil]; omega))) rfl rfl ?_
 refine SL.val (Val.notF rfl) rfl rfl ?_
 refine SL.nil (SE.seq ?_)
 refine SC.condT rfl ?_
 refine SC.seq ?_
 refine SC.draw (cutTo v (xs.length + 1)).ownBlock.toList (.q 0 (.q 1 (.q 2 (.q 3 (.q 4 (.q 5 (.q 6 (.q 7 (.e 8 .nil))))))))) (by kernel_rfl) (by kernel_rfl) ?_
 refine SX.hx (by first|(simp[mids,It.mids,ownPc];done)|(intro k hk;simp[mids,It.mids,ownPc] at hk ⊢;grind)) fun hx9 => ?_
 refine SX.val rfl (Val.move rfl) hx9 rfl rfl ?_
 refine SX.val rfl (Val.move rfl) hx9 rfl rfl ?_
 refine SX.val rfl (Val.move rfl) hx9 rfl rfl ?_
 first
  | refine SX.val rfl (Val.addI rfl rfl (by simp only [InR, lo, hi]; omega)) hx9 rfl rfl ?_
  | refine SX.val rfl (Val.addW rfl rfl) hx9 rfl rfl ?_
 refine SX.val rfl (Val.cutLo (s := 6) (q := i + 1) tabOk Tryz.underlying27 rfl rfl rfl (by repeat first|assumption|exact m0_|apply m1_) rfl (by omega) (by first | omega | (simp only [List.length_append, List.length_take, List.length_drop, List.length_cons, List.length_nil]; omega))) hx9 rfl rfl ?_
 refine SX.val rfl (Val.move rfl) hx9 rfl rfl ?_
 refine SX.val rfl (Val.move rfl) hx9 rfl rfl ?_
 refine SX.val rfl (Val.cutLo (s := 6) (q := i) tabOk Tryz.underlying27 rfl rfl rfl (by repeat first|assumption|exact m0_|apply m1_) rfl (by omega) (by first | omega | (simp only [List.length_append, List.length_take, List.length_drop, List.length_cons, List.length_nil]; omega))) hx9 rfl rfl ?_
 refine SX.eff rfl (Eff.copyRow (s := 6) (q := i + 1) (ys := (xs.drop i)) (zs := (xs ++ js).take (i + 1) ++ xs.drop i) tabOk Tryz.underlying27 rfl rfl rfl (by first | omega | (simp only [List.length_append, List.length_take, List.length_drop, List.length_cons, List.length_nil]; omega)) (Src.ofOwn (xs := xs ++ js) (q := i) rfl (by repeat first|assumption|exact m0_|apply m1_) (by first | omega | (simp only [List.length_append, List.length_take, List.length_drop, List.length_cons, List.length_nil]; omega)) (by first | omega | (simp only [List.length_append, List.length_take, List.length_drop, List.length_cons, List.length_nil]; omega)) (ins_src hlt)) (by first | exact ins_ones h1 _ | (intro c hc; rw [List.mem_singleton] at hc; subst hc; exact hy)) (ins_c hlt hjs) (by repeat first|assumption|exact Upd.here|apply Upd.there)) (by simp) rfl rfl ?_
 rintro _ _ ⟨rfl, rfl⟩
 refine SX.nil (SE.seq ?_)
 refine SC.seq (SC.region ?_)
 iterate 2 refine SL.val (Val.move rfl) rfl rfl ?_
 refine SL.val (Val.cutLo (s := 6) (q := i) tabOk Tryz.underlying27 rfl rfl rfl (by repeat first|assumption|exact m0_|apply m1_) rfl (by omega) (by first | omega | (simp only [List.length_append, List.length_take, List.length_drop, List.length_cons, List.length_nil]; omega))) rfl rfl ?_
 refine SL.val (Val.move rfl) rfl rfl ?_
 refine SL.eff (Eff.copyRow (s := 6) (q := i) (ys := [y]) (zs := (xs.take i ++ y :: xs.drop i)) tabOk Tryz.underlying27 rfl rfl rfl (by first | omega | (simp only [List.length_append, List.length_take, List.length_drop, List.length_cons, List.length_nil]; omega)) (Src.ofAll rfl (by repeat first|assumption|exact m0_|apply m1_) (by simp) (by rw [ins_len hlt hjs]; simp only [List.length_cons, List.length_nil]; omega)) (by first | exact ins_ones h1 _ | (intro c hc; rw [List.mem_singleton] at hc; subst hc; exact hy)) (ins_d hlt hjs) (by repeat first|assumption|exact Upd.here|apply Upd.there)) rfl rfl ?_
 rintro _ _ ⟨rfl, rfl⟩
 refine SL.nil (SE.seq ?_)
 refine SC.seq (SC.region ?_)
 refine SL.val (Val.move rfl) rfl rfl ?_
 refine SL.val (Val.assign rfl) rfl rfl ?_
 refine SL.nil (SE.seq ?_)
 refine SC.ret ?_
 refine SE.then_ nofun ?_
 refine SE.fin (rs := [.tmp 6]) rfl (RV.tmp rfl RV.nil) ((cutTo v (xs.length + 1))) (by repeat first|exact s0_ _|exact s1_ _|apply s2_|apply s3_) (by simp [It.rids]) ?_
 exact rfl
section
variable {x : Ltr} {xs : List Ltr} {p q : Nat} {k : ByteArray} {v : Value}
theorem place_ltr (hn : xs.length ≤ 1000000) : Spec Tryz.prog 116 [.sl 6 (xs.map ltrA), st k, .fn (.func 117) [] []] [] (fun _ : Unit => []) (fun _ => .tup [int ((placeG (eqL k) (gtL k) xs).1 : Nat), boo (placeG (eqL k) (gtL k) xs).2]) := by
 refine spec_of Tryz.func116 rfl Tryz.ntmps116 rfl fun G w => ?_
 refine SC.seq (SC.region ?_)
 refine SL.eff (Eff.box1 rfl rfl) rfl rfl ?_
 rintro _ _ ⟨b4, rfl, rfl⟩
 refine SL.eff (Eff.box1 rfl rfl) rfl rfl ?_
 rintro _ _ ⟨b5, rfl, rfl⟩
 iterate 2 refine SL.val (Val.assign rfl) rfl rfl ?_
 refine SL.nil (SE.seq ?_)
 refine SC.seq ?_
 refine SC.seq (SC.region ?_)
 refine SL.val (Val.move rfl) rfl rfl ?_
 refine SL.val (Val.makeFunc rfl rfl) rfl rfl ?_
 refine SL.call (indexI_ltr (xs := xs) (k := 134) (caps := [ptr b5, ptr b4]) (σ := [.rd b5 155 [.fn (.func 117) [] []], .rd b4 9 [st k]]) (p := eqL k) (by kernel_rfl) (by intro x hx; simp only [List.mem_cons, List.not_mem_nil, or_false] at hx; rcases hx with rfl | rfl <;> exact .inl ⟨_, _, _, rfl⟩) (by omega) (fun x _ => pl1_ltr)) Casts.refl (by kernel_rfl) rfl rfl rfl ?_
 refine ap_ ?_
 intro z1
 have e1 := z1.2.eq
 refine SL.val (Val.assign rfl) rfl rfl ?_
 refine SL.nil (SE.seq ?_)
 refine SC.seq (SC.region ?_)
 refine SL.val (Val.move rfl) rfl rfl ?_
 refine SL.val (Val.geI rfl rfl) rfl rfl ?_
 refine SL.nil (SE.seq ?_)
 refine SC.condP rfl ?_ ?_
 ·intro hc14
  have ha : xs.any (eqL k) = true := by
   rcases Bool.eq_false_or_eq_true (xs.any (eqL k)) with h | h
   ·exact h
   ·rw [if_neg (by rw [h]; decide)] at e1; omega
  rw [if_pos ha] at e1
  refine SC.seq (SC.region ?_)
  refine SL.val (Val.move rfl) rfl rfl ?_
  iterate 2 refine SL.val (Val.assign rfl) rfl rfl ?_
  refine SL.nil (SE.seq ?_)
  refine SC.ret ?_
  refine SE.then_ nofun ?_
  refine SE.fin (rs := [.tmp 6, .tmp 7]) rfl (RV.tmp rfl (RV.tmp rfl RV.nil)) (()) (by repeat first|exact s0_ _|exact s1_ _|apply s2_|apply s3_) (by simp [It.rids]) ?_
  have hp : placeG (eqL k) (gtL k) xs = (xs.findIdx (eqL k), true) := if_pos ha
  rw [hp, e1]
  rfl
 intro hc14
 have hn1 : ¬ xs.any (eqL k) = true := fun h => by rw [if_pos h] at e1; omega
 refine SC.skip ?_
 refine SE.seq ?_
 refine SC.seq ?_
 refine SC.seq (SC.region ?_)
 refine SL.val (Val.move rfl) rfl rfl ?_
 refine SL.val (Val.makeFunc rfl rfl) rfl rfl ?_
 refine SL.call (indexI_ltr (xs := xs) (k := 135) (caps := [ptr b5, ptr b4]) (σ := [.rd b5 155 [.fn (.func 117) [] []], .rd b4 9 [st k]]) (p := gtL k) (by kernel_rfl) (by intro x hx; simp only [List.mem_cons, List.not_mem_nil, or_false] at hx; rcases hx with rfl | rfl <;> exact .inl ⟨_, _, _, rfl⟩) (by omega) (fun x _ => pl2_ltr)) Casts.refl (by kernel_rfl) rfl rfl rfl ?_
 refine ap_ ?_
 intro z2
 have e2 := z2.2.eq
 refine SL.val (Val.assign rfl) rfl rfl ?_
 refine SL.nil (SE.seq ?_)
 refine SC.seq (SC.region ?_)
 refine SL.val (Val.move rfl) rfl rfl ?_
 refine SL.val (Val.geI rfl rfl) rfl rfl ?_
 refine SL.nil (SE.seq ?_)
 refine SC.condP rfl ?_ ?_
 ·intro hc20
  refine SC.seq (SC.region ?_)
  refine SL.val (Val.move rfl) rfl rfl ?_
  iterate 2 refine SL.val (Val.assign rfl) rfl rfl ?_
  refine SL.nil (SE.seq ?_)
  refine SC.ret ?_
  refine SE.then_ nofun ?_
  refine SE.fin (rs := [.tmp 6, .tmp 7]) rfl (RV.tmp rfl (RV.tmp rfl RV.nil)) (()) (by repeat first|exact s0_ _|exact s1_ _|apply s2_|apply s3_) (by simp [It.rids]) ?_
  have hp : placeG (eqL k) (gtL k) xs = (xs.findIdx (gtL k), false) := if_neg hn1
  rw [hp]
  rcases Bool.eq_false_or_eq_true (xs.any (gtL k)) with h | h
  ·rw [if_pos h] at e2
   first
    | (rw [e2]; rfl)
    | (exfalso; omega)
  ·rw [if_neg (by rw [h]; decide)] at e2
   first
    | (exfalso; omega)
    | (rw [show xs.findIdx (gtL k) = xs.length from List.findIdx_eq_length.2 (by simpa using h)]; rfl)
 intro hc20
 refine SC.skip ?_
 refine SE.seq ?_
 refine SC.seq (SC.region ?_)
 refine SL.val (Val.move rfl) rfl rfl ?_
 first
  | refine SL.val (Val.lenSl rfl Tryz.underlying27 (List.length_map _)) rfl rfl ?_
  | refine SL.val (Val.lenOwn rfl (by repeat first|assumption|exact m0_|apply m1_) Tryz.underlying27 (List.length_map _)) rfl rfl ?_
  | refine SL.val (Val.lenNil rfl Tryz.underlying27) rfl rfl ?_
 iterate 2 refine SL.val (Val.assign rfl) rfl rfl ?_
 refine SL.nil (SE.seq ?_)
 refine SC.ret ?_
 refine SE.fin (rs := [.tmp 6, .tmp 7]) rfl (RV.tmp rfl (RV.tmp rfl RV.nil)) (()) (by repeat first|exact s0_ _|exact s1_ _|apply s2_|apply s3_) (by simp [It.rids]) ?_
 have hp : placeG (eqL k) (gtL k) xs = (xs.findIdx (gtL k), false) := if_neg hn1
 rw [hp]
 rcases Bool.eq_false_or_eq_true (xs.any (gtL k)) with h | h
 ·rw [if_pos h] at e2
  first
   | (rw [e2]; rfl)
   | (exfalso; omega)
 ·rw [if_neg (by rw [h]; decide)] at e2
  first
   | (exfalso; omega)
   | (rw [show xs.findIdx (gtL k) = xs.length from List.findIdx_eq_length.2 (by simpa using h)]; rfl)
theorem placeO_ltr (hn : xs.length ≤ 1000000) : Spec Tryz.prog 116 [.v v, st k, .fn (.func 117) [] []] [.rdpc (ownPc 81 6 v (xs.map ltrA))] (fun _ : Unit => []) (fun _ => .tup [int ((placeG (eqL k) (gtL k) xs).1 : Nat), boo (placeG (eqL k) (gtL k) xs).2]) := by
 refine spec_of Tryz.func116 rfl Tryz.ntmps116 rfl fun G w => ?_
 refine SC.seq (SC.region ?_)
 refine SL.eff (Eff.box1 rfl rfl) rfl rfl ?_
 rintro _ _ ⟨b4, rfl, rfl⟩
 refine SL.eff (Eff.box1 rfl rfl) rfl rfl ?_
 rintro _ _ ⟨b5, rfl, rfl⟩
 iterate 2 refine SL.val (Val.assign rfl) rfl rfl ?_
 refine SL.nil (SE.seq ?_)
 refine SC.seq ?_
 refine SC.seq (SC.region ?_)
 refine SL.val (Val.move rfl) rfl rfl ?_
 refine SL.val (Val.makeFunc rfl rfl) rfl rfl ?_
 refine SL.call (indexO_ltr (xs := xs) (k := 134) (caps := [ptr b5, ptr b4]) (σ := [.rd b5 155 [.fn (.func 117) [] []], .rd b4 9 [st k]]) (p := eqL k) (by kernel_rfl) (by intro x hx; simp only [List.mem_cons, List.not_mem_nil, or_false] at hx; rcases hx with rfl | rfl <;> exact .inl ⟨_, _, _, rfl⟩) (by omega) (fun x _ => pl1_ltr)) Casts.refl (by kernel_rfl) rfl rfl rfl ?_
 refine ap_ ?_
 intro z1
 have e1 := z1.2.eq
 refine SL.val (Val.assign rfl) rfl rfl ?_
 refine SL.nil (SE.seq ?_)
 refine SC.seq (SC.region ?_)
 refine SL.val (Val.move rfl) rfl rfl ?_
 refine SL.val (Val.geI rfl rfl) rfl rfl ?_
 refine SL.nil (SE.seq ?_)
 refine SC.condP rfl ?_ ?_
 ·intro hc14
  have ha : xs.any (eqL k) = true := by
   rcases Bool.eq_false_or_eq_true (xs.any (eqL k)) with h | h
   ·exact h
   ·rw [if_neg (by rw [h]; decide)] at e1; omega
  rw [if_pos ha] at e1
  refine SC.seq (SC.region ?_)
  refine SL.val (Val.move rfl) rfl rfl ?_
  iterate 2 refine SL.val (Val.assign rfl) rfl rfl ?_
  refine SL.nil (SE.seq ?_)
  refine SC.ret ?_
  refine SE.then_ nofun ?_
  refine SE.fin (rs := [.tmp 6, .tmp 7]) rfl (RV.tmp rfl (RV.tmp rfl RV.nil)) (()) (by repeat first|exact s0_ _|exact s1_ _|apply s2_|apply s3_) (by simp [It.rids]) ?_
  have hp : placeG (eqL k) (gtL k) xs = (xs.findIdx (eqL k), true) := if_pos ha
  rw [hp, e1]
  rfl
 intro hc14
 have hn1 : ¬ xs.any (eqL k) = true := fun h => by rw [if_pos h] at e1; omega
 refine SC.skip ?_
 refine SE.seq ?_
 refine SC.seq ?_
 refine SC.seq (SC.region ?_)
 refine SL.val (Val.move rfl) rfl rfl ?_
 refine SL.val (Val.makeFunc rfl rfl) rfl rfl ?_
 refine SL.call (indexO_ltr (xs := xs) (k := 135) (caps := [ptr b5, ptr b4]) (σ := [.rd b5 155 [.fn (.func 117) [] []], .rd b4 9 [st k]]) (p := gtL k) (by kernel_rfl) (by intro x hx; simp only [List.mem_cons, List.not_mem_nil, or_false] at hx; rcases hx with rfl | rfl <;> exact .inl ⟨_, _, _, rfl⟩) (by omega) (fun x _ => pl2_ltr)) Casts.refl (by kernel_rfl) rfl rfl rfl ?_
 refine ap_ ?_
 intro z2
 have e2 := z2.2.eq
 refine SL.val (Val.assign rfl) rfl rfl ?_
 refine SL.nil (SE.seq ?_)
 refine SC.seq (SC.region ?_)
 refine SL.val (Val.move rfl) rfl rfl ?_
 refine SL.val (Val.geI rfl rfl) rfl rfl ?_
 refine SL.nil (SE.seq ?_)
 refine SC.condP rfl ?_ ?_
 ·intro hc20
  refine SC.seq (SC.region ?_)
  refine SL.val (Val.move rfl) rfl rfl ?_
  iterate 2 refine SL.val (Val.assign rfl) rfl rfl ?_
  refine SL.nil (SE.seq ?_)
  refine SC.ret ?_
  refine SE.then_ nofun ?_
  refine SE.fin (rs := [.tmp 6, .tmp 7]) rfl (RV.tmp rfl (RV.tmp rfl RV.nil)) (()) (by repeat first|exact s0_ _|exact s1_ _|apply s2_|apply s3_) (by simp [It.rids]) ?_
  have hp : placeG (eqL k) (gtL k) xs = (xs.findIdx (gtL k), false) := if_neg hn1
  rw [hp]
  rcases Bool.eq_false_or_eq_true (xs.any (gtL k)) with h | h
  ·rw [if_pos h] at e2
   first
    | (rw [e2]; rfl)
    | (exfalso; omega)
  ·rw [if_neg (by rw [h]; decide)] at e2
   first
    | (exfalso; omega)
    | (rw [show xs.findIdx (gtL k) = xs.length from List.findIdx_eq_length.2 (by simpa using h)]; rfl)
 intro hc20
 refine SC.skip ?_
 refine SE.seq ?_
 refine SC.seq (SC.region ?_)
 refine SL.val (Val.move rfl) rfl rfl ?_
 refine SL.val (Val.lenOwnR (m := xs.length) rfl (.inr (by repeat first|assumption|exact m0_|apply m1_)) Tryz.underlying27 (List.length_map _)) rfl rfl ?_
 iterate 2 refine SL.val (Val.assign rfl) rfl rfl ?_
 refine SL.nil (SE.seq ?_)
 refine SC.ret ?_
 refine SE.fin (rs := [.tmp 6, .tmp 7]) rfl (RV.tmp rfl (RV.tmp rfl RV.nil)) (()) (by repeat first|exact s0_ _|exact s1_ _|apply s2_|apply s3_) (by simp [It.rids]) ?_
 have hp : placeG (eqL k) (gtL k) xs = (xs.findIdx (gtL k), false) := if_neg hn1
 rw [hp]
 rcases Bool.eq_false_or_eq_true (xs.any (gtL k)) with h | h
 ·rw [if_pos h] at e2
  first
   | (rw [e2]; rfl)
   | (exfalso; omega)
 ·rw [if_neg (by rw [h]; decide)] at e2
  first
   | (exfalso; omega)
   | (rw [show xs.findIdx (gtL k) = xs.length from List.findIdx_eq_length.2 (by simpa using h)]; rfl)
set_option maxHeartbeats 1000000 in
theorem put_ltr (hn : xs.length ≤ 100000) : Spec Tryz.prog 124 [.sl 6 (xs.map ltrA), .agg (ltrA x), .fn (.func 117) [] []] [] (fun _ : Unit => []) (fun _ => .sl 6 ((withG (eqL x.name) (gtL x.name) x xs).map ltrA)) := by
 refine spec_of Tryz.func124 rfl Tryz.ntmps124 rfl fun G w => ?_
 refine SC.seq (SC.region ?_)
 refine SL.eff (Eff.boxA (cs := ltrA x) rfl) rfl rfl ?_
 rintro _ _ ⟨b4, rfl, rfl⟩
 refine SL.val (Val.assign rfl) rfl rfl ?_
 refine SL.nil (SE.seq ?_)
 refine SC.seq (SC.region ?_)
 refine SL.val (Val.move rfl) rfl rfl ?_
 refine SL.call (cloneO_ltr_s (ltrs_ones xs) (by rw [List.length_map]; omega)) Casts.refl (by kernel_rfl) rfl rfl rfl ?_
 refine After.make (by repeat (first | exact Reads.nil | (refine Reads.blk ?_ ?_; focus ((repeat first|assumption|exact m0_|apply m1_); done)) | (refine Reads.rd ?_ ?_; focus ((repeat first|assumption|exact m0_|apply m1_); done)) | (refine Reads.pc ?_ ?_; focus ((repeat first|assumption|exact m0_|apply m1_); done)) | (refine Reads.rdpc ?_ ?_; focus ((repeat first|assumption|exact m0_|apply m1_); done)))) (fun _ => rfl) ?_
 intro z5
 refine SL.val (Val.assign rfl) rfl rfl ?_
 refine SL.nil (SE.seq ?_)
 refine SC.seq (SC.region ?_)
 iterate 2 refine SL.val (Val.move rfl) rfl rfl ?_
 refine SL.val (Val.loadA tabOk rfl rfl rfl (by repeat first|assumption|exact o0_|exact o1_|apply o2_) List.not_mem_nil (by rfl)) rfl rfl ?_
 refine SL.callv (key_ltr (x := x)) rfl Casts.refl (by kernel_rfl) rfl rfl rfl ?_
 refine ap_ ?_
 intro _
 refine SL.val (Val.move rfl) rfl rfl ?_
 refine SL.call (placeO_ltr (v := z5) (xs := xs) (k := x.name) (by omega)) Casts.refl (by kernel_rfl) rfl rfl rfl ?_
 refine ap_ ?_
 intro _
 refine SL.val (Val.move rfl) rfl rfl ?_
 refine SL.val (Val.extract rfl rfl) rfl rfl ?_
 refine SL.val (Val.extract rfl rfl) rfl rfl ?_
 iterate 2 refine SL.val (Val.assign rfl) rfl rfl ?_
 refine SL.nil (SE.seq ?_)
 refine SC.seq ?_
 refine SC.seq (SC.region ?_)
 refine SL.val (Val.move rfl) rfl rfl ?_
 refine SL.nil (SE.seq ?_)
 refine SC.cond rfl ?_ ?_
 rotate_left
 ·intro hc20
  have hn1 : ¬ xs.any (eqL x.name) = true := fun h => by unfold placeG at hc20; rw [if_pos h] at hc20; cases hc20
  have hp : (placeG (eqL x.name) (gtL x.name) xs) = (xs.findIdx (gtL x.name), false) := if_neg hn1
  have hle : (placeG (eqL x.name) (gtL x.name) xs).1 ≤ xs.length := by rw [hp]; exact findIdx_le
  have hw : (withG (eqL x.name) (gtL x.name) x xs) = xs.take (placeG (eqL x.name) (gtL x.name) xs).1 ++ x :: xs.drop (placeG (eqL x.name) (gtL x.name) xs).1 := by
   rw [hp]
   exact (if_neg hn1).trans putG_ins
  refine SC.skip ?_
  refine SE.seq ?_
  refine SC.seq (SC.region ?_)
  iterate 2 refine SL.val (Val.move rfl) rfl rfl ?_
  refine SL.val (Val.loadA tabOk rfl rfl rfl (by repeat first|assumption|exact o0_|exact o1_|apply o2_) List.not_mem_nil (by rfl)) rfl rfl ?_
  refine SL.eff (Eff.buildOwn tabOk Tryz.underlying27 rfl rfl rfl rfl rfl rfl rfl) rfl rfl ?_
  rintro _ _ ⟨r29, rfl, rfl⟩
  refine SL.call (ins_ltr (u := r29) (v := z5) (xs := xs.map ltrA) (y := ltrA x) (i := (placeG (eqL x.name) (gtL x.name) xs).1) (by rw [List.length_map]; exact hle) (ltrs_ones xs) rfl (by rw [List.length_map]; omega)) Casts.refl (by kernel_rfl) rfl rfl rfl ?_
  refine After.mid [] (β := [_]) rfl (by intro x hx; simp only [List.mem_cons, List.not_mem_nil, or_false] at hx; rcases hx with rfl | rfl <;> rfl) ?_
  intro z30
  refine SL.freeze [] (t := 30) rfl rfl ?_
  rw [show List.take (placeG (eqL x.name) (gtL x.name) xs).1 (List.map ltrA xs) ++ ltrA x :: List.drop (placeG (eqL x.name) (gtL x.name) xs).1 (List.map ltrA xs) = (withG (eqL x.name) (gtL x.name) x xs).map ltrA by rw [hw, List.map_append, List.map_cons, List.map_take, List.map_drop]]
  refine SL.val (Val.assign rfl) rfl rfl ?_
  refine SL.nil (SE.seq ?_)
  refine SC.ret ?_
  refine SE.fin (rs := [.tmp 6]) rfl (RV.tmp rfl RV.nil) (()) (by repeat first|exact s0_ _|exact s1_ _|apply s2_|apply s3_) (by simp [It.rids]) ?_
  exact rfl
 intro hc20
 have ha : xs.any (eqL x.name) = true := by
  rcases Bool.eq_false_or_eq_true (xs.any (eqL x.name)) with h | h
  ·exact h
  ·unfold placeG at hc20; rw [if_neg (by rw [h]; decide)] at hc20; cases hc20
 have hp : (placeG (eqL x.name) (gtL x.name) xs) = (xs.findIdx (eqL x.name), true) := if_pos ha
 have hlt : (placeG (eqL x.name) (gtL x.name) xs).1 < xs.length := by rw [hp]; exact findIdx_in ha
 have hw : (withG (eqL x.name) (gtL x.name) x xs) = xs.set (placeG (eqL x.name) (gtL x.name) xs).1 x := by
  rw [hp]
  exact (if_pos ha).trans (putG_set ha)
 refine SC.seq (SC.region ?_)
 iterate 2 refine SL.val (Val.move rfl) rfl rfl ?_
 refine SL.val (Val.loadA tabOk rfl rfl rfl (by repeat first|assumption|exact o0_|exact o1_|apply o2_) List.not_mem_nil (by rfl)) rfl rfl ?_
 refine SL.val (Val.indexOwn (q := (placeG (eqL x.name) (gtL x.name) xs).1) tabOk Tryz.underlying27 rfl rfl (.inl (by repeat first|assumption|exact m0_|apply m1_)) rfl rfl (by rw [List.length_map]; exact hlt) rfl rfl) rfl rfl ?_
 refine SL.eff (Eff.setOwn (q := (placeG (eqL x.name) (gtL x.name) xs).1) (ys := ltrA x) tabOk rfl rfl rfl (by repeat first|assumption|exact Upd.here|apply Upd.there) rfl rfl rfl (by rw [List.length_map]; exact hlt) rfl) rfl rfl ?_
 rintro _ _ ⟨rfl, rfl⟩
 refine SL.nil (SE.seq ?_)
 refine SC.seq ?_
 refine SC.freeze [] (t := 0) rfl rfl ?_
 rw [show List.set (List.map ltrA xs) (placeG (eqL x.name) (gtL x.name) xs).1 (ltrA x) = (withG (eqL x.name) (gtL x.name) x xs).map ltrA by rw [hw, List.map_set]]
 refine SC.region ?_
 refine SL.val (Val.move rfl) rfl rfl ?_
 refine SL.val (Val.assign rfl) rfl rfl ?_
 refine SL.nil (SE.seq ?_)
 refine SC.ret ?_
 refine SE.then_ nofun ?_
 refine SE.fin (rs := [.tmp 6]) rfl (RV.tmp rfl RV.nil) (()) (by repeat first|exact s0_ _|exact s1_ _|apply s2_|apply s3_) (by simp [It.rids]) ?_
 exact rfl
end
end Go.Proofs.YtickdhjljpnlpaaGreatDoor.A
/-
  Ledgers: what is found, and put in.
-/
namespace Go.Proofs.YtickdhjljpnlpaaGreatDoor.A
open Go.RowKit

def Oc.zero : Oc := ⟨0, 0, 0⟩
theorem place_find {α : Type} {eq gt : α → Bool} {xs : List α} (h : (placeG eq gt xs).2 = true) : ∃ h2 : (placeG eq gt xs).1 < xs.length, xs.find? eq = some (xs[(placeG eq gt xs).1]'h2) := by
  have ha : xs.any eq = true := by
    unfold placeG at h
    split at h
    · assumption
    · cases h
  have hp : placeG eq gt xs = (xs.findIdx eq, true) := if_pos ha
  refine ⟨by rw [hp]; exact findIdx_in ha, ?_⟩
  rw [find_at ha]
  simp only [hp]
theorem place_none {α : Type} {eq gt : α → Bool} {xs : List α} (h : ¬ (placeG eq gt xs).2 = true) : xs.find? eq = none := by
  refine find_none fun ha => h ?_
  unfold placeG
  rw [if_pos ha]
/-- Lists that are not too long. -/
structure Lg.Few (l : Lg) : Prop where
  ls : l.ls.length ≤ 1000
  os : l.os.length ≤ 1000
section
variable {l : Lg} {x : Ltr} {o : Oc} {k n : Int} {s : ByteArray} {c : Core} {e : Ent} {p : Nat}
theorem lcopied_s (hf : l.Few) : Spec Tryz.prog 105 [.agg l.abs] [] (fun _ : Unit => []) (fun _ => .agg l.abs) := by
 have hf1 := hf.ls
 have hf2 := hf.os
 refine spec_of Tryz.func105 rfl Tryz.ntmps105 rfl fun G w => ?_
 refine SC.seq (SC.region ?_)
 refine SL.eff (Eff.boxA (cs := l.abs) rfl) rfl rfl ?_
 rintro _ _ ⟨b1, rfl, rfl⟩
 refine SL.eff (Eff.alloc tabOk rfl) rfl rfl ?_
 rintro _ _ ⟨b2, rfl, rfl⟩
 refine SL.nil (SE.seq ?_)
 refine SC.seq ?_
 refine SC.drawS 7 [] (.q 0 (.q 1 (.q 3 (.q 4 (.e 2 (.q 6 (.e 5 .nil))))))) (.e 7 (.q 8 (.e 9 .nil))) (by kernel_rfl) (by kernel_rfl) ?_
 refine SX.val rfl (Val.fieldAddr tabOk rfl rfl rfl rfl rfl) (by simp) rfl rfl ?_
 refine SX.hx (by first|(simp[mids,It.mids,ownPc];done)|(intro k hk;simp[mids,It.mids,ownPc] at hk ⊢;grind)) fun hx9 => ?_
 refine SX.val rfl (Val.to (C := ltrsA l.ls) (Val.load1 tabOk rfl rfl (by repeat first|assumption|exact o0_|exact o1_|apply o2_) List.not_mem_nil (by rfl)) rfl) hx9 rfl rfl ?_
 refine SX.val rfl (Val.fieldAddr tabOk rfl rfl rfl rfl rfl) (by simp) rfl rfl ?_
 refine SX.val rfl (Val.to (C := .sl 3 (l.os.map Oc.abs)) (Val.load1 tabOk rfl rfl (by repeat first|assumption|exact o0_|exact o1_|apply o2_) List.not_mem_nil (by rfl)) rfl) hx9 rfl rfl ?_
 refine SX.call rfl (clone_ltr_s (ltrs_ones l.ls) (by rw [List.length_map]; omega)) (by simp [mids, It.mids]) Casts.refl (by kernel_rfl) rfl rfl rfl ?_
 refine ap_ ?_
 intro _
 refine SX.val rfl (Val.fieldAddr tabOk rfl rfl rfl rfl rfl) (by simp) rfl rfl ?_
 refine SX.call rfl (clone_oc_s (ocs_ones l.os) (by rw [List.length_map]; omega)) (by simp [mids, It.mids]) Casts.refl (by kernel_rfl) rfl rfl rfl ?_
 refine ap_ ?_
 intro _
 refine SX.nil ?_
 refine SE.rest [b1] ?_
 refine SX.eff rfl (Eff.store (L' := l.abs) tabOk rfl rfl rfl (by repeat first|assumption|exact Upd.here|apply Upd.there) rfl (lb_ (by rfl)) rfl (by rfl)) (by simp) rfl rfl ?_
 rintro _ _ ⟨rfl, rfl⟩
 refine SX.hx (by first|(simp[mids,It.mids,ownPc];done)|(intro k hk;simp[mids,It.mids,ownPc] at hk ⊢;grind)) fun hx9 => ?_
 refine SX.val rfl (Val.fieldAddr tabOk rfl rfl rfl rfl rfl) hx9 rfl rfl ?_
 refine SX.eff rfl (Eff.store (L' := l.abs) tabOk rfl rfl rfl (by repeat first|assumption|exact Upd.here|apply Upd.there) rfl (lb_ (by rfl)) rfl (by rfl)) (by simp) rfl rfl ?_
 rintro _ _ ⟨rfl, rfl⟩
 refine SX.nil (SE.seq ?_)
 refine SC.seq (SC.region ?_)
 first
  | refine SL.val (Val.loadA tabOk rfl rfl rfl (by repeat first|assumption|exact o0_|exact o1_|apply o2_) List.not_mem_nil (by rfl)) rfl rfl ?_
  | refine SL.val (Val.loadP tabOk rfl rfl rfl (by repeat first|assumption|exact o0_|exact o1_|apply o2_) List.not_mem_nil (lb_ (by rfl))) rfl rfl ?_
 refine SL.eff (Eff.store (L' := l.abs) tabOk rfl rfl rfl (by repeat first|assumption|exact Upd.here|apply Upd.there) rfl (lb_ (by rfl)) rfl (by exact putL_whole rfl)) rfl rfl ?_
 rintro _ _ ⟨rfl, rfl⟩
 refine SL.nil (SE.seq ?_)
 refine SC.ret ?_
 refine SE.fin (rs := [.cell 2 30]) rfl (RV.cell rfl (RV.cellA tabOk rfl rfl (by repeat first|assumption|exact o0_|exact o1_|apply o2_) (by rfl)) RV.nil) (()) (by repeat first|exact s0_ _|exact s1_ _|apply s2_|apply s3_) (by simp [It.rids]) ?_
 exact rfl
theorem llast_s (hf : l.Few) : Spec Tryz.prog 39 [.agg l.abs, int k] [] (fun _ : Unit => []) (fun _ => .tup [.agg (Oc.abs ((l.last k).getD Oc.zero)), boo (l.last k).isSome]) := by
 have hf1 := hf.ls
 have hf2 := hf.os
 refine spec_of Tryz.func39 rfl Tryz.ntmps39 rfl fun G w => ?_
 refine SC.seq (SC.region ?_)
 refine SL.eff (Eff.boxA (cs := l.abs) rfl) rfl rfl ?_
 rintro _ _ ⟨b2, rfl, rfl⟩
 refine SL.eff (Eff.alloc tabOk rfl) rfl rfl ?_
 rintro _ _ ⟨b4, rfl, rfl⟩
 refine SL.val (Val.assign rfl) rfl rfl ?_
 refine SL.nil (SE.seq ?_)
 refine SC.seq (SC.region ?_)
 refine SL.val (Val.fieldAddr tabOk rfl rfl rfl rfl rfl) rfl rfl ?_
 refine SL.val (Val.to (C := .sl 3 (l.os.map Oc.abs)) (Val.load1 tabOk rfl rfl (by repeat first|assumption|exact o0_|exact o1_|apply o2_) List.not_mem_nil (by rfl)) rfl) rfl rfl ?_
 refine SL.val (Val.move rfl) rfl rfl ?_
 refine SL.call (place_oc (xs := l.os) (k := k) (by omega)) Casts.refl (by kernel_rfl) rfl rfl rfl ?_
 refine ap_ ?_
 intro _
 refine SL.val (Val.move rfl) rfl rfl ?_
 refine SL.val (Val.extract rfl rfl) rfl rfl ?_
 refine SL.val (Val.extract rfl rfl) rfl rfl ?_
 iterate 2 refine SL.val (Val.assign rfl) rfl rfl ?_
 refine SL.nil (SE.seq ?_)
 refine SC.seq ?_
 refine SC.seq (SC.region ?_)
 refine SL.val (Val.move rfl) rfl rfl ?_
 refine SL.val (Val.notB rfl) rfl rfl ?_
 refine SL.nil (SE.seq ?_)
 refine SC.cond rfl ?_ ?_
 ·intro hc16
  have hnp : ¬ (placeG (eqO k) (gtO k) l.os).2 = true := by simpa using hc16
  have hfn := place_none hnp
  refine SC.seq (SC.region ?_)
  refine SL.val (Val.buildS tabOk rfl rfl rfl rfl) rfl rfl ?_
  refine SL.eff (Eff.store (L' := Oc.abs Oc.zero) tabOk rfl rfl rfl (by repeat first|assumption|exact Upd.here|apply Upd.there) rfl (lb_ (by rfl)) rfl (by exact putL_whole rfl)) rfl rfl ?_
  rintro _ _ ⟨rfl, rfl⟩
  refine SL.val (Val.assign rfl) rfl rfl ?_
  refine SL.nil (SE.seq ?_)
  refine SC.ret ?_
  refine SE.then_ nofun ?_
  refine SE.fin (rs := [.cell 4 40, .tmp 5]) rfl (RV.cell rfl (RV.cellA tabOk rfl rfl (by repeat first|assumption|exact o0_|exact o1_|apply o2_) (by rfl)) (RV.tmp rfl RV.nil)) (()) (by repeat first|exact s0_ _|exact s1_ _|apply s2_|apply s3_) (by simp [It.rids]) ?_
  unfold Lg.last
  rw [hfn]
  rfl
 intro hc16
 obtain ⟨hlt, hfs⟩ := place_find (show (placeG (eqO k) (gtO k) l.os).2 = true by simpa using hc16)
 refine SC.skip ?_
 refine SE.seq ?_
 refine SC.seq (SC.region ?_)
 refine SL.val (Val.fieldAddr tabOk rfl rfl rfl rfl rfl) rfl rfl ?_
 refine SL.val (Val.to (C := .sl 3 (l.os.map Oc.abs)) (Val.load1 tabOk rfl rfl (by repeat first|assumption|exact o0_|exact o1_|apply o2_) List.not_mem_nil (by rfl)) rfl) rfl rfl ?_
 refine SL.val (Val.move rfl) rfl rfl ?_
 refine SL.val (Val.indexSl (q := (placeG (eqO k) (gtO k) l.os).1) tabOk Tryz.underlying28 rfl rfl rfl rfl (at_map hlt) rfl rfl) rfl rfl ?_
 refine SL.val (Val.loadAR tabOk rfl rfl rfl (by rfl)) rfl rfl ?_
 refine SL.eff (Eff.store (L' := Oc.abs (l.os[(placeG (eqO k) (gtO k) l.os).1]'hlt)) tabOk rfl rfl rfl (by repeat first|assumption|exact Upd.here|apply Upd.there) rfl (lb_ (by rfl)) rfl (by exact putL_whole rfl)) rfl rfl ?_
 rintro _ _ ⟨rfl, rfl⟩
 refine SL.val (Val.assign rfl) rfl rfl ?_
 refine SL.nil (SE.seq ?_)
 refine SC.ret ?_
 refine SE.fin (rs := [.cell 4 40, .tmp 5]) rfl (RV.cell rfl (RV.cellA tabOk rfl rfl (by repeat first|assumption|exact o0_|exact o1_|apply o2_) (by rfl)) (RV.tmp rfl RV.nil)) (()) (by repeat first|exact s0_ _|exact s1_ _|apply s2_|apply s3_) (by simp [It.rids]) ?_
 unfold Lg.last
 rw [hfs]
 rfl
theorem lfind_s (hf : l.Few) : Spec Tryz.prog 99 [.agg l.abs, st s] [] (fun _ : Unit => []) (fun _ => .tup [.agg (ltrA ((l.find s).getD Ltr.none)), boo (l.find s).isSome]) := by
 have hf1 := hf.ls
 have hf2 := hf.os
 refine spec_of Tryz.func99 rfl Tryz.ntmps99 rfl fun G w => ?_
 refine SC.seq (SC.region ?_)
 refine SL.eff (Eff.boxA (cs := l.abs) rfl) rfl rfl ?_
 rintro _ _ ⟨b2, rfl, rfl⟩
 refine SL.eff (Eff.alloc tabOk rfl) rfl rfl ?_
 rintro _ _ ⟨b4, rfl, rfl⟩
 refine SL.val (Val.assign rfl) rfl rfl ?_
 refine SL.nil (SE.seq ?_)
 refine SC.seq (SC.region ?_)
 refine SL.val (Val.fieldAddr tabOk rfl rfl rfl rfl rfl) rfl rfl ?_
 refine SL.val (Val.to (C := .sl 6 (l.ls.map ltrA)) (Val.load1 tabOk rfl rfl (by repeat first|assumption|exact o0_|exact o1_|apply o2_) List.not_mem_nil (by rfl)) rfl) rfl rfl ?_
 refine SL.val (Val.move rfl) rfl rfl ?_
 refine SL.call (place_ltr (xs := l.ls) (k := s) (by omega)) Casts.refl (by kernel_rfl) rfl rfl rfl ?_
 refine ap_ ?_
 intro _
 refine SL.val (Val.move rfl) rfl rfl ?_
 refine SL.val (Val.extract rfl rfl) rfl rfl ?_
 refine SL.val (Val.extract rfl rfl) rfl rfl ?_
 iterate 2 refine SL.val (Val.assign rfl) rfl rfl ?_
 refine SL.nil (SE.seq ?_)
 refine SC.seq ?_
 refine SC.seq (SC.region ?_)
 refine SL.val (Val.move rfl) rfl rfl ?_
 refine SL.val (Val.notB rfl) rfl rfl ?_
 refine SL.nil (SE.seq ?_)
 refine SC.cond rfl ?_ ?_
 ·intro hc16
  have hnp : ¬ (placeG (eqL s) (gtL s) l.ls).2 = true := by simpa using hc16
  have hfn := place_none hnp
  refine SC.seq (SC.region ?_)
  refine SL.val (Val.buildS tabOk rfl rfl rfl rfl) rfl rfl ?_
  refine SL.eff (Eff.store (L' := ltrA Ltr.none) tabOk rfl rfl rfl (by repeat first|assumption|exact Upd.here|apply Upd.there) rfl (lb_ (by rfl)) rfl (by exact putL_whole rfl)) rfl rfl ?_
  rintro _ _ ⟨rfl, rfl⟩
  refine SL.val (Val.assign rfl) rfl rfl ?_
  refine SL.nil (SE.seq ?_)
  refine SC.ret ?_
  refine SE.then_ nofun ?_
  refine SE.fin (rs := [.cell 4 81, .tmp 5]) rfl (RV.cell rfl (RV.cellA tabOk rfl rfl (by repeat first|assumption|exact o0_|exact o1_|apply o2_) (by rfl)) (RV.tmp rfl RV.nil)) (()) (by repeat first|exact s0_ _|exact s1_ _|apply s2_|apply s3_) (by simp [It.rids]) ?_
  unfold Lg.find
  rw [hfn]
  rfl
 intro hc16
 obtain ⟨hlt, hfs⟩ := place_find (show (placeG (eqL s) (gtL s) l.ls).2 = true by simpa using hc16)
 refine SC.skip ?_
 refine SE.seq ?_
 refine SC.seq (SC.region ?_)
 refine SL.val (Val.fieldAddr tabOk rfl rfl rfl rfl rfl) rfl rfl ?_
 refine SL.val (Val.to (C := .sl 6 (l.ls.map ltrA)) (Val.load1 tabOk rfl rfl (by repeat first|assumption|exact o0_|exact o1_|apply o2_) List.not_mem_nil (by rfl)) rfl) rfl rfl ?_
 refine SL.val (Val.move rfl) rfl rfl ?_
 refine SL.val (Val.indexSl (q := (placeG (eqL s) (gtL s) l.ls).1) tabOk Tryz.underlying27 rfl rfl rfl rfl (at_map hlt) rfl rfl) rfl rfl ?_
 refine SL.val (Val.loadAR tabOk rfl rfl rfl (by rfl)) rfl rfl ?_
 refine SL.eff (Eff.store (L' := ltrA (l.ls[(placeG (eqL s) (gtL s) l.ls).1]'hlt)) tabOk rfl rfl rfl (by repeat first|assumption|exact Upd.here|apply Upd.there) rfl (lb_ (by rfl)) rfl (by exact putL_whole rfl)) rfl rfl ?_
 rintro _ _ ⟨rfl, rfl⟩
 refine SL.val (Val.assign rfl) rfl rfl ?_
 refine SL.nil (SE.seq ?_)
 refine SC.ret ?_
 refine SE.fin (rs := [.cell 4 81, .tmp 5]) rfl (RV.cell rfl (RV.cellA tabOk rfl rfl (by repeat first|assumption|exact o0_|exact o1_|apply o2_) (by rfl)) (RV.tmp rfl RV.nil)) (()) (by repeat first|exact s0_ _|exact s1_ _|apply s2_|apply s3_) (by simp [It.rids]) ?_
 unfold Lg.find
 rw [hfs]
 rfl
theorem ltold_s (hf : l.Few) : Spec Tryz.prog 71 [.agg l.abs, .agg o.abs] [] (fun _ : Unit => []) (fun _ => .agg (l.told o).abs) := by
 have hf1 := hf.ls
 have hf2 := hf.os
 refine spec_of Tryz.func71 rfl Tryz.ntmps71 rfl fun G w => ?_
 refine SC.seq (SC.region ?_)
 refine SL.eff (Eff.boxA (cs := l.abs) rfl) rfl rfl ?_
 rintro _ _ ⟨b2, rfl, rfl⟩
 refine SL.eff (Eff.boxA (cs := o.abs) rfl) rfl rfl ?_
 rintro _ _ ⟨b3, rfl, rfl⟩
 refine SL.eff (Eff.alloc tabOk rfl) rfl rfl ?_
 rintro _ _ ⟨b4, rfl, rfl⟩
 refine SL.nil (SE.seq ?_)
 refine SC.seq (SC.region ?_)
 refine SL.val (Val.to (C := .agg l.abs) (Val.loadP tabOk rfl rfl rfl (by repeat first|assumption|exact o0_|exact o1_|apply o2_) List.not_mem_nil (lb_ (by rfl))) (congrArg Abs.agg rfl)) rfl rfl ?_
 refine SL.call (lcopied_s hf) Casts.refl (by kernel_rfl) rfl rfl rfl ?_
 refine ap_ ?_
 intro _
 refine SL.eff (Eff.alloc tabOk rfl) rfl rfl ?_
 rintro _ _ ⟨b5, rfl, rfl⟩
 refine SL.eff (Eff.store (L' := l.abs) tabOk rfl rfl rfl (by repeat first|assumption|exact Upd.here|apply Upd.there) rfl (lb_ (by rfl)) rfl (by exact putL_whole rfl)) rfl rfl ?_
 rintro _ _ ⟨rfl, rfl⟩
 refine SL.nil (SE.seq ?_)
 refine SC.seq (SC.region ?_)
 refine SL.val (Val.fieldAddr tabOk rfl rfl rfl rfl rfl) rfl rfl ?_
 refine SL.val (Val.to (C := .sl 3 (l.os.map Oc.abs)) (Val.load1 tabOk rfl rfl (by repeat first|assumption|exact o0_|exact o1_|apply o2_) List.not_mem_nil (by rfl)) rfl) rfl rfl ?_
 refine SL.val (Val.loadA tabOk rfl rfl rfl (by repeat first|assumption|exact o0_|exact o1_|apply o2_) List.not_mem_nil (by rfl)) rfl rfl ?_
 refine SL.call (put_oc (xs := l.os) (x := o) (by omega)) Casts.refl (by kernel_rfl) rfl rfl rfl ?_
 refine ap_ ?_
 intro _
 refine SL.val (Val.fieldAddr tabOk rfl rfl rfl rfl rfl) rfl rfl ?_
 refine SL.eff (Eff.store (L' := (l.told o).abs) tabOk rfl rfl rfl (by repeat first|assumption|exact Upd.here|apply Upd.there) rfl (lb_ (by rfl)) rfl (by rfl)) rfl rfl ?_
 rintro _ _ ⟨rfl, rfl⟩
 refine SL.nil (SE.seq ?_)
 refine SC.seq (SC.region ?_)
 first
  | refine SL.val (Val.loadA tabOk rfl rfl rfl (by repeat first|assumption|exact o0_|exact o1_|apply o2_) List.not_mem_nil (by rfl)) rfl rfl ?_
  | refine SL.val (Val.loadP tabOk rfl rfl rfl (by repeat first|assumption|exact o0_|exact o1_|apply o2_) List.not_mem_nil (lb_ (by rfl))) rfl rfl ?_
 refine SL.eff (Eff.store (L' := (l.told o).abs) tabOk rfl rfl rfl (by repeat first|assumption|exact Upd.here|apply Upd.there) rfl (lb_ (by rfl)) rfl (by exact putL_whole rfl)) rfl rfl ?_
 rintro _ _ ⟨rfl, rfl⟩
 refine SL.nil (SE.seq ?_)
 refine SC.ret ?_
 refine SE.fin (rs := [.cell 4 30]) rfl (RV.cell rfl (RV.cellA tabOk rfl rfl (by repeat first|assumption|exact o0_|exact o1_|apply o2_) (by rfl)) RV.nil) (()) (by repeat first|exact s0_ _|exact s1_ _|apply s2_|apply s3_) (by simp [It.rids]) ?_
 exact rfl
theorem lwith_s (hf : l.Few) : Spec Tryz.prog 103 [.agg l.abs, .agg (ltrA x)] [] (fun _ : Unit => []) (fun _ => .tup [.agg (l.with_ x).1.abs, int (l.with_ x).2]) := by
 have hf1 := hf.ls
 have hf2 := hf.os
 have hwl := withG_length (eq := eqL x.name) (gt := gtL x.name) (x := x) l.ls
 refine spec_of Tryz.func103 rfl Tryz.ntmps103 rfl fun G w => ?_
 refine SC.seq (SC.region ?_)
 refine SL.eff (Eff.boxA (cs := l.abs) rfl) rfl rfl ?_
 rintro _ _ ⟨b2, rfl, rfl⟩
 refine SL.eff (Eff.boxA (cs := ltrA x) rfl) rfl rfl ?_
 rintro _ _ ⟨b3, rfl, rfl⟩
 refine SL.eff (Eff.alloc tabOk rfl) rfl rfl ?_
 rintro _ _ ⟨b4, rfl, rfl⟩
 refine SL.val (Val.assign rfl) rfl rfl ?_
 refine SL.nil (SE.seq ?_)
 refine SC.seq ?_
 refine SC.seq (SC.region ?_)
 refine SL.val (Val.fieldAddr tabOk rfl rfl rfl rfl rfl) rfl rfl ?_
 refine SL.val (Val.to (C := st x.name) (Val.load1 tabOk rfl rfl (by repeat first|assumption|exact o0_|exact o1_|apply o2_) List.not_mem_nil (by rfl)) rfl) rfl rfl ?_
 refine SL.call (isname_s (s := x.name)) Casts.refl (by kernel_rfl) rfl rfl rfl ?_
 refine ap_ ?_
 intro _
 refine SL.val (Val.notB rfl) rfl rfl ?_
 refine SL.nil (SE.seq ?_)
 refine SC.cond rfl ?_ ?_
 ·intro hc10
  have hnb : nameB x.name = false := by simpa using hc10
  refine SC.seq (SC.region ?_)
  refine SL.val (Val.buildS tabOk rfl rfl rfl rfl) rfl rfl ?_
  refine SL.eff (Eff.store (L' := (zabs [.int .i64 0, .int .i64 0, .slice none 0 0, .slice none 0 0])) tabOk rfl rfl rfl (by repeat first|assumption|exact Upd.here|apply Upd.there) rfl (lb_ (by rfl)) rfl (by exact putL_whole rfl)) rfl rfl ?_
  rintro _ _ ⟨rfl, rfl⟩
  refine SL.val (Val.assign rfl) rfl rfl ?_
  refine SL.nil (SE.seq ?_)
  refine SC.ret ?_
  refine SE.then_ nofun ?_
  refine SE.finC (rs := [.cell 4 30, .tmp 5]) rfl (RV.cell rfl (RV.cellA tabOk rfl rfl (by repeat first|assumption|exact o0_|exact o1_|apply o2_) (by rfl)) (RV.tmp rfl RV.nil)) (Casts.cons (cast_agg (Casts.keep (Casts.keep (Casts.nils (s := 6) (Casts.nils (s := 3) Casts.refl))))) Casts.refl) (()) (by repeat first|exact s0_ _|exact s1_ _|apply s2_|apply s3_) (by simp [It.rids]) ?_
  unfold Lg.with_
  rw [if_pos hnb]
  rfl
 intro hc10
 have hnb : ¬ nameB x.name = false := by simpa using hc10
 refine SC.skip ?_
 refine SE.seq ?_
 refine SC.seq (SC.region ?_)
 refine SL.val (Val.to (C := .agg l.abs) (Val.loadP tabOk rfl rfl rfl (by repeat first|assumption|exact o0_|exact o1_|apply o2_) List.not_mem_nil (lb_ (by rfl))) (congrArg Abs.agg rfl)) rfl rfl ?_
 refine SL.call (lcopied_s hf) Casts.refl (by kernel_rfl) rfl rfl rfl ?_
 refine ap_ ?_
 intro _
 refine SL.eff (Eff.alloc tabOk rfl) rfl rfl ?_
 rintro _ _ ⟨b6, rfl, rfl⟩
 refine SL.eff (Eff.store (L' := l.abs) tabOk rfl rfl rfl (by repeat first|assumption|exact Upd.here|apply Upd.there) rfl (lb_ (by rfl)) rfl (by exact putL_whole rfl)) rfl rfl ?_
 rintro _ _ ⟨rfl, rfl⟩
 refine SL.nil (SE.seq ?_)
 refine SC.seq ?_
 refine SC.seq (SC.region ?_)
 refine SL.val (Val.fieldAddr tabOk rfl rfl rfl rfl rfl) rfl rfl ?_
 refine SL.val (Val.to (C := ltrsA l.ls) (Val.load1 tabOk rfl rfl (by repeat first|assumption|exact o0_|exact o1_|apply o2_) List.not_mem_nil (by rfl)) rfl) rfl rfl ?_
 refine SL.val (Val.loadA tabOk rfl rfl rfl (by repeat first|assumption|exact o0_|exact o1_|apply o2_) List.not_mem_nil (by rfl)) rfl rfl ?_
 refine SL.call (put_ltr (xs := l.ls) (x := x) (by omega)) Casts.refl (by kernel_rfl) rfl rfl rfl ?_
 refine ap_ ?_
 intro _
 refine SL.val (Val.fieldAddr tabOk rfl rfl rfl rfl rfl) rfl rfl ?_
 refine SL.eff (Eff.store (L' := (l.putL x).abs) tabOk rfl rfl rfl (by repeat first|assumption|exact Upd.here|apply Upd.there) rfl (lb_ (by rfl)) rfl (by rfl)) rfl rfl ?_
 rintro _ _ ⟨rfl, rfl⟩
 refine SL.nil (SE.seq ?_)
 refine SC.seq (SC.region ?_)
 refine SL.val (Val.fieldAddr tabOk rfl rfl rfl rfl rfl) rfl rfl ?_
 refine SL.val (Val.to (C := ltrsA (l.putL x).ls) (Val.load1 tabOk rfl rfl (by repeat first|assumption|exact o0_|exact o1_|apply o2_) List.not_mem_nil (by rfl)) rfl) rfl rfl ?_
 first
  | refine SL.val (Val.lenSl rfl Tryz.underlying27 (List.length_map _)) rfl rfl ?_
  | refine SL.val (Val.lenOwn rfl (by repeat first|assumption|exact m0_|apply m1_) Tryz.underlying27 (List.length_map _)) rfl rfl ?_
  | refine SL.val (Val.lenNil rfl Tryz.underlying27) rfl rfl ?_
 refine SL.val (Val.gtI rfl rfl) rfl rfl ?_
 refine SL.nil (SE.seq ?_)
 refine SC.condP rfl ?_ ?_
 ·intro hc22
  refine SC.seq (SC.region ?_)
  refine SL.val (Val.buildS tabOk rfl rfl rfl rfl) rfl rfl ?_
  refine SL.eff (Eff.store (L' := (zabs [.int .i64 0, .int .i64 0, .slice none 0 0, .slice none 0 0])) tabOk rfl rfl rfl (by repeat first|assumption|exact Upd.here|apply Upd.there) rfl (lb_ (by rfl)) rfl (by exact putL_whole rfl)) rfl rfl ?_
  rintro _ _ ⟨rfl, rfl⟩
  refine SL.val (Val.assign rfl) rfl rfl ?_
  refine SL.nil (SE.seq ?_)
  refine SC.ret ?_
  refine SE.then_ nofun ?_
  refine SE.finC (rs := [.cell 4 30, .tmp 5]) rfl (RV.cell rfl (RV.cellA tabOk rfl rfl (by repeat first|assumption|exact o0_|exact o1_|apply o2_) (by rfl)) (RV.tmp rfl RV.nil)) (Casts.cons (cast_agg (Casts.keep (Casts.keep (Casts.nils (s := 6) (Casts.nils (s := 3) Casts.refl))))) Casts.refl) (()) (by repeat first|exact s0_ _|exact s1_ _|apply s2_|apply s3_) (by simp [It.rids]) ?_
  unfold Lg.with_
  rw [if_neg hnb, if_pos (by omega)]
  rfl
 intro hc22
 refine SC.skip ?_
 refine SE.seq ?_
 refine SC.seq (SC.region ?_)
 refine SL.val (Val.to (C := .agg (l.putL x).abs) (Val.loadP tabOk rfl rfl rfl (by repeat first|assumption|exact o0_|exact o1_|apply o2_) List.not_mem_nil (lb_ (by rfl))) (congrArg Abs.agg rfl)) rfl rfl ?_
 refine SL.eff (Eff.store (L' := (l.putL x).abs) tabOk rfl rfl rfl (by repeat first|assumption|exact Upd.here|apply Upd.there) rfl (lb_ (by rfl)) rfl (by exact putL_whole rfl)) rfl rfl ?_
 rintro _ _ ⟨rfl, rfl⟩
 refine SL.val (Val.assign rfl) rfl rfl ?_
 refine SL.nil (SE.seq ?_)
 refine SC.ret ?_
 refine SE.fin (rs := [.cell 4 30, .tmp 5]) rfl (RV.cell rfl (RV.cellA tabOk rfl rfl (by repeat first|assumption|exact o0_|exact o1_|apply o2_) (by rfl)) (RV.tmp rfl RV.nil)) (()) (by repeat first|exact s0_ _|exact s1_ _|apply s2_|apply s3_) (by simp [It.rids]) ?_
 unfold Lg.with_
 rw [if_neg hnb, if_neg (by omega)]
 rfl
theorem lstale_s (hf : l.Few) : Spec Tryz.prog 40 [.agg l.abs, coreA c] [] (fun _ : Unit => []) (fun _ => boo (l.stale c)) := by
 refine spec_of Tryz.func40 rfl Tryz.ntmps40 rfl fun G w => ?_
 refine SC.seq (SC.region ?_)
 refine SL.eff (Eff.boxA (cs := l.abs) rfl) rfl rfl ?_
 rintro _ _ ⟨b2, rfl, rfl⟩
 refine SL.eff (Eff.boxA (cs := c.cells.map .v) rfl) rfl rfl ?_
 rintro _ _ ⟨b3, rfl, rfl⟩
 refine SL.val (Val.assign rfl) rfl rfl ?_
 refine SL.nil (SE.seq ?_)
 refine SC.seq (SC.region ?_)
 refine SL.val (Val.to (C := .agg l.abs) (Val.loadP tabOk rfl rfl rfl (by repeat first|assumption|exact o0_|exact o1_|apply o2_) List.not_mem_nil (lb_ (by rfl))) (congrArg Abs.agg rfl)) rfl rfl ?_
 refine SL.val (Val.fieldAddr tabOk rfl rfl rfl rfl rfl) rfl rfl ?_
 refine SL.val (Val.load1 tabOk rfl rfl (by repeat first|assumption|exact o0_|exact o1_|apply o2_) List.not_mem_nil (by rfl)) rfl rfl ?_
 refine SL.call (llast_s (k := c.client) hf) Casts.refl (by kernel_rfl) rfl rfl rfl ?_
 refine ap_ ?_
 intro _
 refine SL.val (Val.move rfl) rfl rfl ?_
 refine SL.val (Val.extract rfl rfl) rfl rfl ?_
 refine SL.val (Val.extract rfl rfl) rfl rfl ?_
 refine SL.eff (Eff.alloc tabOk rfl) rfl rfl ?_
 rintro _ _ ⟨b5, rfl, rfl⟩
 refine SL.eff (Eff.store (L' := ((l.last c.client).getD Oc.zero).abs) tabOk rfl rfl rfl (by repeat first|assumption|exact Upd.here|apply Upd.there) rfl (lb_ (by rfl)) rfl (by exact putL_whole rfl)) rfl rfl ?_
 rintro _ _ ⟨rfl, rfl⟩
 refine SL.val (Val.assign rfl) rfl rfl ?_
 refine SL.nil (SE.seq ?_)
 refine SC.seq (SC.region ?_)
 iterate 2 refine SL.val (Val.move rfl) rfl rfl ?_
 refine SL.both (t := 15) rfl ?_ ?_
 ·intro hc15
  refine SL.val (Val.fieldAddr tabOk rfl rfl rfl rfl rfl) rfl rfl ?_
  refine SL.val (Val.load1 tabOk rfl rfl (by repeat first|assumption|exact o0_|exact o1_|apply o2_) List.not_mem_nil (by rfl)) rfl rfl ?_
  refine SL.val (Val.fieldAddr tabOk rfl rfl rfl rfl rfl) rfl rfl ?_
  refine SL.val (Val.load1 tabOk rfl rfl (by repeat first|assumption|exact o0_|exact o1_|apply o2_) List.not_mem_nil (by rfl)) rfl rfl ?_
  refine SL.val (Val.leI rfl rfl) rfl rfl ?_
  refine SL.val (Val.pickT rfl rfl) rfl rfl ?_
  refine SL.val (Val.assign rfl) rfl rfl ?_
  refine SL.nil (SE.seq ?_)
  refine SC.ret ?_
  refine SE.fin (rs := [.tmp 4]) rfl (RV.tmp rfl RV.nil) (()) (by repeat first|exact s0_ _|exact s1_ _|apply s2_|apply s3_) (by simp [It.rids]) ?_
  unfold Lg.stale
  cases hl : l.last c.client with
  | none => rw [hl] at hc15; first | rfl | cases hc15
  | some o9 => rw [hl] at hc15; first | rfl | cases hc15
 intro hc15
 iterate 5 refine SL.skip rfl rfl ?_
 refine SL.val (Val.pickF rfl rfl) rfl rfl ?_
 refine SL.val (Val.assign rfl) rfl rfl ?_
 refine SL.nil (SE.seq ?_)
 refine SC.ret ?_
 refine SE.fin (rs := [.tmp 4]) rfl (RV.tmp rfl RV.nil) (()) (by repeat first|exact s0_ _|exact s1_ _|apply s2_|apply s3_) (by simp [It.rids]) ?_
 unfold Lg.stale
 cases hl : l.last c.client with
 | none => rw [hl] at hc15; first | rfl | cases hc15
 | some o9 => rw [hl] at hc15; first | rfl | cases hc15
end
end Go.Proofs.YtickdhjljpnlpaaGreatDoor.A
