/-
  Packed out of the texts: Frm, FrmS.
-/
import Derived.Test.YtbhjchlflkgjbaaM17
/-
  Policies as trees, plain: how many nodes, how deep, whether numbers are in their ranges, whether they hold.
-/
set_option maxRecDepth 100000
set_option linter.unusedSimpArgs false
set_option linter.unusedVariables false
namespace Go.Proofs.Ytbhjchlflkgjbaa.A
open Go.RowKit

inductive Frm where
  | mk (org at_ : Int) (kids : List Frm)
mutual
theorem Frm.ind {p : Frm → Prop} (h : ∀ o a ks, (∀ k ∈ ks, p k) → p (.mk o a ks)) : ∀ f, p f
  | .mk o a ks => h o a ks (Frm.inds h ks)
theorem Frm.inds {p : Frm → Prop} (h : ∀ o a ks, (∀ k ∈ ks, p k) → p (.mk o a ks)) : ∀ ks : List Frm, ∀ k ∈ ks, p k
  | [], _, hk => (by cases hk)
  | f :: ks, k, hk => by
    rcases List.mem_cons.1 hk with e | hk
    · rw [e]; exact Frm.ind h f
    · exact Frm.inds h ks k hk
end
mutual
def Frm.abs : Frm → List Abs
  | .mk o a ks => [int o, int a, .sl 3 (Frm.abss ks)]
def Frm.abss : List Frm → List (List Abs)
  | [] => []
  | k :: ks => k.abs :: Frm.abss ks
end
mutual
def Frm.nodes : Frm → Nat
  | .mk _ _ ks => 1 + Frm.nodess ks
def Frm.nodess : List Frm → Nat
  | [] => 0
  | k :: ks => k.nodes + Frm.nodess ks
end
mutual
def Frm.depth : Frm → Nat
  | .mk _ _ ks => 1 + Frm.depths ks
def Frm.depths : List Frm → Nat
  | [] => 0
  | k :: ks => max k.depth (Frm.depths ks)
end
mutual
def Frm.ranges (n : Int) : Frm → Bool
  | .mk o a ks => match ks with
    | [] => decide (0 ≤ o ∧ o < n ∧ a = 0)
    | k :: ks => (k.ranges n && Frm.rangess n ks) && decide (1 ≤ a ∧ a ≤ ((ks.length + 1 : Nat) : Int) ∧ o = 0)
def Frm.rangess (n : Int) : List Frm → Bool
  | [] => true
  | k :: ks => k.ranges n && Frm.rangess n ks
end
mutual
def Frm.holds (s : Wo) : Frm → Bool
  | .mk o a ks => match ks with
    | [] => s.getLsbD o.toNat
    | k :: ks => decide (a ≤ (((if k.holds s then 1 else 0) + Frm.holdss s ks : Nat) : Int))
def Frm.holdss (s : Wo) : List Frm → Nat
  | [] => 0
  | k :: ks => (if k.holds s then 1 else 0) + Frm.holdss s ks
end
mutual
/-- Numbers as they come in. -/
def Frm.ints : Frm → Prop
  | .mk o a ks => InR .i64 o ∧ InR .i64 a ∧ Frm.intss ks
def Frm.intss : List Frm → Prop
  | [] => True
  | k :: ks => k.ints ∧ Frm.intss ks
end
theorem Frm.abss_eq : ∀ ks : List Frm, Frm.abss ks = ks.map Frm.abs
  | [] => rfl
  | k :: ks => by rw [Frm.abss, Frm.abss_eq ks, List.map_cons]
theorem Frm.abs_mk (o a : Int) (ks : List Frm) : (Frm.mk o a ks).abs = [int o, int a, .sl 3 (ks.map Frm.abs)] := by rw [Frm.abs, Frm.abss_eq]
theorem Frm.abs_len (f : Frm) : f.abs.length = 3 := by
  cases f
  rw [Frm.abs_mk]
  rfl
theorem Frm.abs_ones (f : Frm) : ones f.abs = true := by
  cases f
  rw [Frm.abs_mk]
  rfl
theorem Frm.intss_iff : ∀ {ks : List Frm}, Frm.intss ks ↔ ∀ k ∈ ks, k.ints
  | [] => by simp [Frm.intss]
  | k :: ks => by rw [Frm.intss, Frm.intss_iff]; simp
theorem Frm.nodess_app : ∀ (l m : List Frm), Frm.nodess (l ++ m) = Frm.nodess l + Frm.nodess m
  | [], m => by simp [Frm.nodess]
  | k :: l, m => by rw [List.cons_append, Frm.nodess, Frm.nodess_app l m, Frm.nodess, Nat.add_assoc]
theorem Frm.nodess_one (k : Frm) : Frm.nodess [k] = k.nodes := by simp [Frm.nodess]
theorem Frm.depths_app : ∀ (l m : List Frm), Frm.depths (l ++ m) = max (Frm.depths l) (Frm.depths m)
  | [], m => by simp [Frm.depths]
  | k :: l, m => by rw [List.cons_append, Frm.depths, Frm.depths_app l m, Frm.depths, Nat.max_assoc]
theorem Frm.depths_one (k : Frm) : Frm.depths [k] = k.depth := by simp [Frm.depths]
theorem Frm.holdss_app (s : Wo) : ∀ (l m : List Frm), Frm.holdss s (l ++ m) = Frm.holdss s l + Frm.holdss s m
  | [], m => by simp [Frm.holdss]
  | k :: l, m => by rw [List.cons_append, Frm.holdss, Frm.holdss_app s l m, Frm.holdss, Nat.add_assoc]
theorem Frm.holdss_one (s : Wo) (k : Frm) : Frm.holdss s [k] = if k.holds s then 1 else 0 := by simp [Frm.holdss]
theorem Frm.holdss_le (s : Wo) : ∀ l : List Frm, Frm.holdss s l ≤ l.length
  | [] => Nat.le_refl _
  | k :: l => by
    have := Frm.holdss_le s l
    rw [Frm.holdss, List.length_cons]
    split <;> omega
theorem Frm.rangess_iff {n : Int} : ∀ {ks : List Frm}, Frm.rangess n ks = true ↔ ∀ k ∈ ks, k.ranges n = true
  | [] => by simp [Frm.rangess]
  | k :: ks => by rw [Frm.rangess, Bool.and_eq_true, Frm.rangess_iff]; simp
theorem Frm.holds_leaf (s : Wo) (o a : Int) : (Frm.mk o a []).holds s = s.getLsbD o.toNat := by rw [Frm.holds]
theorem Frm.holds_node (s : Wo) (o a : Int) {ks : List Frm} (h : ks ≠ []) : (Frm.mk o a ks).holds s = decide (a ≤ (Frm.holdss s ks : Int)) := by
  cases ks with
  | nil => exact absurd rfl h
  | cons k ks => rw [Frm.holds, Frm.holdss]
theorem Frm.ranges_leaf (n o a : Int) : (Frm.mk o a []).ranges n = decide (0 ≤ o ∧ o < n ∧ a = 0) := by rw [Frm.ranges]
theorem Frm.ranges_node (n o a : Int) {ks : List Frm} (h : ks ≠ []) : (Frm.mk o a ks).ranges n = (Frm.rangess n ks && decide (1 ≤ a ∧ a ≤ ((ks.length : Nat) : Int) ∧ o = 0)) := by
  cases ks with
  | nil => exact absurd rfl h
  | cons k ks => rw [Frm.ranges, Frm.rangess, List.length_cons]
theorem Frm.nodes_mk (o a : Int) (ks : List Frm) : (Frm.mk o a ks).nodes = 1 + Frm.nodess ks := by rw [Frm.nodes]
theorem Frm.depth_mk (o a : Int) (ks : List Frm) : (Frm.mk o a ks).depth = 1 + Frm.depths ks := by rw [Frm.depth]
theorem Frm.nodes_mem {ks : List Frm} {k : Frm} (h : k ∈ ks) : k.nodes ≤ Frm.nodess ks := by
  induction ks with
  | nil => cases h
  | cons x ks ih =>
    rw [Frm.nodess]
    rcases List.mem_cons.1 h with e | h
    · rw [e]; omega
    · have := ih h; omega
theorem Frm.nodes_pos (f : Frm) : 1 ≤ f.nodes := by
  cases f
  rw [Frm.nodes_mk]
  omega
theorem Frm.length_le : ∀ ks : List Frm, ks.length ≤ Frm.nodess ks
  | [] => Nat.le_refl _
  | k :: ks => by
    have := Frm.length_le ks
    have := k.nodes_pos
    rw [Frm.nodess, List.length_cons]
    omega
theorem Frm.depths_mem {ks : List Frm} {k : Frm} (h : k ∈ ks) : k.depth ≤ Frm.depths ks := by
  induction ks with
  | nil => cases h
  | cons x ks ih =>
    rw [Frm.depths]
    rcases List.mem_cons.1 h with e | h
    · rw [e]; omega
    · have := ih h; omega
theorem Frm.depth_le (f : Frm) : f.depth ≤ f.nodes := Frm.ind (p := fun f => f.depth ≤ f.nodes) (fun o a ks ih => by
  rw [Frm.depth_mk, Frm.nodes_mk]
  have : ∀ l : List Frm, (∀ k ∈ l, k.depth ≤ k.nodes) → Frm.depths l ≤ Frm.nodess l := by
    intro l
    induction l with
    | nil => intro _; exact Nat.le_refl _
    | cons k l ih2 =>
      intro h
      have h1 := h k List.mem_cons_self
      have h2 := ih2 fun k hk => h k (List.mem_cons_of_mem _ hk)
      rw [Frm.depths, Frm.nodess]
      omega
  have := this ks ih
  omega) f
theorem Frm.take_nodes {ks : List Frm} (z : Nat) : Frm.nodess (ks.take z) ≤ Frm.nodess ks := by
  conv => rhs; rw [← List.take_append_drop z ks]
  rw [Frm.nodess_app]
  omega
theorem Frm.take_nodes1 {ks : List Frm} {z : Nat} (h : z < ks.length) : Frm.nodess (ks.take (z + 1)) = Frm.nodess (ks.take z) + ks[z].nodes := by
  rw [List.take_succ_eq_append_getElem h, Frm.nodess_app, Frm.nodess_one]
theorem Frm.take_depths1 {ks : List Frm} {z : Nat} (h : z < ks.length) : Frm.depths (ks.take (z + 1)) = max (Frm.depths (ks.take z)) ks[z].depth := by
  rw [List.take_succ_eq_append_getElem h, Frm.depths_app, Frm.depths_one]
theorem Frm.take_holds1 {s : Wo} {ks : List Frm} {z : Nat} (h : z < ks.length) : Frm.holdss s (ks.take (z + 1)) = Frm.holdss s (ks.take z) + if ks[z].holds s then 1 else 0 := by
  rw [List.take_succ_eq_append_getElem h, Frm.holdss_app, Frm.holdss_one]
/-- What layer 8 says of a policy. -/
def Frm.check (f : Frm) (n : Int) : Int := if n < 1 ∨ 7 < n then 1 else if 32 < f.nodes then 4 else if 5 < f.depth then 3 else if f.ranges n = true then 0 else 5
theorem Frm.check_ok {f : Frm} {n : Int} : f.check n = 0 ↔ (1 ≤ n ∧ n ≤ 7) ∧ f.nodes ≤ 32 ∧ f.depth ≤ 5 ∧ f.ranges n = true := by
  unfold Frm.check
  by_cases h1 : n < 1 ∨ 7 < n
  · rw [if_pos h1]
    constructor
    · intro h; cases h
    · intro h; omega
  · rw [if_neg h1]
    by_cases h2 : 32 < f.nodes
    · rw [if_pos h2]
      constructor
      · intro h; cases h
      · intro h; omega
    · rw [if_neg h2]
      by_cases h3 : 5 < f.depth
      · rw [if_pos h3]
        constructor
        · intro h; cases h
        · intro h; omega
      · rw [if_neg h3]
        by_cases h4 : f.ranges n = true
        · rw [if_pos h4]
          exact ⟨fun _ => ⟨by omega, by omega, by omega, h4⟩, fun _ => rfl⟩
        · rw [if_neg h4]
          constructor
          · intro h; cases h
          · intro h; exact absurd h.2.2.2 h4
theorem Frm.ranges_mono {n m : Int} (h : n ≤ m) (f : Frm) : f.ranges n = true → f.ranges m = true := Frm.ind (p := fun f => f.ranges n = true → f.ranges m = true) (fun o a ks ih => by
  by_cases hk : ks = []
  · subst hk
    rw [Frm.ranges_leaf, Frm.ranges_leaf, decide_eq_true_iff, decide_eq_true_iff]
    omega
  · rw [Frm.ranges_node n o a hk, Frm.ranges_node m o a hk, Bool.and_eq_true, Bool.and_eq_true, Frm.rangess_iff, Frm.rangess_iff]
    exact fun h => ⟨fun k hk => ih k hk (h.1 k hk), h.2⟩) f
theorem Frm.kids_range {n o a : Int} {ks : List Frm} (h : (Frm.mk o a ks).ranges n = true) : ∀ k ∈ ks, k.ranges n = true := by
  by_cases hk : ks = []
  · subst hk
    intro k hk; cases hk
  · rw [Frm.ranges_node n o a hk, Bool.and_eq_true, Frm.rangess_iff] at h
    exact h.1
/-- A bit, by halving. -/
theorem halve_bit (s : Wo) (z : Nat) : decide ((s >>> z).toNat % 2 = 1) = s.getLsbD z := by
  rw [BitVec.toNat_ushiftRight]
  show _ = s.toNat.testBit z
  rw [Nat.testBit_eq_decide_div_mod_eq, Nat.shiftRight_eq_div_pow]
theorem and_bit (s : Wo) (z : Nat) : decide (((s >>> z) &&& 1#32).toNat = 1) = s.getLsbD z := by
  rw [← halve_bit, BitVec.toNat_and]
  show decide ((s >>> z).toNat &&& 1 = 1) = _
  rw [Nat.and_one_is_mod]
end Go.Proofs.Ytbhjchlflkgjbaa.A
/-
  Policies: the program's formula, and the document's layer 8.
-/
set_option maxRecDepth 100000
set_option linter.unusedSimpArgs false
set_option linter.unusedVariables false
namespace Go.Proofs.Ytbhjchlflkgjbaa.A
open Go.RowKit

section
variable {o a n deep : Int} {ks : List Frm} {s : Wo} {f : Frm}
set_option maxHeartbeats 1000000 in
theorem shape_step (ih : ∀ k ∈ ks, ∀ deep : Int, k.nodes ≤ 1099511627776 → 0 ≤ deep → deep ≤ 1099511627776 - k.nodes → Spec Try.prog 47 [.agg k.abs, int deep] [] (fun _ : Unit => []) (fun _ => .tup [int (k.nodes : Nat), int (deep + k.depth - 1)])) (hn : (Frm.mk o a ks).nodes ≤ 1099511627776) (h0 : 0 ≤ deep) (hd : deep ≤ 1099511627776 - (Frm.mk o a ks).nodes) : Spec Try.prog 47 [.agg (Frm.mk o a ks).abs, int deep] [] (fun _ : Unit => []) (fun _ => .tup [int ((Frm.mk o a ks).nodes : Nat), int (deep + (Frm.mk o a ks).depth - 1)]) := by
  rw [Frm.abs_mk]
  have hlen := Frm.length_le ks
  rw [Frm.nodes_mk] at hn hd
  refine spec_of Try.func47 rfl Try.ntmps47 rfl fun G w => ?_
  refine SC.seq (SC.region ?_)
  refine SL.eff (Eff.boxA rfl) rfl rfl ?_
  rintro _ _ ⟨b2, rfl, rfl⟩
  refine SL.val (Val.assign rfl) rfl rfl ?_
  refine SL.val (Val.assign rfl) rfl rfl ?_
  refine SL.nil (SE.seq ?_)
  refine SC.seq (SC.region ?_)
  refine SL.val (Val.move rfl) rfl rfl ?_
  refine SL.val (Val.assign rfl) rfl rfl ?_
  refine SL.val (Val.assign rfl) rfl rfl ?_
  refine SL.nil (SE.seq ?_)
  refine SC.seq ?_
  refine SC.seq (SC.region ?_)
  refine SL.val (Val.fieldAddr tabOk rfl rfl rfl rfl rfl) rfl rfl ?_
  refine SL.val (Val.load1 tabOk rfl rfl (by first|(apply Or.inl;(repeat first|assumption|exact m0|apply m1);done)|(apply Or.inr;(repeat first|assumption|exact m0|apply m1);done)) List.not_mem_nil (by rfl)) rfl rfl ?_
  first
    | refine SL.val (Val.lenSl rfl Try.underlying43 (List.length_map _)) rfl rfl ?_
    | refine SL.val (Val.lenOwn rfl (by repeat first|assumption|exact m0|apply m1) Try.underlying43 (List.length_map _)) rfl rfl ?_
    | refine SL.val (Val.lenNil rfl Try.underlying43) rfl rfl ?_
  refine SL.val (Val.move rfl) rfl rfl ?_
  refine SL.nil (SE.seq ?_)
  refine SC.block ?_
  refine SC.loop (ι := Nat) (fun z => [.blk b2 45 [int o, int a, .sl 3 (ks.map Frm.abs)]]) (fun z => [(1, int deep), (2, ptr b2), (4, int ((1 + Frm.nodess (ks.take z) : Nat) : Int)), (5, int (deep + (Frm.depths (ks.take z) : Nat))), (12, .sl 3 (ks.map Frm.abs)), (13, int (ks.length : Nat)), (14, int (z : Nat))]) (fun z => z ≤ ks.length) (fun z => ks.length - z) (0) (Nat.zero_le _) (by exact ⟨rfl, rfl, rfl, congrArg (fun x : Int => some (int x)) (show deep = deep + ((0 : Nat) : Int) by omega), rfl, rfl, rfl, trivial⟩) (by repeat first|exact s0 _|exact s1 _|apply s2|apply s3) ?_
  intro z hz
  refine SC.seq (SC.region ?_)
  refine SL.val (Val.ltI rfl rfl) rfl rfl ?_
  refine SL.nil (SE.seq ?_)
  refine SC.seq ?_
  refine SC.condP rfl ?_ ?_
  rotate_left
  · intro hc15
    have hz2 : z = ks.length := by omega
    have htk : ks.take z = ks := by rw [hz2]; exact List.take_of_length_le (Nat.le_refl _)
    refine SC.exit ?_
    refine SE.then_ (by intro h; cases h) ?_
    refine SE.then_ (by intro h; cases h) ?_
    refine SE.exit ?_
    refine SE.seq ?_
    refine SC.seq (SC.region ?_)
    refine SL.val (Val.move rfl) rfl rfl ?_
    refine SL.val (Val.move rfl) rfl rfl ?_
    refine SL.val (Val.assign rfl) rfl rfl ?_
    refine SL.val (Val.assign rfl) rfl rfl ?_
    refine SL.nil (SE.seq ?_)
    refine SC.ret ?_
    refine SE.fin (rs := [.tmp 4, .tmp 5]) rfl (RV.tmp rfl (RV.tmp rfl RV.nil)) (()) (by repeat first|exact s0 _|exact s1 _|apply s2|apply s3) (by simp [It.rids]) ?_
    rw [htk, Frm.nodes_mk, Frm.depth_mk]
    rw [show deep + ((1 + Frm.depths ks : Nat) : Int) - 1 = deep + (Frm.depths ks : Nat) by omega]
    rfl
  intro hc15
  have hlt : z < ks.length := by omega
  have hkz := Frm.nodes_mem (List.getElem_mem hlt)
  have hdz := Frm.depths_mem (List.getElem_mem hlt)
  have htn := Frm.take_nodes1 hlt
  have htd := Frm.take_depths1 hlt
  have htl := Frm.take_nodes (ks := ks) (z + 1)
  have hdn := Frm.depth_le (ks[z]'hlt)
  refine SC.skip ?_
  refine SE.seq ?_
  refine SC.seq ?_
  refine SC.block ?_
  refine SC.seq (SC.region ?_)
  refine SL.val (Val.indexSl tabOk Try.underlying43 rfl rfl rfl rfl (at_map (by omega)) rfl rfl) rfl rfl ?_
  refine SL.val (Val.loadAR tabOk rfl rfl rfl (Frm.abs_len _)) rfl rfl ?_
  refine SL.eff (Eff.alloc tabOk rfl) rfl rfl ?_
  rintro _ _ ⟨b7, rfl, rfl⟩
  refine SL.eff (Eff.store (L' := (ks[z]'hlt).abs) tabOk rfl rfl rfl (by repeat first|assumption|exact Upd.here|apply Upd.there) (by exact Frm.abs_len _) (Nat.le_of_ble_eq_true (by rfl)) (by exact Frm.abs_ones _) (putL_whole (by exact Frm.abs_len _))) rfl rfl ?_
  rintro _ _ ⟨rfl, rfl⟩
  refine SL.nil (SE.seq ?_)
  refine SC.seq (SC.region ?_)
  refine SL.val (Val.loadA tabOk rfl rfl rfl (by first|(apply Or.inl;(repeat first|assumption|exact m0|apply m1);done)|(apply Or.inr;(repeat first|assumption|exact m0|apply m1);done)) List.not_mem_nil (Frm.abs_len _)) rfl rfl ?_
  refine SL.val (Val.move rfl) rfl rfl ?_
  refine SL.val (Val.addI rfl rfl (by simp only [InR, lo, hi]; omega)) rfl rfl ?_
  refine SL.call (ih (ks[z]'hlt) (List.getElem_mem hlt) (deep + 1) (by omega) (by omega) (by omega)) Casts.refl (by kernel_rfl) rfl rfl rfl ?_
  refine After.pure (by repeat first|exact .nil|refine .blk (by repeat first|assumption|exact m0|apply m1) ?_|refine .rd (by repeat first|assumption|exact m0|apply m1) ?_|refine .pc (by repeat first|assumption|exact m0|apply m1) ?_|refine .rdpc (by repeat first|assumption|exact m0|apply m1) ?_) (fun _ => rfl) ?_
  intro _
  refine SL.val (Val.move rfl) rfl rfl ?_
  refine SL.val (Val.extract rfl rfl) rfl rfl ?_
  refine SL.val (Val.extract rfl rfl) rfl rfl ?_
  refine SL.val (Val.assign rfl) rfl rfl ?_
  refine SL.val (Val.assign rfl) rfl rfl ?_
  refine SL.nil (SE.seq ?_)
  refine SC.region ?_
  refine SL.val (Val.move rfl) rfl rfl ?_
  refine SL.val (Val.move rfl) rfl rfl ?_
  refine SL.val (Val.to (C := int ((1 + Frm.nodess (ks.take (z + 1)) : Nat) : Int)) (Val.addI rfl rfl (by simp only [InR, lo, hi]; omega)) (congrArg int (by omega))) rfl rfl ?_
  refine SL.val (Val.move rfl) rfl rfl ?_
  refine SL.val (Val.move rfl) rfl rfl ?_
  refine SL.val (Val.to (C := int (deep + (Frm.depths (ks.take (z + 1)) : Nat))) (Val.maxI rfl rfl) (congrArg int (by omega))) rfl rfl ?_
  refine SL.val (Val.assign rfl) rfl rfl ?_
  refine SL.val (Val.assign rfl) rfl rfl ?_
  refine SL.nil ?_
  refine SE.inBlock ?_
  refine SE.seq ?_
  refine SC.region ?_
  first
    | refine SL.val (Val.addI rfl rfl (by simp only [InR, lo, hi]; omega)) rfl rfl ?_
    | refine SL.val (Val.addW rfl rfl) rfl rfl ?_
  refine SL.val (Val.move rfl) rfl rfl ?_
  refine SL.nil ?_
  refine SE.round (z + 1) (by first | omega | (dsimp only; omega)) (by first | omega | (dsimp only; omega)) (by exact ⟨rfl, rfl, rfl, rfl, rfl, rfl, rfl, trivial⟩) (by repeat first|exact s0 _|exact s1 _|apply s2|apply s3)
theorem shape_s (f : Frm) : ∀ deep : Int, f.nodes ≤ 1099511627776 → 0 ≤ deep → deep ≤ 1099511627776 - f.nodes → Spec Try.prog 47 [.agg f.abs, int deep] [] (fun _ : Unit => []) (fun _ => .tup [int (f.nodes : Nat), int (deep + f.depth - 1)]) := Frm.ind (p := fun f => ∀ deep : Int, f.nodes ≤ 1099511627776 → 0 ≤ deep → deep ≤ 1099511627776 - f.nodes → Spec Try.prog 47 [.agg f.abs, int deep] [] (fun _ : Unit => []) (fun _ => .tup [int (f.nodes : Nat), int (deep + f.depth - 1)])) (fun o a ks ih => fun deep hn h0 hd => shape_step ih hn h0 hd) f
set_option maxHeartbeats 1000000 in
theorem size_step (ih : ∀ k ∈ ks, k.nodes ≤ 1099511627776 → Spec Try.prog 14 [.agg k.abs] [] (fun _ : Unit => []) (fun _ => .tup [int (k.nodes : Nat), int (k.depth : Nat)])) (hn : (Frm.mk o a ks).nodes ≤ 1099511627776) : Spec Try.prog 14 [.agg (Frm.mk o a ks).abs] [] (fun _ : Unit => []) (fun _ => .tup [int ((Frm.mk o a ks).nodes : Nat), int ((Frm.mk o a ks).depth : Nat)]) := by
  rw [Frm.abs_mk]
  have hlen := Frm.length_le ks
  rw [Frm.nodes_mk] at hn
  refine spec_of Try.func14 rfl Try.ntmps14 rfl fun G w => ?_
  refine SC.seq (SC.region ?_)
  refine SL.eff (Eff.boxA rfl) rfl rfl ?_
  rintro _ _ ⟨b1, rfl, rfl⟩
  refine SL.val (Val.assign rfl) rfl rfl ?_
  refine SL.val (Val.assign rfl) rfl rfl ?_
  refine SL.nil (SE.seq ?_)
  refine SC.seq (SC.region ?_)
  refine SL.val (Val.assign rfl) rfl rfl ?_
  refine SL.val (Val.assign rfl) rfl rfl ?_
  refine SL.nil (SE.seq ?_)
  refine SC.seq ?_
  refine SC.seq (SC.region ?_)
  refine SL.val (Val.fieldAddr tabOk rfl rfl rfl rfl rfl) rfl rfl ?_
  refine SL.val (Val.load1 tabOk rfl rfl (by first|(apply Or.inl;(repeat first|assumption|exact m0|apply m1);done)|(apply Or.inr;(repeat first|assumption|exact m0|apply m1);done)) List.not_mem_nil (by rfl)) rfl rfl ?_
  first
    | refine SL.val (Val.lenSl rfl Try.underlying43 (List.length_map _)) rfl rfl ?_
    | refine SL.val (Val.lenOwn rfl (by repeat first|assumption|exact m0|apply m1) Try.underlying43 (List.length_map _)) rfl rfl ?_
    | refine SL.val (Val.lenNil rfl Try.underlying43) rfl rfl ?_
  refine SL.val (Val.move rfl) rfl rfl ?_
  refine SL.nil (SE.seq ?_)
  refine SC.block ?_
  refine SC.loop (ι := Nat) (fun z => [.blk b1 45 [int o, int a, .sl 3 (ks.map Frm.abs)]]) (fun z => [(1, ptr b1), (4, int ((1 + Frm.nodess (ks.take z) : Nat) : Int)), (5, int (Frm.depths (ks.take z) : Nat)), (11, .sl 3 (ks.map Frm.abs)), (12, int (ks.length : Nat)), (13, int (z : Nat))]) (fun z => z ≤ ks.length) (fun z => ks.length - z) (0) (Nat.zero_le _) (by exact ⟨rfl, rfl, rfl, rfl, rfl, rfl, trivial⟩) (by repeat first|exact s0 _|exact s1 _|apply s2|apply s3) ?_
  intro z hz
  refine SC.seq (SC.region ?_)
  refine SL.val (Val.ltI rfl rfl) rfl rfl ?_
  refine SL.nil (SE.seq ?_)
  refine SC.seq ?_
  refine SC.condP rfl ?_ ?_
  rotate_left
  · intro hc14
    have hz2 : z = ks.length := by omega
    have htk : ks.take z = ks := by rw [hz2]; exact List.take_of_length_le (Nat.le_refl _)
    have hdp := Frm.depth_le (Frm.mk o a ks)
    rw [Frm.depth_mk, Frm.nodes_mk] at hdp
    rw [htk]
    refine SC.exit ?_
    refine SE.then_ (by intro h; cases h) ?_
    refine SE.then_ (by intro h; cases h) ?_
    refine SE.exit ?_
    refine SE.seq ?_
    refine SC.seq (SC.region ?_)
    refine SL.val (Val.move rfl) rfl rfl ?_
    refine SL.val (Val.move rfl) rfl rfl ?_
    refine SL.val (Val.addI rfl rfl (by simp only [InR, lo, hi]; omega)) rfl rfl ?_
    refine SL.val (Val.assign rfl) rfl rfl ?_
    refine SL.val (Val.assign rfl) rfl rfl ?_
    refine SL.nil (SE.seq ?_)
    refine SC.ret ?_
    refine SE.fin (rs := [.tmp 2, .tmp 3]) rfl (RV.tmp rfl (RV.tmp rfl RV.nil)) (()) (by repeat first|exact s0 _|exact s1 _|apply s2|apply s3) (by simp [It.rids]) ?_
    rw [Frm.nodes_mk, Frm.depth_mk]
    rw [show ((1 + Frm.depths ks : Nat) : Int) = (Frm.depths ks : Nat) + 1 by omega]
    rfl
  intro hc14
  have hlt : z < ks.length := by omega
  have hkz := Frm.nodes_mem (List.getElem_mem hlt)
  have hdz := Frm.depths_mem (List.getElem_mem hlt)
  have htn := Frm.take_nodes1 hlt
  have htd := Frm.take_depths1 hlt
  have htl := Frm.take_nodes (ks := ks) (z + 1)
  have hdn := Frm.depth_le (ks[z]'hlt)
  refine SC.skip ?_
  refine SE.seq ?_
  refine SC.seq ?_
  refine SC.block ?_
  refine SC.seq (SC.region ?_)
  refine SL.val (Val.indexSl tabOk Try.underlying43 rfl rfl rfl rfl (at_map (by omega)) rfl rfl) rfl rfl ?_
  refine SL.val (Val.loadAR tabOk rfl rfl rfl (Frm.abs_len _)) rfl rfl ?_
  refine SL.eff (Eff.alloc tabOk rfl) rfl rfl ?_
  rintro _ _ ⟨b7, rfl, rfl⟩
  refine SL.eff (Eff.store (L' := (ks[z]'hlt).abs) tabOk rfl rfl rfl (by repeat first|assumption|exact Upd.here|apply Upd.there) (by exact Frm.abs_len _) (Nat.le_of_ble_eq_true (by rfl)) (by exact Frm.abs_ones _) (putL_whole (by exact Frm.abs_len _))) rfl rfl ?_
  rintro _ _ ⟨rfl, rfl⟩
  refine SL.nil (SE.seq ?_)
  refine SC.seq (SC.region ?_)
  refine SL.val (Val.loadA tabOk rfl rfl rfl (by first|(apply Or.inl;(repeat first|assumption|exact m0|apply m1);done)|(apply Or.inr;(repeat first|assumption|exact m0|apply m1);done)) List.not_mem_nil (Frm.abs_len _)) rfl rfl ?_
  refine SL.call (ih (ks[z]'hlt) (List.getElem_mem hlt) (by omega)) Casts.refl (by kernel_rfl) rfl rfl rfl ?_
  refine After.pure (by repeat first|exact .nil|refine .blk (by repeat first|assumption|exact m0|apply m1) ?_|refine .rd (by repeat first|assumption|exact m0|apply m1) ?_|refine .pc (by repeat first|assumption|exact m0|apply m1) ?_|refine .rdpc (by repeat first|assumption|exact m0|apply m1) ?_) (fun _ => rfl) ?_
  intro _
  refine SL.val (Val.move rfl) rfl rfl ?_
  refine SL.val (Val.extract rfl rfl) rfl rfl ?_
  refine SL.val (Val.extract rfl rfl) rfl rfl ?_
  refine SL.val (Val.assign rfl) rfl rfl ?_
  refine SL.val (Val.assign rfl) rfl rfl ?_
  refine SL.nil (SE.seq ?_)
  refine SC.seq (SC.region ?_)
  refine SL.val (Val.move rfl) rfl rfl ?_
  refine SL.val (Val.move rfl) rfl rfl ?_
  refine SL.val (Val.to (C := int ((1 + Frm.nodess (ks.take (z + 1)) : Nat) : Int)) (Val.addI rfl rfl (by simp only [InR, lo, hi]; omega)) (congrArg int (by omega))) rfl rfl ?_
  refine SL.val (Val.assign rfl) rfl rfl ?_
  refine SL.nil (SE.seq ?_)
  refine SC.region ?_
  refine SL.val (Val.move rfl) rfl rfl ?_
  refine SL.val (Val.move rfl) rfl rfl ?_
  refine SL.val (Val.to (C := int (Frm.depths (ks.take (z + 1)) : Nat)) (Val.maxI rfl rfl) (congrArg int (by omega))) rfl rfl ?_
  refine SL.val (Val.assign rfl) rfl rfl ?_
  refine SL.nil ?_
  refine SE.inBlock ?_
  refine SE.seq ?_
  refine SC.region ?_
  first
    | refine SL.val (Val.addI rfl rfl (by simp only [InR, lo, hi]; omega)) rfl rfl ?_
    | refine SL.val (Val.addW rfl rfl) rfl rfl ?_
  refine SL.val (Val.move rfl) rfl rfl ?_
  refine SL.nil ?_
  refine SE.round (z + 1) (by first | omega | (dsimp only; omega)) (by first | omega | (dsimp only; omega)) (by exact ⟨rfl, rfl, rfl, rfl, rfl, rfl, trivial⟩) (by repeat first|exact s0 _|exact s1 _|apply s2|apply s3)
theorem size_s (f : Frm) : f.nodes ≤ 1099511627776 → Spec Try.prog 14 [.agg f.abs] [] (fun _ : Unit => []) (fun _ => .tup [int (f.nodes : Nat), int (f.depth : Nat)]) := Frm.ind (p := fun f => f.nodes ≤ 1099511627776 → Spec Try.prog 14 [.agg f.abs] [] (fun _ : Unit => []) (fun _ => .tup [int (f.nodes : Nat), int (f.depth : Nat)])) (fun o a ks ih => fun hn => size_step ih hn) f
theorem boo_i' {p : Prop} [Decidable p] {b : Bool} (h : b = true ↔ p) : retA [boo (decide p)] = boo b := by
  refine congrArg (fun b => Abs.v (Value.bool b)) ?_
  rw [Bool.eq_iff_iff, decide_eq_true_iff]
  exact h.symm
theorem boo_f' {b : Bool} (h : b = false) : retA [boo false] = boo b := by rw [h]; rfl
theorem boo_t' {b : Bool} (h : b = true) : retA [boo true] = boo b := by rw [h]; rfl
set_option maxHeartbeats 1000000 in
theorem ranges_step (ih : ∀ k ∈ ks, k.nodes ≤ 1099511627776 → Spec Try.prog 34 [.agg k.abs, int n] [] (fun _ : Unit => []) (fun _ => boo (k.ranges n))) (hn : (Frm.mk o a ks).nodes ≤ 1099511627776) : Spec Try.prog 34 [.agg (Frm.mk o a ks).abs, int n] [] (fun _ : Unit => []) (fun _ => boo ((Frm.mk o a ks).ranges n)) := by
  rw [Frm.abs_mk]
  have hlen := Frm.length_le ks
  rw [Frm.nodes_mk] at hn
  refine spec_of Try.func34 rfl Try.ntmps34 rfl fun G w => ?_
  refine SC.seq (SC.region ?_)
  refine SL.eff (Eff.boxA rfl) rfl rfl ?_
  rintro _ _ ⟨b2, rfl, rfl⟩
  refine SL.val (Val.assign rfl) rfl rfl ?_
  refine SL.nil (SE.seq ?_)
  refine SC.seq ?_
  refine SC.seq (SC.region ?_)
  refine SL.val (Val.fieldAddr tabOk rfl rfl rfl rfl rfl) rfl rfl ?_
  refine SL.val (Val.load1 tabOk rfl rfl (by first|(apply Or.inl;(repeat first|assumption|exact m0|apply m1);done)|(apply Or.inr;(repeat first|assumption|exact m0|apply m1);done)) List.not_mem_nil (by rfl)) rfl rfl ?_
  first
    | refine SL.val (Val.lenSl rfl Try.underlying43 (List.length_map _)) rfl rfl ?_
    | refine SL.val (Val.lenOwn rfl (by repeat first|assumption|exact m0|apply m1) Try.underlying43 (List.length_map _)) rfl rfl ?_
    | refine SL.val (Val.lenNil rfl Try.underlying43) rfl rfl ?_
  refine SL.val (Val.eqI rfl rfl) rfl rfl ?_
  refine SL.nil (SE.seq ?_)
  refine SC.condP rfl ?_ ?_
  · intro hc10
    have hk0 : ks = [] := List.eq_nil_of_length_eq_zero (by omega)
    subst hk0
    refine SC.seq (SC.region ?_)
    refine SL.val (Val.fieldAddr tabOk rfl rfl rfl rfl rfl) rfl rfl ?_
    refine SL.val (Val.load1 tabOk rfl rfl (by first|(apply Or.inl;(repeat first|assumption|exact m0|apply m1);done)|(apply Or.inr;(repeat first|assumption|exact m0|apply m1);done)) List.not_mem_nil (by rfl)) rfl rfl ?_
    refine SL.val (Val.geI rfl rfl) rfl rfl ?_
    refine SL.val (Val.move rfl) rfl rfl ?_
    refine SL.bothP (t := 14) rfl ?_ ?_
    rotate_left
    · intro hc14
      iterate 4 refine SL.skip rfl rfl ?_
      refine SL.val (Val.pickF rfl rfl) rfl rfl ?_
      refine SL.val (Val.move rfl) rfl rfl ?_
      iterate 3 refine SL.skip rfl rfl ?_
      refine SL.val (Val.pickF rfl rfl) rfl rfl ?_
      refine SL.val (Val.assign rfl) rfl rfl ?_
      refine SL.nil (SE.seq ?_)
      refine SC.ret ?_
      refine SE.then_ (by intro h; cases h) ?_
      refine SE.fin (rs := [.tmp 4]) rfl (RV.tmp rfl RV.nil) (()) (by repeat first|exact s0 _|exact s1 _|apply s2|apply s3) (by simp [It.rids]) ?_
      first
        | (refine boo_i' ?_; rw [Frm.ranges_leaf, decide_eq_true_iff]; omega)
        | (refine boo_f' ?_; rw [Frm.ranges_leaf, decide_eq_false_iff_not]; omega)
    intro hc14
    refine SL.val (Val.fieldAddr tabOk rfl rfl rfl rfl rfl) rfl rfl ?_
    refine SL.val (Val.load1 tabOk rfl rfl (by first|(apply Or.inl;(repeat first|assumption|exact m0|apply m1);done)|(apply Or.inr;(repeat first|assumption|exact m0|apply m1);done)) List.not_mem_nil (by rfl)) rfl rfl ?_
    refine SL.val (Val.move rfl) rfl rfl ?_
    refine SL.val (Val.ltI rfl rfl) rfl rfl ?_
    refine SL.val (Val.pickT rfl rfl) rfl rfl ?_
    refine SL.val (Val.move rfl) rfl rfl ?_
    refine SL.bothP (t := 20) rfl ?_ ?_
    · intro hc20
      refine SL.val (Val.fieldAddr tabOk rfl rfl rfl rfl rfl) rfl rfl ?_
      refine SL.val (Val.load1 tabOk rfl rfl (by first|(apply Or.inl;(repeat first|assumption|exact m0|apply m1);done)|(apply Or.inr;(repeat first|assumption|exact m0|apply m1);done)) List.not_mem_nil (by rfl)) rfl rfl ?_
      refine SL.val (Val.eqI rfl rfl) rfl rfl ?_
      refine SL.val (Val.pickT rfl rfl) rfl rfl ?_
      refine SL.val (Val.assign rfl) rfl rfl ?_
      refine SL.nil (SE.seq ?_)
      refine SC.ret ?_
      refine SE.then_ (by intro h; cases h) ?_
      refine SE.fin (rs := [.tmp 4]) rfl (RV.tmp rfl RV.nil) (()) (by repeat first|exact s0 _|exact s1 _|apply s2|apply s3) (by simp [It.rids]) ?_
      first
        | (refine boo_i' ?_; rw [Frm.ranges_leaf, decide_eq_true_iff]; omega)
        | (refine boo_f' ?_; rw [Frm.ranges_leaf, decide_eq_false_iff_not]; omega)
    intro hc20
    iterate 3 refine SL.skip rfl rfl ?_
    refine SL.val (Val.pickF rfl rfl) rfl rfl ?_
    refine SL.val (Val.assign rfl) rfl rfl ?_
    refine SL.nil (SE.seq ?_)
    refine SC.ret ?_
    refine SE.then_ (by intro h; cases h) ?_
    refine SE.fin (rs := [.tmp 4]) rfl (RV.tmp rfl RV.nil) (()) (by repeat first|exact s0 _|exact s1 _|apply s2|apply s3) (by simp [It.rids]) ?_
    first
      | (refine boo_i' ?_; rw [Frm.ranges_leaf, decide_eq_true_iff]; omega)
      | (refine boo_f' ?_; rw [Frm.ranges_leaf, decide_eq_false_iff_not]; omega)
  intro hc10
  have hk0 : ks ≠ [] := by rintro rfl; simp at hc10
  refine SC.skip ?_
  refine SE.seq ?_
  refine SC.seq ?_
  refine SC.seq (SC.region ?_)
  refine SL.val (Val.fieldAddr tabOk rfl rfl rfl rfl rfl) rfl rfl ?_
  refine SL.val (Val.load1 tabOk rfl rfl (by first|(apply Or.inl;(repeat first|assumption|exact m0|apply m1);done)|(apply Or.inr;(repeat first|assumption|exact m0|apply m1);done)) List.not_mem_nil (by rfl)) rfl rfl ?_
  first
    | refine SL.val (Val.lenSl rfl Try.underlying43 (List.length_map _)) rfl rfl ?_
    | refine SL.val (Val.lenOwn rfl (by repeat first|assumption|exact m0|apply m1) Try.underlying43 (List.length_map _)) rfl rfl ?_
    | refine SL.val (Val.lenNil rfl Try.underlying43) rfl rfl ?_
  refine SL.val (Val.move rfl) rfl rfl ?_
  refine SL.nil (SE.seq ?_)
  refine SC.block ?_
  refine SC.loop (ι := Nat) (fun z => [.blk b2 45 [int o, int a, .sl 3 (ks.map Frm.abs)]]) (fun z => [(1, int n), (2, ptr b2), (26, .sl 3 (ks.map Frm.abs)), (27, int (ks.length : Nat)), (28, int (z : Nat))]) (fun z => z ≤ ks.length ∧ ∀ j (h : j < ks.length), j < z → ks[j].ranges n = true) (fun z => ks.length - z) (0) (⟨Nat.zero_le _, fun j h hj => by omega⟩) (by exact ⟨rfl, rfl, rfl, rfl, rfl, trivial⟩) (by repeat first|exact s0 _|exact s1 _|apply s2|apply s3) ?_
  intro z hz
  refine SC.seq (SC.region ?_)
  refine SL.val (Val.ltI rfl rfl) rfl rfl ?_
  refine SL.nil (SE.seq ?_)
  refine SC.seq ?_
  refine SC.condP rfl ?_ ?_
  · intro hc29
    have hlt : z < ks.length := by omega
    have hkz := Frm.nodes_mem (List.getElem_mem hlt)
    have hdz := Frm.depths_mem (List.getElem_mem hlt)
    have htn := Frm.take_nodes1 hlt
    have htd := Frm.take_depths1 hlt
    have htl := Frm.take_nodes (ks := ks) (z + 1)
    have hdn := Frm.depth_le (ks[z]'hlt)
    refine SC.skip ?_
    refine SE.seq ?_
    refine SC.seq ?_
    refine SC.block ?_
    refine SC.seq (SC.region ?_)
    refine SL.val (Val.indexSl tabOk Try.underlying43 rfl rfl rfl rfl (at_map (by omega)) rfl rfl) rfl rfl ?_
    refine SL.val (Val.loadAR tabOk rfl rfl rfl (Frm.abs_len _)) rfl rfl ?_
    refine SL.eff (Eff.alloc tabOk rfl) rfl rfl ?_
    rintro _ _ ⟨b6, rfl, rfl⟩
    refine SL.eff (Eff.store (L' := (ks[z]'hlt).abs) tabOk rfl rfl rfl (by repeat first|assumption|exact Upd.here|apply Upd.there) (by exact Frm.abs_len _) (Nat.le_of_ble_eq_true (by rfl)) (by exact Frm.abs_ones _) (putL_whole (by exact Frm.abs_len _))) rfl rfl ?_
    rintro _ _ ⟨rfl, rfl⟩
    refine SL.nil (SE.seq ?_)
    refine SC.seq (SC.region ?_)
    refine SL.val (Val.loadA tabOk rfl rfl rfl (by first|(apply Or.inl;(repeat first|assumption|exact m0|apply m1);done)|(apply Or.inr;(repeat first|assumption|exact m0|apply m1);done)) List.not_mem_nil (Frm.abs_len _)) rfl rfl ?_
    refine SL.val (Val.move rfl) rfl rfl ?_
    refine SL.call (ih (ks[z]'hlt) (List.getElem_mem hlt) (by omega)) Casts.refl (by kernel_rfl) rfl rfl rfl ?_
    refine After.pure (by repeat first|exact .nil|refine .blk (by repeat first|assumption|exact m0|apply m1) ?_|refine .rd (by repeat first|assumption|exact m0|apply m1) ?_|refine .pc (by repeat first|assumption|exact m0|apply m1) ?_|refine .rdpc (by repeat first|assumption|exact m0|apply m1) ?_) (fun _ => rfl) ?_
    intro _
    refine SL.val (Val.notB rfl) rfl rfl ?_
    refine SL.nil (SE.seq ?_)
    refine SC.cond rfl ?_ ?_
    rotate_left
    · intro hc35
      have hr : (ks[z]'hlt).ranges n = true := by simpa using hc35
      refine SC.skip ?_
      refine SE.inBlock ?_
      refine SE.seq ?_
      refine SC.region ?_
      first
        | refine SL.val (Val.addI rfl rfl (by simp only [InR, lo, hi]; omega)) rfl rfl ?_
        | refine SL.val (Val.addW rfl rfl) rfl rfl ?_
      refine SL.val (Val.move rfl) rfl rfl ?_
      refine SL.nil ?_
      refine SE.round (z + 1) (by first | omega | (dsimp only; omega)) (⟨by omega, fun j h hj => by
            rcases Nat.lt_or_ge j z with h1 | h1
            · exact hz.2 j h h1
            · obtain rfl : j = z := by omega
              exact hr⟩) (by exact ⟨rfl, rfl, rfl, rfl, rfl, trivial⟩) (by repeat first|exact s0 _|exact s1 _|apply s2|apply s3)
    intro hc35
    have hr : (ks[z]'hlt).ranges n = false := by simpa using hc35
    refine SC.seq (SC.region ?_)
    refine SL.val (Val.assign rfl) rfl rfl ?_
    refine SL.nil (SE.seq ?_)
    refine SC.ret ?_
    refine SE.ret ?_
    refine SE.then_ (by intro h; cases h) ?_
    refine SE.then_ (by intro h; cases h) ?_
    refine SE.ret ?_
    refine SE.then_ (by intro h; cases h) ?_
    refine SE.fin (rs := [.tmp 4]) rfl (RV.tmp rfl RV.nil) (()) (by repeat first|exact s0 _|exact s1 _|apply s2|apply s3) (by simp [It.rids]) ?_
    refine boo_f' ?_
    rw [Frm.ranges_node n o a hk0, Bool.and_eq_false_iff]
    left
    rw [Bool.eq_false_iff]
    intro h
    rw [Frm.rangess_iff] at h
    rw [h _ (List.getElem_mem hlt)] at hr
    cases hr
  intro hc29
  have hz2 : z = ks.length := by omega
  have htk : ks.take z = ks := by rw [hz2]; exact List.take_of_length_le (Nat.le_refl _)
  refine SC.exit ?_
  refine SE.then_ (by intro h; cases h) ?_
  refine SE.then_ (by intro h; cases h) ?_
  refine SE.exit ?_
  refine SE.seq ?_
  refine SC.seq (SC.region ?_)
  refine SL.val (Val.fieldAddr tabOk rfl rfl rfl rfl rfl) rfl rfl ?_
  refine SL.val (Val.load1 tabOk rfl rfl (by first|(apply Or.inl;(repeat first|assumption|exact m0|apply m1);done)|(apply Or.inr;(repeat first|assumption|exact m0|apply m1);done)) List.not_mem_nil (by rfl)) rfl rfl ?_
  refine SL.val (Val.geI rfl rfl) rfl rfl ?_
  refine SL.val (Val.move rfl) rfl rfl ?_
  refine SL.bothP (t := 40) rfl ?_ ?_
  rotate_left
  · intro hc40
    iterate 6 refine SL.skip rfl rfl ?_
    refine SL.val (Val.pickF rfl rfl) rfl rfl ?_
    refine SL.val (Val.move rfl) rfl rfl ?_
    iterate 3 refine SL.skip rfl rfl ?_
    refine SL.val (Val.pickF rfl rfl) rfl rfl ?_
    refine SL.val (Val.assign rfl) rfl rfl ?_
    refine SL.nil (SE.seq ?_)
    refine SC.ret ?_
    have hall : Frm.rangess n ks = true := by
      rw [Frm.rangess_iff]
      intro k hk
      obtain ⟨j, hj, rfl⟩ := List.getElem_of_mem hk
      exact hz.2 j hj (by omega)
    refine SE.fin (rs := [.tmp 4]) rfl (RV.tmp rfl RV.nil) (()) (by repeat first|exact s0 _|exact s1 _|apply s2|apply s3) (by simp [It.rids]) ?_
    first
      | (refine boo_i' ?_; rw [Frm.ranges_node n o a hk0, hall, Bool.true_and, decide_eq_true_iff]; omega)
      | (refine boo_f' ?_; rw [Frm.ranges_node n o a hk0, hall, Bool.true_and, decide_eq_false_iff_not]; omega)
  intro hc40
  refine SL.val (Val.fieldAddr tabOk rfl rfl rfl rfl rfl) rfl rfl ?_
  refine SL.val (Val.load1 tabOk rfl rfl (by first|(apply Or.inl;(repeat first|assumption|exact m0|apply m1);done)|(apply Or.inr;(repeat first|assumption|exact m0|apply m1);done)) List.not_mem_nil (by rfl)) rfl rfl ?_
  refine SL.val (Val.fieldAddr tabOk rfl rfl rfl rfl rfl) rfl rfl ?_
  refine SL.val (Val.load1 tabOk rfl rfl (by first|(apply Or.inl;(repeat first|assumption|exact m0|apply m1);done)|(apply Or.inr;(repeat first|assumption|exact m0|apply m1);done)) List.not_mem_nil (by rfl)) rfl rfl ?_
  first
    | refine SL.val (Val.lenSl rfl Try.underlying43 (List.length_map _)) rfl rfl ?_
    | refine SL.val (Val.lenOwn rfl (by repeat first|assumption|exact m0|apply m1) Try.underlying43 (List.length_map _)) rfl rfl ?_
    | refine SL.val (Val.lenNil rfl Try.underlying43) rfl rfl ?_
  refine SL.val (Val.leI rfl rfl) rfl rfl ?_
  refine SL.val (Val.pickT rfl rfl) rfl rfl ?_
  refine SL.val (Val.move rfl) rfl rfl ?_
  refine SL.bothP (t := 48) rfl ?_ ?_
  · intro hc48
    refine SL.val (Val.fieldAddr tabOk rfl rfl rfl rfl rfl) rfl rfl ?_
    refine SL.val (Val.load1 tabOk rfl rfl (by first|(apply Or.inl;(repeat first|assumption|exact m0|apply m1);done)|(apply Or.inr;(repeat first|assumption|exact m0|apply m1);done)) List.not_mem_nil (by rfl)) rfl rfl ?_
    refine SL.val (Val.eqI rfl rfl) rfl rfl ?_
    refine SL.val (Val.pickT rfl rfl) rfl rfl ?_
    refine SL.val (Val.assign rfl) rfl rfl ?_
    refine SL.nil (SE.seq ?_)
    refine SC.ret ?_
    have hall : Frm.rangess n ks = true := by
      rw [Frm.rangess_iff]
      intro k hk
      obtain ⟨j, hj, rfl⟩ := List.getElem_of_mem hk
      exact hz.2 j hj (by omega)
    refine SE.fin (rs := [.tmp 4]) rfl (RV.tmp rfl RV.nil) (()) (by repeat first|exact s0 _|exact s1 _|apply s2|apply s3) (by simp [It.rids]) ?_
    first
      | (refine boo_i' ?_; rw [Frm.ranges_node n o a hk0, hall, Bool.true_and, decide_eq_true_iff]; omega)
      | (refine boo_f' ?_; rw [Frm.ranges_node n o a hk0, hall, Bool.true_and, decide_eq_false_iff_not]; omega)
  intro hc48
  iterate 3 refine SL.skip rfl rfl ?_
  refine SL.val (Val.pickF rfl rfl) rfl rfl ?_
  refine SL.val (Val.assign rfl) rfl rfl ?_
  refine SL.nil (SE.seq ?_)
  refine SC.ret ?_
  have hall : Frm.rangess n ks = true := by
    rw [Frm.rangess_iff]
    intro k hk
    obtain ⟨j, hj, rfl⟩ := List.getElem_of_mem hk
    exact hz.2 j hj (by omega)
  refine SE.fin (rs := [.tmp 4]) rfl (RV.tmp rfl RV.nil) (()) (by repeat first|exact s0 _|exact s1 _|apply s2|apply s3) (by simp [It.rids]) ?_
  first
    | (refine boo_i' ?_; rw [Frm.ranges_node n o a hk0, hall, Bool.true_and, decide_eq_true_iff]; omega)
    | (refine boo_f' ?_; rw [Frm.ranges_node n o a hk0, hall, Bool.true_and, decide_eq_false_iff_not]; omega)
theorem ranges_s (n : Int) (f : Frm) : f.nodes ≤ 1099511627776 → Spec Try.prog 34 [.agg f.abs, int n] [] (fun _ : Unit => []) (fun _ => boo (f.ranges n)) := Frm.ind (p := fun f => f.nodes ≤ 1099511627776 → Spec Try.prog 34 [.agg f.abs, int n] [] (fun _ : Unit => []) (fun _ => boo (f.ranges n))) (fun o a ks ih => fun hn => ranges_step ih hn) f
theorem indexFunc_frm {xs : List Frm} {p : Frm → Bool} {k : Nat} {caps : List Abs} {σ : Blks} (hb : goesIn Try.prog k = true) (hr : Rds σ) (hn : xs.length < 9223372036854775807) (h : ∀ x ∈ xs, Spec Try.prog k (.agg (Frm.abs x) :: caps) σ (fun _ : Unit => []) (fun _ => boo (p x))) : Spec Try.prog 58 [.sl 3 (xs.map Frm.abs), .fn (.func k) [] caps] σ (fun _ : {r : Int // 0 ≤ r ↔ ∃ x ∈ xs, p x = true} => []) (fun z => int z.1) := by
  refine spec_of Try.func58 rfl Try.ntmps58 rfl fun G w => ?_
  refine SC.seq (SC.region ?_)
  refine SL.val (Val.assign rfl) rfl rfl ?_
  refine SL.nil (SE.seq ?_)
  refine SC.seq ?_
  refine SC.seq (SC.region ?_)
  refine SL.val (Val.move rfl) rfl rfl ?_
  first
    | refine SL.val (Val.lenSl rfl Try.underlying43 (List.length_map _)) rfl rfl ?_
    | refine SL.val (Val.lenOwn rfl (by repeat first|assumption|exact m0|apply m1) Try.underlying43 (List.length_map _)) rfl rfl ?_
    | refine SL.val (Val.lenNil rfl Try.underlying43) rfl rfl ?_
  refine SL.val (Val.move rfl) rfl rfl ?_
  refine SL.nil (SE.seq ?_)
  refine SC.block ?_
  refine SC.loop (ι := Nat) (fun z => σ) (fun z => [(0, .sl 3 (xs.map Frm.abs)), (1, .fn (.func k) [] caps), (7, int (xs.length : Nat)), (8, int (z : Nat))]) (fun z => z ≤ xs.length ∧ ∀ j (hj : j < xs.length), j < z → p xs[j] = false) (fun z => xs.length - z) (0) (⟨Nat.zero_le _, by omega⟩) (by exact ⟨rfl, rfl, rfl, rfl, trivial⟩) (by repeat first|exact s0 _|exact s1 _|apply s2|apply s3) ?_
  intro z hz
  refine SC.seq (SC.region ?_)
  refine SL.val (Val.ltI rfl rfl) rfl rfl ?_
  refine SL.nil (SE.seq ?_)
  refine SC.seq ?_
  refine SC.condP rfl ?_ ?_
  rotate_left
  · intro hc9
    refine SC.exit ?_
    refine SE.then_ (by intro h; cases h) ?_
    refine SE.then_ (by intro h; cases h) ?_
    refine SE.exit ?_
    refine SE.seq ?_
    refine SC.seq (SC.region ?_)
    refine SL.val (Val.assign rfl) rfl rfl ?_
    refine SL.nil (SE.seq ?_)
    refine SC.ret ?_
    refine SE.fin (rs := [.tmp 4]) rfl (RV.tmp rfl RV.nil) (⟨-1, ⟨fun h => (by omega), fun ⟨x, hx, hp⟩ => by obtain ⟨j, hj, rfl⟩ := List.getElem_of_mem hx; have := hz.2 j hj (by omega); rw [this] at hp; cases hp⟩⟩) (by repeat first|exact s0 _|exact s1 _|apply s2|apply s3) (by simp [It.rids]) ?_
    exact rfl
  intro hc9
  have hlt : z < xs.length := by omega
  refine SC.skip ?_
  refine SE.seq ?_
  refine SC.seq ?_
  refine SC.block ?_
  refine SC.seq (SC.region ?_)
  refine SL.val (Val.move rfl) rfl rfl ?_
  refine SL.val (Val.assign rfl) rfl rfl ?_
  refine SL.nil (SE.seq ?_)
  refine SC.seq (SC.region ?_)
  refine SL.val (Val.move rfl) rfl rfl ?_
  refine SL.val (Val.move rfl) rfl rfl ?_
  refine SL.val (Val.move rfl) rfl rfl ?_
  refine SL.val (Val.indexSl tabOk Try.underlying43 rfl rfl rfl rfl (at_map (by omega)) rfl rfl) rfl rfl ?_
  refine SL.val (Val.loadAR tabOk rfl rfl rfl (Frm.abs_len _)) rfl rfl ?_
  refine SL.callv (h _ (List.getElem_mem hlt)) rfl Casts.refl hb rfl rfl rfl ?_
  refine After.pure (Rds.reads hr (fun x hx => by repeat (first | exact hx | apply List.mem_cons_of_mem))) (fun _ => rfl) ?_
  intro _
  refine SL.nil (SE.seq ?_)
  refine SC.cond rfl ?_ ?_
  rotate_left
  · intro hc16
    refine SC.skip ?_
    refine SE.inBlock ?_
    refine SE.seq ?_
    refine SC.region ?_
    first
      | refine SL.val (Val.addI rfl rfl (by simp only [InR, lo, hi]; omega)) rfl rfl ?_
      | refine SL.val (Val.addW rfl rfl) rfl rfl ?_
    refine SL.val (Val.move rfl) rfl rfl ?_
    refine SL.nil ?_
    refine SE.round (z + 1) (by first | omega | (dsimp only; omega)) (⟨by omega, fun j hj hjz => by rcases Nat.lt_or_ge j z with h1 | h1; exact hz.2 j hj h1; obtain rfl : j = z := (by omega); exact hc16⟩) (by exact ⟨rfl, rfl, rfl, rfl, trivial⟩) (by repeat first|exact s0 _|exact s1 _|apply s2|apply s3)
  intro hc16
  refine SC.seq (SC.region ?_)
  refine SL.val (Val.move rfl) rfl rfl ?_
  refine SL.val (Val.assign rfl) rfl rfl ?_
  refine SL.nil (SE.seq ?_)
  refine SC.ret ?_
  refine SE.ret ?_
  refine SE.then_ (by intro h; cases h) ?_
  refine SE.then_ (by intro h; cases h) ?_
  refine SE.ret ?_
  refine SE.then_ (by intro h; cases h) ?_
  refine SE.fin (rs := [.tmp 4]) rfl (RV.tmp rfl RV.nil) (⟨(z : Nat), ⟨fun _ => ⟨_, List.getElem_mem hlt, hc16⟩, fun _ => (by omega)⟩⟩) (by repeat first|exact s0 _|exact s1 _|apply s2|apply s3) (by simp [It.rids]) ?_
  exact rfl
theorem containsFunc_frm {xs : List Frm} {p : Frm → Bool} {k : Nat} {caps : List Abs} {σ : Blks} (hb : goesIn Try.prog k = true) (hr : Rds σ) (hn : xs.length < 9223372036854775807) (h : ∀ x ∈ xs, Spec Try.prog k (.agg (Frm.abs x) :: caps) σ (fun _ : Unit => []) (fun _ => boo (p x))) : Spec Try.prog 55 [.sl 3 (xs.map Frm.abs), .fn (.func k) [] caps] σ (fun _ : Unit => []) (fun _ => boo (xs.any p)) := by
  refine spec_of Try.func55 rfl Try.ntmps55 rfl fun G w => ?_
  refine SC.seq (SC.region ?_)
  refine SL.val (Val.assign rfl) rfl rfl ?_
  refine SL.nil (SE.seq ?_)
  refine SC.seq (SC.region ?_)
  refine SL.val (Val.move rfl) rfl rfl ?_
  refine SL.val (Val.move rfl) rfl rfl ?_
  refine SL.call (indexFunc_frm hb hr hn h) Casts.refl (by kernel_rfl) rfl rfl rfl ?_
  refine After.pure (Rds.reads hr (fun x hx => by repeat (first | exact hx | apply List.mem_cons_of_mem))) (fun _ => rfl) ?_
  intro r
  refine SL.val (Val.geI rfl rfl) rfl rfl ?_
  refine SL.val (Val.assign rfl) rfl rfl ?_
  refine SL.nil (SE.seq ?_)
  refine SC.ret ?_
  refine SE.fin (rs := [.tmp 4]) rfl (RV.tmp rfl RV.nil) (()) (by repeat first|exact s0 _|exact s1 _|apply s2|apply s3) (by simp [It.rids]) ?_
  refine congrArg (fun b => Abs.v (Value.bool b)) ?_
  rw [Bool.eq_iff_iff, decide_eq_true_iff, r.2, List.any_eq_true]
theorem odd1_s {p : Nat} (h : Spec Try.prog 48 [.agg f.abs, int n] [] (fun _ : Unit => []) (fun _ => boo (!f.ranges n))) : Spec Try.prog 56 [.agg f.abs, ptr p] [.rd p 3 [int n]] (fun _ : Unit => []) (fun _ => boo (!f.ranges n)) := by
  refine spec_of Try.func56 rfl Try.ntmps56 rfl fun G w => ?_
  refine SC.seq (SC.region ?_)
  refine SL.eff (Eff.boxA (cs := f.abs) rfl) rfl rfl ?_
  rintro _ _ ⟨b2, rfl, rfl⟩
  refine SL.val (Val.assign rfl) rfl rfl ?_
  refine SL.nil (SE.seq ?_)
  refine SC.seq (SC.region ?_)
  refine SL.val (Val.loadA tabOk rfl rfl rfl (by first|(apply Or.inl;(repeat first|assumption|exact m0|apply m1);done)|(apply Or.inr;(repeat first|assumption|exact m0|apply m1);done)) List.not_mem_nil (Frm.abs_len _)) rfl rfl ?_
  refine SL.val (Val.load1 tabOk rfl rfl (by first|(apply Or.inl;(repeat first|assumption|exact m0|apply m1);done)|(apply Or.inr;(repeat first|assumption|exact m0|apply m1);done)) List.not_mem_nil (by rfl)) rfl rfl ?_
  refine SL.call (h) Casts.refl (by kernel_rfl) rfl rfl rfl ?_
  refine After.pure Reads.nil (fun _ => rfl) ?_
  intro _
  refine SL.val (Val.assign rfl) rfl rfl ?_
  refine SL.nil (SE.seq ?_)
  refine SC.ret ?_
  refine SE.fin (rs := [.tmp 3]) rfl (RV.tmp rfl RV.nil) (()) (by repeat first|exact s0 _|exact s1 _|apply s2|apply s3) (by simp [It.rids]) ?_
  exact rfl
set_option maxHeartbeats 1000000 in
theorem odd_step (ih : ∀ k ∈ ks, k.nodes ≤ 1099511627776 → Spec Try.prog 48 [.agg k.abs, int n] [] (fun _ : Unit => []) (fun _ => boo (!k.ranges n))) (hn : (Frm.mk o a ks).nodes ≤ 1099511627776) : Spec Try.prog 48 [.agg (Frm.mk o a ks).abs, int n] [] (fun _ : Unit => []) (fun _ => boo (!(Frm.mk o a ks).ranges n)) := by
  rw [Frm.abs_mk]
  have hlen := Frm.length_le ks
  rw [Frm.nodes_mk] at hn
  refine spec_of Try.func48 rfl Try.ntmps48 rfl fun G w => ?_
  refine SC.seq (SC.region ?_)
  refine SL.eff (Eff.boxA rfl) rfl rfl ?_
  rintro _ _ ⟨b2, rfl, rfl⟩
  refine SL.eff (Eff.box1 rfl rfl) rfl rfl ?_
  rintro _ _ ⟨b3, rfl, rfl⟩
  refine SL.val (Val.assign rfl) rfl rfl ?_
  refine SL.nil (SE.seq ?_)
  refine SC.seq ?_
  refine SC.seq (SC.region ?_)
  refine SL.val (Val.fieldAddr tabOk rfl rfl rfl rfl rfl) rfl rfl ?_
  refine SL.val (Val.load1 tabOk rfl rfl (by first|(apply Or.inl;(repeat first|assumption|exact m0|apply m1);done)|(apply Or.inr;(repeat first|assumption|exact m0|apply m1);done)) List.not_mem_nil (by rfl)) rfl rfl ?_
  first
    | refine SL.val (Val.lenSl rfl Try.underlying43 (List.length_map _)) rfl rfl ?_
    | refine SL.val (Val.lenOwn rfl (by repeat first|assumption|exact m0|apply m1) Try.underlying43 (List.length_map _)) rfl rfl ?_
    | refine SL.val (Val.lenNil rfl Try.underlying43) rfl rfl ?_
  refine SL.val (Val.eqI rfl rfl) rfl rfl ?_
  refine SL.nil (SE.seq ?_)
  refine SC.condP rfl ?_ ?_
  · intro hc8
    have hk0 : ks = [] := List.eq_nil_of_length_eq_zero (by omega)
    subst hk0
    refine SC.seq (SC.region ?_)
    refine SL.val (Val.fieldAddr tabOk rfl rfl rfl rfl rfl) rfl rfl ?_
    refine SL.val (Val.load1 tabOk rfl rfl (by first|(apply Or.inl;(repeat first|assumption|exact m0|apply m1);done)|(apply Or.inr;(repeat first|assumption|exact m0|apply m1);done)) List.not_mem_nil (by rfl)) rfl rfl ?_
    refine SL.val (Val.neI rfl rfl) rfl rfl ?_
    refine SL.val (Val.move rfl) rfl rfl ?_
    refine SL.bothP (t := 12) rfl ?_ ?_
    · intro hc12
      iterate 3 refine SL.skip rfl rfl ?_
      refine SL.val (Val.pickT rfl rfl) rfl rfl ?_
      refine SL.val (Val.move rfl) rfl rfl ?_
      iterate 4 refine SL.skip rfl rfl ?_
      refine SL.val (Val.pickT rfl rfl) rfl rfl ?_
      refine SL.val (Val.assign rfl) rfl rfl ?_
      refine SL.nil (SE.seq ?_)
      refine SC.ret ?_
      refine SE.then_ (by intro h; cases h) ?_
      refine SE.fin (rs := [.tmp 4]) rfl (RV.tmp rfl RV.nil) (()) (by repeat first|exact s0 _|exact s1 _|apply s2|apply s3) (by simp [It.rids]) ?_
      first
        | (refine boo_i' ?_; rw [Frm.ranges_leaf, Bool.not_eq_true', decide_eq_false_iff_not]; omega)
        | (refine boo_t' ?_; rw [Frm.ranges_leaf, Bool.not_eq_true', decide_eq_false_iff_not]; omega)
    intro hc12
    refine SL.val (Val.fieldAddr tabOk rfl rfl rfl rfl rfl) rfl rfl ?_
    refine SL.val (Val.load1 tabOk rfl rfl (by first|(apply Or.inl;(repeat first|assumption|exact m0|apply m1);done)|(apply Or.inr;(repeat first|assumption|exact m0|apply m1);done)) List.not_mem_nil (by rfl)) rfl rfl ?_
    refine SL.val (Val.ltI rfl rfl) rfl rfl ?_
    refine SL.val (Val.pickF rfl rfl) rfl rfl ?_
    refine SL.val (Val.move rfl) rfl rfl ?_
    refine SL.bothP (t := 17) rfl ?_ ?_
    · intro hc17
      iterate 4 refine SL.skip rfl rfl ?_
      refine SL.val (Val.pickT rfl rfl) rfl rfl ?_
      refine SL.val (Val.assign rfl) rfl rfl ?_
      refine SL.nil (SE.seq ?_)
      refine SC.ret ?_
      refine SE.then_ (by intro h; cases h) ?_
      refine SE.fin (rs := [.tmp 4]) rfl (RV.tmp rfl RV.nil) (()) (by repeat first|exact s0 _|exact s1 _|apply s2|apply s3) (by simp [It.rids]) ?_
      first
        | (refine boo_i' ?_; rw [Frm.ranges_leaf, Bool.not_eq_true', decide_eq_false_iff_not]; omega)
        | (refine boo_t' ?_; rw [Frm.ranges_leaf, Bool.not_eq_true', decide_eq_false_iff_not]; omega)
    intro hc17
    refine SL.val (Val.fieldAddr tabOk rfl rfl rfl rfl rfl) rfl rfl ?_
    refine SL.val (Val.load1 tabOk rfl rfl (by first|(apply Or.inl;(repeat first|assumption|exact m0|apply m1);done)|(apply Or.inr;(repeat first|assumption|exact m0|apply m1);done)) List.not_mem_nil (by rfl)) rfl rfl ?_
    refine SL.val (Val.load1 tabOk rfl rfl (by first|(apply Or.inl;(repeat first|assumption|exact m0|apply m1);done)|(apply Or.inr;(repeat first|assumption|exact m0|apply m1);done)) List.not_mem_nil (by rfl)) rfl rfl ?_
    refine SL.val (Val.geI rfl rfl) rfl rfl ?_
    refine SL.val (Val.pickF rfl rfl) rfl rfl ?_
    refine SL.val (Val.assign rfl) rfl rfl ?_
    refine SL.nil (SE.seq ?_)
    refine SC.ret ?_
    refine SE.then_ (by intro h; cases h) ?_
    refine SE.fin (rs := [.tmp 4]) rfl (RV.tmp rfl RV.nil) (()) (by repeat first|exact s0 _|exact s1 _|apply s2|apply s3) (by simp [It.rids]) ?_
    first
      | (refine boo_i' ?_; rw [Frm.ranges_leaf, Bool.not_eq_true', decide_eq_false_iff_not]; omega)
      | (refine boo_t' ?_; rw [Frm.ranges_leaf, Bool.not_eq_true', decide_eq_false_iff_not]; omega)
  intro hc8
  have hk0 : ks ≠ [] := by rintro rfl; simp at hc8
  refine SC.skip ?_
  refine SE.seq ?_
  refine SC.seq (SC.region ?_)
  refine SL.val (Val.fieldAddr tabOk rfl rfl rfl rfl rfl) rfl rfl ?_
  refine SL.val (Val.load1 tabOk rfl rfl (by first|(apply Or.inl;(repeat first|assumption|exact m0|apply m1);done)|(apply Or.inr;(repeat first|assumption|exact m0|apply m1);done)) List.not_mem_nil (by rfl)) rfl rfl ?_
  refine SL.val (Val.neI rfl rfl) rfl rfl ?_
  refine SL.val (Val.move rfl) rfl rfl ?_
  refine SL.bothP (t := 26) rfl ?_ ?_
  · intro hc26
    iterate 3 refine SL.skip rfl rfl ?_
    refine SL.val (Val.pickT rfl rfl) rfl rfl ?_
    refine SL.val (Val.move rfl) rfl rfl ?_
    iterate 6 refine SL.skip rfl rfl ?_
    refine SL.val (Val.pickT rfl rfl) rfl rfl ?_
    refine SL.val (Val.move rfl) rfl rfl ?_
    iterate 4 refine SL.skip rfl rfl ?_
    refine SL.val (Val.pickT rfl rfl) rfl rfl ?_
    refine SL.val (Val.assign rfl) rfl rfl ?_
    refine SL.nil (SE.seq ?_)
    refine SC.ret ?_
    refine SE.fin (rs := [.tmp 4]) rfl (RV.tmp rfl RV.nil) (()) (by repeat first|exact s0 _|exact s1 _|apply s2|apply s3) (by simp [It.rids]) ?_
    first
      | (refine boo_t' ?_; rw [Frm.ranges_node n o a hk0, Bool.not_eq_true', Bool.and_eq_false_iff, decide_eq_false_iff_not]; right; omega)
      | (show boo (ks.any fun f => !f.ranges n) = _; refine congrArg (fun b => Abs.v (Value.bool b)) ?_; rw [Frm.ranges_node n o a hk0, show decide (1 ≤ a ∧ a ≤ ((ks.length : Nat) : Int) ∧ o = 0) = true from decide_eq_true (by omega), Bool.and_true, Bool.eq_iff_iff, List.any_eq_true, Bool.not_eq_true', Bool.eq_false_iff, ne_eq, Frm.rangess_iff]; simp)
  intro hc26
  refine SL.val (Val.fieldAddr tabOk rfl rfl rfl rfl rfl) rfl rfl ?_
  refine SL.val (Val.load1 tabOk rfl rfl (by first|(apply Or.inl;(repeat first|assumption|exact m0|apply m1);done)|(apply Or.inr;(repeat first|assumption|exact m0|apply m1);done)) List.not_mem_nil (by rfl)) rfl rfl ?_
  refine SL.val (Val.ltI rfl rfl) rfl rfl ?_
  refine SL.val (Val.pickF rfl rfl) rfl rfl ?_
  refine SL.val (Val.move rfl) rfl rfl ?_
  refine SL.bothP (t := 31) rfl ?_ ?_
  · intro hc31
    iterate 6 refine SL.skip rfl rfl ?_
    refine SL.val (Val.pickT rfl rfl) rfl rfl ?_
    refine SL.val (Val.move rfl) rfl rfl ?_
    iterate 4 refine SL.skip rfl rfl ?_
    refine SL.val (Val.pickT rfl rfl) rfl rfl ?_
    refine SL.val (Val.assign rfl) rfl rfl ?_
    refine SL.nil (SE.seq ?_)
    refine SC.ret ?_
    refine SE.fin (rs := [.tmp 4]) rfl (RV.tmp rfl RV.nil) (()) (by repeat first|exact s0 _|exact s1 _|apply s2|apply s3) (by simp [It.rids]) ?_
    first
      | (refine boo_t' ?_; rw [Frm.ranges_node n o a hk0, Bool.not_eq_true', Bool.and_eq_false_iff, decide_eq_false_iff_not]; right; omega)
      | (show boo (ks.any fun f => !f.ranges n) = _; refine congrArg (fun b => Abs.v (Value.bool b)) ?_; rw [Frm.ranges_node n o a hk0, show decide (1 ≤ a ∧ a ≤ ((ks.length : Nat) : Int) ∧ o = 0) = true from decide_eq_true (by omega), Bool.and_true, Bool.eq_iff_iff, List.any_eq_true, Bool.not_eq_true', Bool.eq_false_iff, ne_eq, Frm.rangess_iff]; simp)
  intro hc31
  refine SL.val (Val.fieldAddr tabOk rfl rfl rfl rfl rfl) rfl rfl ?_
  refine SL.val (Val.load1 tabOk rfl rfl (by first|(apply Or.inl;(repeat first|assumption|exact m0|apply m1);done)|(apply Or.inr;(repeat first|assumption|exact m0|apply m1);done)) List.not_mem_nil (by rfl)) rfl rfl ?_
  refine SL.val (Val.fieldAddr tabOk rfl rfl rfl rfl rfl) rfl rfl ?_
  refine SL.val (Val.load1 tabOk rfl rfl (by first|(apply Or.inl;(repeat first|assumption|exact m0|apply m1);done)|(apply Or.inr;(repeat first|assumption|exact m0|apply m1);done)) List.not_mem_nil (by rfl)) rfl rfl ?_
  first
    | refine SL.val (Val.lenSl rfl Try.underlying43 (List.length_map _)) rfl rfl ?_
    | refine SL.val (Val.lenOwn rfl (by repeat first|assumption|exact m0|apply m1) Try.underlying43 (List.length_map _)) rfl rfl ?_
    | refine SL.val (Val.lenNil rfl Try.underlying43) rfl rfl ?_
  refine SL.val (Val.gtI rfl rfl) rfl rfl ?_
  refine SL.val (Val.pickF rfl rfl) rfl rfl ?_
  refine SL.val (Val.move rfl) rfl rfl ?_
  refine SL.bothP (t := 39) rfl ?_ ?_
  · intro hc39
    iterate 4 refine SL.skip rfl rfl ?_
    refine SL.val (Val.pickT rfl rfl) rfl rfl ?_
    refine SL.val (Val.assign rfl) rfl rfl ?_
    refine SL.nil (SE.seq ?_)
    refine SC.ret ?_
    refine SE.fin (rs := [.tmp 4]) rfl (RV.tmp rfl RV.nil) (()) (by repeat first|exact s0 _|exact s1 _|apply s2|apply s3) (by simp [It.rids]) ?_
    first
      | (refine boo_t' ?_; rw [Frm.ranges_node n o a hk0, Bool.not_eq_true', Bool.and_eq_false_iff, decide_eq_false_iff_not]; right; omega)
      | (show boo (ks.any fun f => !f.ranges n) = _; refine congrArg (fun b => Abs.v (Value.bool b)) ?_; rw [Frm.ranges_node n o a hk0, show decide (1 ≤ a ∧ a ≤ ((ks.length : Nat) : Int) ∧ o = 0) = true from decide_eq_true (by omega), Bool.and_true, Bool.eq_iff_iff, List.any_eq_true, Bool.not_eq_true', Bool.eq_false_iff, ne_eq, Frm.rangess_iff]; simp)
  intro hc39
  refine SL.val (Val.fieldAddr tabOk rfl rfl rfl rfl rfl) rfl rfl ?_
  refine SL.val (Val.load1 tabOk rfl rfl (by first|(apply Or.inl;(repeat first|assumption|exact m0|apply m1);done)|(apply Or.inr;(repeat first|assumption|exact m0|apply m1);done)) List.not_mem_nil (by rfl)) rfl rfl ?_
  refine SL.val (Val.makeFunc rfl rfl) rfl rfl ?_
  refine SL.call (containsFunc_frm (xs := ks) (k := 56) (caps := [ptr b3]) (σ := [.rd b3 3 [int n]]) (p := fun f : Frm => !f.ranges n) (by kernel_rfl) (by intro x hx; simp only [List.mem_cons, List.not_mem_nil, or_false] at hx; rcases hx with rfl; exact .inl ⟨_, _, _, rfl⟩) (by omega) (fun k hk => odd1_s (ih k hk (by have := Frm.nodes_mem hk; omega)))) Casts.refl (by kernel_rfl) rfl rfl rfl ?_
  refine After.pure (by repeat first|exact .nil|refine .blk (by repeat first|assumption|exact m0|apply m1) ?_|refine .rd (by repeat first|assumption|exact m0|apply m1) ?_|refine .pc (by repeat first|assumption|exact m0|apply m1) ?_|refine .rdpc (by repeat first|assumption|exact m0|apply m1) ?_) (fun _ => rfl) ?_
  intro _
  refine SL.val (Val.pickF rfl rfl) rfl rfl ?_
  refine SL.val (Val.assign rfl) rfl rfl ?_
  refine SL.nil (SE.seq ?_)
  refine SC.ret ?_
  refine SE.fin (rs := [.tmp 4]) rfl (RV.tmp rfl RV.nil) (()) (by repeat first|exact s0 _|exact s1 _|apply s2|apply s3) (by simp [It.rids]) ?_
  first
    | (refine boo_t' ?_; rw [Frm.ranges_node n o a hk0, Bool.not_eq_true', Bool.and_eq_false_iff, decide_eq_false_iff_not]; right; omega)
    | (show boo (ks.any fun f => !f.ranges n) = _; refine congrArg (fun b => Abs.v (Value.bool b)) ?_; rw [Frm.ranges_node n o a hk0, show decide (1 ≤ a ∧ a ≤ ((ks.length : Nat) : Int) ∧ o = 0) = true from decide_eq_true (by omega), Bool.and_true, Bool.eq_iff_iff, List.any_eq_true, Bool.not_eq_true', Bool.eq_false_iff, ne_eq, Frm.rangess_iff]; simp)
theorem odd_s (n : Int) (f : Frm) : f.nodes ≤ 1099511627776 → Spec Try.prog 48 [.agg f.abs, int n] [] (fun _ : Unit => []) (fun _ => boo (!f.ranges n)) := Frm.ind (p := fun f => f.nodes ≤ 1099511627776 → Spec Try.prog 48 [.agg f.abs, int n] [] (fun _ : Unit => []) (fun _ => boo (!f.ranges n))) (fun o a ks ih => fun hn => odd_step ih hn) f
theorem fcheck_s (hn : f.nodes ≤ 1099511627000) : Spec Try.prog 36 [.agg f.abs, int n] [] (fun _ : Unit => []) (fun _ => int (f.check n)) := by
  have hdp := f.depth_le
  refine spec_of Try.func36 rfl Try.ntmps36 rfl fun G w => ?_
  refine SC.seq (SC.region ?_)
  refine SL.eff (Eff.boxA (cs := f.abs) rfl) rfl rfl ?_
  rintro _ _ ⟨b2, rfl, rfl⟩
  refine SL.val (Val.assign rfl) rfl rfl ?_
  refine SL.nil (SE.seq ?_)
  refine SC.seq ?_
  refine SC.seq (SC.region ?_)
  refine SL.val (Val.move rfl) rfl rfl ?_
  refine SL.val (Val.ltI rfl rfl) rfl rfl ?_
  refine SL.val (Val.move rfl) rfl rfl ?_
  refine SL.bothP (t := 9) rfl ?_ ?_
  · intro hc9
    iterate 2 refine SL.skip rfl rfl ?_
    refine SL.val (Val.pickT rfl rfl) rfl rfl ?_
    refine SL.nil (SE.seq ?_)
    refine SC.condT rfl ?_
    refine SC.seq (SC.region ?_)
    refine SL.val (Val.assign rfl) rfl rfl ?_
    refine SL.nil (SE.seq ?_)
    refine SC.ret ?_
    refine SE.then_ (by intro h; cases h) ?_
    try have hr := hc24
    refine SE.fin (rs := [.tmp 4]) rfl (RV.tmp rfl RV.nil) (()) (by repeat first|exact s0 _|exact s1 _|apply s2|apply s3) (by simp [It.rids]) ?_
    first
      | (refine congrArg int ?_; unfold Frm.check; rw [if_pos (by omega)])
      | (refine congrArg int ?_; unfold Frm.check; rw [if_neg (by omega), if_pos (by omega)])
      | (refine congrArg int ?_; unfold Frm.check; rw [if_neg (by omega), if_neg (by omega), if_pos (by omega)])
      | (refine congrArg int ?_; unfold Frm.check; rw [if_neg (by omega), if_neg (by omega), if_neg (by omega)]; rename_i hr; simp at hr; simp [hr])
  intro hc9
  refine SL.val (Val.move rfl) rfl rfl ?_
  refine SL.val (Val.gtI rfl rfl) rfl rfl ?_
  refine SL.val (Val.pickF rfl rfl) rfl rfl ?_
  refine SL.nil (SE.seq ?_)
  refine SC.condP rfl ?_ ?_
  · intro hc12
    refine SC.seq (SC.region ?_)
    refine SL.val (Val.assign rfl) rfl rfl ?_
    refine SL.nil (SE.seq ?_)
    refine SC.ret ?_
    refine SE.then_ (by intro h; cases h) ?_
    try have hr := hc24
    refine SE.fin (rs := [.tmp 4]) rfl (RV.tmp rfl RV.nil) (()) (by repeat first|exact s0 _|exact s1 _|apply s2|apply s3) (by simp [It.rids]) ?_
    first
      | (refine congrArg int ?_; unfold Frm.check; rw [if_pos (by omega)])
      | (refine congrArg int ?_; unfold Frm.check; rw [if_neg (by omega), if_pos (by omega)])
      | (refine congrArg int ?_; unfold Frm.check; rw [if_neg (by omega), if_neg (by omega), if_pos (by omega)])
      | (refine congrArg int ?_; unfold Frm.check; rw [if_neg (by omega), if_neg (by omega), if_neg (by omega)]; rename_i hr; simp at hr; simp [hr])
  intro hc12
  refine SC.skip ?_
  refine SE.seq ?_
  refine SC.seq ?_
  refine SC.seq (SC.region ?_)
  refine SL.val (Val.loadA tabOk rfl rfl rfl (by first|(apply Or.inl;(repeat first|assumption|exact m0|apply m1);done)|(apply Or.inr;(repeat first|assumption|exact m0|apply m1);done)) List.not_mem_nil (Frm.abs_len _)) rfl rfl ?_
  refine SL.call (shape_s f 1 (by omega) (by omega) (by omega)) Casts.refl (by kernel_rfl) rfl rfl rfl ?_
  refine After.pure (by repeat first|exact .nil|refine .blk (by repeat first|assumption|exact m0|apply m1) ?_|refine .rd (by repeat first|assumption|exact m0|apply m1) ?_|refine .pc (by repeat first|assumption|exact m0|apply m1) ?_|refine .rdpc (by repeat first|assumption|exact m0|apply m1) ?_) (fun _ => rfl) ?_
  intro _
  refine SL.val (Val.move rfl) rfl rfl ?_
  refine SL.val (Val.extract rfl rfl) rfl rfl ?_
  refine SL.val (Val.extract rfl rfl) rfl rfl ?_
  refine SL.val (Val.assign rfl) rfl rfl ?_
  refine SL.val (Val.assign rfl) rfl rfl ?_
  refine SL.nil (SE.seq ?_)
  refine SC.block ?_
  refine SC.seq (SC.region ?_)
  refine SL.val (Val.move rfl) rfl rfl ?_
  refine SL.val (Val.gtI rfl rfl) rfl rfl ?_
  refine SL.val (Val.assign rfl) rfl rfl ?_
  refine SL.nil (SE.seq ?_)
  refine SC.condP rfl ?_ ?_
  · intro hc18
    refine SC.seq (SC.region ?_)
    refine SL.val (Val.assign rfl) rfl rfl ?_
    refine SL.nil (SE.seq ?_)
    refine SC.ret ?_
    refine SE.ret ?_
    refine SE.then_ (by intro h; cases h) ?_
    try have hr := hc24
    refine SE.fin (rs := [.tmp 4]) rfl (RV.tmp rfl RV.nil) (()) (by repeat first|exact s0 _|exact s1 _|apply s2|apply s3) (by simp [It.rids]) ?_
    first
      | (refine congrArg int ?_; unfold Frm.check; rw [if_pos (by omega)])
      | (refine congrArg int ?_; unfold Frm.check; rw [if_neg (by omega), if_pos (by omega)])
      | (refine congrArg int ?_; unfold Frm.check; rw [if_neg (by omega), if_neg (by omega), if_pos (by omega)])
      | (refine congrArg int ?_; unfold Frm.check; rw [if_neg (by omega), if_neg (by omega), if_neg (by omega)]; rename_i hr; simp at hr; simp [hr])
  intro hc18
  refine SC.seq (SC.region ?_)
  refine SL.val (Val.move rfl) rfl rfl ?_
  refine SL.val (Val.gtI rfl rfl) rfl rfl ?_
  refine SL.val (Val.assign rfl) rfl rfl ?_
  refine SL.nil (SE.seq ?_)
  refine SC.condP rfl ?_ ?_
  · intro hc21
    refine SC.seq (SC.region ?_)
    refine SL.val (Val.assign rfl) rfl rfl ?_
    refine SL.nil (SE.seq ?_)
    refine SC.ret ?_
    refine SE.ret ?_
    refine SE.then_ (by intro h; cases h) ?_
    try have hr := hc24
    refine SE.fin (rs := [.tmp 4]) rfl (RV.tmp rfl RV.nil) (()) (by repeat first|exact s0 _|exact s1 _|apply s2|apply s3) (by simp [It.rids]) ?_
    first
      | (refine congrArg int ?_; unfold Frm.check; rw [if_pos (by omega)])
      | (refine congrArg int ?_; unfold Frm.check; rw [if_neg (by omega), if_pos (by omega)])
      | (refine congrArg int ?_; unfold Frm.check; rw [if_neg (by omega), if_neg (by omega), if_pos (by omega)])
      | (refine congrArg int ?_; unfold Frm.check; rw [if_neg (by omega), if_neg (by omega), if_neg (by omega)]; rename_i hr; simp at hr; simp [hr])
  intro hc21
  refine SC.seq (SC.region ?_)
  refine SL.val (Val.loadA tabOk rfl rfl rfl (by first|(apply Or.inl;(repeat first|assumption|exact m0|apply m1);done)|(apply Or.inr;(repeat first|assumption|exact m0|apply m1);done)) List.not_mem_nil (Frm.abs_len _)) rfl rfl ?_
  refine SL.val (Val.move rfl) rfl rfl ?_
  refine SL.call (odd_s n f (by omega)) Casts.refl (by kernel_rfl) rfl rfl rfl ?_
  refine After.pure (by repeat first|exact .nil|refine .blk (by repeat first|assumption|exact m0|apply m1) ?_|refine .rd (by repeat first|assumption|exact m0|apply m1) ?_|refine .pc (by repeat first|assumption|exact m0|apply m1) ?_|refine .rdpc (by repeat first|assumption|exact m0|apply m1) ?_) (fun _ => rfl) ?_
  intro _
  refine SL.val (Val.assign rfl) rfl rfl ?_
  refine SL.nil (SE.seq ?_)
  refine SC.cond rfl ?_ ?_
  · intro hc24
    refine SC.seq (SC.region ?_)
    refine SL.val (Val.assign rfl) rfl rfl ?_
    refine SL.nil (SE.seq ?_)
    refine SC.ret ?_
    refine SE.ret ?_
    refine SE.then_ (by intro h; cases h) ?_
    try have hr := hc24
    refine SE.fin (rs := [.tmp 4]) rfl (RV.tmp rfl RV.nil) (()) (by repeat first|exact s0 _|exact s1 _|apply s2|apply s3) (by simp [It.rids]) ?_
    first
      | (refine congrArg int ?_; unfold Frm.check; rw [if_pos (by omega)])
      | (refine congrArg int ?_; unfold Frm.check; rw [if_neg (by omega), if_pos (by omega)])
      | (refine congrArg int ?_; unfold Frm.check; rw [if_neg (by omega), if_neg (by omega), if_pos (by omega)])
      | (refine congrArg int ?_; unfold Frm.check; rw [if_neg (by omega), if_neg (by omega), if_neg (by omega)]; rename_i hr; simp at hr; simp [hr])
  intro hc24
  refine SC.skip ?_
  refine SE.inBlock ?_
  refine SE.seq ?_
  refine SC.seq (SC.region ?_)
  refine SL.val (Val.assign rfl) rfl rfl ?_
  refine SL.nil (SE.seq ?_)
  refine SC.ret ?_
  try have hr := hc24
  refine SE.fin (rs := [.tmp 4]) rfl (RV.tmp rfl RV.nil) (()) (by repeat first|exact s0 _|exact s1 _|apply s2|apply s3) (by simp [It.rids]) ?_
  first
    | (refine congrArg int ?_; unfold Frm.check; rw [if_pos (by omega)])
    | (refine congrArg int ?_; unfold Frm.check; rw [if_neg (by omega), if_pos (by omega)])
    | (refine congrArg int ?_; unfold Frm.check; rw [if_neg (by omega), if_neg (by omega), if_pos (by omega)])
    | (refine congrArg int ?_; unfold Frm.check; rw [if_neg (by omega), if_neg (by omega), if_neg (by omega)]; rename_i hr; simp at hr; simp [hr])
theorem rfcheck_s (hn : f.nodes ≤ 1099511627000) : Spec Try.prog 15 [.agg f.abs, int n] [] (fun _ : Unit => []) (fun _ => int (f.check n)) := by
  have hdp := f.depth_le
  refine spec_of Try.func15 rfl Try.ntmps15 rfl fun G w => ?_
  refine SC.seq (SC.region ?_)
  refine SL.eff (Eff.boxA (cs := f.abs) rfl) rfl rfl ?_
  rintro _ _ ⟨b2, rfl, rfl⟩
  refine SL.val (Val.assign rfl) rfl rfl ?_
  refine SL.nil (SE.seq ?_)
  refine SC.seq (SC.region ?_)
  refine SL.val (Val.loadA tabOk rfl rfl rfl (by first|(apply Or.inl;(repeat first|assumption|exact m0|apply m1);done)|(apply Or.inr;(repeat first|assumption|exact m0|apply m1);done)) List.not_mem_nil (Frm.abs_len _)) rfl rfl ?_
  refine SL.call (size_s f (by omega)) Casts.refl (by kernel_rfl) rfl rfl rfl ?_
  refine After.pure (by repeat first|exact .nil|refine .blk (by repeat first|assumption|exact m0|apply m1) ?_|refine .rd (by repeat first|assumption|exact m0|apply m1) ?_|refine .pc (by repeat first|assumption|exact m0|apply m1) ?_|refine .rdpc (by repeat first|assumption|exact m0|apply m1) ?_) (fun _ => rfl) ?_
  intro _
  refine SL.val (Val.move rfl) rfl rfl ?_
  refine SL.val (Val.extract rfl rfl) rfl rfl ?_
  refine SL.val (Val.extract rfl rfl) rfl rfl ?_
  refine SL.val (Val.assign rfl) rfl rfl ?_
  refine SL.val (Val.assign rfl) rfl rfl ?_
  refine SL.nil (SE.seq ?_)
  refine SC.seq ?_
  refine SC.block ?_
  refine SC.seq (SC.region ?_)
  refine SL.val (Val.move rfl) rfl rfl ?_
  refine SL.val (Val.ltI rfl rfl) rfl rfl ?_
  refine SL.val (Val.move rfl) rfl rfl ?_
  refine SL.bothP (t := 15) rfl ?_ ?_
  · intro hc15
    iterate 2 refine SL.skip rfl rfl ?_
    refine SL.val (Val.pickT rfl rfl) rfl rfl ?_
    refine SL.val (Val.assign rfl) rfl rfl ?_
    refine SL.nil (SE.seq ?_)
    refine SC.condT rfl ?_
    refine SC.seq (SC.region ?_)
    refine SL.val (Val.assign rfl) rfl rfl ?_
    refine SL.nil (SE.seq ?_)
    refine SC.ret ?_
    refine SE.ret ?_
    refine SE.then_ (by intro h; cases h) ?_
    try have hr := hc25
    refine SE.fin (rs := [.tmp 4]) rfl (RV.tmp rfl RV.nil) (()) (by repeat first|exact s0 _|exact s1 _|apply s2|apply s3) (by simp [It.rids]) ?_
    first
      | (refine congrArg int ?_; unfold Frm.check; rw [if_pos (by omega)])
      | (refine congrArg int ?_; unfold Frm.check; rw [if_neg (by omega), if_pos (by omega)])
      | (refine congrArg int ?_; unfold Frm.check; rw [if_neg (by omega), if_neg (by omega), if_pos (by omega)])
      | (refine congrArg int ?_; unfold Frm.check; rw [if_neg (by omega), if_neg (by omega), if_neg (by omega)]; rename_i hr; simp at hr; simp [hr])
  intro hc15
  refine SL.val (Val.move rfl) rfl rfl ?_
  refine SL.val (Val.gtI rfl rfl) rfl rfl ?_
  refine SL.val (Val.pickF rfl rfl) rfl rfl ?_
  refine SL.val (Val.assign rfl) rfl rfl ?_
  refine SL.nil (SE.seq ?_)
  refine SC.condP rfl ?_ ?_
  · intro hc12
    refine SC.seq (SC.region ?_)
    refine SL.val (Val.assign rfl) rfl rfl ?_
    refine SL.nil (SE.seq ?_)
    refine SC.ret ?_
    refine SE.ret ?_
    refine SE.then_ (by intro h; cases h) ?_
    try have hr := hc25
    refine SE.fin (rs := [.tmp 4]) rfl (RV.tmp rfl RV.nil) (()) (by repeat first|exact s0 _|exact s1 _|apply s2|apply s3) (by simp [It.rids]) ?_
    first
      | (refine congrArg int ?_; unfold Frm.check; rw [if_pos (by omega)])
      | (refine congrArg int ?_; unfold Frm.check; rw [if_neg (by omega), if_pos (by omega)])
      | (refine congrArg int ?_; unfold Frm.check; rw [if_neg (by omega), if_neg (by omega), if_pos (by omega)])
      | (refine congrArg int ?_; unfold Frm.check; rw [if_neg (by omega), if_neg (by omega), if_neg (by omega)]; rename_i hr; simp at hr; simp [hr])
  intro hc12
  refine SC.seq (SC.region ?_)
  refine SL.val (Val.move rfl) rfl rfl ?_
  refine SL.val (Val.gtI rfl rfl) rfl rfl ?_
  refine SL.val (Val.assign rfl) rfl rfl ?_
  refine SL.nil (SE.seq ?_)
  refine SC.condP rfl ?_ ?_
  · intro hc19
    refine SC.seq (SC.region ?_)
    refine SL.val (Val.assign rfl) rfl rfl ?_
    refine SL.nil (SE.seq ?_)
    refine SC.ret ?_
    refine SE.ret ?_
    refine SE.then_ (by intro h; cases h) ?_
    try have hr := hc25
    refine SE.fin (rs := [.tmp 4]) rfl (RV.tmp rfl RV.nil) (()) (by repeat first|exact s0 _|exact s1 _|apply s2|apply s3) (by simp [It.rids]) ?_
    first
      | (refine congrArg int ?_; unfold Frm.check; rw [if_pos (by omega)])
      | (refine congrArg int ?_; unfold Frm.check; rw [if_neg (by omega), if_pos (by omega)])
      | (refine congrArg int ?_; unfold Frm.check; rw [if_neg (by omega), if_neg (by omega), if_pos (by omega)])
      | (refine congrArg int ?_; unfold Frm.check; rw [if_neg (by omega), if_neg (by omega), if_neg (by omega)]; rename_i hr; simp at hr; simp [hr])
  intro hc19
  refine SC.seq (SC.region ?_)
  refine SL.val (Val.move rfl) rfl rfl ?_
  refine SL.val (Val.gtI rfl rfl) rfl rfl ?_
  refine SL.val (Val.assign rfl) rfl rfl ?_
  refine SL.nil (SE.seq ?_)
  refine SC.condP rfl ?_ ?_
  · intro hc22
    refine SC.seq (SC.region ?_)
    refine SL.val (Val.assign rfl) rfl rfl ?_
    refine SL.nil (SE.seq ?_)
    refine SC.ret ?_
    refine SE.ret ?_
    refine SE.then_ (by intro h; cases h) ?_
    try have hr := hc25
    refine SE.fin (rs := [.tmp 4]) rfl (RV.tmp rfl RV.nil) (()) (by repeat first|exact s0 _|exact s1 _|apply s2|apply s3) (by simp [It.rids]) ?_
    first
      | (refine congrArg int ?_; unfold Frm.check; rw [if_pos (by omega)])
      | (refine congrArg int ?_; unfold Frm.check; rw [if_neg (by omega), if_pos (by omega)])
      | (refine congrArg int ?_; unfold Frm.check; rw [if_neg (by omega), if_neg (by omega), if_pos (by omega)])
      | (refine congrArg int ?_; unfold Frm.check; rw [if_neg (by omega), if_neg (by omega), if_neg (by omega)]; rename_i hr; simp at hr; simp [hr])
  intro hc22
  refine SC.seq (SC.region ?_)
  refine SL.val (Val.loadA tabOk rfl rfl rfl (by first|(apply Or.inl;(repeat first|assumption|exact m0|apply m1);done)|(apply Or.inr;(repeat first|assumption|exact m0|apply m1);done)) List.not_mem_nil (Frm.abs_len _)) rfl rfl ?_
  refine SL.val (Val.move rfl) rfl rfl ?_
  refine SL.call (ranges_s n f (by omega)) Casts.refl (by kernel_rfl) rfl rfl rfl ?_
  refine After.pure (by repeat first|exact .nil|refine .blk (by repeat first|assumption|exact m0|apply m1) ?_|refine .rd (by repeat first|assumption|exact m0|apply m1) ?_|refine .pc (by repeat first|assumption|exact m0|apply m1) ?_|refine .rdpc (by repeat first|assumption|exact m0|apply m1) ?_) (fun _ => rfl) ?_
  intro _
  refine SL.val (Val.notB rfl) rfl rfl ?_
  refine SL.val (Val.assign rfl) rfl rfl ?_
  refine SL.nil (SE.seq ?_)
  refine SC.cond rfl ?_ ?_
  · intro hc25
    refine SC.seq (SC.region ?_)
    refine SL.val (Val.assign rfl) rfl rfl ?_
    refine SL.nil (SE.seq ?_)
    refine SC.ret ?_
    refine SE.ret ?_
    refine SE.then_ (by intro h; cases h) ?_
    try have hr := hc25
    refine SE.fin (rs := [.tmp 4]) rfl (RV.tmp rfl RV.nil) (()) (by repeat first|exact s0 _|exact s1 _|apply s2|apply s3) (by simp [It.rids]) ?_
    first
      | (refine congrArg int ?_; unfold Frm.check; rw [if_pos (by omega)])
      | (refine congrArg int ?_; unfold Frm.check; rw [if_neg (by omega), if_pos (by omega)])
      | (refine congrArg int ?_; unfold Frm.check; rw [if_neg (by omega), if_neg (by omega), if_pos (by omega)])
      | (refine congrArg int ?_; unfold Frm.check; rw [if_neg (by omega), if_neg (by omega), if_neg (by omega)]; rename_i hr; simp at hr; simp [hr])
  intro hc25
  refine SC.skip ?_
  refine SE.inBlock ?_
  refine SE.seq ?_
  refine SC.seq (SC.region ?_)
  refine SL.val (Val.assign rfl) rfl rfl ?_
  refine SL.nil (SE.seq ?_)
  refine SC.ret ?_
  try have hr := hc25
  refine SE.fin (rs := [.tmp 4]) rfl (RV.tmp rfl RV.nil) (()) (by repeat first|exact s0 _|exact s1 _|apply s2|apply s3) (by simp [It.rids]) ?_
  first
    | (refine congrArg int ?_; unfold Frm.check; rw [if_pos (by omega)])
    | (refine congrArg int ?_; unfold Frm.check; rw [if_neg (by omega), if_pos (by omega)])
    | (refine congrArg int ?_; unfold Frm.check; rw [if_neg (by omega), if_neg (by omega), if_pos (by omega)])
    | (refine congrArg int ?_; unfold Frm.check; rw [if_neg (by omega), if_neg (by omega), if_neg (by omega)]; rename_i hr; simp at hr; simp [hr])
set_option maxHeartbeats 1000000 in
theorem holds_step (ih : ∀ k ∈ ks, k.nodes ≤ 1099511627776 → k.ranges 7 = true → Spec Try.prog 50 [.agg k.abs, u32 s] [] (fun _ : Unit => []) (fun _ => boo (k.holds s))) (hn : (Frm.mk o a ks).nodes ≤ 1099511627776) (hr : (Frm.mk o a ks).ranges 7 = true) : Spec Try.prog 50 [.agg (Frm.mk o a ks).abs, u32 s] [] (fun _ : Unit => []) (fun _ => boo ((Frm.mk o a ks).holds s)) := by
  rw [Frm.abs_mk]
  have hlen := Frm.length_le ks
  rw [Frm.nodes_mk] at hn
  have hkr := Frm.kids_range hr
  refine spec_of Try.func50 rfl Try.ntmps50 rfl fun G w => ?_
  refine SC.seq (SC.region ?_)
  refine SL.eff (Eff.boxA rfl) rfl rfl ?_
  rintro _ _ ⟨b2, rfl, rfl⟩
  refine SL.val (Val.assign rfl) rfl rfl ?_
  refine SL.nil (SE.seq ?_)
  refine SC.seq ?_
  refine SC.seq (SC.region ?_)
  refine SL.val (Val.fieldAddr tabOk rfl rfl rfl rfl rfl) rfl rfl ?_
  refine SL.val (Val.load1 tabOk rfl rfl (by first|(apply Or.inl;(repeat first|assumption|exact m0|apply m1);done)|(apply Or.inr;(repeat first|assumption|exact m0|apply m1);done)) List.not_mem_nil (by rfl)) rfl rfl ?_
  first
    | refine SL.val (Val.lenSl rfl Try.underlying43 (List.length_map _)) rfl rfl ?_
    | refine SL.val (Val.lenOwn rfl (by repeat first|assumption|exact m0|apply m1) Try.underlying43 (List.length_map _)) rfl rfl ?_
    | refine SL.val (Val.lenNil rfl Try.underlying43) rfl rfl ?_
  refine SL.val (Val.eqI rfl rfl) rfl rfl ?_
  refine SL.nil (SE.seq ?_)
  refine SC.condP rfl ?_ ?_
  · intro hc11
    have hk0 : ks = [] := List.eq_nil_of_length_eq_zero (by omega)
    subst hk0
    have hro := hr
    rw [Frm.ranges_leaf, decide_eq_true_iff] at hro
    obtain ⟨m, rfl⟩ : ∃ m : Nat, o = (m : Nat) := ⟨o.toNat, by omega⟩
    refine SC.seq (SC.region ?_)
    refine SL.val (Val.move rfl) rfl rfl ?_
    refine SL.val (Val.fieldAddr tabOk rfl rfl rfl rfl rfl) rfl rfl ?_
    refine SL.val (Val.load1 tabOk rfl rfl (by first|(apply Or.inl;(repeat first|assumption|exact m0|apply m1);done)|(apply Or.inr;(repeat first|assumption|exact m0|apply m1);done)) List.not_mem_nil (by rfl)) rfl rfl ?_
    refine SL.val (Val.to (C := .v (.int .u64 (m : Nat))) (Val.convI rfl Try.underlying72 (by kernel_rfl) (by simp only [InR, lo, hi]; omega)) rfl) rfl rfl ?_
    refine SL.val (Val.shrB (m := m) rfl rfl rfl) rfl rfl ?_
    refine SL.val (Val.andW (q := 1#32) rfl rfl) rfl rfl ?_
    refine SL.val (Val.eqI rfl rfl) rfl rfl ?_
    refine SL.val (Val.assign rfl) rfl rfl ?_
    refine SL.nil (SE.seq ?_)
    refine SC.ret ?_
    refine SE.then_ (by intro h; cases h) ?_
    refine SE.fin (rs := [.tmp 4]) rfl (RV.tmp rfl RV.nil) (()) (by repeat first|exact s0 _|exact s1 _|apply s2|apply s3) (by simp [It.rids]) ?_
    refine congrArg (fun b => Abs.v (Value.bool b)) ?_
    rw [Frm.holds_leaf, ← and_bit]
    rw [decide_eq_decide]
    exact Int.ofNat_inj
  intro hc11
  have hk0 : ks ≠ [] := by rintro rfl; simp at hc11
  have hro := hr
  rw [Frm.ranges_node 7 o a hk0, Bool.and_eq_true, decide_eq_true_iff] at hro
  refine SC.skip ?_
  refine SE.seq ?_
  refine SC.seq (SC.region ?_)
  refine SL.val (Val.fieldAddr tabOk rfl rfl rfl rfl rfl) rfl rfl ?_
  refine SL.val (Val.load1 tabOk rfl rfl (by first|(apply Or.inl;(repeat first|assumption|exact m0|apply m1);done)|(apply Or.inr;(repeat first|assumption|exact m0|apply m1);done)) List.not_mem_nil (by rfl)) rfl rfl ?_
  refine SL.val (Val.assign rfl) rfl rfl ?_
  refine SL.nil (SE.seq ?_)
  refine SC.seq ?_
  refine SC.seq (SC.region ?_)
  refine SL.val (Val.fieldAddr tabOk rfl rfl rfl rfl rfl) rfl rfl ?_
  refine SL.val (Val.load1 tabOk rfl rfl (by first|(apply Or.inl;(repeat first|assumption|exact m0|apply m1);done)|(apply Or.inr;(repeat first|assumption|exact m0|apply m1);done)) List.not_mem_nil (by rfl)) rfl rfl ?_
  first
    | refine SL.val (Val.lenSl rfl Try.underlying43 (List.length_map _)) rfl rfl ?_
    | refine SL.val (Val.lenOwn rfl (by repeat first|assumption|exact m0|apply m1) Try.underlying43 (List.length_map _)) rfl rfl ?_
    | refine SL.val (Val.lenNil rfl Try.underlying43) rfl rfl ?_
  refine SL.val (Val.move rfl) rfl rfl ?_
  refine SL.nil (SE.seq ?_)
  refine SC.block ?_
  refine SC.loop (ι := Nat) (fun z => [.blk b2 45 [int o, int a, .sl 3 (ks.map Frm.abs)]]) (fun z => [(1, u32 s), (2, ptr b2), (5, int (a - (Frm.holdss s (ks.take z) : Nat))), (22, .sl 3 (ks.map Frm.abs)), (23, int (ks.length : Nat)), (24, int (z : Nat))]) (fun z => z ≤ ks.length) (fun z => ks.length - z) (0) (Nat.zero_le _) (by exact ⟨rfl, rfl, congrArg (fun x : Int => some (int x)) (show a = a - ((0 : Nat) : Int) by omega), rfl, rfl, rfl, trivial⟩) (by repeat first|exact s0 _|exact s1 _|apply s2|apply s3) ?_
  intro z hz
  refine SC.seq (SC.region ?_)
  refine SL.val (Val.ltI rfl rfl) rfl rfl ?_
  refine SL.nil (SE.seq ?_)
  refine SC.seq ?_
  refine SC.condP rfl ?_ ?_
  rotate_left
  · intro hc25
    have hz2 : z = ks.length := by omega
    have htk : ks.take z = ks := by rw [hz2]; exact List.take_of_length_le (Nat.le_refl _)
    refine SC.exit ?_
    refine SE.then_ (by intro h; cases h) ?_
    refine SE.then_ (by intro h; cases h) ?_
    refine SE.exit ?_
    refine SE.seq ?_
    refine SC.seq (SC.region ?_)
    refine SL.val (Val.move rfl) rfl rfl ?_
    refine SL.val (Val.leI rfl rfl) rfl rfl ?_
    refine SL.val (Val.assign rfl) rfl rfl ?_
    refine SL.nil (SE.seq ?_)
    refine SC.ret ?_
    refine SE.fin (rs := [.tmp 4]) rfl (RV.tmp rfl RV.nil) (()) (by repeat first|exact s0 _|exact s1 _|apply s2|apply s3) (by simp [It.rids]) ?_
    refine boo_i' ?_
    rw [Frm.holds_node s o a hk0, decide_eq_true_iff, htk]
    omega
  intro hc25
  have hlt : z < ks.length := by omega
  have hkz := Frm.nodes_mem (List.getElem_mem hlt)
  have hdz := Frm.depths_mem (List.getElem_mem hlt)
  have htn := Frm.take_nodes1 hlt
  have htd := Frm.take_depths1 hlt
  have htl := Frm.take_nodes (ks := ks) (z + 1)
  have hdn := Frm.depth_le (ks[z]'hlt)
  have hth := Frm.take_holds1 (s := s) hlt
  refine SC.skip ?_
  refine SE.seq ?_
  refine SC.seq ?_
  refine SC.block ?_
  refine SC.seq (SC.region ?_)
  refine SL.val (Val.indexSl tabOk Try.underlying43 rfl rfl rfl rfl (at_map (by omega)) rfl rfl) rfl rfl ?_
  refine SL.val (Val.loadAR tabOk rfl rfl rfl (Frm.abs_len _)) rfl rfl ?_
  refine SL.eff (Eff.alloc tabOk rfl) rfl rfl ?_
  rintro _ _ ⟨b7, rfl, rfl⟩
  refine SL.eff (Eff.store (L' := (ks[z]'hlt).abs) tabOk rfl rfl rfl (by repeat first|assumption|exact Upd.here|apply Upd.there) (by exact Frm.abs_len _) (Nat.le_of_ble_eq_true (by rfl)) (by exact Frm.abs_ones _) (putL_whole (by exact Frm.abs_len _))) rfl rfl ?_
  rintro _ _ ⟨rfl, rfl⟩
  refine SL.nil (SE.seq ?_)
  refine SC.seq (SC.region ?_)
  refine SL.val (Val.loadA tabOk rfl rfl rfl (by first|(apply Or.inl;(repeat first|assumption|exact m0|apply m1);done)|(apply Or.inr;(repeat first|assumption|exact m0|apply m1);done)) List.not_mem_nil (Frm.abs_len _)) rfl rfl ?_
  refine SL.val (Val.move rfl) rfl rfl ?_
  refine SL.call (ih (ks[z]'hlt) (List.getElem_mem hlt) (by omega) (hkr _ (List.getElem_mem hlt))) Casts.refl (by kernel_rfl) rfl rfl rfl ?_
  refine After.pure (by repeat first|exact .nil|refine .blk (by repeat first|assumption|exact m0|apply m1) ?_|refine .rd (by repeat first|assumption|exact m0|apply m1) ?_|refine .pc (by repeat first|assumption|exact m0|apply m1) ?_|refine .rdpc (by repeat first|assumption|exact m0|apply m1) ?_) (fun _ => rfl) ?_
  intro _
  refine SL.nil (SE.seq ?_)
  refine SC.cond rfl ?_ ?_
  rotate_left
  · intro hc30
    rw [if_neg (by rw [hc30]; decide)] at hth
    refine SC.skip ?_
    refine SE.inBlock ?_
    refine SE.seq ?_
    refine SC.region ?_
    first
      | refine SL.val (Val.addI rfl rfl (by simp only [InR, lo, hi]; omega)) rfl rfl ?_
      | refine SL.val (Val.addW rfl rfl) rfl rfl ?_
    refine SL.val (Val.move rfl) rfl rfl ?_
    refine SL.nil ?_
    refine SE.round (z + 1) (by first | omega | (dsimp only; omega)) (by first | omega | (dsimp only; omega)) (by exact ⟨rfl, rfl, congrArg (fun x : Int => some (int x)) (show a - (Frm.holdss s (ks.take z) : Nat) = a - (Frm.holdss s (ks.take (z + 1)) : Nat) by omega), rfl, rfl, rfl, trivial⟩) (by repeat first|exact s0 _|exact s1 _|apply s2|apply s3)
  intro hc30
  rw [if_pos hc30] at hth
  refine SC.region ?_
  refine SL.val (Val.move rfl) rfl rfl ?_
  refine SL.val (Val.to (C := int (a - (Frm.holdss s (ks.take (z + 1)) : Nat))) (Val.subI rfl rfl (by have := Frm.holdss_le s (ks.take z); rw [List.length_take] at this; simp only [InR, lo, hi]; omega)) (congrArg int (by have := Frm.take_holds1 (s := s) hlt; rw [if_pos (by assumption)] at this; omega))) rfl rfl ?_
  refine SL.val (Val.assign rfl) rfl rfl ?_
  refine SL.nil ?_
  refine SE.inBlock ?_
  refine SE.seq ?_
  refine SC.region ?_
  first
    | refine SL.val (Val.addI rfl rfl (by simp only [InR, lo, hi]; omega)) rfl rfl ?_
    | refine SL.val (Val.addW rfl rfl) rfl rfl ?_
  refine SL.val (Val.move rfl) rfl rfl ?_
  refine SL.nil ?_
  refine SE.round (z + 1) (by first | omega | (dsimp only; omega)) (by first | omega | (dsimp only; omega)) (by exact ⟨rfl, rfl, rfl, rfl, rfl, rfl, trivial⟩) (by repeat first|exact s0 _|exact s1 _|apply s2|apply s3)
theorem holds_s (s : Wo) (f : Frm) : f.nodes ≤ 1099511627776 → f.ranges 7 = true → Spec Try.prog 50 [.agg f.abs, u32 s] [] (fun _ : Unit => []) (fun _ => boo (f.holds s)) := Frm.ind (p := fun f => f.nodes ≤ 1099511627776 → f.ranges 7 = true → Spec Try.prog 50 [.agg f.abs, u32 s] [] (fun _ : Unit => []) (fun _ => boo (f.holds s))) (fun o a ks ih => fun hn hr => holds_step ih hn hr) f
set_option maxHeartbeats 1000000 in
theorem has_s {m : Nat} (hm : m ≤ 1000) : Spec Try.prog 35 [u32 s, int (m : Nat)] [] (fun _ : Unit => []) (fun _ => boo (s.getLsbD m)) := by
  refine spec_of Try.func35 rfl Try.ntmps35 rfl fun G w => ?_
  refine SC.seq (SC.region ?_)
  refine SL.val (Val.assign rfl) rfl rfl ?_
  refine SL.nil (SE.seq ?_)
  refine SC.seq ?_
  refine SC.seq (SC.region ?_)
  refine SL.val (Val.assign rfl) rfl rfl ?_
  refine SL.nil (SE.seq ?_)
  refine SC.block ?_
  refine SC.loop (ι := Nat) (fun z => []) (fun z => [(0, u32 (s >>> z)), (1, int (m : Nat)), (5, int (z : Nat))]) (fun z => z ≤ m) (fun z => m - z) (0) (Nat.zero_le _) (by exact ⟨congrArg (fun x : Wo => some (u32 x)) (show s = s >>> 0 by simp), rfl, rfl, trivial⟩) (by repeat first|exact s0 _|exact s1 _|apply s2|apply s3) ?_
  intro z hz
  refine SC.seq ?_
  refine SC.seq (SC.region ?_)
  refine SL.val (Val.move rfl) rfl rfl ?_
  refine SL.val (Val.move rfl) rfl rfl ?_
  refine SL.val (Val.ltI rfl rfl) rfl rfl ?_
  refine SL.nil (SE.seq ?_)
  refine SC.condP rfl ?_ ?_
  rotate_left
  · intro hc8
    have hz2 : z = m := by omega
    refine SC.exit ?_
    refine SE.then_ (by intro h; cases h) ?_
    refine SE.then_ (by intro h; cases h) ?_
    refine SE.exit ?_
    refine SE.seq ?_
    refine SC.seq (SC.region ?_)
    refine SL.val (Val.move rfl) rfl rfl ?_
    refine SL.val (Val.remI rfl rfl (by omega)) rfl rfl ?_
    refine SL.val (Val.eqI rfl rfl) rfl rfl ?_
    refine SL.val (Val.assign rfl) rfl rfl ?_
    refine SL.nil (SE.seq ?_)
    refine SC.ret ?_
    refine SE.fin (rs := [.tmp 4]) rfl (RV.tmp rfl RV.nil) (()) (by repeat first|exact s0 _|exact s1 _|apply s2|apply s3) (by simp [It.rids]) ?_
    refine boo_i' ?_
    rw [← hz2, ← halve_bit, decide_eq_true_iff]
    omega
  intro hc8
  refine SC.skip ?_
  refine SE.seq ?_
  refine SC.seq ?_
  refine SC.block ?_
  refine SC.region ?_
  refine SL.val (Val.move rfl) rfl rfl ?_
  refine SL.val (Val.to (C := u32 (s >>> (z + 1))) (Val.quoI rfl rfl (by omega) (by have := (s >>> z).isLt; simp only [InR, lo, hi]; omega)) (congrArg (fun r => Abs.v (.int .u32 r)) (by
      rw [BitVec.toNat_ushiftRight, BitVec.toNat_ushiftRight, Nat.shiftRight_succ]
      omega))) rfl rfl ?_
  refine SL.val (Val.assign rfl) rfl rfl ?_
  refine SL.nil ?_
  refine SE.inBlock ?_
  refine SE.seq ?_
  refine SC.region ?_
  refine SL.val (Val.move rfl) rfl rfl ?_
  first
    | refine SL.val (Val.addI rfl rfl (by simp only [InR, lo, hi]; omega)) rfl rfl ?_
    | refine SL.val (Val.addW rfl rfl) rfl rfl ?_
  refine SL.val (Val.assign rfl) rfl rfl ?_
  refine SL.nil ?_
  refine SE.round (z + 1) (by first | omega | (dsimp only; omega)) (by first | omega | (dsimp only; omega)) (by exact ⟨rfl, rfl, rfl, trivial⟩) (by repeat first|exact s0 _|exact s1 _|apply s2|apply s3)
set_option maxHeartbeats 1000000 in
theorem rholds_step (ih : ∀ k ∈ ks, k.nodes ≤ 1099511627776 → k.ranges 7 = true → Spec Try.prog 16 [.agg k.abs, u32 s] [] (fun _ : Unit => []) (fun _ => boo (k.holds s))) (hn : (Frm.mk o a ks).nodes ≤ 1099511627776) (hr : (Frm.mk o a ks).ranges 7 = true) : Spec Try.prog 16 [.agg (Frm.mk o a ks).abs, u32 s] [] (fun _ : Unit => []) (fun _ => boo ((Frm.mk o a ks).holds s)) := by
  rw [Frm.abs_mk]
  have hlen := Frm.length_le ks
  rw [Frm.nodes_mk] at hn
  have hkr := Frm.kids_range hr
  refine spec_of Try.func16 rfl Try.ntmps16 rfl fun G w => ?_
  refine SC.seq (SC.region ?_)
  refine SL.eff (Eff.boxA rfl) rfl rfl ?_
  rintro _ _ ⟨b2, rfl, rfl⟩
  refine SL.val (Val.assign rfl) rfl rfl ?_
  refine SL.nil (SE.seq ?_)
  refine SC.seq ?_
  refine SC.seq (SC.region ?_)
  refine SL.val (Val.fieldAddr tabOk rfl rfl rfl rfl rfl) rfl rfl ?_
  refine SL.val (Val.load1 tabOk rfl rfl (by first|(apply Or.inl;(repeat first|assumption|exact m0|apply m1);done)|(apply Or.inr;(repeat first|assumption|exact m0|apply m1);done)) List.not_mem_nil (by rfl)) rfl rfl ?_
  first
    | refine SL.val (Val.lenSl rfl Try.underlying43 (List.length_map _)) rfl rfl ?_
    | refine SL.val (Val.lenOwn rfl (by repeat first|assumption|exact m0|apply m1) Try.underlying43 (List.length_map _)) rfl rfl ?_
    | refine SL.val (Val.lenNil rfl Try.underlying43) rfl rfl ?_
  refine SL.val (Val.eqI rfl rfl) rfl rfl ?_
  refine SL.nil (SE.seq ?_)
  refine SC.condP rfl ?_ ?_
  · intro hc11
    have hk0 : ks = [] := List.eq_nil_of_length_eq_zero (by omega)
    subst hk0
    have hro := hr
    rw [Frm.ranges_leaf, decide_eq_true_iff] at hro
    obtain ⟨m, rfl⟩ : ∃ m : Nat, o = (m : Nat) := ⟨o.toNat, by omega⟩
    refine SC.seq (SC.region ?_)
    refine SL.val (Val.move rfl) rfl rfl ?_
    refine SL.val (Val.fieldAddr tabOk rfl rfl rfl rfl rfl) rfl rfl ?_
    refine SL.val (Val.load1 tabOk rfl rfl (by first|(apply Or.inl;(repeat first|assumption|exact m0|apply m1);done)|(apply Or.inr;(repeat first|assumption|exact m0|apply m1);done)) List.not_mem_nil (by rfl)) rfl rfl ?_
    refine SL.call (has_s (s := s) (m := m) (by omega)) Casts.refl (by kernel_rfl) rfl rfl rfl ?_
    refine After.pure (by repeat first|exact .nil|refine .blk (by repeat first|assumption|exact m0|apply m1) ?_|refine .rd (by repeat first|assumption|exact m0|apply m1) ?_|refine .pc (by repeat first|assumption|exact m0|apply m1) ?_|refine .rdpc (by repeat first|assumption|exact m0|apply m1) ?_) (fun _ => rfl) ?_
    intro _
    refine SL.val (Val.assign rfl) rfl rfl ?_
    refine SL.nil (SE.seq ?_)
    refine SC.ret ?_
    refine SE.then_ (by intro h; cases h) ?_
    refine SE.fin (rs := [.tmp 4]) rfl (RV.tmp rfl RV.nil) (()) (by repeat first|exact s0 _|exact s1 _|apply s2|apply s3) (by simp [It.rids]) ?_
    refine congrArg (fun b => Abs.v (Value.bool b)) ?_
    rw [Frm.holds_leaf]
    rfl
  intro hc11
  have hk0 : ks ≠ [] := by rintro rfl; simp at hc11
  have hro := hr
  rw [Frm.ranges_node 7 o a hk0, Bool.and_eq_true, decide_eq_true_iff] at hro
  refine SC.skip ?_
  refine SE.seq ?_
  refine SC.seq (SC.region ?_)
  refine SL.val (Val.assign rfl) rfl rfl ?_
  refine SL.nil (SE.seq ?_)
  refine SC.seq ?_
  refine SC.seq (SC.region ?_)
  refine SL.val (Val.fieldAddr tabOk rfl rfl rfl rfl rfl) rfl rfl ?_
  refine SL.val (Val.load1 tabOk rfl rfl (by first|(apply Or.inl;(repeat first|assumption|exact m0|apply m1);done)|(apply Or.inr;(repeat first|assumption|exact m0|apply m1);done)) List.not_mem_nil (by rfl)) rfl rfl ?_
  first
    | refine SL.val (Val.lenSl rfl Try.underlying43 (List.length_map _)) rfl rfl ?_
    | refine SL.val (Val.lenOwn rfl (by repeat first|assumption|exact m0|apply m1) Try.underlying43 (List.length_map _)) rfl rfl ?_
    | refine SL.val (Val.lenNil rfl Try.underlying43) rfl rfl ?_
  refine SL.val (Val.move rfl) rfl rfl ?_
  refine SL.nil (SE.seq ?_)
  refine SC.block ?_
  refine SC.loop (ι := Nat) (fun z => [.blk b2 45 [int o, int a, .sl 3 (ks.map Frm.abs)]]) (fun z => [(1, u32 s), (2, ptr b2), (5, int (Frm.holdss s (ks.take z) : Nat)), (17, .sl 3 (ks.map Frm.abs)), (18, int (ks.length : Nat)), (19, int (z : Nat))]) (fun z => z ≤ ks.length) (fun z => ks.length - z) (0) (Nat.zero_le _) (by exact ⟨rfl, rfl, rfl, rfl, rfl, rfl, trivial⟩) (by repeat first|exact s0 _|exact s1 _|apply s2|apply s3) ?_
  intro z hz
  refine SC.seq (SC.region ?_)
  refine SL.val (Val.ltI rfl rfl) rfl rfl ?_
  refine SL.nil (SE.seq ?_)
  refine SC.seq ?_
  refine SC.condP rfl ?_ ?_
  rotate_left
  · intro hc20
    have hz2 : z = ks.length := by omega
    have htk : ks.take z = ks := by rw [hz2]; exact List.take_of_length_le (Nat.le_refl _)
    refine SC.exit ?_
    refine SE.then_ (by intro h; cases h) ?_
    refine SE.then_ (by intro h; cases h) ?_
    refine SE.exit ?_
    refine SE.seq ?_
    refine SC.seq (SC.region ?_)
    refine SL.val (Val.move rfl) rfl rfl ?_
    refine SL.val (Val.fieldAddr tabOk rfl rfl rfl rfl rfl) rfl rfl ?_
    refine SL.val (Val.load1 tabOk rfl rfl (by first|(apply Or.inl;(repeat first|assumption|exact m0|apply m1);done)|(apply Or.inr;(repeat first|assumption|exact m0|apply m1);done)) List.not_mem_nil (by rfl)) rfl rfl ?_
    refine SL.val (Val.geI rfl rfl) rfl rfl ?_
    refine SL.val (Val.assign rfl) rfl rfl ?_
    refine SL.nil (SE.seq ?_)
    refine SC.ret ?_
    refine SE.fin (rs := [.tmp 4]) rfl (RV.tmp rfl RV.nil) (()) (by repeat first|exact s0 _|exact s1 _|apply s2|apply s3) (by simp [It.rids]) ?_
    refine boo_i' ?_
    rw [Frm.holds_node s o a hk0, decide_eq_true_iff, htk]
  intro hc20
  have hlt : z < ks.length := by omega
  have hkz := Frm.nodes_mem (List.getElem_mem hlt)
  have hdz := Frm.depths_mem (List.getElem_mem hlt)
  have htn := Frm.take_nodes1 hlt
  have htd := Frm.take_depths1 hlt
  have htl := Frm.take_nodes (ks := ks) (z + 1)
  have hdn := Frm.depth_le (ks[z]'hlt)
  have hth := Frm.take_holds1 (s := s) hlt
  refine SC.skip ?_
  refine SE.seq ?_
  refine SC.seq ?_
  refine SC.block ?_
  refine SC.seq (SC.region ?_)
  refine SL.val (Val.indexSl tabOk Try.underlying43 rfl rfl rfl rfl (at_map (by omega)) rfl rfl) rfl rfl ?_
  refine SL.val (Val.loadAR tabOk rfl rfl rfl (Frm.abs_len _)) rfl rfl ?_
  refine SL.eff (Eff.alloc tabOk rfl) rfl rfl ?_
  rintro _ _ ⟨b7, rfl, rfl⟩
  refine SL.eff (Eff.store (L' := (ks[z]'hlt).abs) tabOk rfl rfl rfl (by repeat first|assumption|exact Upd.here|apply Upd.there) (by exact Frm.abs_len _) (Nat.le_of_ble_eq_true (by rfl)) (by exact Frm.abs_ones _) (putL_whole (by exact Frm.abs_len _))) rfl rfl ?_
  rintro _ _ ⟨rfl, rfl⟩
  refine SL.nil (SE.seq ?_)
  refine SC.seq (SC.region ?_)
  refine SL.val (Val.loadA tabOk rfl rfl rfl (by first|(apply Or.inl;(repeat first|assumption|exact m0|apply m1);done)|(apply Or.inr;(repeat first|assumption|exact m0|apply m1);done)) List.not_mem_nil (Frm.abs_len _)) rfl rfl ?_
  refine SL.val (Val.move rfl) rfl rfl ?_
  refine SL.call (ih (ks[z]'hlt) (List.getElem_mem hlt) (by omega) (hkr _ (List.getElem_mem hlt))) Casts.refl (by kernel_rfl) rfl rfl rfl ?_
  refine After.pure (by repeat first|exact .nil|refine .blk (by repeat first|assumption|exact m0|apply m1) ?_|refine .rd (by repeat first|assumption|exact m0|apply m1) ?_|refine .pc (by repeat first|assumption|exact m0|apply m1) ?_|refine .rdpc (by repeat first|assumption|exact m0|apply m1) ?_) (fun _ => rfl) ?_
  intro _
  refine SL.nil (SE.seq ?_)
  refine SC.cond rfl ?_ ?_
  rotate_left
  · intro hc25
    rw [if_neg (by rw [hc25]; decide)] at hth
    refine SC.skip ?_
    refine SE.inBlock ?_
    refine SE.seq ?_
    refine SC.region ?_
    first
      | refine SL.val (Val.addI rfl rfl (by simp only [InR, lo, hi]; omega)) rfl rfl ?_
      | refine SL.val (Val.addW rfl rfl) rfl rfl ?_
    refine SL.val (Val.move rfl) rfl rfl ?_
    refine SL.nil ?_
    refine SE.round (z + 1) (by first | omega | (dsimp only; omega)) (by first | omega | (dsimp only; omega)) (by exact ⟨rfl, rfl, congrArg (fun x : Nat => some (int (x : Nat))) (show Frm.holdss s (ks.take z) = Frm.holdss s (ks.take (z + 1)) by omega), rfl, rfl, rfl, trivial⟩) (by repeat first|exact s0 _|exact s1 _|apply s2|apply s3)
  intro hc25
  rw [if_pos hc25] at hth
  refine SC.region ?_
  refine SL.val (Val.move rfl) rfl rfl ?_
  refine SL.val (Val.to (C := int (Frm.holdss s (ks.take (z + 1)) : Nat)) (Val.addI rfl rfl (by have := Frm.holdss_le s (ks.take z); rw [List.length_take] at this; simp only [InR, lo, hi]; omega)) (congrArg int (by have := Frm.take_holds1 (s := s) hlt; rw [if_pos (by assumption)] at this; omega))) rfl rfl ?_
  refine SL.val (Val.assign rfl) rfl rfl ?_
  refine SL.nil ?_
  refine SE.inBlock ?_
  refine SE.seq ?_
  refine SC.region ?_
  first
    | refine SL.val (Val.addI rfl rfl (by simp only [InR, lo, hi]; omega)) rfl rfl ?_
    | refine SL.val (Val.addW rfl rfl) rfl rfl ?_
  refine SL.val (Val.move rfl) rfl rfl ?_
  refine SL.nil ?_
  refine SE.round (z + 1) (by first | omega | (dsimp only; omega)) (by first | omega | (dsimp only; omega)) (by exact ⟨rfl, rfl, rfl, rfl, rfl, rfl, trivial⟩) (by repeat first|exact s0 _|exact s1 _|apply s2|apply s3)
theorem rholds_s (s : Wo) (f : Frm) : f.nodes ≤ 1099511627776 → f.ranges 7 = true → Spec Try.prog 16 [.agg f.abs, u32 s] [] (fun _ : Unit => []) (fun _ => boo (f.holds s)) := Frm.ind (p := fun f => f.nodes ≤ 1099511627776 → f.ranges 7 = true → Spec Try.prog 16 [.agg f.abs, u32 s] [] (fun _ : Unit => []) (fun _ => boo (f.holds s))) (fun o a ks ih => fun hn hr => rholds_step ih hn hr) f
theorem right_s (hn : f.nodes ≤ 1099511627000) : Spec Try.prog 49 [.agg f.abs] [] (fun _ : Unit => []) (fun _ => boo (decide (f.check 7 = 0))) := by
  refine spec_of Try.func49 rfl Try.ntmps49 rfl fun G w => ?_
  refine SC.seq (SC.region ?_)
  refine SL.eff (Eff.boxA (cs := f.abs) rfl) rfl rfl ?_
  rintro _ _ ⟨b1, rfl, rfl⟩
  refine SL.val (Val.assign rfl) rfl rfl ?_
  refine SL.nil (SE.seq ?_)
  refine SC.seq (SC.region ?_)
  refine SL.val (Val.loadA tabOk rfl rfl rfl (by first|(apply Or.inl;(repeat first|assumption|exact m0|apply m1);done)|(apply Or.inr;(repeat first|assumption|exact m0|apply m1);done)) List.not_mem_nil (Frm.abs_len _)) rfl rfl ?_
  refine SL.call (fcheck_s (n := 7) hn) Casts.refl (by kernel_rfl) rfl rfl rfl ?_
  refine After.pure (by repeat first|exact .nil|refine .blk (by repeat first|assumption|exact m0|apply m1) ?_|refine .rd (by repeat first|assumption|exact m0|apply m1) ?_|refine .pc (by repeat first|assumption|exact m0|apply m1) ?_|refine .rdpc (by repeat first|assumption|exact m0|apply m1) ?_) (fun _ => rfl) ?_
  intro _
  refine SL.val (Val.eqI rfl rfl) rfl rfl ?_
  refine SL.val (Val.assign rfl) rfl rfl ?_
  refine SL.nil (SE.seq ?_)
  refine SC.ret ?_
  refine SE.fin (rs := [.tmp 2]) rfl (RV.tmp rfl RV.nil) (()) (by repeat first|exact s0 _|exact s1 _|apply s2|apply s3) (by simp [It.rids]) ?_
  exact rfl
theorem fholds_s (hn : f.nodes ≤ 1099511627000) : Spec Try.prog 37 [.agg f.abs, u32 s] [] (fun _ : Unit => []) (fun _ => boo (decide (f.check 7 = 0) && f.holds s)) := by
  refine spec_of Try.func37 rfl Try.ntmps37 rfl fun G w => ?_
  refine SC.seq (SC.region ?_)
  refine SL.eff (Eff.boxA (cs := f.abs) rfl) rfl rfl ?_
  rintro _ _ ⟨b2, rfl, rfl⟩
  refine SL.val (Val.assign rfl) rfl rfl ?_
  refine SL.nil (SE.seq ?_)
  refine SC.seq (SC.region ?_)
  refine SL.val (Val.loadA tabOk rfl rfl rfl (by first|(apply Or.inl;(repeat first|assumption|exact m0|apply m1);done)|(apply Or.inr;(repeat first|assumption|exact m0|apply m1);done)) List.not_mem_nil (Frm.abs_len _)) rfl rfl ?_
  refine SL.call (right_s hn) Casts.refl (by kernel_rfl) rfl rfl rfl ?_
  refine After.pure (by repeat first|exact .nil|refine .blk (by repeat first|assumption|exact m0|apply m1) ?_|refine .rd (by repeat first|assumption|exact m0|apply m1) ?_|refine .pc (by repeat first|assumption|exact m0|apply m1) ?_|refine .rdpc (by repeat first|assumption|exact m0|apply m1) ?_) (fun _ => rfl) ?_
  intro _
  refine SL.val (Val.move rfl) rfl rfl ?_
  refine SL.bothP (t := 7) rfl ?_ ?_
  rotate_left
  · intro hc7
    iterate 3 refine SL.skip rfl rfl ?_
    refine SL.val (Val.pickF rfl rfl) rfl rfl ?_
    refine SL.val (Val.assign rfl) rfl rfl ?_
    refine SL.nil (SE.seq ?_)
    refine SC.ret ?_
    refine SE.fin (rs := [.tmp 4]) rfl (RV.tmp rfl RV.nil) (()) (by repeat first|exact s0 _|exact s1 _|apply s2|apply s3) (by simp [It.rids]) ?_
    first
      | (rw [decide_eq_true (by assumption), Bool.true_and]; rfl)
      | (rw [decide_eq_false (by assumption), Bool.false_and]; rfl)
  intro hc7
  refine SL.val (Val.loadA tabOk rfl rfl rfl (by first|(apply Or.inl;(repeat first|assumption|exact m0|apply m1);done)|(apply Or.inr;(repeat first|assumption|exact m0|apply m1);done)) List.not_mem_nil (Frm.abs_len _)) rfl rfl ?_
  refine SL.val (Val.move rfl) rfl rfl ?_
  refine SL.call (holds_s s f (by omega) (Frm.check_ok.1 (by assumption)).2.2.2) Casts.refl (by kernel_rfl) rfl rfl rfl ?_
  refine After.pure (by repeat first|exact .nil|refine .blk (by repeat first|assumption|exact m0|apply m1) ?_|refine .rd (by repeat first|assumption|exact m0|apply m1) ?_|refine .pc (by repeat first|assumption|exact m0|apply m1) ?_|refine .rdpc (by repeat first|assumption|exact m0|apply m1) ?_) (fun _ => rfl) ?_
  intro _
  refine SL.val (Val.pickT rfl rfl) rfl rfl ?_
  refine SL.val (Val.assign rfl) rfl rfl ?_
  refine SL.nil (SE.seq ?_)
  refine SC.ret ?_
  refine SE.fin (rs := [.tmp 4]) rfl (RV.tmp rfl RV.nil) (()) (by repeat first|exact s0 _|exact s1 _|apply s2|apply s3) (by simp [It.rids]) ?_
  first
    | (rw [decide_eq_true (by assumption), Bool.true_and]; rfl)
    | (rw [decide_eq_false (by assumption), Bool.false_and]; rfl)
theorem enough_s (hn : f.nodes ≤ 1099511627000) : Spec Try.prog 19 [.agg f.abs, u32 s, int n] [] (fun _ : Unit => []) (fun _ => boo (decide (f.check n = 0) && f.holds s)) := by
  refine spec_of Try.func19 rfl Try.ntmps19 rfl fun G w => ?_
  refine SC.seq (SC.region ?_)
  refine SL.eff (Eff.boxA (cs := f.abs) rfl) rfl rfl ?_
  rintro _ _ ⟨b3, rfl, rfl⟩
  refine SL.val (Val.assign rfl) rfl rfl ?_
  refine SL.nil (SE.seq ?_)
  refine SC.seq (SC.region ?_)
  refine SL.val (Val.loadA tabOk rfl rfl rfl (by first|(apply Or.inl;(repeat first|assumption|exact m0|apply m1);done)|(apply Or.inr;(repeat first|assumption|exact m0|apply m1);done)) List.not_mem_nil (Frm.abs_len _)) rfl rfl ?_
  refine SL.val (Val.move rfl) rfl rfl ?_
  refine SL.call (fcheck_s (n := n) hn) Casts.refl (by kernel_rfl) rfl rfl rfl ?_
  refine After.pure (by repeat first|exact .nil|refine .blk (by repeat first|assumption|exact m0|apply m1) ?_|refine .rd (by repeat first|assumption|exact m0|apply m1) ?_|refine .pc (by repeat first|assumption|exact m0|apply m1) ?_|refine .rdpc (by repeat first|assumption|exact m0|apply m1) ?_) (fun _ => rfl) ?_
  intro _
  refine SL.val (Val.eqI rfl rfl) rfl rfl ?_
  refine SL.val (Val.move rfl) rfl rfl ?_
  refine SL.bothP (t := 11) rfl ?_ ?_
  rotate_left
  · intro hc11
    iterate 3 refine SL.skip rfl rfl ?_
    refine SL.val (Val.pickF rfl rfl) rfl rfl ?_
    refine SL.val (Val.assign rfl) rfl rfl ?_
    refine SL.nil (SE.seq ?_)
    refine SC.ret ?_
    refine SE.fin (rs := [.tmp 6]) rfl (RV.tmp rfl RV.nil) (()) (by repeat first|exact s0 _|exact s1 _|apply s2|apply s3) (by simp [It.rids]) ?_
    first
      | (rw [decide_eq_true hc11, decide_eq_true (Frm.check_ok.2 (by have h9 := Frm.check_ok.1 hc11; exact ⟨by omega, h9.2.1, h9.2.2.1, Frm.ranges_mono h9.1.2 f h9.2.2.2⟩)), Bool.true_and]; rfl)
      | (rw [decide_eq_false hc11, Bool.false_and]; rfl)
  intro hc11
  refine SL.val (Val.loadA tabOk rfl rfl rfl (by first|(apply Or.inl;(repeat first|assumption|exact m0|apply m1);done)|(apply Or.inr;(repeat first|assumption|exact m0|apply m1);done)) List.not_mem_nil (Frm.abs_len _)) rfl rfl ?_
  refine SL.val (Val.move rfl) rfl rfl ?_
  refine SL.call (fholds_s (s := s) hn) Casts.refl (by kernel_rfl) rfl rfl rfl ?_
  refine After.pure (by repeat first|exact .nil|refine .blk (by repeat first|assumption|exact m0|apply m1) ?_|refine .rd (by repeat first|assumption|exact m0|apply m1) ?_|refine .pc (by repeat first|assumption|exact m0|apply m1) ?_|refine .rdpc (by repeat first|assumption|exact m0|apply m1) ?_) (fun _ => rfl) ?_
  intro _
  refine SL.val (Val.pickT rfl rfl) rfl rfl ?_
  refine SL.val (Val.assign rfl) rfl rfl ?_
  refine SL.nil (SE.seq ?_)
  refine SC.ret ?_
  refine SE.fin (rs := [.tmp 6]) rfl (RV.tmp rfl RV.nil) (()) (by repeat first|exact s0 _|exact s1 _|apply s2|apply s3) (by simp [It.rids]) ?_
  first
    | (rw [decide_eq_true hc11, decide_eq_true (Frm.check_ok.2 (by have h9 := Frm.check_ok.1 hc11; exact ⟨by omega, h9.2.1, h9.2.2.1, Frm.ranges_mono h9.1.2 f h9.2.2.2⟩)), Bool.true_and]; rfl)
    | (rw [decide_eq_false hc11, Bool.false_and]; rfl)
end
end Go.Proofs.Ytbhjchlflkgjbaa.A
