/-
  Packed out of the texts: A18, W5, W6, A19, W7, YRow.
-/
import Derived.Test.YtoifikgnbblbgaaI06
/-
  The second engine: pieces of memory put together to one, and taken apart.
-/
set_option maxRecDepth 100000
set_option linter.unusedSimpArgs false
set_option linter.unusedVariables false
namespace Go.Proofs.Ytoifikgnbblbgaa.A
open Go.RowKit

/-- A block, as a piece. -/
def blkP (b : Nat) (t : TypeId) (cs : List Abs) : Pc where
  ids := [b]
  p := fun K w => ∃ us, w.heap[b]? = some (row t us) ∧ reps K w cs us
  carry := fun K w K' w' hc hs ⟨us, h1, h2⟩ => ⟨us, (hs b (by simp)).trans h1, reps_carry hc _ _ h2⟩
  lt := fun K w ⟨us, h1, _⟩ k hk => by
    simp at hk
    subst hk
    exact heap_lt h1
/-- Many pieces as one. -/
def bigP (l : List Pc) : Pc where
  ids := l.flatMap Pc.ids
  p := fun K w => ∀ c ∈ l, c.p K w
  carry := fun K w K' w' hc hs h c hm => c.carry K w K' w' hc (fun k hk => hs k (List.mem_flatMap.2 ⟨c, hm, hk⟩)) (h c hm)
  lt := fun K w h k hk => by
    obtain ⟨c, hm, hk⟩ := List.mem_flatMap.1 hk
    exact c.lt K w (h c hm) k hk
section
variable {w0 w : World} {F G : List Nat} {α β xs ys : Blks}
/-- Pieces said otherwise; some may be let go. -/
theorem Mem.regroup {zs : List Nat} (hp : (mids xs).Perm (mids ys ++ zs)) (hr : ∀ y ∈ ys, y.rids = []) (hh : ∀ K, (∀ x ∈ xs, x.holds K w) → ∀ y ∈ ys, y.holds K w) (h : Mem w0 F G (α ++ (xs ++ β)) w) :
    Mem w0 F G (α ++ (ys ++ β)) w ∧ Carry (mids (α ++ (xs ++ β)) ++ G) w (mids (α ++ (ys ++ β)) ++ G) w := by
  have hsub : ∀ k ∈ mids ys, k ∈ mids xs := fun k hk => hp.mem_iff.2 (List.mem_append_left _ hk)
  refine h.step (Y := []) (Ext.refl w) (by simp) (fun k hk => ?_) (fun x hx => ?_) ?_ fun hc x hx => ?_
  · simp only [mids_append, List.mem_append] at hk ⊢
    rcases hk with hk | hk | hk
    · exact .inl (.inl hk)
    · exact .inl (.inr (.inl (hsub k hk)))
    · exact .inl (.inr (.inr hk))
  · simp only [List.mem_append] at hx
    rcases hx with hx | hx | hx
    · exact h.ro x (by simp [hx])
    · rw [hr x hx]; simp
    · exact h.ro x (by simp [hx])
  · have hn := h.nodup
    simp only [mids_append] at hn ⊢
    have h2 : (mids α ++ (mids xs ++ mids β)).Perm ((mids α ++ (mids ys ++ mids β)) ++ zs) := by
      rw [List.append_assoc, List.append_assoc]
      refine List.Perm.append_left _ ?_
      refine (hp.append_right _).trans ?_
      rw [List.append_assoc]
      exact List.Perm.append_left _ List.perm_append_comm
    exact (List.nodup_append.1 (h2.nodup_iff.1 hn)).1
  · simp only [List.mem_append] at hx
    rcases hx with hx | hx | hx
    · exact h.keep (Y := []) (Ext.refl w) hc (by simp [hx]) (by simp) (by simp)
    · exact hh _ (fun z hz => h.keep (Y := []) (Ext.refl w) hc (by simp [hz]) (by simp) (by simp)) x hx
    · exact h.keep (Y := []) (Ext.refl w) hc (by simp [hx]) (by simp) (by simp)
end
section
variable {P : Program} {n : Nat} {W : Wd} {σ τ : Blks} {l : Slots} {X : List Nat} {ops : Array Oper} {rest : List Oper} {Q : Exit → Act → World → Prop} {ix : Plan} {α β xs ys : Blks}
/-- One way to say pieces, and another one. -/
structure Re (xs ys : Blks) : Prop where
  ids : ∃ zs : List Nat, (mids xs).Perm (mids ys ++ zs)
  rd : ∀ y ∈ ys, y.rids = []
  hh : ∀ K w, (∀ x ∈ xs, x.holds K w) → ∀ y ∈ ys, y.holds K w
theorem St.re {a : Act} {w : World} (hr : Re xs ys) (hσ : σ = α ++ (xs ++ β)) (hτ : τ = α ++ (ys ++ β)) (h : St n W σ l a w) : St n W τ l a w := by
  subst hσ hτ
  obtain ⟨zs, hz⟩ := hr.ids
  have h1 := h.mem.regroup hz hr.rd (fun K => hr.hh K w)
  exact h.to h1.1 h1.2
theorem SC.re {c : Code} (α : Blks) {β : Blks} (hr : Re xs ys) (hσ : σ = α ++ (xs ++ β)) (k : SC P c (St n W (α ++ (ys ++ β)) l) Q) : SC P c (St n W σ l) Q := fun a w h => k a w (h.re hr hσ rfl)
theorem SL.re (α : Blks) {β : Blks} (hr : Re xs ys) (hσ : σ = α ++ (xs ++ β)) (k : SL P ops rest (St n W (α ++ (ys ++ β)) l) Q) : SL P ops rest (St n W σ l) Q := fun a w h => k a w (h.re hr hσ rfl)
theorem SX.re (α : Blks) {β : Blks} (hr : Re xs ys) (hσ : σ = α ++ (xs ++ β)) (k : SX P ops ix X (St n W (α ++ (ys ++ β)) l) Q) : SX P ops ix X (St n W σ l) Q := fun a w h => k a w (h.re hr hσ rfl)
theorem SE.re {ex : Exit} (α : Blks) {β : Blks} (hr : Re xs ys) (hσ : σ = α ++ (xs ++ β)) (k : SE ex (St n W (α ++ (ys ++ β)) l) Q) : SE ex (St n W σ l) Q := fun a w h => k a w (h.re hr hσ rfl)
end
theorem Re.refl {xs : Blks} (h : ∀ x ∈ xs, x.rids = []) : Re xs xs := ⟨⟨[], by simp⟩, h, fun _ _ h => h⟩
theorem Re.trans {xs ys zs : Blks} (h : Re xs ys) (k : Re ys zs) : Re xs zs where
  ids := by
    obtain ⟨a, ha⟩ := h.ids
    obtain ⟨b, hb⟩ := k.ids
    exact ⟨b ++ a, ha.trans ((hb.append_right a).trans (by rw [List.append_assoc]))⟩
  rd := k.rd
  hh := fun K w hx => k.hh K w (h.hh K w hx)
/-- With a piece beside. -/
theorem Re.app {xs ys : Blks} (h : Re xs ys) (c : Pc) : Re (xs ++ [.pc c]) (ys ++ [.pc c]) where
  ids := by
    obtain ⟨a, ha⟩ := h.ids
    refine ⟨a, ?_⟩
    rw [mids_append, mids_append, List.append_assoc]
    exact (ha.append_right _).trans (by rw [List.append_assoc]; exact List.Perm.append_left _ List.perm_append_comm)
  rd := fun y hy => by
    rcases List.mem_append.1 hy with hy | hy
    · exact h.rd y hy
    · rw [List.mem_singleton.1 hy]; rfl
  hh := fun K w hx y hy => by
    rcases List.mem_append.1 hy with hy | hy
    · exact h.hh K w (fun x hx2 => hx x (List.mem_append_left _ hx2)) y hy
    · exact hx y (List.mem_append_right _ hy)
/-- One of many, taken out. -/
theorem Re.out {l1 l2 : List Pc} {c : Pc} : Re [.pc (bigP (l1 ++ c :: l2))] [.pc c, .pc (bigP (l1 ++ l2))] where
  ids := ⟨[], by
    simp only [mids, List.flatMap_cons, List.flatMap_nil, It.mids, bigP, List.flatMap_append, List.append_nil]
    exact List.perm_append_comm_assoc _ _ _⟩
  rd := by simp [It.rids]
  hh := fun K w h y hy => by
    have h1 : ∀ d ∈ l1 ++ c :: l2, d.p K w := h _ (List.mem_singleton.2 rfl)
    simp only [List.mem_cons, List.not_mem_nil, or_false] at hy
    rcases hy with rfl | rfl
    · exact h1 c (by simp)
    · intro d hd
      exact h1 d (by
        rcases List.mem_append.1 hd with hd | hd
        · simp [hd]
        · simp [hd])
/-- .. and put back. -/
theorem Re.back {l1 l2 : List Pc} {c : Pc} : Re [.pc c, .pc (bigP (l1 ++ l2))] [.pc (bigP (l1 ++ c :: l2))] where
  ids := ⟨[], by
    simp only [mids, List.flatMap_cons, List.flatMap_nil, It.mids, bigP, List.flatMap_append, List.append_nil]
    exact List.perm_append_comm_assoc _ _ _⟩
  rd := by simp [It.rids]
  hh := fun K w h y hy => by
    have h1 : c.p K w := h (.pc c) (by simp)
    have h2 : ∀ d ∈ l1 ++ l2, d.p K w := h (.pc (bigP (l1 ++ l2))) (by simp)
    rw [List.mem_singleton.1 hy]
    intro d hd
    simp only [List.mem_append, List.mem_cons] at hd
    rcases hd with hd | rfl | hd
    · exact h2 d (by simp [hd])
    · exact h1
    · exact h2 d (by simp [hd])
/-- Some of many are let go; or they stand in another order. -/
theorem Re.part {l l' : List Pc} (h : ∃ z, l.Perm (l' ++ z)) : Re [.pc (bigP l)] [.pc (bigP l')] where
  ids := by
    obtain ⟨z, hz⟩ := h
    refine ⟨z.flatMap Pc.ids, ?_⟩
    simp only [mids, List.flatMap_cons, List.flatMap_nil, It.mids, bigP, List.append_nil]
    rw [← List.flatMap_append]
    exact hz.flatMap_right _
  rd := by simp [It.rids]
  hh := fun K w h1 y hy => by
    obtain ⟨z, hz⟩ := h
    have h2 : ∀ d ∈ l, d.p K w := h1 _ (List.mem_singleton.2 rfl)
    rw [List.mem_singleton.1 hy]
    exact fun d hd => h2 d (hz.mem_iff.2 (List.mem_append_left _ hd))
/-- None, as one. -/
theorem Re.empty : Re [] [.pc (bigP [])] := ⟨⟨[], by simp [mids, It.mids, bigP]⟩, by simp [It.rids], fun K w _ y hy => by
  rw [List.mem_singleton.1 hy]
  intro d hd
  cases hd⟩
theorem Re.blkIn {b : Nat} {t : TypeId} {cs : List Abs} : Re [.blk b t cs] [.pc (blkP b t cs)] := ⟨⟨[], by simp [mids, It.mids, blkP]⟩, by simp [It.rids], fun K w h y hy => by
  rw [List.mem_singleton.1 hy]
  exact h (.blk b t cs) (by simp)⟩
theorem Re.blkOut {b : Nat} {t : TypeId} {cs : List Abs} : Re [.pc (blkP b t cs)] [.blk b t cs] := ⟨⟨[], by simp [mids, It.mids, blkP]⟩, by simp [It.rids], fun K w h y hy => by
  rw [List.mem_singleton.1 hy]
  exact h (.pc (blkP b t cs)) (by simp)⟩
/-- Two blocks and two pieces, as one. -/
theorem Re.fourIn {b b' : Nat} {t t' : TypeId} {cs cs' : List Abs} {c c' : Pc} : Re [.blk b t cs, .blk b' t' cs', .pc c, .pc c'] [.pc (bigP [blkP b t cs, blkP b' t' cs', c, c'])] := ⟨⟨[], by simp [mids, It.mids, bigP, blkP]⟩, by simp [It.rids], fun K w h y hy => by
  rw [List.mem_singleton.1 hy]
  intro d hd
  simp only [List.mem_cons, List.not_mem_nil, or_false] at hd
  rcases hd with rfl | rfl | rfl | rfl
  · exact h (.blk b t cs) (by simp)
  · exact h (.blk b' t' cs') (by simp)
  · exact h (.pc d) (by simp)
  · exact h (.pc d) (by simp)⟩
theorem Re.fourOut {b b' : Nat} {t t' : TypeId} {cs cs' : List Abs} {c c' : Pc} : Re [.pc (bigP [blkP b t cs, blkP b' t' cs', c, c'])] [.blk b t cs, .blk b' t' cs', .pc c, .pc c'] := ⟨⟨[], by simp [mids, It.mids, bigP, blkP]⟩, by simp [It.rids], fun K w h y hy => by
  have h1 : ∀ d ∈ [blkP b t cs, blkP b' t' cs', c, c'], d.p K w := h _ (List.mem_singleton.2 rfl)
  simp only [List.mem_cons, List.not_mem_nil, or_false] at hy
  rcases hy with rfl | rfl | rfl | rfl
  · exact h1 (blkP b t cs) (by simp)
  · exact h1 (blkP b' t' cs') (by simp)
  · exact h1 c (by simp)
  · exact h1 c' (by simp)⟩
theorem Mem.re {w0 w : World} {F G : List Nat} {xs ys : Blks} (hr : Re xs ys) (h : Mem w0 F G xs w) : Mem w0 F G ys w ∧ Carry (mids xs ++ G) w (mids ys ++ G) w := by
  obtain ⟨zs, hz⟩ := hr.ids
  have h1 := Mem.regroup (α := []) (β := []) hz hr.rd (fun K => hr.hh K w) (by simpa using h)
  simpa using h1
/-- A function that knows a part of the pieces alone. -/
theorem Spec.reg {P : Program} {f : FuncId} {args : List Abs} {xs σ0 φ : Blks} {ι : Type} {τ τ0 : ι → Blks} {res : ι → Abs} (hs : Spec P f args xs τ res) (hx : ∀ x ∈ xs, x.rids = []) (h0 : Re σ0 (xs ++ φ)) (h1 : ∀ z, Re (τ z ++ φ) (τ0 z)) : Spec P f args σ0 τ0 res := fun G w vals hm hv => by
  obtain ⟨hm1, hc1⟩ := Mem.re h0 hm
  have hp : Split (xs ++ φ) xs φ := ⟨by rw [mids_append], fun x h => .inl ⟨by simp [h], hx x h⟩, fun x h => by simp [h]⟩
  refine (hs.run hm1 hp (reps_carry hc1 _ _ hv)).mono fun e w' ⟨z, r, he, _, _, hm2, _, hr⟩ => ?_
  obtain ⟨hm3, hc3⟩ := Mem.re (h1 z) hm2
  exact ⟨z, r, he, (h1 z).rd, hm3, rep_carry hc3 _ _ hr⟩
end Go.Proofs.Ytoifikgnbblbgaa.A
/-
  Slots: the program's.
-/
set_option maxRecDepth 100000
set_option linter.unusedSimpArgs false
set_option linter.unusedVariables false
namespace Go.Proofs.Ytoifikgnbblbgaa.A
open Go.RowKit Go.Maps Go.Sort Go.Shelf

theorem After.make3 {ι : Type} {σ σ1 : Blks} {τ' : ι → Blks} {a b c : ι → It} {K : Blks → ι → Prop} (h : Reads σ σ1) (hτ : ∀ z, τ' z = [a z, b z, c z]) (k : ∀ z, K (a z :: b z :: c z :: σ) z) : After σ σ1 τ' K := ⟨σ, h.split, fun z => ⟨_, by rw [hτ z]; exact List.Perm.refl _, k z⟩⟩
theorem After.threeAt3 {ι : Type} {a b c x1 x2 x3 : It} {β : Blks} {τ' : ι → Blks} {y1 y2 y3 : ι → It} {K : Blks → ι → Prop} (hr : x1.rids = [] ∧ x2.rids = [] ∧ x3.rids = []) (hτ : ∀ z, τ' z = [y1 z, y2 z, y3 z]) (k : ∀ z, K (a :: b :: c :: y1 z :: y2 z :: y3 z :: β) z) : After (a :: b :: c :: x1 :: x2 :: x3 :: β) [x1, x2, x3] τ' K :=
  After.mid [a, b, c] (β := β) rfl (by intro x hx; simp only [List.mem_cons, List.not_mem_nil, or_false] at hx; rcases hx with rfl | rfl | rfl; exact hr.1; exact hr.2.1; exact hr.2.2) fun z => by rw [hτ z]; exact k z
theorem After.fourAt {ι : Type} (α : Blks) {x1 x2 x3 x4 : It} {σ β : Blks} {τ' : ι → Blks} {y1 y2 y3 y4 : ι → It} {K : Blks → ι → Prop} (hσ : σ = α ++ ([x1, x2, x3, x4] ++ β)) (hr : x1.rids = [] ∧ x2.rids = [] ∧ x3.rids = [] ∧ x4.rids = []) (hτ : ∀ z, τ' z = [y1 z, y2 z, y3 z, y4 z]) (k : ∀ z, K (α ++ (y1 z :: y2 z :: y3 z :: y4 z :: β)) z) : After σ [x1, x2, x3, x4] τ' K :=
  After.mid α (β := β) hσ (by intro x hx; simp only [List.mem_cons, List.not_mem_nil, or_false] at hx; rcases hx with rfl | rfl | rfl | rfl; exact hr.1; exact hr.2.1; exact hr.2.2.1; exact hr.2.2.2) fun z => by rw [hτ z]; exact k z
/-- How a vote ends, and what is left. -/
def voteE (n : Int) (m : List (Int × Dg)) (who : Int) (d : Dg) : Int := if who < 0 ∨ n ≤ who then 17 else match aget m who with | none => 0 | some v => if v = d then 15 else 2
def voteIn (n : Int) (m : List (Int × Dg)) (who : Int) : Bool := decide (¬ (who < 0 ∨ n ≤ who)) && (aget m who).isNone
def voteM (n : Int) (m : List (Int × Dg)) (who : Int) (d : Dg) : List (Int × Dg) := if voteIn n m who then aput m who d else m
def voteC (n : Int) (m : List (Int × Dg)) (c : List (Dg × Nat)) (who : Int) (d : Dg) : List (Dg × Nat) := if voteIn n m who then chgC m c who d else c
theorem vote_out {n : Int} {m : List (Int × Dg)} {c : List (Dg × Nat)} {who : Int} {d : Dg} (h : who < 0 ∨ n ≤ who) : voteE n m who d = 17 ∧ voteM n m who d = m ∧ voteC n m c who d = c := by
  unfold voteE voteM voteC voteIn
  simp [h]
theorem vote_new {n : Int} {m : List (Int × Dg)} {c : List (Dg × Nat)} {who : Int} {d : Dg} (h : ¬ (who < 0 ∨ n ≤ who)) (hv : aget m who = none) : voteE n m who d = 0 ∧ voteM n m who d = aput m who d ∧ voteC n m c who d = chgC m c who d := by
  unfold voteE voteM voteC voteIn
  simp [h, hv]
theorem vote_old {n : Int} {m : List (Int × Dg)} {c : List (Dg × Nat)} {who : Int} {d v : Dg} (h : ¬ (who < 0 ∨ n ≤ who)) (hv : aget m who = some v) : voteE n m who d = (if v = d then 15 else 2) ∧ voteM n m who d = m ∧ voteC n m c who d = c := by
  unfold voteE voteM voteC voteIn
  simp [h, hv]
theorem hOf_some {m : List (Int × Dg)} {w : Int} {v : Dg} (h : aget m w = some v) : hOf m w = v := by
  unfold hOf
  rw [h]
  rfl
section
variable {n who : Int} {p t t2 bv bn : Nat} {m : List (Int × Dg)} {c : List (Dg × Nat)} {k : Dg}
theorem dg_ofR_s (hw : intOk who) : Spec Try.prog 29 [ptr t, int who] [.rd t 79 [mapV bv, mapV bn], .rdpc (mapPc bv intK dgV intOk m)] (fun _ : Unit => []) (fun _ => .tup [.agg (dgC (hOf m who)), boo (aget m who).isSome]) := by
  refine spec_of Try.func29 rfl Try.ntmps29 rfl fun G w => ?_
  refine SC.seq (SC.region ?_)
  refine SL.eff (Eff.alloc tabOk rfl) rfl rfl ?_
  rintro _ _ ⟨b4, rfl, rfl⟩
  refine SL.val (Val.assign rfl) rfl rfl ?_
  refine SL.nil (SE.seq ?_)
  refine SC.seq ?_
  refine SC.seq (SC.region ?_)
  refine SL.val (Val.move rfl) rfl rfl ?_
  refine SL.val (Val.eqP rfl rfl (by kernel_rfl)) rfl rfl ?_
  refine SL.nil (SE.seq ?_)
  refine SC.condF rfl ?_
  refine SC.skip ?_
  refine SE.seq ?_
  refine SC.seq (SC.region ?_)
  refine SL.val (Val.move rfl) rfl rfl ?_
  refine SL.val (Val.nilCheck rfl) rfl rfl ?_
  refine SL.val (Val.fieldAddr tabOk rfl rfl rfl rfl rfl) rfl rfl ?_
  refine SL.val (Val.load1 tabOk rfl rfl (by first|(apply Or.inl;(repeat first|assumption|exact m0|apply m1);done)|(apply Or.inr;(repeat first|assumption|exact m0|apply m1);done)) List.not_mem_nil (by rfl)) rfl rfl ?_
  refine SL.val (Val.move rfl) rfl rfl ?_
  refine SL.val (Val.mapGetOk (a := who) (zv := dgV dg0) (C := .agg (dgC (hOf m who))) (int_fit Try.underlying3) Try.underlying76 dg_zero rfl (by first|(apply Or.inl;(repeat first|assumption|exact m0|apply m1);done)|(apply Or.inr;(repeat first|assumption|exact m0|apply m1);done)) List.not_mem_nil rfl is_v hw (hOf_is _ _)) rfl rfl ?_
  refine SL.val (Val.move rfl) rfl rfl ?_
  refine SL.val (Val.extract rfl rfl) rfl rfl ?_
  refine SL.val (Val.extract rfl rfl) rfl rfl ?_
  refine SL.eff (Eff.alloc tabOk rfl) rfl rfl ?_
  rintro _ _ ⟨b7, rfl, rfl⟩
  refine SL.eff (Eff.store (L' := dgC (hOf m who)) tabOk rfl rfl rfl (by repeat first|assumption|exact Upd.here|apply Upd.there) (by exact dgC_len _) (Nat.le_of_ble_eq_true (by rfl)) (by exact dgC_ones _) (putL_whole (by exact dgC_len _))) rfl rfl ?_
  rintro _ _ ⟨rfl, rfl⟩
  refine SL.val (Val.assign rfl) rfl rfl ?_
  refine SL.nil (SE.seq ?_)
  refine SC.seq (SC.region ?_)
  refine SL.val (Val.loadA tabOk rfl rfl rfl (by first|(apply Or.inl;(repeat first|assumption|exact m0|apply m1);done)|(apply Or.inr;(repeat first|assumption|exact m0|apply m1);done)) List.not_mem_nil (dgC_len _)) rfl rfl ?_
  refine SL.val (Val.move rfl) rfl rfl ?_
  refine SL.eff (Eff.store (L' := dgC (hOf m who)) tabOk rfl rfl rfl (by repeat first|assumption|exact Upd.here|apply Upd.there) (by exact dgC_len _) (Nat.le_of_ble_eq_true (by rfl)) (by exact dgC_ones _) (putL_whole (by exact dgC_len _))) rfl rfl ?_
  rintro _ _ ⟨rfl, rfl⟩
  refine SL.val (Val.assign rfl) rfl rfl ?_
  refine SL.nil (SE.seq ?_)
  refine SC.ret ?_
  refine SE.fin (rs := [.cell 4 41, .tmp 5]) rfl (RV.cell rfl (RV.cellA tabOk rfl rfl (by first|(apply Or.inl;(repeat first|assumption|exact m0|apply m1);done)|(apply Or.inr;(repeat first|assumption|exact m0|apply m1);done)) (dgC_len _)) (RV.tmp rfl RV.nil)) (()) (by repeat first|exact s0 _|exact s1 _|apply s2|apply s3) (by simp [It.rids]) ?_
  exact rfl
theorem snewK_s (hn : 1 ≤ n ∧ n ≤ 7) : Spec Try.prog 20 [int n] [] (fun z : Nat × Nat × Nat × Nat × Nat => [.blk z.1 66 [int n, .v (.pointer none), ptr z.2.1, ptr z.2.2.1], .blk z.2.1 79 [mapV z.2.2.2.1, mapV z.2.2.2.2], .pc (mapPc z.2.2.2.1 intK dgV intOk []), .pc (mapPc z.2.2.2.2 dgV cntV dgTop [])]) (fun z => ptr z.1) := by
  refine spec_of Try.func20 rfl Try.ntmps20 rfl fun G w => ?_
  refine SC.seq (SC.region ?_)
  refine SL.val (Val.assign rfl) rfl rfl ?_
  refine SL.nil (SE.seq ?_)
  refine SC.seq ?_
  refine SC.seq (SC.region ?_)
  refine SL.val (Val.move rfl) rfl rfl ?_
  refine SL.val (Val.ltI rfl rfl) rfl rfl ?_
  refine SL.val (Val.move rfl) rfl rfl ?_
  refine SL.bothP (t := 5) rfl (by intro hc5; exfalso; omega) ?_
  intro hc5
  refine SL.val (Val.move rfl) rfl rfl ?_
  refine SL.val (Val.gtI rfl rfl) rfl rfl ?_
  refine SL.val (Val.pickF rfl rfl) rfl rfl ?_
  refine SL.nil (SE.seq ?_)
  refine SC.condP rfl (by intro hc8; exfalso; omega) ?_
  intro hc8
  refine SC.skip ?_
  refine SE.seq ?_
  refine SC.seq (SC.region ?_)
  refine SL.val (Val.move rfl) rfl rfl ?_
  refine SL.call (dg_new_s) Casts.refl (by kernel_rfl) rfl rfl rfl ?_
  refine After.make3 (by repeat first|exact .nil|refine .blk (by repeat first|assumption|exact m0|apply m1) ?_|refine .rd (by repeat first|assumption|exact m0|apply m1) ?_|refine .pc (by repeat first|assumption|exact m0|apply m1) ?_|refine .rdpc (by repeat first|assumption|exact m0|apply m1) ?_) (fun _ => rfl) ?_
  intro y1
  refine SL.call (dg_new_s) Casts.refl (by kernel_rfl) rfl rfl rfl ?_
  refine After.make3 (by repeat first|exact .nil|refine .blk (by repeat first|assumption|exact m0|apply m1) ?_|refine .rd (by repeat first|assumption|exact m0|apply m1) ?_|refine .pc (by repeat first|assumption|exact m0|apply m1) ?_|refine .rdpc (by repeat first|assumption|exact m0|apply m1) ?_) (fun _ => rfl) ?_
  intro y2
  refine SL.val (Val.buildS tabOk rfl rfl rfl rfl) rfl rfl ?_
  refine SL.eff (Eff.boxA rfl) rfl rfl ?_
  rintro _ _ ⟨b13, rfl, rfl⟩
  refine SL.val (Val.assign rfl) rfl rfl ?_
  refine SL.nil (SE.seq ?_)
  refine SC.ret ?_
  refine SE.fin (rs := [.tmp 2]) rfl (RV.tmp rfl RV.nil) (b13, y1.1, y2.1, y1.2.1, y1.2.2) (by repeat first|exact s0 _|exact s1 _|apply s2|apply s3) (by simp [It.rids]) ?_
  exact rfl
theorem vote_out_s (hw : intOk who) (hti : TInv m c) (hl : m.length ≤ 1000) (hout : who < 0 ∨ n ≤ who) : Spec Try.prog 23 [ptr p, ptr t, int who, .agg (dgC k)] [.blk p 66 [int n, .v (.pointer none), ptr t, ptr t2], .blk t 79 [mapV bv, mapV bn], .pc (mapPc bv intK dgV intOk m), .pc (mapPc bn dgV cntV dgTop c)] (fun _ : Unit => [.blk p 66 [int n, .v (.pointer none), ptr t, ptr t2], .blk t 79 [mapV bv, mapV bn], .pc (mapPc bv intK dgV intOk (voteM n m who k)), .pc (mapPc bn dgV cntV dgTop (voteC n m c who k))]) (fun _ => int (voteE n m who k)) := by
  refine spec_of Try.func23 rfl Try.ntmps23 rfl fun G w => ?_
  refine SC.seq (SC.region ?_)
  refine SL.eff (Eff.boxA (cs := dgC k) rfl) rfl rfl ?_
  rintro _ _ ⟨b7, rfl, rfl⟩
  refine SL.val (Val.assign rfl) rfl rfl ?_
  refine SL.nil (SE.seq ?_)
  refine SC.seq ?_
  refine SC.seq (SC.region ?_)
  refine SL.val (Val.move rfl) rfl rfl ?_
  refine SL.val (Val.ltI rfl rfl) rfl rfl ?_
  refine SL.val (Val.move rfl) rfl rfl ?_
  refine SL.bothP (t := 13) rfl ?_ ?_
  · intro hc13
    iterate 6 refine SL.skip rfl rfl ?_
    refine SL.val (Val.pickT rfl rfl) rfl rfl ?_
    refine SL.nil (SE.seq ?_)
    refine SC.condT rfl ?_
    refine SC.seq (SC.region ?_)
    refine SL.val (Val.assign rfl) rfl rfl ?_
    refine SL.nil (SE.seq ?_)
    refine SC.ret ?_
    refine SE.then_ (by intro h; cases h) ?_
    have hE := vote_out (m := m) (c := c) (d := k) hout
    refine SE.fin (rs := [.tmp 8]) rfl (RV.tmp rfl RV.nil) (()) (by rw [hE.2.1, hE.2.2]; repeat (first | exact List.nil_sublist _ | exact List.Sublist.refl _ | apply List.Sublist.cons_cons | apply List.Sublist.cons)) (by simp [It.rids]) ?_
    rw [hE.1]
    rfl
  intro hc13
  refine SL.val (Val.move rfl) rfl rfl ?_
  refine SL.val (Val.move rfl) rfl rfl ?_
  refine SL.val (Val.nilCheck rfl) rfl rfl ?_
  refine SL.val (Val.fieldAddr tabOk rfl rfl rfl rfl rfl) rfl rfl ?_
  refine SL.val (Val.load1 tabOk rfl rfl (by first|(apply Or.inl;(repeat first|assumption|exact m0|apply m1);done)|(apply Or.inr;(repeat first|assumption|exact m0|apply m1);done)) List.not_mem_nil (by rfl)) rfl rfl ?_
  refine SL.val (Val.geI rfl rfl) rfl rfl ?_
  refine SL.val (Val.pickF rfl rfl) rfl rfl ?_
  refine SL.nil (SE.seq ?_)
  refine SC.condP rfl ?_ (by intro hc20; exfalso; omega)
  intro hc20
  refine SC.seq (SC.region ?_)
  refine SL.val (Val.assign rfl) rfl rfl ?_
  refine SL.nil (SE.seq ?_)
  refine SC.ret ?_
  refine SE.then_ (by intro h; cases h) ?_
  have hE := vote_out (m := m) (c := c) (d := k) hout
  refine SE.fin (rs := [.tmp 8]) rfl (RV.tmp rfl RV.nil) (()) (by rw [hE.2.1, hE.2.2]; repeat (first | exact List.nil_sublist _ | exact List.Sublist.refl _ | apply List.Sublist.cons_cons | apply List.Sublist.cons)) (by simp [It.rids]) ?_
  rw [hE.1]
  rfl
set_option maxHeartbeats 1000000 in
theorem vote_new_s (hw : intOk who) (hti : TInv m c) (hl : m.length ≤ 1000) (hin : ¬ (who < 0 ∨ n ≤ who)) (hv : aget m who = none) : Spec Try.prog 23 [ptr p, ptr t, int who, .agg (dgC k)] [.blk p 66 [int n, .v (.pointer none), ptr t, ptr t2], .blk t 79 [mapV bv, mapV bn], .pc (mapPc bv intK dgV intOk m), .pc (mapPc bn dgV cntV dgTop c)] (fun _ : Unit => [.blk p 66 [int n, .v (.pointer none), ptr t, ptr t2], .blk t 79 [mapV bv, mapV bn], .pc (mapPc bv intK dgV intOk (voteM n m who k)), .pc (mapPc bn dgV cntV dgTop (voteC n m c who k))]) (fun _ => int (voteE n m who k)) := by
  refine spec_of Try.func23 rfl Try.ntmps23 rfl fun G w => ?_
  refine SC.seq (SC.region ?_)
  refine SL.eff (Eff.boxA (cs := dgC k) rfl) rfl rfl ?_
  rintro _ _ ⟨b7, rfl, rfl⟩
  refine SL.val (Val.assign rfl) rfl rfl ?_
  refine SL.nil (SE.seq ?_)
  refine SC.seq ?_
  refine SC.seq (SC.region ?_)
  refine SL.val (Val.move rfl) rfl rfl ?_
  refine SL.val (Val.ltI rfl rfl) rfl rfl ?_
  refine SL.val (Val.move rfl) rfl rfl ?_
  refine SL.bothP (t := 13) rfl (by intro hc13; exfalso; omega) ?_
  intro hc13
  refine SL.val (Val.move rfl) rfl rfl ?_
  refine SL.val (Val.move rfl) rfl rfl ?_
  refine SL.val (Val.nilCheck rfl) rfl rfl ?_
  refine SL.val (Val.fieldAddr tabOk rfl rfl rfl rfl rfl) rfl rfl ?_
  refine SL.val (Val.load1 tabOk rfl rfl (by first|(apply Or.inl;(repeat first|assumption|exact m0|apply m1);done)|(apply Or.inr;(repeat first|assumption|exact m0|apply m1);done)) List.not_mem_nil (by rfl)) rfl rfl ?_
  refine SL.val (Val.geI rfl rfl) rfl rfl ?_
  refine SL.val (Val.pickF rfl rfl) rfl rfl ?_
  refine SL.nil (SE.seq ?_)
  refine SC.condP rfl (by intro hc20; exfalso; omega) ?_
  intro hc20
  refine SC.skip ?_
  refine SE.seq ?_
  refine SC.seq (SC.region ?_)
  refine SL.val (Val.move rfl) rfl rfl ?_
  refine SL.val (Val.move rfl) rfl rfl ?_
  refine SL.call (dg_ofR_s (t := t) (bv := bv) (bn := bn) (m := m) (who := who) hw) Casts.refl (by kernel_rfl) rfl rfl rfl ?_
  refine After.pure (by repeat (first | exact Reads.nil | (refine Reads.blk ?_ ?_; focus ((repeat first|assumption|exact m0|apply m1); done)) | (refine Reads.rd ?_ ?_; focus ((repeat first|assumption|exact m0|apply m1); done)) | (refine Reads.pc ?_ ?_; focus ((repeat first|assumption|exact m0|apply m1); done)) | (refine Reads.rdpc ?_ ?_; focus ((repeat first|assumption|exact m0|apply m1); done)))) (fun _ => rfl) ?_
  intro _
  rw [hv]
  refine SL.val (Val.move rfl) rfl rfl ?_
  refine SL.val (Val.extract rfl rfl) rfl rfl ?_
  refine SL.val (Val.extract rfl rfl) rfl rfl ?_
  refine SL.eff (Eff.alloc tabOk rfl) rfl rfl ?_
  rintro _ _ ⟨b9, rfl, rfl⟩
  refine SL.eff (Eff.store (L' := dgC (hOf m who)) tabOk rfl rfl rfl (by repeat first|assumption|exact Upd.here|apply Upd.there) (by exact dgC_len _) (Nat.le_of_ble_eq_true (by rfl)) (by exact dgC_ones _) (putL_whole (by exact dgC_len _))) rfl rfl ?_
  rintro _ _ ⟨rfl, rfl⟩
  refine SL.val (Val.assign rfl) rfl rfl ?_
  refine SL.nil (SE.seq ?_)
  refine SC.seq ?_
  refine SC.block ?_
  refine SC.seq (SC.region ?_)
  refine SL.val (Val.move rfl) rfl rfl ?_
  refine SL.val (Val.notB rfl) rfl rfl ?_
  refine SL.val (Val.assign rfl) rfl rfl ?_
  refine SL.nil (SE.seq ?_)
  refine SC.cond rfl ?_ (by intro hc27; exfalso; cases hc27)
  intro hc27
  refine SC.seq (SC.region ?_)
  refine SL.val (Val.move rfl) rfl rfl ?_
  refine SL.val (Val.move rfl) rfl rfl ?_
  refine SL.val (Val.loadA tabOk rfl rfl rfl (by first|(apply Or.inl;(repeat first|assumption|exact m0|apply m1);done)|(apply Or.inr;(repeat first|assumption|exact m0|apply m1);done)) List.not_mem_nil (dgC_len _)) rfl rfl ?_
  refine SL.call (dg_addN_s (t := t) (bv := bv) (bn := bn) (m := m) (c := c) (who := who) (k := k) hw hti hl hv) Casts.refl (by kernel_rfl) rfl rfl rfl ?_
  refine After.threeAt3 ⟨rfl, rfl, rfl⟩ (fun _ => rfl) ?_
  intro _
  refine SL.nil (SE.seq ?_)
  refine SC.seq (SC.region ?_)
  refine SL.val (Val.assign rfl) rfl rfl ?_
  refine SL.nil (SE.seq ?_)
  refine SC.ret ?_
  refine SE.ret ?_
  refine SE.then_ (by intro h; cases h) ?_
  have hE := vote_new (c := c) (d := k) hin hv
  refine SE.fin (rs := [.tmp 8]) rfl (RV.tmp rfl RV.nil) (()) (by rw [hE.2.1, hE.2.2]; repeat (first | exact List.nil_sublist _ | exact List.Sublist.refl _ | apply List.Sublist.cons_cons | apply List.Sublist.cons)) (by simp [It.rids]) ?_
  rw [hE.1]
  rfl
set_option maxHeartbeats 1000000 in
theorem vote_old_s {v : Dg} (hw : intOk who) (hti : TInv m c) (hl : m.length ≤ 1000) (hin : ¬ (who < 0 ∨ n ≤ who)) (hv : aget m who = some v) : Spec Try.prog 23 [ptr p, ptr t, int who, .agg (dgC k)] [.blk p 66 [int n, .v (.pointer none), ptr t, ptr t2], .blk t 79 [mapV bv, mapV bn], .pc (mapPc bv intK dgV intOk m), .pc (mapPc bn dgV cntV dgTop c)] (fun _ : Unit => [.blk p 66 [int n, .v (.pointer none), ptr t, ptr t2], .blk t 79 [mapV bv, mapV bn], .pc (mapPc bv intK dgV intOk (voteM n m who k)), .pc (mapPc bn dgV cntV dgTop (voteC n m c who k))]) (fun _ => int (voteE n m who k)) := by
  refine spec_of Try.func23 rfl Try.ntmps23 rfl fun G w => ?_
  refine SC.seq (SC.region ?_)
  refine SL.eff (Eff.boxA (cs := dgC k) rfl) rfl rfl ?_
  rintro _ _ ⟨b7, rfl, rfl⟩
  refine SL.val (Val.assign rfl) rfl rfl ?_
  refine SL.nil (SE.seq ?_)
  refine SC.seq ?_
  refine SC.seq (SC.region ?_)
  refine SL.val (Val.move rfl) rfl rfl ?_
  refine SL.val (Val.ltI rfl rfl) rfl rfl ?_
  refine SL.val (Val.move rfl) rfl rfl ?_
  refine SL.bothP (t := 13) rfl (by intro hc13; exfalso; omega) ?_
  intro hc13
  refine SL.val (Val.move rfl) rfl rfl ?_
  refine SL.val (Val.move rfl) rfl rfl ?_
  refine SL.val (Val.nilCheck rfl) rfl rfl ?_
  refine SL.val (Val.fieldAddr tabOk rfl rfl rfl rfl rfl) rfl rfl ?_
  refine SL.val (Val.load1 tabOk rfl rfl (by first|(apply Or.inl;(repeat first|assumption|exact m0|apply m1);done)|(apply Or.inr;(repeat first|assumption|exact m0|apply m1);done)) List.not_mem_nil (by rfl)) rfl rfl ?_
  refine SL.val (Val.geI rfl rfl) rfl rfl ?_
  refine SL.val (Val.pickF rfl rfl) rfl rfl ?_
  refine SL.nil (SE.seq ?_)
  refine SC.condP rfl (by intro hc20; exfalso; omega) ?_
  intro hc20
  refine SC.skip ?_
  refine SE.seq ?_
  refine SC.seq (SC.region ?_)
  refine SL.val (Val.move rfl) rfl rfl ?_
  refine SL.val (Val.move rfl) rfl rfl ?_
  refine SL.call (dg_ofR_s (t := t) (bv := bv) (bn := bn) (m := m) (who := who) hw) Casts.refl (by kernel_rfl) rfl rfl rfl ?_
  refine After.pure (by repeat (first | exact Reads.nil | (refine Reads.blk ?_ ?_; focus ((repeat first|assumption|exact m0|apply m1); done)) | (refine Reads.rd ?_ ?_; focus ((repeat first|assumption|exact m0|apply m1); done)) | (refine Reads.pc ?_ ?_; focus ((repeat first|assumption|exact m0|apply m1); done)) | (refine Reads.rdpc ?_ ?_; focus ((repeat first|assumption|exact m0|apply m1); done)))) (fun _ => rfl) ?_
  intro _
  rw [hv]
  refine SL.val (Val.move rfl) rfl rfl ?_
  refine SL.val (Val.extract rfl rfl) rfl rfl ?_
  refine SL.val (Val.extract rfl rfl) rfl rfl ?_
  refine SL.eff (Eff.alloc tabOk rfl) rfl rfl ?_
  rintro _ _ ⟨b9, rfl, rfl⟩
  refine SL.eff (Eff.store (L' := dgC (hOf m who)) tabOk rfl rfl rfl (by repeat first|assumption|exact Upd.here|apply Upd.there) (by exact dgC_len _) (Nat.le_of_ble_eq_true (by rfl)) (by exact dgC_ones _) (putL_whole (by exact dgC_len _))) rfl rfl ?_
  rintro _ _ ⟨rfl, rfl⟩
  refine SL.val (Val.assign rfl) rfl rfl ?_
  refine SL.nil (SE.seq ?_)
  refine SC.seq ?_
  refine SC.block ?_
  refine SC.seq (SC.region ?_)
  refine SL.val (Val.move rfl) rfl rfl ?_
  refine SL.val (Val.notB rfl) rfl rfl ?_
  refine SL.val (Val.assign rfl) rfl rfl ?_
  refine SL.nil (SE.seq ?_)
  refine SC.cond rfl (by intro hc27; exfalso; cases hc27) ?_
  intro hc27
  refine SC.seq (SC.region ?_)
  refine SL.val (Val.loadA tabOk rfl rfl rfl (by first|(apply Or.inl;(repeat first|assumption|exact m0|apply m1);done)|(apply Or.inr;(repeat first|assumption|exact m0|apply m1);done)) List.not_mem_nil (dgC_len _)) rfl rfl ?_
  refine SL.val (Val.loadA tabOk rfl rfl rfl (by first|(apply Or.inl;(repeat first|assumption|exact m0|apply m1);done)|(apply Or.inr;(repeat first|assumption|exact m0|apply m1);done)) List.not_mem_nil (dgC_len _)) rfl rfl ?_
  refine SL.val (Val.eqA rfl rfl (dg_plains _) (dg_plains _) (by kernel_rfl) (eqDg _ _)) rfl rfl ?_
  refine SL.val (Val.assign rfl) rfl rfl ?_
  refine SL.nil (SE.seq ?_)
  refine SC.condP rfl ?_ ?_
  · intro hc34
    refine SC.seq (SC.region ?_)
    refine SL.val (Val.assign rfl) rfl rfl ?_
    refine SL.nil (SE.seq ?_)
    refine SC.ret ?_
    refine SE.ret ?_
    refine SE.then_ (by intro h; cases h) ?_
    have hE := vote_old (c := c) (d := k) hin hv
    have hh := hOf_some hv
    refine SE.fin (rs := [.tmp 8]) rfl (RV.tmp rfl RV.nil) (()) (by rw [hE.2.1, hE.2.2]; repeat (first | exact List.nil_sublist _ | exact List.Sublist.refl _ | apply List.Sublist.cons_cons | apply List.Sublist.cons)) (by simp [It.rids]) ?_
    rw [hE.1, if_pos (by rw [← hh]; exact hc34)]
    rfl
  intro hc34
  refine SC.skip ?_
  refine SE.inBlock ?_
  refine SE.seq ?_
  refine SC.seq (SC.region ?_)
  refine SL.val (Val.assign rfl) rfl rfl ?_
  refine SL.nil (SE.seq ?_)
  refine SC.ret ?_
  have hE := vote_old (c := c) (d := k) hin hv
  have hh := hOf_some hv
  refine SE.fin (rs := [.tmp 8]) rfl (RV.tmp rfl RV.nil) (()) (by rw [hE.2.1, hE.2.2]; repeat (first | exact List.nil_sublist _ | exact List.Sublist.refl _ | apply List.Sublist.cons_cons | apply List.Sublist.cons)) (by simp [It.rids]) ?_
  rw [hE.1, if_neg (by rw [← hh]; exact hc34)]
  rfl
theorem vote_s (hw : intOk who) (hti : TInv m c) (hl : m.length ≤ 1000) : Spec Try.prog 23 [ptr p, ptr t, int who, .agg (dgC k)] [.blk p 66 [int n, .v (.pointer none), ptr t, ptr t2], .blk t 79 [mapV bv, mapV bn], .pc (mapPc bv intK dgV intOk m), .pc (mapPc bn dgV cntV dgTop c)] (fun _ : Unit => [.blk p 66 [int n, .v (.pointer none), ptr t, ptr t2], .blk t 79 [mapV bv, mapV bn], .pc (mapPc bv intK dgV intOk (voteM n m who k)), .pc (mapPc bn dgV cntV dgTop (voteC n m c who k))]) (fun _ => int (voteE n m who k)) := by
  by_cases hin : who < 0 ∨ n ≤ who
  · exact vote_out_s hw hti hl hin
  · cases hv : aget m who with
    | none => exact vote_new_s hw hti hl hin hv
    | some v => exact vote_old_s hw hti hl hin hv
set_option maxHeartbeats 1000000 in
theorem prep_s (hw : intOk who) (hti : TInv m c) (hl : m.length ≤ 1000) : Spec Try.prog 14 [ptr p, int who, .agg (dgC k)] [.blk p 66 [int n, .v (.pointer none), ptr t, ptr t2], .blk t 79 [mapV bv, mapV bn], .pc (mapPc bv intK dgV intOk m), .pc (mapPc bn dgV cntV dgTop c)] (fun _ : Unit => [.blk p 66 [int n, .v (.pointer none), ptr t, ptr t2], .blk t 79 [mapV bv, mapV bn], .pc (mapPc bv intK dgV intOk (voteM n m who k)), .pc (mapPc bn dgV cntV dgTop (voteC n m c who k))]) (fun _ => int (voteE n m who k)) := by
  refine spec_of Try.func14 rfl Try.ntmps14 rfl fun G w => ?_
  refine SC.seq (SC.region ?_)
  refine SL.eff (Eff.boxA (cs := dgC k) rfl) rfl rfl ?_
  rintro _ _ ⟨b5, rfl, rfl⟩
  refine SL.val (Val.assign rfl) rfl rfl ?_
  refine SL.nil (SE.seq ?_)
  refine SC.seq ?_
  refine SC.seq (SC.region ?_)
  refine SL.val (Val.move rfl) rfl rfl ?_
  refine SL.val (Val.eqP rfl rfl (by kernel_rfl)) rfl rfl ?_
  refine SL.nil (SE.seq ?_)
  refine SC.condF rfl ?_
  refine SC.skip ?_
  refine SE.seq ?_
  refine SC.seq ?_
  refine SC.draw [p, t, bv, bn] (.q 0 (.q 1 (.q 2 (.q 3 (.q 5 (.two 4 6 (.e 6 (.e 7 (.q 8 .nil))) (.e 4 (.e 7 (.q 8 .nil))))))))) (by kernel_rfl) (by kernel_rfl) ?_
  refine SX.val rfl (Val.move rfl) (by first | (simp [mids, It.mids, ownPc, mapPc]; done) | (intro k hk; simp [mids, It.mids, ownPc, mapPc, mapAtPc] at hk ⊢; grind)) rfl rfl ?_
  refine SX.val rfl (Val.move rfl) (by first | (simp [mids, It.mids, ownPc, mapPc]; done) | (intro k hk; simp [mids, It.mids, ownPc, mapPc, mapAtPc] at hk ⊢; grind)) rfl rfl ?_
  refine SX.val rfl (Val.nilCheck rfl) (by first | (simp [mids, It.mids, ownPc, mapPc]; done) | (intro k hk; simp [mids, It.mids, ownPc, mapPc, mapAtPc] at hk ⊢; grind)) rfl rfl ?_
  refine SX.val rfl (Val.fieldAddr tabOk rfl rfl rfl rfl rfl) (by first | (simp [mids, It.mids, ownPc, mapPc]; done) | (intro k hk; simp [mids, It.mids, ownPc, mapPc, mapAtPc] at hk ⊢; grind)) rfl rfl ?_
  refine SX.val rfl (Val.move rfl) (by first | (simp [mids, It.mids, ownPc, mapPc]; done) | (intro k hk; simp [mids, It.mids, ownPc, mapPc, mapAtPc] at hk ⊢; grind)) rfl rfl ?_
  refine SX.two ?_ ?_
  · skip
    refine SX.valE rfl (Val.load1 tabOk rfl rfl (by first|(apply Or.inl;(repeat first|assumption|exact m0|apply m1);done)|(apply Or.inr;(repeat first|assumption|exact m0|apply m1);done)) List.not_mem_nil (by rfl)) rfl rfl ?_
    refine SX.valE rfl (Val.loadA tabOk rfl rfl rfl (by first|(apply Or.inl;(repeat first|assumption|exact m0|apply m1);done)|(apply Or.inr;(repeat first|assumption|exact m0|apply m1);done)) List.not_mem_nil (dgC_len _)) rfl rfl ?_
    refine SX.call rfl (vote_s (p := p) (t := t) (t2 := t2) (bv := bv) (bn := bn) (n := n) (m := m) (c := c) (who := who) (k := k) hw hti hl) (by simp [mids, It.mids, mapPc]) Casts.refl (by kernel_rfl) rfl rfl rfl ?_
    refine After.fourAt [_] rfl ⟨rfl, rfl, rfl, rfl⟩ (fun _ => rfl) ?_
    intro _
    refine SX.val rfl (Val.assign rfl) (by first | (simp [mids, It.mids, ownPc, mapPc]; done) | (intro k hk; simp [mids, It.mids, ownPc, mapPc, mapAtPc] at hk ⊢; grind)) rfl rfl ?_
    refine SX.nil (SE.seq ?_)
    refine SC.ret ?_
    refine SE.fin (rs := [.tmp 6]) rfl (RV.tmp rfl RV.nil) (()) (by repeat first|exact s0 _|exact s1 _|apply s2|apply s3) (by simp [It.rids]) ?_
    exact rfl
  · skip
    refine SX.valE rfl (Val.loadA tabOk rfl rfl rfl (by first|(apply Or.inl;(repeat first|assumption|exact m0|apply m1);done)|(apply Or.inr;(repeat first|assumption|exact m0|apply m1);done)) List.not_mem_nil (dgC_len _)) rfl rfl ?_
    refine SX.valE rfl (Val.load1 tabOk rfl rfl (by first|(apply Or.inl;(repeat first|assumption|exact m0|apply m1);done)|(apply Or.inr;(repeat first|assumption|exact m0|apply m1);done)) List.not_mem_nil (by rfl)) rfl rfl ?_
    refine SX.call rfl (vote_s (p := p) (t := t) (t2 := t2) (bv := bv) (bn := bn) (n := n) (m := m) (c := c) (who := who) (k := k) hw hti hl) (by simp [mids, It.mids, mapPc]) Casts.refl (by kernel_rfl) rfl rfl rfl ?_
    refine After.fourAt [_] rfl ⟨rfl, rfl, rfl, rfl⟩ (fun _ => rfl) ?_
    intro _
    refine SX.val rfl (Val.assign rfl) (by first | (simp [mids, It.mids, ownPc, mapPc]; done) | (intro k hk; simp [mids, It.mids, ownPc, mapPc, mapAtPc] at hk ⊢; grind)) rfl rfl ?_
    refine SX.nil (SE.seq ?_)
    refine SC.ret ?_
    refine SE.fin (rs := [.tmp 6]) rfl (RV.tmp rfl RV.nil) (()) (by repeat first|exact s0 _|exact s1 _|apply s2|apply s3) (by simp [It.rids]) ?_
    exact rfl
end
end Go.Proofs.Ytoifikgnbblbgaa.A
/-
  The program's log with its slots.
-/
set_option maxRecDepth 100000
set_option linter.unusedSimpArgs false
set_option linter.unusedVariables false
namespace Go.Proofs.Ytoifikgnbblbgaa.A
open Go.RowKit Go.Maps Go.Sort Go.Shelf

theorem After.make4 {ι : Type} {σ σ1 : Blks} {τ' : ι → Blks} {a b c d : ι → It} {K : Blks → ι → Prop} (h : Reads σ σ1) (hτ : ∀ z, τ' z = [a z, b z, c z, d z]) (k : ∀ z, K (a z :: b z :: c z :: d z :: σ) z) : After σ σ1 τ' K := ⟨σ, h.split, fun z => ⟨_, by rw [hτ z]; exact List.Perm.refl _, k z⟩⟩
theorem Spec.keep {P : Program} {f : FuncId} {args : List Abs} {σ σ1 : Blks} {ι : Type} {res : ι → Abs} (hs : Spec P f args σ1 (fun _ : ι => []) res) (h : Reads σ σ1) (hr : ∀ x ∈ σ, x.rids = []) : Spec P f args σ (fun _ => σ) res := fun G w vals hm hv =>
  (hs.run hm h.split hv).mono fun e w' ⟨z, r, he, _, _, hm2, _, hr2⟩ => ⟨z, r, he, hr, by simpa using hm2, by simpa using hr2⟩
theorem Spec.as {P : Program} {f : FuncId} {args : List Abs} {σ : Blks} {ι κ : Type} {τ : ι → Blks} {τ' : κ → Blks} {res : ι → Abs} {res' : κ → Abs} (g : ι → κ) (hτ : ∀ z, τ z = τ' (g z)) (hres : ∀ z, res z = res' (g z)) (hs : Spec P f args σ τ res) : Spec P f args σ τ' res' := fun G w vals hm hv =>
  (hs G w vals hm hv).mono fun e w' ⟨z, r, he, h1, h2, h3⟩ => ⟨g z, r, he, by rw [← hτ]; exact h1, by rw [← hτ]; exact h2, by rw [← hτ, ← hres]; exact h3⟩
theorem aget_mapv {β γ : Type} (f : β → γ) (m : List (Int × β)) (a : Int) : aget (m.map fun x => (x.1, f x.2)) a = (aget m a).map f := by
  induction m with
  | nil => rfl
  | cons p m ih =>
    rw [List.map_cons, aget_cons, aget_cons, ih]
    split <;> rfl
/-- A slot: its blocks, its votes. -/
structure SD where
  p : Nat
  t : Nat
  t2 : Nat
  bv : Nat
  bn : Nat
  m : List (Int × Dg)
  c : List (Dg × Nat)
def slP (n : Int) (s : SD) : Pc := bigP [blkP s.p 66 [int n, .v (.pointer none), ptr s.t, ptr s.t2], blkP s.t 79 [mapV s.bv, mapV s.bn], mapPc s.bv intK dgV intOk s.m, mapPc s.bn dgV cntV dgTop s.c]
def ptrs (L : List (Int × SD)) : List (Int × Nat) := L.map fun x => (x.1, x.2.p)
def slsP (n : Int) (L : List (Int × SD)) : Pc := bigP (L.map fun x => slP n x.2)
abbrev Z5 := Nat × Nat × Nat × Nat × Nat
def newSD (z : Z5) : SD := ⟨z.1, z.2.1, z.2.2.1, z.2.2.2.1, z.2.2.2.2, [], []⟩
theorem ptrs_get (L : List (Int × SD)) (a : Int) : aget (ptrs L) a = (aget L a).map (·.p) := aget_mapv _ L a
/-- The slots, a number having been asked for. -/
def atL (low : Int) (L : List (Int × SD)) (seq : Int) (z : Z5) : List (Int × SD) := if inW low seq ∧ aget L seq = none then L ++ [(seq, newSD z)] else L
def atP (low : Int) (L : List (Int × SD)) (seq : Int) (z : Z5) : Option Addr := if inW low seq then some ⟨((aget (atL low L seq z) seq).map (·.p)).getD 0, 0, none⟩ else none
theorem aget_snoc {β : Type} {L : List (Int × β)} {a : Int} {v : β} (h : aget L a = none) : aget (L ++ [(a, v)]) a = some v := by
  have h1 := aget_aput L a a v
  rw [if_pos rfl, aput_new h] at h1
  exact h1
theorem atL_some {low seq : Int} {L : List (Int × SD)} {z : Z5} (h : inW low seq) : ∃ s, aget (atL low L seq z) seq = some s := by
  unfold atL
  cases hv : aget L seq with
  | none => rw [if_pos ⟨h, rfl⟩]; exact ⟨_, aget_snoc hv⟩
  | some s => rw [if_neg (fun h => by cases h.2)]; exact ⟨s, hv⟩
theorem Re.newSlot {n low : Int} {t b : Nat} {L : List (Int × SD)} {seq : Int} {z : Z5} {M : List (Int × Nat)} {cs : List Abs} : Re ([.blk z.1 66 [int n, .v (.pointer none), ptr z.2.1, ptr z.2.2.1], .blk z.2.1 79 [mapV z.2.2.2.1, mapV z.2.2.2.2], .pc (mapPc z.2.2.2.1 intK dgV intOk []), .pc (mapPc z.2.2.2.2 dgV cntV dgTop [])] ++ [.blk t 51 cs, .pc (mapPc b intK ptrV intOk M)] ++ [.pc (slsP n L)]) [.blk t 51 cs, .pc (mapPc b intK ptrV intOk M), .pc (slsP n (L ++ [(seq, newSD z)]))] where
  ids := ⟨[], by
    rw [List.perm_iff_count]
    intro a
    simp [mids, It.mids, slsP, slP, bigP, blkP, mapPc, newSD, List.count_append, List.count_cons]
    omega⟩
  rd := by simp [It.rids]
  hh := fun K w h y hy => by
    simp only [List.mem_cons, List.not_mem_nil, or_false] at hy
    rcases hy with rfl | rfl | rfl
    · exact h _ (by simp)
    · exact h _ (by simp)
    · intro d hd
      have h0 : (slsP n L).p K w := h (.pc (slsP n L)) (by simp)
      rw [List.map_append, List.mem_append] at hd
      rcases hd with hd | hd
      · exact h0 d hd
      · rw [List.map_cons, List.map_nil, List.mem_singleton] at hd
        subst hd
        intro e he
        simp only [List.mem_cons, List.not_mem_nil, or_false] at he
        rcases he with rfl | rfl | rfl | rfl
        · exact h (.blk z.1 66 [int n, .v (.pointer none), ptr z.2.1, ptr z.2.2.1]) (by simp)
        · exact h (.blk z.2.1 79 [mapV z.2.2.2.1, mapV z.2.2.2.2]) (by simp)
        · exact h (.pc (mapPc z.2.2.2.1 intK dgV intOk [])) (by simp)
        · exact h (.pc (mapPc z.2.2.2.2 dgV cntV dgTop [])) (by simp)
theorem Re.fewer {n : Int} {L L' : List (Int × SD)} {A B : It} (hA : A.rids = []) (hB : B.rids = []) (h : ∃ z, L.Perm (L' ++ z)) : Re [A, B, .pc (slsP n L)] [A, B, .pc (slsP n L')] := by
  have h1 : Re [.pc (slsP n L)] [.pc (slsP n L')] := Re.part (by
    obtain ⟨z, hz⟩ := h
    exact ⟨z.map fun x => slP n x.2, by rw [← List.map_append]; exact hz.map _⟩)
  obtain ⟨zs, hz⟩ := h1.ids
  refine ⟨⟨zs, ?_⟩, fun y hy => ?_, fun K w hh y hy => ?_⟩
  · simp only [mids, List.flatMap_cons, List.flatMap_nil, List.append_nil] at hz ⊢
    rw [List.append_assoc, List.append_assoc]
    exact List.Perm.append_left _ (List.Perm.append_left _ hz)
  · simp only [List.mem_cons, List.not_mem_nil, or_false] at hy
    rcases hy with rfl | rfl | rfl
    · exact hA
    · exact hB
    · rfl
  · simp only [List.mem_cons, List.not_mem_nil, or_false] at hy
    rcases hy with rfl | rfl | rfl
    · exact hh _ (by simp)
    · exact hh _ (by simp)
    · exact h1.hh K w (fun x hx => by rw [List.mem_singleton.1 hx]; exact hh _ (by simp)) _ (List.mem_singleton.2 rfl)
theorem filter_perm {α : Type} (p : α → Bool) (l : List α) : ∃ z, l.Perm (l.filter p ++ z) := ⟨_, (List.filter_append_perm p l).symm⟩
/-- 'clear(m)'. -/
theorem Eff.clearMap {P : Program} {n : Nat} {W : Wd} {σ τ : Blks} {l : Slots} {x : Operand} {d : Option Nat} {ty t k e : TypeId} {pos : String} {aft : Array Edge} {g : Option (Nat × Bool)} {b : Nat} {α β : Type} {K : α → Value} {V : β → Value} {Good : α → Prop} {m : List (α × β)}
    (ht : P.underlying t = some (.map k e)) (hx : look l x = some (mapV b)) (hu : Upd (.pc (mapPc b K V Good m)) (.pc (mapPc b K V Good [])) σ τ) :
    Eff P n W σ l [b] ⟨d, .call { callee := .builtin .clear, args := #[x], argTypes := #[t] }, ty, pos, aft, g⟩ fun u τ' => u = .tup [] ∧ τ' = τ := fun ac w hs => by
  have h1 : MapOf w b K V Good m := hs.mem.hold _ hu.mem
  obtain ⟨es, clock, hb, _⟩ := h1
  have h4 := hs.mem.upd hu ((ex_map (o := .map #[] clock) (heap_lt hb)).mono (by simp [It.mids, mapPc])) (by simp [It.mids, mapPc]) (fun k hk => .inl hk) rfl (fun _ => ⟨#[], clock, sb_same (heap_lt hb), rfl, by simp, by simp, by simp, by simp⟩)
  refine ⟨.tuple #[], _, _, _, ⟨rfl, rfl⟩, ex_map (heap_lt hb), ⟨[], rfl, rfl⟩, h4.1, h4.2, .inl ?_⟩
  simp [execOp, resolve, invoke, builtin, Builtin.clear_, hs.plain hx, run_underlying ht, run_getMap hb, run_setMap hb, Sem.run_bind, Result.andThen, Go.ChangeMaps.setBlock]
section
variable {t b : Nat} {m : List (Int × Nat)} {L : List (Int × SD)} {n low seq : Int}
theorem watK_new_s (hl : lowOk low) (hi : inW low seq) (hs : intOk seq) (hn : 1 ≤ n ∧ n ≤ 7) (hv : aget m seq = none) : Spec Try.prog 9 [ptr t, int seq] [.blk t 51 [int n, int low, mapV b], .pc (mapPc b intK ptrV intOk m)] (fun z : Z5 => [.blk z.1 66 [int n, .v (.pointer none), ptr z.2.1, ptr z.2.2.1], .blk z.2.1 79 [mapV z.2.2.2.1, mapV z.2.2.2.2], .pc (mapPc z.2.2.2.1 intK dgV intOk []), .pc (mapPc z.2.2.2.2 dgV cntV dgTop [])] ++ [.blk t 51 [int n, int low, mapV b], .pc (mapPc b intK ptrV intOk (aput m seq z.1))]) (fun z => .tup [ptr z.1, int 0]) := by
  refine spec_of Try.func9 rfl Try.ntmps9 rfl fun G w => ?_
  refine SC.seq (SC.region ?_)
  refine SL.val (Val.assign rfl) rfl rfl ?_
  refine SL.val (Val.assign rfl) rfl rfl ?_
  refine SL.nil (SE.seq ?_)
  refine SC.seq ?_
  refine SC.block ?_
  refine SC.seq (SC.region ?_)
  refine SL.val (Val.move rfl) rfl rfl ?_
  refine SL.val (Val.eqP rfl rfl (by kernel_rfl)) rfl rfl ?_
  refine SL.val (Val.assign rfl) rfl rfl ?_
  refine SL.nil (SE.seq ?_)
  refine SC.condF rfl ?_
  refine SC.seq (SC.region ?_)
  refine SL.val (Val.move rfl) rfl rfl ?_
  refine SL.val (Val.move rfl) rfl rfl ?_
  refine SL.call (win_s (t := t) (n := n) (b := b) (low := low) (seq := seq) hl) Casts.refl (by kernel_rfl) rfl rfl rfl ?_
  refine After.pure (by repeat (first | exact Reads.nil | (refine Reads.blk ?_ ?_; focus ((repeat first|assumption|exact m0|apply m1); done)) | (refine Reads.rd ?_ ?_; focus ((repeat first|assumption|exact m0|apply m1); done)) | (refine Reads.pc ?_ ?_; focus ((repeat first|assumption|exact m0|apply m1); done)) | (refine Reads.rdpc ?_ ?_; focus ((repeat first|assumption|exact m0|apply m1); done)))) (fun _ => rfl) ?_
  intro _
  refine SL.val (Val.notB rfl) rfl rfl ?_
  refine SL.val (Val.assign rfl) rfl rfl ?_
  refine SL.nil (SE.seq ?_)
  refine SC.cond rfl (by intro hc11; exfalso; have := decide_eq_true hi; simp_all) ?_
  intro hc11
  refine SC.skip ?_
  refine SE.inBlock ?_
  refine SE.seq ?_
  refine SC.seq (SC.region ?_)
  refine SL.val (Val.move rfl) rfl rfl ?_
  refine SL.val (Val.nilCheck rfl) rfl rfl ?_
  refine SL.val (Val.fieldAddr tabOk rfl rfl rfl rfl rfl) rfl rfl ?_
  refine SL.val (Val.load1 tabOk rfl rfl (by first|(apply Or.inl;(repeat first|assumption|exact m0|apply m1);done)|(apply Or.inr;(repeat first|assumption|exact m0|apply m1);done)) List.not_mem_nil (by rfl)) rfl rfl ?_
  refine SL.val (Val.move rfl) rfl rfl ?_
  refine SL.val (Val.to (C := .tup [.v (.pointer none), boo false]) (Val.mapGetOk (a := seq) (zv := .pointer none) (C := .v (.pointer none)) (int_fit Try.underlying2) Try.underlying49 ptr_zero rfl (by first|(apply Or.inl;(repeat first|assumption|exact m0|apply m1);done)|(apply Or.inr;(repeat first|assumption|exact m0|apply m1);done)) List.not_mem_nil rfl is_v hs (by rw [hv]; exact is_v)) (by rw [hv]; rfl)) rfl rfl ?_
  refine SL.val (Val.move rfl) rfl rfl ?_
  refine SL.val (Val.extract rfl rfl) rfl rfl ?_
  refine SL.val (Val.extract rfl rfl) rfl rfl ?_
  refine SL.val (Val.assign rfl) rfl rfl ?_
  refine SL.val (Val.assign rfl) rfl rfl ?_
  refine SL.nil (SE.seq ?_)
  refine SC.seq ?_
  refine SC.seq (SC.region ?_)
  refine SL.val (Val.move rfl) rfl rfl ?_
  refine SL.val (Val.notF rfl) rfl rfl ?_
  refine SL.nil (SE.seq ?_)
  refine SC.condT rfl ?_
  refine SC.seq (SC.region ?_)
  refine SL.val (Val.move rfl) rfl rfl ?_
  refine SL.val (Val.nilCheck rfl) rfl rfl ?_
  refine SL.val (Val.fieldAddr tabOk rfl rfl rfl rfl rfl) rfl rfl ?_
  refine SL.val (Val.load1 tabOk rfl rfl (by first|(apply Or.inl;(repeat first|assumption|exact m0|apply m1);done)|(apply Or.inr;(repeat first|assumption|exact m0|apply m1);done)) List.not_mem_nil (by rfl)) rfl rfl ?_
  refine SL.call (snewK_s (n := n) hn) Casts.refl (by kernel_rfl) rfl rfl rfl ?_
  refine After.make4 (by repeat (first | exact Reads.nil | (refine Reads.blk ?_ ?_; focus ((repeat first|assumption|exact m0|apply m1); done)) | (refine Reads.rd ?_ ?_; focus ((repeat first|assumption|exact m0|apply m1); done)) | (refine Reads.pc ?_ ?_; focus ((repeat first|assumption|exact m0|apply m1); done)) | (refine Reads.rdpc ?_ ?_; focus ((repeat first|assumption|exact m0|apply m1); done)))) (fun _ => rfl) ?_
  intro q
  refine SL.val (Val.assign rfl) rfl rfl ?_
  refine SL.nil (SE.seq ?_)
  refine SC.region ?_
  refine SL.val (Val.move rfl) rfl rfl ?_
  refine SL.val (Val.nilCheck rfl) rfl rfl ?_
  refine SL.val (Val.fieldAddr tabOk rfl rfl rfl rfl rfl) rfl rfl ?_
  refine SL.val (Val.load1 tabOk rfl rfl (by first|(apply Or.inl;(repeat first|assumption|exact m0|apply m1);done)|(apply Or.inr;(repeat first|assumption|exact m0|apply m1);done)) List.not_mem_nil (by rfl)) rfl rfl ?_
  refine SL.val (Val.move rfl) rfl rfl ?_
  refine SL.val (Val.move rfl) rfl rfl ?_
  refine SL.eff (Eff.mapPut (a := seq) (v := q.1) (m' := aput m seq q.1) (int_fit Try.underlying2) Try.underlying49 rfl (by repeat first|assumption|exact Upd.here|apply Upd.there) rfl is_v hs rfl is_v rfl) rfl rfl ?_
  rintro _ _ ⟨rfl, rfl⟩
  refine SL.nil (SE.seq ?_)
  refine SC.seq (SC.region ?_)
  refine SL.val (Val.move rfl) rfl rfl ?_
  refine SL.val (Val.assign rfl) rfl rfl ?_
  refine SL.val (Val.assign rfl) rfl rfl ?_
  refine SL.nil (SE.seq ?_)
  refine SC.ret ?_
  refine SE.fin (rs := [.tmp 4, .tmp 5]) rfl (RV.tmp rfl (RV.tmp rfl RV.nil)) (q) (by repeat first|exact s0 _|exact s1 _|apply s2|apply s3) (by simp [It.rids]) ?_
  exact rfl
theorem wclear0_s  : Spec Try.prog 10 [ptr t] [.blk t 51 [int n, int low, mapV b], .pc (mapPc b intK ptrV intOk m)] (fun _ : Unit => [.blk t 51 [int n, int low, mapV b], .pc (mapPc b intK ptrV intOk ([] : List (Int × Nat)))]) (fun _ => .tup []) := by
  refine spec_of Try.func10 rfl Try.ntmps10 rfl fun G w => ?_
  refine SC.seq (SC.region ?_)
  refine SL.val (Val.move rfl) rfl rfl ?_
  refine SL.val (Val.neP rfl rfl (by kernel_rfl)) rfl rfl ?_
  refine SL.nil (SE.seq ?_)
  refine SC.condT rfl ?_
  refine SC.region ?_
  refine SL.val (Val.move rfl) rfl rfl ?_
  refine SL.val (Val.nilCheck rfl) rfl rfl ?_
  refine SL.val (Val.fieldAddr tabOk rfl rfl rfl rfl rfl) rfl rfl ?_
  refine SL.val (Val.load1 tabOk rfl rfl (by first|(apply Or.inl;(repeat first|assumption|exact m0|apply m1);done)|(apply Or.inr;(repeat first|assumption|exact m0|apply m1);done)) List.not_mem_nil (by rfl)) rfl rfl ?_
  refine SL.eff (Eff.clearMap Try.underlying49 rfl (by repeat first|assumption|exact Upd.here|apply Upd.there)) rfl rfl ?_
  rintro _ _ ⟨rfl, rfl⟩
  refine SL.nil ?_
  refine SE.finN (rs := []) rfl RV.nil (()) (by repeat first|exact s0 _|exact s1 _|apply s2|apply s3) (by simp [It.rids]) ?_
  exact rfl
theorem wat_s (hl : lowOk low) (hs : intOk seq) (hn : 1 ≤ n ∧ n ≤ 7) : Spec Try.prog 9 [ptr t, int seq] [.blk t 51 [int n, int low, mapV b], .pc (mapPc b intK ptrV intOk (ptrs L)), .pc (slsP n L)] (fun z : Z5 => [.blk t 51 [int n, int low, mapV b], .pc (mapPc b intK ptrV intOk (ptrs (atL low L seq z))), .pc (slsP n (atL low L seq z))]) (fun z => .tup [.v (.pointer (atP low L seq z)), int (if inW low seq then 0 else 14)]) := by
  by_cases hi : inW low seq
  · cases hv : aget L seq with
    | none =>
      have hv2 : aget (ptrs L) seq = none := by rw [ptrs_get, hv]; rfl
      refine Spec.as id (fun z => rfl) (fun z => ?_) (Spec.reg (xs := [.blk t 51 [int n, int low, mapV b], .pc (mapPc b intK ptrV intOk (ptrs L))]) (φ := [.pc (slsP n L)]) (watK_new_s hl hi hs hn hv2) (by simp [It.rids]) (Re.refl (by simp [It.rids])) fun z => ?_)
      · unfold atP
        rw [if_pos hi, if_pos hi]
        unfold atL
        rw [if_pos ⟨hi, hv⟩, aget_snoc hv]
        rfl
      · unfold atL
        rw [if_pos ⟨hi, hv⟩]
        show Re _ [.blk t 51 [int n, int low, mapV b], .pc (mapPc b intK ptrV intOk (ptrs (L ++ [(seq, newSD z)]))), .pc (slsP n (L ++ [(seq, newSD z)]))]
        rw [show ptrs (L ++ [(seq, newSD z)]) = aput (ptrs L) seq z.1 by rw [aput_new hv2]; unfold ptrs; rw [List.map_append]; rfl]
        exact Re.newSlot (low := low)
    | some s =>
      have hv2 : aget (ptrs L) seq = some s.p := by rw [ptrs_get, hv]; rfl
      have hL : ∀ z, atL low L seq z = L := fun z => by unfold atL; rw [if_neg]; rw [hv]; rintro ⟨_, h⟩; cases h
      refine Spec.as (fun _ => ((0, 0, 0, 0, 0) : Z5)) (fun z => by rw [hL]) (fun z => ?_) (Spec.keep (σ := [.blk t 51 [int n, int low, mapV b], .pc (mapPc b intK ptrV intOk (ptrs L)), .pc (slsP n L)]) (wat_old_s (t := t) (b := b) (m := ptrs L) (n := n) (p := s.p) hl hi hs hv2) (.blk (by simp) (.pc (by simp) .nil)) (by simp [It.rids]))
      unfold atP
      rw [if_pos hi, if_pos hi, hL, hv]
      rfl
  · have hL : ∀ z, atL low L seq z = L := fun z => by unfold atL; rw [if_neg]; exact fun h => hi h.1
    refine Spec.as (fun _ => ((0, 0, 0, 0, 0) : Z5)) (fun z => by rw [hL]) (fun z => ?_) (Spec.keep (σ := [.blk t 51 [int n, int low, mapV b], .pc (mapPc b intK ptrV intOk (ptrs L)), .pc (slsP n L)]) (wat_out_s (t := t) (b := b) (m := ptrs L) (n := n) hl hi) (.blk (by simp) (.pc (by simp) .nil)) (by simp [It.rids]))
    unfold atP
    rw [if_neg hi, if_neg hi]
def mvOk (low seq : Int) : Prop := low ≤ seq ∧ seq ≤ 1048576
instance {low seq : Int} : Decidable (mvOk low seq) := inferInstanceAs (Decidable (_ ∧ _))
def mvW (low seq : Int) : Int := if mvOk low seq then seq else low
def mvL {β : Type} (low seq : Int) (L : List (Int × β)) : List (Int × β) := if mvOk low seq then L.filter (fun x => decide (seq < x.1)) else L
theorem wmoveT_s (hok : ∀ x ∈ L, intOk x.1) : Spec Try.prog 7 [ptr t, int seq] [.blk t 51 [int n, int low, mapV b], .pc (mapPc b intK ptrV intOk (ptrs L)), .pc (slsP n L)] (fun _ : Unit => [.blk t 51 [int n, int (mvW low seq), mapV b], .pc (mapPc b intK ptrV intOk (ptrs (mvL low seq L))), .pc (slsP n (mvL low seq L))]) (fun _ => int (if mvOk low seq then 0 else 14)) := by
  by_cases hi : mvOk low seq
  · rw [if_pos hi]
    unfold mvW mvL
    rw [if_pos hi, if_pos hi]
    refine Spec.reg (xs := [.blk t 51 [int n, int low, mapV b], .pc (mapPc b intK ptrV intOk (ptrs L))]) (φ := [.pc (slsP n L)]) (wmove_s hi fun p hp => ?_) (by simp [It.rids]) (Re.refl (by simp [It.rids])) fun z => ?_
    · obtain ⟨x, hx, rfl⟩ := List.mem_map.1 hp
      exact hok x hx
    · rw [show (ptrs L).filter (fun q => decide (seq < q.1)) = ptrs (L.filter fun x => decide (seq < x.1)) by unfold ptrs; rw [List.filter_map]; rfl]
      exact Re.fewer rfl rfl (filter_perm _ L)
  · rw [if_neg hi]
    unfold mvW mvL
    rw [if_neg hi, if_neg hi]
    exact Spec.keep (σ := [.blk t 51 [int n, int low, mapV b], .pc (mapPc b intK ptrV intOk (ptrs L)), .pc (slsP n L)]) (wmove_no_s (t := t) (b := b) (m := ptrs L) (n := n) (low := low) (seq := seq) (by unfold mvOk at hi; omega)) (.blk (by simp) (.pc (by simp) .nil)) (by simp [It.rids])
theorem wclear_s : Spec Try.prog 10 [ptr t] [.blk t 51 [int n, int low, mapV b], .pc (mapPc b intK ptrV intOk (ptrs L)), .pc (slsP n L)] (fun _ : Unit => [.blk t 51 [int n, int low, mapV b], .pc (mapPc b intK ptrV intOk (ptrs ([] : List (Int × SD)))), .pc (slsP n ([] : List (Int × SD)))]) (fun _ => .tup []) :=
  Spec.reg (xs := [.blk t 51 [int n, int low, mapV b], .pc (mapPc b intK ptrV intOk (ptrs L))]) (φ := [.pc (slsP n L)]) (wclear0_s (n := n) (low := low) (m := ptrs L)) (by simp [It.rids]) (Re.refl (by simp [It.rids])) fun z => Re.fewer (L := L) rfl rfl ⟨L, by simp⟩
/-- A vote in a slot. -/
def SD.vote (n : Int) (s : SD) (who : Int) (d : Dg) : SD := { s with m := voteM n s.m who d, c := voteC n s.m s.c who d }
theorem prepW_s {L1 L2 : List (Int × SD)} {s : SD} {who : Int} {k : Dg} (hw : intOk who) (hti : TInv s.m s.c) (hl : s.m.length ≤ 1000) : Spec Try.prog 14 [ptr s.p, int who, .agg (dgC k)] [.pc (slsP n (L1 ++ (seq, s) :: L2))] (fun _ : Unit => [.pc (slsP n (L1 ++ (seq, s.vote n who k) :: L2))]) (fun _ => int (voteE n s.m who k)) := by
  refine Spec.reg (φ := [.pc (slsP n (L1 ++ L2))]) (prep_s (p := s.p) (t := s.t) (t2 := s.t2) (bv := s.bv) (bn := s.bn) (n := n) (m := s.m) (c := s.c) (who := who) (k := k) hw hti hl) (by simp [It.rids]) ?_ fun z => ?_
  · have h1 : Re [.pc (slsP n (L1 ++ (seq, s) :: L2))] [.pc (slP n s), .pc (slsP n (L1 ++ L2))] := by
      unfold slsP
      rw [List.map_append, List.map_append, List.map_cons]
      exact Re.out
    exact h1.trans (Re.fourOut.app _)
  · have h1 : Re [.pc (slP n (s.vote n who k)), .pc (slsP n (L1 ++ L2))] [.pc (slsP n (L1 ++ (seq, s.vote n who k) :: L2))] := by
      unfold slsP
      rw [List.map_append, List.map_append, List.map_cons]
      exact Re.back
    exact Re.trans (Re.fourIn.app _) h1
end
end Go.Proofs.Ytoifikgnbblbgaa.A
/-
  The second engine: regions that draw and make memory of their own.
-/
set_option maxRecDepth 100000
set_option linter.unusedSimpArgs false
set_option linter.unusedVariables false
namespace Go.Proofs.Ytoifikgnbblbgaa.A
open Go.RowKit

section
variable {P : Program} {n : Nat} {W : Wd} {σ σ0 : Blks} {l : Slots} {X0 : List Nat} {ops : Array Oper} {Q : Exit → Act → World → Prop} {ix : Plan} {o : Oper}
/-- The pieces that the region has made stand ahead: what follows may change them. -/
theorem SX.effN (ν : Blks) (X0 : List Nat) {i : Nat} {Y : List Nat} {R : Abs → Blks → Prop} (hi : ops[i]? = some o) (hv : Eff P n W σ l Y o R) (hσ : σ = ν ++ σ0) (hY : ∀ k ∈ Y, k ∈ mids ν ++ X0) (hg : gd ops l o = some true) (hd : lt? o.dst n = true)
    (k : ∀ y τ, R y τ → ∃ ν' : Blks, τ = ν' ++ σ0 ∧ SX P ops ix (mids ν' ++ X0) (St n W τ (put? l o.dst y)) Q) : SX P ops (.e i ix) (mids ν ++ X0) (St n W σ l) Q := fun a w hs => by
  unfold planW wpOp
  simp only [hi, hs.wanted hg, if_true]
  refine .inl ?_
  unfold Oper.wp
  obtain ⟨v, w', y, τ, hR, hx, hr, hm, hc, hrun⟩ := hv a w hs
  obtain ⟨ν', hτ, hk⟩ := k y τ hR
  have hnew : ∀ k ∈ mids ν' ++ X0, k ∈ mids ν ++ X0 ∨ w.heap.size ≤ k := fun k hk => by
    rcases List.mem_append.1 hk with hk | hk
    · have hkt : k ∈ mids τ := by rw [hτ, mids_append]; exact List.mem_append_left _ hk
      rcases Nat.lt_or_ge k w.heap.size with h1 | h1
      · have h2 : k ∈ mids σ ++ W.G := Classical.byContradiction fun hn => hc.out k hn h1 (List.mem_append_left _ hkt)
        rcases List.mem_append.1 h2 with h2 | h2
        · rw [hσ, mids_append] at h2
          rcases List.mem_append.1 h2 with h2 | h2
          · exact .inl (List.mem_append_left _ h2)
          · have hnd := hm.nodup
            rw [hτ, mids_append, List.nodup_append] at hnd
            exact absurd rfl (hnd.2.2 k hk k h2)
        · exact absurd h2 (hm.sep k hkt)
      · exact .inr h1
    · exact .inl (List.mem_append_right _ hk)
  have hinv : ∀ w2, Ext (mids ν' ++ X0) w' w2 → Ext (mids ν ++ X0) w w2 := fun w2 h2 => (hx.mono (fun k hk => .inl (hY k hk))).trans h2 hnew
  rcases hrun with hrun | ⟨rfl, hrun⟩
  · rw [hrun]; exact ⟨fun w2 => Ext (mids ν' ++ X0) w' w2, hinv, Ext.refl w', hk _ _ ((hs.to hm hc).put hd hr)⟩
  · rw [hrun]; exact ⟨fun w2 => Ext (mids ν' ++ X0) w' w2, hinv, Ext.refl w', hk _ _ ((hs.to hm hc).put hd hr)⟩
theorem mids_head {ν : Blks} : ∀ k ∈ mids ν ++ [], k ∈ mids (ν ++ σ0) := fun k hk => by
  rw [List.append_nil] at hk
  rw [mids_append]
  exact List.mem_append_left _ hk
theorem own_mid {e : TypeId} {s : Nat} {v : Value} {xs : List (List Abs)} {ν : Blks} (h : own e s v xs ∈ ν) : ∀ k ∈ v.ownBlock.toList, k ∈ mids ν ++ [] := fun k hk => by
  rw [List.append_nil]
  exact mids_mem.2 ⟨_, h, hk⟩
end
/-- A block's cells said otherwise. -/
theorem Re.cast {b : Nat} {t : TypeId} {cs ds : List Abs} (h : Casts cs ds) : Re [.blk b t cs] [.blk b t ds] := ⟨⟨[], by simp [mids, It.mids]⟩, by simp [It.rids], fun K w hx y hy => by
  rw [List.mem_singleton.1 hy]
  obtain ⟨us, h1, h2⟩ := hx (.blk b t cs) (by simp)
  exact ⟨us, h1, h K w us h2⟩⟩
theorem Re.cons {xs ys : Blks} {x : It} (hx : x.rids = []) (h : Re xs ys) : Re (x :: xs) (x :: ys) where
  ids := by
    obtain ⟨a, ha⟩ := h.ids
    refine ⟨a, ?_⟩
    rw [mids_cons, mids_cons, List.append_assoc]
    exact List.Perm.append_left _ ha
  rd := fun y hy => by
    rcases List.mem_cons.1 hy with rfl | hy
    · exact hx
    · exact h.rd y hy
  hh := fun K w hk y hy => by
    rcases List.mem_cons.1 hy with rfl | hy
    · exact hk _ List.mem_cons_self
    · exact h.hh K w (fun z hz => hk z (List.mem_cons_of_mem _ hz)) y hy
theorem Re.perm {xs ys : Blks} (h : xs.Perm ys) (hr : ∀ x ∈ xs, x.rids = []) : Re xs ys := ⟨⟨[], by rw [List.append_nil]; exact mids_perm h⟩, fun y hy => hr y (h.mem_iff.2 hy), fun K w hx y hy => hx y (h.mem_iff.2 hy)⟩
end Go.Proofs.Ytoifikgnbblbgaa.A
/-
  The document's slots.
-/
set_option maxRecDepth 100000
set_option linter.unusedSimpArgs false
set_option linter.unusedVariables false
namespace Go.Proofs.Ytoifikgnbblbgaa.A
open Go.RowKit Go.Maps Go.Sort Go.Shelf

/-- A replica's vote. -/
def wC (p : Int × Dg) : List Abs := int p.1 :: dgC p.2
theorem wC_len (p : Int × Dg) : (wC p).length = 33 := by simp [wC, dgC_len]
theorem wC_ones (p : Int × Dg) : ones (wC p) = true := by
  have h := dgC_ones p.2
  unfold wC
  rw [ones_iff] at h ⊢
  intro a ha
  rcases List.mem_cons.1 ha with rfl | ha
  · rfl
  · exact h a ha
theorem w_part (p : Int × Dg) : part (wC p) 1 32 = dgC p.2 := by
  unfold part wC
  rw [List.drop_succ_cons, List.drop_zero, List.take_of_length_le (by rw [dgC_len]; omega)]
theorem w_le (p : Int × Dg) : 1 + 32 ≤ (wC p).length := by rw [wC_len]; omega
abbrev wsA (r : List (Int × Dg)) : Abs := .sl 33 (r.map wC)
theorem w_fill (who : Int) (v : Dg) (place : Nat → Option (Nat × Nat)) (Z : List Abs) (hZ : Z.length = 33) (h0 : place 0 = some (0, 1)) (h1 : place 1 = some (1, 32)) : fillA place Z [(0, int who), (1, .agg (dgC v))] = some (wC (who, v)) := by
  match Z, hZ with
  | z0 :: Z', hZ =>
    have hZ' : Z'.length = 32 := by simpa using hZ
    have hl := dgC_len v
    simp only [fillA, h0, h1]
    simp [cellsA, putL, hl, hZ', wC]
    rw [show Nat.ble 1 33 = true from rfl, show Nat.ble 33 33 = true from rfl, List.drop_eq_nil_of_le (by omega)]
    simp
section
variable {α : Type}
theorem ag_drop {who : Int} : ∀ {r : List (Int × α)} {z : Nat}, (∀ j (h : j < r.length), j < z → r[j].1 ≠ who) → aget r who = aget (r.drop z) who
  | r, 0, _ => rfl
  | [], z + 1, _ => rfl
  | p :: r, z + 1, h => by
    have h0 : p.1 ≠ who := h 0 (by simp) (by omega)
    rw [List.drop_succ_cons, ← ag_drop (r := r) (z := z) fun j hj hz => h (j + 1) (by simpa using hj) (by omega), aget_cons, if_neg h0]
theorem ag_first {r : List (Int × α)} {who : Int} {z : Nat} (h : ∀ j (h : j < r.length), j < z → r[j].1 ≠ who) (hz : z < r.length) (he : r[z].1 = who) : aget r who = some r[z].2 := by
  rw [ag_drop (r := r) h, List.drop_eq_getElem_cons hz, aget_cons, if_pos he]
theorem ag_no {r : List (Int × α)} {who : Int} {z : Nat} (h : ∀ j (h : j < r.length), j < z → r[j].1 ≠ who) (hz : r.length ≤ z) : aget r who = none := by
  rw [ag_drop (r := r) h, List.drop_eq_nil_of_le hz]
  rfl
end
/-- The cells of a document's slot. -/
abbrev nilS : Abs := .v (.slice none 0 0)
def rsZ (n : Int) : List Abs := int n :: boo false :: (dgZ ++ [nilS, nilS, nilS])
def rsC (n : Int) (ws : List (Int × Dg)) : List Abs := int n :: boo false :: (dgZ ++ [nilS, wsA ws, nilS])
section
variable {p : Nat} {n who : Int} {ws : List (Int × Dg)} {k : Dg}
set_option maxHeartbeats 1000000 in
theorem rvote_s (hl : ws.length ≤ 1000) : Spec Try.prog 24 [ptr p, wsA ws, int who, .agg (dgC k)] [.rd p 61 (rsC n ws)] (fun _ : Unit => []) (fun _ => .tup [wsA (voteM n ws who k), int (voteE n ws who k)]) := by
  refine spec_of Try.func24 rfl Try.ntmps24 rfl fun G w => ?_
  refine SC.seq (SC.region ?_)
  refine SL.eff (Eff.boxA (cs := dgC k) rfl) rfl rfl ?_
  rintro _ _ ⟨b7, rfl, rfl⟩
  refine SL.val (Val.assign rfl) rfl rfl ?_
  refine SL.val (Val.assign rfl) rfl rfl ?_
  refine SL.nil (SE.seq ?_)
  refine SC.seq ?_
  refine SC.seq (SC.region ?_)
  refine SL.val (Val.move rfl) rfl rfl ?_
  refine SL.val (Val.ltI rfl rfl) rfl rfl ?_
  refine SL.val (Val.move rfl) rfl rfl ?_
  refine SL.bothP (t := 14) rfl ?_ ?_
  · intro hc14
    iterate 6 refine SL.skip rfl rfl ?_
    refine SL.val (Val.pickT rfl rfl) rfl rfl ?_
    refine SL.nil (SE.seq ?_)
    refine SC.condT rfl ?_
    refine SC.seq (SC.region ?_)
    refine SL.val (Val.move rfl) rfl rfl ?_
    refine SL.val (Val.assign rfl) rfl rfl ?_
    refine SL.val (Val.assign rfl) rfl rfl ?_
    refine SL.nil (SE.seq ?_)
    refine SC.ret ?_
    refine SE.then_ (by intro h; cases h) ?_
    have hE := vote_out (m := ws) (c := []) (d := k) (by omega : who < 0 ∨ n ≤ who)
    refine SE.fin (rs := [.tmp 8, .tmp 9]) rfl (RV.tmp rfl (RV.tmp rfl RV.nil)) (()) (by repeat first|exact s0 _|exact s1 _|apply s2|apply s3) (by simp [It.rids]) ?_
    rw [hE.1, hE.2.1]
    rfl
  intro hc14
  refine SL.val (Val.move rfl) rfl rfl ?_
  refine SL.val (Val.move rfl) rfl rfl ?_
  refine SL.val (Val.nilCheck rfl) rfl rfl ?_
  refine SL.val (Val.fieldAddr tabOk rfl rfl rfl rfl rfl) rfl rfl ?_
  refine SL.val (Val.load1 tabOk rfl rfl (by first|(apply Or.inl;(repeat first|assumption|exact m0|apply m1);done)|(apply Or.inr;(repeat first|assumption|exact m0|apply m1);done)) List.not_mem_nil (by rfl)) rfl rfl ?_
  refine SL.val (Val.geI rfl rfl) rfl rfl ?_
  refine SL.val (Val.pickF rfl rfl) rfl rfl ?_
  refine SL.nil (SE.seq ?_)
  refine SC.condP rfl ?_ ?_
  · intro hc21
    refine SC.seq (SC.region ?_)
    refine SL.val (Val.move rfl) rfl rfl ?_
    refine SL.val (Val.assign rfl) rfl rfl ?_
    refine SL.val (Val.assign rfl) rfl rfl ?_
    refine SL.nil (SE.seq ?_)
    refine SC.ret ?_
    refine SE.then_ (by intro h; cases h) ?_
    have hE := vote_out (m := ws) (c := []) (d := k) (by omega : who < 0 ∨ n ≤ who)
    refine SE.fin (rs := [.tmp 8, .tmp 9]) rfl (RV.tmp rfl (RV.tmp rfl RV.nil)) (()) (by repeat first|exact s0 _|exact s1 _|apply s2|apply s3) (by simp [It.rids]) ?_
    rw [hE.1, hE.2.1]
    rfl
  intro hc21
  refine SC.skip ?_
  refine SE.seq ?_
  refine SC.seq ?_
  refine SC.seq (SC.region ?_)
  refine SL.val (Val.move rfl) rfl rfl ?_
  first
    | refine SL.val (Val.lenSl rfl Try.underlying59 (List.length_map _)) rfl rfl ?_
    | refine SL.val (Val.lenOwn rfl (by repeat first|assumption|exact m0|apply m1) Try.underlying59 (List.length_map _)) rfl rfl ?_
    | refine SL.val (Val.lenNil rfl Try.underlying59) rfl rfl ?_
  refine SL.val (Val.move rfl) rfl rfl ?_
  refine SL.nil (SE.seq ?_)
  refine SC.block ?_
  refine SC.loop (ι := Nat) (fun z => [.blk b7 41 (dgC k), .rd p 61 (rsC n ws)]) (fun z => [(0, ptr p), (1, wsA ws), (2, int who), (7, ptr b7), (23, wsA ws), (24, int (ws.length : Nat)), (25, int (z : Nat))]) (fun z => z ≤ ws.length ∧ ∀ j (h : j < ws.length), j < z → ws[j].1 ≠ who) (fun z => ws.length - z) (0) (⟨Nat.zero_le _, fun j h hj => by omega⟩) (by exact ⟨rfl, rfl, rfl, rfl, rfl, rfl, rfl, trivial⟩) (by repeat first|exact s0 _|exact s1 _|apply s2|apply s3) ?_
  intro z hz
  refine SC.seq (SC.region ?_)
  refine SL.val (Val.ltI rfl rfl) rfl rfl ?_
  refine SL.nil (SE.seq ?_)
  refine SC.seq ?_
  refine SC.condP rfl ?_ ?_
  rotate_left
  · intro hc26
    refine SC.exit ?_
    refine SE.then_ (by intro h; cases h) ?_
    refine SE.then_ (by intro h; cases h) ?_
    refine SE.exit ?_
    refine SE.seq ?_
    refine SC.seq ?_
    refine SC.draw (mids ([] : Blks) ++ []) (.q 1 (.q 3 (.q 4 (.q 5 (.two 0 6 (.two 2 6 (.e 6 (.e 7 (.q 8 (.q 9 .nil)))) (.e 2 (.e 7 (.q 8 (.q 9 .nil))))) (.e 0 (.e 2 (.e 7 (.q 8 (.q 9 .nil)))))))))) (by kernel_rfl) (by kernel_rfl) ?_
    refine SX.val rfl (Val.move rfl) (by first | exact mids_head | (simp [mids, It.mids, ownPc, mapPc]; done) | (intro k hk; simp [mids, It.mids, ownPc, mapPc, mapAtPc] at hk ⊢; grind)) rfl rfl ?_
    refine SX.val rfl (Val.move rfl) (by first | exact mids_head | (simp [mids, It.mids, ownPc, mapPc]; done) | (intro k hk; simp [mids, It.mids, ownPc, mapPc, mapAtPc] at hk ⊢; grind)) rfl rfl ?_
    refine SX.val rfl (Val.loadA tabOk rfl rfl rfl (by first|(apply Or.inl;(repeat first|assumption|exact m0|apply m1);done)|(apply Or.inr;(repeat first|assumption|exact m0|apply m1);done)) (by simp [mids, It.mids, ownPc]) (dgC_len _)) (by first | exact mids_head | (simp [mids, It.mids, ownPc, mapPc]; done) | (intro k hk; simp [mids, It.mids, ownPc, mapPc, mapAtPc] at hk ⊢; grind)) rfl rfl ?_
    refine SX.val rfl (Val.buildS (L := wC (who, k)) tabOk rfl rfl rfl (w_fill _ _ _ _ rfl rfl rfl)) (by first | exact mids_head | (simp [mids, It.mids, ownPc, mapPc]; done) | (intro k hk; simp [mids, It.mids, ownPc, mapPc, mapAtPc] at hk ⊢; grind)) rfl rfl ?_
    refine SX.two ?_ ?_
    · skip
      refine SX.effN [] [] rfl (Eff.buildOwn tabOk Try.underlying59 rfl rfl rfl rfl rfl rfl rfl) rfl (by first | exact own_mid List.mem_cons_self | exact own_mid (List.mem_cons_of_mem _ List.mem_cons_self) | (simp; done)) rfl rfl ?_
      rintro _ _ ⟨r46, rfl, rfl⟩
      refine ⟨[own 75 33 r46 []], rfl, ?_⟩
      refine SX.two ?_ ?_
      · skip
        refine SX.effN [own 75 33 r46 []] [] rfl (Eff.append tabOk [] Try.underlying59 rfl rfl rfl rfl rfl rfl (by intro c hc; obtain ⟨x, _, rfl⟩ := List.mem_map.1 hc; exact wC_ones x) (by unfold maxLen; simp only [List.length_append, List.length_map, List.length_cons, List.length_nil]; omega) (by rw [show Try.prog.bytesOf 75 = 40 by kernel_rfl]; simp only [List.length_append, List.length_map, List.length_cons, List.length_nil]; omega)) rfl (by first | exact own_mid List.mem_cons_self | exact own_mid (List.mem_cons_of_mem _ List.mem_cons_self) | (simp; done)) rfl rfl ?_
        rintro _ _ ⟨r48, rfl, rfl⟩
        refine ⟨[own 75 33 r48 ([] ++ ws.map wC)], rfl, ?_⟩
        refine SX.eff rfl (Eff.buildSl tabOk Try.underlying59 rfl rfl rfl (elems_one (wC_len _)) rfl rfl rfl) (by simp) rfl rfl ?_
        rintro _ _ ⟨rfl, rfl⟩
        refine SX.effN [own 75 33 r48 ([] ++ ws.map wC)] [] rfl (Eff.append tabOk [] Try.underlying59 rfl rfl rfl rfl rfl rfl (by intro c hc; rw [List.mem_singleton] at hc; subst hc; exact wC_ones _) (by unfold maxLen; simp only [List.length_append, List.length_map, List.length_cons, List.length_nil]; omega) (by rw [show Try.prog.bytesOf 75 = 40 by kernel_rfl]; simp only [List.length_append, List.length_map, List.length_cons, List.length_nil]; omega)) rfl (by first | exact own_mid List.mem_cons_self | exact own_mid (List.mem_cons_of_mem _ List.mem_cons_self) | (simp; done)) rfl rfl ?_
        rintro _ _ ⟨r53, rfl, rfl⟩
        refine ⟨[own 75 33 r53 ([] ++ ws.map wC ++ [wC (who, k)])], rfl, ?_⟩
        refine SX.val rfl (Val.assign rfl) (by first | exact mids_head | (simp [mids, It.mids, ownPc, mapPc]; done) | (intro k hk; simp [mids, It.mids, ownPc, mapPc, mapAtPc] at hk ⊢; grind)) rfl rfl ?_
        refine SX.val rfl (Val.assign rfl) (by first | exact mids_head | (simp [mids, It.mids, ownPc, mapPc]; done) | (intro k hk; simp [mids, It.mids, ownPc, mapPc, mapAtPc] at hk ⊢; grind)) rfl rfl ?_
        refine SX.nil (SE.seq ?_)
        refine SC.ret ?_
        refine SE.freeze [] (t := 8) rfl rfl ?_
        have hE := vote_new (n := n) (m := ws) (c := []) (d := k) (by omega) (ag_no hz.2 (by omega))
        refine SE.fin (rs := [.tmp 8, .tmp 9]) rfl (RV.tmp rfl (RV.tmp rfl RV.nil)) (()) (by repeat first|exact s0 _|exact s1 _|apply s2|apply s3) (by simp [It.rids]) ?_
        show retA [.sl 33 ([] ++ ws.map wC ++ [wC (who, k)]), int 0] = _
        rw [hE.1, hE.2.1, aput_new (ag_no hz.2 (by omega))]
        show _ = Abs.tup [.sl 33 ((ws ++ [(who, k)]).map wC), int 0]
        rw [List.map_append]
        rfl
      · skip
        refine SX.eff rfl (Eff.buildSl tabOk Try.underlying59 rfl rfl rfl (elems_one (wC_len _)) rfl rfl rfl) (by simp) rfl rfl ?_
        rintro _ _ ⟨rfl, rfl⟩
        refine SX.effN [own 75 33 r46 []] [] rfl (Eff.append tabOk [] Try.underlying59 rfl rfl rfl rfl rfl rfl (by intro c hc; obtain ⟨x, _, rfl⟩ := List.mem_map.1 hc; exact wC_ones x) (by unfold maxLen; simp only [List.length_append, List.length_map, List.length_cons, List.length_nil]; omega) (by rw [show Try.prog.bytesOf 75 = 40 by kernel_rfl]; simp only [List.length_append, List.length_map, List.length_cons, List.length_nil]; omega)) rfl (by first | exact own_mid List.mem_cons_self | exact own_mid (List.mem_cons_of_mem _ List.mem_cons_self) | (simp; done)) rfl rfl ?_
        rintro _ _ ⟨r48, rfl, rfl⟩
        refine ⟨[own 75 33 r48 ([] ++ ws.map wC)], rfl, ?_⟩
        refine SX.effN [own 75 33 r48 ([] ++ ws.map wC)] [] rfl (Eff.append tabOk [] Try.underlying59 rfl rfl rfl rfl rfl rfl (by intro c hc; rw [List.mem_singleton] at hc; subst hc; exact wC_ones _) (by unfold maxLen; simp only [List.length_append, List.length_map, List.length_cons, List.length_nil]; omega) (by rw [show Try.prog.bytesOf 75 = 40 by kernel_rfl]; simp only [List.length_append, List.length_map, List.length_cons, List.length_nil]; omega)) rfl (by first | exact own_mid List.mem_cons_self | exact own_mid (List.mem_cons_of_mem _ List.mem_cons_self) | (simp; done)) rfl rfl ?_
        rintro _ _ ⟨r53, rfl, rfl⟩
        refine ⟨[own 75 33 r53 ([] ++ ws.map wC ++ [wC (who, k)])], rfl, ?_⟩
        refine SX.val rfl (Val.assign rfl) (by first | exact mids_head | (simp [mids, It.mids, ownPc, mapPc]; done) | (intro k hk; simp [mids, It.mids, ownPc, mapPc, mapAtPc] at hk ⊢; grind)) rfl rfl ?_
        refine SX.val rfl (Val.assign rfl) (by first | exact mids_head | (simp [mids, It.mids, ownPc, mapPc]; done) | (intro k hk; simp [mids, It.mids, ownPc, mapPc, mapAtPc] at hk ⊢; grind)) rfl rfl ?_
        refine SX.nil (SE.seq ?_)
        refine SC.ret ?_
        refine SE.freeze [] (t := 8) rfl rfl ?_
        have hE := vote_new (n := n) (m := ws) (c := []) (d := k) (by omega) (ag_no hz.2 (by omega))
        refine SE.fin (rs := [.tmp 8, .tmp 9]) rfl (RV.tmp rfl (RV.tmp rfl RV.nil)) (()) (by repeat first|exact s0 _|exact s1 _|apply s2|apply s3) (by simp [It.rids]) ?_
        show retA [.sl 33 ([] ++ ws.map wC ++ [wC (who, k)]), int 0] = _
        rw [hE.1, hE.2.1, aput_new (ag_no hz.2 (by omega))]
        show _ = Abs.tup [.sl 33 ((ws ++ [(who, k)]).map wC), int 0]
        rw [List.map_append]
        rfl
    · skip
      refine SX.eff rfl (Eff.buildSl tabOk Try.underlying59 rfl rfl rfl (elems_one (wC_len _)) rfl rfl rfl) (by simp) rfl rfl ?_
      rintro _ _ ⟨rfl, rfl⟩
      refine SX.effN [] [] rfl (Eff.buildOwn tabOk Try.underlying59 rfl rfl rfl rfl rfl rfl rfl) rfl (by first | exact own_mid List.mem_cons_self | exact own_mid (List.mem_cons_of_mem _ List.mem_cons_self) | (simp; done)) rfl rfl ?_
      rintro _ _ ⟨r46, rfl, rfl⟩
      refine ⟨[own 75 33 r46 []], rfl, ?_⟩
      refine SX.effN [own 75 33 r46 []] [] rfl (Eff.append tabOk [] Try.underlying59 rfl rfl rfl rfl rfl rfl (by intro c hc; obtain ⟨x, _, rfl⟩ := List.mem_map.1 hc; exact wC_ones x) (by unfold maxLen; simp only [List.length_append, List.length_map, List.length_cons, List.length_nil]; omega) (by rw [show Try.prog.bytesOf 75 = 40 by kernel_rfl]; simp only [List.length_append, List.length_map, List.length_cons, List.length_nil]; omega)) rfl (by first | exact own_mid List.mem_cons_self | exact own_mid (List.mem_cons_of_mem _ List.mem_cons_self) | (simp; done)) rfl rfl ?_
      rintro _ _ ⟨r48, rfl, rfl⟩
      refine ⟨[own 75 33 r48 ([] ++ ws.map wC)], rfl, ?_⟩
      refine SX.effN [own 75 33 r48 ([] ++ ws.map wC)] [] rfl (Eff.append tabOk [] Try.underlying59 rfl rfl rfl rfl rfl rfl (by intro c hc; rw [List.mem_singleton] at hc; subst hc; exact wC_ones _) (by unfold maxLen; simp only [List.length_append, List.length_map, List.length_cons, List.length_nil]; omega) (by rw [show Try.prog.bytesOf 75 = 40 by kernel_rfl]; simp only [List.length_append, List.length_map, List.length_cons, List.length_nil]; omega)) rfl (by first | exact own_mid List.mem_cons_self | exact own_mid (List.mem_cons_of_mem _ List.mem_cons_self) | (simp; done)) rfl rfl ?_
      rintro _ _ ⟨r53, rfl, rfl⟩
      refine ⟨[own 75 33 r53 ([] ++ ws.map wC ++ [wC (who, k)])], rfl, ?_⟩
      refine SX.val rfl (Val.assign rfl) (by first | exact mids_head | (simp [mids, It.mids, ownPc, mapPc]; done) | (intro k hk; simp [mids, It.mids, ownPc, mapPc, mapAtPc] at hk ⊢; grind)) rfl rfl ?_
      refine SX.val rfl (Val.assign rfl) (by first | exact mids_head | (simp [mids, It.mids, ownPc, mapPc]; done) | (intro k hk; simp [mids, It.mids, ownPc, mapPc, mapAtPc] at hk ⊢; grind)) rfl rfl ?_
      refine SX.nil (SE.seq ?_)
      refine SC.ret ?_
      refine SE.freeze [] (t := 8) rfl rfl ?_
      have hE := vote_new (n := n) (m := ws) (c := []) (d := k) (by omega) (ag_no hz.2 (by omega))
      refine SE.fin (rs := [.tmp 8, .tmp 9]) rfl (RV.tmp rfl (RV.tmp rfl RV.nil)) (()) (by repeat first|exact s0 _|exact s1 _|apply s2|apply s3) (by simp [It.rids]) ?_
      show retA [.sl 33 ([] ++ ws.map wC ++ [wC (who, k)]), int 0] = _
      rw [hE.1, hE.2.1, aput_new (ag_no hz.2 (by omega))]
      show _ = Abs.tup [.sl 33 ((ws ++ [(who, k)]).map wC), int 0]
      rw [List.map_append]
      rfl
  intro hc26
  have hlt : z < ws.length := by omega
  refine SC.skip ?_
  refine SE.seq ?_
  refine SC.seq ?_
  refine SC.block ?_
  refine SC.seq (SC.region ?_)
  refine SL.val (Val.indexSl tabOk Try.underlying59 rfl rfl rfl rfl (at_map (by omega)) rfl rfl) rfl rfl ?_
  refine SL.val (Val.loadAR tabOk rfl rfl rfl (wC_len _)) rfl rfl ?_
  refine SL.eff (Eff.alloc tabOk rfl) rfl rfl ?_
  rintro _ _ ⟨b11, rfl, rfl⟩
  refine SL.eff (Eff.store (L' := wC (ws[z]'hlt)) tabOk rfl rfl rfl (by repeat first|assumption|exact Upd.here|apply Upd.there) (by exact wC_len _) (Nat.le_of_ble_eq_true (by rfl)) (by exact wC_ones _) (putL_whole (by exact wC_len _))) rfl rfl ?_
  rintro _ _ ⟨rfl, rfl⟩
  refine SL.nil (SE.seq ?_)
  refine SC.seq ?_
  refine SC.seq (SC.region ?_)
  refine SL.val (Val.fieldAddr tabOk rfl rfl rfl rfl rfl) rfl rfl ?_
  refine SL.val (Val.load1 tabOk rfl rfl (by first|(apply Or.inl;(repeat first|assumption|exact m0|apply m1);done)|(apply Or.inr;(repeat first|assumption|exact m0|apply m1);done)) List.not_mem_nil (by rfl)) rfl rfl ?_
  refine SL.val (Val.move rfl) rfl rfl ?_
  refine SL.val (Val.eqI rfl rfl) rfl rfl ?_
  refine SL.val (Val.move rfl) rfl rfl ?_
  refine SL.bothP (t := 33) rfl ?_ ?_
  rotate_left
  · intro hc33
    iterate 4 refine SL.skip rfl rfl ?_
    refine SL.val (Val.pickF rfl rfl) rfl rfl ?_
    refine SL.nil (SE.seq ?_)
    refine SC.condF rfl ?_
    refine SC.skip ?_
    refine SE.seq ?_
    refine SC.seq (SC.region ?_)
    refine SL.val (Val.fieldAddr tabOk rfl rfl rfl rfl rfl) rfl rfl ?_
    refine SL.val (Val.load1 tabOk rfl rfl (by first|(apply Or.inl;(repeat first|assumption|exact m0|apply m1);done)|(apply Or.inr;(repeat first|assumption|exact m0|apply m1);done)) List.not_mem_nil (by rfl)) rfl rfl ?_
    refine SL.val (Val.move rfl) rfl rfl ?_
    refine SL.val (Val.eqI rfl rfl) rfl rfl ?_
    refine SL.nil (SE.seq ?_)
    refine SC.condP rfl ?_ ?_
    rotate_left
    · intro hc43
      refine SC.skip ?_
      refine SE.inBlock ?_
      refine SE.seq ?_
      refine SC.region ?_
      first
        | refine SL.val (Val.addI rfl rfl (by simp only [InR, lo, hi]; omega)) rfl rfl ?_
        | refine SL.val (Val.addW rfl rfl) rfl rfl ?_
      refine SL.val (Val.move rfl) rfl rfl ?_
      refine SL.nil ?_
      refine SE.round (z + 1) (by first | omega | (dsimp only; omega)) (⟨by omega, fun j h hj => by
            rcases Nat.lt_or_ge j z with h1 | h1
            · exact hz.2 j h h1
            · obtain rfl : j = z := by omega
              assumption⟩) (by exact ⟨rfl, rfl, rfl, rfl, rfl, rfl, rfl, trivial⟩) (by repeat first|exact s0 _|exact s1 _|apply s2|apply s3)
    intro hc43
    refine SC.seq (SC.region ?_)
    refine SL.val (Val.move rfl) rfl rfl ?_
    refine SL.val (Val.assign rfl) rfl rfl ?_
    refine SL.val (Val.assign rfl) rfl rfl ?_
    refine SL.nil (SE.seq ?_)
    refine SC.ret ?_
    refine SE.ret ?_
    refine SE.then_ (by intro h; cases h) ?_
    refine SE.then_ (by intro h; cases h) ?_
    refine SE.ret ?_
    refine SE.then_ (by intro h; cases h) ?_
    have hE := vote_old (n := n) (m := ws) (c := []) (d := k) (by omega) (ag_first hz.2 hlt (by first | assumption | omega))
    refine SE.fin (rs := [.tmp 8, .tmp 9]) rfl (RV.tmp rfl (RV.tmp rfl RV.nil)) (()) (by repeat first|exact s0 _|exact s1 _|apply s2|apply s3) (by simp [It.rids]) ?_
    rw [hE.1, hE.2.1, if_neg (by first | assumption | (exfalso; contradiction))]
    rfl
  intro hc33
  refine SL.val (Val.fieldAddr tabOk rfl rfl rfl rfl rfl) rfl rfl ?_
  refine SL.val (Val.to (C := .agg (dgC (ws[z]'hlt).2)) (Val.loadP tabOk rfl rfl rfl (by first|(apply Or.inl;(repeat first|assumption|exact m0|apply m1);done)|(apply Or.inr;(repeat first|assumption|exact m0|apply m1);done)) List.not_mem_nil (w_le _)) (congrArg Abs.agg (w_part _))) rfl rfl ?_
  refine SL.val (Val.loadA tabOk rfl rfl rfl (by first|(apply Or.inl;(repeat first|assumption|exact m0|apply m1);done)|(apply Or.inr;(repeat first|assumption|exact m0|apply m1);done)) List.not_mem_nil (dgC_len _)) rfl rfl ?_
  refine SL.val (Val.eqA rfl rfl (dg_plains _) (dg_plains _) (by kernel_rfl) (eqDg _ _)) rfl rfl ?_
  refine SL.val (Val.pickT rfl rfl) rfl rfl ?_
  refine SL.nil (SE.seq ?_)
  refine SC.condP rfl ?_ ?_
  · intro hc38
    refine SC.seq (SC.region ?_)
    refine SL.val (Val.move rfl) rfl rfl ?_
    refine SL.val (Val.assign rfl) rfl rfl ?_
    refine SL.val (Val.assign rfl) rfl rfl ?_
    refine SL.nil (SE.seq ?_)
    refine SC.ret ?_
    refine SE.then_ (by intro h; cases h) ?_
    refine SE.ret ?_
    refine SE.then_ (by intro h; cases h) ?_
    refine SE.then_ (by intro h; cases h) ?_
    refine SE.ret ?_
    refine SE.then_ (by intro h; cases h) ?_
    have hE := vote_old (n := n) (m := ws) (c := []) (d := k) (by omega) (ag_first hz.2 hlt (by first | assumption | omega))
    refine SE.fin (rs := [.tmp 8, .tmp 9]) rfl (RV.tmp rfl (RV.tmp rfl RV.nil)) (()) (by repeat first|exact s0 _|exact s1 _|apply s2|apply s3) (by simp [It.rids]) ?_
    rw [hE.1, hE.2.1, if_pos (by assumption)]
    rfl
  intro hc38
  refine SC.skip ?_
  refine SE.seq ?_
  refine SC.seq (SC.region ?_)
  refine SL.val (Val.fieldAddr tabOk rfl rfl rfl rfl rfl) rfl rfl ?_
  refine SL.val (Val.load1 tabOk rfl rfl (by first|(apply Or.inl;(repeat first|assumption|exact m0|apply m1);done)|(apply Or.inr;(repeat first|assumption|exact m0|apply m1);done)) List.not_mem_nil (by rfl)) rfl rfl ?_
  refine SL.val (Val.move rfl) rfl rfl ?_
  refine SL.val (Val.eqI rfl rfl) rfl rfl ?_
  refine SL.nil (SE.seq ?_)
  refine SC.condP rfl ?_ ?_
  rotate_left
  · intro hc43
    refine SC.skip ?_
    refine SE.inBlock ?_
    refine SE.seq ?_
    refine SC.region ?_
    first
      | refine SL.val (Val.addI rfl rfl (by simp only [InR, lo, hi]; omega)) rfl rfl ?_
      | refine SL.val (Val.addW rfl rfl) rfl rfl ?_
    refine SL.val (Val.move rfl) rfl rfl ?_
    refine SL.nil ?_
    refine SE.round (z + 1) (by first | omega | (dsimp only; omega)) (⟨by omega, fun j h hj => by
          rcases Nat.lt_or_ge j z with h1 | h1
          · exact hz.2 j h h1
          · obtain rfl : j = z := by omega
            assumption⟩) (by exact ⟨rfl, rfl, rfl, rfl, rfl, rfl, rfl, trivial⟩) (by repeat first|exact s0 _|exact s1 _|apply s2|apply s3)
  intro hc43
  refine SC.seq (SC.region ?_)
  refine SL.val (Val.move rfl) rfl rfl ?_
  refine SL.val (Val.assign rfl) rfl rfl ?_
  refine SL.val (Val.assign rfl) rfl rfl ?_
  refine SL.nil (SE.seq ?_)
  refine SC.ret ?_
  refine SE.ret ?_
  refine SE.then_ (by intro h; cases h) ?_
  refine SE.then_ (by intro h; cases h) ?_
  refine SE.ret ?_
  refine SE.then_ (by intro h; cases h) ?_
  have hE := vote_old (n := n) (m := ws) (c := []) (d := k) (by omega) (ag_first hz.2 hlt (by first | assumption | omega))
  refine SE.fin (rs := [.tmp 8, .tmp 9]) rfl (RV.tmp rfl (RV.tmp rfl RV.nil)) (()) (by repeat first|exact s0 _|exact s1 _|apply s2|apply s3) (by simp [It.rids]) ?_
  rw [hE.1, hE.2.1, if_neg (by first | assumption | (exfalso; contradiction))]
  rfl
theorem rprep_s (hl : ws.length ≤ 1000) : Spec Try.prog 15 [ptr p, int who, .agg (dgC k)] [.blk p 61 (rsC n ws)] (fun _ : Unit => [.blk p 61 (rsC n (voteM n ws who k))]) (fun _ => int (voteE n ws who k)) := by
  refine spec_of Try.func15 rfl Try.ntmps15 rfl fun G w => ?_
  refine SC.seq (SC.region ?_)
  refine SL.eff (Eff.boxA (cs := dgC k) rfl) rfl rfl ?_
  rintro _ _ ⟨b5, rfl, rfl⟩
  refine SL.val (Val.assign rfl) rfl rfl ?_
  refine SL.nil (SE.seq ?_)
  refine SC.seq ?_
  refine SC.draw [] (.q 0 (.q 1 (.q 2 (.q 3 (.q 4 (.q 5 (.q 6 (.e 7 (.q 8 (.q 9 (.q 10 (.q 11 (.q 12 .nil))))))))))))) (by kernel_rfl) (by kernel_rfl) ?_
  refine SX.val rfl (Val.move rfl) (by simp) rfl rfl ?_
  refine SX.val rfl (Val.move rfl) (by simp) rfl rfl ?_
  refine SX.val rfl (Val.nilCheck rfl) (by simp) rfl rfl ?_
  refine SX.val rfl (Val.fieldAddr tabOk rfl rfl rfl rfl rfl) (by simp) rfl rfl ?_
  refine SX.val rfl (Val.load1 tabOk rfl rfl (by first|(apply Or.inl;(repeat first|assumption|exact m0|apply m1);done)|(apply Or.inr;(repeat first|assumption|exact m0|apply m1);done)) List.not_mem_nil (by rfl)) (by simp) rfl rfl ?_
  refine SX.val rfl (Val.move rfl) (by simp) rfl rfl ?_
  refine SX.val rfl (Val.loadA tabOk rfl rfl rfl (by first|(apply Or.inl;(repeat first|assumption|exact m0|apply m1);done)|(apply Or.inr;(repeat first|assumption|exact m0|apply m1);done)) List.not_mem_nil (dgC_len _)) (by first | exact mids_head | (simp [mids, It.mids, ownPc, mapPc]; done) | (intro k hk; simp [mids, It.mids, ownPc, mapPc, mapAtPc] at hk ⊢; grind)) rfl rfl ?_
  refine SX.call rfl (rvote_s (p := p) (ws := ws) (n := n) (who := who) (k := k) hl) (by simp [mids, It.mids]) Casts.refl (by kernel_rfl) rfl rfl rfl ?_
  refine After.pure (by repeat (first | exact Reads.nil | (refine Reads.blk ?_ ?_; focus ((repeat first|assumption|exact m0|apply m1); done)) | (refine Reads.rd ?_ ?_; focus ((repeat first|assumption|exact m0|apply m1); done)) | (refine Reads.pc ?_ ?_; focus ((repeat first|assumption|exact m0|apply m1); done)) | (refine Reads.rdpc ?_ ?_; focus ((repeat first|assumption|exact m0|apply m1); done)))) (fun _ => rfl) ?_
  intro _
  refine SX.val rfl (Val.move rfl) (by simp) rfl rfl ?_
  refine SX.val rfl (Val.extract rfl rfl) (by simp) rfl rfl ?_
  refine SX.val rfl (Val.extract rfl rfl) (by simp) rfl rfl ?_
  refine SX.val rfl (Val.assign rfl) (by simp) rfl rfl ?_
  refine SX.val rfl (Val.assign rfl) (by simp) rfl rfl ?_
  refine SX.nil (SE.seq ?_)
  refine SC.seq (SC.region ?_)
  refine SL.val (Val.move rfl) rfl rfl ?_
  refine SL.val (Val.move rfl) rfl rfl ?_
  refine SL.val (Val.nilCheck rfl) rfl rfl ?_
  refine SL.val (Val.fieldAddr tabOk rfl rfl rfl rfl rfl) rfl rfl ?_
  refine SL.eff (Eff.store (L' := rsC n (voteM n ws who k)) tabOk rfl rfl rfl (by repeat first|assumption|exact Upd.here|apply Upd.there) (by rfl) (Nat.le_of_ble_eq_true (by rfl)) (by rfl) (by rfl)) rfl rfl ?_
  rintro _ _ ⟨rfl, rfl⟩
  refine SL.nil (SE.seq ?_)
  refine SC.seq (SC.region ?_)
  refine SL.val (Val.move rfl) rfl rfl ?_
  refine SL.val (Val.assign rfl) rfl rfl ?_
  refine SL.nil (SE.seq ?_)
  refine SC.ret ?_
  refine SE.fin (rs := [.tmp 6]) rfl (RV.tmp rfl RV.nil) (()) (by repeat first|exact s0 _|exact s1 _|apply s2|apply s3) (by simp [It.rids]) ?_
  exact rfl
end
end Go.Proofs.Ytoifikgnbblbgaa.A
/-
  Tallies, plain: the document's row of votes, rising by voters, and the program's map.
-/
set_option maxRecDepth 100000
set_option linter.unusedSimpArgs false
set_option linter.unusedVariables false
namespace Go.Proofs.Ytoifikgnbblbgaa.A
open Go.RowKit

section
variable {α : Type} [DecidableEq α] {m r l : List (Int × α)} {c : List (α × Nat)} {who w : Int} {v k : α}
/-- One step of the document's Change. -/
def cStep (who : Int) (v : α) (s : List (Int × α) × Bool) (x : Int × α) : List (Int × α) × Bool :=
  let s1 := if s.2 = false ∧ who ≤ x.1 then (s.1 ++ [(who, v)], true) else s
  (if x.1 = who then s1.1 else s1.1 ++ [x], s1.2)
def cFin (who : Int) (v : α) (s : List (Int × α) × Bool) : List (Int × α) := if s.2 then s.1 else s.1 ++ [(who, v)]
def chgR (r : List (Int × α)) (who : Int) (v : α) : List (Int × α) := cFin who v (r.foldl (cStep who v) ([], false))
omit [DecidableEq α] in
theorem cStep_true (acc : List (Int × α)) (x : Int × α) : cStep who v (acc, true) x = (if x.1 = who then acc else acc ++ [x], true) := by
  simp [cStep]
omit [DecidableEq α] in
theorem fold_true : ∀ (l : List (Int × α)) (acc : List (Int × α)), l.foldl (cStep who v) (acc, true) = (acc ++ l.filter (fun p => decide (p.1 ≠ who)), true)
  | [], acc => by simp
  | x :: l, acc => by
    rw [List.foldl_cons, cStep_true, fold_true l, List.filter_cons]
    by_cases h : x.1 = who <;> simp [h]
omit [DecidableEq α] in
theorem fold_false : ∀ (l : List (Int × α)) (acc : List (Int × α)), (l.map (·.1)).Pairwise (· < ·) → cFin who v (l.foldl (cStep who v) (acc, false)) = acc ++ l.filter (fun p => decide (p.1 < who)) ++ [(who, v)] ++ l.filter (fun p => decide (who < p.1))
  | [], acc, _ => by simp [cFin]
  | x :: l, acc, h => by
    rw [List.map_cons, List.pairwise_cons] at h
    have hl : ∀ p ∈ l, x.1 < p.1 := fun p hp => h.1 _ (List.mem_map.2 ⟨p, hp, rfl⟩)
    rw [List.foldl_cons]
    by_cases hx : who ≤ x.1
    · have e1 : l.filter (fun p => decide (p.1 < who)) = [] := List.filter_eq_nil_iff.2 fun p hp => by have := hl p hp; simp; omega
      have e2 : l.filter (fun p => decide (who < p.1)) = l := List.filter_eq_self.2 fun p hp => by have := hl p hp; simp; omega
      have e3 : l.filter (fun p => decide (p.1 ≠ who)) = l := List.filter_eq_self.2 fun p hp => by have := hl p hp; simp; omega
      have e4 : cStep who v (acc, false) x = (if x.1 = who then acc ++ [(who, v)] else acc ++ [(who, v)] ++ [x], true) := by simp [cStep, hx]
      have hn : ¬ x.1 < who := by omega
      rw [e4, fold_true, e3, List.filter_cons, List.filter_cons, e1, e2]
      by_cases hq : x.1 = who
      · simp [cFin, hq]
      · have : who < x.1 := by omega
        simp [cFin, hq, this, hn]
    · have e4 : cStep who v (acc, false) x = (acc ++ [x], false) := by
        have : ¬ x.1 = who := by omega
        simp [cStep, hx, this]
      have h1 : x.1 < who := by omega
      have h2 : ¬ who < x.1 := by omega
      rw [e4, fold_false l _ h.2, List.filter_cons, List.filter_cons]
      simp [h1, h2]
omit [DecidableEq α] in
theorem chgR_eq (h : (r.map (·.1)).Pairwise (· < ·)) : chgR r who v = r.filter (fun p => decide (p.1 < who)) ++ [(who, v)] ++ r.filter (fun p => decide (who < p.1)) := by
  unfold chgR
  rw [fold_false r [] h]
  simp
omit [DecidableEq α] in
theorem cStep_len (s : List (Int × α) × Bool) (x : Int × α) : (cStep who v s x).1.length ≤ s.1.length + 2 := by
  unfold cStep
  split <;> split <;> simp <;> omega
/-- The document's row is the program's map, in order. -/
structure Rel (r m : List (Int × α)) : Prop where
  perm : r.Perm m
  rise : (r.map (·.1)).Pairwise (· < ·)
omit [DecidableEq α] in
theorem Rel.nil : Rel ([] : List (Int × α)) [] := ⟨List.Perm.refl _, List.Pairwise.nil⟩
omit [DecidableEq α] in
theorem Rel.nd (h : Rel r m) : (r.map (·.1)).Nodup := h.rise.imp fun h => by omega
omit [DecidableEq α] in
theorem Rel.nd2 (h : Rel r m) : (m.map (·.1)).Nodup := ((h.perm.map (·.1)).nodup_iff).1 h.nd
omit [DecidableEq α] in
theorem aget_some : ∀ {m : List (Int × α)}, (m.map (·.1)).Nodup → ∀ {w : Int} {v : α}, aget m w = some v ↔ (w, v) ∈ m
  | [], _, w, v => by simp [aget]
  | p :: m, h, w, v => by
    rw [List.map_cons, List.nodup_cons] at h
    rw [aget_cons, List.mem_cons]
    split
    · next e =>
      constructor
      · intro hv
        left
        have := Option.some.inj hv
        obtain ⟨a, b⟩ := p
        simp only at e this
        rw [e, this]
      · rintro (hv | hv)
        · rw [← hv]
        · exact absurd (List.mem_map.2 ⟨_, hv, rfl⟩) (e ▸ h.1)
    · next e =>
      rw [aget_some h.2]
      constructor
      · exact .inr
      · rintro (hv | hv)
        · exact absurd (by rw [← hv]) e
        · exact hv
omit [DecidableEq α] in
theorem Rel.aget (h : Rel r m) (w : Int) : aget r w = aget m w := by
  cases hv : Go.Proofs.Ytoifikgnbblbgaa.aget m w with
  | none =>
    rw [aget_none] at hv ⊢
    exact fun h2 => hv ((h.perm.map (·.1)).mem_iff.1 h2)
  | some v =>
    rw [aget_some h.nd2] at hv
    rw [aget_some h.nd]
    exact h.perm.mem_iff.2 hv
theorem Rel.cnt (h : Rel r m) (v : α) : cnt r v = cnt m v := (h.perm.filter _).length_eq
omit [DecidableEq α] in
theorem Rel.len (h : Rel r m) : r.length = m.length := h.perm.length_eq
omit [DecidableEq α] in
theorem Rel.srt (h : Rel r m) : srt (m.map (·.1)) = r.map (·.1) := sorted_unique ((srt_perm _).trans (h.perm.map (·.1)).symm) (srt_sorted _) (h.rise.imp fun h => by omega)
omit [DecidableEq α] in
theorem mem_aput (p : Int × α) : p ∈ aput m w k ↔ p = (w, k) ∨ (p ∈ m ∧ p.1 ≠ w) := by
  unfold aput
  split
  · next h =>
    rw [aget_isSome, List.mem_map] at h
    obtain ⟨q0, hq0, hw⟩ := h
    rw [List.mem_map]
    constructor
    · rintro ⟨q, hq, rfl⟩
      by_cases e : q.1 = w
      · left; rw [if_pos e]
      · right; rw [if_neg e]; exact ⟨hq, e⟩
    · rintro (rfl | ⟨h1, h2⟩)
      · exact ⟨q0, hq0, if_pos hw⟩
      · exact ⟨p, h1, if_neg h2⟩
  · next h =>
    rw [aget_isSome] at h
    rw [List.mem_append, List.mem_singleton]
    constructor
    · rintro (h1 | h1)
      · exact .inr ⟨h1, fun e => h (e ▸ List.mem_map.2 ⟨p, h1, rfl⟩)⟩
      · exact .inl h1
    · rintro (h1 | h1)
      · exact .inr h1
      · exact .inl h1.1
omit [DecidableEq α] in
theorem nodup_of_keys {l : List (Int × α)} (h : (l.map (·.1)).Nodup) : l.Nodup := (List.pairwise_map.1 h).imp fun h e => h (by rw [e])
omit [DecidableEq α] in
theorem Rel.chg (h : Rel r m) (who : Int) (v : α) : Rel (chgR r who v) (aput m who v) := by
  have hr : ((chgR r who v).map (·.1)).Pairwise (· < ·) := by
    rw [chgR_eq h.rise, List.map_append, List.map_append, List.pairwise_append, List.pairwise_append]
    have s1 : ∀ f : Int × α → Bool, ((r.filter f).map (·.1)).Pairwise (· < ·) := fun f => h.rise.sublist (List.filter_sublist.map _)
    refine ⟨⟨s1 _, by simp, fun a ha b hb => ?_⟩, s1 _, fun a ha b hb => ?_⟩
    · simp only [List.mem_map, List.mem_filter, decide_eq_true_eq, List.mem_singleton] at ha hb
      obtain ⟨p, ⟨_, hp⟩, rfl⟩ := ha
      obtain ⟨q, rfl, rfl⟩ := hb
      exact hp
    · simp only [List.mem_append, List.mem_map, List.mem_filter, decide_eq_true_eq, List.mem_singleton] at ha hb
      obtain ⟨q, ⟨_, hq⟩, rfl⟩ := hb
      rcases ha with ⟨p, ⟨_, hp⟩, rfl⟩ | ⟨p, rfl, rfl⟩
      · omega
      · exact hq
  refine ⟨?_, hr⟩
  rw [List.perm_ext_iff_of_nodup (nodup_of_keys (hr.imp fun h => by omega)) (nodup_of_keys (aput_nodup h.nd2 who v))]
  intro p
  rw [mem_aput, chgR_eq h.rise]
  simp only [List.mem_append, List.mem_filter, decide_eq_true_eq, List.mem_singleton, h.perm.mem_iff]
  constructor
  · rintro ((⟨h1, h2⟩ | h1) | ⟨h1, h2⟩)
    · exact .inr ⟨h1, by omega⟩
    · exact .inl h1
    · exact .inr ⟨h1, by omega⟩
  · rintro (h1 | ⟨h1, h2⟩)
    · exact .inl (.inr h1)
    · rcases Int.lt_or_gt_of_ne h2 with h3 | h3
      · exact .inl (.inl ⟨h1, h3⟩)
      · exact .inr ⟨h1, h3⟩
/-- The first that enough vote for. -/
def leastQ (c : α → Nat) (at_ : Int) : List (Int × α) → Option α
  | [] => none
  | p :: l => if 1 ≤ at_ ∧ at_ ≤ c p.2 then some p.2 else leastQ c at_ l
omit [DecidableEq α] in
theorem leastQ_drop {c : α → Nat} {at_ : Int} : ∀ {l : List (Int × α)} {z : Nat}, (∀ j (h : j < l.length), j < z → ¬ (1 ≤ at_ ∧ at_ ≤ c l[j].2)) → leastQ c at_ l = leastQ c at_ (l.drop z)
  | l, 0, _ => rfl
  | [], z + 1, _ => rfl
  | p :: l, z + 1, h => by
    have h0 := h 0 (by simp) (by omega)
    simp only [List.getElem_cons_zero] at h0
    rw [List.drop_succ_cons, ← leastQ_drop (l := l) (z := z) fun j hj hz => h (j + 1) (by simpa using hj) (by omega)]
    exact if_neg h0
theorem least_eq (h : Rel r m) (hc : TInv m c) (at_ : Int) : leastO m c at_ (srt (m.map (·.1))) = leastQ (Go.Proofs.Ytoifikgnbblbgaa.A.cnt r) at_ r := by
  rw [h.srt]
  have aux : ∀ l : List (Int × α), (∀ p ∈ l, aget m p.1 = some p.2) → leastO m c at_ (l.map (·.1)) = leastQ (Go.Proofs.Ytoifikgnbblbgaa.A.cnt r) at_ l := by
    intro l
    induction l with
    | nil => intro _; rfl
    | cons p l ih =>
      intro hp
      rw [List.map_cons, leastO_cons, hp p List.mem_cons_self, ih fun q hq => hp q (List.mem_cons_of_mem _ hq)]
      show (if 1 ≤ at_ ∧ at_ ≤ cget c p.2 then some p.2 else _) = if 1 ≤ at_ ∧ at_ ≤ Go.Proofs.Ytoifikgnbblbgaa.A.cnt r p.2 then some p.2 else _
      rw [hc.num, h.cnt]
  exact aux r fun p hp => by rw [← h.aget, aget_some h.nd]; exact hp
/-- Who votes for something. -/
def whoR (r : List (Int × α)) (v : α) : List Int := (r.filter fun p => decide (p.2 = v)).map (·.1)
theorem whoR_len (r : List (Int × α)) (v : α) : (whoR r v).length = Go.Proofs.Ytoifikgnbblbgaa.A.cnt r v := by unfold whoR cnt; rw [List.length_map]
theorem whoR_eq (h : Rel r m) {f : Int → α} (hf : ∀ p ∈ m, f p.1 = p.2) (k : α) : (srt (m.map (·.1))).filter (fun x => !decide (f x ≠ k)) = whoR r k := by
  unfold whoR
  rw [h.srt, List.filter_map]
  congr 1
  apply List.filter_congr
  intro p hp
  simp only [Function.comp, hf p (h.perm.mem_iff.1 hp)]
  by_cases e : p.2 = k <;> simp [e]
end
end Go.Proofs.Ytoifikgnbblbgaa.A
