/-
  Packed out of the texts: Bst, FQ, PT6, AN12, AN13, AN14, AN15, AN16, AN17.
-/
import Derived.Test.YtjclgkddfjbdiaaGreatDoorP09
set_option maxRecDepth 100000
set_option linter.unusedSimpArgs false
set_option linter.unusedVariables false
namespace Go.Proofs.YtjclgkddfjbdiaaGreatDoor.A
open Go.RowKit
/-! ### Pieces looked at from here; acts with calls that are put off -/
theorem Mem.focus {w0 w : World} {F G : List Nat} {σ σ1 φ : Blks} (hm : Mem w0 F G σ w) (hp : Split σ σ1 φ) : Mem w (mids σ1) (mids φ ++ G) σ1 w ∧ Carry (mids σ ++ G) w (mids σ1 ++ (mids φ ++ G)) w := by
  have hmem : ∀ k, k ∈ mids σ ↔ k ∈ mids σ1 ∨ k ∈ mids φ := fun k => by rw [← hp.perm.mem_iff, List.mem_append]
  have hnd : (mids σ1 ++ mids φ).Nodup := hp.perm.nodup_iff.2 hm.nodup
  obtain ⟨n1, n2, n3⟩ := List.nodup_append.1 hnd
  have hc1 : Carry (mids σ ++ G) w (mids σ1 ++ (mids φ ++ G)) w := Carry.less fun k hk => by
    simp only [List.mem_append] at hk ⊢
    rw [hmem]
    rcases hk with h | h | h
    · exact .inl (.inl h)
    · exact .inl (.inr h)
    · exact .inr h
  refine ⟨⟨Ext.refl w, fun k hk => .inl hk, fun k hk hg => ?_, fun k hk => ?_, fun x hx k hk => ?_, n1, fun x hx => ?_⟩, hc1⟩
  · rcases List.mem_append.1 hg with h | h
    · exact n3 k hk k h rfl
    · exact hm.sep k ((hmem k).2 (.inl hk)) h
  · rcases List.mem_append.1 hk with h | h
    · exact hm.lt k (List.mem_append_left _ ((hmem k).2 (.inr h)))
    · exact hm.old k h
  · rcases hp.sub x hx with ⟨_, h⟩ | ⟨y, hy, rfl⟩
    · rw [h] at hk; cases hk
    · rcases List.mem_append.1 (fv_ y k hk) with h | h
      · exact List.mem_append_left _ (bD_.2 ⟨y, hy, h⟩)
      · exact List.mem_append_right _ (hm.ro y (hp.rest y hy) k h)
  · rcases hp.sub x hx with ⟨h, _⟩ | ⟨y, hy, rfl⟩
    · exact It.carry (hm.hold x h) hc1 fun _ _ => rfl
    · exact eI_ (It.carry (hm.hold y (hp.rest y hy)) hc1 fun _ _ => rfl)
theorem Mem.nil {w0 w : World} {F G : List Nat} (h : Ext F w0 w) (hG : ∀ k ∈ G, k < w.heap.size) : Mem w0 F G [] w := ⟨h, by simp [mids], by simp [mids], hG, by simp, by simp [mids], by simp⟩
def StD (n : Nat) (W : Wd) (σ : Blks) (l : Slots) (ds : List Deferred) (a : Act) (w : World) : Prop := ∃ a0 : Act, a = { a0 with defers := ds } ∧ St n W σ l a0 w
section
variable {P : Program} {n : Nat} {W : Wd} {σ τ : Blks} {l : Slots} {ops : Array Oper} {rest : List Oper} {Q : Exit → Act → World → Prop} {o : Oper} {ds : List Deferred} {y : Abs}
theorem SL.valD (hv : Val P n W σ l [] o y) (hg : gd ops l o = some true) (hd : lt? o.dst n = true) (k : SL P ops rest (StD n W σ (put? l o.dst y) ds) Q) : SL P ops (o :: rest) (StD n W σ l ds) Q := fun a w ⟨a0, ha, hs⟩ => by
  subst ha
  refine wpList_step fun K hK => ?_
  rw [if_pos (show Region.wanted o (yielded ops a0.tmps) = true from hs.wanted hg)]
  obtain ⟨v, hr, hrun⟩ := hv a0 w hs (by simp)
  unfold Oper.wp
  have h2 := hrun w (Ext.refl w)
  rw [show Act.eval { a0 with defers := ds } = a0.eval from rfl, h2]
  refine hK _ _ (k _ _ ⟨a0.put o.dst v, ?_, hs.put hd hr⟩)
  cases o.dst <;> rfl
theorem j0_ {Y : List Nat} {R : Abs → Blks → Prop} (hv : Eff P n W σ l Y o R) (hg : gd ops l o = some true) (hd : lt? o.dst n = true) (k : ∀ y τ, R y τ → SL P ops rest (StD n W τ (put? l o.dst y) ds) Q) : SL P ops (o :: rest) (StD n W σ l ds) Q := fun a w ⟨a0, ha, hs⟩ => by
  subst ha
  refine wpList_step fun K hK => ?_
  rw [if_pos (show Region.wanted o (yielded ops a0.tmps) = true from hs.wanted hg)]
  unfold Oper.wp
  rw [show Act.eval { a0 with defers := ds } = a0.eval from rfl]
  obtain ⟨v, w', y, τ, hR, _, hr, hm, hc, hrun | ⟨rfl, hrun⟩⟩ := hv a0 w hs
  · rw [hrun]; refine hK _ _ (k _ _ hR _ _ ⟨_, ?_, (hs.to hm hc).put hd hr⟩); cases o.dst <;> rfl
  · rw [hrun]; refine hK _ _ (k _ _ hR _ _ ⟨_, ?_, (hs.to hm hc).put hd hr⟩); cases o.dst <;> rfl
end
theorem em_ {F : List Nat} {w W W' : World} {row : Option Nat} (h : Ext F w W) (hg : W.grownBy W' row) (hr : ∀ r, row = some r → w.heap.size ≤ r) : Ext F w W' := ⟨hg.os.trans h.os, hg.tape.trans h.tape, hg.output.trans h.output, Nat.le_trans h.size hg.size, fun k hk hn => (hg.block k (Nat.lt_of_lt_of_le hk h.size) fun e => by have := hr k e.symm; omega).trans (h.block k hk hn)⟩
theorem el_ {F : List Nat} {B : Nat} {W W' : World} (h : Ext F W W') (hF : ∀ k ∈ F, k < B) : KeepsFrom B W W' := ⟨h.size, fun k o hB hk _ => (h.block k (aN_ hk) fun hm => by have := hF k hm; omega).trans hk⟩
theorem dB_ {B : Nat} {W W' : World} (h : Ext [] W W') (hB : B ≤ W.heap.size) : Below B W W' := ⟨h.os, h.tape, h.output, h.size, fun k hk => h.block k (by omega) (by simp)⟩
/-! ### The greatest one, plain -/
theorem jG_ {β : Type} (xs : List β) : (bwdL xs).map (·.2) = xs.reverse := by
  unfold bwdL
  rw [List.map_reverse, List.map_map]
  congr 1
  have h : ((fun x : Int × β => x.2) ∘ fun x : β × Nat => ((x.2 : Int), x.1)) = Prod.fst := rfl
  rw [h, List.zipIdx_map_fst]
def goodP (om : List (Int × Ow)) (vs : List (List Pnt)) (above at_ : Int) (x : Pnt) : Bool := decide (above < x.seq) && decide (at_ ≤ (supF om vs x : Nat))
abbrev PtI := { p : Pnt // InR .i64 p.seq }
section
variable {om : List (Int × Ow)} {vs : List (List Pnt)} {above at_ : Int} {xs : List PtI} {pre : List (Int × PtI)} {y : Int × PtI}
theorem jK_ (h : ∀ y ∈ bwdL xs, goodP om vs above at_ y.2.1 = false) : bestF om vs (xs.map (·.1)) above at_ = none := by
  refine List.find?_eq_none.2 fun x hx => ?_
  rw [← List.map_reverse, ← jG_, List.map_map] at hx
  obtain ⟨z, hz, rfl⟩ := List.mem_map.1 hx
  have h2 : goodP om vs above at_ z.2.1 = false := h z hz
  unfold goodP at h2
  dsimp only [Function.comp]
  rw [h2]
  decide
theorem jJ_ (hp : pre ++ [y] <+: bwdL xs) (h : ∀ z ∈ pre, goodP om vs above at_ z.2.1 = false) (hy : goodP om vs above at_ y.2.1 = true) : bestF om vs (xs.map (·.1)) above at_ = some y.2.1 := by
  obtain ⟨r, hr⟩ := hp
  unfold bestF
  rw [← List.map_reverse, ← jG_, ← hr, List.map_append, List.map_append, List.map_append, List.map_append, List.append_assoc, List.find?_append]
  rw [List.find?_eq_none.2 (fun x hx => ?_)]
  · rw [Option.none_or, List.map_cons, List.map_nil, List.map_cons, List.map_nil, List.singleton_append, List.find?_cons]
    unfold goodP at hy
    rw [hy]
  · rw [List.map_map] at hx
    obtain ⟨z, hz, rfl⟩ := List.mem_map.1 hx
    have h2 : goodP om vs above at_ z.2.1 = false := h z hz
    unfold goodP at h2
    dsimp only [Function.comp]
    rw [h2]
    decide
end
theorem jM_ {xs : List Pnt} (h : ∀ x ∈ xs, InR .i64 x.seq) : ∃ ys : List PtI, (ys.map fun x : PtI => x.1) = xs := ⟨xs.attach.map fun x => ⟨x.1, h x.1 x.2⟩, by rw [List.map_map]; exact List.attach_map_subtype_val xs⟩
section
variable {G : List Nat} {w : World} {p : Pnt} {t : Bool} {b8 b9 D : Nat} {a : Act} {W : World}
theorem hH_ {R : Abs} (hs8 : a.tmps[8]? = some (.pointer (some ⟨b8, 0, none⟩))) (hs9 : a.tmps[9]? = some (.pointer (some ⟨b9, 0, none⟩))) (hsz : a.tmps.size = 31) (hx : Ext [] w W) (h8 : W.heap[b8]? = some (row 203 p.cells)) (h9 : W.heap[b9]? = some (row 4 [.bool t]))
    (hne : b8 ≠ b9) (hG : ∀ k ∈ G, k < w.heap.size) (h8G : w.heap.size ≤ b8) (h9G : w.heap.size ≤ b9) (hD : W.heap[D]? = some (.deferred (some []))) (hDw : w.heap.size ≤ D) (hR : Abs.tup [.agg p.abs, boo t] = R) :
    LeavesInM (RF none) 6 Tryz.prog Tryz.f204 a.tmps (Post G [] (fun _ : Unit => []) (fun _ => R) w) [{ target := .collected D, args := #[] }] .returning W := by
  refine ⟨by simp, .inl ⟨D, _, rfl, run_takeDeferred hD, ?_⟩⟩
  have hg := grownBy_putObj' W D (.deferred none)
  have hx2 : Ext [] w (W.putObj D (.deferred none)) := em_ hx hg fun r hr => by cases hr; exact hDw
  have n8 : b8 ≠ D := fun e => by subst e; rw [hD] at h8; cases h8
  have n9 : b9 ≠ D := fun e => by subst e; rw [hD] at h9; cases h9
  have k8 : (W.putObj D (.deferred none)).heap[b8]? = some (row 203 p.cells) := (hg.block b8 (aN_ h8) fun e => n8 (by cases e; rfl)).trans h8
  have k9 : (W.putObj D (.deferred none)).heap[b9]? = some (row 4 [.bool t]) := (hg.block b9 (aN_ h9) fun e => n9 (by cases e; rfl)).trans h9
  have hm : Mem (W.putObj D (.deferred none)) [b8, b9] G [.blk b8 203 p.abs, .blk b9 4 [boo t]] (W.putObj D (.deferred none)) := by
    refine ⟨Ext.refl _, fun k hk => .inl (by simpa [mids, It.mids] using hk), fun k hk hg => ?_, fun k hk => Nat.lt_of_lt_of_le (hG k hk) hx2.size, by simp [It.rids], by simp [mids, It.mids, hne], fun x hx => ?_⟩
    · have := hG k hg
      simp [mids, It.mids] at hk
      omega
    · simp only [List.mem_cons, List.not_mem_nil, or_false] at hx
      rcases hx with rfl | rfl
      · exact ⟨_, k8, by rw [Pnt.abs_cells]; exact ak_.2 rfl⟩
      · exact ⟨_, k9, _, _, rfl, rfl, rfl⟩
  have hs : St 31 ⟨W.putObj D (.deferred none), [b8, b9], G⟩ [.blk b8 203 p.abs, .blk b9 4 [boo t]] [(8, ptr b8), (9, ptr b9)] { a with defers := [] } (W.putObj D (.deferred none)) := by
    refine ⟨rfl, hsz, fun i x hx => ?_, hm⟩
    simp only [slot] at hx
    by_cases h1 : 8 = i
    · subst h1; simp at hx; subst hx; exact ⟨_, hs8, rfl⟩
    · rw [b5_ h1] at hx
      by_cases h2 : 9 = i
      · subst h2; simp at hx; subst hx; exact ⟨_, hs9, rfl⟩
      · rw [b5_ h2] at hx; cases hx
  obtain ⟨us, h1, h2⟩ := RV.results (rs := [.cell 8 203, .cell 9 4]) (vs := [.agg p.abs, boo t]) (fn := Tryz.f204) rfl (RV.cell rfl (RV.cellA tabOk rfl rfl (.inl List.mem_cons_self) (Pnt.size p)) (RV.cell rfl (RV.cell1 tabOk rfl (.inl (List.mem_cons_of_mem _ List.mem_cons_self)) rfl) RV.nil)) hs
  refine ⟨_, h2, ⟨(), _, rfl, by simp, Mem.nil hx2 fun k hk => Nat.lt_of_lt_of_le (hG k hk) hx2.size, ?_⟩⟩
  have hc : Carry (mids [.blk b8 203 p.abs, .blk b9 4 [boo t]] ++ G) (W.putObj D (.deferred none)) (mids ([] : Blks) ++ G) (W.putObj D (.deferred none)) := Carry.less fun k hk => List.mem_append_right _ (by simpa [mids] using hk)
  have h3 := iV_ (ae_ hc _ _ h1)
  rw [← hR]
  exact h3
end
def ptO (o : Option Pnt) : Pnt := o.getD Pnt.zero
section
variable {n me : Nat} {om : List (Int × Ow)} {vs : List (List Pnt)} {bp bm : Nat} {vv : Value} {who above at_ : Int}
abbrev ptR (n me : Nat) (om : List (Int × Ow)) (vs : List (List Pnt)) (bp bm : Nat) (vv : Value) : Blks := [.rd bp 157 [int (n : Nat), int (me : Nat), mapV bm, .v vv], .rdpc (ownPc 199 1 vv (vs.map fun l => [pntsA l])), .rdpc (tmPc bm intK intOk Ow.enc om)]
abbrev bsS (n me : Nat) (om : List (Int × Ow)) (vs : List (List Pnt)) (bp bm : Nat) (vv : Value) (xs : List Pnt) (above at_ : Int) (b4 b6 b7 b8 b9 b15 : Nat) : Blks :=
  .blk b15 199 [pntsA xs] :: .blk b9 4 [boo false] :: .blk b8 203 Pnt.zero.abs :: .blk b7 3 [int at_] :: .blk b6 2 [int above] :: .blk b4 101 [ptr bp] :: ptR n me om vs bp bm vv
abbrev bsL (b4 b6 b7 b8 b9 : Nat) : Slots := [(4, ptr b4), (6, ptr b6), (7, ptr b7), (8, ptr b8), (9, ptr b9)]
theorem f3_ {b4 b6 b7 b8 b9 : Nat} : ∀ t x, slot (bsL b4 b6 b7 b8 b9) t = some x → ∃ u, x = .v u := by
  intro t x ht
  simp only [slot] at ht
  repeat' (cases hb9 : Nat.beq _ t <;> rw [hb9] at ht <;> simp only [cond] at ht)
  all_goals first | (cases ht; exact ⟨_, rfl⟩) | cases ht
theorem eT_ {b4 b6 b7 b8 b9 b11 : Nat} : ∀ t x, slot ((11, ptr b11) :: bsL b4 b6 b7 b8 b9) t = some x → ∃ u, x = .v u := by
  intro t x ht
  simp only [slot] at ht
  repeat' (cases hb9 : Nat.beq _ t <;> rw [hb9] at ht <;> simp only [cond] at ht)
  all_goals first | (cases ht; exact ⟨_, rfl⟩) | cases ht
set_option maxHeartbeats 4000000 in
theorem pbest_s (hok : PtsOk n me om vs) : Spec Tryz.prog 204 [ptr bp, int who, int above, int at_] (ptR n me om vs bp bm vv) (fun _ : Unit => []) (fun _ => .tup [.agg (ptO (bestF om vs (votesI n me om vs who) above at_)).abs, boo (bestF om vs (votesI n me om vs who) above at_).isSome]) := fun G w vals hm hv => by
  obtain ⟨xs, hxs⟩ : ∃ xs, votesI n me om vs who = xs := ⟨_, rfl⟩
  have hxi := ix_ hok who
  rw [hxs] at hxi ⊢
  obtain ⟨ys, rfl⟩ := jM_ hxi.1
  have hyl : ys.length ≤ 100000 := by have := hxi.2; rwa [List.length_map] at this
  have hlen := V_ hv
  refine (callsIn_wide (n := 6)).1 (callsIn_of_wp_marks (F := RF none) (R := Post G [] (fun _ : Unit => []) (fun _ => .tup [.agg (ptO (bestF om vs (ys.map fun x : PtI => x.1) above at_)).abs, boo (bestF om vs (ys.map fun x : PtI => x.1) above at_).isSome]) w) Tryz.func204 rfl trivial ?_ rfl)
  refine (show RC Tryz.prog none 6 _ (St 31 ⟨w, [], G⟩ (ptR n me om vs bp bm vv) (args0 [ptr bp, int who, int above, int at_] 0)) _ from ?_) _ w ⟨rfl, ?_, fun t x hx => ?_, hm⟩
  rotate_left
  · simp only [List.length_cons, List.length_nil] at hlen
    simp [Tryz.ntmps204, hlen]
  · have h1 := (ck_ [ptr bp, int who, int above, int at_] 0 t x hx).2
    rw [Nat.sub_zero] at h1
    obtain ⟨u, h2, h3⟩ := a9_ hv h1
    refine ⟨u, ?_, h3⟩
    have hlt : t < vals.length := (List.getElem?_eq_some_iff.1 h2).1
    simp [Array.getElem?_append, hlt]
    exact (List.getElem?_eq_some_iff.1 h2).2
  refine RC.seq (RC.region rfl ?_)
  refine aT_ (a3_ rfl rfl) rfl rfl ?_
  rintro _ _ ⟨b4, rfl, rfl⟩
  refine aT_ (a3_ rfl rfl) rfl rfl ?_
  rintro _ _ ⟨b6, rfl, rfl⟩
  refine aT_ (a3_ rfl rfl) rfl rfl ?_
  rintro _ _ ⟨b7, rfl, rfl⟩
  refine aT_ (F_ tabOk rfl) rfl rfl ?_
  rintro _ _ ⟨b8, rfl, rfl⟩
  refine aT_ (F_ tabOk rfl) rfl rfl ?_
  rintro _ _ ⟨b9, rfl, rfl⟩
  refine g_ (RE.norm (RE.seq ?_))
  refine RC.seq (RC.seq (RC.region rfl ?_))
  refine d_ (i_ (C := ptr bp) (h_ tabOk rfl rfl l4_ List.not_mem_nil (by rfl)) rfl) rfl rfl ?_
  refine d_ (r_ rfl) rfl rfl ?_
  refine m_ (pvotes_s (bm := bm) (vv := vv) hok) Casts.refl (by kernel_rfl) rfl rfl rfl ?_
  refine Y_ (by repeat (first | exact Reads.nil | (refine Reads.blk ?_ ?_; focus ((repeat first|assumption|exact m0_|apply m1_); done)) | (refine Reads.rd ?_ ?_; focus ((repeat first|assumption|exact m0_|apply m1_); done)) | (refine Reads.pc ?_ ?_; focus ((repeat first|assumption|exact m0_|apply m1_); done)) | (refine Reads.rdpc ?_ ?_; focus ((repeat first|assumption|exact m0_|apply m1_); done)))) (fun _ => rfl) ?_
  intro r14
  rw [hxs]
  refine ge_ [] (t := 14) rfl rfl ?_
  refine m_ (id_ (l := ys.map fun x : PtI => x.1)) Casts.refl (by kernel_rfl) rfl rfl rfl ?_
  refine Y_ (by repeat (first | exact Reads.nil | (refine Reads.blk ?_ ?_; focus ((repeat first|assumption|exact m0_|apply m1_); done)) | (refine Reads.rd ?_ ?_; focus ((repeat first|assumption|exact m0_|apply m1_); done)) | (refine Reads.pc ?_ ?_; focus ((repeat first|assumption|exact m0_|apply m1_); done)) | (refine Reads.rdpc ?_ ?_; focus ((repeat first|assumption|exact m0_|apply m1_); done)))) (fun _ => rfl) ?_
  intro b15
  refine g_ (RE.norm (RE.seq ?_))
  refine RC.block ?_
  intro a1 w1 hs0
  have hs1 : St 31 ⟨w, [], G⟩ (bsS n me om vs bp bm vv (ys.map fun x : PtI => x.1) above at_ b4 b6 b7 b8 b9 b15) ((15, .fn (.func 335) [] [ptr b15]) :: bsL b4 b6 b7 b8 b9) a1 w1 := hs0.sub ⟨rfl, rfl, rfl, rfl, rfl, rfl, trivial⟩
  clear hs0
  obtain ⟨σ, hσ⟩ : ∃ σ, bsS n me om vs bp bm vv (ys.map fun x : PtI => x.1) above at_ b4 b6 b7 b8 b9 b15 = σ := ⟨_, rfl⟩
  have hmids : mids σ = [b15, b9, b8, b7, b6, b4] := by rw [← hσ]; rfl
  rw [hσ] at hs1
  have hx1 : Ext [] w w1 := hs1.mem.ext
  have hlt : ∀ k ∈ mids σ, k < w1.heap.size := fun k hk => hs1.mem.lt k (List.mem_append_left _ hk)
  have hnw : ∀ k ∈ mids σ, w.heap.size ≤ k := fun k hk => (hs1.mem.out k hk).resolve_left (by simp)
  have h8 : b8 < w1.heap.size := hlt _ (by rw [hmids]; simp)
  have h9 : b9 < w1.heap.size := hlt _ (by rw [hmids]; simp)
  have h8w : w.heap.size ≤ b8 := hnw _ (by rw [hmids]; simp)
  have h9w : w.heap.size ≤ b9 := hnw _ (by rw [hmids]; simp)
  have hne : b8 ≠ b9 := by
    have hnd := hs1.mem.nodup
    rw [hmids] at hnd
    simp only [List.nodup_cons, List.mem_cons, not_or] at hnd
    exact fun e => hnd.2.1.1 e.symm
  have hg15 : a1.eval (.tmp 15) = .func (.func 335) #[] #[.pointer (some ⟨b15, 0, none⟩)] := by
    obtain ⟨us, vs', h1, h2, u, us', h3, h4, h5⟩ := hs1.eval (x := .tmp 15) rfl
    have h2 : us = [] := h2
    have h5 : us' = [] := h5
    have h4 : u = _ := h4
    subst h2 h5 h4 h3
    exact h1
  have hrd : Mem w1 [] (mids σ ++ G) [.rd b15 199 [pntsA (ys.map fun x : PtI => x.1)]] w1 := (hs1.mem.focus (Split.rds (ys := [.blk b15 199 [pntsA (ys.map fun x : PtI => x.1)]]) (fun y hy => by rw [List.mem_singleton.1 hy, ← hσ]; exact List.mem_cons_self))).1
  have hsA := hs1.sub (r := bsL b4 b6 b7 b8 b9) ⟨rfl, rfl, rfl, rfl, rfl, trivial⟩
  have e8 : a1.tmps[8]? = some (.pointer (some ⟨b8, 0, none⟩)) := by obtain ⟨u, h1, h2⟩ := hsA.slots 8 _ rfl; rw [show u = _ from h2] at h1; exact h1
  have e9 : a1.tmps[9]? = some (.pointer (some ⟨b9, 0, none⟩)) := by obtain ⟨u, h1, h2⟩ := hsA.slots 9 _ rfl; rw [show u = _ from h2] at h1; exact h1
  refine wpIn_rangeFunc_ownH (F := RF none) (n := 6) rfl (by omega) (gf := 335) (lb := #[.pointer (some ⟨b15, 0, none⟩)]) hg15 trivial (enters_of Tryz.func335 (by kernel_rfl) rfl)
    (jF_ (fun x : PtI => x.1) hrd hyl) belowK_t (belowK_b (Nat.le_refl _)) (Below.refl _ _) (fun _ => rfl)
    (fun pre W => Ext [] w1 W ∧ ∀ y ∈ pre, goodP om vs above at_ y.2.1 = false)
    (fun c pre W => c = .ret ∧ Ext [b8, b9] w1 W ∧ ∃ init y, pre = init ++ [y] ∧ (∀ z ∈ init, goodP om vs above at_ z.2.1 = false) ∧ goodP om vs above at_ y.2.1 = true ∧ W.heap[b8]? = some (row 203 y.2.1.cells) ∧ W.heap[b9]? = some (row 4 [.bool true]))
    (fun s A B r hs hg hr => ⟨em_ hs.1 hg fun q hq => (hr q hq).1, hs.2⟩)
    (fun c s A B r hs hg hr => by
      obtain ⟨h1, h2, init, y, h3, h4, h5, h6, h7⟩ := hs
      have hk : ∀ b, b < w1.heap.size → B.heap[b]? = A.heap[b]? := fun b hb => hg.block b (Nat.lt_of_lt_of_le hb h2.size) fun e => by have := (hr b e.symm).1; omega
      exact ⟨h1, em_ h2 hg fun q hq => (hr q hq).1, init, y, h3, h4, h5, (hk b8 h8).trans h6, (hk b9 h9).trans h7⟩)
    ⟨Ext.refl _, by simp⟩
    (fun x a' W => ∃ b11, w1.heap.size ≤ b11 ∧ W.heap[b11]? = some (row 203 x.2.1.cells) ∧ a'.defers = [] ∧ a'.tmps.size = 31 ∧ ∀ t y, slot ((11, ptr b11) :: bsL b4 b6 b7 b8 b9) t = some y → ∃ u, a'.tmps[t]? = some u ∧ y = .v u)
    (fun x a' s A B r hs hg hr => by
      obtain ⟨b11, h1, h2, h3⟩ := hs
      refine ⟨b11, h1, (hg.block b11 (aN_ h2) fun e => ?_).trans h2, h3⟩
      obtain ⟨_, o, h4, h5⟩ := hr b11 e.symm
      rw [h2] at h4
      cases h4
      cases h5)
    ?assign ?body ?done ?stop
  case assign =>
    intro l pre x W K hI hK
    obtain ⟨hxW, hbad⟩ := hI
    have hmW := hs1.mem.same hxW
    have hf := hmW.1.focus (Split.rds (ys := σ) (fun _ h => h))
    have hs2 : St 31 ⟨W, mids (σ.map It.toRd), mids σ ++ G⟩ (σ.map It.toRd) (bsL b4 b6 b7 b8 b9) a1 W := St.world (W' := ⟨W, mids (σ.map It.toRd), mids σ ++ G⟩) hsA ⟨rfl, rfl, rfl, rfl, rfl, trivial⟩ f3_ hf.1
    have hs3 := (hs2.put (d := some 16) (y := int x.1) (v := .int .i64 x.1) rfl rfl).put (d := some 17) (y := .agg x.2.1.abs) (v := .agg x.2.1.cells.toArray) rfl ⟨_, rfl, by rw [Pnt.abs_cells]; exact ak_.2 rfl⟩
    have hact : ({ tmps := ((#[16, 17] : Array Tmp).zip (encP (fun x : PtI => x.1) x)).foldl (fun t (p, v) => t.setIfInBounds p v) a1.tmps, defers := [] } : Act) = (a1.put (some 16) (.int .i64 x.1)).put (some 17) (.agg x.2.1.cells.toArray) := by
      have hd := hs1.defers
      obtain ⟨t, d⟩ := a1
      subst hd
      simp [encP, Act.put]
    rw [hact]
    refine (show RC Tryz.prog (some l) 4 _ (St 31 ⟨W, mids (σ.map It.toRd), mids σ ++ G⟩ (σ.map It.toRd) _) _ from ?_) _ _ hs3
    refine RC.region rfl ?_
    refine aT_ (F_ tabOk rfl) rfl rfl ?_
    rintro _ _ ⟨b11, rfl, rfl⟩
    refine aT_ (p_ (L' := x.2.1.abs) tabOk rfl rfl rfl u0_ (Pnt.size _) (lb_ (by rfl)) (Pnt.ones _) (by exact x_ (Pnt.size _))) rfl rfl ?_
    rintro _ _ ⟨rfl, rfl⟩
    refine g_ (RE.norm ?_)
    intro a2 w2 hs4
    have hm0 : mids (σ.map It.toRd) = [] := by simp [mids, List.flatMap_map, cO_]
    have hx2 : Ext [] W w2 := by have h := hs4.mem.ext; rw [show (Wd.mk W (mids (σ.map It.toRd)) (mids σ ++ G)).F = [] from hm0] at h; exact h
    have hs5 := hs4.sub (r := (11, ptr b11) :: bsL b4 b6 b7 b8 b9) ⟨rfl, rfl, rfl, rfl, rfl, rfl, trivial⟩
    obtain ⟨us, h5, h6⟩ := hs4.mem.hold _ List.mem_cons_self
    rw [Pnt.abs_cells] at h6
    have h6 := ak_.1 h6
    subst h6
    have h7 := hs4.mem.out b11 (by simp [ad_, It.mids])
    rw [show (Wd.mk W (mids (σ.map It.toRd)) (mids σ ++ G)).F = [] from hm0] at h7
    have h7 : W.heap.size ≤ b11 := h7.resolve_left (by simp)
    refine hK a2 w2 (el_ hx2 (by simp)) (dB_ hx2 hxW.size) ⟨hxW.trans hx2 (by simp), hbad⟩ ⟨b11, Nat.le_trans hxW.size h7, h5, hs4.defers, hs4.size, fun t y hy => ?_⟩
    obtain ⟨u, h8', h9'⟩ := hs5.slots t y hy
    obtain ⟨v, rfl⟩ := eT_ t y hy
    exact ⟨u, h8', by rw [show u = v from h9']⟩
  case body =>
    intro l pre x a' W hl hrec hI hAx hpn
    obtain ⟨hxW, hbad⟩ := hI
    obtain ⟨b11, hb11, hh11, hd', hsz', hsl'⟩ := hAx
    have hxr := x.2.2
    have hmn := (hs1.mem.new (y := .blk b11 203 x.2.1.abs) hxW (by simp [It.mids]) (by simp [It.mids]; omega) rfl (fun hc => ⟨_, hh11, by rw [Pnt.abs_cells]; exact ak_.2 rfl⟩)).1
    have hf := hmn.focus (Split.rds (ys := .blk b11 203 x.2.1.abs :: σ) (fun _ h => h))
    obtain ⟨σB, hσB⟩ : ∃ σB, (It.blk b11 203 x.2.1.abs :: σ).map It.toRd = σB := ⟨_, rfl⟩
    have hm0 : mids σB = [] := by rw [← hσB]; simp [mids, List.flatMap_map, cO_]
    obtain ⟨GB, hGB⟩ : ∃ GB, mids (It.blk b11 203 x.2.1.abs :: σ) ++ G = GB := ⟨_, rfl⟩
    have hfm : Mem W [] GB σB W := by have h := hf.1; rw [hσB, hm0, hGB] at h; exact h
    have hsB : St 31 ⟨W, [], GB⟩ σB ((11, ptr b11) :: bsL b4 b6 b7 b8 b9) a' W := ⟨hd', hsz', fun t y hy => by obtain ⟨u, h1, rfl⟩ := hsl' t y hy; exact ⟨u, h1, rfl⟩, hfm⟩
    clear hf hfm hm0
    rw [← hσ] at hσB
    simp only [List.map_cons, It.toRd, List.map_nil] at hσB
    subst hσB
    refine (show RC Tryz.prog (some l) 4 _ (St 31 ⟨W, [], GB⟩ _ _) _ from ?_) _ _ hsB
    refine RC.block (RC.seq (RC.draw [] (.q 0 (.q 1 (.q 2 (.q 3 (.q 4 (.q 5 (.q 6 (.q 8 (.e 7 (.q 9 (.q 10 .nil))))))))))) (by kernel_rfl) (by kernel_rfl) (by kernel_rfl) ?_))
    refine j_ rfl (G_ tabOk rfl rfl rfl rfl rfl) (by simp) rfl rfl ?_
    refine j_ rfl (i_ (C := int x.2.1.seq) (h_ tabOk rfl rfl r0_ List.not_mem_nil (by rfl)) rfl) (by simp) rfl rfl ?_
    refine j_ rfl (i_ (C := int above) (h_ tabOk rfl rfl r5_ List.not_mem_nil (by rfl)) rfl) (by simp) rfl rfl ?_
    refine j_ rfl (a1_ rfl rfl) (by simp) rfl rfl ?_
    refine j_ rfl (r_ rfl) (by simp) rfl rfl ?_
    have hno : goodP om vs above at_ x.2.1 = false → ∀ a2 w2, Ext [] W w2 → ownPostG w1.heap.size (Below w1.heap.size) (fun pre W => Ext [] w1 W ∧ ∀ y ∈ pre, goodP om vs above at_ y.2.1 = false) (fun c pre W => c = .ret ∧ Ext [b8, b9] w1 W ∧ ∃ init y, pre = init ++ [y] ∧ (∀ z ∈ init, goodP om vs above at_ z.2.1 = false) ∧ goodP om vs above at_ y.2.1 = true ∧ W.heap[b8]? = some (row 203 y.2.1.cells) ∧ W.heap[b9]? = some (row 4 [.bool true])) (pre ++ [x]) W .normal a2 w2 := fun hb a2 w2 hx2 =>
      ⟨el_ hx2 (by simp), dB_ hx2 hxW.size, hxW.trans hx2 (by simp), fun y hy => by
        rcases List.mem_append.1 hy with hy | hy
        · exact hbad y hy
        · rw [List.mem_singleton.1 hy]; exact hb⟩
    refine bd_ (t := 22) rfl ?_ ?_
    rotate_left
    · intro hc22
      iterate 3 refine dw_ rfl rfl rfl ?_
      refine bc_ rfl rfl rfl ?_
      refine dw_ rfl rfl rfl ?_
      refine j_ rfl (aj_ rfl rfl) (by simp) rfl rfl ?_
      refine C_ (RE.norm (RE.seq ?_))
      refine RC.cond rfl (fun h => by cases h) (fun _ => RC.skip ?_)
      intro a2 w2 hs6
      exact hno (by unfold goodP; simp only [decide_eq_false (show ¬ above < x.2.1.seq from hc22), Bool.false_and]) a2 w2 hs6.mem.ext
    intro hc22
    refine j_ rfl (i_ (C := ptr bp) (h_ tabOk rfl rfl r6_ List.not_mem_nil (by rfl)) rfl) (by simp) rfl rfl ?_
    refine j_ rfl (i_ (C := .agg x.2.1.abs) (y_ tabOk rfl rfl rfl r0_ List.not_mem_nil (Pnt.size _)) rfl) (by simp) rfl rfl ?_
    refine j_ rfl (i_ (C := int at_) (h_ tabOk rfl rfl r4_ List.not_mem_nil (by rfl)) rfl) (by simp) rfl rfl ?_
    refine H_ rfl (psup_s (x := x.2.1) (bm := bm) (vv := vv) hok hxr) (by simp [mids, It.mids]) Casts.refl (by kernel_rfl) rfl rfl rfl ?_
    refine ap_ ?_
    intro _
    refine j_ rfl (du_ rfl rfl) (by simp) rfl rfl ?_
    refine j_ rfl (U_ rfl rfl) (by simp) rfl rfl ?_
    refine C_ (RE.norm (RE.seq ?_))
    refine RC.cond rfl (fun h => ?_) (fun h => RC.skip ?_)
    · have hgd : goodP om vs above at_ x.2.1 = true := by unfold goodP; rw [decide_eq_true (show above < x.2.1.seq from hc22), Bool.true_and]; exact h
      intro a2 w2 hs6
      have hx2 : Ext [] W w2 := hs6.mem.ext
      have hs7 := hs6.sub (r := (11, ptr b11) :: bsL b4 b6 b7 b8 b9) ⟨rfl, rfl, rfl, rfl, rfl, rfl, trivial⟩
      have hm8 := (hmn.same hx2).1
      have hsp : Split (It.blk b11 203 x.2.1.abs :: σ) [.blk b9 4 [boo false], .blk b8 203 Pnt.zero.abs, .rd b11 203 x.2.1.abs] (It.blk b11 203 x.2.1.abs :: .blk b15 199 [pntsA (ys.map fun x : PtI => x.1)] :: σ.drop 3) := by
        subst hσ
        refine ⟨?_, fun y hy => ?_, fun y hy => ?_⟩
        · show ([b9, b8] ++ ([b11, b15] ++ [b7, b6, b4])).Perm ([b11, b15] ++ ([b9, b8] ++ [b7, b6, b4]))
          exact List.perm_append_comm_assoc _ _ _
        · simp only [List.mem_cons, List.not_mem_nil, or_false] at hy
          rcases hy with rfl | rfl | rfl
          · exact .inl ⟨by simp, rfl⟩
          · exact .inl ⟨by simp, rfl⟩
          · exact .inr ⟨.blk b11 203 x.2.1.abs, List.mem_cons_self, rfl⟩
        · rcases List.mem_cons.1 hy with rfl | hy
          · exact List.mem_cons_self
          · rcases List.mem_cons.1 hy with rfl | hy
            · exact List.mem_cons_of_mem _ List.mem_cons_self
            · exact List.mem_cons_of_mem _ (List.mem_of_mem_drop hy)
      have hf := (hm8.focus hsp).1
      have hs8 := St.world (W' := ⟨w2, _, _⟩) (l' := (11, ptr b11) :: bsL b4 b6 b7 b8 b9) hs7 ⟨rfl, rfl, rfl, rfl, rfl, rfl, trivial⟩ eT_ hf
      refine (show RC Tryz.prog (some l) 4 _ (St 31 _ _ _) _ from ?_) _ _ hs8
      refine RC.seq (RC.region rfl ?_)
      refine d_ (i_ (C := .agg x.2.1.abs) (y_ tabOk rfl rfl rfl r2_ List.not_mem_nil (Pnt.size _)) rfl) rfl rfl ?_
      refine aT_ (p_ (L' := x.2.1.abs) tabOk rfl rfl rfl u1_ (Pnt.size _) (lb_ (by rfl)) (Pnt.ones _) (by exact x_ (Pnt.size _))) rfl rfl ?_
      rintro _ _ ⟨rfl, rfl⟩
      refine aT_ (p_ (L' := [boo true]) tabOk rfl rfl rfl u0_ rfl (lb_ (by rfl)) rfl (by rfl)) rfl rfl ?_
      rintro _ _ ⟨rfl, rfl⟩
      refine g_ (RE.norm (RE.seq (RC.ret ?_)))
      intro a3 w3 hs9
      have hx3 : Ext [b9, b8] w2 w3 := hs9.mem.ext
      have hx2' : Ext [b8, b9] W w2 := hx2.mono (G := [b8, b9]) (by simp)
      have hx3' : Ext [b8, b9] w2 w3 := hx3.mono (G := [b8, b9]) (fun k hk => .inl (by simp at hk ⊢; rcases hk with rfl | rfl <;> simp))
      have hx4 : Ext [b8, b9] W w3 := hx2'.trans hx3' (fun k hk => .inl hk)
      have hxW' : Ext [b8, b9] w1 W := hxW.mono (G := [b8, b9]) (by simp)
      obtain ⟨us8, k8, k8'⟩ := hs9.mem.hold (.blk b8 203 x.2.1.abs) (by simp)
      obtain ⟨us9, k9, k9'⟩ := hs9.mem.hold (.blk b9 4 [boo true]) (by simp)
      rw [Pnt.abs_cells] at k8'
      have k8' := ak_.1 k8'
      obtain ⟨u9, us9', k10, k11, k12⟩ := k9'
      have k11 : u9 = _ := k11
      have k12 : us9' = [] := k12
      subst k8' k10 k11 k12
      exact ⟨el_ hx4 (by simp; omega), rfl, hxW'.trans hx4 (fun k hk => .inl hk), pre, x, rfl, hbad, hgd, k8, k9⟩
    · intro a2 w2 hs6
      exact hno (by unfold goodP; rw [decide_eq_true (show above < x.2.1.seq from hc22), Bool.true_and]; exact h) a2 w2 hs6.mem.ext
  case done =>
    intro D xs W hD hS hI hK
    obtain ⟨hxW, hbad⟩ := hI
    subst hS
    have hmW := (hs1.mem.same hxW).1
    have hsp : Split σ [.blk b9 4 [boo false], .blk b8 203 Pnt.zero.abs] (.blk b15 199 [pntsA (ys.map fun x : PtI => x.1)] :: σ.drop 3) := by
      subst hσ
      refine ⟨?_, fun y hy => ?_, fun y hy => ?_⟩
      · show ([b9, b8] ++ ([b15] ++ [b7, b6, b4])).Perm ([b15] ++ ([b9, b8] ++ [b7, b6, b4]))
        exact List.perm_append_comm_assoc _ _ _
      · simp only [List.mem_cons, List.not_mem_nil, or_false] at hy
        rcases hy with rfl | rfl
        · exact .inl ⟨by simp, rfl⟩
        · exact .inl ⟨by simp, rfl⟩
      · rcases List.mem_cons.1 hy with rfl | hy
        · exact List.mem_cons_self
        · exact List.mem_of_mem_drop hy
    have hf := (hmW.focus hsp).1
    have hs2 := St.world (W' := ⟨W, _, _⟩) (l' := bsL b4 b6 b7 b8 b9) hsA ⟨rfl, rfl, rfl, rfl, rfl, trivial⟩ f3_ hf
    rw [hs1.defers]
    have hd0 : ({ a1 with defers := [{ target := .collected D, args := #[] }] } : Act) = { a1 with defers := [{ target := .collected D, args := #[] }] } := rfl
    refine wpIn_seq (Code.wpIn_mono (fun _ _ _ h => ed_ h) (wpIn_region_lit (fd_ dn_ rfl ((show SL Tryz.prog _ _ (StD 31 ⟨W, _, _⟩ _ _ [{ target := .collected D, args := #[] }]) (NormOf _) from ?_) _ _ ⟨a1, rfl, hs2⟩))))
    refine SL.valD (i_ (C := .agg Pnt.zero.abs) (u_ (ps := []) tabOk rfl rfl rfl rfl) rfl) rfl rfl ?_
    refine j0_ (p_ (L' := Pnt.zero.abs) tabOk rfl rfl rfl u1_ (Pnt.size _) (lb_ (by rfl)) (Pnt.ones _) (by exact x_ (Pnt.size _))) rfl rfl ?_
    rintro _ _ ⟨rfl, rfl⟩
    refine j0_ (p_ (L' := [boo false]) tabOk rfl rfl rfl u0_ rfl (lb_ (by rfl)) rfl (by rfl)) rfl rfl ?_
    rintro _ _ ⟨rfl, rfl⟩
    refine g_ ?_
    rintro _ w3 ⟨a3, rfl, hs3⟩
    refine wpIn_ret ?_
    have hx3 : Ext [b9, b8] W w3 := hs3.mem.ext
    obtain ⟨us8, k8, k8'⟩ := hs3.mem.hold (.blk b8 203 Pnt.zero.abs) (by simp)
    obtain ⟨us9, k9, k9'⟩ := hs3.mem.hold (.blk b9 4 [boo false]) (by simp)
    rw [Pnt.abs_cells] at k8'
    have k8' := ak_.1 k8'
    obtain ⟨u9, us9', k10, k11, k12⟩ := k9'
    have k11 : u9 = _ := k11
    have k12 : us9' = [] := k12
    subst k8' k10 k11 k12
    have hs4 := hs3.sub (r := bsL b4 b6 b7 b8 b9) ⟨rfl, rfl, rfl, rfl, rfl, trivial⟩
    have f8 : a3.tmps[8]? = some (.pointer (some ⟨b8, 0, none⟩)) := by obtain ⟨u, h1, h2⟩ := hs4.slots 8 _ rfl; rw [show u = _ from h2] at h1; exact h1
    have f9 : a3.tmps[9]? = some (.pointer (some ⟨b9, 0, none⟩)) := by obtain ⟨u, h1, h2⟩ := hs4.slots 9 _ rfl; rw [show u = _ from h2] at h1; exact h1
    have hxa : Ext [] w w3 := (hx1.trans hxW (by simp)).trans hx3 (by intro k hk; simp at hk; rcases hk with rfl | rfl <;> first | exact .inr h9w | exact .inr h8w)
    exact hH_ f8 f9 hs3.size hxa k8 k9 hne (fun k hk => Nat.lt_of_lt_of_le (hm.old k hk) (Nat.le_refl _)) h8w h9w ((hx3.block D (aN_ hK) (by simp; omega)).trans hK) (Nat.le_trans hx1.size hD) (by rw [jK_ hbad]; rfl)
  case stop =>
    intro D c pre W hD hSp hI hK
    obtain ⟨rfl, hxW, init, y, rfl, hbad, hgd, k8, k9⟩ := hI
    rw [hs1.defers]
    refine wpIn_ret ?_
    have hxa : Ext [] w W := hx1.trans hxW (by intro k hk; simp at hk; rcases hk with rfl | rfl <;> first | exact .inr h9w | exact .inr h8w)
    exact hH_ (a := a1) e8 e9 hs1.size hxa k8 k9 hne (fun k hk => hm.old k hk) h8w h9w hK (Nat.le_trans hx1.size hD) (by rw [jJ_ hSp hbad hgd]; rfl)
end
section
variable {n : Int}
theorem hw_ (hn : n ≤ 1000) : Spec Tryz.prog 144 [int n] [] (fun _ : Unit => []) (fun _ => int ((max n 1 - 1) / 3)) := by
 refine t_ Tryz.func144 rfl Tryz.ntmps144 rfl fun G w =>c_<|a_<|q_ 1 rfl<|g_<|b_<|c_<|a_<|q_ 1 rfl<|d_ (ct_ rfl rfl) rfl rfl<|d_ (b0_ rfl rfl (by simp only [InR, lo, hi]; omega)) rfl rfl ?_
 refine d_ (hM_ rfl rfl (by omega) (by simp only [InR, lo, hi]; omega)) rfl rfl ?_
 exact q_ 1 rfl<|g_<|b_<|o_<|f_ (rs := [.tmp 2]) rfl (RV.tmp rfl RV.nil) (()) sn_<|rfl
theorem he_ (hn : n ≤ 1000) : Spec Tryz.prog 236 [int n] [] (fun _ : Unit => []) (fun _ => int (2 * ((max n 1 - 1) / 3) + 1)) := by
 refine t_ Tryz.func236 rfl Tryz.ntmps236 rfl fun G w =>c_<|a_<|q_ 1 rfl<|g_<|b_<|c_<|a_<|q_ 1 rfl<|m_ (hw_ hn) Casts.refl (by kernel_rfl) rfl rfl rfl ?_
 refine ap_<|fun _=>d_ (c8_ rfl rfl (by simp only [InR, lo, hi]; omega)) rfl rfl ?_
 refine d_ (E_ rfl rfl (by simp only [InR, lo, hi]; omega)) rfl rfl ?_
 exact q_ 1 rfl<|g_<|b_<|o_<|f_ (rs := [.tmp 2]) rfl (RV.tmp rfl RV.nil) (()) sn_<|rfl
end
section
variable {n me : Nat} {om : List (Int × Ow)} {vs : List (List Pnt)} {bp bm : Nat} {vv : Value} {x : Pnt} {who k low above : Int} {o : Ow} {l : List Pnt}
theorem iX_ (hok : PtsOk n me om vs) : Spec Tryz.prog 167 [ptr bp, int above] [.rd bp 157 [int (n : Nat), int (me : Nat), mapV bm, .v vv], .rdpc (ownPc 199 1 vv (vs.map fun l => [pntsA l])), .rdpc (tmPc bm intK intOk Ow.enc om)] (fun _ : Unit => []) (fun _ => .tup [.agg (ptO (bestF om vs (votesI n me om vs (me : Nat)) above (2 * ((max (n : Int) 1 - 1) / 3) + 1))).abs, boo (bestF om vs (votesI n me om vs (me : Nat)) above (2 * ((max (n : Int) 1 - 1) / 3) + 1)).isSome]) := by
 refine t_ Tryz.func167 rfl Tryz.ntmps167 rfl fun G w =>c_<|a_<|eb_ (F_ tabOk rfl) rfl rfl fun b4=>?_
 refine q_ 1 rfl<|g_<|b_<|c_<|c_<|a_<|q_ 1 rfl<|d_ (ax_ rfl rfl (by kernel_rfl)) rfl rfl ?_
 refine g_<|b_<|I_ rfl<|s_<|b_<|c_<|SC.drawS 14 [] (.q 0 (.q 1 (.q 2 (.q 3 (.q 4 (.q 5 (.q 6 (.q 7 (.q 8 (.q 9 (.e 10 (.e 11 (.q 12 (.q 13 .nil)))))))))))))) (.e 14 (.q 15 .nil)) (by kernel_rfl) (by kernel_rfl) ?_
 refine qs_ 4 rfl<|j_ rfl (h_ tabOk rfl rfl r1_ List.not_mem_nil rfl) (by simp) rfl rfl ?_
 refine qs_ 4 rfl<|j_ rfl (h_ tabOk rfl rfl r1_ List.not_mem_nil rfl) (by simp) rfl rfl ?_
 refine H_ rfl (he_ (n := (n : Int)) (by have := hok.n7; omega)) (by simp [mids, It.mids]) Casts.refl (by kernel_rfl) rfl rfl rfl ?_
 refine ap_<|fun _=>H_ rfl (pbest_s (bm := bm) (vv := vv) (who := (me : Int)) (above := above) (at_ := 2 * ((max (n : Int) 1 - 1) / 3) + 1) hok) (by simp [mids, It.mids]) Casts.refl (by kernel_rfl) rfl rfl rfl ?_
 refine ap_<|fun _=>qs_ 2 rfl<|C_<|SE.rest [b4]<|ex_ rfl (p_ (L' := (ptO (bestF om vs (votesI n me om vs (me : Nat)) above (2 * ((max (n : Int) 1 - 1) / 3) + 1))).abs) tabOk rfl rfl rfl u0_ (Pnt.size _) (Nat.le_of_ble_eq_true rfl) (Pnt.ones _) (by exact x_ (Pnt.size _))) (by simp) rfl rfl ?_
 exact hx_ fun hx9 =>qx_ 1 hx9 rfl<|C_<|b_<|o_<|f_ (rs := [.cell 4 203, .tmp 5]) rfl (RV.cell rfl (RV.cellA tabOk rfl rfl l0_ (Pnt.size _)) (RV.tmp rfl RV.nil)) (()) sn_<|rfl
end
section
variable {k1 k2 x p me : Nat} {l : List UInt8}
theorem risl_s  : Spec Tryz.prog 149 [.v (.slice none 0 0), .fn (.func k1) [] [], .fn (.func k2) [] []] [] (fun _ : Unit => []) (fun _ => boo true) := by
 refine t_ Tryz.func149 rfl Tryz.ntmps149 rfl fun G w =>c_<|a_<|q_ 1 rfl<|g_<|b_<|c_<|c_<|a_<|q_ 1 rfl<|d_ (af_ (m := 0) rfl Tryz.underlying174) rfl rfl<|q_ 1 rfl<|g_<|b_<|w_<|S_ (ι := Unit) (fun z => []) (fun z => [(10, int (0 : Nat)), (11, int 0)]) (fun z => True) (fun z => 0) (()) (trivial) (by exact ⟨rfl, rfl, trivial⟩) sn_ ?_
 intro z hz
 refine c_<|a_<|q_ 1 rfl<|g_<|b_<|c_<|n_ rfl (by intro hc12; exfalso; omega) ?_
 intro hc12
 exact O_<|k_ nofun<|k_ nofun<|N_<|b_<|c_<|a_<|q_ 1 rfl<|g_<|b_<|o_<|f_ (rs := [.tmp 6]) rfl (RV.tmp rfl RV.nil) (()) sn_<|rfl
theorem riso_s  : Spec Tryz.prog 151 [.v (.slice none 0 0), .fn (.func k1) [] [], .fn (.func k2) [] []] [] (fun _ : Unit => []) (fun _ => boo true) := by
 refine t_ Tryz.func151 rfl Tryz.ntmps151 rfl fun G w =>c_<|a_<|q_ 1 rfl<|g_<|b_<|c_<|c_<|a_<|q_ 1 rfl<|d_ (af_ (m := 0) rfl Tryz.underlying124) rfl rfl<|q_ 1 rfl<|g_<|b_<|w_<|S_ (ι := Unit) (fun z => []) (fun z => [(10, int (0 : Nat)), (11, int 0)]) (fun z => True) (fun z => 0) (()) (trivial) (by exact ⟨rfl, rfl, trivial⟩) sn_ ?_
 intro z hz
 refine c_<|a_<|q_ 1 rfl<|g_<|b_<|c_<|n_ rfl (by intro hc12; exfalso; omega) ?_
 intro hc12
 exact O_<|k_ nofun<|k_ nofun<|N_<|b_<|c_<|a_<|q_ 1 rfl<|g_<|b_<|o_<|f_ (rs := [.tmp 6]) rfl (RV.tmp rfl RV.nil) (()) sn_<|rfl
theorem lwith_s  : Spec Tryz.prog 147 [int 0, int 0, int 1048576] [] (fun _ : Unit => []) (fun _ => boo true) := by
 refine t_ Tryz.func147 rfl Tryz.ntmps147 rfl fun G w =>c_<|a_<|q_ 1 rfl<|g_<|b_<|c_<|a_<|q_ 4 rfl<|D_ (t := 10) rfl ?_ (by intro hc10; exfalso; omega)
 intro hc10
 exact q_ 5 rfl<|g_<|b_<|o_<|f_ (rs := [.tmp 6]) rfl (RV.tmp rfl RV.nil) (()) sn_<|congrArg (fun b => Abs.v (Value.bool b)) (by decide)
theorem mis_s  : Spec Tryz.prog 148 [int 0] [] (fun _ : Unit => []) (fun _ => boo true) := by
 refine t_ Tryz.func148 rfl Tryz.ntmps148 rfl fun G w =>c_<|a_<|q_ 1 rfl<|g_<|b_<|c_<|a_<|q_ 1 rfl<|d_ (aa_ rfl Tryz.underlying27 (by kernel_rfl) (by simp only [InR, lo, hi]; omega)) rfl rfl ?_
 exact q_ 2 rfl<|g_<|b_<|o_<|f_ (rs := [.tmp 2]) rfl (RV.tmp rfl RV.nil) (()) sn_<|congrArg (fun b => Abs.v (Value.bool b)) (by decide)
theorem lchk0_s  : Spec Tryz.prog 99 [.agg [int 0, int 0, .v (.slice none 0 0), .v (.slice none 0 0)]] [] (fun _ : Int => []) (fun e => int e) := by
 refine t_ Tryz.func99 rfl Tryz.ntmps99 rfl fun G w =>c_<|a_<|eb_ (z_ (cs := [int 0, int 0, .v (.slice none 0 0), .v (.slice none 0 0)]) rfl) rfl rfl fun b1=>?_
 refine q_ 1 rfl<|g_<|b_<|c_<|a_<|q_ 1 rfl<|g_<|b_<|c_<|a_<|q_ 1 rfl<|g_<|b_<|c_<|c_<|a_<|q_ 1 rfl<|d_ (i_ (C := int 0) (h_ tabOk rfl rfl l0_ List.not_mem_nil rfl) rfl) rfl rfl<|m_ (lwith_s) Casts.refl (by kernel_rfl) rfl rfl rfl ?_
 refine ap_<|fun _=>d_ (bb_ rfl) rfl rfl<|q_ 2 rfl<|d_ (i_ (C := int 0) (h_ tabOk rfl rfl l0_ List.not_mem_nil rfl) rfl) rfl rfl<|m_ (mis_s) Casts.refl (by kernel_rfl) rfl rfl rfl ?_
 refine ap_<|fun _=>d_ (bb_ rfl) rfl rfl<|q_ 3 rfl<|d_ (i_ (C := .v (.slice none 0 0)) (h_ tabOk rfl rfl l0_ List.not_mem_nil rfl) rfl) rfl rfl<|d_ (af_ (m := 0) rfl Tryz.underlying174) rfl rfl<|q_ 3 rfl<|D_ (t := 21) rfl (by intro hc21; exfalso; omega) ?_
 intro hc21
 refine q_ 1 rfl<|d_ (i_ (C := .v (.slice none 0 0)) (h_ tabOk rfl rfl l0_ List.not_mem_nil rfl) rfl) rfl rfl<|d_ (af_ (m := 0) rfl Tryz.underlying124) rfl rfl<|q_ 3 rfl<|D_ (t := 27) rfl (by intro hc27; exfalso; omega) ?_
 intro hc27
 refine q_ 1 rfl<|d_ (i_ (C := .v (.slice none 0 0)) (h_ tabOk rfl rfl l0_ List.not_mem_nil rfl) rfl) rfl rfl<|q_ 1 rfl<|m_ (risl_s) Casts.refl (by kernel_rfl) rfl rfl rfl ?_
 refine ap_<|fun _=>d_ (bb_ rfl) rfl rfl<|q_ 3 rfl<|d_ (i_ (C := .v (.slice none 0 0)) (h_ tabOk rfl rfl l0_ List.not_mem_nil rfl) rfl) rfl rfl<|q_ 1 rfl<|m_ (riso_s) Casts.refl (by kernel_rfl) rfl rfl rfl ?_
 exact ap_<|fun _=>d_ (bb_ rfl) rfl rfl<|q_ 1 rfl<|g_<|b_<|I_ rfl<|s_<|b_<|c_<|a_<|q_ 1 rfl<|g_<|b_<|o_<|f_ (rs := [.tmp 2]) rfl (RV.tmp rfl RV.nil) (0) sn_<|rfl
theorem lb1_s (hl : l.length ≤ 100) : Spec Tryz.prog 100 [byt l, int 0] [] (fun _ : Unit => []) (fun _ => byt (l ++ beBytes 0 (8 : Int).toNat)) := by
 refine t_ Tryz.func100 rfl Tryz.ntmps100 rfl fun G w =>c_<|a_<|q_ 1 rfl<|g_<|b_<|c_<|a_<|q_ 2 rfl<|d_ (aa_ rfl Tryz.underlying27 (by kernel_rfl) (by simp only [InR, lo, hi]; omega)) rfl rfl ?_
 refine m_ (hZ_ (l := l) (x := 0) (n := 8) (by unfold lots; omega) (by omega) rfl) Casts.refl (by kernel_rfl) rfl rfl rfl ?_
 exact ap_<|fun _=>q_ 1 rfl<|g_<|b_<|o_<|f_ (rs := [.tmp 4]) rfl (RV.tmp rfl RV.nil) (()) sn_<|rfl
theorem lby0_s  : Spec Tryz.prog 73 [.agg [int 0, int 0, .v (.slice none 0 0), .v (.slice none 0 0)]] [] (fun _ : {l : List UInt8 // l.length ≤ 50} => []) (fun l => byt l.1) := by
 refine t_ Tryz.func73 rfl Tryz.ntmps73 rfl fun G w =>c_<|a_<|eb_ (z_ (cs := [int 0, int 0, .v (.slice none 0 0), .v (.slice none 0 0)]) rfl) rfl rfl fun b1=>?_
 refine q_ 1 rfl<|g_<|b_<|c_<|c_<|a_<|d_ (i_ (C := .agg [int 0, int 0, .v (.slice none 0 0), .v (.slice none 0 0)]) (y_ tabOk rfl rfl rfl l0_ List.not_mem_nil rfl) rfl) rfl rfl<|m_ (lchk0_s) Casts.refl (by kernel_rfl) rfl rfl rfl ?_
 refine ap_<|fun z10=>q_ 1 rfl<|g_<|b_<|n_ rfl ?_ ?_
 ·intro hc11
  refine c_<|a_<|q_ 1 rfl<|g_<|b_<|o_<|k_ nofun<|fC_ (rs := [.tmp 2]) rfl (RV.tmp rfl RV.nil) (Casts.nils (s := 1) Casts.refl) (⟨[], by decide⟩) sn_ ?_
  exact rfl
 intro hc11
 refine s_<|b_<|c_<|a_<|q_ 1 rfl<|g_<|b_<|c_<|T_ [] (.q 0 (.q 1 (.q 2 (.q 3 (.q 5 (.q 6 (.q 8 (.q 9 (.q 10 (.q 11 (.e 4 (.e 7 (.e 12 (.q 13 .nil)))))))))))))) (by kernel_rfl) (by kernel_rfl) ?_
 refine qs_ 3 rfl<|hx_ fun hx9 =>j_ rfl (i_ (C := int 0) (h_ tabOk rfl rfl l0_ List.not_mem_nil rfl) rfl) hx9 rfl rfl<|qs_ 1 rfl<|j_ rfl (i_ (C := int 0) (h_ tabOk rfl rfl l0_ List.not_mem_nil rfl) rfl) hx9 rfl rfl<|qs_ 1 rfl<|j_ rfl (i_ (C := .v (.slice none 0 0)) (h_ tabOk rfl rfl l0_ List.not_mem_nil rfl) rfl) hx9 rfl rfl<|j_ rfl (af_ (m := 0) rfl Tryz.underlying174) hx9 rfl rfl<|j_ rfl (i_ (C := wrd 0) (aa_ rfl Tryz.underlying27 (by kernel_rfl) (by simp only [InR, lo, hi]; omega)) rfl) hx9 rfl rfl ?_
 refine fn_ rfl (lb1_s (l := []) (by simp)) (by simp [mids, It.mids]) rfl (Casts.cons (fun _ _ _ h => cD_ h) Casts.refl) (by kernel_rfl) rfl rfl rfl ?_
 refine ap_<|fun _=>fn_ rfl (lb1_s (l := [] ++ beBytes 0 (8 : Int).toNat) (by simp only [List.length_append, v_, List.length_nil]; decide)) (by simp [mids, It.mids]) rfl Casts.refl (by kernel_rfl) rfl rfl rfl ?_
 refine ap_<|fun _=>H_ rfl (hZ_ (l := [] ++ beBytes 0 (8 : Int).toNat ++ beBytes 0 (8 : Int).toNat) (x := 0) (n := 2) (by unfold lots; simp only [List.length_append, v_, List.length_nil]; decide) (by omega) rfl) (by simp [mids, It.mids]) Casts.refl (by kernel_rfl) rfl rfl rfl ?_
 refine ap_<|fun _=>qs_ 1 rfl<|C_<|b_<|c_<|c_<|a_<|q_ 1 rfl<|d_ (i_ (C := .v (.slice none 0 0)) (h_ tabOk rfl rfl l0_ List.not_mem_nil rfl) rfl) rfl rfl<|d_ (af_ (m := 0) rfl Tryz.underlying174) rfl rfl<|q_ 1 rfl<|g_<|b_<|w_<|S_ (ι := Unit) (fun z => [.blk b1 176 [int 0, int 0, .v (.slice none 0 0), .v (.slice none 0 0)]]) (fun z => [(1, ptr b1), (4, byt ([] ++ beBytes 0 (8 : Int).toNat ++ beBytes 0 (8 : Int).toNat ++ beBytes 0 (2 : Int).toNat)), (27, int (0 : Nat)), (28, int 0)]) (fun z => True) (fun z => 0) (()) (trivial) (by exact ⟨rfl, rfl, rfl, rfl, trivial⟩) sr_ ?_
 intro z hz
 refine c_<|a_<|q_ 1 rfl<|g_<|b_<|c_<|n_ rfl (by intro hc29; exfalso; omega) ?_
 intro hc29
 refine O_<|k_ nofun<|k_ nofun<|N_<|b_<|c_<|a_<|q_ 2 rfl<|d_ (i_ (C := .v (.slice none 0 0)) (h_ tabOk rfl rfl l0_ List.not_mem_nil rfl) rfl) rfl rfl<|d_ (af_ (m := 0) rfl Tryz.underlying124) rfl rfl<|d_ (i_ (C := wrd 0) (aa_ rfl Tryz.underlying27 (by kernel_rfl) (by simp only [InR, lo, hi]; omega)) rfl) rfl rfl ?_
 refine m_ (hZ_ (l := [] ++ beBytes 0 (8 : Int).toNat ++ beBytes 0 (8 : Int).toNat ++ beBytes 0 (2 : Int).toNat) (x := 0) (n := 2) (by unfold lots; simp only [List.length_append, v_, List.length_nil]; decide) (by omega) rfl) Casts.refl (by kernel_rfl) rfl rfl rfl ?_
 refine ap_<|fun _=>q_ 1 rfl<|g_<|b_<|c_<|c_<|a_<|q_ 1 rfl<|d_ (i_ (C := .v (.slice none 0 0)) (h_ tabOk rfl rfl l0_ List.not_mem_nil rfl) rfl) rfl rfl<|d_ (af_ (m := 0) rfl Tryz.underlying124) rfl rfl<|q_ 1 rfl<|g_<|b_<|w_<|S_ (ι := Unit) (fun z => [.blk b1 176 [int 0, int 0, .v (.slice none 0 0), .v (.slice none 0 0)]]) (fun z => [(1, ptr b1), (4, byt ([] ++ beBytes 0 (8 : Int).toNat ++ beBytes 0 (8 : Int).toNat ++ beBytes 0 (2 : Int).toNat ++ beBytes 0 (2 : Int).toNat)), (68, int (0 : Nat)), (69, int 0)]) (fun z => True) (fun z => 0) (()) (trivial) (by exact ⟨rfl, rfl, rfl, rfl, trivial⟩) sr_ ?_
 intro z hz
 refine c_<|a_<|q_ 1 rfl<|g_<|b_<|c_<|n_ rfl (by intro hc70; exfalso; omega) ?_
 intro hc70
 refine O_<|k_ nofun<|k_ nofun<|N_<|b_<|c_<|a_<|q_ 2 rfl<|g_<|b_<|o_<|f_ (rs := [.tmp 2]) rfl (RV.tmp rfl RV.nil) (⟨[] ++ beBytes 0 (8 : Int).toNat ++ beBytes 0 (8 : Int).toNat ++ beBytes 0 (2 : Int).toNat ++ beBytes 0 (2 : Int).toNat, (by simp only [List.length_append, v_, List.length_nil]; decide)⟩) sn_ ?_
 exact rfl
theorem xby0_s  : Spec Tryz.prog 47 [ptr x] [.rd x 179 [int 4, int 0, int 0, .v (.slice none 0 0), .v (.slice none 0 0), .v (.slice none 0 0)]] (fun _ : {l : List UInt8 // l.length ≤ 50} => []) (fun l => byt l.1) := by
 refine t_ Tryz.func47 rfl Tryz.ntmps47 rfl fun G w =>c_<|a_<|q_ 1 rfl<|g_<|b_<|c_<|c_<|a_<|q_ 1 rfl<|d_ (ax_ rfl rfl (by kernel_rfl)) rfl rfl ?_
 refine g_<|b_<|I_ rfl<|s_<|b_<|c_<|a_<|q_ 3 rfl<|d_ (i_ (C := .agg [int 0, int 0, .v (.slice none 0 0), .v (.slice none 0 0)]) (al_ tabOk rfl rfl rfl r0_ List.not_mem_nil (Nat.le_of_ble_eq_true rfl)) rfl) rfl rfl<|m_ (lby0_s) Casts.refl (by kernel_rfl) rfl rfl rfl ?_
 exact ap_<|fun z9=>q_ 1 rfl<|g_<|b_<|o_<|f_ (rs := [.tmp 2]) rfl (RV.tmp rfl RV.nil) (z9) sn_<|rfl
theorem lgnew_s  : Spec Tryz.prog 40 [int 4] [] (fun z : Nat × Nat => [.blk z.1 153 [int 4, int 0, mapV z.2], .pc (tmPc z.2 intK intOk pE [])]) (fun z => ptr z.1) := by
 refine t_ Tryz.func40 rfl Tryz.ntmps40 rfl fun G w =>c_<|a_<|q_ 1 rfl<|g_<|b_<|c_<|c_<|a_<|q_ 3 rfl<|D_ (t := 5) rfl (by intro hc5; exfalso; omega) ?_
 intro hc5
 refine q_ 3 rfl<|g_<|b_<|n_ rfl (by intro hc8; exfalso; omega) ?_
 intro hc8
 refine s_<|b_<|c_<|a_<|q_ 1 rfl<|eb_ (B_ intK intOk pE (fun ac w => by simp [execOp, Instr.makeMap, newObj, Sem.run, Sem.run_bind, Result.andThen])) rfl rfl fun m10=>?_
 refine d_ (i_ (C := .agg [int 4, int 0, mapV m10]) (u_ tabOk rfl rfl rfl rfl) rfl) rfl rfl<|eb_ (z_ (cs := [int 4, int 0, mapV m10]) rfl) rfl rfl fun b12=>?_
 exact q_ 1 rfl<|g_<|b_<|o_<|f_ (rs := [.tmp 2]) rfl (RV.tmp rfl RV.nil) ((b12, m10)) sr_<|rfl
theorem pfnew_s  : Spec Tryz.prog 43 [] [] (fun _ : Nat => []) (fun b => ptr b) := by
 refine t_ Tryz.func43 rfl Tryz.ntmps43 rfl fun G w =>c_<|a_<|q_ 1 rfl<|g_<|b_<|c_<|a_<|d_ (i_ (C := .agg [.v (.slice none 0 0), .v (.slice none 0 0)]) (u_ tabOk rfl rfl rfl rfl) rfl) rfl rfl<|eb_ (z_ (cs := [.v (.slice none 0 0), .v (.slice none 0 0)]) rfl) rfl rfl fun b2=>?_
 exact q_ 1 rfl<|g_<|b_<|o_<|f_ (rs := [.tmp 0]) rfl (RV.tmp rfl RV.nil) (b2) sn_<|rfl
theorem tmnew_s  : Spec Tryz.prog 45 [] [] (fun b : Nat => [.blk b 173 [int 32, int 0]]) (fun b => ptr b) := by
 refine t_ Tryz.func45 rfl Tryz.ntmps45 rfl fun G w =>c_<|a_<|q_ 1 rfl<|g_<|b_<|c_<|a_<|d_ (i_ (C := .agg [int 32, int 0]) (u_ tabOk rfl rfl rfl rfl) rfl) rfl rfl<|eb_ (z_ (cs := [int 32, int 0]) rfl) rfl rfl fun b2=>?_
 exact q_ 1 rfl<|g_<|b_<|o_<|f_ (rs := [.tmp 0]) rfl (RV.tmp rfl RV.nil) (b2) sr_<|rfl
theorem exnew_s  : Spec Tryz.prog 46 [int 4] [] (fun b : Nat => [.blk b 179 [int 4, int 0, int 0, .v (.slice none 0 0), .v (.slice none 0 0), .v (.slice none 0 0)]]) (fun b => ptr b) := by
 refine t_ Tryz.func46 rfl Tryz.ntmps46 rfl fun G w =>c_<|a_<|q_ 1 rfl<|g_<|b_<|c_<|c_<|a_<|q_ 3 rfl<|D_ (t := 5) rfl (by intro hc5; exfalso; omega) ?_
 intro hc5
 refine q_ 3 rfl<|g_<|b_<|n_ rfl (by intro hc8; exfalso; omega) ?_
 intro hc8
 refine s_<|b_<|c_<|a_<|q_ 1 rfl<|d_ (i_ (C := .agg [int 4, int 0, int 0, .v (.slice none 0 0), .v (.slice none 0 0), .v (.slice none 0 0)]) (u_ tabOk rfl rfl rfl rfl) rfl) rfl rfl<|eb_ (z_ (cs := [int 4, int 0, int 0, .v (.slice none 0 0), .v (.slice none 0 0), .v (.slice none 0 0)]) rfl) rfl rfl fun b11=>?_
 exact q_ 1 rfl<|g_<|b_<|o_<|f_ (rs := [.tmp 2]) rfl (RV.tmp rfl RV.nil) (b11) sr_<|rfl
theorem tsnew_s  : Spec Tryz.prog 72 [] [] (fun _ : Nat => []) (fun t => ptr t) := by
 refine t_ Tryz.func72 rfl Tryz.ntmps72 rfl fun G w =>c_<|a_<|q_ 1 rfl<|g_<|b_<|c_<|a_<|eb_ (B_ intK intOk pE (fun ac w => by simp [execOp, Instr.makeMap, newObj, Sem.run, Sem.run_bind, Result.andThen])) rfl rfl fun m1=>?_
 refine eb_ (B_ intK intOk pE (fun ac w => by simp [execOp, Instr.makeMap, newObj, Sem.run, Sem.run_bind, Result.andThen])) rfl rfl fun m2=>?_
 refine d_ (i_ (C := .agg [mapV m1, mapV m2]) (u_ tabOk rfl rfl rfl rfl) rfl) rfl rfl<|eb_ (z_ (cs := [mapV m1, mapV m2]) rfl) rfl rfl fun b4=>?_
 exact q_ 1 rfl<|g_<|b_<|o_<|f_ (rs := [.tmp 0]) rfl (RV.tmp rfl RV.nil) (b4) sn_<|rfl
set_option maxHeartbeats 1000000 in
theorem hlnew_s  : Spec Tryz.prog 44 [bkI p, int 4] [] (fun z : Nat × Nat × Value => [.blk z.1 167 [bkI p, int 4, mapV z.2.1, .v z.2.2], .pc (tmPc z.2.1 intK intOk pE [])]) (fun z => ptr z.1) := by
 refine t_ Tryz.func44 rfl Tryz.ntmps44 rfl fun G w =>c_<|a_<|q_ 1 rfl<|g_<|b_<|c_<|c_<|a_<|q_ 1 rfl<|d_ (a0_ Tryz.underlying68 rfl) rfl rfl<|q_ 5 rfl<|D_ (t := 12) rfl (by intro hc12; exfalso; omega) ?_
 intro hc12
 refine q_ 3 rfl<|g_<|b_<|n_ rfl (by intro hc15; exfalso; omega) ?_
 intro hc15
 refine s_<|b_<|c_<|a_<|q_ 2 rfl<|eb_ (B_ intK intOk pE (fun ac w => by simp [execOp, Instr.makeMap, newObj, Sem.run, Sem.run_bind, Result.andThen])) rfl rfl fun m18=>?_
 refine d_ (i_ (C := .agg [bkI p, int 4, mapV m18, .v (.slice none 0 0)]) (u_ tabOk rfl rfl rfl rfl) rfl) rfl rfl<|eb_ (z_ (cs := [bkI p, int 4, mapV m18, .v (.slice none 0 0)]) rfl) rfl rfl fun b20=>?_
 refine q_ 1 rfl<|g_<|b_<|c_<|c_<|a_<|q_ 2 rfl<|g_<|b_<|w_<|aO_ 168 1<|S_ (ι := Nat × Value × List Nat) (fun z => [own 168 1 z.2.1 (z.2.2.map fun t : Nat => [ptr t]), .blk b20 167 [bkI p, int 4, mapV m18, .v z.2.1], .pc (tmPc m18 intK intOk pE [])]) (fun z => [(5, ptr b20), (21, int 4), (22, int (z.1 : Nat))]) (fun z => z.1 ≤ 4 ∧ z.2.2.length = z.1) (fun z => 4 - z.1) (0, .slice none 0 0, []) (⟨Nat.zero_le _, rfl⟩) (by exact ⟨rfl, rfl, rfl, trivial⟩) sr_ ?_
 intro z hz
 refine c_<|a_<|q_ 1 rfl<|g_<|b_<|c_<|n_ rfl ?_ ?_
 rotate_left
 ·intro hc23
  exact O_<|k_ nofun<|k_ nofun<|N_<|b_<|c_<|a_<|q_ 2 rfl<|g_<|b_<|o_<|f_ (rs := [.tmp 4]) rfl (RV.tmp rfl RV.nil) ((b20, m18, z.2.1)) (sk_ sr_)<|rfl
 intro hc23
 refine s_<|b_<|c_<|w_<|hN_ fun hnod => ?_
 have hbx : b20 ∉ mids [own 168 1 z.2.1 (z.2.2.map fun t : Nat => [ptr t])] ++ [] := by
  intro hm
  have h9 : (z.2.1.ownBlock.toList ++ (b20 :: [m18])).Nodup := hnod
  exact (List.nodup_append.1 h9).2.2 b20 (by simpa [mids, It.mids, ownPc] using hm) b20 (by simp) rfl
 refine ah_ (mids [own 168 1 z.2.1 (z.2.2.map fun t : Nat => [ptr t])] ++ []) (.q 0 (.q 1 (.q 2 (.q 3 (.q 4 (.e 5 (.e 6 (.e 7 (.q 8 (.q 9 .nil)))))))))) (by kernel_rfl) (by kernel_rfl) ?_
 refine hx_ fun hx9 =>qx_ 4 hx9 rfl<|j_ rfl (i_ (C := .v z.2.1) (h_ tabOk rfl rfl l1_ hbx rfl) rfl) hx9 rfl rfl<|H_ rfl (tsnew_s) (by simp [mids, It.mids]) Casts.refl (by kernel_rfl) rfl rfl rfl ?_
 refine ap_<|fun zt=>ex_ rfl (ac_ tabOk Tryz.underlying165 rfl rfl rfl rfl rfl rfl rfl) (by simp) rfl rfl ?_
 refine ch_ [own 168 1 z.2.1 (z.2.2.map fun t : Nat => [ptr t])] [] rfl (K_ (zs := (z.2.2 ++ [zt]).map fun t : Nat => [ptr t]) tabOk [] (by rw [List.map_append]; rfl) Tryz.underlying165 rfl rfl rfl rfl rfl rfl (by intro c hc; rw [List.mem_singleton] at hc; subst hc; rfl) (by unfold maxLen; simp only [List.length_map, List.length_cons, List.length_nil]; omega) (by rw [show Tryz.prog.bytesOf 168 = 8 by kernel_rfl]; simp only [List.length_map, List.length_cons, List.length_nil]; omega)) rfl (by intro k hk; simp [mids, It.mids, ownPc] at hk ⊢; simp [hk]) rfl rfl ?_
 rintro _ _ ⟨r31, rfl, rfl⟩
 refine ⟨[own 168 1 r31 ((z.2.2 ++ [zt]).map fun t : Nat => [ptr t])], rfl, hx_ fun hx9 =>qx_ 2 hx9 rfl<|C_<|ao_ rfl (az_ (L' := [bkI p, int 4, mapV m18, .v r31]) tabOk rfl rfl rfl rfl i0_ u1_ rfl (by rfl)) rfl rfl ?_⟩
 rintro _ _ ⟨rfl, rfl⟩
 refine A_<|b_<|a_<|d_ (E_ rfl rfl (by simp only [InR, lo, hi]; omega)) rfl rfl ?_
 refine q_ 1 rfl<|g_<|J_ (z.1 + 1, r31, z.2.2 ++ [zt]) (by omega) ((⟨by dsimp only; omega, by dsimp only; rw [List.length_append, List.length_singleton]; omega⟩)) (by exact ⟨rfl, rfl, rfl, trivial⟩) sr_
end
structure RI where
  r : Nat
  lg : Nat
  lm : Nat
  pp : Nat
  om : Nat
  vv : Nat
  vm : Nat
  h : Nat
  hm : Nat
  t : Nat
  x : Nat
  pd : Nat
  pf : Nat
  pv : Value
  hv : Value
  ow : Ow
def RI.cells (p me : Nat) (dr : Int) (out : Abs) (R : RI) : List Abs := [bkI p, int 4, int (me : Nat), int 0, boo true, int 0, .v (.slice none 0 0), .v (.slice none 0 0), int 0, ptr R.lg, ptr R.pp, ptr R.vv, ptr R.pf, ptr R.h, ptr R.t, ptr R.x, mapV R.pd, int dr, out]
def coE (c : Core) : Abs := coreA c
section
variable {p bd bt N me : Nat} {R : RI}
set_option maxHeartbeats 4000000 in
theorem rpnew_s (hm : me < 4) (hN : N ≤ 10000) : Spec Tryz.prog 26 [bkI p, int 4, int (me : Nat)] [wb p bd bt N] (fun R : RI => [.blk R.r 118 (R.cells p me 0 (.v (.slice none 0 0))), .pc (tmPc R.pd intK intOk coE []), .blk R.x 179 [int 4, int 0, int 0, .v (.slice none 0 0), .v (.slice none 0 0), .v (.slice none 0 0)], .blk R.t 173 [int 32, int 0], .blk R.h 167 [bkI p, int 4, mapV R.hm, .v R.hv], .pc (tmPc R.hm intK intOk pE []), .blk R.vv 160 [int 4, mapV R.vm], .pc (tmPc R.vm paV paOk voE []), .blk R.pp 157 [int ((4 : Nat) : Int), int (me : Nat), mapV R.om, .v R.pv], own 199 1 R.pv ((List.replicate 4 []).map fun l => [pntsA l]), .pc (tmPc R.om intK intOk Ow.enc [(0, R.ow)]), .blk R.lg 153 [int 4, int 0, mapV R.lm], .pc (tmPc R.lm intK intOk pE []), wb p bd bt (N + 1)]) (fun R => ptr R.r) := by
 refine t_ Tryz.func26 rfl Tryz.ntmps26 rfl fun G w =>c_<|a_<|q_ 1 rfl<|g_<|b_<|c_<|c_<|a_<|q_ 1 rfl<|d_ (a0_ Tryz.underlying68 rfl) rfl rfl<|q_ 5 rfl<|D_ (t := 15) rfl (by intro hc15; exfalso; omega) ?_
 intro hc15
 refine q_ 4 rfl<|D_ (t := 19) rfl (by intro hc19; exfalso; omega) ?_
 intro hc19
 refine q_ 4 rfl<|D_ (t := 23) rfl (by intro hc23; exfalso; omega) ?_
 intro hc23
 refine q_ 4 rfl<|g_<|b_<|n_ rfl (by intro hc27; exfalso; omega) ?_
 intro hc27
 refine s_<|b_<|c_<|a_<|q_ 4 rfl<|m_ (lgnew_s) Casts.refl (by kernel_rfl) rfl rfl rfl ?_
 refine am_ (by repeat (first | exact Reads.nil | (refine Reads.blk ?_ ?_; focus ((repeat first|assumption|exact m0_|apply m1_); done)) | (refine Reads.rd ?_ ?_; focus ((repeat first|assumption|exact m0_|apply m1_); done)) | (refine Reads.pc ?_ ?_; focus ((repeat first|assumption|exact m0_|apply m1_); done)) | (refine Reads.rdpc ?_ ?_; focus ((repeat first|assumption|exact m0_|apply m1_); done)))) ?_
 intro z32
 refine q_ 2 rfl<|m_ (pnew_s (n := 4) (me := me) (by omega) (by omega) hm) Casts.refl (by kernel_rfl) rfl rfl rfl ?_
 refine am_ (by repeat (first | exact Reads.nil | (refine Reads.blk ?_ ?_; focus ((repeat first|assumption|exact m0_|apply m1_); done)) | (refine Reads.rd ?_ ?_; focus ((repeat first|assumption|exact m0_|apply m1_); done)) | (refine Reads.pc ?_ ?_; focus ((repeat first|assumption|exact m0_|apply m1_); done)) | (refine Reads.rdpc ?_ ?_; focus ((repeat first|assumption|exact m0_|apply m1_); done)))) ?_
 intro z35
 refine q_ 1 rfl<|m_ (vonew_s) Casts.refl (by kernel_rfl) rfl rfl rfl ?_
 refine am_ (by repeat (first | exact Reads.nil | (refine Reads.blk ?_ ?_; focus ((repeat first|assumption|exact m0_|apply m1_); done)) | (refine Reads.rd ?_ ?_; focus ((repeat first|assumption|exact m0_|apply m1_); done)) | (refine Reads.pc ?_ ?_; focus ((repeat first|assumption|exact m0_|apply m1_); done)) | (refine Reads.rdpc ?_ ?_; focus ((repeat first|assumption|exact m0_|apply m1_); done)))) ?_
 intro z37
 refine m_ (pfnew_s) Casts.refl (by kernel_rfl) rfl rfl rfl ?_
 refine ap_<|fun z38=>q_ 2 rfl<|m_ (hlnew_s (p := p)) Casts.refl (by kernel_rfl) rfl rfl rfl ?_
 refine am_ (by repeat (first | exact Reads.nil | (refine Reads.blk ?_ ?_; focus ((repeat first|assumption|exact m0_|apply m1_); done)) | (refine Reads.rd ?_ ?_; focus ((repeat first|assumption|exact m0_|apply m1_); done)) | (refine Reads.pc ?_ ?_; focus ((repeat first|assumption|exact m0_|apply m1_); done)) | (refine Reads.rdpc ?_ ?_; focus ((repeat first|assumption|exact m0_|apply m1_); done)))) ?_
 intro z41
 refine m_ (tmnew_s) Casts.refl (by kernel_rfl) rfl rfl rfl ?_
 refine am_ (by repeat (first | exact Reads.nil | (refine Reads.blk ?_ ?_; focus ((repeat first|assumption|exact m0_|apply m1_); done)) | (refine Reads.rd ?_ ?_; focus ((repeat first|assumption|exact m0_|apply m1_); done)) | (refine Reads.pc ?_ ?_; focus ((repeat first|assumption|exact m0_|apply m1_); done)) | (refine Reads.rdpc ?_ ?_; focus ((repeat first|assumption|exact m0_|apply m1_); done)))) ?_
 intro z42
 refine q_ 1 rfl<|m_ (exnew_s) Casts.refl (by kernel_rfl) rfl rfl rfl ?_
 refine am_ (by repeat (first | exact Reads.nil | (refine Reads.blk ?_ ?_; focus ((repeat first|assumption|exact m0_|apply m1_); done)) | (refine Reads.rd ?_ ?_; focus ((repeat first|assumption|exact m0_|apply m1_); done)) | (refine Reads.pc ?_ ?_; focus ((repeat first|assumption|exact m0_|apply m1_); done)) | (refine Reads.rdpc ?_ ?_; focus ((repeat first|assumption|exact m0_|apply m1_); done)))) ?_
 intro z44
 refine eb_ (B_ intK intOk coE (fun ac w => by simp [execOp, Instr.makeMap, newObj, Sem.run, Sem.run_bind, Result.andThen])) rfl rfl fun m45=>?_
 refine d_ (i_ (C := .agg [bkI p, int 4, int (me : Nat), int 0, boo true, int 0, .v (.slice none 0 0), .v (.slice none 0 0), int 0, ptr z32.1, ptr z35.1, ptr z37.1, ptr z38, ptr z41.1, ptr z42, ptr z44, mapV m45, int 0, .v (.slice none 0 0)]) (u_ tabOk rfl rfl rfl rfl) rfl) rfl rfl<|eb_ (z_ (cs := [bkI p, int 4, int (me : Nat), int 0, boo true, int 0, .v (.slice none 0 0), .v (.slice none 0 0), int 0, ptr z32.1, ptr z35.1, ptr z37.1, ptr z38, ptr z41.1, ptr z42, ptr z44, mapV m45, int 0, .v (.slice none 0 0)]) rfl) rfl rfl fun b47=>?_
 refine q_ 1 rfl<|g_<|b_<|c_<|a_<|q_ 3 rfl<|d_ (i_ (C := ptr z44) (h_ tabOk rfl rfl l0_ List.not_mem_nil rfl) rfl) rfl rfl<|m_ (xby0_s (x := z44)) Casts.refl (by kernel_rfl) rfl rfl rfl ?_
 refine ap_<|fun z52=>q_ 1 rfl<|g_<|b_<|c_<|aw_ (p := b47 ∉ (mids [wb p bd bt N] ++ mids [.blk z35.1 157 [int ((4 : Nat) : Int), int (me : Nat), mapV z35.2.1, .v z35.2.2], own 199 1 z35.2.2 ((List.replicate 4 []).map fun l => [pntsA l]), .pc (tmPc z35.2.1 intK intOk Ow.enc [])])) (fun _ _ h => by
   have h1 := h.mem.nodup
   simp [mids, It.mids, ownPc, mapPc, tmPc, wbP, exP] at h1 ⊢
   grind) fun hX => ?_
 refine T_ (mids [wb p bd bt N] ++ mids [.blk z35.1 157 [int ((4 : Nat) : Int), int (me : Nat), mapV z35.2.1, .v z35.2.2], own 199 1 z35.2.2 ((List.replicate 4 []).map fun l => [pntsA l]), .pc (tmPc z35.2.1 intK intOk Ow.enc [])]) (.q 0 (.q 1 (.q 2 (.q 3 (.q 4 (.q 5 (.q 7 (.e 6 (.e 8 .nil))))))))) (by kernel_rfl) (by kernel_rfl) ?_
 refine X_ (by intro k hk; simp [mids, It.mids, ownPc, mapPc, tmPc, wbP, exP] at hk ⊢; grind) fun hx9 => ?_
 refine qx_ 3 hx9 rfl<|j_ rfl (i_ (C := ptr z35.1) (h_ tabOk rfl rfl l0_ hX rfl) rfl) hx9 rfl rfl<|qx_ 3 hx9 rfl<|bt_ rfl (wdig_s (p := p) (bd := bd) (bt := bt) (N := N) (k := 104) (l := z52.1) (by omega) (by have := z52.2; unfold maxLen; omega)) (by intro k hk; exact List.mem_append_left _ hk) rfl Casts.refl (fun _ _ _ => by kernel_rfl) rfl rfl rfl ?_
 refine Q_ rfl (by repeat first|assumption|exact m0_|apply m1_) (fun _ => rfl) ?_
 intro z59
 refine ⟨_, (by repeat first|assumption|exact Upd.here|apply Upd.there), ?_⟩
 refine cv_ ([]) rfl (pown_s (n := 4) (me := me) (bp := z35.1) (bm := z35.2.1) (vv := z35.2.2) (vs := List.replicate 4 []) (om := []) (k := 0) (o := ⟨z59.d, z52.1, z59.len⟩) (by simp only [InR, lo, hi]; omega) (by have := z52.2; show z52.1.length ≤ _; omega)) (by intro k hk; exact List.mem_append_right _ hk) (by intro k hk; cases hk) Casts.refl (by kernel_rfl) rfl rfl rfl ?_
 refine M_ [_, _, _, _, _, _, _, _] (β := [_, _, _]) rfl (by intro x hx; simp only [List.mem_cons, List.not_mem_nil, or_false] at hx; rcases hx with rfl | rfl | rfl <;> rfl) ?_
 intro _
 exact C_<|b_<|c_<|a_<|q_ 2 rfl<|g_<|b_<|o_<|f_ (rs := [.tmp 6]) rfl (RV.tmp rfl RV.nil) ((RI.mk b47 z32.1 z32.2 z35.1 z35.2.1 z37.1 z37.2 z41.1 z41.2.1 z42 z44 m45 z38 z35.2.2 z41.2.2 ⟨z59.d, z52.1, z59.len⟩)) sr_<|rfl
end
theorem vo_row (st : Int) (t : Tg) (m : Wo) : (((voL st t m).drop 2).take 32).map (fun a => [a]) = bysW t.d := by
  rw [show ((voL st t m).drop 2).take 32 = t.abs from iB_ st t m]
  have h := Tg.row t
  rwa [List.take_of_length_le (by rw [Tg.size]; exact Nat.le_refl _)] at h
section
variable {p bd bt N me : Nat} {R : RI} {c : Core} {dr st x : Int} {o : Abs} {l : List UInt8} {v : Value} {t : Tg} {mk : Wo} {k : Int}
theorem rcd_s (h1 : c.letter.size ≤ 1000) (h2 : c.text.size ≤ 1000) (hN : N ≤ 100000) : Spec Tryz.prog 264 [ptr R.r, coreA c] [wb p bd bt N, .rd R.r 118 (R.cells p me dr o)] (fun _ : Tg => [wb p bd bt (N + 1)]) (fun t => .agg t.abs) := by
 have hcl := c1_ c
 refine t_ Tryz.func264 rfl Tryz.ntmps264 rfl fun G w =>c_<|a_<|eb_ (z_ (cs := c.cells.map .v) rfl) rfl rfl fun b3=>?_
 refine eb_ (F_ tabOk rfl) rfl rfl fun b4=>?_
 refine g_<|b_<|c_<|aw_ (p := R.r ∉ [p, bd, bt]) (fun _ _ h => by
   intro hm
   have h2 := h.mem.ro (.rd R.r _ _) (by repeat first | exact List.mem_cons_self | apply List.mem_cons_of_mem) R.r (by simp [It.rids])
   exact h.mem.sep R.r (by simp [mids, It.mids, wbP, exP, tmPc, ownPc] at hm ⊢; grind) h2) fun hR => ?_
 refine aw_ (p := b3 ∉ [p, bd, bt]) (fun _ _ h => by
   have h1 := h.mem.nodup
   simp [mids, It.mids, ownPc, mapPc, tmPc, wbP, exP] at h1 ⊢
   grind) fun hB => ?_
 refine ah_ [p, bd, bt] (.q 0 (.q 1 (.q 2 (.q 3 (.q 4 (.q 6 (.q 7 (.e 5 (.e 8 .nil))))))))) (by kernel_rfl) (by kernel_rfl) ?_
 refine X_ (by intro k hk; simp [mids, It.mids, ownPc, mapPc, tmPc, wbP, exP] at hk ⊢; grind) fun hx9 => ?_
 refine qx_ 3 hx9 rfl<|j_ rfl (i_ (C := bkI p) (h_ tabOk rfl rfl r3_ (by exact hR) rfl) rfl) hx9 rfl rfl ?_
 refine j_ rfl (i_ (C := coreA c) (y_ tabOk rfl rfl rfl l1_ (by exact hB) rfl) rfl) hx9 rfl rfl ?_
 refine j_ rfl (fl_ rfl) hx9 rfl rfl<|qx_ 1 hx9 rfl<|H_ rfl (c3_ (c := c) (by omega) (by omega)) (by simp [mids, It.mids]) Casts.refl (by kernel_rfl) rfl rfl rfl ?_
 refine ap_<|fun _=>bt_ rfl (wdig_s (p := p) (bd := bd) (bt := bt) (N := N) (k := 103) (l := c.bytes) (by omega) (by unfold maxLen; omega)) (by simp [mids, It.mids, wbP, exP]) rfl Casts.refl (fun _ _ _ => by kernel_rfl) rfl rfl rfl ?_
 refine Q_ rfl i2_ (fun _ => rfl)<|fun z13=>⟨_, u2_, C_<|ao_ rfl (p_ (L' := z13.abs) tabOk rfl rfl rfl u0_ (Tg.size _) (lb_ (by rfl)) (bX_ _) (by exact x_ (Tg.size _))) rfl rfl ?_⟩
 rintro _ _ ⟨rfl, rfl⟩
 exact b_<|o_<|f_ (rs := [.cell 4 121]) rfl (RV.cell rfl (RV.cellA tabOk rfl rfl l0_ (Tg.size _)) RV.nil) (z13) (sk_ (sk_ (sc_ sn_)))<|rfl
theorem iD_ (hl : l.length ≤ 100) : Spec Tryz.prog 101 [.v v, ints [x]] [own 5 1 v (bysW l)] (fun z : {z : Value × List UInt8 // z.2.length ≤ 108} => [own 5 1 z.1.1 (bysW z.1.2)]) (fun z => .v z.1.1) := by
 have hL : lots = 100000000000 := rfl
 refine t_ Tryz.func101 rfl Tryz.ntmps101 rfl fun G w =>c_<|a_<|q_ 1 rfl<|g_<|b_<|c_<|c_<|a_<|q_ 1 rfl<|d_ (P_ (m := 1) rfl Tryz.underlying282 rfl) rfl rfl<|q_ 1 rfl<|g_<|b_<|w_<|S_ (ι := Nat × Value × List UInt8) (fun z => [own 5 1 z.2.1 (bysW z.2.2)]) (fun z => [(0, .v z.2.1), (7, ints [x]), (8, int (1 : Nat)), (9, int (z.1 : Nat))]) (fun z => z.1 ≤ 1 ∧ z.2.2.length ≤ 100 + 8 * z.1) (fun z => 1 - z.1) (0, v, l) (⟨Nat.zero_le _, by omega⟩) (by exact ⟨rfl, rfl, rfl, rfl, trivial⟩) sr_ ?_
 intro z hz
 refine c_<|a_<|q_ 1 rfl<|g_<|b_<|c_<|n_ rfl ?_ ?_
 rotate_left
 ·intro hc10
  refine O_<|k_ nofun<|k_ nofun<|N_<|b_<|c_<|a_<|q_ 2 rfl<|g_<|b_<|o_<|f_ (rs := [.tmp 4]) rfl (RV.tmp rfl RV.nil) (⟨z.2, by have := hz.2; omega⟩) sr_ ?_
  exact rfl
 intro hc10
 have hz0 : ((z.1 : Nat) : Int) = ((0 : Nat) : Int) := by omega
 refine s_<|b_<|c_<|w_<|c_<|a_<|d_ (W_ (q := 0) (xs := [[int x]]) tabOk Tryz.underlying282 rfl rfl rfl hz0 rfl rfl rfl) rfl rfl<|d_ (aI_ tabOk rfl rfl rfl) rfl rfl<|q_ 1 rfl<|g_<|b_<|bj_ [] (t := 0) rfl rfl<|a_<|q_ 2 rfl<|d_ (i_ (C := wrd (u64 x)) (bA_ rfl Tryz.underlying27 (by kernel_rfl)) rfl) rfl rfl ?_
 refine m_ (hf_ (l := z.2.2) (x := u64 x) (n := 8) (by omega) (dU_ x) rfl) Casts.refl (by kernel_rfl) rfl rfl rfl ?_
 refine Y_ (by repeat (first | exact Reads.nil | (refine Reads.blk ?_ ?_; focus ((repeat first|assumption|exact m0_|apply m1_); done)) | (refine Reads.rd ?_ ?_; focus ((repeat first|assumption|exact m0_|apply m1_); done)) | (refine Reads.pc ?_ ?_; focus ((repeat first|assumption|exact m0_|apply m1_); done)) | (refine Reads.rdpc ?_ ?_; focus ((repeat first|assumption|exact m0_|apply m1_); done)))) (fun _ => rfl) ?_
 intro r16
 refine q_ 1 rfl<|g_<|A_<|b_<|a_<|d_ (E_ rfl rfl (by simp only [InR, lo, hi]; omega)) rfl rfl ?_
 refine q_ 1 rfl<|g_<|J_ (z.1 + 1, r16, z.2.2 ++ beBytes (u64 x) (8 : Int).toNat) (by omega) ((⟨by dsimp only; omega, by dsimp only; rw [List.length_append, v_]; have := hz.2; omega⟩)) (by exact ⟨rfl, rfl, rfl, rfl, trivial⟩) sr_
end
def voZ : List Abs := [int 0, int 0] ++ List.replicate 32 (.v (.int .u8 0)) ++ [.v (.int .u32 0)]
abbrev Vo35 := {l : List Abs // l.length = 35}
section
variable {p bd bt N me : Nat} {R : RI} {c : Core} {dr st x : Int} {o : Abs} {l : List UInt8} {v : Value} {t d : Tg} {mk : Wo} {k b3 b6 : Nat}
set_option maxHeartbeats 1000000 in
theorem wvb_s  : Spec Tryz.prog 80 [.agg (voL st t mk)] [] (fun _ : {l : List UInt8 // l.length ≤ 200} => []) (fun l => byt l.1) := by
 have hL : lots = 100000000000 := rfl
 have hmk := mk.isLt
 refine t_ Tryz.func80 rfl Tryz.ntmps80 rfl fun G w =>c_<|a_<|eb_ (z_ (cs := voL st t mk) rfl) rfl rfl fun b1=>?_
 refine q_ 1 rfl<|g_<|b_<|c_<|e0_ [] 1 rfl rfl<|T_ [] (.q 0 (.q 1 (.q 2 (.q 4 (.q 5 (.q 8 (.q 9 (.two 3 6 (.e 6 (.e 7 (.e 10 (.e 11 .nil)))) (.e 3 (.e 7 (.e 10 (.e 11 .nil)))))))))))) (by kernel_rfl) (by kernel_rfl) ?_
 refine j_ rfl (aK_ tabOk rfl rfl rfl rfl rfl) (by simp) rfl rfl ?_
 refine hx_ fun hx9 =>j_ rfl (i_ (C := int 4) (aI_ tabOk rfl rfl rfl) rfl) hx9 rfl rfl<|j_ rfl (i_ (C := wrd 4) (aa_ rfl Tryz.underlying27 (by kernel_rfl) (by simp only [InR, lo, hi]; omega)) rfl) hx9 rfl rfl ?_
 refine j_ rfl (aK_ tabOk rfl rfl rfl rfl rfl) (by simp) rfl rfl ?_
 refine j_ rfl (i_ (C := int st) (aI_ tabOk rfl rfl rfl) rfl) hx9 rfl rfl<|j_ rfl (aK_ tabOk rfl rfl rfl rfl rfl) (by simp) rfl rfl ?_
 refine j_ rfl (c7_ tabOk Tryz.underlying121 rfl rfl rfl rfl (vo_row _ _ _) (by rw [List.length_drop, a6_]; omega)) hx9 rfl rfl ?_
 refine aQ_ ?_ ?_
 ·skip
  refine cw_ rfl (hf_ (l := []) (x := 4) (n := 1) (by simp [hL]) (by omega) rfl) (by simp [mids, It.mids]) (Casts.cons (fun _ _ _ h => cD_ h) Casts.refl) (by kernel_rfl) rfl rfl rfl ?_
  refine Y_ (by repeat (first | exact Reads.nil | (refine Reads.blk ?_ ?_; focus ((repeat first|assumption|exact m0_|apply m1_); done)) | (refine Reads.rd ?_ ?_; focus ((repeat first|assumption|exact m0_|apply m1_); done)) | (refine Reads.pc ?_ ?_; focus ((repeat first|assumption|exact m0_|apply m1_); done)) | (refine Reads.rdpc ?_ ?_; focus ((repeat first|assumption|exact m0_|apply m1_); done)))) (fun _ => rfl) ?_
  intro r7
  refine ex_ rfl (ac_ tabOk Tryz.underlying282 rfl rfl rfl rfl rfl rfl rfl) (by simp) rfl rfl ?_
  refine cw_ rfl (iD_ (v := r7) (x := st) (l := [] ++ beBytes 4 (1 : Int).toNat) (by simp only [List.length_append, v_, List.length_nil]; decide)) (by intro k hk; exact List.mem_append_left _ hk) Casts.refl (by kernel_rfl) rfl rfl rfl ?_
  refine M_ [] (β := _) rfl (by intro x hx; simp only [List.mem_cons, List.not_mem_nil, or_false] at hx; rcases hx with rfl; rfl) ?_
  intro z11
  refine jY_ [own 5 1 z11.1.1 (bysW z11.1.2)] (mids [own 5 1 r7 (bysW ([] ++ beBytes 4 (1 : Int).toNat))] ++ []) rfl rfl (K_ (zs := bysW (z11.1.2 ++ t.d)) tabOk [] (fk_ _ _) Tryz.underlying39 rfl rfl rfl rfl rfl rfl (c4_ _) (by unfold maxLen; simp only [bysW, List.length_map]; rw [t.len]; have := z11.2; omega) (by rw [show Tryz.prog.bytesOf 5 = 1 by kernel_rfl]; simp only [bysW, List.length_map]; rw [t.len]; have := z11.2; omega)) rfl (by intro k hk; refine List.mem_append_left _ ?_; simpa [mids, It.mids, ownPc] using hk) rfl rfl ?_
  rintro _ _ ⟨r14, rfl, rfl⟩
  refine ⟨[own 5 1 r14 (bysW (z11.1.2 ++ t.d))], rfl, ez_ rfl (l_ rfl) rfl rfl<|C_<|b_<|c_<|bj_ [] (t := 3) rfl rfl<|a_<|q_ 1 rfl<|d_ (aK_ tabOk rfl rfl rfl rfl rfl) rfl rfl<|d_ (i_ (C := u32 mk) (aI_ tabOk rfl rfl (by rw [List.getElem?_drop]; exact gp_ _ _ _)) rfl) rfl rfl ?_⟩
  refine d_ (i_ (C := wrd mk.toNat) (aa_ rfl Tryz.underlying27 (by kernel_rfl) (by simp only [InR, lo, hi]; omega)) rfl) rfl rfl ?_
  refine m_ (hZ_ (l := z11.1.2 ++ t.d) (x := mk.toNat) (n := 1) (by rw [List.length_append, t.len]; have := z11.2; omega) (by omega) rfl) Casts.refl (by kernel_rfl) rfl rfl rfl ?_
  refine ap_<|fun _=>q_ 1 rfl<|g_<|b_<|o_<|f_ (rs := [.tmp 2]) rfl (RV.tmp rfl RV.nil) (⟨z11.1.2 ++ t.d ++ beBytes mk.toNat (1 : Int).toNat, by rw [List.length_append, List.length_append, v_, t.len]; have := z11.2; show z11.1.2.length + 32 + 1 ≤ 200; omega⟩) sn_ ?_
  exact rfl
 skip
 refine ex_ rfl (ac_ tabOk Tryz.underlying282 rfl rfl rfl rfl rfl rfl rfl) (by simp) rfl rfl ?_
 refine cw_ rfl (hf_ (l := []) (x := 4) (n := 1) (by simp [hL]) (by omega) rfl) (by simp [mids, It.mids]) (Casts.cons (fun _ _ _ h => cD_ h) Casts.refl) (by kernel_rfl) rfl rfl rfl ?_
 refine Y_ (by repeat (first | exact Reads.nil | (refine Reads.blk ?_ ?_; focus ((repeat first|assumption|exact m0_|apply m1_); done)) | (refine Reads.rd ?_ ?_; focus ((repeat first|assumption|exact m0_|apply m1_); done)) | (refine Reads.pc ?_ ?_; focus ((repeat first|assumption|exact m0_|apply m1_); done)) | (refine Reads.rdpc ?_ ?_; focus ((repeat first|assumption|exact m0_|apply m1_); done)))) (fun _ => rfl) ?_
 intro r7
 refine cw_ rfl (iD_ (v := r7) (x := st) (l := [] ++ beBytes 4 (1 : Int).toNat) (by simp only [List.length_append, v_, List.length_nil]; decide)) (by intro k hk; exact List.mem_append_left _ hk) Casts.refl (by kernel_rfl) rfl rfl rfl ?_
 refine M_ [] (β := _) rfl (by intro x hx; simp only [List.mem_cons, List.not_mem_nil, or_false] at hx; rcases hx with rfl; rfl) ?_
 intro z11
 refine jY_ [own 5 1 z11.1.1 (bysW z11.1.2)] (mids [own 5 1 r7 (bysW ([] ++ beBytes 4 (1 : Int).toNat))] ++ []) rfl rfl (K_ (zs := bysW (z11.1.2 ++ t.d)) tabOk [] (fk_ _ _) Tryz.underlying39 rfl rfl rfl rfl rfl rfl (c4_ _) (by unfold maxLen; simp only [bysW, List.length_map]; rw [t.len]; have := z11.2; omega) (by rw [show Tryz.prog.bytesOf 5 = 1 by kernel_rfl]; simp only [bysW, List.length_map]; rw [t.len]; have := z11.2; omega)) rfl (by intro k hk; refine List.mem_append_left _ ?_; simpa [mids, It.mids, ownPc] using hk) rfl rfl ?_
 rintro _ _ ⟨r14, rfl, rfl⟩
 refine ⟨[own 5 1 r14 (bysW (z11.1.2 ++ t.d))], rfl, ez_ rfl (l_ rfl) rfl rfl<|C_<|b_<|c_<|bj_ [] (t := 3) rfl rfl<|a_<|q_ 1 rfl<|d_ (aK_ tabOk rfl rfl rfl rfl rfl) rfl rfl<|d_ (i_ (C := u32 mk) (aI_ tabOk rfl rfl (by rw [List.getElem?_drop]; exact gp_ _ _ _)) rfl) rfl rfl ?_⟩
 refine d_ (i_ (C := wrd mk.toNat) (aa_ rfl Tryz.underlying27 (by kernel_rfl) (by simp only [InR, lo, hi]; omega)) rfl) rfl rfl ?_
 refine m_ (hZ_ (l := z11.1.2 ++ t.d) (x := mk.toNat) (n := 1) (by rw [List.length_append, t.len]; have := z11.2; omega) (by omega) rfl) Casts.refl (by kernel_rfl) rfl rfl rfl ?_
 refine ap_<|fun _=>q_ 1 rfl<|g_<|b_<|o_<|f_ (rs := [.tmp 2]) rfl (RV.tmp rfl RV.nil) (⟨z11.1.2 ++ t.d ++ beBytes mk.toNat (1 : Int).toNat, by rw [List.length_append, List.length_append, v_, t.len]; have := z11.2; show z11.1.2.length + 32 + 1 ≤ 200; omega⟩) sn_ ?_
 exact rfl
theorem row1_s  : Spec Tryz.prog 387 [.agg (voL st t mk), ptr b3, ptr b6] [.rd b3 26 (c.cells.map .v), .rd b6 121 d.abs] (fun _ : Unit => []) (fun _ => boo (decide (st = c.stamp) && decide (t.d = d.d))) := by
 refine t_ Tryz.func387 rfl Tryz.ntmps387 rfl fun G w =>c_<|a_<|eb_ (z_ (cs := voL st t mk) rfl) rfl rfl fun b3=>?_
 refine q_ 1 rfl<|g_<|b_<|c_<|a_<|q_ 1 rfl<|d_ (i_ (C := int st) (h_ tabOk rfl rfl l0_ List.not_mem_nil rfl) rfl) rfl rfl<|q_ 1 rfl<|d_ (i_ (C := int c.stamp) (h_ tabOk rfl rfl r1_ List.not_mem_nil rfl) rfl) rfl rfl<|q_ 2 rfl<|D_ (t := 10) rfl ?_ ?_
 ·intro hc10
  refine q_ 1 rfl<|d_ (i_ (C := .agg t.abs) (al_ tabOk rfl rfl rfl l0_ List.not_mem_nil (by rw [a6_]; exact Nat.le_of_ble_eq_true rfl)) (congrArg Abs.agg (iB_ _ _ _))) rfl rfl ?_
  refine d_ (i_ (C := .agg d.abs) (y_ tabOk rfl rfl rfl r2_ List.not_mem_nil (Tg.size _)) rfl) rfl rfl<|d_ (ey_ rfl rfl (bk_ _) (bk_ _) (by kernel_rfl) (eqlB Tryz.underlying121 (by kernel_rfl) (by kernel_rfl) _ _ t.len d.len _ rfl)) rfl rfl ?_
  refine q_ 2 rfl<|g_<|b_<|o_<|f_ (rs := [.tmp 4]) rfl (RV.tmp rfl RV.nil) (()) sn_<|congrArg (fun b => Abs.v (Value.bool b)) ?_
  simp_all
 intro hc10
 refine q_ 6 rfl<|g_<|b_<|o_<|f_ (rs := [.tmp 4]) rfl (RV.tmp rfl RV.nil) (()) sn_<|congrArg (fun b => Abs.v (Value.bool b)) ?_
 simp_all
theorem jq_ {xs : List Vo35} {p : Vo35 → Bool} {k : Nat} {caps : List Abs} {σ : Blks} (hb : goesIn Tryz.prog k = true) (hr : Rds σ) (hn : xs.length < 9223372036854775807) (h : ∀ x ∈ xs, Spec Tryz.prog k (.agg (Subtype.val x) :: caps) σ (fun _ : Unit => []) (fun _ => boo (p x))) : Spec Tryz.prog 386 [.sl 35 (xs.map Subtype.val), .fn (.func k) [] caps] σ (fun _ : {r : Int // IdxOf p xs r} => []) (fun z => int z.1) := by
 refine t_ Tryz.func386 rfl Tryz.ntmps386 rfl fun G w =>c_<|a_<|q_ 1 rfl<|g_<|b_<|c_<|c_<|a_<|q_ 1 rfl<|d_ (P_ rfl Tryz.underlying257 (List.length_map _)) rfl rfl<|q_ 1 rfl<|g_<|b_<|w_<|S_ (ι := Nat) (fun z => σ) (fun z => [(0, .sl 35 (xs.map Subtype.val)), (1, .fn (.func k) [] caps), (7, int (xs.length : Nat)), (8, int (z : Nat))]) (fun z => z ≤ xs.length ∧ ∀ j (hj : j < xs.length), j < z → p xs[j] = false) (fun z => xs.length - z) (0) (⟨Nat.zero_le _, by omega⟩) (by exact ⟨rfl, rfl, rfl, rfl, trivial⟩) sr_ ?_
 intro z hz
 refine c_<|a_<|q_ 1 rfl<|g_<|b_<|c_<|n_ rfl ?_ ?_
 rotate_left
 ·intro hc9
  refine O_<|k_ nofun<|k_ nofun<|N_<|b_<|c_<|a_<|q_ 1 rfl<|g_<|b_<|o_<|f_ (rs := [.tmp 4]) rfl (RV.tmp rfl RV.nil) (⟨-1, .inl ⟨rfl, fun x hx => by obtain ⟨j, hj, rfl⟩ := List.getElem_of_mem hx; exact hz.2 j hj (by omega)⟩⟩) sn_ ?_
  exact rfl
 intro hc9
 have hlt : z < xs.length := by omega
 refine s_<|b_<|c_<|w_<|c_<|a_<|q_ 2 rfl<|g_<|b_<|c_<|a_<|q_ 3 rfl<|d_ (W_ tabOk Tryz.underlying257 rfl rfl rfl rfl (ce_ (by omega)) rfl rfl) rfl rfl ?_
 refine d_ (aH_ tabOk rfl rfl rfl (xs[z]'hlt).2) rfl rfl<|c9_ (h _ (List.getElem_mem hlt)) rfl Casts.refl hb rfl rfl rfl<|dy_ (Rds.reads hr (fun x hx => by repeat (first | exact hx | apply List.mem_cons_of_mem))) (fun _ => rfl) ?_
 intro _
 refine g_<|b_<|ay_ rfl ?_ ?_
 rotate_left
 ·intro hc16
  refine s_<|A_<|b_<|a_<|d_ (E_ rfl rfl (by simp only [InR, lo, hi]; omega)) rfl rfl ?_
  refine q_ 1 rfl<|g_<|J_ (z + 1) (by omega) (⟨by omega, fun j hj hjz => by rcases Nat.lt_or_ge j z with h1 | h1; exact hz.2 j hj h1; obtain rfl : j = z := (by omega); exact hc16⟩) (by exact ⟨rfl, rfl, rfl, rfl, trivial⟩) sr_
 intro hc16
 refine c_<|a_<|q_ 2 rfl<|g_<|b_<|o_<|aF_<|k_ nofun<|k_ nofun<|aF_<|k_ nofun<|f_ (rs := [.tmp 4]) rfl (RV.tmp rfl RV.nil) (⟨(z : Nat), .inr ⟨z, hlt, rfl, hc16, fun j hj => hz.2 j (by omega) hj⟩⟩) sn_ ?_
 exact rfl
set_option maxHeartbeats 2000000 in
theorem rown_s (h1 : c.letter.size ≤ 1000) (h2 : c.text.size ≤ 1000) (hN : N ≤ 100000) (hm : me < 4) (hc : c.client = 4) : Spec Tryz.prog 344 [ptr R.r, coreA c] [wb p bd bt N, .rd R.r 118 (R.cells p me dr o), .rd R.vv 160 [int 4, mapV R.vm], .rdpc (tmPc R.vm paV paOk voE (vm1 (me : Int) st t mk))] (fun _ : Bool => [wb p bd bt (N + 1)]) (fun b => .tup [.agg (if b then voL st t mk else voZ), boo b]) := by
 refine t_ Tryz.func344 rfl Tryz.ntmps344 rfl fun G w =>c_<|a_<|eb_ (z_ (cs := c.cells.map .v) rfl) rfl rfl fun b3=>?_
 refine eb_ (F_ tabOk rfl) rfl rfl fun b4=>?_
 refine q_ 1 rfl<|g_<|b_<|c_<|a_<|q_ 1 rfl<|d_ (i_ (C := coreA c) (y_ tabOk rfl rfl rfl l1_ List.not_mem_nil rfl) rfl) rfl rfl<|m_ (rcd_s (p := p) (bd := bd) (bt := bt) (N := N) (me := me) (R := R) (c := c) (dr := dr) (o := o) h1 h2 hN) Casts.refl (by kernel_rfl) rfl rfl rfl ?_
 refine aA_ (ys := [.rd R.r 118 (R.cells p me dr o)]) rfl i2_ (by intro y hy; rw [List.mem_singleton] at hy; subst hy; exact ⟨i3_, by intro h; cases h⟩) rfl (fun _ => rfl) ?_
 intro z11
 refine ⟨_, u2_, eb_ (F_ tabOk rfl) rfl rfl fun b6=>?_⟩
 refine e_ (p_ (L' := z11.abs) tabOk rfl rfl rfl u0_ (Tg.size _) (Nat.le_of_ble_eq_true rfl) (bX_ _) (by exact x_ (Tg.size _))) rfl rfl ?_
 refine g_<|b_<|c_<|T_ [] (.q 0 (.q 1 (.q 2 (.q 3 (.q 4 (.q 5 (.q 6 (.q 7 (.q 8 (.q 9 (.e 10 (.q 11 .nil)))))))))))) (by kernel_rfl) (by kernel_rfl) ?_
 refine qs_ 3 rfl<|hx_ fun hx9 =>j_ rfl (i_ (C := ptr R.vv) (h_ tabOk rfl rfl r4_ List.not_mem_nil rfl) rfl) hx9 rfl rfl<|qs_ 3 rfl<|j_ rfl (i_ (C := int (me : Nat)) (h_ tabOk rfl rfl r4_ List.not_mem_nil rfl) rfl) hx9 rfl rfl<|qs_ 1 rfl<|j_ rfl (i_ (C := int 4) (h_ tabOk rfl rfl l2_ List.not_mem_nil rfl) (congrArg int hc)) hx9 rfl rfl<|H_ rfl (voof_s (v := R.vv) (m := R.vm) (self_ := (me : Int)) (st := st) (t := t) (mk := mk) (by omega) (by omega)) (by simp [mids, It.mids]) Casts.refl (by kernel_rfl) rfl rfl rfl ?_
 refine ap_<|fun _=>qs_ 1 rfl<|C_<|b_<|c_<|a_<|q_ 1 rfl<|d_ (ag_ rfl rfl) rfl rfl<|m_ (jq_ (xs := [⟨voL st t mk, a6_ _ _ _⟩]) (p := fun _ => decide (st = c.stamp) && decide (t.d = z11.d)) (k := 387) (caps := [ptr b3, ptr b6]) (σ := [.rd b3 26 (c.cells.map .v), .rd b6 121 z11.abs]) (by kernel_rfl) (by intro x hx; simp only [List.mem_cons, List.not_mem_nil, or_false] at hx; rcases hx with rfl | rfl <;> exact .inl ⟨_, _, _, rfl⟩) (by simp) (fun y hy => by rw [List.mem_singleton] at hy; subst hy; exact row1_s)) Casts.refl (by kernel_rfl) rfl rfl rfl ?_
 refine ap_ ?_
 intro z25
 have h25 : z25.1 < 0 ∨ z25.1 = ((0 : Nat) : Int) := by
  rcases z25.2 with ⟨h, _⟩ | ⟨i, hi, h, _⟩
  ·exact .inl (by omega)
  simp only [List.length_singleton] at hi; exact .inr (by omega)
 refine q_ 1 rfl<|g_<|b_<|c_<|c_<|a_<|q_ 2 rfl<|g_<|b_<|n_ rfl ?_ ?_
 ·intro hc27
  refine c_<|a_<|d_ (u_ tabOk rfl rfl rfl rfl) rfl rfl<|e_ (p_ (L' := voZ) tabOk rfl rfl rfl u1_ rfl (Nat.le_of_ble_eq_true rfl) rfl (by exact x_ rfl)) rfl rfl ?_
  refine q_ 1 rfl<|g_<|b_<|o_<|k_ nofun<|f_ (rs := [.cell 4 198, .tmp 5]) rfl (RV.cell rfl (RV.cellA tabOk rfl rfl l1_ (by rfl)) (RV.tmp rfl RV.nil)) (false) (sk_ (sk_ (sk_ (sc_ sn_)))) ?_
  exact rfl
 intro hc27
 have hq0 : z25.1 = ((0 : Nat) : Int) := by omega
 refine s_<|b_<|c_<|a_<|q_ 2 rfl<|d_ (W_ (q := 0) (xs := [voL st t mk]) tabOk Tryz.underlying257 rfl rfl rfl hq0 rfl rfl rfl) rfl rfl<|d_ (i_ (C := .agg (voL st t mk)) (aH_ tabOk rfl rfl rfl (a6_ _ _ _)) rfl) rfl rfl<|e_ (p_ (L' := voL st t mk) tabOk rfl rfl rfl u1_ (a6_ _ _ _) (Nat.le_of_ble_eq_true rfl) (bU_ _ _ _) (by exact x_ (a6_ _ _ _))) rfl rfl ?_
 exact q_ 1 rfl<|g_<|b_<|o_<|f_ (rs := [.cell 4 198, .tmp 5]) rfl (RV.cell rfl (RV.cellA tabOk rfl rfl l1_ (a6_ _ _ _)) (RV.tmp rfl RV.nil)) (true) (sk_ (sk_ (sk_ (sc_ sn_))))<|rfl
end
def ParOk (n : Nat) (rows : List (List Abs)) : Prop := rows.length ≤ n ∧ ∀ r ∈ rows, r.length = 5 ∧ ones r = true
abbrev ParR (n : Nat) := {z : Value × List (List Abs) // ParOk n z.2}
theorem iv_ {b : Bool} {st : Int} {t : Tg} {mk : Wo} : (if b = true then voL st t mk else voZ).length = 35 := by
  split
  · exact a6_ _ _ _
  · rfl
theorem vz_ones {b : Bool} {st : Int} {t : Tg} {mk : Wo} : ones (if b = true then voL st t mk else voZ) = true := by
  split
  · exact bU_ _ _ _
  · rfl
noncomputable def zco : Value := .agg co0.cells.toArray
theorem gj_ (w : World) : (zeroValue 26).run Tryz.prog w = .ok zco w := by kernel_rfl
theorem gk_ (K : List Nat) (w : World) : rep K w (coE co0) zco := ⟨_, rfl, ak_.2 rfl⟩
section
variable {p bd bt N me : Nat} {R : RI} {c : Core} {dr st x : Int} {o : Abs} {l : List UInt8} {v : Value} {t d : Tg} {mk : Wo} {k : Int}
set_option maxHeartbeats 2000000 in
theorem rsay_s (hl : l.length ≤ 1000) (hm : me < 4) (hN : N ≤ 100000) : Spec Tryz.prog 120 [ptr R.r, int k, byt l] [.blk R.r 118 (R.cells p me dr (.v (.slice none 0 0))), wb p bd bt N] (fun z : ParR 4 => [own 141 5 z.1.1 z.1.2, .blk R.r 118 (R.cells p me dr (.v z.1.1)), wb p bd bt (N + 4)]) (fun _ => .tup []) := by
 refine t_ Tryz.func120 rfl Tryz.ntmps120 rfl fun G w =>cj_ (ι := Nat × {ts : List Tg // ts.length = (allN 4).length}) (fun y => [.blk y.1 42 (Msg.mk k (me : Nat) l y.2.1).abs, .blk R.r 118 (R.cells p me dr (.v (.slice none 0 0))), wb p bd bt (N + 4)]) (fun y => [(0, ptr R.r), (6, ptr y.1)]) (fun y => True) ?_ ?_
 ·skip
  refine aw_ (p := R.r ∉ [p, bd, bt]) (fun _ _ h => by
    have h1 := h.mem.nodup
    simp [mids, It.mids, ownPc, mapPc, tmPc, wbP, exP] at h1 ⊢
    grind) fun hB => ?_
  refine ah_ [p, bd, bt] (.q 0 (.q 1 (.q 2 (.q 3 (.q 4 (.q 5 (.q 6 (.q 7 (.q 8 (.q 9 (.q 10 (.q 11 (.q 12 (.q 13 (.two 14 16 (.two 15 16 (.e 16 .nil) (.e 15 .nil)) (.e 14 (.e 15 .nil))))))))))))))))) (by kernel_rfl) (by kernel_rfl) ?_
  refine X_ (by intro k hk; simp [mids, It.mids, ownPc, mapPc, tmPc, wbP, exP] at hk ⊢; grind) fun hx9 => ?_
  refine qx_ 3 hx9 rfl<|j_ rfl (i_ (C := bkI p) (h_ tabOk rfl rfl l0_ hB rfl) rfl) hx9 rfl rfl<|qx_ 4 hx9 rfl<|j_ rfl (i_ (C := int (me : Nat)) (h_ tabOk rfl rfl l0_ hB rfl) rfl) hx9 rfl rfl<|qx_ 4 hx9 rfl<|j_ rfl (i_ (C := int 4) (h_ tabOk rfl rfl l0_ hB rfl) rfl) hx9 rfl rfl<|aQ_ ?_ ?_
  ·skip
   refine H_ rfl (jN_ (n := 4)) (by simp [mids, It.mids]) Casts.refl (by kernel_rfl) rfl rfl rfl ?_
   refine ap_<|fun _=>aQ_ ?_ ?_
   ·skip
    refine H_ rfl (e2_ (p := p) (bd := bd) (bt := bt) (N := N) (k := k) (f := (me : Int)) (body := l) (to := allN 4) (by omega) (by omega) (by decide) (by unfold i64r; omega) (by intro w hw; rw [alN4] at hw; simp at hw; unfold i64r; omega)) (by simp [mids, It.mids, wbP, exP]) Casts.refl (by kernel_rfl) rfl rfl rfl ?_
    refine Q_ rfl i1_ (fun _ => rfl)<|fun z23=>⟨_, u1_, exb_ rfl (F_ tabOk rfl) (by simp) rfl rfl fun b6=>?_⟩
    refine C_<|ao_ rfl (p_ (L' := (Msg.mk k (me : Nat) l z23.1).abs) tabOk rfl rfl rfl u0_ rfl (lb_ (by rfl)) rfl (by exact x_ rfl)) rfl rfl ?_
    rintro _ _ ⟨rfl, rfl⟩
    refine R_ (b6, z23) (trivial) (by exact ⟨rfl, rfl, trivial⟩) sr_
   skip
   refine exb_ rfl (F_ tabOk rfl) (by simp) rfl rfl fun b6=>?_
   refine H_ rfl (e2_ (p := p) (bd := bd) (bt := bt) (N := N) (k := k) (f := (me : Int)) (body := l) (to := allN 4) (by omega) (by omega) (by decide) (by unfold i64r; omega) (by intro w hw; rw [alN4] at hw; simp at hw; unfold i64r; omega)) (by simp [mids, It.mids, wbP, exP]) Casts.refl (by kernel_rfl) rfl rfl rfl ?_
   refine Q_ rfl i2_ (fun _ => rfl)<|fun z23=>⟨_, u2_, C_<|ao_ rfl (p_ (L' := (Msg.mk k (me : Nat) l z23.1).abs) tabOk rfl rfl rfl u0_ rfl (lb_ (by rfl)) rfl (by exact x_ rfl)) rfl rfl ?_⟩
   rintro _ _ ⟨rfl, rfl⟩
   refine R_ (b6, z23) (trivial) (by exact ⟨rfl, rfl, trivial⟩) sr_
  skip
  refine exb_ rfl (F_ tabOk rfl) (by simp) rfl rfl fun b6=>?_
  refine H_ rfl (jN_ (n := 4)) (by simp [mids, It.mids]) Casts.refl (by kernel_rfl) rfl rfl rfl ?_
  refine ap_<|fun _=>H_ rfl (e2_ (p := p) (bd := bd) (bt := bt) (N := N) (k := k) (f := (me : Int)) (body := l) (to := allN 4) (by omega) (by omega) (by decide) (by unfold i64r; omega) (by intro w hw; rw [alN4] at hw; simp at hw; unfold i64r; omega)) (by simp [mids, It.mids, wbP, exP]) Casts.refl (by kernel_rfl) rfl rfl rfl ?_
  refine Q_ rfl i2_ (fun _ => rfl)<|fun z23=>⟨_, u2_, C_<|ao_ rfl (p_ (L' := (Msg.mk k (me : Nat) l z23.1).abs) tabOk rfl rfl rfl u0_ rfl (lb_ (by rfl)) rfl (by exact x_ rfl)) rfl rfl ?_⟩
  rintro _ _ ⟨rfl, rfl⟩
  refine R_ (b6, z23) (trivial) (by exact ⟨rfl, rfl, trivial⟩) sr_
 intro y hy
 obtain ⟨b6, z23⟩ := y
 dsimp only
 refine c_<|a_<|q_ 3 rfl<|d_ (i_ (C := int 4) (h_ tabOk rfl rfl l1_ List.not_mem_nil rfl) rfl) rfl rfl<|q_ 1 rfl<|g_<|b_<|w_<|aO_ 141 5<|S_ (ι := Nat × Value × List (List Abs)) (fun z => [own 141 5 z.2.1 z.2.2, .blk b6 42 (Msg.mk k (me : Nat) l z23.1).abs, .blk R.r 118 (R.cells p me dr (.v z.2.1)), wb p bd bt (N + 4)]) (fun z => [(0, ptr R.r), (6, ptr b6), (27, int 4), (28, int (z.1 : Nat))]) (fun z => z.1 ≤ 4 ∧ ParOk z.1 z.2.2) (fun z => 4 - z.1) (0, .slice none 0 0, []) (⟨Nat.zero_le _, Nat.zero_le _, fun r h => by cases h⟩) (by exact ⟨rfl, rfl, rfl, rfl, trivial⟩) sr_ ?_
 intro z hz
 refine c_<|a_<|q_ 1 rfl<|g_<|b_<|c_<|n_ rfl ?_ ?_
 rotate_left
 ·intro hc29
  refine O_<|k_ nofun<|k_ nofun<|N_<|bK_ (rs := []) rfl RV.nil (⟨(z.2.1, z.2.2), by have := hz.2.1; dsimp only; omega, hz.2.2⟩) (sc_ (sk_ sr_)) (by simp [It.rids]) ?_
  exact rfl
 intro hc29
 have hz4 : z.1 < 4 := by omega
 have hzr := hz.2.1
 refine s_<|b_<|c_<|w_<|c_<|a_<|q_ 2 rfl<|g_<|b_<|c_<|a_<|q_ 4 rfl<|d_ (i_ (C := int (me : Nat)) (h_ tabOk rfl rfl l2_ List.not_mem_nil rfl) rfl) rfl rfl<|q_ 1 rfl<|g_<|b_<|n_ rfl ?_ ?_
 rotate_left
 ·intro hc36
  refine s_<|A_<|b_<|a_<|d_ (E_ rfl rfl (by simp only [InR, lo, hi]; omega)) rfl rfl ?_
  refine q_ 1 rfl<|g_<|J_ (z.1 + 1, z.2.1, z.2.2) (by omega) ((⟨by dsimp only; omega, by dsimp only; have := hz.2.1; omega, hz.2.2⟩)) (by exact ⟨rfl, rfl, rfl, rfl, trivial⟩) sr_
 intro hc36
 refine hN_ fun hnod => ?_
 have hbx : b6 ∉ mids [own 141 5 z.2.1 z.2.2] ++ [] ∧ R.r ∉ mids [own 141 5 z.2.1 z.2.2] ++ [] := by
  have h9 : (z.2.1.ownBlock.toList ++ (b6 :: R.r :: [p, bd, bt])).Nodup := hnod
  have h8 := (List.nodup_append.1 h9).2.2
  exact ⟨fun hm => h8 b6 (by simpa [mids, It.mids, ownPc] using hm) b6 (by simp) rfl, fun hm => h8 R.r (by simpa [mids, It.mids, ownPc] using hm) R.r (by simp) rfl⟩
 refine ah_ (mids [own 141 5 z.2.1 z.2.2] ++ []) (.q 0 (.q 1 (.q 2 (.q 3 (.q 4 (.q 5 (.q 6 (.q 7 (.e 8 (.e 9 (.q 10 (.q 11 .nil)))))))))))) (by kernel_rfl) (by kernel_rfl) ?_
 refine hx_ fun hx9 =>qx_ 4 hx9 rfl<|j_ rfl (i_ (C := .v z.2.1) (h_ tabOk rfl rfl l2_ (by exact hbx.2) rfl) rfl) hx9 rfl rfl ?_
 refine qx_ 1 hx9 rfl<|j_ rfl (i_ (C := .agg (Msg.mk k (me : Nat) l z23.1).abs) (y_ tabOk rfl rfl rfl l1_ (by exact hbx.1) rfl) rfl) hx9 rfl rfl ?_
 refine j_ rfl (i_ (C := .agg (int (z.1 : Nat) :: (Msg.mk k (me : Nat) l z23.1).abs)) (u_ tabOk rfl rfl rfl rfl) rfl) hx9 rfl rfl<|ex_ rfl (ac_ tabOk Tryz.underlying116 rfl rfl rfl (aS_ rfl) rfl rfl rfl) (by simp) rfl rfl ?_
 refine ch_ [own 141 5 z.2.1 z.2.2] [] rfl (K_ (zs := z.2.2 ++ [int (z.1 : Nat) :: (Msg.mk k (me : Nat) l z23.1).abs]) tabOk [] rfl Tryz.underlying116 rfl rfl rfl rfl rfl rfl (by intro c hc; rw [List.mem_singleton] at hc; subst hc; rfl) (by unfold maxLen; simp only [List.length_cons, List.length_nil]; omega) (by rw [show Tryz.prog.bytesOf 141 = 72 by kernel_rfl]; simp only [List.length_cons, List.length_nil]; omega)) rfl (by intro k hk; simp [mids, It.mids, ownPc] at hk ⊢; simp [hk]) rfl rfl ?_
 rintro _ _ ⟨r46, rfl, rfl⟩
 refine ⟨[own 141 5 r46 (z.2.2 ++ [int (z.1 : Nat) :: (Msg.mk k (me : Nat) l z23.1).abs])], rfl, hx_ fun hx9 =>qx_ 2 hx9 rfl<|C_<|ao_ rfl (az_ (L' := R.cells p me dr (.v r46)) tabOk rfl rfl rfl rfl i0_ u2_ rfl (by rfl)) rfl rfl ?_⟩
 rintro _ _ ⟨rfl, rfl⟩
 refine A_<|b_<|a_<|d_ (E_ rfl rfl (by simp only [InR, lo, hi]; omega)) rfl rfl ?_
 refine q_ 1 rfl<|g_<|J_ (z.1 + 1, r46, z.2.2 ++ [int (z.1 : Nat) :: (Msg.mk k (me : Nat) l z23.1).abs]) (by omega) ((⟨by dsimp only; omega, by dsimp only; rw [List.length_append, List.length_singleton]; have := hz.2.1; omega, by intro r hr; rcases List.mem_append.1 hr with hr | hr; exact hz.2.2 r hr; rw [List.mem_singleton] at hr; subst hr; exact ⟨rfl, rfl⟩⟩)) (by exact ⟨rfl, rfl, rfl, rfl, trivial⟩) sr_
set_option maxHeartbeats 2000000 in
theorem iS_ (h1 : c.letter.size ≤ 1000) (h2 : c.text.size ≤ 1000) (hN : N ≤ 90000) (hm : me < 4) (hc : c.client = 4) : Spec Tryz.prog 274 [ptr R.r, coreA c] [.blk R.r 118 (R.cells p me dr (.v (.slice none 0 0))), wb p bd bt N, .rd R.vv 160 [int 4, mapV R.vm], .rdpc (tmPc R.vm paV paOk voE (vm1 (me : Int) st t mk))] (fun z : ParR 4 => [own 141 5 z.1.1 z.1.2, .blk R.r 118 (R.cells p me dr (.v z.1.1)), wb p bd bt (N + 5)]) (fun _ => .tup []) := by
 refine t_ Tryz.func274 rfl Tryz.ntmps274 rfl fun G w =>c_<|a_<|eb_ (z_ (cs := c.cells.map .v) rfl) rfl rfl fun b3=>?_
 refine g_<|b_<|c_<|a_<|q_ 1 rfl<|d_ (i_ (C := coreA c) (y_ tabOk rfl rfl rfl l0_ List.not_mem_nil rfl) rfl) rfl rfl<|m_ (rown_s (p := p) (bd := bd) (bt := bt) (N := N) (me := me) (R := R) (c := c) (dr := dr) (o := .v (.slice none 0 0)) (st := st) (t := t) (mk := mk) h1 h2 (by omega) hm hc) Casts.refl (by kernel_rfl) rfl rfl rfl ?_
 refine aA_ (ys := [.blk R.r 118 (R.cells p me dr (.v (.slice none 0 0))), .rd R.vv 160 [int 4, mapV R.vm], .rdpc (tmPc R.vm paV paOk voE (vm1 (me : Int) st t mk))]) rfl i2_ (by intro y hy; simp only [List.mem_cons, List.not_mem_nil, or_false] at hy; rcases hy with rfl | rfl | rfl <;> exact ⟨(by repeat first|assumption|exact m0_|apply m1_), by intro h; cases h⟩) rfl (fun _ => rfl) ?_
 intro z9
 refine ⟨_, u2_, q_ 3 rfl<|eb_ (F_ tabOk rfl) rfl rfl fun b4=>?_⟩
 refine e_ (p_ (L' := (if z9 = true then voL st t mk else voZ)) tabOk rfl rfl rfl u0_ iv_ (Nat.le_of_ble_eq_true rfl) vz_ones (by exact x_ iv_)) rfl rfl ?_
 refine q_ 1 rfl<|g_<|b_<|c_<|a_<|q_ 1 rfl<|g_<|b_<|ay_ rfl ?_ ?_
 rotate_left
 ·intro hc12
  refine aO_ 141 5<|b8_ [_, _, _, _] (Re.wbUp (M := N + 5) (by omega)) rfl ?_
  refine s_<|bK_ (rs := []) rfl RV.nil (⟨(.slice none 0 0, []), Nat.zero_le _, fun r h => by cases h⟩) (sc_ (sk_ (sk_ (sc_ (sc_ sn_))))) (by simp [It.rids]) ?_
  exact rfl
 intro hc12
 refine a_<|q_ 1 rfl<|d_ (i_ (C := .agg (voL st t mk)) (y_ tabOk rfl rfl rfl l0_ List.not_mem_nil iv_) (congrArg Abs.agg (if_pos hc12))) rfl rfl<|m_ (wvb_s (st := st) (t := t) (mk := mk)) Casts.refl (by kernel_rfl) rfl rfl rfl ?_
 refine ap_<|fun z15=>m_ (rsay_s (p := p) (bd := bd) (bt := bt) (N := N + 1) (me := me) (R := R) (dr := dr) (k := 2) (l := z15.1) (by have := z15.2; omega) hm (by omega)) Casts.refl (by kernel_rfl) rfl rfl rfl ?_
 refine M_ [_, _] (β := [_, _]) rfl (by intro x hx; simp only [List.mem_cons, List.not_mem_nil, or_false] at hx; rcases hx with rfl | rfl <;> rfl) ?_
 intro z16
 refine g_<|bK_ (rs := []) rfl RV.nil (z16) (sk_ (sk_ (sc_ (sc_ (sc_ sn_))))) (by simp [It.rids]) ?_
 exact rfl
theorem rawait_s (hc : c.client = 4) : Spec Tryz.prog 271 [ptr R.r, coreA c] [.pc (tmPc R.pd intK intOk coE []), .rd R.r 118 (R.cells p me dr o)] (fun _ : Unit => [.pc (tmPc R.pd intK intOk coE [(4, c)])]) (fun _ => int 0) := by
 refine t_ Tryz.func271 rfl Tryz.ntmps271 rfl fun G w =>c_<|a_<|eb_ (z_ (cs := c.cells.map .v) rfl) rfl rfl fun b3=>?_
 refine q_ 1 rfl<|g_<|b_<|c_<|T_ [] (.q 0 (.q 1 (.q 2 (.q 3 (.q 4 (.q 5 (.q 6 (.q 7 (.q 8 (.q 9 (.e 10 (.e 11 (.q 12 .nil))))))))))))) (by kernel_rfl) (by kernel_rfl) ?_
 refine qs_ 3 rfl<|X_ (by (simp [mids, It.mids, ownPc, mapPc, tmPc, wbP, exP]; done)) fun hx9 => ?_
 refine j_ rfl (i_ (C := mapV R.pd) (h_ tabOk rfl rfl r2_ List.not_mem_nil rfl) rfl) hx9 rfl rfl<|qs_ 1 rfl<|j_ rfl (i_ (C := int 4) (h_ tabOk rfl rfl l0_ List.not_mem_nil rfl) (congrArg int hc)) hx9 rfl rfl<|j_ rfl (i_ (C := .tup [coreA co0, boo false]) (et_ (a := 4) (m := []) (enc := coE) (z0 := co0) (zv := zco) (bh_ Tryz.underlying3) Tryz.underlying113 gj_ gk_ rfl l1_ List.not_mem_nil rfl is_v (by unfold intOk; simp only [InR, lo, hi]; omega)) rfl) hx9 rfl rfl ?_
 refine qx_ 1 hx9 rfl<|qs_ 2 rfl<|be_ tabOk rfl rfl rfl rfl fun b5 =>ex_ rfl (p_ (L' := co0.cells.map .v) tabOk rfl rfl rfl u0_ rfl (Nat.le_of_ble_eq_true rfl) rfl (by exact x_ rfl)) (by simp) rfl rfl ?_
 refine X_ (by (simp [mids, It.mids, ownPc, mapPc, tmPc, wbP, exP]; done)) fun hx9 => ?_
 refine qx_ 1 hx9 rfl<|C_<|b_<|c_<|w_<|c_<|a_<|q_ 9 rfl<|g_<|b_<|I_ rfl<|c_<|a_<|q_ 14 rfl<|g_<|b_<|I_ rfl<|s_<|A_<|b_<|c_<|ah_ [] (.q 0 (.q 1 (.q 2 (.q 3 (.q 4 (.q 5 (.q 6 .nil))))))) (by kernel_rfl) (by kernel_rfl) ?_
 refine qs_ 3 rfl<|hx_ fun hx9 =>j_ rfl (i_ (C := mapV R.pd) (h_ tabOk rfl rfl r3_ List.not_mem_nil rfl) rfl) hx9 rfl rfl<|qs_ 1 rfl<|j_ rfl (i_ (C := int 4) (h_ tabOk rfl rfl l1_ List.not_mem_nil rfl) (congrArg int hc)) hx9 rfl rfl<|j_ rfl (i_ (C := coreA c) (y_ tabOk rfl rfl rfl l1_ List.not_mem_nil rfl) rfl) hx9 rfl rfl<|C_<|ao_ rfl (bB_ (enc := coE) (m := []) (a := (4 : Int)) (v := c) (m' := [(4, c)]) (bh_ Tryz.underlying3) Tryz.underlying113 rfl u2_ rfl is_v (by unfold intOk; simp only [InR, lo, hi]; omega) rfl rfl) rfl rfl ?_
 rintro _ _ ⟨rfl, rfl⟩
 exact b_<|c_<|a_<|q_ 1 rfl<|g_<|b_<|o_<|f_ (rs := [.tmp 4]) rfl (RV.tmp rfl RV.nil) (()) (sk_ (sk_ (sc_ sn_)))<|rfl
end
section
variable {x k1 k2 b : Nat} {k : Int} {caps : List Abs}
theorem idx0_s  : Spec Tryz.prog 418 [.v (.slice none 0 0), .fn (.func b) [] caps] [] (fun _ : Unit => []) (fun _ => int (-1)) := by
 refine t_ Tryz.func418 rfl Tryz.ntmps418 rfl fun G w =>c_<|a_<|q_ 1 rfl<|g_<|b_<|c_<|c_<|a_<|q_ 1 rfl<|d_ (af_ (m := 0) rfl Tryz.underlying124) rfl rfl<|q_ 1 rfl<|g_<|b_<|w_<|S_ (ι := Unit) (fun z => []) (fun z => [(7, int (0 : Nat)), (8, int 0)]) (fun z => True) (fun z => 0) (()) (trivial) (by exact ⟨rfl, rfl, trivial⟩) sn_ ?_
 intro z hz
 refine c_<|a_<|q_ 1 rfl<|g_<|b_<|c_<|n_ rfl (by intro hc9; exfalso; omega) ?_
 intro hc9
 exact O_<|k_ nofun<|k_ nofun<|N_<|b_<|c_<|a_<|q_ 1 rfl<|g_<|b_<|o_<|f_ (rs := [.tmp 4]) rfl (RV.tmp rfl RV.nil) (()) sn_<|rfl
theorem plc0_s  : Spec Tryz.prog 382 [.v (.slice none 0 0), int k, .fn (.func k1) [] []] [] (fun _ : Unit => []) (fun _ => .tup [int 0, boo false]) := by
 refine t_ Tryz.func382 rfl Tryz.ntmps382 rfl fun G w =>c_<|a_<|eb_ (a3_ rfl rfl) rfl rfl fun b4=>?_
 refine eb_ (a3_ rfl rfl) rfl rfl fun b5=>?_
 refine q_ 2 rfl<|g_<|b_<|c_<|c_<|a_<|q_ 1 rfl<|d_ (ag_ rfl rfl) rfl rfl<|m_ (idx0_s) Casts.refl (by kernel_rfl) rfl rfl rfl ?_
 refine ap_<|fun _=>q_ 1 rfl<|g_<|b_<|c_<|a_<|q_ 2 rfl<|g_<|b_<|n_ rfl (by intro hc14; exfalso; omega) ?_
 intro hc14
 refine s_<|b_<|c_<|c_<|a_<|q_ 1 rfl<|d_ (ag_ rfl rfl) rfl rfl<|m_ (idx0_s) Casts.refl (by kernel_rfl) rfl rfl rfl ?_
 refine ap_<|fun _=>q_ 1 rfl<|g_<|b_<|c_<|a_<|q_ 2 rfl<|g_<|b_<|n_ rfl (by intro hc20; exfalso; omega) ?_
 intro hc20
 exact s_<|b_<|c_<|a_<|q_ 1 rfl<|d_ (af_ (m := 0) rfl Tryz.underlying124) rfl rfl<|q_ 2 rfl<|g_<|b_<|o_<|f_ (rs := [.tmp 6, .tmp 7]) rfl (RV.tmp rfl (RV.tmp rfl RV.nil)) (()) sn_<|rfl
theorem last0_s  : Spec Tryz.prog 338 [.agg [int 0, int 0, .v (.slice none 0 0), .v (.slice none 0 0)], int k] [] (fun _ : Unit => []) (fun _ => .tup [.agg [int 0, int 0, int 0], boo false]) := by
 refine t_ Tryz.func338 rfl Tryz.ntmps338 rfl fun G w =>c_<|a_<|eb_ (z_ (cs := [int 0, int 0, .v (.slice none 0 0), .v (.slice none 0 0)]) rfl) rfl rfl fun b2=>?_
 refine eb_ (F_ tabOk rfl) rfl rfl fun b4=>?_
 refine q_ 1 rfl<|g_<|b_<|c_<|a_<|q_ 1 rfl<|d_ (i_ (C := .v (.slice none 0 0)) (h_ tabOk rfl rfl l1_ List.not_mem_nil rfl) rfl) rfl rfl<|q_ 1 rfl<|m_ (plc0_s (k := k)) Casts.refl (by kernel_rfl) rfl rfl rfl ?_
 refine ap_<|fun _=>q_ 5 rfl<|g_<|b_<|c_<|c_<|a_<|q_ 1 rfl<|d_ (cr_ rfl) rfl rfl<|g_<|b_<|ab_ rfl<|c_<|a_<|d_ (u_ tabOk rfl rfl rfl rfl) rfl rfl<|e_ (p_ (L' := [int 0, int 0, int 0]) tabOk rfl rfl rfl u0_ rfl (Nat.le_of_ble_eq_true rfl) rfl (by exact x_ rfl)) rfl rfl ?_
 refine q_ 1 rfl<|g_<|b_<|o_<|k_ nofun<|f_ (rs := [.cell 4 237, .tmp 5]) rfl (RV.cell rfl (RV.cellA tabOk rfl rfl l0_ (by rfl)) (RV.tmp rfl RV.nil)) (()) sn_ ?_
 exact rfl
theorem gZ_  : Spec Tryz.prog 270 [ptr x, int k] [.rd x 179 [int 4, int 0, int 0, .v (.slice none 0 0), .v (.slice none 0 0), .v (.slice none 0 0)]] (fun _ : Unit => []) (fun _ => .tup [.agg [int 0, int 0, int 0], boo false]) := by
 refine t_ Tryz.func270 rfl Tryz.ntmps270 rfl fun G w =>c_<|a_<|eb_ (F_ tabOk rfl) rfl rfl fun b4=>?_
 refine q_ 1 rfl<|g_<|b_<|c_<|c_<|a_<|q_ 1 rfl<|d_ (ax_ rfl rfl (by kernel_rfl)) rfl rfl ?_
 refine g_<|b_<|I_ rfl<|s_<|b_<|c_<|a_<|q_ 3 rfl<|d_ (i_ (C := .agg [int 0, int 0, .v (.slice none 0 0), .v (.slice none 0 0)]) (al_ tabOk rfl rfl rfl r1_ List.not_mem_nil (Nat.le_of_ble_eq_true rfl)) rfl) rfl rfl<|q_ 1 rfl<|m_ (last0_s (k := k)) Casts.refl (by kernel_rfl) rfl rfl rfl ?_
 refine ap_<|fun _=>q_ 2 rfl<|e_ (p_ (L' := [int 0, int 0, int 0]) tabOk rfl rfl rfl u0_ rfl (Nat.le_of_ble_eq_true rfl) rfl (by exact x_ rfl)) rfl rfl ?_
 refine q_ 1 rfl<|g_<|b_<|o_<|f_ (rs := [.cell 4 237, .tmp 5]) rfl (RV.cell rfl (RV.cellA tabOk rfl rfl l0_ (by rfl)) (RV.tmp rfl RV.nil)) (()) sn_ ?_
 exact rfl
end
end Go.Proofs.YtjclgkddfjbdiaaGreatDoor.A
