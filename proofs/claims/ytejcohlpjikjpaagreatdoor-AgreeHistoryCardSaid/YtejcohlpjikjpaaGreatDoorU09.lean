/-
  Packed out of the texts: A26, AG1, AG2.
-/
import Derived.Test.YtejcohlpjikjpaaGreatDoorU08
/-
  The second engine: maps of rows of the call's own: a row taken out, and put back; all of them as rows that are read.
-/
set_option maxRecDepth 100000
set_option linter.unusedSimpArgs false
set_option linter.unusedVariables false
namespace Go.Proofs.YtejcohlpjikjpaaGreatDoor.A
open Go.RowKit

section
variable {xs ys zs : Blks} {x : It}
theorem Re.bigPerm (hp : xs.Perm ys) (hx : xs.all isMut = true) : Re [.pc (bigI xs)] [.pc (bigI ys)] := by
  have hy : ys.all isMut = true := List.all_eq_true.2 fun y hy => List.all_eq_true.1 hx y (hp.mem_iff.2 hy)
  refine ⟨⟨[], ?_⟩, by simp [It.rids], fun K w h y hy2 => ?_⟩
  · rw [mids_big hx, mids_big hy, List.append_nil]
    exact mids_perm hp
  · rw [List.mem_singleton.1 hy2]
    exact (bigI_p hy).2 fun z hz => (bigI_p hx).1 (h _ List.mem_cons_self) z (hp.mem_iff.2 hz)
theorem mids_two (h : xs.all isMut = true) : mids [x, .pc (bigI xs)] = mids (x :: xs) := by
  rw [mids_cons, mids_big h, mids_cons]
theorem Re.bigCons (h : (x :: xs).all isMut = true) : Re [.pc (bigI (x :: xs))] [x, .pc (bigI xs)] := by
  have h1 : isMut x = true ∧ xs.all isMut = true := by rw [List.all_cons, Bool.and_eq_true] at h; exact h
  refine ⟨⟨[], ?_⟩, fun y hy => ?_, fun K w hh y hy => ?_⟩
  · rw [mids_big h, mids_two h1.2, List.append_nil]
  · rcases List.mem_cons.1 hy with rfl | hy
    · exact mut_rids h1.1
    · rw [List.mem_singleton.1 hy]; rfl
  · have h2 := (bigI_p h).1 (hh _ List.mem_cons_self)
    rcases List.mem_cons.1 hy with rfl | hy
    · exact h2 _ List.mem_cons_self
    · rw [List.mem_singleton.1 hy]
      exact (bigI_p h1.2).2 fun z hz => h2 z (List.mem_cons_of_mem _ hz)
theorem Re.bigBack (h : (x :: xs).all isMut = true) : Re [x, .pc (bigI xs)] [.pc (bigI (x :: xs))] := by
  have h1 : isMut x = true ∧ xs.all isMut = true := by rw [List.all_cons, Bool.and_eq_true] at h; exact h
  refine ⟨⟨[], ?_⟩, by simp [It.rids], fun K w hh y hy => ?_⟩
  · rw [mids_big h, mids_two h1.2, List.append_nil]
  · rw [List.mem_singleton.1 hy]
    refine (bigI_p h).2 fun z hz => ?_
    rcases List.mem_cons.1 hz with rfl | hz
    · exact hh _ List.mem_cons_self
    · exact (bigI_p h1.2).1 (hh _ (List.mem_cons_of_mem _ List.mem_cons_self)) z hz
end
/-! ### Maps as lists of pairs -/
section
variable {α γ : Type} [DecidableEq α] {m : List (α × γ)} {a : α} {u : γ}
theorem aget_perm (hn : (m.map (·.1)).Nodup) (h : aget m a = some u) : m.Perm ((a, u) :: adel m a) := by
  induction m with
  | nil => cases h
  | cons p m ih =>
    rw [List.map_cons, List.nodup_cons] at hn
    by_cases hp : p.1 = a
    · have hu : p.2 = u := by
        unfold aget at h
        rw [List.find?_cons, decide_eq_true hp] at h
        exact Option.some.inj h
      have hd : adel (p :: m) a = m := by
        have h1 : adel (p :: m) a = adel m a := List.filter_cons_of_neg (by simpa using hp)
        rw [h1]
        exact adel_none ((aget_none m a).2 (hp ▸ hn.1))
      rw [hd, ← hp, ← hu]
    · have h1 : aget m a = some u := by
        unfold aget at h ⊢
        rw [List.find?_cons, decide_eq_false hp] at h
        exact h
      have h2 : adel (p :: m) a = p :: adel m a := List.filter_cons_of_pos (by simpa using hp)
      rw [h2]
      exact ((ih hn.2 h1).cons p).trans (List.Perm.swap _ _ _)
theorem adel_same (u : γ) : ∀ m : List (α × γ), adel (m.map fun p => if p.1 = a then (a, u) else p) a = adel m a
  | [] => rfl
  | p :: m => by
    have ih := adel_same u m
    rw [List.map_cons]
    unfold adel at ih ⊢
    by_cases hp : p.1 = a
    · rw [if_pos hp, List.filter_cons_of_neg (by simp), List.filter_cons_of_neg (by simpa using hp), ih]
    · rw [if_neg hp, List.filter_cons_of_pos (by simpa using hp), List.filter_cons_of_pos (by simpa using hp), ih]
theorem adel_aput : adel (aput m a u) a = adel m a := by
  unfold aput
  split
  · exact adel_same u m
  · unfold adel
    rw [List.filter_append]
    simp
theorem aput_perm (hn : (m.map (·.1)).Nodup) : (aput m a u).Perm ((a, u) :: adel m a) := by
  have h := aget_perm (aput_nodup hn a u) (a := a) (u := u) (by rw [aget_aput, if_pos rfl])
  rw [adel_aput] at h
  exact h
end
/-! ### The rows -/
section
variable {α β : Type} [DecidableEq α] {tm : List (α × (Value × β))} {a : α} {v : Value} {x z0 : β} {f : β → List (List Abs)} {T : TypeId} {s : Nat}
def rowsB {α : Type} (T : TypeId) (s : Nat) (f : β → List (List Abs)) (tm : List (α × (Value × β))) : Blks := tm.map fun e => own T s e.2.1 (f e.2.2)
abbrev rowsPc {α : Type} (T : TypeId) (s : Nat) (f : β → List (List Abs)) (tm : List (α × (Value × β))) : Pc := bigI (rowsB T s f tm)
def rowV (tm : List (α × (Value × β))) (a : α) : Value := ((aget tm a).map (·.1)).getD (.slice none 0 0)
def rowD (tm : List (α × (Value × β))) (a : α) (z0 : β) : β := ((aget tm a).map (·.2)).getD z0
omit [DecidableEq α] in
theorem rowsB_mut : (rowsB T s f tm).all isMut = true := by
  unfold rowsB
  rw [List.all_map]
  exact List.all_eq_true.2 fun _ _ => rfl
omit [DecidableEq α] in
theorem rowsB_perm {tm' : List (α × (Value × β))} (h : tm.Perm tm') : (rowsB T s f tm).Perm (rowsB T s f tm') := h.map _
omit [DecidableEq α] in
theorem Re.rows0 : Re [] [.pc (rowsPc T s f ([] : List (α × (Value × β))))] := ⟨⟨[], by rw [show mids [It.pc (rowsPc T s f ([] : List (α × (Value × β))))] = [] from mids_big rfl]; exact List.Perm.refl _⟩, by simp [It.rids], fun K w _ y hy => by
  rw [List.mem_singleton.1 hy]
  exact (bigI_p rfl).2 fun z hz => by cases hz⟩
theorem Re.rowOut (hn : (tm.map (·.1)).Nodup) (hz : f z0 = []) : Re [.pc (rowsPc T s f tm)] [own T s (rowV tm a) (f (rowD tm a z0)), .pc (rowsPc T s f (adel tm a))] := by
  cases h : aget tm a with
  | none =>
    have h1 : rowV tm a = .slice none 0 0 := by unfold rowV; rw [h]; rfl
    have h2 : f (rowD tm a z0) = [] := by unfold rowD; rw [h]; exact hz
    rw [h1, h2, adel_none h]
    refine ⟨⟨[], by simp [mids, It.mids, ownPc, Value.ownBlock]⟩, fun y hy => ?_, fun K w hh y hy => ?_⟩
    · rcases List.mem_cons.1 hy with rfl | hy
      · rfl
      · rw [List.mem_singleton.1 hy]; rfl
    · rcases List.mem_cons.1 hy with rfl | hy
      · exact ⟨[], ⟨by simp, .inl ⟨rfl, rfl⟩⟩, rfl⟩
      · rw [List.mem_singleton.1 hy]
        exact hh _ List.mem_cons_self
  | some u =>
    have h1 : rowV tm a = u.1 := by unfold rowV; rw [h]; rfl
    have h2 : rowD tm a z0 = u.2 := by unfold rowD; rw [h]; rfl
    rw [h1, h2]
    have h3 := rowsB_perm (T := T) (s := s) (f := f) (aget_perm hn h)
    exact (Re.bigPerm h3 rowsB_mut).trans (Re.bigCons (rowsB_mut (tm := (a, u) :: adel tm a)))
theorem Re.rowIn (hn : (tm.map (·.1)).Nodup) : Re [own T s v (f x), .pc (rowsPc T s f (adel tm a))] [.pc (rowsPc T s f (aput tm a (v, x)))] :=
  (Re.bigBack (rowsB_mut (T := T) (s := s) (f := f) (tm := (a, (v, x)) :: adel tm a))).trans (Re.bigPerm (rowsB_perm (aput_perm hn).symm) rowsB_mut)
theorem rowV_raw : (((aget (rawM tm) a).map id).getD (.slice none 0 0)) = rowV tm a := by
  rw [rawM_get]
  unfold rowV
  cases aget tm a <;> rfl
omit [DecidableEq α] in
theorem rows_rep {w0 w : World} {F G : List Nat} {pre post : Blks} (h : Mem w0 F G (pre ++ .pc (rowsPc T s f tm) :: post) w) : ∀ e ∈ tm, rep (mids (pre ++ post) ++ G) w (.sl s (f e.2.2)) e.2.1 := by
  intro e he
  obtain ⟨l1, l2, rfl⟩ := List.append_of_mem he
  have hr := (Re.bigPerm (rowsB_perm (T := T) (s := s) (f := f) (List.perm_middle (l₁ := l1) (a := e) (l₂ := l2))) rowsB_mut).trans (Re.bigCons (rowsB_mut (tm := e :: (l1 ++ l2))))
  obtain ⟨zs, hz⟩ := hr.ids
  have h1 := (Mem.regroup (α := pre) (β := post) hz hr.rd (fun K => hr.hh K w) h).1
  have h2 := own_sl (e := T) (s := s) (v := e.2.1) (xs := f e.2.2) (pre := pre) (post := .pc (rowsPc T s f (l1 ++ l2)) :: post) h1
  refine rep_carry (Carry.less fun k hk => ?_) _ _ h2
  rcases List.mem_append.1 hk with hk | hk
  · refine List.mem_append_left _ ?_
    rw [mids_append] at hk ⊢
    rw [mids_cons]
    rcases List.mem_append.1 hk with hk | hk
    · exact List.mem_append_left _ hk
    · exact List.mem_append_right _ (List.mem_append_right _ hk)
  · exact List.mem_append_right _ hk
variable {P : Program} {n : Nat} {W : Wd} {σ : Blks} {l : Slots} {ops : Array Oper} {rest : List Oper} {Q : Exit → Act → World → Prop} {ix : Plan} {X : List Nat}
omit [DecidableEq α] in
/-- All rows of a map, as rows that are read. -/
theorem St.rowsFacts {a : Act} {w : World} {pre post : Blks} (h : St n W (pre ++ .pc (rowsPc T s f tm) :: post) l a w) : St n W (facts (facM (fun x => .sl s (f x)) tm) :: (pre ++ post)) l a w := by
  have h1 := h.less (τ := pre ++ post) (List.Sublist.append (List.Sublist.refl _) (List.sublist_cons_self _ _))
  have h2 := rows_rep h.mem
  have h3 := h1.mem.new (y := facts (facM (fun x => .sl s (f x)) tm)) (Ext.refl w) (by simp [It.mids, factsPc]) (by simp [It.mids, factsPc]) rfl fun hc y hy => by
    obtain ⟨e, he, rfl⟩ := List.mem_map.1 hy
    exact rep_carry hc _ _ (h2 e he)
  exact h1.to h3.1 h3.2
omit [DecidableEq α] in
theorem SC.rowsFacts {c : Code} (pre : Blks) {post : Blks} (hσ : σ = pre ++ .pc (rowsPc T s f tm) :: post) (k : SC P c (St n W (facts (facM (fun x => .sl s (f x)) tm) :: (pre ++ post)) l) Q) : SC P c (St n W σ l) Q := by
  subst hσ; exact fun a w h => k a w h.rowsFacts
omit [DecidableEq α] in
theorem SL.rowsFacts (pre : Blks) {post : Blks} (hσ : σ = pre ++ .pc (rowsPc T s f tm) :: post) (k : SL P ops rest (St n W (facts (facM (fun x => .sl s (f x)) tm) :: (pre ++ post)) l) Q) : SL P ops rest (St n W σ l) Q := by
  subst hσ; exact fun a w h => k a w h.rowsFacts
omit [DecidableEq α] in
theorem SE.rowsFacts {ex : Exit} (pre : Blks) {post : Blks} (hσ : σ = pre ++ .pc (rowsPc T s f tm) :: post) (k : SE ex (St n W (facts (facM (fun x => .sl s (f x)) tm) :: (pre ++ post)) l) Q) : SE ex (St n W σ l) Q := by
  subst hσ; exact fun a w h => k a w h.rowsFacts
theorem nod_four {x y z v : It} {β : Blks} (h : (mids (x :: y :: z :: v :: β)).Nodup) {k : Nat} (hk : k ∈ x.mids) : k ∉ y.mids ++ v.mids := by
  rw [mids_cons, List.nodup_append] at h
  intro hm
  refine h.2.2 k hk k ?_ rfl
  rw [mids_cons, mids_cons, mids_cons]
  rcases List.mem_append.1 hm with hm | hm
  · exact List.mem_append_left _ hm
  · exact List.mem_append_right _ (List.mem_append_right _ (List.mem_append_left _ hm))
theorem mem_four {x y z v : It} {β : Blks} {k : Nat} (h : k ∈ y.mids ++ v.mids) : k ∈ mids (x :: y :: z :: v :: β) := by
  rw [mids_cons, mids_cons, mids_cons, mids_cons]
  rcases List.mem_append.1 h with h | h
  · exact List.mem_append_right _ (List.mem_append_left _ h)
  · exact List.mem_append_right _ (List.mem_append_right _ (List.mem_append_right _ (List.mem_append_left _ h)))
omit [DecidableEq α] in
/-- The pieces lie apart. -/
theorem SC.nod {c : Code} (k : (mids σ).Nodup → SC P c (St n W σ l) Q) : SC P c (St n W σ l) Q := fun a w h => k h.mem.nodup a w h
end
end Go.Proofs.YtejcohlpjikjpaaGreatDoor.A
/-
  Agree: deeds of a number.
-/
namespace Go.Proofs.YtejcohlpjikjpaaGreatDoor.A
open Go.RowKit

theorem zero_sl (w : World) : (zeroValue 24).run Tryz.prog w = .ok (.slice none 0 0) w := by kernel_rfl
theorem i64_in {a : Int} (h : i64ok a) : intOk a := h
section
variable {xs : List Dd} {p : Dd → Bool} {k : Nat} {caps : List Abs} {σ : Blks} {l : List Dd} {x : Dd} {b : Nat}
theorem dindex_s (hb : goesIn Tryz.prog k = true) (hr : RdAll σ) (h : ∀ x ∈ xs, Spec Tryz.prog k (.agg x.abs :: caps) σ (fun _ : Unit => []) (fun _ => boo (p x))) : Spec Tryz.prog 43 [ddsA xs, .fn (.func k) [] caps] σ (fun _ : {q : Int // (q = -1 ∧ ∀ x ∈ xs, p x = false) ∨ ∃ z, ∃ h : z < xs.length, p xs[z] = true ∧ (∀ j (hj : j < xs.length), j < z → p xs[j] = false) ∧ q = (z : Nat)} => []) (fun z => int z.1) := by
 refine spec_of Tryz.func43 rfl Tryz.ntmps43 rfl fun G w => ?_
 refine SC.seq (SC.region ?_)
 refine SL.val (Val.assign rfl) rfl rfl ?_
 refine SL.nil (SE.seq ?_)
 refine SC.seq ?_
 refine SC.seq (SC.region ?_)
 refine SL.val (Val.move rfl) rfl rfl ?_
 first
  | refine SL.val (Val.lenSl rfl Tryz.underlying24 (List.length_map _)) rfl rfl ?_
  | refine SL.val (Val.lenOwn rfl (by repeat first|assumption|exact m0|apply m1) Tryz.underlying24 (List.length_map _)) rfl rfl ?_
  | refine SL.val (Val.lenNil rfl Tryz.underlying24) rfl rfl ?_
 refine SL.val (Val.move rfl) rfl rfl ?_
 refine SL.nil (SE.seq ?_)
 refine SC.block ?_
 refine SC.rowLe (i := 6) rfl fun hrow => ?_
 rw [List.length_map] at hrow
 unfold maxLen at hrow
 refine SC.loop (ι := Nat) (fun z => σ) (fun z => [(0, ddsA xs), (1, .fn (.func k) [] caps), (6, ddsA xs), (7, int (xs.length : Nat)), (8, int (z : Nat))]) (fun z => z ≤ xs.length ∧ ∀ j (hj : j < xs.length), j < z → p xs[j] = false) (fun z => xs.length - z) (0) (⟨Nat.zero_le _, fun j hj h => by omega⟩) (by exact ⟨rfl, rfl, rfl, rfl, rfl, trivial⟩) (by repeat first|exact s0 _|exact s1 _|apply s2|apply s3) ?_
 intro z hz
 refine SC.seq (SC.region ?_)
 refine SL.val (Val.ltI rfl rfl) rfl rfl ?_
 refine SL.nil (SE.seq ?_)
 refine SC.seq ?_
 refine SC.condP rfl ?_ ?_
 rotate_left
 ·intro hc9
  refine SC.exit ?_
  refine SE.then_ nofun ?_
  refine SE.then_ nofun ?_
  refine SE.exit ?_
  refine SE.seq ?_
  refine SC.seq (SC.region ?_)
  refine SL.val (Val.assign rfl) rfl rfl ?_
  refine SL.nil (SE.seq ?_)
  refine SC.ret ?_
  refine SE.fin (rs := [.tmp 4]) rfl (RV.tmp rfl RV.nil) (⟨-1, .inl ⟨rfl, fun x hx => by obtain ⟨j, hj, rfl⟩ := List.getElem_of_mem hx; exact hz.2 j hj (by omega)⟩⟩) (by repeat first|exact s0 _|exact s1 _|apply s2|apply s3) (by simp [It.rids]) ?_
  exact rfl
 intro hc9
 have hlt : z < xs.length := by omega
 refine SC.skip ?_
 refine SE.seq ?_
 refine SC.seq ?_
 refine SC.block ?_
 refine SC.seq (SC.region ?_)
 refine SL.val (Val.move rfl) rfl rfl ?_
 refine SL.val (Val.assign rfl) rfl rfl ?_
 refine SL.nil (SE.seq ?_)
 refine SC.seq (SC.region ?_)
 iterate 3 refine SL.val (Val.move rfl) rfl rfl ?_
 refine SL.val (Val.indexSl tabOk Tryz.underlying24 rfl rfl rfl rfl (at_map (by omega)) rfl rfl) rfl rfl ?_
 refine SL.val (Val.loadAR tabOk rfl rfl rfl (by rfl)) rfl rfl ?_
 refine SL.callv (h _ (List.getElem_mem hlt)) rfl Casts.refl hb rfl rfl rfl ?_
 refine After.pure (RdAll.reads hr (fun x hx => by repeat (first | exact hx | apply List.mem_cons_of_mem))) (fun _ => rfl) ?_
 intro _
 refine SL.nil (SE.seq ?_)
 refine SC.cond rfl ?_ ?_
 ·intro hc16
  refine SC.seq (SC.region ?_)
  refine SL.val (Val.move rfl) rfl rfl ?_
  refine SL.val (Val.assign rfl) rfl rfl ?_
  refine SL.nil (SE.seq ?_)
  refine SC.ret ?_
  refine SE.ret ?_
  refine SE.then_ nofun ?_
  refine SE.then_ nofun ?_
  refine SE.ret ?_
  refine SE.then_ nofun ?_
  refine SE.fin (rs := [.tmp 4]) rfl (RV.tmp rfl RV.nil) (⟨(z : Nat), .inr ⟨z, hlt, by simpa using hc16, hz.2, rfl⟩⟩) (by repeat first|exact s0 _|exact s1 _|apply s2|apply s3) (by simp [It.rids]) ?_
  exact rfl
 intro hc16
 refine SC.skip ?_
 refine SE.inBlock ?_
 refine SE.seq ?_
 refine SC.region ?_
 first
  | refine SL.val (Val.addI rfl rfl (by simp only [InR, lo, hi]; omega)) rfl rfl ?_
  | refine SL.val (Val.addW rfl rfl) rfl rfl ?_
 refine SL.val (Val.move rfl) rfl rfl ?_
 refine SL.nil ?_
 refine SE.round (z + 1) (by first | omega | (dsimp only; omega)) (⟨by omega, fun j hj hjz => by
  rcases Nat.lt_or_ge j z with h1 | h1
  ·exact hz.2 j hj h1
  obtain rfl : j = z := (by omega)
  simpa using hc16⟩) (by exact ⟨rfl, rfl, rfl, rfl, rfl, trivial⟩) (by repeat first|exact s0 _|exact s1 _|apply s2|apply s3)
theorem dcontains_s (hb : goesIn Tryz.prog k = true) (hr : RdAll σ) (h : ∀ x ∈ xs, Spec Tryz.prog k (.agg x.abs :: caps) σ (fun _ : Unit => []) (fun _ => boo (p x))) : Spec Tryz.prog 38 [ddsA xs, .fn (.func k) [] caps] σ (fun _ : Unit => []) (fun _ => boo (xs.any p)) := by
 refine spec_of Tryz.func38 rfl Tryz.ntmps38 rfl fun G w => ?_
 refine SC.seq (SC.region ?_)
 refine SL.val (Val.assign rfl) rfl rfl ?_
 refine SL.nil (SE.seq ?_)
 refine SC.seq (SC.region ?_)
 iterate 2 refine SL.val (Val.move rfl) rfl rfl ?_
 refine SL.call (dindex_s hb hr h) Casts.refl (by kernel_rfl) rfl rfl rfl ?_
 refine After.pure (RdAll.reads hr (fun x hx => by repeat (first | exact hx | apply List.mem_cons_of_mem))) (fun _ => rfl) ?_
 intro q0
 refine SL.val (Val.geI rfl rfl) rfl rfl ?_
 refine SL.val (Val.assign rfl) rfl rfl ?_
 refine SL.nil (SE.seq ?_)
 refine SC.ret ?_
 refine SE.fin (rs := [.tmp 4]) rfl (RV.tmp rfl RV.nil) (()) (by repeat first|exact s0 _|exact s1 _|apply s2|apply s3) (by simp [It.rids]) ?_
 rcases q0.2 with ⟨h1, h2⟩ | ⟨j, hj, h1, _, h3⟩
 ·refine congrArg (fun b => Abs.v (Value.bool b)) ?_
  rw [h1, List.any_eq_false.2 (fun x hx => by rw [h2 x hx]; decide)]
  rfl
 ·refine congrArg (fun b => Abs.v (Value.bool b)) ?_
  rw [h3, List.any_eq_true.2 ⟨_, List.getElem_mem hj, h1⟩]
  exact decide_eq_true (by omega)
theorem same1_s {y : Dd} (hx : ∀ e ∈ x.batch, EnIns e) (hy : ∀ e ∈ y.batch, EnIns e) (hl : x.batch.length ≤ 1000000) (h0 : l.head? = some y) : Spec Tryz.prog 39 [.agg x.abs, ptr b] [.rd b 24 [ddsA l]] (fun _ : Unit => []) (fun _ => boo (decide (¬ x.batch = y.batch))) := by
 refine spec_of Tryz.func39 rfl Tryz.ntmps39 rfl fun G w => ?_
 refine SC.seq (SC.region ?_)
 refine SL.eff (Eff.boxA (cs := x.abs) rfl) rfl rfl ?_
 rintro _ _ ⟨b2, rfl, rfl⟩
 refine SL.val (Val.assign rfl) rfl rfl ?_
 refine SL.nil (SE.seq ?_)
 refine SC.seq ?_
 refine SC.draw [] (.q 0 (.q 1 (.q 2 (.q 3 (.q 4 (.q 5 (.e 6 (.q 7 (.q 8 .nil))))))))) (by kernel_rfl) (by kernel_rfl) ?_
 refine SX.val rfl (Val.fieldAddr tabOk rfl rfl rfl rfl rfl) (by simp) rfl rfl ?_
 refine SX.hx (by first|(simp[mids,It.mids,ownPc];done)|(intro k hk;simp[mids,It.mids,ownPc] at hk ⊢;grind)) fun hx9 => ?_
 refine SX.val rfl (Val.to (C := entsR x.batch) (Val.load1 tabOk rfl rfl (by repeat first|assumption|exact o0_|exact o1_|apply o2_) List.not_mem_nil (by rfl)) rfl) hx9 rfl rfl ?_
 refine SX.val rfl (Val.to (C := ddsA l) (Val.load1 tabOk rfl rfl (by repeat first|assumption|exact o0_|exact o1_|apply o2_) List.not_mem_nil (by rfl)) rfl) hx9 rfl rfl ?_
 refine SX.val rfl (Val.indexSl (q := 0) (cs := y.abs) tabOk Tryz.underlying24 rfl rfl rfl rfl (by rw [List.getElem?_map, ← List.head?_eq_getElem?, h0]; rfl) rfl rfl) hx9 rfl rfl ?_
 first
  | refine SX.val rfl (Val.fieldAddr tabOk rfl rfl rfl rfl rfl) (by simp) rfl rfl ?_
  | refine SX.val rfl (Val.fieldAddrR tabOk rfl rfl rfl rfl rfl) (by simp) rfl rfl ?_
 refine SX.val rfl (Val.to (C := entsR y.batch) (Val.load1R tabOk rfl rfl rfl) rfl) hx9 rfl rfl ?_
 refine SX.call rfl (bsame_s (es := x.batch) (fs := y.batch) hl (fun e he => (hx e he).lits) (fun e he => (hy e he).lits)) (by simp [mids, It.mids]) Casts.refl (by kernel_rfl) rfl rfl rfl ?_
 refine ap_ ?_
 intro _
 refine SX.val rfl (Val.notP rfl) (by simp) rfl rfl ?_
 refine SX.val rfl (Val.assign rfl) (by simp) rfl rfl ?_
 refine SX.nil (SE.seq ?_)
 refine SC.ret ?_
 refine SE.fin (rs := [.tmp 3]) rfl (RV.tmp rfl RV.nil) (()) (by repeat first|exact s0 _|exact s1 _|apply s2|apply s3) (by simp [It.rids]) ?_
 exact rfl
theorem same1_h (hl : ∀ d ∈ l, DdIns d ∧ d.batch.length ≤ 1000000) (hx : x ∈ l) : Spec Tryz.prog 39 (.agg x.abs :: [ptr b]) [.rd b 24 [ddsA l]] (fun _ : Unit => []) (fun _ => boo (decide (∀ y, l.head? = some y → ¬ x.batch = y.batch))) := by
  obtain ⟨y, hy⟩ : ∃ y, l.head? = some y := by
    cases l with
    | nil => cases hx
    | cons y l => exact ⟨y, rfl⟩
  have h9 := same1_s (x := x) (y := y) (l := l) (b := b) (hl x hx).1.batch (hl y (List.mem_of_mem_head? hy)).1.batch (hl x hx).2 hy
  rw [show decide (∀ y, l.head? = some y → ¬ x.batch = y.batch) = decide (¬ x.batch = y.batch) from decide_eq_decide.2 ⟨fun h => h y hy, fun h z hz => by rw [hy] at hz; cases hz; exact h⟩]
  exact h9
theorem one_any : (!l.any fun x => decide (∀ y, l.head? = some y → ¬ x.batch = y.batch)) = decide (oneB l) := by
  rw [Bool.eq_iff_iff]
  simp only [Bool.not_eq_true', List.any_eq_false, decide_eq_true_eq]
  unfold oneB
  constructor
  · intro h x hx y hy
    refine Classical.byContradiction fun h2 => h x hx fun z hz => ?_
    rw [hy] at hz
    cases hz
    exact h2
  · intro h x hx h2
    cases hh : l.head? with
    | none =>
      rw [List.head?_eq_none_iff] at hh
      rw [hh] at hx
      cases hx
    | some y => exact h2 y hh (h x hx y hh)
theorem same_s (hl : ∀ d ∈ l, DdIns d ∧ d.batch.length ≤ 1000000) : Spec Tryz.prog 28 [ddsA l] [] (fun _ : Unit => []) (fun _ => boo (decide (oneB l))) := by
 refine spec_of Tryz.func28 rfl Tryz.ntmps28 rfl fun G w => ?_
 refine SC.seq (SC.region ?_)
 refine SL.eff (Eff.box1 rfl rfl) rfl rfl ?_
 rintro _ _ ⟨b1, rfl, rfl⟩
 refine SL.val (Val.assign rfl) rfl rfl ?_
 refine SL.nil (SE.seq ?_)
 refine SC.seq (SC.region ?_)
 refine SL.val (Val.to (C := ddsA l) (Val.load1 tabOk rfl rfl (by repeat first|assumption|exact o0_|exact o1_|apply o2_) List.not_mem_nil (by rfl)) rfl) rfl rfl ?_
 refine SL.val (Val.makeFunc rfl rfl) rfl rfl ?_
 refine SL.call (dcontains_s (p := fun x => decide (∀ y, l.head? = some y → ¬ x.batch = y.batch)) (k := 39) (caps := [ptr b1]) (σ := [.rd b1 24 [ddsA l]]) (by kernel_rfl) (by intro x hx; exact .inl ⟨_, _, _, List.mem_singleton.1 hx⟩) (fun x hx => same1_h hl hx)) Casts.refl (by kernel_rfl) rfl rfl rfl ?_
 refine ap_ ?_
 intro _
 refine SL.val (Val.notB rfl) rfl rfl ?_
 refine SL.val (Val.assign rfl) rfl rfl ?_
 refine SL.nil (SE.seq ?_)
 refine SC.ret ?_
 refine SE.fin (rs := [.tmp 2]) rfl (RV.tmp rfl RV.nil) (()) (by repeat first|exact s0 _|exact s1 _|apply s2|apply s3) (by simp [It.rids]) ?_
 rw [← one_any]
 rfl
end
end Go.Proofs.YtejcohlpjikjpaaGreatDoor.A
/-
  Agree: the deeds of each number.
-/
namespace Go.Proofs.YtejcohlpjikjpaaGreatDoor.A
open Go.RowKit

section
variable {l : List (List Dd)}
set_option maxHeartbeats 1000000 in
theorem numbers_s (hi9 : ∀ d ∈ l.flatten, DdIns d) (hn : l.flatten.length ≤ 1000) : Spec Tryz.prog 27 [ddssA l] [] (fun z : {z : Nat × List (Int × (Value × List Dd)) // Num l.flatten z.2} => [facts (facM ddsA z.1.2), .pc (mapPc z.1.1 intK id intOk (rawM z.1.2))]) (fun z => mapV z.1.1) := by
 refine spec_of Tryz.func27 rfl Tryz.ntmps27 rfl fun G w => ?_
 refine SC.seq (SC.region ?_)
 refine SL.val (Val.assign rfl) rfl rfl ?_
 refine SL.nil (SE.seq ?_)
 refine SC.seq (SC.region ?_)
 refine SL.eff (Eff.makeMap intK id intOk (fun ac w => by simp [execOp, Instr.makeMap, newObj, Sem.run, Sem.run_bind, Result.andThen])) rfl rfl ?_
 rintro _ _ ⟨m8, rfl, rfl⟩
 refine SL.val (Val.assign rfl) rfl rfl ?_
 refine SL.nil (SE.seq ?_)
 refine SC.seq ?_
 refine SC.seq (SC.region ?_)
 refine SL.val (Val.move rfl) rfl rfl ?_
 first
  | refine SL.val (Val.lenSl rfl Tryz.underlying22 (List.length_map _)) rfl rfl ?_
  | refine SL.val (Val.lenOwn rfl (by repeat first|assumption|exact m0|apply m1) Tryz.underlying22 (List.length_map _)) rfl rfl ?_
  | refine SL.val (Val.lenNil rfl Tryz.underlying22) rfl rfl ?_
 refine SL.val (Val.move rfl) rfl rfl ?_
 refine SL.nil (SE.seq ?_)
 refine SC.block ?_
 refine SC.rowLe (i := 9) rfl fun hrow => ?_
 rw [List.length_map] at hrow
 unfold maxLen at hrow
 refine SC.re [] (Re.rows0 (α := Int) (T := 44) (s := 3) (f := fun ds : List Dd => ds.map Dd.abs)) rfl ?_
 refine SC.loop (ι := Nat × List (Int × (Value × List Dd))) (fun z => [.pc (rowsPc 44 3 (fun ds : List Dd => ds.map Dd.abs) z.2), .pc (mapPc m8 intK id intOk (rawM z.2))]) (fun z => [(3, mapV m8), (9, ddssA l), (10, int (l.length : Nat)), (11, int (z.1 : Nat))]) (fun z => z.1 ≤ l.length ∧ Num (l.take z.1).flatten z.2) (fun z => l.length - z.1) (0, []) (⟨Nat.zero_le _, Num.nil⟩) (by exact ⟨rfl, rfl, rfl, rfl, trivial⟩) (by repeat first|exact s0 _|exact s1 _|apply s2|apply s3) ?_
 intro z hz
 refine SC.seq (SC.region ?_)
 refine SL.val (Val.ltI rfl rfl) rfl rfl ?_
 refine SL.nil (SE.seq ?_)
 refine SC.seq ?_
 refine SC.condP rfl ?_ ?_
 rotate_left
 ·intro hc12
  have htk : l.take z.1 = l := List.take_of_length_le (by omega)
  have hzn := hz.2
  rw [htk] at hzn
  refine SC.exit ?_
  refine SE.then_ nofun ?_
  refine SE.then_ nofun ?_
  refine SE.exit ?_
  refine SE.seq ?_
  refine SC.seq (SC.region ?_)
  refine SL.val (Val.move rfl) rfl rfl ?_
  refine SL.val (Val.assign rfl) rfl rfl ?_
  refine SL.nil (SE.seq ?_)
  refine SC.ret ?_
  refine SE.rowsFacts [] rfl ?_
  refine SE.fin (rs := [.tmp 2]) rfl (RV.tmp rfl RV.nil) (⟨(m8, z.2), hzn⟩) (by repeat first|exact s0 _|exact s1 _|apply s2|apply s3) (by simp [It.rids]) ?_
  exact rfl
 intro hc12
 have hzl : z.1 < l.length := by omega
 refine SC.skip ?_
 refine SE.seq ?_
 refine SC.seq ?_
 refine SC.block ?_
 refine SC.seq (SC.region ?_)
 refine SL.val (Val.indexSl tabOk Tryz.underlying22 rfl rfl rfl rfl (at_map (by omega)) rfl rfl) rfl rfl ?_
 refine SL.val (Val.load1R tabOk rfl rfl rfl) rfl rfl ?_
 refine SL.val (Val.assign rfl) rfl rfl ?_
 refine SL.nil (SE.seq ?_)
 refine SC.seq (SC.region ?_)
 refine SL.val (Val.move rfl) rfl rfl ?_
 first
  | refine SL.val (Val.lenSl rfl Tryz.underlying24 (List.length_map _)) rfl rfl ?_
  | refine SL.val (Val.lenOwn rfl (by repeat first|assumption|exact m0|apply m1) Tryz.underlying24 (List.length_map _)) rfl rfl ?_
  | refine SL.val (Val.lenNil rfl Tryz.underlying24) rfl rfl ?_
 refine SL.val (Val.move rfl) rfl rfl ?_
 refine SL.nil (SE.seq ?_)
 refine SC.block ?_
 refine SC.rowLe (i := 15) rfl fun hro2 => ?_
 rw [List.length_map] at hro2
 unfold maxLen at hro2
 refine SC.loop (ι := Nat × List (Int × (Value × List Dd))) (fun y => [.pc (rowsPc 44 3 (fun ds : List Dd => ds.map Dd.abs) y.2), .pc (mapPc m8 intK id intOk (rawM y.2))]) (fun y => [(3, mapV m8), (9, ddssA l), (10, int (l.length : Nat)), (11, int (z.1 : Nat)), (15, ddsA (l[z.1]'hzl)), (16, int ((l[z.1]'hzl).length : Nat)), (17, int (y.1 : Nat))]) (fun y => y.1 ≤ (l[z.1]'hzl).length ∧ Num ((l.take z.1).flatten ++ (l[z.1]'hzl).take y.1) y.2) (fun y => (l[z.1]'hzl).length - y.1) (0, z.2) (⟨Nat.zero_le _, by rw [List.take_zero, List.append_nil]; exact hz.2⟩) (by exact ⟨rfl, rfl, rfl, rfl, rfl, rfl, rfl, trivial⟩) (by repeat first|exact s0 _|exact s1 _|apply s2|apply s3) ?_
 intro y hy
 refine SC.seq (SC.region ?_)
 refine SL.val (Val.ltI rfl rfl) rfl rfl ?_
 refine SL.nil (SE.seq ?_)
 refine SC.seq ?_
 refine SC.condP rfl ?_ ?_
 rotate_left
 ·intro hc18
  refine SC.exit ?_
  refine SE.then_ nofun ?_
  refine SE.then_ nofun ?_
  refine SE.exit ?_
  refine SE.inBlock ?_
  refine SE.seq ?_
  refine SC.region ?_
  first
   | refine SL.val (Val.addI rfl rfl (by simp only [InR, lo, hi]; omega)) rfl rfl ?_
   | refine SL.val (Val.addW rfl rfl) rfl rfl ?_
  refine SL.val (Val.move rfl) rfl rfl ?_
  refine SL.nil ?_
  refine SE.round (z.1 + 1, y.2) (by first | omega | (dsimp only; omega)) (⟨by dsimp only; omega, by have h9 := hy.2; rw [show (l[z.1]'hzl).take y.1 = (l[z.1]'hzl) from List.take_of_length_le (by omega), ← flat_succ hzl] at h9; exact h9⟩) (by exact ⟨rfl, rfl, rfl, rfl, trivial⟩) (by repeat first|exact s0 _|exact s1 _|apply s2|apply s3)
 intro hc18
 have hyl : y.1 < (l[z.1]'hzl).length := by omega
 have hdi := hi9 _ (List.mem_flatten.2 ⟨_, List.getElem_mem hzl, List.getElem_mem hyl⟩)
 have hyg := hy.2.get ((l[z.1]'hzl)[y.1]'hyl).seq
 refine SC.skip ?_
 refine SE.seq ?_
 refine SC.seq ?_
 refine SC.block ?_
 refine SC.seq (SC.region ?_)
 refine SL.val (Val.indexSl tabOk Tryz.underlying24 rfl rfl rfl rfl (at_map (by omega)) rfl rfl) rfl rfl ?_
 refine SL.val (Val.loadAR tabOk rfl rfl rfl (by rfl)) rfl rfl ?_
 refine SL.eff (Eff.alloc tabOk rfl) rfl rfl ?_
 rintro _ _ ⟨b7, rfl, rfl⟩
 refine SL.eff (Eff.store (L' := ((l[z.1]'hzl)[y.1]'hyl).abs) tabOk rfl rfl rfl (by repeat first|assumption|exact Upd.here|apply Upd.there) rfl (lb_ (by rfl)) rfl (by exact putL_whole rfl)) rfl rfl ?_
 rintro _ _ ⟨rfl, rfl⟩
 refine SL.nil (SE.seq ?_)
 refine SC.seq (SC.region ?_)
 refine SL.val (Val.fieldAddr tabOk rfl rfl rfl rfl rfl) rfl rfl ?_
 refine SL.val (Val.to (C := boo ((l[z.1]'hzl)[y.1]'hyl).adopted) (Val.load1 tabOk rfl rfl (by repeat first|assumption|exact o0_|exact o1_|apply o2_) List.not_mem_nil (by rfl)) rfl) rfl rfl ?_
 refine SL.val (Val.notB rfl) rfl rfl ?_
 refine SL.nil (SE.seq ?_)
 refine SC.cond rfl ?_ ?_
 rotate_left
 ·intro hc23
  refine SC.skip ?_
  refine SE.inBlock ?_
  refine SE.seq ?_
  refine SC.region ?_
  first
   | refine SL.val (Val.addI rfl rfl (by simp only [InR, lo, hi]; omega)) rfl rfl ?_
   | refine SL.val (Val.addW rfl rfl) rfl rfl ?_
  refine SL.val (Val.move rfl) rfl rfl ?_
  refine SL.nil ?_
  refine SE.round (y.1 + 1, y.2) (by first | omega | (dsimp only; omega)) (⟨by dsimp only; omega, by rw [List.take_succ_eq_append_getElem hyl, ← List.append_assoc]; exact hy.2.skip (by simpa using hc23)⟩) (by exact ⟨rfl, rfl, rfl, rfl, rfl, rfl, rfl, trivial⟩) (by repeat first|exact s0 _|exact s1 _|apply s2|apply s3)
 intro hc23
 refine SC.re [_] (Re.rowOut (a := ((l[z.1]'hzl)[y.1]'hyl).seq) (z0 := []) hy.2.nd rfl) rfl ?_
 refine SC.nod fun hnod => ?_
 have hb7 : b7 ∉ (rowV y.2 ((l[z.1]'hzl)[y.1]'hyl).seq).ownBlock.toList ++ [m8] := nod_four hnod (List.mem_singleton.2 rfl)
 have hlr : (rowD y.2 ((l[z.1]'hzl)[y.1]'hyl).seq []).length ≤ 1000 := by
  show (((aget y.2 ((l[z.1]'hzl)[y.1]'hyl).seq).map (·.2)).getD []).length ≤ 1000
  rw [hyg]
  exact Nat.le_trans (row_le _ _) (Nat.le_trans (flat_part hzl y.1) hn)
 refine SC.draw ((rowV y.2 ((l[z.1]'hzl)[y.1]'hyl).seq).ownBlock.toList ++ [m8]) (.q 0 (.q 1 (.q 2 (.q 3 (.q 4 (.q 5 (.q 7 (.two 6 8 (.e 8 (.e 9 (.e 10 .nil))) (.e 6 (.e 9 (.e 10 .nil))))))))))) (by kernel_rfl) (by kernel_rfl) ?_
 refine SX.hx (fun k hk => mem_four hk) fun hx9 => ?_
 refine SX.val rfl (Val.move rfl) hx9 rfl rfl ?_
 refine SX.val rfl (Val.fieldAddr tabOk rfl rfl rfl rfl rfl) hx9 rfl rfl ?_
 refine SX.val rfl (Val.to (C := int ((l[z.1]'hzl)[y.1]'hyl).seq) (Val.load1 tabOk rfl rfl (by repeat first|assumption|exact o0_|exact o1_|apply o2_) hb7 (by rfl)) rfl) hx9 rfl rfl ?_
 refine SX.val rfl (Val.move rfl) hx9 rfl rfl ?_
 refine SX.val rfl (Val.fieldAddr tabOk rfl rfl rfl rfl rfl) hx9 rfl rfl ?_
 refine SX.val rfl (Val.to (C := int ((l[z.1]'hzl)[y.1]'hyl).seq) (Val.load1 tabOk rfl rfl (by repeat first|assumption|exact o0_|exact o1_|apply o2_) hb7 (by rfl)) rfl) hx9 rfl rfl ?_
 refine SX.val rfl (Val.to (C := .agg ((l[z.1]'hzl)[y.1]'hyl).abs) (Val.loadP tabOk rfl rfl rfl (by repeat first|assumption|exact o0_|exact o1_|apply o2_) hb7 (lb_ (by rfl))) rfl) hx9 rfl rfl ?_
 refine SX.two ?_ ?_
 ·skip
  refine SX.valE rfl (Val.mapGet (a := ((l[z.1]'hzl)[y.1]'hyl).seq) (zv := .slice none 0 0) (C := .v (rowV y.2 ((l[z.1]'hzl)[y.1]'hyl).seq)) (int_fit Tryz.underlying2) Tryz.underlying53 zero_sl rfl (by repeat first|assumption|exact o0_|exact o1_|apply o2_) List.not_mem_nil rfl is_v (i64_in hdi.seq) (by rw [rowV_raw]; exact is_v)) rfl rfl ?_
  refine SX.eff rfl (Eff.buildSl tabOk Tryz.underlying24 rfl rfl rfl rfl rfl rfl rfl) (by simp) rfl rfl ?_
  rintro _ _ ⟨rfl, rfl⟩
  refine SX.eff rfl (Eff.appendE (zs := (rowD y.2 ((l[z.1]'hzl)[y.1]'hyl).seq [] ++ [((l[z.1]'hzl)[y.1]'hyl)]).map Dd.abs) tabOk [_] (by simp only [List.map_append]; rfl) Tryz.underlying24 rfl rfl rfl rfl rfl rfl (by intro c hc; rw [List.mem_singleton] at hc; subst hc; rfl) (by unfold maxLen; simp only [List.length_map, List.length_append, List.length_cons, List.length_nil]; omega) (by rw [show Tryz.prog.bytesOf 44 = 40 by kernel_rfl]; simp only [List.length_map, List.length_append, List.length_cons, List.length_nil]; omega)) (fun k hk => List.mem_append_left _ hk) rfl rfl ?_
  rintro _ _ ⟨r33, rfl, rfl⟩
  refine SX.eff rfl (Eff.mapPut (a := ((l[z.1]'hzl)[y.1]'hyl).seq) (v := r33) (m' := rawM (aput y.2 ((l[z.1]'hzl)[y.1]'hyl).seq (r33, rowD y.2 ((l[z.1]'hzl)[y.1]'hyl).seq [] ++ [((l[z.1]'hzl)[y.1]'hyl)]))) (int_fit Tryz.underlying2) Tryz.underlying53 rfl (by repeat first|assumption|exact Upd.here|apply Upd.there) rfl is_v (i64_in hdi.seq) rfl is_v (rawM_put _ _ _ _).symm) (fun k hk => List.mem_append_right _ hk) rfl rfl ?_
  rintro _ _ ⟨rfl, rfl⟩
  refine SX.nil ?_
  refine SE.inBlock ?_
  refine SE.seq ?_
  refine SC.region ?_
  first
   | refine SL.val (Val.addI rfl rfl (by simp only [InR, lo, hi]; omega)) rfl rfl ?_
   | refine SL.val (Val.addW rfl rfl) rfl rfl ?_
  refine SL.val (Val.move rfl) rfl rfl ?_
  refine SL.nil ?_
  refine SE.re [_] (Re.rowIn hy.2.nd) rfl ?_
  refine SE.round (y.1 + 1, aput y.2 ((l[z.1]'hzl)[y.1]'hyl).seq (r33, rowD y.2 ((l[z.1]'hzl)[y.1]'hyl).seq [] ++ [((l[z.1]'hzl)[y.1]'hyl)])) (by first | omega | (dsimp only; omega)) (⟨by dsimp only; omega, by rw [List.take_succ_eq_append_getElem hyl, ← List.append_assoc]; exact hy.2.put (by simpa using hc23) hdi.seq r33⟩) (by exact ⟨rfl, rfl, rfl, rfl, rfl, rfl, rfl, trivial⟩) (by repeat first|exact s0 _|exact s1 _|apply s2|apply s3)
 ·skip
  refine SX.eff rfl (Eff.buildSl tabOk Tryz.underlying24 rfl rfl rfl rfl rfl rfl rfl) (by simp) rfl rfl ?_
  rintro _ _ ⟨rfl, rfl⟩
  refine SX.valE rfl (Val.mapGet (a := ((l[z.1]'hzl)[y.1]'hyl).seq) (zv := .slice none 0 0) (C := .v (rowV y.2 ((l[z.1]'hzl)[y.1]'hyl).seq)) (int_fit Tryz.underlying2) Tryz.underlying53 zero_sl rfl (by repeat first|assumption|exact o0_|exact o1_|apply o2_) List.not_mem_nil rfl is_v (i64_in hdi.seq) (by rw [rowV_raw]; exact is_v)) rfl rfl ?_
  refine SX.eff rfl (Eff.appendE (zs := (rowD y.2 ((l[z.1]'hzl)[y.1]'hyl).seq [] ++ [((l[z.1]'hzl)[y.1]'hyl)]).map Dd.abs) tabOk [_] (by simp only [List.map_append]; rfl) Tryz.underlying24 rfl rfl rfl rfl rfl rfl (by intro c hc; rw [List.mem_singleton] at hc; subst hc; rfl) (by unfold maxLen; simp only [List.length_map, List.length_append, List.length_cons, List.length_nil]; omega) (by rw [show Tryz.prog.bytesOf 44 = 40 by kernel_rfl]; simp only [List.length_map, List.length_append, List.length_cons, List.length_nil]; omega)) (fun k hk => List.mem_append_left _ hk) rfl rfl ?_
  rintro _ _ ⟨r33, rfl, rfl⟩
  refine SX.eff rfl (Eff.mapPut (a := ((l[z.1]'hzl)[y.1]'hyl).seq) (v := r33) (m' := rawM (aput y.2 ((l[z.1]'hzl)[y.1]'hyl).seq (r33, rowD y.2 ((l[z.1]'hzl)[y.1]'hyl).seq [] ++ [((l[z.1]'hzl)[y.1]'hyl)]))) (int_fit Tryz.underlying2) Tryz.underlying53 rfl (by repeat first|assumption|exact Upd.here|apply Upd.there) rfl is_v (i64_in hdi.seq) rfl is_v (rawM_put _ _ _ _).symm) (fun k hk => List.mem_append_right _ hk) rfl rfl ?_
  rintro _ _ ⟨rfl, rfl⟩
  refine SX.nil ?_
  refine SE.inBlock ?_
  refine SE.seq ?_
  refine SC.region ?_
  first
   | refine SL.val (Val.addI rfl rfl (by simp only [InR, lo, hi]; omega)) rfl rfl ?_
   | refine SL.val (Val.addW rfl rfl) rfl rfl ?_
  refine SL.val (Val.move rfl) rfl rfl ?_
  refine SL.nil ?_
  refine SE.re [_] (Re.rowIn hy.2.nd) rfl ?_
  refine SE.round (y.1 + 1, aput y.2 ((l[z.1]'hzl)[y.1]'hyl).seq (r33, rowD y.2 ((l[z.1]'hzl)[y.1]'hyl).seq [] ++ [((l[z.1]'hzl)[y.1]'hyl)])) (by first | omega | (dsimp only; omega)) (⟨by dsimp only; omega, by rw [List.take_succ_eq_append_getElem hyl, ← List.append_assoc]; exact hy.2.put (by simpa using hc23) hdi.seq r33⟩) (by exact ⟨rfl, rfl, rfl, rfl, rfl, rfl, rfl, trivial⟩) (by repeat first|exact s0 _|exact s1 _|apply s2|apply s3)
end
end Go.Proofs.YtejcohlpjikjpaaGreatDoor.A
