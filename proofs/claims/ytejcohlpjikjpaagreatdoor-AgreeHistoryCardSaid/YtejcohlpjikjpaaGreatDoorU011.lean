/-
  Packed out of the texts: AG3, A17, AG4, AG5, AG6, CO2.
-/
import Derived.Test.YtejcohlpjikjpaaGreatDoorU010
import Derived.Maps.RangeRun
/-
  Agree: gaps, and the document's.
-/
set_option maxRecDepth 100000
set_option linter.unusedSimpArgs false
set_option linter.unusedVariables false
namespace Go.Proofs.YtejcohlpjikjpaaGreatDoor.A
open Go.RowKit

theorem gap_s {l : List Dd} (hi9 : ∀ d ∈ l, DdIns d) : Spec Tryz.prog 10 [ddsA l] [] (fun _ : Unit => []) (fun _ => boo (gapB 0 l)) := by
 refine spec_of Tryz.func10 rfl Tryz.ntmps10 rfl fun G w => ?_
 refine SC.seq (SC.region ?_)
 refine SL.val (Val.assign rfl) rfl rfl ?_
 refine SL.nil (SE.seq ?_)
 refine SC.seq (SC.region ?_)
 refine SL.val (Val.assign rfl) rfl rfl ?_
 refine SL.nil (SE.seq ?_)
 refine SC.seq ?_
 refine SC.seq (SC.region ?_)
 refine SL.val (Val.move rfl) rfl rfl ?_
 first
  | refine SL.val (Val.lenSl rfl Tryz.underlying24 (List.length_map _)) rfl rfl ?_
  | refine SL.val (Val.lenOwn rfl (by repeat first|assumption|exact m0|apply m1) Tryz.underlying24 (List.length_map _)) rfl rfl ?_
  | refine SL.val (Val.lenNil rfl Tryz.underlying24) rfl rfl ?_
 refine SL.val (Val.move rfl) rfl rfl ?_
 refine SL.nil (SE.seq ?_)
 refine SC.block ?_
 refine SC.rowLe (i := 6) rfl fun hrow => ?_
 rw [List.length_map] at hrow
 unfold maxLen at hrow
 refine SC.loop (ι := Nat × Int) (fun z => []) (fun z => [(3, int z.2), (6, ddsA l), (7, int (l.length : Nat)), (8, int (z.1 : Nat))]) (fun z => z.1 ≤ l.length ∧ (0 ≤ z.2 ∧ z.2 ≤ 9223372036854775807) ∧ gapB z.2 (l.drop z.1) = gapB 0 l) (fun z => l.length - z.1) (0, 0) (⟨Nat.zero_le _, by decide, rfl⟩) (by exact ⟨rfl, rfl, rfl, rfl, trivial⟩) (by repeat first|exact s0 _|exact s1 _|apply s2|apply s3) ?_
 intro z hz
 refine SC.seq (SC.region ?_)
 refine SL.val (Val.ltI rfl rfl) rfl rfl ?_
 refine SL.nil (SE.seq ?_)
 refine SC.seq ?_
 refine SC.condP rfl ?_ ?_
 rotate_left
 ·intro hc9
  have hde : l.drop z.1 = [] := List.drop_eq_nil_of_le (by omega)
  have hgt := hz.2.2
  rw [hde] at hgt
  have hgt : gapB 0 l = true := hgt.symm
  refine SC.exit ?_
  refine SE.then_ nofun ?_
  refine SE.then_ nofun ?_
  refine SE.exit ?_
  refine SE.seq ?_
  refine SC.seq (SC.region ?_)
  refine SL.val (Val.assign rfl) rfl rfl ?_
  refine SL.nil (SE.seq ?_)
  refine SC.ret ?_
  refine SE.fin (rs := [.tmp 2]) rfl (RV.tmp rfl RV.nil) (()) (by repeat first|exact s0 _|exact s1 _|apply s2|apply s3) (by simp [It.rids]) ?_
  rw [hgt]
  rfl
 intro hc9
 have hlt : z.1 < l.length := by omega
 have hse := (hi9 _ (List.getElem_mem hlt)).seq
 unfold i64ok at hse
 have hst := gapB_step (q := z.2) hlt
 rw [hz.2.2] at hst
 refine SC.skip ?_
 refine SE.seq ?_
 refine SC.seq ?_
 refine SC.block ?_
 refine SC.seq (SC.region ?_)
 refine SL.val (Val.indexSl tabOk Tryz.underlying24 rfl rfl rfl rfl (at_map (by omega)) rfl rfl) rfl rfl ?_
 refine SL.val (Val.loadAR tabOk rfl rfl rfl (by rfl)) rfl rfl ?_
 refine SL.eff (Eff.alloc tabOk rfl) rfl rfl ?_
 rintro _ _ ⟨b5, rfl, rfl⟩
 refine SL.eff (Eff.store (L' := (l[z.1]'hlt).abs) tabOk rfl rfl rfl (by repeat first|assumption|exact Upd.here|apply Upd.there) rfl (lb_ (by rfl)) rfl (by exact putL_whole rfl)) rfl rfl ?_
 rintro _ _ ⟨rfl, rfl⟩
 refine SL.nil (SE.seq ?_)
 refine SC.seq ?_
 refine SC.seq (SC.region ?_)
 refine SL.val (Val.fieldAddr tabOk rfl rfl rfl rfl rfl) rfl rfl ?_
 refine SL.val (Val.to (C := int (l[z.1]'hlt).seq) (Val.load1 tabOk rfl rfl (by repeat first|assumption|exact o0_|exact o1_|apply o2_) List.not_mem_nil (by rfl)) rfl) rfl rfl ?_
 refine SL.val (Val.move rfl) rfl rfl ?_
 refine SL.val (Val.leI rfl rfl) rfl rfl ?_
 refine SL.val (Val.move rfl) rfl rfl ?_
 refine SL.bothP (t := 16) rfl ?_ ?_
 ·intro hc16
  iterate 10 refine SL.skip rfl rfl ?_
  refine SL.val (Val.pickT rfl rfl) rfl rfl ?_
  refine SL.nil (SE.seq ?_)
  refine SC.condT rfl ?_
  refine SC.seq (SC.region ?_)
  refine SL.val (Val.assign rfl) rfl rfl ?_
  refine SL.nil (SE.seq ?_)
  refine SC.ret ?_
  refine SE.then_ nofun ?_
  refine SE.ret ?_
  refine SE.then_ nofun ?_
  refine SE.then_ nofun ?_
  refine SE.ret ?_
  refine SE.then_ nofun ?_
  refine SE.fin (rs := [.tmp 2]) rfl (RV.tmp rfl RV.nil) (()) (by repeat first|exact s0 _|exact s1 _|apply s2|apply s3) (by simp [It.rids]) ?_
  rw [hst, if_pos (by simp_all <;> omega)]
  rfl
 intro hc16
 refine SL.val (Val.fieldAddr tabOk rfl rfl rfl rfl rfl) rfl rfl ?_
 refine SL.val (Val.to (C := boo (l[z.1]'hlt).adopted) (Val.load1 tabOk rfl rfl (by repeat first|assumption|exact o0_|exact o1_|apply o2_) List.not_mem_nil (by rfl)) rfl) rfl rfl ?_
 refine SL.val (Val.notB rfl) rfl rfl ?_
 refine SL.val (Val.move rfl) rfl rfl ?_
 refine SL.both (t := 20) rfl ?_ ?_
 rotate_left
 ·intro hc20
  iterate 5 refine SL.skip rfl rfl ?_
  refine SL.val (Val.pickF rfl rfl) rfl rfl ?_
  refine SL.val (Val.pickF rfl rfl) rfl rfl ?_
  refine SL.nil (SE.seq ?_)
  refine SC.condF rfl ?_
  refine SC.skip ?_
  refine SE.seq ?_
  refine SC.region ?_
  refine SL.val (Val.fieldAddr tabOk rfl rfl rfl rfl rfl) rfl rfl ?_
  refine SL.val (Val.to (C := int (l[z.1]'hlt).seq) (Val.load1 tabOk rfl rfl (by repeat first|assumption|exact o0_|exact o1_|apply o2_) List.not_mem_nil (by rfl)) rfl) rfl rfl ?_
  refine SL.val (Val.assign rfl) rfl rfl ?_
  refine SL.nil ?_
  refine SE.inBlock ?_
  refine SE.seq ?_
  refine SC.region ?_
  first
   | refine SL.val (Val.addI rfl rfl (by simp only [InR, lo, hi]; omega)) rfl rfl ?_
   | refine SL.val (Val.addW rfl rfl) rfl rfl ?_
  refine SL.val (Val.move rfl) rfl rfl ?_
  refine SL.nil ?_
  refine SE.round (z.1 + 1, (l[z.1]'hlt).seq) (by first | omega | (dsimp only; omega)) (⟨by dsimp only; omega, by dsimp only; omega, by rw [if_neg (by simp_all <;> omega)] at hst; exact hst.symm⟩) (by exact ⟨rfl, rfl, rfl, rfl, trivial⟩) (by repeat first|exact s0 _|exact s1 _|apply s2|apply s3)
 intro hc20
 refine SL.val (Val.fieldAddr tabOk rfl rfl rfl rfl rfl) rfl rfl ?_
 refine SL.val (Val.to (C := int (l[z.1]'hlt).seq) (Val.load1 tabOk rfl rfl (by repeat first|assumption|exact o0_|exact o1_|apply o2_) List.not_mem_nil (by rfl)) rfl) rfl rfl ?_
 refine SL.val (Val.move rfl) rfl rfl ?_
 refine SL.val (Val.to (C := int ((l[z.1]'hlt).seq - z.2)) (Val.subI rfl rfl (by simp only [InR, lo, hi]; omega)) rfl) rfl rfl ?_
 refine SL.val (Val.neI rfl rfl) rfl rfl ?_
 refine SL.val (Val.pickT rfl rfl) rfl rfl ?_
 refine SL.val (Val.pickF rfl rfl) rfl rfl ?_
 refine SL.nil (SE.seq ?_)
 refine SC.condP rfl ?_ ?_
 ·intro hc27
  refine SC.seq (SC.region ?_)
  refine SL.val (Val.assign rfl) rfl rfl ?_
  refine SL.nil (SE.seq ?_)
  refine SC.ret ?_
  refine SE.then_ nofun ?_
  refine SE.ret ?_
  refine SE.then_ nofun ?_
  refine SE.then_ nofun ?_
  refine SE.ret ?_
  refine SE.then_ nofun ?_
  refine SE.fin (rs := [.tmp 2]) rfl (RV.tmp rfl RV.nil) (()) (by repeat first|exact s0 _|exact s1 _|apply s2|apply s3) (by simp [It.rids]) ?_
  rw [hst, if_pos (by simp_all <;> omega)]
  rfl
 intro hc27
 refine SC.skip ?_
 refine SE.seq ?_
 refine SC.region ?_
 refine SL.val (Val.fieldAddr tabOk rfl rfl rfl rfl rfl) rfl rfl ?_
 refine SL.val (Val.to (C := int (l[z.1]'hlt).seq) (Val.load1 tabOk rfl rfl (by repeat first|assumption|exact o0_|exact o1_|apply o2_) List.not_mem_nil (by rfl)) rfl) rfl rfl ?_
 refine SL.val (Val.assign rfl) rfl rfl ?_
 refine SL.nil ?_
 refine SE.inBlock ?_
 refine SE.seq ?_
 refine SC.region ?_
 first
  | refine SL.val (Val.addI rfl rfl (by simp only [InR, lo, hi]; omega)) rfl rfl ?_
  | refine SL.val (Val.addW rfl rfl) rfl rfl ?_
 refine SL.val (Val.move rfl) rfl rfl ?_
 refine SL.nil ?_
 refine SE.round (z.1 + 1, (l[z.1]'hlt).seq) (by first | omega | (dsimp only; omega)) (⟨by dsimp only; omega, by dsimp only; omega, by rw [if_neg (by simp_all <;> omega)] at hst; exact hst.symm⟩) (by exact ⟨rfl, rfl, rfl, rfl, trivial⟩) (by repeat first|exact s0 _|exact s1 _|apply s2|apply s3)
section
variable {a b : List Dd} {l : List (List Dd)}
end
end Go.Proofs.YtejcohlpjikjpaaGreatDoor.A
/-
  The second engine: 'for k := range m', with entries struck in the rounds: the map and its iterator as one piece.
-/
namespace Go.Proofs.YtejcohlpjikjpaaGreatDoor.A
open Go.RowKit

/-- The map m in block b, ranged by the iterator in block r: of its entries 'rest' is still to come; 'cur' came last. -/
structure Rng {α β : Type} (w : World) (b r : Nat) (K : α → Value) (V : β → Value) (Good : α → Prop) (m rest : List (α × β)) (cur : Option (α × β)) (es : Array MapEntry) (clock since : Nat) (seen : Array Nat) (c0 : Nat) : Prop where
  hb : w.heap[b]? = some (.map es clock)
  he : es.toList.map (fun e => (e.key, e.val)) = m.map (fun p => (K p.1, V p.2))
  nd : (m.map (·.1)).Nodup
  good : ∀ p ∈ m, Good p.1
  born : ∀ e ∈ es.toList, e.born < clock
  bnd : (es.toList.map (·.born)).Nodup
  hr : w.heap[r]? = some (.mapIter (some b) since seen c0)
  old : ∀ e ∈ es.toList, e.born < since
  le : since ≤ c0
  le2 : since ≤ clock
  left : ∀ p, p ∈ rest ↔ ∃ (j : Nat) (e : MapEntry), m[j]? = some p ∧ es.toList[j]? = some e ∧ seen.contains e.born = false
  last : ∀ p, cur = some p → c0 = clock ∧ ∃ (e : MapEntry) (s' : Array Nat), e ∈ es.toList ∧ e.key = K p.1 ∧ e.val = V p.2 ∧ seen = s'.push e.born
def rngPc {α β : Type} (b r : Nat) (K : α → Value) (V : β → Value) (Good : α → Prop) (m rest : List (α × β)) (cur : Option (α × β)) : Pc where
  ids := [b, r]
  p := fun _ w => r ≠ b ∧ ∃ es clock since seen c0, Rng w b r K V Good m rest cur es clock since seen c0
  carry := fun _ _ _ _ _ hs ⟨hn, es, clock, since, seen, c0, h⟩ => ⟨hn, es, clock, since, seen, c0, { h with hb := (hs b (by simp)).trans h.hb, hr := (hs r (by simp)).trans h.hr }⟩
  lt := fun _ w ⟨_, es, clock, since, seen, c0, h⟩ k hk => by
    simp at hk
    rcases hk with rfl | rfl
    · exact heap_lt h.hb
    · exact heap_lt h.hr
theorem ex_map {w : World} {b : Nat} {o : Obj} (hb : b < w.heap.size) : Ext [b] w (Go.ChangeMaps.setBlock w b o) :=
  ⟨rfl, rfl, rfl, by simp [Go.ChangeMaps.setBlock], fun k _ hn => by
    have : b ≠ k := fun h => hn (by simp [h])
    simp [Go.ChangeMaps.setBlock, Array.getElem?_setIfInBounds_ne this]⟩
theorem sb_same {w : World} {b : Nat} {o : Obj} (hb : b < w.heap.size) : (Go.ChangeMaps.setBlock w b o).heap[b]? = some o := by
  simp [Go.ChangeMaps.setBlock, Array.getElem?_setIfInBounds_self, hb]
theorem sb_other {w : World} {b k : Nat} {o : Obj} (h : b ≠ k) : (Go.ChangeMaps.setBlock w b o).heap[k]? = w.heap[k]? := by
  simp [Go.ChangeMaps.setBlock, Array.getElem?_setIfInBounds_ne h]
section
variable {α β : Type} {w : World} {b r : Nat} {K : α → Value} {V : β → Value} {Good : α → Prop} {m rest : List (α × β)} {cur : Option (α × β)} {es : Array MapEntry} {clock since : Nat} {seen : Array Nat} {c0 : Nat}
theorem enc_len {es : List MapEntry} (h : es.map (fun e => (e.key, e.val)) = m.map (fun p => (K p.1, V p.2))) : es.length = m.length := by
  have h3 := congrArg List.length h
  simpa using h3
theorem enc_at {es : List MapEntry} (h : es.map (fun e => (e.key, e.val)) = m.map (fun p => (K p.1, V p.2))) {j : Nat} {e : MapEntry} {p : α × β} (he : es[j]? = some e) (hp : m[j]? = some p) : e.key = K p.1 ∧ e.val = V p.2 := by
  have h1 : (es.map (fun e => (e.key, e.val)))[j]? = (m.map (fun p => (K p.1, V p.2)))[j]? := by rw [h]
  rw [List.getElem?_map, List.getElem?_map, he, hp] at h1
  simpa using h1
theorem nd_at {l : List (α × β)} (h : (l.map (·.1)).Nodup) {i j : Nat} {p q : α × β} (hi : l[i]? = some p) (hj : l[j]? = some q) : p.1 = q.1 ↔ i = j := by
  have hi2 : (l.map (·.1))[i]? = some p.1 := by rw [List.getElem?_map, hi]; rfl
  have hj2 : (l.map (·.1))[j]? = some q.1 := by rw [List.getElem?_map, hj]; rfl
  constructor
  · intro e
    have hlt : i < (l.map (·.1)).length := (List.getElem?_eq_some_iff.1 hi2).1
    exact (List.getElem?_inj hlt h).1 (by rw [hi2, hj2, e])
  · rintro rfl
    rw [hi] at hj
    cases hj
    rfl
theorem bn_at {l : List MapEntry} (h : (l.map (·.born)).Nodup) {i j : Nat} {p q : MapEntry} (hi : l[i]? = some p) (hj : l[j]? = some q) : p.born = q.born ↔ i = j := by
  have hi2 : (l.map (·.born))[i]? = some p.born := by rw [List.getElem?_map, hi]; rfl
  have hj2 : (l.map (·.born))[j]? = some q.born := by rw [List.getElem?_map, hj]; rfl
  constructor
  · intro e
    have hlt : i < (l.map (·.born)).length := (List.getElem?_eq_some_iff.1 hi2).1
    exact (List.getElem?_inj hlt h).1 (by rw [hi2, hj2, e])
  · rintro rfl
    rw [hi] at hj
    cases hj
    rfl
theorem Rng.sub (h : Rng w b r K V Good m rest cur es clock since seen c0) : ∀ p ∈ rest, p ∈ m := fun p hp => by
  obtain ⟨j, e, h1, _⟩ := (h.left p).1 hp
  exact List.mem_of_getElem? h1
theorem Rng.map (h : Rng w b r K V Good m rest cur es clock since seen c0) : MapOf w b K V Good m := ⟨es, clock, h.hb, h.he, h.nd, h.good, h.born, h.bnd⟩
/-- The step. -/
theorem Rng.next [DecidableEq α] {P : Program} (hne : r ≠ b) (h : Rng w b r K V Good m rest cur es clock since seen c0) (ty : TypeId) :
    (rest = [] ∧ (Instr.next (.pointer (some ⟨r, 0, none⟩)) false ty).run P w = .ok (.tuple #[.bool false]) w) ∨
    ∃ p ∈ rest, ∃ w', (Instr.next (.pointer (some ⟨r, 0, none⟩)) false ty).run P w = .ok (.tuple #[.bool true, K p.1, V p.2]) w' ∧ Ext [b, r] w w' ∧
      ∃ seen' c0', Rng w' b r K V Good m (rest.filter fun q => decide (q.1 ≠ p.1)) (some p) es clock since seen' c0' := by
  have hmem : ∀ e, e ∈ (leftOf es seen).toList ↔ e ∈ es.toList ∧ seen.contains e.born = false := fun e => by
    unfold leftOf
    rw [Array.toList_filter, List.mem_filter]
    cases seen.contains e.born <;> simp
  rcases run_next_at (P := P) w ty r b since c0 seen es clock h.hr h.hb h.old h.le with ⟨h0, hrun⟩ | ⟨e, he, w1, hw1, hrun⟩
  · refine .inl ⟨?_, hrun⟩
    rw [List.eq_nil_iff_forall_not_mem]
    intro p hp
    obtain ⟨j, e, _, h2, h3⟩ := (h.left p).1 hp
    have h4 := (hmem e).2 ⟨List.mem_of_getElem? h2, h3⟩
    have h5 : (leftOf es seen).toList = [] := List.length_eq_zero_iff.1 (by simpa using h0)
    rw [h5] at h4
    cases h4
  · obtain ⟨h1, h2⟩ := (hmem e).1 he
    obtain ⟨j, hj⟩ := List.getElem?_of_mem h1
    have hjl : j < es.toList.length := (List.getElem?_eq_some_iff.1 hj).1
    have hjm : j < m.length := by rw [← enc_len h.he]; exact hjl
    obtain ⟨p, hp⟩ : ∃ p, m[j]? = some p := ⟨_, List.getElem?_eq_getElem hjm⟩
    obtain ⟨hk, hv⟩ := enc_at h.he hj hp
    have hheap : w1.heap = w.heap := by rcases hw1 with rfl | rfl <;> rfl
    have hx1 : Ext [] w w1 := by
      rcases hw1 with rfl | rfl
      · exact Ext.refl _
      · exact (Ext.refl _).drew
    have hrl : r < w1.heap.size := by rw [hheap]; exact heap_lt h.hr
    refine .inr ⟨p, (h.left p).2 ⟨j, e, hp, hj, h2⟩, _, by rw [← hk, ← hv]; exact hrun, ?_, _, _, ⟨?_, h.he, h.nd, h.good, h.born, h.bnd, sb_same hrl, h.old, ?_, ?_, ?_, ?_⟩⟩
    · refine ⟨(ex_map hrl).os.trans hx1.os, (ex_map hrl).tape.trans hx1.tape, (ex_map hrl).output.trans hx1.output, Nat.le_trans hx1.size (ex_map hrl).size, fun k hk2 hn => ?_⟩
      rw [(ex_map hrl).block k (by rw [hheap]; exact hk2) (fun hk3 => hn (by simp at hk3; simp [hk3])), hheap]
    · rw [sb_other hne, hheap]
      exact h.hb
    · exact h.le2
    · exact h.le2
    · intro q
      rw [List.mem_filter, h.left q, decide_eq_true_eq]
      constructor
      · rintro ⟨⟨i, e', h3, h4, h5⟩, h6⟩
        refine ⟨i, e', h3, h4, ?_⟩
        rw [Array.contains_push, h5, Bool.false_or, beq_eq_false_iff_ne]
        intro e6
        exact h6 ((nd_at h.nd h3 hp).2 ((bn_at h.bnd h4 hj).1 e6))
      · rintro ⟨i, e', h3, h4, h5⟩
        rw [Array.contains_push, Bool.or_eq_false_iff, beq_eq_false_iff_ne] at h5
        refine ⟨⟨i, e', h3, h4, h5.1⟩, fun e6 => h5.2 ?_⟩
        exact (bn_at h.bnd h4 hj).2 ((nd_at h.nd h3 hp).1 e6)
    · intro p' hp'
      cases hp'
      exact ⟨rfl, e, seen, h1, hk, hv, rfl⟩
end
section
variable {P : Program} {n : Nat} {W : Wd} {σ τ : Blks} {l : Slots} {X : List Nat} {x y z : Operand} {d : Option Nat} {ty t k e : TypeId} {pos : String} {aft : Array Edge} {g : Option (Nat × Bool)} {b r : Nat} {A B C : Abs}
variable {α β : Type} [DecidableEq α] {K : α → Value} {V : β → Value} {Good : α → Prop} {m rest : List (α × β)} {cur : Option (α × β)} {a : α} {p : α × β} {Q : Exit → Act → World → Prop}
omit [DecidableEq α] in
/-- 'range m'. -/
theorem Eff.rangeMap {τ : Nat → Blks} (ht : P.underlying t = some (.map k e)) (hx : look l x = some (mapV b)) (hu : ∀ r, Upd (.pc (mapPc b K V Good m)) (.pc (rngPc b r K V Good m m none)) σ (τ r)) :
    Eff P n W σ l [b] ⟨d, .range t x, ty, pos, aft, g⟩ fun u τ' => ∃ r : Nat, u = .v (.pointer (some ⟨r, 0, none⟩)) ∧ τ' = τ r := fun ac w hs => by
  have h1 : MapOf w b K V Good m := hs.mem.hold _ (hu 0).mem
  obtain ⟨es, clock, hb, he, hnd, hg, hborn, hbnd⟩ := h1
  have hbl := heap_lt hb
  have hne : w.heap.size ≠ b := by omega
  have hx2 : Ext [b] w (w.alloc (.mapIter (some b) clock #[] clock)) := (Ext.new w _).mono (by simp)
  have hal : ∀ k, k < w.heap.size → (w.alloc (.mapIter (some b) clock #[] clock)).heap[k]? = w.heap[k]? := fun k hk => (Ext.new w _).block k hk (by simp)
  have h4 := hs.mem.upd (hu w.heap.size) (hx2.mono (by simp [It.mids, mapPc])) (by simp [It.mids, rngPc, Ne.symm hne]) (fun k hk => by
      simp [It.mids, rngPc] at hk
      rcases hk with rfl | rfl
      · exact .inl (by simp [It.mids, mapPc])
      · exact .inr (Nat.le_refl _)) rfl (fun _ => ⟨hne, es, clock, clock, #[], clock, (hal b hbl).trans hb, he, hnd, hg, hborn, hbnd, heap_alloc_new w _, hborn, Nat.le_refl _, Nat.le_refl _, fun p => ?_, fun p hp => by cases hp⟩)
  · refine ⟨.pointer (some ⟨w.heap.size, 0, none⟩), _, _, _, ⟨_, rfl, rfl⟩, hx2, rfl, h4.1, h4.2, .inl ?_⟩
    simp [execOp, hs.plain hx, run_range_map w t k e b es clock ht hb, Sem.run_bind, Result.andThen]
  · constructor
    · intro hp
      obtain ⟨j, hj⟩ := List.getElem?_of_mem hp
      have hjl : j < es.toList.length := by rw [enc_len he]; exact (List.getElem?_eq_some_iff.1 hj).1
      exact ⟨j, _, hj, List.getElem?_eq_getElem hjl, by simp⟩
    · rintro ⟨j, e, h1, _⟩
      exact List.mem_of_getElem? h1
/-- One step of it. -/
theorem Eff.nextMap {τ : List (α × β) → Option (α × β) → Blks} (hx : look l x = some (.v (.pointer (some ⟨r, 0, none⟩)))) (hu : ∀ rest' cur', Upd (.pc (rngPc b r K V Good m rest cur)) (.pc (rngPc b r K V Good m rest' cur')) σ (τ rest' cur')) :
    Eff P n W σ l [b, r] ⟨d, .next x false, ty, pos, aft, g⟩ fun u τ' => ∃ (o : Option (α × β)) (rest' : List (α × β)), (o = none → rest = []) ∧ (∀ p, o = some p → p ∈ rest ∧ rest' = rest.filter fun q => decide (q.1 ≠ p.1)) ∧
      u = .tup (.v (.bool o.isSome) :: (match o with | none => [] | some p => [.v (K p.1), .v (V p.2)])) ∧ τ' = τ rest' o := fun ac w hs => by
  obtain ⟨hne, es, clock, since, seen, c0, h⟩ : (rngPc b r K V Good m rest cur).p _ w := hs.mem.hold _ (hu [] none).mem
  have hnd : (It.pc (rngPc b r K V Good m rest cur)).mids.Nodup := by simp [It.mids, rngPc, Ne.symm hne]
  rcases h.next (P := P) hne ty with ⟨h0, hrun⟩ | ⟨p, hp, w', hrun, hx2, seen', c0', h'⟩
  · have h4 := hs.mem.upd (hu rest none) (Ext.refl w) hnd (fun k hk => .inl hk) rfl (fun hc => (rngPc b r K V Good m rest none).carry _ _ _ _ hc (fun _ _ => rfl) ⟨hne, es, clock, since, seen, c0, { h with last := fun p hp => by cases hp }⟩)
    refine ⟨.tuple #[.bool false], w, _, _, ⟨none, rest, fun _ => h0, fun p hp => (by cases hp), rfl, rfl⟩, Ext.refl w, ⟨[.bool false], rfl, _, _, rfl, rfl, rfl⟩, h4.1, h4.2, .inl ?_⟩
    simp [execOp, hs.plain hx, hrun, Sem.run_bind, Result.andThen]
  · have h4 := hs.mem.upd (hu _ (some p)) (hx2.mono (by simp [It.mids, rngPc])) hnd (fun k hk => .inl hk) rfl (fun hc => ⟨hne, es, clock, since, seen', c0', h'⟩)
    refine ⟨.tuple #[.bool true, K p.1, V p.2], w', _, _, ⟨some p, _, fun h => (by cases h), fun q hq => (by cases hq; exact ⟨hp, rfl⟩), rfl, rfl⟩, hx2, ⟨[.bool true, K p.1, V p.2], rfl, _, _, rfl, rfl, _, _, rfl, rfl, _, _, rfl, rfl, rfl⟩, h4.1, h4.2, .inl ?_⟩
    simp [execOp, hs.plain hx, hrun, Sem.run_bind, Result.andThen]
omit [DecidableEq α] in
/-- The entry that came last. -/
theorem Val.entryMap (hx : look l x = some (.v (.pointer (some ⟨r, 0, none⟩)))) (hb : It.pc (rngPc b r K V Good m rest (some p)) ∈ σ) (hX : b ∉ X ∧ r ∉ X) : Val P n W σ l X ⟨d, .entry x, ty, pos, aft, g⟩ (.tup [.v (K p.1), .v (V p.2)]) := fun ac w hs _ => by
  obtain ⟨hne, es, clock, since, seen, c0, h⟩ : (rngPc b r K V Good m rest (some p)).p _ w := hs.mem.hold _ hb
  obtain ⟨rfl, e, s', he, hk, hv, rfl⟩ := h.last p rfl
  refine ⟨.tuple #[K p.1, V p.2], ⟨[K p.1, V p.2], rfl, _, _, rfl, rfl, _, _, rfl, rfl, rfl⟩, fun w' hw' => ?_⟩
  have h1 := run_entry_at (P := P) w' r b since s' es c0 e ((hw'.block r (heap_lt h.hr) hX.2).trans h.hr) ((hw'.block b (heap_lt h.hb) hX.1).trans h.hb) he h.bnd
  rw [hk, hv] at h1
  simp [execOp, hs.plain hx, h1, Sem.run_bind, Result.andThen]
omit [DecidableEq α] in
/-- The range is over. -/
theorem SC.rngDone {c : Code} (hu : Upd (.pc (rngPc b r K V Good m rest cur)) (.pc (mapPc b K V Good m)) σ τ) (q : SC P c (St n W τ l) Q) : SC P c (St n W σ l) Q := fun ac w hs => by
  obtain ⟨hne, es, clock, since, seen, c0, h⟩ : (rngPc b r K V Good m rest cur).p _ w := hs.mem.hold _ hu.mem
  have h4 := hs.mem.upd hu (Ext.refl w) (by simp [It.mids, mapPc]) (fun k hk => .inl (by simp [It.mids, mapPc, rngPc] at hk ⊢; exact .inl hk)) rfl (fun _ => h.map)
  exact q ac w (hs.to h4.1 h4.2)
theorem rest_less (h : p ∈ rest) : (rest.filter fun q => decide (q.1 ≠ p.1)).length < rest.length := List.length_filter_lt_length_iff_exists.2 ⟨p, h, by simp⟩
end
end Go.Proofs.YtejcohlpjikjpaaGreatDoor.A
/-
  Agree: whether two agree.
-/
namespace Go.Proofs.YtejcohlpjikjpaaGreatDoor.A
open Go.RowKit

theorem optSome {α : Type} {o : Option α} (h : o.isSome = true) : ∃ v, o = some v := Option.isSome_iff_exists.1 h
theorem optNone {α : Type} {o : Option α} (h : o.isSome = false) : o = none := by simpa using h
/-- What is done of a map's rows, and what is still to come. -/
theorem todo_step {tm : List (Int × (Value × List Dd))} {P : Int × (Value × List Dd) → Prop} {rest : List (Int × Value)} {e : Int × (Value × List Dd)} (hn : (tm.map (·.1)).Nodup) (h : ∀ d ∈ tm, (d.1, d.2.1) ∈ rest ∨ P d) (he : e ∈ tm) (hp : P e) : ∀ d ∈ tm, (d.1, d.2.1) ∈ (rest.filter fun q => decide (q.1 ≠ e.1)) ∨ P d := by
  intro d hd
  by_cases hk : d.1 = e.1
  · obtain rfl : d = e := by
      obtain ⟨i, hi9, rfl⟩ := List.getElem_of_mem hd
      obtain ⟨j, hj, rfl⟩ := List.getElem_of_mem he
      have := (List.getElem_inj (h₀ := by simpa using hi9) (h₁ := by simpa using hj) hn).1 (by simpa using hk)
      simp [this]
    exact .inr hp
  · rcases h d hd with h1 | h1
    · exact .inl (List.mem_filter.2 ⟨h1, by simpa using hk⟩)
    · exact .inr h1
section
variable {a b : List Dd} {l : List (List Dd)}
set_option maxHeartbeats 2000000 in
theorem agree_s (ha : ∀ d ∈ a, DdIns d) (hb : ∀ d ∈ b, DdIns d) (hal : ∀ d ∈ a, d.batch.length ≤ 1000) (hbl : ∀ d ∈ b, d.batch.length ≤ 1000) (han : a.length ≤ 1000) (hbn : b.length ≤ 1000) : Spec Tryz.prog 12 [ddsA a, ddsA b] [] (fun _ : Unit => []) (fun _ => boo (decide (sameD a b))) := by
 refine spec_of Tryz.func12 rfl Tryz.ntmps12 rfl fun G w => ?_
 refine SC.seq (SC.region ?_)
 refine SL.val (Val.assign rfl) rfl rfl ?_
 refine SL.nil (SE.seq ?_)
 refine SC.seq (SC.region ?_)
 refine SL.val (Val.move rfl) rfl rfl ?_
 refine SL.eff (Eff.buildSl tabOk Tryz.underlying22 rfl rfl rfl rfl rfl rfl rfl) rfl rfl ?_
 rintro _ _ ⟨rfl, rfl⟩
 refine SL.call (numbers_s (l := [b]) (by simpa using hb) (by simpa using hbn)) Casts.refl (by kernel_rfl) rfl rfl rfl ?_
 refine After.make2 (by repeat (first | exact Reads.nil | (refine Reads.blk ?_ ?_; focus ((repeat first|assumption|exact m0|apply m1); done)) | (refine Reads.rd ?_ ?_; focus ((repeat first|assumption|exact m0|apply m1); done)) | (refine Reads.pc ?_ ?_; focus ((repeat first|assumption|exact m0|apply m1); done)) | (refine Reads.rdpc ?_ ?_; focus ((repeat first|assumption|exact m0|apply m1); done)))) (fun _ => rfl) ?_
 intro nb
 refine SL.val (Val.assign rfl) rfl rfl ?_
 refine SL.nil (SE.seq ?_)
 refine SC.seq ?_
 refine SC.seq ?_
 have hnb : Num b nb.1.2 := by have h9 := nb.2; simpa using h9
 refine SC.region ?_
 refine SL.val (Val.move rfl) rfl rfl ?_
 refine SL.eff (Eff.buildSl tabOk Tryz.underlying22 rfl rfl rfl rfl rfl rfl rfl) rfl rfl ?_
 rintro _ _ ⟨rfl, rfl⟩
 refine SL.call (numbers_s (l := [a]) (by simpa using ha) (by simpa using han)) Casts.refl (by kernel_rfl) rfl rfl rfl ?_
 refine After.make2 (by repeat (first | exact Reads.nil | (refine Reads.blk ?_ ?_; focus ((repeat first|assumption|exact m0|apply m1); done)) | (refine Reads.rd ?_ ?_; focus ((repeat first|assumption|exact m0|apply m1); done)) | (refine Reads.pc ?_ ?_; focus ((repeat first|assumption|exact m0|apply m1); done)) | (refine Reads.rdpc ?_ ?_; focus ((repeat first|assumption|exact m0|apply m1); done)))) (fun _ => rfl) ?_
 intro na
 refine SL.eff (Eff.rangeMap (K := intK) (V := id) (Good := intOk) (m := rawM na.1.2) Tryz.underlying53 rfl (fun _ => (by repeat first|assumption|exact Upd.here|apply Upd.there))) rfl rfl ?_
 rintro _ _ ⟨r16, rfl, rfl⟩
 refine SL.nil (SE.seq ?_)
 refine SC.block ?_
 have hna : Num a na.1.2 := by have h9 := na.2; simpa using h9
 refine SC.loop (ι := List (Int × Value) × Option (Int × Value)) (fun y => [facts (facM ddsA na.1.2), .pc (rngPc na.1.1 r16 intK id intOk (rawM na.1.2) y.1 y.2), facts (facM ddsA nb.1.2), .pc (mapPc nb.1.1 intK id intOk (rawM nb.1.2))]) (fun y => [(5, mapV nb.1.1), (16, ptr r16)]) (fun y => (∀ p ∈ y.1, p ∈ rawM na.1.2) ∧ (∀ e ∈ na.1.2, (e.1, e.2.1) ∈ y.1 ∨ ∀ x ∈ e.2.2, oneB (x :: rowOf b e.1))) (fun y => y.1.length) (rawM na.1.2, none) (⟨fun p hp => hp, fun e he => .inl (List.mem_map.2 ⟨e, he, rfl⟩)⟩) (by exact ⟨rfl, rfl, trivial⟩) (by repeat first|exact s0 _|exact s1 _|apply s2|apply s3) ?_
 intro y hy
 refine SC.seq (SC.region ?_)
 refine SL.eff (Eff.nextMap (K := intK) (V := id) (Good := intOk) (m := rawM na.1.2) (rest := y.1) (cur := y.2) rfl (fun _ _ => (by repeat first|assumption|exact Upd.here|apply Upd.there))) rfl rfl ?_
 rintro _ _ ⟨o, rest', ho, hpo, rfl, rfl⟩
 refine SL.val (Val.extract rfl rfl) rfl rfl ?_
 refine SL.nil (SE.seq ?_)
 refine SC.seq ?_
 refine SC.cond rfl ?_ ?_
 rotate_left
 ·intro hc18
  have ho2 := optNone hc18
  subst ho2
  have hr0 := ho rfl
  refine SC.exit ?_
  refine SE.then_ nofun ?_
  refine SE.then_ nofun ?_
  refine SE.exit ?_
  refine SE.seq ?_
  refine SC.seq (SC.region ?_)
  refine SL.val (Val.assign rfl) rfl rfl ?_
  refine SL.nil (SE.seq ?_)
  refine SC.ret ?_
  refine SE.fin (rs := [.tmp 4]) rfl (RV.tmp rfl RV.nil) (()) (by repeat first|exact s0 _|exact s1 _|apply s2|apply s3) (by simp [It.rids]) ?_
  refine congrArg (fun b => Abs.v (Value.bool b)) (Eq.symm (decide_eq_true ?_))
  rw [sameD_rows]
  intro x hx h1
  have hxr : x ∈ rowOf a x.seq := rowOf_mem.2 ⟨hx, h1, rfl⟩
  by_cases hk : ∃ e ∈ na.1.2, e.1 = x.seq
  ·obtain ⟨e, he, hk⟩ := hk
   rcases hy.2 e he with h2 | h2
   ·rw [hr0] at h2; cases h2
   ·rw [← hk] at hxr ⊢
    exact h2 x (by rw [hna.entry he]; exact hxr)
  ·rw [hna.none (fun e he h2 => hk ⟨e, he, h2⟩)] at hxr
   cases hxr
 intro hc18
 obtain ⟨p, rfl⟩ := optSome hc18
 obtain ⟨hpm, hre⟩ := hpo p rfl
 subst hre
 have hls := rest_less hpm
 obtain ⟨e, he0, hep⟩ := List.mem_map.1 (hy.1 p hpm)
 subst hep
 have her := hna.entry he0
 have hrb : ∀ d ∈ (rowOf b e.1), DdIns d ∧ d.batch.length ≤ 1000000 := fun d hd => ⟨hb d (rowOf_mem.1 hd).1, by have := hbl d (rowOf_mem.1 hd).1; omega⟩
 have hrl := row_le b e.1
 refine SC.skip ?_
 refine SE.seq ?_
 refine SC.block ?_
 refine SC.seq (SC.region ?_)
 refine SL.val (Val.entryMap rfl (by repeat first|assumption|exact m0|apply m1) ⟨List.not_mem_nil, List.not_mem_nil⟩) rfl rfl ?_
 refine SL.val (Val.to (C := int e.1) (Val.extract rfl rfl) rfl) rfl rfl ?_
 refine SL.val (Val.fact (A := ddsA e.2.2) (u := e.2.1) (L := facM ddsA na.1.2) (Val.extract rfl rfl) (.inl (by repeat first|assumption|exact m0|apply m1)) (List.mem_map.2 ⟨e, he0, rfl⟩)) rfl rfl ?_
 iterate 2 refine SL.val (Val.assign rfl) rfl rfl ?_
 refine SL.nil (SE.seq ?_)
 refine SC.seq (SC.region ?_)
 refine SL.val (Val.move rfl) rfl rfl ?_
 first
  | refine SL.val (Val.lenSl rfl Tryz.underlying24 (List.length_map _)) rfl rfl ?_
  | refine SL.val (Val.lenOwn rfl (by repeat first|assumption|exact m0|apply m1) Tryz.underlying24 (List.length_map _)) rfl rfl ?_
  | refine SL.val (Val.lenNil rfl Tryz.underlying24) rfl rfl ?_
 refine SL.val (Val.move rfl) rfl rfl ?_
 refine SL.nil (SE.seq ?_)
 refine SC.block ?_
 refine SC.rowLe (i := 22) rfl fun hrow => ?_
 rw [List.length_map] at hrow
 unfold maxLen at hrow
 refine SC.loop (ι := Nat) (fun q => [facts (facM ddsA na.1.2), .pc (rngPc na.1.1 r16 intK id intOk (rawM na.1.2) (y.1.filter fun q => decide (q.1 ≠ (e.1, e.2.1).1)) (some (e.1, e.2.1))), facts (facM ddsA nb.1.2), .pc (mapPc nb.1.1 intK id intOk (rawM nb.1.2))]) (fun q => [(5, mapV nb.1.1), (16, ptr r16), (6, int e.1), (22, ddsA e.2.2), (23, int (e.2.2.length : Nat)), (24, int (q : Nat))]) (fun q => q ≤ e.2.2.length ∧ ∀ j (hj : j < e.2.2.length), j < q → oneB (e.2.2[j] :: rowOf b e.1)) (fun q => e.2.2.length - q) (0) (⟨Nat.zero_le _, fun j hj h => by omega⟩) (by exact ⟨rfl, rfl, rfl, rfl, rfl, rfl, trivial⟩) (by repeat first|exact s0 _|exact s1 _|apply s2|apply s3) ?_
 intro q hq
 refine SC.seq (SC.region ?_)
 refine SL.val (Val.ltI rfl rfl) rfl rfl ?_
 refine SL.nil (SE.seq ?_)
 refine SC.seq ?_
 refine SC.condP rfl ?_ ?_
 rotate_left
 ·intro hc25
  refine SC.exit ?_
  refine SE.then_ nofun ?_
  refine SE.then_ nofun ?_
  refine SE.exit ?_
  refine SE.inBlock ?_
  refine SE.round ((y.1.filter fun q => decide (q.1 ≠ (e.1, e.2.1).1)), some (e.1, e.2.1)) (by exact hls) (⟨fun q hq => hy.1 q ((List.mem_filter.1 hq).1), todo_step hna.nd hy.2 he0 (fun x hx => by obtain ⟨j, hj, rfl⟩ := List.getElem_of_mem hx; exact hq.2 j hj (by omega))⟩) (by exact ⟨rfl, rfl, trivial⟩) (by repeat first|exact s0 _|exact s1 _|apply s2|apply s3)
 intro hc25
 have hq2 : q < e.2.2.length := by omega
 have hqm : (e.2.2[q]'hq2) ∈ rowOf a e.1 := her ▸ List.getElem_mem hq2
 have hxq : DdIns (e.2.2[q]'hq2) ∧ (e.2.2[q]'hq2).batch.length ≤ 1000000 := ⟨ha _ (rowOf_mem.1 hqm).1, by have := hal _ (rowOf_mem.1 hqm).1; omega⟩
 refine SC.skip ?_
 refine SE.seq ?_
 refine SC.seq ?_
 refine SC.block ?_
 refine SC.seq (SC.region ?_)
 refine SL.val (Val.indexSl tabOk Tryz.underlying24 rfl rfl rfl rfl (at_map (by omega)) rfl rfl) rfl rfl ?_
 refine SL.val (Val.loadAR tabOk rfl rfl rfl (by rfl)) rfl rfl ?_
 refine SL.eff (Eff.alloc tabOk rfl) rfl rfl ?_
 rintro _ _ ⟨b9, rfl, rfl⟩
 refine SL.eff (Eff.store (L' := (e.2.2[q]'hq2).abs) tabOk rfl rfl rfl (by repeat first|assumption|exact Upd.here|apply Upd.there) rfl (lb_ (by rfl)) rfl (by exact putL_whole rfl)) rfl rfl ?_
 rintro _ _ ⟨rfl, rfl⟩
 refine SL.nil (SE.seq ?_)
 refine SC.seq (SC.region ?_)
 refine SL.val (Val.to (C := .agg (e.2.2[q]'hq2).abs) (Val.loadP tabOk rfl rfl rfl (by repeat first|assumption|exact o0_|exact o1_|apply o2_) List.not_mem_nil (lb_ (by rfl))) rfl) rfl rfl ?_
 refine SL.eff (Eff.buildOwn tabOk Tryz.underlying24 rfl rfl rfl rfl rfl rfl rfl) rfl rfl ?_
 rintro _ _ ⟨r29, rfl, rfl⟩
 iterate 2 refine SL.val (Val.move rfl) rfl rfl ?_
 refine SL.val (Val.to (C := ddsA (rowOf b e.1)) (Val.mapGetT (tm := nb.1.2) (enc := ddsA) (z0 := []) (zv := .slice none 0 0) (L := facM ddsA nb.1.2) (int_fit Tryz.underlying2) Tryz.underlying53 zero_sl (fun _ _ => rep_nil rfl) rfl (by repeat first|assumption|exact o0_|exact o1_|apply o2_) (.inl (by repeat first|assumption|exact m0|apply m1)) (fun _ h => h) List.not_mem_nil rfl is_v (i64_in (hna.ok e he0))) (by rw [hnb.get e.1])) rfl rfl ?_
 refine SL.eff (Eff.appendE (zs := ((e.2.2[q]'hq2) :: (rowOf b e.1)).map Dd.abs) tabOk [] rfl Tryz.underlying24 rfl rfl rfl rfl rfl rfl (dds_ones _) (by unfold maxLen; simp only [List.length_map, List.length_cons, List.length_nil]; omega) (by rw [show Tryz.prog.bytesOf 44 = 40 by kernel_rfl]; simp only [List.length_map, List.length_cons, List.length_nil]; omega)) rfl rfl ?_
 rintro _ _ ⟨r33, rfl, rfl⟩
 refine SL.freeze [] (t := 33) rfl rfl ?_
 refine SL.call (same_s (l := (e.2.2[q]'hq2) :: (rowOf b e.1)) (fun d hd => by rcases List.mem_cons.1 hd with h1 | h1; exact h1 ▸ hxq; exact hrb d h1)) Casts.refl (by kernel_rfl) rfl rfl rfl ?_
 refine ap_ ?_
 intro _
 refine SL.val (Val.notP rfl) rfl rfl ?_
 refine SL.nil (SE.seq ?_)
 refine SC.condP rfl ?_ ?_
 rotate_left
 ·intro hc35
  refine SC.skip ?_
  refine SE.inBlock ?_
  refine SE.seq ?_
  refine SC.region ?_
  first
   | refine SL.val (Val.addI rfl rfl (by simp only [InR, lo, hi]; omega)) rfl rfl ?_
   | refine SL.val (Val.addW rfl rfl) rfl rfl ?_
  refine SL.val (Val.move rfl) rfl rfl ?_
  refine SL.nil ?_
  refine SE.round (q + 1) (by first | omega | (dsimp only; omega)) (⟨by omega, fun j h1 h2 => by rcases Nat.lt_or_ge j q with h3 | h3; exact hq.2 j h1 h3; obtain rfl : j = q := (by omega); simp_all⟩) (by exact ⟨rfl, rfl, rfl, rfl, rfl, rfl, trivial⟩) (by repeat first|exact s0 _|exact s1 _|apply s2|apply s3)
 intro hc35
 refine SC.seq (SC.region ?_)
 refine SL.val (Val.assign rfl) rfl rfl ?_
 refine SL.nil (SE.seq ?_)
 refine SC.ret ?_
 refine SE.ret ?_
 refine SE.then_ nofun ?_
 refine SE.then_ nofun ?_
 refine SE.ret ?_
 refine SE.ret ?_
 refine SE.then_ nofun ?_
 refine SE.ret ?_
 refine SE.then_ nofun ?_
 refine SE.fin (rs := [.tmp 4]) rfl (RV.tmp rfl RV.nil) (()) (by repeat first|exact s0 _|exact s1 _|apply s2|apply s3) (by simp [It.rids]) ?_
 refine boo_dec0 fun h => ?_
 obtain ⟨g1, g2, g3⟩ := rowOf_mem.1 hqm
 have h9 := sameD_rows.1 h _ g1 g2
 rw [g3] at h9
 simp_all
end
end Go.Proofs.YtejcohlpjikjpaaGreatDoor.A
/-
  Agree: what they tell together.
-/
namespace Go.Proofs.YtejcohlpjikjpaaGreatDoor.A
open Go.RowKit

theorem clone_ents_s {xs : List (List Abs)} (h1 : ∀ c ∈ xs, ones c = true) (hn : xs.length ≤ 1000000) : Spec Tryz.prog 29 [.sl 8 xs] [] (fun _ : Unit => []) (fun _ => .sl 8 xs) := by
 refine spec_of Tryz.func29 rfl Tryz.ntmps29 rfl fun G w => ?_
 refine SC.seq (SC.region ?_)
 refine SL.val (Val.assign rfl) rfl rfl ?_
 refine SL.nil (SE.seq ?_)
 refine SC.seq ?_
 refine SC.seq (SC.region ?_)
 refine SL.val (Val.move rfl) rfl rfl ?_
 refine SL.eqNil Tryz.underlying33 rfl rfl rfl ?_
 intro b hb
 refine SL.nil (SE.seq ?_)
 refine SC.cond rfl ?_ ?_
 ·intro hc4
  have hnil : xs = [] := hb hc4
  subst hnil
  refine SC.seq (SC.region ?_)
  refine SL.val (Val.assign rfl) rfl rfl ?_
  refine SL.nil (SE.seq ?_)
  refine SC.ret ?_
  refine SE.then_ nofun ?_
  refine SE.finC (rs := [.tmp 2]) rfl (RV.tmp rfl RV.nil) (Casts.nils (s := 8) Casts.refl) () (by repeat first|exact s0 _|exact s1 _|apply s2|apply s3) (by simp [It.rids]) rfl
 intro hc4
 refine SC.skip ?_
 refine SE.seq ?_
 refine SC.seq (SC.region ?_)
 refine SL.eff (Eff.buildOwn tabOk Tryz.underlying33 rfl rfl rfl rfl rfl rfl rfl) rfl rfl ?_
 rintro _ _ ⟨r5, rfl, rfl⟩
 refine SL.val (Val.move rfl) rfl rfl ?_
 refine SL.eff (Eff.appendE (zs := xs) tabOk [] rfl Tryz.underlying33 rfl rfl rfl rfl rfl rfl h1 (by unfold maxLen; simp only [List.length_nil]; omega) (by rw [show Tryz.prog.bytesOf 51 = 80 by kernel_rfl]; simp only [List.length_nil]; omega)) rfl rfl ?_
 rintro _ _ ⟨r7, rfl, rfl⟩
 refine SL.val (Val.assign rfl) rfl rfl ?_
 refine SL.nil (SE.seq ?_)
 refine SC.ret ?_
 refine SE.freeze [] (t := 2) rfl rfl ?_
 refine SE.fin (rs := [.tmp 2]) rfl (RV.tmp rfl RV.nil) (()) (by repeat first|exact s0 _|exact s1 _|apply s2|apply s3) (by simp [It.rids]) ?_
 exact rfl
theorem ents_ones (l : List Ent) : ∀ c ∈ l.map entA, ones c = true := by
  intro c hc
  obtain ⟨o, _, rfl⟩ := List.mem_map.1 hc
  rfl
section
variable {a b : List Dd} {l : List (List Dd)}
set_option maxHeartbeats 2000000 in
theorem merge_s (hi9 : ∀ d ∈ l.flatten, DdIns d) (hbl : ∀ d ∈ l.flatten, d.batch.length ≤ 1000) (hn : l.flatten.length ≤ 1000) : Spec Tryz.prog 14 [ddssA l] [] (fun _ : Unit => []) (fun _ => .tup [histA (mergeF l).1, boo (mergeF l).2]) := by
 refine spec_of Tryz.func14 rfl Tryz.ntmps14 rfl fun G w => ?_
 refine SC.seq (SC.region ?_)
 iterate 2 refine SL.val (Val.assign rfl) rfl rfl ?_
 refine SL.nil (SE.seq ?_)
 refine SC.seq (SC.region ?_)
 refine SL.val (Val.move rfl) rfl rfl ?_
 refine SL.call (numbers_s (l := l) hi9 hn) Casts.refl (by kernel_rfl) rfl rfl rfl ?_
 refine After.make2 (by repeat (first | exact Reads.nil | (refine Reads.blk ?_ ?_; focus ((repeat first|assumption|exact m0|apply m1); done)) | (refine Reads.rd ?_ ?_; focus ((repeat first|assumption|exact m0|apply m1); done)) | (refine Reads.pc ?_ ?_; focus ((repeat first|assumption|exact m0|apply m1); done)) | (refine Reads.rdpc ?_ ?_; focus ((repeat first|assumption|exact m0|apply m1); done)))) (fun _ => rfl) ?_
 intro nl
 refine SL.val (Val.assign rfl) rfl rfl ?_
 refine SL.nil (SE.seq ?_)
 refine SC.seq ?_
 refine SC.seq (SC.region ?_)
 refine SL.val (Val.move rfl) rfl rfl ?_
 refine SL.eff (Eff.rangeMap (K := intK) (V := id) (Good := intOk) (m := rawM nl.1.2) Tryz.underlying53 rfl (fun _ => (by repeat first|assumption|exact Upd.here|apply Upd.there))) rfl rfl ?_
 rintro _ _ ⟨r12, rfl, rfl⟩
 refine SL.nil (SE.seq ?_)
 refine SC.block ?_
 refine SC.loop (ι := List (Int × Value) × Option (Int × Value)) (fun y => [facts (facM ddsA nl.1.2), .pc (rngPc nl.1.1 r12 intK id intOk (rawM nl.1.2) y.1 y.2)]) (fun y => [(4, mapV nl.1.1), (12, ptr r12)]) (fun y => (∀ p ∈ y.1, p ∈ rawM nl.1.2) ∧ (∀ e ∈ nl.1.2, (e.1, e.2.1) ∈ y.1 ∨ oneB e.2.2)) (fun y => y.1.length) (rawM nl.1.2, none) (⟨fun p hp => hp, fun e he => .inl (List.mem_map.2 ⟨e, he, rfl⟩)⟩) (by exact ⟨rfl, rfl, trivial⟩) (by repeat first|exact s0 _|exact s1 _|apply s2|apply s3) ?_
 intro y hy
 refine SC.seq (SC.region ?_)
 refine SL.eff (Eff.nextMap (K := intK) (V := id) (Good := intOk) (m := rawM nl.1.2) (rest := y.1) (cur := y.2) rfl (fun _ _ => (by repeat first|assumption|exact Upd.here|apply Upd.there))) rfl rfl ?_
 rintro _ _ ⟨o, rest', ho, hpo, rfl, rfl⟩
 refine SL.val (Val.extract rfl rfl) rfl rfl ?_
 refine SL.nil (SE.seq ?_)
 refine SC.seq ?_
 refine SC.cond rfl ?_ ?_
 ·intro hc14
  obtain ⟨p, rfl⟩ := optSome hc14
  obtain ⟨hpm, hre⟩ := hpo p rfl
  subst hre
  have hls := rest_less hpm
  obtain ⟨e, he0, hep⟩ := List.mem_map.1 (hy.1 p hpm)
  subst hep
  refine SC.skip ?_
  refine SE.seq ?_
  refine SC.block ?_
  refine SC.seq (SC.region ?_)
  refine SL.val (Val.entryMap rfl (by repeat first|assumption|exact m0|apply m1) ⟨List.not_mem_nil, List.not_mem_nil⟩) rfl rfl ?_
  refine SL.val (Val.fact (A := ddsA e.2.2) (u := e.2.1) (L := facM ddsA nl.1.2) (Val.extract rfl rfl) (.inl (by repeat first|assumption|exact m0|apply m1)) (List.mem_map.2 ⟨e, he0, rfl⟩)) rfl rfl ?_
  refine SL.val (Val.assign rfl) rfl rfl ?_
  refine SL.nil (SE.seq ?_)
  refine SC.seq (SC.region ?_)
  refine SL.val (Val.move rfl) rfl rfl ?_
  refine SL.call (same_s (l := e.2.2) (fun d hd => by rw [nl.2.entry he0] at hd; exact ⟨hi9 d (rowOf_mem.1 hd).1, by have := hbl d (rowOf_mem.1 hd).1; omega⟩)) Casts.refl (by kernel_rfl) rfl rfl rfl ?_
  refine ap_ ?_
  intro _
  refine SL.val (Val.notP rfl) rfl rfl ?_
  refine SL.nil (SE.seq ?_)
  refine SC.condP rfl ?_ ?_
  rotate_left
  ·intro hc19
   refine SC.skip ?_
   refine SE.inBlock ?_
   refine SE.round ((y.1.filter fun q => decide (q.1 ≠ (e.1, e.2.1).1)), some (e.1, e.2.1)) (by exact hls) (⟨fun q hq => hy.1 q ((List.mem_filter.1 hq).1), todo_step (P := fun e => oneB e.2.2) nl.2.nd hy.2 he0 (by simpa using hc19)⟩) (by exact ⟨rfl, rfl, trivial⟩) (by repeat first|exact s0 _|exact s1 _|apply s2|apply s3)
  intro hc19
  refine SC.seq (SC.region ?_)
  iterate 2 refine SL.val (Val.assign rfl) rfl rfl ?_
  refine SL.nil (SE.seq ?_)
  refine SC.ret ?_
  refine SE.ret ?_
  refine SE.then_ nofun ?_
  refine SE.ret ?_
  refine SE.then_ nofun ?_
  refine SE.finC (rs := [.tmp 2, .tmp 3]) rfl (RV.tmp rfl (RV.tmp rfl RV.nil)) (Casts.nils (s := 1) Casts.refl) (()) (by repeat first|exact s0 _|exact s1 _|apply s2|apply s3) (by simp [It.rids]) ?_
  rw [show mergeF l = ([], false) from if_neg (fun h => by have h9 := allSame_rows.1 h e.1; rw [← nl.2.entry he0] at h9; simp_all)]
  rfl
 intro hc14
 have ho2 := optNone hc14
 subst ho2
 have hr0 := ho rfl
 have hall : allSame l := by
  rw [allSame_rows]
  intro k
  by_cases hk : ∃ e ∈ nl.1.2, e.1 = k
  ·obtain ⟨e, he, rfl⟩ := hk
   rw [← nl.2.entry he]
   rcases hy.2 e he with h2 | h2
   ·rw [hr0] at h2; cases h2
   ·exact h2
  ·rw [nl.2.none (fun e he h2 => hk ⟨e, he, h2⟩)]
   exact fun x hx => by cases hx
 refine SC.exit ?_
 refine SE.then_ nofun ?_
 refine SE.then_ nofun ?_
 refine SE.exit ?_
 refine SE.seq ?_
 refine SC.seq (SC.region ?_)
 refine SL.val (Val.assign rfl) rfl rfl ?_
 refine SL.nil (SE.seq ?_)
 refine SC.seq ?_
 refine SC.seq (SC.region ?_)
 refine SL.val (Val.assign rfl) rfl rfl ?_
 refine SL.nil (SE.seq ?_)
 refine SC.block ?_
 refine SC.rngDone (by repeat first|assumption|exact Upd.here|apply Upd.there) ?_
 refine SC.own0 33 1 ?_
 refine SC.loop (ι := List (List Ent) × Value) (fun u => [own 33 1 u.2 ((u.1).map fun b => [entsR b]), facts (facM ddsA nl.1.2), .pc (mapPc nl.1.1 intK id intOk (rawM nl.1.2))]) (fun u => [(4, mapV nl.1.1), (7, .v u.2), (8, int ((u.1.length : Int) + 1))]) (fun u => HistUp l.flatten u.1) (fun u => l.flatten.length + 1 - u.1.length) ([], .slice none 0 0) (HistUp.nil) (by exact ⟨rfl, rfl, rfl, trivial⟩) (by repeat first|exact s0 _|exact s1 _|apply s2|apply s3) ?_
 intro u hu
 refine SC.seq ?_
 refine SC.seq ?_
 have hul := hu.le
 refine SC.region ?_
 iterate 2 refine SL.val (Val.move rfl) rfl rfl ?_
 refine SL.val (Val.to (C := ddsA (rowOf l.flatten ((u.1.length : Int) + 1))) (Val.mapGetT (a := ((u.1.length : Int) + 1)) (tm := nl.1.2) (enc := ddsA) (z0 := []) (zv := .slice none 0 0) (L := facM ddsA nl.1.2) (int_fit Tryz.underlying2) Tryz.underlying53 zero_sl (fun _ _ => rep_nil rfl) rfl (by repeat first|assumption|exact o0_|exact o1_|apply o2_) (.inl (by repeat first|assumption|exact m0|apply m1)) (fun _ h => h) List.not_mem_nil rfl is_v (i64_in (show i64ok _ by unfold i64ok; omega))) (by rw [nl.2.get ((u.1.length : Int) + 1)])) rfl rfl ?_
 refine SL.val (Val.to (C := int ((rowOf l.flatten ((u.1.length : Int) + 1)).length : Nat)) (Val.lenSl (m := (rowOf l.flatten ((u.1.length : Int) + 1)).length) rfl Tryz.underlying24 (List.length_map _)) rfl) rfl rfl ?_
 refine SL.val (Val.gtI rfl rfl) rfl rfl ?_
 refine SL.nil (SE.seq ?_)
 refine SC.condP rfl ?_ ?_
 rotate_left
 ·intro hc24
  have hre : (rowOf l.flatten ((u.1.length : Int) + 1)) = [] := List.length_eq_zero_iff.1 (by omega)
  have hdo := hu.done hre
  refine SC.exit ?_
  refine SE.then_ nofun ?_
  refine SE.then_ nofun ?_
  refine SE.exit ?_
  refine SE.seq ?_
  refine SC.seq (SC.region ?_)
  refine SL.val (Val.move rfl) rfl rfl ?_
  iterate 2 refine SL.val (Val.assign rfl) rfl rfl ?_
  refine SL.nil (SE.seq ?_)
  refine SC.ret ?_
  refine SE.freeze [] (t := 2) rfl rfl ?_
  refine SE.fin (rs := [.tmp 2, .tmp 3]) rfl (RV.tmp rfl (RV.tmp rfl RV.nil)) (()) (by repeat first|exact s0 _|exact s1 _|apply s2|apply s3) (by simp [It.rids]) ?_
  rw [show mergeF l = (histF l.flatten, true) from if_pos hall, ← hdo]
  rfl
 intro hc24
 obtain ⟨d, hd⟩ : ∃ d, (rowOf l.flatten ((u.1.length : Int) + 1)).head? = some d := by
  cases hh : (rowOf l.flatten ((u.1.length : Int) + 1)).head? with
  | some d => exact ⟨d, rfl⟩
  | none =>
   rw [List.head?_eq_none_iff] at hh
   rw [hh] at hc24
   exact absurd hc24 (by decide)
 have hdm : d ∈ l.flatten := (rowOf_mem.1 (List.mem_of_mem_head? hd)).1
 have hmo := hu.more hd
 have hml := hmo.le
 rw [List.length_append, List.length_singleton] at hml
 refine SC.skip ?_
 refine SE.seq ?_
 refine SC.seq ?_
 refine SC.block ?_
 refine SC.region ?_
 iterate 3 refine SL.val (Val.move rfl) rfl rfl ?_
 refine SL.val (Val.to (C := ddsA (rowOf l.flatten ((u.1.length : Int) + 1))) (Val.mapGetT (a := ((u.1.length : Int) + 1)) (tm := nl.1.2) (enc := ddsA) (z0 := []) (zv := .slice none 0 0) (L := facM ddsA nl.1.2) (int_fit Tryz.underlying2) Tryz.underlying53 zero_sl (fun _ _ => rep_nil rfl) rfl (by repeat first|assumption|exact o0_|exact o1_|apply o2_) (.inl (by repeat first|assumption|exact m0|apply m1)) (fun _ h => h) List.not_mem_nil rfl is_v (i64_in (show i64ok _ by unfold i64ok; omega))) (by rw [nl.2.get ((u.1.length : Int) + 1)])) rfl rfl ?_
 refine SL.val (Val.indexSl (q := 0) (cs := d.abs) tabOk Tryz.underlying24 rfl rfl rfl rfl (by rw [List.getElem?_map, ← List.head?_eq_getElem?, hd]; rfl) rfl rfl) rfl rfl ?_
 first
  | refine SL.val (Val.fieldAddr tabOk rfl rfl rfl rfl rfl) rfl rfl ?_
  | refine SL.val (Val.fieldAddrR tabOk rfl rfl rfl rfl rfl) rfl rfl ?_
 refine SL.val (Val.to (C := entsR d.batch) (Val.load1R tabOk rfl rfl rfl) rfl) rfl rfl ?_
 refine SL.call (clone_ents_s (ents_ones d.batch) (by rw [List.length_map]; have := hbl d hdm; omega)) Casts.refl (by kernel_rfl) rfl rfl rfl ?_
 refine ap_ ?_
 intro _
 refine SL.eff (Eff.buildSl tabOk Tryz.underlying26 rfl rfl rfl rfl rfl rfl rfl) rfl rfl ?_
 rintro _ _ ⟨rfl, rfl⟩
 refine SL.eff (Eff.appendE (zs := (u.1 ++ [d.batch]).map fun b => [entsR b]) tabOk [] (by simp only [List.map_append]; rfl) Tryz.underlying26 rfl rfl rfl rfl rfl rfl (by intro c hc; rw [List.mem_singleton] at hc; subst hc; rfl) (by unfold maxLen; simp only [List.length_map, List.length_append, List.length_cons, List.length_nil]; omega) (by rw [show Tryz.prog.bytesOf 33 = 24 by kernel_rfl]; simp only [List.length_map, List.length_append, List.length_cons, List.length_nil]; omega)) rfl rfl ?_
 rintro _ _ ⟨r36, rfl, rfl⟩
 refine SL.val (Val.assign rfl) rfl rfl ?_
 refine SL.nil ?_
 refine SE.inBlock ?_
 refine SE.seq ?_
 refine SC.region ?_
 refine SL.val (Val.move rfl) rfl rfl ?_
 refine SL.val (Val.to (C := int (((u.1 ++ [d.batch]).length : Int) + 1)) (Val.addI rfl rfl (by simp only [InR, lo, hi]; omega)) (by refine congrArg int ?_; simp)) rfl rfl ?_
 refine SL.val (Val.assign rfl) rfl rfl ?_
 refine SL.nil ?_
 refine SE.round (u.1 ++ [d.batch], r36) (by simp only [List.length_append, List.length_singleton]; omega) (hmo) (by exact ⟨rfl, rfl, rfl, trivial⟩) (by repeat first|exact s0 _|exact s1 _|apply s2|apply s3)
end
end Go.Proofs.YtejcohlpjikjpaaGreatDoor.A
/-
  Agree: what they tell together, the document's.
-/
namespace Go.Proofs.YtejcohlpjikjpaaGreatDoor.A
open Go.RowKit

/-- One pass of the document's. -/
structure Pass (D D' : List Dd) (n : Nat) (H : List (List Ent)) (g : Bool) : Prop where
  up : HistUp D H
  len : H.length = n + (if g = true then 1 else 0)
  non : g = false → rowOf D' ((H.length : Int) + 1) = []
theorem Pass.hit {D D' R : List Dd} {n : Nat} {H : List (List Ent)} {d : Dd} (h : Pass D D' n H false) (hD : D = D' ++ d :: R) (h1 : d.adopted = false) (h2 : d.seq = (H.length : Int) + 1) : Pass D (D' ++ [d]) n (H ++ [d.batch]) true := by
  refine ⟨h.up.more (d := d) ?_, ?_, fun h => by cases h⟩
  · rw [hD, rowOf_app, h.non rfl, List.nil_append]
    unfold rowOf
    rw [List.filter_cons_of_pos (by simp [h1, h2])]
    rfl
  · have := h.len
    rw [List.length_append, List.length_singleton, this]
    rfl
section
variable {a b : List Dd} {l : List (List Dd)}
end
end Go.Proofs.YtejcohlpjikjpaaGreatDoor.A
/-
  Ledgers: what is found, and put in.
-/
namespace Go.Proofs.YtejcohlpjikjpaaGreatDoor.A
open Go.RowKit

def Oc.zero : Oc := ⟨0, 0, 0⟩
theorem place_find {α : Type} {eq gt : α → Bool} {xs : List α} (h : (placeG eq gt xs).2 = true) : ∃ h2 : (placeG eq gt xs).1 < xs.length, xs.find? eq = some (xs[(placeG eq gt xs).1]'h2) := by
  have ha : xs.any eq = true := by
    unfold placeG at h
    split at h
    · assumption
    · cases h
  have hp : placeG eq gt xs = (xs.findIdx eq, true) := if_pos ha
  refine ⟨by rw [hp]; exact findIdx_in ha, ?_⟩
  rw [find_at ha]
  simp only [hp]
theorem place_none {α : Type} {eq gt : α → Bool} {xs : List α} (h : ¬ (placeG eq gt xs).2 = true) : xs.find? eq = none := by
  refine find_none fun ha => h ?_
  unfold placeG
  rw [if_pos ha]
/-- Lists that are not too long. -/
structure Lg.Few (l : Lg) : Prop where
  ls : l.ls.length ≤ 1000
  os : l.os.length ≤ 1000
section
variable {l : Lg} {x : Ltr} {o : Oc} {k n : Int} {s : ByteArray} {c : Core} {e : Ent} {p : Nat}
theorem lcopied_s (hf : l.Few) : Spec Tryz.prog 64 [.agg l.abs] [] (fun _ : Unit => []) (fun _ => .agg l.abs) := by
 have hf1 := hf.ls
 have hf2 := hf.os
 refine spec_of Tryz.func64 rfl Tryz.ntmps64 rfl fun G w => ?_
 refine SC.seq (SC.region ?_)
 refine SL.eff (Eff.boxA (cs := l.abs) rfl) rfl rfl ?_
 rintro _ _ ⟨b1, rfl, rfl⟩
 refine SL.eff (Eff.alloc tabOk rfl) rfl rfl ?_
 rintro _ _ ⟨b2, rfl, rfl⟩
 refine SL.nil (SE.seq ?_)
 refine SC.seq ?_
 refine SC.drawS 7 [] (.q 0 (.q 1 (.q 3 (.q 4 (.e 2 (.q 6 (.e 5 .nil))))))) (.e 7 (.q 8 (.e 9 .nil))) (by kernel_rfl) (by kernel_rfl) ?_
 refine SX.val rfl (Val.fieldAddr tabOk rfl rfl rfl rfl rfl) (by simp) rfl rfl ?_
 refine SX.hx (by first|(simp[mids,It.mids,ownPc];done)|(intro k hk;simp[mids,It.mids,ownPc] at hk ⊢;grind)) fun hx9 => ?_
 refine SX.val rfl (Val.to (C := ltrsA l.ls) (Val.load1 tabOk rfl rfl (by repeat first|assumption|exact o0_|exact o1_|apply o2_) List.not_mem_nil (by rfl)) rfl) hx9 rfl rfl ?_
 refine SX.val rfl (Val.fieldAddr tabOk rfl rfl rfl rfl rfl) (by simp) rfl rfl ?_
 refine SX.val rfl (Val.to (C := .sl 3 (l.os.map Oc.abs)) (Val.load1 tabOk rfl rfl (by repeat first|assumption|exact o0_|exact o1_|apply o2_) List.not_mem_nil (by rfl)) rfl) hx9 rfl rfl ?_
 refine SX.call rfl (clone_ltr_s (ltrs_ones l.ls) (by rw [List.length_map]; omega)) (by simp [mids, It.mids]) Casts.refl (by kernel_rfl) rfl rfl rfl ?_
 refine ap_ ?_
 intro _
 refine SX.val rfl (Val.fieldAddr tabOk rfl rfl rfl rfl rfl) (by simp) rfl rfl ?_
 refine SX.call rfl (clone_oc_s (ocs_ones l.os) (by rw [List.length_map]; omega)) (by simp [mids, It.mids]) Casts.refl (by kernel_rfl) rfl rfl rfl ?_
 refine ap_ ?_
 intro _
 refine SX.nil ?_
 refine SE.rest [b1] ?_
 refine SX.eff rfl (Eff.store (L' := l.abs) tabOk rfl rfl rfl (by repeat first|assumption|exact Upd.here|apply Upd.there) rfl (lb_ (by rfl)) rfl (by rfl)) (by simp) rfl rfl ?_
 rintro _ _ ⟨rfl, rfl⟩
 refine SX.hx (by first|(simp[mids,It.mids,ownPc];done)|(intro k hk;simp[mids,It.mids,ownPc] at hk ⊢;grind)) fun hx9 => ?_
 refine SX.val rfl (Val.fieldAddr tabOk rfl rfl rfl rfl rfl) hx9 rfl rfl ?_
 refine SX.eff rfl (Eff.store (L' := l.abs) tabOk rfl rfl rfl (by repeat first|assumption|exact Upd.here|apply Upd.there) rfl (lb_ (by rfl)) rfl (by rfl)) (by simp) rfl rfl ?_
 rintro _ _ ⟨rfl, rfl⟩
 refine SX.nil (SE.seq ?_)
 refine SC.seq (SC.region ?_)
 first
  | refine SL.val (Val.loadA tabOk rfl rfl rfl (by repeat first|assumption|exact o0_|exact o1_|apply o2_) List.not_mem_nil (by rfl)) rfl rfl ?_
  | refine SL.val (Val.loadP tabOk rfl rfl rfl (by repeat first|assumption|exact o0_|exact o1_|apply o2_) List.not_mem_nil (lb_ (by rfl))) rfl rfl ?_
 refine SL.eff (Eff.store (L' := l.abs) tabOk rfl rfl rfl (by repeat first|assumption|exact Upd.here|apply Upd.there) rfl (lb_ (by rfl)) rfl (by exact putL_whole rfl)) rfl rfl ?_
 rintro _ _ ⟨rfl, rfl⟩
 refine SL.nil (SE.seq ?_)
 refine SC.ret ?_
 refine SE.fin (rs := [.cell 2 66]) rfl (RV.cell rfl (RV.cellA tabOk rfl rfl (by repeat first|assumption|exact o0_|exact o1_|apply o2_) (by rfl)) RV.nil) (()) (by repeat first|exact s0 _|exact s1 _|apply s2|apply s3) (by simp [It.rids]) ?_
 exact rfl
theorem llast_s (hf : l.Few) : Spec Tryz.prog 56 [.agg l.abs, int k] [] (fun _ : Unit => []) (fun _ => .tup [.agg (Oc.abs ((l.last k).getD Oc.zero)), boo (l.last k).isSome]) := by
 have hf1 := hf.ls
 have hf2 := hf.os
 refine spec_of Tryz.func56 rfl Tryz.ntmps56 rfl fun G w => ?_
 refine SC.seq (SC.region ?_)
 refine SL.eff (Eff.boxA (cs := l.abs) rfl) rfl rfl ?_
 rintro _ _ ⟨b2, rfl, rfl⟩
 refine SL.eff (Eff.alloc tabOk rfl) rfl rfl ?_
 rintro _ _ ⟨b4, rfl, rfl⟩
 refine SL.val (Val.assign rfl) rfl rfl ?_
 refine SL.nil (SE.seq ?_)
 refine SC.seq (SC.region ?_)
 refine SL.val (Val.fieldAddr tabOk rfl rfl rfl rfl rfl) rfl rfl ?_
 refine SL.val (Val.to (C := .sl 3 (l.os.map Oc.abs)) (Val.load1 tabOk rfl rfl (by repeat first|assumption|exact o0_|exact o1_|apply o2_) List.not_mem_nil (by rfl)) rfl) rfl rfl ?_
 refine SL.val (Val.move rfl) rfl rfl ?_
 refine SL.call (place_oc (xs := l.os) (k := k) (by omega)) Casts.refl (by kernel_rfl) rfl rfl rfl ?_
 refine ap_ ?_
 intro _
 refine SL.val (Val.move rfl) rfl rfl ?_
 refine SL.val (Val.extract rfl rfl) rfl rfl ?_
 refine SL.val (Val.extract rfl rfl) rfl rfl ?_
 iterate 2 refine SL.val (Val.assign rfl) rfl rfl ?_
 refine SL.nil (SE.seq ?_)
 refine SC.seq ?_
 refine SC.seq (SC.region ?_)
 refine SL.val (Val.move rfl) rfl rfl ?_
 refine SL.val (Val.notB rfl) rfl rfl ?_
 refine SL.nil (SE.seq ?_)
 refine SC.cond rfl ?_ ?_
 ·intro hc16
  have hnp : ¬ (placeG (eqO k) (gtO k) l.os).2 = true := by simpa using hc16
  have hfn := place_none hnp
  refine SC.seq (SC.region ?_)
  refine SL.val (Val.buildS tabOk rfl rfl rfl rfl) rfl rfl ?_
  refine SL.eff (Eff.store (L' := Oc.abs Oc.zero) tabOk rfl rfl rfl (by repeat first|assumption|exact Upd.here|apply Upd.there) rfl (lb_ (by rfl)) rfl (by exact putL_whole rfl)) rfl rfl ?_
  rintro _ _ ⟨rfl, rfl⟩
  refine SL.val (Val.assign rfl) rfl rfl ?_
  refine SL.nil (SE.seq ?_)
  refine SC.ret ?_
  refine SE.then_ nofun ?_
  refine SE.fin (rs := [.cell 4 76, .tmp 5]) rfl (RV.cell rfl (RV.cellA tabOk rfl rfl (by repeat first|assumption|exact o0_|exact o1_|apply o2_) (by rfl)) (RV.tmp rfl RV.nil)) (()) (by repeat first|exact s0 _|exact s1 _|apply s2|apply s3) (by simp [It.rids]) ?_
  unfold Lg.last
  rw [hfn]
  rfl
 intro hc16
 obtain ⟨hlt, hfs⟩ := place_find (show (placeG (eqO k) (gtO k) l.os).2 = true by simpa using hc16)
 refine SC.skip ?_
 refine SE.seq ?_
 refine SC.seq (SC.region ?_)
 refine SL.val (Val.fieldAddr tabOk rfl rfl rfl rfl rfl) rfl rfl ?_
 refine SL.val (Val.to (C := .sl 3 (l.os.map Oc.abs)) (Val.load1 tabOk rfl rfl (by repeat first|assumption|exact o0_|exact o1_|apply o2_) List.not_mem_nil (by rfl)) rfl) rfl rfl ?_
 refine SL.val (Val.move rfl) rfl rfl ?_
 refine SL.val (Val.indexSl (q := (placeG (eqO k) (gtO k) l.os).1) tabOk Tryz.underlying64 rfl rfl rfl rfl (at_map hlt) rfl rfl) rfl rfl ?_
 refine SL.val (Val.loadAR tabOk rfl rfl rfl (by rfl)) rfl rfl ?_
 refine SL.eff (Eff.store (L' := Oc.abs (l.os[(placeG (eqO k) (gtO k) l.os).1]'hlt)) tabOk rfl rfl rfl (by repeat first|assumption|exact Upd.here|apply Upd.there) rfl (lb_ (by rfl)) rfl (by exact putL_whole rfl)) rfl rfl ?_
 rintro _ _ ⟨rfl, rfl⟩
 refine SL.val (Val.assign rfl) rfl rfl ?_
 refine SL.nil (SE.seq ?_)
 refine SC.ret ?_
 refine SE.fin (rs := [.cell 4 76, .tmp 5]) rfl (RV.cell rfl (RV.cellA tabOk rfl rfl (by repeat first|assumption|exact o0_|exact o1_|apply o2_) (by rfl)) (RV.tmp rfl RV.nil)) (()) (by repeat first|exact s0 _|exact s1 _|apply s2|apply s3) (by simp [It.rids]) ?_
 unfold Lg.last
 rw [hfs]
 rfl
theorem lfind_s (hf : l.Few) : Spec Tryz.prog 58 [.agg l.abs, st s] [] (fun _ : Unit => []) (fun _ => .tup [.agg (ltrA ((l.find s).getD Ltr.none)), boo (l.find s).isSome]) := by
 have hf1 := hf.ls
 have hf2 := hf.os
 refine spec_of Tryz.func58 rfl Tryz.ntmps58 rfl fun G w => ?_
 refine SC.seq (SC.region ?_)
 refine SL.eff (Eff.boxA (cs := l.abs) rfl) rfl rfl ?_
 rintro _ _ ⟨b2, rfl, rfl⟩
 refine SL.eff (Eff.alloc tabOk rfl) rfl rfl ?_
 rintro _ _ ⟨b4, rfl, rfl⟩
 refine SL.val (Val.assign rfl) rfl rfl ?_
 refine SL.nil (SE.seq ?_)
 refine SC.seq (SC.region ?_)
 refine SL.val (Val.fieldAddr tabOk rfl rfl rfl rfl rfl) rfl rfl ?_
 refine SL.val (Val.to (C := .sl 6 (l.ls.map ltrA)) (Val.load1 tabOk rfl rfl (by repeat first|assumption|exact o0_|exact o1_|apply o2_) List.not_mem_nil (by rfl)) rfl) rfl rfl ?_
 refine SL.val (Val.move rfl) rfl rfl ?_
 refine SL.call (place_ltr (xs := l.ls) (k := s) (by omega)) Casts.refl (by kernel_rfl) rfl rfl rfl ?_
 refine ap_ ?_
 intro _
 refine SL.val (Val.move rfl) rfl rfl ?_
 refine SL.val (Val.extract rfl rfl) rfl rfl ?_
 refine SL.val (Val.extract rfl rfl) rfl rfl ?_
 iterate 2 refine SL.val (Val.assign rfl) rfl rfl ?_
 refine SL.nil (SE.seq ?_)
 refine SC.seq ?_
 refine SC.seq (SC.region ?_)
 refine SL.val (Val.move rfl) rfl rfl ?_
 refine SL.val (Val.notB rfl) rfl rfl ?_
 refine SL.nil (SE.seq ?_)
 refine SC.cond rfl ?_ ?_
 ·intro hc16
  have hnp : ¬ (placeG (eqL s) (gtL s) l.ls).2 = true := by simpa using hc16
  have hfn := place_none hnp
  refine SC.seq (SC.region ?_)
  refine SL.val (Val.buildS tabOk rfl rfl rfl rfl) rfl rfl ?_
  refine SL.eff (Eff.store (L' := ltrA Ltr.none) tabOk rfl rfl rfl (by repeat first|assumption|exact Upd.here|apply Upd.there) rfl (lb_ (by rfl)) rfl (by exact putL_whole rfl)) rfl rfl ?_
  rintro _ _ ⟨rfl, rfl⟩
  refine SL.val (Val.assign rfl) rfl rfl ?_
  refine SL.nil (SE.seq ?_)
  refine SC.ret ?_
  refine SE.then_ nofun ?_
  refine SE.fin (rs := [.cell 4 74, .tmp 5]) rfl (RV.cell rfl (RV.cellA tabOk rfl rfl (by repeat first|assumption|exact o0_|exact o1_|apply o2_) (by rfl)) (RV.tmp rfl RV.nil)) (()) (by repeat first|exact s0 _|exact s1 _|apply s2|apply s3) (by simp [It.rids]) ?_
  unfold Lg.find
  rw [hfn]
  rfl
 intro hc16
 obtain ⟨hlt, hfs⟩ := place_find (show (placeG (eqL s) (gtL s) l.ls).2 = true by simpa using hc16)
 refine SC.skip ?_
 refine SE.seq ?_
 refine SC.seq (SC.region ?_)
 refine SL.val (Val.fieldAddr tabOk rfl rfl rfl rfl rfl) rfl rfl ?_
 refine SL.val (Val.to (C := .sl 6 (l.ls.map ltrA)) (Val.load1 tabOk rfl rfl (by repeat first|assumption|exact o0_|exact o1_|apply o2_) List.not_mem_nil (by rfl)) rfl) rfl rfl ?_
 refine SL.val (Val.move rfl) rfl rfl ?_
 refine SL.val (Val.indexSl (q := (placeG (eqL s) (gtL s) l.ls).1) tabOk Tryz.underlying63 rfl rfl rfl rfl (at_map hlt) rfl rfl) rfl rfl ?_
 refine SL.val (Val.loadAR tabOk rfl rfl rfl (by rfl)) rfl rfl ?_
 refine SL.eff (Eff.store (L' := ltrA (l.ls[(placeG (eqL s) (gtL s) l.ls).1]'hlt)) tabOk rfl rfl rfl (by repeat first|assumption|exact Upd.here|apply Upd.there) rfl (lb_ (by rfl)) rfl (by exact putL_whole rfl)) rfl rfl ?_
 rintro _ _ ⟨rfl, rfl⟩
 refine SL.val (Val.assign rfl) rfl rfl ?_
 refine SL.nil (SE.seq ?_)
 refine SC.ret ?_
 refine SE.fin (rs := [.cell 4 74, .tmp 5]) rfl (RV.cell rfl (RV.cellA tabOk rfl rfl (by repeat first|assumption|exact o0_|exact o1_|apply o2_) (by rfl)) (RV.tmp rfl RV.nil)) (()) (by repeat first|exact s0 _|exact s1 _|apply s2|apply s3) (by simp [It.rids]) ?_
 unfold Lg.find
 rw [hfs]
 rfl
theorem ltold_s (hf : l.Few) : Spec Tryz.prog 51 [.agg l.abs, .agg o.abs] [] (fun _ : Unit => []) (fun _ => .agg (l.told o).abs) := by
 have hf1 := hf.ls
 have hf2 := hf.os
 refine spec_of Tryz.func51 rfl Tryz.ntmps51 rfl fun G w => ?_
 refine SC.seq (SC.region ?_)
 refine SL.eff (Eff.boxA (cs := l.abs) rfl) rfl rfl ?_
 rintro _ _ ⟨b2, rfl, rfl⟩
 refine SL.eff (Eff.boxA (cs := o.abs) rfl) rfl rfl ?_
 rintro _ _ ⟨b3, rfl, rfl⟩
 refine SL.eff (Eff.alloc tabOk rfl) rfl rfl ?_
 rintro _ _ ⟨b4, rfl, rfl⟩
 refine SL.nil (SE.seq ?_)
 refine SC.seq (SC.region ?_)
 refine SL.val (Val.to (C := .agg l.abs) (Val.loadP tabOk rfl rfl rfl (by repeat first|assumption|exact o0_|exact o1_|apply o2_) List.not_mem_nil (lb_ (by rfl))) (congrArg Abs.agg rfl)) rfl rfl ?_
 refine SL.call (lcopied_s hf) Casts.refl (by kernel_rfl) rfl rfl rfl ?_
 refine ap_ ?_
 intro _
 refine SL.eff (Eff.alloc tabOk rfl) rfl rfl ?_
 rintro _ _ ⟨b5, rfl, rfl⟩
 refine SL.eff (Eff.store (L' := l.abs) tabOk rfl rfl rfl (by repeat first|assumption|exact Upd.here|apply Upd.there) rfl (lb_ (by rfl)) rfl (by exact putL_whole rfl)) rfl rfl ?_
 rintro _ _ ⟨rfl, rfl⟩
 refine SL.nil (SE.seq ?_)
 refine SC.seq (SC.region ?_)
 refine SL.val (Val.fieldAddr tabOk rfl rfl rfl rfl rfl) rfl rfl ?_
 refine SL.val (Val.to (C := .sl 3 (l.os.map Oc.abs)) (Val.load1 tabOk rfl rfl (by repeat first|assumption|exact o0_|exact o1_|apply o2_) List.not_mem_nil (by rfl)) rfl) rfl rfl ?_
 refine SL.val (Val.loadA tabOk rfl rfl rfl (by repeat first|assumption|exact o0_|exact o1_|apply o2_) List.not_mem_nil (by rfl)) rfl rfl ?_
 refine SL.call (put_oc (xs := l.os) (x := o) (by omega)) Casts.refl (by kernel_rfl) rfl rfl rfl ?_
 refine ap_ ?_
 intro _
 refine SL.val (Val.fieldAddr tabOk rfl rfl rfl rfl rfl) rfl rfl ?_
 refine SL.eff (Eff.store (L' := (l.told o).abs) tabOk rfl rfl rfl (by repeat first|assumption|exact Upd.here|apply Upd.there) rfl (lb_ (by rfl)) rfl (by rfl)) rfl rfl ?_
 rintro _ _ ⟨rfl, rfl⟩
 refine SL.nil (SE.seq ?_)
 refine SC.seq (SC.region ?_)
 first
  | refine SL.val (Val.loadA tabOk rfl rfl rfl (by repeat first|assumption|exact o0_|exact o1_|apply o2_) List.not_mem_nil (by rfl)) rfl rfl ?_
  | refine SL.val (Val.loadP tabOk rfl rfl rfl (by repeat first|assumption|exact o0_|exact o1_|apply o2_) List.not_mem_nil (lb_ (by rfl))) rfl rfl ?_
 refine SL.eff (Eff.store (L' := (l.told o).abs) tabOk rfl rfl rfl (by repeat first|assumption|exact Upd.here|apply Upd.there) rfl (lb_ (by rfl)) rfl (by exact putL_whole rfl)) rfl rfl ?_
 rintro _ _ ⟨rfl, rfl⟩
 refine SL.nil (SE.seq ?_)
 refine SC.ret ?_
 refine SE.fin (rs := [.cell 4 66]) rfl (RV.cell rfl (RV.cellA tabOk rfl rfl (by repeat first|assumption|exact o0_|exact o1_|apply o2_) (by rfl)) RV.nil) (()) (by repeat first|exact s0 _|exact s1 _|apply s2|apply s3) (by simp [It.rids]) ?_
 exact rfl
theorem lwith_s (hf : l.Few) : Spec Tryz.prog 62 [.agg l.abs, .agg (ltrA x)] [] (fun _ : Unit => []) (fun _ => .tup [.agg (l.with_ x).1.abs, int (l.with_ x).2]) := by
 have hf1 := hf.ls
 have hf2 := hf.os
 have hwl := withG_length (eq := eqL x.name) (gt := gtL x.name) (x := x) l.ls
 refine spec_of Tryz.func62 rfl Tryz.ntmps62 rfl fun G w => ?_
 refine SC.seq (SC.region ?_)
 refine SL.eff (Eff.boxA (cs := l.abs) rfl) rfl rfl ?_
 rintro _ _ ⟨b2, rfl, rfl⟩
 refine SL.eff (Eff.boxA (cs := ltrA x) rfl) rfl rfl ?_
 rintro _ _ ⟨b3, rfl, rfl⟩
 refine SL.eff (Eff.alloc tabOk rfl) rfl rfl ?_
 rintro _ _ ⟨b4, rfl, rfl⟩
 refine SL.val (Val.assign rfl) rfl rfl ?_
 refine SL.nil (SE.seq ?_)
 refine SC.seq ?_
 refine SC.seq (SC.region ?_)
 refine SL.val (Val.fieldAddr tabOk rfl rfl rfl rfl rfl) rfl rfl ?_
 refine SL.val (Val.to (C := st x.name) (Val.load1 tabOk rfl rfl (by repeat first|assumption|exact o0_|exact o1_|apply o2_) List.not_mem_nil (by rfl)) rfl) rfl rfl ?_
 refine SL.call (isname_s (s := x.name)) Casts.refl (by kernel_rfl) rfl rfl rfl ?_
 refine ap_ ?_
 intro _
 refine SL.val (Val.notB rfl) rfl rfl ?_
 refine SL.nil (SE.seq ?_)
 refine SC.cond rfl ?_ ?_
 ·intro hc10
  have hnb : nameB x.name = false := by simpa using hc10
  refine SC.seq (SC.region ?_)
  refine SL.val (Val.buildS tabOk rfl rfl rfl rfl) rfl rfl ?_
  refine SL.eff (Eff.store (L' := (zabs [.int .i64 0, .int .i64 0, .slice none 0 0, .slice none 0 0])) tabOk rfl rfl rfl (by repeat first|assumption|exact Upd.here|apply Upd.there) rfl (lb_ (by rfl)) rfl (by exact putL_whole rfl)) rfl rfl ?_
  rintro _ _ ⟨rfl, rfl⟩
  refine SL.val (Val.assign rfl) rfl rfl ?_
  refine SL.nil (SE.seq ?_)
  refine SC.ret ?_
  refine SE.then_ nofun ?_
  refine SE.finC (rs := [.cell 4 66, .tmp 5]) rfl (RV.cell rfl (RV.cellA tabOk rfl rfl (by repeat first|assumption|exact o0_|exact o1_|apply o2_) (by rfl)) (RV.tmp rfl RV.nil)) (Casts.cons (cast_agg (Casts.keep (Casts.keep (Casts.nils (s := 6) (Casts.nils (s := 3) Casts.refl))))) Casts.refl) (()) (by repeat first|exact s0 _|exact s1 _|apply s2|apply s3) (by simp [It.rids]) ?_
  unfold Lg.with_
  rw [if_pos hnb]
  rfl
 intro hc10
 have hnb : ¬ nameB x.name = false := by simpa using hc10
 refine SC.skip ?_
 refine SE.seq ?_
 refine SC.seq (SC.region ?_)
 refine SL.val (Val.to (C := .agg l.abs) (Val.loadP tabOk rfl rfl rfl (by repeat first|assumption|exact o0_|exact o1_|apply o2_) List.not_mem_nil (lb_ (by rfl))) (congrArg Abs.agg rfl)) rfl rfl ?_
 refine SL.call (lcopied_s hf) Casts.refl (by kernel_rfl) rfl rfl rfl ?_
 refine ap_ ?_
 intro _
 refine SL.eff (Eff.alloc tabOk rfl) rfl rfl ?_
 rintro _ _ ⟨b6, rfl, rfl⟩
 refine SL.eff (Eff.store (L' := l.abs) tabOk rfl rfl rfl (by repeat first|assumption|exact Upd.here|apply Upd.there) rfl (lb_ (by rfl)) rfl (by exact putL_whole rfl)) rfl rfl ?_
 rintro _ _ ⟨rfl, rfl⟩
 refine SL.nil (SE.seq ?_)
 refine SC.seq ?_
 refine SC.seq (SC.region ?_)
 refine SL.val (Val.fieldAddr tabOk rfl rfl rfl rfl rfl) rfl rfl ?_
 refine SL.val (Val.to (C := ltrsA l.ls) (Val.load1 tabOk rfl rfl (by repeat first|assumption|exact o0_|exact o1_|apply o2_) List.not_mem_nil (by rfl)) rfl) rfl rfl ?_
 refine SL.val (Val.loadA tabOk rfl rfl rfl (by repeat first|assumption|exact o0_|exact o1_|apply o2_) List.not_mem_nil (by rfl)) rfl rfl ?_
 refine SL.call (put_ltr (xs := l.ls) (x := x) (by omega)) Casts.refl (by kernel_rfl) rfl rfl rfl ?_
 refine ap_ ?_
 intro _
 refine SL.val (Val.fieldAddr tabOk rfl rfl rfl rfl rfl) rfl rfl ?_
 refine SL.eff (Eff.store (L' := (l.putL x).abs) tabOk rfl rfl rfl (by repeat first|assumption|exact Upd.here|apply Upd.there) rfl (lb_ (by rfl)) rfl (by rfl)) rfl rfl ?_
 rintro _ _ ⟨rfl, rfl⟩
 refine SL.nil (SE.seq ?_)
 refine SC.seq (SC.region ?_)
 refine SL.val (Val.fieldAddr tabOk rfl rfl rfl rfl rfl) rfl rfl ?_
 refine SL.val (Val.to (C := ltrsA (l.putL x).ls) (Val.load1 tabOk rfl rfl (by repeat first|assumption|exact o0_|exact o1_|apply o2_) List.not_mem_nil (by rfl)) rfl) rfl rfl ?_
 first
  | refine SL.val (Val.lenSl rfl Tryz.underlying63 (List.length_map _)) rfl rfl ?_
  | refine SL.val (Val.lenOwn rfl (by repeat first|assumption|exact m0|apply m1) Tryz.underlying63 (List.length_map _)) rfl rfl ?_
  | refine SL.val (Val.lenNil rfl Tryz.underlying63) rfl rfl ?_
 refine SL.val (Val.gtI rfl rfl) rfl rfl ?_
 refine SL.nil (SE.seq ?_)
 refine SC.condP rfl ?_ ?_
 ·intro hc22
  refine SC.seq (SC.region ?_)
  refine SL.val (Val.buildS tabOk rfl rfl rfl rfl) rfl rfl ?_
  refine SL.eff (Eff.store (L' := (zabs [.int .i64 0, .int .i64 0, .slice none 0 0, .slice none 0 0])) tabOk rfl rfl rfl (by repeat first|assumption|exact Upd.here|apply Upd.there) rfl (lb_ (by rfl)) rfl (by exact putL_whole rfl)) rfl rfl ?_
  rintro _ _ ⟨rfl, rfl⟩
  refine SL.val (Val.assign rfl) rfl rfl ?_
  refine SL.nil (SE.seq ?_)
  refine SC.ret ?_
  refine SE.then_ nofun ?_
  refine SE.finC (rs := [.cell 4 66, .tmp 5]) rfl (RV.cell rfl (RV.cellA tabOk rfl rfl (by repeat first|assumption|exact o0_|exact o1_|apply o2_) (by rfl)) (RV.tmp rfl RV.nil)) (Casts.cons (cast_agg (Casts.keep (Casts.keep (Casts.nils (s := 6) (Casts.nils (s := 3) Casts.refl))))) Casts.refl) (()) (by repeat first|exact s0 _|exact s1 _|apply s2|apply s3) (by simp [It.rids]) ?_
  unfold Lg.with_
  rw [if_neg hnb, if_pos (by omega)]
  rfl
 intro hc22
 refine SC.skip ?_
 refine SE.seq ?_
 refine SC.seq (SC.region ?_)
 refine SL.val (Val.to (C := .agg (l.putL x).abs) (Val.loadP tabOk rfl rfl rfl (by repeat first|assumption|exact o0_|exact o1_|apply o2_) List.not_mem_nil (lb_ (by rfl))) (congrArg Abs.agg rfl)) rfl rfl ?_
 refine SL.eff (Eff.store (L' := (l.putL x).abs) tabOk rfl rfl rfl (by repeat first|assumption|exact Upd.here|apply Upd.there) rfl (lb_ (by rfl)) rfl (by exact putL_whole rfl)) rfl rfl ?_
 rintro _ _ ⟨rfl, rfl⟩
 refine SL.val (Val.assign rfl) rfl rfl ?_
 refine SL.nil (SE.seq ?_)
 refine SC.ret ?_
 refine SE.fin (rs := [.cell 4 66, .tmp 5]) rfl (RV.cell rfl (RV.cellA tabOk rfl rfl (by repeat first|assumption|exact o0_|exact o1_|apply o2_) (by rfl)) (RV.tmp rfl RV.nil)) (()) (by repeat first|exact s0 _|exact s1 _|apply s2|apply s3) (by simp [It.rids]) ?_
 unfold Lg.with_
 rw [if_neg hnb, if_neg (by omega)]
 rfl
theorem lstale_s (hf : l.Few) : Spec Tryz.prog 46 [.agg l.abs, coreA c] [] (fun _ : Unit => []) (fun _ => boo (l.stale c)) := by
 refine spec_of Tryz.func46 rfl Tryz.ntmps46 rfl fun G w => ?_
 refine SC.seq (SC.region ?_)
 refine SL.eff (Eff.boxA (cs := l.abs) rfl) rfl rfl ?_
 rintro _ _ ⟨b2, rfl, rfl⟩
 refine SL.eff (Eff.boxA (cs := c.cells.map .v) rfl) rfl rfl ?_
 rintro _ _ ⟨b3, rfl, rfl⟩
 refine SL.val (Val.assign rfl) rfl rfl ?_
 refine SL.nil (SE.seq ?_)
 refine SC.seq (SC.region ?_)
 refine SL.val (Val.to (C := .agg l.abs) (Val.loadP tabOk rfl rfl rfl (by repeat first|assumption|exact o0_|exact o1_|apply o2_) List.not_mem_nil (lb_ (by rfl))) (congrArg Abs.agg rfl)) rfl rfl ?_
 refine SL.val (Val.fieldAddr tabOk rfl rfl rfl rfl rfl) rfl rfl ?_
 refine SL.val (Val.load1 tabOk rfl rfl (by repeat first|assumption|exact o0_|exact o1_|apply o2_) List.not_mem_nil (by rfl)) rfl rfl ?_
 refine SL.call (llast_s (k := c.client) hf) Casts.refl (by kernel_rfl) rfl rfl rfl ?_
 refine ap_ ?_
 intro _
 refine SL.val (Val.move rfl) rfl rfl ?_
 refine SL.val (Val.extract rfl rfl) rfl rfl ?_
 refine SL.val (Val.extract rfl rfl) rfl rfl ?_
 refine SL.eff (Eff.alloc tabOk rfl) rfl rfl ?_
 rintro _ _ ⟨b5, rfl, rfl⟩
 refine SL.eff (Eff.store (L' := ((l.last c.client).getD Oc.zero).abs) tabOk rfl rfl rfl (by repeat first|assumption|exact Upd.here|apply Upd.there) rfl (lb_ (by rfl)) rfl (by exact putL_whole rfl)) rfl rfl ?_
 rintro _ _ ⟨rfl, rfl⟩
 refine SL.val (Val.assign rfl) rfl rfl ?_
 refine SL.nil (SE.seq ?_)
 refine SC.seq (SC.region ?_)
 iterate 2 refine SL.val (Val.move rfl) rfl rfl ?_
 refine SL.both (t := 15) rfl ?_ ?_
 ·intro hc15
  refine SL.val (Val.fieldAddr tabOk rfl rfl rfl rfl rfl) rfl rfl ?_
  refine SL.val (Val.load1 tabOk rfl rfl (by repeat first|assumption|exact o0_|exact o1_|apply o2_) List.not_mem_nil (by rfl)) rfl rfl ?_
  refine SL.val (Val.fieldAddr tabOk rfl rfl rfl rfl rfl) rfl rfl ?_
  refine SL.val (Val.load1 tabOk rfl rfl (by repeat first|assumption|exact o0_|exact o1_|apply o2_) List.not_mem_nil (by rfl)) rfl rfl ?_
  refine SL.val (Val.leI rfl rfl) rfl rfl ?_
  refine SL.val (Val.pickT rfl rfl) rfl rfl ?_
  refine SL.val (Val.assign rfl) rfl rfl ?_
  refine SL.nil (SE.seq ?_)
  refine SC.ret ?_
  refine SE.fin (rs := [.tmp 4]) rfl (RV.tmp rfl RV.nil) (()) (by repeat first|exact s0 _|exact s1 _|apply s2|apply s3) (by simp [It.rids]) ?_
  unfold Lg.stale
  cases hl : l.last c.client with
  | none => rw [hl] at hc15; first | rfl | cases hc15
  | some o9 => rw [hl] at hc15; first | rfl | cases hc15
 intro hc15
 iterate 5 refine SL.skip rfl rfl ?_
 refine SL.val (Val.pickF rfl rfl) rfl rfl ?_
 refine SL.val (Val.assign rfl) rfl rfl ?_
 refine SL.nil (SE.seq ?_)
 refine SC.ret ?_
 refine SE.fin (rs := [.tmp 4]) rfl (RV.tmp rfl RV.nil) (()) (by repeat first|exact s0 _|exact s1 _|apply s2|apply s3) (by simp [It.rids]) ?_
 unfold Lg.stale
 cases hl : l.last c.client with
 | none => rw [hl] at hc15; first | rfl | cases hc15
 | some o9 => rw [hl] at hc15; first | rfl | cases hc15
end
end Go.Proofs.YtejcohlpjikjpaaGreatDoor.A
