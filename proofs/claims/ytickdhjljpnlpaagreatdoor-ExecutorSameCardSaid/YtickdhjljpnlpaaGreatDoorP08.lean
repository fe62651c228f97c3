/-
  Packed out of the texts: LedD, Tml, A21, A7, Agr, Exe, ExeA, ExeO.
-/
import Derived.Test.YtickdhjljpnlpaaGreatDoorP07
/-
  Rows with keys, as the document puts in; ledgers of other numbers, plain.
-/
set_option maxRecDepth 100000
set_option linter.unusedSimpArgs false
set_option linter.unusedVariables false
namespace Go.Proofs.YtickdhjljpnlpaaGreatDoor.A
open Go.RowKit

section
variable {α : Type} {p eq gt : α → Bool} {x y : α} {th : Bool}
end
section
variable {l : Lg} {x : Ltr} {e : Ent} {c : Core} {n : Int}
/-- A ledger of another number. -/
def Lg.at_ (l : Lg) (s : Int) : Lg := { l with seq := s }
/-- The ledger behind so many batches. -/
def ldgAt (n : Int) (l : Lg) (h : List (List Ent)) : Lg := h.foldl (fun l b => (l.foldF b n).1) l
end
end Go.Proofs.YtickdhjljpnlpaaGreatDoor.A
/-
  Timelines, plain: what became of letters; folds that may stop.
-/
namespace Go.Proofs.YtickdhjljpnlpaaGreatDoor.A
open Go.RowKit

/-- An event. -/
structure Ev where
  seq : Int
  client : Int
  stamp : Int
  op : Int
  result : Int
  state : Int
def Ev.abs (e : Ev) : List Abs := [int e.seq, int e.client, int e.stamp, int e.op, int e.result, int e.state]
structure EvIns (e : Ev) : Prop where
  seq : i64ok e.seq
  client : i64ok e.client
  stamp : i64ok e.stamp
  op : i64ok e.op
  result : i64ok e.result
  state : i64ok e.state
section
variable {S : Type} {n : Int} {entS : S → Ev → ByteArray → S} {batS : S → Int → Lg → S × Bool}
end
/-- A history that is not too great. -/
structure FewH (h : List (List Ent)) : Prop where
  en : ∀ j (hj : j < h.length), (∀ i (hi : i < h[j].length), h[j][i].core.letter.size ≤ 30 ∧ h[j][i].core.text.size ≤ 210) ∧ h[j].length ≤ 10
  len : h.length ≤ 40
noncomputable instance (h : List (List Ent)) : Decidable (FewH h) := Classical.propDecidable _
theorem FewH.row {h : List (List Ent)} (hf : FewH h) {b : List Ent} (hb : b ∈ h) : b.length ≤ 10 := by
  obtain ⟨j, hj, rfl⟩ := List.getElem_of_mem hb
  exact (hf.en j hj).2
end Go.Proofs.YtickdhjljpnlpaaGreatDoor.A
/-
  The second engine: what values are, kept as a piece; calls that change pieces here and there.
-/
namespace Go.Proofs.YtickdhjljpnlpaaGreatDoor.A
open Go.RowKit

/-- These values are these trees. -/
def factsPc (l : List (Value × Abs)) : Pc where
  ids := []
  p := fun K w => ∀ x ∈ l, rep K w x.2 x.1
  carry := fun _ _ _ _ hc _ h x hx => rep_carry hc _ _ (h x hx)
  lt := fun _ _ _ k hk => by cases hk
abbrev facts (l : List (Value × Abs)) : It := .pc (factsPc l)
section
variable {P : Program} {n : Nat} {W : Wd} {σ τ : Blks} {l : Slots} {X : List Nat} {ops : Array Oper} {rest : List Oper} {Q : Exit → Act → World → Prop} {ix : Plan} {L L' : List (Value × Abs)} {t : Nat} {A : Abs} {u : Value}
end
/-! ### Maps whose values are trees: the map's own values, and what they are -/
section
variable {α β : Type} [DecidableEq α] {tm tm' : List (α × (Value × β))} {a c : α} {u : Value} {x : β}
end
section
variable {α β : Type} [DecidableEq α] {tm : List (α × (Value × β))} {a : α} {P : Program} {n : Nat} {W : Wd} {σ : Blks} {l : Slots} {X : List Nat} {k e t ty : TypeId} {K : α → Value} {Good : α → Prop} {enc : β → Abs} {z0 : β} {zv : Value} {b : Nat} {A : Abs} {x y : Operand} {d : Option Nat} {pos : String} {aft : Array Edge} {g : Option (Nat × Bool)} {L : List (Value × Abs)}
end
section
variable {σ σ1 : Blks} {ι : Type} {τ' : ι → Blks} {K : Blks → ι → Prop}
theorem After.sub (φ : Blks) (hσ : σ.Perm (σ1 ++ φ)) (hr : ∀ x ∈ σ1, x.rids = []) (hk : ∀ z, ∃ ν : Blks, ν.Perm (τ' z ++ φ) ∧ K ν z) : After σ σ1 τ' K :=
  ⟨φ, ⟨by rw [← mids_append]; exact mids_perm hσ.symm, fun x hx => .inl ⟨hσ.mem_iff.2 (List.mem_append_left _ hx), hr x hx⟩, fun x hx => hσ.mem_iff.2 (List.mem_append_right _ hx)⟩, hk⟩
theorem After.deep (a b : Blks) (x : It) (hσ : σ = a ++ (b ++ (x :: σ1))) (hr : ∀ y ∈ σ1, y.rids = []) (k : ∀ z, K (a ++ (b ++ (x :: τ' z))) z) : After σ σ1 τ' K := by
  subst hσ
  have e : ∀ c : Blks, (a ++ (b ++ (x :: c))).Perm (c ++ (a ++ (b ++ [x]))) := fun c => by
    have h1 : a ++ (b ++ (x :: c)) = (a ++ (b ++ [x])) ++ c := by simp
    rw [h1]
    exact List.perm_append_comm
  exact After.sub (a ++ (b ++ [x])) (e σ1) hr fun z => ⟨_, e (τ' z), k z⟩
theorem After.last (a b : Blks) (hσ : σ = a ++ (b ++ σ1)) (hr : ∀ y ∈ σ1, y.rids = []) (k : ∀ z, K (a ++ (b ++ τ' z)) z) : After σ σ1 τ' K := by
  subst hσ
  have e : ∀ c : Blks, (a ++ (b ++ c)).Perm (c ++ (a ++ b)) := fun c => by
    have h1 : a ++ (b ++ c) = (a ++ b) ++ c := by simp
    rw [h1]
    exact List.perm_append_comm
  exact After.sub (a ++ b) (e σ1) hr fun z => ⟨_, e (τ' z), k z⟩
end
theorem Spec.keep {P : Program} {f : FuncId} {args : List Abs} {σ σr : Blks} {r : Abs} (h : Spec P f args σr (fun _ : Unit => []) (fun _ => r)) (hr : Reads σ σr) (hro : ∀ x ∈ σ, x.rids = []) : Spec P f args σ (fun _ : Unit => σ) (fun _ => r) := fun G w vals hm hv =>
  (h.after hm hv (After.pure hr (fun _ => rfl) (K := fun ν _ => ν = σ) (fun _ => rfl))).mono fun e w' ⟨z, u, ν, he, hx, ho, hm', hc, hr', hk⟩ => by
    subst hk
    exact ⟨(), u, he, hro, hm', hr'⟩
end Go.Proofs.YtickdhjljpnlpaaGreatDoor.A
/-
  The second engine: the contracts of batches, as they stand.
-/
namespace Go.Proofs.YtickdhjljpnlpaaGreatDoor.A
open Go.RowKit

abbrev entsA (es : List Ent) : Abs := flat 8 Ent.cells es
theorem ent8 (e : Ent) : e.cells.length = 8 := rfl
section
variable {K : List Nat} {w : World} {v u : Value} {es fs : List Ent} {n : Int} {l : List UInt8} {p : Nat} {s : Rd}
theorem bcheck_s (hl : es.length ≤ 1000000) : Pure Tryz.prog 26 [entsA es, int n] (int (chkB es n)) := Pure.of2 fun K w vals hK hv => by
  obtain ⟨v, us', rfl, h1, h2⟩ := hv
  have h2 := (reps_plain (us := [.int .i64 n])).1 h2
  subst h2
  refine (batchCheck_c ((enter2 w K).add (z := entsD v es) (row2 ((rep_flat ent8).1 h1))) (by simp) hl).mono fun e w' ⟨he, hm⟩ => ⟨_, he, leave2 hm (by simp), rfl⟩
end
end Go.Proofs.YtickdhjljpnlpaaGreatDoor.A
/-
  What histories have in common, plain.
-/
namespace Go.Proofs.YtickdhjljpnlpaaGreatDoor.A
open Go.RowKit

/-- A deed. -/
structure Dd where
  seq : Int
  batch : List Ent
  adopted : Bool
noncomputable instance : DecidableEq Dd := fun _ _ => Classical.propDecidable _
def Dd.abs (d : Dd) : List Abs := [int d.seq, entsR d.batch, boo d.adopted]
abbrev ddsA (l : List Dd) : Abs := .sl 3 (l.map Dd.abs)
structure DdIns (d : Dd) : Prop where
  seq : i64ok d.seq
  batch : ∀ e ∈ d.batch, EnIns e
theorem dds_ones (l : List Dd) : ∀ c ∈ l.map Dd.abs, ones c = true := by
  intro c hc
  obtain ⟨o, _, rfl⟩ := List.mem_map.1 hc
  rfl
/-- The deeds of a number that aren't adopted. -/
def rowOf (D : List Dd) (k : Int) : List Dd := D.filter fun d => !d.adopted && decide (d.seq = k)
theorem rowOf_app (D E : List Dd) (k : Int) : rowOf (D ++ E) k = rowOf D k ++ rowOf E k := List.filter_append ..
theorem rowOf_one (d : Dd) (k : Int) : rowOf [d] k = if d.adopted = false ∧ d.seq = k then [d] else [] := by
  unfold rowOf
  by_cases h : d.adopted = false ∧ d.seq = k
  · rw [if_pos h, List.filter_cons_of_pos (by simp [h.1, h.2])]; rfl
  · rw [if_neg h, List.filter_cons_of_neg (by simpa using h)]; rfl
theorem rowOf_mem {D : List Dd} {k : Int} {d : Dd} : d ∈ rowOf D k ↔ d ∈ D ∧ d.adopted = false ∧ d.seq = k := by
  unfold rowOf
  rw [List.mem_filter]
  simp
/-- What maps of numbers tell. -/
structure Num (D : List Dd) (tm : List (Int × (Value × List Dd))) : Prop where
  nd : (tm.map (·.1)).Nodup
  get : ∀ k, ((aget tm k).map (·.2)).getD [] = rowOf D k
  ok : ∀ e ∈ tm, i64ok e.1
theorem Num.nil : Num [] [] := ⟨List.nodup_nil, fun _ => rfl, fun e he => by cases he⟩
theorem Num.skip {D : List Dd} {tm : List (Int × (Value × List Dd))} (h : Num D tm) {d : Dd} (hd : d.adopted = true) : Num (D ++ [d]) tm := ⟨h.nd, fun k => by
  rw [h.get, rowOf_app, rowOf_one, if_neg (fun h => by rw [hd] at h; cases h.1), List.append_nil], h.ok⟩
theorem Num.put {D : List Dd} {tm : List (Int × (Value × List Dd))} (h : Num D tm) {d : Dd} (hd : d.adopted = false) (hi : i64ok d.seq) (v : Value) : Num (D ++ [d]) (aput tm d.seq (v, ((aget tm d.seq).map (·.2)).getD [] ++ [d])) := ⟨aput_nodup h.nd _ _, fun k => by
  rw [aget_aput, rowOf_app, rowOf_one, h.get]
  by_cases hk : k = d.seq
  · subst hk
    rw [if_pos rfl, if_pos ⟨hd, rfl⟩]
    rfl
  · rw [if_neg hk, if_neg (fun h => hk h.2.symm), List.append_nil]
    exact h.get k, fun e he => by
  unfold aput at he
  split at he
  · obtain ⟨x, hx, rfl⟩ := List.mem_map.1 he
    split
    · exact hi
    · exact h.ok x hx
  · rcases List.mem_append.1 he with he | he
    · exact h.ok e he
    · rw [List.mem_singleton.1 he]; exact hi⟩
theorem Num.entry {D : List Dd} {tm : List (Int × (Value × List Dd))} (h : Num D tm) {e : Int × (Value × List Dd)} (he : e ∈ tm) : e.2.2 = rowOf D e.1 := by
  have h1 : aget tm e.1 = some e.2 := by
    have hn := h.nd
    clear h
    induction tm with
    | nil => cases he
    | cons p tm ih =>
      rw [List.map_cons, List.nodup_cons] at hn
      unfold aget at ih ⊢
      rw [List.find?_cons]
      rcases List.mem_cons.1 he with rfl | he
      · rw [decide_eq_true rfl]; rfl
      · have hne : p.1 ≠ e.1 := fun e' => hn.1 (e' ▸ List.mem_map.2 ⟨e, he, rfl⟩)
        rw [decide_eq_false hne]
        exact ih he hn.2
  rw [← h.get, h1]
  rfl
theorem Num.none {D : List Dd} {tm : List (Int × (Value × List Dd))} (h : Num D tm) {k : Int} (hk : ∀ e ∈ tm, e.1 ≠ k) : rowOf D k = [] := by
  rw [← h.get, (aget_none tm k).2 (fun hm => by
    obtain ⟨e, he, h1⟩ := List.mem_map.1 hm
    exact hk e he h1)]
  rfl
/-! ### Whether they agree -/
def sameD (a b : List Dd) : Prop := ∀ x ∈ a, ∀ y ∈ b, x.adopted = false → y.adopted = false → x.seq = y.seq → x.batch = y.batch
noncomputable instance (a b : List Dd) : Decidable (sameD a b) := Classical.propDecidable _
theorem sameD.symm {a b : List Dd} (h : sameD a b) : sameD b a := fun x hx y hy h1 h2 h3 => (h y hy x hx h2 h1 h3.symm).symm
/-- All of one batch. -/
def oneB (l : List Dd) : Prop := ∀ x ∈ l, ∀ y, l.head? = some y → x.batch = y.batch
noncomputable instance (l : List Dd) : Decidable (oneB l) := Classical.propDecidable _
/-- All of them agree with all of them. -/
def allSame (l : List (List Dd)) : Prop := ∀ a ∈ l, ∀ b ∈ l, sameD a b
noncomputable instance (l : List (List Dd)) : Decidable (allSame l) := Classical.propDecidable _
/-- A history that is as long as it goes. -/
structure IsHist (D : List Dd) (H : List (List Ent)) : Prop where
  at_ : ∀ i (hi : i < H.length), ∃ d, (rowOf D ((i : Int) + 1)).head? = some d ∧ H[i] = d.batch
  end_ : rowOf D ((H.length : Int) + 1) = []
theorem IsHist.uniq {D : List Dd} {H1 H2 : List (List Ent)} (h1 : IsHist D H1) (h2 : IsHist D H2) : H1 = H2 := by
  have aux : ∀ {A B : List (List Ent)}, IsHist D A → IsHist D B → B.length ≤ A.length := by
    intro A B ha hb
    rcases Nat.lt_or_ge A.length B.length with h | h
    · obtain ⟨d, hd, _⟩ := hb.at_ A.length h
      rw [ha.end_] at hd
      cases hd
    · exact h
  refine List.ext_getElem (Nat.le_antisymm (aux h2 h1) (aux h1 h2)) fun i g1 g2 => ?_
  obtain ⟨d, hd, e1⟩ := h1.at_ i g1
  obtain ⟨d2, hd2, e2⟩ := h2.at_ i g2
  rw [hd] at hd2
  cases hd2
  rw [e1, e2]
/-- So far. -/
def HistUp (D : List Dd) (H : List (List Ent)) : Prop := ∀ i (hi : i < H.length), ∃ d, (rowOf D ((i : Int) + 1)).head? = some d ∧ H[i] = d.batch
theorem HistUp.nil {D : List Dd} : HistUp D [] := fun i hi => by cases hi
theorem HistUp.more {D : List Dd} {H : List (List Ent)} (h : HistUp D H) {d : Dd} (hd : (rowOf D ((H.length : Int) + 1)).head? = some d) : HistUp D (H ++ [d.batch]) := fun i hi => by
  rw [List.length_append, List.length_singleton] at hi
  rcases Nat.lt_or_ge i H.length with h1 | h1
  · obtain ⟨e, he, h2⟩ := h i h1
    exact ⟨e, he, by rw [List.getElem_append_left h1]; exact h2⟩
  · obtain rfl : i = H.length := by omega
    exact ⟨d, hd, by simp⟩
theorem keys_le : ∀ (m : Nat) (D : List Dd), (∀ i, i < m → rowOf D ((i : Int) + 1) ≠ []) → m ≤ D.length
  | 0, _, _ => Nat.zero_le _
  | m + 1, D, h => by
    have h1 := keys_le m (D.filter fun d => !decide (d.seq = (m : Int) + 1)) fun i hi => by
      have h2 := h i (by omega)
      obtain ⟨x, hx⟩ := List.exists_mem_of_ne_nil _ h2
      obtain ⟨g1, g2, g3⟩ := rowOf_mem.1 hx
      intro h3
      have h4 : x ∈ rowOf (D.filter fun d => !decide (d.seq = (m : Int) + 1)) ((i : Int) + 1) := rowOf_mem.2 ⟨List.mem_filter.2 ⟨g1, by simp; omega⟩, g2, g3⟩
      rw [h3] at h4
      cases h4
    obtain ⟨x, hx⟩ := List.exists_mem_of_ne_nil _ (h m (by omega))
    obtain ⟨g1, g2, g3⟩ := rowOf_mem.1 hx
    have h5 : (D.filter fun d => !decide (d.seq = (m : Int) + 1)).length < D.length := List.length_filter_lt_length_iff_exists.2 ⟨x, g1, by simp [g3]⟩
    omega
theorem HistUp.le {D : List Dd} {H : List (List Ent)} (h : HistUp D H) : H.length ≤ D.length := keys_le _ D fun i hi h2 => by
  obtain ⟨d, hd, _⟩ := h i hi
  rw [h2] at hd
  cases hd
theorem hist_ex (D : List Dd) : ∃ H, IsHist D H := by
  have aux : ∀ (f : Nat) (H : List (List Ent)), HistUp D H → D.length ≤ H.length + f → ∃ H, IsHist D H := by
    intro f
    induction f with
    | zero =>
      intro H h hl
      cases hh : (rowOf D ((H.length : Int) + 1)).head? with
      | none => exact ⟨H, h, List.head?_eq_none_iff.1 hh⟩
      | some d =>
        have := (h.more hh).le
        simp at this
        omega
    | succ f ih =>
      intro H h hl
      cases hh : (rowOf D ((H.length : Int) + 1)).head? with
      | none => exact ⟨H, h, List.head?_eq_none_iff.1 hh⟩
      | some d => exact ih _ (h.more hh) (by simp; omega)
  exact aux D.length [] HistUp.nil (by simp)
noncomputable def histF (D : List Dd) : List (List Ent) := (hist_ex D).choose
theorem histF_is (D : List Dd) : IsHist D (histF D) := (hist_ex D).choose_spec
theorem IsHist.eq {D : List Dd} {H : List (List Ent)} (h : IsHist D H) : H = histF D := h.uniq (histF_is D)
theorem HistUp.done {D : List Dd} {H : List (List Ent)} (h : HistUp D H) (he : rowOf D ((H.length : Int) + 1) = []) : H = histF D := IsHist.eq ⟨h, he⟩
end Go.Proofs.YtickdhjljpnlpaaGreatDoor.A
/-
  Executors, plain: a ledger, and the deeds that led to it.
-/
namespace Go.Proofs.YtickdhjljpnlpaaGreatDoor.A
open Go.RowKit

/-- What clients are told of a batch's errors. -/
def outF : List Ent → List Int → List Oc
  | e :: es, r :: rs => if r ≠ 10 then ⟨e.core.client, e.core.stamp, r⟩ :: outF es rs else outF es rs
  | _, _ => []
theorem outF_step {es : List Ent} {rs : List Int} {z : Nat} (h : z < es.length) (k : z < rs.length) : outF (es.drop z) (rs.drop z) = if rs[z] ≠ 10 then ⟨es[z].core.client, es[z].core.stamp, rs[z]⟩ :: outF (es.drop (z + 1)) (rs.drop (z + 1)) else outF (es.drop (z + 1)) (rs.drop (z + 1)) := by
  rw [List.drop_eq_getElem_cons h, List.drop_eq_getElem_cons k, outF]
theorem outF_end {es : List Ent} {rs : List Int} {z : Nat} (h : rs.length ≤ z) : outF (es.drop z) (rs.drop z) = [] := by
  rw [List.drop_eq_nil_of_le h]
  cases es.drop z <;> rfl
theorem outF_ins : ∀ {es : List Ent} {rs : List Int}, (∀ e ∈ es, EnIns e) → (∀ r ∈ rs, i64ok r) → ∀ o ∈ outF es rs, OcIns o
  | [], _, _, _, o, ho => by cases ho
  | _ :: _, [], _, _, o, ho => by cases ho
  | e :: es, r :: rs, h1, h2, o, ho => by
    have ih := outF_ins (es := es) (rs := rs) (fun x hx => h1 x (List.mem_cons_of_mem _ hx)) (fun x hx => h2 x (List.mem_cons_of_mem _ hx))
    rw [outF] at ho
    split at ho
    · rcases List.mem_cons.1 ho with rfl | ho
      · exact ⟨(h1 e List.mem_cons_self).client, (h1 e List.mem_cons_self).stamp, h2 r List.mem_cons_self⟩
      · exact ih o ho
    · exact ih o ho
structure Ex where
  l : Lg
  ds : List Dd
def Ex.zero : Ex := ⟨Lg.zero, []⟩
def Ex.doX (x : Ex) (n seq : Int) (b : List Ent) : Ex := if (1048576 ≤ x.l.seq ∨ seq ≠ x.l.seq + 1) ∨ chkB b n ≠ 0 then x else ⟨(x.l.foldF b n).1, x.ds ++ [⟨seq, b, false⟩]⟩
def Ex.doE (x : Ex) (n seq : Int) (b : List Ent) : Int := if 1048576 ≤ x.l.seq ∨ seq ≠ x.l.seq + 1 then 14 else chkB b n
def Ex.doO (x : Ex) (n seq : Int) (b : List Ent) : List Oc := if (1048576 ≤ x.l.seq ∨ seq ≠ x.l.seq + 1) ∨ chkB b n ≠ 0 then [] else outF b (x.l.foldF b n).2
noncomputable def Ex.adE (x : Ex) (m : List UInt8) : Int := if (parseL m).2 ≠ 0 then (parseL m).2 else if (parseL m).1.seq ≤ x.l.seq then 14 else 0
noncomputable def Ex.adX (x : Ex) (m : List UInt8) : Ex := if (parseL m).2 ≠ 0 ∨ (parseL m).1.seq ≤ x.l.seq then x else ⟨(parseL m).1, x.ds ++ [⟨(parseL m).1.seq, [], true⟩]⟩
section
variable {x : Ex} {n seq : Int} {b : List Ent} {m : List UInt8}
theorem do_mark (h : 1048576 ≤ x.l.seq ∨ seq ≠ x.l.seq + 1) : x.doX n seq b = x ∧ x.doE n seq b = 14 ∧ x.doO n seq b = [] := ⟨if_pos (.inl h), if_pos h, if_pos (.inl h)⟩
theorem do_odd (h : ¬ (1048576 ≤ x.l.seq ∨ seq ≠ x.l.seq + 1)) (h2 : chkB b n ≠ 0) : x.doX n seq b = x ∧ x.doE n seq b = chkB b n ∧ x.doO n seq b = [] := ⟨if_pos (.inr h2), if_neg h, if_pos (.inr h2)⟩
theorem do_ok (h : ¬ (1048576 ≤ x.l.seq ∨ seq ≠ x.l.seq + 1)) (h2 : ¬ chkB b n ≠ 0) : x.doX n seq b = ⟨(x.l.foldF b n).1, x.ds ++ [⟨seq, b, false⟩]⟩ ∧ x.doE n seq b = 0 ∧ x.doO n seq b = outF b (x.l.foldF b n).2 := by
  have h3 : ¬ ((1048576 ≤ x.l.seq ∨ seq ≠ x.l.seq + 1) ∨ chkB b n ≠ 0) := by rintro (h4 | h4); exact h h4; exact h2 h4
  exact ⟨if_neg h3, (if_neg h).trans (Classical.not_not.1 h2), if_neg h3⟩
theorem ad_form (h : (parseL m).2 ≠ 0) : x.adX m = x ∧ x.adE m = (parseL m).2 := ⟨if_pos (.inl h), if_pos h⟩
theorem ad_mark (h : ¬ (parseL m).2 ≠ 0) (h2 : (parseL m).1.seq ≤ x.l.seq) : x.adX m = x ∧ x.adE m = 14 := ⟨if_pos (.inr h2), (if_neg h).trans (if_pos h2)⟩
theorem ad_ok (h : ¬ (parseL m).2 ≠ 0) (h2 : ¬ (parseL m).1.seq ≤ x.l.seq) : x.adX m = ⟨(parseL m).1, x.ds ++ [⟨(parseL m).1.seq, [], true⟩]⟩ ∧ x.adE m = 0 := ⟨if_neg (by rintro (h3 | h3); exact h h3; exact h2 h3), (if_neg h).trans (if_neg h2)⟩
theorem Lg.Right.ins {l : Lg} (h : l.Right) : l.Ins := by
  have hs := h.seq
  refine ⟨by unfold i64ok; omega, amt_i64 h.total, fun y hy => ?_, fun o ho => ?_⟩
  · have hy := h.ls.all y hy
    have h1 := hy.state
    have h2 := hy.amount
    have h3 := hy.policy
    have h4 := hy.papers
    have h5 : y.name.size ≤ 16 := by
      have := hy.name
      unfold nameB at this
      simp only [Bool.and_eq_true, decide_eq_true_eq] at this
      omega
    exact ⟨⟨by show _ ∧ _; omega, by show _ ∧ _; omega, amt_i64 hy.due⟩, by unfold maxLen; omega, by unfold maxLen; omega, by unfold maxLen; omega⟩
  · have ho := h.os.all o ho
    have h1 := ho.client
    have h2 := ho.stamp
    have h3 := ho.result
    exact ⟨by unfold i64ok; omega, by unfold i64ok; omega, by unfold i64ok; omega⟩
/-- After so many steps. -/
structure Ex.Ok (x : Ex) (k : Nat) : Prop where
  ins : x.l.Ins
  seq : 0 ≤ x.l.seq ∧ x.l.seq ≤ 1048576
  ls : x.l.ls.length ≤ 16 + 10 * k
  os : x.l.os.length ≤ 4 + 10 * k
  few : x.ds.length ≤ k
  ds : ∀ d ∈ x.ds, DdIns d ∧ d.batch.length ≤ 10 ∧ ∀ e ∈ d.batch, e.core.letter.size ≤ lots
theorem Ex.zero_ok : Ex.zero.Ok 0 := ⟨Lg.zero_ins, by show (0 : Int) ≤ 0 ∧ (0 : Int) ≤ _; omega, by show 0 ≤ _; omega, by show 0 ≤ _; omega, Nat.le_refl _, fun d hd => by cases hd⟩
theorem Ex.Ok.up {k : Nat} (h : x.Ok k) : x.Ok (k + 1) := ⟨h.ins, h.seq, by have := h.ls; omega, by have := h.os; omega, by have := h.few; omega, h.ds⟩
theorem fold_seq (l : Lg) : (l.foldF b n).1.seq = l.seq + 1 := congrArg (· + 1) (goes_seq n l b)
theorem fold_ins {l : Lg} (h : l.Ins) (hs : i64ok (l.seq + 1)) (he : ∀ e ∈ b, EnIns e) : (l.foldF b n).1.Ins := by
  have h1 := goes_ins n h he
  exact ⟨by show i64ok ((Lg.goes n l b).1.seq + 1); rw [goes_seq]; exact hs, h1.total, h1.ls, h1.os⟩
theorem Ex.Ok.do_ {k : Nat} (h : x.Ok k) (he : ∀ e ∈ b, EnIns e) (hs : ∀ e ∈ b, e.core.letter.size ≤ lots) (hb : b.length ≤ 10) : (x.doX n seq b).Ok (k + 1) := by
  unfold Ex.doX
  split
  · exact h.up
  · next hc =>
    have h0 := h.seq
    have h1 := goes_few n x.l b
    have h2 := h.ls
    have h3 := h.os
    have h4 : seq = x.l.seq + 1 := Classical.byContradiction fun h9 => hc (.inl (.inr h9))
    have h5 : ¬ 1048576 ≤ x.l.seq := fun h9 => hc (.inl (.inl h9))
    refine ⟨fold_ins h.ins (by unfold i64ok; omega) he, ?_, ?_, ?_, ?_, fun d hd => ?_⟩
    · show 0 ≤ (x.l.foldF b n).1.seq ∧ (x.l.foldF b n).1.seq ≤ _
      rw [fold_seq]
      omega
    · show (Lg.goes n x.l b).1.ls.length ≤ _
      omega
    · show (Lg.goes n x.l b).1.os.length ≤ _
      omega
    · have := h.few
      simp only [List.length_append, List.length_singleton]
      omega
    · rcases List.mem_append.1 hd with hd | hd
      · exact h.ds d hd
      · rw [List.mem_singleton.1 hd]
        exact ⟨⟨by show i64ok seq; unfold i64ok; omega, he⟩, hb, hs⟩
theorem Ex.Ok.ad {k : Nat} (h : x.Ok k) : (x.adX m).Ok (k + 1) := by
  unfold Ex.adX
  split
  · exact h.up
  · next hc =>
    have hr : (parseL m).1.Right := parseL_right (Classical.byContradiction fun h9 => hc (.inl h9))
    have h1 := hr.seq
    have h2 := hr.lsFew
    have h3 := hr.few
    refine ⟨hr.ins, h1, by dsimp only; omega, by dsimp only; omega, ?_, fun d hd => ?_⟩
    · have := h.few
      simp only [List.length_append, List.length_singleton]
      omega
    · rcases List.mem_append.1 hd with hd | hd
      · exact h.ds d hd
      · rw [List.mem_singleton.1 hd]
        exact ⟨⟨by show i64ok (parseL m).1.seq; unfold i64ok; omega, fun e he => by cases he⟩, Nat.zero_le _, fun e he => by cases he⟩
/-- The bytes that are told. -/
noncomputable def Lg.bytesR (l : Lg) : List UInt8 := if l.Right then l.bytes else []
end
end Go.Proofs.YtickdhjljpnlpaaGreatDoor.A
/-
  What is done with executors, plain: acts; what is few; what is kept; what came since the last ledger that was adopted.
-/
namespace Go.Proofs.YtickdhjljpnlpaaGreatDoor.A
open Go.RowKit

structure XAct where
  kind : Nat
  more : Int
  batch : List Ent
  l : Lg
  raw : List UInt8
def XAct.abs (a : XAct) : List Abs := [.v (.int .u8 (a.kind : Nat)), int a.more, entsR a.batch, int a.l.seq, int a.l.total, ltrsA a.l.ls, outA a.l.os, byt a.raw]
structure XAct.Ins (a : XAct) : Prop where
  kind : a.kind < 256
  more : i64ok a.more
  batch : ∀ e ∈ a.batch, EnIns e
  l : a.l.Ins
abbrev actsX (l : List XAct) : Abs := .sl 8 (l.map XAct.abs)
/-- A batch that isn't too great. -/
structure FewX (b : List Ent) : Prop where
  en : ∀ i (h : i < b.length), b[i].core.letter.size ≤ 100 ∧ b[i].core.text.size ≤ 300
  len : b.length ≤ 10
noncomputable instance (b : List Ent) : Decidable (FewX b) := Classical.propDecidable _
theorem FewX.szs {b : List Ent} (h : FewX b) : ∀ e ∈ b, e.core.letter.size ≤ lots := by
  intro e he
  obtain ⟨i, hi2, rfl⟩ := List.getElem_of_mem he
  have := (h.en i hi2).1
  unfold lots
  omega
/-! ### A ledger that may be stays one -/
theorem keep_seq {l : Lg} (h : l.Keep) (s : Int) : ({ l with seq := s } : Lg).Keep := ⟨h.1, h.2, h.3, h.4, h.5, h.6, h.7⟩
theorem do_keep {x : Ex} {seq : Int} {b : List Ent} (h : x.l.Keep) : (x.doX 4 seq b).l.Keep := by
  unfold Ex.doX
  split
  · exact h
  · exact keep_seq (goes_keep h) _
theorem keep_right {l : Lg} (h : l.Keep) (hs : 0 ≤ l.seq ∧ l.seq ≤ 1048576) : l.Right := h.right (s := l.seq) hs
theorem bytesR_ok {l : Lg} (h : l.Right) : l.bytesR = l.bytes := if_pos h
/-- One that adopts. -/
theorem zero_ad {l : Lg} (h : l.Right) : (l.seq = 0 → Ex.zero.adE l.bytes = 14) ∧ (l.seq ≠ 0 → Ex.zero.adE l.bytes = 0 ∧ (Ex.zero.adX l.bytes).l = l) := by
  have h0 := h.seq
  have hp := lg_back h
  have h1 : ¬ (parseL l.bytes).2 ≠ 0 := by rw [hp]; simp
  constructor
  · intro h2
    exact (ad_mark (x := Ex.zero) h1 (by rw [hp]; show l.seq ≤ 0; omega)).2
  · intro h2
    obtain ⟨g1, g2⟩ := ad_ok (x := Ex.zero) h1 (by rw [hp]; show ¬ l.seq ≤ 0; omega)
    exact ⟨g2, by rw [g1, hp]⟩
/-! ### What came since the last ledger that was adopted -/
def tailStep (acc : List Dd) (d : Dd) : List Dd := if d.adopted = true then [] else acc ++ [d]
def tailD (ds : List Dd) : List Dd := ds.foldl tailStep []
theorem tailD_app (ds : List Dd) (d : Dd) : tailD (ds ++ [d]) = tailStep (tailD ds) d := by
  unfold tailD
  rw [List.foldl_append]
  rfl
abbrev batT (ds : List Dd) : List (List Ent) := (tailD ds).map (·.batch)
/-- The ledger is the fold of what came since. -/
structure Since (x : Ex) (s : Lg) : Prop where
  l : x.l = ldgAt 4 s (batT x.ds)
  num : ∀ j (h : j < (tailD x.ds).length), (tailD x.ds)[j].seq = s.seq + 1 + (j : Nat)
  seq : x.l.seq = s.seq + ((tailD x.ds).length : Nat)
theorem Since.zero : Since Ex.zero Lg.zero := ⟨rfl, fun j h => (by cases h), rfl⟩
theorem ldgAt_app {n : Int} {l : Lg} {h : List (List Ent)} {b : List Ent} : ldgAt n l (h ++ [b]) = ((ldgAt n l h).foldF b n).1 := by
  unfold ldgAt
  rw [List.foldl_append]
  rfl
theorem Since.do_ {x : Ex} {s : Lg} {b : List Ent} (h : Since x s) : Since (x.doX 4 (x.l.seq + 1) b) s := by
  unfold Ex.doX
  split
  · exact h
  · have ht : tailD (x.ds ++ [(⟨x.l.seq + 1, b, false⟩ : Dd)]) = tailD x.ds ++ [⟨x.l.seq + 1, b, false⟩] := by
      rw [tailD_app]
      rfl
    have hq := h.seq
    refine ⟨?_, fun j hj => ?_, ?_⟩
    · show (x.l.foldF b 4).1 = ldgAt 4 s ((tailD (x.ds ++ [_])).map _)
      rw [ht, List.map_append, List.map_singleton, ldgAt_app, ← h.l]
    · have hj2 : j < (tailD x.ds ++ [(⟨x.l.seq + 1, b, false⟩ : Dd)]).length := by rw [← ht]; exact hj
      have e : (tailD (x.ds ++ [(⟨x.l.seq + 1, b, false⟩ : Dd)]))[j]'hj = (tailD x.ds ++ [(⟨x.l.seq + 1, b, false⟩ : Dd)])[j]'hj2 := by simp only [ht]
      show ((tailD (x.ds ++ [(⟨x.l.seq + 1, b, false⟩ : Dd)]))[j]'hj).seq = _
      rw [e, List.getElem_append]
      split
      · next h1 => exact h.num j h1
      · next h1 =>
        rw [List.length_append, List.length_singleton] at hj2
        have hj3 : j = (tailD x.ds).length := by omega
        subst hj3
        simp only [Nat.sub_self, List.getElem_cons_zero]
        omega
    · show (x.l.foldF b 4).1.seq = s.seq + (((tailD (x.ds ++ [(⟨x.l.seq + 1, b, false⟩ : Dd)])).length : Nat) : Int)
      rw [fold_seq, ht, List.length_append, List.length_singleton]
      omega
theorem Since.ad {x : Ex} {l : Lg} (hr : l.Right) (h : x.adE l.bytes = 0) : Since (x.adX l.bytes) l := by
  have hp := lg_back hr
  have h1 : ¬ (parseL l.bytes).2 ≠ 0 := by rw [hp]; simp
  have h2 : ¬ (parseL l.bytes).1.seq ≤ x.l.seq := fun h3 => by
    rw [(ad_mark (x := x) h1 h3).2] at h
    cases h
  rw [(ad_ok (x := x) h1 h2).1, hp]
  have ht : tailD (x.ds ++ [(⟨l.seq, [], true⟩ : Dd)]) = [] := by
    rw [tailD_app]
    rfl
  refine ⟨?_, fun j hj => ?_, ?_⟩
  · show l = ldgAt 4 l ((tailD (x.ds ++ [(⟨l.seq, [], true⟩ : Dd)])).map _)
    rw [ht]
    rfl
  · have : (tailD (x.ds ++ [(⟨l.seq, [], true⟩ : Dd)])).length = 0 := by rw [ht]; rfl
    have hj : j < (tailD (x.ds ++ [(⟨l.seq, [], true⟩ : Dd)])).length := hj
    omega
  · show l.seq = l.seq + (((tailD (x.ds ++ [(⟨l.seq, [], true⟩ : Dd)])).length : Nat) : Int)
    rw [ht]
    simp
end Go.Proofs.YtickdhjljpnlpaaGreatDoor.A
/-
  What is done with executors, as it came in; it lies apart from the program's own tables.
-/
namespace Go.Proofs.YtickdhjljpnlpaaGreatDoor.A
open Go.RowKit Go.ChangeShapes Go.WideShapes Go.ChangeAt

section
variable {H : Type} {enc : TypeId × Value → H} {w : World} {base : Nat} {spare : Nat → Bool} {held : Bool}
theorem open_bytesA {v : Value} (h : LeafAt enc Tryz.prog w base spare held 31 v) : ∃ m : List UInt8, rep [] w (byt m) v := by
  obtain ⟨m, h1, _⟩ := open_slA (abs := fun b : UInt8 => [Abs.v (bc b)]) (Ok := fun _ => True) (s := 1) Tryz.underlying31 (by kernel_rfl) h fun cs hl h => by
    rw [show Tryz.prog.cellsOf 5 = 1 by kernel_rfl] at hl
    match cs, hl with
    | [v0], _ =>
      obtain ⟨m, y, hy⟩ := h
      obtain ⟨c, hc, _⟩ := open_byte [v0] (by rw [show Tryz.prog.cellsOf 5 = 1 by kernel_rfl]; rfl) ⟨m, y, hy⟩
      simp at hc
      exact ⟨c, ⟨v0, [], rfl, hc, rfl⟩, trivial⟩
  exact ⟨m, h1⟩
theorem act_leaves : leaves Tryz.prog 6 33 = some [5, 2, 26, 2, 2, 27, 28, 31] := by kernel_rfl
theorem open_actX (cs : List Value) (hl : cs.length = Tryz.prog.cellsOf 33) (h : ∃ m y, DataW.trod enc Tryz.prog w base spare held m 33 cs = some y) : ∃ a : XAct, reps [] w a.abs cs ∧ a.Ins := by
  obtain ⟨fuel, x, h⟩ := h
  rw [show Tryz.prog.cellsOf 33 = 8 by kernel_rfl] at hl
  have hh := leaves_trod 6 _ _ _ _ _ act_leaves (by simpa using hl.symm) h
  match cs, hl with
  | [v0, v1, v2, v3, v4, v5, v6, v7], _ =>
    obtain ⟨n0, rfl, b0⟩ := (hh 0 v0 _ rfl rfl).int Tryz.underlying5
    obtain ⟨n1, rfl, b1⟩ := (hh 1 v1 _ rfl rfl).int Tryz.underlying2
    obtain ⟨es, h2, i2⟩ := open_ensO (hh 2 v2 _ rfl rfl)
    obtain ⟨n3, rfl, b3⟩ := (hh 3 v3 _ rfl rfl).int Tryz.underlying2
    obtain ⟨n4, rfl, b4⟩ := (hh 4 v4 _ rfl rfl).int Tryz.underlying2
    obtain ⟨ls, h5, i5⟩ := open_slA (abs := ltrA) (Ok := LtIns) (s := 6) Tryz.underlying27 (by kernel_rfl) (hh 5 v5 _ rfl rfl) open_ltr
    obtain ⟨os, h6, i6⟩ := open_slA (abs := Oc.abs) (Ok := OcIns) (s := 3) Tryz.underlying28 (by kernel_rfl) (hh 6 v6 _ rfl rfl) open_ocO
    obtain ⟨m, h7⟩ := open_bytesA (hh 7 v7 _ rfl rfl)
    simp only [Lit.wf, Bool.and_eq_true, decide_eq_true_eq] at b0
    have c0 : (0 : Int) ≤ n0 := b0.1
    have c1 : n0 ≤ (255 : Int) := b0.2
    obtain ⟨k, rfl⟩ : ∃ k : Nat, n0 = k := ⟨n0.toNat, by omega⟩
    exact ⟨⟨k, n1, es, ⟨n3, n4, ls, os⟩, m⟩, ⟨_, _, rfl, rfl, _, _, rfl, rfl, _, _, rfl, h2, _, _, rfl, rfl, _, _, rfl, rfl, _, _, rfl, h5, _, _, rfl, h6, _, _, rfl, h7, rfl⟩, ⟨by show k < 256; omega, wfOk b1, i2, ⟨wfOk b3, wfOk b4, i5, i6⟩⟩⟩
theorem open_actsX {v : Value} (h : LeafAt enc Tryz.prog w base spare held 22 v) : ∃ l : List XAct, rep [] w (actsX l) v ∧ ∀ a ∈ l, a.Ins :=
  open_slA (abs := XAct.abs) (Ok := XAct.Ins) (s := 8) Tryz.underlying22 (by kernel_rfl) h open_actX
end
section
variable {G : List Nat} {w : World}
theorem byt_keepU (hU : Other .u8 G w) {m : List UInt8} {v : Value} (h : rep [] w (byt m) v) : rep G w (byt m) v :=
  rep_byt.2 ((rep_byt.1 h).into hU fun hn => by
    cases m with
    | nil => exact absurd rfl hn
    | cons b m => exact ⟨_, rfl⟩)
theorem acts_rows (hG : Other .i64 G w) (hU : Other .u8 G w) : ∀ {l : List XAct} {us : List Value}, repss [] w 8 (l.map XAct.abs) us → repss G w 8 (l.map XAct.abs) us ∧ (us ≠ [] → ∃ i, us[1]? = some (.int .i64 i))
  | [], us, h => by
    have h : us = [] := h
    subst h
    exact ⟨rfl, fun hn => absurd rfl hn⟩
  | a :: l, us, h => by
    obtain ⟨u1, u2, rfl, hl, ⟨x0, _, rfl, h0, x1, _, rfl, h1, x2, _, rfl, h2, x3, _, rfl, h3, x4, _, rfl, h4, x5, _, rfl, h5, x6, _, rfl, h6, x7, _, rfl, h7, h8⟩, hr⟩ := h
    have h1' : x1 = .int .i64 a.more := h1
    refine ⟨⟨_, u2, rfl, hl, ⟨x0, _, rfl, h0, x1, _, rfl, h1, x2, _, rfl, ens_keep hG h2, x3, _, rfl, h3, x4, _, rfl, h4, x5, _, rfl, flat_keep (c := fun x : Ltr => x.cells.toList) (s := 6) (j := 1) (fun _ => rfl) (fun x => ⟨x.state, rfl⟩) hG h5, x6, _, rfl, flat_keep (c := ocCells) (s := 3) (j := 0) (fun _ => rfl) (fun o => ⟨o.client, rfl⟩) hG h6, x7, _, rfl, byt_keepU hU h7, h8⟩, (acts_rows hG hU hr).1⟩, fun _ => ?_⟩
    exact ⟨a.more, by rw [h1']; rfl⟩
theorem actsX_keep (hG : Other .i64 G w) (hU : Other .u8 G w) {l : List XAct} {v : Value} (h : rep [] w (actsX l) v) : rep G w (actsX l) v := by
  obtain ⟨us, h1, h2⟩ := h
  obtain ⟨h3, h4⟩ := acts_rows hG hU h2
  exact ⟨us, h1.intoJ (j := 1) hG h4, h3⟩
end
end Go.Proofs.YtickdhjljpnlpaaGreatDoor.A
