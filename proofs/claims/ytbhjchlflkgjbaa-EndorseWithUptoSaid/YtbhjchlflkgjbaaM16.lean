/-
  Packed out of the texts: Cry, Rds, Req, A18, Sum, Doc, A14, A16, A19, A20, AFace.
-/
import Derived.Test.YtbhjchlflkgjbaaM15
import Derived.Lib.AppendZerosOnto
import Derived.Lib.Overlaps
/-
  Whoever numbers what is tagged, as it comes: the tags of those told, plain.
-/
set_option maxRecDepth 100000
set_option linter.unusedSimpArgs false
set_option linter.unusedVariables false
namespace Go.Proofs.Ytbhjchlflkgjbaa.A
open Go.RowKit

section
variable {α : Type} [DecidableEq α] {T : List (α × Nat)} {k : α} {g : Int → α} {l : List Int}
def hasK (T : List (α × Nat)) (k : α) : Bool := (aget T k).isSome
theorem hasK_iff : hasK T k = true ↔ ¬ aget T k = none := by
  unfold hasK
  cases aget T k <;> simp
theorem hasK_pm (c : α) : hasK (pm T k) c = (decide (c = k) || hasK T c) := by
  unfold hasK
  rw [aget_pm]
  by_cases h : c = k <;> simp [h]
theorem pl_keep {c : α} (h : hasK T c = true) : pl (pm T k) c = pl T c := by
  rw [hasK_iff] at h
  unfold pl
  rw [aget_pm]
  split
  · next e =>
    subst e
    unfold pl
    cases hc : aget T c with
    | none => exact absurd hc h
    | some v => rfl
  · cases hc : aget T c with
    | none => exact absurd hc h
    | some v => rfl
theorem pl_self : pl (pm T k) k = pl T k := by
  show (aget (pm T k) k).getD _ = _
  rw [aget_pm, if_pos rfl]
  rfl
/-- Those told, one behind the other. -/
def tmG (g : Int → α) (T : List (α × Nat)) (l : List Int) : List (α × Nat) := l.foldl (fun T w => pm T (g w)) T
theorem tmG_snoc (g : Int → α) (T : List (α × Nat)) (l : List Int) (w : Int) : tmG g T (l ++ [w]) = pm (tmG g T l) (g w) := by
  unfold tmG
  rw [List.foldl_append]
  rfl
theorem tmG_app (g : Int → α) (T : List (α × Nat)) (l m : List Int) : tmG g T (l ++ m) = tmG g (tmG g T l) m := by
  unfold tmG
  rw [List.foldl_append]
theorem tmG_num (h : Num1 T) (g : Int → α) : ∀ l : List Int, Num1 (tmG g T l) := fun l => by
  induction l generalizing T with
  | nil => exact h
  | cons w l ih => exact ih (h.put (g w))
theorem tmG_len (g : Int → α) (T : List (α × Nat)) (l : List Int) : (tmG g T l).length ≤ T.length + l.length := by
  induction l generalizing T with
  | nil => exact Nat.le_refl _
  | cons w l ih =>
    have h1 := ih (T := pm T (g w))
    have h2 := pm_length T (g w)
    show (tmG g (pm T (g w)) l).length ≤ _
    rw [List.length_cons]
    omega
theorem tmG_has (g : Int → α) (T : List (α × Nat)) (c : α) : ∀ l : List Int, hasK (tmG g T l) c = (hasK T c || l.any fun w => decide (c = g w)) := fun l => by
  induction l generalizing T with
  | nil => simp [tmG]
  | cons w l ih =>
    show hasK (tmG g (pm T (g w)) l) c = _
    rw [ih, hasK_pm, List.any_cons]
    cases decide (c = g w) <;> cases hasK T c <;> rfl
theorem tmG_keep {c : α} (g : Int → α) (h : hasK T c = true) : ∀ l : List Int, pl (tmG g T l) c = pl T c := fun l => by
  induction l generalizing T with
  | nil => rfl
  | cons w l ih =>
    show pl (tmG g (pm T (g w)) l) c = _
    rw [ih (by rw [hasK_pm, h, Bool.or_true]), pl_keep h]
def tagN (T : List (α × Nat)) (k : α) : Tg := ⟨numB 255 (pl T k), numB_length _ _⟩
/-- The tags of those told. -/
def tagsG (g : Int → α) (T : List (α × Nat)) (l : List Int) : List Tg := l.map fun w => tagN (tmG g T l) (g w)
theorem tagsG_length (g : Int → α) (T : List (α × Nat)) (l : List Int) : (tagsG g T l).length = l.length := by simp [tagsG]
theorem tagsG_snoc (g : Int → α) (T : List (α × Nat)) (l : List Int) (w : Int) : (tagsG g T l).map Tg.abs ++ [digA (numB 255 (pl (tmG g T l) (g w)))] = (tagsG g T (l ++ [w])).map Tg.abs := by
  unfold tagsG
  rw [tmG_snoc, List.map_append, List.map_append]
  congr 1
  · rw [List.map_map, List.map_map]
    refine List.map_congr_left fun v hv => ?_
    have hh : hasK (tmG g T l) (g v) = true := by
      rw [tmG_has, Bool.or_eq_true]
      exact .inr (List.any_eq_true.2 ⟨v, hv, by simp⟩)
    show digA (numB 255 _) = digA (numB 255 _)
    rw [pl_keep hh]
  · show _ = [digA (numB 255 _)]
    rw [pl_self]
/-- Does a tag hold? -/
def chkG (T : List (α × Nat)) (k : α) (M : List UInt8) : Bool := hasK T k && decide (M = numB 255 (pl T k))
theorem chkG_iff (h : Num1 T) (hl : T.length < 1000000) {M : List UInt8} : chkG T k M = true ↔ hasK T k = true ∧ M = numB 255 (pl T k) := by
  unfold chkG
  rw [Bool.and_eq_true, decide_eq_true_iff]
theorem Num1.pl_inj (h : Num1 T) {j k : α} (hj : hasK T j = true) (hk : hasK T k = true) (e : pl T j = pl T k) : j = k := by
  unfold hasK at hj hk
  obtain ⟨v, hv⟩ := Option.isSome_iff_exists.1 hj
  obtain ⟨u, hu⟩ := Option.isSome_iff_exists.1 hk
  have e1 : pl T j = v := by unfold pl; rw [hv]; rfl
  have e2 : pl T k = u := by unfold pl; rw [hu]; rfl
  have : v = u := by omega
  subst this
  exact h.inj j k v hv hu
end
end Go.Proofs.Ytbhjchlflkgjbaa.A
/-
  Pieces that are read alone.
-/
set_option maxRecDepth 100000
set_option linter.unusedSimpArgs false
set_option linter.unusedVariables false
namespace Go.Proofs.Ytbhjchlflkgjbaa.A
open Go.RowKit

def Rds (σ : Blks) : Prop := ∀ x ∈ σ, (∃ b t cs, x = .rd b t cs) ∨ ∃ c, x = .rdpc c
theorem Rds.reads {σ τ : Blks} (h : Rds τ) (hs : ∀ x ∈ τ, x ∈ σ) : Reads σ τ := by
  induction τ with
  | nil => exact .nil
  | cons x τ ih =>
    have h1 := ih (fun y hy => h y (List.mem_cons_of_mem _ hy)) (fun y hy => hs y (List.mem_cons_of_mem _ hy))
    have hx := hs x List.mem_cons_self
    rcases h x List.mem_cons_self with ⟨b, t, cs, rfl⟩ | ⟨c, rfl⟩
    · exact .rd hx h1
    · exact .rdpc hx h1
end Go.Proofs.Ytbhjchlflkgjbaa.A
/-
  Requests, plain: endorsements put in, and who stands behind a core.
-/
set_option maxRecDepth 100000
set_option linter.unusedSimpArgs false
set_option linter.unusedVariables false
namespace Go.Proofs.Ytbhjchlflkgjbaa.A
open Go.RowKit

/-- An endorsement. -/
structure En where
  org : Int
  tags : List Tg
def En.abs (e : En) : List Abs := [int e.org, .sl 32 (e.tags.map Tg.abs)]
/-- A request. -/
structure Rq where
  core : Core
  ends : List En
abbrev endsA (es : List En) : Abs := .sl 2 (es.map En.abs)
def Rq.abs (q : Rq) : List Abs := q.core.cells.map .v ++ [endsA q.ends]
theorem En.abs_len (e : En) : e.abs.length = 2 := rfl
theorem En.abs_ones (e : En) : ones e.abs = true := rfl
theorem Rq.abs_len (q : Rq) : q.abs.length = 8 := rfl
theorem Rq.abs_ones (q : Rq) : ones q.abs = true := rfl
theorem Rq.part (q : Rq) : A.part q.abs 0 7 = q.core.cells.map .v := rfl
theorem ends_ones (es : List En) : ∀ c ∈ es.map En.abs, ones c = true := fun c hc => by
  obtain ⟨e, _, rfl⟩ := List.mem_map.1 hc
  rfl
theorem tags_ones (ts : List Tg) : ∀ c ∈ ts.map Tg.abs, ones c = true := fun c hc => by
  obtain ⟨t, _, rfl⟩ := List.mem_map.1 hc
  exact ones_iff.2 fun a ha => by
    obtain ⟨b, _, rfl⟩ := List.mem_map.1 ha
    rfl
theorem core_len (c : Core) : c.bytes.length = 34 + c.letter.size + c.text.size := by
  have h1 : c.letter.data.toList.length = c.letter.size := rfl
  have h2 : c.text.data.toList.length = c.text.size := rfl
  simp only [Core.bytes, rowB, List.length_append, beBytes_length, h1, h2]
  omega
/-- An endorsement put in, where it belongs. -/
def putE (th : Bool) (e : En) : List En → List En
  | [] => [e]
  | x :: l => if th && decide (x.org = e.org) then e :: l else if !th && decide (e.org < x.org) then e :: x :: l else x :: putE th e l
def hasE (es : List En) (o : Int) : Bool := es.any fun x => decide (x.org = o)
def withL (es : List En) (e : En) : List En := putE (hasE es e.org) e es
theorem putE_set {e : En} : ∀ {es : List En} {i : Nat}, (hi : i < es.length) → es[i].org = e.org → (∀ j (hj : j < i), ¬ (es[j]'(by omega)).org = e.org) → putE true e es = es.set i e
  | [], i, hi, _, _ => by simp at hi
  | x :: es, 0, _, h, _ => by
    have h : x.org = e.org := h
    simp [putE, h]
  | x :: es, i + 1, hi, h, hn => by
    have h0 : ¬ x.org = e.org := hn 0 (by omega)
    have h1 := putE_set (es := es) (i := i) (by simpa using hi) (by simpa using h) fun j hj => by simpa using hn (j + 1) (by omega)
    simp [putE, h0, h1]
theorem putE_ins {e : En} : ∀ {es : List En} {i : Nat}, (hi : i < es.length) → e.org < es[i].org → (∀ j (hj : j < i), ¬ e.org < (es[j]'(by omega)).org) → putE false e es = es.take i ++ e :: es.drop i
  | [], i, hi, _, _ => by simp at hi
  | x :: es, 0, _, h, _ => by
    have h : e.org < x.org := h
    simp [putE, h]
  | x :: es, i + 1, hi, h, hn => by
    have h0 : ¬ e.org < x.org := hn 0 (by omega)
    have h1 := putE_ins (es := es) (i := i) (by simpa using hi) (by simpa using h) fun j hj => by simpa using hn (j + 1) (by omega)
    simp [putE, h0, h1]
theorem putE_end {e : En} : ∀ {es : List En}, (∀ x ∈ es, ¬ e.org < x.org) → putE false e es = es.take es.length ++ e :: es.drop es.length
  | [], _ => rfl
  | x :: es, h => by
    have h0 := h x List.mem_cons_self
    have h1 := putE_end (es := es) fun y hy => h y (List.mem_cons_of_mem _ hy)
    simp only [List.take_length, List.drop_length] at h1 ⊢
    simp [putE, h0, h1]
/-- The document's steps. -/
def wStep (th : Bool) (e : En) (s : List En × Bool) (x : En) : List En × Bool :=
  if (!s.2 && (th && decide (x.org = e.org) || !th && decide (e.org < x.org))) = true then (if th then s.1 ++ [e] else s.1 ++ [e] ++ [x], true) else (s.1 ++ [x], s.2)
def wFin (e : En) (s : List En × Bool) : List En := if s.2 then s.1 else s.1 ++ [e]
theorem wfold_true {th : Bool} {e : En} : ∀ (l acc : List En), l.foldl (wStep th e) (acc, true) = (acc ++ l, true)
  | [], acc => by simp
  | x :: l, acc => by
    rw [List.foldl_cons, show wStep th e (acc, true) x = (acc ++ [x], true) by simp [wStep], wfold_true l]
    simp
theorem wfold {th : Bool} {e : En} : ∀ (l acc : List En), wFin e (l.foldl (wStep th e) (acc, false)) = acc ++ putE th e l
  | [], acc => by simp [wFin, putE]
  | x :: l, acc => by
    rw [List.foldl_cons]
    cases th with
    | true =>
      by_cases h : x.org = e.org
      · rw [show wStep true e (acc, false) x = (acc ++ [e], true) by simp [wStep, h], wfold_true]
        simp [wFin, putE, h]
      · rw [show wStep true e (acc, false) x = (acc ++ [x], false) by simp [wStep, h], wfold l]
        simp [putE, h]
    | false =>
      by_cases h : e.org < x.org
      · rw [show wStep false e (acc, false) x = (acc ++ [e] ++ [x], true) by simp [wStep, h], wfold_true]
        simp [wFin, putE, h]
      · rw [show wStep false e (acc, false) x = (acc ++ [x], false) by simp [wStep, h], wfold l]
        simp [putE, h]
theorem withL_fold (es : List En) (e : En) : withL es e = wFin e (es.foldl (wStep (hasE es e.org) e) ([], false)) := by
  rw [wfold]
  rfl
theorem putE_len (th : Bool) (e : En) : ∀ es : List En, (putE th e es).length ≤ es.length + 1
  | [] => Nat.le_refl _
  | x :: es => by
    have := putE_len th e es
    unfold putE
    split
    · simp
    · split
      · simp
      · simpa using this
theorem wStep_len (th : Bool) (e : En) (s : List En × Bool) (x : En) : (wStep th e s x).1.length ≤ s.1.length + 2 := by
  unfold wStep
  split
  · split <;> simp
  · simp
theorem putE_mem {th : Bool} {e x : En} : ∀ {es : List En}, x ∈ putE th e es → x = e ∨ x ∈ es
  | [], h => .inl (List.mem_singleton.1 h)
  | y :: es, h => by
    unfold putE at h
    split at h
    · rcases List.mem_cons.1 h with h | h
      · exact .inl h
      · exact .inr (List.mem_cons_of_mem _ h)
    · split at h
      · rcases List.mem_cons.1 h with h | h
        · exact .inl h
        · exact .inr h
      · rcases List.mem_cons.1 h with h | h
        · exact .inr (h ▸ List.mem_cons_self)
        · rcases putE_mem h with h | h
          · exact .inl h
          · exact .inr (List.mem_cons_of_mem _ h)
/-! ### Masks -/
def bitsW : Nat → (Nat → Bool) → Wo
  | 0, _ => 0#32
  | n + 1, P => bitsW n P ||| (if P n then 1#32 <<< n else 0#32)
theorem one_shl_bit {m i : Nat} (hm : m < 32) : (1#32 <<< m).getLsbD i = decide (i = m) := by
  simp only [BitVec.getLsbD_shiftLeft, BitVec.getLsbD_one]
  rcases Nat.lt_trichotomy i m with h | h | h
  · simp [h, Nat.ne_of_lt h]
  · subst h; simp [hm]
  · have h1 : ¬ i < m := by omega
    have h2 : ¬ i = m := by omega
    have h3 : ¬ i - m = 0 := by omega
    simp [h1, h2, h3]
theorem bitsW_bit : ∀ (n : Nat) (P : Nat → Bool) (i : Nat), n ≤ 32 → (bitsW n P).getLsbD i = (decide (i < n) && P i)
  | 0, P, i, _ => by simp [bitsW]
  | n + 1, P, i, h => by
    rw [bitsW, BitVec.getLsbD_or, bitsW_bit n P i (by omega)]
    have hb : (if P n = true then 1#32 <<< n else 0#32).getLsbD i = (decide (i = n) && P n) := by
      split
      · next hp => rw [one_shl_bit (by omega), hp, Bool.and_true]
      · next hp =>
        have hp : P n = false := by simpa using hp
        rw [hp]
        simp
    rw [hb]
    rcases Nat.lt_trichotomy i n with h1 | h1 | h1
    · have h2 : i < n + 1 := by omega
      have h3 : ¬ i = n := by omega
      simp [h1, h2, h3]
    · subst h1
      simp
    · have h2 : ¬ i < n := by omega
      have h3 : ¬ i < n + 1 := by omega
      have h4 : ¬ i = n := by omega
      simp [h2, h3, h4]
theorem bitsW_ext {n : Nat} (hn : n ≤ 32) {P Q : Nat → Bool} (h : ∀ i, i < n → P i = Q i) : bitsW n P = bitsW n Q := by
  apply BitVec.eq_of_getLsbD_eq
  intro i _
  rw [bitsW_bit n P i hn, bitsW_bit n Q i hn]
  by_cases hi : i < n
  · rw [h i hi]
  · simp [hi]
theorem bitsW_or {n m : Nat} (hn : n ≤ 32) (hm : m < n) (P : Nat → Bool) : bitsW n P ||| 1#32 <<< m = bitsW n fun o => P o || decide (o = m) := by
  apply BitVec.eq_of_getLsbD_eq
  intro i _
  rw [BitVec.getLsbD_or, bitsW_bit n P i hn, bitsW_bit n _ i hn, one_shl_bit (by omega)]
  by_cases hi : i = m
  · subst hi; simp [hm]
  · simp [hi]
theorem bitsW_add {n : Nat} (hn : n < 32) (P : Nat → Bool) : bitsW n P + 1#32 <<< n = bitsW n P ||| 1#32 <<< n := by
  apply BitVec.add_eq_or_of_and_eq_zero
  apply BitVec.eq_of_getLsbD_eq
  intro i _
  rw [BitVec.getLsbD_and, bitsW_bit n P i (by omega), one_shl_bit hn]
  by_cases hi : i = n
  · subst hi; simp
  · simp [hi]
/-- Does the first one of an organization hold? -/
def firstOk (ok : En → Bool) (es : List En) (o : Nat) : Bool := match es.find? fun x => decide (x.org = (o : Int)) with
  | some e => ok e
  | none => false
def seenW (n : Nat) (es : List En) : Wo := bitsW n fun o => hasE es (o : Int)
def maskW (n : Nat) (ok : En → Bool) (es : List En) : Wo := bitsW n fun o => firstOk ok es o
theorem hasE_app (es : List En) (e : En) (o : Int) : hasE (es ++ [e]) o = (hasE es o || decide (e.org = o)) := by simp [hasE]
theorem firstOk_app (ok : En → Bool) (es : List En) (e : En) (o : Nat) : firstOk ok (es ++ [e]) o = if hasE es (o : Int) then firstOk ok es o else decide (e.org = (o : Int)) && ok e := by
  unfold firstOk
  rw [List.find?_append]
  cases hf : es.find? fun x => decide (x.org = (o : Int)) with
  | some x =>
    have h1 := List.find?_some hf
    have h2 := List.mem_of_find?_eq_some hf
    have : hasE es (o : Int) = true := List.any_eq_true.2 ⟨x, h2, h1⟩
    rw [this]
    rfl
  | none =>
    rw [List.find?_eq_none] at hf
    have : hasE es (o : Int) = false := by
      unfold hasE
      rw [Bool.eq_false_iff]
      intro h
      obtain ⟨x, hx, h⟩ := List.any_eq_true.1 h
      exact hf x hx h
    rw [this]
    by_cases h : e.org = (o : Int)
    · simp [h]
    · simp [h]
theorem seenW_out {n : Nat} (hn : n ≤ 32) {es : List En} {e : En} (h : ∀ o : Nat, o < n → ¬ e.org = (o : Int)) : seenW n (es ++ [e]) = seenW n es := bitsW_ext hn fun i hi => by
  rw [hasE_app, decide_eq_false (h i hi), Bool.or_false]
theorem hasE_none {es : List En} {o : Nat} (h : hasE es (o : Int) = false) (ok : En → Bool) : firstOk ok es o = false := by
  unfold firstOk
  cases hf : es.find? fun x => decide (x.org = (o : Int)) with
  | some x =>
    have h1 := List.find?_some hf
    have h2 := List.mem_of_find?_eq_some hf
    have : hasE es (o : Int) = true := List.any_eq_true.2 ⟨x, h2, h1⟩
    rw [this] at h
    cases h
  | none => rfl
theorem maskW_out {n : Nat} (hn : n ≤ 32) {ok : En → Bool} {es : List En} {e : En} (h : ∀ o : Nat, o < n → ¬ e.org = (o : Int)) : maskW n ok (es ++ [e]) = maskW n ok es := bitsW_ext hn fun i hi => by
  rw [firstOk_app, decide_eq_false (h i hi), Bool.false_and]
  cases hh : hasE es (i : Int) with
  | true => rfl
  | false => exact (hasE_none hh ok).symm
theorem seenW_old {n m : Nat} (hn : n ≤ 32) {es : List En} {e : En} (hm : e.org = (m : Int)) (hs : hasE es (m : Int) = true) : seenW n (es ++ [e]) = seenW n es := bitsW_ext hn fun i hi => by
  rw [hasE_app]
  by_cases h : i = m
  · subst h; rw [hs, Bool.true_or]
  · rw [hm, decide_eq_false (by omega), Bool.or_false]
theorem maskW_old {n m : Nat} (hn : n ≤ 32) {ok : En → Bool} {es : List En} {e : En} (hm : e.org = (m : Int)) (hs : hasE es (m : Int) = true) : maskW n ok (es ++ [e]) = maskW n ok es := bitsW_ext hn fun i hi => by
  rw [firstOk_app]
  by_cases h : i = m
  · subst h; rw [hs, if_pos rfl]
  · rw [hm, decide_eq_false (by omega), Bool.false_and]
    cases hh : hasE es (i : Int) with
    | true => rfl
    | false => exact (hasE_none hh ok).symm
theorem seenW_new {n m : Nat} (hn : n ≤ 32) (hl : m < n) {es : List En} {e : En} (hm : e.org = (m : Int)) : seenW n (es ++ [e]) = seenW n es ||| 1#32 <<< m := by
  unfold seenW
  rw [bitsW_or hn hl]
  exact bitsW_ext hn fun i hi => by
    rw [hasE_app, hm]
    congr 1
    rw [decide_eq_decide]
    omega
theorem maskW_new {n m : Nat} (hn : n ≤ 32) (hl : m < n) {ok : En → Bool} {es : List En} {e : En} (hm : e.org = (m : Int)) (hs : hasE es (m : Int) = false) : maskW n ok (es ++ [e]) = if ok e then maskW n ok es ||| 1#32 <<< m else maskW n ok es := by
  have h1 : maskW n ok (es ++ [e]) = bitsW n fun o => firstOk ok es o || (decide (o = m) && ok e) := bitsW_ext hn fun i hi => by
    rw [firstOk_app]
    by_cases h : i = m
    · subst h
      rw [hs, if_neg (by decide), hm, hasE_none hs]
      simp
    · rw [hm, decide_eq_false (by omega), decide_eq_false h, Bool.false_and, Bool.or_false]
      cases hh : hasE es (i : Int) with
      | true => rfl
      | false => exact (hasE_none hh ok).symm
  rw [h1]
  cases ok e with
  | true =>
    rw [if_pos rfl]
    unfold maskW
    rw [bitsW_or hn hl]
    exact bitsW_ext hn fun i _ => by rw [Bool.and_true]
  | false =>
    rw [if_neg (by decide)]
    exact bitsW_ext hn fun i _ => by rw [Bool.and_false, Bool.or_false]
theorem seen_bit {n m : Nat} (hn : n ≤ 32) (hl : m < n) (es : List En) : decide (((seenW n es >>> m) &&& 1#32).toNat = 1) = hasE es (m : Int) := by
  have h1 : decide (((seenW n es >>> m) &&& 1#32).toNat = 1) = (seenW n es).getLsbD m := by
    rw [BitVec.toNat_and]
    show decide ((seenW n es >>> m).toNat &&& 1 = 1) = _
    rw [Nat.and_one_is_mod, BitVec.toNat_ushiftRight]
    show _ = (seenW n es).toNat.testBit m
    rw [Nat.testBit_eq_decide_div_mod_eq, Nat.shiftRight_eq_div_pow]
  rw [h1]
  unfold seenW
  rw [bitsW_bit n _ m hn, decide_eq_true hl, Bool.true_and]
/-- Does an endorsement hold, by those who hold? -/
def okE (chk : Int → List UInt8 → Bool) (who : Int) (e : En) : Bool := decide (0 ≤ who) && match e.tags[who.toNat]? with
  | some t => chk e.org t.d
  | none => false
theorem okE_yes {chk : Int → List UInt8 → Bool} {e : En} {m : Nat} (h : m < e.tags.length) : okE chk (m : Nat) e = chk e.org (e.tags[m]).d := by
  unfold okE
  rw [decide_eq_true (by omega), Int.toNat_natCast, List.getElem?_eq_getElem h, Bool.true_and]
theorem okE_neg {chk : Int → List UInt8 → Bool} {e : En} {who : Int} (h : who < 0) : okE chk who e = false := by
  unfold okE
  rw [decide_eq_false (by omega), Bool.false_and]
theorem okE_far {chk : Int → List UInt8 → Bool} {e : En} {who : Int} (h : (e.tags.length : Int) ≤ who) : okE chk who e = false := by
  unfold okE
  rw [List.getElem?_eq_none (by omega), Bool.and_false]
def maskN (n : Int) (ok : En → Bool) (es : List En) : Wo := if 1 ≤ n ∧ n ≤ 7 then maskW n.toNat ok es else 0#32
end Go.Proofs.Ytbhjchlflkgjbaa.A
/-
  The second engine: pieces of memory put together to one, and taken apart.
-/
set_option maxRecDepth 100000
set_option linter.unusedSimpArgs false
set_option linter.unusedVariables false
namespace Go.Proofs.Ytbhjchlflkgjbaa.A
open Go.RowKit

/-- A block, as a piece. -/
def blkP (b : Nat) (t : TypeId) (cs : List Abs) : Pc where
  ids := [b]
  p := fun K w => ∃ us, w.heap[b]? = some (row t us) ∧ reps K w cs us
  carry := fun K w K' w' hc hs ⟨us, h1, h2⟩ => ⟨us, (hs b (by simp)).trans h1, reps_carry hc _ _ h2⟩
  lt := fun K w ⟨us, h1, _⟩ k hk => by
    simp at hk
    subst hk
    exact heap_lt h1
/-- Many pieces as one. -/
def bigP (l : List Pc) : Pc where
  ids := l.flatMap Pc.ids
  p := fun K w => ∀ c ∈ l, c.p K w
  carry := fun K w K' w' hc hs h c hm => c.carry K w K' w' hc (fun k hk => hs k (List.mem_flatMap.2 ⟨c, hm, hk⟩)) (h c hm)
  lt := fun K w h k hk => by
    obtain ⟨c, hm, hk⟩ := List.mem_flatMap.1 hk
    exact c.lt K w (h c hm) k hk
section
variable {w0 w : World} {F G : List Nat} {α β xs ys : Blks}
/-- Pieces said otherwise; some may be let go. -/
theorem Mem.regroup {zs : List Nat} (hp : (mids xs).Perm (mids ys ++ zs)) (hr : ∀ y ∈ ys, y.rids = []) (hh : ∀ K, (∀ x ∈ xs, x.holds K w) → ∀ y ∈ ys, y.holds K w) (h : Mem w0 F G (α ++ (xs ++ β)) w) :
    Mem w0 F G (α ++ (ys ++ β)) w ∧ Carry (mids (α ++ (xs ++ β)) ++ G) w (mids (α ++ (ys ++ β)) ++ G) w := by
  have hsub : ∀ k ∈ mids ys, k ∈ mids xs := fun k hk => hp.mem_iff.2 (List.mem_append_left _ hk)
  refine h.step (Y := []) (Ext.refl w) (by simp) (fun k hk => ?_) (fun x hx => ?_) ?_ fun hc x hx => ?_
  · simp only [mids_append, List.mem_append] at hk ⊢
    rcases hk with hk | hk | hk
    · exact .inl (.inl hk)
    · exact .inl (.inr (.inl (hsub k hk)))
    · exact .inl (.inr (.inr hk))
  · simp only [List.mem_append] at hx
    rcases hx with hx | hx | hx
    · exact h.ro x (by simp [hx])
    · rw [hr x hx]; simp
    · exact h.ro x (by simp [hx])
  · have hn := h.nodup
    simp only [mids_append] at hn ⊢
    have h2 : (mids α ++ (mids xs ++ mids β)).Perm ((mids α ++ (mids ys ++ mids β)) ++ zs) := by
      rw [List.append_assoc, List.append_assoc]
      refine List.Perm.append_left _ ?_
      refine (hp.append_right _).trans ?_
      rw [List.append_assoc]
      exact List.Perm.append_left _ List.perm_append_comm
    exact (List.nodup_append.1 (h2.nodup_iff.1 hn)).1
  · simp only [List.mem_append] at hx
    rcases hx with hx | hx | hx
    · exact h.keep (Y := []) (Ext.refl w) hc (by simp [hx]) (by simp) (by simp)
    · exact hh _ (fun z hz => h.keep (Y := []) (Ext.refl w) hc (by simp [hz]) (by simp) (by simp)) x hx
    · exact h.keep (Y := []) (Ext.refl w) hc (by simp [hx]) (by simp) (by simp)
end
section
variable {P : Program} {n : Nat} {W : Wd} {σ τ : Blks} {l : Slots} {X : List Nat} {ops : Array Oper} {rest : List Oper} {Q : Exit → Act → World → Prop} {ix : Plan} {α β xs ys : Blks}
/-- One way to say pieces, and another one. -/
structure Re (xs ys : Blks) : Prop where
  ids : ∃ zs : List Nat, (mids xs).Perm (mids ys ++ zs)
  rd : ∀ y ∈ ys, y.rids = []
  hh : ∀ K w, (∀ x ∈ xs, x.holds K w) → ∀ y ∈ ys, y.holds K w
theorem St.re {a : Act} {w : World} (hr : Re xs ys) (hσ : σ = α ++ (xs ++ β)) (hτ : τ = α ++ (ys ++ β)) (h : St n W σ l a w) : St n W τ l a w := by
  subst hσ hτ
  obtain ⟨zs, hz⟩ := hr.ids
  have h1 := h.mem.regroup hz hr.rd (fun K => hr.hh K w)
  exact h.to h1.1 h1.2
theorem SC.re {c : Code} (α : Blks) {β : Blks} (hr : Re xs ys) (hσ : σ = α ++ (xs ++ β)) (k : SC P c (St n W (α ++ (ys ++ β)) l) Q) : SC P c (St n W σ l) Q := fun a w h => k a w (h.re hr hσ rfl)
theorem SL.re (α : Blks) {β : Blks} (hr : Re xs ys) (hσ : σ = α ++ (xs ++ β)) (k : SL P ops rest (St n W (α ++ (ys ++ β)) l) Q) : SL P ops rest (St n W σ l) Q := fun a w h => k a w (h.re hr hσ rfl)
theorem SX.re (α : Blks) {β : Blks} (hr : Re xs ys) (hσ : σ = α ++ (xs ++ β)) (k : SX P ops ix X (St n W (α ++ (ys ++ β)) l) Q) : SX P ops ix X (St n W σ l) Q := fun a w h => k a w (h.re hr hσ rfl)
theorem SE.re {ex : Exit} (α : Blks) {β : Blks} (hr : Re xs ys) (hσ : σ = α ++ (xs ++ β)) (k : SE ex (St n W (α ++ (ys ++ β)) l) Q) : SE ex (St n W σ l) Q := fun a w h => k a w (h.re hr hσ rfl)
end
theorem Re.refl {xs : Blks} (h : ∀ x ∈ xs, x.rids = []) : Re xs xs := ⟨⟨[], by simp⟩, h, fun _ _ h => h⟩
theorem Re.trans {xs ys zs : Blks} (h : Re xs ys) (k : Re ys zs) : Re xs zs where
  ids := by
    obtain ⟨a, ha⟩ := h.ids
    obtain ⟨b, hb⟩ := k.ids
    exact ⟨b ++ a, ha.trans ((hb.append_right a).trans (by rw [List.append_assoc]))⟩
  rd := k.rd
  hh := fun K w hx => k.hh K w (h.hh K w hx)
/-- With a piece beside. -/
theorem Re.app {xs ys : Blks} (h : Re xs ys) (c : Pc) : Re (xs ++ [.pc c]) (ys ++ [.pc c]) where
  ids := by
    obtain ⟨a, ha⟩ := h.ids
    refine ⟨a, ?_⟩
    rw [mids_append, mids_append, List.append_assoc]
    exact (ha.append_right _).trans (by rw [List.append_assoc]; exact List.Perm.append_left _ List.perm_append_comm)
  rd := fun y hy => by
    rcases List.mem_append.1 hy with hy | hy
    · exact h.rd y hy
    · rw [List.mem_singleton.1 hy]; rfl
  hh := fun K w hx y hy => by
    rcases List.mem_append.1 hy with hy | hy
    · exact h.hh K w (fun x hx2 => hx x (List.mem_append_left _ hx2)) y hy
    · exact hx y (List.mem_append_right _ hy)
/-- One of many, taken out. -/
theorem Re.out {l1 l2 : List Pc} {c : Pc} : Re [.pc (bigP (l1 ++ c :: l2))] [.pc c, .pc (bigP (l1 ++ l2))] where
  ids := ⟨[], by
    simp only [mids, List.flatMap_cons, List.flatMap_nil, It.mids, bigP, List.flatMap_append, List.append_nil]
    exact List.perm_append_comm_assoc _ _ _⟩
  rd := by simp [It.rids]
  hh := fun K w h y hy => by
    have h1 : ∀ d ∈ l1 ++ c :: l2, d.p K w := h _ (List.mem_singleton.2 rfl)
    simp only [List.mem_cons, List.not_mem_nil, or_false] at hy
    rcases hy with rfl | rfl
    · exact h1 c (by simp)
    · intro d hd
      exact h1 d (by
        rcases List.mem_append.1 hd with hd | hd
        · simp [hd]
        · simp [hd])
/-- .. and put back. -/
theorem Re.back {l1 l2 : List Pc} {c : Pc} : Re [.pc c, .pc (bigP (l1 ++ l2))] [.pc (bigP (l1 ++ c :: l2))] where
  ids := ⟨[], by
    simp only [mids, List.flatMap_cons, List.flatMap_nil, It.mids, bigP, List.flatMap_append, List.append_nil]
    exact List.perm_append_comm_assoc _ _ _⟩
  rd := by simp [It.rids]
  hh := fun K w h y hy => by
    have h1 : c.p K w := h (.pc c) (by simp)
    have h2 : ∀ d ∈ l1 ++ l2, d.p K w := h (.pc (bigP (l1 ++ l2))) (by simp)
    rw [List.mem_singleton.1 hy]
    intro d hd
    simp only [List.mem_append, List.mem_cons] at hd
    rcases hd with hd | rfl | hd
    · exact h2 d (by simp [hd])
    · exact h1
    · exact h2 d (by simp [hd])
/-- Some of many are let go; or they stand in another order. -/
theorem Re.part {l l' : List Pc} (h : ∃ z, l.Perm (l' ++ z)) : Re [.pc (bigP l)] [.pc (bigP l')] where
  ids := by
    obtain ⟨z, hz⟩ := h
    refine ⟨z.flatMap Pc.ids, ?_⟩
    simp only [mids, List.flatMap_cons, List.flatMap_nil, It.mids, bigP, List.append_nil]
    rw [← List.flatMap_append]
    exact hz.flatMap_right _
  rd := by simp [It.rids]
  hh := fun K w h1 y hy => by
    obtain ⟨z, hz⟩ := h
    have h2 : ∀ d ∈ l, d.p K w := h1 _ (List.mem_singleton.2 rfl)
    rw [List.mem_singleton.1 hy]
    exact fun d hd => h2 d (hz.mem_iff.2 (List.mem_append_left _ hd))
/-- None, as one. -/
theorem Re.empty : Re [] [.pc (bigP [])] := ⟨⟨[], by simp [mids, It.mids, bigP]⟩, by simp [It.rids], fun K w _ y hy => by
  rw [List.mem_singleton.1 hy]
  intro d hd
  cases hd⟩
theorem Re.blkIn {b : Nat} {t : TypeId} {cs : List Abs} : Re [.blk b t cs] [.pc (blkP b t cs)] := ⟨⟨[], by simp [mids, It.mids, blkP]⟩, by simp [It.rids], fun K w h y hy => by
  rw [List.mem_singleton.1 hy]
  exact h (.blk b t cs) (by simp)⟩
theorem Re.blkOut {b : Nat} {t : TypeId} {cs : List Abs} : Re [.pc (blkP b t cs)] [.blk b t cs] := ⟨⟨[], by simp [mids, It.mids, blkP]⟩, by simp [It.rids], fun K w h y hy => by
  rw [List.mem_singleton.1 hy]
  exact h (.pc (blkP b t cs)) (by simp)⟩
/-- Two blocks and two pieces, as one. -/
theorem Re.fourIn {b b' : Nat} {t t' : TypeId} {cs cs' : List Abs} {c c' : Pc} : Re [.blk b t cs, .blk b' t' cs', .pc c, .pc c'] [.pc (bigP [blkP b t cs, blkP b' t' cs', c, c'])] := ⟨⟨[], by simp [mids, It.mids, bigP, blkP]⟩, by simp [It.rids], fun K w h y hy => by
  rw [List.mem_singleton.1 hy]
  intro d hd
  simp only [List.mem_cons, List.not_mem_nil, or_false] at hd
  rcases hd with rfl | rfl | rfl | rfl
  · exact h (.blk b t cs) (by simp)
  · exact h (.blk b' t' cs') (by simp)
  · exact h (.pc d) (by simp)
  · exact h (.pc d) (by simp)⟩
theorem Re.fourOut {b b' : Nat} {t t' : TypeId} {cs cs' : List Abs} {c c' : Pc} : Re [.pc (bigP [blkP b t cs, blkP b' t' cs', c, c'])] [.blk b t cs, .blk b' t' cs', .pc c, .pc c'] := ⟨⟨[], by simp [mids, It.mids, bigP, blkP]⟩, by simp [It.rids], fun K w h y hy => by
  have h1 : ∀ d ∈ [blkP b t cs, blkP b' t' cs', c, c'], d.p K w := h _ (List.mem_singleton.2 rfl)
  simp only [List.mem_cons, List.not_mem_nil, or_false] at hy
  rcases hy with rfl | rfl | rfl | rfl
  · exact h1 (blkP b t cs) (by simp)
  · exact h1 (blkP b' t' cs') (by simp)
  · exact h1 c (by simp)
  · exact h1 c' (by simp)⟩
theorem Mem.re {w0 w : World} {F G : List Nat} {xs ys : Blks} (hr : Re xs ys) (h : Mem w0 F G xs w) : Mem w0 F G ys w ∧ Carry (mids xs ++ G) w (mids ys ++ G) w := by
  obtain ⟨zs, hz⟩ := hr.ids
  have h1 := Mem.regroup (α := []) (β := []) hz hr.rd (fun K => hr.hh K w) (by simpa using h)
  simpa using h1
/-- A function that knows a part of the pieces alone. -/
theorem Spec.reg {P : Program} {f : FuncId} {args : List Abs} {xs σ0 φ : Blks} {ι : Type} {τ τ0 : ι → Blks} {res : ι → Abs} (hs : Spec P f args xs τ res) (hx : ∀ x ∈ xs, x.rids = []) (h0 : Re σ0 (xs ++ φ)) (h1 : ∀ z, Re (τ z ++ φ) (τ0 z)) : Spec P f args σ0 τ0 res := fun G w vals hm hv => by
  obtain ⟨hm1, hc1⟩ := Mem.re h0 hm
  have hp : Split (xs ++ φ) xs φ := ⟨by rw [mids_append], fun x h => .inl ⟨by simp [h], hx x h⟩, fun x h => by simp [h]⟩
  refine (hs.run hm1 hp (reps_carry hc1 _ _ hv)).mono fun e w' ⟨z, r, he, _, _, hm2, _, hr⟩ => ?_
  obtain ⟨hm3, hc3⟩ := Mem.re (h1 z) hm2
  exact ⟨z, r, he, (h1 z).rd, hm3, rep_carry hc3 _ _ hr⟩
end Go.Proofs.Ytbhjchlflkgjbaa.A
/-
  Sums: what the program's rounds come to, as plain functions on words.
-/
set_option maxRecDepth 100000
set_option linter.unusedSimpArgs false
set_option linter.unusedVariables false
namespace Go.Proofs.Ytbhjchlflkgjbaa.A
open Go.RowKit

abbrev bs (l : List UInt8) : List (List Abs) := l.map fun b => [Abs.v (bc b)]
def rot (x : Wo) (n : Nat) : Wo := x >>> n ||| x <<< (32 - n)
def mixW (x : Wo) (a b c : Nat) : Wo := rot x a ^^^ rot x b ^^^ rot x c
def byW (l : List UInt8) (i : Nat) : Wo := BitVec.ofNat 32 (l.getD i 0).toNat
def wordAt (l : List UInt8) (i : Nat) : Wo := byW l (4 * i + 0) <<< 24 ||| byW l (4 * i + 1) <<< 16 ||| byW l (4 * i + 2) <<< 8 ||| byW l (4 * i + 3)
def nextW (l : List Wo) (z : Nat) : Wo := l.getD z 0 + (rot (l.getD (z + 1) 0) 7 ^^^ rot (l.getD (z + 1) 0) 18 ^^^ l.getD (z + 1) 0 >>> 3) + l.getD (z + 9) 0 + (rot (l.getD (z + 14) 0) 17 ^^^ rot (l.getD (z + 14) 0) 19 ^^^ l.getD (z + 14) 0 >>> 10)
def sched0 (l : List UInt8) (k : Nat) : List Wo := (List.range k).map (wordAt l)
def grow (l : List Wo) : Nat → List Wo
  | 0 => l
  | k + 1 => grow l k ++ [nextW (grow l k) k]
def sched (l : List UInt8) : List Wo := grow (sched0 l 16) 48
def firstL : List Wo := [0x6a09e667#32, 0xbb67ae85#32, 0x3c6ef372#32, 0xa54ff53a#32, 0x510e527f#32, 0x9b05688c#32, 0x1f83d9ab#32, 0x5be0cd19#32]
def roundsL : List Wo := [0x428a2f98#32, 0x71374491#32, 0xb5c0fbcf#32, 0xe9b5dba5#32, 0x3956c25b#32, 0x59f111f1#32, 0x923f82a4#32, 0xab1c5ed5#32, 0xd807aa98#32, 0x12835b01#32, 0x243185be#32, 0x550c7dc3#32, 0x72be5d74#32, 0x80deb1fe#32, 0x9bdc06a7#32, 0xc19bf174#32, 0xe49b69c1#32, 0xefbe4786#32, 0x0fc19dc6#32, 0x240ca1cc#32, 0x2de92c6f#32, 0x4a7484aa#32, 0x5cb0a9dc#32, 0x76f988da#32, 0x983e5152#32, 0xa831c66d#32, 0xb00327c8#32, 0xbf597fc7#32, 0xc6e00bf3#32, 0xd5a79147#32, 0x06ca6351#32, 0x14292967#32, 0x27b70a85#32, 0x2e1b2138#32, 0x4d2c6dfc#32, 0x53380d13#32, 0x650a7354#32, 0x766a0abb#32, 0x81c2c92e#32, 0x92722c85#32, 0xa2bfe8a1#32, 0xa81a664b#32, 0xc24b8b70#32, 0xc76c51a3#32, 0xd192e819#32, 0xd6990624#32, 0xf40e3585#32, 0x106aa070#32, 0x19a4c116#32, 0x1e376c08#32, 0x2748774c#32, 0x34b0bcb5#32, 0x391c0cb3#32, 0x4ed8aa4a#32, 0x5b9cca4f#32, 0x682e6ff3#32, 0x748f82ee#32, 0x78a5636f#32, 0x84c87814#32, 0x8cc70208#32, 0x90befffa#32, 0xa4506ceb#32, 0xbef9a3f7#32, 0xc67178f2#32]
structure R8 where
  (a0 a1 a2 a3 e0 e1 e2 e3 : Wo)
def R8.a (r : R8) : List Wo := [r.a0, r.a1, r.a2, r.a3]
def R8.e (r : R8) : List Wo := [r.e0, r.e1, r.e2, r.e3]
def R8.l (r : R8) : List Wo := [r.a0, r.a1, r.a2, r.a3, r.e0, r.e1, r.e2, r.e3]
def firstR : R8 := ⟨0x6a09e667#32, 0xbb67ae85#32, 0x3c6ef372#32, 0xa54ff53a#32, 0x510e527f#32, 0x9b05688c#32, 0x1f83d9ab#32, 0x5be0cd19#32⟩
def t1W (r : R8) (k w : Wo) : Wo := r.e3 + mixW r.e0 6 11 25 + (r.e2 ^^^ (r.e0 &&& (r.e1 ^^^ r.e2))) + k + w
def t2W (r : R8) : Wo := mixW r.a0 2 13 22 + ((r.a0 &&& r.a1) ^^^ (r.a0 &&& r.a2) ^^^ (r.a1 &&& r.a2))
def rnd (r : R8) (k w : Wo) : R8 := ⟨t1W r k w + t2W r, r.a0, r.a1, r.a2, r.a3 + t1W r k w, r.e0, r.e1, r.e2⟩
def rnds (r : R8) (ws : List Wo) : Nat → R8
  | 0 => r
  | i + 1 => rnd (rnds r ws i) (roundsL.getD i 0) (ws.getD i 0)
def R8.add (r s : R8) : R8 := ⟨r.a0 + s.a0, r.a1 + s.a1, r.a2 + s.a2, r.a3 + s.a3, r.e0 + s.e0, r.e1 + s.e1, r.e2 + s.e2, r.e3 + s.e3⟩
def blockW (r : R8) (l : List UInt8) : R8 := r.add (rnds r (sched l) 64)
def addL (r s : R8) (z : Nat) : List Wo := [if 0 < z then r.a0 + s.a0 else r.a0, if 1 < z then r.a1 + s.a1 else r.a1, if 2 < z then r.a2 + s.a2 else r.a2, if 3 < z then r.a3 + s.a3 else r.a3, if 0 < z then r.e0 + s.e0 else r.e0, if 1 < z then r.e1 + s.e1 else r.e1, if 2 < z then r.e2 + s.e2 else r.e2, if 3 < z then r.e3 + s.e3 else r.e3]
def addM (r s : R8) (z : Nat) : List Wo := (addL r s z).set z ((addL r s z).getD z 0 + s.a.getD z 0)
theorem addL_step (r s : R8) {z : Nat} (h : z < 4) : (addM r s z).set (z + 4) ((addM r s z).getD (z + 4) 0 + s.e.getD z 0) = addL r s (z + 1) := by
  rcases z with _ | _ | _ | _ | z
  · rfl
  · rfl
  · rfl
  · rfl
  · omega
theorem addL_length (r s : R8) (z : Nat) : (addL r s z).length = 8 := rfl
theorem addM_length (r s : R8) (z : Nat) : (addM r s z).length = 8 := by simp [addM, addL]
theorem addL_zero (r s : R8) : addL r s 0 = r.l := rfl
theorem addL_four (r s : R8) : addL r s 4 = (r.add s).l := rfl
theorem sched0_length (l : List UInt8) (k : Nat) : (sched0 l k).length = k := by simp [sched0]
theorem sched0_succ (l : List UInt8) (k : Nat) : sched0 l (k + 1) = sched0 l k ++ [wordAt l k] := by simp [sched0, List.range_succ]
theorem grow_length (l : List Wo) (k : Nat) : (grow l k).length = l.length + k := by
  induction k with
  | zero => rfl
  | succ k ih => simp [grow, ih]; omega
theorem sched_length (l : List UInt8) : (sched l).length = 64 := by simp [sched, grow_length, sched0_length]
theorem lA_length (l : List Wo) : (lA l).length = l.length := by simp [lA]
theorem ones_lA (l : List Wo) : ones (lA l) = true := by
  rw [ones_iff]
  intro a ha
  obtain ⟨p, _, rfl⟩ := List.mem_map.1 ha
  rfl
theorem lA_put' {l m : List Wo} {q : Nat} {p : Wo} (h : q < l.length) (e : l.set q p = m) : putL (lA l) (0 + q * 1) [u32 p] = lA m := by rw [lA_put h, e]
theorem lA_at' {l m : List Wo} {q : Nat} (h : q < l.length) : (lA (l ++ m))[0 + q * 1]? = some (u32 (l.getD q 0)) := by
  rw [lA_at (by rw [List.length_append]; omega)]
  congr 2
  simp [List.getD, List.getElem?_append_left h]
theorem set_next' {l : List Wo} {z m q : Nat} {p : Wo} {l2 : List Wo} (hq : l.length = q) (hm : m = z + 1) (h2 : l2 = l ++ [p]) : (l ++ List.replicate m 0).set q p = l2 ++ List.replicate z 0 := by
  subst hq hm h2
  exact set_next (by omega)
theorem byt_at {l : List UInt8} {z j : Nat} (h : 4 * z + j < l.length) : (((l.drop (4 * z)).map fun b => [Abs.v (bc b)])[j]?) = some [.v (bc (l.getD (4 * z + j) 0))] := by
  rw [List.getElem?_map, List.getElem?_drop, List.getElem?_eq_getElem h]
  simp [List.getD, h]
/-- So many blocks of a text. -/
def blocks (r : R8) (l : List UInt8) : Nat → R8
  | 0 => r
  | k + 1 => blockW (blocks r l k) (l.drop (64 * k))
def padded (l : List UInt8) (n : Nat) : List UInt8 := l ++ [128] ++ List.replicate ((119 - l.length) % 64) 0 ++ beBytes (n * 8) 8
theorem padded_length {l : List UInt8} (h : l.length < 64) (n : Nat) : (padded l n).length = if l.length < 56 then 64 else 128 := by
  simp only [padded, List.length_append, List.length_cons, List.length_nil, List.length_replicate, beBytes_length]
  split <;> omega
def byteAt (ws : List Wo) (q : Nat) : UInt8 := UInt8.ofNat (ws.getD (q / 4) 0 >>> (24 - 8 * (q % 4))).toNat
def outN (ws : List Wo) (j : Nat) : List UInt8 := (List.range j).map (byteAt ws) ++ List.replicate (32 - j) 0
theorem outN_length (ws : List Wo) {j : Nat} (h : j ≤ 32) : (outN ws j).length = 32 := by simp [outN]; omega
theorem outN_set (ws : List Wo) {j : Nat} (h : j < 32) : (outN ws j).set j (byteAt ws j) = outN ws (j + 1) := by
  unfold outN
  obtain ⟨m, hm⟩ : ∃ k, 32 - j = k + 1 := ⟨31 - j, by omega⟩
  rw [hm, show 32 - (j + 1) = m by omega, List.range_succ, List.map_append, List.replicate_succ, List.set_append]
  simp
/-- The sum of what was taken in so far. -/
def finish (r : R8) (rest : List UInt8) (n : Nat) : List UInt8 := outN (blocks r (padded rest n) ((padded rest n).length / 64)).l 32
theorem finish_length (r : R8) (rest : List UInt8) (n : Nat) : (finish r rest n).length = 32 := outN_length _ (by omega)
/-- A sum that is under way. -/
structure Sm where
  (r : R8) (rest : List UInt8) (n : Nat)
def Sm.new : Sm := ⟨firstR, [], 0⟩
def Sm.add (s : Sm) (l : List UInt8) : Sm := ⟨blocks s.r (s.rest ++ l) ((s.rest ++ l).length / 64), (s.rest ++ l).drop (64 * ((s.rest ++ l).length / 64)), s.n + l.length⟩
def Sm.sum (s : Sm) : List UInt8 := finish s.r s.rest s.n
def Sm.Ok (s : Sm) : Prop := s.rest.length < 64
theorem Sm.new_ok : Sm.new.Ok := by simp [Sm.Ok, Sm.new]
theorem Sm.add_ok (s : Sm) (l : List UInt8) : (s.add l).Ok := by
  simp only [Sm.Ok, Sm.add, List.length_drop]
  omega
theorem Sm.sum_length (s : Sm) : s.sum.length = 32 := finish_length _ _ _
/-- What stands for a text of a kind, by keys. -/
def kdigest (k : Nat) (l : List UInt8) : List UInt8 := ((Sm.new.add [UInt8.ofNat k]).add l).sum
theorem bs_ones (l : List UInt8) : ∀ c ∈ bs l, ones c = true := by
  intro c hc
  obtain ⟨b, _, rfl⟩ := List.mem_map.1 hc
  rfl
theorem lA_get {l : List Wo} {q : Nat} (h : q < l.length) : (lA l)[q]? = some (u32 (l.getD q 0)) := by
  simp [lA, List.getD, h]
theorem ones_dig (l : List UInt8) : ones (digA l) = true := by
  rw [ones_iff]
  intro a ha
  obtain ⟨p, _, rfl⟩ := List.mem_map.1 ha
  rfl
theorem digA_put {l m : List UInt8} {q : Nat} {c : UInt8} (h : q < l.length) (e : l.set q c = m) : putL (digA l) (0 + q * 1) [.v (bc c)] = digA m := by
  subst e
  rw [Nat.zero_add, Nat.mul_one, putL_set _ _ _ (by simpa [digA] using h)]
  simp [digA, List.map_set]
theorem byteAt_eq (ws : List Wo) {y x : Nat} (h : x < 4) : UInt8.ofNat (ws.getD y 0 >>> (24 - 8 * x)).toNat = byteAt ws (4 * y + x) := by
  unfold byteAt
  rw [show (4 * y + x) / 4 = y by omega, show (4 * y + x) % 4 = x by omega]
theorem dig_out (ws : List Wo) {j : Nat} (h : j ≤ 32) : (digA (outN ws j)).length = 32 := by simp only [digA, List.length_map, outN_length ws h]
theorem pad_snoc (a : List UInt8) (n : Nat) : bs (a ++ ([128] ++ List.replicate n 0)) ++ [[Abs.v (.int .u8 0)]] = bs (a ++ ([128] ++ List.replicate (n + 1) 0)) := by
  rw [List.replicate_succ']
  simp [bs, bc]
/-- The pieces of a sum that is under way. -/
def hashP (T U h : Nat) (v : Value) (s : Sm) : Blks := [own U 1 v (bs s.rest), .blk h T (lA s.r.l ++ [.v v, .v (.int .i64 (s.n : Nat))])]
theorem part8 (r : R8) (x : List Abs) : part (lA r.l ++ x) 0 8 = lA r.l := rfl
theorem put8 (r s : R8) (x : List Abs) : putL (lA r.l ++ x) 0 (lA s.l) = lA s.l ++ x := rfl
theorem l8 (r : R8) : (lA r.l).length = 8 := rfl
theorem l8x (r : R8) (x : List Abs) : (lA r.l ++ x).length = 8 + x.length := by rw [List.length_append, l8]
theorem bs_drop (l : List UInt8) (q : Nat) : Abs.sl 1 ((bs l).drop q) = byt (l.drop q) := congrArg (Abs.sl 1) List.map_drop.symm
theorem drop64 (l : List UInt8) (z : Nat) : Abs.sl 1 ((bs (l.drop (64 * z))).drop 64) = byt (l.drop (64 * (z + 1))) := by
  rw [bs_drop, List.drop_drop]
  rfl
end Go.Proofs.Ytbhjchlflkgjbaa.A
/-
  Sums: what the document's answer comes to, as plain functions; the same as the program's.
-/
set_option maxRecDepth 100000
set_option linter.unusedSimpArgs false
set_option linter.unusedVariables false
namespace Go.Proofs.Ytbhjchlflkgjbaa.A
open Go.RowKit

def an64 (x y : Nat) : Nat := (x % 18446744073709551616) &&& (y % 18446744073709551616)
def or64 (x y : Nat) : Nat := (x % 18446744073709551616) ||| (y % 18446744073709551616)
section
variable {P : Program} {n : Nat} {W : Wd} {σ τ : Blks} {l : Slots} {X : List Nat} {x y z : Operand} {d : Option Nat} {ty t t' e : TypeId} {pos : String} {aft : Array Edge} {g : Option (Nat × Bool)} {k k' : IntKind} {a b : Int} {p q : Nat} {c : Wo}
theorem wrap64 (v : Int) : IntKind.u64.wrap v = v % 18446744073709551616 := by simp [IntKind.wrap, IntKind.bits, IntKind.signed]
theorem ofInt64 (p : Nat) : BitVec.ofInt IntKind.u64.bits ((p : Nat) : Int) = BitVec.ofNat 64 p := by
  show BitVec.ofInt 64 ((p : Nat) : Int) = _
  rw [BitVec.ofInt_natCast]
theorem Val.an64 (hx : look l x = some (.v (.int .u64 a))) (hy : look l y = some (.v (.int .u64 b))) (p q : Nat) (ha : a = (p : Nat)) (hb : b = (q : Nat)) : Val P n W σ l X ⟨d, .binOp .and t x y t', ty, pos, aft, g⟩ (wrd (an64 p q)) := by
  subst ha hb
  refine Val.bitI hx hy (fun w => ?_) rfl
  simp only [Op.intBits, ofInt64]
  refine congrArg (fun r => Result.ok (Value.int .u64 r) w) ?_
  rw [wrap64]
  have h : (BitVec.ofNat 64 p &&& BitVec.ofNat 64 q).toNat = Proofs.Ytbhjchlflkgjbaa.A.an64 p q := by rw [BitVec.toNat_and, BitVec.toNat_ofNat, BitVec.toNat_ofNat]; rfl
  have h2 := (BitVec.ofNat 64 p &&& BitVec.ofNat 64 q).isLt
  show (((BitVec.ofNat 64 p &&& BitVec.ofNat 64 q).toNat : Nat) : Int) % _ = _
  rw [← h]
  omega
theorem Val.or64 (hx : look l x = some (.v (.int .u64 a))) (hy : look l y = some (.v (.int .u64 b))) (p q : Nat) (ha : a = (p : Nat)) (hb : b = (q : Nat)) : Val P n W σ l X ⟨d, .binOp .or t x y t', ty, pos, aft, g⟩ (wrd (or64 p q)) := by
  subst ha hb
  refine Val.bitI hx hy (fun w => ?_) rfl
  simp only [Op.intBits, ofInt64]
  refine congrArg (fun r => Result.ok (Value.int .u64 r) w) ?_
  rw [wrap64]
  have h : (BitVec.ofNat 64 p ||| BitVec.ofNat 64 q).toNat = Proofs.Ytbhjchlflkgjbaa.A.or64 p q := by rw [BitVec.toNat_or, BitVec.toNat_ofNat, BitVec.toNat_ofNat]; rfl
  have h2 := (BitVec.ofNat 64 p ||| BitVec.ofNat 64 q).isLt
  show (((BitVec.ofNat 64 p ||| BitVec.ofNat 64 q).toNat : Nat) : Int) % _ = _
  rw [← h]
  omega
theorem Val.sum64 (hx : look l x = some (.v (.int .u64 a))) (hy : look l y = some (.v (.int .u64 b))) (p q : Nat) (ha : a = (p : Nat)) (hb : b = (q : Nat)) : Val P n W σ l X ⟨d, .binOp .add t x y t', ty, pos, aft, g⟩ (wrd ((p + q) % 18446744073709551616)) :=
  Val.to (Val.addW hx hy) (congrArg (fun r => Abs.v (.int .u64 r)) (by rw [wrap64]; subst ha hb; show _ = (((p + q) % 18446744073709551616 : Nat) : Int); omega))
theorem Val.mul64 (hx : look l x = some (.v (.int .u64 a))) (hy : look l y = some (.v (.int .u64 b))) (p q : Nat) (ha : a = (p : Nat)) (hb : b = (q : Nat)) : Val P n W σ l X ⟨d, .binOp .mul t x y t', ty, pos, aft, g⟩ (wrd (p * q % 18446744073709551616)) :=
  Val.to (Val.mulW hx hy) (congrArg (fun r => Abs.v (.int .u64 r)) (by rw [wrap64, ha, hb, ← Int.natCast_mul]; show _ = ((p * q % 18446744073709551616 : Nat) : Int); omega))
theorem Val.shr64 (hx : look l x = some (.v (.int .u64 a))) (hy : look l y = some (.v (.int k b))) (p q : Nat) (ha : a = (p : Nat)) (hb : b = (q : Nat)) (hq : q ≤ 64) : Val P n W σ l X ⟨d, .binOp .shr t x y t', ty, pos, aft, g⟩ (wrd (p / 2 ^ q)) :=
  Val.to (Val.shrI hx hy (by omega)) (congrArg (fun r => Abs.v (.int .u64 r)) (by
    subst ha hb
    simp only [IntKind.bits, Int.toNat_natCast]
    rw [Int.fdiv_eq_ediv_of_nonneg _ (by exact Int.le_of_lt (Int.pow_pos (by decide))), Nat.min_eq_left hq]
    simp))
theorem Val.shl64 (hx : look l x = some (.v (.int .u64 a))) (hy : look l y = some (.v (.int k b))) (p q : Nat) (ha : a = (p : Nat)) (hb : b = (q : Nat)) (hq : q ≤ 64) : Val P n W σ l X ⟨d, .binOp .shl t x y t', ty, pos, aft, g⟩ (wrd (p * 2 ^ q % 18446744073709551616)) :=
  Val.to (Val.shlW hx hy (by omega)) (congrArg (fun r => Abs.v (.int .u64 r)) (by
    subst ha hb
    rw [wrap64, show IntKind.u64.bits = 64 from rfl, Int.toNat_natCast, Nat.min_eq_left hq]
    simp))
theorem Val.conv6432 (hx : look l x = some (.v (.int .u64 a))) (ht : P.underlying t' = some (.int .u32)) (hs : (P.underlying t).isSome = true) (p : Nat) (ha : a = (p : Nat)) : Val P n W σ l X ⟨d, .convert t t' x, ty, pos, aft, g⟩ (u32 (BitVec.ofNat 32 p)) :=
  Val.to (Val.convW hx ht hs) (congrArg (fun r => Abs.v (.int .u32 r)) (by
    subst ha
    rw [BitVec.toNat_ofNat]
    simp [IntKind.wrap, IntKind.bits, IntKind.signed]))
theorem Val.notW (hx : look l x = some (u32 c)) : Val P n W σ l X ⟨d, .unOp .xor t x, ty, pos, aft, g⟩ (u32 (~~~c)) :=
  Val.of1 hx fun _ h A w hf _ => by
    have h1 : (Op.intBits .xor .u32 4294967295 ((c.toNat : Nat) : Int)).run P w = .ok (.int .u32 (((~~~c).toNat : Nat) : Int)) w := by
      simp only [Op.intBits, ofInt32]
      have e : (BitVec.ofInt 32 4294967295) ^^^ c = ~~~c := BitVec.allOnes_xor
      show Result.ok (Value.int .u32 (IntKind.u32.wrap (((BitVec.ofInt 32 4294967295 ^^^ c).toNat : Nat) : Int))) w = _
      rw [e, wrap32]
    have h2 : (Op.unary .xor (.int .u32 ((c.toNat : Nat) : Int))).run P w = .ok (.int .u32 (((~~~c).toNat : Nat) : Int)) w := h1
    simp only [execOp, hf.eval h, Sem.run_bind, h2, Result.andThen_ok, Sem.run_pure]
end
/-! ### Constants -/
def mulHi (x y : Nat) : Nat :=
  let w0 := an64 x 4294967295 * an64 y 4294967295 % 18446744073709551616
  let t := (x / 2 ^ 32 * an64 y 4294967295 % 18446744073709551616 + w0 / 2 ^ 32) % 18446744073709551616
  ((x / 2 ^ 32 * (y / 2 ^ 32) % 18446744073709551616 + t / 2 ^ 32) % 18446744073709551616 + (an64 t 4294967295 + an64 x 4294967295 * (y / 2 ^ 32) % 18446744073709551616) % 18446744073709551616 / 2 ^ 32) % 18446744073709551616
def gt2 (hi lo p : Nat) : Bool := Nat.blt p hi || (Nat.beq hi p && Nat.blt 0 lo)
def above (x p : Nat) (cube : Bool) : Bool :=
  match cube with
  | false => gt2 (mulHi x x) (x * x % 18446744073709551616) p
  | true => gt2 ((mulHi x x * x % 18446744073709551616 + mulHi (x * x % 18446744073709551616) x) % 18446744073709551616) (x * x % 18446744073709551616 * x % 18446744073709551616) (p * 2 ^ 32 % 18446744073709551616)
def rootN (p : Nat) (cube : Bool) : Nat → Nat
  | 0 => 0
  | j + 1 => bif Nat.blt (37 - j) 36 && !above (or64 (rootN p cube j) (1 * 2 ^ (37 - j) % 18446744073709551616)) p cube then or64 (rootN p cube j) (1 * 2 ^ (37 - j) % 18446744073709551616) else rootN p cube j
def rootW (p : Nat) (cube : Bool) : Wo := BitVec.ofNat 32 (rootN p cube 38)
def noDiv (p q : Nat) : Bool := !(Nat.ble 2 q && Nat.ble (q * q) p && Nat.beq (p % q) 0)
def primeB (p : Nat) : Bool := Nat.blt 1 p && (List.range p).all (noDiv p)
def primes (p : Nat) : List Nat := (List.range p).filter primeB
def kAt (p : Nat) : List Wo := (primes p).map fun q => rootW q true
def hAt (p : Nat) : List Wo := ((primes p).take 8).map fun q => rootW q false
set_option maxHeartbeats 4000000 in
theorem kAt_all : kAt 312 = roundsL := by decide +kernel
set_option maxHeartbeats 4000000 in
theorem hAt_all : hAt 312 = firstR.l := by decide +kernel
theorem primes_311 : (primes 311).length = 63 := by decide +kernel
theorem primes_312 : (primes 312).length = 64 := by decide +kernel
theorem primes_succ (p : Nat) : primes (p + 1) = if primeB p then primes p ++ [p] else primes p := by
  unfold primes
  rw [List.range_succ, List.filter_append]
  by_cases h : primeB p = true
  · rw [if_pos h]; simp [h]
  · rw [if_neg h]; simp [h]
theorem primes_mono {p q : Nat} (h : p ≤ q) : (primes p).length ≤ (primes q).length := by
  induction q with
  | zero => obtain rfl : p = 0 := by omega
            exact Nat.le_refl _
  | succ q ih =>
    by_cases hq : p = q + 1
    · subst hq; exact Nat.le_refl _
    · have h1 := ih (by omega)
      rw [primes_succ]
      split
      · rw [List.length_append]; omega
      · exact h1
theorem kAt_length (p : Nat) : (kAt p).length = (primes p).length := by simp [kAt]
theorem kAt_succ (p : Nat) : kAt (p + 1) = if primeB p then kAt p ++ [rootW p true] else kAt p := by
  unfold kAt
  rw [primes_succ]
  split <;> simp
theorem hAt_length (p : Nat) : (hAt p).length = min 8 (primes p).length := by simp [hAt]
theorem hAt_succ (p : Nat) : hAt (p + 1) = if primeB p ∧ (hAt p).length < 8 then hAt p ++ [rootW p false] else hAt p := by
  unfold hAt
  rw [primes_succ]
  simp only [List.length_map, List.length_take]
  by_cases h : primeB p = true
  · by_cases h8 : (primes p).length < 8
    · rw [if_pos h, if_pos ⟨h, by omega⟩, List.take_of_length_le (by rw [List.length_append]; simp; omega), List.take_of_length_le (by omega)]
      simp
    · rw [if_pos h, if_neg (by omega), List.take_append_of_le_length (by omega)]
  · rw [if_neg h, if_neg (fun h2 => h h2.1)]
/-! ### Turning -/
theorem rot_bit (x : Wo) {n i : Nat} (hn : n < 32) (hi : i < 32) : (rot x n).getLsbD i = x.getLsbD ((i + n) % 32) := by
  unfold rot
  rw [BitVec.getLsbD_or, BitVec.getLsbD_ushiftRight, BitVec.getLsbD_shiftLeft]
  by_cases h : i + n < 32
  · rw [Nat.mod_eq_of_lt h, Nat.add_comm n i]
    have : i < 32 - n := by omega
    simp [this]
  · have e : (i + n) % 32 = i - (32 - n) := by omega
    rw [e, BitVec.getLsbD_of_ge x (n + i) (by omega)]
    have : ¬ i < 32 - n := by omega
    simp [hi, this]
theorem step_eq (p : Wo) : (p >>> 1 ||| p <<< 31).toNat = p.toNat / 2 + p.toNat % 2 * 2147483648 := by
  have hp := p.isLt
  rw [BitVec.toNat_or, BitVec.toNat_ushiftRight, BitVec.toNat_shiftLeft, Nat.shiftRight_eq_div_pow, Nat.shiftLeft_eq]
  have e : p.toNat * 2 ^ 31 % 2 ^ 32 = 2 ^ 31 * (p.toNat % 2) := by omega
  rw [e, Nat.or_comm, ← Nat.two_pow_add_eq_or_of_lt (by omega)]
  omega
theorem rot_succ (x : Wo) {n : Nat} (hn : n + 1 < 32) : rot x (n + 1) = (rot x n) >>> 1 ||| (rot x n) <<< 31 := by
  apply BitVec.eq_of_getLsbD_eq
  intro i hi
  rw [rot_bit x hn hi, BitVec.getLsbD_or, BitVec.getLsbD_ushiftRight, BitVec.getLsbD_shiftLeft]
  by_cases h : i < 31
  · rw [rot_bit x (by omega) (by omega : 1 + i < 32)]
    simp [h]
    congr 1
    omega
  · obtain rfl : i = 31 := by omega
    rw [BitVec.getLsbD_of_ge _ (1 + 31) (by omega)]
    simp only [Nat.lt_irrefl, decide_false, Bool.not_false, Nat.sub_self, Bool.false_or, Bool.true_and, decide_true, hi]
    rw [rot_bit x (by omega) (by omega : 0 < 32)]
    congr 1
    omega
theorem rot_zero (x : Wo) : rot x 0 = x := by
  apply BitVec.eq_of_getLsbD_eq
  intro i hi
  rw [rot_bit x (by omega) hi, Nat.add_zero, Nat.mod_eq_of_lt hi]
theorem rot_step (x : Wo) {n : Nat} (hn : n + 1 < 32) : (((rot x n).toNat : Nat) : Int) / 2 + (((rot x n).toNat : Nat) : Int) % 2 * 2147483648 = (((rot x (n + 1)).toNat : Nat) : Int) := by
  rw [rot_succ x hn, step_eq]
  omega
/-! ### What is mixed -/
theorem choose_eq (a b c : Wo) : (a &&& b ||| ~~~a &&& c) = c ^^^ (a &&& (b ^^^ c)) := by
  apply BitVec.eq_of_getLsbD_eq
  intro i hi
  simp only [BitVec.getLsbD_or, BitVec.getLsbD_and, BitVec.getLsbD_xor, BitVec.getLsbD_not, hi, decide_true, Bool.true_and]
  cases a.getLsbD i <;> cases b.getLsbD i <;> cases c.getLsbD i <;> rfl
theorem most_eq (a b c : Wo) : (a &&& b ||| a &&& c ||| b &&& c) = (a &&& b) ^^^ (a &&& c) ^^^ (b &&& c) := by
  apply BitVec.eq_of_getLsbD_eq
  intro i hi
  simp only [BitVec.getLsbD_or, BitVec.getLsbD_and, BitVec.getLsbD_xor]
  cases a.getLsbD i <;> cases b.getLsbD i <;> cases c.getLsbD i <;> rfl
/-! ### Rows of words -/
abbrev ws (l : List Wo) : List (List Abs) := l.map fun p => [u32 p]
theorem ws_at {l : List Wo} {q : Nat} (h : q < l.length) : (ws l)[q]? = some [u32 (l.getD q 0)] := by
  simp [List.getD, h]
theorem ws_ones (l : List Wo) : ∀ c ∈ ws l, ones c = true := by
  intro c hc
  obtain ⟨b, _, rfl⟩ := List.mem_map.1 hc
  rfl
theorem ws_snoc (l : List Wo) (p : Wo) : ws l ++ [[u32 p]] = ws (l ++ [p]) := by simp
theorem grow_get (l : List Wo) (k : Nat) : ∀ (m j : Nat), k ≤ m → j < l.length + k → (grow l m).getD j 0 = (grow l k).getD j 0
  | 0, j, h, hj => by
    obtain rfl : k = 0 := by omega
    rfl
  | m + 1, j, h, hj => by
    by_cases hk : k = m + 1
    · subst hk; rfl
    · have h1 := grow_get l k m j (by omega) hj
      rw [← h1]
      show (grow l m ++ [nextW (grow l m) m]).getD j 0 = _
      simp only [List.getD_eq_getElem?_getD]
      rw [List.getElem?_append_left (by rw [grow_length]; omega)]
theorem sched_low (l : List UInt8) {z : Nat} (h : z < 16) : (sched l).getD z 0 = wordAt l z := by
  unfold sched
  rw [grow_get _ 0 48 z (by omega) (by rw [sched0_length]; omega)]
  show (sched0 l 16).getD z 0 = _
  simp [sched0, List.getD, h]
theorem sched_high (l : List UInt8) {z : Nat} (h : z < 48) : (sched l).getD (16 + z) 0 = nextW (sched l) z := by
  have hl := sched0_length l 16
  have e : ∀ j, j < 16 + z → (grow (sched0 l 16) z).getD j 0 = (sched l).getD j 0 := fun j hj => (grow_get (sched0 l 16) z 48 j (by omega) (by omega)).symm
  have h1 := grow_get (sched0 l 16) (z + 1) 48 (16 + z) (by omega) (by omega)
  show (grow (sched0 l 16) 48).getD (16 + z) 0 = _
  rw [h1]
  show (grow (sched0 l 16) z ++ [nextW (grow (sched0 l 16) z) z]).getD (16 + z) 0 = _
  rw [List.getD_eq_getElem?_getD, List.getElem?_append_right (by rw [grow_length]; omega), grow_length, hl, Nat.sub_self]
  show nextW (grow (sched0 l 16) z) z = _
  unfold nextW
  rw [e z (by omega), e (z + 1) (by omega), e (z + 9) (by omega), e (z + 14) (by omega)]
/-- A word out of four bytes. -/
theorem word_be (a b c d : UInt8) : BitVec.ofNat 32 (((a.toNat * 256 + b.toNat) * 256 + c.toNat) * 256 + d.toNat) = (BitVec.ofNat 32 a.toNat <<< 24 ||| BitVec.ofNat 32 b.toNat <<< 16 ||| BitVec.ofNat 32 c.toNat <<< 8 ||| BitVec.ofNat 32 d.toNat : Wo) := by
  have ha := a.toNat_lt
  have hb := b.toNat_lt
  have hc := c.toNat_lt
  have hd := d.toNat_lt
  apply BitVec.eq_of_toNat_eq
  simp only [BitVec.toNat_or, BitVec.toNat_shiftLeft, BitVec.toNat_ofNat, Nat.shiftLeft_eq]
  rw [show a.toNat % 2 ^ 32 * 2 ^ 24 % 2 ^ 32 = 2 ^ 24 * a.toNat by omega, show b.toNat % 2 ^ 32 * 2 ^ 16 % 2 ^ 32 = 2 ^ 16 * b.toNat by omega, show c.toNat % 2 ^ 32 * 2 ^ 8 % 2 ^ 32 = 2 ^ 8 * c.toNat by omega, show d.toNat % 2 ^ 32 = d.toNat by omega]
  rw [← Nat.two_pow_add_eq_or_of_lt (by omega : 2 ^ 16 * b.toNat < 2 ^ 24)]
  rw [show 2 ^ 24 * a.toNat + 2 ^ 16 * b.toNat = 2 ^ 16 * (256 * a.toNat + b.toNat) by omega, ← Nat.two_pow_add_eq_or_of_lt (by omega : 2 ^ 8 * c.toNat < 2 ^ 16)]
  rw [show 2 ^ 16 * (256 * a.toNat + b.toNat) + 2 ^ 8 * c.toNat = 2 ^ 8 * (256 * (256 * a.toNat + b.toNat) + c.toNat) by omega, ← Nat.two_pow_add_eq_or_of_lt (by omega : d.toNat < 2 ^ 8)]
  omega
end Go.Proofs.Ytbhjchlflkgjbaa.A
/-
  The second engine: slices of arrays in blocks; bytes mixed.
-/
set_option maxRecDepth 100000
set_option linter.unusedSimpArgs false
set_option linter.unusedVariables false
namespace Go.Proofs.Ytbhjchlflkgjbaa.A
open Go.RowKit
section
variable {P : Program} {n : Nat} {W : Wd} {σ τ : Blks} {l : Slots} {X : List Nat} {x y z : Operand} {d : Option Nat} {ty t t' e : TypeId} {pos : String} {aft : Array Edge} {g : Option (Nat × Bool)} {A : Abs} {tab : List (Nat × TI)} {ops : Array Oper} {Q : Exit → Act → World → Prop} {k : IntKind}
/-- An element's address in a slice of a block. -/
theorem Val.indexBs (hT : TabOk P tab) {j : TI} {b off m c q : Nat} {r : Int} (hu : P.underlying t = some (.slice e)) (hj : ti tab e = some j) (hx : look l x = some (.v (.slice (some ⟨b, off, none⟩) m c))) (hy : look l y = some (.v (.int k r))) (hr : r = (q : Nat)) (hq : q < m) :
    Val P n W σ l X ⟨d, .indexAddr t x y, ty, pos, aft, g⟩ (.v (.pointer (some ⟨b, off + q * j.size, none⟩))) := Val.mk' fun a w hs hX => by
  subst hr
  exact ⟨_, rfl, fun w' _ => Proofs.Ytbhjchlflkgjbaa.Val.indexSlN hT hu hj (by rw [hs.at2 hx, hs.plain hx]) (by rw [hs.at2 hy, hs.plain hy]) hq⟩
theorem ofInt8 (c : UInt8) : BitVec.ofInt IntKind.u8.bits ((c.toNat : Nat) : Int) = c.toBitVec := by
  show BitVec.ofInt 8 ((c.toBitVec.toNat : Nat) : Int) = _
  rw [BitVec.ofInt_natCast, BitVec.ofNat_toNat, BitVec.setWidth_eq]
theorem wrap8 (p : BitVec 8) : IntKind.u8.wrap (p.toNat : Nat) = (p.toNat : Nat) := by
  have := p.isLt
  simp only [IntKind.wrap, IntKind.bits, IntKind.signed]
  simp
  omega
theorem Val.xor8 {c f : UInt8} (hx : look l x = some (.v (bc c))) (hy : look l y = some (.v (bc f))) : Val P n W σ l X ⟨d, .binOp .xor t x y t', ty, pos, aft, g⟩ (.v (bc (c ^^^ f))) :=
  Val.bitI hx hy (fun w => by
    simp only [Op.intBits, ofInt8]
    exact congrArg (fun r => Result.ok (Value.int .u8 r) w) (wrap8 (c.toBitVec ^^^ f.toBitVec))) rfl
theorem Val.or8 {c f : UInt8} (hx : look l x = some (.v (bc c))) (hy : look l y = some (.v (bc f))) : Val P n W σ l X ⟨d, .binOp .or t x y t', ty, pos, aft, g⟩ (.v (bc (c ||| f))) :=
  Val.bitI hx hy (fun w => by
    simp only [Op.intBits, ofInt8]
    exact congrArg (fun r => Result.ok (Value.int .u8 r) w) (wrap8 (c.toBitVec ||| f.toBitVec))) rfl
/-- 's[p:q]' -/
theorem Val.sliceMid (hT : TabOk P tab) {i : TI} {k' : IntKind} {p q s : Nat} {a b : Int} {xs : List (List Abs)} (hu : P.underlying t = some (.slice e)) (hi : ti tab e = some i) (hsz : Nat.beq s i.size = true) (hx : look l x = some (.sl s xs)) (hy : look l y = some (.v (.int k a))) (hz : look l z = some (.v (.int k' b))) (ha : a = (p : Nat)) (hb : b = (q : Nat)) (hpq : p ≤ q) (hq : q ≤ xs.length) :
    Val P n W σ l X ⟨d, .slice t x (some y) (some z) none, ty, pos, aft, g⟩ (.sl s ((xs.drop p).take (q - p))) := fun ac w hs _ => by
  subst ha hb
  have hsz := Nat.eq_of_beq_eq_true hsz
  subst hsz
  obtain ⟨us, h1, h2⟩ := hs.eval hx
  obtain ⟨A', c, hsh, h3, h4, h5⟩ := h1.shape
  rw [hsh] at h1
  have h6 := IsRow.tailN h1 (show p ≤ xs.length by omega) (repss_length h2)
  have h8 := IsRow.headN (s := i.size) h6 (show q - p ≤ xs.length - p by omega) (c - p) (by omega) (Nat.le_refl _) (fun hA => by
    split at hA
    · omega
    · cases A' with
      | none => have := h5 rfl; omega
      | some a => simp at hA)
  have h9 := (repss_drop h2 p (by omega)).1
  refine ⟨.slice (if c = p then A' else A'.map (·.add (p * i.size))) (q - p) (c - p), ⟨_, by rw [List.length_take, List.length_drop, Nat.min_eq_left (by omega)]; exact h8, (repss_drop h9 (q - p) (by rw [List.length_drop]; omega)).2⟩, fun w' _ => ?_⟩
  have h7 := (hT _ _ hi).sizeOf (w := w')
  have hqc : q ≤ c := by omega
  have hpc : p ≤ c := by omega
  simp [execOp, Instr.sliceAt, Instr.slice, Instr.sliceBounds, Instr.sliceBound, asIntOf, hsh, hs.plain hy, hs.plain hz, run_underlying hu, Sem.run_bind, Result.andThen, h7, hqc, hpc, hpq]
end
/-! ### Rows of words -/
theorem ws_length (l : List Wo) : (ws l).length = l.length := List.length_map _
theorem ws_take_at {l : List Wo} {q z : Nat} (h : q < z) (hz : z ≤ l.length) : (ws (l.take z))[q]? = some [u32 (l.getD q 0)] := by
  rw [ws_at (by rw [List.length_take]; omega)]
  simp [List.getD, List.getElem?_take_of_lt h]
theorem ws_take_snoc {l : List Wo} {z : Nat} {p : Wo} (h : z < l.length) (hp : l.getD z 0 = p) : ws (l.take z) ++ [[u32 p]] = ws (l.take (z + 1)) := by
  rw [ws_snoc, ← hp, List.take_add_one, List.getElem?_eq_getElem h]
  simp [List.getD, h]
theorem add_getD (r s : R8) {y : Nat} (h : y < 8) : r.l.getD y 0 + s.l.getD y 0 = (r.add s).l.getD y 0 := by
  rcases y with _ | _ | _ | _ | _ | _ | _ | _ | y
  · rfl
  · rfl
  · rfl
  · rfl
  · rfl
  · rfl
  · rfl
  · rfl
  · omega
/-- A word's four bytes. -/
def be4 (p : Wo) : List UInt8 := beBytes p.toNat 4
def be32 (l : List Wo) : List UInt8 := l.flatMap be4
theorem be32_snoc (l : List Wo) (p : Wo) : be32 l ++ be4 p = be32 (l ++ [p]) := by simp [be32]
theorem be4_length (p : Wo) : (be4 p).length = 4 := beBytes_length _ _
theorem be32_length (l : List Wo) : (be32 l).length = 4 * l.length := by
  induction l with
  | nil => rfl
  | cons p l ih =>
    show (be4 p ++ be32 l).length = _
    rw [List.length_append, be4_length, ih, List.length_cons]
    omega
theorem be4_get (p : Wo) {j : Nat} (h : j < 4) : (be4 p)[j]? = some (UInt8.ofNat (p >>> (24 - 8 * j)).toNat) := by
  unfold be4
  rw [beBytes_getElem _ _ _ h, BitVec.toNat_ushiftRight, Nat.shiftRight_eq_div_pow]
  congr 3
  rcases j with _ | _ | _ | _ | j
  · rfl
  · rfl
  · rfl
  · rfl
  · omega
theorem be32_get : ∀ (l : List Wo) {q j : Nat}, q < l.length → j < 4 → (be32 l)[4 * q + j]? = some (UInt8.ofNat (l.getD q 0 >>> (24 - 8 * j)).toNat)
  | [], q, j, h, _ => by simp at h
  | p :: l, 0, j, _, hj => by
    show (be4 p ++ be32 l)[4 * 0 + j]? = _
    rw [Nat.mul_zero, Nat.zero_add, List.getElem?_append_left (by rw [be4_length]; exact hj), be4_get p hj]
    rfl
  | p :: l, q + 1, j, h, hj => by
    show (be4 p ++ be32 l)[4 * (q + 1) + j]? = _
    rw [List.getElem?_append_right (by rw [be4_length]; omega), be4_length, show 4 * (q + 1) + j - 4 = 4 * q + j by omega, be32_get l (by simpa using h) hj]
    rfl
theorem be32_at {l : List Wo} {y : Nat} (h : y < 4 * l.length) : (be32 l)[y]? = some (byteAt l y) := by
  have := be32_get l (q := y / 4) (j := y % 4) (by omega) (by omega)
  rw [show 4 * (y / 4) + y % 4 = y by omega] at this
  exact this
theorem be32_take {l : List Wo} {z : Nat} (h : z < l.length) : be32 (l.take z) ++ be4 (l.getD z 0) = be32 (l.take (z + 1)) := by
  rw [be32_snoc, List.take_add_one, List.getElem?_eq_getElem h]
  simp [List.getD, h]
/-- Four bytes as a word. -/
theorem word_four {l : List UInt8} {z : Nat} (h : 4 * z + 4 ≤ l.length) : BitVec.ofNat 32 (beVal ((l.drop (4 * z)).take 4)) = wordAt l z := by
  have e : (l.drop (4 * z)).take 4 = [l.getD (4 * z + 0) 0, l.getD (4 * z + 1) 0, l.getD (4 * z + 2) 0, l.getD (4 * z + 3) 0] := by
    apply List.ext_getElem?
    intro j
    by_cases hj : j < 4
    · rw [List.getElem?_take_of_lt hj, List.getElem?_drop, List.getElem?_eq_getElem (by omega)]
      rcases j with _ | _ | _ | _ | j
      · simp [List.getD, show 4 * z < l.length by omega]
      · simp [List.getD, show 4 * z + 1 < l.length by omega]
      · simp [List.getD, show 4 * z + 2 < l.length by omega]
      · simp [List.getD, show 4 * z + 3 < l.length by omega]
      · omega
    · rw [List.getElem?_eq_none (by rw [List.length_take]; omega), List.getElem?_eq_none (by simp; omega)]
  rw [e]
  show BitVec.ofNat 32 ((((0 * 256 + (l.getD (4 * z + 0) 0).toNat) * 256 + (l.getD (4 * z + 1) 0).toNat) * 256 + (l.getD (4 * z + 2) 0).toNat) * 256 + (l.getD (4 * z + 3) 0).toNat) = _
  rw [Nat.zero_mul, Nat.zero_add, word_be]
  rfl
end Go.Proofs.Ytbhjchlflkgjbaa.A
/-
  The second engine: rows of the call's own, cut; 'clear'.
-/
set_option maxRecDepth 100000
set_option linter.unusedSimpArgs false
set_option linter.unusedVariables false
namespace Go.Proofs.Ytbhjchlflkgjbaa.A
open Go.RowKit

/-- The first q elements of a row. -/
def cutTo : Value → Nat → Value
  | .slice a _ c, q => .slice a q c
  | v, _ => v
/-- The elements from q on, of one cell each. -/
def cutFrom : Value → Nat → Value
  | .slice (some ⟨b, off, _⟩) n c, q => .slice (some ⟨b, off + q, none⟩) (n - q) (c - q)
  | v, _ => v
theorem cutTo_block (v : Value) (q : Nat) : (cutTo v q).ownBlock = v.ownBlock := by
  unfold cutTo
  split
  · next a n c => cases a <;> rfl
  · rfl
section
variable {P : Program} {n : Nat} {W : Wd} {σ τ : Blks} {l : Slots} {X : List Nat} {x y z : Operand} {d : Option Nat} {ty t e e' : TypeId} {pos : String} {aft : Array Edge} {g : Option (Nat × Bool)} {v u : Value} {k : IntKind} {tab : List (Nat × TI)} {xs ys : List (List Abs)} {s q : Nat} {ops : Array Oper} {rest : List Oper} {Q : Exit → Act → World → Prop}
/-- 's[q:]' of a row of one's own. -/
theorem Val.sliceOwnLo (hT : TabOk P tab) {j : TI} (hu : P.underlying t = some (.slice e)) (hj : ti tab e = some j) (h1 : Nat.beq j.size 1 = true) (hx : look l x = some (.v v)) (hb : isOwn σ e' 1 v xs) {r : Int} (hy : look l y = some (.v (.int k r))) (hr : r = (q : Nat)) (hq : q < xs.length) :
    Val P n W σ l X ⟨d, .slice t x (some y) none none, ty, pos, aft, g⟩ (.v (cutFrom v q)) := fun a w hs _ => by
  subst hr
  have h1 := Nat.eq_of_beq_eq_true h1
  obtain ⟨us, hr1, hr2⟩ := hs.mem.ownR hb
  obtain ⟨b, off, c, hv, _⟩ := own_at hr1 hr2 (by omega) (List.getElem?_eq_getElem hq)
  obtain ⟨A', c', hsh, h3, _⟩ := hr1.shape
  have hc : c = c' := by
    have := hv.symm.trans hsh
    injection this
  subst hc
  refine ⟨_, rfl, fun w' _ => ?_⟩
  have h7 := (hT _ _ hj).sizeOf (w := w')
  have e1 : a.eval x = .slice (some ⟨b, off, none⟩) xs.length c := (hs.plain hx).trans hv
  have e2 : a.eval y = .int k ((q : Nat) : Int) := hs.plain hy
  rw [hv]
  have hne : ¬ c = q := by omega
  simp [execOp, Instr.sliceAt, Instr.slice, Instr.sliceBounds, Instr.sliceBound, asIntOf, e1, e2, run_underlying hu, Sem.run_bind, Result.andThen, h7, h1, hne, Nat.le_of_lt hq, Addr.add, cutFrom]
/-- 's[:q]' of a row of one's own. -/
theorem Val.sliceOwnHi (hT : TabOk P tab) {j : TI} (hu : P.underlying t = some (.slice e)) (hj : ti tab e = some j) (hx : look l x = some (.v v)) (hb : isOwn σ e' s v xs) {r : Int} (hy : look l y = some (.v (.int k r))) (hr : r = (q : Nat)) (hq : q ≤ xs.length) :
    Val P n W σ l X ⟨d, .slice t x none (some y) none, ty, pos, aft, g⟩ (.v (cutTo v q)) := fun a w hs _ => by
  subst hr
  obtain ⟨us, hr1, hr2⟩ := hs.mem.ownR hb
  obtain ⟨A', c, hsh, h3, _⟩ := hr1.shape
  refine ⟨_, rfl, fun w' _ => ?_⟩
  have h7 := (hT _ _ hj).sizeOf (w := w')
  have e1 : a.eval x = .slice A' xs.length c := (hs.plain hx).trans hsh
  have e2 : a.eval y = .int k ((q : Nat) : Int) := hs.plain hy
  rw [hsh]
  have hqc : q ≤ c := by omega
  simp [execOp, Instr.sliceAt, Instr.slice, Instr.sliceBounds, Instr.sliceBound, asIntOf, e1, e2, run_underlying hu, Sem.run_bind, Result.andThen, h7, hqc, Addr.add, cutTo]
  try (cases A' <;> simp)
/-- A row of the call's own, cut: the rest is let go. -/
theorem St.cutOwn {a : Act} {w : World} (h : St n W σ l a w) (hu : Upd (own e s v xs) (own e s (cutTo v q) (xs.take q)) σ τ) (hq : q ≤ xs.length) : St n W τ l a w := by
  obtain ⟨us, hown, hr⟩ : (ownPc e s v xs).p _ w := h.mem.hold _ hu.mem
  have hm := h.mem.upd hu (Ext.refl w) own_nodup (fun k hk => .inl (by simpa [It.mids, ownPc, cutTo_block] using hk)) rfl fun hc => by
    refine ⟨us.take (q * s), ⟨?_, ?_⟩, repss_carry hc s _ _ (repss_drop hr q hq).2⟩
    · rw [List.length_take, List.length_take, hown.1, Nat.min_eq_left hq, Nat.min_eq_left (Nat.mul_le_mul_right _ hq)]
    · rcases hown.2 with ⟨rfl, h0⟩ | ⟨gb, cap, cur, rfl, hbase, hg, hn, hcap, hsz, htk⟩
      · refine .inl ⟨?_, ?_⟩
        · have : q = 0 := by omega
          rw [this]; rfl
        · rw [List.length_take]; omega
      · refine .inr ⟨gb, cap, cur, ?_, hbase, hg, by rw [List.length_take]; omega, hcap, hsz, ?_⟩
        · rw [List.length_take, Nat.min_eq_left hq]; rfl
        · rw [List.length_take, Nat.min_eq_left hq, ← htk, List.take_take, Nat.min_eq_left (Nat.mul_le_mul_right _ hq)]
  exact h.to hm.1 hm.2
theorem SL.cutOwn (hy : xs.take q = ys) (hu : Upd (own e s v xs) (own e s (cutTo v q) ys) σ τ) (hq : q ≤ xs.length) (k : SL P ops rest (St n W τ l) Q) : SL P ops rest (St n W σ l) Q := by subst hy; exact fun a w h => k a w (h.cutOwn hu hq)
theorem repss_rep {K : List Nat} {w : World} {z : Value} : ∀ m : Nat, repss K w 1 (List.replicate m [.v z]) (List.replicate m z)
  | 0 => rfl
  | m + 1 => ⟨[z], List.replicate m z, rfl, rfl, ⟨z, [], rfl, rfl, rfl⟩, repss_rep m⟩
/-- 'clear(s[q:])'. -/
theorem Eff.clearOwn {z : Value} (hu : P.underlying t = some (.slice e')) (hz : ∀ w, (zeroValue e').run P w = .ok z w) (hc : z.cells = #[z]) (h1 : z.oneCell' = true) (hx : look l x = some (.v (cutFrom v q))) (hq : q < xs.length) (hup : Upd (own e 1 v xs) (own e 1 v (xs.take q ++ List.replicate (xs.length - q) [.v z])) σ τ) :
    Eff P n W σ l v.ownBlock.toList ⟨d, .call { callee := .builtin .clear, args := #[x], argTypes := #[t] }, ty, pos, aft, g⟩ fun u τ' => u = .tup [] ∧ τ' = τ := fun ac w hst => by
  obtain ⟨us, hown, hr⟩ : (ownPc e 1 v xs).p _ w := hst.mem.hold _ hup.mem
  have hul := hown.1
  rw [Nat.mul_one] at hul
  rcases hown.2 with ⟨h, h0⟩ | ⟨gb, cap, cur, hv, hbase, hg, hn, hcap, hsz, htk⟩
  · omega
  · subst hv
    rw [Nat.mul_one] at hsz htk
    have hrun := run_storeCells_at (P := P) gb (0 + q) e (List.replicate (xs.length - q) z) 0 cur w hg (by rw [List.length_replicate]; omega) (fun v hv => by rw [List.eq_of_mem_replicate hv]; exact h1)
    have e0 : 0 + q + 0 = q := by omega
    rw [e0, List.length_replicate] at hrun
    have hcl : cur.toList.length = cur.size := by simp
    have hxx : Ext (Value.ownBlock (.slice (some ⟨gb, 0, none⟩) xs.length cap)).toList w (w.setRow gb (cur.toList.take q ++ List.replicate (xs.length - q) z ++ cur.toList.drop (q + (xs.length - q))).toArray) := (Ext.refl w).setRow (.inl (by simp [Value.ownBlock])) _
    have hnew : (cur.toList.take q ++ List.replicate (xs.length - q) z ++ cur.toList.drop (q + (xs.length - q))).take xs.length = us.take q ++ List.replicate (xs.length - q) z := by
      rw [← htk]
      apply List.ext_getElem?
      intro j
      simp only [List.getElem?_take, List.getElem?_append, List.length_append, List.length_take, List.getElem?_drop, List.length_replicate, List.getElem?_replicate]
      grind
    have hlen : (xs.take q ++ List.replicate (xs.length - q) [Abs.v z]).length = xs.length := by simp; omega
    have hm := hst.mem.upd hup hxx own_nodup (fun k hk => .inl hk) rfl fun hca => ⟨us.take q ++ List.replicate (xs.length - q) z, ⟨?_, .inr ⟨gb, cap, _, by rw [hlen], hbase, setRow_heap w gb cur _ e (0, 0) hg, by rw [hlen]; exact hn, hcap, ?_, ?_⟩⟩, repss_append (repss_carry hca 1 _ _ (by simpa using (repss_drop hr q (by omega)).2)) (repss_rep _)⟩
    · refine ⟨.tuple #[], _, _, _, ⟨rfl, rfl⟩, hxx, ⟨[], rfl, rfl⟩, hm.1, hm.2, .inl ?_⟩
      have hx2 : ac.eval x = .slice (some ⟨gb, 0 + q, none⟩) (xs.length - q) (cap - q) := hst.plain hx
      have hzc : (Builtin.zeroCells z.cells (xs.length - q)).toList = List.replicate (xs.length - q) z := by
        rw [hc]
        simp [Builtin.zeroCells]
        apply List.ext_getElem
        · simp
        · intro i h1 h2
          simp [Nat.mod_one]
      have hcl : (Builtin.clear_ #[t] ty #[.slice (some ⟨gb, 0 + q, none⟩) (xs.length - q) (cap - q)]).run P w = .ok (.tuple #[]) (w.setRow gb (cur.toList.take q ++ List.replicate (xs.length - q) z ++ cur.toList.drop (q + (xs.length - q))).toArray) := by
        obtain ⟨m, hm⟩ : ∃ m, xs.length - q = m + 1 := ⟨xs.length - q - 1, by omega⟩
        rw [hm] at hzc hrun ⊢
        simp [Builtin.clear_, run_underlying hu, hz, hzc, hrun, Sem.run_bind, Result.andThen]
        try simp_all
      rw [Nat.zero_add] at hx2 hcl
      rw [List.append_assoc] at hcl ⊢
      simp [execOp, resolve, invoke, builtin, hx2, hcl, Result.andThen]
    · simp only [List.length_append, List.length_take, List.length_replicate]
      omega
    · simp only [List.size_toArray, List.length_append, List.length_take, List.length_drop, List.length_replicate]
      omega
    · rw [hlen, Nat.mul_one]
      simpa using hnew
end
/-- Pieces that are read alone. -/
def RdAll (σ : Blks) : Prop := ∀ x ∈ σ, (∃ b t cs, x = .rd b t cs) ∨ ∃ c, x = .rdpc c
theorem RdAll.reads {σ τ : Blks} (h : RdAll τ) (hs : ∀ x ∈ τ, x ∈ σ) : Reads σ τ := by
  induction τ with
  | nil => exact .nil
  | cons x τ ih =>
    have h1 := ih (fun y hy => h y (List.mem_cons_of_mem _ hy)) (fun y hy => hs y (List.mem_cons_of_mem _ hy))
    have hx := hs x List.mem_cons_self
    rcases h x List.mem_cons_self with ⟨b, t, cs, rfl⟩ | ⟨c, rfl⟩
    · exact .rd hx h1
    · exact .rdpc hx h1
/-- A call that changes the first piece, and reads others. -/
theorem After.headR {ι : Type} {u : It} {β σ1 τ : Blks} {τ' : ι → Blks} {uy : ι → It} {K : Blks → ι → Prop} (h1 : σ1 = u :: τ) (hu : u.rids = []) (h : Reads β τ) (hτ : ∀ z, τ' z = [uy z]) (k : ∀ z, K (uy z :: β) z) : After (u :: β) σ1 τ' K := by
  subst h1
  obtain ⟨ys, h2, rfl⟩ := h.ys
  exact ⟨β, Split.one (α := []) hu h2, fun z => ⟨_, by rw [hτ z]; exact List.Perm.refl _, k z⟩⟩
end Go.Proofs.Ytbhjchlflkgjbaa.A
/-
  The second engine: regions that draw and make memory of their own.
-/
set_option maxRecDepth 100000
set_option linter.unusedSimpArgs false
set_option linter.unusedVariables false
namespace Go.Proofs.Ytbhjchlflkgjbaa.A
open Go.RowKit

section
variable {P : Program} {n : Nat} {W : Wd} {σ σ0 : Blks} {l : Slots} {X0 : List Nat} {ops : Array Oper} {Q : Exit → Act → World → Prop} {ix : Plan} {o : Oper}
/-- The pieces that the region has made stand ahead: what follows may change them. -/
theorem SX.effN (ν : Blks) (X0 : List Nat) {i : Nat} {Y : List Nat} {R : Abs → Blks → Prop} (hi : ops[i]? = some o) (hv : Eff P n W σ l Y o R) (hσ : σ = ν ++ σ0) (hY : ∀ k ∈ Y, k ∈ mids ν ++ X0) (hg : gd ops l o = some true) (hd : lt? o.dst n = true)
    (k : ∀ y τ, R y τ → ∃ ν' : Blks, τ = ν' ++ σ0 ∧ SX P ops ix (mids ν' ++ X0) (St n W τ (put? l o.dst y)) Q) : SX P ops (.e i ix) (mids ν ++ X0) (St n W σ l) Q := fun a w hs => by
  unfold planW wpOp
  simp only [hi, hs.wanted hg, if_true]
  refine .inl ?_
  unfold Oper.wp
  obtain ⟨v, w', y, τ, hR, hx, hr, hm, hc, hrun⟩ := hv a w hs
  obtain ⟨ν', hτ, hk⟩ := k y τ hR
  have hnew : ∀ k ∈ mids ν' ++ X0, k ∈ mids ν ++ X0 ∨ w.heap.size ≤ k := fun k hk => by
    rcases List.mem_append.1 hk with hk | hk
    · have hkt : k ∈ mids τ := by rw [hτ, mids_append]; exact List.mem_append_left _ hk
      rcases Nat.lt_or_ge k w.heap.size with h1 | h1
      · have h2 : k ∈ mids σ ++ W.G := Classical.byContradiction fun hn => hc.out k hn h1 (List.mem_append_left _ hkt)
        rcases List.mem_append.1 h2 with h2 | h2
        · rw [hσ, mids_append] at h2
          rcases List.mem_append.1 h2 with h2 | h2
          · exact .inl (List.mem_append_left _ h2)
          · have hnd := hm.nodup
            rw [hτ, mids_append, List.nodup_append] at hnd
            exact absurd rfl (hnd.2.2 k hk k h2)
        · exact absurd h2 (hm.sep k hkt)
      · exact .inr h1
    · exact .inl (List.mem_append_right _ hk)
  have hinv : ∀ w2, Ext (mids ν' ++ X0) w' w2 → Ext (mids ν ++ X0) w w2 := fun w2 h2 => (hx.mono (fun k hk => .inl (hY k hk))).trans h2 hnew
  rcases hrun with hrun | ⟨rfl, hrun⟩
  · rw [hrun]; exact ⟨fun w2 => Ext (mids ν' ++ X0) w' w2, hinv, Ext.refl w', hk _ _ ((hs.to hm hc).put hd hr)⟩
  · rw [hrun]; exact ⟨fun w2 => Ext (mids ν' ++ X0) w' w2, hinv, Ext.refl w', hk _ _ ((hs.to hm hc).put hd hr)⟩
theorem mids_head {ν : Blks} : ∀ k ∈ mids ν ++ [], k ∈ mids (ν ++ σ0) := fun k hk => by
  rw [List.append_nil] at hk
  rw [mids_append]
  exact List.mem_append_left _ hk
theorem own_mid {e : TypeId} {s : Nat} {v : Value} {xs : List (List Abs)} {ν : Blks} (h : own e s v xs ∈ ν) : ∀ k ∈ v.ownBlock.toList, k ∈ mids ν ++ [] := fun k hk => by
  rw [List.append_nil]
  exact mids_mem.2 ⟨_, h, hk⟩
end
/-- A block's cells said otherwise. -/
theorem Re.cast {b : Nat} {t : TypeId} {cs ds : List Abs} (h : Casts cs ds) : Re [.blk b t cs] [.blk b t ds] := ⟨⟨[], by simp [mids, It.mids]⟩, by simp [It.rids], fun K w hx y hy => by
  rw [List.mem_singleton.1 hy]
  obtain ⟨us, h1, h2⟩ := hx (.blk b t cs) (by simp)
  exact ⟨us, h1, h K w us h2⟩⟩
theorem Re.cons {xs ys : Blks} {x : It} (hx : x.rids = []) (h : Re xs ys) : Re (x :: xs) (x :: ys) where
  ids := by
    obtain ⟨a, ha⟩ := h.ids
    refine ⟨a, ?_⟩
    rw [mids_cons, mids_cons, List.append_assoc]
    exact List.Perm.append_left _ ha
  rd := fun y hy => by
    rcases List.mem_cons.1 hy with rfl | hy
    · exact hx
    · exact h.rd y hy
  hh := fun K w hk y hy => by
    rcases List.mem_cons.1 hy with rfl | hy
    · exact hk _ List.mem_cons_self
    · exact h.hh K w (fun z hz => hk z (List.mem_cons_of_mem _ hz)) y hy
theorem Re.perm {xs ys : Blks} (h : xs.Perm ys) (hr : ∀ x ∈ xs, x.rids = []) : Re xs ys := ⟨⟨[], by rw [List.append_nil]; exact mids_perm h⟩, fun y hy => hr y (h.mem_iff.2 hy), fun K w hx y hy => hx y (h.mem_iff.2 hy)⟩
end Go.Proofs.Ytbhjchlflkgjbaa.A
/-
  The second engine: what slices.Insert does with a row of the call's own: cut, grown, copied within.
-/
set_option maxRecDepth 100000
set_option linter.unusedSimpArgs false
set_option linter.unusedVariables false
namespace Go.Proofs.Ytbhjchlflkgjbaa.A
open Go.RowKit

/-- 's[q:]'. -/
def cutS (s : Nat) : Value → Nat → Value
  | .slice (some a) n c, q => .slice (some (if c = q then a else ⟨a.block, a.off + q * s, none⟩)) (n - q) (c - q)
  | .slice none n c, q => .slice none (n - q) (c - q)
  | v, _ => v
def capV : Value → Nat
  | .slice _ _ c => c
  | _ => 0
/-- A row's cells, as elements. -/
def chunks (s : Nat) : Nat → List Value → List (List Abs)
  | 0, _ => []
  | m + 1, l => (l.take s).map .v :: chunks s m (l.drop s)
theorem chunks_len (s : Nat) : ∀ (m : Nat) (l : List Value), (chunks s m l).length = m
  | 0, _ => rfl
  | m + 1, l => by simp [chunks, chunks_len s m]
theorem reps_vals {K : List Nat} {w : World} : ∀ l : List Value, reps K w (l.map .v) l
  | [] => rfl
  | u :: l => ⟨u, l, rfl, rfl, reps_vals l⟩
theorem repss_chunks {K : List Nat} {w : World} {s : Nat} : ∀ (m : Nat) (l : List Value), l.length = m * s → repss K w s (chunks s m l) l
  | 0, l, h => by
    rw [Nat.zero_mul] at h
    exact List.length_eq_zero_iff.1 h
  | m + 1, l, h => by
    rw [Nat.succ_mul] at h
    exact ⟨l.take s, l.drop s, (List.take_append_drop s l).symm, by rw [List.length_take]; omega, reps_vals _, repss_chunks m _ (by rw [List.length_drop]; omega)⟩
theorem repss_cut {K : List Nat} {w : World} {s : Nat} {xs : List (List Abs)} {us : List Value} (h : repss K w s xs us) (q : Nat) (hq : q ≤ xs.length) : repss K w s (xs.take q) (us.take (q * s)) ∧ repss K w s (xs.drop q) (us.drop (q * s)) := by
  have h1 := h
  rw [← List.take_append_drop q xs] at h1
  obtain ⟨u1, u2, e, h2, h3⟩ := repss_split h1
  have hl := repss_length h2
  rw [List.length_take, Nat.min_eq_left hq] at hl
  subst e
  rw [← hl, List.take_left, List.drop_left]
  exact ⟨h2, h3⟩
theorem repss_ones1 {K : List Nat} {w : World} {s : Nat} : ∀ {ys : List (List Abs)} {news : List Value}, (∀ c ∈ ys, ones c = true) → repss K w s ys news → ∀ u ∈ news, u.oneCell' = true
  | [], news, _, h, u, hu => by
    have : news = [] := h
    subst this
    cases hu
  | c :: ys, _, ho, ⟨u1, u2, h1, _, h3, h4⟩, u, hu => by
    subst h1
    rcases List.mem_append.1 hu with hu | hu
    · exact ones_reps h3 (ho c (by simp)) u hu
    · exact repss_ones1 (fun c hc => ho c (by simp [hc])) h4 u hu
/-- 'copy', whatever the elements' size. -/
theorem run_copy_s {P : Program} (w : World) (dT sT ty elem : TypeId) (g o dLen dCap : Nat) (a : Addr) (sLen sCap : Nat) (cur : Array Value) (t : TypeId) (cs : List Value) {I : TypeInfo}
    (hu : P.underlying dT = some (.slice elem)) (hq : P.info? elem = some I) (hg : w.heap[g]? = some (.cells cur t (0, 0))) (hn : cs.length = Nat.min sLen dLen * I.size)
    (hsrc : ∀ j v, cs[j]? = some v → w.cell? (a.add j) = some v) (hfit : o + cs.length ≤ cur.size) (h1 : ∀ v ∈ cs, v.oneCell' = true) :
    (Builtin.copy_ #[dT, sT] ty #[.slice (some ⟨g, o, none⟩) dLen dCap, .slice (some a) sLen sCap]).run P w = .ok (goInt (Nat.min sLen dLen)) (w.setRow g (cur.toList.take o ++ cs ++ cur.toList.drop (o + cs.length)).toArray) := by
  have hl := run_loadCells_list (P := P) w a cs hsrc
  have hst := run_storeCells_at P g o t cs 0 cur w hg (by simpa using hfit) h1
  simp [Builtin.copy_, run_underlying hu, Builtin.lenOf, Builtin.firstCells, sizeOf, typeInfo, hq, ← hn, hl, hst]
section
variable {P : Program} {n : Nat} {W : Wd} {σ τ : Blks} {l : Slots} {X : List Nat} {x y : Operand} {d : Option Nat} {ty t t' e e' : TypeId} {pos : String} {aft : Array Edge} {g : Option (Nat × Bool)} {v u : Value} {k : IntKind} {tab : List (Nat × TI)} {xs ys : List (List Abs)} {s q : Nat} {ops : Array Oper} {rest : List Oper} {Q : Exit → Act → World → Prop}
theorem own_hold {w : World} {a : Act} (hs : St n W σ l a w) (hb : own e s v xs ∈ σ) : ∃ us, w.ownsRow 0 e s v xs.length us ∧ repss (mids σ ++ W.G) w s xs us := hs.mem.hold _ hb
theorem owns_slice {w : World} {m : Nat} {us : List Value} (h : w.ownsRow 0 e s v m us) : ∃ A c, v = .slice A m c ∧ m ≤ c := by
  rcases h.2 with ⟨rfl, h0⟩ | ⟨gb, cap, cur, rfl, _, _, hn, _⟩
  · exact ⟨none, 0, by rw [h0], by omega⟩
  · exact ⟨_, cap, rfl, hn⟩
/-- 's[q:]' of a row of the call's own, whatever the elements' size. -/
theorem Val.cutLo (hT : TabOk P tab) {j : TI} (hu : P.underlying t = some (.slice e)) (hj : ti tab e = some j) (h1 : Nat.beq j.size s = true) (hx : look l x = some (.v v)) (hb : own e' s v xs ∈ σ) {r : Int} (hy : look l y = some (.v (.int k r))) (hr : r = (q : Nat)) (hq : q ≤ xs.length) :
    Val P n W σ l X ⟨d, .slice t x (some y) none none, ty, pos, aft, g⟩ (.v (cutS s v q)) := fun a w hs _ => by
  subst hr
  have h1 := Nat.eq_of_beq_eq_true h1
  obtain ⟨us, hr1, _⟩ := own_hold hs hb
  rcases hr1.2 with ⟨rfl, h0⟩ | ⟨gb, c, cur, rfl, _, _, hn, _⟩
  · have hq0 : q = 0 := by omega
    subst hq0
    refine ⟨_, rfl, fun w' _ => ?_⟩
    have h7 := (hT _ _ hj).sizeOf (w := w')
    have e1 : a.eval x = .slice none 0 0 := hs.plain hx
    have e2 : a.eval y = .int k ((0 : Nat) : Int) := hs.plain hy
    simp [execOp, Instr.sliceAt, Instr.slice, Instr.sliceBounds, Instr.sliceBound, asIntOf, e1, e2, run_underlying hu, Sem.run_bind, Result.andThen, h7, cutS]
  · refine ⟨_, rfl, fun w' _ => ?_⟩
    have h7 := (hT _ _ hj).sizeOf (w := w')
    have e1 : a.eval x = .slice (some ⟨gb, 0, none⟩) xs.length c := hs.plain hx
    have e2 : a.eval y = .int k ((q : Nat) : Int) := hs.plain hy
    by_cases hc : c = q <;> simp [execOp, Instr.sliceAt, Instr.slice, Instr.sliceBounds, Instr.sliceBound, asIntOf, e1, e2, run_underlying hu, Sem.run_bind, Result.andThen, h7, h1, hq, hc, Addr.add, cutS]
    try omega
/-- 's[:q]', beyond its length too, as far as its capacity goes. -/
theorem Val.cutUp (hT : TabOk P tab) {j : TI} (hu : P.underlying t = some (.slice e)) (hj : ti tab e = some j) (hx : look l x = some (.v v)) (hb : own e' s v xs ∈ σ) {r : Int} (hy : look l y = some (.v (.int k r))) (hr : r = (q : Nat)) (hq : q ≤ capV v) :
    Val P n W σ l X ⟨d, .slice t x none (some y) none, ty, pos, aft, g⟩ (.v (cutTo v q)) := fun a w hs _ => by
  subst hr
  obtain ⟨us, hr1, _⟩ := own_hold hs hb
  obtain ⟨A', c, rfl, _⟩ := owns_slice hr1
  refine ⟨_, rfl, fun w' _ => ?_⟩
  have h7 := (hT _ _ hj).sizeOf (w := w')
  have e1 : a.eval x = .slice A' xs.length c := hs.plain hx
  have e2 : a.eval y = .int k ((q : Nat) : Int) := hs.plain hy
  have hq' : q ≤ c := hq
  have h8 : ∀ a : Addr, a.spot = none → a.add 0 = a := fun a ha => by obtain ⟨b, o, r⟩ := a; cases ha; rfl
  rcases Nat.eq_zero_or_pos c with hc | hc
  · subst hc
    obtain rfl : q = 0 := by omega
    cases A' <;> simp [execOp, Instr.sliceAt, Instr.slice, Instr.sliceBounds, Instr.sliceBound, asIntOf, e1, e2, run_underlying hu, Sem.run_bind, Result.andThen, h7, cutTo]
  · have hc : ¬ c = 0 := by omega
    cases A' with
    | none => simp [execOp, Instr.sliceAt, Instr.slice, Instr.sliceBounds, Instr.sliceBound, asIntOf, e1, e2, run_underlying hu, Sem.run_bind, Result.andThen, h7, hq', cutTo, hc]
    | some A =>
      have hA : A.spot = none := by
        rcases hr1.2 with ⟨h, _⟩ | ⟨gb, cap, cur, h, _⟩
        · cases h
        · cases h; rfl
      simp [execOp, Instr.sliceAt, Instr.slice, Instr.sliceBounds, Instr.sliceBound, asIntOf, e1, e2, run_underlying hu, Sem.run_bind, Result.andThen, h7, hq', cutTo, hc, h8 A hA]
theorem Val.capOwn (hx : look l x = some (.v v)) (hb : own e' s v xs ∈ σ) (ht : P.underlying t = some (.slice e)) : Val P n W σ l X ⟨d, .call { callee := .builtin .cap, args := #[x], argTypes := #[t] }, ty, pos, aft, g⟩ (.v (.int .i64 (capV v : Nat))) := fun a w hs _ => by
  obtain ⟨us, hr1, _⟩ := own_hold hs hb
  obtain ⟨A', c, rfl, _⟩ := owns_slice hr1
  refine ⟨_, rfl, fun w' _ => ?_⟩
  have e1 : a.eval x = .slice A' xs.length c := hs.plain hx
  simp [execOp, resolve, invoke, builtin, Builtin.cap_, e1, run_underlying ht, Sem.run_bind, Result.andThen, goInt, capV]
/-- A row of the call's own, longer: what lies behind it belongs to it. -/
theorem St.growOwn {a : Act} {w : World} (h : St n W σ l a w) (hb : own e s v xs ∈ σ) (hq : xs.length ≤ q) (hc : q ≤ capV v) : ∃ js : List (List Abs), js.length + xs.length = q ∧ ∀ τ, Upd (own e s v xs) (own e s (cutTo v q) (xs ++ js)) σ τ → St n W τ l a w := by
  obtain ⟨us, hown, hr⟩ := own_hold h hb
  rcases hown.2 with ⟨rfl, h0⟩ | ⟨gb, cap, cur, rfl, hbase, hg, hn, hcap, hsz, htk⟩
  · have hq0 : q = 0 := by simp only [capV] at hc; omega
    refine ⟨[], by simp; omega, fun τ hu => ?_⟩
    have hx0 : xs = [] := List.length_eq_zero_iff.1 h0
    subst hx0 hq0
    have := upd_self (x := own e s (.slice none 0 0) []) hu
    rw [this]
    exact h
  · simp only [capV] at hc
    have hle : q * s ≤ cap * s := Nat.mul_le_mul_right _ hc
    have hle2 : xs.length * s ≤ q * s := Nat.mul_le_mul_right _ hq
    have hjl : ((cur.toList.take (q * s)).drop (xs.length * s)).length = (q - xs.length) * s := by
      rw [List.length_drop, List.length_take, Nat.min_eq_left (by simp; omega), Nat.sub_mul]
    refine ⟨chunks s (q - xs.length) ((cur.toList.take (q * s)).drop (xs.length * s)), by rw [chunks_len]; omega, fun τ hu => ?_⟩
    have hl : (xs ++ chunks s (q - xs.length) ((cur.toList.take (q * s)).drop (xs.length * s))).length = q := by rw [List.length_append, chunks_len]; omega
    have hm := h.mem.upd hu (Ext.refl w) own_nodup (fun k hk => .inl (by simpa [It.mids, ownPc, cutTo_block] using hk)) rfl fun hca => by
      refine ⟨cur.toList.take (q * s), ⟨?_, .inr ⟨gb, cap, cur, ?_, hbase, hg, by rw [hl]; exact hc, hcap, hsz, by rw [hl]⟩⟩, ?_⟩
      · rw [hl, List.length_take, Nat.min_eq_left (by simp; omega)]
      · rw [hl]; rfl
      · have e1 : cur.toList.take (q * s) = us ++ (cur.toList.take (q * s)).drop (xs.length * s) := by
          rw [← htk]
          have := List.take_append_drop (xs.length * s) (cur.toList.take (q * s))
          rw [List.take_take, Nat.min_eq_left hle2] at this
          exact this.symm
        rw [e1]
        refine repss_append (repss_carry hca _ _ _ hr) ?_
        rw [← e1]
        exact repss_chunks _ _ hjl
    exact h.to hm.1 hm.2
theorem SL.growOwn (hb : own e s v xs ∈ σ) (hq : xs.length ≤ q) (hc : q ≤ capV v) (k : ∀ (js : List (List Abs)), js.length + xs.length = q → ∃ τ, Upd (own e s v xs) (own e s (cutTo v q) (xs ++ js)) σ τ ∧ SL P ops rest (St n W τ l) Q) : SL P ops rest (St n W σ l) Q := fun a w h => by
  obtain ⟨js, h1, h2⟩ := h.growOwn hb hq hc
  obtain ⟨τ, h3, h4⟩ := k js h1
  exact h4 a w (h2 τ h3)
theorem SC.growOwn {c : Code} (hb : own e s v xs ∈ σ) (hq : xs.length ≤ q) (hc : q ≤ capV v) (k : ∀ (js : List (List Abs)), js.length + xs.length = q → ∃ τ, Upd (own e s v xs) (own e s (cutTo v q) (xs ++ js)) σ τ ∧ SC P c (St n W τ l) Q) : SC P c (St n W σ l) Q := fun a w h => by
  obtain ⟨js, h1, h2⟩ := h.growOwn hb hq hc
  obtain ⟨τ, h3, h4⟩ := k js h1
  exact h4 a w (h2 τ h3)
/-- slices.overlaps of two rows of the call's own: they lie apart. -/
theorem Val.overlapsOff {f : FuncId} {fn : Func} {ats : Array TypeId} {tr : TypeId} {α β : Blks} (hf : P.funcs[f]? = some fn) (h1 : (fn.name == "runtime.NumGoroutine") = false) (h2 : fn.body.isNone = true) (h3 : Extern.findNext fn = none) (h4 : Extern.find fn = some (Extern.SlicesOverlaps.overlaps #[t, t] #[tr]))
    (hT : TabOk P tab) {j : TI} (hu : P.underlying t = some (.slice e)) (hj : ti tab e = some j) (hsz : Nat.beq j.size s = true) (hpos : Nat.blt 0 s = true)
    (hx : look l x = some (.v u)) (hy : look l y = some (.v (cutS s v q))) (hσ : σ = α ++ own e s v xs :: β) (hb : own e s u ys ∈ α ++ β) (hys : 0 < ys.length) (hq : q < xs.length) :
    Val P n W σ l [] ⟨d, .call { callee := .value (.func f), args := #[x, y], argTypes := ats }, ty, pos, aft, g⟩ (.v (.bool false)) := fun a w hs _ => by
  have hsz := Nat.eq_of_beq_eq_true hsz
  have hpos : 0 < s := by simpa [Nat.blt_eq] using hpos
  have hbv : own e s v xs ∈ σ := by rw [hσ]; simp
  have hbu : own e s u ys ∈ σ := by
    rw [hσ]
    rcases List.mem_append.1 hb with h | h
    · simp [h]
    · simp [h]
  obtain ⟨us, hv, _⟩ := own_hold hs hbv
  obtain ⟨us2, hu2, _⟩ := own_hold hs hbu
  rcases hv.2 with ⟨_, h0⟩ | ⟨gb, cap, cur, rfl, _, hg, hn, _, hcs, _⟩
  · omega
  rcases hu2.2 with ⟨_, h0⟩ | ⟨gb2, cap2, cur2, rfl, _, hg2, hn2, _, hcs2, _⟩
  · omega
  have hne : gb2 ≠ gb := fun he => by
    have hnd := hs.mem.nodup
    rw [hσ, mids_append, mids_cons, List.nodup_append, List.nodup_append] at hnd
    subst he
    have hk : gb2 ∈ (own e s (.slice (some ⟨gb2, 0, none⟩) xs.length cap) xs).mids := by simp [It.mids, ownPc, Value.ownBlock]
    have hk2 : gb2 ∈ (own e s (.slice (some ⟨gb2, 0, none⟩) ys.length cap2) ys).mids := by simp [It.mids, ownPc, Value.ownBlock]
    rcases List.mem_append.1 hb with h | h
    · exact hnd.2.2 gb2 (mids_mem.2 ⟨_, h, hk2⟩) gb2 (List.mem_append_left _ hk) rfl
    · exact hnd.2.1.2.2 gb2 hk gb2 (mids_mem.2 ⟨_, h, hk2⟩) rfl
  refine ⟨_, rfl, fun w' hw' => ?_⟩
  have hg' : w'.heap[gb]? = some (.cells cur e (0, 0)) := (hw'.block gb (heap_lt hg) (by simp)).trans hg
  have hg2' : w'.heap[gb2]? = some (.cells cur2 e (0, 0)) := (hw'.block gb2 (heap_lt hg2) (by simp)).trans hg2
  have hcq : ¬ cap = q := by omega
  have e1 : a.eval x = .slice (some ⟨gb2, 0, none⟩) ys.length cap2 := hs.plain hx
  have e2 : a.eval y = .slice (some ⟨gb, 0 + q * s, none⟩) (xs.length - q) (cap - q) := by
    have := hs.plain hy
    simp only [cutS, hcq, if_false] at this
    exact this
  have hpos2 : 0 < cur.size := by
    rw [hcs]
    exact Nat.mul_pos (by omega) hpos
  have hrun := Lib.run_overlaps_apart (P := P) w' t tr e hu j.size (fun w => (hT _ _ hj).sizeOf (w := w)) ⟨gb2, 0, none⟩ ⟨gb, 0 + q * s, none⟩ ys.length cap2 (xs.length - q) (cap - q) hne e e cur2.size cur.size
    (by simp [World.shape?, hg2']) (by simp [World.shape?, hg']) (by omega) (by simp [World.frozen?, hg2']) (by simp [World.frozen?, hg2'])
  have hcf := run_callFunc_extern hf h1 h2 h3 h4 #[a.eval x, a.eval y] w'
  rw [e1, e2, hrun] at hcf
  have hfn : a.eval (.func f) = .func (.func f) #[] #[] := rfl
  simp only [Result.andThen, Nat.zero_add] at hcf
  simp [execOp, resolve, hfn, Deferred.ofValue, invoke, e1, e2, hcf, Sem.run_bind, Result.andThen]
/-- What 'copy' reads: a row's first elements. -/
def Src (n : Nat) (W : Wd) (σ : Blks) (l : Slots) (y : Operand) (s m : Nat) (ys : List (List Abs)) : Prop := ∀ a w, St n W σ l a w → ∃ A M c news, a.eval y = .slice (some A) M c ∧ min M m = ys.length ∧ repss (mids σ ++ W.G) w s ys news ∧ ∀ j u, news[j]? = some u → w.cell? (A.add j) = some u
theorem Src.ofOwn {m : Nat} (hy : look l y = some (.v (cutS s v q))) (hb : own e s v xs ∈ σ) (hq : q < xs.length) (hm : min (xs.length - q) m = ys.length) (he : (xs.drop q).take ys.length = ys) : Src n W σ l y s m ys := fun a w hs => by
  obtain ⟨us, hv, hr⟩ := own_hold hs hb
  rcases hv.2 with ⟨_, h0⟩ | ⟨gb, cap, cur, rfl, _, hg, hn, _, hcs, htk⟩
  · omega
  have hcq : ¬ cap = q := by omega
  have e2 : a.eval y = .slice (some ⟨gb, 0 + q * s, none⟩) (xs.length - q) (cap - q) := by
    have := hs.plain hy
    simp only [cutS, hcq, if_false] at this
    exact this
  have hr2 := (repss_cut (repss_cut hr q (by omega)).2 ys.length (by rw [List.length_drop, ← hm]; exact Nat.min_le_left _ _)).1
  rw [he] at hr2
  refine ⟨_, _, _, _, e2, hm, hr2, fun j u hj => ?_⟩
  rw [List.getElem?_take] at hj
  split at hj
  · rw [List.getElem?_drop] at hj
    rw [Addr.add_none, ← htk, List.getElem?_take] at *
    split at hj
    · simp only [World.cell?, hg]
      simpa [Nat.zero_add] using hj
    · cases hj
  · cases hj
theorem Src.ofAll {m : Nat} (hy : look l y = some (.v v)) (hb : own e s v xs ∈ σ) (hq : 0 < xs.length) (hm : min xs.length m = xs.length) : Src n W σ l y s m xs := fun a w hs => by
  obtain ⟨us, hv, hr⟩ := own_hold hs hb
  rcases hv.2 with ⟨_, h0⟩ | ⟨gb, cap, cur, rfl, _, hg, hn, _, hcs, htk⟩
  · omega
  refine ⟨_, _, _, _, hs.plain hy, hm, hr, fun j u hj => ?_⟩
  rw [Addr.add_none, ← htk, List.getElem?_take] at *
  split at hj
  · simp only [World.cell?, hg]
    simpa using hj
  · cases hj
/-- 'copy(s[q:], ..)' into a row of the call's own. -/
theorem Eff.copyRow (hT : TabOk P tab) {j : TI} {zs : List (List Abs)} (hu : P.underlying t = some (.slice e)) (hj : ti tab e = some j) (hsz : Nat.beq j.size s = true) (hx : look l x = some (.v (cutS s v q))) (hq : q < xs.length) (hsrc : Src n W σ l y s (xs.length - q) ys) (h1 : ∀ c ∈ ys, ones c = true) (hz : xs.take q ++ ys ++ xs.drop (q + ys.length) = zs) (hup : Upd (own e s v xs) (own e s v zs) σ τ) :
    Eff P n W σ l v.ownBlock.toList ⟨d, .call { callee := .builtin .copy, args := #[x, y], argTypes := #[t, t'] }, ty, pos, aft, g⟩ fun r τ' => r = .v (.int .i64 (ys.length : Nat)) ∧ τ' = τ := fun a w hs => by
  have hsz := Nat.eq_of_beq_eq_true hsz
  obtain ⟨us, hown, hr⟩ := own_hold hs hup.mem
  obtain ⟨A, M, c, news, e2, hm, hr2, hc2⟩ := hsrc a w hs
  have hm : Nat.min M (xs.length - q) = ys.length := hm
  have hlen2 := repss_length hr2
  have hone := repss_ones1 h1 hr2
  have hfit : q + ys.length ≤ xs.length := by
    have : Nat.min M (xs.length - q) ≤ xs.length - q := Nat.min_le_right _ _
    omega
  obtain ⟨I, hI, hIs, _⟩ := (hT e j hj).info
  rcases hown.2 with ⟨_, h0⟩ | ⟨gb, cap, cur, rfl, hbase, hg, hn, hcap, hcs, htk⟩
  · omega
  have hcq : ¬ cap = q := by omega
  have e1 : a.eval x = .slice (some ⟨gb, 0 + q * s, none⟩) (xs.length - q) (cap - q) := by
    have := hs.plain hx
    simp only [cutS, hcq, if_false] at this
    exact this
  have hb1 : q * s + ys.length * s ≤ xs.length * s := by rw [← Nat.add_mul]; exact Nat.mul_le_mul_right _ hfit
  have hb2 : xs.length * s ≤ cap * s := Nat.mul_le_mul_right _ hn
  have hrun := run_copy_s (P := P) w t t' ty e gb (0 + q * s) (xs.length - q) (cap - q) A M c cur e news hu hI hg (by rw [hm, hIs, hsz, hlen2]) hc2 (by omega) hone
  rw [hm] at hrun
  have hxx : Ext (Value.ownBlock (.slice (some ⟨gb, 0, none⟩) xs.length cap)).toList w (w.setRow gb (cur.toList.take (0 + q * s) ++ news ++ cur.toList.drop (0 + q * s + news.length)).toArray) := (Ext.refl w).setRow (.inl (by simp [Value.ownBlock])) _
  have hzl : zs.length = xs.length := by
    rw [← hz]
    simp only [List.length_append, List.length_take, List.length_drop]
    omega
  have hnew : (cur.toList.take (0 + q * s) ++ news ++ cur.toList.drop (0 + q * s + news.length)).take (xs.length * s) = us.take (q * s) ++ news ++ us.drop ((q + ys.length) * s) := by
    have hcl : cur.toList.length = cap * s := by simp [hcs]
    rw [← htk, Nat.zero_add, Nat.add_mul]
    rw [← hlen2] at hb1 ⊢
    generalize q * s = q' at *
    generalize xs.length * s = n' at *
    generalize cap * s = c' at *
    apply List.ext_getElem?
    intro j
    simp only [List.getElem?_take, List.getElem?_append, List.length_append, List.length_take, List.getElem?_drop]
    grind
  have hm2 := hs.mem.upd hup hxx own_nodup (fun k hk => .inl (by simpa [It.mids, ownPc, Value.ownBlock] using hk)) rfl fun hca => by
    refine ⟨us.take (q * s) ++ news ++ us.drop ((q + ys.length) * s), ⟨?_, .inr ⟨gb, cap, _, by rw [hzl], hbase, setRow_heap w gb cur _ e (0, 0) hg, by rw [hzl]; exact hn, hcap, ?_, ?_⟩⟩, ?_⟩
    · rw [hzl, ← hnew, List.length_take]
      simp only [List.length_append, List.length_take, List.length_drop, Array.length_toList]
      omega
    · simp only [List.size_toArray, List.length_append, List.length_take, List.length_drop, Array.length_toList]
      omega
    · rw [hzl]
      simpa using hnew
    · rw [← hz]
      refine repss_append (repss_append ?_ (repss_carry hca _ _ _ hr2)) ?_
      · exact repss_carry hca _ _ _ (repss_cut hr q (by omega)).1
      · exact repss_carry hca _ _ _ (repss_cut hr (q + ys.length) (by omega)).2
  refine ⟨_, _, _, _, ⟨rfl, rfl⟩, hxx, rfl, hm2.1, hm2.2, .inl ?_⟩
  simp only [Nat.zero_add, List.append_assoc] at hrun e1 ⊢
  simp [execOp, resolve, invoke, builtin, e1, e2, hrun, Result.andThen, goInt]
/-- 'append(s[:q], make(S, m)...)' where there is no room: a new row. -/
theorem Eff.appendZeros (hT : TabOk P tab) {j : TI} {m : Nat} {r : Int} {tn : TypeId} {kn : IntKind} (hu : P.underlying t = some (.slice e)) (htn : P.underlying tn = some (.int kn)) (hj : ti tab e = some j) (hsz : Nat.beq j.size s = true) (hpos : Nat.blt 0 s = true) (hx : look l x = some (.v (cutTo v q))) (hb : own e s v xs ∈ σ) (hy : look l y = some (.v (.int k r))) (hr : r = (m : Nat)) (hq : q < xs.length) (hm : 0 < m) (hroom : capV v < q + m) (hml : q + m ≤ maxLen) (hby : (q + m) * P.bytesOf e ≤ 140737488355328) :
    Eff P n W σ l [] ⟨d, .call { callee := .builtin .append, args := #[x, y], argTypes := #[t, tn] }, ty, pos, aft, g⟩ fun u τ => ∃ v' js, u = .v v' ∧ js.length = m ∧ τ = own e s v' (xs.take q ++ js) :: σ := fun a w hs => by
  subst hr
  have hsz := Nat.eq_of_beq_eq_true hsz
  have hpos : 0 < s := by simpa [Nat.blt_eq] using hpos
  obtain ⟨us, hown, hr⟩ := own_hold hs hb
  obtain ⟨I, hI, hIs, z, hz, hzc⟩ := (hT e j hj).info
  have hzl := (hT e j hj).len
  have hbi := bytes_of hI
  rcases hown.2 with ⟨_, h0⟩ | ⟨gb, cap, cur, rfl, hbase, hg, hn, hcap, hcs, htk⟩
  · omega
  simp only [capV] at hroom
  have hqs : q * s ≤ xs.length * s := Nat.mul_le_mul_right _ (by omega)
  have hnc : xs.length * s ≤ cap * s := Nat.mul_le_mul_right _ hn
  have hul := hown.1
  have hold : (Builtin.firstCells I.size q (.slice (some ⟨gb, 0, none⟩) q cap)).run P w.drew = .ok (us.take (q * s)).toArray w.drew := by
    rw [hIs, hsz]
    refine run_firstCells_some (P := P) w.drew s q ⟨gb, 0, none⟩ q cap (us.take (q * s)) (by rw [List.length_take]; omega) fun i u hi => ?_
    rw [List.getElem?_take] at hi
    split at hi
    · rw [Addr.add_none]
      rw [← htk, List.getElem?_take] at hi
      split at hi
      · show w.cell? _ = _
        simp only [World.cell?, hg]
        simpa using hi
      · cases hi
    · cases hi
  have hrun := Lib.run_append_grow_zeros (P := P) w t tn ty e I z k kn hu htn hI hz (some ⟨gb, 0, none⟩) q cap (us.take (q * s)) hold m hm (by rw [hIs, hsz]; exact hpos) hroom (by unfold maxLen at hml; omega)
    (by rw [← hbi]; have : m * P.bytesOf e ≤ (q + m) * P.bytesOf e := Nat.mul_le_mul_right _ (by omega); omega) (growslice_fits hroom (by rw [← hbi]; exact hby))
  obtain ⟨G, hG⟩ : ∃ G, grownCap w (q + m) cap e = G := ⟨_, rfl⟩
  have hG1 : q + m ≤ G := hG ▸ grownCap_ge w _ _ _
  have hG2 : G ≤ maxLen := hG ▸ grownCap_le_maxLen w _ _ _ hml
  rw [hG] at hrun
  obtain ⟨ROW, hROW⟩ : ∃ ROW, (us.take (q * s)).toArray ++ Builtin.zeroCells z.cells m ++ Builtin.zeroCells z.cells (G - (q + m)) = ROW := ⟨_, rfl⟩
  rw [hROW] at hrun
  have hzs : z.cells.size = s := by rw [hzc, List.size_toArray, hzl, hsz]
  have hz1 : ∀ m, (Builtin.zeroCells z.cells m).size = m * s := fun m => by simp [Builtin.zeroCells, hzs]
  have hz2 : ∀ m, (Builtin.zeroCells z.cells m).toList.length = m * s := fun m => by rw [Array.length_toList, hz1]
  obtain ⟨js, hjs⟩ : ∃ js, chunks s m (Builtin.zeroCells z.cells m).toList = js := ⟨_, rfl⟩
  have hjl : js.length = m := by rw [← hjs, chunks_len]
  have hx0 : Ext [] w (w.drew.alloc (.cells ROW e)) := ((Ext.refl w).drew).alloc _
  have hrs : ROW.size = G * s := by
    rw [← hROW]
    simp only [Array.size_append, hz1, List.size_toArray, List.length_take]
    rw [Nat.min_eq_left (by omega), ← Nat.add_mul, ← Nat.add_mul]
    congr 1
    omega
  have hlen : (xs.take q ++ js).length = q + m := by
    rw [List.length_append, List.length_take, hjl]
    omega
  have hm2 := hs.mem.new (y := own e s (.slice (some ⟨w.heap.size, 0, none⟩) (q + m) G) (xs.take q ++ js)) hx0 own_nodup (by simp [It.mids, ownPc, Value.ownBlock]) rfl fun hca => by
    refine ⟨us.take (q * s) ++ (Builtin.zeroCells z.cells m).toList, ⟨?_, .inr ⟨w.heap.size, G, ROW, by rw [hlen], by omega, ?_, by rw [hlen]; exact hG1, hG2, hrs, ?_⟩⟩, repss_append (repss_carry hca _ _ _ (repss_cut hr q (by omega)).1) (hjs ▸ repss_chunks m _ (by rw [Array.length_toList, hz1]))⟩
    · rw [hlen, List.length_append, List.length_take, hz2, Nat.add_mul]
      omega
    · exact heap_alloc_new w.drew _
    · rw [hlen, ← hROW]
      simp only [Array.toList_append, List.append_assoc]
      rw [← List.append_assoc, List.take_append_of_le_length (by rw [List.length_append, List.length_take, hz2, Nat.add_mul]; omega), List.take_of_length_le (by rw [List.length_append, List.length_take, hz2, Nat.add_mul]; omega)]
  refine ⟨_, _, _, _, ⟨_, js, rfl, hjl, rfl⟩, hx0, rfl, hm2.1, hm2.2, .inl ?_⟩
  have e1 : a.eval x = .slice (some ⟨gb, 0, none⟩) q cap := hs.plain hx
  have e2 : a.eval y = .int k ((m : Nat) : Int) := hs.plain hy
  simp [execOp, resolve, invoke, builtin, e1, e2, hrun, Result.andThen]
end
theorem Casts.of_eq {xs ys : List Abs} (h : xs = ys) : Casts xs ys := h ▸ Casts.refl
section
variable {xs js : List (List Abs)} {y : List Abs} {i : Nat}
theorem ins_a (hi : i < xs.length) (hj : js.length = xs.length + 1 - i) : (xs.take i ++ js).take i ++ [y] ++ (xs.take i ++ js).drop (i + [y].length) = xs.take i ++ y :: js.drop 1 := by
  rw [List.take_append_of_le_length (by rw [List.length_take]; omega), List.take_take, Nat.min_self, List.drop_append, List.drop_of_length_le (by rw [List.length_take]; simp; omega), List.length_take, Nat.min_eq_left (by omega)]
  simp
theorem ins_b (hi : i < xs.length) (hj : js.length = xs.length + 1 - i) : (xs.take i ++ y :: js.drop 1).take (i + 1) ++ xs.drop i ++ (xs.take i ++ y :: js.drop 1).drop (i + 1 + (xs.drop i).length) = xs.take i ++ y :: xs.drop i := by
  have h1 : (xs.take i ++ y :: js.drop 1).drop (i + 1 + (xs.drop i).length) = [] := List.drop_of_length_le (by simp; omega)
  rw [h1, List.append_nil, List.take_append, List.length_take, Nat.min_eq_left (by omega), List.take_take, Nat.min_eq_right (by omega), Nat.add_sub_cancel_left, List.append_assoc]
  rfl
theorem ins_c (hi : i < xs.length) (hj : js.length + xs.length = xs.length + 1) : (xs ++ js).take (i + 1) ++ xs.drop i ++ (xs ++ js).drop (i + 1 + (xs.drop i).length) = (xs ++ js).take (i + 1) ++ xs.drop i := by
  have h1 : (xs ++ js).drop (i + 1 + (xs.drop i).length) = [] := List.drop_of_length_le (by simp; omega)
  rw [h1, List.append_nil]
theorem ins_d (hi : i < xs.length) (hj : js.length + xs.length = xs.length + 1) : ((xs ++ js).take (i + 1) ++ xs.drop i).take i ++ [y] ++ ((xs ++ js).take (i + 1) ++ xs.drop i).drop (i + [y].length) = xs.take i ++ y :: xs.drop i := by
  have h1 : ((xs ++ js).take (i + 1)).length = i + 1 := by rw [List.length_take, List.length_append]; omega
  rw [List.take_append_of_le_length (by omega), List.take_take, Nat.min_eq_left (by omega), List.take_append_of_le_length (by omega), List.drop_append, List.drop_of_length_le (by simp; omega), h1]
  simp
theorem ins_len (hi : i < xs.length) (hj : js.length + xs.length = xs.length + 1) : ((xs ++ js).take (i + 1) ++ xs.drop i).length = xs.length + 1 := by
  simp only [List.length_append, List.length_take, List.length_drop]
  omega
theorem ins_src (hi : i < xs.length) : ((xs ++ js).drop i).take (xs.drop i).length = xs.drop i := by
  rw [List.drop_append_of_le_length (by omega), List.take_left]
theorem ins_all (hi : i = xs.length) : xs ++ [y] = xs.take i ++ y :: xs.drop i := by
  subst hi
  simp
theorem ins_ones (h1 : ∀ c ∈ xs, ones c = true) (q : Nat) : ∀ c ∈ xs.drop q, ones c = true := fun c hc => h1 c (List.mem_of_mem_drop hc)
end
end Go.Proofs.Ytbhjchlflkgjbaa.A
/-
  The second engine: calls of methods through interfaces.
-/
set_option maxRecDepth 100000
set_option linter.unusedSimpArgs false
set_option linter.unusedVariables false
namespace Go.Proofs.Ytbhjchlflkgjbaa.A
open Go.RowKit

/-- A call of a method through an interface, in a region that draws. -/
theorem SX.invokeR {P : Program} {n : Nat} {W : Wd} {ops : Array Oper} {l : Slots} {σ : Blks} {X : List Nat} {Q : Exit → Act → World → Prop} {ix : Plan} {f : FuncId} {args args' : List Abs} {σ1 : Blks} {ι : Type} {τ' : ι → Blks} {res : ι → Abs} {xs : List Operand} {ats : Array TypeId} {d : Option Nat} {ty : TypeId} {pos : String} {aft : Array Edge} {g : Option (Nat × Bool)} {i : Nat} {x : Operand} {m : String} {t : TypeId} {y : Abs}
    (hi : ops[i]? = some ⟨d, .call { callee := .invoke x m, args := xs.toArray, argTypes := ats }, ty, pos, aft, g⟩) (hs : Spec P f args' σ1 τ' res) (hX : ∀ k ∈ mids σ1, k ∈ X) (hx : look l x = some (.ifc t y)) (hca : Casts (y :: args) args')
    (hmm : ∀ (u : Value) (ρ : Operand → Value) w, (Go.invoke (.fn (.method m) #[]) (#[.iface t u] ++ (xs.map ρ).toArray)).run P w = .ok (.enter f (#[u] ++ (xs.map ρ).toArray)) w) (hv : looks l xs = some args)
    (hg : gd ops l ⟨d, .call { callee := .invoke x m, args := xs.toArray, argTypes := ats }, ty, pos, aft, g⟩ = some true) (hd : lt? d n = true)
    (k : After σ σ1 τ' fun ν z => SX P ops ix X (St n W ν (put? l d (res z))) Q) : SX P ops (.e i ix) X (St n W σ l) Q := fun a w h => by
  unfold planW wpOp
  simp only [hi, h.wanted hg, if_true]
  refine .inl ?_
  unfold Oper.wp
  obtain ⟨u, h1, h2⟩ := h.eval hx
  rw [run_invoke rfl h1 (hmm u a.eval), Oper.upon_enter]
  have : reps (mids σ ++ W.G) w (y :: args) (u :: xs.map a.eval) := ⟨u, _, rfl, h2, h.evals hv⟩
  rw [show #[u] ++ (xs.map a.eval).toArray = (u :: xs.map a.eval).toArray by simp]
  refine (hs.after h.mem (hca _ _ _ this) k).mono fun e w' ⟨z, r, ν, he, hx, _, hm, hc, hr, hk⟩ => ?_
  subst he
  exact ⟨fun w2 => Ext X w' w2, fun w2 h2 => (hx.mono (fun k hk => .inl (hX k hk))).trans h2 fun k hk => .inl hk, Ext.refl w', hk _ _ ((h.to hm hc).put hd hr)⟩
/-- A call of a method through an interface. -/
theorem SL.invokeR {P : Program} {n : Nat} {W : Wd} {ops : Array Oper} {l : Slots} {σ : Blks} {Q : Exit → Act → World → Prop} {rest : List Oper} {f : FuncId} {args args' : List Abs} {σ1 : Blks} {ι : Type} {τ' : ι → Blks} {res : ι → Abs} {xs : List Operand} {ats : Array TypeId} {d : Option Nat} {ty : TypeId} {pos : String} {aft : Array Edge} {g : Option (Nat × Bool)} {x : Operand} {m : String} {t : TypeId} {y : Abs}
    (hs : Spec P f args' σ1 τ' res) (hx : look l x = some (.ifc t y)) (hca : Casts (y :: args) args')
    (hmm : ∀ (u : Value) (ρ : Operand → Value) w, (Go.invoke (.fn (.method m) #[]) (#[.iface t u] ++ (xs.map ρ).toArray)).run P w = .ok (.enter f (#[u] ++ (xs.map ρ).toArray)) w) (hv : looks l xs = some args)
    (hg : gd ops l ⟨d, .call { callee := .invoke x m, args := xs.toArray, argTypes := ats }, ty, pos, aft, g⟩ = some true) (hd : lt? d n = true)
    (k : After σ σ1 τ' fun ν z => SL P ops rest (St n W ν (put? l d (res z))) Q) : SL P ops (⟨d, .call { callee := .invoke x m, args := xs.toArray, argTypes := ats }, ty, pos, aft, g⟩ :: rest) (St n W σ l) Q := fun a w h =>
  wpList_step fun K hK => by
    rw [if_pos (h.wanted hg)]
    unfold Oper.wp
    obtain ⟨u, h1, h2⟩ := h.eval hx
    rw [run_invoke rfl h1 (hmm u a.eval), Oper.upon_enter]
    have : reps (mids σ ++ W.G) w (y :: args) (u :: xs.map a.eval) := ⟨u, _, rfl, h2, h.evals hv⟩
    rw [show #[u] ++ (xs.map a.eval).toArray = (u :: xs.map a.eval).toArray by simp]
    refine (hs.after h.mem (hca _ _ _ this) k).mono fun e w' ⟨z, r, ν, he, _, _, hm, hc, hr, hk⟩ => ?_
    subst he
    exact hK _ _ (hk _ _ ((h.to hm hc).put hd hr))
/-- A method value, ahead of its call: its receiver is no nil pointer that would be followed. -/
theorem Val.nilMethod {P : Program} {n : Nat} {W : Wd} {σ : Blks} {l : Slots} {X : List Nat} {x : Operand} {d : Option Nat} {ty : TypeId} {pos : String} {aft : Array Edge} {g : Option (Nat × Bool)} {m : String} {t : TypeId} {u : Value}
    (hx : look l x = some (.fn (.method m) [.ifc t (.v u)] [])) (h : ∀ w, (nilAhead (P.types.size + Made.depth) t u m).run P w = .ok (some false) w) : Val P n W σ l X ⟨d, .nilCheck x, ty, pos, aft, g⟩ (.fn (.method m) [.ifc t (.v u)] []) := fun a w hs _ => by
  have hr := hs.eval hx
  obtain ⟨us, vs, h1, ⟨_, _, rfl, ⟨_, rfl, h2⟩, h3⟩, h4⟩ := hr
  have h2 : _ = u := h2
  have h3 : _ = [] := h3
  have h4 : vs = [] := h4
  subst h2 h3 h4
  refine ⟨_, hs.eval hx, fun w' _ => ?_⟩
  simp [execOp, h1, Sem.run_bind, program, Sem.run, h w', Result.andThen]
end Go.Proofs.Ytbhjchlflkgjbaa.A
