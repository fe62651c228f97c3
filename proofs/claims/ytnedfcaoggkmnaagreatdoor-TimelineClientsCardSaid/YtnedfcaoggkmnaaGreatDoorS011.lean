/-
  Packed out of the texts: TRow, TPar, TDoc, TM5, A25.
-/
import Derived.Test.YtnedfcaoggkmnaaGreatDoorS010
/-
  Policies' texts, plain: what the program's parser leaves, step by step.
-/
set_option maxRecDepth 100000
set_option linter.unusedSimpArgs false
set_option linter.unusedVariables false
namespace Go.Proofs.YtnedfcaoggkmnaaGreatDoor.A
open Go.RowKit

/-- What the parser leaves behind a policy: what is left, whether it is odd, the policy. -/
def PolR (k : Nat) (l : Txt) (odd : Bool) (z : Txt × Bool × Frm) : Prop :=
  z.1.length ≤ l.length ∧ (odd = true → z.2.1 = true) ∧ (odd = false → polT k l = none → z.2.1 = true) ∧ (odd = false → ∀ x, polT k l = some x → z.2.1 = false ∧ bare z.1 = bare x.2 ∧ z.2.2 = x.1)
/-- And behind a row. -/
def RowF (k : Nat) (l : Txt) (odd : Bool) (z : Txt × Bool × List Frm) : Prop :=
  z.1.length ≤ l.length ∧ (odd = true → z.2.1 = true) ∧ (odd = false → rowT (polT k) l = none → z.2.1 = true) ∧ (odd = false → ∀ x, rowT (polT k) l = some x → z.2.1 = false ∧ z.1 = x.2 ∧ z.2.2 = x.1)
/-- At the head of a round. -/
structure RowI (k : Nat) (l : Txt) (odd : Bool) (z : Txt × Bool × List Frm) : Prop where
  len : z.1.length ≤ l.length
  few : z.2.2.length + (if z.2.1 = true then 0 else z.1.length + 1) ≤ l.length + 2
  off : odd = true → z.2.1 = true
  no : odd = false → z.2.1 = true → rowT (polT k) l = none
  go : odd = false → z.2.1 = false → ∃ F, z.1.length + 1 ≤ F ∧ rowT (polT k) l = rowL (polT k) F z.1 z.2.2
theorem takeT_yes {l wd : Txt} (h : begins (bare l) wd = true) : takeT l wd = (bare l).drop wd.length := if_pos h
theorem takeT_no {l wd : Txt} (h : ¬ begins (bare l) wd = true) : takeT l wd = bare l := if_neg h
theorem takeT_len (l wd : Txt) : (takeT l wd).length ≤ l.length := by
  have := bare_len l
  unfold takeT
  split
  · rw [List.length_drop]; omega
  · exact this
section
variable {k : Nat} {l : Txt} {odd : Bool} {z : Txt × Bool × List Frm} {y : Txt × Bool × Frm}
theorem RowI.start (h : begins (bare l) [40] = true) : RowI k l odd (takeT l [40], odd, []) := by
  have hl := takeT_len l [40]
  refine ⟨hl, (by dsimp only; split <;> simp <;> omega), fun h => h, fun h1 h2 => (by simp only at h2; rw [h1] at h2; cases h2), fun _ _ => ⟨l.length + 1, (by simp only; omega), ?_⟩⟩
  unfold rowT
  rw [if_pos h, takeT_yes h]
  rfl
theorem RowI.odd_ (h : ¬ begins (bare l) [40] = true) : RowI k l odd (takeT l [40], true, []) := by
  have hl := takeT_len l [40]
  exact ⟨hl, (by simp), fun _ => rfl, fun _ _ => if_neg h, fun _ h2 => (by cases h2)⟩
theorem RowI.done (h : RowI k l odd z) (ho : z.2.1 = true) : RowF k l odd z :=
  ⟨h.len, h.off, fun _ _ => ho, fun h1 x hx => (by rw [h.no h1 ho] at hx; cases hx)⟩
theorem RowI.step (h : RowI k l odd z) (ho : z.2.1 = false) (hy : PolR k z.1 z.2.1 y) :
    (begins (bare y.1) [41] = true → RowF k l odd (takeT y.1 [41], y.2.1, z.2.2 ++ [y.2.2])) ∧
    (¬ begins (bare y.1) [41] = true → begins (bare (takeT y.1 [41])) [44] = true → RowI k l odd (takeT (takeT y.1 [41]) [44], y.2.1, z.2.2 ++ [y.2.2]) ∧ (y.2.1 = true ∨ (takeT (takeT y.1 [41]) [44]).length < z.1.length)) ∧
    (¬ begins (bare y.1) [41] = true → ¬ begins (bare (takeT y.1 [41])) [44] = true → RowI k l odd (takeT (takeT y.1 [41]) [44], true, z.2.2 ++ [y.2.2])) := by
  obtain ⟨h1, h2, h3, h4⟩ := hy
  have hodd : odd = false := by
    cases odd with
    | true => have := h.off rfl; rw [ho] at this; cases this
    | false => rfl
  subst hodd
  obtain ⟨F, hF, hR⟩ := h.go rfl ho
  have hlen := h.len
  have hfew := h.few
  rw [ho] at hfew
  simp only [Bool.false_eq_true, if_false] at hfew
  have hb := bare_len y.1
  have t1 := takeT_len y.1 [41]
  have t2 := takeT_len (takeT y.1 [41]) [44]
  have hF1 : ∃ m, F = m + 1 := ⟨F - 1, (by omega)⟩
  obtain ⟨m, rfl⟩ := hF1
  cases hp : polT k z.1 with
  | none =>
    have hno := h3 ho hp
    have hR2 : rowT (polT k) l = none := by rw [hR]; unfold rowL; rw [hp]
    refine ⟨fun _ => ⟨(by simp only; omega), fun h => (by cases h), fun _ _ => hno, fun _ x hx => (by rw [hR2] at hx; cases hx)⟩, fun _ _ => ⟨⟨(by simp only; omega), ?_, fun h => (by cases h), fun _ _ => hR2, fun _ h9 => (by simp only at h9; rw [hno] at h9; cases h9)⟩, .inl hno⟩,
      fun _ _ => ⟨(by simp only; omega), ?_, fun h => (by cases h), fun _ _ => hR2, fun _ h9 => (by cases h9)⟩⟩
    · simp only [hno, if_true, List.length_append, List.length_singleton]; omega
    · simp only [if_true, List.length_append, List.length_singleton]; omega
  | some x =>
    obtain ⟨f, r⟩ := x
    obtain ⟨q1, q2, q3⟩ := h4 ho (f, r) hp
    have hs := polT_short k z.1 f r hp
    have hbr := bare_len r
    dsimp only at q2 q3
    have hR2 : rowL (polT k) (m + 1) z.1 z.2.2 = if begins (bare r) [41] = true then some (z.2.2 ++ [f], (bare r).drop 1) else if begins (bare r) [44] = true then rowL (polT k) m ((bare r).drop 1) (z.2.2 ++ [f]) else none := by
      conv => lhs; unfold rowL
      rw [hp]
    rw [hR2] at hR
    rw [q3, q1]
    rw [q2]
    refine ⟨fun hb1 => ?_, fun hb1 hb2 => ?_, fun hb1 hb2 => ?_⟩
    · have e : takeT y.1 [41] = (bare r).drop 1 := by rw [takeT_yes (by rw [q2]; exact hb1), q2]; rfl
      refine ⟨(by simp only; omega), fun h => (by cases h), fun _ hn => ?_, fun _ x hx => ?_⟩
      · rw [hR, if_pos hb1] at hn; cases hn
      · rw [hR, if_pos hb1] at hx
        cases hx
        exact ⟨rfl, e, rfl⟩
    · have e1 : takeT y.1 [41] = bare r := by rw [takeT_no (by rw [q2]; exact hb1), q2]
      rw [e1, bare_bare] at hb2
      have hbl := begins_len hb2
      have e2 : takeT (takeT y.1 [41]) [44] = (bare r).drop 1 := by rw [e1, takeT_yes (by rw [bare_bare]; exact hb2), bare_bare]; rfl
      have hl2 : ((bare r).drop 1).length < z.1.length := by rw [List.length_drop]; omega
      refine ⟨⟨(by simp only; omega), ?_, fun h => (by cases h), fun _ h9 => (by cases h9), fun _ _ => ⟨m, ?_, ?_⟩⟩, .inr (by rw [e2]; exact hl2)⟩
      · simp only [Bool.false_eq_true, if_false, List.length_append, List.length_singleton, e2]; omega
      · simp only [e2]; omega
      · rw [hR, if_neg hb1, if_pos hb2, e2]
    · have e1 : takeT y.1 [41] = bare r := by rw [takeT_no (by rw [q2]; exact hb1), q2]
      rw [e1, bare_bare] at hb2
      refine ⟨(by simp only; omega), ?_, fun h => (by cases h), fun _ _ => (by rw [hR, if_neg hb1, if_neg hb2]), fun _ h9 => (by cases h9)⟩
      simp only [if_true, List.length_append, List.length_singleton]; omega
end
/-! ### Policies -/
section
variable {k : Nat} {l : Txt} {odd : Bool} {y : Txt × Bool × Frm} {z : Txt × Bool × List Frm}
theorem PolR.deep : PolR 0 l odd (l, true, .mk 0 0 []) := ⟨Nat.le_refl _, fun _ => rfl, fun _ _ => rfl, fun _ x hx => (by cases hx)⟩
theorem PolR.was (h : odd = true) (f : Frm) : PolR k l odd (l, odd, f) := ⟨Nat.le_refl _, fun h => h, fun h2 => (by rw [h] at h2; cases h2), fun h2 => (by rw [h] at h2; cases h2)⟩
theorem PolR.all (h0 : odd = false) (hb : begins (bare l) [97, 108, 108] = true) (hz : RowF k (takeT l [97, 108, 108]) odd z) : PolR (k + 1) l odd (z.1, z.2.1, .mk 0 z.2.2.length z.2.2) := by
  obtain ⟨h1, h2, h3, h4⟩ := hz
  have ht := takeT_len l [97, 108, 108]
  have e : polT (k + 1) l = (rowT (polT k) (takeT l [97, 108, 108])).map fun x => (.mk 0 x.1.length x.1, x.2) := by
    conv => lhs; unfold polT
    rw [if_pos hb, takeT_yes hb]
    rfl
  refine ⟨(by simp only; omega), fun h => (by rw [h0] at h; cases h), fun _ hn => ?_, fun _ x hx => ?_⟩
  · cases hr : rowT (polT k) (takeT l [97, 108, 108]) with
    | none => exact h3 h0 hr
    | some x => rw [e, hr] at hn; cases hn
  · cases hr : rowT (polT k) (takeT l [97, 108, 108]) with
    | none => rw [e, hr] at hx; cases hx
    | some q =>
      rw [e, hr] at hx
      cases hx
      obtain ⟨r1, r2, r3⟩ := h4 h0 q hr
      exact ⟨r1, (by simp only [r2]), (by simp only [r3])⟩
theorem PolR.any (h0 : odd = false) (ha : ¬ begins (bare l) [97, 108, 108] = true) (hb : begins (bare l) [97, 110, 121] = true) (hz : RowF k (takeT (takeT l [97, 108, 108]) [97, 110, 121]) odd z) : PolR (k + 1) l odd (z.1, z.2.1, .mk 0 1 z.2.2) := by
  obtain ⟨h1, h2, h3, h4⟩ := hz
  have ht := takeT_len (takeT l [97, 108, 108]) [97, 110, 121]
  have ht2 := takeT_len l [97, 108, 108]
  have e0 : takeT l [97, 108, 108] = bare l := takeT_no ha
  have e1 : takeT (takeT l [97, 108, 108]) [97, 110, 121] = (bare l).drop 3 := by
    rw [e0, takeT_yes (by rw [bare_bare]; exact hb), bare_bare]
    rfl
  have e : polT (k + 1) l = (rowT (polT k) (takeT (takeT l [97, 108, 108]) [97, 110, 121])).map fun x => (.mk 0 1 x.1, x.2) := by
    conv => lhs; unfold polT
    rw [if_neg ha, if_pos hb, e1]
  refine ⟨(by simp only; omega), fun h => (by rw [h0] at h; cases h), fun _ hn => ?_, fun _ x hx => ?_⟩
  · cases hr : rowT (polT k) (takeT (takeT l [97, 108, 108]) [97, 110, 121]) with
    | none => exact h3 h0 hr
    | some x => rw [e, hr] at hn; cases hn
  · cases hr : rowT (polT k) (takeT (takeT l [97, 108, 108]) [97, 110, 121]) with
    | none => rw [e, hr] at hx; cases hx
    | some q =>
      rw [e, hr] at hx
      cases hx
      obtain ⟨r1, r2, r3⟩ := h4 h0 q hr
      exact ⟨r1, (by simp only [r2]), (by simp only [r3])⟩
/-- What is left behind 'all' and 'any', neither of which stands there. -/
theorem two_no (ha : ¬ begins (bare l) [97, 108, 108] = true) (hb : ¬ begins (bare (takeT l [97, 108, 108])) [97, 110, 121] = true) : takeT (takeT l [97, 108, 108]) [97, 110, 121] = bare l := by
  rw [takeT_no hb, takeT_no ha, bare_bare]
theorem numL_bare (l : Txt) (odd : Bool) : numL (bare l) = numL l ∧ numO (bare l) odd = numO l odd ∧ numV (bare l) = numV l := by
  unfold numL numO numV
  rw [bare_bare]
  exact ⟨rfl, rfl, rfl⟩
theorem numL_len (l : Txt) : (numL l).length ≤ l.length := by
  have hb := bare_len l
  unfold numL
  cases h : numT (bare l) with
  | none => exact hb
  | some x =>
    have := numT_short (v := x.1) (r := x.2) h
    show x.2.length ≤ _
    omega
theorem pol_num (ha : ¬ begins (bare l) [97, 108, 108] = true) (hb : ¬ begins (bare l) [97, 110, 121] = true) : polT (k + 1) l = match numT (bare l) with
    | none => none
    | some (v, r) => if begins (bare r) [111, 102] = true then (if 1 ≤ v ∧ v ≤ 99 then (rowT (polT k) ((bare r).drop 2)).map fun x => (.mk 0 v x.1, x.2) else none) else some (.mk v 0 [], r) := by
  conv => lhs; unfold polT
  rw [if_neg ha, if_neg hb]
  cases numT (bare l) with
  | none => rfl
  | some x => obtain ⟨v, r⟩ := x; rfl
/-- No number, or a number alone. -/
theorem PolR.org (h0 : odd = false) (ha : ¬ begins (bare l) [97, 108, 108] = true) (hb : ¬ begins (bare l) [97, 110, 121] = true) (hn : ¬ (numO l odd = false ∧ begins (bare (numL l)) [111, 102] = true)) (t : Txt) (ht : t = numL l ∨ t = bare (numL l)) :
    PolR (k + 1) l odd (t, numO l odd, .mk (numV l) 0 []) := by
  have e := pol_num (k := k) ha hb
  have hl := numL_len l
  have hbl := bare_len (numL l)
  have htl : t.length ≤ l.length := by rcases ht with rfl | rfl <;> omega
  have htb : bare t = bare (numL l) := by
    rcases ht with rfl | rfl
    · rfl
    · rw [bare_bare]
  cases hq : numT (bare l) with
  | none =>
    rw [hq] at e
    obtain ⟨q1, q2, q3⟩ := num_none hq odd
    exact ⟨htl, fun h => (by rw [h0] at h; cases h), fun _ _ => q2, fun _ x hx => (by rw [e] at hx; cases hx)⟩
  | some x =>
    obtain ⟨v, r⟩ := x
    rw [hq] at e
    obtain ⟨q1, q2, q3⟩ := num_some hq odd
    rw [q1, q2] at hn
    have hof : ¬ begins (bare r) [111, 102] = true := fun h => hn ⟨h0, h⟩
    dsimp only at e
    rw [if_neg hof] at e
    refine ⟨htl, fun h => (by rw [h0] at h; cases h), fun _ h => (by rw [e] at h; cases h), fun _ x hx => ?_⟩
    rw [e] at hx
    cases hx
    exact ⟨q2.trans h0, (by rw [htb, q1]), (by rw [q3])⟩
/-- So many of a row. -/
theorem PolR.of (h0 : odd = false) (ha : ¬ begins (bare l) [97, 108, 108] = true) (hb : ¬ begins (bare l) [97, 110, 121] = true) (hq : numO l odd = false) (hof : begins (bare (numL l)) [111, 102] = true) {o2 : Bool} (ho : o2 = (numO l odd || decide (numV l < 1 ∨ 99 < numV l)))
    (hz : RowF k (takeT (numL l) [111, 102]) o2 z) : PolR (k + 1) l odd (z.1, z.2.1, .mk 0 (numV l) z.2.2) := by
  have e := pol_num (k := k) ha hb
  have hl := numL_len l
  have ht := takeT_len (numL l) [111, 102]
  obtain ⟨h1, h2, h3, h4⟩ := hz
  cases hn : numT (bare l) with
  | none =>
    have := (num_none hn odd).2.1
    rw [hq] at this
    cases this
  | some x =>
    obtain ⟨v, r⟩ := x
    rw [hn] at e
    obtain ⟨q1, q2, q3⟩ := num_some hn odd
    rw [q1] at hof hl ht h1 h3 h4
    rw [hq, q3, Bool.false_or] at ho
    dsimp only at e
    rw [if_pos hof] at e
    have e2 : takeT r [111, 102] = (bare r).drop 2 := takeT_yes hof
    rw [e2] at h3 h4
    by_cases hv : 1 ≤ v ∧ v ≤ 99
    · rw [if_pos hv] at e
      have ho2 : o2 = false := by rw [ho]; exact decide_eq_false (by omega)
      refine ⟨(by simp only; omega), fun h => (by rw [h0] at h; cases h), fun _ hn2 => ?_, fun _ x hx => ?_⟩
      · cases hr : rowT (polT k) ((bare r).drop 2) with
        | none => exact h3 ho2 hr
        | some x => rw [e, hr] at hn2; cases hn2
      · cases hr : rowT (polT k) ((bare r).drop 2) with
        | none => rw [e, hr] at hx; cases hx
        | some q =>
          rw [e, hr] at hx
          cases hx
          obtain ⟨r1, r2, r3⟩ := h4 ho2 q hr
          exact ⟨r1, (by simp only [r2]), (by simp only [r3, q3])⟩
    · rw [if_neg hv] at e
      have ho2 : o2 = true := by rw [ho]; exact decide_eq_true (by omega)
      exact ⟨(by simp only; omega), fun h => (by rw [h0] at h; cases h), fun _ _ => h2 ho2, fun _ x hx => (by rw [e] at hx; cases hx)⟩
end
end Go.Proofs.YtnedfcaoggkmnaaGreatDoor.A
/-
  Policies' texts, plain: how many nodes, and what the whole text tells.
-/
set_option maxRecDepth 100000
set_option linter.unusedSimpArgs false
set_option linter.unusedVariables false
namespace Go.Proofs.YtnedfcaoggkmnaaGreatDoor.A
open Go.RowKit

theorem rowL_nodes {p : Txt → Option (Frm × Txt)} (hp : ∀ t f r, p t = some (f, r) → f.nodes + r.length ≤ t.length) : ∀ (n : Nat) (t : Txt) (acc l : List Frm) (r : Txt), rowL p n t acc = some (l, r) → Frm.nodess l + r.length ≤ Frm.nodess acc + t.length
  | 0, t, acc, l, r, h => by cases h
  | n + 1, t, acc, l, r, h => by
    unfold rowL at h
    cases hq : p t with
    | none => rw [hq] at h; cases h
    | some x =>
      obtain ⟨f, r1⟩ := x
      rw [hq] at h
      have h1 := hp t f r1 hq
      have h2 := bare_len r1
      have h4 : Frm.nodess (acc ++ [f]) = Frm.nodess acc + f.nodes := by rw [Frm.nodess_app, Frm.nodess_one]
      dsimp only at h
      split at h
      · cases h
        rw [List.length_drop]
        omega
      · split at h
        · have h3 := rowL_nodes hp n _ _ _ _ h
          rw [List.length_drop] at h3
          omega
        · cases h
theorem rowT_nodes {p : Txt → Option (Frm × Txt)} (hp : ∀ t f r, p t = some (f, r) → f.nodes + r.length ≤ t.length) {t : Txt} {l : List Frm} {r : Txt} (h : rowT p t = some (l, r)) : Frm.nodess l + r.length + 1 ≤ t.length := by
  unfold rowT at h
  split at h
  · next hb =>
    have h1 := rowL_nodes hp _ _ _ _ _ h
    have h2 := bare_len t
    have h3 := begins_len hb
    have h4 : Frm.nodess [] = 0 := rfl
    simp only [List.length_singleton] at h3
    rw [List.length_drop] at h1
    omega
  · cases h
theorem polT_nodes : ∀ k t f r, polT k t = some (f, r) → f.nodes + r.length ≤ t.length
  | 0, t, f, r, h => by cases h
  | k + 1, t, f, r, h => by
    have hb := bare_len t
    have hnn : Frm.nodess [] = 0 := rfl
    unfold polT at h
    split at h
    · next hs =>
      have hs3 := begins_len hs
      simp only [List.length_cons, List.length_nil] at hs3
      cases hr : rowT (polT k) ((bare t).drop 3) with
      | none => rw [hr] at h; cases h
      | some x =>
        rw [hr] at h
        cases h
        have h1 := rowT_nodes (polT_nodes k) hr
        rw [List.length_drop] at h1
        rw [Frm.nodes_mk]
        omega
    · split at h
      · next hs =>
        have hs3 := begins_len hs
        simp only [List.length_cons, List.length_nil] at hs3
        cases hr : rowT (polT k) ((bare t).drop 3) with
        | none => rw [hr] at h; cases h
        | some x =>
          rw [hr] at h
          cases h
          have h1 := rowT_nodes (polT_nodes k) hr
          rw [List.length_drop] at h1
          rw [Frm.nodes_mk]
          omega
      · cases hn : numT (bare t) with
        | none => rw [hn] at h; cases h
        | some x =>
          obtain ⟨v, r1⟩ := x
          rw [hn] at h
          dsimp only at h
          have h1 := numT_short hn
          have h2 := bare_len r1
          split at h
          · split at h
            · cases hr : rowT (polT k) ((bare r1).drop 2) with
              | none => rw [hr] at h; cases h
              | some x =>
                rw [hr] at h
                cases h
                have h3 := rowT_nodes (polT_nodes k) hr
                rw [List.length_drop] at h3
                rw [Frm.nodes_mk]
                omega
            · cases h
          · cases h
            rw [Frm.nodes_mk]
            omega
section
variable {l : Txt} {n : Int} {y : Txt × Bool × Frm}
theorem parse_long (h : 200 < l.length) : parseF l n = (.mk 0 0 [], 3) := if_pos h
theorem parse_odd (h : ¬ 200 < l.length) (hy : PolR 10 l false y) (ho : y.2.1 = true ∨ ¬ bare y.1 = []) : parseF l n = (.mk 0 0 [], 2) := by
  obtain ⟨_, _, h3, h4⟩ := hy
  unfold parseF
  rw [if_neg h]
  cases hp : polT 10 l with
  | none => rfl
  | some x =>
    obtain ⟨f, r⟩ := x
    obtain ⟨q1, q2, q3⟩ := h4 rfl _ hp
    dsimp only at q2 ⊢
    rcases ho with ho | ho
    · rw [q1] at ho; cases ho
    · rw [← q2, if_pos ho]
/-- A text that is read to its end. -/
theorem parse_end (h : ¬ 200 < l.length) (hy : PolR 10 l false y) (ho : y.2.1 = false) (hb : bare y.1 = []) : y.2.2.nodes ≤ l.length ∧ parseF l n = if y.2.2.check n ≠ 0 then (.mk 0 0 [], y.2.2.check n) else (y.2.2, 0) := by
  obtain ⟨_, _, h3, h4⟩ := hy
  unfold parseF
  rw [if_neg h]
  cases hp : polT 10 l with
  | none => have := h3 rfl hp; rw [ho] at this; cases this
  | some x =>
    obtain ⟨f, r⟩ := x
    obtain ⟨q1, q2, q3⟩ := h4 rfl _ hp
    have hn := polT_nodes 10 l f r hp
    dsimp only at q2 q3 ⊢
    rw [q3]
    refine ⟨by omega, ?_⟩
    rw [if_neg (by rw [← q2, hb]; simp)]
end
end Go.Proofs.YtnedfcaoggkmnaaGreatDoor.A
/-
  Policies' texts, plain: what the document's parser answers, step by step.
-/
set_option maxRecDepth 100000
set_option linter.unusedSimpArgs false
set_option linter.unusedVariables false
namespace Go.Proofs.YtnedfcaoggkmnaaGreatDoor.A
open Go.RowKit

/-- A number, as the document's parser answers. -/
def numF (t : Txt) : Int × Txt × Bool := match numT t with
  | none => (0, t, false)
  | some x => (((x.1 : Nat) : Int), x.2, true)
theorem numF_none {t : Txt} (h : numT t = none) : numF t = (0, t, false) := by unfold numF; rw [h]
theorem numF_some {t : Txt} {x : Nat × Txt} (h : numT t = some x) : numF t = (((x.1 : Nat) : Int), x.2, true) := by unfold numF; rw [h]
theorem numF_no {t : Txt} (h : (numF t).2.2 = false) : numT t = none := by
  cases hq : numT t with
  | none => rfl
  | some x => rw [numF_some hq] at h; cases h
theorem numF_ok {t : Txt} (h : (numF t).2.2 = true) : ∃ v : Nat, numT t = some (v, (numF t).2.1) ∧ (numF t).1 = (v : Int) ∧ (numF t).2.1.length < t.length ∧ v ≤ 9999 := by
  cases hq : numT t with
  | none => rw [numF_none hq] at h; cases h
  | some x =>
    obtain ⟨v, r⟩ := x
    rw [numF_some hq]
    exact ⟨v, rfl, rfl, numT_short hq, numT_le hq⟩
theorem decV_few {l : Txt} {z : Nat} (h : ∀ j (hj : j < l.length), j < z → isDig l[j] = true) : decV (l.take (min z 5)) < 100000 := by
  have h1 := decV_lt (l.take (min z 5)) fun c hc => by
    obtain ⟨j, hj, rfl⟩ := List.getElem_of_mem hc
    rw [List.length_take] at hj
    rw [List.getElem_take]
    exact h j (by omega) (by omega)
  have h2 : 10 ^ (l.take (min z 5)).length ≤ 10 ^ 5 := Nat.pow_le_pow_right (by omega) (by rw [List.length_take]; omega)
  omega
theorem decV_next {l : Txt} {z : Nat} (hq : z < l.length) (h5 : z < 5) : decV (l.take (min (z + 1) 5)) = decV (l.take (min z 5)) * 10 + (l[z].toNat - 48) := by
  rw [Nat.min_eq_left (by omega), Nat.min_eq_left (by omega), List.take_succ_eq_append_getElem hq, decV_snoc]
theorem digs_first {l : Txt} (h : 0 < (digs l).length) (hq : 0 < l.length) : (digs l).head? = some (l[0]'hq) := by
  cases l with
  | nil => simp at hq
  | cons c t =>
    unfold digs at h ⊢
    rw [List.takeWhile_cons] at h ⊢
    split at h
    · next hd => rw [if_pos hd]; rfl
    · simp at h
/-- What the document's parser answers of a policy. -/
def DocP (k : Nat) (l : Txt) (z : Frm × Txt × Bool) : Prop := (polT k l = none → z.2.2 = false) ∧ ∀ x, polT k l = some x → z = (x.1, x.2, true)
def DocR (k : Nat) (l : Txt) (z : List Frm × Txt × Bool) : Prop := (rowT (polT k) l = none → z.2.2 = false) ∧ ∀ x, rowT (polT k) l = some x → z = (x.1, x.2, true)
section
variable {k : Nat} {l : Txt} {y : Frm × Txt × Bool} {w : List Frm × Txt × Bool} {z : Txt × List Frm}
theorem DocP.no (h : DocP k l y) (ho : y.2.2 = false) : polT k l = none := by
  cases hq : polT k l with
  | none => rfl
  | some x => rw [h.2 x hq] at ho; cases ho
theorem DocP.get (h : DocP k l y) (ho : y.2.2 = true) : polT k l = some (y.1, y.2.1) := by
  cases hq : polT k l with
  | none => rw [h.1 hq] at ho; cases ho
  | some x => rw [h.2 x hq]
theorem DocR.no (h : DocR k l w) (ho : w.2.2 = false) : rowT (polT k) l = none := by
  cases hq : rowT (polT k) l with
  | none => rfl
  | some x => rw [h.2 x hq] at ho; cases ho
theorem DocR.get (h : DocR k l w) (ho : w.2.2 = true) : rowT (polT k) l = some (w.1, w.2.1) := by
  cases hq : rowT (polT k) l with
  | none => rw [h.1 hq] at ho; cases ho
  | some x => rw [h.2 x hq]
theorem DocR.of_none (h : rowT (polT k) l = none) (t : Txt) : DocR k l ([], t, false) := ⟨fun _ => rfl, fun x hx => (by rw [h] at hx; cases hx)⟩
theorem DocR.of_some {a : List Frm} {b : Txt} (h : rowT (polT k) l = some (a, b)) : DocR k l (a, b, true) := ⟨fun hx => (by rw [h] at hx; cases hx), fun x hx => (by rw [h] at hx; cases hx; rfl)⟩
theorem DocP.of_none (h : polT k l = none) (hy : y.2.2 = false) : DocP k l y := ⟨fun _ => hy, fun x hx => (by rw [h] at hx; cases hx)⟩
theorem DocP.of_some {a : Frm} {b : Txt} (h : polT k l = some (a, b)) : DocP k l (a, b, true) := ⟨fun hx => (by rw [h] at hx; cases hx), fun x hx => (by rw [h] at hx; cases hx; rfl)⟩
/-- At the head of a round: the text begins with a bracket or a comma. -/
structure DocI (k : Nat) (l : Txt) (z : Txt × List Frm) : Prop where
  pos : 1 ≤ z.1.length
  len : z.1.length ≤ l.length
  few : z.2.length + z.1.length ≤ l.length + 1
  go : ∃ F, z.1.length ≤ F ∧ rowT (polT k) l = rowL (polT k) F (z.1.drop 1) z.2
theorem DocI.start (h : begins (bare l) [40] = true) : DocI k l (bare l, []) := by
  have h1 := begins_len h
  have h2 := bare_len l
  refine ⟨h1, h2, (by simp only [List.length_nil]; omega), l.length + 1, (by simp only; omega), ?_⟩
  unfold rowT
  rw [if_pos h]
theorem DocI.more (h : DocI k l z) : ∃ m, z.1.length ≤ m + 1 ∧ rowT (polT k) l = match polT k (z.1.drop 1) with
    | none => none
    | some (f, r) => if begins (bare r) [41] = true then some (z.2 ++ [f], (bare r).drop 1) else if begins (bare r) [44] = true then rowL (polT k) m ((bare r).drop 1) (z.2 ++ [f]) else none := by
  obtain ⟨F, hF, hR⟩ := h.go
  have hp := h.pos
  obtain ⟨m, rfl⟩ : ∃ m, F = m + 1 := ⟨F - 1, (by omega)⟩
  refine ⟨m, hF, hR.trans ?_⟩
  conv => lhs; unfold rowL
  cases polT k (z.1.drop 1) with
  | none => rfl
  | some x => obtain ⟨f, r⟩ := x; rfl
theorem DocI.no (h : DocI k l z) (hy : DocP k (z.1.drop 1) y) (ho : y.2.2 = false) : rowT (polT k) l = none := by
  obtain ⟨m, _, hR⟩ := h.more
  rw [hR, hy.no ho]
theorem DocI.done (h : DocI k l z) (hy : DocP k (z.1.drop 1) y) (ho : y.2.2 = true) (hb : begins (bare y.2.1) [41] = true) : rowT (polT k) l = some (z.2 ++ [y.1], (bare y.2.1).drop 1) := by
  obtain ⟨m, _, hR⟩ := h.more
  rw [hR, hy.get ho]
  exact if_pos hb
theorem DocI.bad (h : DocI k l z) (hy : DocP k (z.1.drop 1) y) (ho : y.2.2 = true) (hb : ¬ begins (bare y.2.1) [41] = true) (hc : ¬ begins (bare y.2.1) [44] = true) : rowT (polT k) l = none := by
  obtain ⟨m, _, hR⟩ := h.more
  rw [hR, hy.get ho]
  exact (if_neg hb).trans (if_neg hc)
theorem DocI.step (h : DocI k l z) (hy : DocP k (z.1.drop 1) y) (ho : y.2.2 = true) (hb : ¬ begins (bare y.2.1) [41] = true) (hc : begins (bare y.2.1) [44] = true) : DocI k l (bare y.2.1, z.2 ++ [y.1]) ∧ (bare y.2.1).length < z.1.length := by
  obtain ⟨m, hm, hR⟩ := h.more
  have hg := hy.get ho
  have hs := polT_short k _ _ _ hg
  rw [List.length_drop] at hs
  have hbl := bare_len y.2.1
  have hp := h.pos
  have hl := h.len
  have hf := h.few
  have hcl := begins_len hc
  simp only [List.length_singleton] at hcl
  rw [hg] at hR
  refine ⟨⟨hcl, (by simp only; omega), (by simp only [List.length_append, List.length_singleton]; omega), m, (by simp only; omega), ?_⟩, (by omega)⟩
  rw [hR]
  exact (if_neg hb).trans (if_pos hc)
/-! ### Policies -/
theorem DocP.deep (hy : y.2.2 = false) : DocP 0 l y := DocP.of_none rfl hy
theorem DocP.all (hb : begins (bare l) [97, 108, 108] = true) (hw : DocR k ((bare l).drop 3) w) : DocP (k + 1) l (.mk 0 w.1.length w.1, w.2.1, w.2.2) := by
  have e : polT (k + 1) l = (rowT (polT k) ((bare l).drop 3)).map fun x => (.mk 0 x.1.length x.1, x.2) := by
    conv => lhs; unfold polT
    rw [if_pos hb]
  cases hq : rowT (polT k) ((bare l).drop 3) with
  | none => rw [hq] at e; exact DocP.of_none e (hw.1 hq)
  | some x => rw [hq] at e; rw [hw.2 x hq]; exact DocP.of_some e
theorem DocP.any (ha : ¬ begins (bare l) [97, 108, 108] = true) (hb : begins (bare l) [97, 110, 121] = true) (hw : DocR k ((bare l).drop 3) w) : DocP (k + 1) l (.mk 0 1 w.1, w.2.1, w.2.2) := by
  have e : polT (k + 1) l = (rowT (polT k) ((bare l).drop 3)).map fun x => (.mk 0 1 x.1, x.2) := by
    conv => lhs; unfold polT
    rw [if_neg ha, if_pos hb]
  cases hq : rowT (polT k) ((bare l).drop 3) with
  | none => rw [hq] at e; exact DocP.of_none e (hw.1 hq)
  | some x => rw [hq] at e; rw [hw.2 x hq]; exact DocP.of_some e
theorem DocP.bad (ha : ¬ begins (bare l) [97, 108, 108] = true) (hb : ¬ begins (bare l) [97, 110, 121] = true) (hn : (numF (bare l)).2.2 = false) (hy : y.2.2 = false) : DocP (k + 1) l y :=
  DocP.of_none (by rw [pol_num ha hb, numF_no hn]) hy
theorem DocP.org (ha : ¬ begins (bare l) [97, 108, 108] = true) (hb : ¬ begins (bare l) [97, 110, 121] = true) (hn : (numF (bare l)).2.2 = true) (hof : ¬ begins (bare (numF (bare l)).2.1) [111, 102] = true) : DocP (k + 1) l (.mk (numF (bare l)).1 0 [], (numF (bare l)).2.1, true) := by
  obtain ⟨v, h1, h2, _⟩ := numF_ok hn
  refine DocP.of_some ?_
  rw [pol_num ha hb, h1, h2]
  exact if_neg hof
theorem DocP.of (ha : ¬ begins (bare l) [97, 108, 108] = true) (hb : ¬ begins (bare l) [97, 110, 121] = true) (hn : (numF (bare l)).2.2 = true) (hof : begins (bare (numF (bare l)).2.1) [111, 102] = true) (hw : DocR k ((bare (numF (bare l)).2.1).drop 2) w) {o : Bool}
    (ho : o = true ↔ w.2.2 = true ∧ 1 ≤ (numF (bare l)).1 ∧ (numF (bare l)).1 ≤ 99) : DocP (k + 1) l (.mk 0 (numF (bare l)).1 w.1, w.2.1, o) := by
  obtain ⟨v, h1, h2, _⟩ := numF_ok hn
  rw [h2] at ho ⊢
  have e := pol_num (k := k) ha hb
  rw [h1] at e
  dsimp only at e
  rw [if_pos hof] at e
  by_cases hv : 1 ≤ v ∧ v ≤ 99
  · rw [if_pos hv] at e
    cases hq : rowT (polT k) ((bare (numF (bare l)).2.1).drop 2) with
    | none =>
      rw [hq] at e
      refine DocP.of_none e ?_
      have := hw.1 hq
      cases o with
      | false => rfl
      | true => rw [(ho.1 rfl).1] at this; cases this
    | some x =>
      rw [hq] at e
      have hx := hw.2 x hq
      have ho2 : o = true := ho.2 ⟨(by rw [hx]), (by omega), (by omega)⟩
      rw [ho2, hx]
      exact DocP.of_some e
  · rw [if_neg hv] at e
    refine DocP.of_none e ?_
    cases o with
    | false => rfl
    | true => have := ho.1 rfl; exact absurd ⟨(by omega), (by omega)⟩ hv
theorem doc_odd {n : Int} (h : ¬ 200 < l.length) (hy : DocP 10 l y) (ho : y.2.2 = false ∨ ¬ bare y.2.1 = []) : parseF l n = (.mk 0 0 [], 2) := by
  unfold parseF
  rw [if_neg h]
  cases hq : polT 10 l with
  | none => rfl
  | some x =>
    obtain ⟨f, r⟩ := x
    rw [hy.2 _ hq] at ho
    rcases ho with ho | ho
    · cases ho
    · exact if_pos ho
theorem doc_end {n : Int} (h : ¬ 200 < l.length) (hy : DocP 10 l y) (ho : y.2.2 = true) (hb : bare y.2.1 = []) : y.1.nodes ≤ l.length ∧ parseF l n = if y.1.check n ≠ 0 then (.mk 0 0 [], y.1.check n) else (y.1, 0) := by
  have hg := hy.get ho
  have hn := polT_nodes 10 _ _ _ hg
  refine ⟨(by omega), ?_⟩
  unfold parseF
  rw [if_neg h, hg]
  exact if_neg (by rw [hb]; simp)
end
end Go.Proofs.YtnedfcaoggkmnaaGreatDoor.A
/-
  Policies' texts: the document's parser.
-/
set_option maxRecDepth 100000
set_option linter.unusedSimpArgs false
set_option linter.unusedVariables false
namespace Go.Proofs.YtnedfcaoggkmnaaGreatDoor.A
open Go.RowKit

section
variable {l wd : Txt} {k : Nat} {d n : Int}
theorem cut_digs {z : Nat} (h : ∀ j (hj : j < l.length), j < z → isDig l[j] = true) (hz : z ≤ l.length) (hs : ∀ hq : z < l.length, ¬ isDig (l[z]'hq) = true) : z = (digs l).length := by
  rcases Nat.lt_or_ge z l.length with h1 | h1
  · exact (digs_stop h1 h (hs h1)).symm
  · exact ((digs_all fun j hj => h j hj (by omega)).trans (by omega)).symm
set_option maxHeartbeats 2000000 in
theorem rnumber_s (hl : l.length ≤ 100000) : Spec Tryz.prog 83 [stA l] [] (fun _ : Unit => []) (fun _ => .tup [int (numF l).1, stA (numF l).2.1, boo (numF l).2.2]) := by
  have hdl := digs_len l
  refine spec_of Tryz.func83 rfl Tryz.ntmps83 rfl fun G w => ?_
  refine SC.seq (SC.region ?_)
  refine SL.val (Val.assign rfl) rfl rfl ?_
  refine SL.val (Val.assign rfl) rfl rfl ?_
  refine SL.val (Val.assign rfl) rfl rfl ?_
  refine SL.nil (SE.seq ?_)
  refine SC.seq (SC.region ?_)
  refine SL.val (Val.assign rfl) rfl rfl ?_
  refine SL.val (Val.assign rfl) rfl rfl ?_
  refine SL.nil (SE.seq ?_)
  refine SC.cutS (ι := Unit) (fun z => []) (fun z => [(0, stA l), (5, int ((digs l).length : Nat)), (6, int (decV (l.take (min (digs l).length 5)) : Nat))]) (fun z => True) ?_ ?_
  · skip
    refine SC.block ?_
    refine SC.loop (ι := Nat) (fun z => []) (fun z => [(0, stA l), (5, int (z : Nat)), (6, int (decV (l.take (min z 5)) : Nat))]) (fun z => z ≤ l.length ∧ ∀ j (hj : j < l.length), j < z → isDig l[j] = true) (fun z => l.length - z) (0) (⟨Nat.zero_le _, fun j _ h => absurd h (by omega)⟩) (by exact ⟨rfl, rfl, rfl, trivial⟩) (by repeat first|exact s0 _|exact s1 _|apply s2|apply s3) ?_
    intro z hz
    refine SC.seq ?_
    refine SC.seq (SC.region ?_)
    refine SL.val (Val.move rfl) rfl rfl ?_
    refine SL.val (Val.move rfl) rfl rfl ?_
    refine SL.val (Val.to (C := int ((l.length : Nat) : Int)) (Val.lenSt rfl Tryz.underlying9) rfl) rfl rfl ?_
    refine SL.val (Val.ltI rfl rfl) rfl rfl ?_
    refine SL.val (Val.move rfl) rfl rfl ?_
    refine SL.bothP (t := 11) rfl ?_ ?_
    rotate_left
    · intro hc11
      iterate 4 refine SL.skip rfl rfl ?_
      refine SL.val (Val.pickF rfl rfl) rfl rfl ?_
      refine SL.val (Val.move rfl) rfl rfl ?_
      iterate 4 refine SL.skip rfl rfl ?_
      refine SL.val (Val.pickF rfl rfl) rfl rfl ?_
      refine SL.nil (SE.seq ?_)
      refine SC.condF rfl ?_
      refine SC.exit ?_
      refine SE.then_ (by intro h; cases h) ?_
      refine SE.then_ (by intro h; cases h) ?_
      refine SE.exit ?_
      have hdz := cut_digs hz.2 hz.1 fun hq2 hdd => by
        have h3 := of_decide_eq_true (show decide (48 ≤ (l[z]'hq2).toNat ∧ (l[z]'hq2).toNat ≤ 57) = true from hdd)
        omega
      refine SE.meet (()) (trivial) (by exact ⟨rfl, congrArg (fun k : Nat => some (int (k : Nat))) hdz, congrArg (fun k : Nat => some (int (decV (l.take (min k 5)) : Nat))) hdz, trivial⟩) (by repeat first|exact s0 _|exact s1 _|apply s2|apply s3)
    intro hc11
    have hq : z < l.length := by omega
    refine SL.val (Val.move rfl) rfl rfl ?_
    refine SL.val (Val.move rfl) rfl rfl ?_
    refine SL.val (Val.to (C := .v (.int .u8 ((l[z]'hq).toNat : Nat))) (Val.indexSt (s := ⟨l.toArray⟩) (q := z) rfl rfl rfl hq Tryz.underlying9) rfl) rfl rfl ?_
    refine SL.val (Val.geI rfl rfl) rfl rfl ?_
    refine SL.val (Val.pickT rfl rfl) rfl rfl ?_
    refine SL.val (Val.move rfl) rfl rfl ?_
    refine SL.bothP (t := 17) rfl ?_ ?_
    rotate_left
    · intro hc17
      iterate 4 refine SL.skip rfl rfl ?_
      refine SL.val (Val.pickF rfl rfl) rfl rfl ?_
      refine SL.nil (SE.seq ?_)
      refine SC.condF rfl ?_
      refine SC.exit ?_
      refine SE.then_ (by intro h; cases h) ?_
      refine SE.then_ (by intro h; cases h) ?_
      refine SE.exit ?_
      have hdz := cut_digs hz.2 hz.1 fun hq2 hdd => by
        have h3 := of_decide_eq_true (show decide (48 ≤ (l[z]'hq2).toNat ∧ (l[z]'hq2).toNat ≤ 57) = true from hdd)
        omega
      refine SE.meet (()) (trivial) (by exact ⟨rfl, congrArg (fun k : Nat => some (int (k : Nat))) hdz, congrArg (fun k : Nat => some (int (decV (l.take (min k 5)) : Nat))) hdz, trivial⟩) (by repeat first|exact s0 _|exact s1 _|apply s2|apply s3)
    intro hc17
    refine SL.val (Val.move rfl) rfl rfl ?_
    refine SL.val (Val.move rfl) rfl rfl ?_
    refine SL.val (Val.to (C := .v (.int .u8 ((l[z]'hq).toNat : Nat))) (Val.indexSt (s := ⟨l.toArray⟩) (q := z) rfl rfl rfl hq Tryz.underlying9) rfl) rfl rfl ?_
    refine SL.val (Val.leI rfl rfl) rfl rfl ?_
    refine SL.val (Val.pickT rfl rfl) rfl rfl ?_
    refine SL.nil (SE.seq ?_)
    refine SC.condP rfl ?_ ?_
    rotate_left
    · intro hc22
      refine SC.exit ?_
      refine SE.then_ (by intro h; cases h) ?_
      refine SE.then_ (by intro h; cases h) ?_
      refine SE.exit ?_
      have hdz := cut_digs hz.2 hz.1 fun hq2 hdd => by
        have h3 := of_decide_eq_true (show decide (48 ≤ (l[z]'hq2).toNat ∧ (l[z]'hq2).toNat ≤ 57) = true from hdd)
        omega
      refine SE.meet (()) (trivial) (by exact ⟨rfl, congrArg (fun k : Nat => some (int (k : Nat))) hdz, congrArg (fun k : Nat => some (int (decV (l.take (min k 5)) : Nat))) hdz, trivial⟩) (by repeat first|exact s0 _|exact s1 _|apply s2|apply s3)
    intro hc22
    have hdv : decV (l.take (min z 5)) < 100000 := decV_few hz.2
    have h8 := (l[z]'hq).toNat_lt
    refine SC.skip ?_
    refine SE.seq ?_
    refine SC.block ?_
    refine SC.seq ?_
    refine SC.seq (SC.region ?_)
    refine SL.val (Val.move rfl) rfl rfl ?_
    refine SL.val (Val.ltI rfl rfl) rfl rfl ?_
    refine SL.nil (SE.seq ?_)
    refine SC.condP rfl ?_ ?_
    rotate_left
    · intro hc24
      refine SC.skip ?_
      refine SE.seq ?_
      refine SC.region ?_
      refine SL.val (Val.move rfl) rfl rfl ?_
      first
        | refine SL.val (Val.addI rfl rfl (by simp only [InR, lo, hi]; omega)) rfl rfl ?_
        | refine SL.val (Val.addW rfl rfl) rfl rfl ?_
      refine SL.val (Val.assign rfl) rfl rfl ?_
      refine SL.nil ?_
      refine SE.inBlock ?_
      have hdd : isDig (l[z]'hq) = true := decide_eq_true (by omega)
      have hnx : min (z + 1) 5 = min z 5 := by omega
      refine SE.round (z + 1) (by first | omega | (dsimp only; omega)) (⟨hq, fun j hj h => by rcases Nat.lt_or_ge j z with h1 | h1; exact hz.2 j hj h1; obtain rfl : j = z := (by omega); exact hdd⟩) (by exact ⟨rfl, rfl, congrArg (fun x : Nat => some (int (x : Nat))) (by rw [hnx]), trivial⟩) (by repeat first|exact s0 _|exact s1 _|apply s2|apply s3)
    intro hc24
    refine SC.region ?_
    refine SL.val (Val.move rfl) rfl rfl ?_
    first
      | refine SL.val (Val.mulI rfl rfl (by simp only [InR, lo, hi]; omega)) rfl rfl ?_
      | refine SL.val (Val.mulW rfl rfl) rfl rfl ?_
    refine SL.val (Val.move rfl) rfl rfl ?_
    refine SL.val (Val.move rfl) rfl rfl ?_
    refine SL.val (Val.to (C := .v (.int .u8 ((l[z]'hq).toNat : Nat))) (Val.indexSt (s := ⟨l.toArray⟩) (q := z) rfl rfl rfl hq Tryz.underlying9) rfl) rfl rfl ?_
    first
      | refine SL.val (Val.subI rfl rfl (by simp only [InR, lo, hi]; omega)) rfl rfl ?_
      | refine SL.val (Val.subW rfl rfl) rfl rfl ?_
    first
      | refine SL.val (Val.convI rfl Tryz.underlying3 (by kernel_rfl) (by simp only [InR, lo, hi]; omega)) rfl rfl ?_
      | refine SL.val (Val.convW rfl Tryz.underlying3 (by kernel_rfl)) rfl rfl ?_
    first
      | refine SL.val (Val.addI rfl rfl (by simp only [InR, lo, hi]; omega)) rfl rfl ?_
      | refine SL.val (Val.addW rfl rfl) rfl rfl ?_
    refine SL.val (Val.assign rfl) rfl rfl ?_
    refine SL.nil (SE.seq ?_)
    refine SC.region ?_
    refine SL.val (Val.move rfl) rfl rfl ?_
    first
      | refine SL.val (Val.addI rfl rfl (by simp only [InR, lo, hi]; omega)) rfl rfl ?_
      | refine SL.val (Val.addW rfl rfl) rfl rfl ?_
    refine SL.val (Val.assign rfl) rfl rfl ?_
    refine SL.nil ?_
    refine SE.inBlock ?_
    have hdd : isDig (l[z]'hq) = true := decide_eq_true (by omega)
    have hnx := decV_next hq (by omega)
    refine SE.round (z + 1) (by first | omega | (dsimp only; omega)) (⟨hq, fun j hj h => by rcases Nat.lt_or_ge j z with h1 | h1; exact hz.2 j hj h1; obtain rfl : j = z := (by omega); exact hdd⟩) (by exact ⟨rfl, rfl, congrArg (fun x : Int => some (int x)) (by rw [hnx]; omega), trivial⟩) (by repeat first|exact s0 _|exact s1 _|apply s2|apply s3)
  · intro z hz
    refine SC.seq ?_
    refine SC.seq (SC.region ?_)
    refine SL.val (Val.move rfl) rfl rfl ?_
    refine SL.val (Val.eqI rfl rfl) rfl rfl ?_
    refine SL.val (Val.move rfl) rfl rfl ?_
    refine SL.bothP (t := 37) rfl ?_ ?_
    · intro hc37
      iterate 2 refine SL.skip rfl rfl ?_
      refine SL.val (Val.pickT rfl rfl) rfl rfl ?_
      refine SL.val (Val.move rfl) rfl rfl ?_
      iterate 7 refine SL.skip rfl rfl ?_
      refine SL.val (Val.pickT rfl rfl) rfl rfl ?_
      refine SL.nil (SE.seq ?_)
      refine SC.condT rfl ?_
      refine SC.seq (SC.region ?_)
      refine SL.val (Val.move rfl) rfl rfl ?_
      refine SL.val (Val.assign rfl) rfl rfl ?_
      refine SL.val (Val.assign rfl) rfl rfl ?_
      refine SL.val (Val.assign rfl) rfl rfl ?_
      refine SL.nil (SE.seq ?_)
      refine SC.ret ?_
      refine SE.then_ (by intro h; cases h) ?_
      have hnn : numT l = none := by
        refine if_pos ?_
        first
          | exact .inl (by omega)
          | exact .inr (.inl (by omega))
          | exact .inr (.inr ⟨by omega, by rw [hdf]; exact congrArg some (UInt8.toNat_inj.1 (by show _ = 48; omega))⟩)
      refine SE.fin (rs := [.tmp 2, .tmp 3, .tmp 4]) rfl (RV.tmp rfl (RV.tmp rfl (RV.tmp rfl RV.nil))) (()) (by repeat first|exact s0 _|exact s1 _|apply s2|apply s3) (by simp [It.rids]) ?_
      rw [numF_none hnn]
      rfl
    intro hc37
    have hq0 : 0 < l.length := by omega
    have hdf := digs_first (l := l) (by omega) hq0
    refine SL.val (Val.move rfl) rfl rfl ?_
    refine SL.val (Val.gtI rfl rfl) rfl rfl ?_
    refine SL.val (Val.pickF rfl rfl) rfl rfl ?_
    refine SL.val (Val.move rfl) rfl rfl ?_
    refine SL.bothP (t := 41) rfl ?_ ?_
    · intro hc41
      iterate 7 refine SL.skip rfl rfl ?_
      refine SL.val (Val.pickT rfl rfl) rfl rfl ?_
      refine SL.nil (SE.seq ?_)
      refine SC.condT rfl ?_
      refine SC.seq (SC.region ?_)
      refine SL.val (Val.move rfl) rfl rfl ?_
      refine SL.val (Val.assign rfl) rfl rfl ?_
      refine SL.val (Val.assign rfl) rfl rfl ?_
      refine SL.val (Val.assign rfl) rfl rfl ?_
      refine SL.nil (SE.seq ?_)
      refine SC.ret ?_
      refine SE.then_ (by intro h; cases h) ?_
      have hnn : numT l = none := by
        refine if_pos ?_
        first
          | exact .inl (by omega)
          | exact .inr (.inl (by omega))
          | exact .inr (.inr ⟨by omega, by rw [hdf]; exact congrArg some (UInt8.toNat_inj.1 (by show _ = 48; omega))⟩)
      refine SE.fin (rs := [.tmp 2, .tmp 3, .tmp 4]) rfl (RV.tmp rfl (RV.tmp rfl (RV.tmp rfl RV.nil))) (()) (by repeat first|exact s0 _|exact s1 _|apply s2|apply s3) (by simp [It.rids]) ?_
      rw [numF_none hnn]
      rfl
    intro hc41
    refine SL.val (Val.move rfl) rfl rfl ?_
    refine SL.val (Val.gtI rfl rfl) rfl rfl ?_
    refine SL.val (Val.move rfl) rfl rfl ?_
    refine SL.bothP (t := 44) rfl ?_ ?_
    rotate_left
    · intro hc44
      iterate 3 refine SL.skip rfl rfl ?_
      refine SL.val (Val.pickF rfl rfl) rfl rfl ?_
      refine SL.val (Val.pickF rfl rfl) rfl rfl ?_
      refine SL.nil (SE.seq ?_)
      refine SC.condF rfl ?_
      refine SC.skip ?_
      refine SE.seq ?_
      refine SC.seq ?_
      refine SC.draw [] (.q 0 (.q 1 (.q 2 (.q 3 (.q 4 (.q 5 (.q 6 .nil))))))) (by kernel_rfl) (by kernel_rfl) ?_
      refine SX.val rfl (Val.move rfl) (by simp) rfl rfl ?_
      refine SX.val rfl (Val.move rfl) (by simp) rfl rfl ?_
      refine SX.val rfl (Val.move rfl) (by simp) rfl rfl ?_
      refine SX.hx (by first|(simp[mids,It.mids,ownPc];done)|(intro k hk;simp[mids,It.mids,ownPc] at hk ⊢;grind)) fun hx9 => ?_
      refine SX.val rfl (Val.to (C := stA (l.drop (digs l).length)) (Val.sliceStLo (q := (digs l).length) Tryz.underlying9 rfl rfl rfl (by simp only [tx_size]; omega)) (st_lo _ _)) hx9 rfl rfl ?_
      refine SX.val rfl (Val.assign rfl) (by simp) rfl rfl ?_
      refine SX.val rfl (Val.assign rfl) (by simp) rfl rfl ?_
      refine SX.val rfl (Val.assign rfl) (by simp) rfl rfl ?_
      refine SX.nil (SE.seq ?_)
      refine SC.ret ?_
      have hnn : numT l = some (decV (digs l), l.drop (digs l).length) := if_neg (by
        rintro (h | h | ⟨h1, h2⟩)
        · omega
        · omega
        · first
            | omega
            | (rw [hdf] at h2; have h3 := congrArg UInt8.toNat (Option.some.inj h2); have h4 : (48 : UInt8).toNat = 48 := rfl; omega))
      refine SE.fin (rs := [.tmp 2, .tmp 3, .tmp 4]) rfl (RV.tmp rfl (RV.tmp rfl (RV.tmp rfl RV.nil))) (()) (by repeat first|exact s0 _|exact s1 _|apply s2|apply s3) (by simp [It.rids]) ?_
      rw [numF_some hnn, Nat.min_eq_left (show (digs l).length ≤ 5 by omega), take_digs]
      rfl
    intro hc44
    refine SL.val (Val.move rfl) rfl rfl ?_
    refine SL.val (Val.to (C := .v (.int .u8 ((l[0]'hq0).toNat : Nat))) (Val.indexSt (s := ⟨l.toArray⟩) (q := 0) rfl rfl rfl hq0 Tryz.underlying9) rfl) rfl rfl ?_
    refine SL.val (Val.eqI rfl rfl) rfl rfl ?_
    refine SL.val (Val.pickT rfl rfl) rfl rfl ?_
    refine SL.val (Val.pickF rfl rfl) rfl rfl ?_
    refine SL.nil (SE.seq ?_)
    refine SC.condP rfl ?_ ?_
    · intro hc49
      refine SC.seq (SC.region ?_)
      refine SL.val (Val.move rfl) rfl rfl ?_
      refine SL.val (Val.assign rfl) rfl rfl ?_
      refine SL.val (Val.assign rfl) rfl rfl ?_
      refine SL.val (Val.assign rfl) rfl rfl ?_
      refine SL.nil (SE.seq ?_)
      refine SC.ret ?_
      refine SE.then_ (by intro h; cases h) ?_
      have hnn : numT l = none := by
        refine if_pos ?_
        first
          | exact .inl (by omega)
          | exact .inr (.inl (by omega))
          | exact .inr (.inr ⟨by omega, by rw [hdf]; exact congrArg some (UInt8.toNat_inj.1 (by show _ = 48; omega))⟩)
      refine SE.fin (rs := [.tmp 2, .tmp 3, .tmp 4]) rfl (RV.tmp rfl (RV.tmp rfl (RV.tmp rfl RV.nil))) (()) (by repeat first|exact s0 _|exact s1 _|apply s2|apply s3) (by simp [It.rids]) ?_
      rw [numF_none hnn]
      rfl
    intro hc49
    refine SC.skip ?_
    refine SE.seq ?_
    refine SC.seq ?_
    refine SC.draw [] (.q 0 (.q 1 (.q 2 (.q 3 (.q 4 (.q 5 (.q 6 .nil))))))) (by kernel_rfl) (by kernel_rfl) ?_
    refine SX.val rfl (Val.move rfl) (by simp) rfl rfl ?_
    refine SX.val rfl (Val.move rfl) (by simp) rfl rfl ?_
    refine SX.val rfl (Val.move rfl) (by simp) rfl rfl ?_
    refine SX.hx (by first|(simp[mids,It.mids,ownPc];done)|(intro k hk;simp[mids,It.mids,ownPc] at hk ⊢;grind)) fun hx9 => ?_
    refine SX.val rfl (Val.to (C := stA (l.drop (digs l).length)) (Val.sliceStLo (q := (digs l).length) Tryz.underlying9 rfl rfl rfl (by simp only [tx_size]; omega)) (st_lo _ _)) hx9 rfl rfl ?_
    refine SX.val rfl (Val.assign rfl) (by simp) rfl rfl ?_
    refine SX.val rfl (Val.assign rfl) (by simp) rfl rfl ?_
    refine SX.val rfl (Val.assign rfl) (by simp) rfl rfl ?_
    refine SX.nil (SE.seq ?_)
    refine SC.ret ?_
    have hnn : numT l = some (decV (digs l), l.drop (digs l).length) := if_neg (by
      rintro (h | h | ⟨h1, h2⟩)
      · omega
      · omega
      · first
          | omega
          | (rw [hdf] at h2; have h3 := congrArg UInt8.toNat (Option.some.inj h2); have h4 : (48 : UInt8).toNat = 48 := rfl; omega))
    refine SE.fin (rs := [.tmp 2, .tmp 3, .tmp 4]) rfl (RV.tmp rfl (RV.tmp rfl (RV.tmp rfl RV.nil))) (()) (by repeat first|exact s0 _|exact s1 _|apply s2|apply s3) (by simp [It.rids]) ?_
    rw [numF_some hnn, Nat.min_eq_left (show (digs l).length ≤ 5 by omega), take_digs]
    rfl
set_option maxHeartbeats 2000000 in
theorem rrow_s (hd : 0 ≤ d ∧ d ≤ 100) (hp : ∀ l : Txt, l.length ≤ 1000 → Spec Tryz.prog 59 [stA l, int (d + 1)] [] (fun _ : {z : Frm × Txt × Bool // DocP k l z} => []) (fun z => .tup [.agg z.1.1.abs, stA z.1.2.1, boo z.1.2.2])) (hl : l.length ≤ 1000) : Spec Tryz.prog 82 [stA l, int d] [] (fun _ : {z : List Frm × Txt × Bool // DocR k l z} => []) (fun z => .tup [.sl 3 (z.1.1.map Frm.abs), stA z.1.2.1, boo z.1.2.2]) := by
  refine spec_of Tryz.func82 rfl Tryz.ntmps82 rfl fun G w => ?_
  refine SC.seq (SC.region ?_)
  refine SL.val (Val.assign rfl) rfl rfl ?_
  refine SL.val (Val.assign rfl) rfl rfl ?_
  refine SL.val (Val.assign rfl) rfl rfl ?_
  refine SL.nil (SE.seq ?_)
  refine SC.seq (SC.region ?_)
  refine SL.val (Val.move rfl) rfl rfl ?_
  refine SL.call (rbare_s (l := l)) Casts.refl (by kernel_rfl) rfl rfl rfl ?_
  refine After.pure (by repeat first|exact .nil|refine .blk (by repeat first|assumption|exact m0|apply m1) ?_|refine .rd (by repeat first|assumption|exact m0|apply m1) ?_|refine .pc (by repeat first|assumption|exact m0|apply m1) ?_|refine .rdpc (by repeat first|assumption|exact m0|apply m1) ?_) (fun _ => rfl) ?_
  intro _
  refine SL.val (Val.assign rfl) rfl rfl ?_
  refine SL.nil (SE.seq ?_)
  refine SC.seq ?_
  refine SC.seq (SC.region ?_)
  refine SL.val (Val.move rfl) rfl rfl ?_
  refine SL.call (rbegins_s (l := (bare l)) (wd := [40])) Casts.refl (by kernel_rfl) rfl rfl rfl ?_
  refine After.pure (by repeat first|exact .nil|refine .blk (by repeat first|assumption|exact m0|apply m1) ?_|refine .rd (by repeat first|assumption|exact m0|apply m1) ?_|refine .pc (by repeat first|assumption|exact m0|apply m1) ?_|refine .rdpc (by repeat first|assumption|exact m0|apply m1) ?_) (fun _ => rfl) ?_
  intro _
  refine SL.val (Val.notB rfl) rfl rfl ?_
  refine SL.nil (SE.seq ?_)
  refine SC.cond rfl ?_ ?_
  · intro hc15
    have hb0 : ¬ begins (bare l) [40] = true := by simpa using hc15
    refine SC.seq (SC.region ?_)
    refine SL.val (Val.move rfl) rfl rfl ?_
    refine SL.val (Val.assign rfl) rfl rfl ?_
    refine SL.val (Val.assign rfl) rfl rfl ?_
    refine SL.val (Val.assign rfl) rfl rfl ?_
    refine SL.nil (SE.seq ?_)
    refine SC.ret ?_
    refine SE.then_ (by intro h; cases h) ?_
    refine SE.finC (rs := [.tmp 4, .tmp 5, .tmp 6]) rfl (RV.tmp rfl (RV.tmp rfl (RV.tmp rfl RV.nil))) (Casts.nils (s := 3) Casts.refl) (⟨([], bare l, false), DocR.of_none (if_neg hb0) _⟩) (by repeat first|exact s0 _|exact s1 _|apply s2|apply s3) (by simp [It.rids]) ?_
    exact rfl
  intro hc15
  have hb0 : begins (bare l) [40] = true := by simpa using hc15
  refine SC.skip ?_
  refine SE.seq ?_
  refine SC.seq (SC.region ?_)
  refine SL.val (Val.assign rfl) rfl rfl ?_
  refine SL.nil (SE.seq ?_)
  refine SC.block ?_
  refine SC.own0 83 3 ?_
  refine SC.loop (ι := Txt × List Frm × Value) (fun z => [own 83 3 z.2.2 (z.2.1.map Frm.abs)]) (fun z => [(0, stA z.1), (1, int d), (7, .v z.2.2)]) (fun z => DocI k l (z.1, z.2.1)) (fun z => z.1.length) (bare l, [], .slice none 0 0) (DocI.start hb0) (by exact ⟨rfl, rfl, rfl, trivial⟩) (by repeat first|exact s0 _|exact s1 _|apply s2|apply s3) ?_
  intro z hz
  have hzp := hz.pos
  have hzl := hz.len
  have hzf := hz.few
  dsimp only at hzp hzl hzf
  refine SC.block ?_
  refine SC.seq (SC.region ?_)
  refine SL.val (Val.move rfl) rfl rfl ?_
  refine SL.val (Val.to (C := stA (z.1.drop 1)) (Val.sliceStLo (q := 1) Tryz.underlying9 rfl rfl rfl (by simp only [tx_size]; omega)) (st_lo _ _)) rfl rfl ?_
  refine SL.val (Val.move rfl) rfl rfl ?_
  first
    | refine SL.val (Val.addI rfl rfl (by simp only [InR, lo, hi]; omega)) rfl rfl ?_
    | refine SL.val (Val.addW rfl rfl) rfl rfl ?_
  refine SL.call (hp (z.1.drop 1) (by have := hz.len; rw [List.length_drop]; omega)) Casts.refl (by kernel_rfl) rfl rfl rfl ?_
  refine After.pure (by repeat first|exact .nil|refine .blk (by repeat first|assumption|exact m0|apply m1) ?_|refine .rd (by repeat first|assumption|exact m0|apply m1) ?_|refine .pc (by repeat first|assumption|exact m0|apply m1) ?_|refine .rdpc (by repeat first|assumption|exact m0|apply m1) ?_) (fun _ => rfl) ?_
  intro y
  refine SL.val (Val.move rfl) rfl rfl ?_
  refine SL.val (Val.extract rfl rfl) rfl rfl ?_
  refine SL.val (Val.extract rfl rfl) rfl rfl ?_
  refine SL.val (Val.extract rfl rfl) rfl rfl ?_
  refine SL.eff (Eff.alloc tabOk rfl) rfl rfl ?_
  rintro _ _ ⟨b8, rfl, rfl⟩
  refine SL.eff (Eff.store (L' := y.1.1.abs) tabOk rfl rfl rfl (by repeat first|assumption|exact Upd.here|apply Upd.there) (by exact Frm.abs_len _) (Nat.le_of_ble_eq_true (by rfl)) (by exact Frm.abs_ones _) (putL_whole (by exact Frm.abs_len _))) rfl rfl ?_
  rintro _ _ ⟨rfl, rfl⟩
  refine SL.val (Val.assign rfl) rfl rfl ?_
  refine SL.val (Val.assign rfl) rfl rfl ?_
  refine SL.nil (SE.seq ?_)
  refine SC.seq ?_
  refine SC.seq (SC.region ?_)
  refine SL.val (Val.move rfl) rfl rfl ?_
  refine SL.val (Val.notB rfl) rfl rfl ?_
  refine SL.nil (SE.seq ?_)
  refine SC.cond rfl ?_ ?_
  · intro hc27
    have ho : y.1.2.2 = false := by simpa using hc27
    refine SC.seq (SC.region ?_)
    refine SL.val (Val.move rfl) rfl rfl ?_
    refine SL.val (Val.assign rfl) rfl rfl ?_
    refine SL.val (Val.assign rfl) rfl rfl ?_
    refine SL.val (Val.assign rfl) rfl rfl ?_
    refine SL.nil (SE.seq ?_)
    refine SC.ret ?_
    refine SE.then_ (by intro h; cases h) ?_
    refine SE.ret ?_
    refine SE.then_ (by intro h; cases h) ?_
    refine SE.ret ?_
    refine SE.finC (rs := [.tmp 4, .tmp 5, .tmp 6]) rfl (RV.tmp rfl (RV.tmp rfl (RV.tmp rfl RV.nil))) (Casts.nils (s := 3) Casts.refl) (⟨([], z.1, false), DocR.of_none (hz.no y.2 ho) _⟩) (by repeat first|exact s0 _|exact s1 _|apply s2|apply s3) (by simp [It.rids]) ?_
    exact rfl
  intro hc27
  have ho : y.1.2.2 = true := by simpa using hc27
  refine SC.skip ?_
  refine SE.seq ?_
  refine SC.seq (SC.region ?_)
  refine SL.val (Val.move rfl) rfl rfl ?_
  refine SL.val (Val.loadA tabOk rfl rfl rfl (by first|(apply Or.inl;(repeat first|assumption|exact m0|apply m1);done)|(apply Or.inr;(repeat first|assumption|exact m0|apply m1);done)) List.not_mem_nil (Frm.abs_len _)) rfl rfl ?_
  refine SL.eff (Eff.buildSl tabOk Tryz.underlying81 rfl rfl rfl (elems_one (Frm.abs_len _)) rfl rfl rfl) rfl rfl ?_
  rintro _ _ ⟨rfl, rfl⟩
  refine SL.eff (Eff.appendE (zs := (z.2.1 ++ [y.1.1]).map Frm.abs) tabOk [_] (by rw [List.map_append]; rfl) Tryz.underlying81 rfl rfl rfl rfl rfl rfl (by intro c hc; rw [List.mem_singleton] at hc; subst hc; exact Frm.abs_ones _) (by unfold maxLen; simp only [List.length_map, List.length_cons, List.length_nil]; omega) (by rw [show Tryz.prog.bytesOf 83 = 40 by kernel_rfl]; simp only [List.length_map, List.length_cons, List.length_nil]; omega)) rfl rfl ?_
  rintro _ _ ⟨r32, rfl, rfl⟩
  refine SL.val (Val.assign rfl) rfl rfl ?_
  refine SL.nil (SE.seq ?_)
  refine SC.seq (SC.region ?_)
  refine SL.val (Val.move rfl) rfl rfl ?_
  refine SL.call (rbare_s (l := y.1.2.1)) Casts.refl (by kernel_rfl) rfl rfl rfl ?_
  refine After.pure (by repeat first|exact .nil|refine .blk (by repeat first|assumption|exact m0|apply m1) ?_|refine .rd (by repeat first|assumption|exact m0|apply m1) ?_|refine .pc (by repeat first|assumption|exact m0|apply m1) ?_|refine .rdpc (by repeat first|assumption|exact m0|apply m1) ?_) (fun _ => rfl) ?_
  intro _
  refine SL.val (Val.assign rfl) rfl rfl ?_
  refine SL.nil (SE.seq ?_)
  refine SC.seq ?_
  refine SC.seq (SC.region ?_)
  refine SL.val (Val.move rfl) rfl rfl ?_
  refine SL.call (rbegins_s (l := (bare y.1.2.1)) (wd := [41])) Casts.refl (by kernel_rfl) rfl rfl rfl ?_
  refine After.pure (by repeat first|exact .nil|refine .blk (by repeat first|assumption|exact m0|apply m1) ?_|refine .rd (by repeat first|assumption|exact m0|apply m1) ?_|refine .pc (by repeat first|assumption|exact m0|apply m1) ?_|refine .rdpc (by repeat first|assumption|exact m0|apply m1) ?_) (fun _ => rfl) ?_
  intro _
  refine SL.nil (SE.seq ?_)
  refine SC.cond rfl ?_ ?_
  · intro hc36
    have hbl := begins_len hc36
    simp only [List.length_singleton] at hbl
    refine SC.seq ?_
    refine SC.draw [] (.q 0 (.q 1 (.q 2 (.q 3 (.q 4 (.q 5 .nil)))))) (by kernel_rfl) (by kernel_rfl) ?_
    refine SX.val rfl (Val.move rfl) (by simp) rfl rfl ?_
    refine SX.val rfl (Val.move rfl) (by simp) rfl rfl ?_
    refine SX.hx (by first|(simp[mids,It.mids,ownPc];done)|(intro k hk;simp[mids,It.mids,ownPc] at hk ⊢;grind)) fun hx9 => ?_
    refine SX.val rfl (Val.to (C := stA ((bare y.1.2.1).drop 1)) (Val.sliceStLo (q := 1) Tryz.underlying9 rfl rfl rfl (by simp only [tx_size]; omega)) (st_lo _ _)) hx9 rfl rfl ?_
    refine SX.val rfl (Val.assign rfl) (by simp) rfl rfl ?_
    refine SX.val rfl (Val.assign rfl) (by simp) rfl rfl ?_
    refine SX.val rfl (Val.assign rfl) (by simp) rfl rfl ?_
    refine SX.nil (SE.seq ?_)
    refine SC.ret ?_
    refine SE.then_ (by intro h; cases h) ?_
    refine SE.ret ?_
    refine SE.then_ (by intro h; cases h) ?_
    refine SE.ret ?_
    refine SE.freeze [_] (t := 4) rfl rfl ?_
    refine SE.fin (rs := [.tmp 4, .tmp 5, .tmp 6]) rfl (RV.tmp rfl (RV.tmp rfl (RV.tmp rfl RV.nil))) (⟨(z.2.1 ++ [y.1.1], (bare y.1.2.1).drop 1, true), DocR.of_some (hz.done y.2 ho hc36)⟩) (by repeat first|exact s0 _|exact s1 _|apply s2|apply s3) (by simp [It.rids]) ?_
    exact rfl
  intro hc36
  have hb1 : ¬ begins (bare y.1.2.1) [41] = true := by rw [hc36]; decide
  refine SC.skip ?_
  refine SE.seq ?_
  refine SC.seq (SC.region ?_)
  refine SL.val (Val.move rfl) rfl rfl ?_
  refine SL.call (rbegins_s (l := (bare y.1.2.1)) (wd := [44])) Casts.refl (by kernel_rfl) rfl rfl rfl ?_
  refine After.pure (by repeat first|exact .nil|refine .blk (by repeat first|assumption|exact m0|apply m1) ?_|refine .rd (by repeat first|assumption|exact m0|apply m1) ?_|refine .pc (by repeat first|assumption|exact m0|apply m1) ?_|refine .rdpc (by repeat first|assumption|exact m0|apply m1) ?_) (fun _ => rfl) ?_
  intro _
  refine SL.val (Val.notB rfl) rfl rfl ?_
  refine SL.nil (SE.seq ?_)
  refine SC.cond rfl ?_ ?_
  rotate_left
  · intro hc42
    have hb2 : begins (bare y.1.2.1) [44] = true := by simpa using hc42
    refine SC.skip ?_
    refine SE.inBlock ?_
    have hst := hz.step y.2 ho hb1 hb2
    refine SE.round (bare y.1.2.1, z.2.1 ++ [y.1.1], r32) hst.2 (hst.1) (by exact ⟨rfl, rfl, rfl, trivial⟩) (by repeat first|exact s0 _|exact s1 _|apply s2|apply s3)
  intro hc42
  have hb2 : ¬ begins (bare y.1.2.1) [44] = true := by simpa using hc42
  refine SC.seq (SC.region ?_)
  refine SL.val (Val.move rfl) rfl rfl ?_
  refine SL.val (Val.assign rfl) rfl rfl ?_
  refine SL.val (Val.assign rfl) rfl rfl ?_
  refine SL.val (Val.assign rfl) rfl rfl ?_
  refine SL.nil (SE.seq ?_)
  refine SC.ret ?_
  refine SE.ret ?_
  refine SE.then_ (by intro h; cases h) ?_
  refine SE.ret ?_
  refine SE.finC (rs := [.tmp 4, .tmp 5, .tmp 6]) rfl (RV.tmp rfl (RV.tmp rfl (RV.tmp rfl RV.nil))) (Casts.nils (s := 3) Casts.refl) (⟨([], bare y.1.2.1, false), DocR.of_none (hz.bad y.2 ho hb1 hb2) _⟩) (by repeat first|exact s0 _|exact s1 _|apply s2|apply s3) (by simp [It.rids]) ?_
  exact rfl
theorem rpol0_s (hl : l.length ≤ 1000) : Spec Tryz.prog 59 [stA l, int 11] [] (fun _ : {z : Frm × Txt × Bool // DocP 0 l z} => []) (fun z => .tup [.agg z.1.1.abs, stA z.1.2.1, boo z.1.2.2]) := by
  refine spec_of Tryz.func59 rfl Tryz.ntmps59 rfl fun G w => ?_
  refine SC.seq (SC.region ?_)
  refine SL.eff (Eff.alloc tabOk rfl) rfl rfl ?_
  rintro _ _ ⟨b4, rfl, rfl⟩
  refine SL.val (Val.assign rfl) rfl rfl ?_
  refine SL.val (Val.assign rfl) rfl rfl ?_
  refine SL.nil (SE.seq ?_)
  refine SC.seq (SC.region ?_)
  refine SL.val (Val.move rfl) rfl rfl ?_
  refine SL.call (rbare_s (l := l)) Casts.refl (by kernel_rfl) rfl rfl rfl ?_
  refine After.pure (by repeat first|exact .nil|refine .blk (by repeat first|assumption|exact m0|apply m1) ?_|refine .rd (by repeat first|assumption|exact m0|apply m1) ?_|refine .pc (by repeat first|assumption|exact m0|apply m1) ?_|refine .rdpc (by repeat first|assumption|exact m0|apply m1) ?_) (fun _ => rfl) ?_
  intro _
  refine SL.val (Val.assign rfl) rfl rfl ?_
  refine SL.nil (SE.seq ?_)
  refine SC.seq ?_
  refine SC.seq (SC.region ?_)
  refine SL.val (Val.move rfl) rfl rfl ?_
  refine SL.val (Val.gtI rfl rfl) rfl rfl ?_
  refine SL.nil (SE.seq ?_)
  refine SC.condP rfl ?_ (by intro hc19; exfalso; omega)
  intro hc19
  refine SC.seq (SC.region ?_)
  refine SL.val (Val.buildS tabOk rfl rfl rfl rfl) rfl rfl ?_
  refine SL.val (Val.move rfl) rfl rfl ?_
  refine SL.eff (Eff.store tabOk rfl rfl rfl (by repeat first|assumption|exact Upd.here|apply Upd.there) (by rfl) (Nat.le_of_ble_eq_true (by rfl)) (by rfl) (by rfl)) rfl rfl ?_
  rintro _ _ ⟨rfl, rfl⟩
  refine SL.val (Val.assign rfl) rfl rfl ?_
  refine SL.val (Val.assign rfl) rfl rfl ?_
  refine SL.nil (SE.seq ?_)
  refine SC.ret ?_
  refine SE.then_ (by intro h; cases h) ?_
  refine SE.finC (rs := [.cell 4 83, .tmp 5, .tmp 6]) rfl (RV.cell rfl (RV.cellA tabOk rfl rfl (by first|(apply Or.inl;(repeat first|assumption|exact m0|apply m1);done)|(apply Or.inr;(repeat first|assumption|exact m0|apply m1);done)) (by rfl)) (RV.tmp rfl (RV.tmp rfl RV.nil))) (Casts.cons (cast_agg (Casts.keep (Casts.keep (Casts.nils (s := 3) Casts.refl)))) Casts.refl) (⟨(.mk 0 0 [], bare l, false), DocP.deep rfl⟩) (by repeat first|exact s0 _|exact s1 _|apply s2|apply s3) (by simp [It.rids]) ?_
  first
    | (rw [Frm.abs_mk]; rfl)
    | rfl
set_option maxHeartbeats 2000000 in
theorem rpol_step (hd : 1 ≤ d ∧ d ≤ 10) (hp : ∀ l : Txt, l.length ≤ 1000 → Spec Tryz.prog 59 [stA l, int (d + 1)] [] (fun _ : {z : Frm × Txt × Bool // DocP k l z} => []) (fun z => .tup [.agg z.1.1.abs, stA z.1.2.1, boo z.1.2.2])) (hl : l.length ≤ 1000) : Spec Tryz.prog 59 [stA l, int d] [] (fun _ : {z : Frm × Txt × Bool // DocP (k + 1) l z} => []) (fun z => .tup [.agg z.1.1.abs, stA z.1.2.1, boo z.1.2.2]) := by
  have hbl := bare_len l
  refine spec_of Tryz.func59 rfl Tryz.ntmps59 rfl fun G w => ?_
  refine SC.seq (SC.region ?_)
  refine SL.eff (Eff.alloc tabOk rfl) rfl rfl ?_
  rintro _ _ ⟨b4, rfl, rfl⟩
  refine SL.val (Val.assign rfl) rfl rfl ?_
  refine SL.val (Val.assign rfl) rfl rfl ?_
  refine SL.nil (SE.seq ?_)
  refine SC.seq (SC.region ?_)
  refine SL.val (Val.move rfl) rfl rfl ?_
  refine SL.call (rbare_s (l := l)) Casts.refl (by kernel_rfl) rfl rfl rfl ?_
  refine After.pure (by repeat first|exact .nil|refine .blk (by repeat first|assumption|exact m0|apply m1) ?_|refine .rd (by repeat first|assumption|exact m0|apply m1) ?_|refine .pc (by repeat first|assumption|exact m0|apply m1) ?_|refine .rdpc (by repeat first|assumption|exact m0|apply m1) ?_) (fun _ => rfl) ?_
  intro _
  refine SL.val (Val.assign rfl) rfl rfl ?_
  refine SL.nil (SE.seq ?_)
  refine SC.seq ?_
  refine SC.seq (SC.region ?_)
  refine SL.val (Val.move rfl) rfl rfl ?_
  refine SL.val (Val.gtI rfl rfl) rfl rfl ?_
  refine SL.nil (SE.seq ?_)
  refine SC.condP rfl (by intro hc19; exfalso; omega) ?_
  intro hc19
  refine SC.skip ?_
  refine SE.seq ?_
  refine SC.seq ?_
  refine SC.seq (SC.region ?_)
  refine SL.val (Val.move rfl) rfl rfl ?_
  refine SL.call (rbegins_s (l := (bare l)) (wd := [97, 108, 108])) Casts.refl (by kernel_rfl) rfl rfl rfl ?_
  refine After.pure (by repeat first|exact .nil|refine .blk (by repeat first|assumption|exact m0|apply m1) ?_|refine .rd (by repeat first|assumption|exact m0|apply m1) ?_|refine .pc (by repeat first|assumption|exact m0|apply m1) ?_|refine .rdpc (by repeat first|assumption|exact m0|apply m1) ?_) (fun _ => rfl) ?_
  intro _
  refine SL.val (Val.move rfl) rfl rfl ?_
  refine SL.both (t := 24) rfl ?_ ?_
  · intro hc24
    have ha : begins (bare l) [97, 108, 108] = true := hc24
    have hal := begins_len ha
    simp only [List.length_cons, List.length_nil] at hal
    iterate 2 refine SL.skip rfl rfl ?_
    refine SL.val (Val.pickT rfl rfl) rfl rfl ?_
    refine SL.nil (SE.seq ?_)
    refine SC.condT rfl ?_
    refine SC.seq (SC.region ?_)
    refine SL.val (Val.move rfl) rfl rfl ?_
    refine SL.val (Val.to (C := stA ((bare l).drop 3)) (Val.sliceStLo (q := 3) Tryz.underlying9 rfl rfl rfl (by simp only [tx_size]; omega)) (st_lo _ _)) rfl rfl ?_
    refine SL.val (Val.move rfl) rfl rfl ?_
    refine SL.call (rrow_s (l := (bare l).drop 3) (by omega) hp (by rw [List.length_drop]; omega)) Casts.refl (by kernel_rfl) rfl rfl rfl ?_
    refine After.pure (by repeat first|exact .nil|refine .blk (by repeat first|assumption|exact m0|apply m1) ?_|refine .rd (by repeat first|assumption|exact m0|apply m1) ?_|refine .pc (by repeat first|assumption|exact m0|apply m1) ?_|refine .rdpc (by repeat first|assumption|exact m0|apply m1) ?_) (fun _ => rfl) ?_
    intro y
    refine SL.val (Val.move rfl) rfl rfl ?_
    refine SL.val (Val.extract rfl rfl) rfl rfl ?_
    refine SL.val (Val.extract rfl rfl) rfl rfl ?_
    refine SL.val (Val.extract rfl rfl) rfl rfl ?_
    refine SL.val (Val.assign rfl) rfl rfl ?_
    refine SL.val (Val.assign rfl) rfl rfl ?_
    refine SL.val (Val.assign rfl) rfl rfl ?_
    refine SL.nil (SE.seq ?_)
    refine SC.seq (SC.region ?_)
    refine SL.val (Val.assign rfl) rfl rfl ?_
    refine SL.nil (SE.seq ?_)
    refine SC.seq ?_
    refine SC.seq (SC.region ?_)
    refine SL.val (Val.move rfl) rfl rfl ?_
    refine SL.call (rbegins_s (l := (bare l)) (wd := [97, 108, 108])) Casts.refl (by kernel_rfl) rfl rfl rfl ?_
    refine After.pure (by repeat first|exact .nil|refine .blk (by repeat first|assumption|exact m0|apply m1) ?_|refine .rd (by repeat first|assumption|exact m0|apply m1) ?_|refine .pc (by repeat first|assumption|exact m0|apply m1) ?_|refine .rdpc (by repeat first|assumption|exact m0|apply m1) ?_) (fun _ => rfl) ?_
    intro _
    refine SL.nil (SE.seq ?_)
    refine SC.cond rfl ?_ (by intro hc37; exfalso; rw [hc24] at hc37; cases hc37)
    intro hc37
    refine SC.region ?_
    refine SL.val (Val.move rfl) rfl rfl ?_
    first
      | refine SL.val (Val.lenSl rfl Tryz.underlying81 (List.length_map _)) rfl rfl ?_
      | refine SL.val (Val.lenOwn rfl (by repeat first|assumption|exact m0|apply m1) Tryz.underlying81 (List.length_map _)) rfl rfl ?_
      | refine SL.val (Val.lenNil rfl Tryz.underlying81) rfl rfl ?_
    refine SL.val (Val.assign rfl) rfl rfl ?_
    refine SL.nil (SE.seq ?_)
    refine SC.seq (SC.region ?_)
    refine SL.val (Val.move rfl) rfl rfl ?_
    refine SL.val (Val.move rfl) rfl rfl ?_
    refine SL.val (Val.buildS tabOk rfl rfl rfl rfl) rfl rfl ?_
    refine SL.val (Val.move rfl) rfl rfl ?_
    refine SL.val (Val.move rfl) rfl rfl ?_
    refine SL.eff (Eff.store tabOk rfl rfl rfl (by repeat first|assumption|exact Upd.here|apply Upd.there) (by rfl) (Nat.le_of_ble_eq_true (by rfl)) (by rfl) (by rfl)) rfl rfl ?_
    rintro _ _ ⟨rfl, rfl⟩
    refine SL.val (Val.assign rfl) rfl rfl ?_
    refine SL.val (Val.assign rfl) rfl rfl ?_
    refine SL.nil (SE.seq ?_)
    refine SC.ret ?_
    refine SE.then_ (by intro h; cases h) ?_
    refine SE.fin (rs := [.cell 4 83, .tmp 5, .tmp 6]) rfl (RV.cell rfl (RV.cellA tabOk rfl rfl (by first|(apply Or.inl;(repeat first|assumption|exact m0|apply m1);done)|(apply Or.inr;(repeat first|assumption|exact m0|apply m1);done)) (by rfl)) (RV.tmp rfl (RV.tmp rfl RV.nil))) (⟨(.mk 0 y.1.1.length y.1.1, y.1.2.1, y.1.2.2), DocP.all ha y.2⟩) (by repeat first|exact s0 _|exact s1 _|apply s2|apply s3) (by simp [It.rids]) ?_
    first
      | (rw [Frm.abs_mk]; rfl)
      | rfl
  intro hc24
  have ha : ¬ begins (bare l) [97, 108, 108] = true := by rw [hc24]; decide
  refine SL.val (Val.move rfl) rfl rfl ?_
  refine SL.call (rbegins_s (l := (bare l)) (wd := [97, 110, 121])) Casts.refl (by kernel_rfl) rfl rfl rfl ?_
  refine After.pure (by repeat first|exact .nil|refine .blk (by repeat first|assumption|exact m0|apply m1) ?_|refine .rd (by repeat first|assumption|exact m0|apply m1) ?_|refine .pc (by repeat first|assumption|exact m0|apply m1) ?_|refine .rdpc (by repeat first|assumption|exact m0|apply m1) ?_) (fun _ => rfl) ?_
  intro _
  refine SL.val (Val.pickF rfl rfl) rfl rfl ?_
  refine SL.nil (SE.seq ?_)
  refine SC.cond rfl ?_ ?_
  · intro hc27
    have hb : begins (bare l) [97, 110, 121] = true := hc27
    have hal := begins_len hb
    simp only [List.length_cons, List.length_nil] at hal
    refine SC.seq (SC.region ?_)
    refine SL.val (Val.move rfl) rfl rfl ?_
    refine SL.val (Val.to (C := stA ((bare l).drop 3)) (Val.sliceStLo (q := 3) Tryz.underlying9 rfl rfl rfl (by simp only [tx_size]; omega)) (st_lo _ _)) rfl rfl ?_
    refine SL.val (Val.move rfl) rfl rfl ?_
    refine SL.call (rrow_s (l := (bare l).drop 3) (by omega) hp (by rw [List.length_drop]; omega)) Casts.refl (by kernel_rfl) rfl rfl rfl ?_
    refine After.pure (by repeat first|exact .nil|refine .blk (by repeat first|assumption|exact m0|apply m1) ?_|refine .rd (by repeat first|assumption|exact m0|apply m1) ?_|refine .pc (by repeat first|assumption|exact m0|apply m1) ?_|refine .rdpc (by repeat first|assumption|exact m0|apply m1) ?_) (fun _ => rfl) ?_
    intro y
    refine SL.val (Val.move rfl) rfl rfl ?_
    refine SL.val (Val.extract rfl rfl) rfl rfl ?_
    refine SL.val (Val.extract rfl rfl) rfl rfl ?_
    refine SL.val (Val.extract rfl rfl) rfl rfl ?_
    refine SL.val (Val.assign rfl) rfl rfl ?_
    refine SL.val (Val.assign rfl) rfl rfl ?_
    refine SL.val (Val.assign rfl) rfl rfl ?_
    refine SL.nil (SE.seq ?_)
    refine SC.seq (SC.region ?_)
    refine SL.val (Val.assign rfl) rfl rfl ?_
    refine SL.nil (SE.seq ?_)
    refine SC.seq ?_
    refine SC.seq (SC.region ?_)
    refine SL.val (Val.move rfl) rfl rfl ?_
    refine SL.call (rbegins_s (l := (bare l)) (wd := [97, 108, 108])) Casts.refl (by kernel_rfl) rfl rfl rfl ?_
    refine After.pure (by repeat first|exact .nil|refine .blk (by repeat first|assumption|exact m0|apply m1) ?_|refine .rd (by repeat first|assumption|exact m0|apply m1) ?_|refine .pc (by repeat first|assumption|exact m0|apply m1) ?_|refine .rdpc (by repeat first|assumption|exact m0|apply m1) ?_) (fun _ => rfl) ?_
    intro _
    refine SL.nil (SE.seq ?_)
    refine SC.cond rfl (by intro hc37; exfalso; rw [hc24] at hc37; cases hc37) ?_
    intro hc37
    refine SC.skip ?_
    refine SE.seq ?_
    refine SC.seq (SC.region ?_)
    refine SL.val (Val.move rfl) rfl rfl ?_
    refine SL.val (Val.move rfl) rfl rfl ?_
    refine SL.val (Val.buildS tabOk rfl rfl rfl rfl) rfl rfl ?_
    refine SL.val (Val.move rfl) rfl rfl ?_
    refine SL.val (Val.move rfl) rfl rfl ?_
    refine SL.eff (Eff.store tabOk rfl rfl rfl (by repeat first|assumption|exact Upd.here|apply Upd.there) (by rfl) (Nat.le_of_ble_eq_true (by rfl)) (by rfl) (by rfl)) rfl rfl ?_
    rintro _ _ ⟨rfl, rfl⟩
    refine SL.val (Val.assign rfl) rfl rfl ?_
    refine SL.val (Val.assign rfl) rfl rfl ?_
    refine SL.nil (SE.seq ?_)
    refine SC.ret ?_
    refine SE.then_ (by intro h; cases h) ?_
    refine SE.fin (rs := [.cell 4 83, .tmp 5, .tmp 6]) rfl (RV.cell rfl (RV.cellA tabOk rfl rfl (by first|(apply Or.inl;(repeat first|assumption|exact m0|apply m1);done)|(apply Or.inr;(repeat first|assumption|exact m0|apply m1);done)) (by rfl)) (RV.tmp rfl (RV.tmp rfl RV.nil))) (⟨(.mk 0 1 y.1.1, y.1.2.1, y.1.2.2), DocP.any ha hb y.2⟩) (by repeat first|exact s0 _|exact s1 _|apply s2|apply s3) (by simp [It.rids]) ?_
    first
      | (rw [Frm.abs_mk]; rfl)
      | rfl
  intro hc27
  have hb : ¬ begins (bare l) [97, 110, 121] = true := by rw [hc27]; decide
  refine SC.skip ?_
  refine SE.seq ?_
  refine SC.seq (SC.region ?_)
  refine SL.val (Val.move rfl) rfl rfl ?_
  refine SL.call (rnumber_s (l := bare l) (by omega)) Casts.refl (by kernel_rfl) rfl rfl rfl ?_
  refine After.pure (by repeat first|exact .nil|refine .blk (by repeat first|assumption|exact m0|apply m1) ?_|refine .rd (by repeat first|assumption|exact m0|apply m1) ?_|refine .pc (by repeat first|assumption|exact m0|apply m1) ?_|refine .rdpc (by repeat first|assumption|exact m0|apply m1) ?_) (fun _ => rfl) ?_
  intro _
  refine SL.val (Val.move rfl) rfl rfl ?_
  refine SL.val (Val.extract rfl rfl) rfl rfl ?_
  refine SL.val (Val.extract rfl rfl) rfl rfl ?_
  refine SL.val (Val.extract rfl rfl) rfl rfl ?_
  refine SL.val (Val.assign rfl) rfl rfl ?_
  refine SL.val (Val.assign rfl) rfl rfl ?_
  refine SL.val (Val.assign rfl) rfl rfl ?_
  refine SL.nil (SE.seq ?_)
  refine SC.seq ?_
  refine SC.seq (SC.region ?_)
  refine SL.val (Val.move rfl) rfl rfl ?_
  refine SL.val (Val.notB rfl) rfl rfl ?_
  refine SL.nil (SE.seq ?_)
  refine SC.cond rfl ?_ ?_
  · intro hc52
    have hn : (numF (bare l)).2.2 = false := by simpa using hc52
    refine SC.seq (SC.region ?_)
    refine SL.val (Val.buildS tabOk rfl rfl rfl rfl) rfl rfl ?_
    refine SL.val (Val.move rfl) rfl rfl ?_
    refine SL.eff (Eff.store tabOk rfl rfl rfl (by repeat first|assumption|exact Upd.here|apply Upd.there) (by rfl) (Nat.le_of_ble_eq_true (by rfl)) (by rfl) (by rfl)) rfl rfl ?_
    rintro _ _ ⟨rfl, rfl⟩
    refine SL.val (Val.assign rfl) rfl rfl ?_
    refine SL.val (Val.assign rfl) rfl rfl ?_
    refine SL.nil (SE.seq ?_)
    refine SC.ret ?_
    refine SE.then_ (by intro h; cases h) ?_
    refine SE.finC (rs := [.cell 4 83, .tmp 5, .tmp 6]) rfl (RV.cell rfl (RV.cellA tabOk rfl rfl (by first|(apply Or.inl;(repeat first|assumption|exact m0|apply m1);done)|(apply Or.inr;(repeat first|assumption|exact m0|apply m1);done)) (by rfl)) (RV.tmp rfl (RV.tmp rfl RV.nil))) (Casts.cons (cast_agg (Casts.keep (Casts.keep (Casts.nils (s := 3) Casts.refl)))) Casts.refl) (⟨(.mk 0 0 [], bare l, false), DocP.bad ha hb hn rfl⟩) (by repeat first|exact s0 _|exact s1 _|apply s2|apply s3) (by simp [It.rids]) ?_
    first
      | (rw [Frm.abs_mk]; rfl)
      | rfl
  intro hc52
  have hn : (numF (bare l)).2.2 = true := by simpa using hc52
  obtain ⟨v, hv1, hv2, hv3, hv4⟩ := numF_ok hn
  have hb9 := bare_len (numF (bare l)).2.1
  refine SC.skip ?_
  refine SE.seq ?_
  refine SC.seq ?_
  refine SC.seq (SC.region ?_)
  refine SL.val (Val.move rfl) rfl rfl ?_
  refine SL.call (rbare_s (l := (numF (bare l)).2.1)) Casts.refl (by kernel_rfl) rfl rfl rfl ?_
  refine After.pure (by repeat first|exact .nil|refine .blk (by repeat first|assumption|exact m0|apply m1) ?_|refine .rd (by repeat first|assumption|exact m0|apply m1) ?_|refine .pc (by repeat first|assumption|exact m0|apply m1) ?_|refine .rdpc (by repeat first|assumption|exact m0|apply m1) ?_) (fun _ => rfl) ?_
  intro _
  refine SL.call (rbegins_s (l := (bare (numF (bare l)).2.1)) (wd := [111, 102])) Casts.refl (by kernel_rfl) rfl rfl rfl ?_
  refine After.pure (by repeat first|exact .nil|refine .blk (by repeat first|assumption|exact m0|apply m1) ?_|refine .rd (by repeat first|assumption|exact m0|apply m1) ?_|refine .pc (by repeat first|assumption|exact m0|apply m1) ?_|refine .rdpc (by repeat first|assumption|exact m0|apply m1) ?_) (fun _ => rfl) ?_
  intro _
  refine SL.val (Val.notB rfl) rfl rfl ?_
  refine SL.nil (SE.seq ?_)
  refine SC.cond rfl ?_ ?_
  · intro hc58
    have hof : ¬ begins (bare (numF (bare l)).2.1) [111, 102] = true := by simpa using hc58
    refine SC.seq (SC.region ?_)
    refine SL.val (Val.move rfl) rfl rfl ?_
    refine SL.val (Val.buildS tabOk rfl rfl rfl rfl) rfl rfl ?_
    refine SL.val (Val.move rfl) rfl rfl ?_
    refine SL.eff (Eff.store tabOk rfl rfl rfl (by repeat first|assumption|exact Upd.here|apply Upd.there) (by rfl) (Nat.le_of_ble_eq_true (by rfl)) (by rfl) (by rfl)) rfl rfl ?_
    rintro _ _ ⟨rfl, rfl⟩
    refine SL.val (Val.assign rfl) rfl rfl ?_
    refine SL.val (Val.assign rfl) rfl rfl ?_
    refine SL.nil (SE.seq ?_)
    refine SC.ret ?_
    refine SE.then_ (by intro h; cases h) ?_
    refine SE.finC (rs := [.cell 4 83, .tmp 5, .tmp 6]) rfl (RV.cell rfl (RV.cellA tabOk rfl rfl (by first|(apply Or.inl;(repeat first|assumption|exact m0|apply m1);done)|(apply Or.inr;(repeat first|assumption|exact m0|apply m1);done)) (by rfl)) (RV.tmp rfl (RV.tmp rfl RV.nil))) (Casts.cons (cast_agg (Casts.keep (Casts.keep (Casts.nils (s := 3) Casts.refl)))) Casts.refl) (⟨(.mk (numF (bare l)).1 0 [], (numF (bare l)).2.1, true), DocP.org ha hb hn hof⟩) (by repeat first|exact s0 _|exact s1 _|apply s2|apply s3) (by simp [It.rids]) ?_
    first
      | (rw [Frm.abs_mk]; rfl)
      | rfl
  intro hc58
  have hof : begins (bare (numF (bare l)).2.1) [111, 102] = true := by simpa using hc58
  have hol := begins_len hof
  simp only [List.length_cons, List.length_nil] at hol
  refine SC.skip ?_
  refine SE.seq ?_
  refine SC.seq (SC.region ?_)
  refine SL.val (Val.move rfl) rfl rfl ?_
  refine SL.call (rbare_s (l := (numF (bare l)).2.1)) Casts.refl (by kernel_rfl) rfl rfl rfl ?_
  refine After.pure (by repeat first|exact .nil|refine .blk (by repeat first|assumption|exact m0|apply m1) ?_|refine .rd (by repeat first|assumption|exact m0|apply m1) ?_|refine .pc (by repeat first|assumption|exact m0|apply m1) ?_|refine .rdpc (by repeat first|assumption|exact m0|apply m1) ?_) (fun _ => rfl) ?_
  intro _
  refine SL.val (Val.to (C := stA ((bare (numF (bare l)).2.1).drop 2)) (Val.sliceStLo (q := 2) Tryz.underlying9 rfl rfl rfl (by simp only [tx_size]; omega)) (st_lo _ _)) rfl rfl ?_
  refine SL.val (Val.move rfl) rfl rfl ?_
  refine SL.call (rrow_s (l := (bare (numF (bare l)).2.1).drop 2) (by omega) hp (by rw [List.length_drop]; omega)) Casts.refl (by kernel_rfl) rfl rfl rfl ?_
  refine After.pure (by repeat first|exact .nil|refine .blk (by repeat first|assumption|exact m0|apply m1) ?_|refine .rd (by repeat first|assumption|exact m0|apply m1) ?_|refine .pc (by repeat first|assumption|exact m0|apply m1) ?_|refine .rdpc (by repeat first|assumption|exact m0|apply m1) ?_) (fun _ => rfl) ?_
  intro y
  refine SL.val (Val.move rfl) rfl rfl ?_
  refine SL.val (Val.extract rfl rfl) rfl rfl ?_
  refine SL.val (Val.extract rfl rfl) rfl rfl ?_
  refine SL.val (Val.extract rfl rfl) rfl rfl ?_
  refine SL.val (Val.assign rfl) rfl rfl ?_
  refine SL.val (Val.assign rfl) rfl rfl ?_
  refine SL.val (Val.assign rfl) rfl rfl ?_
  refine SL.nil (SE.seq ?_)
  refine SC.seq (SC.region ?_)
  refine SL.val (Val.move rfl) rfl rfl ?_
  refine SL.val (Val.move rfl) rfl rfl ?_
  refine SL.val (Val.buildS tabOk rfl rfl rfl rfl) rfl rfl ?_
  refine SL.val (Val.move rfl) rfl rfl ?_
  refine SL.val (Val.move rfl) rfl rfl ?_
  refine SL.val (Val.move rfl) rfl rfl ?_
  refine SL.both (t := 76) rfl ?_ ?_
  rotate_left
  · intro hc76
    iterate 2 refine SL.skip rfl rfl ?_
    refine SL.val (Val.pickF rfl rfl) rfl rfl ?_
    refine SL.val (Val.move rfl) rfl rfl ?_
    iterate 2 refine SL.skip rfl rfl ?_
    refine SL.val (Val.pickF rfl rfl) rfl rfl ?_
    refine SL.eff (Eff.store tabOk rfl rfl rfl (by repeat first|assumption|exact Upd.here|apply Upd.there) (by rfl) (Nat.le_of_ble_eq_true (by rfl)) (by rfl) (by rfl)) rfl rfl ?_
    rintro _ _ ⟨rfl, rfl⟩
    refine SL.val (Val.assign rfl) rfl rfl ?_
    refine SL.val (Val.assign rfl) rfl rfl ?_
    refine SL.nil (SE.seq ?_)
    refine SC.ret ?_
    refine SE.fin (rs := [.cell 4 83, .tmp 5, .tmp 6]) rfl (RV.cell rfl (RV.cellA tabOk rfl rfl (by first|(apply Or.inl;(repeat first|assumption|exact m0|apply m1);done)|(apply Or.inr;(repeat first|assumption|exact m0|apply m1);done)) (by rfl)) (RV.tmp rfl (RV.tmp rfl RV.nil))) (⟨(.mk 0 (numF (bare l)).1 y.1.1, y.1.2.1, false), DocP.of ha hb hn hof y.2 ⟨fun h => (by cases h), fun h => (by rw [hc76] at h; cases h.1)⟩⟩) (by repeat first|exact s0 _|exact s1 _|apply s2|apply s3) (by simp [It.rids]) ?_
    first
      | (rw [Frm.abs_mk]; rfl)
      | rfl
  intro hc76
  refine SL.val (Val.move rfl) rfl rfl ?_
  refine SL.val (Val.geI rfl rfl) rfl rfl ?_
  refine SL.val (Val.pickT rfl rfl) rfl rfl ?_
  refine SL.val (Val.move rfl) rfl rfl ?_
  refine SL.bothP (t := 80) rfl ?_ ?_
  · intro hc80
    refine SL.val (Val.move rfl) rfl rfl ?_
    refine SL.val (Val.leI rfl rfl) rfl rfl ?_
    refine SL.val (Val.pickT rfl rfl) rfl rfl ?_
    refine SL.eff (Eff.store tabOk rfl rfl rfl (by repeat first|assumption|exact Upd.here|apply Upd.there) (by rfl) (Nat.le_of_ble_eq_true (by rfl)) (by rfl) (by rfl)) rfl rfl ?_
    rintro _ _ ⟨rfl, rfl⟩
    refine SL.val (Val.assign rfl) rfl rfl ?_
    refine SL.val (Val.assign rfl) rfl rfl ?_
    refine SL.nil (SE.seq ?_)
    refine SC.ret ?_
    refine SE.fin (rs := [.cell 4 83, .tmp 5, .tmp 6]) rfl (RV.cell rfl (RV.cellA tabOk rfl rfl (by first|(apply Or.inl;(repeat first|assumption|exact m0|apply m1);done)|(apply Or.inr;(repeat first|assumption|exact m0|apply m1);done)) (by rfl)) (RV.tmp rfl (RV.tmp rfl RV.nil))) (⟨(.mk 0 (numF (bare l)).1 y.1.1, y.1.2.1, decide ((numF (bare l)).1 ≤ 99)), DocP.of ha hb hn hof y.2 (by rw [decide_eq_true_iff]; exact ⟨fun h => ⟨hc76, by omega, h⟩, fun h => h.2.2⟩)⟩) (by repeat first|exact s0 _|exact s1 _|apply s2|apply s3) (by simp [It.rids]) ?_
    first
      | (rw [Frm.abs_mk]; rfl)
      | rfl
  intro hc80
  iterate 2 refine SL.skip rfl rfl ?_
  refine SL.val (Val.pickF rfl rfl) rfl rfl ?_
  refine SL.eff (Eff.store tabOk rfl rfl rfl (by repeat first|assumption|exact Upd.here|apply Upd.there) (by rfl) (Nat.le_of_ble_eq_true (by rfl)) (by rfl) (by rfl)) rfl rfl ?_
  rintro _ _ ⟨rfl, rfl⟩
  refine SL.val (Val.assign rfl) rfl rfl ?_
  refine SL.val (Val.assign rfl) rfl rfl ?_
  refine SL.nil (SE.seq ?_)
  refine SC.ret ?_
  refine SE.fin (rs := [.cell 4 83, .tmp 5, .tmp 6]) rfl (RV.cell rfl (RV.cellA tabOk rfl rfl (by first|(apply Or.inl;(repeat first|assumption|exact m0|apply m1);done)|(apply Or.inr;(repeat first|assumption|exact m0|apply m1);done)) (by rfl)) (RV.tmp rfl (RV.tmp rfl RV.nil))) (⟨(.mk 0 (numF (bare l)).1 y.1.1, y.1.2.1, false), DocP.of ha hb hn hof y.2 ⟨fun h => (by cases h), fun h => absurd h.2.1 (by omega)⟩⟩) (by repeat first|exact s0 _|exact s1 _|apply s2|apply s3) (by simp [It.rids]) ?_
  first
    | (rw [Frm.abs_mk]; rfl)
    | rfl
theorem rpol_s : ∀ k : Nat, k ≤ 10 → ∀ l : Txt, l.length ≤ 1000 → Spec Tryz.prog 59 [stA l, int (11 - (k : Int))] [] (fun _ : {z : Frm × Txt × Bool // DocP k l z} => []) (fun z => .tup [.agg z.1.1.abs, stA z.1.2.1, boo z.1.2.2])
  | 0, _, l, hl => rpol0_s hl
  | k + 1, hk, l, hl => rpol_step (by omega) (by
      rw [show (11 - ((k + 1 : Nat) : Int)) + 1 = 11 - (k : Int) by omega]
      exact rpol_s k (by omega)) hl
theorem rpol1_s (hl : l.length ≤ 1000) : Spec Tryz.prog 59 [stA l, int 1] [] (fun _ : {z : Frm × Txt × Bool // DocP 10 l z} => []) (fun z => .tup [.agg z.1.1.abs, stA z.1.2.1, boo z.1.2.2]) := rpol_s 10 (Nat.le_refl _) l hl
set_option maxHeartbeats 2000000 in
theorem rparse_s  : Spec Tryz.prog 44 [stA l, int n] [] (fun _ : Unit => []) (fun _ => .tup [.agg (parseF l n).1.abs, int (parseF l n).2]) := by
  refine spec_of Tryz.func44 rfl Tryz.ntmps44 rfl fun G w => ?_
  refine SC.seq (SC.region ?_)
  refine SL.eff (Eff.alloc tabOk rfl) rfl rfl ?_
  rintro _ _ ⟨b4, rfl, rfl⟩
  refine SL.val (Val.assign rfl) rfl rfl ?_
  refine SL.nil (SE.seq ?_)
  refine SC.seq ?_
  refine SC.seq (SC.region ?_)
  refine SL.val (Val.move rfl) rfl rfl ?_
  refine SL.val (Val.to (C := int ((l.length : Nat) : Int)) (Val.lenSt rfl Tryz.underlying9) rfl) rfl rfl ?_
  refine SL.val (Val.gtI rfl rfl) rfl rfl ?_
  refine SL.nil (SE.seq ?_)
  refine SC.condP rfl ?_ ?_
  · intro hc12
    have hl2 : 200 < l.length := by omega
    refine SC.seq (SC.region ?_)
    refine SL.val (Val.buildS tabOk rfl rfl rfl rfl) rfl rfl ?_
    refine SL.eff (Eff.store tabOk rfl rfl rfl (by repeat first|assumption|exact Upd.here|apply Upd.there) (by rfl) (Nat.le_of_ble_eq_true (by rfl)) (by rfl) (by rfl)) rfl rfl ?_
    rintro _ _ ⟨rfl, rfl⟩
    refine SL.val (Val.assign rfl) rfl rfl ?_
    refine SL.nil (SE.seq ?_)
    refine SC.ret ?_
    refine SE.then_ (by intro h; cases h) ?_
    refine SE.finC (rs := [.cell 4 83, .tmp 5]) rfl (RV.cell rfl (RV.cellA tabOk rfl rfl (by first|(apply Or.inl;(repeat first|assumption|exact m0|apply m1);done)|(apply Or.inr;(repeat first|assumption|exact m0|apply m1);done)) (by rfl)) (RV.tmp rfl RV.nil)) (Casts.cons (cast_agg (Casts.keep (Casts.keep (Casts.nils (s := 3) Casts.refl)))) Casts.refl) (()) (by repeat first|exact s0 _|exact s1 _|apply s2|apply s3) (by simp [It.rids]) ?_
    rw [parse_long hl2]
    rw [Frm.abs_mk]
    rfl
  intro hc12
  have hl2 : ¬ 200 < l.length := by omega
  refine SC.skip ?_
  refine SE.seq ?_
  refine SC.seq (SC.region ?_)
  refine SL.val (Val.move rfl) rfl rfl ?_
  refine SL.call (rpol1_s (l := l) (by omega)) Casts.refl (by kernel_rfl) rfl rfl rfl ?_
  refine After.pure (by repeat first|exact .nil|refine .blk (by repeat first|assumption|exact m0|apply m1) ?_|refine .rd (by repeat first|assumption|exact m0|apply m1) ?_|refine .pc (by repeat first|assumption|exact m0|apply m1) ?_|refine .rdpc (by repeat first|assumption|exact m0|apply m1) ?_) (fun _ => rfl) ?_
  intro y
  refine SL.val (Val.move rfl) rfl rfl ?_
  refine SL.val (Val.extract rfl rfl) rfl rfl ?_
  refine SL.val (Val.extract rfl rfl) rfl rfl ?_
  refine SL.val (Val.extract rfl rfl) rfl rfl ?_
  refine SL.eff (Eff.alloc tabOk rfl) rfl rfl ?_
  rintro _ _ ⟨b6, rfl, rfl⟩
  refine SL.eff (Eff.store (L' := y.1.1.abs) tabOk rfl rfl rfl (by repeat first|assumption|exact Upd.here|apply Upd.there) (by exact Frm.abs_len _) (Nat.le_of_ble_eq_true (by rfl)) (by exact Frm.abs_ones _) (putL_whole (by exact Frm.abs_len _))) rfl rfl ?_
  rintro _ _ ⟨rfl, rfl⟩
  refine SL.val (Val.assign rfl) rfl rfl ?_
  refine SL.val (Val.assign rfl) rfl rfl ?_
  refine SL.nil (SE.seq ?_)
  refine SC.seq ?_
  refine SC.seq (SC.region ?_)
  refine SL.val (Val.move rfl) rfl rfl ?_
  refine SL.val (Val.notB rfl) rfl rfl ?_
  refine SL.val (Val.move rfl) rfl rfl ?_
  refine SL.both (t := 22) rfl ?_ ?_
  · intro hc22
    have ho : y.1.2.2 = false := by simpa using hc22
    iterate 3 refine SL.skip rfl rfl ?_
    refine SL.val (Val.pickT rfl rfl) rfl rfl ?_
    refine SL.nil (SE.seq ?_)
    refine SC.condT rfl ?_
    refine SC.seq (SC.region ?_)
    refine SL.val (Val.buildS tabOk rfl rfl rfl rfl) rfl rfl ?_
    refine SL.eff (Eff.store tabOk rfl rfl rfl (by repeat first|assumption|exact Upd.here|apply Upd.there) (by rfl) (Nat.le_of_ble_eq_true (by rfl)) (by rfl) (by rfl)) rfl rfl ?_
    rintro _ _ ⟨rfl, rfl⟩
    refine SL.val (Val.assign rfl) rfl rfl ?_
    refine SL.nil (SE.seq ?_)
    refine SC.ret ?_
    refine SE.then_ (by intro h; cases h) ?_
    refine SE.finC (rs := [.cell 4 83, .tmp 5]) rfl (RV.cell rfl (RV.cellA tabOk rfl rfl (by first|(apply Or.inl;(repeat first|assumption|exact m0|apply m1);done)|(apply Or.inr;(repeat first|assumption|exact m0|apply m1);done)) (by rfl)) (RV.tmp rfl RV.nil)) (Casts.cons (cast_agg (Casts.keep (Casts.keep (Casts.nils (s := 3) Casts.refl)))) Casts.refl) (()) (by repeat first|exact s0 _|exact s1 _|apply s2|apply s3) (by simp [It.rids]) ?_
    rw [doc_odd hl2 y.2 (.inl ho)]
    rw [Frm.abs_mk]
    rfl
  intro hc22
  have ho : y.1.2.2 = true := by simpa using hc22
  refine SL.val (Val.move rfl) rfl rfl ?_
  refine SL.call (rbare_s (l := y.1.2.1)) Casts.refl (by kernel_rfl) rfl rfl rfl ?_
  refine After.pure (by repeat first|exact .nil|refine .blk (by repeat first|assumption|exact m0|apply m1) ?_|refine .rd (by repeat first|assumption|exact m0|apply m1) ?_|refine .pc (by repeat first|assumption|exact m0|apply m1) ?_|refine .rdpc (by repeat first|assumption|exact m0|apply m1) ?_) (fun _ => rfl) ?_
  intro _
  refine SL.val (Val.to (C := boo (decide (¬ bare y.1.2.1 = []))) (Val.neS rfl rfl) (congrArg (fun b => Abs.v (Value.bool b)) (decide_eq_decide.2 (not_congr st_eq)))) rfl rfl ?_
  refine SL.val (Val.pickF rfl rfl) rfl rfl ?_
  refine SL.nil (SE.seq ?_)
  refine SC.condP rfl ?_ ?_
  · intro hc26
    refine SC.seq (SC.region ?_)
    refine SL.val (Val.buildS tabOk rfl rfl rfl rfl) rfl rfl ?_
    refine SL.eff (Eff.store tabOk rfl rfl rfl (by repeat first|assumption|exact Upd.here|apply Upd.there) (by rfl) (Nat.le_of_ble_eq_true (by rfl)) (by rfl) (by rfl)) rfl rfl ?_
    rintro _ _ ⟨rfl, rfl⟩
    refine SL.val (Val.assign rfl) rfl rfl ?_
    refine SL.nil (SE.seq ?_)
    refine SC.ret ?_
    refine SE.then_ (by intro h; cases h) ?_
    refine SE.finC (rs := [.cell 4 83, .tmp 5]) rfl (RV.cell rfl (RV.cellA tabOk rfl rfl (by first|(apply Or.inl;(repeat first|assumption|exact m0|apply m1);done)|(apply Or.inr;(repeat first|assumption|exact m0|apply m1);done)) (by rfl)) (RV.tmp rfl RV.nil)) (Casts.cons (cast_agg (Casts.keep (Casts.keep (Casts.nils (s := 3) Casts.refl)))) Casts.refl) (()) (by repeat first|exact s0 _|exact s1 _|apply s2|apply s3) (by simp [It.rids]) ?_
    rw [doc_odd hl2 y.2 (.inr hc26)]
    rw [Frm.abs_mk]
    rfl
  intro hc26
  have hpe := doc_end (n := n) hl2 y.2 ho (Classical.byContradiction hc26)
  refine SC.skip ?_
  refine SE.seq ?_
  refine SC.seq ?_
  refine SC.seq (SC.region ?_)
  refine SL.val (Val.loadA tabOk rfl rfl rfl (by first|(apply Or.inl;(repeat first|assumption|exact m0|apply m1);done)|(apply Or.inr;(repeat first|assumption|exact m0|apply m1);done)) List.not_mem_nil (Frm.abs_len _)) rfl rfl ?_
  refine SL.val (Val.move rfl) rfl rfl ?_
  refine SL.call (rfcheck_s (f := y.1.1) (n := n) (by have := hpe.1; omega)) Casts.refl (by kernel_rfl) rfl rfl rfl ?_
  refine After.pure (by repeat first|exact .nil|refine .blk (by repeat first|assumption|exact m0|apply m1) ?_|refine .rd (by repeat first|assumption|exact m0|apply m1) ?_|refine .pc (by repeat first|assumption|exact m0|apply m1) ?_|refine .rdpc (by repeat first|assumption|exact m0|apply m1) ?_) (fun _ => rfl) ?_
  intro _
  refine SL.val (Val.assign rfl) rfl rfl ?_
  refine SL.nil (SE.seq ?_)
  refine SC.seq (SC.region ?_)
  refine SL.val (Val.move rfl) rfl rfl ?_
  refine SL.val (Val.neI rfl rfl) rfl rfl ?_
  refine SL.nil (SE.seq ?_)
  refine SC.condP rfl ?_ ?_
  rotate_left
  · intro hc32
    refine SC.skip ?_
    refine SE.seq ?_
    refine SC.seq (SC.region ?_)
    refine SL.val (Val.loadA tabOk rfl rfl rfl (by first|(apply Or.inl;(repeat first|assumption|exact m0|apply m1);done)|(apply Or.inr;(repeat first|assumption|exact m0|apply m1);done)) List.not_mem_nil (Frm.abs_len _)) rfl rfl ?_
    refine SL.eff (Eff.store (L' := y.1.1.abs) tabOk rfl rfl rfl (by repeat first|assumption|exact Upd.here|apply Upd.there) (by exact Frm.abs_len _) (Nat.le_of_ble_eq_true (by rfl)) (by exact Frm.abs_ones _) (putL_whole (by exact Frm.abs_len _))) rfl rfl ?_
    rintro _ _ ⟨rfl, rfl⟩
    refine SL.val (Val.assign rfl) rfl rfl ?_
    refine SL.nil (SE.seq ?_)
    refine SC.ret ?_
    refine SE.fin (rs := [.cell 4 83, .tmp 5]) rfl (RV.cell rfl (RV.cellA tabOk rfl rfl (by first|(apply Or.inl;(repeat first|assumption|exact m0|apply m1);done)|(apply Or.inr;(repeat first|assumption|exact m0|apply m1);done)) (by exact Frm.abs_len _)) (RV.tmp rfl RV.nil)) (()) (by repeat first|exact s0 _|exact s1 _|apply s2|apply s3) (by simp [It.rids]) ?_
    rw [hpe.2, if_neg hc32]
    rfl
  intro hc32
  refine SC.seq (SC.region ?_)
  refine SL.val (Val.buildS tabOk rfl rfl rfl rfl) rfl rfl ?_
  refine SL.val (Val.move rfl) rfl rfl ?_
  refine SL.eff (Eff.store tabOk rfl rfl rfl (by repeat first|assumption|exact Upd.here|apply Upd.there) (by rfl) (Nat.le_of_ble_eq_true (by rfl)) (by rfl) (by rfl)) rfl rfl ?_
  rintro _ _ ⟨rfl, rfl⟩
  refine SL.val (Val.assign rfl) rfl rfl ?_
  refine SL.nil (SE.seq ?_)
  refine SC.ret ?_
  refine SE.then_ (by intro h; cases h) ?_
  refine SE.finC (rs := [.cell 4 83, .tmp 5]) rfl (RV.cell rfl (RV.cellA tabOk rfl rfl (by first|(apply Or.inl;(repeat first|assumption|exact m0|apply m1);done)|(apply Or.inr;(repeat first|assumption|exact m0|apply m1);done)) (by rfl)) (RV.tmp rfl RV.nil)) (Casts.cons (cast_agg (Casts.keep (Casts.keep (Casts.nils (s := 3) Casts.refl)))) Casts.refl) (()) (by repeat first|exact s0 _|exact s1 _|apply s2|apply s3) (by simp [It.rids]) ?_
  rw [hpe.2, if_pos hc32]
  rw [Frm.abs_mk]
  rfl
end
end Go.Proofs.YtnedfcaoggkmnaaGreatDoor.A
/-
  The second engine: many pieces as one, at once; calls that change pieces in the midst, and read others.
-/
set_option maxRecDepth 100000
set_option linter.unusedSimpArgs false
set_option linter.unusedVariables false
namespace Go.Proofs.YtnedfcaoggkmnaaGreatDoor.A
open Go.RowKit

/-- A piece that may be changed, as one of memory. -/
def itPc : It → Pc
  | .blk b t cs => blkP b t cs
  | .pc c => c
  | _ => bigP []
/-- Pieces that may be changed, as one. -/
def bigI (xs : Blks) : Pc := bigP (xs.map itPc)
def isMut : It → Bool
  | .blk .. => true
  | .pc _ => true
  | _ => false
section
variable {xs ys : Blks} {x : It} {K : List Nat} {w : World}
theorem itPc_ids (h : isMut x = true) : (itPc x).ids = x.mids := by
  cases x with
  | blk b t cs => simp [itPc, It.mids, blkP]
  | pc c => rfl
  | _ => cases h
theorem itPc_p (h : isMut x = true) : (itPc x).p K w ↔ x.holds K w := by
  cases x with
  | blk b t cs => exact Iff.rfl
  | pc c => exact Iff.rfl
  | _ => cases h
theorem mut_rids (h : isMut x = true) : x.rids = [] := by
  cases x with
  | blk b t cs => rfl
  | pc c => rfl
  | _ => cases h
theorem bigI_ids : ∀ {xs : Blks}, xs.all isMut = true → (bigI xs).ids = mids xs
  | [], _ => rfl
  | x :: xs, h => by
    rw [List.all_cons, Bool.and_eq_true] at h
    have h1 := bigI_ids h.2
    unfold bigI bigP at h1 ⊢
    simp only [List.map_cons, List.flatMap_cons]
    rw [itPc_ids h.1, mids_cons]
    exact congrArg (x.mids ++ ·) h1
theorem bigI_p (h : xs.all isMut = true) : (bigI xs).p K w ↔ ∀ x ∈ xs, x.holds K w := by
  rw [List.all_eq_true] at h
  show (∀ c ∈ xs.map itPc, c.p K w) ↔ _
  constructor
  · intro h1 x hx
    exact (itPc_p (h x hx)).1 (h1 _ (List.mem_map.2 ⟨x, hx, rfl⟩))
  · intro h1 c hc
    obtain ⟨x, hx, rfl⟩ := List.mem_map.1 hc
    exact (itPc_p (h x hx)).2 (h1 x hx)
theorem mids_big (h : xs.all isMut = true) : mids [.pc (bigI xs)] = mids xs := by
  rw [mids_cons]
  show (bigI xs).ids ++ mids [] = _
  rw [bigI_ids h]
  simp [mids]
theorem all_rids (h : xs.all isMut = true) : ∀ x ∈ xs, x.rids = [] := fun x hx => mut_rids (List.all_eq_true.1 h x hx)
theorem Re.bigIn (h : xs.all isMut = true) : Re xs [.pc (bigI xs)] := ⟨⟨[], by rw [mids_big h, List.append_nil]⟩, by simp [It.rids], fun K w hx y hy => by
  rw [List.mem_singleton.1 hy]
  exact (bigI_p h).2 hx⟩
theorem Re.bigOut (h : xs.all isMut = true) : Re [.pc (bigI xs)] xs := ⟨⟨[], by rw [mids_big h, List.append_nil]⟩, all_rids h, fun K w hx y hy => (bigI_p h).1 (hx _ List.mem_cons_self) y hy⟩
theorem Spec.big {P : Program} {f : FuncId} {args : List Abs} {σ : Blks} {ι : Type} {τ : ι → Blks} {res : ι → Abs} (hs : Spec P f args σ τ res) (h1 : σ.all isMut = true) (h2 : ∀ z, (τ z).all isMut = true) : Spec P f args [.pc (bigI σ)] (fun z => [.pc (bigI (τ z))]) res :=
  Spec.reg (φ := []) hs (all_rids h1) (by rw [List.append_nil]; exact Re.bigOut h1) fun z => by rw [List.append_nil]; exact Re.bigIn (h2 z)
/-- A function that reads, and leaves the pieces. -/
theorem Spec.stay {P : Program} {f : FuncId} {args : List Abs} {c : Pc} {r : Abs} (h : Spec P f args [] (fun _ : Unit => []) (fun _ => r)) : Spec P f args [.pc c] (fun _ : Unit => [.pc c]) (fun _ => r) := fun G w vals hm hv =>
  (h.after hm hv (After.pure Reads.nil (fun _ => rfl) (K := fun ν _ => ν = [.pc c]) (fun _ => rfl))).mono fun e w' ⟨z, u, ν, he, hx, ho, hm', hc, hr', hk⟩ => by
    subst hk
    exact ⟨(), u, he, by simp [It.rids], hm', hr'⟩
theorem Spec.mapI {P : Program} {f : FuncId} {args : List Abs} {σ : Blks} {ι κ : Type} {τ : ι → Blks} {τ2 : κ → Blks} {res : ι → Abs} {res2 : κ → Abs} (g : ι → κ) (h : Spec P f args σ τ res) (h1 : ∀ z, τ z = τ2 (g z)) (h2 : ∀ z, res z = res2 (g z)) : Spec P f args σ τ2 res2 := fun G w vals hm hv =>
  (h G w vals hm hv).mono fun e w' ⟨z, r, he, h3, h4, h5⟩ => ⟨g z, r, he, by rw [← h1]; exact h3, by rw [← h1]; exact h4, by rw [← h1, ← h2]; exact h5⟩
end
end Go.Proofs.YtnedfcaoggkmnaaGreatDoor.A
