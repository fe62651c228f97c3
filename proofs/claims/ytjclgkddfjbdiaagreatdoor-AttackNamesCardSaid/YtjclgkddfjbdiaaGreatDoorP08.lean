/-
  Packed out of the texts: AWb, Rds, Req, E1, Id, V1, CryS, Frm, FrmS, Idx, E2, E3, E4, E5, V2, AWm, AN7, AWr, AN8, AN9, AGen.
-/
import Derived.Test.YtjclgkddfjbdiaaGreatDoorP07
set_option maxRecDepth 100000
set_option linter.unusedSimpArgs false
set_option linter.unusedVariables false
namespace Go.Proofs.YtjclgkddfjbdiaaGreatDoor.A
open Go.RowKit
section
variable {ι : Type} {c : ι → Pc} {ids : List Nat} {h : ∀ i, (c i).ids = ids} {ok ok' : ι → Prop} {i : ι}
def exP (ids : List Nat) (c : ι → Pc) (h : ∀ i, (c i).ids = ids) (ok : ι → Prop) : Pc where
  ids := ids
  p := fun K w => ∃ i, ok i ∧ (c i).p K w
  carry := fun K w K' w' hc hs ⟨i, h1, h2⟩ => ⟨i, h1, (c i).carry K w K' w' hc (by rw [h i]; exact hs) h2⟩
  lt := fun K w ⟨i, _, h2⟩ k hk => (c i).lt K w h2 k (by rw [h i]; exact hk)
theorem fh_ : mids [It.pc (exP ids c h ok)] = mids [It.pc (c i)] := by
  rw [ad_, ad_]
  exact congrArg (· ++ mids []) (h i).symm
theorem Re.exIn (hi : ok i) : Re [.pc (c i)] [.pc (exP ids c h ok)] := ⟨⟨[], by rw [List.append_nil, fh_ (i := i)]⟩, by simp [It.rids], fun K w hx y hy => by
  rw [List.mem_singleton.1 hy]
  exact ⟨i, hi, hx (.pc (c i)) (by simp)⟩⟩
theorem Re.exUp (hk : ∀ i, ok i → ok' i) : Re [.pc (exP ids c h ok)] [.pc (exP ids c h ok')] := ⟨⟨[], by rw [List.append_nil]; exact List.Perm.refl _⟩, by simp [It.rids], fun K w hx y hy => by
  rw [List.mem_singleton.1 hy]
  obtain ⟨i, h1, h2⟩ : (exP ids c h ok).p K w := hx (.pc (exP ids c h ok)) (by simp)
  exact ⟨i, hk i h1, h2⟩⟩
theorem Spec.exOpen {f : FuncId} {args : List Abs} {κ : Type} {τ : κ → Blks} {res : κ → Abs} (hs : ∀ i, ok i → Spec Tryz.prog f args [.pc (c i)] τ res) : Spec Tryz.prog f args [.pc (exP ids c h ok)] τ res := fun G w vals hm hv => by
  obtain ⟨i, h1, h2⟩ : (exP ids c h ok).p _ w := hm.hold (.pc (exP ids c h ok)) (by simp)
  have hn : (It.mids (.pc (c i))).Nodup := by
    have := hm.nodup
    rw [fh_ (i := i)] at this
    simpa [mids] using this
  have h6 := hm.upd (x := .pc (exP ids c h ok)) (y := .pc (c i)) .here (Ext.refl w) hn (fun k hk => .inl (by show k ∈ ids; rw [← h i]; exact hk)) rfl (fun hc => by
    refine Pc.carry (c i) _ w _ w hc (fun k hk => rfl) ?_
    exact h2)
  rw [fh_ (i := i)] at h6 hv
  have h7 := hs i h1 G w vals h6.1 (ae_ h6.2 _ _ hv)
  rw [fh_ (i := i)]
  exact h7
theorem Spec.ex {f : FuncId} {args : List Abs} {j : ι} {r : Abs} {κ : Type} {ok : ι → Prop} (κr : κ → Abs) (u : κ) (hr : r = κr u) (hs : Spec Tryz.prog f args [.pc (c i)] (fun _ : Unit => [.pc (c j)]) (fun _ => r)) (hj : ok j) : Spec Tryz.prog f args [.pc (c i)] (fun _ : κ => [.pc (exP ids c h ok)]) κr :=
  Spec.mapI (fun _ : Unit => u) (τ := fun _ => [.pc (exP ids c h ok)]) (Spec.reg (φ := []) hs (fun x h => by rw [List.mem_singleton.1 h]; rfl) (by rw [List.append_nil]; exact Re.refl (ar_ rfl)) fun z => Re.exIn hj) (fun _ => rfl) (fun _ => hr)
end
section
variable {α : Type} [DecidableEq α] {m : List (α × Nat)} {N M : Nat}
def AllLe (m : List (α × Nat)) (N : Nat) : Prop := m.length ≤ N ∧ Num1 m
theorem AllLe.pl (h : AllLe m N) (k : α) : Proofs.YtjclgkddfjbdiaaGreatDoor.pl m k ≤ N + 1 := by
  unfold Proofs.YtjclgkddfjbdiaaGreatDoor.pl
  cases e : aget m k with
  | none => have := h.1; simp; omega
  | some v => have := (h.2.pos k v e).2; have := h.1; simp; omega
theorem AllLe.pm (h : AllLe m N) (k : α) : AllLe (Proofs.YtjclgkddfjbdiaaGreatDoor.pm m k) (N + 1) := ⟨Nat.le_trans (fK_ m k) (Nat.succ_le_succ h.1), h.2.put k⟩
theorem AllLe.mono (h : AllLe m N) (hM : N ≤ M) : AllLe m M := ⟨Nat.le_trans h.1 hM, h.2⟩
theorem AllLe.nil (N : Nat) : AllLe ([] : List (α × Nat)) N := ⟨Nat.zero_le _, Num1.nil⟩
theorem AllLe.tm (h : AllLe m N) (g : Int → α) (l : List Int) (hM : N + l.length ≤ M) : AllLe (tmG g m l) M := ⟨by have := iG_ g m l; have := h.1; omega, iF_ h.2 g l⟩
end
section
variable {p bd bt N M : Nat} {k x y : Int} {l : List UInt8} {t : Tg}
def wbP (p bd bt N : Nat) : Pc := exP [p, bd, bt] (fun z : DMap × TMap => bkPc p bd bt z.1 z.2) (fun _ => rfl) (fun z => AllLe z.1 N ∧ AllLe z.2 N)
abbrev bkI (p : Nat) : Abs := .ifc 54 (ptr p)
abbrev wb (p bd bt N : Nat) : It := .pc (wbP p bd bt N)
theorem Re.wbUp (h : N ≤ M) : Re [wb p bd bt N] [wb p bd bt M] := Re.exUp fun _ h1 => ⟨h1.1.mono h, h1.2.mono h⟩
theorem Spec.wbOpen {f : FuncId} {args : List Abs} {ι : Type} {τ : ι → Blks} {res : ι → Abs} (h : ∀ D T, AllLe D N → AllLe T N → Spec Tryz.prog f args [.pc (bkPc p bd bt D T)] τ res) : Spec Tryz.prog f args [wb p bd bt N] τ res := Spec.exOpen fun i hi => h i.1 i.2 hi.1 hi.2
theorem Spec.wbIn {f : FuncId} {args : List Abs} {D D' : DMap} {T T' : TMap} {r : Abs} {κ : Type} (κr : κ → Abs) (u : κ) (hr : r = κr u) (hs : Spec Tryz.prog f args [.pc (bkPc p bd bt D T)] (fun _ : Unit => [.pc (bkPc p bd bt D' T')]) (fun _ => r)) (h1 : AllLe D' N) (h2 : AllLe T' N) : Spec Tryz.prog f args [.pc (bkPc p bd bt D T)] (fun _ : κ => [wb p bd bt N]) κr :=
  Spec.ex (c := fun z : DMap × TMap => bkPc p bd bt z.1 z.2) (i := (D, T)) (j := (D', T')) κr u hr hs ⟨h1, h2⟩
theorem wnew_s : Spec Tryz.prog 15 [] [] (fun z : Nat × Nat × Nat => [wb z.1 z.2.1 z.2.2 0]) (fun z => ptr z.1) :=
  Spec.reg (φ := []) bknew_s (fun x h => by cases h) (by rw [List.append_nil]; exact Re.refl (ar_ rfl)) fun z => Re.exIn (i := (([], []) : DMap × TMap)) (c := fun y : DMap × TMap => bkPc z.1 z.2.1 z.2.2 y.1 y.2) ⟨AllLe.nil _, AllLe.nil _⟩
theorem wdig_s (hN : N < 900000) (hl : l.length ≤ maxLen) : Spec Tryz.prog 553 [ptr p, int k, byt l] [wb p bd bt N] (fun _ : Tg => [wb p bd bt (N + 1)]) (fun t => .agg t.abs) :=
  Spec.wbOpen fun D T h1 h2 => Spec.wbIn (fun t : Tg => .agg t.abs) ⟨numB (k8 k) (pl D (k8 k, l)), bl_ _ _⟩ rfl (ia_ (p := p) (bd := bd) (bt := bt) (D := D) (T := T) (k := k) hl (by have := h1.1; omega) (by have := h1.pl (k8 k, l); omega)) (h1.pm _) (h2.mono (by omega))
end
def Rds (σ : Blks) : Prop := ∀ x ∈ σ, (∃ b t cs, x = .rd b t cs) ∨ ∃ c, x = .rdpc c
theorem Rds.reads {σ τ : Blks} (h : Rds τ) (hs : ∀ x ∈ τ, x ∈ σ) : Reads σ τ := by
  induction τ with
  | nil => exact .nil
  | cons x τ ih =>
    have h1 := ih (fun y hy => h y (List.mem_cons_of_mem _ hy)) (fun y hy => hs y (List.mem_cons_of_mem _ hy))
    have hx := hs x List.mem_cons_self
    rcases h x List.mem_cons_self with ⟨b, t, cs, rfl⟩ | ⟨c, rfl⟩
    · exact .rd hx h1
    · exact .rdpc hx h1
structure En where
  org : Int
  tags : List Tg
def En.abs (e : En) : List Abs := [int e.org, .sl 32 (e.tags.map Tg.abs)]
structure Rq where
  core : Core
  ends : List En
abbrev endsA (es : List En) : Abs := .sl 2 (es.map En.abs)
def Rq.abs (q : Rq) : List Abs := q.core.cells.map .v ++ [endsA q.ends]
theorem Rq.part (q : Rq) : A.part q.abs 0 7 = q.core.cells.map .v := rfl
theorem en_ (es : List En) : ∀ c ∈ es.map En.abs, ones c = true := fun c hc => by
  obtain ⟨e, _, rfl⟩ := List.mem_map.1 hc
  rfl
theorem iI_ (ts : List Tg) : ∀ c ∈ ts.map Tg.abs, ones c = true := fun c hc => by
  obtain ⟨t, _, rfl⟩ := List.mem_map.1 hc
  exact bC_.2 fun a ha => by
    obtain ⟨b, _, rfl⟩ := List.mem_map.1 ha
    rfl
theorem c1_ (c : Core) : c.bytes.length = 34 + c.letter.size + c.text.size := by
  have h1 : c.letter.data.toList.length = c.letter.size := rfl
  have h2 : c.text.data.toList.length = c.text.size := rfl
  simp only [Core.bytes, rowB, List.length_append, v_, h1, h2]
  omega
def putE (th : Bool) (e : En) : List En → List En
  | [] => [e]
  | x :: l => if th && decide (x.org = e.org) then e :: l else if !th && decide (e.org < x.org) then e :: x :: l else x :: putE th e l
def hasE (es : List En) (o : Int) : Bool := es.any fun x => decide (x.org = o)
def withL (es : List En) (e : En) : List En := putE (hasE es e.org) e es
theorem hg_ {e : En} : ∀ {es : List En} {i : Nat}, (hi : i < es.length) → es[i].org = e.org → (∀ j (hj : j < i), ¬ (es[j]'(by omega)).org = e.org) → putE true e es = es.set i e
  | [], i, hi, _, _ => by simp at hi
  | x :: es, 0, _, h, _ => by
    have h : x.org = e.org := h
    simp [putE, h]
  | x :: es, i + 1, hi, h, hn => by
    have h0 : ¬ x.org = e.org := hn 0 (by omega)
    have h1 := hg_ (es := es) (i := i) (by simpa using hi) (by simpa using h) fun j hj => by simpa using hn (j + 1) (by omega)
    simp [putE, h0, h1]
theorem hh_ {e : En} : ∀ {es : List En} {i : Nat}, (hi : i < es.length) → e.org < es[i].org → (∀ j (hj : j < i), ¬ e.org < (es[j]'(by omega)).org) → putE false e es = es.take i ++ e :: es.drop i
  | [], i, hi, _, _ => by simp at hi
  | x :: es, 0, _, h, _ => by
    have h : e.org < x.org := h
    simp [putE, h]
  | x :: es, i + 1, hi, h, hn => by
    have h0 : ¬ e.org < x.org := hn 0 (by omega)
    have h1 := hh_ (es := es) (i := i) (by simpa using hi) (by simpa using h) fun j hj => by simpa using hn (j + 1) (by omega)
    simp [putE, h0, h1]
theorem hi_ {e : En} : ∀ {es : List En}, (∀ x ∈ es, ¬ e.org < x.org) → putE false e es = es.take es.length ++ e :: es.drop es.length
  | [], _ => rfl
  | x :: es, h => by
    have h0 := h x List.mem_cons_self
    have h1 := hi_ (es := es) fun y hy => h y (List.mem_cons_of_mem _ hy)
    simp only [List.take_length, List.drop_length] at h1 ⊢
    simp [putE, h0, h1]
def bitsW : Nat → (Nat → Bool) → Wo
  | 0, _ => 0#32
  | n + 1, P => bitsW n P ||| (if P n then 1#32 <<< n else 0#32)
theorem d8_ {m i : Nat} (hm : m < 32) : (1#32 <<< m).getLsbD i = decide (i = m) := by
  simp only [BitVec.getLsbD_shiftLeft, BitVec.getLsbD_one]
  rcases Nat.lt_trichotomy i m with h | h | h
  · simp [h, Nat.ne_of_lt h]
  · subst h; simp [hm]
  · have h1 : ¬ i < m := by omega
    have h2 : ¬ i = m := by omega
    have h3 : ¬ i - m = 0 := by omega
    simp [h1, h2, h3]
theorem bP_ : ∀ (n : Nat) (P : Nat → Bool) (i : Nat), n ≤ 32 → (bitsW n P).getLsbD i = (decide (i < n) && P i)
  | 0, P, i, _ => by simp [bitsW]
  | n + 1, P, i, h => by
    rw [bitsW, BitVec.getLsbD_or, bP_ n P i (by omega)]
    have hb : (if P n = true then 1#32 <<< n else 0#32).getLsbD i = (decide (i = n) && P n) := by
      split
      · next hp => rw [d8_ (by omega), hp, Bool.and_true]
      · next hp =>
        have hp : P n = false := by simpa using hp
        rw [hp]
        simp
    rw [hb]
    rcases Nat.lt_trichotomy i n with h1 | h1 | h1
    · have h2 : i < n + 1 := by omega
      have h3 : ¬ i = n := by omega
      simp [h1, h2, h3]
    · subst h1
      simp
    · have h2 : ¬ i < n := by omega
      have h3 : ¬ i < n + 1 := by omega
      have h4 : ¬ i = n := by omega
      simp [h2, h3, h4]
theorem bq_ {n : Nat} (hn : n ≤ 32) {P Q : Nat → Bool} (h : ∀ i, i < n → P i = Q i) : bitsW n P = bitsW n Q := by
  apply BitVec.eq_of_getLsbD_eq
  intro i _
  rw [bP_ n P i hn, bP_ n Q i hn]
  by_cases hi : i < n
  · rw [h i hi]
  · simp [hi]
theorem hF_ {n m : Nat} (hn : n ≤ 32) (hm : m < n) (P : Nat → Bool) : bitsW n P ||| 1#32 <<< m = bitsW n fun o => P o || decide (o = m) := by
  apply BitVec.eq_of_getLsbD_eq
  intro i _
  rw [BitVec.getLsbD_or, bP_ n P i hn, bP_ n _ i hn, d8_ (by omega)]
  by_cases hi : i = m
  · subst hi; simp [hm]
  · simp [hi]
def firstOk (ok : En → Bool) (es : List En) (o : Nat) : Bool := match es.find? fun x => decide (x.org = (o : Int)) with
  | some e => ok e
  | none => false
def seenW (n : Nat) (es : List En) : Wo := bitsW n fun o => hasE es (o : Int)
def maskW (n : Nat) (ok : En → Bool) (es : List En) : Wo := bitsW n fun o => firstOk ok es o
theorem ff_ (es : List En) (e : En) (o : Int) : hasE (es ++ [e]) o = (hasE es o || decide (e.org = o)) := by simp [hasE]
theorem cF_ (ok : En → Bool) (es : List En) (e : En) (o : Nat) : firstOk ok (es ++ [e]) o = if hasE es (o : Int) then firstOk ok es o else decide (e.org = (o : Int)) && ok e := by
  unfold firstOk
  rw [List.find?_append]
  cases hf : es.find? fun x => decide (x.org = (o : Int)) with
  | some x =>
    have h1 := List.find?_some hf
    have h2 := List.mem_of_find?_eq_some hf
    have : hasE es (o : Int) = true := List.any_eq_true.2 ⟨x, h2, h1⟩
    rw [this]
    rfl
  | none =>
    rw [List.find?_eq_none] at hf
    have : hasE es (o : Int) = false := by
      unfold hasE
      rw [Bool.eq_false_iff]
      intro h
      obtain ⟨x, hx, h⟩ := List.any_eq_true.1 h
      exact hf x hx h
    rw [this]
    by_cases h : e.org = (o : Int)
    · simp [h]
    · simp [h]
theorem fA_ {n : Nat} (hn : n ≤ 32) {es : List En} {e : En} (h : ∀ o : Nat, o < n → ¬ e.org = (o : Int)) : seenW n (es ++ [e]) = seenW n es := bq_ hn fun i hi => by
  rw [ff_, decide_eq_false (h i hi), Bool.or_false]
theorem cZ_ {es : List En} {o : Nat} (h : hasE es (o : Int) = false) (ok : En → Bool) : firstOk ok es o = false := by
  unfold firstOk
  cases hf : es.find? fun x => decide (x.org = (o : Int)) with
  | some x =>
    have h1 := List.find?_some hf
    have h2 := List.mem_of_find?_eq_some hf
    have : hasE es (o : Int) = true := List.any_eq_true.2 ⟨x, h2, h1⟩
    rw [this] at h
    cases h
  | none => rfl
theorem fO_ {n : Nat} (hn : n ≤ 32) {ok : En → Bool} {es : List En} {e : En} (h : ∀ o : Nat, o < n → ¬ e.org = (o : Int)) : maskW n ok (es ++ [e]) = maskW n ok es := bq_ hn fun i hi => by
  rw [cF_, decide_eq_false (h i hi), Bool.false_and]
  cases hh : hasE es (i : Int) with
  | true => rfl
  | false => exact (cZ_ hh ok).symm
theorem iO_ {n m : Nat} (hn : n ≤ 32) {es : List En} {e : En} (hm : e.org = (m : Int)) (hs : hasE es (m : Int) = true) : seenW n (es ++ [e]) = seenW n es := bq_ hn fun i hi => by
  rw [ff_]
  by_cases h : i = m
  · subst h; rw [hs, Bool.true_or]
  · rw [hm, decide_eq_false (by omega), Bool.or_false]
theorem je_ {n m : Nat} (hn : n ≤ 32) {ok : En → Bool} {es : List En} {e : En} (hm : e.org = (m : Int)) (hs : hasE es (m : Int) = true) : maskW n ok (es ++ [e]) = maskW n ok es := bq_ hn fun i hi => by
  rw [cF_]
  by_cases h : i = m
  · subst h; rw [hs, if_pos rfl]
  · rw [hm, decide_eq_false (by omega), Bool.false_and]
    cases hh : hasE es (i : Int) with
    | true => rfl
    | false => exact (cZ_ hh ok).symm
theorem fB_ {n m : Nat} (hn : n ≤ 32) (hl : m < n) {es : List En} {e : En} (hm : e.org = (m : Int)) : seenW n (es ++ [e]) = seenW n es ||| 1#32 <<< m := by
  unfold seenW
  rw [hF_ hn hl]
  exact bq_ hn fun i hi => by
    rw [ff_, hm]
    congr 1
    rw [decide_eq_decide]
    omega
theorem fP_ {n m : Nat} (hn : n ≤ 32) (hl : m < n) {ok : En → Bool} {es : List En} {e : En} (hm : e.org = (m : Int)) (hs : hasE es (m : Int) = false) : maskW n ok (es ++ [e]) = if ok e then maskW n ok es ||| 1#32 <<< m else maskW n ok es := by
  have h1 : maskW n ok (es ++ [e]) = bitsW n fun o => firstOk ok es o || (decide (o = m) && ok e) := bq_ hn fun i hi => by
    rw [cF_]
    by_cases h : i = m
    · subst h
      rw [hs, if_neg (by decide), hm, cZ_ hs]
      simp
    · rw [hm, decide_eq_false (by omega), decide_eq_false h, Bool.false_and, Bool.or_false]
      cases hh : hasE es (i : Int) with
      | true => rfl
      | false => exact (cZ_ hh ok).symm
  rw [h1]
  cases ok e with
  | true =>
    rw [if_pos rfl]
    unfold maskW
    rw [hF_ hn hl]
    exact bq_ hn fun i _ => by rw [Bool.and_true]
  | false =>
    rw [if_neg (by decide)]
    exact bq_ hn fun i _ => by rw [Bool.and_false, Bool.or_false]
theorem seen_bit {n m : Nat} (hn : n ≤ 32) (hl : m < n) (es : List En) : decide (((seenW n es >>> m) &&& 1#32).toNat = 1) = hasE es (m : Int) := by
  have h1 : decide (((seenW n es >>> m) &&& 1#32).toNat = 1) = (seenW n es).getLsbD m := by
    rw [BitVec.toNat_and]
    show decide ((seenW n es >>> m).toNat &&& 1 = 1) = _
    rw [Nat.and_one_is_mod, BitVec.toNat_ushiftRight]
    show _ = (seenW n es).toNat.testBit m
    rw [Nat.testBit_eq_decide_div_mod_eq, Nat.shiftRight_eq_div_pow]
  rw [h1]
  unfold seenW
  rw [bP_ n _ m hn, decide_eq_true hl, Bool.true_and]
def okE (chk : Int → List UInt8 → Bool) (who : Int) (e : En) : Bool := decide (0 ≤ who) && match e.tags[who.toNat]? with
  | some t => chk e.org t.d
  | none => false
theorem okE_yes {chk : Int → List UInt8 → Bool} {e : En} {m : Nat} (h : m < e.tags.length) : okE chk (m : Nat) e = chk e.org (e.tags[m]).d := by
  unfold okE
  rw [decide_eq_true (by omega), Int.toNat_natCast, List.getElem?_eq_getElem h, Bool.true_and]
theorem okE_neg {chk : Int → List UInt8 → Bool} {e : En} {who : Int} (h : who < 0) : okE chk who e = false := by
  unfold okE
  rw [decide_eq_false (by omega), Bool.false_and]
theorem okE_far {chk : Int → List UInt8 → Bool} {e : En} {who : Int} (h : (e.tags.length : Int) ≤ who) : okE chk who e = false := by
  unfold okE
  rw [List.getElem?_eq_none (by omega), Bool.and_false]
def maskN (n : Int) (ok : En → Bool) (es : List En) : Wo := if 1 ≤ n ∧ n ≤ 7 then maskW n.toNat ok es else 0#32
theorem jo_ {v u : Value} {xs : List (List Abs)} {y : List Abs} {i : Nat} (hil : i ≤ xs.length) (h1 : ∀ c ∈ xs, ones c = true) (hy : ones y = true) (hn : xs.length ≤ 1000000) : Spec Tryz.prog 111 [.v v, int (i : Nat), .v u] [own 213 2 u [y], own 213 2 v xs] (fun r : Value => [own 213 2 r (xs.take i ++ y :: xs.drop i)]) (fun r => .v r) := by
 refine t_ Tryz.func111 rfl Tryz.ntmps111 rfl fun G w =>c_<|a_<|q_ 1 rfl<|g_<|b_<|c_<|a_<|q_ 2 rfl<|d_ (a7_ (s := 2) (q := i) tabOk Tryz.underlying132 rfl rfl rfl i1_ rfl (by omega) (by omega)) rfl rfl ?_
 refine g_<|b_<|c_<|a_<|q_ 1 rfl<|d_ (aG_ (m := 1) rfl i0_ Tryz.underlying132 rfl) rfl rfl<|q_ 1 rfl<|g_<|b_<|c_<|c_<|a_<|q_ 2 rfl<|g_<|b_<|n_ rfl (by intro hc16; exfalso; omega) ?_
 intro hc16
 refine s_<|b_<|c_<|a_<|q_ 1 rfl<|d_ (aG_ (m := xs.length) rfl i1_ Tryz.underlying132 rfl) rfl rfl<|q_ 1 rfl<|g_<|b_<|c_<|c_<|a_<|q_ 3 rfl<|g_<|b_<|n_ rfl ?_ ?_
 ·intro hc22
  refine c_<|bj_ [] (t := 2) rfl rfl<|a_<|q_ 2 rfl<|eb_ (bS_ tabOk [] Tryz.underlying132 rfl rfl rfl rfl rfl rfl (by intro c hc; rw [List.mem_singleton] at hc; subst hc; exact hy) (by unfold maxLen; simp; omega) (by rw [show Tryz.prog.bytesOf 213 = 32 by kernel_rfl]; simp; omega)) rfl rfl fun r25=>?_
  refine q_ 1 rfl<|g_<|b_<|o_<|k_ nofun<|f_ (rs := [.tmp 6]) rfl (RV.tmp rfl RV.nil) (r25) (by rw [← ins_all (y := y) (by omega : i = xs.length)]; exact List.Sublist.refl _) ?_
  exact rfl
 intro hc22
 have hlt : i < xs.length := by omega
 refine s_<|b_<|c_<|c_<|a_<|q_ 2 rfl<|d_ (E_ rfl rfl (by simp only [InR, lo, hi]; omega)) rfl rfl ?_
 refine q_ 1 rfl<|d_ (ik_ rfl i1_ Tryz.underlying132) rfl rfl<|q_ 1 rfl<|g_<|b_<|n_ rfl ?_ ?_
 ·intro hc31
  refine c_<|a_<|q_ 2 rfl<|d_ (eE_ (s := 2) (q := i) tabOk Tryz.underlying132 rfl rfl (.inl i1_) rfl rfl (by omega)) rfl rfl ?_
  refine q_ 2 rfl<|d_ (E_ rfl rfl (by simp only [InR, lo, hi]; omega)) rfl rfl ?_
  refine q_ 1 rfl<|d_ (i_ (C := int ((xs.length + 1 - i : Nat) : Int)) (b0_ rfl rfl (by simp only [InR, lo, hi]; omega)) (congrArg int (by omega))) rfl rfl ?_
  refine aT_ (eA_ (s := 2) (q := i) (m := xs.length + 1 - i) tabOk Tryz.underlying132 Tryz.underlying3 rfl rfl rfl rfl i1_ rfl rfl (by omega) (by omega) (by omega) (by unfold maxLen; omega) (by rw [show Tryz.prog.bytesOf 213 = 32 by kernel_rfl]; omega)) rfl rfl ?_
  rintro _ _ ⟨r40, js, rfl, hjs, rfl⟩
  refine q_ 1 rfl<|g_<|b_<|c_<|a_<|q_ 2 rfl<|d_ (a7_ (s := 2) (q := i) tabOk Tryz.underlying132 rfl rfl rfl i0_ rfl (by omega) (by (simp only [List.length_append, List.length_take, List.length_drop, List.length_cons, List.length_nil]; omega))) rfl rfl ?_
  refine q_ 1 rfl<|e_ (b4_ (s := 2) (q := i) (ys := [y]) (zs := xs.take i ++ y :: js.drop 1) tabOk Tryz.underlying132 rfl rfl rfl (by (simp only [List.length_append, List.length_take, List.length_drop, List.length_cons, List.length_nil]; omega)) (Src.ofAll rfl i1_ (by simp) (by (simp only [List.length_append, List.length_take, List.length_drop, List.length_cons, List.length_nil]; omega))) (by (intro c hc; rw [List.mem_singleton] at hc; subst hc; exact hy)) (ins_a hlt hjs) u0_) rfl rfl ?_
  refine g_<|b_<|c_<|T_ r40.ownBlock.toList (.q 0 (.q 1 (.q 2 (.q 3 (.q 4 (.q 5 (.q 6 (.q 7 (.e 8 .nil))))))))) (by kernel_rfl) (by kernel_rfl) ?_
  refine X_ (by (intro k hk; simp [mids, It.mids, ownPc, mapPc] at hk ⊢; grind)) fun hx9 => ?_
  refine qx_ 3 hx9 rfl<|j_ rfl (E_ rfl rfl (by simp only [InR, lo, hi]; omega)) hx9 rfl rfl ?_
  refine j_ rfl (a7_ (s := 2) (q := i + 1) tabOk Tryz.underlying132 rfl rfl rfl i0_ rfl (by omega) (by (simp only [List.length_append, List.length_take, List.length_drop, List.length_cons, List.length_nil]; omega))) hx9 rfl rfl ?_
  refine qx_ 2 hx9 rfl<|j_ rfl (a7_ (s := 2) (q := i) tabOk Tryz.underlying132 rfl rfl rfl i2_ rfl (by omega) (by omega)) hx9 rfl rfl ?_
  refine ex_ rfl (b4_ (s := 2) (q := i + 1) (ys := (xs.drop i)) (zs := (xs.take i ++ y :: xs.drop i)) tabOk Tryz.underlying132 rfl rfl rfl (by (simp only [List.length_append, List.length_take, List.length_drop, List.length_cons, List.length_nil]; omega)) (Src.ofOwn (xs := xs) (q := i) rfl i2_ hlt (by (simp only [List.length_append, List.length_take, List.length_drop, List.length_cons, List.length_nil]; omega)) (by rw [List.take_of_length_le (Nat.le_refl _)])) (by exact ht_ h1 _) (ins_b hlt hjs) u0_) (by simp) rfl rfl ?_
  exact C_<|b_<|c_<|a_<|q_ 2 rfl<|g_<|b_<|o_<|k_ nofun<|f_ (rs := [.tmp 6]) rfl (RV.tmp rfl RV.nil) (r40) (sc_ sn_)<|rfl
 intro hc31
 refine s_<|b_<|c_<|a_<|q_ 3 rfl<|d_ (E_ rfl rfl (by simp only [InR, lo, hi]; omega)) rfl rfl ?_
 refine d_ (gb_ (s := 2) (q := xs.length + 1) tabOk Tryz.underlying132 rfl rfl i1_ rfl (by omega) (by omega)) rfl rfl ?_
 refine q_ 1 rfl<|g_<|b_<|c_<|c_<|im_ (v := v) (xs := xs) (q := xs.length + 1) i1_ (by omega) (by omega) fun js hjs => ⟨_, u1_, ?_⟩
 refine a_<|q_ 4 rfl<|d_ (E_ rfl rfl (by simp only [InR, lo, hi]; omega)) rfl rfl ?_
 refine d_ (a7_ (s := 2) (q := i + 1) tabOk Tryz.underlying132 rfl rfl rfl i1_ rfl (by omega) (by (simp only [List.length_append, List.length_take, List.length_drop, List.length_cons, List.length_nil]; omega))) rfl rfl ?_
 refine d_ (ev_ (tr := 4) (s := 2) (q := i + 1) (α := [_]) (ys := [y]) Tryz.func155 (by kernel_rfl) (by kernel_rfl) (by kernel_rfl) (by kernel_rfl) tabOk Tryz.underlying132 rfl rfl rfl rfl rfl rfl i0_ (by simp) (by (simp only [List.length_append, List.length_take, List.length_drop, List.length_cons, List.length_nil]; omega))) rfl rfl ?_
 refine d_ (cr_ rfl) rfl rfl<|g_<|b_<|ab_ rfl<|c_<|T_ (cutTo v (xs.length + 1)).ownBlock.toList (.q 0 (.q 1 (.q 2 (.q 3 (.q 4 (.q 5 (.q 6 (.q 7 (.e 8 .nil))))))))) (by kernel_rfl) (by kernel_rfl) ?_
 refine X_ (by (intro k hk; simp [mids, It.mids, ownPc, mapPc] at hk ⊢; grind)) fun hx9 => ?_
 refine qx_ 3 hx9 rfl<|j_ rfl (E_ rfl rfl (by simp only [InR, lo, hi]; omega)) hx9 rfl rfl ?_
 refine j_ rfl (a7_ (s := 2) (q := i + 1) tabOk Tryz.underlying132 rfl rfl rfl i1_ rfl (by omega) (by (simp only [List.length_append, List.length_take, List.length_drop, List.length_cons, List.length_nil]; omega))) hx9 rfl rfl ?_
 refine qx_ 2 hx9 rfl<|j_ rfl (a7_ (s := 2) (q := i) tabOk Tryz.underlying132 rfl rfl rfl i1_ rfl (by omega) (by (simp only [List.length_append, List.length_take, List.length_drop, List.length_cons, List.length_nil]; omega))) hx9 rfl rfl ?_
 refine ex_ rfl (b4_ (s := 2) (q := i + 1) (ys := (xs.drop i)) (zs := (xs ++ js).take (i + 1) ++ xs.drop i) tabOk Tryz.underlying132 rfl rfl rfl (by (simp only [List.length_append, List.length_take, List.length_drop, List.length_cons, List.length_nil]; omega)) (Src.ofOwn (xs := xs ++ js) (q := i) rfl i1_ (by (simp only [List.length_append, List.length_take, List.length_drop, List.length_cons, List.length_nil]; omega)) (by (simp only [List.length_append, List.length_take, List.length_drop, List.length_cons, List.length_nil]; omega)) (ins_src hlt)) (by exact ht_ h1 _) (ins_c hlt hjs) u1_) (by simp) rfl rfl ?_
 refine C_<|b_<|c_<|a_<|q_ 2 rfl<|d_ (a7_ (s := 2) (q := i) tabOk Tryz.underlying132 rfl rfl rfl i1_ rfl (by omega) (by (simp only [List.length_append, List.length_take, List.length_drop, List.length_cons, List.length_nil]; omega))) rfl rfl ?_
 refine q_ 1 rfl<|e_ (b4_ (s := 2) (q := i) (ys := [y]) (zs := (xs.take i ++ y :: xs.drop i)) tabOk Tryz.underlying132 rfl rfl rfl (by (simp only [List.length_append, List.length_take, List.length_drop, List.length_cons, List.length_nil]; omega)) (Src.ofAll rfl i0_ (by simp) (by rw [ins_len hlt hjs]; simp only [List.length_cons, List.length_nil]; omega)) (by (intro c hc; rw [List.mem_singleton] at hc; subst hc; exact hy)) (ins_d hlt hjs) u1_) rfl rfl ?_
 exact g_<|b_<|c_<|a_<|q_ 2 rfl<|g_<|b_<|o_<|k_ nofun<|f_ (rs := [.tmp 6]) rfl (RV.tmp rfl RV.nil) ((cutTo v (xs.length + 1))) (sk_ sr_)<|rfl
section
variable {l : List UInt8} {n : Int} {k f place who : Int} {to : List Int} {p bd bt : Nat} {Dm : DMap} {T : TMap}
theorem gl_ (k : Int) : (Value.int .u8 (IntKind.u8.wrap k)) = .int .u8 (k8 k : Nat) := by
  simp [IntKind.wrap, IntKind.bits, IntKind.signed, k8]
  omega
theorem wrap_bc (k : Int) : (Value.int .u8 (IntKind.u8.wrap k)) = bc (UInt8.ofNat (k8 k)) := by
  rw [gl_]
  simp [bc, k8]
  omega
def textV (k : Int) (l : List UInt8) : List UInt8 := UInt8.ofNat (k8 k) :: l
def allN (n : Int) : List Int := if 7 < n then [] else (List.range n.toNat).map fun i => (i : Nat)
theorem clone_s (hl : l.length ≤ 1000000) : Spec Tryz.prog 74 [byt l] [] (fun _ : Unit => []) (fun _ => byt l) := by
 refine t_ Tryz.func74 rfl Tryz.ntmps74 rfl fun G w =>c_<|a_<|q_ 1 rfl<|g_<|b_<|c_<|c_<|a_<|q_ 1 rfl<|bH_ Tryz.underlying39 rfl rfl rfl<|fun b hb=>g_<|b_<|ay_ rfl ?_ ?_
 ·intro hc4
  have hnil : l = [] := List.map_eq_nil_iff.1 (hb hc4)
  refine c_<|a_<|q_ 1 rfl<|g_<|b_<|o_<|k_ nofun ?_
  subst hnil
  refine ci_ (rs := [.tmp 2]) rfl (RV.tmp rfl RV.nil) (Casts.nils (s := 1) Casts.refl) () sn_ (by simp [It.rids]) rfl
 intro hc4
 refine s_<|b_<|c_<|a_<|eb_ (as_ tabOk Tryz.underlying39 rfl rfl rfl rfl rfl rfl rfl) rfl rfl fun r5=>?_
 refine q_ 1 rfl<|eb_ (K_ (zs := bs l) tabOk [] (rfl) Tryz.underlying39 rfl rfl rfl rfl rfl rfl (jH_ _) (by unfold maxLen; simp only [bs, List.length_map, List.length_cons, List.length_nil]; omega) (by rw [show Tryz.prog.bytesOf 5 = 1 by kernel_rfl]; simp only [List.length_map, List.length_cons, List.length_nil]; omega)) rfl rfl fun r7=>?_
 exact q_ 1 rfl<|g_<|b_<|o_<|a8_ [] (t := 2) rfl rfl<|f_ (rs := [.tmp 2]) rfl (RV.tmp rfl RV.nil) (()) sn_<|rfl
theorem iH_ (hl : l.length ≤ 1000000) : Spec Tryz.prog 98 [int k, byt l] [] (fun _ : Unit => []) (fun _ => byt (textV k l)) := by
 refine t_ Tryz.func98 rfl Tryz.ntmps98 rfl fun G w =>c_<|a_<|q_ 1 rfl<|g_<|b_<|c_<|a_<|q_ 1 rfl<|d_ (i_ (C := .v (.int .u8 (k8 k : Nat))) (bQ_ rfl Tryz.underlying5 (by kernel_rfl)) (congrArg Abs.v (gl_ k))) rfl rfl ?_
 refine eb_ (as_ tabOk Tryz.underlying39 rfl rfl rfl rfl rfl rfl rfl) rfl rfl fun r7=>?_
 refine q_ 1 rfl<|aT_ (K_ (zs := bs (textV k l)) tabOk [] (by
   show [[Abs.v (Value.int .u8 (k8 k : Nat))]] ++ bs l = _
   rw [← gl_, wrap_bc]
   rfl) Tryz.underlying39 rfl rfl rfl rfl rfl rfl (jH_ _) (by unfold maxLen; simp only [bs, List.length_map, List.length_cons, List.length_nil]; omega) (by rw [show Tryz.prog.bytesOf 5 = 1 by kernel_rfl]; simp only [List.length_map, List.length_cons, List.length_nil]; omega)) rfl rfl ?_
 rintro _ _ ⟨r9, rfl, rfl⟩
 exact q_ 1 rfl<|g_<|b_<|o_<|a8_ [] (t := 4) rfl rfl<|f_ (rs := [.tmp 4]) rfl (RV.tmp rfl RV.nil) (()) sn_<|rfl
theorem ints_all (n : Int) (h : ¬ 7 < n) : (Abs.sl 1 ((List.range n.toNat).map fun i : Nat => [int (i : Nat)])) = ints (allN n) := by
  unfold allN
  rw [if_neg h]
  show _ = Abs.sl 1 (((List.range n.toNat).map fun i : Nat => (i : Int)).map fun x => [int x])
  rw [List.map_map]
  rfl
theorem jn_ (n : Int) (h : 7 < n) : (Abs.sl 1 []) = ints (allN n) := by
  unfold allN
  rw [if_pos h]
  rfl
theorem hY_ (k : Nat) : (List.range k).map (fun i : Nat => [int (i : Nat)]) ++ [[int (k : Nat)]] = (List.range (k + 1)).map fun i : Nat => [int (i : Nat)] := by
  rw [List.range_succ, List.map_append]
  rfl
set_option maxHeartbeats 2000000 in
theorem jN_  : Spec Tryz.prog 68 [int n] [] (fun _ : Unit => []) (fun _ => ints (allN n)) := by
 refine t_ Tryz.func68 rfl Tryz.ntmps68 rfl fun G w =>c_<|a_<|q_ 1 rfl<|g_<|b_<|c_<|c_<|a_<|q_ 2 rfl<|g_<|b_<|n_ rfl ?_ ?_
 ·intro hc6
  refine c_<|a_<|q_ 1 rfl<|g_<|b_<|o_<|k_ nofun<|ci_ (rs := [.tmp 2]) rfl (RV.tmp rfl RV.nil) (Casts.nils (s := 1) Casts.refl) () sn_ (by simp [It.rids]) (jn_ n (by omega))
 intro hc6
 refine s_<|b_<|c_<|a_<|q_ 1 rfl<|g_<|b_<|c_<|c_<|a_<|q_ 1 rfl<|d_ (ct_ rfl rfl) rfl rfl<|q_ 1 rfl<|g_<|b_<|w_<|aO_ 3 1<|S_ (ι := Nat × Value) (fun z => [own 3 1 z.2 ((List.range z.1).map fun i : Nat => [int (i : Nat)])]) (fun z => [(3, .v z.2), (8, int (max n 0)), (9, int (z.1 : Nat))]) (fun z => z.1 ≤ n.toNat) (fun z => n.toNat - z.1) (0, .slice none 0 0) (Nat.zero_le _) (by exact ⟨rfl, rfl, rfl, trivial⟩) sr_ ?_
 intro z hz
 refine c_<|a_<|q_ 1 rfl<|g_<|b_<|c_<|n_ rfl ?_ ?_
 rotate_left
 ·intro hc10
  refine O_<|k_ nofun<|k_ nofun<|N_<|b_<|c_<|a_<|q_ 2 rfl<|g_<|b_<|o_ ?_
  have hz1 : z.1 = n.toNat := by omega
  refine a8_ [] (t := 2) rfl rfl ?_
  rw [hz1]
  exact f_ (rs := [.tmp 2]) rfl (RV.tmp rfl RV.nil) (()) sn_<|ints_all n (by omega)
 intro hc10
 refine s_<|b_<|c_<|w_<|c_<|a_<|q_ 2 rfl<|g_<|b_<|a_<|q_ 2 rfl<|e_ (ac_ tabOk Tryz.underlying22 rfl rfl rfl rfl rfl rfl rfl) rfl rfl<|eb_ (K_ (zs := ((List.range (z.1 + 1)).map fun i : Nat => [int (i : Nat)])) tabOk [] (hY_ z.1) Tryz.underlying22 rfl rfl rfl rfl rfl rfl (by intro c hc; rw [List.mem_singleton] at hc; subst hc; rfl) (by unfold maxLen; simp only [List.length_map, List.length_range, List.length_cons, List.length_nil]; omega) (by rw [show Tryz.prog.bytesOf 3 = 8 by kernel_rfl]; simp only [List.length_map, List.length_range, List.length_cons, List.length_nil]; omega)) rfl rfl fun r15=>?_
 refine q_ 1 rfl<|g_<|A_<|b_<|a_<|d_ (E_ rfl rfl (by simp only [InR, lo, hi]; omega)) rfl rfl ?_
 refine q_ 1 rfl<|g_<|J_ (z.1 + 1, r15) (by omega) (by dsimp only; omega) (by exact ⟨rfl, rfl, rfl, trivial⟩) sr_
end
theorem bs_ {l : List Int} {z : Nat} (h : z < l.length) : l.take (z + 1) = l.take z ++ [l[z]] := List.take_succ_eq_append_getElem h
theorem dig32 {l : List UInt8} (h : l.length = 32) : (digA l).length = 32 := by simp only [digA, List.length_map]; exact h
abbrev gB (f : Int) (t : List UInt8) (w : Int) : (Int × Int) × List UInt8 := ((f, w), t)
section
variable {k f n : Int} {body : List UInt8} {to : List Int} {p bd bt q : Nat} {Dm : DMap} {Tb : TMap} {T : List (ByteArray × Nat)}
set_option maxHeartbeats 4000000 in
theorem g6_ (hb : body.length ≤ 999000) (hn : Num1 Tb) (hT : Tb.length ≤ 900000) (hl : to.length ≤ 1000) (hf : i64r f) (hto : ∀ w ∈ to, i64r w) : Spec Tryz.prog 70 [.ifc 54 (.v (.pointer (some ⟨p, 0, none⟩))), int k, int f, byt body, ints to] [.pc (bkPc p bd bt Dm (Tb))] (fun _ : Unit => [.pc (bkPc p bd bt Dm (tmG (gB f (textV k body)) Tb to))]) (fun _ => .agg (Msg.mk k f body (tagsG (gB f (textV k body)) Tb to)).abs) := by
 refine t_ Tryz.func70 rfl Tryz.ntmps70 rfl fun G w =>c_<|a_<|eb_ (F_ tabOk rfl) rfl rfl fun b10=>?_
 refine g_<|b_<|c_<|a_<|q_ 3 rfl<|m_ (clone_s (l := body) (by omega)) Casts.refl (by kernel_rfl) rfl rfl rfl ?_
 refine ap_<|fun _=>d_ (u_ tabOk rfl rfl rfl rfl) rfl rfl<|eb_ (F_ tabOk rfl) rfl rfl fun b11=>?_
 refine e_ (p_ tabOk rfl rfl rfl u0_ rfl (Nat.le_of_ble_eq_true rfl) rfl rfl) rfl rfl<|g_<|b_<|c_<|c_<|a_<|q_ 1 rfl<|d_ (a0_ Tryz.underlying68 rfl) rfl rfl<|g_<|b_<|I_ rfl<|s_<|b_<|c_<|a_<|q_ 2 rfl<|m_ (iH_ (k := k) (l := body) (by omega)) Casts.refl (by kernel_rfl) rfl rfl rfl ?_
 refine ap_<|fun _=>q_ 1 rfl<|g_<|b_<|c_<|c_<|a_<|q_ 1 rfl<|d_ (P_ rfl Tryz.underlying22 (List.length_map _)) rfl rfl<|q_ 1 rfl<|g_<|b_<|w_<|aO_ 64 32<|S_ (ι := Nat × Value × Unit) (fun z => [own 64 32 z.2.1 ((tagsG (gB f (textV k body)) Tb (to.take z.1)).map Tg.abs), .blk b11 42 [int k, int f, byt body, .v z.2.1], .blk b10 42 (zabs [.int .i64 0, .int .i64 0, .slice none 0 0, .slice none 0 0]), .pc (bkPc p bd bt Dm (tmG (gB f (textV k body)) Tb (to.take z.1)))]) (fun z => [(0, .ifc 54 (.v (.pointer (some ⟨p, 0, none⟩)))), (2, int f), (10, ptr b10), (11, ptr b11), (12, byt (textV k body)), (26, ints to), (27, int (to.length : Nat)), (28, int (z.1 : Nat))]) (fun z => z.1 ≤ to.length) (fun z => to.length - z.1) (0, .slice none 0 0, ()) (Nat.zero_le _) (by exact ⟨rfl, rfl, rfl, rfl, rfl, rfl, rfl, rfl, trivial⟩) sr_ ?_
 intro z hz
 refine c_<|a_<|q_ 1 rfl<|g_<|b_<|c_<|n_ rfl ?_ ?_
 rotate_left
 ·intro hc29
  refine O_<|k_ nofun<|k_ nofun<|N_<|b_<|c_ ?_
  have hz4 : z.1 = to.length := by omega
  refine bR_ [] 3 rfl u0_ rfl ?_
  rw [hz4, List.take_of_length_le (Nat.le_refl _)]
  refine a_<|d_ (y_ tabOk rfl rfl rfl l0_ List.not_mem_nil rfl) rfl rfl<|e_ (p_ tabOk rfl rfl rfl u1_ rfl (Nat.le_of_ble_eq_true rfl) rfl rfl) rfl rfl<|g_<|b_<|o_<|f_ (rs := [.cell 10 42]) rfl (RV.cell rfl (RV.cellA tabOk rfl rfl l1_ (by rfl)) RV.nil) (()) (sk_ (sk_ sr_)) ?_
  exact rfl
 intro hc29
 have hlt : z.1 < to.length := by omega
 have hT2 := iG_ (gB f (textV k body)) Tb (to.take z.1)
 have hTn := iF_ hn (gB f (textV k body)) (to.take z.1)
 have hTp := hTn.pl_le (gB f (textV k body) (to[z.1]'hlt))
 have hlen9 : (to.take z.1).length = z.1 := by rw [List.length_take]; omega
 refine s_<|b_<|c_<|w_<|c_<|a_<|d_ (W_ tabOk Tryz.underlying22 rfl rfl rfl rfl (ce_ (by omega)) rfl rfl) rfl rfl ?_
 refine d_ (i_ (C := int (to[z.1]'hlt)) (aI_ tabOk rfl rfl rfl) rfl) rfl rfl<|q_ 1 rfl<|g_<|b_<|T_ (z.2.1.ownBlock.toList ++ [b11, p, bd, bt]) (.q 0 (.q 2 (.q 3 (.q 4 (.q 5 (.two 1 6 (.e 6 (.e 7 (.e 8 (.q 9 (.e 10 .nil))))) (.two 1 7 (.e 7 (.e 8 (.q 9 (.e 10 .nil)))) (.e 1 (.e 8 (.q 9 (.e 10 .nil))))))))))) (by kernel_rfl) (by kernel_rfl) ?_
 refine X_ (by (intro k hk; simp [mids, It.mids, ownPc, bkPc, mapPc] at hk ⊢; grind)) fun hx9 => ?_
 refine qx_ 5 hx9 rfl<|aQ_ ?_ ?_
 ·skip
  refine ez_ rfl (h_ tabOk rfl rfl l1_ List.not_mem_nil (by rfl)) rfl rfl ?_
  refine bt_ rfl (jI_ (p := p) (bd := bd) (bt := bt) (D := Dm) (T := (tmG (gB f (textV k body)) Tb (to.take z.1))) (from_ := f) (to_ := to[z.1]) (l := (textV k body)) hf (hto _ (List.getElem_mem hlt)) (by unfold maxLen; simp [textV]; omega) (by omega) (Nat.lt_of_le_of_lt hTp (by omega))) (by simp [mids, It.mids, bkPc]) rfl Casts.refl (fun _ _ _ => by kernel_rfl) rfl rfl rfl ?_
  refine Q_ rfl i3_ (fun _ => rfl)<|fun _=>⟨_, u3_, ex_ rfl (ac_ tabOk Tryz.underlying40 rfl rfl rfl (aS_ (dig32 (bl_ _ _))) rfl rfl rfl) (by simp) rfl rfl ?_⟩
  refine fm_ [b11] rfl (K_ (zs := (tagsG (gB f (textV k body)) Tb (to.take (z.1 + 1))).map Tg.abs) tabOk [] (by rw [bs_ hlt]; exact df_ _ _ _ _) Tryz.underlying40 rfl rfl rfl rfl rfl rfl (by intro c hc; rw [List.mem_singleton] at hc; subst hc; exact bX_ _) (by unfold maxLen; simp only [tagsG, List.length_map, List.length_take, List.length_cons, List.length_nil]; omega) (by rw [show Tryz.prog.bytesOf 64 = 32 by kernel_rfl]; simp only [tagsG, List.length_map, List.length_take, List.length_cons, List.length_nil]; omega)) (fun k hk => List.mem_append_left _ hk) (by simp) rfl rfl ?_
  rintro _ _ ⟨r40, rfl, rfl⟩
  refine X_ (by (simp [mids, It.mids, ownPc, bkPc, mapPc]; done)) fun hx9 => ?_
  refine qx_ 1 hx9 rfl<|ex_ rfl (az_ tabOk rfl rfl rfl rfl i0_ u1_ rfl rfl) (by simp) rfl rfl ?_
  refine C_<|A_<|b_<|a_<|d_ (E_ rfl rfl (by simp only [InR, lo, hi]; omega)) rfl rfl ?_
  refine q_ 1 rfl<|g_<|J_ (z.1 + 1, r40, ()) (by omega) (by dsimp only; omega) (by exact ⟨rfl, rfl, rfl, rfl, rfl, rfl, rfl, rfl, trivial⟩) (by rw [bs_ hlt, dI_]; exact List.Sublist.refl _)
 skip
 refine bt_ rfl (jI_ (p := p) (bd := bd) (bt := bt) (D := Dm) (T := (tmG (gB f (textV k body)) Tb (to.take z.1))) (from_ := f) (to_ := to[z.1]) (l := (textV k body)) hf (hto _ (List.getElem_mem hlt)) (by unfold maxLen; simp [textV]; omega) (by omega) (Nat.lt_of_le_of_lt hTp (by omega))) (by simp [mids, It.mids, bkPc]) rfl Casts.refl (fun _ _ _ => by kernel_rfl) rfl rfl rfl ?_
 refine Q_ rfl i3_ (fun _ => rfl)<|fun _=>⟨_, u3_, aQ_ ?_ ?_⟩
 ·skip
  refine ez_ rfl (h_ tabOk rfl rfl l1_ List.not_mem_nil (by rfl)) rfl rfl ?_
  refine ex_ rfl (ac_ tabOk Tryz.underlying40 rfl rfl rfl (aS_ (dig32 (bl_ _ _))) rfl rfl rfl) (by simp) rfl rfl ?_
  refine fm_ [b11] rfl (K_ (zs := (tagsG (gB f (textV k body)) Tb (to.take (z.1 + 1))).map Tg.abs) tabOk [] (by rw [bs_ hlt]; exact df_ _ _ _ _) Tryz.underlying40 rfl rfl rfl rfl rfl rfl (by intro c hc; rw [List.mem_singleton] at hc; subst hc; exact bX_ _) (by unfold maxLen; simp only [tagsG, List.length_map, List.length_take, List.length_cons, List.length_nil]; omega) (by rw [show Tryz.prog.bytesOf 64 = 32 by kernel_rfl]; simp only [tagsG, List.length_map, List.length_take, List.length_cons, List.length_nil]; omega)) (fun k hk => List.mem_append_left _ hk) (by simp) rfl rfl ?_
  rintro _ _ ⟨r40, rfl, rfl⟩
  refine X_ (by (simp [mids, It.mids, ownPc, bkPc, mapPc]; done)) fun hx9 => ?_
  refine qx_ 1 hx9 rfl<|ex_ rfl (az_ tabOk rfl rfl rfl rfl i0_ u1_ rfl rfl) (by simp) rfl rfl ?_
  refine C_<|A_<|b_<|a_<|d_ (E_ rfl rfl (by simp only [InR, lo, hi]; omega)) rfl rfl ?_
  refine q_ 1 rfl<|g_<|J_ (z.1 + 1, r40, ()) (by omega) (by dsimp only; omega) (by exact ⟨rfl, rfl, rfl, rfl, rfl, rfl, rfl, rfl, trivial⟩) (by rw [bs_ hlt, dI_]; exact List.Sublist.refl _)
 skip
 refine ex_ rfl (ac_ tabOk Tryz.underlying40 rfl rfl rfl (aS_ (dig32 (bl_ _ _))) rfl rfl rfl) (by simp) rfl rfl ?_
 refine ez_ rfl (h_ tabOk rfl rfl l1_ List.not_mem_nil (by rfl)) rfl rfl ?_
 refine fm_ [b11] rfl (K_ (zs := (tagsG (gB f (textV k body)) Tb (to.take (z.1 + 1))).map Tg.abs) tabOk [] (by rw [bs_ hlt]; exact df_ _ _ _ _) Tryz.underlying40 rfl rfl rfl rfl rfl rfl (by intro c hc; rw [List.mem_singleton] at hc; subst hc; exact bX_ _) (by unfold maxLen; simp only [tagsG, List.length_map, List.length_take, List.length_cons, List.length_nil]; omega) (by rw [show Tryz.prog.bytesOf 64 = 32 by kernel_rfl]; simp only [tagsG, List.length_map, List.length_take, List.length_cons, List.length_nil]; omega)) (fun k hk => List.mem_append_left _ hk) (by simp) rfl rfl ?_
 rintro _ _ ⟨r40, rfl, rfl⟩
 refine X_ (by (simp [mids, It.mids, ownPc, bkPc, mapPc]; done)) fun hx9 => ?_
 refine qx_ 1 hx9 rfl<|ex_ rfl (az_ tabOk rfl rfl rfl rfl i0_ u1_ rfl rfl) (by simp) rfl rfl ?_
 refine C_<|A_<|b_<|a_<|d_ (E_ rfl rfl (by simp only [InR, lo, hi]; omega)) rfl rfl ?_
 refine q_ 1 rfl<|g_<|J_ (z.1 + 1, r40, ()) (by omega) (by dsimp only; omega) (by exact ⟨rfl, rfl, rfl, rfl, rfl, rfl, rfl, rfl, trivial⟩) (by rw [bs_ hlt, dI_]; exact List.Sublist.refl _)
end
inductive Frm where
  | mk (org at_ : Int) (kids : List Frm)
mutual
def Frm.depth : Frm → Nat
  | .mk _ _ ks => 1 + Frm.depths ks
def Frm.depths : List Frm → Nat
  | [] => 0
  | k :: ks => max k.depth (Frm.depths ks)
end
mutual
def Frm.holds (s : Wo) : Frm → Bool
  | .mk o a ks => match ks with
    | [] => s.getLsbD o.toNat
    | k :: ks => decide (a ≤ (((if k.holds s then 1 else 0) + Frm.holdss s ks : Nat) : Int))
def Frm.holdss (s : Wo) : List Frm → Nat
  | [] => 0
  | k :: ks => (if k.holds s then 1 else 0) + Frm.holdss s ks
end
def IdxOf {α : Type} (p : α → Bool) (xs : List α) (r : Int) : Prop := (r = -1 ∧ ∀ x ∈ xs, p x = false) ∨ ∃ i, ∃ h : i < xs.length, r = (i : Nat) ∧ p xs[i] = true ∧ ∀ j (hj : j < i), p (xs[j]'(by omega)) = false
section
variable {c : Core} {q q2 : Rq} {e : En} {es : List En} {n who : Int}
theorem etext_s (h1 : c.letter.size ≤ 1000) (h2 : c.text.size ≤ 1000) : Spec Tryz.prog 339 [coreA c] [] (fun _ : Unit => []) (fun _ => byt (textV 100 c.bytes)) := by
 refine t_ Tryz.func339 rfl Tryz.ntmps339 rfl fun G w =>c_<|a_<|eb_ (z_ (cs := c.cells.map .v) rfl) rfl rfl fun b1=>?_
 refine q_ 1 rfl<|g_<|b_<|c_<|a_<|d_ (y_ tabOk rfl rfl rfl l0_ List.not_mem_nil rfl) rfl rfl<|m_ (c3_ (by omega) (by omega)) Casts.refl (by kernel_rfl) rfl rfl rfl ?_
 refine ap_<|fun _=>m_ (iH_ (k := 100) (l := c.bytes) (by rw [c1_]; omega)) Casts.refl (by kernel_rfl) rfl rfl rfl ?_
 exact ap_<|fun _=>q_ 1 rfl<|g_<|b_<|o_<|f_ (rs := [.tmp 2]) rfl (RV.tmp rfl RV.nil) (()) sn_<|rfl
theorem f1_ {xs : List (List Abs)} (h1 : ∀ c ∈ xs, ones c = true) (hn : xs.length ≤ 1000000) : Spec Tryz.prog 106 [.sl 2 xs] [] (fun r : Value => [own 213 2 r xs]) (fun r => .v r) := by
 refine t_ Tryz.func106 rfl Tryz.ntmps106 rfl fun G w =>c_<|a_<|q_ 1 rfl<|g_<|b_<|c_<|c_<|a_<|q_ 1 rfl<|bH_ Tryz.underlying132 rfl rfl rfl<|fun b hb=>g_<|b_<|ay_ rfl ?_ ?_
 ·intro hc4
  have hnil : xs = [] := hb hc4
  subst hnil
  exact c_<|aO_ 213 2<|a_<|q_ 1 rfl<|g_<|b_<|o_<|k_ nofun<|f_ (rs := [.tmp 2]) rfl (RV.tmp rfl RV.nil) (.slice none 0 0) sr_<|rfl
 intro hc4
 refine s_<|b_<|c_<|a_<|eb_ (as_ tabOk Tryz.underlying132 rfl rfl rfl rfl rfl rfl rfl) rfl rfl fun r5=>?_
 refine q_ 1 rfl<|eb_ (K_ (zs := xs) tabOk [] rfl Tryz.underlying132 rfl rfl rfl rfl rfl rfl h1 (by unfold maxLen; simp only [List.length_nil]; omega) (by rw [show Tryz.prog.bytesOf 213 = 32 by kernel_rfl]; simp only [List.length_nil]; omega)) rfl rfl fun r7=>?_
 exact q_ 1 rfl<|g_<|b_<|o_<|f_ (rs := [.tmp 2]) rfl (RV.tmp rfl RV.nil) (r7) sr_<|rfl
theorem f0_ {xs : List (List Abs)} (h1 : ∀ c ∈ xs, ones c = true) (hn : xs.length ≤ 1000000) : Spec Tryz.prog 107 [.sl 32 xs] [] (fun _ : Unit => []) (fun _ => .sl 32 xs) := by
 refine t_ Tryz.func107 rfl Tryz.ntmps107 rfl fun G w =>c_<|a_<|q_ 1 rfl<|g_<|b_<|c_<|c_<|a_<|q_ 1 rfl<|bH_ Tryz.underlying40 rfl rfl rfl<|fun b hb=>g_<|b_<|ay_ rfl ?_ ?_
 ·intro hc4
  have hnil : xs = [] := hb hc4
  subst hnil
  refine c_<|a_<|q_ 1 rfl<|g_<|b_<|o_<|k_ nofun<|ci_ (rs := [.tmp 2]) rfl (RV.tmp rfl RV.nil) (Casts.nils (s := 32) Casts.refl) () sn_ (by simp [It.rids]) rfl
 intro hc4
 refine s_<|b_<|c_<|a_<|eb_ (as_ tabOk Tryz.underlying40 rfl rfl rfl rfl rfl rfl rfl) rfl rfl fun r5=>?_
 refine q_ 1 rfl<|eb_ (K_ (zs := xs) tabOk [] rfl Tryz.underlying40 rfl rfl rfl rfl rfl rfl h1 (by unfold maxLen; simp only [List.length_nil]; omega) (by rw [show Tryz.prog.bytesOf 64 = 32 by kernel_rfl]; simp only [List.length_nil]; omega)) rfl rfl fun r7=>?_
 exact q_ 1 rfl<|g_<|b_<|o_<|a8_ [] (t := 2) rfl rfl<|f_ (rs := [.tmp 2]) rfl (RV.tmp rfl RV.nil) (()) sn_<|rfl
theorem eQ_ {v : Value} {xs : List En} {p : En → Bool} {k : Nat} {caps : List Abs} {σ : Blks} (hb : goesIn Tryz.prog k = true) (hr : Rds σ) (hn : xs.length < 9223372036854775807) (h : ∀ x ∈ xs, Spec Tryz.prog k (.agg (En.abs x) :: caps) σ (fun _ : Unit => []) (fun _ => boo (p x))) : Spec Tryz.prog 108 [.v v, .fn (.func k) [] caps] (.rdpc (ownPc 213 2 v (xs.map En.abs)) :: σ) (fun _ : {r : Int // IdxOf p xs r} => []) (fun z => int z.1) := by
 refine t_ Tryz.func108 rfl Tryz.ntmps108 rfl fun G w =>c_<|a_<|q_ 1 rfl<|g_<|b_<|c_<|c_<|a_<|q_ 1 rfl<|d_ (cJ_ (m := xs.length) rfl (.inr i0_) Tryz.underlying132 (List.length_map _)) rfl rfl<|q_ 1 rfl<|g_<|b_<|w_<|S_ (ι := Nat) (fun z => (.rdpc (ownPc 213 2 v (xs.map En.abs)) :: σ)) (fun z => [(0, .v v), (1, .fn (.func k) [] caps), (7, int (xs.length : Nat)), (8, int (z : Nat))]) (fun z => z ≤ xs.length ∧ ∀ j (hj : j < xs.length), j < z → p xs[j] = false) (fun z => xs.length - z) (0) (⟨Nat.zero_le _, by omega⟩) (by exact ⟨rfl, rfl, rfl, rfl, trivial⟩) sr_ ?_
 intro z hz
 refine c_<|a_<|q_ 1 rfl<|g_<|b_<|c_<|n_ rfl ?_ ?_
 rotate_left
 ·intro hc9
  refine O_<|k_ nofun<|k_ nofun<|N_<|b_<|c_<|a_<|q_ 1 rfl<|g_<|b_<|o_<|f_ (rs := [.tmp 4]) rfl (RV.tmp rfl RV.nil) (⟨-1, .inl ⟨rfl, fun x hx => by obtain ⟨j, hj, rfl⟩ := List.getElem_of_mem hx; exact hz.2 j hj (by omega)⟩⟩) sn_ ?_
  exact rfl
 intro hc9
 have hlt : z < xs.length := by omega
 refine s_<|b_<|c_<|w_<|c_<|a_<|q_ 2 rfl<|g_<|b_<|c_<|a_<|q_ 3 rfl<|d_ (aP_ (q := z) tabOk Tryz.underlying132 rfl rfl (.inr i0_) rfl rfl (by rw [List.length_map]; exact hlt) rfl rfl) rfl rfl ?_
 refine d_ (dC_ tabOk rfl rfl rfl (.inr i0_) rfl (ce_ hlt) rfl) rfl rfl<|c9_ (h _ (List.getElem_mem hlt)) rfl Casts.refl hb rfl rfl rfl<|dy_ (Rds.reads hr (fun x hx => by repeat (first | exact hx | apply List.mem_cons_of_mem))) (fun _ => rfl) ?_
 intro _
 refine g_<|b_<|ay_ rfl ?_ ?_
 rotate_left
 ·intro hc16
  refine s_<|A_<|b_<|a_<|d_ (E_ rfl rfl (by simp only [InR, lo, hi]; omega)) rfl rfl ?_
  refine q_ 1 rfl<|g_<|J_ (z + 1) (by omega) (⟨by omega, fun j hj hjz => by rcases Nat.lt_or_ge j z with h1 | h1; exact hz.2 j hj h1; obtain rfl : j = z := (by omega); exact hc16⟩) (by exact ⟨rfl, rfl, rfl, rfl, trivial⟩) sr_
 intro hc16
 refine c_<|a_<|q_ 2 rfl<|g_<|b_<|o_<|aF_<|k_ nofun<|k_ nofun<|aF_<|k_ nofun<|f_ (rs := [.tmp 4]) rfl (RV.tmp rfl RV.nil) (⟨(z : Nat), .inr ⟨z, hlt, rfl, hc16, fun j hj => hz.2 j (by omega) hj⟩⟩) sn_ ?_
 exact rfl
theorem with1_s {x : En} {p : Nat} : Spec Tryz.prog 109 [.agg x.abs, ptr p] [.rd p 213 e.abs] (fun _ : Unit => []) (fun _ => boo (decide (x.org = e.org))) := by
 refine t_ Tryz.func109 rfl Tryz.ntmps109 rfl fun G w =>c_<|a_<|eb_ (z_ (cs := x.abs) rfl) rfl rfl fun b2=>?_
 exact q_ 1 rfl<|g_<|b_<|c_<|a_<|q_ 1 rfl<|d_ (h_ tabOk rfl rfl l0_ List.not_mem_nil rfl) rfl rfl<|q_ 1 rfl<|d_ (h_ tabOk rfl rfl r1_ List.not_mem_nil rfl) rfl rfl<|q_ 2 rfl<|g_<|b_<|o_<|f_ (rs := [.tmp 3]) rfl (RV.tmp rfl RV.nil) (()) sn_<|rfl
theorem with2_s {x : En} {p : Nat} : Spec Tryz.prog 110 [.agg x.abs, ptr p] [.rd p 213 e.abs] (fun _ : Unit => []) (fun _ => boo (decide (e.org < x.org))) := by
 refine t_ Tryz.func110 rfl Tryz.ntmps110 rfl fun G w =>c_<|a_<|eb_ (z_ (cs := x.abs) rfl) rfl rfl fun b2=>?_
 exact q_ 1 rfl<|g_<|b_<|c_<|a_<|q_ 1 rfl<|d_ (h_ tabOk rfl rfl l0_ List.not_mem_nil rfl) rfl rfl<|q_ 1 rfl<|d_ (h_ tabOk rfl rfl r1_ List.not_mem_nil rfl) rfl rfl<|q_ 2 rfl<|g_<|b_<|o_<|f_ (rs := [.tmp 3]) rfl (RV.tmp rfl RV.nil) (()) sn_<|rfl
set_option maxHeartbeats 2000000 in
theorem with_s (hn : q.ends.length ≤ 100000) (ht : e.tags.length ≤ 100000) : Spec Tryz.prog 86 [.agg q.abs, .agg e.abs] [] (fun _ : Unit => []) (fun _ => .agg (Rq.mk q.core (withL q.ends e)).abs) := by
 refine t_ Tryz.func86 rfl Tryz.ntmps86 rfl fun G w =>c_<|a_<|eb_ (z_ (cs := q.abs) rfl) rfl rfl fun b2=>?_
 refine eb_ (z_ (cs := e.abs) rfl) rfl rfl fun b3=>?_
 refine eb_ (F_ tabOk rfl) rfl rfl fun b4=>?_
 refine g_<|b_<|c_<|a_<|q_ 1 rfl<|d_ (h_ tabOk rfl rfl l2_ List.not_mem_nil rfl) rfl rfl<|m_ (f1_ (en_ q.ends) (by rw [List.length_map]; omega)) Casts.refl (by kernel_rfl) rfl rfl rfl ?_
 refine Y_ (by repeat (first | exact Reads.nil | (refine Reads.blk ?_ ?_; focus ((repeat first|assumption|exact m0_|apply m1_); done)) | (refine Reads.rd ?_ ?_; focus ((repeat first|assumption|exact m0_|apply m1_); done)) | (refine Reads.pc ?_ ?_; focus ((repeat first|assumption|exact m0_|apply m1_); done)) | (refine Reads.rdpc ?_ ?_; focus ((repeat first|assumption|exact m0_|apply m1_); done)))) (fun _ => rfl) ?_
 intro z5
 refine q_ 1 rfl<|g_<|b_<|c_<|a_<|q_ 1 rfl<|d_ (h_ tabOk rfl rfl l2_ List.not_mem_nil rfl) rfl rfl<|m_ (f0_ (iI_ e.tags) (by rw [List.length_map]; omega)) Casts.refl (by kernel_rfl) rfl rfl rfl ?_
 refine ap_<|fun _=>q_ 1 rfl<|e_ (p_ (L' := e.abs) tabOk rfl rfl rfl u2_ rfl (Nat.le_of_ble_eq_true rfl) rfl rfl) rfl rfl<|g_<|b_<|c_<|c_<|a_<|q_ 1 rfl<|d_ (ag_ rfl rfl) rfl rfl<|m_ (eQ_ (v := z5) (xs := q.ends) (k := 109) (caps := [ptr b3]) (σ := [.rd b3 213 e.abs]) (p := fun x : En => decide (x.org = e.org)) (by kernel_rfl) (by intro x hx; simp only [List.mem_cons, List.not_mem_nil, or_false] at hx; rcases hx with rfl; exact .inl ⟨_, _, _, rfl⟩) (by omega) (fun x _ => with1_s (e := e))) Casts.refl (by kernel_rfl) rfl rfl rfl ?_
 refine ap_<|fun z1=>q_ 1 rfl<|g_<|b_<|c_<|a_<|q_ 2 rfl<|g_<|b_<|n_ rfl ?_ ?_
 ·intro hc19
  obtain ⟨i1, hi1, he1, hp1, hn1⟩ : ∃ i, ∃ h : i < q.ends.length, z1.1 = (i : Nat) ∧ q.ends[i].org = e.org ∧ ∀ j (hj : j < i), ¬ (q.ends[j]'(by omega)).org = e.org := by
   rcases z1.2 with ⟨h, _⟩ | ⟨i, hi, h1, h2, h3⟩
   ·omega
   exact ⟨i, hi, h1, of_decide_eq_true h2, fun j hj => of_decide_eq_false (h3 j hj)⟩
  have hw : withL q.ends e = q.ends.set i1 e := by
   unfold withL
   rw [show hasE q.ends e.org = true from List.any_eq_true.2 ⟨_, List.getElem_mem hi1, decide_eq_true hp1⟩]
   exact hg_ hi1 hp1 hn1
  refine c_<|a_<|q_ 2 rfl<|d_ (y_ tabOk rfl rfl rfl l2_ List.not_mem_nil rfl) rfl rfl<|d_ (aP_ (q := i1) tabOk Tryz.underlying132 rfl rfl (.inl i0_) rfl he1 (by rw [List.length_map]; exact hi1) rfl rfl) rfl rfl ?_
  refine e_ (io_ (q := i1) (ys := e.abs) tabOk rfl rfl rfl u0_ rfl rfl rfl (by rw [List.length_map]; exact hi1) rfl) rfl rfl ?_
  refine g_<|b_<|c_<|bj_ [] (t := 5) rfl rfl ?_
  rw [show List.set (List.map En.abs q.ends) i1 e.abs = (withL q.ends e).map En.abs by rw [hw, List.map_set]]
  refine a_<|q_ 1 rfl<|d_ (i_ (C := coreA q.core) (al_ tabOk rfl rfl rfl l2_ List.not_mem_nil (Nat.le_of_ble_eq_true rfl)) (congrArg Abs.agg (Rq.part _))) rfl rfl<|q_ 1 rfl<|d_ (u_ (L := (Rq.mk q.core (withL q.ends e)).abs) tabOk rfl rfl rfl rfl) rfl rfl<|e_ (p_ (L' := (Rq.mk q.core (withL q.ends e)).abs) tabOk rfl rfl rfl u0_ rfl (Nat.le_of_ble_eq_true rfl) rfl (by exact x_ rfl)) rfl rfl ?_
  refine g_<|b_<|o_<|k_ nofun<|f_ (rs := [.cell 4 134]) rfl (RV.cell rfl (RV.cellA tabOk rfl rfl l0_ (by rfl)) RV.nil) (()) sn_ ?_
  exact rfl
 intro hc19
 have hno : hasE q.ends e.org = false := by
  rcases z1.2 with ⟨_, h⟩ | ⟨i, hi, h1, _⟩
  ·unfold hasE
   rw [Bool.eq_false_iff]
   intro h2
   obtain ⟨x, hx, h3⟩ := List.any_eq_true.1 h2
   have h4 : decide (x.org = e.org) = false := h x hx
   rw [h4] at h3
   cases h3
  omega
 refine s_<|b_<|c_<|a_<|q_ 1 rfl<|d_ (ag_ rfl rfl) rfl rfl<|m_ (eQ_ (v := z5) (xs := q.ends) (k := 110) (caps := [ptr b3]) (σ := [.rd b3 213 e.abs]) (p := fun x : En => decide (e.org < x.org)) (by kernel_rfl) (by intro x hx; simp only [List.mem_cons, List.not_mem_nil, or_false] at hx; rcases hx with rfl; exact .inl ⟨_, _, _, rfl⟩) (by omega) (fun x _ => with2_s (e := e))) Casts.refl (by kernel_rfl) rfl rfl rfl ?_
 refine ap_<|fun z2=>q_ 1 rfl<|g_<|b_<|c_<|c_<|a_<|q_ 2 rfl<|g_<|b_<|n_ rfl ?_ ?_
 rotate_left
 ·intro hc32
  obtain ⟨i2, hi2, he2, hw⟩ : ∃ i : Nat, i ≤ q.ends.length ∧ z2.1 = (i : Nat) ∧ withL q.ends e = q.ends.take i ++ e :: q.ends.drop i := by
   unfold withL
   rw [hno]
   rcases z2.2 with ⟨h, h1⟩ | ⟨i, hi, h1, h2, h3⟩
   ·omega
   exact ⟨i, by omega, h1, hh_ hi (of_decide_eq_true h2) fun j hj => of_decide_eq_false (h3 j hj)⟩
  refine s_<|b_<|c_ ?_
  have hX : True := trivial
  refine aw_ (p := b2 ∉ (mids ([] : Blks) ++ z5.ownBlock.toList) ∧ b3 ∉ (mids ([] : Blks) ++ z5.ownBlock.toList)) (fun _ _ h => by
    have h1 := h.mem.nodup
    simp [mids, It.mids, ownPc] at h1 ⊢
    grind) fun hX => ?_
  refine ah_ (mids ([] : Blks) ++ z5.ownBlock.toList) (.q 0 (.q 1 (.q 2 (.q 3 (.q 4 (.e 5 (.e 6 (.q 7 .nil)))))))) (by kernel_rfl) (by kernel_rfl) ?_
  refine X_ (by (intro k hk; simp [mids, It.mids, ownPc, bkPc, mapPc] at hk ⊢; grind)) fun hx9 => ?_
  refine qx_ 1 hx9 rfl<|j_ rfl (i_ (C := coreA q.core) (al_ tabOk rfl rfl rfl l3_ (by exact hX.1) (Nat.le_of_ble_eq_true rfl)) (congrArg Abs.agg (Rq.part _))) hx9 rfl rfl ?_
  refine qx_ 2 hx9 rfl<|j_ rfl (y_ tabOk rfl rfl rfl l2_ (by exact hX.2) rfl) hx9 rfl rfl ?_
  refine ch_ [] z5.ownBlock.toList rfl (as_ tabOk Tryz.underlying132 rfl rfl rfl rfl rfl rfl rfl) rfl (by simp) rfl rfl ?_
  rintro _ _ ⟨r40, rfl, rfl⟩
  refine ⟨[own 213 2 r40 ([e.abs])], rfl, cv_ ([]) rfl (jo_ (u := r40) (v := z5) (xs := q.ends.map En.abs) (y := e.abs) (i := i2) (by rw [List.length_map]; exact hi2) (en_ q.ends) rfl (by rw [List.length_map]; omega)) (by simp [mids, It.mids, ownPc]) (by simp) (Casts.of_eq (by rw [he2])) (by kernel_rfl) rfl rfl rfl ?_⟩
  refine M_ [] (β := [_, _, _]) rfl (by intro x hx; simp only [List.mem_cons, List.not_mem_nil, or_false] at hx; rcases hx with rfl | rfl <;> rfl) ?_
  intro z41
  refine gc_ [] (t := 41) rfl rfl ?_
  rw [show List.take i2 (List.map En.abs q.ends) ++ e.abs :: List.drop i2 (List.map En.abs q.ends) = (withL q.ends e).map En.abs by rw [hw, List.map_append, List.map_cons, List.map_take, List.map_drop]]
  refine X_ (by (simp [mids, It.mids, ownPc, bkPc, mapPc]; done)) fun hx9 => ?_
  refine j_ rfl (u_ (L := (Rq.mk q.core (withL q.ends e)).abs) tabOk rfl rfl rfl rfl) hx9 rfl rfl<|C_<|ao_ rfl (p_ (L' := (Rq.mk q.core (withL q.ends e)).abs) tabOk rfl rfl rfl u0_ rfl (lb_ (by rfl)) rfl (by exact x_ rfl)) rfl rfl ?_
  rintro _ _ ⟨rfl, rfl⟩
  refine b_<|o_<|f_ (rs := [.cell 4 134]) rfl (RV.cell rfl (RV.cellA tabOk rfl rfl l0_ (by rfl)) RV.nil) (()) sn_ ?_
  exact rfl
 intro hc32
 obtain ⟨i2, hi2, he2, hw⟩ : ∃ i : Nat, i ≤ q.ends.length ∧ ((q.ends.length : Nat) : Int) = (i : Nat) ∧ withL q.ends e = q.ends.take i ++ e :: q.ends.drop i := by
  unfold withL
  rw [hno]
  rcases z2.2 with ⟨h, h1⟩ | ⟨i, hi, h1, h2, h3⟩
  ·exact ⟨q.ends.length, Nat.le_refl _, rfl, hi_ fun x hx => of_decide_eq_false (h1 x hx)⟩
  omega
 refine a_<|q_ 1 rfl<|d_ (aG_ rfl i0_ Tryz.underlying132 (List.length_map _)) rfl rfl<|q_ 1 rfl<|g_<|b_<|c_ ?_
 have hX : True := trivial
 refine aw_ (p := b2 ∉ (mids ([] : Blks) ++ z5.ownBlock.toList) ∧ b3 ∉ (mids ([] : Blks) ++ z5.ownBlock.toList)) (fun _ _ h => by
   have h1 := h.mem.nodup
   simp [mids, It.mids, ownPc] at h1 ⊢
   grind) fun hX => ?_
 refine ah_ (mids ([] : Blks) ++ z5.ownBlock.toList) (.q 0 (.q 1 (.q 2 (.q 3 (.q 4 (.e 5 (.e 6 (.q 7 .nil)))))))) (by kernel_rfl) (by kernel_rfl) ?_
 refine X_ (by (intro k hk; simp [mids, It.mids, ownPc, bkPc, mapPc] at hk ⊢; grind)) fun hx9 => ?_
 refine qx_ 1 hx9 rfl<|j_ rfl (i_ (C := coreA q.core) (al_ tabOk rfl rfl rfl l3_ (by exact hX.1) (Nat.le_of_ble_eq_true rfl)) (congrArg Abs.agg (Rq.part _))) hx9 rfl rfl ?_
 refine qx_ 2 hx9 rfl<|j_ rfl (y_ tabOk rfl rfl rfl l2_ (by exact hX.2) rfl) hx9 rfl rfl ?_
 refine ch_ [] z5.ownBlock.toList rfl (as_ tabOk Tryz.underlying132 rfl rfl rfl rfl rfl rfl rfl) rfl (by simp) rfl rfl ?_
 rintro _ _ ⟨r40, rfl, rfl⟩
 refine ⟨[own 213 2 r40 ([e.abs])], rfl, cv_ ([]) rfl (jo_ (u := r40) (v := z5) (xs := q.ends.map En.abs) (y := e.abs) (i := i2) (by rw [List.length_map]; exact hi2) (en_ q.ends) rfl (by rw [List.length_map]; omega)) (by simp [mids, It.mids, ownPc]) (by simp) (Casts.of_eq (by rw [he2])) (by kernel_rfl) rfl rfl rfl ?_⟩
 refine M_ [] (β := [_, _, _]) rfl (by intro x hx; simp only [List.mem_cons, List.not_mem_nil, or_false] at hx; rcases hx with rfl | rfl <;> rfl) ?_
 intro z41
 refine gc_ [] (t := 41) rfl rfl ?_
 rw [show List.take i2 (List.map En.abs q.ends) ++ e.abs :: List.drop i2 (List.map En.abs q.ends) = (withL q.ends e).map En.abs by rw [hw, List.map_append, List.map_cons, List.map_take, List.map_drop]]
 refine X_ (by (simp [mids, It.mids, ownPc, bkPc, mapPc]; done)) fun hx9 => ?_
 refine j_ rfl (u_ (L := (Rq.mk q.core (withL q.ends e)).abs) tabOk rfl rfl rfl rfl) hx9 rfl rfl<|C_<|ao_ rfl (p_ (L' := (Rq.mk q.core (withL q.ends e)).abs) tabOk rfl rfl rfl u0_ rfl (lb_ (by rfl)) rfl (by exact x_ rfl)) rfl rfl ?_
 rintro _ _ ⟨rfl, rfl⟩
 refine b_<|o_<|f_ (rs := [.cell 4 134]) rfl (RV.cell rfl (RV.cellA tabOk rfl rfl l0_ (by rfl)) RV.nil) (()) sn_ ?_
 exact rfl
end
theorem aU_ {es : List En} {z : Nat} (h : z < es.length) : es.take (z + 1) = es.take z ++ [es[z]] := List.take_succ_eq_append_getElem h
section
variable {q q2 : Rq} {e : En} {n who : Int}
set_option maxHeartbeats 4000000 in
def Rq.few (q : Rq) : Bool := (q.ends.all fun e => decide ((e.tags.length : Int) ≤ 20)) && (decide ((q.core.letter.size : Int) ≤ 100) && (decide ((q.core.text.size : Int) ≤ 300) && decide ((q.ends.length : Int) ≤ 20)))
end
abbrev chkB (T : TMap) (t : List UInt8) (who : Int) (o : Int) (M : List UInt8) : Bool := chkG T ((o, who), t) M
section
variable {q : Rq} {e : En} {n who : Int} {t : List UInt8} {c : Core} {p bd bt : Nat} {Dm : DMap} {Tb : TMap} {T : List (ByteArray × Nat)}
set_option maxHeartbeats 1000000 in
theorem holdsb_s (hl : t.length ≤ 1000000) (hn : Num1 Tb) (hT : Tb.length < 1000000) (hr : i64r e.org) (hw : i64r who) : Spec Tryz.prog 340 [.ifc 54 (.v (.pointer (some ⟨p, 0, none⟩))), .agg e.abs, byt t, int who] [.pc (bkPc p bd bt Dm Tb)] (fun _ : Unit => [.pc (bkPc p bd bt Dm Tb)]) (fun _ => boo (okE (chkB Tb t who) who e)) := by
 refine t_ Tryz.func340 rfl Tryz.ntmps340 rfl fun G w =>c_<|a_<|eb_ (z_ (cs := e.abs) rfl) rfl rfl fun b5=>?_
 refine q_ 1 rfl<|g_<|b_<|c_<|aw_ (p := b5 ∉ [p, bd, bt]) (fun _ _ h => by
   have h1 := h.mem.nodup
   simp [mids, It.mids, bkPc] at h1 ⊢
   grind) fun hX => ?_
 refine T_ [p, bd, bt] (.q 0 (.q 1 (.q 2 (.q 3 (.q 4 (.q 5 (.q 6 (.q 7 (.q 8 (.q 9 (.q 10 (.q 11 (.q 12 (.q 13 (.q 14 (.q 15 (.q 16 (.q 17 (.q 18 (.q 19 (.q 20 (.q 21 (.q 22 (.e 23 (.q 24 (.q 25 .nil)))))))))))))))))))))))))) (by kernel_rfl) (by kernel_rfl) ?_
 refine X_ (by (simp [mids, It.mids, ownPc, bkPc, mapPc]; done)) fun hx9 => ?_
 refine qx_ 3 hx9 rfl<|bd_ (t := 11) rfl ?_ ?_
 rotate_left
 ·intro hc11
  refine qx_ 20 hx9 rfl<|bc_ rfl rfl rfl<|qx_ 2 hx9 rfl<|C_<|b_<|o_<|f_ (rs := [.tmp 8]) rfl (RV.tmp rfl RV.nil) (()) (sk_ sr_) ?_
  (rw [okE_neg (by omega)]; rfl)
 intro hc11
 obtain ⟨m, rfl⟩ : ∃ m : Nat, who = (m : Nat) := ⟨who.toNat, by omega⟩
 refine qx_ 2 hx9 rfl<|j_ rfl (h_ tabOk rfl rfl l0_ hX rfl) hx9 rfl rfl<|j_ rfl (P_ rfl Tryz.underlying40 (List.length_map _)) hx9 rfl rfl<|qx_ 3 hx9 rfl<|bd_ (t := 18) rfl ?_ ?_
 rotate_left
 ·intro hc18
  iterate 13 refine dw_ rfl rfl rfl ?_
  refine bc_ rfl rfl rfl<|qx_ 2 hx9 rfl<|C_<|b_<|o_<|f_ (rs := [.tmp 8]) rfl (RV.tmp rfl RV.nil) (()) (sk_ sr_) ?_
  (rw [okE_far (by omega)]; rfl)
 intro hc18
 have hm : m < e.tags.length := by omega
 refine qx_ 2 hx9 rfl<|j_ rfl (h_ tabOk rfl rfl l0_ hX rfl) hx9 rfl rfl<|qx_ 3 hx9 rfl<|j_ rfl (h_ tabOk rfl rfl l0_ hX rfl) hx9 rfl rfl<|qx_ 1 hx9 rfl<|j_ rfl (W_ (q := m) tabOk Tryz.underlying40 rfl rfl rfl rfl (ce_ hm) rfl rfl) hx9 rfl rfl<|j_ rfl (aH_ tabOk rfl rfl rfl (Tg.size _)) hx9 rfl rfl<|j_ rfl (ag_ rfl rfl) hx9 rfl rfl<|j_ rfl (b2_ rfl (fun w => by kernel_rfl)) hx9 rfl rfl ?_
 refine qx_ 1 hx9 rfl<|bt_ rfl (f5_ (p := p) (bd := bd) (bt := bt) (D := Dm) (T := Tb) (from_ := e.org) (to_ := (m : Nat)) (l := t) (M := (e.tags[m]'hm).d) hr hw (by unfold maxLen; omega) (e.tags[m]'hm).len hT (Nat.lt_of_le_of_lt (hn.pl_le _) (by omega))) (by simp [mids, It.mids, bkPc]) rfl Casts.refl (fun _ _ _ => by kernel_rfl) rfl rfl rfl ?_
 refine Q_ rfl i1_ (fun _ => rfl)<|fun _=>⟨_, u1_, X_ (by (simp [mids, It.mids, ownPc, bkPc, mapPc]; done)) fun hx9 => ?_⟩
 refine qx_ 2 hx9 rfl<|C_<|b_<|o_<|f_ (rs := [.tmp 8]) rfl (RV.tmp rfl RV.nil) (()) (sk_ sr_) ?_
 (rw [okE_yes hm]; rfl)
theorem jf_ (n : Nat) (ok : En → Bool) : maskW n ok [] = 0#32 := by
  unfold maskW
  induction n with
  | zero => rfl
  | succ n ih => rw [bitsW, ih, show firstOk ok [] n = false from rfl, if_neg (by decide), BitVec.or_zero]
theorem iP_ (n : Nat) : seenW n [] = 0#32 := by
  unfold seenW
  induction n with
  | zero => rfl
  | succ n ih => rw [bitsW, ih, show hasE [] (n : Int) = false from rfl, if_neg (by decide), BitVec.or_zero]
set_option maxHeartbeats 2000000 in
theorem maskb_s (h1 : q.core.letter.size ≤ 1000) (h2 : q.core.text.size ≤ 1000) (hl : q.ends.length ≤ 100000) (hn : Num1 Tb) (hT : Tb.length < 1000000) (hr : ∀ e ∈ q.ends, i64r e.org) (hw : i64r who) : Spec Tryz.prog 272 [.ifc 54 (.v (.pointer (some ⟨p, 0, none⟩))), .agg q.abs, int n, int who] [.pc (bkPc p bd bt Dm Tb)] (fun _ : Unit => [.pc (bkPc p bd bt Dm Tb)]) (fun _ => u32 (maskN n (okE (chkB Tb (textV 100 q.core.bytes) who) who) q.ends)) := by
 refine t_ Tryz.func272 rfl Tryz.ntmps272 rfl fun G w =>c_<|a_<|eb_ (z_ (cs := q.abs) rfl) rfl rfl fun b5=>?_
 refine q_ 1 rfl<|g_<|b_<|c_<|c_<|a_<|q_ 1 rfl<|d_ (a0_ Tryz.underlying68 rfl) rfl rfl<|q_ 5 rfl<|D_ (t := 20) rfl ?_ ?_
 ·intro hc20
  refine q_ 3 rfl<|g_<|b_<|ab_ rfl<|c_<|a_<|q_ 1 rfl<|g_<|b_<|o_<|k_ nofun<|f_ (rs := [.tmp 8]) rfl (RV.tmp rfl RV.nil) (()) (sk_ sr_) ?_
  unfold maskN
  rw [if_neg (by omega)]
  rfl
 intro hc20
 refine q_ 3 rfl<|g_<|b_<|n_ rfl ?_ ?_
 ·intro hc23
  refine c_<|a_<|q_ 1 rfl<|g_<|b_<|o_<|k_ nofun<|f_ (rs := [.tmp 8]) rfl (RV.tmp rfl RV.nil) (()) (sk_ sr_) ?_
  unfold maskN
  rw [if_neg (by omega)]
  rfl
 intro hc23
 refine s_<|b_<|c_<|a_<|q_ 1 rfl<|d_ (i_ (C := coreA q.core) (al_ tabOk rfl rfl rfl l0_ List.not_mem_nil (Nat.le_of_ble_eq_true rfl)) (congrArg Abs.agg (Rq.part _))) rfl rfl<|m_ (etext_s (c := q.core) h1 h2) Casts.refl (by kernel_rfl) rfl rfl rfl ?_
 refine ap_<|fun _=>q_ 1 rfl<|g_<|b_<|c_<|a_<|q_ 2 rfl<|g_<|b_<|c_<|c_<|a_<|q_ 1 rfl<|d_ (h_ tabOk rfl rfl l0_ List.not_mem_nil rfl) rfl rfl<|d_ (P_ rfl Tryz.underlying132 (List.length_map _)) rfl rfl<|q_ 1 rfl<|g_<|b_<|w_ ?_
 obtain ⟨N, rfl⟩ : ∃ N : Nat, n = (N : Nat) := ⟨n.toNat, by omega⟩
 refine S_ (ι := Nat) (fun z => [.blk b5 134 q.abs, .pc (bkPc p bd bt Dm Tb)]) (fun z => [(0, .ifc 54 (.v (.pointer (some ⟨p, 0, none⟩)))), (2, int (N : Nat)), (3, int who), (5, ptr b5), (9, byt (textV 100 q.core.bytes)), (10, u32 (maskW N (okE (chkB Tb (textV 100 q.core.bytes) who) who) (q.ends.take z))), (11, u32 (seenW N (q.ends.take z))), (28, endsA q.ends), (29, int (q.ends.length : Nat)), (30, int (z : Nat))]) (fun z => z ≤ q.ends.length) (fun z => q.ends.length - z) (0) (Nat.zero_le _) (by exact ⟨rfl, rfl, rfl, rfl, rfl, congrArg (fun w : Wo => some (u32 w)) (show 0#32 = maskW N (okE (chkB Tb (textV 100 q.core.bytes) who) who) (q.ends.take 0) from (jf_ N _).symm), congrArg (fun w : Wo => some (u32 w)) (show 0#32 = seenW N (q.ends.take 0) from (iP_ N).symm), rfl, rfl, rfl, trivial⟩) sr_ ?_
 intro z hz
 refine c_<|a_<|q_ 1 rfl<|g_<|b_<|c_<|n_ rfl ?_ ?_
 rotate_left
 ·intro hc31
  refine O_<|k_ nofun<|k_ nofun<|N_<|b_<|c_<|a_<|q_ 2 rfl<|g_<|b_<|o_ ?_
  have hz2 : z = q.ends.length := by omega
  refine f_ (rs := [.tmp 8]) rfl (RV.tmp rfl RV.nil) (()) (sk_ sr_) ?_
  unfold maskN
  rw [if_pos (by omega), Int.toNat_natCast, hz2, List.take_length]
  rfl
 intro hc31
 have hlt : z < q.ends.length := by omega
 refine s_<|b_<|c_<|w_<|c_<|a_<|d_ (W_ tabOk Tryz.underlying132 rfl rfl rfl rfl (ce_ (by omega)) rfl rfl) rfl rfl ?_
 refine d_ (aH_ tabOk rfl rfl rfl rfl) rfl rfl<|eb_ (F_ tabOk rfl) rfl rfl fun b13=>?_
 refine e_ (p_ (L' := (q.ends[z]'hlt).abs) tabOk rfl rfl rfl u0_ rfl (Nat.le_of_ble_eq_true rfl) rfl (by exact x_ rfl)) rfl rfl ?_
 refine g_<|b_<|c_<|c_<|a_<|q_ 1 rfl<|d_ (h_ tabOk rfl rfl l0_ List.not_mem_nil rfl) rfl rfl<|q_ 2 rfl<|D_ (t := 37) rfl ?_ ?_
 ·intro hc37
  have hout : ∀ o : Nat, o < N → ¬ (q.ends[z]'hlt).org = (o : Int) := fun o ho => by omega
  refine q_ 14 rfl<|g_<|b_<|ab_ rfl<|O_<|k_ nofun<|N_<|b_<|a_<|d_ (E_ rfl rfl (by simp only [InR, lo, hi]; omega)) rfl rfl ?_
  refine q_ 1 rfl<|g_<|J_ (z + 1) (by omega) (by omega) (by exact ⟨rfl, rfl, rfl, rfl, rfl, congrArg (fun w : Wo => some (u32 w)) (show maskW N (okE (chkB Tb (textV 100 q.core.bytes) who) who) (q.ends.take z) = maskW N (okE (chkB Tb (textV 100 q.core.bytes) who) who) (q.ends.take (z + 1)) by rw [aU_ hlt, fO_ (by omega) hout]), congrArg (fun w : Wo => some (u32 w)) (show seenW N (q.ends.take z) = seenW N (q.ends.take (z + 1)) by rw [aU_ hlt, fA_ (by omega) hout]), rfl, rfl, rfl, trivial⟩) (sk_ sr_)
 intro hc37
 refine q_ 1 rfl<|d_ (h_ tabOk rfl rfl l0_ List.not_mem_nil rfl) rfl rfl<|q_ 4 rfl<|D_ (t := 43) rfl ?_ ?_
 ·intro hc43
  have hout : ∀ o : Nat, o < N → ¬ (q.ends[z]'hlt).org = (o : Int) := fun o ho => by omega
  refine q_ 8 rfl<|g_<|b_<|ab_ rfl<|O_<|k_ nofun<|N_<|b_<|a_<|d_ (E_ rfl rfl (by simp only [InR, lo, hi]; omega)) rfl rfl ?_
  refine q_ 1 rfl<|g_<|J_ (z + 1) (by omega) (by omega) (by exact ⟨rfl, rfl, rfl, rfl, rfl, congrArg (fun w : Wo => some (u32 w)) (show maskW N (okE (chkB Tb (textV 100 q.core.bytes) who) who) (q.ends.take z) = maskW N (okE (chkB Tb (textV 100 q.core.bytes) who) who) (q.ends.take (z + 1)) by rw [aU_ hlt, fO_ (by omega) hout]), congrArg (fun w : Wo => some (u32 w)) (show seenW N (q.ends.take z) = seenW N (q.ends.take (z + 1)) by rw [aU_ hlt, fA_ (by omega) hout]), rfl, rfl, rfl, trivial⟩) (sk_ sr_)
 intro hc43
 obtain ⟨m, hm⟩ : ∃ m : Nat, (q.ends[z]'hlt).org = (m : Int) := ⟨(q.ends[z]'hlt).org.toNat, by omega⟩
 have hmN : m < N := by omega
 refine q_ 2 rfl<|d_ (h_ tabOk rfl rfl l0_ List.not_mem_nil rfl) rfl rfl<|d_ (i_ (C := .v (.int .u64 ((m : Nat) : Int))) (aa_ rfl Tryz.underlying127 (by kernel_rfl) (by simp only [InR, lo, hi]; omega)) (congrArg (fun x => Abs.v (.int .u64 x)) hm)) rfl rfl ?_
 refine d_ (Val.shrB (m := m) rfl rfl rfl) rfl rfl<|d_ (Val.andW (q := 1#32) rfl rfl) rfl rfl<|d_ (i_ (C := boo (hasE (q.ends.take z) (m : Int))) (dv_ rfl rfl) (congrArg (fun b => Abs.v (Value.bool b)) (by rw [← seen_bit (n := N) (by omega) hmN, decide_eq_decide]; exact Int.ofNat_inj))) rfl rfl ?_
 refine q_ 1 rfl<|g_<|b_<|ay_ rfl ?_ ?_
 ·intro hc51
  refine O_<|k_ nofun<|N_<|b_<|a_<|d_ (E_ rfl rfl (by simp only [InR, lo, hi]; omega)) rfl rfl ?_
  refine q_ 1 rfl<|g_<|J_ (z + 1) (by omega) (by omega) (by exact ⟨rfl, rfl, rfl, rfl, rfl, congrArg (fun w : Wo => some (u32 w)) (show maskW N (okE (chkB Tb (textV 100 q.core.bytes) who) who) (q.ends.take z) = maskW N (okE (chkB Tb (textV 100 q.core.bytes) who) who) (q.ends.take (z + 1)) by rw [aU_ hlt, je_ (by omega) hm hc51]), congrArg (fun w : Wo => some (u32 w)) (show seenW N (q.ends.take z) = seenW N (q.ends.take (z + 1)) by rw [aU_ hlt, iO_ (by omega) hm hc51]), rfl, rfl, rfl, trivial⟩) (sk_ sr_)
 intro hc51
 refine s_<|b_<|c_<|a_<|q_ 2 rfl<|d_ (h_ tabOk rfl rfl l0_ List.not_mem_nil rfl) rfl rfl<|d_ (i_ (C := .v (.int .u64 ((m : Nat) : Int))) (aa_ rfl Tryz.underlying127 (by kernel_rfl) (by simp only [InR, lo, hi]; omega)) (congrArg (fun x => Abs.v (.int .u64 x)) hm)) rfl rfl ?_
 refine d_ (hL_ (p := 1#32) (m := m) rfl rfl rfl) rfl rfl<|d_ (jS_ rfl rfl) rfl rfl<|q_ 1 rfl<|g_<|b_<|c_<|a_<|q_ 1 rfl<|d_ (y_ tabOk rfl rfl rfl l0_ List.not_mem_nil rfl) rfl rfl<|q_ 2 rfl<|m_ (holdsb_s (p := p) (bd := bd) (bt := bt) (Dm := Dm) (Tb := Tb) (e := (q.ends[z]'hlt)) (t := (textV 100 q.core.bytes)) (who := who) (by simp [textV]; rw [c1_]; omega) hn hT (hr _ (List.getElem_mem hlt)) hw) Casts.refl (by kernel_rfl) rfl rfl rfl ?_
 refine Q_ rfl i2_ (fun _ => rfl)<|fun _=>⟨_, u2_, g_<|b_<|ay_ rfl ?_ ?_⟩
 rotate_left
 ·intro hc62
  refine s_<|A_<|b_<|a_<|d_ (E_ rfl rfl (by simp only [InR, lo, hi]; omega)) rfl rfl ?_
  refine q_ 1 rfl<|g_<|J_ (z + 1) (by omega) (by omega) (by exact ⟨rfl, rfl, rfl, rfl, rfl, congrArg (fun w : Wo => some (u32 w)) (show maskW N (okE (chkB Tb (textV 100 q.core.bytes) who) who) (q.ends.take z) = maskW N (okE (chkB Tb (textV 100 q.core.bytes) who) who) (q.ends.take (z + 1)) by rw [aU_ hlt, fP_ (by omega) hmN hm hc51, if_neg (by rw [hc62]; decide)]), congrArg (fun w : Wo => some (u32 w)) (show seenW N (q.ends.take z) ||| 1#32 <<< m = seenW N (q.ends.take (z + 1)) by rw [aU_ hlt, fB_ (by omega) hmN hm]), rfl, rfl, rfl, trivial⟩) (sk_ sr_)
 intro hc62
 refine a_<|q_ 2 rfl<|d_ (h_ tabOk rfl rfl l0_ List.not_mem_nil rfl) rfl rfl<|d_ (i_ (C := .v (.int .u64 ((m : Nat) : Int))) (aa_ rfl Tryz.underlying127 (by kernel_rfl) (by simp only [InR, lo, hi]; omega)) (congrArg (fun x => Abs.v (.int .u64 x)) hm)) rfl rfl ?_
 refine d_ (hL_ (p := 1#32) (m := m) rfl rfl rfl) rfl rfl<|d_ (jS_ rfl rfl) rfl rfl<|q_ 1 rfl<|g_<|A_<|b_<|a_<|d_ (E_ rfl rfl (by simp only [InR, lo, hi]; omega)) rfl rfl ?_
 refine q_ 1 rfl<|g_<|J_ (z + 1) (by omega) (by omega) (by exact ⟨rfl, rfl, rfl, rfl, rfl, congrArg (fun w : Wo => some (u32 w)) (show maskW N (okE (chkB Tb (textV 100 q.core.bytes) who) who) (q.ends.take z) ||| 1#32 <<< m = maskW N (okE (chkB Tb (textV 100 q.core.bytes) who) who) (q.ends.take (z + 1)) by rw [aU_ hlt, fP_ (by omega) hmN hm hc51, if_pos hc62]), congrArg (fun w : Wo => some (u32 w)) (show seenW N (q.ends.take z) ||| 1#32 <<< m = seenW N (q.ends.take (z + 1)) by rw [aU_ hlt, fB_ (by omega) hmN hm]), rfl, rfl, rfl, trivial⟩) (sk_ sr_)
end
theorem jO_ (n : Int) : (allN n).length ≤ 7 := by
  unfold allN
  split
  · simp
  · simp; omega
def sgB (T : TMap) (o n : Int) (c : Core) : En := ⟨o, tagsG (gB o (textV 100 c.bytes)) T (allN n)⟩
section
variable {q : Rq} {e : En} {o n who : Int} {c : Core} {p bd bt : Nat} {Dm : DMap} {Tb : TMap} {T : List (ByteArray × Nat)}
theorem allN_i64 (n : Int) : ∀ w ∈ allN n, i64r w := fun w hw => by
  unfold allN at hw
  split at hw
  · cases hw
  · obtain ⟨i, hi, rfl⟩ := List.mem_map.1 hw
    rw [List.mem_range] at hi
    unfold i64r
    omega
theorem esignb_s (h1 : c.letter.size ≤ 1000) (h2 : c.text.size ≤ 1000) (hn : Num1 Tb) (hT : Tb.length ≤ 900000) (ho : i64r o) : Spec Tryz.prog 84 [.ifc 54 (.v (.pointer (some ⟨p, 0, none⟩))), int o, int n, coreA c] [.pc (bkPc p bd bt Dm (Tb))] (fun _ : Unit => [.pc (bkPc p bd bt Dm (tmG (gB o (textV 100 c.bytes)) Tb (allN n)))]) (fun _ => .agg (sgB Tb o n c).abs) := by
 refine t_ Tryz.func84 rfl Tryz.ntmps84 rfl fun G w =>c_<|a_<|eb_ (z_ (cs := c.cells.map .v) rfl) rfl rfl fun b7=>?_
 refine eb_ (F_ tabOk rfl) rfl rfl fun b8=>?_
 refine g_<|b_<|c_<|a_<|q_ 2 rfl<|d_ (y_ tabOk rfl rfl rfl l1_ List.not_mem_nil rfl) rfl rfl<|m_ (c3_ (by omega) (by omega)) Casts.refl (by kernel_rfl) rfl rfl rfl ?_
 refine ap_<|fun _=>q_ 1 rfl<|m_ (jN_ (n := n)) Casts.refl (by kernel_rfl) rfl rfl rfl ?_
 refine ap_<|fun _=>m_ (g6_ (k := 100) (f := o) (body := c.bytes) (to := allN n) (p := p) (bd := bd) (bt := bt) (Dm := Dm) (Tb := Tb) (by rw [c1_]; omega) hn hT (by have := jO_ n; omega) ho (allN_i64 n)) Casts.refl (by kernel_rfl) rfl rfl rfl ?_
 refine Q_ rfl i2_ (fun _ => rfl)<|fun _=>⟨_, u2_, eb_ (F_ tabOk rfl) rfl rfl fun b9=>?_⟩
 refine e_ (p_ (L' := (Msg.mk 100 o c.bytes (tagsG (gB o (textV 100 c.bytes)) Tb (allN n))).abs) tabOk rfl rfl rfl u0_ rfl (Nat.le_of_ble_eq_true rfl) rfl (by exact x_ rfl)) rfl rfl ?_
 refine g_<|b_<|c_<|a_<|q_ 2 rfl<|d_ (h_ tabOk rfl rfl l0_ List.not_mem_nil rfl) rfl rfl<|d_ (u_ (L := (sgB Tb o n c).abs) tabOk rfl rfl rfl rfl) rfl rfl<|e_ (p_ (L' := (sgB Tb o n c).abs) tabOk rfl rfl rfl u1_ rfl (Nat.le_of_ble_eq_true rfl) rfl (by exact x_ rfl)) rfl rfl ?_
 refine g_<|b_<|o_<|f_ (rs := [.cell 8 213]) rfl (RV.cell rfl (RV.cellA tabOk rfl rfl l1_ (by rfl)) RV.nil) (()) (sk_ (sk_ (sk_ sr_))) ?_
 exact rfl
end
def chkM (T : TMap) (m : Msg) (place who : Int) : Int :=
  if place < 0 ∨ (m.tags.length : Int) ≤ place then 12 else
  if ((aget T ((m.from_, who), textV m.kind m.body)).isSome && decide (((m.tags[place.toNat]?).map Tg.d).getD [] = numB 255 (pl T ((m.from_, who), textV m.kind m.body)))) = true then 0 else 12
section
variable {m : Msg} {place who k f n : Int} {body : List UInt8} {to : List Int} {p bd bt : Nat} {Dm : DMap} {T : TMap}
set_option maxHeartbeats 4000000 in
theorem checkb_s (hl : m.body.length ≤ 1000) (hx : i64r m.from_) (hy : i64r who) (hm : T.length < 1000000) (hpl : pl T ((m.from_, who), textV m.kind m.body) < 9223372036854775808) : Spec Tryz.prog 207 [.ifc 54 (.v (.pointer (some ⟨p, 0, none⟩))), .agg m.abs, int place, int who] [.pc (bkPc p bd bt Dm T)] (fun _ : Unit => [.pc (bkPc p bd bt Dm T)]) (fun _ => int (chkM T m place who)) := by
 refine t_ Tryz.func207 rfl Tryz.ntmps207 rfl fun G w =>c_<|a_<|eb_ (z_ rfl) rfl rfl fun b5=>?_
 refine q_ 1 rfl<|g_<|b_<|c_<|c_<|aw_ (p := b5 ∉ [p, bd, bt]) (fun _ _ h => by
   have h1 := h.mem.nodup
   simp [mids, It.mids, bkPc, ownPc] at h1 ⊢
   grind) fun hX => ?_
 refine T_ [p, bd, bt] (.q 0 (.q 1 (.q 2 (.q 3 (.q 4 (.q 5 (.q 6 (.q 7 (.q 8 (.q 9 (.q 10 (.q 11 (.q 12 (.q 13 (.q 14 (.q 15 (.q 16 (.q 17 (.q 18 (.q 19 (.q 20 (.q 21 (.q 23 (.q 24 (.q 25 (.q 26 (.q 27 (.q 28 (.q 29 (.q 30 (.e 22 (.e 31 (.q 32 (.q 33 .nil)))))))))))))))))))))))))))))))))) (by kernel_rfl) (by kernel_rfl) ?_
 refine X_ (by (simp [mids, It.mids, ownPc, bkPc]; done)) fun hx9 => ?_
 refine qx_ 1 hx9 rfl<|j_ rfl (a0_ Tryz.underlying68 rfl) hx9 rfl rfl<|qx_ 5 hx9 rfl<|bd_ (t := 15) rfl ?_ ?_
 ·intro hc15
  refine qx_ 23 hx9 rfl<|bc_ rfl rfl rfl<|bc_ rfl rfl rfl<|qx_ 2 hx9 rfl<|C_<|b_<|ab_ rfl<|c_<|a_<|q_ 1 rfl<|g_<|b_<|o_<|k_ nofun<|f_ (rs := [.tmp 8]) rfl (RV.tmp rfl RV.nil) (()) (sk_ sr_)<|congrArg int ?_
  unfold chkM
  (rw [if_pos (by omega)])
 intro hc15
 refine qx_ 2 hx9 rfl<|j_ rfl (h_ tabOk rfl rfl l0_ hX rfl) hx9 rfl rfl<|j_ rfl (P_ rfl Tryz.underlying40 (List.length_map _)) hx9 rfl rfl<|qx_ 3 hx9 rfl<|bd_ (t := 22) rfl ?_ ?_
 ·intro hc22
  iterate 16 refine dw_ rfl rfl rfl ?_
  refine bc_ rfl rfl rfl<|bc_ rfl rfl rfl<|qx_ 2 hx9 rfl<|C_<|b_<|ab_ rfl<|c_<|a_<|q_ 1 rfl<|g_<|b_<|o_<|k_ nofun<|f_ (rs := [.tmp 8]) rfl (RV.tmp rfl RV.nil) (()) (sk_ sr_)<|congrArg int ?_
  unfold chkM
  (rw [if_pos (by omega)])
 intro hc22
 obtain ⟨q, rfl⟩ : ∃ q : Nat, place = (q : Nat) := ⟨place.toNat, by omega⟩
 have hq : q < m.tags.length := by omega
 refine qx_ 2 hx9 rfl<|j_ rfl (h_ tabOk rfl rfl l0_ hX rfl) hx9 rfl rfl<|qx_ 2 hx9 rfl<|j_ rfl (h_ tabOk rfl rfl l0_ hX rfl) hx9 rfl rfl<|qx_ 1 hx9 rfl<|j_ rfl (h_ tabOk rfl rfl l0_ hX rfl) hx9 rfl rfl<|qx_ 1 hx9 rfl<|j_ rfl (h_ tabOk rfl rfl l0_ hX rfl) hx9 rfl rfl<|qx_ 1 hx9 rfl<|j_ rfl (W_ tabOk Tryz.underlying40 rfl rfl rfl rfl (ce_ (by omega)) rfl rfl) hx9 rfl rfl ?_
 refine j_ rfl (aH_ tabOk rfl rfl rfl (Tg.size _)) hx9 rfl rfl<|j_ rfl (ag_ rfl rfl) hx9 rfl rfl<|j_ rfl (b2_ rfl (fun w => by kernel_rfl)) hx9 rfl rfl ?_
 refine qx_ 1 hx9 rfl<|H_ rfl (iH_ (k := m.kind) (l := m.body) (by omega)) (by simp [mids, It.mids]) Casts.refl (by kernel_rfl) rfl rfl rfl ?_
 refine ap_<|fun _=>bt_ rfl (f5_ (p := p) (bd := bd) (bt := bt) (D := Dm) (T := T) (from_ := m.from_) (to_ := who) (l := textV m.kind m.body) (M := (m.tags[q]'hq).d) hx hy (by unfold maxLen; simp [textV]; omega) (m.tags[q]'hq).len hm hpl) (by simp [mids, It.mids, bkPc]) rfl Casts.refl (fun _ _ _ => by kernel_rfl) rfl rfl rfl ?_
 refine Q_ rfl i1_ (fun _ => rfl)<|fun _=>⟨_, u1_, X_ (by (simp [mids, It.mids, ownPc, bkPc]; done)) fun hx9 => ?_⟩
 refine j_ rfl (cs_ rfl) hx9 rfl rfl<|qx_ 1 hx9 rfl<|C_<|b_<|ay_ rfl ?_ ?_
 rotate_left
 ·intro hc42
  refine s_<|b_<|c_<|a_<|q_ 1 rfl<|g_<|b_<|o_<|f_ (rs := [.tmp 8]) rfl (RV.tmp rfl RV.nil) (()) (sk_ sr_)<|congrArg int ?_
  unfold chkM
  rw [if_neg (by omega), if_pos (by
   have h8 := hc42
   simp only [Int.toNat_natCast, List.getElem?_eq_getElem hq, Option.map_some, Option.getD_some]
   simpa using h8)]
 intro hc42
 refine c_<|a_<|q_ 1 rfl<|g_<|b_<|o_<|k_ nofun<|f_ (rs := [.tmp 8]) rfl (RV.tmp rfl RV.nil) (()) (sk_ sr_)<|congrArg int ?_
 unfold chkM
 first
  | (rw [if_pos (by omega)])
  | (rw [if_neg (by omega), if_neg (by
    have h8 := hc42
    simp only [Int.toNat_natCast, List.getElem?_eq_getElem hq, Option.map_some, Option.getD_some]
    intro h9
    rw [h9] at h8
    simp at h8)])
end
section
variable {p bd bt N M : Nat} {k f o n who place : Int} {body : List UInt8} {to : List Int} {m : Msg} {c : Core} {q : Rq}
theorem e2_ (hb : body.length ≤ 999000) (hN : N ≤ 800000) (hl : to.length ≤ 1000) (hf : i64r f) (hto : ∀ w ∈ to, i64r w) : Spec Tryz.prog 70 [bkI p, int k, int f, byt body, ints to] [wb p bd bt N] (fun _ : {l : List Tg // l.length = to.length} => [wb p bd bt (N + to.length)]) (fun ts => .agg (Msg.mk k f body ts.1).abs) :=
  Spec.wbOpen fun D T h1 h2 => Spec.wbIn (fun ts : {l : List Tg // l.length = to.length} => .agg (Msg.mk k f body ts.1).abs) ⟨_, dz_ _ _ _⟩ rfl (g6_ hb h2.2 (by have := h2.1; omega) hl hf hto) (h1.mono (by omega)) (h2.tm _ _ (Nat.le_refl _))
theorem g2_ (h1 : c.letter.size ≤ 1000) (h2 : c.text.size ≤ 1000) (hN : N ≤ 800000) (ho : i64r o) : Spec Tryz.prog 84 [bkI p, int o, int n, coreA c] [wb p bd bt N] (fun _ : {l : List Tg // l.length = (allN n).length} => [wb p bd bt (N + 7)]) (fun ts => .agg (En.mk o ts.1).abs) :=
  Spec.wbOpen fun D T g1 g2 => Spec.wbIn (fun ts : {l : List Tg // l.length = (allN n).length} => .agg (En.mk o ts.1).abs) ⟨tagsG (gB o (textV 100 c.bytes)) T (allN n), dz_ _ _ _⟩ rfl (esignb_s h1 h2 g2.2 (by have := g2.1; omega) ho) (g1.mono (by omega)) (g2.tm _ _ (by have := jO_ n; omega))
theorem wvchk_s (hl : m.body.length ≤ 1000) (hx : i64r m.from_) (hy : i64r who) (hN : N ≤ 800000) : Spec Tryz.prog 207 [bkI p, .agg m.abs, int place, int who] [wb p bd bt N] (fun _ : Int => [wb p bd bt N]) (fun e => int e) :=
  Spec.wbOpen fun D T h1 h2 => Spec.wbIn (fun e : Int => int e) _ rfl (checkb_s hl hx hy (by have := h2.1; omega) (by have := h2.pl ((m.from_, who), textV m.kind m.body); omega)) h1 h2
theorem go_ (h1 : q.core.letter.size ≤ 1000) (h2 : q.core.text.size ≤ 1000) (hl : q.ends.length ≤ 100000) (hr : ∀ e ∈ q.ends, i64r e.org) (hw : i64r who) (hN : N ≤ 800000) : Spec Tryz.prog 272 [bkI p, .agg q.abs, int n, int who] [wb p bd bt N] (fun _ : Wo => [wb p bd bt N]) (fun x => u32 x) :=
  Spec.wbOpen fun D T g1 g2 => Spec.wbIn (fun x : Wo => u32 x) _ rfl (maskb_s h1 h2 hl g2.2 (by have := g2.1; omega) hr hw) g1 g2
end
abbrev bysW (l : List UInt8) : List (List Abs) := l.map fun b => [Abs.v (bc b)]
theorem fk_ (a b : List UInt8) : bysW a ++ bysW b = bysW (a ++ b) := by simp [bysW]
theorem c4_ (l : List UInt8) : ∀ c ∈ bysW l, ones c = true := by
  intro c hc
  obtain ⟨b, _, rfl⟩ := List.mem_map.1 hc
  rfl
theorem hf_ {l : List UInt8} {x : Nat} {n : Int} (hl : l.length ≤ lots) (hx : x < 18446744073709551616) (hn : sizeB n = true) : Spec Tryz.prog 93 [byt l, wrd x, int n] [] (fun r : Value => [own 5 1 r (bysW (l ++ beBytes x n.toNat))]) (fun r => .v r) := Spec.ofOwnB fun K w vals hK hv => by
  obtain ⟨v, us', rfl, h1, u, us2, rfl, h2, u3, us3, rfl, h3, h4⟩ := hv
  have h2 : u = .int .u64 (x : Nat) := h2
  have h3 : u3 = .int .i64 n := h3
  have h4 : us3 = [] := h4
  subst h2 h3 h4
  have hw := (enter2 w K).add (z := bytesD v l) (row2 (a4_.1 h1))
  exact (gy_ (l := l) hw (hw.bytes (by simp)) hl hx hn).mono fun e w' ⟨r, he, hm⟩ => ⟨r, _, he, hm⟩
theorem Tg.row (t : Tg) : (t.abs.take 32).map (fun a => [a]) = bysW t.d := by
  rw [List.take_of_length_le (by rw [Tg.size]; exact Nat.le_refl _)]
  simp [Tg.abs, digA, bysW]
section
variable {q : Rq} {p bd bt N : Nat} {c : Core}
set_option maxHeartbeats 1000000 in
theorem reqb_s (h1 : q.core.letter.size ≤ 20) (h2 : q.core.text.size ≤ 20) (hn : q.ends.length ≤ 4) (ht : ∀ e ∈ q.ends, e.tags.length ≤ 4) (ho : ∀ e ∈ q.ends, 0 ≤ e.org ∧ e.org < 256) : Spec Tryz.prog 67 [.agg q.abs] [] (fun _ : {l : List UInt8 // l.length ≤ 720} => []) (fun l => byt l.1) := by
 have hL : lots = 100000000000 := rfl
 have hcl := c1_ q.core
 refine t_ Tryz.func67 rfl Tryz.ntmps67 rfl fun G w =>c_<|a_<|eb_ (z_ (cs := q.abs) rfl) rfl rfl fun b1=>?_
 refine q_ 1 rfl<|g_<|b_<|c_<|T_ [] (.q 0 (.q 1 (.q 4 (.q 5 (.q 6 (.q 7 (.e 2 (.e 3 (.e 8 (.q 9 .nil)))))))))) (by kernel_rfl) (by kernel_rfl) ?_
 refine qs_ 1 rfl<|hx_ fun hx9 =>j_ rfl (i_ (C := coreA q.core) (al_ tabOk rfl rfl rfl l0_ List.not_mem_nil (Nat.le_of_ble_eq_true rfl)) (congrArg Abs.agg (Rq.part _))) hx9 rfl rfl<|qs_ 1 rfl<|j_ rfl (h_ tabOk rfl rfl l0_ List.not_mem_nil rfl) (by simp) rfl rfl ?_
 refine j_ rfl (P_ rfl Tryz.underlying132 (List.length_map _)) (by simp) rfl rfl ?_
 refine j_ rfl (aa_ rfl Tryz.underlying27 (by kernel_rfl) (by simp only [InR, lo, hi]; omega)) (by simp) rfl rfl ?_
 refine H_ rfl (c3_ (c := q.core) (by omega) (by omega)) (by simp [mids, It.mids]) Casts.refl (by kernel_rfl) rfl rfl rfl ?_
 refine ap_<|fun _=>H_ rfl (row_s (l := []) (m := q.core.bytes) (by simp; omega) (by omega)) (by simp [mids, It.mids]) (Casts.cons (fun _ _ _ h => cD_ h) Casts.refl) (by kernel_rfl) rfl rfl rfl ?_
 refine ap_<|fun _=>H_ rfl (hZ_ (l := [] ++ beBytes q.core.bytes.length 4 ++ q.core.bytes) (x := q.ends.length) (n := 2) (by simp only [List.length_append, v_, List.length_nil, List.length_cons] at *; omega) (by omega) rfl) (by simp [mids, It.mids]) Casts.refl (by kernel_rfl) rfl rfl rfl ?_
 refine ap_<|fun _=>qs_ 1 rfl<|C_<|b_<|c_<|c_<|a_<|q_ 1 rfl<|d_ (h_ tabOk rfl rfl l0_ List.not_mem_nil rfl) rfl rfl<|d_ (P_ rfl Tryz.underlying132 (List.length_map _)) rfl rfl<|q_ 1 rfl<|g_<|b_<|w_<|S_ (ι := Nat × List UInt8) (fun z => [.blk b1 134 q.abs]) (fun z => [(1, ptr b1), (3, byt z.2), (18, endsA q.ends), (19, int (q.ends.length : Nat)), (20, int (z.1 : Nat))]) (fun z => z.1 ≤ q.ends.length ∧ z.2.length ≤ 200 + z.1 * 130) (fun z => q.ends.length - z.1) (0, [] ++ beBytes q.core.bytes.length 4 ++ q.core.bytes ++ beBytes q.ends.length 2) (⟨Nat.zero_le _, by simp only [List.length_append, v_, List.length_nil]; omega⟩) (by exact ⟨rfl, rfl, rfl, rfl, rfl, trivial⟩) sr_ ?_
 intro z hz
 refine c_<|a_<|q_ 1 rfl<|g_<|b_<|c_<|n_ rfl ?_ ?_
 rotate_left
 ·intro hc21
  refine O_<|k_ nofun<|k_ nofun<|N_<|b_<|c_<|a_<|q_ 2 rfl<|g_<|b_<|o_<|f_ (rs := [.tmp 2]) rfl (RV.tmp rfl RV.nil) (⟨z.2, by have := hz.2; omega⟩) sn_ ?_
  exact rfl
 intro hc21
 have hlt : z.1 < q.ends.length := by omega
 have hte := ht _ (List.getElem_mem hlt)
 have hoe := ho _ (List.getElem_mem hlt)
 refine s_<|b_<|c_<|w_<|c_<|a_<|d_ (W_ tabOk Tryz.underlying132 rfl rfl rfl rfl (ce_ (by omega)) rfl rfl) rfl rfl ?_
 refine d_ (aH_ tabOk rfl rfl rfl rfl) rfl rfl<|eb_ (F_ tabOk rfl) rfl rfl fun b5=>?_
 refine e_ (p_ (L' := (q.ends[z.1]'hlt).abs) tabOk rfl rfl rfl u0_ rfl (Nat.le_of_ble_eq_true rfl) rfl (by exact x_ rfl)) rfl rfl ?_
 refine g_<|b_<|c_<|a_<|q_ 2 rfl<|d_ (h_ tabOk rfl rfl l0_ List.not_mem_nil rfl) rfl rfl<|d_ (i_ (C := wrd (q.ends[z.1]'hlt).org.toNat) (aa_ rfl Tryz.underlying27 (by kernel_rfl) (by simp only [InR, lo, hi]; omega)) (congrArg (fun r => Abs.v (.int .u64 r)) (Int.toNat_of_nonneg hoe.1).symm)) rfl rfl ?_
 refine m_ (hf_ (l := z.2) (x := (q.ends[z.1]'hlt).org.toNat) (n := 1) (by have := hz.2; omega) (by omega) rfl) Casts.refl (by kernel_rfl) rfl rfl rfl ?_
 refine Y_ (by repeat (first | exact Reads.nil | (refine Reads.blk ?_ ?_; focus ((repeat first|assumption|exact m0_|apply m1_); done)) | (refine Reads.rd ?_ ?_; focus ((repeat first|assumption|exact m0_|apply m1_); done)) | (refine Reads.pc ?_ ?_; focus ((repeat first|assumption|exact m0_|apply m1_); done)) | (refine Reads.rdpc ?_ ?_; focus ((repeat first|assumption|exact m0_|apply m1_); done)))) (fun _ => rfl) ?_
 intro r28
 refine q_ 1 rfl<|g_<|b_<|c_<|a_<|q_ 1 rfl<|d_ (h_ tabOk rfl rfl l1_ List.not_mem_nil rfl) rfl rfl<|d_ (P_ rfl Tryz.underlying40 (List.length_map _)) rfl rfl<|q_ 1 rfl<|g_<|b_<|w_<|S_ (ι := Nat × Value × List UInt8) (fun y => [own 5 1 y.2.1 (bysW y.2.2), .blk b5 213 (q.ends[z.1]'hlt).abs, .blk b1 134 q.abs]) (fun y => [(1, ptr b1), (3, .v y.2.1), (5, ptr b5), (18, endsA q.ends), (19, int (q.ends.length : Nat)), (20, int (z.1 : Nat)), (30, .sl 32 ((q.ends[z.1]'hlt).tags.map Tg.abs)), (31, int ((q.ends[z.1]'hlt).tags.length : Nat)), (32, int (y.1 : Nat))]) (fun y => y.1 ≤ (q.ends[z.1]'hlt).tags.length ∧ y.2.2.length ≤ 200 + z.1 * 130 + 1 + y.1 * 32) (fun y => (q.ends[z.1]'hlt).tags.length - y.1) (0, r28, z.2 ++ beBytes (q.ends[z.1]'hlt).org.toNat (Int.toNat 1)) (⟨Nat.zero_le _, by simp only [List.length_append, v_]; have := hz.2; omega⟩) (by exact ⟨rfl, rfl, rfl, rfl, rfl, rfl, rfl, rfl, rfl, trivial⟩) sr_ ?_
 intro y hy
 refine c_<|a_<|q_ 1 rfl<|g_<|b_<|c_<|n_ rfl ?_ ?_
 rotate_left
 ·intro hc33
  refine O_<|k_ nofun<|k_ nofun<|N_<|A_<|b_<|a_<|d_ (E_ rfl rfl (by simp only [InR, lo, hi]; omega)) rfl rfl ?_
  refine q_ 1 rfl<|g_<|a8_ [] (t := 3) rfl rfl<|J_ (z.1 + 1, y.2.2) (by omega) ((⟨by dsimp only; omega, by dsimp only; omega⟩)) (by exact ⟨rfl, rfl, rfl, rfl, rfl, trivial⟩) (sk_ sr_)
 intro hc33
 have hlt2 : y.1 < (q.ends[z.1]'hlt).tags.length := by omega
 refine s_<|b_<|c_<|w_<|c_<|a_<|d_ (W_ tabOk Tryz.underlying40 rfl rfl rfl rfl (ce_ (by omega)) rfl rfl) rfl rfl ?_
 refine d_ (aH_ tabOk rfl rfl rfl (Tg.size _)) rfl rfl<|eb_ (F_ tabOk rfl) rfl rfl fun b7=>?_
 refine e_ (p_ (L' := ((q.ends[z.1]'hlt).tags[y.1]'hlt2).abs) tabOk rfl rfl rfl u0_ (Tg.size _) (Nat.le_of_ble_eq_true rfl) (by exact bX_ _) (by exact x_ (Tg.size _))) rfl rfl ?_
 refine g_<|b_<|e0_ [] 7 rfl rfl<|a_<|q_ 1 rfl<|d_ (c7_ tabOk Tryz.underlying64 rfl rfl rfl rfl (Tg.row _) (by rw [Tg.size]; exact Nat.le_refl _)) rfl rfl ?_
 refine eb_ (K_ (zs := bysW (y.2.2 ++ ((q.ends[z.1]'hlt).tags[y.1]'hlt2).d)) tabOk [] (fk_ _ _) Tryz.underlying39 rfl rfl rfl rfl rfl rfl (c4_ _) (by unfold maxLen; simp only [bysW, List.length_map, List.length_append]; rw [((q.ends[z.1]'hlt).tags[y.1]'hlt2).len]; have := hy.2; omega) (by rw [show Tryz.prog.bytesOf 5 = 1 by kernel_rfl]; simp only [bysW, List.length_map, List.length_append]; rw [((q.ends[z.1]'hlt).tags[y.1]'hlt2).len]; have := hy.2; omega)) rfl rfl fun r38=>?_
 refine q_ 1 rfl<|g_<|A_<|b_<|a_<|d_ (E_ rfl rfl (by simp only [InR, lo, hi]; omega)) rfl rfl ?_
 refine q_ 1 rfl<|g_<|J_ (y.1 + 1, r38, y.2.2 ++ ((q.ends[z.1]'hlt).tags[y.1]'hlt2).d) (by omega) ((⟨by dsimp only; omega, by dsimp only; rw [List.length_append, ((q.ends[z.1]'hlt).tags[y.1]'hlt2).len]; have := hy.2; omega⟩)) (by exact ⟨rfl, rfl, rfl, rfl, rfl, rfl, rfl, rfl, rfl, trivial⟩) sr_
end
theorem Rd.row_length (s : Rd) (m : Int) : (s.row m).l.length ≤ s.l.length := by
  have h := s.fixed_length 4
  have h2 := (s.fixed 4).fixed_length (s.num 4)
  unfold Rd.row
  split
  · exact h
  · split
    · exact h
    · omega
theorem Rd.cnt_length (s : Rd) (m : Int) : (s.count m).l.length ≤ s.l.length := by
  have h := s.fixed_length 2
  unfold Rd.count
  split <;> exact h
theorem Rd.cnt_le (s : Rd) {m : Int} (hm : 0 ≤ m) : (s.countN m : Int) ≤ m := by
  unfold Rd.countN
  split
  · exact hm
  · rename_i h
    by_cases he : (s.fixed 2).e = 0
    · have : ¬ m < s.num 2 := fun h2 => h ⟨he, h2⟩
      omega
    · rw [s.num0 he]
      exact hm
section
variable {p : Nat} {n : Int} {l : List UInt8}
def rwP (p : Nat) : Pc := exP [p] (fun s : Rd => blkP p TR [byt s.l, int s.e]) (fun _ => rfl) (fun s => s.l.length ≤ 1000)
abbrev rw_ (p : Nat) : It := .pc (rwP p)
theorem Spec.rw_ {f : FuncId} {args : List Abs} {g : Rd → Rd} {r : Rd → Abs} {κ : Type} {κr : κ → Abs} (u : ∀ s : Rd, s.l.length ≤ 1000 → κ) (hr : ∀ s h, r s = κr (u s h)) (hs : ∀ s : Rd, s.l.length ≤ lots → Spec Tryz.prog f args [rdA TR p s] (fun _ : Unit => [rdA TR p (g s)]) (fun _ => r s)) (hg : ∀ s : Rd, (g s).l.length ≤ s.l.length) : Spec Tryz.prog f args [A.rw_ p] (fun _ : κ => [A.rw_ p]) κr :=
  Spec.exOpen fun s hl => Spec.ex (c := fun s : Rd => blkP p TR [byt s.l, int s.e]) (i := s) (j := g s) κr (u s hl) (hr s hl) (Spec.reg (φ := []) (hs s (by unfold lots; omega)) (fun x h => by rw [List.mem_singleton.1 h]; rfl) (by rw [List.append_nil]; exact Re.blkOut) fun z => by rw [List.append_nil]; exact Re.blkIn) (Nat.le_trans (hg s) hl)
theorem iu_ (hl : l.length ≤ 1000) : Spec Tryz.prog 225 [byt l] [] (fun p : Nat => [rw_ p]) (fun p => ptr p) :=
  Spec.reg (φ := []) (read_s (by unfold lots; omega)) (fun x h => by cases h) (by rw [List.append_nil]; exact Re.refl (ar_ rfl)) fun p => by rw [List.append_nil]; exact Re.trans Re.blkIn (Re.exIn (i := Rd.of l) (c := fun s : Rd => blkP p TR [byt s.l, int s.e]) hl)
theorem gn_ : Spec Tryz.prog 226 [ptr p, int 1] [rw_ p] (fun _ : {x : Nat // x < 256} => [rw_ p]) (fun x => wrd x.1) :=
  Spec.rw_ (fun s _ => ⟨s.num 1, s.num_lt (n := 1) (k := 1) (Nat.le_refl _)⟩) (fun _ _ => rfl) (fun s h => hm_ h rfl) fun s => s.fixed_length 1
theorem gm_ : Spec Tryz.prog 226 [ptr p, int 8] [rw_ p] (fun _ : Nat => [rw_ p]) (fun x => wrd x) :=
  Spec.rw_ (fun s _ => s.num 8) (fun _ _ => rfl) (fun s h => hm_ h rfl) fun s => s.fixed_length 8
theorem wcount_s (h0 : 0 ≤ n) : Spec Tryz.prog 227 [ptr p, int n] [rw_ p] (fun _ : {x : Nat // (x : Int) ≤ n} => [rw_ p]) (fun x => int (x.1 : Nat)) :=
  Spec.rw_ (fun s _ => ⟨s.countN n, Rd.cnt_le s h0⟩) (fun _ _ => rfl) (fun s h => count_s h) fun s => Rd.cnt_length s n
theorem wfixed_s : Spec Tryz.prog 228 [ptr p, int n] [rw_ p] (fun _ : {l : List UInt8 // l.length ≤ n.toNat} => [rw_ p]) (fun l => byt l.1) :=
  Spec.rw_ (fun s _ => ⟨s.out n, s.out_length n⟩) (fun _ _ => rfl) (fun s h => fixed_s h) fun s => s.fixed_length n
theorem it_ (hn : 0 ≤ n ∧ n ≤ 9223372036854775807) : Spec Tryz.prog 308 [ptr p, int n] [rw_ p] (fun _ : {l : List UInt8 // l.length ≤ 1000} => [rw_ p]) (fun l => byt l.1) :=
  Spec.rw_ (fun s hl => ⟨s.rowOut n, Nat.le_trans (s.rowOut_length n) hl⟩) (fun _ _ => rfl) (fun s h => rowr_s h hn) fun s => Rd.row_length s n
theorem wend_s : Spec Tryz.prog 230 [ptr p] [rw_ p] (fun _ : Int => [rw_ p]) (fun e => int e) :=
  Spec.rw_ (fun s _ => s.end_) (fun _ _ => rfl) (fun s _ => end_s) fun s => Nat.le_refl _
end
theorem arr_le {l : List UInt8} {n : Nat} (h : l.length ≤ n) : (ByteArray.mk l.toArray).size ≤ n := by simpa [ByteArray.size] using h
abbrev CoW := {c : Core // c.letter.size ≤ 1000 ∧ c.text.size ≤ 1000}
def co0 : Core := ⟨0, 0, 0, ⟨#[]⟩, 0, 0, ⟨#[]⟩⟩
def coW : CoW := ⟨co0, by decide, by decide⟩
def EnOk (e : En) : Prop := 0 ≤ e.org ∧ e.org < 256 ∧ e.tags.length ≤ 4
theorem tg_copy {m : List UInt8} (h : m.length ≤ 32) : ∃ t : Tg, putL (zabs (List.replicate 32 (.int .u8 0))) 0 ((bysW m).take 32).flatten = t.abs := by
  refine ⟨⟨m ++ List.replicate (32 - m.length) 0, by simp; omega⟩, ?_⟩
  have e1 : ((bysW m).take 32).flatten = digA m := by
    rw [List.take_of_length_le (by simpa using h)]
    induction m with
    | nil => rfl
    | cons b m ih =>
      have := ih (by simp at h; omega)
      simp only [bysW, digA, List.map_cons, List.flatten_cons] at this ⊢
      rw [this]; rfl
  rw [e1, show zabs (List.replicate 32 (.int .u8 0)) = List.replicate 32 (.v (.int .u8 0)) from rfl, bW_ _ _ _ (Nat.zero_le _)]
  have e2 : (digA m).length = m.length := by simp [digA]
  rw [Nat.zero_add, e2, List.take_zero, List.nil_append, List.drop_replicate]
  unfold Tg.abs digA
  rw [List.map_append, List.map_replicate]
  rfl
section
variable {p : Nat} {l : List UInt8} {z : Nat}
theorem wpcore_s (hl : l.length ≤ 1000) : Spec Tryz.prog 337 [byt l, int 4] [] (fun _ : CoW × Int => []) (fun z => .tup [coreA z.1.1, int z.2]) := by
 refine t_ Tryz.func337 rfl Tryz.ntmps337 rfl fun G w =>c_<|a_<|eb_ (F_ tabOk rfl) rfl rfl fun b4=>?_
 refine q_ 1 rfl<|g_<|b_<|c_<|a_<|q_ 1 rfl<|m_ (iu_ hl) Casts.refl (by kernel_rfl) rfl rfl rfl ?_
 refine Y_ (by repeat first|exact .nil|refine .blk (by repeat first|assumption|exact m0_|apply m1_) ?_|refine .rd (by repeat first|assumption|exact m0_|apply m1_) ?_|refine .pc (by repeat first|assumption|exact m0_|apply m1_) ?_|refine .rdpc (by repeat first|assumption|exact m0_|apply m1_) ?_) (fun _ => rfl) ?_
 intro p6
 refine q_ 1 rfl<|g_<|b_<|c_<|a_<|eb_ (F_ tabOk rfl) rfl rfl fun b7=>?_
 refine g_<|b_<|c_<|a_<|q_ 1 rfl<|m_ (gn_) Casts.refl (by kernel_rfl) rfl rfl rfl ?_
 refine Q_ rfl i1_ (fun _ => rfl)<|fun z12=>⟨_, u1_, ?_⟩
 have h12 := z12.2
 refine d_ (aa_ rfl Tryz.underlying3 (by kernel_rfl) (by simp only [InR, lo, hi]; omega)) rfl rfl ?_
 refine q_ 1 rfl<|m_ (gm_) Casts.refl (by kernel_rfl) rfl rfl rfl ?_
 refine Q_ rfl i1_ (fun _ => rfl)<|fun z15=>⟨_, u1_, d_ (bQ_ rfl Tryz.underlying2 (by kernel_rfl)) rfl rfl ?_⟩
 refine q_ 1 rfl<|m_ (gn_) Casts.refl (by kernel_rfl) rfl rfl rfl ?_
 refine Q_ rfl i1_ (fun _ => rfl)<|fun z18=>⟨_, u1_, ?_⟩
 have h18 := z18.2
 refine d_ (aa_ rfl Tryz.underlying3 (by kernel_rfl) (by simp only [InR, lo, hi]; omega)) rfl rfl ?_
 refine q_ 1 rfl<|e_ (p_ tabOk rfl rfl rfl u0_ rfl (Nat.le_of_ble_eq_true rfl) rfl rfl) rfl rfl<|q_ 1 rfl<|e_ (p_ tabOk rfl rfl rfl u0_ rfl (Nat.le_of_ble_eq_true rfl) rfl rfl) rfl rfl<|q_ 1 rfl<|e_ (p_ tabOk rfl rfl rfl u0_ rfl (Nat.le_of_ble_eq_true rfl) rfl rfl) rfl rfl<|g_<|b_<|c_<|a_<|q_ 2 rfl<|d_ (P_ rfl Tryz.underlying39 (List.length_map _)) rfl rfl<|m_ (it_ (n := (l.length : Nat)) (by omega)) Casts.refl (by kernel_rfl) rfl rfl rfl ?_
 refine Q_ rfl i1_ (fun _ => rfl)<|fun z26=>⟨_, u1_, d_ (c6_ rfl) rfl rfl<|q_ 1 rfl<|e_ (p_ tabOk rfl rfl rfl u0_ rfl (Nat.le_of_ble_eq_true rfl) rfl rfl) rfl rfl<|g_<|b_<|c_<|a_<|q_ 1 rfl<|m_ (gm_) Casts.refl (by kernel_rfl) rfl rfl rfl ?_⟩
 refine Q_ rfl i1_ (fun _ => rfl)<|fun z30=>⟨_, u1_, d_ (bQ_ rfl Tryz.underlying2 (by kernel_rfl)) rfl rfl ?_⟩
 refine q_ 1 rfl<|m_ (gm_) Casts.refl (by kernel_rfl) rfl rfl rfl ?_
 refine Q_ rfl i1_ (fun _ => rfl)<|fun z33=>⟨_, u1_, d_ (bQ_ rfl Tryz.underlying2 (by kernel_rfl)) rfl rfl ?_⟩
 refine q_ 1 rfl<|e_ (p_ tabOk rfl rfl rfl u0_ rfl (Nat.le_of_ble_eq_true rfl) rfl rfl) rfl rfl<|q_ 1 rfl<|e_ (p_ tabOk rfl rfl rfl u0_ rfl (Nat.le_of_ble_eq_true rfl) rfl rfl) rfl rfl<|g_<|b_<|c_<|a_<|q_ 2 rfl<|d_ (P_ rfl Tryz.underlying39 (List.length_map _)) rfl rfl<|m_ (it_ (n := (l.length : Nat)) (by omega)) Casts.refl (by kernel_rfl) rfl rfl rfl ?_
 refine Q_ rfl i1_ (fun _ => rfl)<|fun z40=>⟨_, u1_, d_ (c6_ rfl) rfl rfl<|q_ 1 rfl<|e_ (p_ tabOk rfl rfl rfl u0_ rfl (Nat.le_of_ble_eq_true rfl) rfl rfl) rfl rfl<|g_<|b_<|c_<|c_<|a_<|q_ 1 rfl<|m_ (wend_s) Casts.refl (by kernel_rfl) rfl rfl rfl ?_⟩
 refine Q_ rfl i1_ (fun _ => rfl)<|fun z44=>⟨_, u1_, q_ 1 rfl<|g_<|b_<|n_ rfl ?_ ?_⟩
 ·intro hc45
  refine c_<|a_<|d_ (u_ tabOk rfl rfl rfl rfl) rfl rfl<|e_ (p_ (L' := co0.cells.map .v) tabOk rfl rfl rfl u2_ rfl (Nat.le_of_ble_eq_true rfl) rfl (by exact x_ rfl)) rfl rfl ?_
  refine q_ 1 rfl<|g_<|b_<|o_<|k_ nofun<|f_ (rs := [.cell 4 26, .tmp 5]) rfl (RV.cell rfl (RV.cellA tabOk rfl rfl l2_ (by rfl)) (RV.tmp rfl RV.nil)) ((coW, 2)) sn_ ?_
  exact rfl
 intro hc45
 refine s_<|b_<|c_<|c_<|a_<|d_ (i_ (C := coreA ⟨(z12.1 : Nat), IntKind.i64.wrap (z15 : Nat), (z18.1 : Nat), ⟨z26.1.toArray⟩, IntKind.i64.wrap (z30 : Nat), IntKind.i64.wrap (z33 : Nat), ⟨z40.1.toArray⟩⟩) (y_ tabOk rfl rfl rfl l0_ List.not_mem_nil rfl) rfl) rfl rfl<|q_ 1 rfl<|m_ (hA_ (c := ⟨(z12.1 : Nat), IntKind.i64.wrap (z15 : Nat), (z18.1 : Nat), ⟨z26.1.toArray⟩, IntKind.i64.wrap (z30 : Nat), IntKind.i64.wrap (z33 : Nat), ⟨z40.1.toArray⟩⟩) (n := 4)) Casts.refl (by kernel_rfl) rfl rfl rfl ?_
 refine ap_<|fun _=>q_ 1 rfl<|g_<|b_<|c_<|a_<|q_ 2 rfl<|g_<|b_<|n_ rfl ?_ ?_
 ·intro hc51
  refine c_<|a_<|d_ (u_ tabOk rfl rfl rfl rfl) rfl rfl<|q_ 1 rfl<|e_ (p_ (L' := co0.cells.map .v) tabOk rfl rfl rfl u2_ rfl (Nat.le_of_ble_eq_true rfl) rfl (by exact x_ rfl)) rfl rfl ?_
  refine q_ 1 rfl<|g_<|b_<|o_<|k_ nofun<|f_ (rs := [.cell 4 26, .tmp 5]) rfl (RV.cell rfl (RV.cellA tabOk rfl rfl l2_ (by rfl)) (RV.tmp rfl RV.nil)) ((coW, (⟨(z12.1 : Nat), IntKind.i64.wrap (z15 : Nat), (z18.1 : Nat), ⟨z26.1.toArray⟩, IntKind.i64.wrap (z30 : Nat), IntKind.i64.wrap (z33 : Nat), ⟨z40.1.toArray⟩⟩ : Core).check 4)) sn_ ?_
  exact rfl
 intro hc51
 refine s_<|b_<|c_<|a_<|d_ (i_ (C := coreA ⟨(z12.1 : Nat), IntKind.i64.wrap (z15 : Nat), (z18.1 : Nat), ⟨z26.1.toArray⟩, IntKind.i64.wrap (z30 : Nat), IntKind.i64.wrap (z33 : Nat), ⟨z40.1.toArray⟩⟩) (y_ tabOk rfl rfl rfl l0_ List.not_mem_nil rfl) rfl) rfl rfl<|e_ (p_ (L' := (⟨(z12.1 : Nat), IntKind.i64.wrap (z15 : Nat), (z18.1 : Nat), ⟨z26.1.toArray⟩, IntKind.i64.wrap (z30 : Nat), IntKind.i64.wrap (z33 : Nat), ⟨z40.1.toArray⟩⟩ : Core).cells.map .v) tabOk rfl rfl rfl u2_ rfl (Nat.le_of_ble_eq_true rfl) rfl (by exact x_ rfl)) rfl rfl ?_
 refine q_ 1 rfl<|g_<|b_<|o_<|f_ (rs := [.cell 4 26, .tmp 5]) rfl (RV.cell rfl (RV.cellA tabOk rfl rfl l2_ (by rfl)) (RV.tmp rfl RV.nil)) ((⟨⟨(z12.1 : Nat), IntKind.i64.wrap (z15 : Nat), (z18.1 : Nat), ⟨z26.1.toArray⟩, IntKind.i64.wrap (z30 : Nat), IntKind.i64.wrap (z33 : Nat), ⟨z40.1.toArray⟩⟩, arr_le z26.2, arr_le z40.2⟩, 0)) sn_ ?_
 exact rfl
set_option maxHeartbeats 1000000 in
theorem wend1_s  : Spec Tryz.prog 336 [ptr p, int 4] [rw_ p] (fun _ : {e : En // EnOk e} => [rw_ p]) (fun e => .agg e.1.abs) := by
 refine t_ Tryz.func336 rfl Tryz.ntmps336 rfl fun G w =>c_<|a_<|eb_ (F_ tabOk rfl) rfl rfl fun b4=>?_
 refine g_<|b_<|c_<|a_<|q_ 1 rfl<|m_ (gn_) Casts.refl (by kernel_rfl) rfl rfl rfl ?_
 refine Q_ rfl i1_ (fun _ => rfl)<|fun z8=>⟨_, u1_, ?_⟩
 have h8 := z8.2
 refine d_ (aa_ rfl Tryz.underlying3 (by kernel_rfl) (by simp only [InR, lo, hi]; omega)) rfl rfl ?_
 refine d_ (i_ (C := .agg [int (z8.1 : Nat), .v (.slice none 0 0)]) (u_ tabOk rfl rfl rfl rfl) rfl) rfl rfl<|eb_ (F_ tabOk rfl) rfl rfl fun b5=>?_
 refine e_ (p_ (L' := [int (z8.1 : Nat), .v (.slice none 0 0)]) tabOk rfl rfl rfl u0_ rfl (Nat.le_of_ble_eq_true rfl) rfl (by exact x_ rfl)) rfl rfl ?_
 refine g_<|b_<|c_<|c_<|a_<|q_ 2 rfl<|g_<|b_<|w_<|aO_ 64 32<|S_ (ι := Nat × Value × List Tg) (fun z => [own 64 32 z.2.1 (z.2.2.map Tg.abs), .blk b5 213 [int (z8.1 : Nat), .v z.2.1], .blk b4 213 [int 0, .v (.slice none 0 0)], rw_ p]) (fun z => [(0, ptr p), (4, ptr b4), (5, ptr b5), (11, int 4), (12, int (z.1 : Nat))]) (fun z => z.1 ≤ 4 ∧ z.2.2.length = z.1) (fun z => 4 - z.1) (0, .slice none 0 0, []) (⟨Nat.zero_le _, rfl⟩) (by exact ⟨rfl, rfl, rfl, rfl, rfl, trivial⟩) sr_ ?_
 intro z hz
 refine c_<|a_<|q_ 1 rfl<|g_<|b_<|c_<|n_ rfl ?_ ?_
 rotate_left
 ·intro hc13
  refine O_<|k_ nofun<|k_ nofun<|N_<|b_<|c_<|bR_ [] 1 rfl u0_ rfl<|a_<|d_ (y_ tabOk rfl rfl rfl l0_ List.not_mem_nil rfl) rfl rfl<|e_ (p_ tabOk rfl rfl rfl u1_ rfl (Nat.le_of_ble_eq_true rfl) rfl rfl) rfl rfl<|g_<|b_<|o_<|f_ (rs := [.cell 4 213]) rfl (RV.cell rfl (RV.cellA tabOk rfl rfl l1_ (by rfl)) RV.nil) (⟨⟨(z8.1 : Nat), z.2.2⟩, by dsimp only; omega, by dsimp only; omega, by dsimp only; omega⟩) (sk_ (sk_ sr_)) ?_
  exact rfl
 intro hc13
 refine s_<|b_<|c_<|w_<|c_<|a_<|eb_ (F_ tabOk rfl) rfl rfl fun b6=>?_
 refine g_<|b_<|c_<|T_ [b6, p] (.q 0 (.q 1 (.e 2 (.e 3 .nil)))) (by kernel_rfl) (by kernel_rfl) ?_
 refine X_ (by intro k hk; simp [mids, It.mids, ownPc, rwP, exP] at hk ⊢; grind) fun hx9 => ?_
 refine j_ rfl (f8_ tabOk Tryz.underlying64 rfl rfl) hx9 rfl rfl<|qx_ 1 hx9 rfl<|H_ rfl (wfixed_s (n := 32)) (by simp [mids, It.mids, rwP, exP]) Casts.refl (by kernel_rfl) rfl rfl rfl ?_
 refine Q_ rfl i4_ (fun _ => rfl)<|fun z16=>⟨_, u4_, ?_⟩
 obtain ⟨tg, htg⟩ := tg_copy z16.2
 refine fm_ [] rfl (Eff.copy (L' := tg.abs) Tryz.underlying39 (by kernel_rfl) rfl rfl u0_ (by have : min (List.map (fun b => [Abs.v (bc b)]) z16.1).length 32 ≤ 32 := Nat.min_le_right _ _; show 0 + min (List.map (fun b => [Abs.v (bc b)]) z16.1).length 32 ≤ 32; omega) (c4_ _) (by exact htg)) (by simp) (by simp) rfl rfl ?_
 rintro _ _ ⟨rfl, rfl⟩
 refine C_<|b_<|a_<|q_ 1 rfl<|d_ (i_ (C := .v z.2.1) (h_ tabOk rfl rfl l2_ List.not_mem_nil rfl) rfl) rfl rfl<|d_ (i_ (C := .agg tg.abs) (y_ tabOk rfl rfl rfl l0_ List.not_mem_nil (Tg.size _)) rfl) rfl rfl<|e_ (ac_ tabOk Tryz.underlying40 rfl rfl rfl (aS_ (Tg.size _)) rfl rfl rfl) rfl rfl<|eb_ (K_ (zs := (z.2.2 ++ [tg]).map Tg.abs) tabOk [.blk b6 64 tg.abs] (by rw [List.map_append]; rfl) Tryz.underlying40 rfl rfl rfl rfl rfl rfl (by intro c hc; rw [List.mem_singleton] at hc; subst hc; exact bX_ _) (by unfold maxLen; simp only [List.length_map, List.length_cons, List.length_nil]; omega) (by rw [show Tryz.prog.bytesOf 64 = 32 by kernel_rfl]; simp only [List.length_map, List.length_cons, List.length_nil]; omega)) rfl rfl fun r22=>?_
 refine q_ 1 rfl<|e_ (az_ (L' := [int (z8.1 : Nat), .v r22]) tabOk rfl rfl rfl rfl i1_ u2_ rfl rfl) rfl rfl<|g_<|A_<|b_<|a_<|d_ (E_ rfl rfl (by simp only [InR, lo, hi]; omega)) rfl rfl ?_
 refine q_ 1 rfl<|g_<|J_ (z.1 + 1, r22, z.2.2 ++ [tg]) (by omega) ((⟨by dsimp only; omega, by dsimp only; rw [List.length_append, List.length_singleton]; omega⟩)) (by exact ⟨rfl, rfl, rfl, rfl, rfl, trivial⟩) (sk_ sr_)
end
def RqOk (q : Rq) : Prop := q.core.letter.size ≤ 1000 ∧ q.core.text.size ≤ 1000 ∧ q.ends.length ≤ 4 ∧ ∀ e ∈ q.ends, EnOk e
def rq0 : Rq := ⟨co0, []⟩
theorem iT_ : RqOk rq0 := ⟨by decide, by decide, by decide, fun e h => by cases h⟩
theorem jc_ {e : Int} : Casts [.agg (co0.cells.map .v ++ [.v (.slice none 0 0)]), int e] [.agg rq0.abs, int e] := Casts.cons (hB_ (Casts.keep (Casts.keep (Casts.keep (Casts.keep (Casts.keep (Casts.keep (Casts.keep (Casts.nils Casts.refl))))))))) Casts.refl
section
variable {p : Nat} {l : List UInt8}
set_option maxHeartbeats 2000000 in
theorem g1_ (hl : l.length ≤ 1000) : Spec Tryz.prog 269 [byt l, int 4] [] (fun _ : {q : Rq // RqOk q} × Int => []) (fun z => .tup [.agg z.1.1.abs, int z.2]) := by
 refine t_ Tryz.func269 rfl Tryz.ntmps269 rfl fun G w =>c_<|a_<|eb_ (F_ tabOk rfl) rfl rfl fun b4=>?_
 refine q_ 1 rfl<|g_<|b_<|c_<|c_<|a_<|q_ 3 rfl<|D_ (t := 16) rfl (by intro hc16; exfalso; omega) ?_
 intro hc16
 refine q_ 3 rfl<|g_<|b_<|n_ rfl (by intro hc19; exfalso; omega) ?_
 intro hc19
 refine s_<|b_<|c_<|a_<|q_ 1 rfl<|m_ (iu_ hl) Casts.refl (by kernel_rfl) rfl rfl rfl ?_
 refine Y_ (by repeat first|exact .nil|refine .blk (by repeat first|assumption|exact m0_|apply m1_) ?_|refine .rd (by repeat first|assumption|exact m0_|apply m1_) ?_|refine .pc (by repeat first|assumption|exact m0_|apply m1_) ?_|refine .rdpc (by repeat first|assumption|exact m0_|apply m1_) ?_) (fun _ => rfl) ?_
 intro p6
 refine q_ 1 rfl<|g_<|b_<|c_<|a_<|q_ 2 rfl<|d_ (P_ rfl Tryz.underlying39 (List.length_map _)) rfl rfl<|m_ (it_ (n := (l.length : Nat)) (by omega)) Casts.refl (by kernel_rfl) rfl rfl rfl ?_
 refine Q_ rfl i0_ (fun _ => rfl)<|fun z26=>⟨_, u0_, q_ 1 rfl<|g_<|b_<|c_<|a_<|eb_ (F_ tabOk rfl) rfl rfl fun b8=>?_⟩
 refine g_<|b_<|c_<|a_<|q_ 1 rfl<|g_<|b_<|c_<|c_<|a_<|q_ 2 rfl<|m_ (wcount_s (n := 4) (by omega)) Casts.refl (by kernel_rfl) rfl rfl rfl ?_
 refine Q_ rfl i1_ (fun _ => rfl)<|fun z29=>⟨_, u1_, ?_⟩
 have h29 := z29.2
 refine q_ 1 rfl<|g_<|b_<|w_<|aO_ 213 2<|S_ (ι := Nat × Value × List En × Bool) (fun z => [own 213 2 z.2.1 (z.2.2.1.map En.abs), .blk b8 134 (co0.cells.map .v ++ [.v z.2.1]), rw_ p6, .blk b4 134 (co0.cells.map .v ++ [.v (.slice none 0 0)])]) (fun z => [(1, int 4), (4, ptr b4), (6, ptr p6), (7, byt z26.1), (8, ptr b8), (29, int (z29.1 : Nat)), (30, int (z.1 : Nat)), (9, boo z.2.2.2)]) (fun z => z.1 ≤ z29.1 ∧ z.2.2.1.length = z.1 ∧ ∀ e ∈ z.2.2.1, EnOk e) (fun z => z29.1 - z.1) (0, .slice none 0 0, [], false) (⟨Nat.zero_le _, rfl, fun e h => by cases h⟩) (by exact ⟨rfl, rfl, rfl, rfl, rfl, rfl, rfl, rfl, trivial⟩) sr_ ?_
 intro z hz
 refine c_<|a_<|q_ 1 rfl<|g_<|b_<|c_<|n_ rfl ?_ ?_
 rotate_left
 ·intro hc31
  refine O_<|k_ nofun<|k_ nofun<|N_<|b_<|c_<|c_<|bR_ [] 7 rfl u0_ rfl<|a_<|q_ 1 rfl<|m_ (wend_s) Casts.refl (by kernel_rfl) rfl rfl rfl ?_
  refine Q_ rfl i1_ (fun _ => rfl)<|fun z67=>⟨_, u1_, q_ 2 rfl<|D_ (t := 69) rfl ?_ ?_⟩
  ·intro hc69
   refine q_ 2 rfl<|g_<|b_<|ab_ rfl<|c_<|a_<|d_ (u_ tabOk rfl rfl rfl rfl) rfl rfl<|e_ (p_ (L' := co0.cells.map .v ++ [.v (.slice none 0 0)]) tabOk rfl rfl rfl u2_ rfl (Nat.le_of_ble_eq_true rfl) rfl (by exact x_ rfl)) rfl rfl ?_
   refine q_ 1 rfl<|g_<|b_<|o_<|k_ nofun<|fC_ (rs := [.cell 4 134, .tmp 5]) rfl (RV.cell rfl (RV.cellA tabOk rfl rfl l2_ (by rfl)) (RV.tmp rfl RV.nil)) (jc_) ((⟨rq0, iT_⟩, 2)) sn_ ?_
   exact rfl
  intro hc69
  refine q_ 2 rfl<|g_<|b_<|ay_ rfl ?_ ?_
  ·intro hc71
   refine c_<|a_<|d_ (u_ tabOk rfl rfl rfl rfl) rfl rfl<|e_ (p_ (L' := co0.cells.map .v ++ [.v (.slice none 0 0)]) tabOk rfl rfl rfl u2_ rfl (Nat.le_of_ble_eq_true rfl) rfl (by exact x_ rfl)) rfl rfl ?_
   refine q_ 1 rfl<|g_<|b_<|o_<|k_ nofun<|fC_ (rs := [.cell 4 134, .tmp 5]) rfl (RV.cell rfl (RV.cellA tabOk rfl rfl l2_ (by rfl)) (RV.tmp rfl RV.nil)) (jc_) ((⟨rq0, iT_⟩, 2)) sn_ ?_
   exact rfl
  intro hc71
  refine s_<|b_<|c_<|a_<|q_ 2 rfl<|m_ (wpcore_s z26.2) Casts.refl (by kernel_rfl) rfl rfl rfl ?_
  refine ap_<|fun z76=>q_ 3 rfl<|eb_ (F_ tabOk rfl) rfl rfl fun b12=>?_
  refine e_ (p_ (L' := z76.1.1.cells.map .v) tabOk rfl rfl rfl u0_ rfl (Nat.le_of_ble_eq_true rfl) rfl (by exact x_ rfl)) rfl rfl ?_
  refine q_ 1 rfl<|g_<|b_<|c_<|c_<|a_<|q_ 2 rfl<|g_<|b_<|n_ rfl ?_ ?_
  ·intro hc80
   refine c_<|a_<|d_ (u_ tabOk rfl rfl rfl rfl) rfl rfl<|q_ 1 rfl<|e_ (p_ (L' := co0.cells.map .v ++ [.v (.slice none 0 0)]) tabOk rfl rfl rfl u3_ rfl (Nat.le_of_ble_eq_true rfl) rfl (by exact x_ rfl)) rfl rfl ?_
   refine q_ 1 rfl<|g_<|b_<|o_<|k_ nofun<|fC_ (rs := [.cell 4 134, .tmp 5]) rfl (RV.cell rfl (RV.cellA tabOk rfl rfl l3_ (by rfl)) (RV.tmp rfl RV.nil)) (jc_) ((⟨rq0, iT_⟩, z76.2)) sn_ ?_
   exact rfl
  intro hc80
  refine s_<|b_<|c_<|a_<|d_ (i_ (C := coreA z76.1.1) (y_ tabOk rfl rfl rfl l0_ List.not_mem_nil rfl) rfl) rfl rfl<|q_ 1 rfl<|e_ (p_ (L' := (Rq.mk z76.1.1 z.2.2.1).abs) tabOk rfl rfl rfl u1_ rfl (Nat.le_of_ble_eq_true rfl) rfl rfl) rfl rfl<|g_<|b_<|c_<|a_<|d_ (i_ (C := .agg (Rq.mk z76.1.1 z.2.2.1).abs) (y_ tabOk rfl rfl rfl l1_ List.not_mem_nil rfl) rfl) rfl rfl<|e_ (p_ (L' := (Rq.mk z76.1.1 z.2.2.1).abs) tabOk rfl rfl rfl u3_ rfl (Nat.le_of_ble_eq_true rfl) rfl (by exact x_ rfl)) rfl rfl ?_
  refine q_ 1 rfl<|g_<|b_<|o_<|f_ (rs := [.cell 4 134, .tmp 5]) rfl (RV.cell rfl (RV.cellA tabOk rfl rfl l3_ (by rfl)) (RV.tmp rfl RV.nil)) ((⟨⟨z76.1.1, z.2.2.1⟩, z76.1.2.1, z76.1.2.2, by dsimp only; omega, hz.2.2⟩, 0)) sn_ ?_
  exact rfl
 intro hc31
 refine s_<|b_<|c_<|w_<|c_<|a_<|q_ 2 rfl<|g_<|b_<|c_<|a_<|q_ 2 rfl<|m_ (wend1_s) Casts.refl (by kernel_rfl) rfl rfl rfl ?_
 refine Q_ rfl i2_ (fun _ => rfl)<|fun z35=>⟨_, u2_, eb_ (F_ tabOk rfl) rfl rfl fun b11=>?_⟩
 refine e_ (p_ (L' := z35.1.abs) tabOk rfl rfl rfl u0_ rfl (Nat.le_of_ble_eq_true rfl) rfl (by exact x_ rfl)) rfl rfl ?_
 refine g_<|b_<|cj_ (ι := Bool) (fun o => [.blk b11 213 z35.1.abs, own 213 2 z.2.1 (z.2.2.1.map En.abs), .blk b8 134 (co0.cells.map .v ++ [.v z.2.1]), rw_ p6, .blk b4 134 (co0.cells.map .v ++ [.v (.slice none 0 0)])]) (fun o => [(1, int 4), (4, ptr b4), (6, ptr p6), (7, byt z26.1), (8, ptr b8), (29, int (z29.1 : Nat)), (30, int (z.1 : Nat)), (9, boo o), (11, ptr b11)]) (fun o => True) ?_ ?_
 ·skip
  refine T_ [] (.q 0 (.q 1 (.q 2 (.q 3 (.q 4 (.q 5 (.q 6 (.q 7 (.q 8 (.q 9 (.q 10 (.q 11 (.q 12 (.q 13 (.q 14 (.q 15 (.q 16 (.q 17 (.q 18 (.q 19 (.q 20 (.q 21 (.q 22 (.q 23 .nil)))))))))))))))))))))))) (by kernel_rfl) (by kernel_rfl) ?_
  refine qs_ 2 rfl<|fo_ (t := 37) rfl ?_ ?_
  ·intro hc37
   refine qs_ 22 rfl<|C_<|R_ (true) (trivial) (by exact ⟨rfl, rfl, rfl, rfl, rfl, rfl, rfl, rfl, rfl, trivial⟩) sr_
  intro hc37
  refine qs_ 1 rfl<|hx_ fun hx9 =>j_ rfl (i_ (C := int z35.1.org) (h_ tabOk rfl rfl l0_ List.not_mem_nil rfl) rfl) hx9 rfl rfl<|qs_ 4 rfl<|bd_ (t := 43) rfl ?_ ?_
  ·intro hc43
   refine qs_ 16 rfl<|C_<|R_ (true) (trivial) (by exact ⟨rfl, rfl, rfl, rfl, rfl, rfl, rfl, rfl, rfl, trivial⟩) sr_
  intro hc43
  refine qs_ 3 rfl<|bd_ (t := 46) rfl ?_ ?_
  rotate_left
  ·intro hc46
   refine qs_ 13 rfl<|C_<|R_ (false) (trivial) (by exact ⟨rfl, rfl, rfl, rfl, rfl, rfl, rfl, rfl, rfl, trivial⟩) sr_
  intro hc46
  have hpk : z.1 - 1 < z.2.2.1.length := by omega
  refine qs_ 1 rfl<|j_ rfl (i_ (C := .v z.2.1) (h_ tabOk rfl rfl l2_ List.not_mem_nil rfl) rfl) hx9 rfl rfl<|qs_ 1 rfl<|j_ rfl (i_ (C := int ((z.1 - 1) : Nat)) (b0_ rfl rfl (by simp only [InR, lo, hi]; omega)) (congrArg int (by omega))) hx9 rfl rfl ?_
  refine j_ rfl (aP_ (q := (z.1 - 1)) tabOk Tryz.underlying132 rfl rfl l1_ rfl rfl (by rw [List.length_map]; exact hpk) rfl rfl) hx9 rfl rfl ?_
  refine j_ rfl (ga_ (q := (z.1 - 1)) (s := 2) (cs := (z.2.2.1[z.1 - 1]'hpk).abs) tabOk rfl rfl l1_ rfl (by rw [List.getElem?_map, List.getElem?_eq_getElem hpk]; rfl) rfl rfl rfl) hx9 rfl rfl ?_
  refine j_ rfl (i_ (C := int (z.2.2.1[z.1 - 1]'hpk).org) (cf_ (q := (z.1 - 1)) (s := 2) (jj := 0) (cs := (z.2.2.1[z.1 - 1]'hpk).abs) tabOk rfl rfl l1_ rfl (by rw [List.getElem?_map, List.getElem?_eq_getElem hpk]; rfl) rfl) rfl) hx9 rfl rfl ?_
  refine qs_ 1 rfl<|j_ rfl (i_ (C := int z35.1.org) (h_ tabOk rfl rfl l0_ List.not_mem_nil rfl) rfl) hx9 rfl rfl<|qs_ 4 rfl<|C_<|R_ (decide ((z.2.2.1[z.1 - 1]'hpk).org ≥ z35.1.org)) (trivial) (by exact ⟨rfl, rfl, rfl, rfl, rfl, rfl, rfl, rfl, rfl, trivial⟩) sr_
 intro o ho
 refine a_<|q_ 1 rfl<|d_ (i_ (C := .v z.2.1) (h_ tabOk rfl rfl l2_ List.not_mem_nil rfl) rfl) rfl rfl<|d_ (i_ (C := .agg z35.1.abs) (y_ tabOk rfl rfl rfl l0_ List.not_mem_nil rfl) rfl) rfl rfl<|e_ (ac_ tabOk Tryz.underlying132 rfl rfl rfl (aS_ rfl) rfl rfl rfl) rfl rfl<|eb_ (K_ (zs := (z.2.2.1 ++ [z35.1]).map En.abs) tabOk [.blk b11 213 z35.1.abs] (by rw [List.map_append]; rfl) Tryz.underlying132 rfl rfl rfl rfl rfl rfl (by intro c hc; rw [List.mem_singleton] at hc; subst hc; rfl) (by unfold maxLen; simp only [List.length_map, List.length_cons, List.length_nil]; omega) (by rw [show Tryz.prog.bytesOf 213 = 32 by kernel_rfl]; simp only [List.length_map, List.length_cons, List.length_nil]; omega)) rfl rfl fun r63=>?_
 refine q_ 1 rfl<|e_ (az_ (L' := co0.cells.map .v ++ [.v r63]) tabOk rfl rfl rfl rfl i1_ u2_ rfl rfl) rfl rfl<|g_<|A_<|b_<|a_<|d_ (E_ rfl rfl (by simp only [InR, lo, hi]; omega)) rfl rfl ?_
 refine q_ 1 rfl<|g_<|J_ (z.1 + 1, r63, z.2.2.1 ++ [z35.1], o) (by omega) ((⟨by dsimp only; omega, by dsimp only; rw [List.length_append, List.length_singleton]; omega, by intro e he; rcases List.mem_append.1 he with he | he; exact hz.2.2 e he; rw [List.mem_singleton] at he; subst he; exact z35.2⟩)) (by exact ⟨rfl, rfl, rfl, rfl, rfl, rfl, rfl, rfl, trivial⟩) (sk_ sr_)
end
end Go.Proofs.YtjclgkddfjbdiaaGreatDoor.A
namespace Go.Proofs.YtjclgkddfjbdiaaGreatDoor.A
inductive Rem_ (y : It) : Blks → Blks → Prop
  | here {σ : Blks} : Rem_ y (y :: σ) σ
  | there {z : It} {σ τ : Blks} (h : Rem_ y σ τ) : Rem_ y (z :: σ) (z :: τ)
theorem Rem_.perm {y : It} {σ τ : Blks} (h : Rem_ y σ τ) : (y :: τ).Perm σ := by
  induction h with
  | here => exact List.Perm.refl _
  | there h ih => exact (List.Perm.swap _ _ _).trans (ih.cons _)
theorem pk_ {y : It} {ys σ τ : Blks} (h : Rem_ y σ τ) (k : ys.Perm τ) : (y :: ys).Perm σ := (k.cons y).trans h.perm
theorem am_ {ι : Type} {σ σ1 : Blks} {τ' : ι → Blks} {K : Blks → ι → Prop} (h : Reads σ σ1) (k : ∀ z, K (τ' z ++ σ) z) : After σ σ1 τ' K := ⟨σ, h.split, fun z => ⟨_, List.Perm.refl _, k z⟩⟩
theorem bu_ {ι : Type} {σ σ1 : Blks} {τ' : ι → Blks} {K : Blks → ι → Prop} (φ : Blks) (ν : ι → Blks) (hp : (mids σ1 ++ mids φ).Perm (mids σ)) (hs : ∀ x ∈ σ1, (x ∈ σ ∧ x.rids = []) ∨ ∃ y ∈ φ, x = y.toRd) (hr : ∀ x ∈ φ, x ∈ σ) (hν : ∀ z, (ν z).Perm (τ' z ++ φ)) (k : ∀ z, K (ν z) z) : After σ σ1 τ' K := ⟨φ, ⟨hp, hs, hr⟩, fun z => ⟨_, hν z, k z⟩⟩
theorem fl_ {P : Program} {n : Nat} {W : Wd} {σ : Blks} {l : Slots} {X : List Nat} {x : Operand} {d : Option Nat} {ty tp : TypeId} {pos : String} {aft : Array Edge} {g : Option (Nat × Bool)} {A : Abs} (hx : look l x = some (.ifc tp A)) : Val P n W σ l X ⟨d, .nilCheck x, ty, pos, aft, g⟩ (.ifc tp A) := fun a w hs _ => by
  obtain ⟨u, h1, h2⟩ := hs.eval hx
  refine ⟨_, hs.eval hx, fun w' _ => ?_⟩
  simp [execOp, h1, Sem.run_bind, Sem.run, Result.andThen]
end Go.Proofs.YtjclgkddfjbdiaaGreatDoor.A
