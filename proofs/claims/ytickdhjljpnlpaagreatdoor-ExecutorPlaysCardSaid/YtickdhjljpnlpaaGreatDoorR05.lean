/-
  Packed out of the texts: A6, A8, Open, OpenBytes, AOpen, A10, A11, A12, Frm, Trm, A13, A22, Maps, A9, A18, A15, Sum, Doc, A14.
-/
import Derived.Test.YtickdhjljpnlpaaGreatDoorR04
import Derived.Deep.Slices
import Derived.Maps.Keyed
import Derived.Maps.OwnSet
set_option maxRecDepth 100000
set_option linter.unusedSimpArgs false
set_option linter.unusedVariables false
namespace Go.Proofs.YtickdhjljpnlpaaGreatDoor.A
open Go.RowKit
abbrev int (x : Int) : Abs := .v (.int .i64 x)
abbrev wrd (x : Nat) : Abs := .v (.int .u64 (x : Nat))
abbrev boo (b : Bool) : Abs := .v (.bool b)
abbrev ptr (b : Nat) : Abs := .v (.pointer (some ⟨b, 0, none⟩))
abbrev rdA (T : TypeId) (p : Nat) (s : Rd) : It := .blk p T [byt s.l, int s.e]
section
variable {P : Program} {f : FuncId}
abbrev flat {α : Type} (s : Nat) (c : α → List Value) (xs : List α) : Abs := .sl s (xs.map fun a => (c a).map .v)
theorem aD_ {K : List Nat} {w : World} : ∀ {us vs : List Value}, reps K w (us.map .v) vs ↔ vs = us
  | [], vs => Iff.rfl
  | u :: us, vs => by
    constructor
    · rintro ⟨u', us', h1, h2, h3⟩
      have h2 : u' = u := h2
      rw [h1, h2, aD_.1 h3]
    · rintro rfl; exact ⟨u, us, rfl, rfl, aD_.2 rfl⟩
theorem cH_ {K : List Nat} {w : World} {α : Type} {s : Nat} {c : α → List Value} (hc : ∀ a, (c a).length = s) : ∀ {xs : List α} {us : List Value}, repss K w s (xs.map fun a => (c a).map .v) us ↔ us = xs.flatMap c
  | [], us => Iff.rfl
  | x :: xs, us => by
    constructor
    · rintro ⟨u1, u2, h1, h2, h3, h4⟩
      rw [h1, aD_.1 h3, (cH_ hc).1 h4, List.flatMap_cons]
    · rintro rfl
      exact ⟨c x, _, rfl, hc x, aD_.2 rfl, (cH_ hc).2 rfl⟩
theorem cI_ {K : List Nat} {w : World} {α : Type} {s : Nat} {c : α → List Value} (hc : ∀ a, (c a).length = s) {xs : List α} {x : Value} : rep K w (flat s c xs) x ↔ IsRow K w x xs.length (xs.flatMap c) := by
  constructor
  · rintro ⟨us, h1, h2⟩
    have := (cH_ hc).1 h2
    subst this
    simpa using h1
  · intro h
    exact ⟨_, by simpa using h, (cH_ hc).2 rfl⟩
theorem Spec.ofRdG {T p : Nat} {s t : Rd} {vals : List Value} {res : Abs} (h : ∀ (S : List (World × List Nat)) (σ2 : Proofs.YtickdhjljpnlpaaGreatDoor.Blks) (ρ : List Dt) (w : World) (v : Value), Proofs.YtickdhjljpnlpaaGreatDoor.Mem S (rdI T p ⟨v, s.l, s.e⟩ :: σ2) ρ w → bytesD v s.l ∈ ρ →
    Calls P f vals.toArray w fun e w' => ∃ r v' ρ', e = .returned r ∧ Proofs.YtickdhjljpnlpaaGreatDoor.Mem S (rdI T p ⟨v', t.l, t.e⟩ :: σ2) ρ' w' ∧ bytesD v' t.l ∈ ρ' ∧ ∀ K', (∀ x n cs, rowD x n cs ∈ ρ' → IsRow K' w' x n cs) → rep K' w' res r) : Spec P f (vals.map .v) [rdA T p s] (fun _ : Unit => [rdA T p t]) (fun _ => res) := fun G w vs hm hv => by
  have := aD_.1 hv
  subst this
  obtain ⟨us, hb, v, us', h1, h2, e, us2, h3, h4, h5⟩ := hm.hold (rdA T p s) (by simp)
  have h4 : e = .int .i64 s.e := h4
  have h5 : us2 = [] := h5
  subst h5 h4 h3 h1
  have h2 := bw_.1 h2
  have hpG : p ∉ G := hm.sep p (by simp [mids, It.mids])
  have hw2 : Proofs.YtickdhjljpnlpaaGreatDoor.Mem [(w, p :: G)] (rdI T p ⟨v, s.l, s.e⟩ :: [old2 w G]) [bytesD v s.l] w := by
    refine ⟨fun s hs => ?_, fun x hx k hk s hs => ?_, ?_, fun x hx => ?_, fun z hz => ?_⟩
    · rw [List.mem_singleton] at hs; subst hs; exact Ext.refl w
    · rw [List.mem_singleton] at hs
      subst hs
      rcases List.mem_cons.1 hx with rfl | hx
      · simp only [Proofs.YtickdhjljpnlpaaGreatDoor.It.ids, List.mem_singleton] at hk; exact .inl (by simp [hk])
      · rw [List.mem_singleton] at hx; subst hx
        exact .inl (List.mem_cons_of_mem _ (bE_.1 hk).2)
    · simp only [List.flatMap_cons, List.flatMap_nil, List.append_nil, List.nodup_append]
      refine ⟨by simp [Proofs.YtickdhjljpnlpaaGreatDoor.It.ids], List.Nodup.sublist List.filter_sublist List.nodup_range, fun a ha b hb he => ?_⟩
      simp only [Proofs.YtickdhjljpnlpaaGreatDoor.It.ids, List.mem_singleton] at ha
      subst ha he
      exact hpG (bE_.1 hb).2
    · rcases List.mem_cons.1 hx with rfl | hx
      · exact hb
      · rw [List.mem_singleton] at hx; subst hx; exact ⟨Nat.le_refl _, fun _ _ _ => rfl⟩
    · rw [List.mem_singleton] at hz; subst hz
      refine h2.grow fun k hk => .inl ?_
      simp only [List.flatMap_cons, List.flatMap_nil, List.append_nil, List.mem_append] at hk
      rcases hk with hk | hk
      · simp only [Proofs.YtickdhjljpnlpaaGreatDoor.It.ids, List.mem_singleton] at hk
        simp [mids, It.mids, hk]
      · simp [(bE_.1 hk).2]
  refine (h _ _ _ _ v hw2 (by simp)).mono fun e w' ⟨r, v', ρ', he, hm', hd, hd2⟩ => ?_
  have hx := hm'.ext (w, p :: G) (by simp)
  have ho : _ ∧ _ := hm'.hold (old2 w G) (by simp)
  have hx2 : Ext (mids [rdA T p s]) w w' := ⟨hx.os, hx.tape, hx.output, hx.size, fun k hk hn => by
    by_cases hK : k ∈ G
    · exact ho.2 k hk hK
    · exact hx.block k hk (by simp only [List.mem_cons, not_or]; exact ⟨by simpa [mids, It.mids] using hn, hK⟩)⟩
  have hb' : w'.heap[p]? = some (row T [v', .int .i64 t.e]) := hm'.holds (by simp)
  have hgrow : ∀ (x : Value) (m : Nat) (cs : List Value), rowD x m cs ∈ ρ' → IsRow (mids [rdA T p t] ++ G) w' x m cs := fun _ _ _ hd => (hm'.data hd).grow fun k hk => by
    simp only [List.mem_append] at hk
    refine .inl ?_
    simp only [List.flatMap_cons, List.flatMap_nil, List.append_nil, List.mem_append]
    rcases hk with hk | hk
    · exact .inl (by simpa [mids, It.mids, Proofs.YtickdhjljpnlpaaGreatDoor.It.ids] using hk)
    · exact .inr (bE_.2 ⟨hm.old k hk, hk⟩)
  refine ⟨(), r, he, by simp [It.rids], ⟨hx2, fun k hk => .inl hk, fun k hk hg => hpG (by simp [mids, It.mids] at hk; subst hk; exact hg), fun k hk => Nat.lt_of_lt_of_le (hm.old k hk) hx.size, by simp [It.rids], by simp [mids, It.mids], fun x hx => ?_⟩, hd2 _ hgrow⟩
  rw [List.mem_singleton] at hx; subst hx
  exact ⟨_, hb', _, _, rfl, bw_.2 (hgrow _ _ _ hd), _, _, rfl, rfl, rfl⟩
theorem Spec.ofRd {T p : Nat} {s t : Rd} {vals : List Value} {u : Value} (h : ∀ (S : List (World × List Nat)) (σ2 : Proofs.YtickdhjljpnlpaaGreatDoor.Blks) (ρ : List Dt) (w : World) (v : Value), Proofs.YtickdhjljpnlpaaGreatDoor.Mem S (rdI T p ⟨v, s.l, s.e⟩ :: σ2) ρ w → bytesD v s.l ∈ ρ →
    Calls P f vals.toArray w fun e w' => ∃ v' ρ', e = .returned u ∧ Proofs.YtickdhjljpnlpaaGreatDoor.Mem S (rdI T p ⟨v', t.l, t.e⟩ :: σ2) ρ' w' ∧ bytesD v' t.l ∈ ρ') : Spec P f (vals.map .v) [rdA T p s] (fun _ : Unit => [rdA T p t]) (fun _ => .v u) :=
  Spec.ofRdG fun S σ2 ρ w v hw hd => (h S σ2 ρ w v hw hd).mono fun _ _ ⟨v', ρ', h1, h2, h3⟩ => ⟨u, v', ρ', h1, h2, h3, fun _ _ => rfl⟩
theorem Spec.ofRdB {T p : Nat} {s t : Rd} {vals : List Value} {out : List UInt8} (h : ∀ (S : List (World × List Nat)) (σ2 : Proofs.YtickdhjljpnlpaaGreatDoor.Blks) (ρ : List Dt) (w : World) (v : Value), Proofs.YtickdhjljpnlpaaGreatDoor.Mem S (rdI T p ⟨v, s.l, s.e⟩ :: σ2) ρ w → bytesD v s.l ∈ ρ →
    Calls P f vals.toArray w fun e w' => ∃ r v' ρ', e = .returned r ∧ Proofs.YtickdhjljpnlpaaGreatDoor.Mem S (rdI T p ⟨v', t.l, t.e⟩ :: σ2) ρ' w' ∧ bytesD v' t.l ∈ ρ' ∧ bytesD r out ∈ ρ') : Spec P f (vals.map .v) [rdA T p s] (fun _ : Unit => [rdA T p t]) (fun _ => byt out) :=
  Spec.ofRdG fun S σ2 ρ w v hw hd => (h S σ2 ρ w v hw hd).mono fun _ _ ⟨r, v', ρ', h1, h2, h3, h4⟩ => ⟨r, v', ρ', h1, h2, h3, fun _ hK => bw_.2 (hK _ _ _ h4)⟩
theorem Pure.ofB {l out : List UInt8} {rest : List Value} (h : ∀ (S : List (World × List Nat)) (σ2 : Proofs.YtickdhjljpnlpaaGreatDoor.Blks) (ρ : List Dt) (w : World) (v : Value), Proofs.YtickdhjljpnlpaaGreatDoor.Mem S σ2 ρ w → bytesD v l ∈ ρ →
    Calls P f (v :: rest).toArray w fun e w' => ∃ r ρ', e = .returned r ∧ Proofs.YtickdhjljpnlpaaGreatDoor.Mem S σ2 ρ' w' ∧ bytesD r out ∈ ρ') : Pure P f (byt l :: rest.map .v) (byt out) := Pure.of2 fun K w vals hK hv => by
  obtain ⟨v, us', rfl, h1, h2⟩ := hv
  have := aD_.1 h2
  subst this
  refine (h _ _ _ _ v ((enter2 w K).add (z := bytesD v l) (row2 (bw_.1 h1))) (by simp)).mono fun e w' ⟨r, ρ', he, hm, hd⟩ => ⟨r, he, leave2 hm (by simp), bw_.2 (row3 hK ?_ (hm.data hd))⟩
  intro k hk hkK
  simp only [List.flatMap_cons, List.flatMap_nil, List.append_nil]
  exact bE_.2 ⟨hk, hkK⟩
theorem Pure.ofBB {l m out : List UInt8} (h : ∀ (S : List (World × List Nat)) (σ2 : Proofs.YtickdhjljpnlpaaGreatDoor.Blks) (ρ : List Dt) (w : World) (v r : Value), Proofs.YtickdhjljpnlpaaGreatDoor.Mem S σ2 ρ w → bytesD v l ∈ ρ → bytesD r m ∈ ρ →
    Calls P f #[v, r] w fun e w' => ∃ r ρ', e = .returned r ∧ Proofs.YtickdhjljpnlpaaGreatDoor.Mem S σ2 ρ' w' ∧ bytesD r out ∈ ρ') : Pure P f [byt l, byt m] (byt out) := Pure.of2 fun K w vals hK hv => by
  obtain ⟨v, us', rfl, h1, r, us2, rfl, h2, h3⟩ := hv
  have h3 : us2 = [] := h3
  subst h3
  refine (h _ _ _ _ v r (((enter2 w K).add (z := bytesD v l) (row2 (bw_.1 h1))).add (z := bytesD r m) (row2 (bw_.1 h2))) (by simp) (by simp)).mono fun e w' ⟨r, ρ', he, hm, hd⟩ => ⟨r, he, leave2 hm (by simp), bw_.2 (row3 hK ?_ (hm.data hd))⟩
  intro k hk hkK
  simp only [List.flatMap_cons, List.flatMap_nil, List.append_nil]
  exact bE_.2 ⟨hk, hkK⟩
end
section
variable {l m : List UInt8} {p : Nat} {s : Rd}
theorem jk_ {x : Nat} {n : Int} (hl : l.length ≤ lots) (hx : x < 18446744073709551616) (hn : sizeB n = true) : Pure Tryz.prog 53 [byt l, wrd x, int n] (byt (l ++ beBytes x n.toNat)) :=
  Pure.ofB (rest := [_, _]) fun _ _ _ _ _ hw hd => (put_c hw (hw.bytes hd) hl hx hn).mono fun _ _ ⟨r, h1, h2⟩ => ⟨r, _, h1, h2, by simp⟩
theorem c1_ {x n : Nat} (hl : l.length + 8 ≤ lots) (hn : sizeB n = true) : Pure Tryz.prog 33 [byt l, wrd x, int n] (byt (l ++ beBytes x n)) :=
  Pure.ofB (rest := [_, _]) fun _ _ _ _ _ hw hd => (rput_c hw hd hl hn).mono fun _ _ ⟨r, h1, h2⟩ => ⟨r, _, h1, h2, by simp⟩
theorem hs_ (hl : l.length + m.length + 4 ≤ lots) (hm : m.length < 4294967296) : Pure Tryz.prog 54 [byt l, byt m] (byt (l ++ beBytes m.length 4 ++ m)) :=
  Pure.ofBB fun _ _ _ _ _ _ hw hd hd2 => (oct_Row hw hd hd2 hl hm).mono fun _ _ ⟨r, h1, h2⟩ => ⟨r, _, h1, h2, by simp⟩
theorem et_ (hl : l.length + m.length + 8 ≤ lots) (hm : m.length < 4294967296) : Pure Tryz.prog 34 [byt l, byt m] (byt (l ++ beBytes m.length 4 ++ m)) :=
  Pure.ofBB fun _ _ _ _ _ _ hw hd hd2 => (roct_Row hw hd hd2 hl hm).mono fun _ _ ⟨r, h1, h2⟩ => ⟨r, _, h1, h2, by simp⟩
abbrev TR : Nat := 116
abbrev RR : Nat := 108
abbrev pv (p : Nat) : Value := .pointer (some ⟨p, 0, none⟩)
theorem cc_ (v : Value) (s : Rd) : (⟨v, s.l, s.e⟩ : Rd).as s := ⟨rfl, rfl⟩
theorem fg_ {T : Nat} {s t : Rd} (h : s.as t) : rdI T p s = rdI T p ⟨s.v, t.l, t.e⟩ := by rw [rdI, rdI, h.2]
theorem _root_.Go.Proofs.YtickdhjljpnlpaaGreatDoor.Rd.as.count {s t : Rd} (h : s.as t) (most : Int) : (s.count most).as (t.count most) := by
  unfold Rd.count
  rw [(h.fixed 2).2, h.num]
  split
  · exact ⟨(h.fixed 2).1, rfl⟩
  · exact h.fixed 2
theorem _root_.Go.Proofs.YtickdhjljpnlpaaGreatDoor.Rd.as.countN {s t : Rd} (h : s.as t) (most : Int) : s.countN most = t.countN most := by
  unfold Rd.countN
  rw [(h.fixed 2).2, h.num]
theorem a8_ {n : Int} (hl : s.l.length ≤ lots) (hn : sizeB n = true) : Spec Tryz.prog 47 [ptr p, int n] [rdA TR p s] (fun _ : Unit => [rdA TR p (s.fixed n)]) (fun _ => wrd (s.num n)) :=
  Spec.ofRd (vals := [pv p, .int .i64 n]) fun _ _ _ _ v hw hd => (cJ_ hw .here hd hl hn).mono fun _ _ ⟨h1, h2⟩ => ⟨_, _, by rw [h1, (cc_ v s).num], fg_ ((cc_ v s).fixed n) ▸ h2, by rw [← ((cc_ v s).fixed n).1]; simp⟩
theorem au_ {n : Int} (hl : s.l.length ≤ lots) (hn : sizeB n = true) : Spec Tryz.prog 63 [ptr p, int n] [rdA RR p s] (fun _ : Unit => [rdA RR p (s.fixed n)]) (fun _ => wrd (s.num n)) :=
  Spec.ofRd (vals := [pv p, .int .i64 n]) fun _ _ _ _ v hw hd => (b3_ hw .here hd hl hn).mono fun _ _ ⟨h1, h2⟩ => ⟨_, _, by rw [h1, (cc_ v s).num], fg_ ((cc_ v s).fixed n) ▸ h2, by rw [← ((cc_ v s).fixed n).1]; simp⟩
theorem kZ_ {n : Int} (hl : s.l.length ≤ lots) : Spec Tryz.prog 48 [ptr p, int n] [rdA TR p s] (fun _ : Unit => [rdA TR p (s.count n)]) (fun _ => int (s.countN n : Nat)) :=
  Spec.ofRd (vals := [pv p, .int .i64 n]) fun _ _ _ _ v hw hd => (count_c hw .here hd hl).mono fun _ _ ⟨h1, h2⟩ => ⟨_, _, by rw [h1, (cc_ v s).countN], fg_ ((cc_ v s).count n) ▸ h2, by rw [← ((cc_ v s).count n).1]; simp⟩
theorem in_ {n : Int} (hl : s.l.length ≤ lots) : Spec Tryz.prog 64 [ptr p, int n] [rdA RR p s] (fun _ : Unit => [rdA RR p (s.count n)]) (fun _ => int (s.countN n : Nat)) :=
  Spec.ofRd (vals := [pv p, .int .i64 n]) fun _ _ _ _ v hw hd => (rcount_c hw .here hd hl).mono fun _ _ ⟨h1, h2⟩ => ⟨_, _, by rw [h1, (cc_ v s).countN], fg_ ((cc_ v s).count n) ▸ h2, by rw [← ((cc_ v s).count n).1]; simp⟩
theorem dW_ {n : Int} (hl : s.l.length ≤ lots) (hn : 0 ≤ n ∧ n ≤ 9223372036854775807) : Spec Tryz.prog 77 [ptr p, int n] [rdA TR p s] (fun _ : Unit => [rdA TR p (s.row n)]) (fun _ => byt (s.rowOut n)) :=
  Spec.ofRdB (vals := [pv p, .int .i64 n]) fun _ _ _ _ v hw hd => (row_c hw .here hd hl hn).mono fun _ _ ⟨r, h1, h2⟩ => ⟨r, _, _, h1, fg_ ((cc_ v s).row n) ▸ h2, by rw [← ((cc_ v s).row n).1]; simp, by rw [(cc_ v s).rowOut]; simp⟩
theorem bp_ {n : Int} (hl : s.l.length ≤ lots) (hn : 0 ≤ n ∧ n ≤ 9223372036854775807) : Spec Tryz.prog 65 [ptr p, int n] [rdA RR p s] (fun _ : Unit => [rdA RR p (s.row n)]) (fun _ => byt (s.rowOut n)) :=
  Spec.ofRdB (vals := [pv p, .int .i64 n]) fun _ _ _ _ v hw hd => (rrow_c hw .here hd hl hn).mono fun _ _ ⟨r, h1, h2⟩ => ⟨r, _, _, h1, fg_ ((cc_ v s).row n) ▸ h2, by rw [← ((cc_ v s).row n).1]; simp, by rw [(cc_ v s).rowOut]; simp⟩
theorem end_s : Spec Tryz.prog 50 [ptr p] [rdA TR p s] (fun _ : Unit => [rdA TR p s]) (fun _ => int s.end_) :=
  Spec.ofRd (vals := [pv p]) fun _ _ _ _ v hw hd => (end_c (s := ⟨v, s.l, s.e⟩) hw List.mem_cons_self hd).mono fun _ _ ⟨h1, h2⟩ => ⟨v, _, by rw [h1, (cc_ v s).end_], h2, hd⟩
theorem rend_s : Spec Tryz.prog 66 [ptr p] [rdA RR p s] (fun _ : Unit => [rdA RR p s]) (fun _ => int s.end_) :=
  Spec.ofRd (vals := [pv p]) fun _ _ _ _ v hw hd => (rend_c (s := ⟨v, s.l, s.e⟩) hw List.mem_cons_self hd).mono fun _ _ ⟨h1, h2⟩ => ⟨v, _, by rw [h1, (cc_ v s).end_], h2, hd⟩
theorem read_s (hl : l.length ≤ lots) : Spec Tryz.prog 46 [byt l] [] (fun p : Nat => [rdA TR p (Rd.of l)]) (fun p => ptr p) := fun G w vals hm hv => by
  obtain ⟨v, us', rfl, h1, h2⟩ := hv
  have h2 : us' = [] := h2
  subst h2
  refine (read_c ((enter2 w G).add (z := bytesD v l) (row2 (bw_.1 h1))) (by simp) hl).mono fun e w' ⟨p, z, he, hm2⟩ => ?_
  have hx := leave2 hm2 (by simp)
  have hb : w'.heap[p]? = some (row TR [z, .int .i64 0]) := hm2.holds (by simp)
  have hd := hm2.data (z := bytesD z l) (by simp)
  have hpn : w.heap.size ≤ p := by
    have h3 := hm2.out _ (List.mem_cons_self) p (by simp [Proofs.YtickdhjljpnlpaaGreatDoor.It.ids]) (w, G) (by simp)
    rcases h3 with h3 | h3
    · have h4 := hm2.nodup
      simp only [List.flatMap_cons, List.flatMap_nil, List.append_nil, List.nodup_append] at h4
      exact absurd rfl (h4.2.2 p (by simp [Proofs.YtickdhjljpnlpaaGreatDoor.It.ids]) p (bE_.2 ⟨hm.old p h3, h3⟩))
    · exact h3
  refine ⟨p, _, he, by simp [It.rids], ⟨hx, fun k hk => ?_, fun k hk hg => ?_, fun k hk => Nat.lt_of_lt_of_le (hm.old k hk) hx.size, by simp [It.rids], by simp [mids, It.mids], fun x hxm => ?_⟩, rfl⟩
  · simp [mids, It.mids] at hk; subst hk; exact .inr hpn
  · simp [mids, It.mids] at hk; subst hk; have := hm.old k hg; omega
  · rw [List.mem_singleton] at hxm; subst hxm
    refine ⟨_, hb, _, _, rfl, bw_.2 (hd.grow fun k hk => .inl ?_), _, _, rfl, rfl, rfl⟩
    simp only [List.flatMap_cons, List.flatMap_nil, List.append_nil, List.mem_append] at hk ⊢
    rcases hk with hk | hk
    · exact .inl (by simpa [mids, It.mids, Proofs.YtickdhjljpnlpaaGreatDoor.It.ids] using hk)
    · exact .inr (bE_.2 ⟨hm.old k hk, hk⟩)
end
section
variable {P : Program} {n : Nat} {W : Wd} {σ τ : Blks} {l : Slots} {X : List Nat} {x y z : Operand} {d : Option Nat} {ty t t' e : TypeId} {pos : String} {aft : Array Edge} {g : Option (Nat × Bool)} {v u : Value} {k k' : IntKind} {a b : Nat} {o : Oper} {A B : Abs} {tab : List (Nat × TI)} {ops : Array Oper} {rest : List Oper} {Q : Exit → Act → World → Prop} {ix : Plan} {xs ys : List (List Abs)} {s q : Nat} {cs : List Abs}
theorem d4_ {x : It} {σ τ : Blks} (h : Upd x x σ τ) : τ = σ := by
  induction h with
  | here => rfl
  | there _ ih => rw [ih]
theorem SC.known {c : Code} {p : Prop} {T : Act → World → Prop} (h : ∀ a w, T a w → p) (k : p → SC P c T Q) : SC P c T Q := fun a w ha => k (h a w ha) a w ha
theorem il_ {K : List Nat} {w : World} {z : Abs} : ∀ {ps : List Abs} {us : List Value} {o : Nat} {u : Value}, reps K w ps us → us[o]? = some u → rep K w z u → reps K w (putL ps o [z]) us
  | [], us, o, u, h, hu, _ => by have : us = [] := h; subst this; simp at hu
  | a :: ps, _, 0, u, ⟨x, us', h1, h2, h3⟩, hu, hz => by
    subst h1
    simp at hu
    subst hu
    exact ⟨x, us', rfl, hz, h3⟩
  | a :: ps, _, o + 1, u, ⟨x, us', h1, h2, h3⟩, hu, hz => by
    subst h1
    exact ⟨x, us', rfl, h2, il_ h3 (by simpa using hu) hz⟩
theorem St.freezeC {a : Act} {w : World} {pre post : Blks} {o : Nat} (h : St n W (pre ++ own e s v xs :: post) l a w) (hu : Upd (.blk b t cs) (.blk b t (putL cs o [.sl s xs])) (pre ++ post) τ) (hv : cs[o]? = some (.v v)) : St n W τ l a w := by
  have hsub : (pre ++ post).Sublist (pre ++ own e s v xs :: post) := List.Sublist.append (List.Sublist.refl _) (List.sublist_cons_self _ _)
  have h1 := kg_ h.mem
  have h2 := h.less hsub
  obtain ⟨us, hb, hr⟩ := h2.mem.hold _ hu.mem
  obtain ⟨u, h3, h4⟩ := ch_ hr hv
  have h4 : u = v := h4
  subst h4
  have hm := h2.mem.upd hu (Ext.refl w) (by simp [It.mids]) (by simp [It.mids]) rfl fun hc => ⟨us, hb, aO_ hc _ _ (il_ hr h3 h1)⟩
  exact h2.to hm.1 hm.2
theorem cX_ {c : Code} (pre : Blks) {post : Blks} (o : Nat) (hσ : σ = pre ++ own e s v xs :: post) (hu : Upd (.blk b t cs) (.blk b t (putL cs o [.sl s xs])) (pre ++ post) τ) (hv : cs[o]? = some (.v v)) (k : SC P c (St n W τ l) Q) : SC P c (St n W σ l) Q := by
  subst hσ; exact fun a w h => k a w (h.freezeC hu hv)
end
abbrev ints (xs : List Int) : Abs := .sl 1 (xs.map fun x => [int x])
theorem g1_ {s i : Nat} {cs : List Abs} (h : cs.length = s) : elems s [(i, .agg cs)] = some [cs] := by simp [elems, cellsA, h]
end Go.Proofs.YtickdhjljpnlpaaGreatDoor.A
namespace Go.Proofs.YtickdhjljpnlpaaGreatDoor
open Go.RowKit Go.ChangeShapes Go.WideShapes Go.ChangeAt
def leaves (P : Program) : Nat → TypeId → Option (List TypeId)
  | 0, _ => none
  | d + 1, t =>
    match P.underlying t with
    | some (.struct fs) => fs.toList.foldlM (fun acc f => (leaves P d f.type).bind fun l => if f.offset = acc.length ∧ l.length = P.cellsOf f.type then some (acc ++ l) else none) []
    | some (.array n e) => (leaves P d e).bind fun l => if l.length = P.cellsOf e then some (List.replicate n l).flatten else none
    | some _ => some [t]
    | none => none
section
variable {H : Type} {enc : TypeId × Value → H} {P : Program} {w : World} {base : Nat} {spare : Nat → Bool} {held : Bool}
def LeafAt (enc : TypeId × Value → H) (P : Program) (w : World) (base : Nat) (spare : Nat → Bool) (held : Bool) (u : TypeId) (v : Value) : Prop := ∃ n y, DataW.trod enc P w base spare held n u [v] = some y
theorem f3_ {d : Nat} {cs : List Value} {n : Nat}
    (ih : ∀ (t : TypeId) (ts : List TypeId) (fuel : Nat) (cs : List Value) (x : DataW H × List MemPlace), leaves P d t = some ts → ts.length = cs.length → DataW.trod enc P w base spare held fuel t cs = some x →
      ∀ (j : Nat) (v : Value) (u : TypeId), cs[j]? = some v → ts[j]? = some u → LeafAt enc P w base spare held u v) :
    ∀ (fs : List Field) (acc ts : List TypeId), (∀ f ∈ fs, ∃ y, DataW.trod enc P w base spare held n f.type ((cs.drop f.offset).take (P.cellsOf f.type)) = some y) →
      fs.foldlM (fun acc f => (leaves P d f.type).bind fun l => if f.offset = acc.length ∧ l.length = P.cellsOf f.type then some (acc ++ l) else none) acc = some ts →
      ts.length ≤ cs.length →
      (∀ (j : Nat) (v : Value) (u : TypeId), cs[j]? = some v → acc[j]? = some u → LeafAt enc P w base spare held u v) →
      (∀ (j : Nat) (v : Value) (u : TypeId), cs[j]? = some v → ts[j]? = some u → LeafAt enc P w base spare held u v) := by
  intro fs
  induction fs with
  | nil =>
    intro acc ts _ h _ ha
    simp at h
    subst h
    exact ha
  | cons f fs hfs =>
    intro acc ts hall h hlen ha
    simp only [List.foldlM_cons, Option.bind_eq_bind, Option.bind_eq_some_iff] at h
    obtain ⟨acc', ⟨l, hl, hif⟩, hrest⟩ := h
    split at hif
    · rename_i hc
      obtain ⟨ho, hlc⟩ := hc
      simp only [Option.some.injEq] at hif
      subst hif
      have hmono : ∀ (fs : List Field) (a b : List TypeId), fs.foldlM (fun acc f => (leaves P d f.type).bind fun l => if f.offset = acc.length ∧ l.length = P.cellsOf f.type then some (acc ++ l) else none) a = some b → a.length ≤ b.length := by
        intro fs
        induction fs with
        | nil => intro a b h; simp at h; subst h; exact Nat.le_refl _
        | cons f fs ih2 =>
          intro a b h
          simp only [List.foldlM_cons, Option.bind_eq_bind, Option.bind_eq_some_iff] at h
          obtain ⟨a', ⟨l, _, hif⟩, hr⟩ := h
          split at hif
          · simp only [Option.some.injEq] at hif
            subst hif
            have := ih2 _ _ hr
            simp at this
            omega
          · cases hif
      have hacc := hmono _ _ _ hrest
      refine hfs (acc ++ l) ts (fun g hg => hall g (List.mem_cons_of_mem _ hg)) hrest hlen ?_
      intro j v u hv hu
      rw [List.getElem?_append] at hu
      split at hu
      · exact ha j v u hv hu
      · rename_i hj
        obtain ⟨y, hy⟩ := hall f List.mem_cons_self
        rw [List.length_append] at hacc
        refine ih f.type l n _ y hl ?_ hy (j - acc.length) v u ?_ hu
        · rw [List.length_take, List.length_drop]; omega
        · have hjl : j - acc.length < l.length := (List.getElem?_eq_some_iff.1 hu).1
          rw [List.getElem?_take, if_pos (by omega), List.getElem?_drop, ho, show acc.length + (j - acc.length) = j by omega]
          exact hv
    · cases hif
theorem bQ_ : ∀ (d : Nat) (t : TypeId) (ts : List TypeId) (fuel : Nat) (cs : List Value) (x : DataW H × List MemPlace), leaves P d t = some ts → ts.length = cs.length → DataW.trod enc P w base spare held fuel t cs = some x →
    ∀ (j : Nat) (v : Value) (u : TypeId), cs[j]? = some v → ts[j]? = some u → LeafAt enc P w base spare held u v := by
  intro d
  induction d with
  | zero => intro t ts fuel cs x h; simp [leaves] at h
  | succ d ih =>
    intro t ts fuel cs x h hlen ht
    unfold leaves at h
    split at h
    · rename_i fs hu
      obtain ⟨xs, n, _, _, hcl, hxl, hf⟩ := DataW.trod_struct hu ht
      refine f3_ (n := n) ih fs.toList [] ts ?_ h (by omega) (by simp)
      intro f hfm
      obtain ⟨i, hi, he⟩ := List.getElem_of_mem hfm
      have h1 := hf i f (by rw [← Array.getElem?_toList, List.getElem?_eq_getElem hi, he])
      have : i < xs.length := by rw [hxl]; simpa using hi
      exact ⟨xs[i], by rw [h1, List.getElem?_eq_getElem this]⟩
    · rename_i m e hu
      obtain ⟨xs, n, _, _, hcl, hxl, hf⟩ := DataW.trod_array hu ht
      simp only [Option.bind_eq_some_iff] at h
      obtain ⟨l, hl, hif⟩ := h
      split at hif
      · rename_i hc
        simp only [Option.some.injEq] at hif
        subst hif
        intro j v u hv hu'
        have hjl : j < (List.replicate m l).flatten.length := (List.getElem?_eq_some_iff.1 hu').1
        have hfl : ∀ k, (List.replicate k l).flatten.length = k * l.length := by
          intro k; simp
        rw [hfl] at hjl
        have hl0 : 0 < l.length := by
          rcases Nat.eq_zero_or_pos l.length with h0 | h0
          · rw [h0] at hjl; simp at hjl
          · exact h0
        have hi : j / l.length < m := by rw [Nat.div_lt_iff_lt_mul hl0]; exact hjl
        have hmod := Nat.mod_lt j hl0
        have hjd := Nat.div_add_mod j l.length
        have hget : ∀ (k j : Nat), j < k * l.length → (List.replicate k l).flatten[j]? = l[j % l.length]? := by
          intro k
          induction k with
          | zero => intro j hj; simp at hj
          | succ k ihk =>
            intro j hj
            rw [List.replicate_succ, List.flatten_cons, List.getElem?_append]
            split
            · rename_i h1; rw [Nat.mod_eq_of_lt h1]
            · rename_i h1
              rw [ihk (j - l.length) (by rw [Nat.succ_mul] at hj; omega)]
              rw [← Nat.mod_eq_sub_mod (show l.length ≤ j by omega)]
        rw [hget m j hjl] at hu'
        have h1 := hf (j / l.length) hi
        have hxi : j / l.length < xs.length := by omega
        rw [List.getElem?_eq_getElem hxi] at h1
        have hsz : (j / l.length) * P.cellsOf e + P.cellsOf e ≤ cs.length := by
          rw [← hlen, hfl, ← hc]
          calc (j / l.length) * l.length + l.length = (j / l.length + 1) * l.length := by rw [Nat.succ_mul]
            _ ≤ m * l.length := Nat.mul_le_mul_right _ hi
        refine ih e l n _ _ hl ?_ h1 (j % l.length) v u ?_ hu'
        · rw [List.length_take, List.length_drop]; omega
        · rw [List.getElem?_take, if_pos (by omega), List.getElem?_drop, ← hc, ← hv]
          congr 1
          rw [Nat.mul_comm]; exact hjd
      · cases hif
    · rename_i hu1 hu2 hs
      simp only [Option.some.injEq] at h
      subst h
      intro j v u hv hu'
      have hc1 : cs.length = 1 := by simpa using hlen.symm
      match cs, hc1 with
      | [c], _ =>
        match j with
        | 0 =>
          simp at hv hu'
          subst hv; subst hu'
          exact ⟨fuel, x, ht⟩
        | j + 1 => simp at hv
    · cases h
theorem LeafAt.int {u : TypeId} {v : Value} {k : IntKind} (h : LeafAt enc P w base spare held u v) (hu : P.underlying u = some (.int k)) : ∃ n, v = .int k n ∧ (Lit.int k n).wf = true := by
  obtain ⟨n, y, hy⟩ := h
  obtain ⟨m, h1, _, h2⟩ := DataW.trod_int hu hy
  simp at h1
  exact ⟨m, h1, h2⟩
theorem LeafAt.string {u : TypeId} {v : Value} (h : LeafAt enc P w base spare held u v) (hu : P.underlying u = some .string) : ∃ s, v = .string s ∧ s.size ≤ maxLen := by
  obtain ⟨n, y, hy⟩ := h
  obtain ⟨m, h1, _, h2⟩ := DataW.trod_string hu hy
  simp at h1
  exact ⟨m, h1, h2⟩
theorem LeafAt.bool {u : TypeId} {v : Value} (h : LeafAt enc P w base spare held u v) (hu : P.underlying u = some .bool) : ∃ b, v = .bool b := by
  obtain ⟨n, y, hy⟩ := h
  obtain ⟨m, h1, _⟩ := DataW.trod_bool hu hy
  simp at h1
  exact ⟨m, h1⟩
theorem hN_ {α : Type} {sz : Nat} (h0 : 0 < sz) : ∀ (xs : List (List α)), (∀ x ∈ xs, x.length = sz) → ∀ j, xs.flatten[j]? = (xs[j / sz]?).bind fun x => x[j % sz]? := by
  intro xs
  induction xs with
  | nil => intro _ j; simp
  | cons x xs ih =>
    intro hx j
    have hxl := hx x List.mem_cons_self
    rw [List.flatten_cons, List.getElem?_append]
    split
    · rename_i h1
      rw [Nat.div_eq_of_lt (by omega), Nat.mod_eq_of_lt (by omega)]
      simp
    · rename_i h1
      rw [ih (fun y hy => hx y (List.mem_cons_of_mem _ hy)), hxl]
      have h2 : j / sz = (j - sz) / sz + 1 := by
        rw [Nat.div_eq_sub_div h0 (by omega)]
      rw [h2, List.getElem?_cons_succ, ← Nat.mod_eq_sub_mod (show sz ≤ j by omega)]
theorem e4_ {α : Type} {sz : Nat} : ∀ (xs : List (List α)), (∀ x ∈ xs, x.length = sz) → xs.flatten.length = xs.length * sz := by
  intro xs
  induction xs with
  | nil => intro _; simp
  | cons x xs ih =>
    intro hx
    rw [List.flatten_cons, List.length_append, ih (fun y hy => hx y (List.mem_cons_of_mem _ hy)), hx x List.mem_cons_self, List.length_cons, Nat.succ_mul, Nat.add_comm]
theorem add_eq (b off : Nat) (j : Nat) : (⟨b, off, none⟩ : Addr).add j = ⟨b, off + j, none⟩ := by
  unfold Addr.add
  split
  · rename_i h0; subst h0; rfl
  · rfl
theorem open_row {t e : TypeId} {fuel : Nat} {A : Option Addr} {n c : Nat} {x : DataW H × List MemPlace} (ht : P.underlying t = some (.slice e)) (h : DataW.trod enc P w base spare held fuel t [.slice A n c] = some x) :
    n ≤ c ∧ c ≤ maxLen ∧ ∃ xs : List (List Value), xs.length = n ∧ (∀ cs ∈ xs, cs.length = P.cellsOf e ∧ ∃ m y, DataW.trod enc P w base spare held m e cs = some y) ∧ (xs.flatten ≠ [] → ∃ b off : Nat, A = some ⟨b, off, none⟩ ∧ ∀ j u, xs.flatten[j]? = some u → w.cell? ⟨b, off + j, none⟩ = some u) := by
  rcases Deep.open_slice ht h with ⟨hcs, _⟩ | ⟨a, len, cap, m, n', D, Pl, hcs, _, hl, hm, hmm, _, hi⟩
  · simp at hcs
    obtain ⟨rfl, rfl, rfl⟩ := hcs
    exact ⟨Nat.le_refl _, Nat.zero_le _, [], rfl, by simp, by simp⟩
  · simp at hcs
    obtain ⟨rfl, rfl, rfl⟩ := hcs
    have hnm : n ≤ m := by rw [hmm]; split <;> omega
    refine ⟨hl, hm, (List.range n).map fun i => ((w.cells? base (a.add (i * P.cellsOf e)) (P.cellsOf e)).getD []), by simp, ?_, ?_⟩
    · intro cs hcs
      simp only [List.mem_map, List.mem_range] at hcs
      obtain ⟨i, hin, rfl⟩ := hcs
      obtain ⟨cs', h1, h2⟩ := hi i (by omega)
      rw [h1]
      exact ⟨(World.cells?_some h1).2.1, n', _, h2⟩
    · intro hne
      have hall : ∀ y ∈ (List.range n).map (fun i => ((w.cells? base (a.add (i * P.cellsOf e)) (P.cellsOf e)).getD [])), y.length = P.cellsOf e := by
        intro y hy
        simp only [List.mem_map, List.mem_range] at hy
        obtain ⟨i, hin, rfl⟩ := hy
        obtain ⟨cs', h1, _⟩ := hi i (by omega)
        rw [h1]
        exact (World.cells?_some h1).2.1
      have hlen0 := e4_ _ hall
      have hpos : 0 < n * P.cellsOf e := by
        rcases Nat.eq_zero_or_pos (n * P.cellsOf e) with h0 | h0
        · exfalso
          apply hne
          apply List.eq_nil_of_length_eq_zero
          rw [hlen0]
          simpa using h0
        · exact h0
      have hsz : 0 < P.cellsOf e := Nat.pos_of_mul_pos_left hpos
      have hn0 : 0 < n := Nat.pos_of_mul_pos_right hpos
      obtain ⟨b, off, spot⟩ := a
      have hs : spot = none := by
        obtain ⟨cs', h1, _⟩ := hi 0 (by omega)
        obtain ⟨_, hl1, hc1⟩ := World.cells?_some h1
        have h2 := hc1 0 hsz
        have h3 : ((⟨b, off, spot⟩ : Addr).add (0 * P.cellsOf e)).add 0 = ⟨b, off, spot⟩ := by simp [Addr.add]
        rw [h3, List.getElem?_eq_getElem (by omega)] at h2
        exact jR_ h2
      subst hs
      refine ⟨b, off, rfl, fun j u hu => ?_⟩
      rw [hN_ hsz _ hall] at hu
      simp only [Option.bind_eq_some_iff, List.getElem?_map, Option.map_eq_some_iff] at hu
      obtain ⟨y, ⟨i, hir, rfl⟩, hy⟩ := hu
      have hrl := List.getElem?_eq_some_iff.1 hir
      obtain ⟨hir1, hir2⟩ := hrl
      simp at hir1 hir2
      subst hir2
      obtain ⟨cs', h1, _⟩ := hi (j / P.cellsOf e) (by omega)
      rw [h1] at hy
      simp only [Option.getD_some] at hy
      obtain ⟨_, hl1, hc1⟩ := World.cells?_some h1
      have h2 := hc1 (j % P.cellsOf e) (Nat.mod_lt _ hsz)
      rw [add_eq, add_eq, hy] at h2
      have hjd := Nat.div_add_mod j (P.cellsOf e)
      rw [show off + j = off + j / P.cellsOf e * P.cellsOf e + j % P.cellsOf e by rw [Nat.mul_comm (j / P.cellsOf e)]; omega]
      exact h2
end
end Go.Proofs.YtickdhjljpnlpaaGreatDoor
namespace Go.Proofs.YtickdhjljpnlpaaGreatDoor
open Go.RowKit Go.ChangeShapes Go.WideShapes Go.ChangeAt
section
variable {H : Type} {enc : TypeId × Value → H} {w : World} {base : Nat} {spare : Nat → Bool} {held : Bool}
theorem kj_ (cs : List Value) (hl : cs.length = Tryz.prog.cellsOf 5) (h : ∃ m y, DataW.trod enc Tryz.prog w base spare held m 5 cs = some y) : ∃ c : UInt8, cs = [bc c] ∧ True := by
  obtain ⟨fuel, x, h⟩ := h
  rw [show Tryz.prog.cellsOf 5 = 1 by kernel_rfl] at hl
  have hlv : leaves Tryz.prog 4 5 = some [5] := by kernel_rfl
  have hh := bQ_ 4 _ _ _ _ _ hlv (by simpa using hl.symm) h
  match cs, hl with
  | [v0], _ =>
    obtain ⟨n, rfl, b⟩ := (hh 0 v0 _ rfl rfl).int Tryz.underlying5
    simp only [Lit.wf, Bool.and_eq_true, decide_eq_true_eq] at b
    have b0 : (0 : Int) ≤ n := b.1
    have b1 : n ≤ (255 : Int) := b.2
    refine ⟨UInt8.ofNat n.toNat, ?_, trivial⟩
    have : ((UInt8.ofNat n.toNat).toNat : Int) = n := by simp; omega
    simp [bc]
    omega
theorem kh_ {t e : TypeId} {fuel : Nat} {A : Option Addr} {n c : Nat} {x : DataW H × List MemPlace} (ht : Tryz.prog.underlying t = some (.slice e)) (h : DataW.trod enc Tryz.prog w base spare held fuel t [.slice A n c] = some x) : A = none → c = 0 := by
  intro hA
  rcases Deep.open_slice ht h with ⟨hcs, _⟩ | ⟨a, len, cap, m, n', D, Pl, hcs, _⟩
  · simp at hcs
    exact hcs.2.2
  · simp at hcs
    rw [hA] at hcs
    simp at hcs
end
end Go.Proofs.YtickdhjljpnlpaaGreatDoor
namespace Go.Proofs.YtickdhjljpnlpaaGreatDoor.A
open Go.RowKit Go.ChangeShapes Go.WideShapes Go.ChangeAt
section
variable {H : Type} {enc : TypeId × Value → H} {w : World} {base : Nat} {spare : Nat → Bool} {held : Bool}
theorem gH_ {α : Type} {abs : α → List Abs} {Ok : α → Prop} {s : Nat} : ∀ {ys : List (List Value)}, (∀ cs ∈ ys, cs.length = s ∧ ∃ a, reps [] w (abs a) cs ∧ Ok a) → ∃ xs : List α, repss [] w s (xs.map abs) ys.flatten ∧ xs.length = ys.length ∧ ∀ a ∈ xs, Ok a
  | [], _ => ⟨[], rfl, rfl, by simp⟩
  | cs :: ys, h => by
    obtain ⟨h1, a, h2, h3⟩ := h cs List.mem_cons_self
    obtain ⟨xs, h4, h5, h6⟩ := gH_ (ys := ys) fun c hc => h c (List.mem_cons_of_mem _ hc)
    exact ⟨a :: xs, ⟨cs, _, rfl, h1, h2, h4⟩, by simp [h5], by simpa using ⟨h3, h6⟩⟩
theorem dm_ {α : Type} {abs : α → List Abs} {Ok : α → Prop} {t e : TypeId} {s : Nat} {v : Value} (ht : Tryz.prog.underlying t = some (.slice e)) (hs : Tryz.prog.cellsOf e = s) (h : LeafAt enc Tryz.prog w base spare held t v)
    (hdec : ∀ cs, cs.length = Tryz.prog.cellsOf e → (∃ m y, DataW.trod enc Tryz.prog w base spare held m e cs = some y) → ∃ a, reps [] w (abs a) cs ∧ Ok a) :
    ∃ xs : List α, rep [] w (.sl s (xs.map abs)) v ∧ ∀ a ∈ xs, Ok a := by
  obtain ⟨fuel, x, h⟩ := h
  obtain ⟨A, n, c, rfl⟩ : ∃ A n c, v = .slice A n c := by
    rcases Deep.open_slice ht h with ⟨hcs, _⟩ | ⟨a, len, cap, m, n', D, Pl, hcs, _⟩
    · simp at hcs; exact ⟨_, _, _, hcs⟩
    · simp at hcs; exact ⟨_, _, _, hcs⟩
  obtain ⟨h1, h2, ys, h3, h4, h5⟩ := open_row ht h
  obtain ⟨xs, h6, h7, h8⟩ := gH_ (abs := abs) (Ok := Ok) (s := s) (w := w) (ys := ys) fun cs hc => ⟨by rw [← hs]; exact (h4 cs hc).1, hdec cs (h4 cs hc).1 (h4 cs hc).2⟩
  refine ⟨xs, ⟨ys.flatten, ⟨⟨A, c, ?_, ?_, h2, kh_ ht h⟩, fun hn => ?_⟩, h6⟩, h8⟩
  · rw [List.length_map, h7, h3]
  · rw [List.length_map, h7, h3]; exact h1
  · obtain ⟨b, off, rfl, hc⟩ := h5 hn
    exact ⟨b, off, _, _, rfl, by simp, hc⟩
end
theorem _root_.Go.Proofs.YtickdhjljpnlpaaGreatDoor.IsRow.bytesA {K : List Nat} {w : World} {v : Value} {m : List UInt8} (h : IsRow K w v m.length (m.map bc)) : BytesV w v m := by
  obtain ⟨A, c, rfl, h1, h2, h3⟩ := h.shape
  refine ⟨A, c, rfl, h1, h2, h3, fun hn => ?_⟩
  obtain ⟨b, off, n', c', hv, _, hc⟩ := h.cells hn
  simp at hv
  obtain ⟨rfl, _, _⟩ := hv
  exact ⟨b, off, rfl, hc⟩
theorem aq_ {n : Nat} {W : Wd} {σ : Blks} {l : Slots} {X : List Nat} {x : Operand} {d : Option Nat} {ty : TypeId} {pos : String} {aft : Array Edge} {gq : Option (Nat × Bool)} {m : List UInt8} (hx : look l x = some (byt m)) : Val Tryz.prog n W σ l X ⟨d, .convert 31 9 x, ty, pos, aft, gq⟩ (.v (.string ⟨m.toArray⟩)) := fun a w hs hX => ⟨_, rfl, fun w' hw' => by
  have h1 := bw_.1 (hs.eval hx)
  have h2 := (Carry.of_ext hw' (K := mids σ ++ W.G) (K' := mids σ ++ W.G) (fun k hk => .inl (List.mem_append_left _ (hX k hk))) (fun k hk => .inl hk)).row h1
  have := g7_ h2.bytesA
  simp [execOp, this, Result.andThen]⟩
def isOwn (σ : Blks) (e : TypeId) (s : Nat) (v : Value) (xs : List (List Abs)) : Prop := own e s v xs ∈ σ ∨ It.rdpc (ownPc e s v xs) ∈ σ
def eptr : Value → Nat → Value
  | .slice (some ⟨b, off, _⟩) _ _, o => .pointer (some ⟨b, off + o, none⟩)
  | v, _ => v
section
variable {P : Program} {n : Nat} {W : Wd} {σ τ : Blks} {l : Slots} {X : List Nat} {x y z : Operand} {d : Option Nat} {ty t e e' : TypeId} {pos : String} {aft : Array Edge} {g : Option (Nat × Bool)} {v : Value} {k : IntKind} {A : Abs} {tab : List (Nat × TI)} {xs : List (List Abs)} {s q : Nat} {cs : List Abs}
theorem Mem.ownR {w0 w : World} {F G : List Nat} (h : Mem w0 F G σ w) (hb : isOwn σ e s v xs) : ∃ us, IsRow [] w v xs.length us ∧ repss (mids σ ++ G) w s xs us := by
  have hp : (ownPc e s v xs).p (mids σ ++ G) w := by
    rcases hb with hb | hb
    · exact h.hold _ hb
    · exact h.hold _ hb
  obtain ⟨us, h1, h2⟩ := hp
  exact ⟨us, ownsRow.isRow h1 (by simp), h2⟩
theorem bS_ {m : Nat} (hx : look l x = some (.v v)) (hb : isOwn σ e' s v xs) (ht : P.underlying t = some (.slice e)) (hm : xs.length = m) : Val P n W σ l X ⟨d, .call { callee := .builtin .len, args := #[x], argTypes := #[t] }, ty, pos, aft, g⟩ (.v (.int .i64 m)) := a3_ fun a w hs _ => by
  subst hm
  obtain ⟨us, h1, _⟩ := hs.mem.ownR hb
  obtain ⟨A', c, h2, _⟩ := h1.shape
  exact ⟨_, rfl, fun w' _ => Proofs.YtickdhjljpnlpaaGreatDoor.B_ (by rw [hs.at2 hx, hs.plain hx, h2]) ht⟩
theorem iq_ {w : World} {us : List Value} (hr : IsRow [] w v xs.length us) (hp : repss (mids σ ++ W.G) w s xs us) (hpos : 0 < s) (hq : xs[q]? = some cs) : ∃ b off c, v = .slice (some ⟨b, off, none⟩) xs.length c ∧ b < w.heap.size ∧ ∃ vs : List Value, vs.length = s ∧ reps (mids σ ++ W.G) w cs vs ∧ ∀ j u, vs[j]? = some u → w.cell? ⟨b, off + q * s + j, none⟩ = some u := by
  obtain ⟨vs, h3, h4, h5⟩ := ez_ hp hq
  have hlt : q < xs.length := (List.getElem?_eq_some_iff.1 hq).1
  have hlen := aY_ hp
  have hne : us ≠ [] := by
    rintro rfl
    have : xs.length * s = 0 := by simpa using hlen.symm
    rcases Nat.mul_eq_zero.1 this with h | h <;> omega
  obtain ⟨A', c, hsh, h6, h7, h8⟩ := hr.shape
  obtain ⟨b, off, n', c', hv, hb, hc⟩ := hr.cells hne
  have hv2 := hv
  rw [hsh] at hv2
  simp at hv2
  obtain ⟨rfl, rfl, rfl⟩ := hv2
  have hcell : ∀ j u, vs[j]? = some u → w.cell? ⟨b, off + q * s + j, none⟩ = some u := fun j u hu => by rw [Nat.add_assoc]; exact hc _ u (h5 j u hu)
  have hbl : b < w.heap.size := by
    cases vs with
    | nil => simp at h3; omega
    | cons u vs => exact block_lt_of_cell (hcell 0 u rfl)
  exact ⟨b, off, _, hsh, hbl, vs, h3, h4, hcell⟩
theorem bh_ (hT : TabOk P tab) {j : TI} (hu : P.underlying t = some (.slice e)) (hj : ti tab e = some j) (hx : look l x = some (.v v)) (hb : isOwn σ e' s v xs) {r : Int} (hy : look l y = some (.v (.int k r))) (hr : r = (q : Nat)) (hq : q < xs.length) (hsz : Nat.beq s j.size = true) (hpos : Nat.blt 0 s = true) :
    Val P n W σ l X ⟨d, .indexAddr t x y, ty, pos, aft, g⟩ (.v (eptr v (q * s))) := a3_ fun a w hs hX => by
  subst hr
  have hsz := Nat.eq_of_beq_eq_true hsz
  have hpos : 0 < s := by simpa [Nat.blt_eq] using hpos
  obtain ⟨us, h1, h2⟩ := hs.mem.ownR hb
  obtain ⟨b, off, c, hv, _⟩ := iq_ h1 h2 hpos (List.getElem?_eq_getElem hq)
  refine ⟨_, rfl, fun w' _ => ?_⟩
  rw [hv]
  show Proofs.YtickdhjljpnlpaaGreatDoor.Val _ _ _ _ _ (.pointer (some ⟨b, off + q * s, none⟩))
  rw [hsz]
  exact Proofs.YtickdhjljpnlpaaGreatDoor.a7_ hT hu hj (by rw [hs.at2 hx, hs.plain hx, hv]) (by rw [hs.at2 hy, hs.plain hy]) hq
theorem dZ_ (hT : TabOk P tab) {i : TI} (ht : ti tab t = some i) (hk : (match i.k with | .one => false | _ => true) = true) (hx : look l x = some (.v (eptr v (q * s)))) (hb : isOwn σ e' s v xs) (hpos : Nat.blt 0 s = true) (hq : xs[q]? = some cs) (hs0 : Nat.beq s i.size = true) : Val P n W σ l [] ⟨d, .load t x, ty, pos, aft, g⟩ (.agg cs) := a3_ fun a w hs hX => by
  have hpos : 0 < s := by simpa [Nat.blt_eq] using hpos
  have hs0 := Nat.eq_of_beq_eq_true hs0
  obtain ⟨us, h1, h2⟩ := hs.mem.ownR hb
  obtain ⟨b, off, c, hvv, hbl, vs, h3, h4, h5⟩ := iq_ h1 h2 hpos hq
  exact ⟨_, ⟨vs, rfl, h4⟩, fun w' hw' => Proofs.YtickdhjljpnlpaaGreatDoor.dQ_ (b := b) (o := off + q * s) hT ht hk (by rw [hs.at2 hx, hs.plain hx, hvv]; rfl) (by omega) fun w1 e j u hu => by subst e; exact cU_ hw' (by simp) (h5 j u hu)⟩
theorem e3_ {ι : Type} {σ1 : Blks} {τ' : ι → Blks} {K : Blks → ι → Prop} (α : Blks) {β : Blks} (hσ : σ = α ++ (σ1 ++ β)) (hr : ∀ x ∈ σ1, x.rids = []) (k : ∀ z, K (α ++ (τ' z ++ β)) z) : After σ σ1 τ' K := by
  subst hσ
  refine ⟨α ++ β, ⟨?_, fun x hx => .inl ⟨by simp [hx], hr x hx⟩, fun x hx => ?_⟩, fun z => ⟨_, ?_, k z⟩⟩
  · simp only [ak_]
    exact List.perm_append_comm_assoc _ _ _
  · rcases List.mem_append.1 hx with h | h <;> simp [h]
  · exact List.perm_append_comm_assoc _ _ _
end
theorem a1_ {P : Program} {n : Nat} {W : Wd} {σ : Blks} {l : Slots} {Q : Exit → Act → World → Prop} {x y : Code} {ι : Type} (H : ι → Blks) (L : ι → Slots) (Φ : ι → Prop) (h : SC P x (St n W σ l) (Exit.then (fun a w => ∃ z, Head n W H L Φ z a w) Q)) (k : ∀ z, Φ z → SC P y (St n W (H z) (L z)) Q) : SC P (.seq x y) (St n W σ l) Q := i8_ H L Φ h k
theorem iY_ {P : Program} {n : Nat} {W : Wd} {σ : Blks} {l : Slots} {X : List Nat} {x y : Operand} {d : Option Nat} {ty t t' : TypeId} {pos : String} {aft : Array Edge} {gq : Option (Nat × Bool)} {k : IntKind} {a b : Int} (hx : look l x = some (.v (.int k a))) (hy : look l y = some (.v (.int k b))) :
    Val P n W σ l X ⟨d, .call { callee := .builtin .max, args := #[x, y], argTypes := #[t, t'] }, ty, pos, aft, gq⟩ (.v (.int k (max a b))) := fun ac w hs _ => ⟨_, rfl, fun w' _ => by
  have hm : (if a < b then b else a) = max a b := by omega
  simp [execOp, resolve, invoke, builtin, Builtin.max_, Builtin.max2, hs.plain hx, hs.plain hy, List.foldlM, hm]⟩
end Go.Proofs.YtickdhjljpnlpaaGreatDoor.A
namespace Go.Proofs.YtickdhjljpnlpaaGreatDoor
open Go.RowKit
/-! ### Regions that draw, whose last operation comes behind all others -/
section
variable {P : Program} {ops : Array Oper}
def anyZ (P : Program) (ops : Array Oper) (D : World → Prop) (z : Nat) (Q : Act → World → Prop) : Nat → Array Bool → Act → World → Prop
  | 0, listed, a, w => Region.ready .any ops listed = [] ∧ Q a w
  | fuel + 1, listed, a, w => (Region.ready .any ops listed = [] → Q a w) ∧
      ∀ i ∈ Region.ready .any ops listed, wpOp P ops NoExit i (fun a' w' => (i = z ∨ D w') ∧ anyZ P ops D z Q fuel (listed.setIfInBounds i true) a' w') a w
theorem anyZ.wpAny {D : World → Prop} {z : Nat} {Q : Exit → Act → World → Prop} : ∀ (fuel : Nat) (listed : Array Bool) (a : Act) (w : World),
    anyZ P ops D z (Q .normal) fuel listed a w → wpAny P .any ops Q fuel listed a w
  | 0, _, _, _, h => h
  | fuel + 1, _, _, _, h => ⟨h.1, fun i hi => bX_ (wpOp_mono (fun a' w' h3 => anyZ.wpAny fuel _ a' w' h3.2) (h.2 i hi))⟩
theorem anyZ.mono {D D' : World → Prop} {z : Nat} {Q : Act → World → Prop} (hD : ∀ w, D' w → D w) : ∀ (fuel : Nat) (listed : Array Bool) (a : Act) (w : World),
    anyZ P ops D' z Q fuel listed a w → anyZ P ops D z Q fuel listed a w
  | 0, _, _, _, h => h
  | fuel + 1, _, _, _, h => ⟨h.1, fun i hi => wpOp_mono (fun a' w' h3 => ⟨h3.1.imp_right (hD _), anyZ.mono hD fuel _ a' w' h3.2⟩) (h.2 i hi)⟩
def Down (ops : Array Oper) (L : Array Bool) : Prop := ∀ (k : Nat) (o : Oper), ops[k]? = some o → L.getD k false = true → ∀ e ∈ o.after, Region.binds .any e = true → L.getD e.on false = true
theorem Down.set {L : Array Bool} (h : Down ops L) {j : Nat} (hj : j ∈ Region.ready .any ops L) : Down ops (L.setIfInBounds j true) := by
  intro k o hk hl e he hb
  refine getD_set_true ?_
  by_cases hkj : k = j
  · subst hkj
    obtain ⟨_, o', ho', hall⟩ := mem_ready.1 hj
    rw [ho'] at hk
    cases hk
    exact hall e he hb
  · have : (L.setIfInBounds j true).getD k false = L.getD k false := getD_set_ne false (Ne.symm hkj)
    exact h k o hk (this ▸ hl) e he hb
def domOk (ops : Array Oper) : Bool := (List.range (ops.size - 1)).all fun i => (List.range ops.size).any fun j => Nat.blt i j && ((ops[j]?).map fun o => o.after.any fun e => Region.binds .any e && e.on == i).getD false
theorem dom_next (hd : domOk ops = true) {i : Nat} (hi : i + 1 < ops.size) : ∃ j o, i < j ∧ j < ops.size ∧ ops[j]? = some o ∧ ∃ e ∈ o.after, Region.binds .any e = true ∧ e.on = i := by
  unfold domOk at hd
  rw [List.all_eq_true] at hd
  have h1 := hd i (by rw [List.mem_range]; omega)
  rw [List.any_eq_true] at h1
  obtain ⟨j, hj, h2⟩ := h1
  rw [List.mem_range] at hj
  simp only [Bool.and_eq_true, Nat.blt_eq] at h2
  obtain ⟨h2, h3⟩ := h2
  cases ho : ops[j]? with
  | none => rw [ho] at h3; cases h3
  | some o =>
    rw [ho] at h3
    simp only [Option.map_some, Option.getD_some, Array.any_eq_true, Bool.and_eq_true, beq_iff_eq] at h3
    obtain ⟨m, hm, hb, hon⟩ := h3
    exact ⟨j, o, h2, hj, ho, _, Array.getElem_mem hm, hb, hon⟩
theorem dom_all (hd : domOk ops = true) {L : Array Bool} (hL : Down ops L) (hz : ops.size - 1 ∈ Region.ready .any ops L) : ∀ m i, ops.size - 1 - i = m → i + 1 < ops.size → L.getD i false = true := by
  intro m
  induction m using Nat.strongRecOn with
  | _ m ih =>
    intro i hm hi
    obtain ⟨j, o, hij, hj, ho, e, he, hb, hon⟩ := dom_next hd hi
    subst hon
    by_cases hjz : j = ops.size - 1
    · subst hjz
      obtain ⟨_, o', ho', hall⟩ := mem_ready.1 hz
      rw [ho'] at ho
      cases ho
      exact hall e he hb
    · exact hL j o ho (ih _ (by omega) j rfl (by omega)) e he hb
theorem eP_ {L : Array Bool} {i : Nat} (h : L.getD i true = false) : L.getD i false = false := by
  rw [Array.getD_eq_getD_getElem?] at h ⊢
  cases hq : L[i]? with
  | none => rfl
  | some b => rw [hq] at h; exact h
theorem jA_ {D : World → Prop} {Q : Act → World → Prop} {i : Nat} {oi : Oper} {v : Value} (hd : domOk ops = true) (hiz : i + 1 < ops.size) (hi : ops[i]? = some oi) (hsel : ∀ (j : Nat) (o : Oper) cs b, ops[j]? = some o → o.op ≠ .select cs b) :
    ∀ (fuel : Nat) (listed : Array Bool) (a : Act) (w : World), D w → Down ops listed →
      (∀ j oj, ops[j]? = some oj → j ≠ i → listed.getD j true = false → (∀ e ∈ oj.after, Region.binds .any e = true → e.on ≠ i) → oi.apart ops oj = true) →
      i ∈ Region.ready .any ops listed → YieldsD P ops D oi v a →
      anyZ P ops D (ops.size - 1) Q fuel (listed.setIfInBounds i true) (a.put oi.dst v) w → anyZ P ops D (ops.size - 1) Q (fuel + 1) listed a w := by
  intro fuel
  induction fuel with
  | zero =>
    intro listed a w hDw _ _ hr hy H
    refine ⟨fun h => (by rw [h] at hr; cases hr), fun j hj => ?_⟩
    by_cases hji : j = i
    · subst hji; exact hy.wpOp hi hDw ⟨.inr hDw, H⟩
    · have := ready_mono hj hji
      rw [H.1] at this
      cases this
  | succ fuel ih =>
    intro listed a w hDw hdn hfree hr hy H
    refine ⟨fun h => (by rw [h] at hr; cases hr), fun j hj => ?_⟩
    by_cases hji : j = i
    · subst hji; exact hy.wpOp hi hDw ⟨.inr hDw, H⟩
    · have hjz : j ≠ ops.size - 1 := fun h => by
        subst h
        have h1 := dom_all hd hdn hj _ i rfl hiz
        have h0 := eP_ (mem_ready.1 hr).1
        rw [h1] at h0
        cases h0
      have h1 := H.2 j (ready_mono hj hji)
      obtain ⟨hjun, oj, hoj, hall⟩ := mem_ready.1 hj
      have hnot : ∀ e ∈ oj.after, Region.binds .any e = true → e.on ≠ i := fun e he hb heq => by
        have h1 := hall e he hb
        have h0 := (mem_ready.1 hr).1
        rw [heq] at h1
        rw [eP_ h0] at h1
        cases h1
      have h2 := eh_ hoj (hfree j oj hoj hji hjun hnot) (fun cs b => hsel i oi cs b hi) (fun cs b => hsel j oj cs b hoj) hy h1
      have hfree' : ∀ k ok, ops[k]? = some ok → k ≠ i → (listed.setIfInBounds j true).getD k true = false →
          (∀ e ∈ ok.after, Region.binds .any e = true → e.on ≠ i) → oi.apart ops ok = true := fun k ok hk hki hun hno => by
        refine hfree k ok hk hki ?_ hno
        by_cases hjk : j = k
        · subst hjk; exact hjun
        · rw [getD_set_ne true hjk] at hun; exact hun
      refine wpOp_mono (fun a' w' h3 => ?_) h2
      have hDw' : D w' := h3.2.1.resolve_left hjz
      refine ⟨.inr hDw', ih (listed.setIfInBounds j true) a' w' hDw' (hdn.set hj) hfree' (ready_mono hr (Ne.symm hji)) h3.1 ?_⟩
      rw [Array.setIfInBounds_comm _ _ hji]
      exact h3.2.2
def planOkZ (ops : Array Oper) : Nat → Array Bool → Plan → Bool
  | _ + 1, listed, .nil => (Region.ready .any ops listed == [ops.size - 1]) && (Region.ready .any ops (listed.setIfInBounds (ops.size - 1) true)).isEmpty
  | n + 1, listed, .q i k => Nat.blt (i + 1) ops.size && Region.free .any ops listed i && (Region.ready .any ops listed).contains i && planOkZ ops n (listed.setIfInBounds i true) k
  | n + 1, listed, .e i k => (Region.ready .any ops listed == [i]) && planOkZ ops n (listed.setIfInBounds i true) k
  | n + 1, listed, .two i j k h => (Region.ready .any ops listed == [i, j]) && planOkZ ops n (listed.setIfInBounds i true) k && planOkZ ops n (listed.setIfInBounds j true) h
  | 0, _, _ => false
theorem planW.anyZ {Q : Act → World → Prop} (hs : Region.noSelect ops = true) (hd : domOk ops = true) : ∀ (n : Nat) (ix : Plan) (D : World → Prop) (listed : Array Bool) (a : Act) (w : World), planOkZ ops n listed ix = true → D w → Down ops listed →
    planW P ops (fun a w => wpOp P ops NoExit (ops.size - 1) Q a w) ix D a w → Proofs.YtickdhjljpnlpaaGreatDoor.anyZ P ops D (ops.size - 1) Q n listed a w
  | 0, .nil, _, _, _, _, hok, _, _, _ => by cases hok
  | n + 1, .nil, D, listed, a, w, hok, hD, hdn, h => by
    simp only [planOkZ, Bool.and_eq_true, beq_iff_eq, List.isEmpty_iff] at hok
    refine ⟨fun h0 => (by rw [hok.1] at h0; cases h0), fun j hj => ?_⟩
    rw [hok.1] at hj
    simp only [List.mem_singleton] at hj
    subst hj
    refine wpOp_mono (fun a' w' hq => ⟨.inl rfl, ?_⟩) h
    cases n with
    | zero => exact ⟨hok.2, hq⟩
    | succ n => exact ⟨fun _ => hq, fun i hi => by rw [hok.2] at hi; cases hi⟩
  | n + 1, .q i ix, D, listed, a, w, hok, hD, hdn, ⟨o, v, hi, hy, h⟩ => by
    simp only [planOkZ, Bool.and_eq_true, Nat.blt_eq] at hok
    have hrd : i ∈ Region.ready .any ops listed := by simpa using hok.1.2
    exact jA_ hd hok.1.1.1 hi (Region.noSelect_spec hs) n listed a w hD hdn (Region.free_spec hi hok.1.1.2) hrd hy (planW.anyZ hs hd n ix D _ _ _ hok.2 hD (hdn.set hrd) h)
  | n + 1, .e i ix, D, listed, a, w, hok, hD, hdn, h => by
    simp only [planOkZ, Bool.and_eq_true, beq_iff_eq] at hok
    refine ⟨fun h0 => (by rw [hok.1] at h0; cases h0), fun j hj => ?_⟩
    have hj0 := hj
    rw [hok.1] at hj
    simp only [List.mem_singleton] at hj
    subst hj
    exact wpOp_mono (fun a' w' ⟨D', hD', hw', h'⟩ => ⟨.inr (hD' _ hw'), anyZ.mono hD' _ _ _ _ (planW.anyZ hs hd n ix D' _ a' w' hok.2 hw' (hdn.set hj0) h')⟩) h
  | n + 1, .two i j k m, D, listed, a, w, hok, hD, hdn, h => by
    simp only [planOkZ, Bool.and_eq_true, beq_iff_eq] at hok
    refine ⟨fun h0 => (by rw [hok.1.1] at h0; cases h0), fun r hr => ?_⟩
    have hr0 := hr
    rw [hok.1.1] at hr
    simp only [List.mem_cons, List.not_mem_nil, or_false] at hr
    rcases hr with rfl | rfl
    · exact wpOp_mono (fun a' w' ⟨D', hD', hw', h'⟩ => ⟨.inr (hD' _ hw'), anyZ.mono hD' _ _ _ _ (planW.anyZ hs hd n k D' _ a' w' hok.1.2 hw' (hdn.set hr0) h')⟩) h.1
    · exact wpOp_mono (fun a' w' ⟨D', hD', hw', h'⟩ => ⟨.inr (hD' _ hw'), anyZ.mono hD' _ _ _ _ (planW.anyZ hs hd n m D' _ a' w' hok.2 hw' (hdn.set hr0) h')⟩) h.2
theorem g2_ (n : Nat) : Down ops (Array.replicate n false) := by
  intro k o _ h
  rw [Array.getD_eq_getD_getElem?, Array.getElem?_replicate] at h
  split at h <;> cases h
theorem ef_ {id : Nat} {a : Act} {w : World} {Q : Exit → Act → World → Prop} (D : World → Prop) (ix : Plan) (hm : P.follows .mixedOrders = true)
    (hok : (Region.noSelect ops && domOk ops && planOkZ ops ops.size (Array.replicate ops.size false) ix) = true) (hD : D w.drew)
    (h : planW P ops (fun a w => wpOp P ops NoExit (ops.size - 1) (Q .normal) a w) ix D a w.drew) : (Code.region id ops true).wp P Q a w := by
  simp only [Bool.and_eq_true] at hok
  refine wp_region_any hm ?_
  exact anyZ.wpAny _ _ _ _ (planW.anyZ hok.1.1 hok.1.2 _ ix D _ a _ hok.2 hD (g2_ _) h)
end
end Go.Proofs.YtickdhjljpnlpaaGreatDoor
namespace Go.Proofs.YtickdhjljpnlpaaGreatDoor.A
open Go.RowKit
section
variable {P : Program} {n : Nat} {W : Wd} {σ : Blks} {l : Slots} {o : Oper} {ops : Array Oper} {Q : Exit → Act → World → Prop}
def LastOp (P : Program) (ops : Array Oper) (Q : Exit → Act → World → Prop) : Exit → Act → World → Prop := fun _ a w => wpOp P ops NoExit (ops.size - 1) (Q .normal) a w
theorem SC.drawZ {id : Nat} (X : List Nat) (ix : Plan) (hm : P.follows .mixedOrders = true)
    (hok : (Region.noSelect ops && domOk ops && planOkZ ops ops.size (Array.replicate ops.size false) ix) = true) (h : SX P ops ix X (St n W σ l) (LastOp P ops Q)) : SC P (.region id ops true) (St n W σ l) Q := fun a w hs =>
  ef_ (fun w' => Ext X w.drew w') ix hm hok (Ext.refl _) (h a _ hs.drew)
theorem h7_ {Y : List Nat} {R : Abs → Blks → Prop} (hi : ops[ops.size - 1]? = some o) (hv : Eff P n W σ l Y o R) (hg : gd ops l o = some true) (hd : lt? o.dst n = true)
    (k : ∀ y τ, R y τ → SE .normal (St n W τ (put? l o.dst y)) Q) : SE .normal (St n W σ l) (LastOp P ops Q) := fun a w hs => by
  unfold LastOp wpOp
  simp only [hi, hs.wanted hg, if_true]
  refine .inl ?_
  unfold Oper.wp
  obtain ⟨v, w', y, τ, hR, hx, hr, hm, hc, hrun | ⟨rfl, hrun⟩⟩ := hv a w hs
  · rw [hrun]; exact k _ _ hR _ _ ((hs.to hm hc).put hd hr)
  · rw [hrun]; exact k _ _ hR _ _ ((hs.to hm hc).put hd hr)
end
abbrev Wo := BitVec 32
def u32 (p : Wo) : Abs := .v (.int .u32 (p.toNat : Nat))
theorem t_ {L ys : List Abs} (h : ys.length = L.length) : putL L 0 ys = ys := by
  rw [hA_ _ _ _ (Nat.zero_le _), Nat.zero_add, h]
  simp
section
variable {P : Program} {n : Nat} {W : Wd} {σ τ : Blks} {l : Slots} {X : List Nat} {x y z : Operand} {d : Option Nat} {ty t t' e : TypeId} {pos : String} {aft : Array Edge} {g : Option (Nat × Bool)} {k k' : IntKind} {b : Nat} {A B : Abs} {tab : List (Nat × TI)} {ops : Array Oper} {rest : List Oper} {Q : Exit → Act → World → Prop} {p q : Wo}
theorem wrap32 (p : Wo) : IntKind.u32.wrap (p.toNat : Nat) = (p.toNat : Nat) := by
  have := p.isLt
  simp [IntKind.wrap, IntKind.bits, IntKind.signed]
  omega
theorem ofInt32 (p : Wo) : BitVec.ofInt IntKind.u32.bits ((p.toNat : Nat) : Int) = p := by
  show BitVec.ofInt 32 ((p.toNat : Nat) : Int) = p
  rw [BitVec.ofInt_natCast, BitVec.ofNat_toNat, BitVec.setWidth_eq]
theorem Val.andW (hx : look l x = some (u32 p)) (hy : look l y = some (u32 q)) : Val P n W σ l X ⟨d, .binOp .and t x y t', ty, pos, aft, g⟩ (u32 (p &&& q)) :=
  ee_ hx hy (fun w => by
    simp only [Op.intBits, ofInt32]
    exact congrArg (fun r => Result.ok (Value.int .u32 r) w) (wrap32 (p &&& q))) rfl
theorem Val.shrB {m : Nat} {r : Int} (hx : look l x = some (u32 p)) (hy : look l y = some (.v (.int k' r))) (hr : r = (m : Nat)) : Val P n W σ l X ⟨d, .binOp .shr t x y t', ty, pos, aft, g⟩ (u32 (p >>> m)) :=
  l_ (ed_ hx hy (by omega)) (congrArg (fun r => Abs.v (.int .u32 r)) (by
    subst hr
    have hp := p.isLt
    simp only [IntKind.bits, Int.toNat_natCast, BitVec.toNat_ushiftRight, Nat.shiftRight_eq_div_pow]
    rw [Int.fdiv_eq_ediv_of_nonneg _ (by exact Int.le_of_lt (Int.pow_pos (by decide)))]
    rcases Nat.le_total m 32 with h | h
    · rw [Nat.min_eq_left h]; simp
    · rw [Nat.min_eq_right h, Nat.div_eq_of_lt (Nat.lt_of_lt_of_le hp (Nat.pow_le_pow_right (by decide) h))]
      omega))
theorem aM_ {ix : Plan} (hT : TabOk P tab) {i : TI} {j : Nat} (ht : ti tab t = some i) (hi : ops[j]? = some ⟨d, .alloc t, ty, pos, aft, g⟩) (hg : gd ops l ⟨d, .alloc t, ty, pos, aft, g⟩ = some true) (hd : lt? d n = true)
    (k : ∀ b, SX P ops ix (b :: X) (St n W (.blk b t (zabs i.zero) :: σ) (put? l d (.v (.pointer (some ⟨b, 0, none⟩))))) Q) : SX P ops (.e j ix) X (St n W σ l) Q := fun a w hs => by
  unfold planW wpOp
  simp only [hi, hs.wanted hg, if_true]
  refine .inl ?_
  unfold Oper.wp
  obtain ⟨zv, hz, hc⟩ := (hT t _ ht).zeroValue (w := w)
  obtain ⟨h1, h2⟩ := hs.mem.alloc t (cu_ i.zero)
  have hrun : (execOp a.eval ⟨d, .alloc t, ty, pos, aft, g⟩).run P w = .ok (.value (.pointer (some ⟨w.heap.size, 0, none⟩))) (w.alloc (row t i.zero)) := by
    simp [execOp, Instr.alloc, Sem.run_bind, hz, Result.andThen, newVar, newRow, newObj, Sem.run, hc, row]
  rw [hrun]
  refine ⟨fun w2 => Ext (w.heap.size :: X) (w.alloc (row t i.zero)) w2, fun w2 h3 => ((Ext.refl w).alloc _).trans (h3 : Ext (w.heap.size :: X) _ w2) fun x hx => ?_, Ext.refl _, k _ _ _ ((hs.to h1 h2).put hd (show rep _ _ (.v (.pointer (some ⟨w.heap.size, 0, none⟩))) _ from rfl))⟩
  rcases List.mem_cons.1 hx with rfl | hx
  · exact .inr (Nat.le_refl _)
  · exact .inl hx
theorem After.two {ι : Type} {x1 x2 : It} {β : Blks} {τ' : ι → Blks} {y1 y2 : ι → It} {K : Blks → ι → Prop} (hr : x1.rids = [] ∧ x2.rids = []) (hτ : ∀ z, τ' z = [y1 z, y2 z]) (k : ∀ z, K (y1 z :: y2 z :: β) z) : After (x1 :: x2 :: β) [x1, x2] τ' K :=
  e3_ [] (β := β) rfl (by intro x hx; simp only [List.mem_cons, List.not_mem_nil, or_false] at hx; rcases hx with rfl | rfl; exact hr.1; exact hr.2) fun z => by rw [hτ z]; exact k z
theorem bk_ {c : Code} {s i : Nat} {xs : List (List Abs)} (hs : slot l i = some (.sl s xs)) (k : xs.length ≤ maxLen → SC P c (St n W σ l) Q) : SC P c (St n W σ l) Q := fun a w h => by
  have h1 : rep (mids σ ++ W.G) w (.sl s xs) (a.eval (.tmp i)) := h.eval (x := .tmp i) hs
  obtain ⟨us, h2, _⟩ := h1
  obtain ⟨_, _, _, h3, h4, _⟩ := h2.shape
  exact k (Nat.le_trans h3 h4) a w h
theorem SE.perm {ex : Exit} (h : τ.Perm σ) (k : SE ex (St n W τ l) Q) : SE ex (St n W σ l) Q := fun a w hs => k a w (hs.perm h)
theorem SE.swap {ex : Exit} {x y : It} (k : SE ex (St n W (y :: x :: σ) l) Q) : SE ex (St n W (x :: y :: σ) l) Q := SE.perm (List.Perm.swap x y σ) k
end
section
variable {P : Program} {n : Nat} {W : Wd} {σ : Blks} {l : Slots} {X : List Nat} {x : Operand} {d : Option Nat} {ty t t' e tp : TypeId} {pos : String} {aft : Array Edge} {gq : Option (Nat × Bool)} {A : Abs} {ms : Array (String × TypeId)} {ops : Array Oper} {rest : List Oper} {Q : Exit → Act → World → Prop} {s : Nat} {xs : List (List Abs)}
theorem dB_ (ht : P.underlying t = some (.slice e)) (hx : look l x = some (.sl s xs)) (hg : gd ops l ⟨d, .binOp .eql t x (.const (.slice none 0 0)) t', ty, pos, aft, gq⟩ = some true) (hd : lt? d n = true)
    (k : ∀ b : Bool, (b = true → xs = []) → SL P ops rest (St n W σ (put? l d (.v (.bool b)))) Q) : SL P ops (⟨d, .binOp .eql t x (.const (.slice none 0 0)) t', ty, pos, aft, gq⟩ :: rest) (St n W σ l) Q := fun a w hs =>
  wpList_step fun K hK => by
    rw [if_pos (hs.wanted hg)]
    unfold Oper.wp
    obtain ⟨us, hr, h2⟩ := hs.eval hx
    obtain ⟨A', c, h1, h3, h4, h5⟩ := hr.shape
    have e1 : a.eval (.const (.slice none 0 0)) = .slice none 0 0 := rfl
    have hrun : (binOp .eql t (.slice A' xs.length c) (.slice none 0 0)).run P w = .ok (.bool A'.isNone) w := by
      have h : ∀ d : Nat, (Op.equalIn (d + 1) t (.slice A' xs.length c) (.slice none 0 0)).run P w = .ok A'.isNone w := fun d => by cases A' <;> simp [Op.equalIn, run_underlying ht]
      simp only [binOp]
      simp [Op.equal, Op.maxDepth, h 9999]
    have hrun2 : (execOp a.eval ⟨d, .binOp .eql t x (.const (.slice none 0 0)) t', ty, pos, aft, gq⟩).run P w = .ok (.value (.bool A'.isNone)) w := by simp [execOp, h1, e1, eqGuard, hrun]
    rw [hrun2]
    refine hK _ _ (k A'.isNone (fun hb => ?_) _ _ (hs.put hd (show rep _ _ (.v (.bool A'.isNone)) _ from rfl)))
    cases A' with
    | none =>
      have := h5 rfl
      exact List.length_eq_zero_iff.1 (by omega)
    | some A' => cases hb
end
inductive Frm where
  | mk (org at_ : Int) (kids : List Frm)
mutual
theorem Frm.ind {p : Frm → Prop} (h : ∀ o a ks, (∀ k ∈ ks, p k) → p (.mk o a ks)) : ∀ f, p f
  | .mk o a ks => h o a ks (Frm.inds h ks)
theorem Frm.inds {p : Frm → Prop} (h : ∀ o a ks, (∀ k ∈ ks, p k) → p (.mk o a ks)) : ∀ ks : List Frm, ∀ k ∈ ks, p k
  | [], _, hk => (by cases hk)
  | f :: ks, k, hk => by
    rcases List.mem_cons.1 hk with e | hk
    · rw [e]; exact Frm.ind h f
    · exact Frm.inds h ks k hk
end
mutual
def Frm.abs : Frm → List Abs
  | .mk o a ks => [int o, int a, .sl 3 (Frm.abss ks)]
def Frm.abss : List Frm → List (List Abs)
  | [] => []
  | k :: ks => k.abs :: Frm.abss ks
end
mutual
def Frm.nodes : Frm → Nat
  | .mk _ _ ks => 1 + Frm.nodess ks
def Frm.nodess : List Frm → Nat
  | [] => 0
  | k :: ks => k.nodes + Frm.nodess ks
end
mutual
def Frm.depth : Frm → Nat
  | .mk _ _ ks => 1 + Frm.depths ks
def Frm.depths : List Frm → Nat
  | [] => 0
  | k :: ks => max k.depth (Frm.depths ks)
end
mutual
def Frm.ranges (n : Int) : Frm → Bool
  | .mk o a ks => match ks with
    | [] => decide (0 ≤ o ∧ o < n ∧ a = 0)
    | k :: ks => (k.ranges n && Frm.rangess n ks) && decide (1 ≤ a ∧ a ≤ ((ks.length + 1 : Nat) : Int) ∧ o = 0)
def Frm.rangess (n : Int) : List Frm → Bool
  | [] => true
  | k :: ks => k.ranges n && Frm.rangess n ks
end
mutual
def Frm.holds (s : Wo) : Frm → Bool
  | .mk o a ks => match ks with
    | [] => s.getLsbD o.toNat
    | k :: ks => decide (a ≤ (((if k.holds s then 1 else 0) + Frm.holdss s ks : Nat) : Int))
def Frm.holdss (s : Wo) : List Frm → Nat
  | [] => 0
  | k :: ks => (if k.holds s then 1 else 0) + Frm.holdss s ks
end
mutual
def Frm.ints : Frm → Prop
  | .mk o a ks => InR .i64 o ∧ InR .i64 a ∧ Frm.intss ks
def Frm.intss : List Frm → Prop
  | [] => True
  | k :: ks => k.ints ∧ Frm.intss ks
end
theorem Frm.abss_eq : ∀ ks : List Frm, Frm.abss ks = ks.map Frm.abs
  | [] => rfl
  | k :: ks => by rw [Frm.abss, Frm.abss_eq ks, List.map_cons]
theorem Frm.abs_mk (o a : Int) (ks : List Frm) : (Frm.mk o a ks).abs = [int o, int a, .sl 3 (ks.map Frm.abs)] := by rw [Frm.abs, Frm.abss_eq]
theorem Frm.abs_len (f : Frm) : f.abs.length = 3 := by
  cases f
  rw [Frm.abs_mk]
  rfl
theorem Frm.abs_ones (f : Frm) : ones f.abs = true := by
  cases f
  rw [Frm.abs_mk]
  rfl
theorem Frm.nodess_app : ∀ (l m : List Frm), Frm.nodess (l ++ m) = Frm.nodess l + Frm.nodess m
  | [], m => by simp [Frm.nodess]
  | k :: l, m => by rw [List.cons_append, Frm.nodess, Frm.nodess_app l m, Frm.nodess, Nat.add_assoc]
theorem Frm.nodess_one (k : Frm) : Frm.nodess [k] = k.nodes := by simp [Frm.nodess]
theorem Frm.depths_app : ∀ (l m : List Frm), Frm.depths (l ++ m) = max (Frm.depths l) (Frm.depths m)
  | [], m => by simp [Frm.depths]
  | k :: l, m => by rw [List.cons_append, Frm.depths, Frm.depths_app l m, Frm.depths, Nat.max_assoc]
theorem Frm.depths_one (k : Frm) : Frm.depths [k] = k.depth := by simp [Frm.depths]
theorem Frm.holdss_app (s : Wo) : ∀ (l m : List Frm), Frm.holdss s (l ++ m) = Frm.holdss s l + Frm.holdss s m
  | [], m => by simp [Frm.holdss]
  | k :: l, m => by rw [List.cons_append, Frm.holdss, Frm.holdss_app s l m, Frm.holdss, Nat.add_assoc]
theorem Frm.holdss_one (s : Wo) (k : Frm) : Frm.holdss s [k] = if k.holds s then 1 else 0 := by simp [Frm.holdss]
theorem Frm.holdss_le (s : Wo) : ∀ l : List Frm, Frm.holdss s l ≤ l.length
  | [] => Nat.le_refl _
  | k :: l => by
    have := Frm.holdss_le s l
    rw [Frm.holdss, List.length_cons]
    split <;> omega
theorem Frm.rangess_iff {n : Int} : ∀ {ks : List Frm}, Frm.rangess n ks = true ↔ ∀ k ∈ ks, k.ranges n = true
  | [] => by simp [Frm.rangess]
  | k :: ks => by rw [Frm.rangess, Bool.and_eq_true, Frm.rangess_iff]; simp
theorem Frm.holds_leaf (s : Wo) (o a : Int) : (Frm.mk o a []).holds s = s.getLsbD o.toNat := by rw [Frm.holds]
theorem Frm.holds_node (s : Wo) (o a : Int) {ks : List Frm} (h : ks ≠ []) : (Frm.mk o a ks).holds s = decide (a ≤ (Frm.holdss s ks : Int)) := by
  cases ks with
  | nil => exact absurd rfl h
  | cons k ks => rw [Frm.holds, Frm.holdss]
theorem Frm.ranges_leaf (n o a : Int) : (Frm.mk o a []).ranges n = decide (0 ≤ o ∧ o < n ∧ a = 0) := by rw [Frm.ranges]
theorem Frm.ranges_node (n o a : Int) {ks : List Frm} (h : ks ≠ []) : (Frm.mk o a ks).ranges n = (Frm.rangess n ks && decide (1 ≤ a ∧ a ≤ ((ks.length : Nat) : Int) ∧ o = 0)) := by
  cases ks with
  | nil => exact absurd rfl h
  | cons k ks => rw [Frm.ranges, Frm.rangess, List.length_cons]
theorem Frm.nodes_mk (o a : Int) (ks : List Frm) : (Frm.mk o a ks).nodes = 1 + Frm.nodess ks := by rw [Frm.nodes]
theorem Frm.depth_mk (o a : Int) (ks : List Frm) : (Frm.mk o a ks).depth = 1 + Frm.depths ks := by rw [Frm.depth]
theorem Frm.nodes_mem {ks : List Frm} {k : Frm} (h : k ∈ ks) : k.nodes ≤ Frm.nodess ks := by
  induction ks with
  | nil => cases h
  | cons x ks ih =>
    rw [Frm.nodess]
    rcases List.mem_cons.1 h with e | h
    · rw [e]; omega
    · have := ih h; omega
theorem Frm.nodes_pos (f : Frm) : 1 ≤ f.nodes := by
  cases f
  rw [Frm.nodes_mk]
  omega
theorem Frm.length_le : ∀ ks : List Frm, ks.length ≤ Frm.nodess ks
  | [] => Nat.le_refl _
  | k :: ks => by
    have := Frm.length_le ks
    have := k.nodes_pos
    rw [Frm.nodess, List.length_cons]
    omega
theorem Frm.depths_mem {ks : List Frm} {k : Frm} (h : k ∈ ks) : k.depth ≤ Frm.depths ks := by
  induction ks with
  | nil => cases h
  | cons x ks ih =>
    rw [Frm.depths]
    rcases List.mem_cons.1 h with e | h
    · rw [e]; omega
    · have := ih h; omega
theorem Frm.depth_le (f : Frm) : f.depth ≤ f.nodes := Frm.ind (p := fun f => f.depth ≤ f.nodes) (fun o a ks ih => by
  rw [Frm.depth_mk, Frm.nodes_mk]
  have : ∀ l : List Frm, (∀ k ∈ l, k.depth ≤ k.nodes) → Frm.depths l ≤ Frm.nodess l := by
    intro l
    induction l with
    | nil => intro _; exact Nat.le_refl _
    | cons k l ih2 =>
      intro h
      have h1 := h k List.mem_cons_self
      have h2 := ih2 fun k hk => h k (List.mem_cons_of_mem _ hk)
      rw [Frm.depths, Frm.nodess]
      omega
  have := this ks ih
  omega) f
theorem Frm.take_nodes {ks : List Frm} (z : Nat) : Frm.nodess (ks.take z) ≤ Frm.nodess ks := by
  conv => rhs; rw [← List.take_append_drop z ks]
  rw [Frm.nodess_app]
  omega
theorem Frm.take_nodes1 {ks : List Frm} {z : Nat} (h : z < ks.length) : Frm.nodess (ks.take (z + 1)) = Frm.nodess (ks.take z) + ks[z].nodes := by
  rw [List.take_succ_eq_append_getElem h, Frm.nodess_app, Frm.nodess_one]
theorem Frm.take_depths1 {ks : List Frm} {z : Nat} (h : z < ks.length) : Frm.depths (ks.take (z + 1)) = max (Frm.depths (ks.take z)) ks[z].depth := by
  rw [List.take_succ_eq_append_getElem h, Frm.depths_app, Frm.depths_one]
theorem Frm.take_holds1 {s : Wo} {ks : List Frm} {z : Nat} (h : z < ks.length) : Frm.holdss s (ks.take (z + 1)) = Frm.holdss s (ks.take z) + if ks[z].holds s then 1 else 0 := by
  rw [List.take_succ_eq_append_getElem h, Frm.holdss_app, Frm.holdss_one]
def Frm.check (f : Frm) (n : Int) : Int := if n < 1 ∨ 7 < n then 1 else if 32 < f.nodes then 4 else if 5 < f.depth then 3 else if f.ranges n = true then 0 else 5
theorem Frm.check_ok {f : Frm} {n : Int} : f.check n = 0 ↔ (1 ≤ n ∧ n ≤ 7) ∧ f.nodes ≤ 32 ∧ f.depth ≤ 5 ∧ f.ranges n = true := by
  unfold Frm.check
  by_cases h1 : n < 1 ∨ 7 < n
  · rw [if_pos h1]
    constructor
    · intro h; cases h
    · intro h; omega
  · rw [if_neg h1]
    by_cases h2 : 32 < f.nodes
    · rw [if_pos h2]
      constructor
      · intro h; cases h
      · intro h; omega
    · rw [if_neg h2]
      by_cases h3 : 5 < f.depth
      · rw [if_pos h3]
        constructor
        · intro h; cases h
        · intro h; omega
      · rw [if_neg h3]
        by_cases h4 : f.ranges n = true
        · rw [if_pos h4]
          exact ⟨fun _ => ⟨by omega, by omega, by omega, h4⟩, fun _ => rfl⟩
        · rw [if_neg h4]
          constructor
          · intro h; cases h
          · intro h; exact absurd h.2.2.2 h4
theorem Frm.ranges_mono {n m : Int} (h : n ≤ m) (f : Frm) : f.ranges n = true → f.ranges m = true := Frm.ind (p := fun f => f.ranges n = true → f.ranges m = true) (fun o a ks ih => by
  by_cases hk : ks = []
  · subst hk
    rw [Frm.ranges_leaf, Frm.ranges_leaf, decide_eq_true_iff, decide_eq_true_iff]
    omega
  · rw [Frm.ranges_node n o a hk, Frm.ranges_node m o a hk, Bool.and_eq_true, Bool.and_eq_true, Frm.rangess_iff, Frm.rangess_iff]
    exact fun h => ⟨fun k hk => ih k hk (h.1 k hk), h.2⟩) f
theorem Frm.kids_range {n o a : Int} {ks : List Frm} (h : (Frm.mk o a ks).ranges n = true) : ∀ k ∈ ks, k.ranges n = true := by
  by_cases hk : ks = []
  · subst hk
    intro k hk; cases hk
  · rw [Frm.ranges_node n o a hk, Bool.and_eq_true, Frm.rangess_iff] at h
    exact h.1
theorem gU_ (s : Wo) (z : Nat) : decide ((s >>> z).toNat % 2 = 1) = s.getLsbD z := by
  rw [BitVec.toNat_ushiftRight]
  show _ = s.toNat.testBit z
  rw [Nat.testBit_eq_decide_div_mod_eq, Nat.shiftRight_eq_div_pow]
theorem and_bit (s : Wo) (z : Nat) : decide (((s >>> z) &&& 1#32).toNat = 1) = s.getLsbD z := by
  rw [← gU_, BitVec.toNat_and]
  show decide ((s >>> z).toNat &&& 1 = 1) = _
  rw [Nat.and_one_is_mod]
abbrev Txt := List UInt8
def isDig (c : UInt8) : Bool := decide (48 ≤ c.toNat ∧ c.toNat ≤ 57)
def bare : Txt → Txt
  | [] => []
  | c :: t => if c = 32 then bare t else c :: t
theorem aS_ : ∀ t : Txt, (bare t).length ≤ t.length
  | [] => Nat.le_refl _
  | c :: t => by
    unfold bare
    split
    · have := aS_ t
      rw [List.length_cons]
      omega
    · exact Nat.le_refl _
theorem ba_ : ∀ t : Txt, bare (bare t) = bare t
  | [] => rfl
  | c :: t => by
    by_cases h : c = 32
    · rw [show bare (c :: t) = bare t from if_pos h]
      exact ba_ t
    · rw [show bare (c :: t) = c :: t from if_neg h, show bare (c :: t) = c :: t from if_neg h]
def begins (t s : Txt) : Bool := s.isPrefixOf t
theorem cb_ {t s : Txt} : begins t s = true ↔ s.length ≤ t.length ∧ t.take s.length = s := by
  unfold begins
  rw [List.isPrefixOf_iff_prefix]
  constructor
  · rintro ⟨r, rfl⟩
    simp
  · rintro ⟨h1, h2⟩
    exact ⟨t.drop s.length, (congrArg (· ++ t.drop s.length) h2.symm).trans (List.take_append_drop _ _)⟩
def digs (t : Txt) : Txt := t.takeWhile isDig
theorem f9_ (t : Txt) : (digs t).length ≤ t.length := (List.takeWhile_sublist _).length_le
def decV (l : Txt) : Nat := l.foldl (fun a c => a * 10 + (c.toNat - 48)) 0
def numT (t : Txt) : Option (Nat × Txt) :=
  if (digs t).length = 0 ∨ 4 < (digs t).length ∨ (1 < (digs t).length ∧ (digs t).head? = some 48) then none else some (decV (digs t), t.drop (digs t).length)
def rowL (p : Txt → Option (Frm × Txt)) : Nat → Txt → List Frm → Option (List Frm × Txt)
  | 0, _, _ => none
  | n + 1, t, acc => match p t with
    | none => none
    | some (f, r) => if begins (bare r) [41] = true then some (acc ++ [f], (bare r).drop 1) else if begins (bare r) [44] = true then rowL p n ((bare r).drop 1) (acc ++ [f]) else none
def rowT (p : Txt → Option (Frm × Txt)) (t : Txt) : Option (List Frm × Txt) := if begins (bare t) [40] = true then rowL p (t.length + 1) ((bare t).drop 1) [] else none
def polT : Nat → Txt → Option (Frm × Txt)
  | 0, _ => none
  | k + 1, t =>
    if begins (bare t) [97, 108, 108] = true then (rowT (polT k) ((bare t).drop 3)).map fun x => (.mk 0 x.1.length x.1, x.2)
    else if begins (bare t) [97, 110, 121] = true then (rowT (polT k) ((bare t).drop 3)).map fun x => (.mk 0 1 x.1, x.2)
    else match numT (bare t) with
    | none => none
    | some (v, r) => if begins (bare r) [111, 102] = true then (if 1 ≤ v ∧ v ≤ 99 then (rowT (polT k) ((bare r).drop 2)).map fun x => (.mk 0 v x.1, x.2) else none) else some (.mk v 0 [], r)
theorem a5_ {t s : Txt} (h : begins t s = true) : s.length ≤ t.length := (cb_.1 h).1
def Short (p : Txt → Option (Frm × Txt)) : Prop := ∀ t f r, p t = some (f, r) → r.length < t.length
theorem fa_ {p : Txt → Option (Frm × Txt)} (hp : Short p) : ∀ (n : Nat) (t : Txt) (acc : List Frm) (l : List Frm) (r : Txt), rowL p n t acc = some (l, r) → r.length < t.length
  | 0, t, acc, l, r, h => by cases h
  | n + 1, t, acc, l, r, h => by
    unfold rowL at h
    cases hq : p t with
    | none => rw [hq] at h; cases h
    | some x =>
      obtain ⟨f, r1⟩ := x
      rw [hq] at h
      have h1 := hp t f r1 hq
      have h2 := aS_ r1
      dsimp only at h
      split at h
      · cases h
        rw [List.length_drop]
        omega
      · split at h
        · have h3 := fa_ hp n _ _ _ _ h
          rw [List.length_drop] at h3
          omega
        · cases h
theorem dH_ {p : Txt → Option (Frm × Txt)} (hp : Short p) {t : Txt} {l : List Frm} {r : Txt} (h : rowT p t = some (l, r)) : r.length < t.length := by
  unfold rowT at h
  split at h
  · have h1 := fa_ hp _ _ _ _ _ h
    have h2 := aS_ t
    rw [List.length_drop] at h1
    omega
  · cases h
theorem cK_ {t : Txt} {v : Nat} {r : Txt} (h : numT t = some (v, r)) : r.length < t.length := by
  unfold numT at h
  split at h
  · cases h
  · next hn =>
    cases h
    have := f9_ t
    rw [List.length_drop]
    omega
theorem b5_ : ∀ k, Short (polT k)
  | 0, t, f, r, h => by cases h
  | k + 1, t, f, r, h => by
    have hb := aS_ t
    unfold polT at h
    split at h
    · next hs =>
      cases hr : rowT (polT k) ((bare t).drop 3) with
      | none => rw [hr] at h; cases h
      | some x =>
        rw [hr] at h
        cases h
        have h1 := dH_ (b5_ k) hr
        rw [List.length_drop] at h1
        omega
    · split at h
      · next hs =>
        cases hr : rowT (polT k) ((bare t).drop 3) with
        | none => rw [hr] at h; cases h
        | some x =>
          rw [hr] at h
          cases h
          have h1 := dH_ (b5_ k) hr
          rw [List.length_drop] at h1
          omega
      · cases hn : numT (bare t) with
        | none => rw [hn] at h; cases h
        | some x =>
          obtain ⟨v, r1⟩ := x
          rw [hn] at h
          dsimp only at h
          have h1 := cK_ hn
          have h2 := aS_ r1
          split at h
          · split at h
            · cases hr : rowT (polT k) ((bare r1).drop 2) with
              | none => rw [hr] at h; cases h
              | some x =>
                rw [hr] at h
                cases h
                have h3 := dH_ (b5_ k) hr
                rw [List.length_drop] at h3
                omega
            · cases h
          · cases h
            omega
def parseF (t : Txt) (n : Int) : Frm × Int :=
  if 200 < t.length then (.mk 0 0 [], 3) else match polT 10 t with
    | none => (.mk 0 0 [], 2)
    | some (f, r) => if bare r ≠ [] then (.mk 0 0 [], 2) else if f.check n ≠ 0 then (.mk 0 0 [], f.check n) else (f, 0)
/-! ### Numbers -/
theorem g3_ (l : Txt) (c : UInt8) : decV (l ++ [c]) = decV l * 10 + (c.toNat - 48) := by
  unfold decV
  rw [List.foldl_append]
  rfl
theorem eX_ : ∀ (l : Txt), (∀ c ∈ l, isDig c = true) → decV l < 10 ^ l.length := fun l => by
  have aux : ∀ (l : Txt) (a : Nat), (∀ c ∈ l, isDig c = true) → l.foldl (fun a c => a * 10 + (c.toNat - 48)) a < (a + 1) * 10 ^ l.length := by
    intro l
    induction l with
    | nil => intro a _; simp
    | cons c l ih =>
      intro a h
      have h1 := ih (a * 10 + (c.toNat - 48)) fun d hd => h d (List.mem_cons_of_mem _ hd)
      have h2 : isDig c = true := h c List.mem_cons_self
      have h3 := of_decide_eq_true h2
      rw [List.foldl_cons, List.length_cons, Nat.pow_succ]
      have h4 : (a * 10 + (c.toNat - 48) + 1) * 10 ^ l.length ≤ ((a + 1) * 10) * 10 ^ l.length := Nat.mul_le_mul_right _ (by omega)
      have h5 : (a + 1) * (10 ^ l.length * 10) = ((a + 1) * 10) * 10 ^ l.length := by rw [Nat.mul_comm (10 ^ l.length) 10, ← Nat.mul_assoc]
      omega
  intro h
  have := aux l 0 h
  simpa [decV] using this
theorem cP_ (t : Txt) : ∀ c ∈ digs t, isDig c = true := fun c hc => by
  unfold digs at hc
  have aux : ∀ t : Txt, c ∈ t.takeWhile isDig → isDig c = true := by
    intro t
    induction t with
    | nil => intro h; simp at h
    | cons d t ih =>
      intro h
      rw [List.takeWhile_cons] at h
      split at h
      · rcases List.mem_cons.1 h with rfl | h
        · assumption
        · exact ih h
      · simp at h
  exact aux t hc
theorem numT_le {t : Txt} {v : Nat} {r : Txt} (h : numT t = some (v, r)) : v ≤ 9999 := by
  unfold numT at h
  split at h
  · cases h
  · next hn =>
    cases h
    have h1 := eX_ (digs t) (cP_ t)
    have h2 : 10 ^ (digs t).length ≤ 10 ^ 4 := Nat.pow_le_pow_right (by omega) (by omega)
    omega
end Go.Proofs.YtickdhjljpnlpaaGreatDoor.A
namespace Go.Proofs.YtickdhjljpnlpaaGreatDoor
open Go.RowKit
section
variable {P : Program} {ops : Array Oper}
def anyS (P : Program) (ops : Array Oper) (D : World → Prop) (m : Nat) (Q : Act → World → Prop) : Nat → Array Bool → Act → World → Prop
  | 0, listed, a, w => Region.ready .any ops listed = [] ∧ Q a w
  | fuel + 1, listed, a, w => (Region.ready .any ops listed = [] → Q a w) ∧
      ∀ i ∈ Region.ready .any ops listed, wpOp P ops NoExit i (fun a' w' => (m ≤ i ∨ D w') ∧ anyS P ops D m Q fuel (listed.setIfInBounds i true) a' w') a w
theorem anyS.wpAny {D : World → Prop} {m : Nat} {Q : Exit → Act → World → Prop} : ∀ (fuel : Nat) (listed : Array Bool) (a : Act) (w : World),
    anyS P ops D m (Q .normal) fuel listed a w → wpAny P .any ops Q fuel listed a w
  | 0, _, _, _, h => h
  | fuel + 1, _, _, _, h => ⟨h.1, fun i hi => bX_ (wpOp_mono (fun a' w' h3 => anyS.wpAny fuel _ a' w' h3.2) (h.2 i hi))⟩
theorem anyS.mono {D D' : World → Prop} {m : Nat} {Q : Act → World → Prop} (hD : ∀ w, D' w → D w) : ∀ (fuel : Nat) (listed : Array Bool) (a : Act) (w : World),
    anyS P ops D' m Q fuel listed a w → anyS P ops D m Q fuel listed a w
  | 0, _, _, _, h => h
  | fuel + 1, _, _, _, h => ⟨h.1, fun i hi => wpOp_mono (fun a' w' h3 => ⟨h3.1.imp_right (hD _), anyS.mono hD fuel _ a' w' h3.2⟩) (h.2 i hi)⟩
def headIn (m : Nat) (L : Array Bool) : Bool := (List.range m).all fun i => L.getD i false
theorem jv_ {m : Nat} {L : Array Bool} (h : headIn m L = true) (j : Nat) : headIn m (L.setIfInBounds j true) = true := by
  unfold headIn at *
  rw [List.all_eq_true] at *
  exact fun i hi => getD_set_true (h i hi)
theorem jw_ {m : Nat} {L : Array Bool} (h : headIn m L = true) {i : Nat} (hi : i < m) : L.getD i false = true := by
  unfold headIn at h
  rw [List.all_eq_true] at h
  exact h i (List.mem_range.2 hi)
theorem anyD.toS {D D2 : World → Prop} {m : Nat} {Q : Act → World → Prop} : ∀ (fuel : Nat) (listed : Array Bool) (a : Act) (w : World), headIn m listed = true →
    anyD P ops D2 Q fuel listed a w → anyS P ops D m Q fuel listed a w
  | 0, _, _, _, _, h => h
  | fuel + 1, L, _, _, hL, h => ⟨h.1, fun i hi => wpOp_mono (fun a' w' h3 => ⟨.inl (by
      rcases Nat.lt_or_ge i m with h1 | h1
      · have h2 := jw_ hL h1
        rw [eP_ (mem_ready.1 hi).1] at h2
        cases h2
      · exact h1), anyD.toS fuel _ a' w' (jv_ hL i) h3.2⟩) (h.2 i hi)⟩
def domOkS (ops : Array Oper) (m : Nat) : Bool :=
  ((List.range m).all fun i => (List.range (m + 1)).any fun j => Nat.blt i j && ((ops[j]?).map fun o => o.after.any fun e => Region.binds .any e && e.on == i).getD false) &&
  ((List.range ops.size).all fun j => Nat.ble j m || ((ops[j]?).map fun o => o.after.any fun e => Region.binds .any e && Nat.ble m e.on && Nat.blt e.on j).getD false)
theorem kT_ {m : Nat} (hd : domOkS ops m = true) {i : Nat} (hi : i < m) : ∃ j o, i < j ∧ j ≤ m ∧ ops[j]? = some o ∧ ∃ e ∈ o.after, Region.binds .any e = true ∧ e.on = i := by
  unfold domOkS at hd
  rw [Bool.and_eq_true, List.all_eq_true] at hd
  have h1 := hd.1 i (by rw [List.mem_range]; omega)
  rw [List.any_eq_true] at h1
  obtain ⟨j, hj, h2⟩ := h1
  rw [List.mem_range] at hj
  simp only [Bool.and_eq_true, Nat.blt_eq] at h2
  obtain ⟨h2, h3⟩ := h2
  cases ho : ops[j]? with
  | none => rw [ho] at h3; cases h3
  | some o =>
    rw [ho] at h3
    simp only [Option.map_some, Option.getD_some, Array.any_eq_true, Bool.and_eq_true, beq_iff_eq] at h3
    obtain ⟨x, hx, hb, hon⟩ := h3
    exact ⟨j, o, h2, by omega, ho, _, Array.getElem_mem hx, hb, hon⟩
theorem kU_ {m : Nat} (hd : domOkS ops m = true) {j : Nat} {o : Oper} (ho : ops[j]? = some o) (hj : m < j) : ∃ e ∈ o.after, Region.binds .any e = true ∧ m ≤ e.on ∧ e.on < j := by
  unfold domOkS at hd
  rw [Bool.and_eq_true, List.all_eq_true, List.all_eq_true] at hd
  have h1 := hd.2 j (by rw [List.mem_range]; exact (Array.getElem?_eq_some_iff.1 ho).1)
  rw [ho] at h1
  simp only [Option.map_some, Option.getD_some, Bool.or_eq_true, Nat.ble_eq, Array.any_eq_true, Bool.and_eq_true, Nat.blt_eq] at h1
  rcases h1 with h1 | ⟨x, hx, ⟨hb, h2⟩, h3⟩
  · omega
  · exact ⟨_, Array.getElem_mem hx, hb, h2, h3⟩
def Due (ops : Array Oper) (L : Array Bool) (j : Nat) : Prop := ∃ o, ops[j]? = some o ∧ ∀ e ∈ o.after, Region.binds .any e = true → L.getD e.on false = true
theorem Due.down {m : Nat} (hd : domOkS ops m = true) {L : Array Bool} (hL : Down ops L) (hin : ∀ k, L.getD k false = true → ∃ o, ops[k]? = some o) : ∀ j, m ≤ j → Due ops L j → Due ops L m := by
  intro j
  induction j using Nat.strongRecOn with
  | _ j ih =>
    intro hj h
    by_cases hjm : j = m
    · subst hjm; exact h
    · obtain ⟨o, ho, hall⟩ := h
      obtain ⟨e, he, hb, h1, h2⟩ := kU_ hd ho (by omega)
      have h3 := hall e he hb
      obtain ⟨o2, ho2⟩ := hin _ h3
      exact ih e.on h2 h1 ⟨o2, ho2, hL _ _ ho2 h3⟩
theorem domS_all {m : Nat} (hd : domOkS ops m = true) {L : Array Bool} (hL : Down ops L) (hz : Due ops L m) : ∀ k i, m - i = k → i < m → L.getD i false = true := by
  intro k
  induction k using Nat.strongRecOn with
  | _ k ih =>
    intro i hk hi
    obtain ⟨j, o, hij, hj, ho, e, he, hb, hon⟩ := kT_ hd hi
    subst hon
    by_cases hjz : j = m
    · subst hjz
      obtain ⟨o', ho', hall⟩ := hz
      rw [ho'] at ho
      cases ho
      exact hall e he hb
    · exact hL j o ho (ih _ (by omega) j rfl (by omega)) e he hb
structure Listed (ops : Array Oper) (L : Array Bool) : Prop where
  down : Down ops L
  there : ∀ k, L.getD k false = true → ∃ o, ops[k]? = some o
theorem Listed.set {L : Array Bool} (h : Listed ops L) {j : Nat} (hj : j ∈ Region.ready .any ops L) : Listed ops (L.setIfInBounds j true) := by
  refine ⟨h.down.set hj, fun k hk => ?_⟩
  by_cases hkj : k = j
  · subst hkj
    obtain ⟨_, o, ho, _⟩ := mem_ready.1 hj
    exact ⟨o, ho⟩
  · have : (L.setIfInBounds j true).getD k false = L.getD k false := getD_set_ne false (Ne.symm hkj)
    exact h.there k (this ▸ hk)
theorem Listed.none (n : Nat) : Listed ops (Array.replicate n false) := by
  refine ⟨g2_ n, fun k h => ?_⟩
  rw [Array.getD_eq_getD_getElem?, Array.getElem?_replicate] at h
  split at h <;> cases h
theorem jB_ {D : World → Prop} {m : Nat} {Q : Act → World → Prop} {i : Nat} {oi : Oper} {v : Value} (hd : domOkS ops m = true) (hiz : i < m) (hi : ops[i]? = some oi) (hsel : ∀ (j : Nat) (o : Oper) cs b, ops[j]? = some o → o.op ≠ .select cs b) :
    ∀ (fuel : Nat) (listed : Array Bool) (a : Act) (w : World), D w → Listed ops listed →
      (∀ j oj, ops[j]? = some oj → j ≠ i → listed.getD j true = false → (∀ e ∈ oj.after, Region.binds .any e = true → e.on ≠ i) → oi.apart ops oj = true) →
      i ∈ Region.ready .any ops listed → YieldsD P ops D oi v a →
      anyS P ops D m Q fuel (listed.setIfInBounds i true) (a.put oi.dst v) w → anyS P ops D m Q (fuel + 1) listed a w := by
  intro fuel
  induction fuel with
  | zero =>
    intro listed a w hDw _ _ hr hy H
    refine ⟨fun h => (by rw [h] at hr; cases hr), fun j hj => ?_⟩
    by_cases hji : j = i
    · subst hji; exact hy.wpOp hi hDw ⟨.inr hDw, H⟩
    · have := ready_mono hj hji
      rw [H.1] at this
      cases this
  | succ fuel ih =>
    intro listed a w hDw hdn hfree hr hy H
    refine ⟨fun h => (by rw [h] at hr; cases hr), fun j hj => ?_⟩
    by_cases hji : j = i
    · subst hji; exact hy.wpOp hi hDw ⟨.inr hDw, H⟩
    · have hjz : ¬ m ≤ j := fun h => by
        have h2 : Due ops listed j := (mem_ready.1 hj).2
        have h1 := domS_all hd hdn.down (h2.down hd hdn.down hdn.there j h) _ i rfl hiz
        have h0 := eP_ (mem_ready.1 hr).1
        rw [h1] at h0
        cases h0
      have h1 := H.2 j (ready_mono hj hji)
      obtain ⟨hjun, oj, hoj, hall⟩ := mem_ready.1 hj
      have hnot : ∀ e ∈ oj.after, Region.binds .any e = true → e.on ≠ i := fun e he hb heq => by
        have h1 := hall e he hb
        have h0 := (mem_ready.1 hr).1
        rw [heq] at h1
        rw [eP_ h0] at h1
        cases h1
      have h2 := eh_ hoj (hfree j oj hoj hji hjun hnot) (fun cs b => hsel i oi cs b hi) (fun cs b => hsel j oj cs b hoj) hy h1
      have hfree' : ∀ k ok, ops[k]? = some ok → k ≠ i → (listed.setIfInBounds j true).getD k true = false →
          (∀ e ∈ ok.after, Region.binds .any e = true → e.on ≠ i) → oi.apart ops ok = true := fun k ok hk hki hun hno => by
        refine hfree k ok hk hki ?_ hno
        by_cases hjk : j = k
        · subst hjk; exact hjun
        · rw [getD_set_ne true hjk] at hun; exact hun
      refine wpOp_mono (fun a' w' h3 => ?_) h2
      have hDw' : D w' := h3.2.1.resolve_left hjz
      refine ⟨.inr hDw', ih (listed.setIfInBounds j true) a' w' hDw' (hdn.set hj) hfree' (ready_mono hr (Ne.symm hji)) h3.1 ?_⟩
      rw [Array.setIfInBounds_comm _ _ hji]
      exact h3.2.2
def planOkS (ops : Array Oper) (m : Nat) (k2 : Plan) : Nat → Array Bool → Plan → Bool
  | n, listed, .nil => headIn m listed && planOk ops n listed k2
  | n + 1, listed, .q i k => Nat.blt i m && Region.free .any ops listed i && (Region.ready .any ops listed).contains i && planOkS ops m k2 n (listed.setIfInBounds i true) k
  | n + 1, listed, .e i k => (Region.ready .any ops listed == [i]) && planOkS ops m k2 n (listed.setIfInBounds i true) k
  | n + 1, listed, .two i j k h => (Region.ready .any ops listed == [i, j]) && planOkS ops m k2 n (listed.setIfInBounds i true) k && planOkS ops m k2 n (listed.setIfInBounds j true) h
  | 0, _, _ => false
def RestOf (P : Program) (ops : Array Oper) (k2 : Plan) (Q : Exit → Act → World → Prop) : Exit → Act → World → Prop := fun _ a w => ∃ D : World → Prop, D w ∧ planW P ops (Q .normal) k2 D a w
theorem planW.anyS {Q : Exit → Act → World → Prop} {m : Nat} {k2 : Plan} (hs : Region.noSelect ops = true) (hd : domOkS ops m = true) : ∀ (n : Nat) (ix : Plan) (D : World → Prop) (listed : Array Bool) (a : Act) (w : World), planOkS ops m k2 n listed ix = true → D w → Listed ops listed →
    planW P ops (RestOf P ops k2 Q .normal) ix D a w → Proofs.YtickdhjljpnlpaaGreatDoor.anyS P ops D m (Q .normal) n listed a w
  | n, .nil, D, listed, a, w, hok, hD, hdn, ⟨D2, h1, h2⟩ => by
    unfold planOkS at hok
    simp only [Bool.and_eq_true] at hok
    exact anyD.toS _ _ _ _ hok.1 (planW.anyD hs n k2 D2 _ _ _ hok.2 h1 h2)
  | n + 1, .q i ix, D, listed, a, w, hok, hD, hdn, ⟨o, v, hi, hy, h⟩ => by
    simp only [planOkS, Bool.and_eq_true, Nat.blt_eq] at hok
    have hrd : i ∈ Region.ready .any ops listed := by simpa using hok.1.2
    exact jB_ hd hok.1.1.1 hi (Region.noSelect_spec hs) n listed a w hD hdn (Region.free_spec hi hok.1.1.2) hrd hy (planW.anyS hs hd n ix D _ _ _ hok.2 hD (hdn.set hrd) h)
  | n + 1, .e i ix, D, listed, a, w, hok, hD, hdn, h => by
    simp only [planOkS, Bool.and_eq_true, beq_iff_eq] at hok
    refine ⟨fun h0 => (by rw [hok.1] at h0; cases h0), fun j hj => ?_⟩
    have hj0 := hj
    rw [hok.1] at hj
    simp only [List.mem_singleton] at hj
    subst hj
    exact wpOp_mono (fun a' w' ⟨D', hD', hw', h'⟩ => ⟨.inr (hD' _ hw'), anyS.mono hD' _ _ _ _ (planW.anyS hs hd n ix D' _ a' w' hok.2 hw' (hdn.set hj0) h')⟩) h
  | n + 1, .two i j k r, D, listed, a, w, hok, hD, hdn, h => by
    simp only [planOkS, Bool.and_eq_true, beq_iff_eq] at hok
    refine ⟨fun h0 => (by rw [hok.1.1] at h0; cases h0), fun q hq => ?_⟩
    have hq0 := hq
    rw [hok.1.1] at hq
    simp only [List.mem_cons, List.not_mem_nil, or_false] at hq
    rcases hq with rfl | rfl
    · exact wpOp_mono (fun a' w' ⟨D', hD', hw', h'⟩ => ⟨.inr (hD' _ hw'), anyS.mono hD' _ _ _ _ (planW.anyS hs hd n k D' _ a' w' hok.1.2 hw' (hdn.set hq0) h')⟩) h.1
    · exact wpOp_mono (fun a' w' ⟨D', hD', hw', h'⟩ => ⟨.inr (hD' _ hw'), anyS.mono hD' _ _ _ _ (planW.anyS hs hd n r D' _ a' w' hok.2 hw' (hdn.set hq0) h')⟩) h.2
theorem eg_ {id m : Nat} {k2 : Plan} {a : Act} {w : World} {Q : Exit → Act → World → Prop} (D : World → Prop) (ix : Plan) (hm : P.follows .mixedOrders = true)
    (hok : (Region.noSelect ops && domOkS ops m && planOkS ops m k2 ops.size (Array.replicate ops.size false) ix) = true) (hD : D w.drew)
    (h : planW P ops (RestOf P ops k2 Q .normal) ix D a w.drew) : (Code.region id ops true).wp P Q a w := by
  simp only [Bool.and_eq_true] at hok
  refine wp_region_any hm ?_
  exact anyS.wpAny _ _ _ _ (planW.anyS hok.1.1 hok.1.2 _ ix D _ a _ hok.2 hD (Listed.none _) h)
end
end Go.Proofs.YtickdhjljpnlpaaGreatDoor
namespace Go.Proofs.YtickdhjljpnlpaaGreatDoor.A
open Go.RowKit
section
variable {P : Program} {n : Nat} {W : Wd} {σ τ : Blks} {l : Slots} {X : List Nat} {x y : Operand} {d : Option Nat} {ty t t' e : TypeId} {pos : String} {aft : Array Edge} {g : Option (Nat × Bool)} {A : Abs} {tab : List (Nat × TI)} {ops : Array Oper} {Q : Exit → Act → World → Prop} {v : Value} {xs : List (List Abs)} {s q : Nat} {a b : Int}
theorem iZ_ {id : Nat} (m : Nat) (X : List Nat) (ix k2 : Plan) (hm : P.follows .mixedOrders = true)
    (hok : (Region.noSelect ops && domOkS ops m && planOkS ops m k2 ops.size (Array.replicate ops.size false) ix) = true) (h : SX P ops ix X (St n W σ l) (RestOf P ops k2 Q)) : SC P (.region id ops true) (St n W σ l) Q := fun a w hs =>
  eg_ (fun w' => Ext X w.drew w') ix hm hok (Ext.refl _) (h a _ hs.drew)
theorem lj_ {k2 : Plan} (X : List Nat) (h : SX P ops k2 X (St n W σ l) Q) : SE .normal (St n W σ l) (RestOf P ops k2 Q) := fun a w hs => ⟨fun w' => Ext X w w', Ext.refl w, h a w hs⟩
theorem gy_ {K : List Nat} {w : World} {ys : List Abs} {vs : List Value} (hy : reps K w ys vs) (hv : vs.length = s) : ∀ {xs : List (List Abs)} {us : List Value} {q : Nat}, repss K w s xs us → q < xs.length → repss K w s (xs.set q ys) (us.take (q * s) ++ vs ++ us.drop (q * s + s))
  | [], _, _, _, h => by simp at h
  | c :: xs, _, 0, ⟨u1, u2, h1, h2, h3, h4⟩, _ => by
    subst h1
    refine ⟨vs, u2, ?_, hv, hy, h4⟩
    simp [← h2]
  | c :: xs, _, q + 1, ⟨u1, u2, h1, h2, h3, h4⟩, hq => by
    subst h1
    have h5 := gy_ hy hv h4 (q := q) (by simpa using hq)
    refine ⟨u1, _, ?_, h2, h3, h5⟩
    have e1 : (q + 1) * s = u1.length + q * s := by rw [Nat.succ_mul]; omega
    rw [e1, Nat.add_assoc, List.take_length_add_append, List.drop_length_add_append]
    simp
theorem dT_ (hT : TabOk P tab) {i : TI} {ys : List Abs} (ht : ti tab t = some i) (hx : look l x = some (.v (eptr v (q * s)))) (hy : look l y = some A) (hu : Upd (own e s v xs) (own e s v (xs.set q ys)) σ τ) (hc : cellsA A = ys) (hs : Nat.beq i.size s = true) (hl : Nat.beq ys.length s = true) (hq : q < xs.length) (h1 : ones ys = true) :
    Eff P n W σ l v.ownBlock.toList ⟨d, .store t x y, ty, pos, aft, g⟩ fun u τ' => u = .v undef ∧ τ' = τ := fun ac w hst => by
  have hs := Nat.eq_of_beq_eq_true hs
  have hl := Nat.eq_of_beq_eq_true hl
  obtain ⟨us, hown, hr⟩ : (ownPc e s v xs).p _ w := hst.mem.hold _ hu.mem
  have hry := cT_ (hst.eval hy)
  rw [hc] at hry
  have hlen := aw_ hry
  have hone := b7_ hry h1
  rcases hown.2 with ⟨h, h0⟩ | ⟨gb, cap, cur, hv, hbase, hg, hn, hcap, hsz, htk⟩
  · omega
  · subst hv
    have h2 := (hT t _ ht).sizeOf (w := w)
    have hb1 : q * s + s ≤ xs.length * s := by rw [← Nat.succ_mul]; exact Nat.mul_le_mul_right _ hq
    have hb2 : xs.length * s ≤ cap * s := Nat.mul_le_mul_right _ hn
    have hrun := run_storeCells_at (P := P) gb (0 + q * s) e (cellsL (ac.eval y)) 0 cur w hg (by omega) hone
    have e0 : 0 + q * s + 0 = q * s := by omega
    rw [e0] at hrun
    have hcl : cur.toList.length = cur.size := by simp
    have hle : (cellsL (ac.eval y)).length = s := by omega
    have hxx : Ext (Value.ownBlock (.slice (some ⟨gb, 0, none⟩) xs.length cap)).toList w (w.setRow gb (cur.toList.take (q * s) ++ cellsL (ac.eval y) ++ cur.toList.drop (q * s + (cellsL (ac.eval y)).length)).toArray) := (Ext.refl w).setRow (.inl (by simp [Value.ownBlock])) _
    have hnew : (cur.toList.take (q * s) ++ cellsL (ac.eval y) ++ cur.toList.drop (q * s + (cellsL (ac.eval y)).length)).take (xs.length * s) = us.take (q * s) ++ cellsL (ac.eval y) ++ us.drop (q * s + s) := by
      rw [← htk, hle]
      apply List.ext_getElem?
      intro j
      simp only [List.getElem?_take, List.getElem?_append, List.length_append, List.length_take, List.getElem?_drop, hle]
      grind
    have hm := hst.mem.upd hu hxx bm_ (fun k hk => .inl hk) rfl fun hca => ⟨us.take (q * s) ++ cellsL (ac.eval y) ++ us.drop (q * s + s), ⟨?_, .inr ⟨gb, cap, _, by rw [List.length_set], hbase, setRow_heap w gb cur _ e (0, 0) hg, by rw [List.length_set]; exact hn, hcap, ?_, ?_⟩⟩, av_ hca _ _ _ (gy_ hry (by omega) hr hq)⟩
    · refine ⟨undef, _, _, _, ⟨rfl, rfl⟩, hxx, rfl, hm.1, hm.2, .inr ⟨rfl, ?_⟩⟩
      have hcs := cy_ (ac.eval y)
      have hle2 : (cellsL (ac.eval y)).length = i.size := by omega
      have hx2 : ac.eval x = .pointer (some ⟨gb, 0 + q * s, none⟩) := hst.plain hx
      simp [execOp, hx2, Instr.storeAt, Instr.sureAddr, storeVar, Sem.run_bind, hcs, h2, hle2, hrun, Result.andThen]
      (simp only [Nat.zero_add] at hrun; simp [hle2, hrun])
    · have h5 := hown.1
      simp only [List.length_append, List.length_take, List.length_drop, List.length_set]
      omega
    · simp only [List.size_toArray, List.length_append, List.length_take, List.length_drop]
      omega
    · rw [List.length_set]
      simpa using hnew
end
section
variable {P : Program} {n : Nat} {W : Wd} {σ τ : Blks} {l : Slots} {X : List Nat} {x y z : Operand} {d : Option Nat} {ty t : TypeId} {pos : String} {aft : Array Edge} {g : Option (Nat × Bool)} {s : ByteArray} {k k' : IntKind} {r r' : Int} {q q' b p : Nat}
theorem aG_ (hu : P.underlying t = some .string) (hx : look l x = some (.v (.string s))) (hy : look l y = some (.v (.int k r))) (hr : r = (q : Nat)) (hq : q ≤ s.size) :
    Val P n W σ l X ⟨d, .slice t x (some y) none none, ty, pos, aft, g⟩ (.v (.string (s.extract q s.size))) := fun a w hs _ => by
  subst hr
  refine ⟨_, rfl, fun w' _ => ?_⟩
  simp [execOp, Instr.sliceAt, Instr.slice, Instr.sliceBounds, Instr.sliceBound, asIntOf, hs.plain hx, hs.plain hy, run_underlying hu, Sem.run_bind, Result.andThen, hq]
theorem ck_ (hu : P.underlying t = some .string) (hx : look l x = some (.v (.string s))) (hy : look l y = some (.v (.int k r))) (hr : r = (q : Nat)) (hq : q ≤ s.size) :
    Val P n W σ l X ⟨d, .slice t x none (some y) none, ty, pos, aft, g⟩ (.v (.string (s.extract 0 q))) := fun a w hs _ => by
  subst hr
  refine ⟨_, rfl, fun w' _ => ?_⟩
  simp [execOp, Instr.sliceAt, Instr.slice, Instr.sliceBounds, Instr.sliceBound, asIntOf, hs.plain hx, hs.plain hy, run_underlying hu, Sem.run_bind, Result.andThen, hq]
def iterPc (b : Nat) (s : ByteArray) (p : Nat) : Pc where
  ids := [b]
  p := fun _ w => w.heap[b]? = some (.stringIter s p)
  carry := fun _ _ _ _ _ hs h => (hs b (by simp)).trans h
  lt := fun _ _ h k hk => by simp at hk; subst hk; exact bY_ h
theorem hm_ (hx : look l x = some (.v (.string s))) (hu : P.underlying t = some .string) : Eff P n W σ l [] ⟨d, .range t x, ty, pos, aft, g⟩ fun u τ' => ∃ b, u = ptr b ∧ τ' = .pc (iterPc b s 0) :: σ := fun a w hs => by
  have hx1 : Ext [] w (w.alloc (.stringIter s 0)) := (Ext.refl w).alloc _
  have h4 := hs.mem.new (y := .pc (iterPc w.heap.size s 0)) hx1 (by simp [It.mids, iterPc]) (by simp [It.mids, iterPc]) rfl (fun _ => heap_alloc_new w _)
  refine ⟨_, _, _, _, ⟨w.heap.size, rfl, rfl⟩, hx1, rfl, h4.1, h4.2, .inl ?_⟩
  simp only [execOp, Instr.range, hs.plain hx, Sem.run_bind, Sem.run_pure, Result.andThen_ok, run_underlying hu, newObj]
  rfl
theorem ia_ (hx : look l x = some (ptr b)) (hu : Upd (.pc (iterPc b s p)) (.pc (iterPc b s (p + (Utf8.decode s p).2))) σ τ) (hp : p < s.size) :
    Eff P n W σ l [b] ⟨d, .next x true, ty, pos, aft, g⟩ fun u τ' => u = .tup [boo true, int (p : Nat), .v (.int .i32 ((Utf8.decode s p).1 : Nat))] ∧ τ' = τ := fun a w hs => by
  have hb : w.heap[b]? = some (.stringIter s p) := hs.mem.hold _ hu.mem
  have hlt := bY_ hb
  have h3 : Ext [b] w { w with heap := w.heap.setIfInBounds b (.stringIter s (p + (Utf8.decode s p).2)) } := Proofs.YtickdhjljpnlpaaGreatDoor.Ext.setObj_ w b _
  have h4 := hs.mem.upd hu (h3.mono (by simp [It.mids, iterPc])) (by simp [It.mids, iterPc]) (fun k hk => .inl hk) rfl (fun _ => by
    show (w.heap.setIfInBounds b _)[b]? = _
    simp [hlt])
  refine ⟨_, _, _, _, ⟨rfl, rfl⟩, h3, ⟨[_, _, _], rfl, _, _, rfl, rfl, _, _, rfl, rfl, _, _, rfl, rfl, rfl⟩, h4.1, h4.2, .inl ?_⟩
  simp only [execOp, Instr.next, hs.plain hx, Sem.run_bind, Sem.run_pure, Result.andThen_ok, Proofs.YtickdhjljpnlpaaGreatDoor.es_ hb, if_pos hp, Proofs.YtickdhjljpnlpaaGreatDoor.hq_ hb, goInt]
theorem e6_ (hx : look l x = some (ptr b)) (hb : It.pc (iterPc b s p) ∈ σ) (hbX : b ∉ X) (hp : ¬ p < s.size) :
    Val P n W σ l X ⟨d, .next x true, ty, pos, aft, g⟩ (.tup [boo false]) := fun a w hs _ => by
  have h1 : w.heap[b]? = some (.stringIter s p) := hs.mem.hold _ hb
  refine ⟨.tuple #[.bool false], ⟨[_], rfl, _, _, rfl, rfl, rfl⟩, fun w' hw' => ?_⟩
  have h2 : w'.heap[b]? = some (.stringIter s p) := (hw'.block b (bY_ h1) hbX).trans h1
  simp only [execOp, Instr.next, hs.plain hx, Sem.run_bind, Sem.run_pure, Result.andThen_ok, Proofs.YtickdhjljpnlpaaGreatDoor.es_ h2, if_neg hp]
theorem jI_ {ops : Array Oper} {rest : List Oper} {Q : Exit → Act → World → Prop} (hx : look l x = some (ptr b)) (hb : It.pc (iterPc b s p) ∈ σ) (hg : gd ops l ⟨d, .next x true, ty, pos, aft, g⟩ = some true) (hd : lt? d n = true)
    (hyes : p < s.size → ∃ τ, Upd (.pc (iterPc b s p)) (.pc (iterPc b s (p + (Utf8.decode s p).2))) σ τ ∧ SL P ops rest (St n W τ (put? l d (.tup [boo true, int (p : Nat), .v (.int .i32 ((Utf8.decode s p).1 : Nat))]))) Q)
    (hno : ¬ p < s.size → SL P ops rest (St n W σ (put? l d (.tup [boo false]))) Q) : SL P ops (⟨d, .next x true, ty, pos, aft, g⟩ :: rest) (St n W σ l) Q := by
  by_cases h : p < s.size
  · obtain ⟨τ, hu, hk⟩ := hyes h
    exact a0_ (ia_ hx hu h) hg hd (by rintro _ _ ⟨rfl, rfl⟩; exact hk)
  · exact b_ (e6_ hx hb List.not_mem_nil h) hg hd (hno h)
theorem Val.neIf {u : Value} {c : Bool} {ms : Array (String × TypeId)} {t' : TypeId} (hi : P.underlying t = some (.interface ms)) (hx : look l x = some (.v u)) (hc : (c = false ∧ u = .nilIface) ∨ (c = true ∧ ∃ tp A, u = .iface tp A)) :
    Val P n W σ l X ⟨d, .binOp .neq t x (.const .nilIface) t', ty, pos, aft, g⟩ (boo c) := fun a w hs _ => by
  refine ⟨_, rfl, fun w' _ => ?_⟩
  have h1 := hs.plain hx
  have e : a.eval (.const .nilIface) = .nilIface := rfl
  rcases hc with ⟨rfl, rfl⟩ | ⟨rfl, tp, A, rfl⟩
  · have h : ∀ d : Nat, (Op.equalIn (d + 1) t .nilIface .nilIface).run P w' = .ok true w' := fun d => by simp [Op.equalIn, run_underlying hi]
    have h3 : (binOp .neq t .nilIface .nilIface).run P w' = .ok (.bool false) w' := by
      simp only [binOp]
      simp [Op.equal, Op.maxDepth, h 9999]
    simp [execOp, h1, e, eqGuard, h3]
  · have h : ∀ d : Nat, (Op.equalIn (d + 1) t (.iface tp A) .nilIface).run P w' = .ok false w' := fun d => by simp [Op.equalIn, run_underlying hi]
    have h3 : (binOp .neq t (.iface tp A) .nilIface).run P w' = .ok (.bool true) w' := by
      simp only [binOp]
      simp [Op.equal, Op.maxDepth, h 9999]
    simp [execOp, h1, e, eqGuard, h3]
end
/-! ### Texts as rows of bytes -/
abbrev tx (s : ByteArray) : List UInt8 := s.data.toList
theorem an_ (s : ByteArray) : (tx s).length = s.size := rfl
theorem tx_lo (s : ByteArray) (q : Nat) : tx (s.extract q s.size) = (tx s).drop q := by
  unfold tx
  rw [ByteArray.data_extract, Array.toList_extract]
  rw [List.extract_eq_take_drop]
  exact List.take_of_length_le (by rw [List.length_drop]; exact Nat.le_refl _)
theorem tx_hi (s : ByteArray) (q : Nat) : tx (s.extract 0 q) = (tx s).take q := by
  unfold tx
  rw [ByteArray.data_extract, Array.toList_extract]
  rw [List.extract_eq_take_drop]
  simp
theorem ek_ {s r : ByteArray} (h : tx s = tx r) : s = r := by
  cases s; cases r
  simp [tx] at h
  simp [h]
theorem fL_ (l : List UInt8) : tx ⟨l.toArray⟩ = l := by simp [tx]
end Go.Proofs.YtickdhjljpnlpaaGreatDoor.A
namespace Go.Proofs.YtickdhjljpnlpaaGreatDoor
open Go.RowKit
section
variable {α β : Type} [DecidableEq α]
def aget (m : List (α × β)) (a : α) : Option β := (m.find? fun p => decide (p.1 = a)).map (·.2)
def adel (m : List (α × β)) (a : α) : List (α × β) := m.filter fun p => decide (p.1 ≠ a)
theorem hZ_ (m : List (α × β)) (a : α) : (aget m a).isSome = true ↔ a ∈ m.map (·.1) := by
  unfold aget
  rw [Option.isSome_map, List.find?_isSome]
  simp
theorem e1_ (m : List (α × β)) (a : α) : aget m a = none ↔ a ∉ m.map (·.1) := by
  rw [← hZ_]
  cases aget m a <;> simp
end
structure KeyFit {α : Type} (P : Program) (k : TypeId) (K : α → Value) (Good : α → Prop) : Prop where
  keyed : Maps.Keyed P k
  lit : ∀ a, Good a → ∃ l, keyOf P k (K a) = some l
  inj : ∀ a b, Good a → Good b → K a = K b → a = b
def MapOf {α β : Type} (w : World) (b : Nat) (K : α → Value) (V : β → Value) (Good : α → Prop) (m : List (α × β)) : Prop :=
  ∃ es clock, w.heap[b]? = some (.map es clock) ∧ es.toList.map (fun e => (e.key, e.val)) = m.map (fun p => (K p.1, V p.2)) ∧ (m.map (·.1)).Nodup ∧ (∀ p ∈ m, Good p.1) ∧
    (∀ e ∈ es.toList, e.born < clock) ∧ (es.toList.map (·.born)).Nodup
section
variable {α β : Type} {P : Program} {w w' : World} {b : Nat} {k e t : TypeId} {K : α → Value} {V : β → Value} {Good : α → Prop} {m : List (α × β)}
theorem MapOf.lt (h : MapOf w b K V Good m) : b < w.heap.size := by
  obtain ⟨es, clock, hb, _⟩ := h
  rcases Nat.lt_or_ge b w.heap.size with hlt | hge
  · exact hlt
  · rw [Array.getElem?_eq_none hge] at hb; cases hb
theorem MapOf.ext {F : List Nat} (h : MapOf w b K V Good m) (hx : Ext F w w') (hb : b ∉ F) : MapOf w' b K V Good m := by
  have hl := h.lt
  obtain ⟨es, clock, h1, h2⟩ := h
  exact ⟨es, clock, (hx.block b hl hb).trans h1, h2⟩
theorem MapOf.new (w : World) : MapOf (w.alloc (.map #[] 0)) w.heap.size K V Good [] :=
  ⟨#[], 0, heap_alloc_new w _, rfl, by simp, by simp, by simp, by simp⟩
theorem MapOf.alloc (h : MapOf w b K V Good m) (o : Obj) : MapOf (w.alloc o) b K V Good m := h.ext ((Ext.refl (F := []) _).alloc _) (by simp)
theorem MapOf.nodup (h : MapOf w b K V Good m) : (m.map (·.1)).Nodup := by obtain ⟨_, _, _, _, h, _⟩ := h; exact h
variable [DecidableEq α]
end
theorem laid : laidOutB Tryz.prog = true := by kernel_rfl
def k8 (k : Int) : Nat := (k % 256).toNat
end Go.Proofs.YtickdhjljpnlpaaGreatDoor
namespace Go.Proofs.YtickdhjljpnlpaaGreatDoor.A
open Go.RowKit
theorem map_same {α β : Type} {w w' : World} {b : Nat} {K : α → Value} {V : β → Value} {Good : α → Prop} {m : List (α × β)} (h : MapOf w b K V Good m) (hb : w'.heap[b]? = w.heap[b]?) : MapOf w' b K V Good m := by
  obtain ⟨es, clock, h1, h2⟩ := h
  exact ⟨es, clock, hb.trans h1, h2⟩
def mapPc {α β : Type} (b : Nat) (K : α → Value) (V : β → Value) (Good : α → Prop) (m : List (α × β)) : Pc where
  ids := [b]
  p := fun _ w => MapOf w b K V Good m
  carry := fun _ _ _ _ _ hs h => map_same h (hs b (by simp))
  lt := fun _ _ h k hk => by simp at hk; subst hk; exact h.lt
section
variable {P : Program} {n : Nat} {W : Wd} {σ τ : Blks} {l : Slots} {X : List Nat} {x y z : Operand} {d : Option Nat} {ty t k e : TypeId} {pos : String} {aft : Array Edge} {g : Option (Nat × Bool)} {b : Nat} {A B C : Abs}
variable {α β : Type} [DecidableEq α] {K : α → Value} {V : β → Value} {Good : α → Prop} {m : List (α × β)} {a : α} {v : β} {zv : Value}
omit [DecidableEq α] in
theorem mem_map {w0 w : World} {F G : List Nat} {σ : Blks} (h : Mem w0 F G σ w) (hb : It.pc (mapPc b K V Good m) ∈ σ ∨ It.rdpc (mapPc b K V Good m) ∈ σ) : MapOf w b K V Good m := by
  rcases hb with hb | hb
  · exact h.hold _ hb
  · exact h.hold _ hb
end
def blkP (b : Nat) (t : TypeId) (cs : List Abs) : Pc where
  ids := [b]
  p := fun K w => ∃ us, w.heap[b]? = some (row t us) ∧ reps K w cs us
  carry := fun K w K' w' hc hs ⟨us, h1, h2⟩ => ⟨us, (hs b (by simp)).trans h1, aO_ hc _ _ h2⟩
  lt := fun K w ⟨us, h1, _⟩ k hk => by
    simp at hk
    subst hk
    exact bY_ h1
def bigP (l : List Pc) : Pc where
  ids := l.flatMap Pc.ids
  p := fun K w => ∀ c ∈ l, c.p K w
  carry := fun K w K' w' hc hs h c hm => c.carry K w K' w' hc (fun k hk => hs k (List.mem_flatMap.2 ⟨c, hm, hk⟩)) (h c hm)
  lt := fun K w h k hk => by
    obtain ⟨c, hm, hk⟩ := List.mem_flatMap.1 hk
    exact c.lt K w (h c hm) k hk
section
variable {w0 w : World} {F G : List Nat} {α β xs ys : Blks}
theorem Mem.regroup {zs : List Nat} (hp : (mids xs).Perm (mids ys ++ zs)) (hr : ∀ y ∈ ys, y.rids = []) (hh : ∀ K, (∀ x ∈ xs, x.holds K w) → ∀ y ∈ ys, y.holds K w) (h : Mem w0 F G (α ++ (xs ++ β)) w) :
    Mem w0 F G (α ++ (ys ++ β)) w ∧ Carry (mids (α ++ (xs ++ β)) ++ G) w (mids (α ++ (ys ++ β)) ++ G) w := by
  have hsub : ∀ k ∈ mids ys, k ∈ mids xs := fun k hk => hp.mem_iff.2 (List.mem_append_left _ hk)
  refine h.step (Y := []) (Ext.refl w) (by simp) (fun k hk => ?_) (fun x hx => ?_) ?_ fun hc x hx => ?_
  · simp only [ak_, List.mem_append] at hk ⊢
    rcases hk with hk | hk | hk
    · exact .inl (.inl hk)
    · exact .inl (.inr (.inl (hsub k hk)))
    · exact .inl (.inr (.inr hk))
  · simp only [List.mem_append] at hx
    rcases hx with hx | hx | hx
    · exact h.ro x (by simp [hx])
    · rw [hr x hx]; simp
    · exact h.ro x (by simp [hx])
  · have hn := h.nodup
    simp only [ak_] at hn ⊢
    have h2 : (mids α ++ (mids xs ++ mids β)).Perm ((mids α ++ (mids ys ++ mids β)) ++ zs) := by
      rw [List.append_assoc, List.append_assoc]
      refine List.Perm.append_left _ ?_
      refine (hp.append_right _).trans ?_
      rw [List.append_assoc]
      exact List.Perm.append_left _ List.perm_append_comm
    exact (List.nodup_append.1 (h2.nodup_iff.1 hn)).1
  · simp only [List.mem_append] at hx
    rcases hx with hx | hx | hx
    · exact h.keep (Y := []) (Ext.refl w) hc (by simp [hx]) (by simp) (by simp)
    · exact hh _ (fun z hz => h.keep (Y := []) (Ext.refl w) hc (by simp [hz]) (by simp) (by simp)) x hx
    · exact h.keep (Y := []) (Ext.refl w) hc (by simp [hx]) (by simp) (by simp)
end
section
variable {P : Program} {n : Nat} {W : Wd} {σ τ : Blks} {l : Slots} {X : List Nat} {ops : Array Oper} {rest : List Oper} {Q : Exit → Act → World → Prop} {ix : Plan} {α β xs ys : Blks}
structure Re (xs ys : Blks) : Prop where
  ids : ∃ zs : List Nat, (mids xs).Perm (mids ys ++ zs)
  rd : ∀ y ∈ ys, y.rids = []
  hh : ∀ K w, (∀ x ∈ xs, x.holds K w) → ∀ y ∈ ys, y.holds K w
theorem St.re {a : Act} {w : World} (hr : Re xs ys) (hσ : σ = α ++ (xs ++ β)) (hτ : τ = α ++ (ys ++ β)) (h : St n W σ l a w) : St n W τ l a w := by
  subst hσ hτ
  obtain ⟨zs, hz⟩ := hr.ids
  have h1 := h.mem.regroup hz hr.rd (fun K => hr.hh K w)
  exact h.to h1.1 h1.2
theorem hl_ {c : Code} (α : Blks) {β : Blks} (hr : Re xs ys) (hσ : σ = α ++ (xs ++ β)) (k : SC P c (St n W (α ++ (ys ++ β)) l) Q) : SC P c (St n W σ l) Q := fun a w h => k a w (h.re hr hσ rfl)
theorem SL.re (α : Blks) {β : Blks} (hr : Re xs ys) (hσ : σ = α ++ (xs ++ β)) (k : SL P ops rest (St n W (α ++ (ys ++ β)) l) Q) : SL P ops rest (St n W σ l) Q := fun a w h => k a w (h.re hr hσ rfl)
theorem cm_ {ex : Exit} (α : Blks) {β : Blks} (hr : Re xs ys) (hσ : σ = α ++ (xs ++ β)) (k : SE ex (St n W (α ++ (ys ++ β)) l) Q) : SE ex (St n W σ l) Q := fun a w h => k a w (h.re hr hσ rfl)
end
theorem Re.refl {xs : Blks} (h : ∀ x ∈ xs, x.rids = []) : Re xs xs := ⟨⟨[], by simp⟩, h, fun _ _ h => h⟩
theorem Re.trans {xs ys zs : Blks} (h : Re xs ys) (k : Re ys zs) : Re xs zs where
  ids := by
    obtain ⟨a, ha⟩ := h.ids
    obtain ⟨b, hb⟩ := k.ids
    exact ⟨b ++ a, ha.trans ((hb.append_right a).trans (by rw [List.append_assoc]))⟩
  rd := k.rd
  hh := fun K w hx => k.hh K w (h.hh K w hx)
theorem Re.out {l1 l2 : List Pc} {c : Pc} : Re [.pc (bigP (l1 ++ c :: l2))] [.pc c, .pc (bigP (l1 ++ l2))] where
  ids := ⟨[], by
    simp only [mids, List.flatMap_cons, List.flatMap_nil, It.mids, bigP, List.flatMap_append, List.append_nil]
    exact List.perm_append_comm_assoc _ _ _⟩
  rd := by simp [It.rids]
  hh := fun K w h y hy => by
    have h1 : ∀ d ∈ l1 ++ c :: l2, d.p K w := h _ (List.mem_singleton.2 rfl)
    simp only [List.mem_cons, List.not_mem_nil, or_false] at hy
    rcases hy with rfl | rfl
    · exact h1 c (by simp)
    · intro d hd
      exact h1 d (by
        rcases List.mem_append.1 hd with hd | hd
        · simp [hd]
        · simp [hd])
end Go.Proofs.YtickdhjljpnlpaaGreatDoor.A
namespace Go.Proofs.YtickdhjljpnlpaaGreatDoor
open Go.RowKit
section
variable {α β : Type} [DecidableEq α] {P : Program} {w w' : World} {b : Nat} {k e t : TypeId} {K : α → Value} {V : β → Value} {Good : α → Prop} {m : List (α × β)}
theorem hh_ {m : List (α × β)} {a : α} (h : aget m a = none) : adel m a = m := by
  unfold adel
  rw [List.filter_eq_self]
  intro q hq
  simp only [decide_eq_true_eq]
  intro e
  rw [e1_] at h
  exact h (e ▸ List.mem_map.2 ⟨q, hq, rfl⟩)
end
end Go.Proofs.YtickdhjljpnlpaaGreatDoor
namespace Go.Proofs.YtickdhjljpnlpaaGreatDoor.A
open Go.RowKit
/-! ### Keys that are ints -/
abbrev bs (l : List UInt8) : List (List Abs) := l.map fun b => [Abs.v (bc b)]
def rot (x : Wo) (n : Nat) : Wo := x >>> n ||| x <<< (32 - n)
def mixW (x : Wo) (a b c : Nat) : Wo := rot x a ^^^ rot x b ^^^ rot x c
def byW (l : List UInt8) (i : Nat) : Wo := BitVec.ofNat 32 (l.getD i 0).toNat
def wordAt (l : List UInt8) (i : Nat) : Wo := byW l (4 * i + 0) <<< 24 ||| byW l (4 * i + 1) <<< 16 ||| byW l (4 * i + 2) <<< 8 ||| byW l (4 * i + 3)
def nextW (l : List Wo) (z : Nat) : Wo := l.getD z 0 + (rot (l.getD (z + 1) 0) 7 ^^^ rot (l.getD (z + 1) 0) 18 ^^^ l.getD (z + 1) 0 >>> 3) + l.getD (z + 9) 0 + (rot (l.getD (z + 14) 0) 17 ^^^ rot (l.getD (z + 14) 0) 19 ^^^ l.getD (z + 14) 0 >>> 10)
def sched0 (l : List UInt8) (k : Nat) : List Wo := (List.range k).map (wordAt l)
def grow (l : List Wo) : Nat → List Wo
  | 0 => l
  | k + 1 => grow l k ++ [nextW (grow l k) k]
def sched (l : List UInt8) : List Wo := grow (sched0 l 16) 48
def roundsL : List Wo := [0x428a2f98#32, 0x71374491#32, 0xb5c0fbcf#32, 0xe9b5dba5#32, 0x3956c25b#32, 0x59f111f1#32, 0x923f82a4#32, 0xab1c5ed5#32, 0xd807aa98#32, 0x12835b01#32, 0x243185be#32, 0x550c7dc3#32, 0x72be5d74#32, 0x80deb1fe#32, 0x9bdc06a7#32, 0xc19bf174#32, 0xe49b69c1#32, 0xefbe4786#32, 0x0fc19dc6#32, 0x240ca1cc#32, 0x2de92c6f#32, 0x4a7484aa#32, 0x5cb0a9dc#32, 0x76f988da#32, 0x983e5152#32, 0xa831c66d#32, 0xb00327c8#32, 0xbf597fc7#32, 0xc6e00bf3#32, 0xd5a79147#32, 0x06ca6351#32, 0x14292967#32, 0x27b70a85#32, 0x2e1b2138#32, 0x4d2c6dfc#32, 0x53380d13#32, 0x650a7354#32, 0x766a0abb#32, 0x81c2c92e#32, 0x92722c85#32, 0xa2bfe8a1#32, 0xa81a664b#32, 0xc24b8b70#32, 0xc76c51a3#32, 0xd192e819#32, 0xd6990624#32, 0xf40e3585#32, 0x106aa070#32, 0x19a4c116#32, 0x1e376c08#32, 0x2748774c#32, 0x34b0bcb5#32, 0x391c0cb3#32, 0x4ed8aa4a#32, 0x5b9cca4f#32, 0x682e6ff3#32, 0x748f82ee#32, 0x78a5636f#32, 0x84c87814#32, 0x8cc70208#32, 0x90befffa#32, 0xa4506ceb#32, 0xbef9a3f7#32, 0xc67178f2#32]
structure R8 where
  (a0 a1 a2 a3 e0 e1 e2 e3 : Wo)
def R8.a (r : R8) : List Wo := [r.a0, r.a1, r.a2, r.a3]
def R8.e (r : R8) : List Wo := [r.e0, r.e1, r.e2, r.e3]
def R8.l (r : R8) : List Wo := [r.a0, r.a1, r.a2, r.a3, r.e0, r.e1, r.e2, r.e3]
def firstR : R8 := ⟨0x6a09e667#32, 0xbb67ae85#32, 0x3c6ef372#32, 0xa54ff53a#32, 0x510e527f#32, 0x9b05688c#32, 0x1f83d9ab#32, 0x5be0cd19#32⟩
def t1W (r : R8) (k w : Wo) : Wo := r.e3 + mixW r.e0 6 11 25 + (r.e2 ^^^ (r.e0 &&& (r.e1 ^^^ r.e2))) + k + w
def t2W (r : R8) : Wo := mixW r.a0 2 13 22 + ((r.a0 &&& r.a1) ^^^ (r.a0 &&& r.a2) ^^^ (r.a1 &&& r.a2))
def rnd (r : R8) (k w : Wo) : R8 := ⟨t1W r k w + t2W r, r.a0, r.a1, r.a2, r.a3 + t1W r k w, r.e0, r.e1, r.e2⟩
def rnds (r : R8) (ws : List Wo) : Nat → R8
  | 0 => r
  | i + 1 => rnd (rnds r ws i) (roundsL.getD i 0) (ws.getD i 0)
def R8.add (r s : R8) : R8 := ⟨r.a0 + s.a0, r.a1 + s.a1, r.a2 + s.a2, r.a3 + s.a3, r.e0 + s.e0, r.e1 + s.e1, r.e2 + s.e2, r.e3 + s.e3⟩
def blockW (r : R8) (l : List UInt8) : R8 := r.add (rnds r (sched l) 64)
def blocks (r : R8) (l : List UInt8) : Nat → R8
  | 0 => r
  | k + 1 => blockW (blocks r l k) (l.drop (64 * k))
structure Sm where
  (r : R8) (rest : List UInt8) (n : Nat)
def Sm.new : Sm := ⟨firstR, [], 0⟩
def Sm.add (s : Sm) (l : List UInt8) : Sm := ⟨blocks s.r (s.rest ++ l) ((s.rest ++ l).length / 64), (s.rest ++ l).drop (64 * ((s.rest ++ l).length / 64)), s.n + l.length⟩
/-! ### Constants -/
abbrev ws (l : List Wo) : List (List Abs) := l.map fun p => [u32 p]
section
variable {P : Program} {n : Nat} {W : Wd} {σ τ : Blks} {l : Slots} {X : List Nat} {x y z : Operand} {d : Option Nat} {ty t t' e : TypeId} {pos : String} {aft : Array Edge} {g : Option (Nat × Bool)} {A : Abs} {tab : List (Nat × TI)} {ops : Array Oper} {Q : Exit → Act → World → Prop} {k : IntKind}
theorem ofInt8 (c : UInt8) : BitVec.ofInt IntKind.u8.bits ((c.toNat : Nat) : Int) = c.toBitVec := by
  show BitVec.ofInt 8 ((c.toBitVec.toNat : Nat) : Int) = _
  rw [BitVec.ofInt_natCast, BitVec.ofNat_toNat, BitVec.setWidth_eq]
theorem wrap8 (p : BitVec 8) : IntKind.u8.wrap (p.toNat : Nat) = (p.toNat : Nat) := by
  have := p.isLt
  simp only [IntKind.wrap, IntKind.bits, IntKind.signed]
  simp
  omega
theorem lc_ {c f : UInt8} (hx : look l x = some (.v (bc c))) (hy : look l y = some (.v (bc f))) : Val P n W σ l X ⟨d, .binOp .or t x y t', ty, pos, aft, g⟩ (.v (bc (c ||| f))) :=
  ee_ hx hy (fun w => by
    simp only [Op.intBits, ofInt8]
    exact congrArg (fun r => Result.ok (Value.int .u8 r) w) (wrap8 (c.toBitVec ||| f.toBitVec))) rfl
end
/-! ### Rows of words -/
end Go.Proofs.YtickdhjljpnlpaaGreatDoor.A
