/-
  Packed out of the texts: A6, A8, Law, Open, OpenBytes, AOpen, Names, Cores, ACor, A10, A11.
-/
import Derived.Test.YtmkijjmbiiiicaaB03
import Derived.Test.YtmkijjmbiiiicaaRows
import Derived.OpenShut
import Derived.SizedLaws
import Derived.Deep.Slices
/-
  The second engine: the contracts of octets, as they stand.
-/
set_option maxRecDepth 100000
set_option linter.unusedSimpArgs false
set_option linter.unusedVariables false
namespace Go.Proofs.Ytmkijjmbiiiicaa.A
open Go.RowKit

abbrev int (x : Int) : Abs := .v (.int .i64 x)
abbrev wrd (x : Nat) : Abs := .v (.int .u64 (x : Nat))
abbrev boo (b : Bool) : Abs := .v (.bool b)
abbrev ptr (b : Nat) : Abs := .v (.pointer (some ⟨b, 0, none⟩))
/-- A reader in a block. -/
abbrev rdA (T : TypeId) (p : Nat) (s : Rd) : It := .blk p T [byt s.l, int s.e]
section
variable {P : Program} {f : FuncId}
theorem reps_plain {K : List Nat} {w : World} : ∀ {us vs : List Value}, reps K w (us.map .v) vs ↔ vs = us
  | [], vs => Iff.rfl
  | u :: us, vs => by
    constructor
    · rintro ⟨u', us', h1, h2, h3⟩
      have h2 : u' = u := h2
      rw [h1, h2, reps_plain.1 h3]
    · rintro rfl; exact ⟨u, us, rfl, rfl, reps_plain.2 rfl⟩
/-- A function of readers, in general: what it answers turns on rows that are read. -/
theorem Spec.ofRdG {T p : Nat} {s t : Rd} {vals : List Value} {res : Abs} (h : ∀ (S : List (World × List Nat)) (σ2 : Proofs.Ytmkijjmbiiiicaa.Blks) (ρ : List Dt) (w : World) (v : Value), Proofs.Ytmkijjmbiiiicaa.Mem S (rdI T p ⟨v, s.l, s.e⟩ :: σ2) ρ w → bytesD v s.l ∈ ρ →
    Calls P f vals.toArray w fun e w' => ∃ r v' ρ', e = .returned r ∧ Proofs.Ytmkijjmbiiiicaa.Mem S (rdI T p ⟨v', t.l, t.e⟩ :: σ2) ρ' w' ∧ bytesD v' t.l ∈ ρ' ∧ ∀ K', (∀ x n cs, rowD x n cs ∈ ρ' → IsRow K' w' x n cs) → rep K' w' res r) : Spec P f (vals.map .v) [rdA T p s] (fun _ : Unit => [rdA T p t]) (fun _ => res) := fun G w vs hm hv => by
  have := reps_plain.1 hv
  subst this
  obtain ⟨us, hb, v, us', h1, h2, e, us2, h3, h4, h5⟩ := hm.hold (rdA T p s) (by simp)
  have h4 : e = .int .i64 s.e := h4
  have h5 : us2 = [] := h5
  subst h5 h4 h3 h1
  have h2 := rep_byt.1 h2
  have hpG : p ∉ G := hm.sep p (by simp [mids, It.mids])
  have hw2 : Proofs.Ytmkijjmbiiiicaa.Mem [(w, p :: G)] (rdI T p ⟨v, s.l, s.e⟩ :: [old2 w G]) [bytesD v s.l] w := by
    refine ⟨fun s hs => ?_, fun x hx k hk s hs => ?_, ?_, fun x hx => ?_, fun z hz => ?_⟩
    · rw [List.mem_singleton] at hs; subst hs; exact Ext.refl w
    · rw [List.mem_singleton] at hs
      subst hs
      rcases List.mem_cons.1 hx with rfl | hx
      · simp only [Proofs.Ytmkijjmbiiiicaa.It.ids, List.mem_singleton] at hk; exact .inl (by simp [hk])
      · rw [List.mem_singleton] at hx; subst hx
        exact .inl (List.mem_cons_of_mem _ (old2_ids.1 hk).2)
    · simp only [List.flatMap_cons, List.flatMap_nil, List.append_nil, List.nodup_append]
      refine ⟨by simp [Proofs.Ytmkijjmbiiiicaa.It.ids], List.Nodup.sublist List.filter_sublist List.nodup_range, fun a ha b hb he => ?_⟩
      simp only [Proofs.Ytmkijjmbiiiicaa.It.ids, List.mem_singleton] at ha
      subst ha he
      exact hpG (old2_ids.1 hb).2
    · rcases List.mem_cons.1 hx with rfl | hx
      · exact hb
      · rw [List.mem_singleton] at hx; subst hx; exact ⟨Nat.le_refl _, fun _ _ _ => rfl⟩
    · rw [List.mem_singleton] at hz; subst hz
      refine h2.grow fun k hk => .inl ?_
      simp only [List.flatMap_cons, List.flatMap_nil, List.append_nil, List.mem_append] at hk
      rcases hk with hk | hk
      · simp only [Proofs.Ytmkijjmbiiiicaa.It.ids, List.mem_singleton] at hk
        simp [mids, It.mids, hk]
      · simp [(old2_ids.1 hk).2]
  refine (h _ _ _ _ v hw2 (by simp)).mono fun e w' ⟨r, v', ρ', he, hm', hd, hd2⟩ => ?_
  have hx := hm'.ext (w, p :: G) (by simp)
  have ho : _ ∧ _ := hm'.hold (old2 w G) (by simp)
  have hx2 : Ext (mids [rdA T p s]) w w' := ⟨hx.os, hx.tape, hx.output, hx.size, fun k hk hn => by
    by_cases hK : k ∈ G
    · exact ho.2 k hk hK
    · exact hx.block k hk (by simp only [List.mem_cons, not_or]; exact ⟨by simpa [mids, It.mids] using hn, hK⟩)⟩
  have hb' : w'.heap[p]? = some (row T [v', .int .i64 t.e]) := hm'.holds (by simp)
  have hgrow : ∀ (x : Value) (m : Nat) (cs : List Value), rowD x m cs ∈ ρ' → IsRow (mids [rdA T p t] ++ G) w' x m cs := fun _ _ _ hd => (hm'.data hd).grow fun k hk => by
    simp only [List.mem_append] at hk
    refine .inl ?_
    simp only [List.flatMap_cons, List.flatMap_nil, List.append_nil, List.mem_append]
    rcases hk with hk | hk
    · exact .inl (by simpa [mids, It.mids, Proofs.Ytmkijjmbiiiicaa.It.ids] using hk)
    · exact .inr (old2_ids.2 ⟨hm.old k hk, hk⟩)
  refine ⟨(), r, he, by simp [It.rids], ⟨hx2, fun k hk => .inl hk, fun k hk hg => hpG (by simp [mids, It.mids] at hk; subst hk; exact hg), fun k hk => Nat.lt_of_lt_of_le (hm.old k hk) hx.size, by simp [It.rids], by simp [mids, It.mids], fun x hx => ?_⟩, hd2 _ hgrow⟩
  rw [List.mem_singleton] at hx; subst hx
  exact ⟨_, hb', _, _, rfl, rep_byt.2 (hgrow _ _ _ hd), _, _, rfl, rfl, rfl⟩
/-- A function of readers that answers a plain value. -/
theorem Spec.ofRd {T p : Nat} {s t : Rd} {vals : List Value} {u : Value} (h : ∀ (S : List (World × List Nat)) (σ2 : Proofs.Ytmkijjmbiiiicaa.Blks) (ρ : List Dt) (w : World) (v : Value), Proofs.Ytmkijjmbiiiicaa.Mem S (rdI T p ⟨v, s.l, s.e⟩ :: σ2) ρ w → bytesD v s.l ∈ ρ →
    Calls P f vals.toArray w fun e w' => ∃ v' ρ', e = .returned u ∧ Proofs.Ytmkijjmbiiiicaa.Mem S (rdI T p ⟨v', t.l, t.e⟩ :: σ2) ρ' w' ∧ bytesD v' t.l ∈ ρ') : Spec P f (vals.map .v) [rdA T p s] (fun _ : Unit => [rdA T p t]) (fun _ => .v u) :=
  Spec.ofRdG fun S σ2 ρ w v hw hd => (h S σ2 ρ w v hw hd).mono fun _ _ ⟨v', ρ', h1, h2, h3⟩ => ⟨u, v', ρ', h1, h2, h3, fun _ _ => rfl⟩
/-- A pure function of bytes. -/
theorem Pure.ofB {l out : List UInt8} {rest : List Value} (h : ∀ (S : List (World × List Nat)) (σ2 : Proofs.Ytmkijjmbiiiicaa.Blks) (ρ : List Dt) (w : World) (v : Value), Proofs.Ytmkijjmbiiiicaa.Mem S σ2 ρ w → bytesD v l ∈ ρ →
    Calls P f (v :: rest).toArray w fun e w' => ∃ r ρ', e = .returned r ∧ Proofs.Ytmkijjmbiiiicaa.Mem S σ2 ρ' w' ∧ bytesD r out ∈ ρ') : Pure P f (byt l :: rest.map .v) (byt out) := Pure.of2 fun K w vals hK hv => by
  obtain ⟨v, us', rfl, h1, h2⟩ := hv
  have := reps_plain.1 h2
  subst this
  refine (h _ _ _ _ v ((enter2 w K).add (z := bytesD v l) (row2 (rep_byt.1 h1))) (by simp)).mono fun e w' ⟨r, ρ', he, hm, hd⟩ => ⟨r, he, leave2 hm (by simp), rep_byt.2 (row3 hK ?_ (hm.data hd))⟩
  intro k hk hkK
  simp only [List.flatMap_cons, List.flatMap_nil, List.append_nil]
  exact old2_ids.2 ⟨hk, hkK⟩
theorem Pure.ofBB {l m out : List UInt8} (h : ∀ (S : List (World × List Nat)) (σ2 : Proofs.Ytmkijjmbiiiicaa.Blks) (ρ : List Dt) (w : World) (v r : Value), Proofs.Ytmkijjmbiiiicaa.Mem S σ2 ρ w → bytesD v l ∈ ρ → bytesD r m ∈ ρ →
    Calls P f #[v, r] w fun e w' => ∃ r ρ', e = .returned r ∧ Proofs.Ytmkijjmbiiiicaa.Mem S σ2 ρ' w' ∧ bytesD r out ∈ ρ') : Pure P f [byt l, byt m] (byt out) := Pure.of2 fun K w vals hK hv => by
  obtain ⟨v, us', rfl, h1, r, us2, rfl, h2, h3⟩ := hv
  have h3 : us2 = [] := h3
  subst h3
  refine (h _ _ _ _ v r (((enter2 w K).add (z := bytesD v l) (row2 (rep_byt.1 h1))).add (z := bytesD r m) (row2 (rep_byt.1 h2))) (by simp) (by simp)).mono fun e w' ⟨r, ρ', he, hm, hd⟩ => ⟨r, he, leave2 hm (by simp), rep_byt.2 (row3 hK ?_ (hm.data hd))⟩
  intro k hk hkK
  simp only [List.flatMap_cons, List.flatMap_nil, List.append_nil]
  exact old2_ids.2 ⟨hk, hkK⟩
end
section
variable {l m : List UInt8} {p : Nat} {s : Rd}
theorem put_s {x : Nat} {n : Int} (hl : l.length ≤ lots) (hx : x < 18446744073709551616) (hn : sizeB n = true) : Pure Try.prog 42 [byt l, wrd x, int n] (byt (l ++ beBytes x n.toNat)) :=
  Pure.ofB (rest := [_, _]) fun _ _ _ _ _ hw hd => (put_c hw (hw.bytes hd) hl hx hn).mono fun _ _ ⟨r, h1, h2⟩ => ⟨r, _, h1, h2, by simp⟩
theorem rput_s {x n : Nat} (hl : l.length + 8 ≤ lots) (hn : sizeB n = true) : Pure Try.prog 54 [byt l, wrd x, int n] (byt (l ++ beBytes x n)) :=
  Pure.ofB (rest := [_, _]) fun _ _ _ _ _ hw hd => (rput_c hw hd hl hn).mono fun _ _ ⟨r, h1, h2⟩ => ⟨r, _, h1, h2, by simp⟩
theorem row_s (hl : l.length + m.length + 4 ≤ lots) (hm : m.length < 4294967296) : Pure Try.prog 43 [byt l, byt m] (byt (l ++ beBytes m.length 4 ++ m)) :=
  Pure.ofBB fun _ _ _ _ _ _ hw hd hd2 => (oct_Row hw hd hd2 hl hm).mono fun _ _ ⟨r, h1, h2⟩ => ⟨r, _, h1, h2, by simp⟩
abbrev TR : Nat := 141
abbrev pv (p : Nat) : Value := .pointer (some ⟨p, 0, none⟩)
theorem as_mk (v : Value) (s : Rd) : (⟨v, s.l, s.e⟩ : Rd).as s := ⟨rfl, rfl⟩
/-- The reader's slice in sight or not. -/
theorem rdI_as {T : Nat} {s t : Rd} (h : s.as t) : rdI T p s = rdI T p ⟨s.v, t.l, t.e⟩ := by rw [rdI, rdI, h.2]
theorem number_s {n : Int} (hl : s.l.length ≤ lots) (hn : sizeB n = true) : Spec Try.prog 77 [ptr p, int n] [rdA TR p s] (fun _ : Unit => [rdA TR p (s.fixed n)]) (fun _ => wrd (s.num n)) :=
  Spec.ofRd (vals := [pv p, .int .i64 n]) fun _ _ _ _ v hw hd => (number_c hw .here hd hl hn).mono fun _ _ ⟨h1, h2⟩ => ⟨_, _, by rw [h1, (as_mk v s).num], rdI_as ((as_mk v s).fixed n) ▸ h2, by rw [← ((as_mk v s).fixed n).1]; simp⟩
theorem end_s : Spec Try.prog 70 [ptr p] [rdA TR p s] (fun _ : Unit => [rdA TR p s]) (fun _ => int s.end_) :=
  Spec.ofRd (vals := [pv p]) fun _ _ _ _ v hw hd => (end_c (s := ⟨v, s.l, s.e⟩) hw List.mem_cons_self hd).mono fun _ _ ⟨h1, h2⟩ => ⟨v, _, by rw [h1, (as_mk v s).end_], h2, hd⟩
/-- A reader of bytes, new. -/
theorem read_s (hl : l.length ≤ lots) : Spec Try.prog 67 [byt l] [] (fun p : Nat => [rdA TR p (Rd.of l)]) (fun p => ptr p) := fun G w vals hm hv => by
  obtain ⟨v, us', rfl, h1, h2⟩ := hv
  have h2 : us' = [] := h2
  subst h2
  refine (read_c ((enter2 w G).add (z := bytesD v l) (row2 (rep_byt.1 h1))) (by simp) hl).mono fun e w' ⟨p, z, he, hm2⟩ => ?_
  have hx := leave2 hm2 (by simp)
  have hb : w'.heap[p]? = some (row TR [z, .int .i64 0]) := hm2.holds (by simp)
  have hd := hm2.data (z := bytesD z l) (by simp)
  have hpn : w.heap.size ≤ p := by
    have h3 := hm2.out _ (List.mem_cons_self) p (by simp [Proofs.Ytmkijjmbiiiicaa.It.ids]) (w, G) (by simp)
    rcases h3 with h3 | h3
    · have h4 := hm2.nodup
      simp only [List.flatMap_cons, List.flatMap_nil, List.append_nil, List.nodup_append] at h4
      exact absurd rfl (h4.2.2 p (by simp [Proofs.Ytmkijjmbiiiicaa.It.ids]) p (old2_ids.2 ⟨hm.old p h3, h3⟩))
    · exact h3
  refine ⟨p, _, he, by simp [It.rids], ⟨hx, fun k hk => ?_, fun k hk hg => ?_, fun k hk => Nat.lt_of_lt_of_le (hm.old k hk) hx.size, by simp [It.rids], by simp [mids, It.mids], fun x hxm => ?_⟩, rfl⟩
  · simp [mids, It.mids] at hk; subst hk; exact .inr hpn
  · simp [mids, It.mids] at hk; subst hk; have := hm.old k hg; omega
  · rw [List.mem_singleton] at hxm; subst hxm
    refine ⟨_, hb, _, _, rfl, rep_byt.2 (hd.grow fun k hk => .inl ?_), _, _, rfl, rfl, rfl⟩
    simp only [List.flatMap_cons, List.flatMap_nil, List.append_nil, List.mem_append] at hk ⊢
    rcases hk with hk | hk
    · exact .inl (by simpa [mids, It.mids, Proofs.Ytmkijjmbiiiicaa.It.ids] using hk)
    · exact .inr (old2_ids.2 ⟨hm.old k hk, hk⟩)
end
end Go.Proofs.Ytmkijjmbiiiicaa.A
/-
  The second engine: arrays, copies, blocks that are only read from then on.
-/
set_option maxRecDepth 100000
set_option linter.unusedSimpArgs false
set_option linter.unusedVariables false
namespace Go.Proofs.Ytmkijjmbiiiicaa.A
open Go.RowKit

section
variable {P : Program} {n : Nat} {W : Wd} {σ τ : Blks} {l : Slots} {X : List Nat} {x y z : Operand} {d : Option Nat} {ty t t' e : TypeId} {pos : String} {aft : Array Edge} {g : Option (Nat × Bool)} {v u : Value} {k k' : IntKind} {a b : Nat} {o : Oper} {A B : Abs} {tab : List (Nat × TI)} {ops : Array Oper} {rest : List Oper} {Q : Exit → Act → World → Prop} {ix : Plan} {xs ys : List (List Abs)} {s q : Nat} {cs : List Abs}
theorem upd_self {x : It} {σ τ : Blks} (h : Upd x x σ τ) : τ = σ := by
  induction h with
  | here => rfl
  | there _ ih => rw [ih]
theorem SC.known {c : Code} {p : Prop} {T : Act → World → Prop} (h : ∀ a w, T a w → p) (k : p → SC P c T Q) : SC P c T Q := fun a w ha => k (h a w ha) a w ha
theorem SL.known {p : Prop} {T : Act → World → Prop} (h : ∀ a w, T a w → p) (k : p → SL P ops rest T Q) : SL P ops rest T Q := fun a w ha => k (h a w ha) a w ha
theorem reps_set {K : List Nat} {w : World} {z : Abs} : ∀ {ps : List Abs} {us : List Value} {o : Nat} {u : Value}, reps K w ps us → us[o]? = some u → rep K w z u → reps K w (putL ps o [z]) us
  | [], us, o, u, h, hu, _ => by have : us = [] := h; subst this; simp at hu
  | a :: ps, _, 0, u, ⟨x, us', h1, h2, h3⟩, hu, hz => by
    subst h1
    simp at hu
    subst hu
    exact ⟨x, us', rfl, hz, h3⟩
  | a :: ps, _, o + 1, u, ⟨x, us', h1, h2, h3⟩, hu, hz => by
    subst h1
    exact ⟨x, us', rfl, h2, reps_set h3 (by simpa using hu) hz⟩
/-- A row of the call's own, that a block's cell holds, is only read from then on. -/
theorem St.freezeC {a : Act} {w : World} {pre post : Blks} {o : Nat} (h : St n W (pre ++ own e s v xs :: post) l a w) (hu : Upd (.blk b t cs) (.blk b t (putL cs o [.sl s xs])) (pre ++ post) τ) (hv : cs[o]? = some (.v v)) : St n W τ l a w := by
  have hsub : (pre ++ post).Sublist (pre ++ own e s v xs :: post) := List.Sublist.append (List.Sublist.refl _) (List.sublist_cons_self _ _)
  have h1 := own_sl h.mem
  have h2 := h.less hsub
  obtain ⟨us, hb, hr⟩ := h2.mem.hold _ hu.mem
  obtain ⟨u, h3, h4⟩ := reps_get hr hv
  have h4 : u = v := h4
  subst h4
  have hm := h2.mem.upd hu (Ext.refl w) (by simp [It.mids]) (by simp [It.mids]) rfl fun hc => ⟨us, hb, reps_carry hc _ _ (reps_set hr h3 h1)⟩
  exact h2.to hm.1 hm.2
theorem SC.freezeC {c : Code} (pre : Blks) {post : Blks} (o : Nat) (hσ : σ = pre ++ own e s v xs :: post) (hu : Upd (.blk b t cs) (.blk b t (putL cs o [.sl s xs])) (pre ++ post) τ) (hv : cs[o]? = some (.v v)) (k : SC P c (St n W τ l) Q) : SC P c (St n W σ l) Q := by
  subst hσ; exact fun a w h => k a w (h.freezeC hu hv)
theorem SL.freezeC (pre : Blks) {post : Blks} (o : Nat) (hσ : σ = pre ++ own e s v xs :: post) (hu : Upd (.blk b t cs) (.blk b t (putL cs o [.sl s xs])) (pre ++ post) τ) (hv : cs[o]? = some (.v v)) (k : SL P ops rest (St n W τ l) Q) : SL P ops rest (St n W σ l) Q := by
  subst hσ; exact fun a w h => k a w (h.freezeC hu hv)
/-- The address of an element of an array in a block. -/
theorem Val.indexArP (hT : TabOk P tab) {i : TI} {m off : Nat} {r : Int} (hu : P.underlying t = some (.array m e)) (hi : ti tab e = some i) (hx : look l x = some (.v (.pointer (some ⟨b, off, none⟩)))) (hy : look l y = some (.v (.int k r))) (hr : r = (q : Nat)) (hq : q < m) (hm : Nat.ble m 1 = false) :
    Val P n W σ l X ⟨d, .indexAddr t x y, ty, pos, aft, g⟩ (.v (.pointer (some ⟨b, off + q * i.size, none⟩))) := fun a w hs _ => ⟨_, rfl, fun w' _ => by
  subst hr
  have h6 := (hT _ _ hi).sizeOf (w := w')
  have hq' : (q : Int) < (m : Nat) := by omega
  simp [execOp, Instr.indexAt, Instr.sureAddr, asIntOf, hs.plain hx, hs.plain hy, run_underlying hu, Sem.run_bind, Result.andThen, h6, hq, Addr.add_none]⟩
/-- A function that makes a row of bytes of its own. -/
theorem Spec.ofOwnB {f : FuncId} {args : List Abs} {out : List UInt8} {e : TypeId} (h : ∀ (K : List Nat) (w : World) (vals : List Value), (∀ k ∈ K, k < w.heap.size) → reps K w args vals →
    Calls P f vals.toArray w fun en w' => ∃ r ρ, en = .returned r ∧ Proofs.Ytmkijjmbiiiicaa.Mem [(w, K)] [.pc (Proofs.Ytmkijjmbiiiicaa.ownPc e 1 r out.length (out.map bc)), old2 w K] ρ w') : Spec P f args [] (fun r : Value => [own e 1 r (out.map fun b => [.v (bc b)])]) (fun r => .v r) := fun G w vals hm hv =>
  (h G w vals hm.old hv).mono fun en w' ⟨r, ρ, he, hm2⟩ => by
    have hx := leave2 hm2 (by simp)
    have how : w'.ownsRow 0 e 1 r out.length (out.map bc) := hm2.hold (.pc (Proofs.Ytmkijjmbiiiicaa.ownPc e 1 r out.length (out.map bc))) (by simp)
    have hnew : ∀ k ∈ r.ownBlock.toList, w.heap.size ≤ k := fun k hk => by
      have h3 := hm2.out _ (List.mem_cons_self) k (by simpa [Proofs.Ytmkijjmbiiiicaa.It.ids, Proofs.Ytmkijjmbiiiicaa.ownPc] using hk) (w, G) (by simp)
      rcases h3 with h3 | h3
      · have h4 := hm2.nodup
        simp only [List.flatMap_cons, List.flatMap_nil, List.append_nil, List.nodup_append] at h4
        exact absurd rfl (h4.2.2 k (by simpa [Proofs.Ytmkijjmbiiiicaa.It.ids, Proofs.Ytmkijjmbiiiicaa.ownPc] using hk) k (old2_ids.2 ⟨hm.old k h3, h3⟩))
      · exact h3
    refine ⟨r, r, he, by simp [It.rids], ⟨hx, fun k hk => .inr (hnew k ?_), fun k hk hg => ?_, fun k hk => Nat.lt_of_lt_of_le (hm.old k hk) hx.size, by simp [It.rids], ?_, fun x hxm => ?_⟩, rfl⟩
    · simpa [mids, It.mids, ownPc] using hk
    · have := hnew k (by simpa [mids, It.mids, ownPc] using hk)
      have := hm.old k hg
      omega
    · simp only [mids, List.flatMap_cons, List.flatMap_nil, List.append_nil]; exact own_nodup
    · rw [List.mem_singleton] at hxm; subst hxm
      refine ⟨out.map bc, by simpa using how, ?_⟩
      rw [byt_map]; exact repss_ones
end
/-- An array of bytes as cells. -/
def digA (d : List UInt8) : List Abs := d.map fun b => .v (bc b)
abbrev ints (xs : List Int) : Abs := .sl 1 (xs.map fun x => [int x])
theorem elems_one {s i : Nat} {cs : List Abs} (h : cs.length = s) : elems s [(i, .agg cs)] = some [cs] := by simp [elems, cellsA, h]
end Go.Proofs.Ytmkijjmbiiiicaa.A
/-
  From a walk that returns true and changes no old memory to the given statement, for any law without package variables.
-/
namespace Go.Proofs.Ytmkijjmbiiiicaa
open Go.ChangeShapes Go.WideShapes Go.ChangeAt Go.RowKit

theorem law_own : ownKnob Try.prog.godebug = none := by kernel_rfl
theorem law_laidOut : laidOutB Try.prog = true := by kernel_rfl

theorem trodAll_below {H : Type} {enc : TypeId × Value → H} {W W' : World} (hb : Below W.heap.size W W') :
    ∀ (ts : List TypeId) (vs : List Value) (ds : List (DataW H)) (p : List MemPlace), (∀ t ∈ ts, Try.prog.readableRec t = true ∧ t < Try.prog.types.size) →
      DataW.TrodAll enc Try.prog W 0 (fun _ => true) true ts vs ds p → ∃ q, DataW.TrodAll enc Try.prog W' 0 (fun b => decide (b < W.heap.size)) true ts vs ds q
  | [], [], [], p, _, h => ⟨p, h⟩
  | t :: ts, v :: vs, d :: ds, p, hr, h => by
    obtain ⟨p0, q0, h0, h1, rfl⟩ := h
    obtain ⟨q, hq⟩ := trodAll_below hb ts vs ds q0 (fun t ht => hr t (List.mem_cons_of_mem _ ht)) h1
    have lt0 : ∀ x ∈ p0, x.block < W.heap.size := by obtain ⟨m, hm⟩ := h0; exact DataW.trod_lt m _ _ _ hm
    exact ⟨p0 ++ q, p0, q, Below.trod law_laidOut (hr t List.mem_cons_self).1 (hr t List.mem_cons_self).2 h0 hb lt0, hq, rfl⟩
  | [], _ :: _, _, _, _, h => h.elim
  | [], [], _ :: _, _, _, h => h.elim
  | _ :: _, [], _, _, _, h => h.elim
  | _ :: _, _ :: _, [], _, _, h => h.elim

set_option maxRecDepth 100000 in
theorem law_lift {H : Type} {enc : TypeId × Value → H} {os : Os} (started : os.Started) {f : FuncId} {fn : Func} {s : ChangeSpec}
    (noInit : Try.prog.inits.idxOf? f = none) (hfn : Try.prog.funcs[f]? = some fn) (hvars : s.vars = []) (hres : fn.resultTypes = #[4])
    (hparB : (fn.params.toList.all fun t => Try.prog.readableRec t && decide (t < Try.prog.types.size)) = true)
    (hspec : ∀ ds : List (DataW H), ds.length = fn.params.size → s.fn H (ds ++ []) = { results := [.lit (.bool true)], args := ds })
    (wit : ∃ (w : World) (tape : Tape) (i : Input), w.os = os ∧ (w.forCall tape i).Shaped Try.prog ∧ i.vars = [] ∧ Input.okWide Try.prog (w.forCall tape i) .any w.heap.size f i ∧
      s.pre6 enc Try.prog fn [] false (w.forCall tape i).memory i.args ∧ Assume.holds {} Try.prog (lone (Frame.enter Try.prog f i.args .normal) [] (w.forCall tape i)))
    (walk : ∀ (W : World) (base : Nat) (args : Array Value) (ds : List (DataW H)) (p : List MemPlace),
      (∀ (j : Nat) t v, fn.params[j]? = some t → args[j]? = some v → Value.okWide Try.prog W .any base t v) →
      DataW.TrodAll enc Try.prog W 0 (fun _ => true) true fn.params.toList args.toList ds p →
      (DataW.weightsEach Try.prog fn.params.toList ds).all (· ≤ reachBytes) = true →
      Calls Try.prog f args W fun e W' => e = .returned (.bool true) ∧ Ext [] W W') :
    ReturnsInHanded {} Try.checked os f .any (s.pre6 enc Try.prog fn [] false) (s.post enc Try.prog fn false true false false) := by
  have hpar : ∀ t ∈ fn.params.toList, Try.prog.readableRec t = true ∧ t < Try.prog.types.size := by
    simpa only [List.all_eq_true, Bool.and_eq_true, decide_eq_true_eq] using hparB
  refine returnsInHanded_of_change_sized (C := Try.checked) law_own started noInit hfn wit ?_
  intro W base args ds gs before hval0 hW hcnd hsz _
  have hval : ∀ (j : Nat) t v, fn.params[j]? = some t → args[j]? = some v → Value.okWide Try.prog W .any base t v := hval0
  have hW' := hW
  obtain ⟨p, q, hA0, hV, rfl, hfz, hnd⟩ := hW
  have hA : DataW.TrodAll enc Try.prog W 0 (fun _ => true) true fn.params.toList args.toList ds p := hA0
  rw [hvars] at hV
  obtain ⟨rfl, rfl⟩ := trodVars_none hV
  have hsz' : (DataW.weightsEach Try.prog fn.params.toList ds).all (· ≤ reachBytes) = true := by
    have h2 := hsz
    simp only [ChangeSpec.plain, DataSpec.varTypes, hvars, List.filterMap_nil, List.append_nil] at h2
    exact h2
  refine (walk W base args ds p hval hA hsz').mono fun e W' ⟨he, bel⟩ => ?_
  subst he
  have hlen : ds.length = fn.params.size := by
    have : ∀ (ts : List TypeId) (vs : List Value) (ds : List (DataW H)) (p : List MemPlace), DataW.TrodAll enc Try.prog W 0 (fun _ => true) true ts vs ds p → ds.length = ts.length := by
      intro ts
      induction ts with
      | nil => intro vs ds p h; cases vs <;> cases ds <;> first | rfl | exact h.elim
      | cons t ts ih =>
        intro vs ds p h
        cases vs with
        | nil => exact h.elim
        | cons v vs =>
          cases ds with
          | nil => exact h.elim
          | cons d ds => obtain ⟨p0, q0, _, h1, _⟩ := h; simp [ih vs ds q0 h1]
    simpa using this _ _ _ _ hA
  obtain ⟨pa, hpa⟩ := trodAll_below (enc := enc) bel.below fn.params.toList args.toList ds p hpar hA
  refine ⟨_, rfl, ds, [], p ++ [], [], pa, [], hW', ?_, ?_, ?_, bel.below.frame _, fun h => by cases h⟩
  · rw [hspec ds hlen, hres]
    exact trodAll_mk1 (shut_bool Try.underlying4 _)
  · rw [hspec ds hlen]; exact hpa
  · rw [hspec ds hlen, hvars]; rfl

theorem spot_none {w : World} {b o : Nat} {s : Option Nat} {v : Value} (h : w.cell? ⟨b, o, s⟩ = some v) : s = none := by
  have := World.cell?_spot h
  simpa using this

end Go.Proofs.Ytmkijjmbiiiicaa
/-
  Arguments opened down to their cells: a struct, however deep, is its cells, each read by its own type.
-/
set_option maxRecDepth 100000
namespace Go.Proofs.Ytmkijjmbiiiicaa
open Go.RowKit Go.ChangeShapes Go.WideShapes Go.ChangeAt

/-- The types of a type's cells, in order. -/
def leaves (P : Program) : Nat → TypeId → Option (List TypeId)
  | 0, _ => none
  | d + 1, t =>
    match P.underlying t with
    | some (.struct fs) => fs.toList.foldlM (fun acc f => (leaves P d f.type).bind fun l => if f.offset = acc.length ∧ l.length = P.cellsOf f.type then some (acc ++ l) else none) []
    | some (.array n e) => (leaves P d e).bind fun l => if l.length = P.cellsOf e then some (List.replicate n l).flatten else none
    | some _ => some [t]
    | none => none

section
variable {H : Type} {enc : TypeId × Value → H} {P : Program} {w : World} {base : Nat} {spare : Nat → Bool} {held : Bool}

/-- Cell j reads by its own type. -/
def LeafAt (enc : TypeId × Value → H) (P : Program) (w : World) (base : Nat) (spare : Nat → Bool) (held : Bool) (u : TypeId) (v : Value) : Prop := ∃ n y, DataW.trod enc P w base spare held n u [v] = some y

theorem leaves_fields {d : Nat} {cs : List Value} {n : Nat}
    (ih : ∀ (t : TypeId) (ts : List TypeId) (fuel : Nat) (cs : List Value) (x : DataW H × List MemPlace), leaves P d t = some ts → ts.length = cs.length → DataW.trod enc P w base spare held fuel t cs = some x →
      ∀ (j : Nat) (v : Value) (u : TypeId), cs[j]? = some v → ts[j]? = some u → LeafAt enc P w base spare held u v) :
    ∀ (fs : List Field) (acc ts : List TypeId), (∀ f ∈ fs, ∃ y, DataW.trod enc P w base spare held n f.type ((cs.drop f.offset).take (P.cellsOf f.type)) = some y) →
      fs.foldlM (fun acc f => (leaves P d f.type).bind fun l => if f.offset = acc.length ∧ l.length = P.cellsOf f.type then some (acc ++ l) else none) acc = some ts →
      ts.length ≤ cs.length →
      (∀ (j : Nat) (v : Value) (u : TypeId), cs[j]? = some v → acc[j]? = some u → LeafAt enc P w base spare held u v) →
      (∀ (j : Nat) (v : Value) (u : TypeId), cs[j]? = some v → ts[j]? = some u → LeafAt enc P w base spare held u v) := by
  intro fs
  induction fs with
  | nil =>
    intro acc ts _ h _ ha
    simp at h
    subst h
    exact ha
  | cons f fs hfs =>
    intro acc ts hall h hlen ha
    simp only [List.foldlM_cons, Option.bind_eq_bind, Option.bind_eq_some_iff] at h
    obtain ⟨acc', ⟨l, hl, hif⟩, hrest⟩ := h
    split at hif
    · rename_i hc
      obtain ⟨ho, hlc⟩ := hc
      simp only [Option.some.injEq] at hif
      subst hif
      have hmono : ∀ (fs : List Field) (a b : List TypeId), fs.foldlM (fun acc f => (leaves P d f.type).bind fun l => if f.offset = acc.length ∧ l.length = P.cellsOf f.type then some (acc ++ l) else none) a = some b → a.length ≤ b.length := by
        intro fs
        induction fs with
        | nil => intro a b h; simp at h; subst h; exact Nat.le_refl _
        | cons f fs ih2 =>
          intro a b h
          simp only [List.foldlM_cons, Option.bind_eq_bind, Option.bind_eq_some_iff] at h
          obtain ⟨a', ⟨l, _, hif⟩, hr⟩ := h
          split at hif
          · simp only [Option.some.injEq] at hif
            subst hif
            have := ih2 _ _ hr
            simp at this
            omega
          · cases hif
      have hacc := hmono _ _ _ hrest
      refine hfs (acc ++ l) ts (fun g hg => hall g (List.mem_cons_of_mem _ hg)) hrest hlen ?_
      intro j v u hv hu
      rw [List.getElem?_append] at hu
      split at hu
      · exact ha j v u hv hu
      · rename_i hj
        obtain ⟨y, hy⟩ := hall f List.mem_cons_self
        rw [List.length_append] at hacc
        refine ih f.type l n _ y hl ?_ hy (j - acc.length) v u ?_ hu
        · rw [List.length_take, List.length_drop]; omega
        · have hjl : j - acc.length < l.length := (List.getElem?_eq_some_iff.1 hu).1
          rw [List.getElem?_take, if_pos (by omega), List.getElem?_drop, ho, show acc.length + (j - acc.length) = j by omega]
          exact hv
    · cases hif

theorem leaves_trod : ∀ (d : Nat) (t : TypeId) (ts : List TypeId) (fuel : Nat) (cs : List Value) (x : DataW H × List MemPlace), leaves P d t = some ts → ts.length = cs.length → DataW.trod enc P w base spare held fuel t cs = some x →
    ∀ (j : Nat) (v : Value) (u : TypeId), cs[j]? = some v → ts[j]? = some u → LeafAt enc P w base spare held u v := by
  intro d
  induction d with
  | zero => intro t ts fuel cs x h; simp [leaves] at h
  | succ d ih =>
    intro t ts fuel cs x h hlen ht
    unfold leaves at h
    split at h
    · rename_i fs hu
      obtain ⟨xs, n, _, _, hcl, hxl, hf⟩ := DataW.trod_struct hu ht
      refine leaves_fields (n := n) ih fs.toList [] ts ?_ h (by omega) (by simp)
      intro f hfm
      obtain ⟨i, hi, he⟩ := List.getElem_of_mem hfm
      have h1 := hf i f (by rw [← Array.getElem?_toList, List.getElem?_eq_getElem hi, he])
      have : i < xs.length := by rw [hxl]; simpa using hi
      exact ⟨xs[i], by rw [h1, List.getElem?_eq_getElem this]⟩
    · rename_i m e hu
      obtain ⟨xs, n, _, _, hcl, hxl, hf⟩ := DataW.trod_array hu ht
      simp only [Option.bind_eq_some_iff] at h
      obtain ⟨l, hl, hif⟩ := h
      split at hif
      · rename_i hc
        simp only [Option.some.injEq] at hif
        subst hif
        intro j v u hv hu'
        have hjl : j < (List.replicate m l).flatten.length := (List.getElem?_eq_some_iff.1 hu').1
        have hfl : ∀ k, (List.replicate k l).flatten.length = k * l.length := by
          intro k; simp
        rw [hfl] at hjl
        have hl0 : 0 < l.length := by
          rcases Nat.eq_zero_or_pos l.length with h0 | h0
          · rw [h0] at hjl; simp at hjl
          · exact h0
        have hi : j / l.length < m := by rw [Nat.div_lt_iff_lt_mul hl0]; exact hjl
        have hmod := Nat.mod_lt j hl0
        have hjd := Nat.div_add_mod j l.length
        have hget : ∀ (k j : Nat), j < k * l.length → (List.replicate k l).flatten[j]? = l[j % l.length]? := by
          intro k
          induction k with
          | zero => intro j hj; simp at hj
          | succ k ihk =>
            intro j hj
            rw [List.replicate_succ, List.flatten_cons, List.getElem?_append]
            split
            · rename_i h1; rw [Nat.mod_eq_of_lt h1]
            · rename_i h1
              rw [ihk (j - l.length) (by rw [Nat.succ_mul] at hj; omega)]
              rw [← Nat.mod_eq_sub_mod (show l.length ≤ j by omega)]
        rw [hget m j hjl] at hu'
        have h1 := hf (j / l.length) hi
        have hxi : j / l.length < xs.length := by omega
        rw [List.getElem?_eq_getElem hxi] at h1
        have hsz : (j / l.length) * P.cellsOf e + P.cellsOf e ≤ cs.length := by
          rw [← hlen, hfl, ← hc]
          calc (j / l.length) * l.length + l.length = (j / l.length + 1) * l.length := by rw [Nat.succ_mul]
            _ ≤ m * l.length := Nat.mul_le_mul_right _ hi
        refine ih e l n _ _ hl ?_ h1 (j % l.length) v u ?_ hu'
        · rw [List.length_take, List.length_drop]; omega
        · rw [List.getElem?_take, if_pos (by omega), List.getElem?_drop, ← hc, ← hv]
          congr 1
          rw [Nat.mul_comm]; exact hjd
      · cases hif
    · rename_i hu1 hu2 hs
      simp only [Option.some.injEq] at h
      subst h
      intro j v u hv hu'
      have hc1 : cs.length = 1 := by simpa using hlen.symm
      match cs, hc1 with
      | [c], _ =>
        match j with
        | 0 =>
          simp at hv hu'
          subst hv; subst hu'
          exact ⟨fuel, x, ht⟩
        | j + 1 => simp at hv
    · cases h
theorem LeafAt.int {u : TypeId} {v : Value} {k : IntKind} (h : LeafAt enc P w base spare held u v) (hu : P.underlying u = some (.int k)) : ∃ n, v = .int k n ∧ (Lit.int k n).wf = true := by
  obtain ⟨n, y, hy⟩ := h
  obtain ⟨m, h1, _, h2⟩ := DataW.trod_int hu hy
  simp at h1
  exact ⟨m, h1, h2⟩
theorem LeafAt.string {u : TypeId} {v : Value} (h : LeafAt enc P w base spare held u v) (hu : P.underlying u = some .string) : ∃ s, v = .string s ∧ s.size ≤ maxLen := by
  obtain ⟨n, y, hy⟩ := h
  obtain ⟨m, h1, _, h2⟩ := DataW.trod_string hu hy
  simp at h1
  exact ⟨m, h1, h2⟩
theorem LeafAt.bool {u : TypeId} {v : Value} (h : LeafAt enc P w base spare held u v) (hu : P.underlying u = some .bool) : ∃ b, v = .bool b := by
  obtain ⟨n, y, hy⟩ := h
  obtain ⟨m, h1, _⟩ := DataW.trod_bool hu hy
  simp at h1
  exact ⟨m, h1⟩

theorem flatten_get {α : Type} {sz : Nat} (h0 : 0 < sz) : ∀ (xs : List (List α)), (∀ x ∈ xs, x.length = sz) → ∀ j, xs.flatten[j]? = (xs[j / sz]?).bind fun x => x[j % sz]? := by
  intro xs
  induction xs with
  | nil => intro _ j; simp
  | cons x xs ih =>
    intro hx j
    have hxl := hx x List.mem_cons_self
    rw [List.flatten_cons, List.getElem?_append]
    split
    · rename_i h1
      rw [Nat.div_eq_of_lt (by omega), Nat.mod_eq_of_lt (by omega)]
      simp
    · rename_i h1
      rw [ih (fun y hy => hx y (List.mem_cons_of_mem _ hy)), hxl]
      have h2 : j / sz = (j - sz) / sz + 1 := by
        rw [Nat.div_eq_sub_div h0 (by omega)]
      rw [h2, List.getElem?_cons_succ, ← Nat.mod_eq_sub_mod (show sz ≤ j by omega)]
theorem flatten_length {α : Type} {sz : Nat} : ∀ (xs : List (List α)), (∀ x ∈ xs, x.length = sz) → xs.flatten.length = xs.length * sz := by
  intro xs
  induction xs with
  | nil => intro _; simp
  | cons x xs ih =>
    intro hx
    rw [List.flatten_cons, List.length_append, ih (fun y hy => hx y (List.mem_cons_of_mem _ hy)), hx x List.mem_cons_self, List.length_cons, Nat.succ_mul, Nat.add_comm]
theorem add_eq (b off : Nat) (j : Nat) : (⟨b, off, none⟩ : Addr).add j = ⟨b, off + j, none⟩ := by
  unfold Addr.add
  split
  · rename_i h0; subst h0; rfl
  · rfl

/-- A slice that came in: its row, element by element: each element's cells read by the element's type. -/
theorem open_row {t e : TypeId} {fuel : Nat} {A : Option Addr} {n c : Nat} {x : DataW H × List MemPlace} (ht : P.underlying t = some (.slice e)) (h : DataW.trod enc P w base spare held fuel t [.slice A n c] = some x) :
    n ≤ c ∧ c ≤ maxLen ∧ ∃ xs : List (List Value), xs.length = n ∧ (∀ cs ∈ xs, cs.length = P.cellsOf e ∧ ∃ m y, DataW.trod enc P w base spare held m e cs = some y) ∧ (xs.flatten ≠ [] → ∃ b off : Nat, A = some ⟨b, off, none⟩ ∧ ∀ j u, xs.flatten[j]? = some u → w.cell? ⟨b, off + j, none⟩ = some u) := by
  rcases Deep.open_slice ht h with ⟨hcs, _⟩ | ⟨a, len, cap, m, n', D, Pl, hcs, _, hl, hm, hmm, _, hi⟩
  · simp at hcs
    obtain ⟨rfl, rfl, rfl⟩ := hcs
    exact ⟨Nat.le_refl _, Nat.zero_le _, [], rfl, by simp, by simp⟩
  · simp at hcs
    obtain ⟨rfl, rfl, rfl⟩ := hcs
    have hnm : n ≤ m := by rw [hmm]; split <;> omega
    refine ⟨hl, hm, (List.range n).map fun i => ((w.cells? base (a.add (i * P.cellsOf e)) (P.cellsOf e)).getD []), by simp, ?_, ?_⟩
    · intro cs hcs
      simp only [List.mem_map, List.mem_range] at hcs
      obtain ⟨i, hin, rfl⟩ := hcs
      obtain ⟨cs', h1, h2⟩ := hi i (by omega)
      rw [h1]
      exact ⟨(World.cells?_some h1).2.1, n', _, h2⟩
    · intro hne
      have hall : ∀ y ∈ (List.range n).map (fun i => ((w.cells? base (a.add (i * P.cellsOf e)) (P.cellsOf e)).getD [])), y.length = P.cellsOf e := by
        intro y hy
        simp only [List.mem_map, List.mem_range] at hy
        obtain ⟨i, hin, rfl⟩ := hy
        obtain ⟨cs', h1, _⟩ := hi i (by omega)
        rw [h1]
        exact (World.cells?_some h1).2.1
      have hlen0 := flatten_length _ hall
      have hpos : 0 < n * P.cellsOf e := by
        rcases Nat.eq_zero_or_pos (n * P.cellsOf e) with h0 | h0
        · exfalso
          apply hne
          apply List.eq_nil_of_length_eq_zero
          rw [hlen0]
          simpa using h0
        · exact h0
      have hsz : 0 < P.cellsOf e := Nat.pos_of_mul_pos_left hpos
      have hn0 : 0 < n := Nat.pos_of_mul_pos_right hpos
      obtain ⟨b, off, spot⟩ := a
      have hs : spot = none := by
        obtain ⟨cs', h1, _⟩ := hi 0 (by omega)
        obtain ⟨_, hl1, hc1⟩ := World.cells?_some h1
        have h2 := hc1 0 hsz
        have h3 : ((⟨b, off, spot⟩ : Addr).add (0 * P.cellsOf e)).add 0 = ⟨b, off, spot⟩ := by simp [Addr.add]
        rw [h3, List.getElem?_eq_getElem (by omega)] at h2
        exact spot_none h2
      subst hs
      refine ⟨b, off, rfl, fun j u hu => ?_⟩
      rw [flatten_get hsz _ hall] at hu
      simp only [Option.bind_eq_some_iff, List.getElem?_map, Option.map_eq_some_iff] at hu
      obtain ⟨y, ⟨i, hir, rfl⟩, hy⟩ := hu
      have hrl := List.getElem?_eq_some_iff.1 hir
      obtain ⟨hir1, hir2⟩ := hrl
      simp at hir1 hir2
      subst hir2
      obtain ⟨cs', h1, _⟩ := hi (j / P.cellsOf e) (by omega)
      rw [h1] at hy
      simp only [Option.getD_some] at hy
      obtain ⟨_, hl1, hc1⟩ := World.cells?_some h1
      have h2 := hc1 (j % P.cellsOf e) (Nat.mod_lt _ hsz)
      rw [add_eq, add_eq, hy] at h2
      have hjd := Nat.div_add_mod j (P.cellsOf e)
      rw [show off + j = off + j / P.cellsOf e * P.cellsOf e + j % P.cellsOf e by rw [Nat.mul_comm (j / P.cellsOf e)]; omega]
      exact h2
/-- The same, the elements decoded. -/
theorem open_rowOf {α : Type} {cells : α → List Value} {Ok : α → Prop} {t e : TypeId} {fuel : Nat} {A : Option Addr} {n c : Nat} {x : DataW H × List MemPlace} (ht : P.underlying t = some (.slice e)) (h : DataW.trod enc P w base spare held fuel t [.slice A n c] = some x)
    (hdec : ∀ cs, cs.length = P.cellsOf e → (∃ m y, DataW.trod enc P w base spare held m e cs = some y) → ∃ a, cs = cells a ∧ Ok a) :
    n ≤ c ∧ c ≤ maxLen ∧ ∃ xs : List α, xs.length = n ∧ Row w A (xs.flatMap cells) ∧ ∀ a ∈ xs, Ok a := by
  obtain ⟨h1, h2, ys, hl, hall, hrow⟩ := open_row ht h
  have hd : ∀ (ys : List (List Value)), (∀ cs ∈ ys, cs.length = P.cellsOf e ∧ ∃ m y, DataW.trod enc P w base spare held m e cs = some y) → ∃ xs : List α, xs.length = ys.length ∧ ys = xs.map cells ∧ ∀ a ∈ xs, Ok a := by
    intro ys
    induction ys with
    | nil => intro _; exact ⟨[], rfl, rfl, by simp⟩
    | cons cs ys ih =>
      intro hy
      obtain ⟨a, ha, hok⟩ := hdec cs (hy cs List.mem_cons_self).1 (hy cs List.mem_cons_self).2
      obtain ⟨xs, hxl, hxe, hxo⟩ := ih (fun c hc => hy c (List.mem_cons_of_mem _ hc))
      exact ⟨a :: xs, by simp [hxl], by simp [ha, hxe], by simpa using ⟨hok, hxo⟩⟩
  obtain ⟨xs, hxl, hxe, hxo⟩ := hd ys hall
  refine ⟨h1, h2, xs, by omega, ?_, hxo⟩
  intro hne
  have hf : ys.flatten = xs.flatMap cells := by rw [hxe, List.flatMap]
  rw [← hf] at hne
  obtain ⟨b, off, hA, hc⟩ := hrow hne
  exact ⟨b, off, hA, fun j u hu => hc j u (by rw [hf]; exact hu)⟩
end
end Go.Proofs.Ytmkijjmbiiiicaa
/-
  Rows of bytes that come in as arguments.
-/
set_option maxRecDepth 100000
namespace Go.Proofs.Ytmkijjmbiiiicaa
open Go.RowKit Go.ChangeShapes Go.WideShapes Go.ChangeAt

section
variable {H : Type} {enc : TypeId × Value → H} {w : World} {base : Nat} {spare : Nat → Bool} {held : Bool}
theorem open_byte (cs : List Value) (hl : cs.length = Try.prog.cellsOf 5) (h : ∃ m y, DataW.trod enc Try.prog w base spare held m 5 cs = some y) : ∃ c : UInt8, cs = [bc c] ∧ True := by
  obtain ⟨fuel, x, h⟩ := h
  rw [show Try.prog.cellsOf 5 = 1 by kernel_rfl] at hl
  have hlv : leaves Try.prog 4 5 = some [5] := by kernel_rfl
  have hh := leaves_trod 4 _ _ _ _ _ hlv (by simpa using hl.symm) h
  match cs, hl with
  | [v0], _ =>
    obtain ⟨n, rfl, b⟩ := (hh 0 v0 _ rfl rfl).int Try.underlying5
    simp only [Lit.wf, Bool.and_eq_true, decide_eq_true_eq] at b
    have b0 : (0 : Int) ≤ n := b.1
    have b1 : n ≤ (255 : Int) := b.2
    refine ⟨UInt8.ofNat n.toNat, ?_, trivial⟩
    have : ((UInt8.ofNat n.toNat).toNat : Int) = n := by simp; omega
    simp [bc]
    omega
theorem open_bytes {fuel : Nat} {A : Option Addr} {n c : Nat} {x : DataW H × List MemPlace} (h : DataW.trod enc Try.prog w base spare held fuel 37 [.slice A n c] = some x) : ∃ l : List UInt8, l.length = n ∧ n ≤ c ∧ c ≤ maxLen ∧ Row w A (l.map bc) := by
  obtain ⟨h1, h2, xs, h3, h4, _⟩ := open_rowOf (cells := fun c : UInt8 => [bc c]) (Ok := fun _ => True) Try.underlying37 h (fun cs hl hh => open_byte cs hl hh)
  refine ⟨xs, h3, h1, h2, ?_⟩
  have : xs.flatMap (fun c : UInt8 => [bc c]) = xs.map bc := by
    clear h3 h4
    induction xs with
    | nil => rfl
    | cons a xs ih => simp [ih]
  rw [← this]
  exact h4
theorem open_none {t e : TypeId} {fuel : Nat} {A : Option Addr} {n c : Nat} {x : DataW H × List MemPlace} (ht : Try.prog.underlying t = some (.slice e)) (h : DataW.trod enc Try.prog w base spare held fuel t [.slice A n c] = some x) : A = none → c = 0 := by
  intro hA
  rcases Deep.open_slice ht h with ⟨hcs, _⟩ | ⟨a, len, cap, m, n', D, Pl, hcs, _⟩
  · simp at hcs
    exact hcs.2.2
  · simp at hcs
    rw [hA] at hcs
    simp at hcs
theorem open_bytesV {fuel : Nat} {A : Option Addr} {n c : Nat} {x : DataW H × List MemPlace} (h : DataW.trod enc Try.prog w base spare held fuel 37 [.slice A n c] = some x) : ∃ l : List UInt8, BytesV w (.slice A n c) l := by
  obtain ⟨l, rfl, h1, h2, h3⟩ := open_bytes h
  exact ⟨l, A, c, rfl, h1, h2, open_none Try.underlying37 h, h3⟩
end
end Go.Proofs.Ytmkijjmbiiiicaa
/-
  Arguments that are rows of structs as trees: opened down to their cells; from a walk to the statement.
-/
set_option maxRecDepth 100000
set_option linter.unusedSimpArgs false
set_option linter.unusedVariables false
namespace Go.Proofs.Ytmkijjmbiiiicaa.A
open Go.RowKit Go.ChangeShapes Go.WideShapes Go.ChangeAt

section
variable {H : Type} {enc : TypeId × Value → H} {w : World} {base : Nat} {spare : Nat → Bool} {held : Bool}
theorem wfIn {a : Int} (h : (Lit.int .i64 a).wf = true) : InR .i64 a := by
  have := bounds_i64 h
  simp only [InR, lo, hi]
  omega
theorem open_rows {α : Type} {abs : α → List Abs} {Ok : α → Prop} {s : Nat} : ∀ {ys : List (List Value)}, (∀ cs ∈ ys, cs.length = s ∧ ∃ a, reps [] w (abs a) cs ∧ Ok a) → ∃ xs : List α, repss [] w s (xs.map abs) ys.flatten ∧ xs.length = ys.length ∧ ∀ a ∈ xs, Ok a
  | [], _ => ⟨[], rfl, rfl, by simp⟩
  | cs :: ys, h => by
    obtain ⟨h1, a, h2, h3⟩ := h cs List.mem_cons_self
    obtain ⟨xs, h4, h5, h6⟩ := open_rows (ys := ys) fun c hc => h c (List.mem_cons_of_mem _ hc)
    exact ⟨a :: xs, ⟨cs, _, rfl, h1, h2, h4⟩, by simp [h5], by simpa using ⟨h3, h6⟩⟩
/-- A slice that came in, as a tree. -/
theorem open_slA {α : Type} {abs : α → List Abs} {Ok : α → Prop} {t e : TypeId} {s : Nat} {v : Value} (ht : Try.prog.underlying t = some (.slice e)) (hs : Try.prog.cellsOf e = s) (h : LeafAt enc Try.prog w base spare held t v)
    (hdec : ∀ cs, cs.length = Try.prog.cellsOf e → (∃ m y, DataW.trod enc Try.prog w base spare held m e cs = some y) → ∃ a, reps [] w (abs a) cs ∧ Ok a) :
    ∃ xs : List α, rep [] w (.sl s (xs.map abs)) v ∧ ∀ a ∈ xs, Ok a := by
  obtain ⟨fuel, x, h⟩ := h
  obtain ⟨A, n, c, rfl⟩ : ∃ A n c, v = .slice A n c := by
    rcases Deep.open_slice ht h with ⟨hcs, _⟩ | ⟨a, len, cap, m, n', D, Pl, hcs, _⟩
    · simp at hcs; exact ⟨_, _, _, hcs⟩
    · simp at hcs; exact ⟨_, _, _, hcs⟩
  obtain ⟨h1, h2, ys, h3, h4, h5⟩ := open_row ht h
  obtain ⟨xs, h6, h7, h8⟩ := open_rows (abs := abs) (Ok := Ok) (s := s) (w := w) (ys := ys) fun cs hc => ⟨by rw [← hs]; exact (h4 cs hc).1, hdec cs (h4 cs hc).1 (h4 cs hc).2⟩
  refine ⟨xs, ⟨ys.flatten, ⟨⟨A, c, ?_, ?_, h2, open_none ht h⟩, fun hn => ?_⟩, h6⟩, h8⟩
  · rw [List.length_map, h7, h3]
  · rw [List.length_map, h7, h3]; exact h1
  · obtain ⟨b, off, rfl, hc⟩ := h5 hn
    exact ⟨b, off, _, _, rfl, by simp, hc⟩
theorem open_u8 : ∀ {cs : List Value}, (∀ v ∈ cs, LeafAt enc Try.prog w base spare held 5 v) → ∃ d : List UInt8, cs = d.map bc
  | [], _ => ⟨[], rfl⟩
  | v :: cs, h => by
    obtain ⟨d, rfl⟩ := open_u8 (cs := cs) fun x hx => h x (List.mem_cons_of_mem _ hx)
    obtain ⟨m, y, hy⟩ := h v List.mem_cons_self
    obtain ⟨c, hc, _⟩ := open_byte [v] (by rw [show Try.prog.cellsOf 5 = 1 by kernel_rfl]; rfl) ⟨m, y, hy⟩
    simp at hc
    exact ⟨c :: d, by rw [hc]; rfl⟩
theorem reps_dig {K : List Nat} (d : List UInt8) : reps K w (digA d) (d.map bc) := by
  have : digA d = (d.map bc).map .v := by simp [digA]
  rw [this]
  exact reps_plain.2 rfl
end
theorem _root_.Go.Proofs.Ytmkijjmbiiiicaa.IsRow.bytesA {K : List Nat} {w : World} {v : Value} {m : List UInt8} (h : IsRow K w v m.length (m.map bc)) : BytesV w v m := by
  obtain ⟨A, c, rfl, h1, h2, h3⟩ := h.shape
  refine ⟨A, c, rfl, h1, h2, h3, fun hn => ?_⟩
  obtain ⟨b, off, n', c', hv, _, hc⟩ := h.cells hn
  simp at hv
  obtain ⟨rfl, _, _⟩ := hv
  exact ⟨b, off, rfl, hc⟩
/-- A row of bytes as a text. -/
theorem Val.strOf {n : Nat} {W : Wd} {σ : Blks} {l : Slots} {X : List Nat} {x : Operand} {d : Option Nat} {ty : TypeId} {pos : String} {aft : Array Edge} {gq : Option (Nat × Bool)} {m : List UInt8} (hx : look l x = some (byt m)) : Val Try.prog n W σ l X ⟨d, .convert 37 9 x, ty, pos, aft, gq⟩ (.v (.string ⟨m.toArray⟩)) := fun a w hs hX => ⟨_, rfl, fun w' hw' => by
  have h1 := rep_byt.1 (hs.eval hx)
  have h2 := (Carry.of_ext hw' (K := mids σ ++ W.G) (K' := mids σ ++ W.G) (fun k hk => .inl (List.mem_append_left _ (hX k hk))) (fun k hk => .inl hk)).row h1
  have := conv_txtE h2.bytesA
  simp [execOp, this, Result.andThen]⟩
/-- A law's walk, as a call in a world. -/
theorem law_of {f : FuncId} {args : List Abs} (h : Pure Try.prog f args (boo true)) {w : World} {vals : List Value} (hv : reps [] w args vals) : Calls Try.prog f vals.toArray w fun e w' => e = .returned (.bool true) ∧ Ext [] w w' := by
  have hm : Mem w (mids []) [] [] w := ⟨Ext.refl w, by simp [mids], by simp, by simp, by simp, by simp [mids], by simp⟩
  refine (h [] w vals hm hv).mono fun e w' ⟨z, r, he, _, h1, h2⟩ => ⟨?_, h1.ext⟩
  have h2 : r = .bool true := h2
  rw [he, h2]
end Go.Proofs.Ytmkijjmbiiiicaa.A
/-
  Names of letters, and cores that may be: the program's and the document's, over the engine.
-/
set_option maxRecDepth 100000
namespace Go.Proofs.Ytmkijjmbiiiicaa
open Go.RowKit

/-- A letter of a name. -/
def nameC (c : Nat) : Bool := (decide (97 ≤ c) && decide (c ≤ 122)) || (decide (48 ≤ c) && decide (c ≤ 57)) || decide (c = 45)
def nameB (s : ByteArray) : Bool := s.data.toList.all (fun c => nameC c.toNat) && decide (1 ≤ s.size) && decide (s.size ≤ 16)
section
variable {S : List (World × List Nat)} {σ τ : Blks} {ρ : List Dt} {w : World}
theorem all_at {s : ByteArray} {k : Nat} (h : k < s.size) (hb : nameC (s[k]'h).toNat = false) : s.data.toList.all (fun c => nameC c.toNat) = false := by
  rw [List.all_eq_false]
  refine ⟨s[k]'h, ?_, by rw [hb]; decide⟩
  have : s[k]'h = s.data.toList[k]'(by simpa using h) := rfl
  rw [this]
  exact List.getElem_mem _
theorem all_all {s : ByteArray} (hp : ∀ j (hj : j < s.size), nameC (s[j]'hj).toNat = true) : s.data.toList.all (fun c => nameC c.toNat) = true := by
  rw [List.all_eq_true]
  intro c hc
  obtain ⟨j, hj, rfl⟩ := List.getElem_of_mem hc
  exact hp j (by simpa using hj)

theorem odd_c {r : Nat} (hw : Mem S σ ρ w) : Calls Try.prog 62 #[.int .i32 r] w fun e w' => e = .returned (.bool (!nameC r)) ∧ Mem S σ ρ w' := by
  refine calls_of [.int .i32 r] Try.func62 rfl Try.ntmps62 rfl (Mem S σ ρ) hw ?_
  refine SC.seq (SC.region ?_)
  refine SL.val (Val.assign rfl) rfl rfl ?_
  refine SL.nil (SE.seq ?_)
  refine SC.seq (SC.region ?_)
  refine SL.val (Val.move rfl) rfl rfl ?_
  refine SL.val (Val.ltI rfl rfl) rfl rfl ?_
  refine SL.val (Val.move rfl) rfl rfl ?_
  refine SL.bothP (t := 5) rfl ?_ ?_
  · intro hc5
    iterate 2 refine SL.skip rfl rfl ?_
    refine SL.val (Val.pickT rfl rfl) rfl rfl ?_
    refine SL.val (Val.move rfl) rfl rfl ?_
    refine SL.val (Val.move rfl) rfl rfl ?_
    refine SL.val (Val.ltI rfl rfl) rfl rfl ?_
    refine SL.val (Val.move rfl) rfl rfl ?_
    refine SL.bothP (t := 12) rfl ?_ ?_
    · intro hc12
      iterate 2 refine SL.skip rfl rfl ?_
      refine SL.val (Val.pickT rfl rfl) rfl rfl ?_
      refine SL.val (Val.pickT rfl rfl) rfl rfl ?_
      refine SL.val (Val.move rfl) rfl rfl ?_
      refine SL.val (Val.move rfl) rfl rfl ?_
      refine SL.val (Val.neI rfl rfl) rfl rfl ?_
      refine SL.val (Val.pickT rfl rfl) rfl rfl ?_
      refine SL.val (Val.assign rfl) rfl rfl ?_
      refine SL.nil (SE.seq ?_)
      refine SC.ret ?_
      refine SE.ret1 rfl rfl ?_
      intro w' hw'
      refine ⟨?_, hw'⟩
      congr 2
      rw [Bool.eq_iff_iff]
      simp [nameC]
      omega
    intro hc12
    refine SL.val (Val.move rfl) rfl rfl ?_
    refine SL.val (Val.gtI rfl rfl) rfl rfl ?_
    refine SL.val (Val.pickF rfl rfl) rfl rfl ?_
    refine SL.val (Val.pickT rfl rfl) rfl rfl ?_
    refine SL.val (Val.move rfl) rfl rfl ?_
    refine SL.bothP (t := 17) rfl ?_ ?_
    · intro hc17
      refine SL.val (Val.move rfl) rfl rfl ?_
      refine SL.val (Val.neI rfl rfl) rfl rfl ?_
      refine SL.val (Val.pickT rfl rfl) rfl rfl ?_
      refine SL.val (Val.assign rfl) rfl rfl ?_
      refine SL.nil (SE.seq ?_)
      refine SC.ret ?_
      refine SE.ret1 rfl rfl ?_
      intro w' hw'
      refine ⟨?_, hw'⟩
      congr 2
      rw [Bool.eq_iff_iff]
      simp [nameC]
      omega
    intro hc17
    iterate 2 refine SL.skip rfl rfl ?_
    refine SL.val (Val.pickF rfl rfl) rfl rfl ?_
    refine SL.val (Val.assign rfl) rfl rfl ?_
    refine SL.nil (SE.seq ?_)
    refine SC.ret ?_
    refine SE.ret1 rfl rfl ?_
    intro w' hw'
    refine ⟨?_, hw'⟩
    congr 2
    rw [Bool.eq_iff_iff]
    simp [nameC]
    omega
  intro hc5
  refine SL.val (Val.move rfl) rfl rfl ?_
  refine SL.val (Val.gtI rfl rfl) rfl rfl ?_
  refine SL.val (Val.pickF rfl rfl) rfl rfl ?_
  refine SL.val (Val.move rfl) rfl rfl ?_
  refine SL.bothP (t := 9) rfl ?_ ?_
  rotate_left
  · intro hc9
    iterate 6 refine SL.skip rfl rfl ?_
    refine SL.val (Val.pickF rfl rfl) rfl rfl ?_
    refine SL.val (Val.move rfl) rfl rfl ?_
    iterate 2 refine SL.skip rfl rfl ?_
    refine SL.val (Val.pickF rfl rfl) rfl rfl ?_
    refine SL.val (Val.assign rfl) rfl rfl ?_
    refine SL.nil (SE.seq ?_)
    refine SC.ret ?_
    refine SE.ret1 rfl rfl ?_
    intro w' hw'
    refine ⟨?_, hw'⟩
    congr 2
    rw [Bool.eq_iff_iff]
    simp [nameC]
    omega
  intro hc9
  refine SL.val (Val.move rfl) rfl rfl ?_
  refine SL.val (Val.ltI rfl rfl) rfl rfl ?_
  refine SL.val (Val.move rfl) rfl rfl ?_
  refine SL.bothP (t := 12) rfl ?_ ?_
  · intro hc12
    iterate 2 refine SL.skip rfl rfl ?_
    refine SL.val (Val.pickT rfl rfl) rfl rfl ?_
    refine SL.val (Val.pickT rfl rfl) rfl rfl ?_
    refine SL.val (Val.move rfl) rfl rfl ?_
    refine SL.val (Val.move rfl) rfl rfl ?_
    refine SL.val (Val.neI rfl rfl) rfl rfl ?_
    refine SL.val (Val.pickT rfl rfl) rfl rfl ?_
    refine SL.val (Val.assign rfl) rfl rfl ?_
    refine SL.nil (SE.seq ?_)
    refine SC.ret ?_
    refine SE.ret1 rfl rfl ?_
    intro w' hw'
    refine ⟨?_, hw'⟩
    congr 2
    rw [Bool.eq_iff_iff]
    simp [nameC]
    omega
  intro hc12
  refine SL.val (Val.move rfl) rfl rfl ?_
  refine SL.val (Val.gtI rfl rfl) rfl rfl ?_
  refine SL.val (Val.pickF rfl rfl) rfl rfl ?_
  refine SL.val (Val.pickT rfl rfl) rfl rfl ?_
  refine SL.val (Val.move rfl) rfl rfl ?_
  refine SL.bothP (t := 17) rfl ?_ ?_
  · intro hc17
    refine SL.val (Val.move rfl) rfl rfl ?_
    refine SL.val (Val.neI rfl rfl) rfl rfl ?_
    refine SL.val (Val.pickT rfl rfl) rfl rfl ?_
    refine SL.val (Val.assign rfl) rfl rfl ?_
    refine SL.nil (SE.seq ?_)
    refine SC.ret ?_
    refine SE.ret1 rfl rfl ?_
    intro w' hw'
    refine ⟨?_, hw'⟩
    congr 2
    rw [Bool.eq_iff_iff]
    simp [nameC]
    omega
  intro hc17
  iterate 2 refine SL.skip rfl rfl ?_
  refine SL.val (Val.pickF rfl rfl) rfl rfl ?_
  refine SL.val (Val.assign rfl) rfl rfl ?_
  refine SL.nil (SE.seq ?_)
  refine SC.ret ?_
  refine SE.ret1 rfl rfl ?_
  intro w' hw'
  refine ⟨?_, hw'⟩
  congr 2
  rw [Bool.eq_iff_iff]
  simp [nameC]
  omega

set_option maxHeartbeats 400000 in
theorem indexOdd_c {s : ByteArray} (hw : Mem S σ ρ w) (_hs : s.size ≤ 16) : Calls Try.prog 78 #[.string s, .func (.func 62) #[] #[], .bool true] w fun e w' => ∃ r : Int, e = .returned (.int .i64 r) ∧ (0 ≤ r ↔ s.data.toList.all (fun c => nameC c.toNat) = false) ∧ Mem S σ ρ w' := by
  refine calls_of [.string s, .func (.func 62) #[] #[], .bool true] Try.func78 rfl Try.ntmps78 rfl (Mem S σ ρ) hw ?_
  refine SC.seq (SC.region ?_)
  refine SL.val (Val.assign rfl) rfl rfl ?_
  refine SL.nil (SE.seq ?_)
  refine SC.seq ?_
  refine SC.seq (SC.region ?_)
  refine SL.val (Val.move rfl) rfl rfl ?_
  refine SL.eff (Eff.rangeSt rfl Try.underlying9) rfl rfl ?_
  rintro _ _ ⟨b10, rfl, rfl⟩
  refine SL.nil (SE.seq ?_)
  refine SC.block ?_
  refine SC.loop (ι := Nat) (fun k => [(1, .func (.func 62) #[] #[]), (2, .bool true), (10, .pointer (some ⟨b10, 0, none⟩))]) (fun k w' => (k ≤ s.size ∧ ∀ j (hj : j < s.size), j < k → nameC (s[j]'hj).toNat = true) ∧ Mem S (.blk b10 (.stringIter s k) :: σ) ρ w') (fun k => s.size - k) 0 (by exact ⟨rfl, rfl, rfl, trivial⟩) (fun w' hw' => ⟨⟨Nat.zero_le _, fun j hj h => by omega⟩, hw'⟩) ?_
  intro k
  refine SC.facts ?_
  rintro ⟨hk, hp⟩
  by_cases hlt : k < s.size
  · have hd := decode_high s k hlt
    have hc := (s[k]'hlt).toNat_lt
    skip
    refine SC.seq (SC.region ?_)
    refine SL.eff (Eff.nextSt rfl .here hlt) rfl rfl ?_
    rintro _ _ ⟨rfl, rfl⟩
    refine SL.val (Val.extract rfl rfl) rfl rfl ?_
    refine SL.nil (SE.seq ?_)
    refine SC.seq ?_
    refine SC.condT rfl ?_
    refine SC.skip ?_
    refine SE.seq ?_
    refine SC.block ?_
    refine SC.seq (SC.region ?_)
    refine SL.val (Val.extract rfl rfl) rfl rfl ?_
    refine SL.val (Val.extract rfl rfl) rfl rfl ?_
    refine SL.val (Val.assign rfl) rfl rfl ?_
    refine SL.val (Val.assign rfl) rfl rfl ?_
    refine SL.nil (SE.seq ?_)
    refine SC.seq (SC.region ?_)
    refine SL.val (Val.move rfl) rfl rfl ?_
    refine SL.val (Val.move rfl) rfl rfl ?_
    refine SL.callv rfl (by kernel_rfl) rfl rfl rfl ?_
    intro w hw
    refine (odd_c hw).mono ?_
    rintro _ _ ⟨rfl, hm⟩
    refine ⟨_, _, rfl, hm, ?_⟩
    clear hm hw w
    refine SL.val (Val.move rfl) rfl rfl ?_
    refine SL.val (Val.eqB rfl rfl (by kernel_rfl)) rfl rfl ?_
    refine SL.nil (SE.seq ?_)
    refine SC.cond rfl ?_ ?_
    rotate_left
    · intro hodd
      refine SC.skip ?_
      refine SE.inBlock ?_
      simp only [beq_true, Bool.not_eq_false'] at hodd
      have h128 : (s[k]'hlt).toNat < 128 := by
        rcases Nat.lt_or_ge (s[k]'hlt).toNat 128 with h | h
        · exact h
        · have h2 := hd (by omega)
          simp only [nameC, Bool.or_eq_true, Bool.and_eq_true, decide_eq_true_eq] at hodd
          omega
      have e1 := decode_ascii s k hlt h128
      exact SE.round (k + 1) (by omega) (by exact ⟨rfl, rfl, rfl, trivial⟩) (fun w' hw' => ⟨⟨hlt, fun j hj h => by
        rcases Nat.lt_or_ge j k with h2 | h2
        · exact hp j hj h2
        · obtain rfl : j = k := by omega
          rw [e1] at hodd; exact hodd⟩, by rw [e1] at hw'; exact hw'⟩)
    intro hodd
    refine SC.seq (SC.region ?_)
    refine SL.val (Val.move rfl) rfl rfl ?_
    refine SL.val (Val.assign rfl) rfl rfl ?_
    refine SL.nil (SE.seq ?_)
    refine SC.ret ?_
    refine SE.ret ?_
    refine SE.then_ (by intro h; cases h) ?_
    refine SE.ret ?_
    refine SE.then_ (by intro h; cases h) ?_
    refine SE.ret1 rfl rfl ?_
    intro w' hw'
    refine ⟨_, rfl, ?_, hw'.sub (fun _ h => h) (List.sublist_cons_self _ _)⟩
    rw [all_at hlt (by
  simp only [beq_true, Bool.not_eq_true'] at hodd
  rcases Nat.lt_or_ge (s[k]'hlt).toNat 128 with h | h
  · rw [decode_ascii s k hlt h] at hodd; exact hodd
  · simp only [nameC, Bool.or_eq_false_iff, Bool.and_eq_false_iff, decide_eq_false_iff_not]; omega)]
    simp
  · skip
    refine SC.seq (SC.region ?_)
    refine SL.val (Val.nextEnd rfl List.mem_cons_self hlt) rfl rfl ?_
    refine SL.val (Val.extract rfl rfl) rfl rfl ?_
    refine SL.nil (SE.seq ?_)
    refine SC.seq ?_
    refine SC.condF rfl ?_
    refine SC.exit ?_
    refine SE.then_ (by intro h; cases h) ?_
    refine SE.then_ (by intro h; cases h) ?_
    refine SE.exit ?_
    refine SE.seq ?_
    refine SC.seq (SC.region ?_)
    refine SL.val (Val.assign rfl) rfl rfl ?_
    refine SL.nil (SE.seq ?_)
    refine SC.ret ?_
    refine SE.ret1 rfl rfl ?_
    intro w' hw'
    refine ⟨_, rfl, ?_, hw'.sub (fun _ h => h) (List.sublist_cons_self _ _)⟩
    rw [all_all fun j hj => hp j hj (by omega)]
    simp

theorem index_c {s : ByteArray} (hw : Mem S σ ρ w) (hs : s.size ≤ 16) : Calls Try.prog 76 #[.string s, .func (.func 62) #[] #[]] w fun e w' => ∃ r : Int, e = .returned (.int .i64 r) ∧ (0 ≤ r ↔ s.data.toList.all (fun c => nameC c.toNat) = false) ∧ Mem S σ ρ w' := by
  refine calls_of [.string s, .func (.func 62) #[] #[]] Try.func76 rfl Try.ntmps76 rfl (Mem S σ ρ) hw ?_
  refine SC.seq (SC.region ?_)
  refine SL.val (Val.assign rfl) rfl rfl ?_
  refine SL.nil (SE.seq ?_)
  refine SC.seq (SC.region ?_)
  refine SL.val (Val.move rfl) rfl rfl ?_
  refine SL.val (Val.move rfl) rfl rfl ?_
  refine SL.call (by kernel_rfl) rfl rfl rfl ?_
  intro w hw
  refine (indexOdd_c hw hs).mono ?_; rintro _ _ ⟨r, rfl, hr, hm⟩; refine ⟨_, _, rfl, hm, ?_⟩; clear hm hw w
  refine SL.val (Val.assign rfl) rfl rfl ?_
  refine SL.nil (SE.seq ?_)
  refine SC.ret ?_
  refine SE.ret1 rfl rfl ?_
  intro w' hw'
  exact ⟨_, rfl, hr, hw'⟩
theorem contains_c {s : ByteArray} (hw : Mem S σ ρ w) (hs : s.size ≤ 16) : Calls Try.prog 63 #[.string s, .func (.func 62) #[] #[]] w fun e w' => e = .returned (.bool (!s.data.toList.all (fun c => nameC c.toNat))) ∧ Mem S σ ρ w' := by
  refine calls_of [.string s, .func (.func 62) #[] #[]] Try.func63 rfl Try.ntmps63 rfl (Mem S σ ρ) hw ?_
  refine SC.seq (SC.region ?_)
  refine SL.val (Val.assign rfl) rfl rfl ?_
  refine SL.nil (SE.seq ?_)
  refine SC.seq (SC.region ?_)
  refine SL.val (Val.move rfl) rfl rfl ?_
  refine SL.val (Val.move rfl) rfl rfl ?_
  refine SL.call (by kernel_rfl) rfl rfl rfl ?_
  intro w hw
  refine (index_c hw hs).mono ?_; rintro _ _ ⟨r, rfl, hr, hm⟩; refine ⟨_, _, rfl, hm, ?_⟩; clear hm hw w
  refine SL.val (Val.geI rfl rfl) rfl rfl ?_
  refine SL.val (Val.assign rfl) rfl rfl ?_
  refine SL.nil (SE.seq ?_)
  refine SC.ret ?_
  refine SE.ret1 rfl rfl ?_
  intro w' hw'
  refine ⟨?_, hw'⟩
  congr 2
  rw [Bool.eq_iff_iff, decide_eq_true_eq, hr]
  simp

theorem isName_c {s : ByteArray} (hw : Mem S σ ρ w) : Calls Try.prog 41 #[.string s] w fun e w' => e = .returned (.bool (nameB s)) ∧ Mem S σ ρ w' := by
  have h0 : (s = ⟨#[]⟩) ↔ s.size = 0 := by
    constructor
    · rintro rfl; rfl
    · intro h
      obtain ⟨a⟩ := s
      congr 1
      exact Array.eq_empty_of_size_eq_zero h
  refine calls_of [.string s] Try.func41 rfl Try.ntmps41 rfl (Mem S σ ρ) hw ?_
  refine SC.seq (SC.region ?_)
  refine SL.val (Val.assign rfl) rfl rfl ?_
  refine SL.nil (SE.seq ?_)
  refine SC.seq (SC.region ?_)
  refine SL.val (Val.assign rfl) rfl rfl ?_
  refine SL.nil (SE.seq ?_)
  refine SC.seq (SC.region ?_)
  refine SL.val (Val.move rfl) rfl rfl ?_
  refine SL.val (Val.neS rfl rfl) rfl rfl ?_
  refine SL.val (Val.move rfl) rfl rfl ?_
  refine SL.bothP (t := 6) rfl ?_ ?_
  rotate_left
  · intro hc6
    iterate 3 refine SL.skip rfl rfl ?_
    refine SL.val (Val.pickF rfl rfl) rfl rfl ?_
    refine SL.val (Val.move rfl) rfl rfl ?_
    iterate 4 refine SL.skip rfl rfl ?_
    refine SL.val (Val.pickF rfl rfl) rfl rfl ?_
    refine SL.val (Val.assign rfl) rfl rfl ?_
    refine SL.nil (SE.seq ?_)
    refine SC.ret ?_
    refine SE.ret1 rfl rfl ?_
    intro w' hw'
    refine ⟨?_, hw'⟩
    congr 2
    unfold nameB
    rw [Ne, h0] at hc6
    rw [Bool.eq_iff_iff]
    first
      | (simp; omega)
      | (have h1 : 1 ≤ s.size := by omega
         have h2 : s.size ≤ 16 := by omega
         simp [h1, h2])
  intro hc6
  refine SL.val (Val.move rfl) rfl rfl ?_
  refine SL.val (Val.lenSt rfl Try.underlying9) rfl rfl ?_
  refine SL.val (Val.leI rfl rfl) rfl rfl ?_
  refine SL.val (Val.pickT rfl rfl) rfl rfl ?_
  refine SL.val (Val.move rfl) rfl rfl ?_
  refine SL.bothP (t := 11) rfl ?_ ?_
  rotate_left
  · intro hc11
    iterate 4 refine SL.skip rfl rfl ?_
    refine SL.val (Val.pickF rfl rfl) rfl rfl ?_
    refine SL.val (Val.assign rfl) rfl rfl ?_
    refine SL.nil (SE.seq ?_)
    refine SC.ret ?_
    refine SE.ret1 rfl rfl ?_
    intro w' hw'
    refine ⟨?_, hw'⟩
    congr 2
    unfold nameB
    rw [Ne, h0] at hc6
    rw [Bool.eq_iff_iff]
    first
      | (simp; omega)
      | (have h1 : 1 ≤ s.size := by omega
         have h2 : s.size ≤ 16 := by omega
         simp [h1, h2])
  intro hc11
  refine SL.val (Val.move rfl) rfl rfl ?_
  refine SL.val (Val.move rfl) rfl rfl ?_
  refine SL.call (by kernel_rfl) rfl rfl rfl ?_
  intro w hw
  refine (contains_c hw (by omega)).mono ?_; rintro _ _ ⟨rfl, hm⟩; refine ⟨_, _, rfl, hm, ?_⟩; clear hm hw w
  refine SL.val (Val.notB rfl) rfl rfl ?_
  refine SL.val (Val.pickT rfl rfl) rfl rfl ?_
  refine SL.val (Val.assign rfl) rfl rfl ?_
  refine SL.nil (SE.seq ?_)
  refine SC.ret ?_
  refine SE.ret1 rfl rfl ?_
  intro w' hw'
  refine ⟨?_, hw'⟩
  congr 2
  unfold nameB
  rw [Ne, h0] at hc6
  rw [Bool.eq_iff_iff]
  first
    | (simp; omega)
    | (have h1 : 1 ≤ s.size := by omega
       have h2 : s.size ≤ 16 := by omega
       simp [h1, h2])

end
end Go.Proofs.Ytmkijjmbiiiicaa
/-
  Cores: whether they may be, and their bytes: the program's and the document's, over the engine.
-/
set_option maxRecDepth 100000
namespace Go.Proofs.Ytmkijjmbiiiicaa
open Go.RowKit

structure Core where
  client : Int
  stamp : Int
  op : Int
  letter : ByteArray
  a : Int
  b : Int
  text : ByteArray
def Core.cells (c : Core) : List Value := [.int .i64 c.client, .int .i64 c.stamp, .int .i64 c.op, .string c.letter, .int .i64 c.a, .int .i64 c.b, .string c.text]
def Core.check (c : Core) (n : Int) : Int :=
  if n < 1 ∨ 7 < n then 1 else if c.client < n ∨ n + 4 ≤ c.client then 17 else if c.stamp < 1 ∨ 1099511627776 < c.stamp ∨ c.op < 1 ∨ 9 < c.op then 5 else if nameB c.letter = false then 7 else if 200 < c.text.size then 3 else 0
def rowB (m : List UInt8) : List UInt8 := beBytes m.length 4 ++ m
def Core.bytes (c : Core) : List UInt8 :=
  beBytes (u64 c.client) 1 ++ beBytes (u64 c.stamp) 8 ++ beBytes (u64 c.op) 1 ++ rowB c.letter.data.toList ++ beBytes (u64 c.a) 8 ++ beBytes (u64 c.b) 8 ++ rowB c.text.data.toList
theorem u64_lt (x : Int) : u64 x < 18446744073709551616 := by unfold u64; omega
section
variable {S : List (World × List Nat)} {σ τ : Blks} {ρ : List Dt} {w : World} {P : Program} {n : Nat} {l : Slots} {D : World → Prop} {x y : Operand} {d : Option Nat} {ty t : TypeId} {pos : String} {aft : Array Edge} {g : Option (Nat × Bool)} {v : Value}
/-- An element of an array's value. -/
theorem Val.indexAr1 {tab : List (Nat × TI)} (hT : TabOk P tab) {sz m e sz' : Nat} {zs zs' L : List Value} {k : IntKind} {r : Int} {q : Nat} (ht : ti tab t = some ⟨sz, .array m e, zs⟩) (hj : ti tab e = some ⟨sz', .one, zs'⟩) (hs : Nat.beq sz' 1 = true) (hx : look l x = some (.agg L.toArray)) (hy : look l y = some (.int k r)) (hr : r = (q : Nat)) (hq : q < m) (hv : L[q]? = some v) :
    Val P n l D ⟨d, .index t x y, ty, pos, aft, g⟩ v := fun A w hf hD => by
  obtain ⟨dd, hu, hk⟩ := (hT t _ ht).und
  cases dd <;> simp [kindOk] at hk
  obtain ⟨rfl, rfl⟩ := hk
  have h1 := (hT _ _ hj).sizeOf (w := w)
  have h2 := (hT _ _ hj).isAgg (w := w)
  rw [show sz' = 1 from Nat.eq_of_beq_eq_true hs] at h1
  subst hr
  simp [execOp, Instr.index, asIntOf, hf.eval hx, hf.eval hy, run_underlying hu, Sem.run_bind, Result.andThen, hq, h1, part, h2, hv]

set_option maxHeartbeats 400000 in
theorem check_c {c : Core} {n : Int} (hw : Mem S σ ρ w) : Calls Try.prog 22 #[.agg c.cells.toArray, .int .i64 n] w fun e w' => e = .returned (.int .i64 (c.check n)) ∧ Mem S σ ρ w' := by
  refine calls_of [.agg c.cells.toArray, .int .i64 n] Try.func22 rfl Try.ntmps22 rfl (Mem S σ ρ) hw ?_
  refine SC.seq (SC.region ?_)
  refine SL.eff (Eff.boxA rfl) rfl rfl ?_
  rintro _ _ ⟨b2, rfl, rfl⟩
  refine SL.val (Val.assign rfl) rfl rfl ?_
  refine SL.nil (SE.seq ?_)
  refine SC.seq ?_
  refine SC.block ?_
  refine SC.seq (SC.region ?_)
  refine SL.val (Val.move rfl) rfl rfl ?_
  refine SL.val (Val.ltI rfl rfl) rfl rfl ?_
  refine SL.val (Val.move rfl) rfl rfl ?_
  refine SL.bothP (t := 8) rfl ?_ ?_
  · intro hc8
    iterate 2 refine SL.skip rfl rfl ?_
    refine SL.val (Val.pickT rfl rfl) rfl rfl ?_
    refine SL.val (Val.assign rfl) rfl rfl ?_
    refine SL.nil (SE.seq ?_)
    refine SC.condT rfl ?_
    refine SC.seq (SC.region ?_)
    refine SL.val (Val.assign rfl) rfl rfl ?_
    refine SL.nil (SE.seq ?_)
    refine SC.ret ?_
    refine SE.ret ?_
    refine SE.then_ (by intro h; cases h) ?_
    refine SE.ret1 rfl rfl ?_
    intro w' hw'
    refine ⟨?_, hw'.sub (fun _ h => h) (List.sublist_cons_self _ _)⟩
    congr 2
    unfold Core.check
    repeat' split
    all_goals first | rfl | omega | simp_all
  intro hc8
  refine SL.val (Val.move rfl) rfl rfl ?_
  refine SL.val (Val.gtI rfl rfl) rfl rfl ?_
  refine SL.val (Val.pickF rfl rfl) rfl rfl ?_
  refine SL.val (Val.assign rfl) rfl rfl ?_
  refine SL.nil (SE.seq ?_)
  refine SC.condP rfl ?_ ?_
  · intro hc5
    refine SC.seq (SC.region ?_)
    refine SL.val (Val.assign rfl) rfl rfl ?_
    refine SL.nil (SE.seq ?_)
    refine SC.ret ?_
    refine SE.ret ?_
    refine SE.then_ (by intro h; cases h) ?_
    refine SE.ret1 rfl rfl ?_
    intro w' hw'
    refine ⟨?_, hw'.sub (fun _ h => h) (List.sublist_cons_self _ _)⟩
    congr 2
    unfold Core.check
    repeat' split
    all_goals first | rfl | omega | simp_all
  intro hc5
  refine SC.seq (SC.region ?_)
  refine SL.val (Val.fieldAddr tabOk rfl rfl rfl rfl rfl) rfl rfl ?_
  first
    | refine SL.val (Val.load1 tabOk rfl rfl (by repeat (first | assumption | exact List.mem_cons_self | exact hmem _ | apply List.mem_cons_of_mem)) (by rfl)) rfl rfl ?_
    | refine SL.val (Val.load1C tabOk rfl rfl (by assumption)) rfl rfl ?_
  refine SL.val (Val.move rfl) rfl rfl ?_
  refine SL.val (Val.ltI rfl rfl) rfl rfl ?_
  refine SL.val (Val.move rfl) rfl rfl ?_
  refine SL.bothP (t := 17) rfl ?_ ?_
  · intro hc17
    iterate 5 refine SL.skip rfl rfl ?_
    refine SL.val (Val.pickT rfl rfl) rfl rfl ?_
    refine SL.val (Val.assign rfl) rfl rfl ?_
    refine SL.nil (SE.seq ?_)
    refine SC.condT rfl ?_
    refine SC.seq (SC.region ?_)
    refine SL.val (Val.assign rfl) rfl rfl ?_
    refine SL.nil (SE.seq ?_)
    refine SC.ret ?_
    refine SE.ret ?_
    refine SE.then_ (by intro h; cases h) ?_
    refine SE.ret1 rfl rfl ?_
    intro w' hw'
    refine ⟨?_, hw'.sub (fun _ h => h) (List.sublist_cons_self _ _)⟩
    congr 2
    unfold Core.check
    repeat' split
    all_goals first | rfl | omega | simp_all
  intro hc17
  refine SL.val (Val.fieldAddr tabOk rfl rfl rfl rfl rfl) rfl rfl ?_
  first
    | refine SL.val (Val.load1 tabOk rfl rfl (by repeat (first | assumption | exact List.mem_cons_self | exact hmem _ | apply List.mem_cons_of_mem)) (by rfl)) rfl rfl ?_
    | refine SL.val (Val.load1C tabOk rfl rfl (by assumption)) rfl rfl ?_
  refine SL.val (Val.move rfl) rfl rfl ?_
  first
    | refine SL.val (Val.addI rfl rfl (by simp only [InR, lo, hi]; omega)) rfl rfl ?_
    | refine SL.val (Val.addW rfl rfl) rfl rfl ?_
  refine SL.val (Val.geI rfl rfl) rfl rfl ?_
  refine SL.val (Val.pickF rfl rfl) rfl rfl ?_
  refine SL.val (Val.assign rfl) rfl rfl ?_
  refine SL.nil (SE.seq ?_)
  refine SC.condP rfl ?_ ?_
  · intro hc12
    refine SC.seq (SC.region ?_)
    refine SL.val (Val.assign rfl) rfl rfl ?_
    refine SL.nil (SE.seq ?_)
    refine SC.ret ?_
    refine SE.ret ?_
    refine SE.then_ (by intro h; cases h) ?_
    refine SE.ret1 rfl rfl ?_
    intro w' hw'
    refine ⟨?_, hw'.sub (fun _ h => h) (List.sublist_cons_self _ _)⟩
    congr 2
    unfold Core.check
    repeat' split
    all_goals first | rfl | omega | simp_all
  intro hc12
  refine SC.seq (SC.region ?_)
  refine SL.val (Val.fieldAddr tabOk rfl rfl rfl rfl rfl) rfl rfl ?_
  first
    | refine SL.val (Val.load1 tabOk rfl rfl (by repeat (first | assumption | exact List.mem_cons_self | exact hmem _ | apply List.mem_cons_of_mem)) (by rfl)) rfl rfl ?_
    | refine SL.val (Val.load1C tabOk rfl rfl (by assumption)) rfl rfl ?_
  refine SL.val (Val.ltI rfl rfl) rfl rfl ?_
  refine SL.val (Val.move rfl) rfl rfl ?_
  refine SL.bothP (t := 28) rfl ?_ ?_
  · intro hc28
    iterate 3 refine SL.skip rfl rfl ?_
    refine SL.val (Val.pickT rfl rfl) rfl rfl ?_
    refine SL.val (Val.move rfl) rfl rfl ?_
    iterate 3 refine SL.skip rfl rfl ?_
    refine SL.val (Val.pickT rfl rfl) rfl rfl ?_
    refine SL.val (Val.move rfl) rfl rfl ?_
    iterate 3 refine SL.skip rfl rfl ?_
    refine SL.val (Val.pickT rfl rfl) rfl rfl ?_
    refine SL.val (Val.assign rfl) rfl rfl ?_
    refine SL.nil (SE.seq ?_)
    refine SC.condT rfl ?_
    refine SC.seq (SC.region ?_)
    refine SL.val (Val.assign rfl) rfl rfl ?_
    refine SL.nil (SE.seq ?_)
    refine SC.ret ?_
    refine SE.ret ?_
    refine SE.then_ (by intro h; cases h) ?_
    refine SE.ret1 rfl rfl ?_
    intro w' hw'
    refine ⟨?_, hw'.sub (fun _ h => h) (List.sublist_cons_self _ _)⟩
    congr 2
    unfold Core.check
    repeat' split
    all_goals first | rfl | omega | simp_all
  intro hc28
  refine SL.val (Val.fieldAddr tabOk rfl rfl rfl rfl rfl) rfl rfl ?_
  first
    | refine SL.val (Val.load1 tabOk rfl rfl (by repeat (first | assumption | exact List.mem_cons_self | exact hmem _ | apply List.mem_cons_of_mem)) (by rfl)) rfl rfl ?_
    | refine SL.val (Val.load1C tabOk rfl rfl (by assumption)) rfl rfl ?_
  refine SL.val (Val.gtI rfl rfl) rfl rfl ?_
  refine SL.val (Val.pickF rfl rfl) rfl rfl ?_
  refine SL.val (Val.move rfl) rfl rfl ?_
  refine SL.bothP (t := 33) rfl ?_ ?_
  · intro hc33
    iterate 3 refine SL.skip rfl rfl ?_
    refine SL.val (Val.pickT rfl rfl) rfl rfl ?_
    refine SL.val (Val.move rfl) rfl rfl ?_
    iterate 3 refine SL.skip rfl rfl ?_
    refine SL.val (Val.pickT rfl rfl) rfl rfl ?_
    refine SL.val (Val.assign rfl) rfl rfl ?_
    refine SL.nil (SE.seq ?_)
    refine SC.condT rfl ?_
    refine SC.seq (SC.region ?_)
    refine SL.val (Val.assign rfl) rfl rfl ?_
    refine SL.nil (SE.seq ?_)
    refine SC.ret ?_
    refine SE.ret ?_
    refine SE.then_ (by intro h; cases h) ?_
    refine SE.ret1 rfl rfl ?_
    intro w' hw'
    refine ⟨?_, hw'.sub (fun _ h => h) (List.sublist_cons_self _ _)⟩
    congr 2
    unfold Core.check
    repeat' split
    all_goals first | rfl | omega | simp_all
  intro hc33
  refine SL.val (Val.fieldAddr tabOk rfl rfl rfl rfl rfl) rfl rfl ?_
  first
    | refine SL.val (Val.load1 tabOk rfl rfl (by repeat (first | assumption | exact List.mem_cons_self | exact hmem _ | apply List.mem_cons_of_mem)) (by rfl)) rfl rfl ?_
    | refine SL.val (Val.load1C tabOk rfl rfl (by assumption)) rfl rfl ?_
  refine SL.val (Val.ltI rfl rfl) rfl rfl ?_
  refine SL.val (Val.pickF rfl rfl) rfl rfl ?_
  refine SL.val (Val.move rfl) rfl rfl ?_
  refine SL.bothP (t := 38) rfl ?_ ?_
  · intro hc38
    iterate 3 refine SL.skip rfl rfl ?_
    refine SL.val (Val.pickT rfl rfl) rfl rfl ?_
    refine SL.val (Val.assign rfl) rfl rfl ?_
    refine SL.nil (SE.seq ?_)
    refine SC.condT rfl ?_
    refine SC.seq (SC.region ?_)
    refine SL.val (Val.assign rfl) rfl rfl ?_
    refine SL.nil (SE.seq ?_)
    refine SC.ret ?_
    refine SE.ret ?_
    refine SE.then_ (by intro h; cases h) ?_
    refine SE.ret1 rfl rfl ?_
    intro w' hw'
    refine ⟨?_, hw'.sub (fun _ h => h) (List.sublist_cons_self _ _)⟩
    congr 2
    unfold Core.check
    repeat' split
    all_goals first | rfl | omega | simp_all
  intro hc38
  refine SL.val (Val.fieldAddr tabOk rfl rfl rfl rfl rfl) rfl rfl ?_
  first
    | refine SL.val (Val.load1 tabOk rfl rfl (by repeat (first | assumption | exact List.mem_cons_self | exact hmem _ | apply List.mem_cons_of_mem)) (by rfl)) rfl rfl ?_
    | refine SL.val (Val.load1C tabOk rfl rfl (by assumption)) rfl rfl ?_
  refine SL.val (Val.gtI rfl rfl) rfl rfl ?_
  refine SL.val (Val.pickF rfl rfl) rfl rfl ?_
  refine SL.val (Val.assign rfl) rfl rfl ?_
  refine SL.nil (SE.seq ?_)
  refine SC.condP rfl ?_ ?_
  · intro hc24
    refine SC.seq (SC.region ?_)
    refine SL.val (Val.assign rfl) rfl rfl ?_
    refine SL.nil (SE.seq ?_)
    refine SC.ret ?_
    refine SE.ret ?_
    refine SE.then_ (by intro h; cases h) ?_
    refine SE.ret1 rfl rfl ?_
    intro w' hw'
    refine ⟨?_, hw'.sub (fun _ h => h) (List.sublist_cons_self _ _)⟩
    congr 2
    unfold Core.check
    repeat' split
    all_goals first | rfl | omega | simp_all
  intro hc24
  refine SC.seq (SC.region ?_)
  refine SL.val (Val.fieldAddr tabOk rfl rfl rfl rfl rfl) rfl rfl ?_
  first
    | refine SL.val (Val.load1 tabOk rfl rfl (by repeat (first | assumption | exact List.mem_cons_self | exact hmem _ | apply List.mem_cons_of_mem)) (by rfl)) rfl rfl ?_
    | refine SL.val (Val.load1C tabOk rfl rfl (by assumption)) rfl rfl ?_
  refine SL.call (by kernel_rfl) rfl rfl rfl ?_
  intro w hw
  refine (isName_c hw).mono ?_; rintro _ _ ⟨rfl, hm⟩; refine ⟨_, _, rfl, hm, ?_⟩; clear hm hw w
  refine SL.val (Val.notB rfl) rfl rfl ?_
  refine SL.val (Val.assign rfl) rfl rfl ?_
  refine SL.nil (SE.seq ?_)
  refine SC.cond rfl ?_ ?_
  · intro hc43
    refine SC.seq (SC.region ?_)
    refine SL.val (Val.assign rfl) rfl rfl ?_
    refine SL.nil (SE.seq ?_)
    refine SC.ret ?_
    refine SE.ret ?_
    refine SE.then_ (by intro h; cases h) ?_
    refine SE.ret1 rfl rfl ?_
    intro w' hw'
    refine ⟨?_, hw'.sub (fun _ h => h) (List.sublist_cons_self _ _)⟩
    congr 2
    unfold Core.check
    repeat' split
    all_goals first | rfl | omega | simp_all
  intro hc43
  refine SC.seq (SC.region ?_)
  refine SL.val (Val.fieldAddr tabOk rfl rfl rfl rfl rfl) rfl rfl ?_
  first
    | refine SL.val (Val.load1 tabOk rfl rfl (by repeat (first | assumption | exact List.mem_cons_self | exact hmem _ | apply List.mem_cons_of_mem)) (by rfl)) rfl rfl ?_
    | refine SL.val (Val.load1C tabOk rfl rfl (by assumption)) rfl rfl ?_
  refine SL.val (Val.lenSt rfl Try.underlying9) rfl rfl ?_
  refine SL.val (Val.gtI rfl rfl) rfl rfl ?_
  refine SL.val (Val.assign rfl) rfl rfl ?_
  refine SL.nil (SE.seq ?_)
  refine SC.condP rfl ?_ ?_
  · intro hc48
    refine SC.seq (SC.region ?_)
    refine SL.val (Val.assign rfl) rfl rfl ?_
    refine SL.nil (SE.seq ?_)
    refine SC.ret ?_
    refine SE.ret ?_
    refine SE.then_ (by intro h; cases h) ?_
    refine SE.ret1 rfl rfl ?_
    intro w' hw'
    refine ⟨?_, hw'.sub (fun _ h => h) (List.sublist_cons_self _ _)⟩
    congr 2
    unfold Core.check
    repeat' split
    all_goals first | rfl | omega | simp_all
  intro hc48
  refine SC.skip ?_
  refine SE.inBlock ?_
  refine SE.seq ?_
  refine SC.seq (SC.region ?_)
  refine SL.val (Val.assign rfl) rfl rfl ?_
  refine SL.nil (SE.seq ?_)
  refine SC.ret ?_
  refine SE.ret1 rfl rfl ?_
  intro w' hw'
  refine ⟨?_, hw'.sub (fun _ h => h) (List.sublist_cons_self _ _)⟩
  congr 2
  unfold Core.check
  repeat' split
  all_goals first | rfl | omega | simp_all

set_option maxHeartbeats 1000000 in
theorem coreBytes_c {c : Core} (hw : Mem S σ ρ w) (h1 : c.letter.size ≤ 1000000) (h2 : c.text.size ≤ 1000000) : Calls Try.prog 44 #[.agg c.cells.toArray] w fun e w' => ∃ r, e = .returned r ∧ Mem S σ (bytesD r c.bytes :: ρ) w' := by
  have h3 : c.letter.size ≤ lots := by unfold lots; omega
  have h4 : c.text.size ≤ lots := by unfold lots; omega
  have hL : c.letter.data.toList.length ≤ 1000000 := h1
  have hT : c.text.data.toList.length ≤ 1000000 := h2
  refine calls_of [.agg c.cells.toArray] Try.func44 rfl Try.ntmps44 rfl (Mem S σ ρ) hw ?_
  refine SC.seq (SC.region ?_)
  refine SL.eff (Eff.boxA rfl) rfl rfl ?_
  rintro _ _ ⟨b1, rfl, rfl⟩
  refine SL.val (Val.assign rfl) rfl rfl ?_
  refine SL.nil (SE.seq ?_)
  refine SC.seq (SC.region ?_)
  refine SL.val (Val.fieldAddr tabOk rfl rfl rfl rfl rfl) rfl rfl ?_
  first
    | refine SL.val (Val.load1 tabOk rfl rfl (by repeat (first | assumption | exact List.mem_cons_self | exact hmem _ | apply List.mem_cons_of_mem)) (by rfl)) rfl rfl ?_
    | refine SL.val (Val.load1C tabOk rfl rfl (by assumption)) rfl rfl ?_
  first
    | refine SL.val (Val.convI rfl Try.underlying105 (by kernel_rfl) (by simp only [InR, lo, hi]; omega)) rfl rfl ?_
    | refine SL.val (Val.convU rfl Try.underlying105 (by kernel_rfl)) rfl rfl ?_
  refine SL.call (by kernel_rfl) rfl rfl rfl ?_
  intro w hw
  refine (put_c (l := []) (x := u64 c.client) (n := 1) hw (BytesV.nil _) (by first | exact Nat.zero_le _ | (simp only [List.length_append, beBytes_length, List.length_nil]; unfold lots; omega)) (u64_lt _) rfl).mono ?_; rintro _ _ ⟨r, rfl, hm⟩; refine ⟨_, _, rfl, hm, ?_⟩; clear hm hw w
  refine SL.val (Val.assign rfl) rfl rfl ?_
  refine SL.nil (SE.seq ?_)
  refine SC.seq (SC.region ?_)
  refine SL.val (Val.move rfl) rfl rfl ?_
  refine SL.val (Val.fieldAddr tabOk rfl rfl rfl rfl rfl) rfl rfl ?_
  first
    | refine SL.val (Val.load1 tabOk rfl rfl (by repeat (first | assumption | exact List.mem_cons_self | exact hmem _ | apply List.mem_cons_of_mem)) (by rfl)) rfl rfl ?_
    | refine SL.val (Val.load1C tabOk rfl rfl (by assumption)) rfl rfl ?_
  first
    | refine SL.val (Val.convI rfl Try.underlying105 (by kernel_rfl) (by simp only [InR, lo, hi]; omega)) rfl rfl ?_
    | refine SL.val (Val.convU rfl Try.underlying105 (by kernel_rfl)) rfl rfl ?_
  refine SL.call (by kernel_rfl) rfl rfl rfl ?_
  intro w hw
  refine (put_c (l := ([] ++ beBytes (u64 c.client) (Int.toNat 1))) (x := u64 c.stamp) (n := 8) hw (hw.bytes (by repeat (first | assumption | exact List.mem_cons_self | exact hmem _ | apply List.mem_cons_of_mem))) (by first | exact Nat.zero_le _ | (simp only [List.length_append, beBytes_length, List.length_nil]; unfold lots; omega)) (u64_lt _) rfl).mono ?_; rintro _ _ ⟨r, rfl, hm⟩; refine ⟨_, _, rfl, hm, ?_⟩; clear hm hw w
  refine SL.val (Val.assign rfl) rfl rfl ?_
  refine SL.nil (SE.seq ?_)
  refine SC.seq ?_
  refine SC.draw _ (.q 0 (.q 1 (.q 2 (.q 3 (.q 5 (.q 6 (.two 4 7 (.e 7 (.e 8 (.q 9 .nil))) (.e 4 (.e 8 (.q 9 .nil)))))))))) (by kernel_rfl) (by kernel_rfl) (fun _ h => h) (fun _ h => h.drew) ?_
  refine SX.val rfl (Val.move rfl) rfl rfl ?_
  refine SX.val rfl (Val.fieldAddr tabOk rfl rfl rfl rfl rfl) rfl rfl ?_
  first
    | refine SX.val rfl (Val.load1 tabOk rfl rfl (by repeat (first | assumption | exact List.mem_cons_self | exact hmem _ | apply List.mem_cons_of_mem)) (by rfl)) rfl rfl ?_
    | refine SX.val rfl (Val.load1C tabOk rfl rfl (by assumption)) rfl rfl ?_
  first
    | refine SX.val rfl (Val.convI rfl Try.underlying105 (by kernel_rfl) (by simp only [InR, lo, hi]; omega)) rfl rfl ?_
    | refine SX.val rfl (Val.convU rfl Try.underlying105 (by kernel_rfl)) rfl rfl ?_
  refine SX.val rfl (Val.fieldAddr tabOk rfl rfl rfl rfl rfl) rfl rfl ?_
  first
    | refine SX.val rfl (Val.load1 tabOk rfl rfl (by repeat (first | assumption | exact List.mem_cons_self | exact hmem _ | apply List.mem_cons_of_mem)) (by rfl)) rfl rfl ?_
    | refine SX.val rfl (Val.load1C tabOk rfl rfl (by assumption)) rfl rfl ?_
  refine SX.two ?_ ?_
  · skip
    refine SX.call rfl (by kernel_rfl) rfl rfl rfl ?_
    intro w hw
    refine (put_c (l := (([] ++ beBytes (u64 c.client) (Int.toNat 1)) ++ beBytes (u64 c.stamp) (Int.toNat 8))) (x := u64 c.op) (n := 1) hw (hw.bytes (by repeat (first | assumption | exact List.mem_cons_self | exact hmem _ | apply List.mem_cons_of_mem))) (by first | exact Nat.zero_le _ | (simp only [List.length_append, beBytes_length, List.length_nil]; unfold lots; omega)) (u64_lt _) rfl).mono ?_; rintro _ _ ⟨r, rfl, hm⟩; refine ⟨_, _, rfl, hm, _, fun _ h => h.less (fun _ hx => List.mem_cons_of_mem _ hx), fun _ h => h, ?_⟩; clear hm hw w
    refine SX.eff rfl (Eff.strBytes rfl Try.underlying9 Try.underlying37 (by first | assumption | omega)) rfl rfl ?_
    rintro sb22 _ rfl
    refine ⟨_, fun _ h => h.less (fun _ hx => List.mem_cons_of_mem _ hx), fun _ h => h, ?_⟩
    refine SX.call rfl (by kernel_rfl) rfl rfl rfl ?_
    intro w hw
    refine (oct_Row (l := ((([] ++ beBytes (u64 c.client) (Int.toNat 1)) ++ beBytes (u64 c.stamp) (Int.toNat 8)) ++ beBytes (u64 c.op) (Int.toNat 1))) (m := c.letter.data.toList) hw (by repeat (first | assumption | exact List.mem_cons_self | exact hmem _ | apply List.mem_cons_of_mem)) (by repeat (first | assumption | exact List.mem_cons_self | exact hmem _ | apply List.mem_cons_of_mem)) (by simp only [List.length_append, beBytes_length, List.length_nil]; unfold lots; omega) (by omega)).mono ?_; rintro _ _ ⟨r, rfl, hm⟩; refine ⟨_, _, rfl, hm, _, fun _ h => h.less (fun _ hx => List.mem_cons_of_mem _ hx), fun _ h => h, ?_⟩; clear hm hw w
    refine SX.val rfl (Val.assign rfl) rfl rfl ?_
    refine SX.nil (SE.seq ?_)
    refine SC.seq ?_
    refine SC.seq (SC.region ?_)
    refine SL.val (Val.fieldAddr tabOk rfl rfl rfl rfl rfl) rfl rfl ?_
    first
      | refine SL.val (Val.load1 tabOk rfl rfl (by repeat (first | assumption | exact List.mem_cons_self | exact hmem _ | apply List.mem_cons_of_mem)) (by rfl)) rfl rfl ?_
      | refine SL.val (Val.load1C tabOk rfl rfl (by assumption)) rfl rfl ?_
    refine SL.val (Val.fieldAddr tabOk rfl rfl rfl rfl rfl) rfl rfl ?_
    first
      | refine SL.val (Val.load1 tabOk rfl rfl (by repeat (first | assumption | exact List.mem_cons_self | exact hmem _ | apply List.mem_cons_of_mem)) (by rfl)) rfl rfl ?_
      | refine SL.val (Val.load1C tabOk rfl rfl (by assumption)) rfl rfl ?_
    refine SL.val (Val.buildA tabOk rfl rfl rfl rfl) rfl rfl ?_
    refine SL.val (Val.move rfl) rfl rfl ?_
    refine SL.nil (SE.seq ?_)
    refine SC.block ?_
    refine SC.loop (ι := Nat × Value) (fun z => [(1, .pointer (some ⟨b1, 0, none⟩)), (3, z.2), (28, .agg [.int .i64 c.a, .int .i64 c.b].toArray), (29, .int .i64 (z.1 : Nat))]) (fun z w' => z.1 ≤ 2 ∧ Mem S (.blk b1 (row 33 c.cells) :: σ) (bytesD z.2 ((((([] ++ beBytes (u64 c.client) (Int.toNat 1)) ++ beBytes (u64 c.stamp) (Int.toNat 8)) ++ beBytes (u64 c.op) (Int.toNat 1)) ++ beBytes c.letter.data.toList.length 4 ++ c.letter.data.toList) ++ (([c.a, c.b].take z.1).flatMap fun x => beBytes (u64 x) (Int.toNat 8))) :: ρ) w') (fun z => 2 - z.1) (0, _) (by exact ⟨rfl, rfl, rfl, rfl, trivial⟩) (fun w' hw' => ⟨by omega, hw'.less (by intro x hx; simp only [List.take_zero, List.flatMap_nil, List.append_nil] at hx; rcases List.mem_cons.1 hx with rfl | hx <;> simp [*])⟩) ?_
    intro z
    refine SC.facts ?_
    intro hz
    have hlen : ((((([] ++ beBytes (u64 c.client) (Int.toNat 1)) ++ beBytes (u64 c.stamp) (Int.toNat 8)) ++ beBytes (u64 c.op) (Int.toNat 1)) ++ beBytes c.letter.data.toList.length 4 ++ c.letter.data.toList) ++ (([c.a, c.b].take z.1).flatMap fun x => beBytes (u64 x) (Int.toNat 8))).length ≤ 10 + (4 + c.letter.data.toList.length) + 16 := by
      simp only [List.length_append, beBytes_length, List.length_nil]
      have : ((([c.a, c.b].take z.1).flatMap fun x => beBytes (u64 x) (Int.toNat 8))).length ≤ 16 := by
        rcases (by omega : z.1 = 0 ∨ z.1 = 1 ∨ z.1 = 2) with h | h | h <;> rw [h] <;> simp [beBytes_length]
      omega
    refine SC.seq (SC.region ?_)
    refine SL.val (Val.ltI rfl rfl) rfl rfl ?_
    refine SL.nil (SE.seq ?_)
    refine SC.seq ?_
    refine SC.condP rfl ?_ ?_
    rotate_left
    · intro hc30
      have e2 : ((((([] ++ beBytes (u64 c.client) (Int.toNat 1)) ++ beBytes (u64 c.stamp) (Int.toNat 8)) ++ beBytes (u64 c.op) (Int.toNat 1)) ++ beBytes c.letter.data.toList.length 4 ++ c.letter.data.toList) ++ (([c.a, c.b].take z.1).flatMap fun x => beBytes (u64 x) (Int.toNat 8))) = (((([] ++ beBytes (u64 c.client) (Int.toNat 1)) ++ beBytes (u64 c.stamp) (Int.toNat 8)) ++ beBytes (u64 c.op) (Int.toNat 1)) ++ beBytes c.letter.data.toList.length 4 ++ c.letter.data.toList) ++ (beBytes (u64 c.a) (Int.toNat 8) ++ beBytes (u64 c.b) (Int.toNat 8)) := by
        have h : z.1 = 2 := by omega
        rw [h]
        simp
      rw [e2] at *
      refine SC.exit ?_
      refine SE.then_ (by intro h; cases h) ?_
      refine SE.then_ (by intro h; cases h) ?_
      refine SE.exit ?_
      refine SE.seq ?_
      refine SC.seq (SC.region ?_)
      refine SL.val (Val.move rfl) rfl rfl ?_
      refine SL.val (Val.fieldAddr tabOk rfl rfl rfl rfl rfl) rfl rfl ?_
      first
        | refine SL.val (Val.load1 tabOk rfl rfl (by repeat (first | assumption | exact List.mem_cons_self | exact hmem _ | apply List.mem_cons_of_mem)) (by rfl)) rfl rfl ?_
        | refine SL.val (Val.load1C tabOk rfl rfl (by assumption)) rfl rfl ?_
      refine SL.eff (Eff.strBytes rfl Try.underlying9 Try.underlying37 (by first | assumption | omega)) rfl rfl ?_
      rintro sb40 _ rfl
      refine SL.call (by kernel_rfl) rfl rfl rfl ?_
      intro w hw
      refine (oct_Row (l := ((((([] ++ beBytes (u64 c.client) (Int.toNat 1)) ++ beBytes (u64 c.stamp) (Int.toNat 8)) ++ beBytes (u64 c.op) (Int.toNat 1)) ++ beBytes c.letter.data.toList.length 4 ++ c.letter.data.toList) ++ (beBytes (u64 c.a) (Int.toNat 8) ++ beBytes (u64 c.b) (Int.toNat 8)))) (m := c.text.data.toList) hw (by repeat (first | assumption | exact List.mem_cons_self | exact hmem _ | apply List.mem_cons_of_mem)) (by repeat (first | assumption | exact List.mem_cons_self | exact hmem _ | apply List.mem_cons_of_mem)) (by simp only [List.length_append, beBytes_length, List.length_nil]; unfold lots; omega) (by omega)).mono ?_; rintro _ _ ⟨r, rfl, hm⟩; refine ⟨_, _, rfl, hm, ?_⟩; clear hm hw w
      refine SL.val (Val.assign rfl) rfl rfl ?_
      refine SL.nil (SE.seq ?_)
      refine SC.ret ?_
      refine SE.ret1 rfl rfl ?_
      intro w' hw'
      refine ⟨_, rfl, (hw'.sub (fun _ h => h) (List.sublist_cons_self _ _)).less (fun x hx => ?_)⟩
      rcases List.mem_cons.1 hx with rfl | hx
      · have e3 : c.bytes = (((([] ++ beBytes (u64 c.client) (Int.toNat 1)) ++ beBytes (u64 c.stamp) (Int.toNat 8)) ++ beBytes (u64 c.op) (Int.toNat 1)) ++ beBytes c.letter.data.toList.length 4 ++ c.letter.data.toList) ++ (beBytes (u64 c.a) (Int.toNat 8) ++ beBytes (u64 c.b) (Int.toNat 8)) ++ beBytes c.text.data.toList.length 4 ++ c.text.data.toList := by simp [Core.bytes, rowB]
        rw [e3]; simp
      · simp [*]
    intro hc30
    have hlt : z.1 < [c.a, c.b].length := by show z.1 < 2; omega
    have helt : [Value.int .i64 c.a, Value.int .i64 c.b][z.1]? = some (.int .i64 ([c.a, c.b][z.1]'hlt)) := by
      rcases (by omega : z.1 = 0 ∨ z.1 = 1) with h | h <;> simp only [h] <;> rfl
    refine SC.skip ?_
    refine SE.seq ?_
    refine SC.seq ?_
    refine SC.block ?_
    refine SC.seq (SC.region ?_)
    refine SL.val (Val.indexAr1 (L := [.int .i64 c.a, .int .i64 c.b]) (v := .int .i64 ([c.a, c.b][z.1]'hlt)) (q := z.1) tabOk rfl rfl rfl rfl rfl rfl hlt helt) rfl rfl ?_
    refine SL.val (Val.assign rfl) rfl rfl ?_
    refine SL.nil (SE.seq ?_)
    refine SC.region ?_
    refine SL.val (Val.move rfl) rfl rfl ?_
    refine SL.val (Val.move rfl) rfl rfl ?_
    first
      | refine SL.val (Val.convI rfl Try.underlying105 (by kernel_rfl) (by simp only [InR, lo, hi]; omega)) rfl rfl ?_
      | refine SL.val (Val.convU rfl Try.underlying105 (by kernel_rfl)) rfl rfl ?_
    refine SL.call (by kernel_rfl) rfl rfl rfl ?_
    intro w hw
    refine (put_c (l := ((((([] ++ beBytes (u64 c.client) (Int.toNat 1)) ++ beBytes (u64 c.stamp) (Int.toNat 8)) ++ beBytes (u64 c.op) (Int.toNat 1)) ++ beBytes c.letter.data.toList.length 4 ++ c.letter.data.toList) ++ (([c.a, c.b].take z.1).flatMap fun x => beBytes (u64 x) (Int.toNat 8)))) (x := u64 ([c.a, c.b][z.1]'hlt)) (n := 8) hw (hw.bytes (by repeat (first | assumption | exact List.mem_cons_self | exact hmem _ | apply List.mem_cons_of_mem))) (by unfold lots; omega) (u64_lt _) rfl).mono ?_; rintro _ _ ⟨r, rfl, hm⟩; refine ⟨_, _, rfl, hm, ?_⟩; clear hm hw w
    refine SL.val (Val.assign rfl) rfl rfl ?_
    refine SL.nil ?_
    refine SE.inBlock ?_
    refine SE.seq ?_
    refine SC.region ?_
    first
      | refine SL.val (Val.addI rfl rfl (by simp only [InR, lo, hi]; omega)) rfl rfl ?_
      | refine SL.val (Val.addW rfl rfl) rfl rfl ?_
    refine SL.val (Val.move rfl) rfl rfl ?_
    refine SL.nil ?_
    refine SE.round (z.1 + 1, r) (by show 2 - (z.1 + 1) < 2 - z.1; omega) (by exact ⟨rfl, rfl, rfl, rfl, trivial⟩) (fun w' hw' => ⟨by show z.1 + 1 ≤ 2; omega, ?_⟩)
    have e1 : ((((([] ++ beBytes (u64 c.client) (Int.toNat 1)) ++ beBytes (u64 c.stamp) (Int.toNat 8)) ++ beBytes (u64 c.op) (Int.toNat 1)) ++ beBytes c.letter.data.toList.length 4 ++ c.letter.data.toList) ++ (([c.a, c.b].take (z.1 + 1)).flatMap fun x => beBytes (u64 x) (Int.toNat 8))) = ((((([] ++ beBytes (u64 c.client) (Int.toNat 1)) ++ beBytes (u64 c.stamp) (Int.toNat 8)) ++ beBytes (u64 c.op) (Int.toNat 1)) ++ beBytes c.letter.data.toList.length 4 ++ c.letter.data.toList) ++ (([c.a, c.b].take z.1).flatMap fun x => beBytes (u64 x) (Int.toNat 8))) ++ beBytes (u64 ([c.a, c.b][z.1]'hlt)) (Int.toNat 8) := by
      rw [List.take_succ_eq_append_getElem hlt, List.flatMap_append, ← List.append_assoc]
      simp
    show Mem S _ (bytesD r ((((([] ++ beBytes (u64 c.client) (Int.toNat 1)) ++ beBytes (u64 c.stamp) (Int.toNat 8)) ++ beBytes (u64 c.op) (Int.toNat 1)) ++ beBytes c.letter.data.toList.length 4 ++ c.letter.data.toList) ++ (([c.a, c.b].take (z.1 + 1)).flatMap fun x => beBytes (u64 x) (Int.toNat 8))) :: ρ) w'
    rw [e1]
    exact hw'.less (fun x hx => by rcases List.mem_cons.1 hx with rfl | hx <;> simp [*])
  · skip
    refine SX.eff rfl (Eff.strBytes rfl Try.underlying9 Try.underlying37 (by first | assumption | omega)) rfl rfl ?_
    rintro sb22 _ rfl
    refine ⟨_, fun _ h => h.less (fun _ hx => List.mem_cons_of_mem _ hx), fun _ h => h, ?_⟩
    refine SX.call rfl (by kernel_rfl) rfl rfl rfl ?_
    intro w hw
    refine (put_c (l := (([] ++ beBytes (u64 c.client) (Int.toNat 1)) ++ beBytes (u64 c.stamp) (Int.toNat 8))) (x := u64 c.op) (n := 1) hw (hw.bytes (by repeat (first | assumption | exact List.mem_cons_self | exact hmem _ | apply List.mem_cons_of_mem))) (by first | exact Nat.zero_le _ | (simp only [List.length_append, beBytes_length, List.length_nil]; unfold lots; omega)) (u64_lt _) rfl).mono ?_; rintro _ _ ⟨r, rfl, hm⟩; refine ⟨_, _, rfl, hm, _, fun _ h => h.less (fun _ hx => List.mem_cons_of_mem _ hx), fun _ h => h, ?_⟩; clear hm hw w
    refine SX.call rfl (by kernel_rfl) rfl rfl rfl ?_
    intro w hw
    refine (oct_Row (l := ((([] ++ beBytes (u64 c.client) (Int.toNat 1)) ++ beBytes (u64 c.stamp) (Int.toNat 8)) ++ beBytes (u64 c.op) (Int.toNat 1))) (m := c.letter.data.toList) hw (by repeat (first | assumption | exact List.mem_cons_self | exact hmem _ | apply List.mem_cons_of_mem)) (by repeat (first | assumption | exact List.mem_cons_self | exact hmem _ | apply List.mem_cons_of_mem)) (by simp only [List.length_append, beBytes_length, List.length_nil]; unfold lots; omega) (by omega)).mono ?_; rintro _ _ ⟨r, rfl, hm⟩; refine ⟨_, _, rfl, hm, _, fun _ h => h.less (fun _ hx => List.mem_cons_of_mem _ hx), fun _ h => h, ?_⟩; clear hm hw w
    refine SX.val rfl (Val.assign rfl) rfl rfl ?_
    refine SX.nil (SE.seq ?_)
    refine SC.seq ?_
    refine SC.seq (SC.region ?_)
    refine SL.val (Val.fieldAddr tabOk rfl rfl rfl rfl rfl) rfl rfl ?_
    first
      | refine SL.val (Val.load1 tabOk rfl rfl (by repeat (first | assumption | exact List.mem_cons_self | exact hmem _ | apply List.mem_cons_of_mem)) (by rfl)) rfl rfl ?_
      | refine SL.val (Val.load1C tabOk rfl rfl (by assumption)) rfl rfl ?_
    refine SL.val (Val.fieldAddr tabOk rfl rfl rfl rfl rfl) rfl rfl ?_
    first
      | refine SL.val (Val.load1 tabOk rfl rfl (by repeat (first | assumption | exact List.mem_cons_self | exact hmem _ | apply List.mem_cons_of_mem)) (by rfl)) rfl rfl ?_
      | refine SL.val (Val.load1C tabOk rfl rfl (by assumption)) rfl rfl ?_
    refine SL.val (Val.buildA tabOk rfl rfl rfl rfl) rfl rfl ?_
    refine SL.val (Val.move rfl) rfl rfl ?_
    refine SL.nil (SE.seq ?_)
    refine SC.block ?_
    refine SC.loop (ι := Nat × Value) (fun z => [(1, .pointer (some ⟨b1, 0, none⟩)), (3, z.2), (28, .agg [.int .i64 c.a, .int .i64 c.b].toArray), (29, .int .i64 (z.1 : Nat))]) (fun z w' => z.1 ≤ 2 ∧ Mem S (.blk b1 (row 33 c.cells) :: σ) (bytesD z.2 ((((([] ++ beBytes (u64 c.client) (Int.toNat 1)) ++ beBytes (u64 c.stamp) (Int.toNat 8)) ++ beBytes (u64 c.op) (Int.toNat 1)) ++ beBytes c.letter.data.toList.length 4 ++ c.letter.data.toList) ++ (([c.a, c.b].take z.1).flatMap fun x => beBytes (u64 x) (Int.toNat 8))) :: ρ) w') (fun z => 2 - z.1) (0, _) (by exact ⟨rfl, rfl, rfl, rfl, trivial⟩) (fun w' hw' => ⟨by omega, hw'.less (by intro x hx; simp only [List.take_zero, List.flatMap_nil, List.append_nil] at hx; rcases List.mem_cons.1 hx with rfl | hx <;> simp [*])⟩) ?_
    intro z
    refine SC.facts ?_
    intro hz
    have hlen : ((((([] ++ beBytes (u64 c.client) (Int.toNat 1)) ++ beBytes (u64 c.stamp) (Int.toNat 8)) ++ beBytes (u64 c.op) (Int.toNat 1)) ++ beBytes c.letter.data.toList.length 4 ++ c.letter.data.toList) ++ (([c.a, c.b].take z.1).flatMap fun x => beBytes (u64 x) (Int.toNat 8))).length ≤ 10 + (4 + c.letter.data.toList.length) + 16 := by
      simp only [List.length_append, beBytes_length, List.length_nil]
      have : ((([c.a, c.b].take z.1).flatMap fun x => beBytes (u64 x) (Int.toNat 8))).length ≤ 16 := by
        rcases (by omega : z.1 = 0 ∨ z.1 = 1 ∨ z.1 = 2) with h | h | h <;> rw [h] <;> simp [beBytes_length]
      omega
    refine SC.seq (SC.region ?_)
    refine SL.val (Val.ltI rfl rfl) rfl rfl ?_
    refine SL.nil (SE.seq ?_)
    refine SC.seq ?_
    refine SC.condP rfl ?_ ?_
    rotate_left
    · intro hc30
      have e2 : ((((([] ++ beBytes (u64 c.client) (Int.toNat 1)) ++ beBytes (u64 c.stamp) (Int.toNat 8)) ++ beBytes (u64 c.op) (Int.toNat 1)) ++ beBytes c.letter.data.toList.length 4 ++ c.letter.data.toList) ++ (([c.a, c.b].take z.1).flatMap fun x => beBytes (u64 x) (Int.toNat 8))) = (((([] ++ beBytes (u64 c.client) (Int.toNat 1)) ++ beBytes (u64 c.stamp) (Int.toNat 8)) ++ beBytes (u64 c.op) (Int.toNat 1)) ++ beBytes c.letter.data.toList.length 4 ++ c.letter.data.toList) ++ (beBytes (u64 c.a) (Int.toNat 8) ++ beBytes (u64 c.b) (Int.toNat 8)) := by
        have h : z.1 = 2 := by omega
        rw [h]
        simp
      rw [e2] at *
      refine SC.exit ?_
      refine SE.then_ (by intro h; cases h) ?_
      refine SE.then_ (by intro h; cases h) ?_
      refine SE.exit ?_
      refine SE.seq ?_
      refine SC.seq (SC.region ?_)
      refine SL.val (Val.move rfl) rfl rfl ?_
      refine SL.val (Val.fieldAddr tabOk rfl rfl rfl rfl rfl) rfl rfl ?_
      first
        | refine SL.val (Val.load1 tabOk rfl rfl (by repeat (first | assumption | exact List.mem_cons_self | exact hmem _ | apply List.mem_cons_of_mem)) (by rfl)) rfl rfl ?_
        | refine SL.val (Val.load1C tabOk rfl rfl (by assumption)) rfl rfl ?_
      refine SL.eff (Eff.strBytes rfl Try.underlying9 Try.underlying37 (by first | assumption | omega)) rfl rfl ?_
      rintro sb40 _ rfl
      refine SL.call (by kernel_rfl) rfl rfl rfl ?_
      intro w hw
      refine (oct_Row (l := ((((([] ++ beBytes (u64 c.client) (Int.toNat 1)) ++ beBytes (u64 c.stamp) (Int.toNat 8)) ++ beBytes (u64 c.op) (Int.toNat 1)) ++ beBytes c.letter.data.toList.length 4 ++ c.letter.data.toList) ++ (beBytes (u64 c.a) (Int.toNat 8) ++ beBytes (u64 c.b) (Int.toNat 8)))) (m := c.text.data.toList) hw (by repeat (first | assumption | exact List.mem_cons_self | exact hmem _ | apply List.mem_cons_of_mem)) (by repeat (first | assumption | exact List.mem_cons_self | exact hmem _ | apply List.mem_cons_of_mem)) (by simp only [List.length_append, beBytes_length, List.length_nil]; unfold lots; omega) (by omega)).mono ?_; rintro _ _ ⟨r, rfl, hm⟩; refine ⟨_, _, rfl, hm, ?_⟩; clear hm hw w
      refine SL.val (Val.assign rfl) rfl rfl ?_
      refine SL.nil (SE.seq ?_)
      refine SC.ret ?_
      refine SE.ret1 rfl rfl ?_
      intro w' hw'
      refine ⟨_, rfl, (hw'.sub (fun _ h => h) (List.sublist_cons_self _ _)).less (fun x hx => ?_)⟩
      rcases List.mem_cons.1 hx with rfl | hx
      · have e3 : c.bytes = (((([] ++ beBytes (u64 c.client) (Int.toNat 1)) ++ beBytes (u64 c.stamp) (Int.toNat 8)) ++ beBytes (u64 c.op) (Int.toNat 1)) ++ beBytes c.letter.data.toList.length 4 ++ c.letter.data.toList) ++ (beBytes (u64 c.a) (Int.toNat 8) ++ beBytes (u64 c.b) (Int.toNat 8)) ++ beBytes c.text.data.toList.length 4 ++ c.text.data.toList := by simp [Core.bytes, rowB]
        rw [e3]; simp
      · simp [*]
    intro hc30
    have hlt : z.1 < [c.a, c.b].length := by show z.1 < 2; omega
    have helt : [Value.int .i64 c.a, Value.int .i64 c.b][z.1]? = some (.int .i64 ([c.a, c.b][z.1]'hlt)) := by
      rcases (by omega : z.1 = 0 ∨ z.1 = 1) with h | h <;> simp only [h] <;> rfl
    refine SC.skip ?_
    refine SE.seq ?_
    refine SC.seq ?_
    refine SC.block ?_
    refine SC.seq (SC.region ?_)
    refine SL.val (Val.indexAr1 (L := [.int .i64 c.a, .int .i64 c.b]) (v := .int .i64 ([c.a, c.b][z.1]'hlt)) (q := z.1) tabOk rfl rfl rfl rfl rfl rfl hlt helt) rfl rfl ?_
    refine SL.val (Val.assign rfl) rfl rfl ?_
    refine SL.nil (SE.seq ?_)
    refine SC.region ?_
    refine SL.val (Val.move rfl) rfl rfl ?_
    refine SL.val (Val.move rfl) rfl rfl ?_
    first
      | refine SL.val (Val.convI rfl Try.underlying105 (by kernel_rfl) (by simp only [InR, lo, hi]; omega)) rfl rfl ?_
      | refine SL.val (Val.convU rfl Try.underlying105 (by kernel_rfl)) rfl rfl ?_
    refine SL.call (by kernel_rfl) rfl rfl rfl ?_
    intro w hw
    refine (put_c (l := ((((([] ++ beBytes (u64 c.client) (Int.toNat 1)) ++ beBytes (u64 c.stamp) (Int.toNat 8)) ++ beBytes (u64 c.op) (Int.toNat 1)) ++ beBytes c.letter.data.toList.length 4 ++ c.letter.data.toList) ++ (([c.a, c.b].take z.1).flatMap fun x => beBytes (u64 x) (Int.toNat 8)))) (x := u64 ([c.a, c.b][z.1]'hlt)) (n := 8) hw (hw.bytes (by repeat (first | assumption | exact List.mem_cons_self | exact hmem _ | apply List.mem_cons_of_mem))) (by unfold lots; omega) (u64_lt _) rfl).mono ?_; rintro _ _ ⟨r, rfl, hm⟩; refine ⟨_, _, rfl, hm, ?_⟩; clear hm hw w
    refine SL.val (Val.assign rfl) rfl rfl ?_
    refine SL.nil ?_
    refine SE.inBlock ?_
    refine SE.seq ?_
    refine SC.region ?_
    first
      | refine SL.val (Val.addI rfl rfl (by simp only [InR, lo, hi]; omega)) rfl rfl ?_
      | refine SL.val (Val.addW rfl rfl) rfl rfl ?_
    refine SL.val (Val.move rfl) rfl rfl ?_
    refine SL.nil ?_
    refine SE.round (z.1 + 1, r) (by show 2 - (z.1 + 1) < 2 - z.1; omega) (by exact ⟨rfl, rfl, rfl, rfl, trivial⟩) (fun w' hw' => ⟨by show z.1 + 1 ≤ 2; omega, ?_⟩)
    have e1 : ((((([] ++ beBytes (u64 c.client) (Int.toNat 1)) ++ beBytes (u64 c.stamp) (Int.toNat 8)) ++ beBytes (u64 c.op) (Int.toNat 1)) ++ beBytes c.letter.data.toList.length 4 ++ c.letter.data.toList) ++ (([c.a, c.b].take (z.1 + 1)).flatMap fun x => beBytes (u64 x) (Int.toNat 8))) = ((((([] ++ beBytes (u64 c.client) (Int.toNat 1)) ++ beBytes (u64 c.stamp) (Int.toNat 8)) ++ beBytes (u64 c.op) (Int.toNat 1)) ++ beBytes c.letter.data.toList.length 4 ++ c.letter.data.toList) ++ (([c.a, c.b].take z.1).flatMap fun x => beBytes (u64 x) (Int.toNat 8))) ++ beBytes (u64 ([c.a, c.b][z.1]'hlt)) (Int.toNat 8) := by
      rw [List.take_succ_eq_append_getElem hlt, List.flatMap_append, ← List.append_assoc]
      simp
    show Mem S _ (bytesD r ((((([] ++ beBytes (u64 c.client) (Int.toNat 1)) ++ beBytes (u64 c.stamp) (Int.toNat 8)) ++ beBytes (u64 c.op) (Int.toNat 1)) ++ beBytes c.letter.data.toList.length 4 ++ c.letter.data.toList) ++ (([c.a, c.b].take (z.1 + 1)).flatMap fun x => beBytes (u64 x) (Int.toNat 8))) :: ρ) w'
    rw [e1]
    exact hw'.less (fun x hx => by rcases List.mem_cons.1 hx with rfl | hx <;> simp [*])

end
end Go.Proofs.Ytmkijjmbiiiicaa
/-
  The second engine: the bytes of cores.
-/
set_option maxRecDepth 100000
set_option linter.unusedSimpArgs false
set_option linter.unusedVariables false
namespace Go.Proofs.Ytmkijjmbiiiicaa.A
open Go.RowKit

abbrev coreA (c : Core) : Abs := .agg (c.cells.map .v)
section
variable {c : Core} {n : Int}
theorem enter_ids {K : List Nat} {w w' : World} {ρ : List Dt} (h : Proofs.Ytmkijjmbiiiicaa.Mem [(w, K)] [old2 w K] ρ w') : ∀ k, k < w.heap.size → k ∈ K → k ∈ [old2 w K].flatMap Proofs.Ytmkijjmbiiiicaa.It.ids := fun k hk hm => by
  simp only [List.flatMap_cons, List.flatMap_nil, List.append_nil]
  exact old2_ids.2 ⟨hk, hm⟩
theorem core_val {K : List Nat} {w : World} {vals : List Value} (hv : reps K w [coreA c] vals) : vals = [.agg c.cells.toArray] := by
  obtain ⟨v, us', rfl, ⟨us, rfl, h1⟩, h2⟩ := hv
  have h2 : us' = [] := h2
  have h1 := (reps_plain (us := c.cells)).1 h1
  rw [h2, h1]
theorem core_val2 {K : List Nat} {w : World} {vals : List Value} (hv : reps K w [coreA c, int n] vals) : vals = [.agg c.cells.toArray, .int .i64 n] := by
  obtain ⟨v, us', rfl, ⟨us, rfl, h1⟩, h2⟩ := hv
  have h1 := (reps_plain (us := c.cells)).1 h1
  have h2 := (reps_plain (us := [.int .i64 n])).1 h2
  rw [h2, h1]
theorem cbytes_s (h1 : c.letter.size ≤ 1000000) (h2 : c.text.size ≤ 1000000) : Pure Try.prog 44 [coreA c] (byt c.bytes) := Pure.of2 fun K w vals hK hv => by
  rw [core_val hv]
  exact (coreBytes_c (enter2 w K) h1 h2).mono fun e w' ⟨r, he, hm⟩ => ⟨r, he, leave2 hm (by simp), rep_byt.2 (row3 hK (enter_ids hm) (hm.data (z := bytesD r _) (by simp)))⟩
theorem ccheck_s : Pure Try.prog 22 [coreA c, int n] (int (c.check n)) := Pure.of2 fun K w vals hK hv => by
  rw [core_val2 hv]
  exact (check_c (enter2 w K)).mono fun e w' ⟨he, hm⟩ => ⟨_, he, leave2 hm (by simp), rfl⟩
end
end Go.Proofs.Ytmkijjmbiiiicaa.A
/-
  The second engine: rows of one's own, read; calls that change several pieces.
-/
set_option maxRecDepth 100000
set_option linter.unusedSimpArgs false
set_option linter.unusedVariables false
namespace Go.Proofs.Ytmkijjmbiiiicaa.A
open Go.RowKit

def isOwn (σ : Blks) (e : TypeId) (s : Nat) (v : Value) (xs : List (List Abs)) : Prop := own e s v xs ∈ σ ∨ It.rdpc (ownPc e s v xs) ∈ σ
section
variable {P : Program} {n : Nat} {W : Wd} {σ τ : Blks} {l : Slots} {X : List Nat} {x y z : Operand} {d : Option Nat} {ty t e e' : TypeId} {pos : String} {aft : Array Edge} {g : Option (Nat × Bool)} {v : Value} {k : IntKind} {A : Abs} {tab : List (Nat × TI)} {xs : List (List Abs)} {s q : Nat} {cs : List Abs}
theorem Mem.ownR {w0 w : World} {F G : List Nat} (h : Mem w0 F G σ w) (hb : isOwn σ e s v xs) : ∃ us, IsRow [] w v xs.length us ∧ repss (mids σ ++ G) w s xs us := by
  have hp : (ownPc e s v xs).p (mids σ ++ G) w := by
    rcases hb with hb | hb
    · exact h.hold _ hb
    · exact h.hold _ hb
  obtain ⟨us, h1, h2⟩ := hp
  exact ⟨us, ownsRow.isRow h1 (by simp), h2⟩
/-- It changes pieces that lie side by side. -/
theorem After.mid {ι : Type} {σ1 : Blks} {τ' : ι → Blks} {K : Blks → ι → Prop} (α : Blks) {β : Blks} (hσ : σ = α ++ (σ1 ++ β)) (hr : ∀ x ∈ σ1, x.rids = []) (k : ∀ z, K (α ++ (τ' z ++ β)) z) : After σ σ1 τ' K := by
  subst hσ
  refine ⟨α ++ β, ⟨?_, fun x hx => .inl ⟨by simp [hx], hr x hx⟩, fun x hx => ?_⟩, fun z => ⟨_, ?_, k z⟩⟩
  · simp only [mids_append]
    exact List.perm_append_comm_assoc _ _ _
  · rcases List.mem_append.1 hx with h | h <;> simp [h]
  · exact List.perm_append_comm_assoc _ _ _
end
/-- A cut, from a known state. -/
theorem SC.cutS {P : Program} {n : Nat} {W : Wd} {σ : Blks} {l : Slots} {Q : Exit → Act → World → Prop} {x y : Code} {ι : Type} (H : ι → Blks) (L : ι → Slots) (Φ : ι → Prop) (h : SC P x (St n W σ l) (Exit.then (fun a w => ∃ z, Head n W H L Φ z a w) Q)) (k : ∀ z, Φ z → SC P y (St n W (H z) (L z)) Q) : SC P (.seq x y) (St n W σ l) Q := SC.cut H L Φ h k
section
variable {P : Program} {n : Nat} {W : Wd} {ops : Array Oper} {l : Slots} {σ : Blks} {X : List Nat} {Q : Exit → Act → World → Prop} {ix : Plan} {f : FuncId} {args args' : List Abs} {σ1 : Blks} {ι : Type} {τ' : ι → Blks} {res : ι → Abs} {xs : List Operand} {ats : Array TypeId} {d : Option Nat} {ty : TypeId} {pos : String} {aft : Array Edge} {g : Option (Nat × Bool)} {i : Nat}
end
/-- 'max' of two numbers. -/
theorem Val.maxI {P : Program} {n : Nat} {W : Wd} {σ : Blks} {l : Slots} {X : List Nat} {x y : Operand} {d : Option Nat} {ty t t' : TypeId} {pos : String} {aft : Array Edge} {gq : Option (Nat × Bool)} {k : IntKind} {a b : Int} (hx : look l x = some (.v (.int k a))) (hy : look l y = some (.v (.int k b))) :
    Val P n W σ l X ⟨d, .call { callee := .builtin .max, args := #[x, y], argTypes := #[t, t'] }, ty, pos, aft, gq⟩ (.v (.int k (max a b))) := fun ac w hs _ => ⟨_, rfl, fun w' _ => by
  have hm : (if a < b then b else a) = max a b := by omega
  simp [execOp, resolve, invoke, builtin, Builtin.max_, Builtin.max2, hs.plain hx, hs.plain hy, List.foldlM, hm]⟩
end Go.Proofs.Ytmkijjmbiiiicaa.A
/-
  The second engine: a constant's bytes: a row that was just made, marked as a text's.
-/
set_option maxRecDepth 100000
set_option linter.unusedSimpArgs false
set_option linter.unusedVariables false
namespace Go.Proofs.Ytmkijjmbiiiicaa.A
open Go.RowKit

end Go.Proofs.Ytmkijjmbiiiicaa.A
