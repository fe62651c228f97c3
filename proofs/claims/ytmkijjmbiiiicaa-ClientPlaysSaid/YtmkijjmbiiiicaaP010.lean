/-
  Packed out of the texts: CliD, L15.
-/
import Derived.Test.YtmkijjmbiiiicaaP09
/-
  Clients, plain: the document's client, and the program's beside it.
-/
set_option maxRecDepth 100000
set_option linter.unusedSimpArgs false
set_option linter.unusedVariables false
namespace Go.Proofs.Ytmkijjmbiiiicaa.A
open Go.RowKit

/-- The document's client. -/
structure DS where
  stamp : Int
  waits : Bool
  req : Core
  said : List (Int × Int)
  acc : List Oc
abbrev saidL (l : List (Int × Int)) : List (List Abs) := l.map fun p => [int p.1, int p.2]
def DS.cells (q : Nat) (n id : Int) (d : DS) : List Abs := [ptr q, int n, int id, int d.stamp, boo d.waits] ++ ((Rq.mk d.req []).abs ++ [.sl 2 (saidL d.said), outA d.acc])
theorem ds_req (q : Nat) (n id : Int) (d : DS) : A.part (d.cells q n id) 5 8 = (Rq.mk d.req []).abs := rfl
theorem ds_core (q : Nat) (n id : Int) (d : DS) : A.part (d.cells q n id) 5 7 = d.req.cells.map .v := rfl
theorem said_ones (l : List (Int × Int)) : ∀ c ∈ saidL l, ones c = true := by
  intro c hc
  obtain ⟨o, _, rfl⟩ := List.mem_map.1 hc
  rfl
noncomputable def daskE (n id : Int) (d : DS) (x : Core) : Int := if d.waits = true then 15 else askE n id d.stamp x
noncomputable def daskS (n id : Int) (d : DS) (x : Core) : DS := if daskE n id d x = 0 then ⟨x.stamp, true, x, [], d.acc⟩ else d
noncomputable def daskT (T : List (ByteArray × Nat)) (n id : Int) (d : DS) (x : Core) : List (ByteArray × Nat) := if daskE n id d x = 0 then askT T n id x else T
noncomputable def daskL (T : List (ByteArray × Nat)) (n id : Int) (d : DS) (x : Core) : List (List Abs) := if daskE n id d x = 0 then parcels (askM T n id x) (allN n) else []
def dagainT (T : List (ByteArray × Nat)) (n id : Int) (d : DS) : List (ByteArray × Nat) := if d.waits = true then askT T n id d.req else T
def dagainL (T : List (ByteArray × Nat)) (n id : Int) (d : DS) : List (List Abs) := if d.waits = true then parcels (askM T n id d.req) (allN n) else []
/-- What is answered to a message. -/
def drecvE (T : List (ByteArray × Nat)) (n id : Int) (d : DS) (m : Msg) : Int := if (readR T n id d.stamp d.waits m).2 ≠ 0 then (readR T n id d.stamp d.waits m).2 else if (aget d.said m.from_).isSome then 15 else 0
def drecvD (T : List (ByteArray × Nat)) (n id : Int) (d : DS) (m : Msg) : Bool := decide ((max n 1 - 1) / 3 < (((1 + cnt d.said (readR T n id d.stamp d.waits m).1.result : Nat)) : Int))
def drecvS (T : List (ByteArray × Nat)) (n id : Int) (d : DS) (m : Msg) : DS :=
  if drecvE T n id d m ≠ 0 then d
  else if drecvD T n id d m = true then ⟨d.stamp, false, d.req, d.said ++ [(m.from_, (readR T n id d.stamp d.waits m).1.result)], d.acc ++ [Oc.mk id (readR T n id d.stamp d.waits m).1.stamp (readR T n id d.stamp d.waits m).1.result]⟩
  else ⟨d.stamp, d.waits, d.req, d.said ++ [(m.from_, (readR T n id d.stamp d.waits m).1.result)], d.acc⟩

section
variable {T : List (ByteArray × Nat)} {n id : Int} {d : DS} {m : Msg}
theorem drecv_bad (h : (readR T n id d.stamp d.waits m).2 ≠ 0) : drecvE T n id d m = (readR T n id d.stamp d.waits m).2 ∧ drecvS T n id d m = d := by
  have e : drecvE T n id d m = (readR T n id d.stamp d.waits m).2 := if_pos h
  exact ⟨e, if_pos (by rw [e]; exact h)⟩
theorem drecv_err {e : Int} (h : readR T n id d.stamp d.waits m = (Rp.zero, e)) (he : e ≠ 0) : drecvE T n id d m = e ∧ drecvS T n id d m = d := by
  have h1 := drecv_bad (T := T) (n := n) (id := id) (d := d) (m := m) (by rw [h]; exact he)
  rw [h] at h1
  exact h1
theorem drecv_twice (h : (readR T n id d.stamp d.waits m).2 = 0) (hv : (aget d.said m.from_).isSome = true) : drecvE T n id d m = 15 ∧ drecvS T n id d m = d := by
  have e : drecvE T n id d m = 15 := (if_neg (fun h2 => h2 h)).trans (if_pos hv)
  exact ⟨e, if_pos (by rw [e]; decide)⟩
theorem drecv_new (h : (readR T n id d.stamp d.waits m).2 = 0) (hv : ¬ (aget d.said m.from_).isSome = true) : drecvE T n id d m = 0 ∧ drecvS T n id d m = if drecvD T n id d m = true then ⟨d.stamp, false, d.req, d.said ++ [(m.from_, (readR T n id d.stamp d.waits m).1.result)], d.acc ++ [Oc.mk id (readR T n id d.stamp d.waits m).1.stamp (readR T n id d.stamp d.waits m).1.result]⟩
  else ⟨d.stamp, d.waits, d.req, d.said ++ [(m.from_, (readR T n id d.stamp d.waits m).1.result)], d.acc⟩ := by
  have e : drecvE T n id d m = 0 := (if_neg (fun h2 => h2 h)).trans (if_neg hv)
  exact ⟨e, if_neg (by rw [e]; decide)⟩
end
theorem chk_first {T : List (ByteArray × Nat)} {m : Msg} {who : Int} (hq : 0 < m.tags.length) : chkMI T m 0 who = if ((aget T (sKey m.from_ who (textV m.kind m.body))).isSome && decide ((m.tags[0]'hq).d = numB 255 (pl T (sKey m.from_ who (textV m.kind m.body))))) = true then 0 else 12 := by
  unfold chkMI
  rw [if_neg (by omega)]
  simp only [Int.toNat_zero, List.getElem?_eq_getElem hq, Option.map_some, Option.getD_some]
theorem chk_none {T : List (ByteArray × Nat)} {m : Msg} {who : Int} (hq : m.tags.length < 1) : chkMI T m 0 who = 12 := by
  unfold chkMI
  rw [if_pos (by omega)]
theorem said_who {l : List (Int × Int)} {w : Int} (h : ∀ j (hj : j < l.length), ¬ l[j].1 = w) : ¬ (aget l w).isSome = true := by
  rw [aget_isSome]
  intro h2
  obtain ⟨p, hp, e⟩ := List.mem_map.1 h2
  obtain ⟨j, hj, rfl⟩ := List.getElem_of_mem hp
  exact h j hj e
theorem said_at {l : List (Int × Int)} {w : Int} {j : Nat} (hj : j < l.length) (h : l[j].1 = w) : (aget l w).isSome = true := by
  rw [aget_isSome]
  exact List.mem_map.2 ⟨l[j], List.getElem_mem hj, h⟩
theorem cnt_take {l : List (Int × Int)} {j : Nat} (hj : j < l.length) (v : Int) : cnt (l.take (j + 1)) v = cnt (l.take j) v + if l[j].2 = v then 1 else 0 := by
  rw [List.take_succ_eq_append_getElem hj, cnt_append, cnt_cons]
  simp [cnt]
theorem allN_len {n : Int} (h : n ≤ 7) : (allN n).length = n.toNat := by
  unfold allN
  rw [if_neg (by omega)]
  simp
theorem allN_at {n : Int} {z : Nat} (h : z < (allN n).length) : (allN n)[z] = (z : Nat) := by
  unfold allN at h ⊢
  split at h
  · simp at h
  · rename_i h7
    simp only [if_neg h7, List.getElem_map, List.getElem_range]
theorem parcels_snoc {n : Int} {m : Msg} {z : Nat} (h : z < (allN n).length) : parcels m ((allN n).take z) ++ [int (z : Nat) :: m.abs] = parcels m ((allN n).take (z + 1)) := by
  rw [List.take_succ_eq_append_getElem h, allN_at h]
  unfold parcels
  rw [List.map_append]
  rfl

/-! ### Beside each other -/
abbrev gAsk (id : Int) (x : Core) : Int → ByteArray := gI id (textV 1 (askB x))
theorem tmG_id {g : Int → ByteArray} : ∀ {l : List Int} {T : List (ByteArray × Nat)}, (∀ i ∈ l, hasK T (g i) = true) → tmG g T l = T
  | [], _, _ => rfl
  | w :: l, T, h => by
    show tmG g (pm T (g w)) l = T
    rw [pm_old (hasK_iff.1 (h w List.mem_cons_self))]
    exact tmG_id fun i hi => h i (List.mem_cons_of_mem _ hi)
theorem tmG_all (g : Int → ByteArray) (T : List (ByteArray × Nat)) (l : List Int) : ∀ i ∈ l, hasK (tmG g T l) (g i) = true := fun i hi => by
  rw [tmG_has, Bool.or_eq_true]
  exact .inr (List.any_eq_true.2 ⟨i, hi, by simp⟩)
structure DRel (n id : Int) (s : CS) (d : DS) (T : List (ByteArray × Nat)) : Prop where
  stamp : d.stamp = s.stamp
  acc : d.acc = s.acc
  idle : s.wait = none → d.waits = false
  busy : ∀ w, s.wait = some w → d.waits = true ∧ d.req = w.core ∧ d.said = w.m ∧ Votes n w.m w.c ∧ w.msg = Msg.mk 1 id (askB w.core) ((allN n).map fun i => tagN T (gAsk id w.core i)) ∧ ∀ i ∈ allN n, hasK T (gAsk id w.core i) = true
section
variable {n id : Int} {s : CS} {d : DS} {T : List (ByteArray × Nat)} {x : Core} {z : Nat × Nat × Nat × Nat} {m : Msg} {v : Value}
theorem DRel.start : DRel n id ⟨0, none, [], v⟩ ⟨0, false, Wn.none_, [], []⟩ T := ⟨rfl, rfl, fun _ => rfl, by simp⟩
theorem DRel.more (h : DRel n id s d T) (g : Int → ByteArray) (l : List Int) : DRel n id s d (tmG g T l) := by
  refine ⟨h.stamp, h.acc, h.idle, fun w hw => ?_⟩
  obtain ⟨h1, h2, h3, h4, h5, h6⟩ := h.busy w hw
  refine ⟨h1, h2, h3, h4, h5.trans ?_, fun i hi => by rw [tmG_has, h6 i hi, Bool.true_or]⟩
  congr 1
  refine List.map_congr_left fun i hi => Tg.same ?_
  show numB 255 _ = numB 255 _
  rw [tmG_keep g (h6 i hi)]
theorem DRel.waits (h : DRel n id s d T) : d.waits = s.wait.isSome := by
  cases hw : s.wait with
  | none => exact h.idle hw
  | some w => exact (h.busy w hw).1
theorem DRel.core (h : DRel n id s d T) (hw : s.wait.isSome = true) : s.core = d.req := by
  obtain ⟨w, hw⟩ := Option.isSome_iff_exists.1 hw
  unfold CS.core
  rw [hw]
  exact (h.busy w hw).2.1.symm
theorem askM_has (h : ∀ i ∈ allN n, hasK T (gAsk id x i) = true) : askT T n id x = T ∧ askM T n id x = Msg.mk 1 id (askB x) ((allN n).map fun i => tagN T (gAsk id x i)) := by
  have e : tmG (gAsk id x) T (allN n) = T := tmG_id h
  refine ⟨e, ?_⟩
  show Msg.mk 1 id (askB x) ((allN n).map fun w => tagN (tmG (gAsk id x) T (allN n)) (gAsk id x w)) = _
  rw [e]
theorem askM_is : askM T n id x = Msg.mk 1 id (askB x) ((allN n).map fun i => tagN (askT T n id x) (gAsk id x i)) := rfl
theorem DRel.askE (h : DRel n id s d T) : daskE n id d x = askSE n id s x := by
  unfold daskE askSE
  rw [h.waits, h.stamp]
  cases s.wait with
  | none => exact if_neg (by simp)
  | some w => exact if_pos rfl
/-- Behind the program's Ask the document's finds all told. -/
theorem DRel.ask (h : DRel n id s d T) (z : Nat × Nat × Nat × Nat) : daskT (askST T n id s x) n id d x = askST T n id s x ∧ daskL (askST T n id s x) n id d x = askSL T n id s x ∧ DRel n id (askS T n id s x z) (daskS n id d x) (askST T n id s x) := by
  have e := h.askE (x := x)
  by_cases he : askSE n id s x = 0
  · have eT : askST T n id s x = askT T n id x := if_pos he
    have eL : askSL T n id s x = parcels (askM T n id x) (allN n) := if_pos he
    obtain ⟨k1, k2⟩ := askM_has (T := askT T n id x) (n := n) (id := id) (x := x) (tmG_all _ _ _)
    have k3 : askM (askT T n id x) n id x = askM T n id x := k2.trans askM_is.symm
    rw [eT, eL]
    refine ⟨(if_pos (e.trans he)).trans k1, (if_pos (e.trans he)).trans (by rw [k3]), ?_⟩
    have hw : s.wait = none := by
      cases hw : s.wait with
      | none => rfl
      | some w => unfold askSE at he; rw [hw] at he; cases he
    obtain ⟨stamp, wait, acc, av⟩ := s
    cases hw
    have hS : askS T n id ⟨stamp, none, acc, av⟩ x z = ⟨x.stamp, some ⟨x, askM T n id x, [], [], z.1, z.2.1, z.2.2.1, z.2.2.2⟩, acc, av⟩ := if_pos he
    rw [hS, show daskS n id d x = ⟨x.stamp, true, x, [], d.acc⟩ from if_pos (e.trans he)]
    refine ⟨rfl, h.acc, by simp, fun w hw => ?_⟩
    cases hw
    exact ⟨rfl, rfl, rfl, Votes.nil, askM_is, tmG_all _ _ _⟩
  · have hS : askS T n id s x z = s := by
      obtain ⟨stamp, wait, acc, av⟩ := s
      cases wait with
      | some w => rfl
      | none => exact if_neg he
    rw [show askST T n id s x = T from if_neg he, show askSL T n id s x = [] from if_neg he, hS]
    exact ⟨if_neg (by rw [e]; exact he), if_neg (by rw [e]; exact he), by rw [show daskS n id d x = d from if_neg (by rw [e]; exact he)]; exact h⟩
def againL (n : Int) (s : CS) : List (List Abs) := match s.wait with
  | none => []
  | some w => parcels w.msg (allN n)
theorem DRel.again (h : DRel n id s d T) : dagainT T n id d = T ∧ dagainL T n id d = againL n s := by
  unfold dagainT dagainL againL
  rw [h.waits]
  cases hw : s.wait with
  | none => exact ⟨if_neg (by simp), if_neg (by simp)⟩
  | some w =>
    obtain ⟨h1, h2, h3, h4, h5, h6⟩ := h.busy w hw
    rw [h2]
    obtain ⟨k1, k2⟩ := askM_has h6
    exact ⟨(if_pos rfl).trans k1, (if_pos rfl).trans (by rw [k2, ← h5])⟩
theorem recvn_ne {stamp : Int} (h : (readR T n id stamp false m).2 = 0) : False := by
  have := (readR_ok h).waits
  cases this
theorem DRel.recv (h : DRel n id s d T) (m : Msg) (z : Value) : drecvE T n id d m = recvSE T n id s m ∧ DRel n id (recvS T n id s m z) (drecvS T n id d m) T := by
  have hs9 := h.stamp
  obtain ⟨stamp, wait, acc, av⟩ := s
  obtain ⟨dst, dwt, dreq, dsaid, dacc⟩ := d
  dsimp only at hs9
  subst hs9
  cases wait with
  | none =>
    have hw9 : dwt = false := h.waits
    subst hw9
    have h0 : (readR T n id dst false m).2 ≠ 0 := fun h0 => recvn_ne h0
    have e1 : drecvE T n id ⟨dst, false, dreq, dsaid, dacc⟩ m = (readR T n id dst false m).2 := if_pos h0
    refine ⟨e1, ?_⟩
    rw [show drecvS T n id ⟨dst, false, dreq, dsaid, dacc⟩ m = ⟨dst, false, dreq, dsaid, dacc⟩ from if_pos (by rw [e1]; exact h0)]
    exact h
  | some w =>
    have hw9 : dwt = true := h.waits
    subst hw9
    obtain ⟨h1, h2, h3, h4, h5, h6⟩ := h.busy w rfl
    have hac : dacc = acc := h.acc
    dsimp only at h2 h3
    subst h2 h3 hac
    have e1 : drecvE T n id ⟨dst, true, w.core, w.m, dacc⟩ m = recvE T n id dst w.m m := rfl
    refine ⟨e1, ?_⟩
    by_cases h0 : (readR T n id dst true m).2 = 0
    · cases hv : aget w.m m.from_ with
      | some u =>
        obtain ⟨q1, q2, q3, q4⟩ := recv_twice (K := w.c) h0 hv
        have hS : recvS T n id ⟨dst, some w, dacc, av⟩ m z = ⟨dst, some { w with m := recvM T n id dst w.m m, c := recvC T n id dst w.m w.c m }, dacc, z⟩ := if_neg (by rw [q4]; decide)
        rw [show drecvS T n id ⟨dst, true, w.core, w.m, dacc⟩ m = ⟨dst, true, w.core, w.m, dacc⟩ from if_pos (by rw [e1, q1]; decide), hS, q2, q3]
        refine ⟨rfl, rfl, by simp, fun w' hw' => ?_⟩
        cases hw'
        exact ⟨rfl, rfl, rfl, h4, h5, h6⟩
      | none =>
        obtain ⟨q1, q2, q3, q4⟩ := recv_new (K := w.c) h0 hv
        have hvr := h4.recv (T := T) (id := id) (stamp := dst) (m := m)
        have hM : recvM T n id dst w.m m = w.m ++ [(m.from_, (readR T n id dst true m).1.result)] := by
          rw [q2, tAddM_new hv, aput_new hv]
        have hN : cget (tAddC w.m w.c m.from_ (readR T n id dst true m).1.result) (readR T n id dst true m).1.result = 1 + cnt w.m (readR T n id dst true m).1.result := by
          have := hvr.inv.num (readR T n id dst true m).1.result
          rw [q3] at this
          rw [this, hM, cnt_append, cnt_cons]
          simp [cnt]
          omega
        have hD : recvD T n id dst w.m w.c m = drecvD T n id ⟨dst, true, w.core, w.m, dacc⟩ m := by
          rw [q4, hN]
          rfl
        have hE : ¬ drecvE T n id ⟨dst, true, w.core, w.m, dacc⟩ m ≠ 0 := by rw [e1, q1]; decide
        by_cases hd : drecvD T n id ⟨dst, true, w.core, w.m, dacc⟩ m = true
        · rw [show drecvS T n id ⟨dst, true, w.core, w.m, dacc⟩ m = _ from (if_neg hE).trans (if_pos hd), show recvS T n id ⟨dst, some w, dacc, av⟩ m z = _ from if_pos (hD.trans hd)]
          exact ⟨rfl, rfl, fun _ => rfl, by simp⟩
        · rw [show drecvS T n id ⟨dst, true, w.core, w.m, dacc⟩ m = _ from (if_neg hE).trans (if_neg hd), show recvS T n id ⟨dst, some w, dacc, av⟩ m z = _ from if_neg (by rw [hD]; exact hd)]
          refine ⟨rfl, rfl, by simp, fun w' hw' => ?_⟩
          cases hw'
          exact ⟨rfl, rfl, hM.symm, hvr, h5, h6⟩
    · obtain ⟨q1, q2, q3, q4⟩ := recv_bad (M := w.m) (K := w.c) h0
      have hS : recvS T n id ⟨dst, some w, dacc, av⟩ m z = ⟨dst, some { w with m := recvM T n id dst w.m m, c := recvC T n id dst w.m w.c m }, dacc, z⟩ := if_neg (by rw [q4]; decide)
      rw [show drecvS T n id ⟨dst, true, w.core, w.m, dacc⟩ m = ⟨dst, true, w.core, w.m, dacc⟩ from if_pos (by rw [e1, q1]; exact h0), hS, q2, q3]
      refine ⟨rfl, rfl, by simp, fun w' hw' => ?_⟩
      cases hw'
      exact ⟨rfl, rfl, rfl, h4, h5, h6⟩
end
/-- What stays true of both from act to act. -/
structure PlayOk (n id : Int) (k : Nat) (s : CS) (d : DS) (T : List (ByteArray × Nat)) : Prop where
  rel : DRel n id s d T
  lo : 0 ≤ s.stamp
  hi : s.stamp ≤ (k : Nat)
  few : s.acc.length ≤ k
  num : Num1 T
  tags : T.length ≤ 8 * k
section
variable {n id : Int} {k : Nat} {s : CS} {d : DS} {T : List (ByteArray × Nat)} {x : Core} {z : Nat × Nat × Nat × Nat} {m : Msg} {v : Value}
theorem PlayOk.start : PlayOk n id 0 ⟨0, none, [], v⟩ ⟨0, false, Wn.none_, [], []⟩ [] := ⟨DRel.start, Int.le_refl _, Int.le_refl _, Nat.le_refl _, Num1.nil, Nat.le_refl _⟩
theorem PlayOk.next (h : PlayOk n id k s d T) : PlayOk n id (k + 1) s d T := ⟨h.rel, h.lo, by have := h.hi; omega, by have := h.few; omega, h.num, by have := h.tags; omega⟩
theorem PlayOk.ok (h : PlayOk n id k s d T) (hk : k ≤ 900) : CSOk n s := ⟨fun w hw => (h.rel.busy w hw).2.2.2.1, by have := h.few; omega⟩
theorem PlayOk.more (h : PlayOk n id k s d T) (g : Int → ByteArray) (b : Int) : PlayOk n id (k + 1) s d (tmG g T [b]) :=
  ⟨h.rel.more g [b], h.lo, by have := h.hi; omega, by have := h.few; omega, tmG_num h.num _ _, by
    have h1 := tmG_len g T [b]
    have h2 := h.tags
    simp only [List.length_singleton] at h1
    omega⟩
theorem PlayOk.ask (h : PlayOk n id k s d T) (z : Nat × Nat × Nat × Nat) : PlayOk n id (k + 1) (askS T n id s x z) (daskS n id d x) (askST T n id s x) := by
  have hr := (h.rel.ask (x := x) z).2.2
  have h0 := h.lo
  have h1 := h.hi
  have h2 := h.few
  have h3 := h.tags
  have hl := allN_le n
  by_cases he : askSE n id s x = 0
  · have hw : s.wait = none := by
      cases hw : s.wait with
      | none => rfl
      | some w => unfold askSE at he; rw [hw] at he; cases he
    obtain ⟨stamp, wait, acc, av⟩ := s
    cases hw
    have he2 : askE n id stamp x = 0 := he
    have hx : x = nextC id stamp x := by
      by_cases hx : x = nextC id stamp x
      · exact hx
      · unfold askE at he2; rw [if_neg hx] at he2; cases he2
    have hst : x.stamp = stamp + 1 := by rw [hx]; rfl
    have hS : askS T n id ⟨stamp, none, acc, av⟩ x z = ⟨x.stamp, some ⟨x, askM T n id x, [], [], z.1, z.2.1, z.2.2.1, z.2.2.2⟩, acc, av⟩ := if_pos he
    have eT : askST T n id ⟨stamp, none, acc, av⟩ x = askT T n id x := if_pos he
    rw [hS, eT] at hr
    rw [hS, eT]
    dsimp only at h0 h1 h2
    refine ⟨hr, by show 0 ≤ x.stamp; omega, by show x.stamp ≤ _; omega, by show acc.length ≤ _; omega, tmG_num h.num _ _, ?_⟩
    have h5 := tmG_len (gI id (textV 1 (askB x))) T (allN n)
    show (tmG _ _ _).length ≤ _
    omega
  · have hS : askS T n id s x z = s := by
      obtain ⟨stamp, wait, acc, av⟩ := s
      cases wait with
      | some w => rfl
      | none => exact if_neg he
    have eT : askST T n id s x = T := if_neg he
    rw [hS, eT] at hr
    rw [hS, eT]
    exact ⟨hr, h0, by omega, by omega, h.num, by omega⟩
theorem PlayOk.recv (h : PlayOk n id k s d T) (m : Msg) (z : Value) : PlayOk n id (k + 1) (recvS T n id s m z) (drecvS T n id d m) T := by
  have hr := (h.rel.recv m z).2
  refine ⟨hr, ?_, ?_, ?_, h.num, by have := h.tags; omega⟩
  · have e : (recvS T n id s m z).stamp = s.stamp := by
      obtain ⟨stamp, wait, acc, av⟩ := s
      cases wait with
      | none => rfl
      | some w => unfold recvS; dsimp only; split <;> rfl
    rw [e]; exact h.lo
  · have e : (recvS T n id s m z).stamp = s.stamp := by
      obtain ⟨stamp, wait, acc, av⟩ := s
      cases wait with
      | none => rfl
      | some w => unfold recvS; dsimp only; split <;> rfl
    rw [e]; have := h.hi; omega
  · have h2 := h.few
    obtain ⟨stamp, wait, acc, av⟩ := s
    dsimp only at h2
    cases wait with
    | none => show acc.length ≤ _; omega
    | some w =>
      unfold recvS
      dsimp only
      split
      · simp only [List.length_append, List.length_singleton]; omega
      · show acc.length ≤ _; omega
end
end Go.Proofs.Ytmkijjmbiiiicaa.A
/-
  The document's client: Next, Again, Ask.
-/
set_option maxRecDepth 100000
set_option linter.unusedSimpArgs false
set_option linter.unusedVariables false
namespace Go.Proofs.Ytmkijjmbiiiicaa.A
open Go.RowKit

section
variable {r q bd bt : Nat} {n id : Int} {x : Core} {m : Msg} {d : DS} {T : List (ByteArray × Nat)}
theorem dnext_s (hs : d.stamp ≤ 1000000000) (hs0 : 0 ≤ d.stamp) : Spec Try.prog 18 [ptr r, coreA x] [.rd r 51 (DS.cells q n id (d))] (fun _ : Unit => []) (fun _ => coreA (nextC id d.stamp x)) := by
  refine spec_of Try.func18 rfl Try.ntmps18 rfl fun G w => ?_
  refine SC.seq (SC.region ?_)
  refine SL.eff (Eff.boxA (cs := x.cells.map .v) rfl) rfl rfl ?_
  rintro _ _ ⟨b3, rfl, rfl⟩
  refine SL.eff (Eff.alloc tabOk rfl) rfl rfl ?_
  rintro _ _ ⟨b4, rfl, rfl⟩
  refine SL.nil (SE.seq ?_)
  refine SC.seq ?_
  refine SC.known (p := r ∉ [b3]) (fun _ _ h => by
      intro hm
      rw [List.mem_singleton] at hm
      have h2 := h.mem.ro (.rd r _ _) (by repeat first | exact List.mem_cons_self | apply List.mem_cons_of_mem) r (by simp [It.rids])
      rw [hm] at h2
      exact h.mem.sep b3 (by simp [mids, It.mids]) h2) fun hX => ?_
  refine SC.draw [b3] (.q 0 (.q 1 (.q 2 (.q 3 (.q 4 (.q 5 (.q 6 (.q 7 (.q 8 (.q 9 (.e 10 (.q 11 (.e 12 .nil))))))))))))) (by kernel_rfl) (by kernel_rfl) ?_
  refine SX.val rfl (Val.move rfl) (by first | (simp [mids, It.mids, ownPc, mapPc]; done) | (intro k hk; simp [mids, It.mids, ownPc, mapPc] at hk ⊢; grind)) rfl rfl ?_
  refine SX.val rfl (Val.nilCheck rfl) (by first | (simp [mids, It.mids, ownPc, mapPc]; done) | (intro k hk; simp [mids, It.mids, ownPc, mapPc] at hk ⊢; grind)) rfl rfl ?_
  refine SX.val rfl (Val.fieldAddr tabOk rfl rfl rfl rfl rfl) (by first | (simp [mids, It.mids, ownPc, mapPc]; done) | (intro k hk; simp [mids, It.mids, ownPc, mapPc] at hk ⊢; grind)) rfl rfl ?_
  refine SX.val rfl (Val.load1 tabOk rfl rfl (by first|(apply Or.inl;(repeat first|assumption|exact m0|apply m1);done)|(apply Or.inr;(repeat first|assumption|exact m0|apply m1);done)) hX (by rfl)) (by first | (simp [mids, It.mids, ownPc, mapPc]; done) | (intro k hk; simp [mids, It.mids, ownPc, mapPc] at hk ⊢; grind)) rfl rfl ?_
  refine SX.val rfl (Val.move rfl) (by first | (simp [mids, It.mids, ownPc, mapPc]; done) | (intro k hk; simp [mids, It.mids, ownPc, mapPc] at hk ⊢; grind)) rfl rfl ?_
  refine SX.val rfl (Val.nilCheck rfl) (by first | (simp [mids, It.mids, ownPc, mapPc]; done) | (intro k hk; simp [mids, It.mids, ownPc, mapPc] at hk ⊢; grind)) rfl rfl ?_
  refine SX.val rfl (Val.fieldAddr tabOk rfl rfl rfl rfl rfl) (by first | (simp [mids, It.mids, ownPc, mapPc]; done) | (intro k hk; simp [mids, It.mids, ownPc, mapPc] at hk ⊢; grind)) rfl rfl ?_
  refine SX.val rfl (Val.load1 tabOk rfl rfl (by first|(apply Or.inl;(repeat first|assumption|exact m0|apply m1);done)|(apply Or.inr;(repeat first|assumption|exact m0|apply m1);done)) hX (by rfl)) (by first | (simp [mids, It.mids, ownPc, mapPc]; done) | (intro k hk; simp [mids, It.mids, ownPc, mapPc] at hk ⊢; grind)) rfl rfl ?_
  first
    | refine SX.val rfl (Val.addI rfl rfl (by simp only [InR, lo, hi]; omega)) (by first | (simp [mids, It.mids, ownPc, mapPc]; done) | (intro k hk; simp [mids, It.mids, ownPc, mapPc] at hk ⊢; grind)) rfl rfl ?_
    | refine SX.val rfl (Val.addW rfl rfl) (by first | (simp [mids, It.mids, ownPc, mapPc]; done) | (intro k hk; simp [mids, It.mids, ownPc, mapPc] at hk ⊢; grind)) rfl rfl ?_
  refine SX.val rfl (Val.fieldAddr tabOk rfl rfl rfl rfl rfl) (by first | (simp [mids, It.mids, ownPc, mapPc]; done) | (intro k hk; simp [mids, It.mids, ownPc, mapPc] at hk ⊢; grind)) rfl rfl ?_
  refine SX.eff rfl (Eff.store tabOk rfl rfl rfl (by repeat first|assumption|exact Upd.here|apply Upd.there) (by rfl) (Nat.le_of_ble_eq_true (by rfl)) (by rfl) (by rfl)) (by simp) rfl rfl ?_
  rintro _ _ ⟨rfl, rfl⟩
  refine SX.val rfl (Val.fieldAddr tabOk rfl rfl rfl rfl rfl) (by first | (simp [mids, It.mids, ownPc, mapPc]; done) | (intro k hk; simp [mids, It.mids, ownPc, mapPc] at hk ⊢; grind)) rfl rfl ?_
  refine SX.eff rfl (Eff.store tabOk rfl rfl rfl (by repeat first|assumption|exact Upd.here|apply Upd.there) (by rfl) (Nat.le_of_ble_eq_true (by rfl)) (by rfl) (by rfl)) (by simp) rfl rfl ?_
  rintro _ _ ⟨rfl, rfl⟩
  refine SX.nil (SE.seq ?_)
  refine SC.seq (SC.region ?_)
  first
    | refine SL.val (Val.loadA tabOk rfl rfl rfl (by first|(apply Or.inl;(repeat first|assumption|exact m0|apply m1);done)|(apply Or.inr;(repeat first|assumption|exact m0|apply m1);done)) List.not_mem_nil (by rfl)) rfl rfl ?_
    | refine SL.val (Val.loadP tabOk rfl rfl rfl (by first|(apply Or.inl;(repeat first|assumption|exact m0|apply m1);done)|(apply Or.inr;(repeat first|assumption|exact m0|apply m1);done)) List.not_mem_nil (Nat.le_of_ble_eq_true (by rfl))) rfl rfl ?_
  refine SL.eff (Eff.store tabOk rfl rfl rfl (by repeat first|assumption|exact Upd.here|apply Upd.there) (by rfl) (Nat.le_of_ble_eq_true (by rfl)) (by rfl) (by rfl)) rfl rfl ?_
  rintro _ _ ⟨rfl, rfl⟩
  refine SL.nil (SE.seq ?_)
  refine SC.ret ?_
  refine SE.fin (rs := [.cell 4 33]) rfl (RV.cell rfl (RV.cellA tabOk rfl rfl (by first|(apply Or.inl;(repeat first|assumption|exact m0|apply m1);done)|(apply Or.inr;(repeat first|assumption|exact m0|apply m1);done)) (by rfl)) RV.nil) (()) (by repeat first|exact s0 _|exact s1 _|apply s2|apply s3) (by simp [It.rids]) ?_
  exact rfl
set_option maxHeartbeats 4000000 in
theorem dagain_s (h7 : 1 ≤ n ∧ n ≤ 7) (h1 : d.req.letter.size ≤ 1000) (h2 : d.req.text.size ≤ 1000) (hn : Num1 T) (hT : T.length ≤ 900000) : Spec Try.prog 19 [ptr r] [.blk r 51 (DS.cells q n id (d)), .blk q 68 [mapV bd, mapV bt], .pc (mapPc bt Value.string cntV sOk (T))] (fun _ : Unit => [.blk r 51 (DS.cells q n id (d)), .blk q 68 [mapV bd, mapV bt], .pc (mapPc bt Value.string cntV sOk (dagainT T n id d))]) (fun _ => .sl 5 (dagainL T n id d)) := by
  have hal := allN_len h7.2
  have hab := askB_length d.req
  have hcl := core_len (c := d.req)
  refine spec_of Try.func19 rfl Try.ntmps19 rfl fun G w => ?_
  refine SC.seq (SC.region ?_)
  refine SL.val (Val.assign rfl) rfl rfl ?_
  refine SL.nil (SE.seq ?_)
  refine SC.seq (SC.region ?_)
  refine SL.val (Val.assign rfl) rfl rfl ?_
  refine SL.nil (SE.seq ?_)
  refine SC.seq ?_
  refine SC.seq (SC.region ?_)
  refine SL.val (Val.move rfl) rfl rfl ?_
  refine SL.val (Val.nilCheck rfl) rfl rfl ?_
  refine SL.val (Val.fieldAddr tabOk rfl rfl rfl rfl rfl) rfl rfl ?_
  refine SL.val (Val.load1 tabOk rfl rfl (by first|(apply Or.inl;(repeat first|assumption|exact m0|apply m1);done)|(apply Or.inr;(repeat first|assumption|exact m0|apply m1);done)) List.not_mem_nil (by rfl)) rfl rfl ?_
  refine SL.val (Val.notB rfl) rfl rfl ?_
  refine SL.nil (SE.seq ?_)
  refine SC.cond rfl ?_ ?_
  · intro hc10
    have hw : d.waits = false := by simpa using hc10
    refine SC.seq (SC.region ?_)
    refine SL.val (Val.assign rfl) rfl rfl ?_
    refine SL.nil (SE.seq ?_)
    refine SC.ret ?_
    refine SE.then_ (by intro h; cases h) ?_
    refine SE.finC (rs := [.tmp 2]) rfl (RV.tmp rfl RV.nil) (Casts.nils (s := 5) Casts.refl) (()) (by rw [show dagainT T n id d = T from if_neg (by rw [hw]; decide)]; repeat (first | exact List.nil_sublist _ | exact List.Sublist.refl _ | apply List.Sublist.cons_cons | apply List.Sublist.cons)) (by simp [It.rids]) ?_
    rw [show dagainL T n id d = [] from if_neg (by rw [hw]; decide)]
    rfl
  intro hc10
  have hw : d.waits = true := by simpa using hc10
  have hT9 : dagainT T n id d = askT T n id d.req := if_pos hw
  have hL9 : dagainL T n id d = parcels (askM T n id d.req) (allN n) := if_pos hw
  refine SC.skip ?_
  refine SE.seq ?_
  refine SC.seq ?_
  refine SC.known (p := r ∉ [q, bt]) (fun _ _ h => by
      have h1 := h.mem.nodup
      simp [mids, It.mids, ownPc, mapPc] at h1 ⊢
      grind) fun hX => ?_
  refine SC.drawZ [q, bt] (.q 0 (.q 1 (.q 2 (.q 3 (.q 4 (.q 5 (.q 6 (.q 7 (.q 8 (.q 9 (.q 10 (.q 11 (.q 13 (.q 14 (.q 15 (.q 16 (.two 12 19 (.two 17 19 (.two 18 19 (.e 19 .nil) (.e 18 .nil)) (.e 17 (.e 18 .nil))) (.e 12 (.e 17 (.e 18 .nil)))))))))))))))))))) (by kernel_rfl) (by kernel_rfl) ?_
  refine SX.val rfl (Val.move rfl) (by first | (simp [mids, It.mids, ownPc, mapPc]; done) | (intro k hk; simp [mids, It.mids, ownPc, mapPc] at hk ⊢; grind)) rfl rfl ?_
  refine SX.val rfl (Val.nilCheck rfl) (by first | (simp [mids, It.mids, ownPc, mapPc]; done) | (intro k hk; simp [mids, It.mids, ownPc, mapPc] at hk ⊢; grind)) rfl rfl ?_
  refine SX.val rfl (Val.fieldAddr tabOk rfl rfl rfl rfl rfl) (by first | (simp [mids, It.mids, ownPc, mapPc]; done) | (intro k hk; simp [mids, It.mids, ownPc, mapPc] at hk ⊢; grind)) rfl rfl ?_
  refine SX.val rfl (Val.load1 tabOk rfl rfl (by first|(apply Or.inl;(repeat first|assumption|exact m0|apply m1);done)|(apply Or.inr;(repeat first|assumption|exact m0|apply m1);done)) (by first | exact hX) (by rfl)) (by first | (simp [mids, It.mids, ownPc, mapPc]; done) | (intro k hk; simp [mids, It.mids, ownPc, mapPc] at hk ⊢; grind)) rfl rfl ?_
  refine SX.val rfl (Val.move rfl) (by first | (simp [mids, It.mids, ownPc, mapPc]; done) | (intro k hk; simp [mids, It.mids, ownPc, mapPc] at hk ⊢; grind)) rfl rfl ?_
  refine SX.val rfl (Val.nilCheck rfl) (by first | (simp [mids, It.mids, ownPc, mapPc]; done) | (intro k hk; simp [mids, It.mids, ownPc, mapPc] at hk ⊢; grind)) rfl rfl ?_
  refine SX.val rfl (Val.fieldAddr tabOk rfl rfl rfl rfl rfl) (by first | (simp [mids, It.mids, ownPc, mapPc]; done) | (intro k hk; simp [mids, It.mids, ownPc, mapPc] at hk ⊢; grind)) rfl rfl ?_
  refine SX.val rfl (Val.load1 tabOk rfl rfl (by first|(apply Or.inl;(repeat first|assumption|exact m0|apply m1);done)|(apply Or.inr;(repeat first|assumption|exact m0|apply m1);done)) (by first | exact hX) (by rfl)) (by first | (simp [mids, It.mids, ownPc, mapPc]; done) | (intro k hk; simp [mids, It.mids, ownPc, mapPc] at hk ⊢; grind)) rfl rfl ?_
  refine SX.val rfl (Val.move rfl) (by first | (simp [mids, It.mids, ownPc, mapPc]; done) | (intro k hk; simp [mids, It.mids, ownPc, mapPc] at hk ⊢; grind)) rfl rfl ?_
  refine SX.val rfl (Val.nilCheck rfl) (by first | (simp [mids, It.mids, ownPc, mapPc]; done) | (intro k hk; simp [mids, It.mids, ownPc, mapPc] at hk ⊢; grind)) rfl rfl ?_
  refine SX.val rfl (Val.fieldAddr tabOk rfl rfl rfl rfl rfl) (by first | (simp [mids, It.mids, ownPc, mapPc]; done) | (intro k hk; simp [mids, It.mids, ownPc, mapPc] at hk ⊢; grind)) rfl rfl ?_
  refine SX.val rfl (Val.to (C := .agg (Rq.mk d.req []).abs) (Val.loadP tabOk rfl rfl rfl (by first|(apply Or.inl;(repeat first|assumption|exact m0|apply m1);done)|(apply Or.inr;(repeat first|assumption|exact m0|apply m1);done)) (by first | exact hX) (Nat.le_of_ble_eq_true (by rfl))) (congrArg Abs.agg (ds_req _ _ _ _))) (by first | (simp [mids, It.mids, ownPc, mapPc]; done) | (intro k hk; simp [mids, It.mids, ownPc, mapPc] at hk ⊢; grind)) rfl rfl ?_
  refine SX.val rfl (Val.move rfl) (by first | (simp [mids, It.mids, ownPc, mapPc]; done) | (intro k hk; simp [mids, It.mids, ownPc, mapPc] at hk ⊢; grind)) rfl rfl ?_
  refine SX.val rfl (Val.nilCheck rfl) (by first | (simp [mids, It.mids, ownPc, mapPc]; done) | (intro k hk; simp [mids, It.mids, ownPc, mapPc] at hk ⊢; grind)) rfl rfl ?_
  refine SX.val rfl (Val.fieldAddr tabOk rfl rfl rfl rfl rfl) (by first | (simp [mids, It.mids, ownPc, mapPc]; done) | (intro k hk; simp [mids, It.mids, ownPc, mapPc] at hk ⊢; grind)) rfl rfl ?_
  refine SX.val rfl (Val.load1 tabOk rfl rfl (by first|(apply Or.inl;(repeat first|assumption|exact m0|apply m1);done)|(apply Or.inr;(repeat first|assumption|exact m0|apply m1);done)) (by first | exact hX) (by rfl)) (by first | (simp [mids, It.mids, ownPc, mapPc]; done) | (intro k hk; simp [mids, It.mids, ownPc, mapPc] at hk ⊢; grind)) rfl rfl ?_
  refine SX.two ?_ ?_
  · skip
    refine SX.call rfl (rask_s (c := d.req) h1 h2) (by simp [mids, It.mids]) Casts.refl (by kernel_rfl) rfl rfl rfl ?_
    refine After.pure (by repeat (first | exact Reads.nil | (refine Reads.blk ?_ ?_; focus ((repeat first|assumption|exact m0|apply m1); done)) | (refine Reads.rd ?_ ?_; focus ((repeat first|assumption|exact m0|apply m1); done)) | (refine Reads.pc ?_ ?_; focus ((repeat first|assumption|exact m0|apply m1); done)) | (refine Reads.rdpc ?_ ?_; focus ((repeat first|assumption|exact m0|apply m1); done)))) (fun _ => rfl) ?_
    intro _
    refine SX.two ?_ ?_
    · skip
      refine SX.call rfl (dall_s (n := n) (by omega)) (by simp [mids, It.mids]) Casts.refl (by kernel_rfl) rfl rfl rfl ?_
      refine After.pure (by repeat (first | exact Reads.nil | (refine Reads.blk ?_ ?_; focus ((repeat first|assumption|exact m0|apply m1); done)) | (refine Reads.rd ?_ ?_; focus ((repeat first|assumption|exact m0|apply m1); done)) | (refine Reads.pc ?_ ?_; focus ((repeat first|assumption|exact m0|apply m1); done)) | (refine Reads.rdpc ?_ ?_; focus ((repeat first|assumption|exact m0|apply m1); done)))) (fun _ => rfl) ?_
      intro _
      refine SX.two ?_ ?_
      · skip
        refine SX.call rfl (message_s (q := q) (bd := bd) (bt := bt) (k := 1) (f := id) (body := askB d.req) (to := allN n) (T := T) (by omega) hn hT (by omega)) (by simp [mids, It.mids, mapPc]) Casts.refl (by kernel_rfl) rfl rfl rfl ?_
        first
          | refine After.mid [_] (β := []) rfl (by intro x hx; simp only [List.mem_cons, List.not_mem_nil, or_false] at hx; rcases hx with rfl | rfl <;> rfl) ?_
          | refine After.mid [_, _] (β := []) rfl (by intro x hx; simp only [List.mem_cons, List.not_mem_nil, or_false] at hx; rcases hx with rfl | rfl <;> rfl) ?_
        intro _
        refine SX.alloc tabOk rfl rfl rfl rfl fun b4 => ?_
        refine SX.nil ?_
        refine SE.effZ rfl (Eff.store (L' := (askM T n id d.req).abs) tabOk rfl rfl rfl (by repeat first|assumption|exact Upd.here|apply Upd.there) rfl (Nat.le_of_ble_eq_true (by rfl)) rfl (by exact putL_whole rfl)) rfl rfl ?_
        rintro _ _ ⟨rfl, rfl⟩
        refine SE.seq ?_
        refine SC.seq ?_
        refine SC.seq (SC.region ?_)
        refine SL.val (Val.assign rfl) rfl rfl ?_
        refine SL.nil (SE.seq ?_)
        refine SC.block ?_
        refine SC.own0 91 5 ?_
        refine SC.loop (ι := Nat × Value) (fun z => [own 91 5 z.2 (parcels (askM T n id d.req) ((allN n).take z.1)), .blk b4 40 (askM T n id d.req).abs, .blk r 51 (DS.cells q n id (d)), .blk q 68 [mapV bd, mapV bt], .pc (mapPc bt Value.string cntV sOk (askT T n id d.req))]) (fun z => [(0, ptr r), (3, .v z.2), (4, ptr b4), (5, int (z.1 : Nat))]) (fun z => z.1 ≤ (allN n).length) (fun z => (allN n).length - z.1) (0, .slice none 0 0) (Nat.zero_le _) (by exact ⟨rfl, rfl, rfl, rfl, trivial⟩) (by repeat first|exact s0 _|exact s1 _|apply s2|apply s3) ?_
        intro z hz
        refine SC.seq ?_
        refine SC.seq (SC.region ?_)
        refine SL.val (Val.move rfl) rfl rfl ?_
        refine SL.val (Val.move rfl) rfl rfl ?_
        refine SL.val (Val.nilCheck rfl) rfl rfl ?_
        refine SL.val (Val.fieldAddr tabOk rfl rfl rfl rfl rfl) rfl rfl ?_
        refine SL.val (Val.load1 tabOk rfl rfl (by first|(apply Or.inl;(repeat first|assumption|exact m0|apply m1);done)|(apply Or.inr;(repeat first|assumption|exact m0|apply m1);done)) List.not_mem_nil (by rfl)) rfl rfl ?_
        refine SL.val (Val.ltI rfl rfl) rfl rfl ?_
        refine SL.nil (SE.seq ?_)
        refine SC.condP rfl ?_ ?_
        rotate_left
        · intro hc35
          refine SC.exit ?_
          refine SE.then_ (by intro h; cases h) ?_
          refine SE.then_ (by intro h; cases h) ?_
          refine SE.exit ?_
          refine SE.seq ?_
          refine SC.seq (SC.region ?_)
          refine SL.val (Val.move rfl) rfl rfl ?_
          refine SL.val (Val.assign rfl) rfl rfl ?_
          refine SL.nil (SE.seq ?_)
          refine SC.ret ?_
          refine SE.freeze [] (t := 2) rfl rfl ?_
          rw [List.take_of_length_le (show (allN n).length ≤ z.1 by omega)]
          refine SE.fin (rs := [.tmp 2]) rfl (RV.tmp rfl RV.nil) (()) (by rw [hT9]; repeat (first | exact List.nil_sublist _ | exact List.Sublist.refl _ | apply List.Sublist.cons_cons | apply List.Sublist.cons)) (by simp [It.rids]) ?_
          rw [hL9]
          rfl
        intro hc35
        have hlt : z.1 < (allN n).length := by omega
        refine SC.skip ?_
        refine SE.seq ?_
        refine SC.seq ?_
        refine SC.block ?_
        refine SC.region ?_
        refine SL.val (Val.move rfl) rfl rfl ?_
        refine SL.val (Val.move rfl) rfl rfl ?_
        refine SL.val (Val.loadA tabOk rfl rfl rfl (by first|(apply Or.inl;(repeat first|assumption|exact m0|apply m1);done)|(apply Or.inr;(repeat first|assumption|exact m0|apply m1);done)) List.not_mem_nil rfl) rfl rfl ?_
        refine SL.val (Val.buildS (L := int (z.1 : Nat) :: (askM T n id d.req).abs) tabOk rfl rfl rfl (by rfl)) rfl rfl ?_
        refine SL.eff (Eff.buildSl tabOk Try.underlying28 rfl rfl rfl rfl rfl rfl rfl) rfl rfl ?_
        rintro _ _ ⟨rfl, rfl⟩
        refine SL.eff (Eff.appendE (zs := (parcels (askM T n id d.req) ((allN n).take (z.1 + 1)))) tabOk [] (parcels_snoc hlt) Try.underlying28 rfl rfl rfl rfl rfl rfl (by intro c hc; rw [List.mem_singleton] at hc; subst hc; rfl) (by unfold maxLen parcels; simp only [List.length_map, List.length_take, List.length_cons, List.length_nil]; omega) (by rw [show Try.prog.bytesOf 91 = 72 by kernel_rfl]; unfold parcels; simp only [List.length_map, List.length_take, List.length_cons, List.length_nil]; omega)) rfl rfl ?_
        rintro _ _ ⟨r43, rfl, rfl⟩
        refine SL.val (Val.assign rfl) rfl rfl ?_
        refine SL.nil ?_
        refine SE.inBlock ?_
        refine SE.seq ?_
        refine SC.region ?_
        refine SL.val (Val.move rfl) rfl rfl ?_
        first
          | refine SL.val (Val.addI rfl rfl (by simp only [InR, lo, hi]; omega)) rfl rfl ?_
          | refine SL.val (Val.addW rfl rfl) rfl rfl ?_
        refine SL.val (Val.assign rfl) rfl rfl ?_
        refine SL.nil ?_
        refine SE.round (z.1 + 1, r43) (by first | omega | (dsimp only; omega)) (by dsimp only; omega) (by exact ⟨rfl, rfl, rfl, rfl, trivial⟩) (by repeat first|exact s0 _|exact s1 _|apply s2|apply s3)
      · skip
        refine SX.alloc tabOk rfl rfl rfl rfl fun b4 => ?_
        refine SX.call rfl (message_s (q := q) (bd := bd) (bt := bt) (k := 1) (f := id) (body := askB d.req) (to := allN n) (T := T) (by omega) hn hT (by omega)) (by simp [mids, It.mids, mapPc]) Casts.refl (by kernel_rfl) rfl rfl rfl ?_
        first
          | refine After.mid [_] (β := []) rfl (by intro x hx; simp only [List.mem_cons, List.not_mem_nil, or_false] at hx; rcases hx with rfl | rfl <;> rfl) ?_
          | refine After.mid [_, _] (β := []) rfl (by intro x hx; simp only [List.mem_cons, List.not_mem_nil, or_false] at hx; rcases hx with rfl | rfl <;> rfl) ?_
        intro _
        refine SX.nil ?_
        refine SE.effZ rfl (Eff.store (L' := (askM T n id d.req).abs) tabOk rfl rfl rfl (by repeat first|assumption|exact Upd.here|apply Upd.there) rfl (Nat.le_of_ble_eq_true (by rfl)) rfl (by exact putL_whole rfl)) rfl rfl ?_
        rintro _ _ ⟨rfl, rfl⟩
        refine SE.seq ?_
        refine SC.seq ?_
        refine SC.seq (SC.region ?_)
        refine SL.val (Val.assign rfl) rfl rfl ?_
        refine SL.nil (SE.seq ?_)
        refine SC.block ?_
        refine SC.own0 91 5 ?_
        refine SC.loop (ι := Nat × Value) (fun z => [own 91 5 z.2 (parcels (askM T n id d.req) ((allN n).take z.1)), .blk b4 40 (askM T n id d.req).abs, .blk r 51 (DS.cells q n id (d)), .blk q 68 [mapV bd, mapV bt], .pc (mapPc bt Value.string cntV sOk (askT T n id d.req))]) (fun z => [(0, ptr r), (3, .v z.2), (4, ptr b4), (5, int (z.1 : Nat))]) (fun z => z.1 ≤ (allN n).length) (fun z => (allN n).length - z.1) (0, .slice none 0 0) (Nat.zero_le _) (by exact ⟨rfl, rfl, rfl, rfl, trivial⟩) (by repeat first|exact s0 _|exact s1 _|apply s2|apply s3) ?_
        intro z hz
        refine SC.seq ?_
        refine SC.seq (SC.region ?_)
        refine SL.val (Val.move rfl) rfl rfl ?_
        refine SL.val (Val.move rfl) rfl rfl ?_
        refine SL.val (Val.nilCheck rfl) rfl rfl ?_
        refine SL.val (Val.fieldAddr tabOk rfl rfl rfl rfl rfl) rfl rfl ?_
        refine SL.val (Val.load1 tabOk rfl rfl (by first|(apply Or.inl;(repeat first|assumption|exact m0|apply m1);done)|(apply Or.inr;(repeat first|assumption|exact m0|apply m1);done)) List.not_mem_nil (by rfl)) rfl rfl ?_
        refine SL.val (Val.ltI rfl rfl) rfl rfl ?_
        refine SL.nil (SE.seq ?_)
        refine SC.condP rfl ?_ ?_
        rotate_left
        · intro hc35
          refine SC.exit ?_
          refine SE.then_ (by intro h; cases h) ?_
          refine SE.then_ (by intro h; cases h) ?_
          refine SE.exit ?_
          refine SE.seq ?_
          refine SC.seq (SC.region ?_)
          refine SL.val (Val.move rfl) rfl rfl ?_
          refine SL.val (Val.assign rfl) rfl rfl ?_
          refine SL.nil (SE.seq ?_)
          refine SC.ret ?_
          refine SE.freeze [] (t := 2) rfl rfl ?_
          rw [List.take_of_length_le (show (allN n).length ≤ z.1 by omega)]
          refine SE.fin (rs := [.tmp 2]) rfl (RV.tmp rfl RV.nil) (()) (by rw [hT9]; repeat (first | exact List.nil_sublist _ | exact List.Sublist.refl _ | apply List.Sublist.cons_cons | apply List.Sublist.cons)) (by simp [It.rids]) ?_
          rw [hL9]
          rfl
        intro hc35
        have hlt : z.1 < (allN n).length := by omega
        refine SC.skip ?_
        refine SE.seq ?_
        refine SC.seq ?_
        refine SC.block ?_
        refine SC.region ?_
        refine SL.val (Val.move rfl) rfl rfl ?_
        refine SL.val (Val.move rfl) rfl rfl ?_
        refine SL.val (Val.loadA tabOk rfl rfl rfl (by first|(apply Or.inl;(repeat first|assumption|exact m0|apply m1);done)|(apply Or.inr;(repeat first|assumption|exact m0|apply m1);done)) List.not_mem_nil rfl) rfl rfl ?_
        refine SL.val (Val.buildS (L := int (z.1 : Nat) :: (askM T n id d.req).abs) tabOk rfl rfl rfl (by rfl)) rfl rfl ?_
        refine SL.eff (Eff.buildSl tabOk Try.underlying28 rfl rfl rfl rfl rfl rfl rfl) rfl rfl ?_
        rintro _ _ ⟨rfl, rfl⟩
        refine SL.eff (Eff.appendE (zs := (parcels (askM T n id d.req) ((allN n).take (z.1 + 1)))) tabOk [] (parcels_snoc hlt) Try.underlying28 rfl rfl rfl rfl rfl rfl (by intro c hc; rw [List.mem_singleton] at hc; subst hc; rfl) (by unfold maxLen parcels; simp only [List.length_map, List.length_take, List.length_cons, List.length_nil]; omega) (by rw [show Try.prog.bytesOf 91 = 72 by kernel_rfl]; unfold parcels; simp only [List.length_map, List.length_take, List.length_cons, List.length_nil]; omega)) rfl rfl ?_
        rintro _ _ ⟨r43, rfl, rfl⟩
        refine SL.val (Val.assign rfl) rfl rfl ?_
        refine SL.nil ?_
        refine SE.inBlock ?_
        refine SE.seq ?_
        refine SC.region ?_
        refine SL.val (Val.move rfl) rfl rfl ?_
        first
          | refine SL.val (Val.addI rfl rfl (by simp only [InR, lo, hi]; omega)) rfl rfl ?_
          | refine SL.val (Val.addW rfl rfl) rfl rfl ?_
        refine SL.val (Val.assign rfl) rfl rfl ?_
        refine SL.nil ?_
        refine SE.round (z.1 + 1, r43) (by first | omega | (dsimp only; omega)) (by dsimp only; omega) (by exact ⟨rfl, rfl, rfl, rfl, trivial⟩) (by repeat first|exact s0 _|exact s1 _|apply s2|apply s3)
    · skip
      refine SX.alloc tabOk rfl rfl rfl rfl fun b4 => ?_
      refine SX.call rfl (dall_s (n := n) (by omega)) (by simp [mids, It.mids]) Casts.refl (by kernel_rfl) rfl rfl rfl ?_
      refine After.pure (by repeat (first | exact Reads.nil | (refine Reads.blk ?_ ?_; focus ((repeat first|assumption|exact m0|apply m1); done)) | (refine Reads.rd ?_ ?_; focus ((repeat first|assumption|exact m0|apply m1); done)) | (refine Reads.pc ?_ ?_; focus ((repeat first|assumption|exact m0|apply m1); done)) | (refine Reads.rdpc ?_ ?_; focus ((repeat first|assumption|exact m0|apply m1); done)))) (fun _ => rfl) ?_
      intro _
      refine SX.call rfl (message_s (q := q) (bd := bd) (bt := bt) (k := 1) (f := id) (body := askB d.req) (to := allN n) (T := T) (by omega) hn hT (by omega)) (by simp [mids, It.mids, mapPc]) Casts.refl (by kernel_rfl) rfl rfl rfl ?_
      first
        | refine After.mid [_] (β := []) rfl (by intro x hx; simp only [List.mem_cons, List.not_mem_nil, or_false] at hx; rcases hx with rfl | rfl <;> rfl) ?_
        | refine After.mid [_, _] (β := []) rfl (by intro x hx; simp only [List.mem_cons, List.not_mem_nil, or_false] at hx; rcases hx with rfl | rfl <;> rfl) ?_
      intro _
      refine SX.nil ?_
      refine SE.effZ rfl (Eff.store (L' := (askM T n id d.req).abs) tabOk rfl rfl rfl (by repeat first|assumption|exact Upd.here|apply Upd.there) rfl (Nat.le_of_ble_eq_true (by rfl)) rfl (by exact putL_whole rfl)) rfl rfl ?_
      rintro _ _ ⟨rfl, rfl⟩
      refine SE.seq ?_
      refine SC.seq ?_
      refine SC.seq (SC.region ?_)
      refine SL.val (Val.assign rfl) rfl rfl ?_
      refine SL.nil (SE.seq ?_)
      refine SC.block ?_
      refine SC.own0 91 5 ?_
      refine SC.loop (ι := Nat × Value) (fun z => [own 91 5 z.2 (parcels (askM T n id d.req) ((allN n).take z.1)), .blk b4 40 (askM T n id d.req).abs, .blk r 51 (DS.cells q n id (d)), .blk q 68 [mapV bd, mapV bt], .pc (mapPc bt Value.string cntV sOk (askT T n id d.req))]) (fun z => [(0, ptr r), (3, .v z.2), (4, ptr b4), (5, int (z.1 : Nat))]) (fun z => z.1 ≤ (allN n).length) (fun z => (allN n).length - z.1) (0, .slice none 0 0) (Nat.zero_le _) (by exact ⟨rfl, rfl, rfl, rfl, trivial⟩) (by repeat first|exact s0 _|exact s1 _|apply s2|apply s3) ?_
      intro z hz
      refine SC.seq ?_
      refine SC.seq (SC.region ?_)
      refine SL.val (Val.move rfl) rfl rfl ?_
      refine SL.val (Val.move rfl) rfl rfl ?_
      refine SL.val (Val.nilCheck rfl) rfl rfl ?_
      refine SL.val (Val.fieldAddr tabOk rfl rfl rfl rfl rfl) rfl rfl ?_
      refine SL.val (Val.load1 tabOk rfl rfl (by first|(apply Or.inl;(repeat first|assumption|exact m0|apply m1);done)|(apply Or.inr;(repeat first|assumption|exact m0|apply m1);done)) List.not_mem_nil (by rfl)) rfl rfl ?_
      refine SL.val (Val.ltI rfl rfl) rfl rfl ?_
      refine SL.nil (SE.seq ?_)
      refine SC.condP rfl ?_ ?_
      rotate_left
      · intro hc35
        refine SC.exit ?_
        refine SE.then_ (by intro h; cases h) ?_
        refine SE.then_ (by intro h; cases h) ?_
        refine SE.exit ?_
        refine SE.seq ?_
        refine SC.seq (SC.region ?_)
        refine SL.val (Val.move rfl) rfl rfl ?_
        refine SL.val (Val.assign rfl) rfl rfl ?_
        refine SL.nil (SE.seq ?_)
        refine SC.ret ?_
        refine SE.freeze [] (t := 2) rfl rfl ?_
        rw [List.take_of_length_le (show (allN n).length ≤ z.1 by omega)]
        refine SE.fin (rs := [.tmp 2]) rfl (RV.tmp rfl RV.nil) (()) (by rw [hT9]; repeat (first | exact List.nil_sublist _ | exact List.Sublist.refl _ | apply List.Sublist.cons_cons | apply List.Sublist.cons)) (by simp [It.rids]) ?_
        rw [hL9]
        rfl
      intro hc35
      have hlt : z.1 < (allN n).length := by omega
      refine SC.skip ?_
      refine SE.seq ?_
      refine SC.seq ?_
      refine SC.block ?_
      refine SC.region ?_
      refine SL.val (Val.move rfl) rfl rfl ?_
      refine SL.val (Val.move rfl) rfl rfl ?_
      refine SL.val (Val.loadA tabOk rfl rfl rfl (by first|(apply Or.inl;(repeat first|assumption|exact m0|apply m1);done)|(apply Or.inr;(repeat first|assumption|exact m0|apply m1);done)) List.not_mem_nil rfl) rfl rfl ?_
      refine SL.val (Val.buildS (L := int (z.1 : Nat) :: (askM T n id d.req).abs) tabOk rfl rfl rfl (by rfl)) rfl rfl ?_
      refine SL.eff (Eff.buildSl tabOk Try.underlying28 rfl rfl rfl rfl rfl rfl rfl) rfl rfl ?_
      rintro _ _ ⟨rfl, rfl⟩
      refine SL.eff (Eff.appendE (zs := (parcels (askM T n id d.req) ((allN n).take (z.1 + 1)))) tabOk [] (parcels_snoc hlt) Try.underlying28 rfl rfl rfl rfl rfl rfl (by intro c hc; rw [List.mem_singleton] at hc; subst hc; rfl) (by unfold maxLen parcels; simp only [List.length_map, List.length_take, List.length_cons, List.length_nil]; omega) (by rw [show Try.prog.bytesOf 91 = 72 by kernel_rfl]; unfold parcels; simp only [List.length_map, List.length_take, List.length_cons, List.length_nil]; omega)) rfl rfl ?_
      rintro _ _ ⟨r43, rfl, rfl⟩
      refine SL.val (Val.assign rfl) rfl rfl ?_
      refine SL.nil ?_
      refine SE.inBlock ?_
      refine SE.seq ?_
      refine SC.region ?_
      refine SL.val (Val.move rfl) rfl rfl ?_
      first
        | refine SL.val (Val.addI rfl rfl (by simp only [InR, lo, hi]; omega)) rfl rfl ?_
        | refine SL.val (Val.addW rfl rfl) rfl rfl ?_
      refine SL.val (Val.assign rfl) rfl rfl ?_
      refine SL.nil ?_
      refine SE.round (z.1 + 1, r43) (by first | omega | (dsimp only; omega)) (by dsimp only; omega) (by exact ⟨rfl, rfl, rfl, rfl, trivial⟩) (by repeat first|exact s0 _|exact s1 _|apply s2|apply s3)
  · skip
    refine SX.alloc tabOk rfl rfl rfl rfl fun b4 => ?_
    refine SX.call rfl (rask_s (c := d.req) h1 h2) (by simp [mids, It.mids]) Casts.refl (by kernel_rfl) rfl rfl rfl ?_
    refine After.pure (by repeat (first | exact Reads.nil | (refine Reads.blk ?_ ?_; focus ((repeat first|assumption|exact m0|apply m1); done)) | (refine Reads.rd ?_ ?_; focus ((repeat first|assumption|exact m0|apply m1); done)) | (refine Reads.pc ?_ ?_; focus ((repeat first|assumption|exact m0|apply m1); done)) | (refine Reads.rdpc ?_ ?_; focus ((repeat first|assumption|exact m0|apply m1); done)))) (fun _ => rfl) ?_
    intro _
    refine SX.call rfl (dall_s (n := n) (by omega)) (by simp [mids, It.mids]) Casts.refl (by kernel_rfl) rfl rfl rfl ?_
    refine After.pure (by repeat (first | exact Reads.nil | (refine Reads.blk ?_ ?_; focus ((repeat first|assumption|exact m0|apply m1); done)) | (refine Reads.rd ?_ ?_; focus ((repeat first|assumption|exact m0|apply m1); done)) | (refine Reads.pc ?_ ?_; focus ((repeat first|assumption|exact m0|apply m1); done)) | (refine Reads.rdpc ?_ ?_; focus ((repeat first|assumption|exact m0|apply m1); done)))) (fun _ => rfl) ?_
    intro _
    refine SX.call rfl (message_s (q := q) (bd := bd) (bt := bt) (k := 1) (f := id) (body := askB d.req) (to := allN n) (T := T) (by omega) hn hT (by omega)) (by simp [mids, It.mids, mapPc]) Casts.refl (by kernel_rfl) rfl rfl rfl ?_
    first
      | refine After.mid [_] (β := []) rfl (by intro x hx; simp only [List.mem_cons, List.not_mem_nil, or_false] at hx; rcases hx with rfl | rfl <;> rfl) ?_
      | refine After.mid [_, _] (β := []) rfl (by intro x hx; simp only [List.mem_cons, List.not_mem_nil, or_false] at hx; rcases hx with rfl | rfl <;> rfl) ?_
    intro _
    refine SX.nil ?_
    refine SE.effZ rfl (Eff.store (L' := (askM T n id d.req).abs) tabOk rfl rfl rfl (by repeat first|assumption|exact Upd.here|apply Upd.there) rfl (Nat.le_of_ble_eq_true (by rfl)) rfl (by exact putL_whole rfl)) rfl rfl ?_
    rintro _ _ ⟨rfl, rfl⟩
    refine SE.seq ?_
    refine SC.seq ?_
    refine SC.seq (SC.region ?_)
    refine SL.val (Val.assign rfl) rfl rfl ?_
    refine SL.nil (SE.seq ?_)
    refine SC.block ?_
    refine SC.own0 91 5 ?_
    refine SC.loop (ι := Nat × Value) (fun z => [own 91 5 z.2 (parcels (askM T n id d.req) ((allN n).take z.1)), .blk b4 40 (askM T n id d.req).abs, .blk r 51 (DS.cells q n id (d)), .blk q 68 [mapV bd, mapV bt], .pc (mapPc bt Value.string cntV sOk (askT T n id d.req))]) (fun z => [(0, ptr r), (3, .v z.2), (4, ptr b4), (5, int (z.1 : Nat))]) (fun z => z.1 ≤ (allN n).length) (fun z => (allN n).length - z.1) (0, .slice none 0 0) (Nat.zero_le _) (by exact ⟨rfl, rfl, rfl, rfl, trivial⟩) (by repeat first|exact s0 _|exact s1 _|apply s2|apply s3) ?_
    intro z hz
    refine SC.seq ?_
    refine SC.seq (SC.region ?_)
    refine SL.val (Val.move rfl) rfl rfl ?_
    refine SL.val (Val.move rfl) rfl rfl ?_
    refine SL.val (Val.nilCheck rfl) rfl rfl ?_
    refine SL.val (Val.fieldAddr tabOk rfl rfl rfl rfl rfl) rfl rfl ?_
    refine SL.val (Val.load1 tabOk rfl rfl (by first|(apply Or.inl;(repeat first|assumption|exact m0|apply m1);done)|(apply Or.inr;(repeat first|assumption|exact m0|apply m1);done)) List.not_mem_nil (by rfl)) rfl rfl ?_
    refine SL.val (Val.ltI rfl rfl) rfl rfl ?_
    refine SL.nil (SE.seq ?_)
    refine SC.condP rfl ?_ ?_
    rotate_left
    · intro hc35
      refine SC.exit ?_
      refine SE.then_ (by intro h; cases h) ?_
      refine SE.then_ (by intro h; cases h) ?_
      refine SE.exit ?_
      refine SE.seq ?_
      refine SC.seq (SC.region ?_)
      refine SL.val (Val.move rfl) rfl rfl ?_
      refine SL.val (Val.assign rfl) rfl rfl ?_
      refine SL.nil (SE.seq ?_)
      refine SC.ret ?_
      refine SE.freeze [] (t := 2) rfl rfl ?_
      rw [List.take_of_length_le (show (allN n).length ≤ z.1 by omega)]
      refine SE.fin (rs := [.tmp 2]) rfl (RV.tmp rfl RV.nil) (()) (by rw [hT9]; repeat (first | exact List.nil_sublist _ | exact List.Sublist.refl _ | apply List.Sublist.cons_cons | apply List.Sublist.cons)) (by simp [It.rids]) ?_
      rw [hL9]
      rfl
    intro hc35
    have hlt : z.1 < (allN n).length := by omega
    refine SC.skip ?_
    refine SE.seq ?_
    refine SC.seq ?_
    refine SC.block ?_
    refine SC.region ?_
    refine SL.val (Val.move rfl) rfl rfl ?_
    refine SL.val (Val.move rfl) rfl rfl ?_
    refine SL.val (Val.loadA tabOk rfl rfl rfl (by first|(apply Or.inl;(repeat first|assumption|exact m0|apply m1);done)|(apply Or.inr;(repeat first|assumption|exact m0|apply m1);done)) List.not_mem_nil rfl) rfl rfl ?_
    refine SL.val (Val.buildS (L := int (z.1 : Nat) :: (askM T n id d.req).abs) tabOk rfl rfl rfl (by rfl)) rfl rfl ?_
    refine SL.eff (Eff.buildSl tabOk Try.underlying28 rfl rfl rfl rfl rfl rfl rfl) rfl rfl ?_
    rintro _ _ ⟨rfl, rfl⟩
    refine SL.eff (Eff.appendE (zs := (parcels (askM T n id d.req) ((allN n).take (z.1 + 1)))) tabOk [] (parcels_snoc hlt) Try.underlying28 rfl rfl rfl rfl rfl rfl (by intro c hc; rw [List.mem_singleton] at hc; subst hc; rfl) (by unfold maxLen parcels; simp only [List.length_map, List.length_take, List.length_cons, List.length_nil]; omega) (by rw [show Try.prog.bytesOf 91 = 72 by kernel_rfl]; unfold parcels; simp only [List.length_map, List.length_take, List.length_cons, List.length_nil]; omega)) rfl rfl ?_
    rintro _ _ ⟨r43, rfl, rfl⟩
    refine SL.val (Val.assign rfl) rfl rfl ?_
    refine SL.nil ?_
    refine SE.inBlock ?_
    refine SE.seq ?_
    refine SC.region ?_
    refine SL.val (Val.move rfl) rfl rfl ?_
    first
      | refine SL.val (Val.addI rfl rfl (by simp only [InR, lo, hi]; omega)) rfl rfl ?_
      | refine SL.val (Val.addW rfl rfl) rfl rfl ?_
    refine SL.val (Val.assign rfl) rfl rfl ?_
    refine SL.nil ?_
    refine SE.round (z.1 + 1, r43) (by first | omega | (dsimp only; omega)) (by dsimp only; omega) (by exact ⟨rfl, rfl, rfl, rfl, trivial⟩) (by repeat first|exact s0 _|exact s1 _|apply s2|apply s3)
set_option maxHeartbeats 4000000 in
theorem dask_s (h7 : 1 ≤ n ∧ n ≤ 7) (hc : Core.ins x) (hd : Core.ins (nextC id d.stamp x)) (h1 : x.letter.size ≤ 1000) (h2 : x.text.size ≤ 1000) (hn : Num1 T) (hT : T.length ≤ 900000) (hs : 0 ≤ d.stamp ∧ d.stamp ≤ 1000000000) : Spec Try.prog 16 [ptr r, coreA x, .sl 2 []] [.blk r 51 (DS.cells q n id (d)), .blk q 68 [mapV bd, mapV bt], .pc (mapPc bt Value.string cntV sOk (T))] (fun _ : Unit => [.blk r 51 (DS.cells q n id (daskS n id d x)), .blk q 68 [mapV bd, mapV bt], .pc (mapPc bt Value.string cntV sOk (daskT T n id d x))]) (fun _ => .tup [.sl 5 (daskL T n id d x), int (daskE n id d x)]) := by
  have hL : lots = 100000000000 := rfl
  refine spec_of Try.func16 rfl Try.ntmps16 rfl fun G w => ?_
  refine SC.seq (SC.region ?_)
  refine SL.eff (Eff.boxA (cs := x.cells.map .v) rfl) rfl rfl ?_
  rintro _ _ ⟨b4, rfl, rfl⟩
  refine SL.val (Val.assign rfl) rfl rfl ?_
  refine SL.val (Val.assign rfl) rfl rfl ?_
  refine SL.nil (SE.seq ?_)
  refine SC.seq ?_
  refine SC.seq (SC.region ?_)
  refine SL.val (Val.move rfl) rfl rfl ?_
  refine SL.val (Val.nilCheck rfl) rfl rfl ?_
  refine SL.val (Val.fieldAddr tabOk rfl rfl rfl rfl rfl) rfl rfl ?_
  refine SL.val (Val.load1 tabOk rfl rfl (by first|(apply Or.inl;(repeat first|assumption|exact m0|apply m1);done)|(apply Or.inr;(repeat first|assumption|exact m0|apply m1);done)) List.not_mem_nil (by rfl)) rfl rfl ?_
  refine SL.nil (SE.seq ?_)
  refine SC.cond rfl ?_ ?_
  · intro hc12
    have hE : daskE n id d x = 15 := if_pos hc12
    refine SC.seq (SC.region ?_)
    refine SL.val (Val.assign rfl) rfl rfl ?_
    refine SL.val (Val.assign rfl) rfl rfl ?_
    refine SL.nil (SE.seq ?_)
    refine SC.ret ?_
    refine SE.then_ (by intro h; cases h) ?_
    have hT9 : daskT T n id d x = T := if_neg (by rw [hE]; first | assumption | decide)
    have hL9 : daskL T n id d x = [] := if_neg (by rw [hE]; first | assumption | decide)
    have hS9 : daskS n id d x = d := if_neg (by rw [hE]; first | assumption | decide)
    refine SE.finC (rs := [.tmp 6, .tmp 7]) rfl (RV.tmp rfl (RV.tmp rfl RV.nil)) (Casts.nils (s := 5) Casts.refl) (()) (by rw [hT9, hS9]; repeat (first | exact List.nil_sublist _ | exact List.Sublist.refl _ | apply List.Sublist.cons_cons | apply List.Sublist.cons)) (by simp [It.rids]) ?_
    rw [hL9, hE]
    rfl
  intro hc12
  have hw : ¬ d.waits = true := by simp [hc12]
  have hE1 : daskE n id d x = askE n id d.stamp x := if_neg hw
  refine SC.skip ?_
  refine SE.seq ?_
  refine SC.seq ?_
  refine SC.seq ?_
  refine SC.draw [] (.q 0 (.q 1 (.q 2 (.e 3 (.q 4 .nil))))) (by kernel_rfl) (by kernel_rfl) ?_
  refine SX.val rfl (Val.loadA tabOk rfl rfl rfl (by first|(apply Or.inl;(repeat first|assumption|exact m0|apply m1);done)|(apply Or.inr;(repeat first|assumption|exact m0|apply m1);done)) List.not_mem_nil rfl) (by first | (simp [mids, It.mids, ownPc, mapPc]; done) | (intro k hk; simp [mids, It.mids, ownPc, mapPc] at hk ⊢; grind)) rfl rfl ?_
  refine SX.val rfl (Val.move rfl) (by simp) rfl rfl ?_
  refine SX.val rfl (Val.loadA tabOk rfl rfl rfl (by first|(apply Or.inl;(repeat first|assumption|exact m0|apply m1);done)|(apply Or.inr;(repeat first|assumption|exact m0|apply m1);done)) List.not_mem_nil rfl) (by first | (simp [mids, It.mids, ownPc, mapPc]; done) | (intro k hk; simp [mids, It.mids, ownPc, mapPc] at hk ⊢; grind)) rfl rfl ?_
  refine SX.call rfl (dnext_s (r := r) (q := q) (n := n) (id := id) (d := d) (x := x) (by omega) (by omega)) (by simp [mids, It.mids]) Casts.refl (by kernel_rfl) rfl rfl rfl ?_
  refine After.pure (by repeat (first | exact Reads.nil | (refine Reads.blk ?_ ?_; focus ((repeat first|assumption|exact m0|apply m1); done)) | (refine Reads.rd ?_ ?_; focus ((repeat first|assumption|exact m0|apply m1); done)) | (refine Reads.pc ?_ ?_; focus ((repeat first|assumption|exact m0|apply m1); done)) | (refine Reads.rdpc ?_ ?_; focus ((repeat first|assumption|exact m0|apply m1); done)))) (fun _ => rfl) ?_
  intro _
  refine SX.val rfl (Val.neA rfl rfl (core_plains _) (core_plains _) (by kernel_rfl) (neqCo hc hd)) (by first | (simp [mids, It.mids, ownPc, mapPc]; done) | (intro k hk; simp [mids, It.mids, ownPc, mapPc] at hk ⊢; grind)) rfl rfl ?_
  refine SX.nil (SE.seq ?_)
  refine SC.condP rfl ?_ ?_
  · intro hc17
    have hE : daskE n id d x = 1 := hE1.trans (if_neg (by simpa using hc17))
    refine SC.seq (SC.region ?_)
    refine SL.val (Val.assign rfl) rfl rfl ?_
    refine SL.val (Val.assign rfl) rfl rfl ?_
    refine SL.nil (SE.seq ?_)
    refine SC.ret ?_
    refine SE.then_ (by intro h; cases h) ?_
    have hT9 : daskT T n id d x = T := if_neg (by rw [hE]; first | assumption | decide)
    have hL9 : daskL T n id d x = [] := if_neg (by rw [hE]; first | assumption | decide)
    have hS9 : daskS n id d x = d := if_neg (by rw [hE]; first | assumption | decide)
    refine SE.finC (rs := [.tmp 6, .tmp 7]) rfl (RV.tmp rfl (RV.tmp rfl RV.nil)) (Casts.nils (s := 5) Casts.refl) (()) (by rw [hT9, hS9]; repeat (first | exact List.nil_sublist _ | exact List.Sublist.refl _ | apply List.Sublist.cons_cons | apply List.Sublist.cons)) (by simp [It.rids]) ?_
    rw [hL9, hE]
    rfl
  intro hc17
  have hx : x = nextC id d.stamp x := Classical.byContradiction fun h => hc17 h
  have hE : daskE n id d x = x.check n := hE1.trans (if_pos hx)
  refine SC.skip ?_
  refine SE.seq ?_
  refine SC.seq ?_
  refine SC.seq ?_
  refine SC.draw [] (.q 0 (.q 1 (.q 2 (.q 3 (.q 4 (.e 5 (.q 6 .nil))))))) (by kernel_rfl) (by kernel_rfl) ?_
  refine SX.val rfl (Val.loadA tabOk rfl rfl rfl (by first|(apply Or.inl;(repeat first|assumption|exact m0|apply m1);done)|(apply Or.inr;(repeat first|assumption|exact m0|apply m1);done)) List.not_mem_nil rfl) (by first | (simp [mids, It.mids, ownPc, mapPc]; done) | (intro k hk; simp [mids, It.mids, ownPc, mapPc] at hk ⊢; grind)) rfl rfl ?_
  refine SX.val rfl (Val.move rfl) (by simp) rfl rfl ?_
  refine SX.val rfl (Val.nilCheck rfl) (by simp) rfl rfl ?_
  refine SX.val rfl (Val.fieldAddr tabOk rfl rfl rfl rfl rfl) (by simp) rfl rfl ?_
  refine SX.val rfl (Val.load1 tabOk rfl rfl (by first|(apply Or.inl;(repeat first|assumption|exact m0|apply m1);done)|(apply Or.inr;(repeat first|assumption|exact m0|apply m1);done)) List.not_mem_nil (by rfl)) (by simp) rfl rfl ?_
  refine SX.call rfl (rccheck_s (c := x) (n := n) (by omega)) (by simp [mids, It.mids]) Casts.refl (by kernel_rfl) rfl rfl rfl ?_
  refine After.pure (by repeat (first | exact Reads.nil | (refine Reads.blk ?_ ?_; focus ((repeat first|assumption|exact m0|apply m1); done)) | (refine Reads.rd ?_ ?_; focus ((repeat first|assumption|exact m0|apply m1); done)) | (refine Reads.pc ?_ ?_; focus ((repeat first|assumption|exact m0|apply m1); done)) | (refine Reads.rdpc ?_ ?_; focus ((repeat first|assumption|exact m0|apply m1); done)))) (fun _ => rfl) ?_
  intro _
  refine SX.val rfl (Val.assign rfl) (by simp) rfl rfl ?_
  refine SX.nil (SE.seq ?_)
  refine SC.seq (SC.region ?_)
  refine SL.val (Val.move rfl) rfl rfl ?_
  refine SL.val (Val.neI rfl rfl) rfl rfl ?_
  refine SL.nil (SE.seq ?_)
  refine SC.condP rfl ?_ ?_
  · intro hc25
    refine SC.seq (SC.region ?_)
    refine SL.val (Val.move rfl) rfl rfl ?_
    refine SL.val (Val.assign rfl) rfl rfl ?_
    refine SL.val (Val.assign rfl) rfl rfl ?_
    refine SL.nil (SE.seq ?_)
    refine SC.ret ?_
    refine SE.then_ (by intro h; cases h) ?_
    have hT9 : daskT T n id d x = T := if_neg (by rw [hE]; first | assumption | decide)
    have hL9 : daskL T n id d x = [] := if_neg (by rw [hE]; first | assumption | decide)
    have hS9 : daskS n id d x = d := if_neg (by rw [hE]; first | assumption | decide)
    refine SE.finC (rs := [.tmp 6, .tmp 7]) rfl (RV.tmp rfl (RV.tmp rfl RV.nil)) (Casts.nils (s := 5) Casts.refl) (()) (by rw [hT9, hS9]; repeat (first | exact List.nil_sublist _ | exact List.Sublist.refl _ | apply List.Sublist.cons_cons | apply List.Sublist.cons)) (by simp [It.rids]) ?_
    rw [hL9, hE]
    rfl
  intro hc25
  have hE0 : daskE n id d x = 0 := by rw [hE]; omega
  have hT9 : daskT T n id d x = askT T n id x := if_pos hE0
  have hL9 : daskL T n id d x = parcels (askM T n id x) (allN n) := if_pos hE0
  have hS9 : daskS n id d x = ⟨x.stamp, true, x, [], d.acc⟩ := if_pos hE0
  refine SC.skip ?_
  refine SE.seq ?_
  refine SC.seq ?_
  refine SC.known (p := b4 ∉ [r]) (fun _ _ h => by
      have h1 := h.mem.nodup
      simp [mids, It.mids, ownPc, mapPc] at h1 ⊢
      grind) fun hX => ?_
  refine SC.draw [r] (.q 0 (.q 1 (.q 2 (.q 3 (.q 4 (.q 5 (.q 6 (.e 7 (.q 8 (.q 9 (.e 10 (.q 11 (.q 12 (.e 13 .nil)))))))))))))) (by kernel_rfl) (by kernel_rfl) ?_
  refine SX.val rfl (Val.move rfl) (by first | (simp [mids, It.mids, ownPc, mapPc]; done) | (intro k hk; simp [mids, It.mids, ownPc, mapPc] at hk ⊢; grind)) rfl rfl ?_
  refine SX.val rfl (Val.move rfl) (by first | (simp [mids, It.mids, ownPc, mapPc]; done) | (intro k hk; simp [mids, It.mids, ownPc, mapPc] at hk ⊢; grind)) rfl rfl ?_
  refine SX.val rfl (Val.move rfl) (by first | (simp [mids, It.mids, ownPc, mapPc]; done) | (intro k hk; simp [mids, It.mids, ownPc, mapPc] at hk ⊢; grind)) rfl rfl ?_
  refine SX.val rfl (Val.fieldAddr tabOk rfl rfl rfl rfl rfl) (by first | (simp [mids, It.mids, ownPc, mapPc]; done) | (intro k hk; simp [mids, It.mids, ownPc, mapPc] at hk ⊢; grind)) rfl rfl ?_
  refine SX.val rfl (Val.load1 tabOk rfl rfl (by first|(apply Or.inl;(repeat first|assumption|exact m0|apply m1);done)|(apply Or.inr;(repeat first|assumption|exact m0|apply m1);done)) (by first | exact hX) (by rfl)) (by first | (simp [mids, It.mids, ownPc, mapPc]; done) | (intro k hk; simp [mids, It.mids, ownPc, mapPc] at hk ⊢; grind)) rfl rfl ?_
  refine SX.val rfl (Val.nilCheck rfl) (by first | (simp [mids, It.mids, ownPc, mapPc]; done) | (intro k hk; simp [mids, It.mids, ownPc, mapPc] at hk ⊢; grind)) rfl rfl ?_
  refine SX.val rfl (Val.fieldAddr tabOk rfl rfl rfl rfl rfl) (by first | (simp [mids, It.mids, ownPc, mapPc]; done) | (intro k hk; simp [mids, It.mids, ownPc, mapPc] at hk ⊢; grind)) rfl rfl ?_
  refine SX.eff rfl (Eff.store (L' := DS.cells q n id (⟨d.stamp, true, d.req, d.said, d.acc⟩)) tabOk rfl rfl rfl (by repeat first|assumption|exact Upd.here|apply Upd.there) rfl (Nat.le_of_ble_eq_true (by rfl)) rfl (by rfl)) (by simp) rfl rfl ?_
  rintro _ _ ⟨rfl, rfl⟩
  refine SX.val rfl (Val.nilCheck rfl) (by first | (simp [mids, It.mids, ownPc, mapPc]; done) | (intro k hk; simp [mids, It.mids, ownPc, mapPc] at hk ⊢; grind)) rfl rfl ?_
  refine SX.val rfl (Val.fieldAddr tabOk rfl rfl rfl rfl rfl) (by first | (simp [mids, It.mids, ownPc, mapPc]; done) | (intro k hk; simp [mids, It.mids, ownPc, mapPc] at hk ⊢; grind)) rfl rfl ?_
  refine SX.eff rfl (Eff.store (L' := DS.cells q n id (⟨x.stamp, true, d.req, d.said, d.acc⟩)) tabOk rfl rfl rfl (by repeat first|assumption|exact Upd.here|apply Upd.there) rfl (Nat.le_of_ble_eq_true (by rfl)) rfl (by rfl)) (by simp) rfl rfl ?_
  rintro _ _ ⟨rfl, rfl⟩
  refine SX.val rfl (Val.nilCheck rfl) (by first | (simp [mids, It.mids, ownPc, mapPc]; done) | (intro k hk; simp [mids, It.mids, ownPc, mapPc] at hk ⊢; grind)) rfl rfl ?_
  refine SX.val rfl (Val.fieldAddr tabOk rfl rfl rfl rfl rfl) (by first | (simp [mids, It.mids, ownPc, mapPc]; done) | (intro k hk; simp [mids, It.mids, ownPc, mapPc] at hk ⊢; grind)) rfl rfl ?_
  first
    | refine SX.eff rfl (Eff.store tabOk rfl rfl rfl (by repeat first|assumption|exact Upd.here|apply Upd.there) (by rfl) (Nat.le_of_ble_eq_true (by rfl)) (by rfl) (by rfl)) (by simp) rfl rfl ?_
    | refine SX.eff rfl (Eff.storeOwn tabOk rfl rfl rfl rfl (by repeat first|assumption|exact m0|apply m1) (by repeat first|assumption|exact Upd.here|apply Upd.there) rfl (by rfl)) (by simp) rfl rfl ?_
  rintro _ _ ⟨rfl, rfl⟩
  refine SX.nil (SE.seq ?_)
  refine SC.seq ?_
  refine SC.re (xs := [.blk r 51 (putL (DS.cells q n id ⟨x.stamp, true, d.req, d.said, d.acc⟩) 13 [.v (.slice none 0 0)])]) [_] (Re.cast (ds := DS.cells q n id ⟨x.stamp, true, d.req, [], d.acc⟩) (by refine Casts.keep ?_; refine Casts.keep ?_; refine Casts.keep ?_; refine Casts.keep ?_; refine Casts.keep ?_; refine Casts.keep ?_; refine Casts.keep ?_; refine Casts.keep ?_; refine Casts.keep ?_; refine Casts.keep ?_; refine Casts.keep ?_; refine Casts.keep ?_; refine Casts.keep ?_; exact Casts.nils (s := 2) Casts.refl)) rfl ?_
  refine SC.region ?_
  refine SL.val (Val.move rfl) rfl rfl ?_
  refine SL.val (Val.loadA tabOk rfl rfl rfl (by first|(apply Or.inl;(repeat first|assumption|exact m0|apply m1);done)|(apply Or.inr;(repeat first|assumption|exact m0|apply m1);done)) List.not_mem_nil rfl) rfl rfl ?_
  refine SL.val (Val.move rfl) rfl rfl ?_
  refine SL.val (Val.buildS (L := (Rq.mk x []).abs) tabOk rfl rfl rfl (by rfl)) rfl rfl ?_
  refine SL.val (Val.nilCheck rfl) rfl rfl ?_
  refine SL.val (Val.fieldAddr tabOk rfl rfl rfl rfl rfl) rfl rfl ?_
  refine SL.eff (Eff.store (L' := DS.cells q n id (⟨x.stamp, true, x, [], d.acc⟩)) tabOk rfl rfl rfl (by repeat first|assumption|exact Upd.here|apply Upd.there) rfl (Nat.le_of_ble_eq_true (by rfl)) rfl (by rfl)) rfl rfl ?_
  rintro _ _ ⟨rfl, rfl⟩
  refine SL.nil (SE.seq ?_)
  refine SC.seq (SC.region ?_)
  refine SL.val (Val.move rfl) rfl rfl ?_
  refine SL.call (dagain_s (r := r) (q := q) (bd := bd) (bt := bt) (n := n) (id := id) (d := ⟨x.stamp, true, x, [], d.acc⟩) (T := T) h7 h1 h2 hn hT) Casts.refl (by kernel_rfl) rfl rfl rfl ?_
  refine After.mid [_] (β := []) rfl (by intro x hx; simp only [List.mem_cons, List.not_mem_nil, or_false] at hx; rcases hx with rfl | rfl | rfl <;> rfl) ?_
  intro _
  refine SL.val (Val.assign rfl) rfl rfl ?_
  refine SL.val (Val.assign rfl) rfl rfl ?_
  refine SL.nil (SE.seq ?_)
  refine SC.ret ?_
  refine SE.fin (rs := [.tmp 6, .tmp 7]) rfl (RV.tmp rfl (RV.tmp rfl RV.nil)) (()) (by rw [hT9, hS9]; repeat (first | exact List.nil_sublist _ | exact List.Sublist.refl _ | apply List.Sublist.cons_cons | apply List.Sublist.cons)) (by simp [It.rids]) ?_
  rw [hL9, hE0]
  rfl
end
end Go.Proofs.Ytmkijjmbiiiicaa.A
