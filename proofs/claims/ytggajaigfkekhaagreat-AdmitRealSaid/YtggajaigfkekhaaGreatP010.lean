/-
  Packed out of the texts: AD13, AD3, A34, AD10, AD11, FQ, AD12, C12, NLaw, N1, AD14, AD15, AD16, AdmR, AdmS, AD17.
-/
import Derived.Test.YtggajaigfkekhaaGreatP09
import Derived.Sort.OwnSortedInts
set_option maxRecDepth 100000
set_option linter.unusedSimpArgs false
set_option linter.unusedVariables false
namespace Go.Proofs.YtggajaigfkekhaaGreat.A
open Go.RowKit
structure TlOk (x : Tl) : Prop where
  ti : TInv x.m x.c
  few : x.m.length ≤ 1000
  ok : ∀ w v, aget x.m w = some v → sdOk v
def Tl.ack (x : Tl) (who : Int) (k : Sd) : Tl := { x with m := aput x.m who k, c := chgC x.m x.c who k }
def ackE (n : Nat) (L : List Tl) (who seq : Int) (k : Sd) : Int := if ¬ ((0 ≤ who ∧ who < n) ∧ 0 ≤ seq ∧ seq < n) then 17 else match L[seq.toNat]? with
  | none => 17
  | some x => match aget x.m who with
    | some s => laterE k.view s.view
    | none => 0
def ackL (n : Nat) (L : List Tl) (who seq : Int) (k : Sd) : List Tl := if ackE n L who seq k = 0 then match L[seq.toNat]? with
  | none => L
  | some x => L.set seq.toNat (x.ack who k)
  else L
def voA (k : Sd) (seq : Int) : List Abs := int k.view :: int seq :: digA k.dig
theorem av_ (k : Sd) (seq : Int) : (voA k seq).length = 34 := by simp [voA, digA, k.len]
theorem voA_dig (k : Sd) (seq : Int) : Abs.agg (part (voA k seq) 2 32) = .agg (digA k.dig) := by
  unfold A.part voA
  rw [List.drop_succ_cons, List.drop_succ_cons, List.drop_zero, List.take_of_length_le (by simp [digA, k.len])]
section
variable {L L1 L2 : List Tl} {x : Tl} {n : Nat} {who seq e : Int} {k : Sd}
theorem Re.tlsOut : Re [.pc (tlsP (L1 ++ x :: L2))] [.blk x.t 128 [mapV x.bv, mapV x.bn], .pc (mapPc x.bv intK sdV intOk x.m), .pc (mapPc x.bn sdV cntV sdOk x.c), .pc (tlsP (L1 ++ L2))] := by
  have h1 : Re [.pc (tlsP (L1 ++ x :: L2))] [.pc (tlP x), .pc (tlsP (L1 ++ L2))] := by
    unfold tlsP
    rw [List.map_append, List.map_append, List.map_cons]
    exact Re.out
  exact h1.trans (Re.tlOut.app _)
theorem Re.tlsIn : Re [.blk x.t 128 [mapV x.bv, mapV x.bn], .pc (mapPc x.bv intK sdV intOk x.m), .pc (mapPc x.bn sdV cntV sdOk x.c), .pc (tlsP (L1 ++ L2))] [.pc (tlsP (L1 ++ x :: L2))] := by
  have h1 : Re [.pc (tlP x), .pc (tlsP (L1 ++ L2))] [.pc (tlsP (L1 ++ x :: L2))] := by
    unfold tlsP
    rw [List.map_append, List.map_append, List.map_cons]
    exact Re.back
  exact Re.trans (Re.tlIn.app _) h1
theorem split_at {i : Nat} (h : i < L.length) : ∃ x L1 L2, L = L1 ++ x :: L2 ∧ L1.length = i := ⟨L[i], L.take i, L.drop (i + 1), by rw [← List.drop_eq_getElem_cons h, List.take_append_drop], by rw [List.length_take]; omega⟩
theorem js_ (h : ackE n L who seq k = e) (he : e ≠ 0) : ackL n L who seq k = L ∧ ackE n L who seq k = e := ⟨if_neg (by rw [h]; exact he), h⟩
theorem jr_ (h : ¬ ((0 ≤ who ∧ who < n) ∧ 0 ≤ seq ∧ seq < n)) : ackE n L who seq k = 17 := if_pos h
theorem ack_at (h : (0 ≤ who ∧ who < n) ∧ 0 ≤ seq ∧ seq < n) (hL : L1.length = seq.toNat) : ackE n (L1 ++ x :: L2) who seq k = match aget x.m who with | some s => laterE k.view s.view | none => 0 := by
  unfold ackE
  rw [if_neg (fun h2 => h2 h), List.getElem?_append_right (by omega), hL, Nat.sub_self]
  rfl
theorem ack_yes (hL : L1.length = seq.toNat) (h0 : ackE n (L1 ++ x :: L2) who seq k = 0) : ackL n (L1 ++ x :: L2) who seq k = L1 ++ x.ack who k :: L2 := by
  unfold ackL
  rw [if_pos h0, List.getElem?_append_right (by omega), hL, Nat.sub_self]
  show (L1 ++ x :: L2).set seq.toNat (x.ack who k) = _
  rw [List.set_append_right _ _ (by omega), hL, Nat.sub_self]
  rfl
end
section
variable {t bv bn : Nat} {m : List (Int × Sd)} {c : List (Sd × Nat)} {k : Sd} {who seq : Int} {h q bd bt bm n : Nat} {av : Value} {L : List Tl}
theorem gy_ (hw : intOk who) (hti : TInv m c) (hl : m.length ≤ 1000) (hk : sdOk k) (hok : ∀ w v, aget m w = some v → sdOk v) : Spec Tryz.prog 43 [ptr t, int who, .agg (sdC k)] [.blk t 128 [mapV bv, mapV bn], .pc (mapPc bv intK sdV intOk m), .pc (mapPc bn sdV cntV sdOk c)] (fun _ : Unit => [.blk t 128 [mapV bv, mapV bn], .pc (mapPc bv intK sdV intOk (aput m who k)), .pc (mapPc bn sdV cntV sdOk (chgC m c who k))]) (fun _ => .tup []) := by
  cases hv : aget m who with
  | none => exact fQ_ hw hti hl hk hok hv
  | some v => exact fP_ hw hti hl hk hok hv
set_option maxHeartbeats 2000000 in
theorem bJ_ (hn : L.length = n) (hL : ∀ x ∈ L, TlOk x) (hk : sdOk k) (hw : intOk who) : Spec Tryz.prog 12 [ptr h, int who, .agg (voA k seq)] [.rd h 92 [.ifc 34 (ptr q), int (n : Nat), mapV bm, .v av], .rdpc (ownPc 93 1 av (L.map fun x => [ptr x.t])), .pc (tlsP L)] (fun _ : Unit => [.pc (tlsP (ackL n L who seq k))]) (fun _ => int (ackE n L who seq k)) := by
 refine K_ Tryz.func12 rfl Tryz.ntmps12 rfl fun G w =>d_<|a_<|eb_ (O_ (cs := voA k seq) rfl) rfl rfl fun b5=>?_
 refine q_ 1 rfl<|g_<|c_<|d_<|u_<|d_<|a_<|q_ 1 rfl<|b_ (bq_ rfl rfl (by kernel_rfl)) rfl rfl ?_
 refine q_ 1 rfl<|g_<|c_<|Z_ rfl<|d_<|a_<|q_ 2 rfl<|t_ (cK_ (q := q) (bm := bm) (av := av) (n := n)) Casts.refl (by kernel_rfl) rfl rfl rfl ?_
 refine ap_<|fun _=>b_ (aw_ rfl) rfl rfl<|q_ 1 rfl<|z_ (t := 19) rfl ?_ ?_
 ·intro hc19
  refine q_ 7 rfl<|g_<|c_<|M_ rfl<|d_<|a_<|q_ 1 rfl<|g_<|c_<|n_<|B_<|i_ nofun ?_
  obtain ⟨e1, e2⟩ := js_ (L := L) (k := k) (jr_ (n := n) (who := who) (seq := seq) (L := L) (k := k) (by omega)) (by decide)
  refine f_ (rs := [.tmp 6]) rfl (RV.tmp rfl RV.nil) (()) (by rw [e1]; repeat (first | exact List.nil_sublist _ | exact List.Sublist.refl _ | apply List.Sublist.cons_cons | apply List.Sublist.cons)) ?_
  rw [e2]
  rfl
 intro hc19
 refine q_ 2 rfl<|b_ (y_ (C := int seq) (j_ tabOk rfl rfl l0_ List.not_mem_nil rfl) rfl) rfl rfl<|t_ (cK_ (q := q) (bm := bm) (av := av) (n := n)) Casts.refl (by kernel_rfl) rfl rfl rfl ?_
 refine ap_<|fun _=>b_ (aw_ rfl) rfl rfl<|q_ 2 rfl<|g_<|c_<|o_ rfl ?_ ?_
 ·intro hc14
  refine d_<|a_<|q_ 1 rfl<|g_<|c_<|n_<|B_<|i_ nofun ?_
  obtain ⟨e1, e2⟩ := js_ (L := L) (k := k) (jr_ (n := n) (who := who) (seq := seq) (L := L) (k := k) (by omega)) (by decide)
  refine f_ (rs := [.tmp 6]) rfl (RV.tmp rfl RV.nil) (()) (by rw [e1]; repeat (first | exact List.nil_sublist _ | exact List.Sublist.refl _ | apply List.Sublist.cons_cons | apply List.Sublist.cons)) ?_
  rw [e2]
  rfl
 intro hc14
 have hin : (0 ≤ who ∧ who < n) ∧ 0 ≤ seq ∧ seq < n := by omega
 refine s_<|r_<|c_<|d_ ?_
 obtain ⟨x, L1, L2, hLe, hL1⟩ := split_at (L := L) (i := seq.toNat) (by omega)
 subst hLe
 have hx := hL x (by simp)
 have hat : (L1 ++ x :: L2)[seq.toNat]? = some x := by rw [List.getElem?_append_right (by omega), hL1, Nat.sub_self]; rfl
 refine jF_ [_, _, _] Re.tlsOut rfl<|U_ [] (.q 0 (.q 1 (.q 2 (.q 3 (.q 4 (.q 5 (.q 6 (.q 7 (.q 8 .nil))))))))) (by kernel_rfl) (by kernel_rfl) ?_
 refine qs_ 3 rfl<|l_ rfl (j_ tabOk rfl rfl r1_ List.not_mem_nil rfl) (by simp) rfl rfl ?_
 refine qs_ 1 rfl<|af_ (by (simp [mids, It.mids, ownPc, mapPc]; done)) fun hx9 => ?_
 refine l_ rfl (y_ (C := int seq) (j_ tabOk rfl rfl l0_ List.not_mem_nil rfl) rfl) hx9 rfl rfl<|l_ rfl (bm_ (q := seq.toNat) tabOk Tryz.underlying90 rfl rfl r2_ rfl (by omega) (by rw [List.length_map]; omega) rfl rfl) hx9 rfl rfl ?_
 refine l_ rfl (y_ (C := ptr x.t) (bE_ (q := seq.toNat) (s := 1) (cs := [ptr x.t]) tabOk rfl rfl r2_ rfl (by rw [List.getElem?_map, hat]; rfl) rfl) rfl) hx9 rfl rfl ?_
 refine qs_ 1 rfl<|I_<|c_<|g8_ (ι := Unit) (fun z => [.blk b5 43 (voA k seq), .rd h 92 [.ifc 34 (ptr q), int (n : Nat), mapV bm, .v av], .rdpc (ownPc 93 1 av ((L1 ++ x :: L2).map fun x => [ptr x.t])), .blk x.t 128 [mapV x.bv, mapV x.bn], .pc (mapPc x.bv intK sdV intOk x.m), .pc (mapPc x.bn sdV cntV sdOk x.c), .pc (tlsP (L1 ++ L2))]) (fun z => [(0, ptr h), (1, int who), (5, ptr b5), (7, ptr x.t)]) (fun z => ackE n (L1 ++ x :: L2) who seq k = 0) ?_ ?_
 ·skip
  refine d_<|a_<|q_ 2 rfl<|t_ (sd_ofR_s (t := x.t) (bv := x.bv) (bn := x.bn) (m := x.m) (c := x.c) (who := who) hw) Casts.refl (by kernel_rfl) rfl rfl rfl ?_
  refine ap_<|fun _=>q_ 3 rfl<|eb_ (H_ tabOk rfl) rfl rfl fun b8=>?_
  refine e_ (D_ (L' := (sdC (sOf x.m who))) tabOk rfl rfl rfl u0_ (by exact aC_ _) (Nat.le_of_ble_eq_true rfl) (by exact dP_ _) (N_ (by exact aC_ _))) rfl rfl ?_
  refine q_ 1 rfl<|g_<|c_<|d_<|a_<|q_ 1 rfl<|g_<|c_<|aE_ rfl ?_ ?_
  rotate_left
  ·intro hc40
   have hv := cU_ hc40
   have hE := ack_at (k := k) (x := x) (L2 := L2) hin hL1
   rw [hv] at hE
   have hE0 : ackE n (L1 ++ x :: L2) who seq k = 0 := hE
   refine s_<|cj_ (()) (hE0) (by exact ⟨rfl, rfl, rfl, rfl, trivial⟩) (sk_ sr_)
  intro hc40
  obtain ⟨v, hv⟩ := cT_ hc40
  have hso : sOf x.m who = v := by unfold sOf; rw [hv]; rfl
  have hE := ack_at (k := k) (x := x) (L2 := L2) hin hL1
  rw [hv] at hE
  dsimp only at hE
  rw [← hso] at hE
  refine d_<|a_<|q_ 1 rfl<|b_ (y_ (C := int k.view) (j_ tabOk rfl rfl l1_ List.not_mem_nil rfl) rfl) rfl rfl<|q_ 1 rfl<|b_ (y_ (C := int (sOf x.m who).view) (j_ tabOk rfl rfl l0_ List.not_mem_nil rfl) rfl) rfl rfl<|t_ (hF_ (x := k.view) (y := (sOf x.m who).view)) Casts.refl (by kernel_rfl) rfl rfl rfl ?_
  refine ap_<|fun _=>q_ 1 rfl<|g_<|c_<|d_<|a_<|q_ 2 rfl<|g_<|c_<|o_ rfl ?_ ?_
  rotate_left
  ·intro hc47
   have hE0 : ackE n (L1 ++ x :: L2) who seq k = 0 := hE.trans (by omega)
   refine s_<|cj_ (()) (hE0) (by exact ⟨rfl, rfl, rfl, rfl, trivial⟩) (sk_ sr_)
  intro hc47
  refine d_<|a_<|q_ 2 rfl<|g_<|c_<|n_<|i_ nofun ?_
  obtain ⟨e1, e2⟩ := js_ hE hc47
  refine SE.re [_, _, _, _] Re.tlsIn rfl<|f_ (rs := [.tmp 6]) rfl (RV.tmp rfl RV.nil) (()) (by rw [e1]; repeat (first | exact List.nil_sublist _ | exact List.Sublist.refl _ | apply List.Sublist.cons_cons | apply List.Sublist.cons)) ?_
  rw [e2]
  rfl
 intro z9 hE0
 refine d_<|a_<|q_ 3 rfl<|b_ (y_ (C := int k.view) (j_ tabOk rfl rfl l0_ List.not_mem_nil rfl) rfl) rfl rfl<|q_ 1 rfl<|b_ (y_ (C := .agg (digA k.dig)) (aQ_ tabOk rfl rfl rfl l0_ List.not_mem_nil (by show 2 + 32 ≤ (voA k seq).length; rw [av_]; omega)) (by exact voA_dig _ _)) rfl rfl ?_
 refine b_ (y_ (C := .agg (sdC k)) (L_ tabOk rfl rfl rfl (is_ rfl rfl rfl)) rfl) rfl rfl<|t_ (gy_ (t := x.t) (bv := x.bv) (bn := x.bn) (m := x.m) (c := x.c) (who := who) (k := k) hw hx.ti hx.few hk hx.ok) Casts.refl (by kernel_rfl) rfl rfl rfl ?_
 refine bc_ [_, _, _] (β := [_]) rfl (by intro x hx; simp only [List.mem_cons, List.not_mem_nil, or_false] at hx; rcases hx with rfl | rfl | rfl <;> rfl) ?_
 intro _
 refine g_<|c_<|d_<|a_<|q_ 1 rfl<|g_<|c_<|n_<|SE.re [_, _, _] (Re.tlsIn (x := x.ack who k)) rfl<|f_ (rs := [.tmp 6]) rfl (RV.tmp rfl RV.nil) (()) (by rw [ack_yes hL1 hE0]; repeat (first | exact List.nil_sublist _ | exact List.Sublist.refl _ | apply List.Sublist.cons_cons | apply List.Sublist.cons)) ?_
 rw [hE0]
 rfl
end
end Go.Proofs.YtggajaigfkekhaaGreat.A
namespace Go.Proofs.YtggajaigfkekhaaGreat.A
open Go.RowKit Go.Maps Go.Sort Go.Shelf
theorem iT_ {K : List Nat} {w : World} : ∀ {xs : List Int} {us : List Value}, repss K w 1 (xs.map fun x => [int x]) us → us = xs.map (Value.int .i64)
  | [], us, h => h
  | x :: xs, us, h => by
    obtain ⟨us1, us2, rfl, hl, h1, h2⟩ := h
    obtain ⟨u, us3, rfl, h3, h4⟩ := h1
    have h3 : u = Value.int .i64 x := h3
    have h4 : us3 = [] := h4
    subst h3 h4
    rw [iT_ h2]
    rfl
theorem sort64_s {v : Value} {xs : List Int} (hl : xs.length ≤ 1000000) : Spec Tryz.prog 88 [.v v] [own 2 1 v (xs.map fun x => [int x])] (fun _ : Unit => [own 2 1 v ((srt xs).map fun x => [int x])]) (fun _ => .tup []) := fun G w vals hm hv => by
  obtain ⟨_, _, rfl, h4, h5⟩ := hv
  have h4 : _ = v := h4
  have h5 : _ = [] := h5
  subst h4 h5
  obtain ⟨us, hown, hr⟩ : (ownPc 2 1 _ (xs.map fun x => [int x])).p _ w := hm.hold (own 2 1 _ (xs.map fun x => [int x])) List.mem_cons_self
  have hus := iT_ hr
  subst hus
  have hlen : (xs.map fun x => [int x]).length = xs.length := List.length_map _
  rw [hlen] at hown
  rcases hown.2 with ⟨h0, h1⟩ | ⟨gb, cap, cur, h0, hb, hg, hn, hc, hcs, htk⟩
  · subst h0
    have h2 : xs = [] := List.length_eq_zero_iff.1 h1
    subst h2
    refine (AnyM.slices_Sort_int_none d7_ none 0 w).mono fun e w' ⟨he, hw⟩ => ?_
    subst he hw
    exact ⟨(), _, rfl, by simp [It.rids], by rw [show srt ([] : List Int) = [] by simp [srt]]; exact hm, ⟨[], rfl, rfl⟩⟩
  · subst h0
    rw [Nat.mul_one] at htk hcs
    have hgl := bu_ hg
    refine (AnyM.slices_Sort_int d7_ gb 0 cap xs w (holds_of_blockI hg htk) hgl (by omega)).mono fun e w' ⟨he, n, os, hw⟩ => ?_
    subst he
    have hs : (xs.mergeSort fun x y => decide (x ≤ y)) = srt xs := rfl
    rw [hs] at hw
    have hgb := grownBy_sortedI (w := w) (g := gb) (n := n) (os := os) (srt xs).toArray
    have hx : Ext (own 2 1 (.slice (some ⟨gb, 0, none⟩) xs.length cap) (xs.map fun x => [int x])).mids w w' := by
      subst hw
      exact ⟨hgb.os, hgb.tape, hgb.output, hgb.size, fun k hk hn => hgb.block k hk (fun h9 => hn (by cases h9; simp [It.mids, ownPc, Value.ownBlock]))⟩
    have hm2 := hm.upd (y := own 2 1 (.slice (some ⟨gb, 0, none⟩) xs.length cap) ((srt xs).map fun x => [int x])) Upd.here hx bB_ (fun k hk => .inl hk) rfl fun _ => ⟨(srt xs).map (Value.int .i64), by
      have h9 := ownsRow_sortedI (w := w) (base := 0) (n := n) (e := 2) (os := os) (ts := srt xs) (cA_ xs) hb hg hn hc (by rw [hcs, Nat.mul_one])
      rw [← hw] at h9
      rw [List.length_map, cA_]
      exact h9, eQ_⟩
    exact ⟨(), _, rfl, by simp [It.rids], hm2.1, ⟨[], rfl, rfl⟩⟩
theorem opt_some {α : Type} {o : Option α} (h : o.isSome = true) : ∃ v, o = some v := Option.isSome_iff_exists.1 h
theorem opt_none {α : Type} {o : Option α} (h : o.isSome = false) : o = none := by simpa using h
section
variable {β : Type} {tm z : List (Int × (Value × β))} {rest : List (Int × Value)} {keep : Int × β → Bool} {p : Int × Value} {x : β}
theorem raw_in (h : p ∈ rawM tm) : ∃ x, (p.1, (p.2, x)) ∈ tm := by
  obtain ⟨e, he, rfl⟩ := List.mem_map.1 h
  exact ⟨e.2.2, he⟩
end
theorem bF_ {ι : Type} {σ σ1 : Blks} {τ' : ι → Blks} {K : Blks → ι → Prop} (φ : Blks) (hp : (mids σ1 ++ mids φ).Perm (mids σ)) (hs : ∀ x ∈ σ1, (x ∈ σ ∧ x.rids = []) ∨ ∃ y ∈ φ, x = y.toRd) (hr : ∀ x ∈ φ, x ∈ σ) (k : ∀ z, K (τ' z ++ φ) z) : After σ σ1 τ' K := ⟨φ, ⟨hp, hs, hr⟩, fun z => ⟨_, List.Perm.refl _, k z⟩⟩
def vwK (cm : List (Int × Kp)) (least : Int) : List Int := (cm.filter fun e => decide (least ≤ e.2.c.view)).map fun e => e.2.c.view
def leftV (least : Int) (tm : List (Int × (Value × Kp))) (rest : List (Int × Value)) : List Int := (tm.filter fun e => decide (e.1 ∈ rest.map (·.1)) && decide (least ≤ e.2.2.c.view)).map fun e => e.2.2.c.view
section
variable {tm : List (Int × (Value × Kp))} {rest : List (Int × Value)} {least : Int} {p : Int × Value} {x : Kp} {cm : List (Int × Kp)}
theorem gE_ : leftV least tm (rawM tm) = vwK (plM tm) least := by
  unfold leftV vwK plM
  rw [List.filter_map, List.map_map]
  congr 1
  refine List.filter_congr fun e he => ?_
  rw [iC_, decide_eq_true (List.mem_map.2 ⟨e, he, rfl⟩), Bool.true_and]
  rfl
theorem iR_ : leftV least tm [] = [] := by simp [leftV]
theorem hm_ {γ : Type} : ∀ {t : List (Int × γ)} {a : Int} {b : γ}, (t.map (·.1)).Nodup → (a, b) ∈ t → t.Perm ((a, b) :: t.filter fun e => decide (e.1 ≠ a))
  | [], _, _, _, h => by cases h
  | e :: t, a, b, hn, h => by
    rw [List.map_cons, List.nodup_cons] at hn
    rcases List.mem_cons.1 h with h2 | h2
    · subst h2
      have h3 : t.filter (fun e => decide (e.1 ≠ a)) = t := List.filter_eq_self.2 fun e he => by
        have : e.1 ≠ a := fun h4 => hn.1 (List.mem_map.2 ⟨e, he, h4⟩)
        simpa using this
      rw [List.filter_cons, if_neg (by simp), h3]
    · have h3 : e.1 ≠ a := fun h4 => hn.1 (h4 ▸ List.mem_map.2 ⟨_, h2, rfl⟩)
      rw [List.filter_cons, if_pos (by simpa using h3)]
      exact ((hm_ hn.2 h2).cons e).trans (List.Perm.swap _ _ _)
theorem hX_ (hn : (tm.map (·.1)).Nodup) (hx : (p.1, (p.2, x)) ∈ tm) (hp : p ∈ rest) : (leftV least tm rest).Perm ((if least ≤ x.c.view then [x.c.view] else []) ++ leftV least tm (rest.filter fun q => decide (q.1 ≠ p.1))) := by
  have h1 := (((hm_ hn hx).filter fun e => decide (e.1 ∈ rest.map (·.1)) && decide (least ≤ e.2.2.c.view)).map fun e => e.2.2.c.view)
  refine h1.trans ?_
  have h2 : decide (p.1 ∈ rest.map (·.1)) = true := decide_eq_true (List.mem_map.2 ⟨p, hp, rfl⟩)
  have h3 : (tm.filter fun e => decide (e.1 ≠ p.1)).filter (fun e => decide (e.1 ∈ rest.map (·.1)) && decide (least ≤ e.2.2.c.view)) = tm.filter fun e => decide (e.1 ∈ (rest.filter fun q => decide (q.1 ≠ p.1)).map (·.1)) && decide (least ≤ e.2.2.c.view) := by
    rw [List.filter_filter]
    refine List.filter_congr fun e _ => ?_
    have h4 : (e.1 ∈ (rest.filter fun q => decide (q.1 ≠ p.1)).map (·.1)) ↔ e.1 ∈ rest.map (·.1) ∧ e.1 ≠ p.1 := by
      simp only [List.mem_map, List.mem_filter, decide_eq_true_eq]
      exact ⟨fun ⟨q, hq, h4⟩ => ⟨⟨q, hq.1, h4⟩, h4 ▸ hq.2⟩, fun ⟨⟨q, hq, h4⟩, h5⟩ => ⟨q, ⟨hq, h4 ▸ h5⟩, h4⟩⟩
    have h6 : decide (e.1 ∈ (rest.filter fun q => decide (q.1 ≠ p.1)).map (·.1)) = (decide (e.1 ∈ rest.map (·.1)) && decide (e.1 ≠ p.1)) := by
      rw [← Bool.decide_and]
      exact decide_eq_decide.2 h4
    rw [h6]
    cases decide (e.1 ∈ rest.map (·.1)) <;> cases decide (e.1 ≠ p.1) <;> cases decide (least ≤ e.2.2.c.view) <;> rfl
  rw [List.filter_cons, h2, Bool.true_and]
  unfold leftV
  split
  · next h5 => rw [if_pos (by simpa using h5), List.map_cons, h3]; exact List.Perm.refl _
  · next h5 => rw [if_neg (by simpa using h5), h3]; exact List.Perm.refl _
end
section
variable {h q bd bt bm n : Nat} {av : Value} {cm : List (Int × Kp)} {who least view : Int}
set_option maxHeartbeats 2000000 in
theorem hD_ (hn : (cm.map (·.1)).Nodup) (hl : cm.length ≤ 1000) : Spec Tryz.prog 50 [ptr h, int least] [.rd h 92 [.ifc 34 (ptr q), int (n : Nat), mapV bm, .v av], .pc (tmPc bm intK intOk Kp.enc cm)] (fun v : Value => [own 2 1 v (((srt (vwK cm least))).map fun x => [int x]), .pc (tmPc bm intK intOk Kp.enc cm)]) (fun v => .v v) := by
 refine K_ Tryz.func50 rfl Tryz.ntmps50 rfl fun G w =>d_<|a_<|q_ 1 rfl<|g_<|c_<|d_<|d_<|a_<|q_ 1 rfl<|b_ (bq_ rfl rfl (by kernel_rfl)) rfl rfl ?_
 refine g_<|c_<|Z_ rfl<|s_<|c_<|d_<|a_<|q_ 1 rfl<|g_<|c_<|d_<|d_<|a_<|q_ 3 rfl<|b_ (j_ tabOk rfl rfl r0_ List.not_mem_nil rfl) rfl rfl<|jC_ [_] rfl fun tm htm => ?_
 have hn2 : (tm.map (·.1)).Nodup := by rw [← plM_keys, htm]; exact hn
 refine eb_ (gq_ (K := intK) (V := id) (Good := intOk) (m := rawM tm) Tryz.underlying89 rfl (fun _ => u2_)) rfl rfl fun r14=>?_
 refine g_<|c_<|u_<|eB_ 2 1<|W_ (ι := List (Int × Value) × Option (Int × Value) × List Int × Value) (fun z => [own 2 1 z.2.2.2 ((z.2.2.1).map fun x => [int x]), .rd h 92 [.ifc 34 (ptr q), int (n : Nat), mapV bm, .v av], facts (facM Kp.enc tm), .pc (rngPc bm r14 intK id intOk (rawM tm) z.1 z.2.1)]) (fun z => [(1, int least), (5, .v z.2.2.2), (14, ptr r14)]) (fun z => (∀ q ∈ z.1, q ∈ rawM tm) ∧ (z.2.2.1 ++ leftV least tm z.1).Perm (vwK cm least)) (fun z => z.1.length) (rawM tm, none, [], .slice none 0 0) (⟨fun q hq => hq, by rw [List.nil_append, gE_, htm]⟩) (by exact ⟨rfl, rfl, rfl, trivial⟩) sr_ ?_
 intro z hz
 refine d_<|a_<|am_ (ha_ (K := intK) (V := id) (Good := intOk) (m := rawM tm) (rest := z.1) (cur := z.2.1) rfl (fun _ _ => u3_)) rfl rfl ?_
 rintro _ _ ⟨o, rest', ho, hpo, rfl, rfl⟩
 refine q_ 1 rfl<|g_<|c_<|d_<|aE_ rfl ?_ ?_
 rotate_left
 ·intro hc16
  have ho2 := opt_none hc16
  subst ho2
  have hr0 := ho rfl
  have hper : z.2.2.1.Perm (vwK cm least) := by
   have h8 := hz.2
   rw [hr0, iR_, List.append_nil] at h8
   exact h8
  refine T_<|i_ nofun<|i_ nofun<|S_<|c_<|d_<|id_ u3_<|jF_ [_, _] (Re.tmIn htm) rfl<|a_<|q_ 1 rfl<|t_ (sort64_s (v := z.2.2.2) (xs := z.2.2.1) (by rw [hper.length_eq]; unfold vwK; rw [List.length_map]; exact Nat.le_trans (List.length_filter_le ..) (by omega))) Casts.refl (by kernel_rfl) rfl rfl rfl ?_
  refine bc_ [] (β := [_, _]) rfl (by intro x hx; rw [List.mem_singleton.1 hx]; rfl) ?_
  intro _
  refine g_<|c_<|d_<|a_<|q_ 2 rfl<|g_<|c_<|n_<|f_ (rs := [.tmp 4]) rfl (RV.tmp rfl RV.nil) (z.2.2.2) (by rw [show (srt (vwK cm least)) = srt z.2.2.1 from (ip_ hper).symm]; repeat (first | exact List.nil_sublist _ | exact List.Sublist.refl _ | apply List.Sublist.cons_cons | apply List.Sublist.cons)) ?_
  exact rfl
 intro hc16
 obtain ⟨p, rfl⟩ := opt_some hc16
 obtain ⟨hpm, hre⟩ := hpo p rfl
 subst hre
 have hls := ix_ hpm
 obtain ⟨x, hxm⟩ := raw_in (hz.1 p hpm)
 have hst := hX_ (least := least) hn2 hxm hpm
 have hwl : z.2.2.1.length ≤ 1000 := by
  have h8 := hz.2.length_eq
  rw [List.length_append] at h8
  have h9 : (vwK cm least).length ≤ cm.length := by unfold vwK; rw [List.length_map]; exact List.length_filter_le ..
  omega
 refine s_<|c_<|u_<|d_<|a_<|b_ (go_ rfl i3_ ⟨List.not_mem_nil, List.not_mem_nil⟩) rfl rfl<|b_ (y_ (C := .v p.2) (aM_ rfl rfl) rfl) rfl rfl<|SL.fact (t := 18) (A := Kp.enc x) rfl (.inl i2_) (List.mem_map.2 ⟨_, hxm, rfl⟩)<|eb_ (H_ tabOk rfl) rfl rfl fun b7=>?_
 refine e_ (D_ (L' := x.cells) tabOk rfl rfl rfl u0_ (bV_ _) (Nat.le_of_ble_eq_true rfl) (ep_ _) (by exact N_ (bV_ _))) rfl rfl ?_
 refine g_<|c_<|d_<|a_<|q_ 2 rfl<|b_ (y_ (C := int x.c.view) (j_ tabOk rfl rfl l0_ List.not_mem_nil rfl) rfl) rfl rfl<|q_ 2 rfl<|g_<|c_<|o_ rfl ?_ ?_
 rotate_left
 ·intro hc23
  rw [if_neg (by omega)] at hst
  refine s_<|r_<|A_ ((z.1.filter fun q => decide (q.1 ≠ p.1)), some p, z.2.2.1, z.2.2.2) (by exact hls) (⟨fun q hq => hz.1 q ((List.mem_filter.1 hq).1), (List.Perm.append_left _ hst.symm).trans hz.2⟩) (by exact ⟨rfl, rfl, rfl, trivial⟩) (sk_ sr_)
 intro hc23
 rw [if_pos (by omega)] at hst
 refine a_<|q_ 3 rfl<|b_ (y_ (C := int x.c.view) (j_ tabOk rfl rfl l0_ List.not_mem_nil rfl) rfl) rfl rfl<|e_ (ax_ tabOk Tryz.underlying113 rfl rfl rfl rfl rfl rfl rfl) rfl rfl<|eb_ (bh_ (zs := (z.2.2.1 ++ [x.c.view]).map fun x => [int x]) tabOk [_] (by rw [List.map_append]; rfl) Tryz.underlying113 rfl rfl rfl rfl rfl rfl (by intro c hc; rw [List.mem_singleton] at hc; subst hc; rfl) (by unfold maxLen; simp only [List.length_map, List.length_cons, List.length_nil]; omega) (by rw [show Tryz.prog.bytesOf 2 = 8 by kernel_rfl]; simp only [List.length_map, List.length_cons, List.length_nil]; omega)) rfl rfl fun r29=>?_
 refine q_ 1 rfl<|g_<|r_<|A_ ((z.1.filter fun q => decide (q.1 ≠ p.1)), some p, z.2.2.1 ++ [x.c.view], r29) (by exact hls) (⟨fun q hq => hz.1 q ((List.mem_filter.1 hq).1), by dsimp only; rw [List.append_assoc]; exact (List.Perm.append_left _ hst.symm).trans hz.2⟩) (by exact ⟨rfl, rfl, rfl, trivial⟩) (sk_ sr_)
end
section
variable {v : Value} {xs : List Int} {p : Int → Bool} {k : Nat} {caps : List Abs} {σ : Blks}
theorem index_s (hb : goesIn Tryz.prog k = true) (hr : RdAll σ) (hn : xs.length < 1000000) (h : ∀ x ∈ xs, Spec Tryz.prog k (int x :: caps) σ (fun _ : Unit => []) (fun _ => boo (p x))) : Spec Tryz.prog 87 [.v v, .fn (.func k) [] caps] (.rdpc (ownPc 2 1 v (xs.map fun x => [int x])) :: σ) (fun _ : {q : Int // (q = -1 ∧ ∀ x ∈ xs, p x = false) ∨ ∃ z, ∃ h : z < xs.length, p xs[z] = true ∧ (∀ j (hj : j < xs.length), j < z → p xs[j] = false) ∧ q = (z : Nat)} => []) (fun z => int z.1) := by
 refine K_ Tryz.func87 rfl Tryz.ntmps87 rfl fun G w =>d_<|a_<|q_ 1 rfl<|g_<|c_<|d_<|d_<|a_<|q_ 1 rfl<|b_ (ey_ rfl (.inr i0_) Tryz.underlying113 (List.length_map _)) rfl rfl<|q_ 1 rfl<|g_<|c_<|u_<|W_ (ι := Nat) (fun z => (.rdpc (ownPc 2 1 v (xs.map fun x => [int x])) :: σ)) (fun z => [(0, .v v), (1, .fn (.func k) [] caps), (7, int (xs.length : Nat)), (8, int (z : Nat))]) (fun z => z ≤ xs.length ∧ ∀ j (hj : j < xs.length), j < z → p xs[j] = false) (fun z => xs.length - z) (0) (⟨Nat.zero_le _, fun j hj h => by omega⟩) (by exact ⟨rfl, rfl, rfl, rfl, trivial⟩) sr_ ?_
 intro z hz
 refine d_<|a_<|q_ 1 rfl<|g_<|c_<|d_<|o_ rfl ?_ ?_
 rotate_left
 ·intro hc9
  refine T_<|i_ nofun<|i_ nofun<|S_<|c_<|d_<|a_<|q_ 1 rfl<|g_<|c_<|n_<|f_ (rs := [.tmp 4]) rfl (RV.tmp rfl RV.nil) (⟨-1, .inl ⟨rfl, fun x hx => by obtain ⟨j, hj, rfl⟩ := List.getElem_of_mem hx; exact hz.2 j hj (by omega)⟩⟩) sn_ ?_
  exact rfl
 intro hc9
 have hlt : z < xs.length := by omega
 refine s_<|c_<|d_<|u_<|d_<|a_<|q_ 2 rfl<|g_<|c_<|d_<|a_<|q_ 3 rfl<|b_ (bm_ (q := z) tabOk Tryz.underlying113 rfl rfl (.inr i0_) rfl rfl (by rw [List.length_map]; exact hlt) rfl rfl) rfl rfl ?_
 refine b_ (y_ (C := int (xs[z]'hlt)) (bE_ (q := z) (s := 1) tabOk rfl rfl (.inr i0_) rfl (ah_ hlt) rfl) rfl) rfl rfl<|ci_ (h _ (List.getElem_mem hlt)) rfl Casts.refl hb rfl rfl rfl<|bo_ (RdAll.reads hr (fun x hx => by repeat (first | exact hx | apply List.mem_cons_of_mem))) (fun _ => rfl) ?_
 intro _
 refine g_<|c_<|aE_ rfl ?_ ?_
 ·intro hc16
  refine d_<|a_<|q_ 2 rfl<|g_<|c_<|n_<|B_<|i_ nofun<|i_ nofun<|B_<|i_ nofun<|f_ (rs := [.tmp 4]) rfl (RV.tmp rfl RV.nil) (⟨(z : Nat), .inr ⟨z, hlt, by simpa using hc16, hz.2, rfl⟩⟩) sn_ ?_
  exact rfl
 intro hc16
 refine s_<|r_<|c_<|a_<|b_ (v_ rfl rfl (by simp only [InR, lo, hi]; omega)) rfl rfl ?_
 refine q_ 1 rfl<|g_<|A_ (z + 1) (by omega) (⟨by omega, fun j hj hjz => by
  rcases Nat.lt_or_ge j z with h1 | h1
  ·exact hz.2 j hj h1
  obtain rfl : j = z := (by omega)
  simpa using hc16⟩) (by exact ⟨rfl, rfl, rfl, rfl, trivial⟩) sr_
theorem fb_ {α : Type} {ys : List α} {i : Nat} {x : α} (h : i < ys.length) : (ys.set i x).take (i + 1) = ys.take i ++ [x] := by
  apply List.ext_getElem?
  intro j
  simp only [List.getElem?_take, List.getElem?_append, List.getElem?_set, List.length_take]
  grind
theorem gN_ {α : Type} {ys : List α} {i j : Nat} {x : α} (h : i < j) : (ys.set i x).drop j = ys.drop j := by
  apply List.ext_getElem?
  intro q
  simp only [List.getElem?_drop, List.getElem?_set]
  grind
theorem bG_ {xs : List Int} {p : Int → Bool} {j : Nat} (h : j < xs.length) : (xs.take (j + 1)).filter (fun x => !p x) = (xs.take j).filter (fun x => !p x) ++ if p xs[j] then [] else [xs[j]] := by
  rw [List.take_succ_eq_append_getElem h, List.filter_append, List.filter_cons]
  cases p xs[j] <;> simp
theorem at_drop {xs ys : List Int} {j : Nat} (h : ys.drop j = xs.drop j) (hx : j < xs.length) (hy : j < ys.length) : ys[j] = xs[j] := by
  have h1 := congrArg (fun l : List Int => l[0]?) h
  simpa [List.getElem?_drop, hx, hy] using h1
theorem gb_ {xs ys : List Int} {j : Nat} (h : ys.drop j = xs.drop j) : ys.drop (j + 1) = xs.drop (j + 1) := by
  rw [← List.drop_drop, h, List.drop_drop]
theorem iV_ {xs : List Int} {p : Int → Bool} {q : Nat} (hq : q < xs.length) (hp : p xs[q] = true) (hb : ∀ j (hj : j < xs.length), j < q → p xs[j] = false) : xs.take q = (xs.take (q + 1)).filter (fun x => !p x) := by
  rw [bG_ hq, if_pos hp, List.append_nil]
  symm
  rw [List.filter_eq_self]
  intro x hx
  obtain ⟨j, hj, rfl⟩ := List.getElem_of_mem hx
  rw [List.length_take] at hj
  rw [List.getElem_take, hb j (by omega) (by omega)]
  rfl
theorem cut_all {xs ys : List Int} {p : Int → Bool} {i j m : Nat} {z : List Abs} (h1 : ys.length = xs.length) (hi : i ≤ ys.length) (h2 : ys.take i = (xs.take j).filter (fun x => !p x)) (h3 : xs.length ≤ j) : ((ys.map fun x => [int x]).take i ++ List.replicate m z).take i = (xs.filter fun x => !p x).map fun x => [int x] := by
  rw [List.take_append_of_le_length (by simp; omega), List.take_take, Nat.min_self, ← List.map_take, h2, List.take_of_length_le h3]
set_option maxHeartbeats 2000000 in
theorem delete_s (hb : goesIn Tryz.prog k = true) (hr : RdAll σ) (hn : xs.length < 1000000) (h : ∀ x ∈ xs, Spec Tryz.prog k (int x :: caps) σ (fun _ : Unit => []) (fun _ => boo (p x))) : Spec Tryz.prog 49 [.v v, .fn (.func k) [] caps] (own 2 1 v (xs.map fun x => [int x]) :: σ) (fun u : Value => [own 2 1 u (((xs.filter fun x => !p x)).map fun x => [int x])]) (fun u => .v u) := by
 refine K_ Tryz.func49 rfl Tryz.ntmps49 rfl fun G w =>d_<|a_<|q_ 1 rfl<|g_<|c_<|d_<|a_<|q_ 2 rfl<|t_ (index_s (v := v) hb hr hn h) Casts.refl (by kernel_rfl) rfl rfl rfl ?_
 refine bo_ (.pc i0_ (RdAll.reads hr (fun x hx => by repeat (first | exact hx | apply List.mem_cons_of_mem)))) (fun _ => rfl) ?_
 intro q0
 refine q_ 1 rfl<|g_<|c_<|d_<|d_<|a_<|q_ 2 rfl<|g_<|c_<|o_ rfl ?_ ?_
 ·intro hc12
  have hall : ∀ x ∈ xs, p x = false := by
   rcases q0.2 with h1 | ⟨q, h1, h2, h3, h4⟩
   ·exact h1.2
   omega
  have hfil : xs.filter (fun x => !p x) = xs := List.filter_eq_self.2 fun x hx => by rw [hall x hx]; rfl
  refine d_<|a_<|q_ 2 rfl<|g_<|c_<|n_<|i_ nofun<|f_ (rs := [.tmp 4]) rfl (RV.tmp rfl RV.nil) (v) (by rw [hfil]; exact List.sublist_append_left _ _) ?_
  exact rfl
 intro hc12
 obtain ⟨q0, hq0⟩ := q0
 have hf : ∃ q, ∃ h : q < xs.length, p xs[q] = true ∧ (∀ j (hj : j < xs.length), j < q → p xs[j] = false) ∧ q0 = (q : Nat) := by
  rcases hq0 with h1 | h1
  ·exact absurd h1.1 hc12
  exact h1
 obtain ⟨q, hq, hp, hbe, rfl⟩ := hf
 refine s_<|c_<|d_<|d_<|a_<|q_ 1 rfl<|b_ (v_ rfl rfl (by simp only [InR, lo, hi]; omega)) rfl rfl ?_
 refine q_ 1 rfl<|g_<|c_<|u_<|W_ (ι := List Int × Nat × Nat) (fun z => (own 2 1 v ((z.1).map fun x => [int x]) :: σ)) (fun z => [(0, .v v), (1, .fn (.func k) [] caps), (5, int (z.2.1 : Nat)), (6, int (z.2.2 : Nat))]) (fun z => z.1.length = xs.length ∧ z.2.1 < z.2.2 ∧ z.2.2 ≤ xs.length ∧ z.1.drop z.2.2 = xs.drop z.2.2 ∧ z.1.take z.2.1 = (xs.take z.2.2).filter (fun x => !p x)) (fun z => xs.length - z.2.2) (xs, q, q + 1) (⟨rfl, Nat.lt_succ_self _, hq, rfl, iV_ hq hp hbe⟩) (by exact ⟨rfl, rfl, rfl, rfl, trivial⟩) sr_ ?_
 intro z hz
 refine d_<|d_<|a_<|q_ 2 rfl<|b_ (ey_ rfl (.inl i0_) Tryz.underlying113 (List.length_map _)) rfl rfl<|q_ 1 rfl<|g_<|c_<|o_ rfl ?_ ?_
 rotate_left
 ·intro hc19
  refine T_<|i_ nofun<|i_ nofun<|S_<|c_<|d_<|a_<|q_ 2 rfl<|b_ (eG_ (q := z.2.1) tabOk Tryz.underlying113 rfl rfl rfl (.inl i0_) rfl rfl (by rw [List.length_map]; omega)) rfl rfl ?_
  refine e_ (gr_ (v := v) (xs := ((z.1).map fun x => [int x])) (q := z.2.1) (z := .int .i64 0) Tryz.underlying113 (fun w => by kernel_rfl) rfl rfl rfl (by rw [List.length_map]; omega) u0_) rfl rfl ?_
  refine g_<|c_<|d_<|a_<|q_ 2 rfl<|b_ (eH_ (q := z.2.1) tabOk Tryz.underlying113 rfl rfl (.inl i0_) rfl rfl (by simp; omega)) rfl rfl ?_
  refine jD_ (q := z.2.1) (ys := (((xs.filter fun x => !p x)).map fun x => [int x])) ?_ u0_ (by simp; omega) ?_
  ·exact cut_all hz.1 (by omega) hz.2.2.2.2 (by omega)
  exact q_ 1 rfl<|g_<|c_<|n_<|f_ (rs := [.tmp 4]) rfl (RV.tmp rfl RV.nil) (cutTo v z.2.1) (List.sublist_append_left _ _)<|rfl
 intro hc19
 have hlt : z.2.2 < xs.length := by omega
 have hly : z.2.2 < z.1.length := by omega
 refine s_<|c_<|d_<|u_<|d_<|a_<|q_ 2 rfl<|b_ (bm_ (q := z.2.2) tabOk Tryz.underlying113 rfl rfl (.inl i0_) rfl rfl (by rw [List.length_map]; exact hly) rfl rfl) rfl rfl ?_
 refine b_ (y_ (C := int (xs[z.2.2]'hlt)) (bE_ (q := z.2.2) (s := 1) tabOk rfl rfl (.inl i0_) rfl (ah_ hly) rfl) (by rw [at_drop hz.2.2.2.1 hlt hly])) rfl rfl ?_
 refine q_ 1 rfl<|g_<|c_<|d_<|a_<|q_ 2 rfl<|ci_ (h _ (List.getElem_mem hlt)) rfl Casts.refl hb rfl rfl rfl<|bo_ (RdAll.reads hr (fun x hx => by repeat (first | exact hx | apply List.mem_cons_of_mem))) (fun _ => rfl) ?_
 intro _
 refine b_ (aB_ rfl) rfl rfl<|g_<|c_<|aE_ rfl ?_ ?_
 rotate_left
 ·intro hc29
  refine s_<|r_<|c_<|a_<|q_ 1 rfl<|b_ (v_ rfl rfl (by simp only [InR, lo, hi]; omega)) rfl rfl ?_
  refine q_ 1 rfl<|g_<|A_ (z.1, z.2.1, z.2.2 + 1) (by (dsimp only; omega)) (⟨hz.1, by dsimp only; omega, hlt, gb_ hz.2.2.2.1, by dsimp only; rw [hz.2.2.2.2, bG_ hlt, if_pos (by simpa using hc29), List.append_nil]⟩) (by exact ⟨rfl, rfl, rfl, rfl, trivial⟩) sr_
 intro hc29
 refine d_<|a_<|q_ 3 rfl<|b_ (bm_ (q := z.2.1) tabOk Tryz.underlying113 rfl rfl (.inl i0_) rfl rfl (by rw [List.length_map]; omega) rfl rfl) rfl rfl ?_
 refine e_ (if_ (ys := [int (xs[z.2.2]'hlt)]) (q := z.2.1) (s := 1) tabOk rfl rfl rfl u0_ rfl rfl rfl (by rw [List.length_map]; omega) rfl) rfl rfl ?_
 rw [show ((z.1).map fun x => [int x]).set z.2.1 [int (xs[z.2.2]'hlt)] = ((z.1.set z.2.1 (xs[z.2.2]'hlt)).map fun x => [int x]) from (List.map_set ..).symm]
 refine g_<|c_<|a_<|q_ 1 rfl<|b_ (v_ rfl rfl (by simp only [InR, lo, hi]; omega)) rfl rfl ?_
 refine q_ 1 rfl<|g_<|r_<|c_<|a_<|q_ 1 rfl<|b_ (v_ rfl rfl (by simp only [InR, lo, hi]; omega)) rfl rfl ?_
 refine q_ 1 rfl<|g_<|A_ (z.1.set z.2.1 (xs[z.2.2]'hlt), z.2.1 + 1, z.2.2 + 1) (by (dsimp only; omega)) (⟨by rw [List.length_set]; exact hz.1, by dsimp only; omega, hlt, by dsimp only; rw [gN_ (by omega)]; exact gb_ hz.2.2.2.1, by dsimp only; rw [fb_ (by omega), hz.2.2.2.2, bG_ hlt, if_neg (by simpa using hc29)]⟩) (by exact ⟨rfl, rfl, rfl, rfl, trivial⟩) sr_
end
section
variable {n : Int}
theorem dY_ (hn : n ≤ 1000) : Spec Tryz.prog 47 [int n] [] (fun _ : Unit => []) (fun _ => int ((max n 1 - 1) / 3)) := by
 refine K_ Tryz.func47 rfl Tryz.ntmps47 rfl fun G w =>d_<|a_<|q_ 1 rfl<|g_<|c_<|d_<|a_<|q_ 1 rfl<|b_ (Val.maxI rfl rfl) rfl rfl<|b_ (be_ rfl rfl (by simp only [InR, lo, hi]; omega)) rfl rfl ?_
 refine b_ (fE_ rfl rfl (by omega) (by simp only [InR, lo, hi]; omega)) rfl rfl ?_
 exact q_ 1 rfl<|g_<|c_<|n_<|f_ (rs := [.tmp 2]) rfl (RV.tmp rfl RV.nil) (()) sn_<|rfl
theorem quorum_s (hn : n ≤ 1000) : Spec Tryz.prog 48 [int n] [] (fun _ : Unit => []) (fun _ => int (2 * ((max n 1 - 1) / 3) + 1)) := by
 refine K_ Tryz.func48 rfl Tryz.ntmps48 rfl fun G w =>d_<|a_<|q_ 1 rfl<|g_<|c_<|d_<|a_<|q_ 1 rfl<|t_ (dY_ hn) Casts.refl (by kernel_rfl) rfl rfl rfl ?_
 refine ap_<|fun _=>b_ (di_ rfl rfl (by simp only [InR, lo, hi]; omega)) rfl rfl ?_
 refine b_ (v_ rfl rfl (by simp only [InR, lo, hi]; omega)) rfl rfl ?_
 exact q_ 1 rfl<|g_<|c_<|n_<|f_ (rs := [.tmp 2]) rfl (RV.tmp rfl RV.nil) (()) sn_<|rfl
end
theorem headD_at {l : List Int} (h : 0 < l.length) : l.headD 0 = l[0] := by
  cases l with
  | nil => cases h
  | cons a l => rfl
def joinL (cm : List (Int × Kp)) (view : Int) : List Int := (srt (vwK cm view)).filter fun x => !decide (x = view)
def joinR (n : Nat) (cm : List (Int × Kp)) (view : Int) : Int × Bool := if ((joinL cm view).length : Int) ≤ ((max (n : Int) 1 - 1) / 3) then (0, false) else ((joinL cm view).headD 0, true)
section
variable {h q bd bt bm n b3 : Nat} {av : Value} {cm : List (Int × Kp)} {who least view : Int}
theorem afrom_s (hn : (cm.map (·.1)).Nodup) (hl : cm.length ≤ 1000) : Spec Tryz.prog 19 [ptr h, int view] [.rd h 92 [.ifc 34 (ptr q), int (n : Nat), mapV bm, .v av], .pc (tmPc bm intK intOk Kp.enc cm)] (fun _ : Unit => [.pc (tmPc bm intK intOk Kp.enc cm)]) (fun _ => int ((vwK cm view).length : Nat)) := by
 refine K_ Tryz.func19 rfl Tryz.ntmps19 rfl fun G w =>d_<|a_<|q_ 1 rfl<|g_<|c_<|d_<|a_<|q_ 2 rfl<|t_ (hD_ (h := h) (q := q) (bm := bm) (n := n) (av := av) (least := view) hn hl) Casts.refl (by kernel_rfl) rfl rfl rfl ?_
 refine bF_ [.rd h 92 [.ifc 34 (ptr q), int (n : Nat), mapV bm, .v av]] (by rw [List.perm_iff_count]; intro a; simp [mids, It.mids, List.count_append, List.count_cons]; try omega) (by intro x hx; simp only [List.mem_cons, List.not_mem_nil, or_false] at hx; rcases hx with rfl | rfl <;> first | exact .inl ⟨by simp, rfl⟩ | exact .inr ⟨_, List.mem_cons_self, rfl⟩) (by intro x hx; simp only [List.mem_cons, List.not_mem_nil, or_false] at hx; rcases hx with rfl <;> simp) ?_
 intro r7
 refine b_ (e3_ (m := (vwK cm view).length) rfl i0_ Tryz.underlying113 (by rw [List.length_map, cA_])) rfl rfl ?_
 exact q_ 1 rfl<|g_<|c_<|n_<|f_ (rs := [.tmp 4]) rfl (RV.tmp rfl RV.nil) (()) (sk_ (sc_ sn_))<|rfl
theorem ajoin1_s  : Spec Tryz.prog 51 [int who, ptr b3] [.rd b3 2 [int view]] (fun _ : Unit => []) (fun _ => boo (decide (who = view))) := by
 exact K_ Tryz.func51 rfl Tryz.ntmps51 rfl fun G w =>d_<|a_<|q_ 1 rfl<|g_<|c_<|d_<|a_<|q_ 1 rfl<|b_ (j_ tabOk rfl rfl r0_ List.not_mem_nil rfl) rfl rfl<|q_ 2 rfl<|g_<|c_<|n_<|f_ (rs := [.tmp 3]) rfl (RV.tmp rfl RV.nil) (()) sn_<|rfl
set_option maxHeartbeats 1000000 in
theorem jo_ (hn : (cm.map (·.1)).Nodup) (hl : cm.length ≤ 1000) (h7 : n ≤ 7) : Spec Tryz.prog 17 [ptr h, int view] [.rd h 92 [.ifc 34 (ptr q), int (n : Nat), mapV bm, .v av], .pc (tmPc bm intK intOk Kp.enc cm)] (fun _ : Unit => [.pc (tmPc bm intK intOk Kp.enc cm)]) (fun _ => .tup [int (joinR n cm view).1, boo (joinR n cm view).2]) := by
 refine K_ Tryz.func17 rfl Tryz.ntmps17 rfl fun G w =>d_<|a_<|eb_ (d2_ rfl rfl) rfl rfl fun b3=>?_
 refine q_ 2 rfl<|g_<|c_<|d_<|d_<|a_<|q_ 1 rfl<|b_ (bq_ rfl rfl (by kernel_rfl)) rfl rfl ?_
 refine g_<|c_<|Z_ rfl<|s_<|c_<|d_ ?_
 have hvl : (vwK cm view).length ≤ 1000 := by unfold vwK; rw [List.length_map]; exact Nat.le_trans (List.length_filter_le ..) hl
 refine a_<|q_ 1 rfl<|b_ (j_ tabOk rfl rfl l0_ List.not_mem_nil rfl) rfl rfl<|t_ (hD_ (h := h) (q := q) (bm := bm) (n := n) (av := av) (least := view) hn hl) Casts.refl (by kernel_rfl) rfl rfl rfl ?_
 refine bF_ [.blk b3 2 [int view], .rd h 92 [.ifc 34 (ptr q), int (n : Nat), mapV bm, .v av]] (by rw [List.perm_iff_count]; intro a; simp [mids, It.mids, List.count_append, List.count_cons]; try omega) (by intro x hx; simp only [List.mem_cons, List.not_mem_nil, or_false] at hx; rcases hx with rfl | rfl <;> first | exact .inl ⟨by simp, rfl⟩ | exact .inr ⟨_, List.mem_cons_self, rfl⟩ | exact .inr ⟨_, (List.mem_cons_of_mem _ List.mem_cons_self), rfl⟩) (by intro x hx; simp only [List.mem_cons, List.not_mem_nil, or_false] at hx; rcases hx with rfl | rfl <;> simp) ?_
 intro r11
 refine b_ (bD_ rfl rfl) rfl rfl<|t_ (delete_s (v := r11) (xs := srt (vwK cm view)) (p := fun x => decide (x = view)) (k := 51) (caps := [ptr b3]) (σ := [.rd b3 2 [int view]]) (by kernel_rfl) (by intro x hx; rw [List.mem_singleton.1 hx]; exact .inl ⟨_, _, _, rfl⟩) (by rw [cA_]; omega) (fun x hx => ajoin1_s)) Casts.refl (by kernel_rfl) rfl rfl rfl ?_
 refine ii_ (ys := [.blk b3 2 [int view]]) rfl i0_ (by intro y hy; rw [List.mem_singleton.1 hy]; exact ⟨by simp, by intro h; cases h⟩) rfl (fun _ => rfl) ?_
 intro r13
 refine ⟨_, u0_, ?_⟩
 rw [show (srt (vwK cm view)).filter (fun x => !decide (x = view)) = (joinL cm view) from rfl]
 refine q_ 1 rfl<|g_<|c_<|d_<|d_<|a_<|q_ 1 rfl<|b_ (e3_ (m := (joinL cm view).length) rfl i0_ Tryz.underlying113 (List.length_map _)) rfl rfl<|q_ 3 rfl<|b_ (j_ tabOk rfl rfl r3_ List.not_mem_nil rfl) rfl rfl<|t_ (dY_ (n := (n : Int)) (by omega)) Casts.refl (by kernel_rfl) rfl rfl rfl ?_
 refine ap_<|fun _=>q_ 1 rfl<|g_<|c_<|o_ rfl ?_ ?_
 ·intro hc21
  have e9 : joinR n cm view = (0, false) := if_pos (by omega)
  refine d_<|a_<|q_ 2 rfl<|g_<|c_<|n_<|i_ nofun<|f_ (rs := [.tmp 4, .tmp 5]) rfl (RV.tmp rfl (RV.tmp rfl RV.nil)) (()) (sk_ (sc_ sn_)) ?_
  rw [e9]
  rfl
 intro hc21
 have e9 : joinR n cm view = ((joinL cm view).headD 0, true) := if_neg (by omega)
 have hl0 : 0 < (joinL cm view).length := by omega
 have hd0 := headD_at hl0
 refine s_<|c_<|d_<|a_<|q_ 1 rfl<|b_ (bm_ (q := 0) tabOk Tryz.underlying113 rfl rfl l0_ rfl rfl (by rw [List.length_map]; omega) rfl rfl) rfl rfl ?_
 refine b_ (y_ (C := int ((joinL cm view).headD 0)) (bE_ (q := 0) (s := 1) tabOk rfl rfl l0_ rfl (ah_ (by omega)) rfl) (by rw [hd0])) rfl rfl ?_
 refine q_ 2 rfl<|g_<|c_<|n_<|f_ (rs := [.tmp 4, .tmp 5]) rfl (RV.tmp rfl (RV.tmp rfl RV.nil)) (()) (sk_ (sc_ sn_)) ?_
 rw [e9]
 rfl
end
section
variable {c : Chg} {n : Int} {l : List UInt8}
structure Chg.Read (c : Chg) : Prop where
  pts : c.points.length < 9223372036854775807
  prep : Long c.prepared
  prop : Long c.proposed
  lits : c.Lits
end
structure Sgn where
  who : Int
  chg : Chg
def Sgn.abs (s : Sgn) : List Abs := int s.who :: s.chg.abs
structure Sgn.Lits (s : Sgn) : Prop where
  who : InR .i64 s.who
  chg : s.chg.Lits
noncomputable def sdOf (D : List (ByteArray × Nat)) (c : Chg) : Sd := ⟨c.view, numB 102 (pl D (dKey c.bytes)), aI_ _ _⟩
noncomputable def sameK (cm : List (Int × Kp)) (s : Sgn) : Bool := (aget cm s.who).isSome && yes (keptC cm s.who = s.chg)
noncomputable def realD (D : List (ByteArray × Nat)) (cm : List (Int × Kp)) (s : Sgn) : List (ByteArray × Nat) := if sameK cm s = true then D else pm D (dKey s.chg.bytes)
noncomputable def realB (D : List (ByteArray × Nat)) (n : Nat) (cm : List (Int × Kp)) (L : List Tl) (s : Sgn) : Bool := sameK cm s || decide (((max (n : Int) 1 - 1) / 3) < ((votesN n L s.who (sdOf D s.chg) : Nat) : Int))
section
variable {h q bd bt bm n : Nat} {av : Value} {D : List (ByteArray × Nat)} {cm : List (Int × Kp)} {L : List Tl} {s : Sgn}
set_option maxHeartbeats 2000000 in
theorem eu_ (hk : KOk n cm) (hL : L.length = n) (h7 : n ≤ 7) (hs : CIn s.chg) (hw : intOk s.who) (hn : Num1 D) (hT : D.length < 1000000) : Spec Tryz.prog 15 [ptr h, .agg s.abs] [.rd h 92 [.ifc 34 (ptr q), int (n : Nat), mapV bm, .v av], .rdpc (tmPc bm intK intOk Kp.enc cm), .rdpc (ownPc 93 1 av (L.map fun x => [ptr x.t])), .rdpc (tlsP L), .blk q 86 [mapV bd, mapV bt], .pc (mapPc bd Value.string cntV sOk D)] (fun _ : Unit => [.blk q 86 [mapV bd, mapV bt], .pc (mapPc bd Value.string cntV sOk (realD D cm s))]) (fun _ => boo (realB D n cm L s)) := by
 refine K_ Tryz.func15 rfl Tryz.ntmps15 rfl fun G w =>d_<|a_<|eb_ (O_ (cs := s.abs) rfl) rfl rfl fun b3=>?_
 refine q_ 1 rfl<|g_<|c_<|d_<|d_<|a_<|q_ 1 rfl<|b_ (bq_ rfl rfl (by kernel_rfl)) rfl rfl ?_
 refine g_<|c_<|Z_ rfl<|s_<|c_<|d_<|d_<|U_ [] (.q 0 (.q 1 (.q 2 (.q 3 (.q 4 (.q 5 (.q 6 (.q 7 (.q 8 (.q 9 (.e 10 (.e 11 (.q 12 .nil))))))))))))) (by kernel_rfl) (by kernel_rfl) ?_
 refine qs_ 3 rfl<|l_ rfl (j_ tabOk rfl rfl r1_ List.not_mem_nil rfl) (by simp) rfl rfl ?_
 refine qs_ 1 rfl<|af_ (by (simp [mids, It.mids, ownPc, mapPc]; done)) fun hx9 => ?_
 refine l_ rfl (y_ (C := int s.who) (j_ tabOk rfl rfl l0_ List.not_mem_nil rfl) rfl) hx9 rfl rfl<|l_ rfl (cf_ (a := s.who) (m := cm) (enc := Kp.enc) (z0 := Kp.zero) (zv := zkp) (a4_ Tryz.underlying3) Tryz.underlying89 e8_ e7_ rfl r2_ List.not_mem_nil rfl is_v hw) hx9 rfl rfl<|qs_ 3 rfl<|b1_ tabOk rfl rfl rfl rfl fun b5 =>ex_ rfl (D_ (L' := ((aget cm s.who).getD Kp.zero).cells) tabOk rfl rfl rfl u0_ (bV_ _) (Nat.le_of_ble_eq_true rfl) (ep_ _) (by exact N_ (bV_ _))) (by simp) rfl rfl ?_
 refine af_ (by (simp [mids, It.mids, ownPc, mapPc]; done)) fun hx9 => ?_
 refine qx_ 1 hx9 rfl<|I_<|c_<|d_<|a_<|q_ 2 rfl<|aY_ (t := 20) rfl ?_ ?_
 rotate_left
 ·intro hc20
  have hs0 : sameK cm s = false := by unfold sameK; rw [hc20]; rfl
  refine q_ 6 rfl<|g_<|c_<|Z_ rfl<|s_<|c_<|d_<|aT_ (p := b3 ∉ mids [.blk q 86 [mapV bd, mapV bt], .pc (mapPc bd Value.string cntV sOk D)] ∧ h ∉ mids [.blk q 86 [mapV bd, mapV bt], .pc (mapPc bd Value.string cntV sOk D)]) (fun _ _ h9 => by
    have h1 := h9.mem.nodup
    have h2 : h ∉ mids [.blk q 86 [mapV bd, mapV bt], .pc (mapPc bd Value.string cntV sOk D)] := fun hm => h9.mem.sep h (aJ_ (sk_ (sk_ (sk_ (sk_ (sk_ (sk_ sr_)))))) hm) (h9.mem.ro (.rd h 92 [.ifc 34 (ptr q), int (n : Nat), mapV bm, .v av]) (by simp) h (by simp [It.rids]))
    refine ⟨?_, h2⟩
    simp only [aq_, It.mids, List.singleton_append, List.nodup_cons] at h1
    intro hm
    exact h1.2.1 (by simpa [mids, It.mids] using hm)) fun hX => ?_
  refine U_ (mids [.blk q 86 [mapV bd, mapV bt], .pc (mapPc bd Value.string cntV sOk D)]) (.q 0 (.q 1 (.q 2 (.q 3 (.q 4 (.q 5 (.q 6 (.q 7 (.q 8 (.q 9 (.q 10 (.q 11 (.q 14 (.q 15 (.q 16 (.q 17 (.e 12 (.e 13 (.e 18 (.q 19 (.q 20 .nil))))))))))))))))))))) (by kernel_rfl) (by kernel_rfl) ?_
  refine af_ (by (simp [mids, It.mids, ownPc, mapPc]; done)) fun hx9 => ?_
  refine qx_ 2 hx9 rfl<|l_ rfl (y_ (C := int s.who) (j_ tabOk rfl rfl l1_ (by exact hX.1) rfl) rfl) hx9 rfl rfl ?_
  refine qx_ 2 hx9 rfl<|l_ rfl (y_ (C := int s.chg.view) (j_ tabOk rfl rfl l1_ (by exact hX.1) rfl) rfl) hx9 rfl rfl ?_
  refine qx_ 3 hx9 rfl<|l_ rfl (j_ tabOk rfl rfl r2_ (by exact hX.2) rfl) hx9 rfl rfl ?_
  refine qx_ 1 hx9 rfl<|l_ rfl (y_ (C := .agg s.chg.abs) (aQ_ tabOk rfl rfl rfl l1_ (by exact hX.1) (Nat.le_of_ble_eq_true rfl)) rfl) hx9 rfl rfl ?_
  refine qx_ 3 hx9 rfl<|l_ rfl (j_ tabOk rfl rfl r2_ (by exact hX.2) rfl) hx9 rfl rfl ?_
  refine J_ rfl (ek_ (q := q) (bd := bd) (bt := bt) (D := D) (g := s.chg) hs.few (Nat.le_trans hs.len (by decide)) hn hT) (fun k hk => hk) Casts.refl (by kernel_rfl) rfl rfl rfl ?_
  refine bc_ [_, _, _, _, _, _] (β := []) rfl (by intro x hx; simp only [List.mem_cons, List.not_mem_nil, or_false] at hx; rcases hx with rfl | rfl <;> rfl) ?_
  intro _
  refine J_ rfl (fv_ (h := h) (q := q) (bm := bm) (n := n) (av := av) (L := L) (k := (sdOf D s.chg)) (of_ := s.who) hL hs.lits.view) (by simp [mids, It.mids]) Casts.refl (by kernel_rfl) rfl rfl rfl ?_
  refine ap_<|fun _=>J_ rfl (dY_ (n := (n : Int)) (by omega)) (by simp [mids, It.mids]) Casts.refl (by kernel_rfl) rfl rfl rfl ?_
  refine ap_<|fun _=>af_ (by (simp [mids, It.mids, ownPc, mapPc]; done)) fun hx9 => ?_
  refine qx_ 2 hx9 rfl<|I_<|c_<|n_ ?_
  have e1 : realD D cm s = pm D (dKey s.chg.bytes) := if_neg (by rw [hs0]; decide)
  refine f_ (rs := [.tmp 4]) rfl (RV.tmp rfl RV.nil) (()) (by rw [e1]; repeat (first | exact List.nil_sublist _ | exact List.Sublist.refl _ | apply List.Sublist.cons_cons | apply List.Sublist.cons)) ?_
  rw [show realB D n cm L s = decide (((max (n : Int) 1 - 1) / 3) < ((votesN n L s.who (sdOf D s.chg) : Nat) : Int)) by unfold realB; rw [hs0]; rfl]
  rfl
 intro hc20
 refine q_ 1 rfl<|b_ (y_ (C := .agg (keptC cm s.who).abs) (aQ_ tabOk rfl rfl rfl l0_ List.not_mem_nil (by show 0 + 5 ≤ ((aget cm s.who).getD Kp.zero).cells.length; rw [bV_]; omega)) (by exact gG_ _)) rfl rfl ?_
 refine q_ 1 rfl<|b_ (y_ (C := .agg s.chg.abs) (aQ_ tabOk rfl rfl rfl l1_ List.not_mem_nil (Nat.le_of_ble_eq_true rfl)) rfl) rfl rfl<|t_ (psame_s (c := keptC cm s.who) (d := s.chg) (aN_ hk).asked.sized.pts (aN_ hk).asked.sized.prep (aN_ hk).asked.sized.prop (aN_ hk).lits hs.lits) Casts.refl (by kernel_rfl) rfl rfl rfl ?_
 refine ap_<|fun _=>q_ 1 rfl<|g_<|c_<|aE_ rfl ?_ ?_
 ·intro hc26
  have hs0 : sameK cm s = true := by unfold sameK; rw [hc20, hc26]; rfl
  refine d_<|a_<|q_ 1 rfl<|g_<|c_<|n_<|i_ nofun ?_
  have e1 : realD D cm s = D := if_pos hs0
  refine f_ (rs := [.tmp 4]) rfl (RV.tmp rfl RV.nil) (()) (by rw [e1]; repeat (first | exact List.nil_sublist _ | exact List.Sublist.refl _ | apply List.Sublist.cons_cons | apply List.Sublist.cons)) ?_
  rw [show realB D n cm L s = true by unfold realB; rw [hs0]; rfl]
  rfl
 intro hc26
 have hs0 : sameK cm s = false := by unfold sameK; rw [hc20, hc26]; rfl
 refine s_<|c_<|d_<|aT_ (p := b3 ∉ mids [.blk q 86 [mapV bd, mapV bt], .pc (mapPc bd Value.string cntV sOk D)] ∧ h ∉ mids [.blk q 86 [mapV bd, mapV bt], .pc (mapPc bd Value.string cntV sOk D)]) (fun _ _ h9 => by
   have h1 := h9.mem.nodup
   have h2 : h ∉ mids [.blk q 86 [mapV bd, mapV bt], .pc (mapPc bd Value.string cntV sOk D)] := fun hm => h9.mem.sep h (aJ_ (sk_ (sk_ (sk_ (sk_ (sk_ (sk_ sr_)))))) hm) (h9.mem.ro (.rd h 92 [.ifc 34 (ptr q), int (n : Nat), mapV bm, .v av]) (by simp) h (by simp [It.rids]))
   refine ⟨?_, h2⟩
   simp only [aq_, It.mids, List.singleton_append, List.nodup_cons] at h1
   intro hm
   exact h1.2.1 (by simpa [mids, It.mids] using hm)) fun hX => ?_
 refine U_ (mids [.blk q 86 [mapV bd, mapV bt], .pc (mapPc bd Value.string cntV sOk D)]) (.q 0 (.q 1 (.q 2 (.q 3 (.q 4 (.q 5 (.q 6 (.q 7 (.q 8 (.q 9 (.q 10 (.q 11 (.q 14 (.q 15 (.q 16 (.q 17 (.e 12 (.e 13 (.e 18 (.q 19 (.q 20 .nil))))))))))))))))))))) (by kernel_rfl) (by kernel_rfl) ?_
 refine af_ (by (simp [mids, It.mids, ownPc, mapPc]; done)) fun hx9 => ?_
 refine qx_ 2 hx9 rfl<|l_ rfl (y_ (C := int s.who) (j_ tabOk rfl rfl l1_ (by exact hX.1) rfl) rfl) hx9 rfl rfl ?_
 refine qx_ 2 hx9 rfl<|l_ rfl (y_ (C := int s.chg.view) (j_ tabOk rfl rfl l1_ (by exact hX.1) rfl) rfl) hx9 rfl rfl ?_
 refine qx_ 3 hx9 rfl<|l_ rfl (j_ tabOk rfl rfl r2_ (by exact hX.2) rfl) hx9 rfl rfl ?_
 refine qx_ 1 hx9 rfl<|l_ rfl (y_ (C := .agg s.chg.abs) (aQ_ tabOk rfl rfl rfl l1_ (by exact hX.1) (Nat.le_of_ble_eq_true rfl)) rfl) hx9 rfl rfl ?_
 refine qx_ 3 hx9 rfl<|l_ rfl (j_ tabOk rfl rfl r2_ (by exact hX.2) rfl) hx9 rfl rfl ?_
 refine J_ rfl (ek_ (q := q) (bd := bd) (bt := bt) (D := D) (g := s.chg) hs.few (Nat.le_trans hs.len (by decide)) hn hT) (fun k hk => hk) Casts.refl (by kernel_rfl) rfl rfl rfl ?_
 refine bc_ [_, _, _, _, _, _] (β := []) rfl (by intro x hx; simp only [List.mem_cons, List.not_mem_nil, or_false] at hx; rcases hx with rfl | rfl <;> rfl) ?_
 intro _
 refine J_ rfl (fv_ (h := h) (q := q) (bm := bm) (n := n) (av := av) (L := L) (k := (sdOf D s.chg)) (of_ := s.who) hL hs.lits.view) (by simp [mids, It.mids]) Casts.refl (by kernel_rfl) rfl rfl rfl ?_
 refine ap_<|fun _=>J_ rfl (dY_ (n := (n : Int)) (by omega)) (by simp [mids, It.mids]) Casts.refl (by kernel_rfl) rfl rfl rfl ?_
 refine ap_<|fun _=>af_ (by (simp [mids, It.mids, ownPc, mapPc]; done)) fun hx9 => ?_
 refine qx_ 2 hx9 rfl<|I_<|c_<|n_ ?_
 have e1 : realD D cm s = pm D (dKey s.chg.bytes) := if_neg (by rw [hs0]; decide)
 refine f_ (rs := [.tmp 4]) rfl (RV.tmp rfl RV.nil) (()) (by rw [e1]; repeat (first | exact List.nil_sublist _ | exact List.Sublist.refl _ | apply List.Sublist.cons_cons | apply List.Sublist.cons)) ?_
 rw [show realB D n cm L s = decide (((max (n : Int) 1 - 1) / 3) < ((votesN n L s.who (sdOf D s.chg) : Nat) : Int)) by unfold realB; rw [hs0]; rfl]
 rfl
end
def certOk (n : Nat) (cm : List (Int × Kp)) (L : List Tl) (view : Int) (i : Nat) : Option Sgn := match aget cm (i : Int) with
  | none => none
  | some k => if k.c.view = view ∧ 2 * ((max (n : Int) 1 - 1) / 3) + 1 ≤ ((votesN n L (i : Int) ⟨view, k.dig, k.len⟩ : Nat) : Int) then some ⟨(i : Int), k.c⟩ else none
def certTo (n : Nat) (cm : List (Int × Kp)) (L : List Tl) (view : Int) (q : Nat) : List Sgn := (List.range q).filterMap (certOk n cm L view)
section
variable {h q bd bt bm n i : Nat} {av : Value} {cm : List (Int × Kp)} {L : List Tl} {view : Int} {v : Kp}
theorem gU_ (h : certOk n cm L view i = none) : certTo n cm L view (i + 1) = certTo n cm L view i := by
  unfold certTo
  rw [List.range_succ, List.filterMap_append, List.filterMap_cons, h]
  simp
theorem cert_yes {s : Sgn} (h : certOk n cm L view i = some s) : certTo n cm L view (i + 1) = certTo n cm L view i ++ [s] := by
  unfold certTo
  rw [List.range_succ, List.filterMap_append, List.filterMap_cons, h]
  simp
theorem ft_ : (certTo n cm L view i).length ≤ i := by
  unfold certTo
  exact Nat.le_trans (List.length_filterMap_le ..) (by rw [List.length_range]; omega)
theorem fO_ (s : Sgn) : ones s.abs = true := rfl
set_option maxHeartbeats 2000000 in
theorem acert_s (hk : KOk n cm) (hL : L.length = n) (h7 : n ≤ 7) (hv0 : intOk view) : Spec Tryz.prog 16 [ptr h, int view] [.rd h 92 [.ifc 34 (ptr q), int (n : Nat), mapV bm, .v av], .rdpc (tmPc bm intK intOk Kp.enc cm), .rdpc (ownPc 93 1 av (L.map fun x => [ptr x.t])), .rdpc (tlsP L)] (fun v : Value => [own 50 6 v (((certTo n cm L view n)).map Sgn.abs)]) (fun v => .v v) := by
 refine K_ Tryz.func16 rfl Tryz.ntmps16 rfl fun G w =>d_<|a_<|q_ 1 rfl<|g_<|c_<|d_<|d_<|a_<|q_ 1 rfl<|b_ (bq_ rfl rfl (by kernel_rfl)) rfl rfl ?_
 refine g_<|c_<|Z_ rfl<|s_<|c_<|d_<|a_<|q_ 1 rfl<|g_<|c_<|d_<|d_<|a_<|q_ 3 rfl<|b_ (j_ tabOk rfl rfl r0_ List.not_mem_nil rfl) rfl rfl<|q_ 1 rfl<|g_<|c_<|u_<|eB_ 50 6<|W_ (ι := Nat × Value) (fun z => [own 50 6 z.2 (((certTo n cm L view z.1)).map Sgn.abs), .rd h 92 [.ifc 34 (ptr q), int (n : Nat), mapV bm, .v av], .rdpc (tmPc bm intK intOk Kp.enc cm), .rdpc (ownPc 93 1 av (L.map fun x => [ptr x.t])), .rdpc (tlsP L)]) (fun z => [(0, ptr h), (1, int view), (5, .v z.2), (14, int (n : Nat)), (15, int (z.1 : Nat))]) (fun z => z.1 ≤ n) (fun z => n - z.1) (0, .slice none 0 0) (Nat.zero_le _) (by exact ⟨rfl, rfl, rfl, rfl, rfl, trivial⟩) sr_ ?_
 intro z hz
 refine d_<|a_<|q_ 1 rfl<|g_<|c_<|d_<|o_ rfl ?_ ?_
 rotate_left
 ·intro hc16
  have hze : z.1 = n := by omega
  refine T_<|i_ nofun<|i_ nofun<|S_<|c_<|d_<|a_<|q_ 2 rfl<|g_<|c_<|n_<|f_ (rs := [.tmp 4]) rfl (RV.tmp rfl RV.nil) (z.2) (by rw [show (certTo n cm L view n) = (certTo n cm L view z.1) by rw [hze]]; repeat (first | exact List.nil_sublist _ | exact List.Sublist.refl _ | apply List.Sublist.cons_cons | apply List.Sublist.cons)) ?_
  exact rfl
 intro hc16
 refine s_<|c_<|d_<|u_<|d_<|a_<|q_ 2 rfl<|g_<|c_<|d_<|a_<|q_ 3 rfl<|b_ (j_ tabOk rfl rfl r1_ List.not_mem_nil rfl) rfl rfl<|q_ 1 rfl<|b_ (cf_ (a := ((z.1 : Nat) : Int)) (m := cm) (enc := Kp.enc) (z0 := Kp.zero) (zv := zkp) (a4_ Tryz.underlying3) Tryz.underlying89 e8_ e7_ rfl r2_ List.not_mem_nil rfl is_v (by simp only [InR, lo, hi]; omega)) rfl rfl ?_
 refine q_ 3 rfl<|eb_ (H_ tabOk rfl) rfl rfl fun b7=>?_
 refine e_ (D_ (L' := ((aget cm ((z.1 : Nat) : Int)).getD Kp.zero).cells) tabOk rfl rfl rfl u0_ (bV_ _) (Nat.le_of_ble_eq_true rfl) (ep_ _) (by exact N_ (bV_ _))) rfl rfl ?_
 refine q_ 1 rfl<|g_<|c_<|d_<|U_ [] (.q 0 (.q 1 (.q 2 (.q 3 (.q 4 (.q 5 (.q 6 (.q 7 (.q 8 (.q 9 (.q 10 (.q 11 (.q 12 (.q 13 (.q 15 (.q 16 (.q 17 (.q 18 (.e 14 (.e 19 (.q 20 (.q 21 .nil)))))))))))))))))))))) (by kernel_rfl) (by kernel_rfl) ?_
 refine qs_ 2 rfl<|ez_ (t := 28) rfl ?_ ?_
 rotate_left
 ·intro hc28
  have hv := cU_ hc28
  have e8 := gU_ (n := n) (cm := cm) (L := L) (view := view) (i := z.1) (by unfold certOk; rw [hv])
  refine qs_ 16 rfl<|br_ rfl rfl rfl<|br_ rfl rfl rfl<|qs_ 2 rfl<|I_<|c_<|Z_ rfl<|s_<|r_<|c_<|a_<|b_ (v_ rfl rfl (by simp only [InR, lo, hi]; omega)) rfl rfl ?_
  refine q_ 1 rfl<|g_<|A_ (z.1 + 1, z.2) (by omega) ((by dsimp only; omega)) (by exact ⟨rfl, rfl, rfl, rfl, rfl, trivial⟩) (by dsimp only; rw [e8]; repeat (first | exact List.nil_sublist _ | exact List.Sublist.refl _ | apply List.Sublist.cons_cons | apply List.Sublist.cons))
 intro hc28
 obtain ⟨v, hv⟩ := cT_ hc28
 have hov : ((aget cm ((z.1 : Nat) : Int)).getD Kp.zero) = v := by rw [hv]; rfl
 refine qs_ 2 rfl<|af_ (by (simp [mids, It.mids, ownPc, mapPc]; done)) fun hx9 => ?_
 refine l_ rfl (y_ (C := int ((aget cm ((z.1 : Nat) : Int)).getD Kp.zero).c.view) (j_ tabOk rfl rfl l0_ List.not_mem_nil rfl) rfl) hx9 rfl rfl<|qs_ 4 rfl<|aR_ (t := 35) rfl ?_ ?_
 rotate_left
 ·intro hc35
  rw [hov] at hc35
  have e8 := gU_ (n := n) (cm := cm) (L := L) (view := view) (i := z.1) (by unfold certOk; rw [hv]; exact if_neg fun h => hc35 h.1)
  iterate 9 refine ch_ rfl rfl rfl ?_
  refine br_ rfl rfl rfl<|br_ rfl rfl rfl<|qs_ 2 rfl<|I_<|c_<|Z_ rfl<|s_<|r_<|c_<|a_<|b_ (v_ rfl rfl (by simp only [InR, lo, hi]; omega)) rfl rfl ?_
  refine q_ 1 rfl<|g_<|A_ (z.1 + 1, z.2) (by omega) ((by dsimp only; omega)) (by exact ⟨rfl, rfl, rfl, rfl, rfl, trivial⟩) (by dsimp only; rw [e8]; repeat (first | exact List.nil_sublist _ | exact List.Sublist.refl _ | apply List.Sublist.cons_cons | apply List.Sublist.cons))
 intro hc35
 refine qs_ 4 rfl<|l_ rfl (y_ (C := .agg (digA ((aget cm ((z.1 : Nat) : Int)).getD Kp.zero).dig)) (aQ_ tabOk rfl rfl rfl l0_ List.not_mem_nil (by show 5 + 32 ≤ ((aget cm ((z.1 : Nat) : Int)).getD Kp.zero).cells.length; rw [bV_]; omega)) (by exact kp_dig _)) hx9 rfl rfl ?_
 refine qs_ 3 rfl<|l_ rfl (j_ tabOk rfl rfl r2_ List.not_mem_nil rfl) (by simp) rfl rfl ?_
 refine J_ rfl (fv_ (h := h) (q := q) (bm := bm) (n := n) (av := av) (L := L) (k := (⟨view, ((aget cm ((z.1 : Nat) : Int)).getD Kp.zero).dig, ((aget cm ((z.1 : Nat) : Int)).getD Kp.zero).len⟩ : Sd)) (of_ := ((z.1 : Nat) : Int)) hL hv0) (by simp [mids, It.mids]) Casts.refl (by kernel_rfl) rfl rfl rfl ?_
 refine ap_<|fun _=>J_ rfl (quorum_s (n := (n : Int)) (by omega)) (by simp [mids, It.mids]) Casts.refl (by kernel_rfl) rfl rfl rfl ?_
 refine ap_<|fun _=>qs_ 2 rfl<|I_<|c_<|o_ rfl ?_ ?_
 rotate_left
 ·intro hc48
  rw [hov] at hc48
  have e8 := gU_ (n := n) (cm := cm) (L := L) (view := view) (i := z.1) (by unfold certOk; rw [hv]; exact if_neg fun h => hc48 (by omega))
  refine s_<|r_<|c_<|a_<|b_ (v_ rfl rfl (by simp only [InR, lo, hi]; omega)) rfl rfl ?_
  refine q_ 1 rfl<|g_<|A_ (z.1 + 1, z.2) (by omega) ((by dsimp only; omega)) (by exact ⟨rfl, rfl, rfl, rfl, rfl, trivial⟩) (by dsimp only; rw [e8]; repeat (first | exact List.nil_sublist _ | exact List.Sublist.refl _ | apply List.Sublist.cons_cons | apply List.Sublist.cons))
 intro hc48
 have e8 := cert_yes (n := n) (cm := cm) (L := L) (view := view) (i := z.1) (s := (⟨((z.1 : Nat) : Int), (keptC cm ((z.1 : Nat) : Int))⟩ : Sgn)) (by
  unfold certOk keptC
  rw [hov] at hc35 hc48 ⊢
  rw [hv]
  exact if_pos ⟨hc35, by omega⟩)
 refine jF_ [] (Re.perm (ys := [own 50 6 z.2 (((certTo n cm L view z.1)).map Sgn.abs), .blk b7 99 ((aget cm ((z.1 : Nat) : Int)).getD Kp.zero).cells]) (List.Perm.swap _ _ _) (by simp [It.rids])) rfl ?_
 refine aT_ (p := b7 ∉ (mids [own 50 6 z.2 (((certTo n cm L view z.1)).map Sgn.abs)] ++ []) ∧ h ∉ (mids [own 50 6 z.2 (((certTo n cm L view z.1)).map Sgn.abs)] ++ [])) (fun _ _ h9 => ⟨fun hm => (List.nodup_append.1 (show (z.2.ownBlock.toList ++ [b7]).Nodup from h9.mem.nodup)).2.2 b7 (by simpa [mids, It.mids, ownPc] using hm) b7 (by simp) rfl, fun hm => h9.mem.sep h (aJ_ (τ := [own 50 6 z.2 (((certTo n cm L view z.1)).map Sgn.abs)]) (sc_ sn_) (by simpa using hm)) (h9.mem.ro (.rd h 92 [.ifc 34 (ptr q), int (n : Nat), mapV bm, .v av]) (by simp) h (by simp [It.rids]))⟩) fun hX => ?_
 refine U_ (mids [own 50 6 z.2 (((certTo n cm L view z.1)).map Sgn.abs)] ++ []) (.q 0 (.q 1 (.q 2 (.q 3 (.q 4 (.q 5 (.q 6 (.q 7 (.e 8 (.q 9 (.e 10 (.e 11 (.q 12 .nil))))))))))))) (by kernel_rfl) (by kernel_rfl) ?_
 refine af_ (by (intro k hk; simp [mids, It.mids, ownPc, mapPc, mapAtPc] at hk ⊢; grind)) fun hx9 => ?_
 refine qx_ 3 hx9 rfl<|l_ rfl (y_ (C := .agg (keptC cm ((z.1 : Nat) : Int)).abs) (aQ_ tabOk rfl rfl rfl l1_ (by exact hX.1) (by show 0 + 5 ≤ ((aget cm ((z.1 : Nat) : Int)).getD Kp.zero).cells.length; rw [bV_]; omega)) (by exact gG_ _)) hx9 rfl rfl ?_
 refine qx_ 3 hx9 rfl<|l_ rfl (j_ tabOk rfl rfl r2_ (by exact hX.2) rfl) hx9 rfl rfl ?_
 refine J_ rfl (gl_ (g := (keptC cm ((z.1 : Nat) : Int))) (n := n) (aN_ hk).few (Nat.le_trans (aN_ hk).len (by decide))) (by simp [mids, It.mids]) Casts.refl (by kernel_rfl) rfl rfl rfl ?_
 refine ap_ ?_
 intro _
 rw [gd_ hk]
 refine af_ (by (intro k hk; simp [mids, It.mids, ownPc, mapPc, mapAtPc] at hk ⊢; grind)) fun hx9 => ?_
 refine l_ rfl (y_ (C := .agg (⟨((z.1 : Nat) : Int), (keptC cm ((z.1 : Nat) : Int))⟩ : Sgn).abs) (L_ tabOk rfl rfl rfl rfl) rfl) hx9 rfl rfl<|ex_ rfl (ax_ tabOk Tryz.underlying53 rfl rfl rfl (ct_ rfl) rfl rfl rfl) (by simp) rfl rfl ?_
 refine jB_ [own 50 6 z.2 (((certTo n cm L view z.1)).map Sgn.abs)] [] rfl (bh_ (zs := (certTo n cm L view (z.1 + 1)).map Sgn.abs) tabOk [] (by rw [e8, List.map_append]; rfl) Tryz.underlying53 rfl rfl rfl rfl rfl rfl (by intro c hc; rw [List.mem_singleton] at hc; subst hc; rfl) (by have := ft_ (n := n) (cm := cm) (L := L) (view := view) (i := z.1); unfold maxLen; simp only [List.length_map, List.length_cons, List.length_nil]; omega) (by have := ft_ (n := n) (cm := cm) (L := L) (view := view) (i := z.1); rw [show Tryz.prog.bytesOf 50 = 96 by kernel_rfl]; simp only [List.length_map, List.length_cons, List.length_nil]; omega)) rfl (by intro k hk; simp [mids, It.mids, ownPc] at hk ⊢; simp [hk]) rfl rfl ?_
 rintro _ _ ⟨r60, rfl, rfl⟩
 refine ⟨[own 50 6 r60 (((certTo n cm L view (z.1 + 1))).map Sgn.abs)], rfl, af_ (by (intro k hk; simp [mids, It.mids, ownPc, mapPc, mapAtPc] at hk ⊢; grind)) fun hx9 => ?_⟩
 refine qx_ 1 hx9 rfl<|I_<|r_<|c_<|a_<|b_ (v_ rfl rfl (by simp only [InR, lo, hi]; omega)) rfl rfl ?_
 refine q_ 1 rfl<|g_<|A_ (z.1 + 1, r60) (by omega) ((by dsimp only; omega)) (by exact ⟨rfl, rfl, rfl, rfl, rfl, trivial⟩) (sc_ (sk_ sr_))
end
section
variable {c : Chg}
set_option maxHeartbeats 2000000 in
theorem afew_s  : Spec Tryz.prog 6 [.agg c.abs] [] (fun _ : {b : Bool // b = true → c.Asked} => []) (fun z => boo z.1) := by
 have hrl := gA_ c
 refine K_ Tryz.func6 rfl Tryz.ntmps6 rfl fun G w =>d_<|a_<|eb_ (O_ rfl) rfl rfl fun b1=>?_
 refine q_ 1 rfl<|g_<|c_<|d_<|d_<|a_<|q_ 1 rfl<|b_ (j_ tabOk rfl rfl l0_ List.not_mem_nil rfl) rfl rfl<|q_ 1 rfl<|b_ (j_ tabOk rfl rfl l0_ List.not_mem_nil rfl) rfl rfl<|e_ (ax_ tabOk Tryz.underlying74 rfl rfl rfl rfl rfl rfl rfl) rfl rfl<|b_ (w_ (m := 2) rfl Tryz.underlying74 rfl) rfl rfl<|q_ 1 rfl<|g_<|c_<|u_<|W_ (ι := Nat) (fun z => [.blk b1 26 c.abs]) (fun z => [(1, ptr b1), (13, .sl 1 (c.rows.map fun ps => [prfsA ps])), (14, int (2 : Nat)), (15, int (z : Nat))]) (fun z => z ≤ 2 ∧ ∀ ps ∈ c.rows.take z, RFew ps) (fun z => 2 - z) (0) (⟨Nat.zero_le _, by simp⟩) (by exact ⟨rfl, rfl, rfl, rfl, trivial⟩) sr_ ?_
 intro z hz
 refine d_<|a_<|q_ 1 rfl<|g_<|c_<|d_<|o_ rfl ?_ ?_
 rotate_left
 ·intro hc16
  refine T_<|i_ nofun<|i_ nofun<|S_<|c_<|d_<|a_<|q_ 1 rfl<|b_ (j_ tabOk rfl rfl l0_ List.not_mem_nil rfl) rfl rfl<|b_ (w_ rfl Tryz.underlying23 (List.length_map _)) rfl rfl<|q_ 2 rfl<|g_<|c_<|n_<|f_ (rs := [.tmp 2]) rfl (RV.tmp rfl RV.nil) (⟨decide ((c.points.length : Int) ≤ 8), fun h => ⟨hz.2 _ (by rw [show z = 2 by omega]; exact List.mem_cons_self), hz.2 _ (by rw [show z = 2 by omega]; exact List.mem_cons_of_mem _ List.mem_cons_self), by have h9 := of_decide_eq_true h; omega⟩⟩) sn_ ?_
  exact rfl
 intro hc16
 have hr : z < c.rows.length := by omega
 refine s_<|c_<|d_<|u_<|d_<|a_<|b_ (E_ tabOk Tryz.underlying74 rfl rfl rfl rfl (ah_ (by omega)) rfl rfl) rfl rfl ?_
 refine b_ (as_ tabOk rfl rfl rfl) rfl rfl<|q_ 1 rfl<|g_<|c_<|d_<|d_<|a_<|q_ 1 rfl<|b_ (w_ rfl Tryz.underlying24 (List.length_map _)) rfl rfl<|q_ 1 rfl<|g_<|c_<|o_ rfl ?_ ?_
 ·intro hc21
  refine d_<|a_<|q_ 1 rfl<|g_<|c_<|n_<|i_ nofun<|B_<|i_ nofun<|i_ nofun<|B_<|i_ nofun<|f_ (rs := [.tmp 2]) rfl (RV.tmp rfl RV.nil) (⟨false, fun h => by cases h⟩) sn_ ?_
  exact rfl
 intro hc21
 refine s_<|c_<|d_<|a_<|q_ 1 rfl<|b_ (w_ rfl Tryz.underlying24 (List.length_map _)) rfl rfl<|q_ 1 rfl<|g_<|c_<|u_<|W_ (ι := Nat) (fun y => [.blk b1 26 c.abs]) (fun y => [(1, ptr b1), (13, .sl 1 (c.rows.map fun ps => [prfsA ps])), (14, int (2 : Nat)), (15, int (z : Nat)), (22, prfsA (c.rows[z]'hr)), (23, int ((c.rows[z]'hr).length : Nat)), (24, int (y : Nat))]) (fun y => y ≤ (c.rows[z]'hr).length ∧ ∀ p ∈ (c.rows[z]'hr).take y, PFew p) (fun y => (c.rows[z]'hr).length - y) (0) (⟨Nat.zero_le _, by simp⟩) (by exact ⟨rfl, rfl, rfl, rfl, rfl, rfl, rfl, trivial⟩) sr_ ?_
 intro y hy
 refine d_<|a_<|q_ 1 rfl<|g_<|c_<|d_<|o_ rfl ?_ ?_
 rotate_left
 ·intro hc25
  refine T_<|i_ nofun<|i_ nofun<|S_<|r_<|c_<|a_<|b_ (v_ rfl rfl (by simp only [InR, lo, hi]; omega)) rfl rfl ?_
  refine q_ 1 rfl<|g_<|A_ (z + 1) (by omega) (⟨by omega, fd_ hz.2 hr ⟨by omega, fL_ hy.2 (by omega)⟩⟩) (by exact ⟨rfl, rfl, rfl, rfl, trivial⟩) sr_
 intro hc25
 have hr2 : y < (c.rows[z]'hr).length := by omega
 refine s_<|c_<|d_<|u_<|d_<|a_<|b_ (E_ tabOk Tryz.underlying24 rfl rfl rfl rfl (ah_ (by omega)) rfl rfl) rfl rfl ?_
 refine b_ (V_ tabOk rfl rfl rfl rfl) rfl rfl<|eb_ (H_ tabOk rfl) rfl rfl fun b6=>?_
 refine e_ (D_ tabOk rfl rfl rfl u0_ rfl (Nat.le_of_ble_eq_true rfl) rfl rfl) rfl rfl<|g_<|c_<|d_<|d_<|a_<|q_ 1 rfl<|b_ (j_ tabOk rfl rfl l0_ List.not_mem_nil rfl) rfl rfl<|b_ (w_ rfl Tryz.underlying75 (List.length_map _)) rfl rfl<|q_ 1 rfl<|g_<|c_<|o_ rfl ?_ ?_
 ·intro hc31
  refine d_<|a_<|q_ 1 rfl<|g_<|c_<|n_<|i_ nofun<|B_<|i_ nofun<|i_ nofun<|B_<|B_<|i_ nofun<|i_ nofun<|B_<|i_ nofun<|f_ (rs := [.tmp 2]) rfl (RV.tmp rfl RV.nil) (⟨false, fun h => by cases h⟩) sn_ ?_
  exact rfl
 intro hc31
 refine s_<|c_<|d_<|a_<|q_ 1 rfl<|b_ (j_ tabOk rfl rfl l0_ List.not_mem_nil rfl) rfl rfl<|b_ (w_ rfl Tryz.underlying75 (List.length_map _)) rfl rfl<|q_ 1 rfl<|g_<|c_<|u_<|W_ (ι := Nat) (fun x => [.blk b1 26 c.abs]) (fun x => [(1, ptr b1), (13, .sl 1 (c.rows.map fun ps => [prfsA ps])), (14, int (2 : Nat)), (15, int (z : Nat)), (22, prfsA (c.rows[z]'hr)), (23, int ((c.rows[z]'hr).length : Nat)), (24, int (y : Nat)), (33, entsA ((c.rows[z]'hr)[y]'hr2).batch), (34, int (((c.rows[z]'hr)[y]'hr2).batch.length : Nat)), (35, int (x : Nat))]) (fun x => x ≤ ((c.rows[z]'hr)[y]'hr2).batch.length ∧ ∀ e ∈ ((c.rows[z]'hr)[y]'hr2).batch.take x, EFew e) (fun x => ((c.rows[z]'hr)[y]'hr2).batch.length - x) (0) (⟨Nat.zero_le _, by simp⟩) (by exact ⟨rfl, rfl, rfl, rfl, rfl, rfl, rfl, rfl, rfl, rfl, trivial⟩) (sk_ sr_) ?_
 intro x hx
 refine d_<|a_<|q_ 1 rfl<|g_<|c_<|d_<|o_ rfl ?_ ?_
 rotate_left
 ·intro hc36
  refine T_<|i_ nofun<|i_ nofun<|S_<|r_<|c_<|a_<|b_ (v_ rfl rfl (by simp only [InR, lo, hi]; omega)) rfl rfl ?_
  refine q_ 1 rfl<|g_<|A_ (y + 1) (by omega) (⟨by omega, fd_ hy.2 hr2 ⟨by omega, fL_ hx.2 (by omega)⟩⟩) (by exact ⟨rfl, rfl, rfl, rfl, rfl, rfl, rfl, trivial⟩) sr_
 intro hc36
 have hr3 : x < ((c.rows[z]'hr)[y]'hr2).batch.length := by omega
 refine s_<|c_<|d_<|u_<|d_<|a_<|b_ (E_ tabOk Tryz.underlying75 rfl rfl rfl rfl (ah_ (by omega)) rfl rfl) rfl rfl ?_
 refine b_ (V_ tabOk rfl rfl rfl rfl) rfl rfl<|eb_ (H_ tabOk rfl) rfl rfl fun b8=>?_
 refine e_ (D_ tabOk rfl rfl rfl u0_ rfl (Nat.le_of_ble_eq_true rfl) rfl rfl) rfl rfl<|g_<|c_<|d_<|a_<|q_ 2 rfl<|b_ (j_ tabOk rfl rfl l0_ List.not_mem_nil rfl) rfl rfl<|b_ (bp_ rfl Tryz.underlying9) rfl rfl<|q_ 2 rfl<|z_ (t := 44) rfl ?_ ?_
 ·intro hc44
  refine q_ 6 rfl<|g_<|c_<|M_ rfl<|d_<|a_<|q_ 1 rfl<|g_<|c_<|n_<|B_<|i_ nofun<|i_ nofun<|B_<|B_<|i_ nofun<|i_ nofun<|B_<|B_<|i_ nofun<|i_ nofun<|B_<|i_ nofun<|f_ (rs := [.tmp 2]) rfl (RV.tmp rfl RV.nil) (⟨false, fun h => by cases h⟩) sn_ ?_
  exact rfl
 intro hc44
 refine q_ 2 rfl<|b_ (j_ tabOk rfl rfl l0_ List.not_mem_nil rfl) rfl rfl<|b_ (bp_ rfl Tryz.underlying9) rfl rfl<|q_ 2 rfl<|g_<|c_<|o_ rfl ?_ ?_
 rotate_left
 ·intro hc50
  refine s_<|r_<|c_<|a_<|b_ (v_ rfl rfl (by simp only [InR, lo, hi]; omega)) rfl rfl ?_
  refine q_ 1 rfl<|g_<|A_ (x + 1) (by omega) (⟨by omega, fd_ hx.2 hr3 ⟨by omega, by omega⟩⟩) (by exact ⟨rfl, rfl, rfl, rfl, rfl, rfl, rfl, rfl, rfl, rfl, trivial⟩) (sk_ sr_)
 intro hc50
 refine d_<|a_<|q_ 1 rfl<|g_<|c_<|n_<|B_<|i_ nofun<|i_ nofun<|B_<|B_<|i_ nofun<|i_ nofun<|B_<|B_<|i_ nofun<|i_ nofun<|B_<|i_ nofun<|f_ (rs := [.tmp 2]) rfl (RV.tmp rfl RV.nil) (⟨false, fun h => by cases h⟩) sn_ ?_
 exact rfl
end
theorem p0_lits (v : Int) (h : InR .i64 v) : (⟨v, 0, [p0], [], []⟩ : Chg).Lits := ⟨h, by simp only [InR, lo, hi]; omega, by
  intro p hp
  have : p = p0 := by simpa using hp
  subst this
  simp only [InR, lo, hi, p0]; omega, by simp, by simp⟩
theorem p0_cin (v : Int) (h : InR .i64 v) : CIn ⟨v, 0, [p0], [], []⟩ := ⟨⟨⟨by simp, by simp⟩, ⟨by simp, by simp⟩, by simp⟩, p0_lits v h⟩
theorem fl_ {v : Int} (h : 1 ≤ v) (h2 : v ≤ 1000) : (⟨v, 0, [p0], [], []⟩ : Chg).check 4 = 0 := by
  have hr : (⟨v, 0, [p0], [], []⟩ : Chg).Right 4 := by
    obtain ⟨_, _, r3, r4, r5, r6⟩ := c0_right
    exact ⟨h, by show v ≤ _; omega, r3, r4, ⟨by simp, c7_, by simp⟩, ⟨by simp, c7_, by simp⟩⟩
  unfold Chg.check
  rw [if_neg (by omega), P_.2 hr]
  rfl
def fA : Chg := ⟨3, 0, [p0], [], []⟩
def fB : Chg := ⟨2, 0, [p0], [], []⟩
theorem fA_in : CIn fA := p0_cin 3 (by simp only [InR, lo, hi]; omega)
theorem fB_in : CIn fB := p0_cin 2 (by simp only [InR, lo, hi]; omega)
noncomputable def fM1 : List (Int × Kp) := [(0, mkKp [] fA)]
noncomputable def fD1 : List (ByteArray × Nat) := pm [] (dKey fA.bytes)
noncomputable def fM2 : List (Int × Kp) := [(0, mkKp [] fA), (1, mkKp fD1 fB)]
noncomputable def fD2 : List (ByteArray × Nat) := pm fD1 (dKey fB.bytes)
theorem fk1 : takeCm 4 [] [] 0 fA = fM1 ∧ takeD 4 [] [] 0 fA = fD1 ∧ takeE 4 [] 0 fA = 0 := cy_ (n := 4) (D := []) (cm := []) (who := 0) (g := fA) (c2_ (by decide) (fl_ (by decide) (by decide)) rfl)
theorem fk2 : takeCm 4 fD1 fM1 1 fB = fM2 ∧ takeD 4 fD1 fM1 1 fB = fD2 ∧ takeE 4 fM1 1 fB = 0 := cy_ (n := 4) (D := fD1) (cm := fM1) (who := 1) (g := fB) (c2_ (by decide) (fl_ (by decide) (by decide)) rfl)
theorem fk3 : takeCm 4 fD2 fM2 0 fB = fM2 ∧ takeD 4 fD2 fM2 0 fB = fD2 ∧ takeE 4 fM2 0 fB = 13 := fc_ (n := 4) (D := fD2) (cm := fM2) (who := 0) (g := fB) (d6_ (k := mkKp [] fA) (by decide) (fl_ (by decide) (by decide)) rfl) (by decide)
theorem srt_32 : srt [3, 2] = [2, 3] := bK_ ((c3_ _).trans (List.Perm.swap _ _ _)) (cz_ _) (by decide)
theorem srt_3 : srt [3] = [3] := bK_ (c3_ _) (cz_ _) (by decide)
theorem fv1 : vwK fM1 0 = [3] := rfl
theorem fv2 : vwK fM2 0 = [3, 2] := rfl
theorem fv3 : vwK fM2 3 = [3] := rfl
theorem fj1 : joinR 4 fM1 0 = (0, false) := by
  have h : joinL fM1 0 = [3] := by unfold joinL; rw [fv1, srt_3]; rfl
  unfold joinR
  rw [h]
  rfl
theorem fj2 : joinR 4 fM2 0 = (2, true) := by
  have h : joinL fM2 0 = [2, 3] := by unfold joinL; rw [fv2, srt_32]; rfl
  unfold joinR
  rw [h]
  rfl
theorem fD1_num : Num1 fD1 := Num1.nil.put _
theorem fD2_num : Num1 fD2 := fD1_num.put _
theorem iW_ : fD1.length ≤ 1 := ae_ [] (dKey fA.bytes)
theorem fD2_len : fD2.length ≤ 2 := Nat.le_trans (ae_ fD1 _) (by have := iW_; omega)
set_option maxHeartbeats 2000000 in
theorem afixed_s  : Spec Tryz.prog 5 [] [] (fun _ : Unit => []) (fun _ => boo true) := by
 refine K_ Tryz.func5 rfl Tryz.ntmps5 rfl fun G w =>d_<|a_<|q_ 1 rfl<|g_<|c_<|d_<|a_<|t_ (inew_s) Casts.refl (by kernel_rfl) rfl rfl rfl ?_
 refine cb_ _ (List.Perm.refl _) (by intro x hx; cases hx) ?_
 intro z0
 refine ⟨_, List.Perm.refl _, b_ (bP_ rfl (fun _ _ => by kernel_rfl)) rfl rfl ?_⟩
 refine t_ (jm_ (q := z0.1) (n := 4) (by decide) (by decide)) Casts.refl (by kernel_rfl) rfl rfl rfl ?_
 refine cb_ _ (List.Perm.refl _) (by intro x hx; cases hx) ?_
 intro z1
 refine ⟨_, List.Perm.refl _, q_ 1 rfl<|g_<|c_<|d_<|a_<|q_ 1 rfl<|b_ (y_ (C := .agg p0.abs) (L_ tabOk rfl rfl rfl rfl) rfl) rfl rfl<|e_ (ax_ tabOk Tryz.underlying23 rfl rfl rfl (ct_ (Pnt.size _)) rfl rfl rfl) rfl rfl<|b_ (L_ tabOk rfl rfl rfl rfl) rfl rfl<|t_ (fw_ (h := z1.1) (q := z0.1) (bd := z0.2.1) (bt := z0.2.2) (bm := z1.2.1) (n := 4) (av := z1.2.2.1) (D := []) (cm := []) (who := 0) (g := fA) fA_in (by simp only [InR, lo, hi]; omega) Num1.nil (by decide)) (Casts.keep (Casts.keep (Casts.cons (bO_ (Casts.keep (Casts.keep (Casts.keep (Casts.nils (s := 3) (Casts.nils (s := 3) Casts.refl)))))) Casts.refl))) (by kernel_rfl) rfl rfl rfl ?_⟩
 refine bF_ [.blk z1.1 92 [.ifc 34 (ptr z0.1), int (4 : Nat), mapV z1.2.1, .v z1.2.2.1], own 93 1 z1.2.2.1 ((newTls z1.2.2.2.1).map fun x => [ptr x.t]), .pc (tlsP (newTls z1.2.2.2.1)), .pc (mapPc z0.2.2 Value.string cntV sOk [])] (by rw [List.perm_iff_count]; intro a; simp [mids, It.mids, List.count_append, List.count_cons]; try omega) (by intro x hx; simp only [List.mem_cons, List.not_mem_nil, or_false] at hx; rcases hx with rfl | rfl | rfl | rfl <;> first | exact .inl ⟨by simp, rfl⟩ | exact .inr ⟨_, List.mem_cons_self, rfl⟩ | exact .inr ⟨_, (List.mem_cons_of_mem _ List.mem_cons_self), rfl⟩ | exact .inr ⟨_, (List.mem_cons_of_mem _ (List.mem_cons_of_mem _ List.mem_cons_self)), rfl⟩ | exact .inr ⟨_, (List.mem_cons_of_mem _ (List.mem_cons_of_mem _ (List.mem_cons_of_mem _ List.mem_cons_self))), rfl⟩) (by intro x hx; simp only [List.mem_cons, List.not_mem_nil, or_false] at hx; rcases hx with rfl | rfl | rfl | rfl <;> simp) ?_
 intro _
 rw [fk1.1, fk1.2.1, fk1.2.2]
 refine q_ 1 rfl<|g_<|c_<|d_<|a_<|q_ 1 rfl<|t_ (jo_ (h := z1.1) (q := z0.1) (bm := z1.2.1) (n := 4) (av := z1.2.2.1) (cm := fM1) (view := 0) (by show ([0] : List Int).Nodup; decide) (by show 1 ≤ 1000; decide) (by decide)) Casts.refl (by kernel_rfl) rfl rfl rfl ?_
 refine bF_ [.blk z1.1 92 [.ifc 34 (ptr z0.1), int (4 : Nat), mapV z1.2.1, .v z1.2.2.1], own 93 1 z1.2.2.1 ((newTls z1.2.2.2.1).map fun x => [ptr x.t]), .pc (tlsP (newTls z1.2.2.2.1)), .blk z0.1 86 [mapV z0.2.1, mapV z0.2.2], .pc (mapPc z0.2.1 Value.string cntV sOk fD1), .pc (mapPc z0.2.2 Value.string cntV sOk [])] (by rw [List.perm_iff_count]; intro a; simp [mids, It.mids, List.count_append, List.count_cons]; try omega) (by intro x hx; simp only [List.mem_cons, List.not_mem_nil, or_false] at hx; rcases hx with rfl | rfl <;> first | exact .inl ⟨by simp, rfl⟩ | exact .inr ⟨_, List.mem_cons_self, rfl⟩ | exact .inr ⟨_, (List.mem_cons_of_mem _ List.mem_cons_self), rfl⟩ | exact .inr ⟨_, (List.mem_cons_of_mem _ (List.mem_cons_of_mem _ List.mem_cons_self)), rfl⟩ | exact .inr ⟨_, (List.mem_cons_of_mem _ (List.mem_cons_of_mem _ (List.mem_cons_of_mem _ List.mem_cons_self))), rfl⟩ | exact .inr ⟨_, (List.mem_cons_of_mem _ (List.mem_cons_of_mem _ (List.mem_cons_of_mem _ (List.mem_cons_of_mem _ List.mem_cons_self)))), rfl⟩ | exact .inr ⟨_, (List.mem_cons_of_mem _ (List.mem_cons_of_mem _ (List.mem_cons_of_mem _ (List.mem_cons_of_mem _ (List.mem_cons_of_mem _ List.mem_cons_self))))), rfl⟩) (by intro x hx; simp only [List.mem_cons, List.not_mem_nil, or_false] at hx; rcases hx with rfl | rfl | rfl | rfl | rfl | rfl <;> simp) ?_
 intro _
 rw [fj1]
 refine q_ 2 rfl<|b_ (y_ (C := boo false) (aM_ rfl rfl) rfl) rfl rfl<|q_ 2 rfl<|g_<|c_<|d_<|a_<|q_ 1 rfl<|b_ (y_ (C := .agg p0.abs) (L_ tabOk rfl rfl rfl rfl) rfl) rfl rfl<|e_ (ax_ tabOk Tryz.underlying23 rfl rfl rfl (ct_ (Pnt.size _)) rfl rfl rfl) rfl rfl<|b_ (L_ tabOk rfl rfl rfl rfl) rfl rfl<|t_ (fw_ (h := z1.1) (q := z0.1) (bd := z0.2.1) (bt := z0.2.2) (bm := z1.2.1) (n := 4) (av := z1.2.2.1) (D := fD1) (cm := fM1) (who := 1) (g := fB) fB_in (by simp only [InR, lo, hi]; omega) fD1_num (by have := iW_; omega)) (Casts.keep (Casts.keep (Casts.cons (bO_ (Casts.keep (Casts.keep (Casts.keep (Casts.nils (s := 3) (Casts.nils (s := 3) Casts.refl)))))) Casts.refl))) (by kernel_rfl) rfl rfl rfl ?_
 refine bF_ [.blk z1.1 92 [.ifc 34 (ptr z0.1), int (4 : Nat), mapV z1.2.1, .v z1.2.2.1], own 93 1 z1.2.2.1 ((newTls z1.2.2.2.1).map fun x => [ptr x.t]), .pc (tlsP (newTls z1.2.2.2.1)), .pc (mapPc z0.2.2 Value.string cntV sOk [])] (by rw [List.perm_iff_count]; intro a; simp [mids, It.mids, List.count_append, List.count_cons]; try omega) (by intro x hx; simp only [List.mem_cons, List.not_mem_nil, or_false] at hx; rcases hx with rfl | rfl | rfl | rfl <;> first | exact .inl ⟨by simp, rfl⟩ | exact .inr ⟨_, List.mem_cons_self, rfl⟩ | exact .inr ⟨_, (List.mem_cons_of_mem _ List.mem_cons_self), rfl⟩ | exact .inr ⟨_, (List.mem_cons_of_mem _ (List.mem_cons_of_mem _ List.mem_cons_self)), rfl⟩ | exact .inr ⟨_, (List.mem_cons_of_mem _ (List.mem_cons_of_mem _ (List.mem_cons_of_mem _ List.mem_cons_self))), rfl⟩) (by intro x hx; simp only [List.mem_cons, List.not_mem_nil, or_false] at hx; rcases hx with rfl | rfl | rfl | rfl <;> simp) ?_
 intro _
 rw [fk2.1, fk2.2.1, fk2.2.2]
 refine q_ 1 rfl<|g_<|c_<|d_<|a_<|q_ 1 rfl<|t_ (jo_ (h := z1.1) (q := z0.1) (bm := z1.2.1) (n := 4) (av := z1.2.2.1) (cm := fM2) (view := 0) (by show ([0, 1] : List Int).Nodup; decide) (by show 2 ≤ 1000; decide) (by decide)) Casts.refl (by kernel_rfl) rfl rfl rfl ?_
 refine bF_ [.blk z1.1 92 [.ifc 34 (ptr z0.1), int (4 : Nat), mapV z1.2.1, .v z1.2.2.1], own 93 1 z1.2.2.1 ((newTls z1.2.2.2.1).map fun x => [ptr x.t]), .pc (tlsP (newTls z1.2.2.2.1)), .blk z0.1 86 [mapV z0.2.1, mapV z0.2.2], .pc (mapPc z0.2.1 Value.string cntV sOk fD2), .pc (mapPc z0.2.2 Value.string cntV sOk [])] (by rw [List.perm_iff_count]; intro a; simp [mids, It.mids, List.count_append, List.count_cons]; try omega) (by intro x hx; simp only [List.mem_cons, List.not_mem_nil, or_false] at hx; rcases hx with rfl | rfl <;> first | exact .inl ⟨by simp, rfl⟩ | exact .inr ⟨_, List.mem_cons_self, rfl⟩ | exact .inr ⟨_, (List.mem_cons_of_mem _ List.mem_cons_self), rfl⟩ | exact .inr ⟨_, (List.mem_cons_of_mem _ (List.mem_cons_of_mem _ List.mem_cons_self)), rfl⟩ | exact .inr ⟨_, (List.mem_cons_of_mem _ (List.mem_cons_of_mem _ (List.mem_cons_of_mem _ List.mem_cons_self))), rfl⟩ | exact .inr ⟨_, (List.mem_cons_of_mem _ (List.mem_cons_of_mem _ (List.mem_cons_of_mem _ (List.mem_cons_of_mem _ List.mem_cons_self)))), rfl⟩ | exact .inr ⟨_, (List.mem_cons_of_mem _ (List.mem_cons_of_mem _ (List.mem_cons_of_mem _ (List.mem_cons_of_mem _ (List.mem_cons_of_mem _ List.mem_cons_self))))), rfl⟩) (by intro x hx; simp only [List.mem_cons, List.not_mem_nil, or_false] at hx; rcases hx with rfl | rfl | rfl | rfl | rfl | rfl <;> simp) ?_
 intro _
 rw [fj2]
 refine q_ 2 rfl<|b_ (y_ (C := boo true) (aM_ rfl rfl) rfl) rfl rfl<|q_ 2 rfl<|g_<|c_<|d_<|a_<|q_ 1 rfl<|b_ (y_ (C := boo true) (aD_ rfl rfl) rfl) rfl rfl<|q_ 2 rfl<|b_ (y_ (C := boo true) (aD_ rfl rfl) rfl) rfl rfl<|q_ 3 rfl<|b_ (fF_ rfl) rfl rfl<|q_ 6 rfl<|b_ (y_ (C := boo true) (aD_ rfl rfl) rfl) rfl rfl<|q_ 3 rfl<|t_ (afrom_s (h := z1.1) (q := z0.1) (bm := z1.2.1) (n := 4) (av := z1.2.2.1) (cm := fM2) (view := 3) (by show ([0, 1] : List Int).Nodup; decide) (by show 2 ≤ 1000; decide)) Casts.refl (by kernel_rfl) rfl rfl rfl ?_
 refine bF_ [.blk z1.1 92 [.ifc 34 (ptr z0.1), int (4 : Nat), mapV z1.2.1, .v z1.2.2.1], own 93 1 z1.2.2.1 ((newTls z1.2.2.2.1).map fun x => [ptr x.t]), .pc (tlsP (newTls z1.2.2.2.1)), .blk z0.1 86 [mapV z0.2.1, mapV z0.2.2], .pc (mapPc z0.2.1 Value.string cntV sOk fD2), .pc (mapPc z0.2.2 Value.string cntV sOk [])] (by rw [List.perm_iff_count]; intro a; simp [mids, It.mids, List.count_append, List.count_cons]; try omega) (by intro x hx; simp only [List.mem_cons, List.not_mem_nil, or_false] at hx; rcases hx with rfl | rfl <;> first | exact .inl ⟨by simp, rfl⟩ | exact .inr ⟨_, List.mem_cons_self, rfl⟩ | exact .inr ⟨_, (List.mem_cons_of_mem _ List.mem_cons_self), rfl⟩ | exact .inr ⟨_, (List.mem_cons_of_mem _ (List.mem_cons_of_mem _ List.mem_cons_self)), rfl⟩ | exact .inr ⟨_, (List.mem_cons_of_mem _ (List.mem_cons_of_mem _ (List.mem_cons_of_mem _ List.mem_cons_self))), rfl⟩ | exact .inr ⟨_, (List.mem_cons_of_mem _ (List.mem_cons_of_mem _ (List.mem_cons_of_mem _ (List.mem_cons_of_mem _ List.mem_cons_self)))), rfl⟩ | exact .inr ⟨_, (List.mem_cons_of_mem _ (List.mem_cons_of_mem _ (List.mem_cons_of_mem _ (List.mem_cons_of_mem _ (List.mem_cons_of_mem _ List.mem_cons_self))))), rfl⟩) (by intro x hx; simp only [List.mem_cons, List.not_mem_nil, or_false] at hx; rcases hx with rfl | rfl | rfl | rfl | rfl | rfl <;> simp) ?_
 intro _
 rw [fv3]
 refine b_ (y_ (C := boo true) (aD_ rfl rfl) rfl) rfl rfl<|q_ 3 rfl<|b_ (y_ (C := .agg p0.abs) (L_ tabOk rfl rfl rfl rfl) rfl) rfl rfl<|e_ (ax_ tabOk Tryz.underlying23 rfl rfl rfl (ct_ (Pnt.size _)) rfl rfl rfl) rfl rfl<|b_ (L_ tabOk rfl rfl rfl rfl) rfl rfl<|t_ (fw_ (h := z1.1) (q := z0.1) (bd := z0.2.1) (bt := z0.2.2) (bm := z1.2.1) (n := 4) (av := z1.2.2.1) (D := fD2) (cm := fM2) (who := 0) (g := fB) fB_in (by simp only [InR, lo, hi]; omega) fD2_num (by have := fD2_len; omega)) (Casts.keep (Casts.keep (Casts.cons (bO_ (Casts.keep (Casts.keep (Casts.keep (Casts.nils (s := 3) (Casts.nils (s := 3) Casts.refl)))))) Casts.refl))) (by kernel_rfl) rfl rfl rfl ?_
 refine bF_ [.blk z1.1 92 [.ifc 34 (ptr z0.1), int (4 : Nat), mapV z1.2.1, .v z1.2.2.1], own 93 1 z1.2.2.1 ((newTls z1.2.2.2.1).map fun x => [ptr x.t]), .pc (tlsP (newTls z1.2.2.2.1)), .pc (mapPc z0.2.2 Value.string cntV sOk [])] (by rw [List.perm_iff_count]; intro a; simp [mids, It.mids, List.count_append, List.count_cons]; try omega) (by intro x hx; simp only [List.mem_cons, List.not_mem_nil, or_false] at hx; rcases hx with rfl | rfl | rfl | rfl <;> first | exact .inl ⟨by simp, rfl⟩ | exact .inr ⟨_, List.mem_cons_self, rfl⟩ | exact .inr ⟨_, (List.mem_cons_of_mem _ List.mem_cons_self), rfl⟩ | exact .inr ⟨_, (List.mem_cons_of_mem _ (List.mem_cons_of_mem _ List.mem_cons_self)), rfl⟩ | exact .inr ⟨_, (List.mem_cons_of_mem _ (List.mem_cons_of_mem _ (List.mem_cons_of_mem _ List.mem_cons_self))), rfl⟩) (by intro x hx; simp only [List.mem_cons, List.not_mem_nil, or_false] at hx; rcases hx with rfl | rfl | rfl | rfl <;> simp) ?_
 intro _
 rw [fk3.1, fk3.2.1, fk3.2.2]
 exact b_ (y_ (C := boo true) (aD_ rfl rfl) rfl) rfl rfl<|q_ 2 rfl<|g_<|c_<|n_<|f_ (rs := [.tmp 0]) rfl (RV.tmp rfl RV.nil) (()) sn_<|rfl
section
variable {D : List (ByteArray × Nat)} {c d : Chg} {k j : ByteArray}
def Knows (D : List (ByteArray × Nat)) (c : Chg) : Prop := (aget D (dKey c.bytes)).isSome = true
theorem pl_keep2 (h : (aget D j).isSome = true) : (aget (pm D k) j).isSome = true ∧ pl (pm D k) j = pl D j := by
  unfold pm
  split
  · exact ⟨h, rfl⟩
  · next hk =>
    have hjk : j ≠ k := fun e => hk (by rw [← e]; exact h)
    have h2 : aget (aput D k (D.length + 1)) j = aget D j := by rw [a1_, if_neg hjk]
    obtain ⟨v, hv⟩ := Option.isSome_iff_exists.1 h
    refine ⟨by rw [h2]; exact h, ?_⟩
    unfold pl
    rw [h2, hv]
    rfl
theorem pm_self : (aget (pm D k) k).isSome = true := by
  unfold pm
  split
  · next h => exact h
  · rw [a1_, if_pos rfl]; rfl
theorem Knows.put (h : Knows D c) (k : ByteArray) : Knows (pm D k) c ∧ sdOf (pm D k) c = sdOf D c := by
  obtain ⟨h1, h2⟩ := pl_keep2 (k := k) h
  exact ⟨h1, Sd.same rfl (by show numB 102 _ = numB 102 _; rw [h2])⟩
theorem eU_ : Knows (pm D (dKey c.bytes)) c := pm_self
theorem fR_ : sdOf (pm D (dKey c.bytes)) c = sdOf D c := by
  by_cases h : Knows D c
  · exact (h.put _).2
  · refine Sd.same rfl ?_
    show numB 102 _ = numB 102 _
    congr 1
    have h1 : aget D (dKey c.bytes) = none := by simpa [Knows] using h
    unfold pl
    rw [iG_ h1, a1_, if_pos rfl, h1]
    rfl
theorem hl_ (h : Knows D c) : pm D (dKey c.bytes) = D := iF_ (fun h2 => by unfold Knows at h; rw [h2] at h; cases h)
theorem sd_bytes (hn : Num1 D) (hl : D.length < 1000000) (h1 : Knows D c) (h2 : Knows D d) (e : sdOf D c = sdOf D d) : c.bytes = d.bytes := by
  have e1 : numB 102 (pl D (dKey c.bytes)) = numB 102 (pl D (dKey d.bytes)) := congrArg Sd.dig e
  have p1 := hn.pl_le (dKey c.bytes)
  have p2 := hn.pl_le (dKey d.bytes)
  have e2 := (numB_inj (by decide) (by decide) (by omega) (by omega) e1).2
  obtain ⟨v, hv⟩ := Option.isSome_iff_exists.1 h1
  obtain ⟨u, hu⟩ := Option.isSome_iff_exists.1 h2
  have q1 : pl D (dKey c.bytes) = v := by unfold pl; rw [hv]; rfl
  have q2 : pl D (dKey d.bytes) = u := by unfold pl; rw [hu]; rfl
  have : v = u := by omega
  subst this
  exact dKey_inj (hn.inj _ _ v hv hu)
theorem jg_ {n : Int} (hc : CIn c) (hd : CIn d) (h1 : c.check n = 0) (h2 : d.check n = 0) (h : c.bytes = d.bytes) : c = d := by
  have e1 := cI_ hc.lits h1 (Nat.lt_of_le_of_lt hc.len (by decide))
  have e2 := cI_ hd.lits h2 (Nat.lt_of_le_of_lt hd.len (by decide))
  rw [h, e2] at e1
  exact (congrArg Prod.fst e1).symm
end
/-! ### acks -/
section
variable {n b : Nat} {S : List Int} {said : List Chg} {D : List (ByteArray × Nat)} {L L1 L2 : List Tl} {who seq : Int} {k : Sd} {x : Tl}
structure TlsOk (n b : Nat) (L : List Tl) : Prop where
  len : L.length = n
  ok : ∀ x ∈ L, TlOk x
  few : ∀ x ∈ L, x.m.length ≤ b
theorem g2_ : (ackL n L who seq k).length = L.length := by
  unfold ackL
  split
  · split
    · rfl
    · rw [List.length_set]
  · rfl
theorem fA_ (i : Nat) : (ackL n L who seq k)[i]? = if i = seq.toNat ∧ ackE n L who seq k = 0 then (L[i]?).map (·.ack who k) else L[i]? := by
  unfold ackL
  by_cases h0 : ackE n L who seq k = 0
  · rw [if_pos h0]
    cases hx : L[seq.toNat]? with
    | none =>
      show L[i]? = _
      by_cases hi : i = seq.toNat
      · rw [if_pos ⟨hi, h0⟩, hi, hx]; rfl
      · rw [if_neg (fun h => hi h.1)]
    | some x =>
      by_cases hi : i = seq.toNat
      · rw [if_pos ⟨hi, h0⟩, hi, hx]
        show (L.set seq.toNat (x.ack who k))[seq.toNat]? = some (x.ack who k)
        rw [List.getElem?_set_self (List.getElem?_eq_some_iff.1 hx).1]
      · rw [if_neg (fun h => hi h.1)]
        show (L.set seq.toNat (x.ack who k))[i]? = L[i]?
        rw [List.getElem?_set_ne (fun h => hi h.symm)]
  · rw [if_neg h0, if_neg (fun h => h0 h.2)]
theorem hH_ {y : Tl} (h : y ∈ ackL n L who seq k) : y ∈ L ∨ ∃ x ∈ L, y = x.ack who k := by
  obtain ⟨i, hi⟩ := List.mem_iff_getElem?.1 h
  rw [fA_] at hi
  split at hi
  · cases hx : L[i]? with
    | none => rw [hx] at hi; cases hi
    | some x => rw [hx] at hi; exact .inr ⟨x, List.mem_of_getElem? hx, (Option.some.inj hi).symm⟩
  · exact .inl (List.mem_of_getElem? hi)
theorem TlsOk.ack (h : TlsOk n b L) (hb : b < 1000) (hk : sdOk k) : TlsOk n (b + 1) (ackL n L who seq k) where
  len := by rw [g2_]; exact h.len
  ok := fun y hy => by
    rcases hH_ hy with h1 | ⟨x, hx, rfl⟩
    · exact h.ok y h1
    · have hx1 := h.ok x hx
      refine ⟨hx1.ti.chg who k, ?_, fun w v hv => ?_⟩
      · have h2 := h.few x hx
        have h3 := b2_ x.m who k
        show (aput x.m who k).length ≤ 1000
        omega
      · have hv : aget (aput x.m who k) w = some v := hv
        rw [a1_] at hv
        split at hv
        · rw [← Option.some.inj hv]; exact hk
        · exact hx1.ok w v hv
  few := fun y hy => by
    rcases hH_ hy with h1 | ⟨x, hx, rfl⟩
    · exact Nat.le_trans (h.few y h1) (by omega)
    · have h2 := h.few x hx
      have h3 := b2_ x.m who k
      show (aput x.m who k).length ≤ b + 1
      omega
def ackOf (L : List Tl) (i : Nat) (who : Int) : Option Sd := (L[i]?).bind fun x => aget x.m who
theorem ca_ (i : Nat) (w : Int) : ackOf (ackL n L who seq k) i w = if i = seq.toNat ∧ w = who ∧ ackE n L who seq k = 0 ∧ i < L.length then some k else ackOf L i w := by
  unfold ackOf
  rw [fA_]
  by_cases h : i = seq.toNat ∧ ackE n L who seq k = 0
  · rw [if_pos h]
    cases hx : L[i]? with
    | none =>
      rw [if_neg]
      · rfl
      · intro h2
        rw [List.getElem?_eq_getElem h2.2.2.2] at hx
        cases hx
    | some x =>
      have hl := (List.getElem?_eq_some_iff.1 hx).1
      show aget (aput x.m who k) w = _
      rw [a1_]
      by_cases hw : w = who
      · rw [if_pos hw, if_pos ⟨h.1, hw, h.2, hl⟩]
      · rw [if_neg hw, if_neg (fun h2 => hw h2.2.1)]
        rfl
  · rw [if_neg h, if_neg (fun h2 => h ⟨h2.1, h2.2.2.1⟩)]
structure Two (n : Nat) (S : List Int) (said : List Chg) (D : List (ByteArray × Nat)) (L1 L2 : List Tl) : Prop where
  same : ∀ i who, who ∉ S → ackOf L1 i who = ackOf L2 i who
  said_ : ∀ i who s, who ∉ S → ackOf L1 i who = some s → ∃ h : i < said.length, Knows D said[i] ∧ s = sdOf D said[i]
theorem Two.put (h : Two n S said D L1 L2) (j : ByteArray) : Two n S said (pm D j) L1 L2 := ⟨h.same, fun i who s hw hs => by
  obtain ⟨h1, h2, h3⟩ := h.said_ i who s hw hs
  exact ⟨h1, (h2.put j).1, by rw [h3, (h2.put j).2]⟩⟩
theorem Two.lie1 (h : Two n S said D L1 L2) (hw : who ∈ S) : Two n S said D (ackL n L1 who seq k) L2 := ⟨fun i w hn => by
  rw [ca_, if_neg (by rintro ⟨_, rfl, _⟩; exact hn hw)]
  exact h.same i w hn, fun i w s hn hs => by
  rw [ca_, if_neg (by rintro ⟨_, rfl, _⟩; exact hn hw)] at hs
  exact h.said_ i w s hn hs⟩
theorem Two.lie2 (h : Two n S said D L1 L2) (hw : who ∈ S) : Two n S said D L1 (ackL n L2 who seq k) := ⟨fun i w hn => by
  rw [ca_, if_neg (by rintro ⟨_, rfl, _⟩; exact hn hw)]
  exact h.same i w hn, h.said_⟩
theorem jt_ (h1 : L1.length = L2.length) (h : ackOf L1 seq.toNat who = ackOf L2 seq.toNat who) : ackE n L1 who seq k = ackE n L2 who seq k := by
  unfold ackE
  split
  · rfl
  · unfold ackOf at h
    cases hx : L1[seq.toNat]? with
    | none =>
      have : L2[seq.toNat]? = none := by rw [List.getElem?_eq_none_iff] at hx ⊢; omega
      rw [this]
    | some x =>
      have hl := (List.getElem?_eq_some_iff.1 hx).1
      have hy : L2[seq.toNat]? = some (L2[seq.toNat]'(by omega)) := List.getElem?_eq_getElem _
      rw [hy]
      rw [hx, hy] at h
      have h : aget x.m who = aget (L2[seq.toNat]'(by omega)).m who := h
      dsimp only
      rw [h]
theorem Two.ack (h : Two n S said D L1 L2) (h1 : L1.length = L2.length) (hs : 0 ≤ seq) {c : Chg} (hc : said[seq.toNat]? = some c) (hk : Knows D c) : Two n S said D (ackL n L1 who seq (sdOf D c)) (ackL n L2 who seq (sdOf D c)) := by
  by_cases hw : who ∈ S
  · exact (h.lie1 hw).lie2 hw
  have hE := jt_ (k := sdOf D c) (n := n) h1 (h.same seq.toNat who hw)
  obtain ⟨hl, hce⟩ := List.getElem?_eq_some_iff.1 hc
  refine ⟨fun i w hn => ?_, fun i w s hn hs2 => ?_⟩
  · rw [ca_, ca_, hE, h1]
    split
    · rfl
    · exact h.same i w hn
  · rw [ca_] at hs2
    split at hs2
    · next h2 =>
      obtain ⟨rfl, _⟩ := h2
      refine ⟨hl, ?_⟩
      rw [hce]
      exact ⟨hk, (Option.some.inj hs2).symm⟩
    · exact h.said_ i w s hn hs2
end
/-! ### how many -/
theorem dV_ : ∀ {l S : List Int}, l.Nodup → (∀ a ∈ l, a ∈ S) → l.length ≤ S.length
  | [], S, _, _ => Nat.zero_le _
  | a :: l, S, hn, h => by
    rw [List.nodup_cons] at hn
    have ha := h a List.mem_cons_self
    have h2 := dV_ (l := l) (S := S.erase a) hn.2 fun b hb => (List.mem_erase_of_ne (show b ≠ a from fun e => hn.1 (by rw [← e]; exact hb))).2 (h b (List.mem_cons_of_mem _ hb))
    rw [List.length_erase_of_mem ha] at h2
    have h3 := List.length_pos_of_mem ha
    rw [List.length_cons]
    omega
theorem ht_ {γ : Type} : ∀ {m : List (Int × γ)} {a : Int} {v : γ}, (m.map (·.1)).Nodup → (a, v) ∈ m → aget m a = some v
  | e :: m, a, v, hn, h => by
    rw [List.map_cons, List.nodup_cons] at hn
    unfold aget
    rw [List.find?_cons]
    rcases List.mem_cons.1 h with h2 | h2
    · subst h2; simp
    · have h3 : ¬ e.1 = a := fun h4 => hn.1 (h4 ▸ List.mem_map.2 ⟨_, h2, rfl⟩)
      have h5 := ht_ hn.2 h2
      unfold aget at h5
      simp only [h3, decide_false]
      exact h5
section
variable {n : Nat} {S : List Int} {said : List Chg} {D : List (ByteArray × Nat)} {L L1 L2 : List Tl} {who : Int} {v : Sd} {m m2 : List (Int × Sd)} {i : Nat} {other : Chg}
theorem jb_ (q : Int → Bool) : cnt m v = ((m.filter fun p => decide (p.2 = v)).filter fun p => q p.1).length + ((m.filter fun p => decide (p.2 = v)).filter fun p => !q p.1).length := by
  unfold cnt
  induction m.filter fun p => decide (p.2 = v) with
  | nil => rfl
  | cons e l ih =>
    rw [List.filter_cons, List.filter_cons]
    cases q e.1 <;> simp <;> omega
theorem gS_ (hn : (m.map (·.1)).Nodup) (q : Int → Bool) : (((m.filter fun p => decide (p.2 = v)).filter fun p => q p.1).map (·.1)).Nodup ∧ ∀ a ∈ ((m.filter fun p => decide (p.2 = v)).filter fun p => q p.1).map (·.1), q a = true ∧ aget m a = some v := by
  refine ⟨hn.sublist ((List.filter_sublist.trans List.filter_sublist).map _), fun a ha => ?_⟩
  obtain ⟨p, hp, rfl⟩ := List.mem_map.1 ha
  have h1 := List.mem_filter.1 hp
  have h2 := List.mem_filter.1 h1.1
  have h3 : p.2 = v := by simpa using h2.2
  exact ⟨h1.2, ht_ hn (by rw [← h3]; exact h2.1)⟩
theorem cnt_few (hn : (m.map (·.1)).Nodup) (h : ∀ w, aget m w = some v → w ∈ S) : cnt m v ≤ S.length := by
  obtain ⟨h1, h2⟩ := gS_ (v := v) hn fun _ => true
  have h3 := dV_ h1 fun a ha => h a (h2 a ha).2
  rw [List.length_map, List.filter_eq_self.2 (fun _ _ => rfl)] at h3
  exact h3
theorem cnt_both (hn : (m.map (·.1)).Nodup) (h : ∀ w, w ∉ S → aget m w = some v → aget m2 w = some v) : cnt m v ≤ S.length + cnt m2 v := by
  rw [jb_ (m := m) (v := v) fun w => decide (w ∈ S)]
  obtain ⟨h1, h2⟩ := gS_ (v := v) hn fun w => decide (w ∈ S)
  obtain ⟨h3, h4⟩ := gS_ (v := v) hn fun w => !decide (w ∈ S)
  have h5 := dV_ h1 fun a ha => of_decide_eq_true (h2 a ha).1
  have h6 := dV_ (S := (m2.filter fun p => decide (p.2 = v)).map (·.1)) h3 fun a ha => by
    obtain ⟨h7, h8⟩ := h4 a ha
    have h9 := g1_ (h a (by simpa using h7) h8)
    exact List.mem_map.2 ⟨_, List.mem_filter.2 ⟨h9, by simp⟩, rfl⟩
  rw [List.length_map] at h5 h6
  rw [List.length_map] at h6
  unfold cnt
  omega
theorem e9_ (hL : ∀ x ∈ L, TlOk x) (hl : L.length = n) (hi : i < n) : votesN n L (i : Int) v = cnt (L[i]'(by omega)).m v := by
  unfold votesN
  rw [if_pos (by omega), Int.toNat_natCast, List.getElem?_eq_getElem (by omega)]
  exact (hL _ (List.getElem_mem _)).ti.num v
theorem fz_ (hi : i < L.length) : ackOf L i who = aget (L[i]).m who := by
  unfold ackOf
  rw [List.getElem?_eq_getElem hi]
  rfl
theorem Two.swap (h : Two n S said D L1 L2) : Two n S said D L2 L1 := ⟨fun i w hw => (h.same i w hw).symm, fun i w s hw hs => h.said_ i w s hw (by rw [h.same i w hw]; exact hs)⟩
theorem Two.few (h : Two n S said D L1 L2) (hn : Num1 D) (hl : D.length + 1 < 1000000) (ok : ∀ x ∈ L1, TlOk x) (hL : L1.length = n) (hi : i < n) (hc : ∀ c ∈ said, CIn c ∧ c.check n = 0) (ho : CIn other) (ho2 : other.check n = 0) (hne : ∀ h : i < said.length, said[i] ≠ other) : votesN n L1 (i : Int) (sdOf D other) ≤ S.length := by
  rw [e9_ ok hL hi]
  refine cnt_few (ok _ (List.getElem_mem _)).ti.nd fun w hw => Classical.byContradiction fun hns => ?_
  have h2 := h.put (dKey other.bytes)
  rw [← fR_] at hw
  obtain ⟨h3, h4, h5⟩ := h2.said_ i w _ hns (by rw [fz_ (by omega)]; exact hw)
  have hlen := ae_ D (dKey other.bytes)
  have h6 := sd_bytes (hn.put _) (by omega) eU_ h4 h5
  have hm := hc _ (List.getElem_mem h3)
  exact hne h3 (jg_ ho hm.1 ho2 hm.2 h6).symm
theorem Two.most (h : Two n S said D L1 L2) (ok : ∀ x ∈ L1, TlOk x) (ok2 : ∀ x ∈ L2, TlOk x) (hL : L1.length = n) (hL2 : L2.length = n) (hi : i < n) : votesN n L1 (i : Int) v ≤ S.length + votesN n L2 (i : Int) v := by
  rw [e9_ ok hL hi, e9_ ok2 hL2 hi]
  refine cnt_both (ok _ (List.getElem_mem _)).ti.nd fun w hw hs => ?_
  rw [← fz_ (by omega), ← h.same i w hw, fz_ (by omega)]
  exact hs
end
section
variable {n z : Nat} {S : List Int} {said : List Chg} {D : List (ByteArray × Nat)} {cm : List (Int × Kp)} {L1 L2 : List Tl} {other c : Chg} {i : Nat} {view : Int} {s : Sgn}
theorem mkKp_put (h : Knows D c) (j : ByteArray) : mkKp (pm D j) c = mkKp D c := by
  have h2 : numB 102 (pl (pm D j) (dKey c.bytes)) = numB 102 (pl D (dKey c.bytes)) := congrArg Sd.dig (h.put j).2
  unfold mkKp
  simp only [h2]
theorem iO_ : mkKp (pm D (dKey c.bytes)) c = mkKp D c := by
  have h2 : numB 102 (pl (pm D (dKey c.bytes)) (dKey c.bytes)) = numB 102 (pl D (dKey c.bytes)) := congrArg Sd.dig (fR_ (D := D) (c := c))
  unfold mkKp
  simp only [h2]
structure SaidIn (n z : Nat) (said : List Chg) (D : List (ByteArray × Nat)) (cm : List (Int × Kp)) : Prop where
  at_ : ∀ i : Int, aget cm i = if 0 ≤ i ∧ i < z then (said[i.toNat]?).map (mkKp D) else none
  nd : (cm.map (·.1)).Nodup
  len : cm.length ≤ z
  know : ∀ j (h : j < said.length), j < z → Knows D said[j] ∧ CIn said[j] ∧ said[j].check n = 0
theorem SaidIn.start : SaidIn n 0 said D [] := ⟨fun i => by rw [if_neg (by omega)]; rfl, List.nodup_nil, Nat.le_refl _, fun j h h2 => by omega⟩
theorem SaidIn.put (h : SaidIn n z said D cm) (j : ByteArray) : SaidIn n z said (pm D j) cm := ⟨fun i => by
  rw [h.at_]
  split
  · next hi =>
    cases hx : said[i.toNat]? with
    | none => rfl
    | some c =>
      obtain ⟨h1, h2⟩ := List.getElem?_eq_some_iff.1 hx
      have h3 := (h.know i.toNat h1 (by omega)).1
      rw [h2] at h3
      show some (mkKp D c) = some (mkKp (pm D j) c)
      rw [mkKp_put h3]
  · rfl, h.nd, h.len, fun q hq hz => let ⟨h1, h2⟩ := h.know q hq hz; ⟨(h1.put j).1, h2⟩⟩
theorem SaidIn.kok (h : SaidIn n z said D cm) : KOk n cm := fun who v hv => by
  rw [h.at_] at hv
  split at hv
  · next hi =>
    cases hx : said[who.toNat]? with
    | none => rw [hx] at hv; cases hv
    | some c =>
      rw [hx] at hv
      obtain ⟨h1, h2⟩ := List.getElem?_eq_some_iff.1 hx
      have h3 := (h.know who.toNat h1 (by omega)).2
      rw [h2] at h3
      rw [← Option.some.inj hv]
      exact h3
  · cases hv
theorem SaidIn.step (h : SaidIn n z said D cm) (hz : z < said.length) (hzn : z < n) (hc : CIn said[z]) (h0 : said[z].check n = 0) : (takeCm n D cm (z : Int) said[z] = aput cm (z : Int) (mkKp D said[z]) ∧ takeD n D cm (z : Int) said[z] = pm D (dKey said[z].bytes)) ∧ SaidIn n (z + 1) said (pm D (dKey said[z].bytes)) (aput cm (z : Int) (mkKp D said[z])) := by
  have hnone : aget cm (z : Int) = none := by rw [h.at_, if_neg (by omega)]
  have ht := cy_ (D := D) (c2_ (n := n) (cm := cm) (who := (z : Int)) (by omega) h0 hnone)
  refine ⟨⟨ht.1, ht.2.1⟩, ?_⟩
  have hp := h.put (dKey said[z].bytes)
  refine ⟨fun i => ?_, b9_ h.nd _ _, ?_, fun q hq hz2 => ?_⟩
  · rw [a1_]
    by_cases hi : i = (z : Int)
    · rw [if_pos hi, if_pos (by omega), hi, Int.toNat_natCast, List.getElem?_eq_getElem hz]
      show some _ = some _
      rw [iO_]
    · rw [if_neg hi, hp.at_]
      by_cases h2 : 0 ≤ i ∧ i < (z : Int)
      · rw [if_pos h2, if_pos (by omega)]
      · rw [if_neg h2, if_neg (by omega)]
  · have := b2_ cm (z : Int) (mkKp D said[z])
    have := h.len
    omega
  · by_cases h2 : q = z
    · subst h2; exact ⟨eU_, hc, h0⟩
    · exact hp.know q hq (by omega)
theorem SaidIn.full (h : SaidIn n said.length said D cm) (i : Nat) : aget cm (i : Int) = (said[i]?).map (mkKp D) := by
  rw [h.at_]
  split
  · rw [Int.toNat_natCast]
  · next hi => rw [List.getElem?_eq_none (by omega)]; rfl
theorem eL_ (hs : SaidIn n said.length said D cm) (h : Two n S said D L1 L2) (hn : Num1 D) (hl : D.length + 1 < 1000000) (ok : TlsOk n z L1) (hi : i < n) (ho : CIn other) (ho2 : other.check n = 0) (hne : ∀ h : i < said.length, said[i] ≠ other) (hS : (S.length : Int) ≤ (max (n : Int) 1 - 1) / 3) : realB D n cm L1 ⟨(i : Int), other⟩ = false := by
  have h1 : sameK cm ⟨(i : Int), other⟩ = false := by
    unfold sameK keptC
    dsimp only
    rw [hs.full]
    cases hx : said[i]? with
    | none => rfl
    | some c =>
      obtain ⟨h2, h3⟩ := List.getElem?_eq_some_iff.1 hx
      rw [show ((some c).map (mkKp D)).isSome = true from rfl, Bool.true_and, cm_]
      intro h4
      exact hne h2 (by rw [h3]; exact h4)
  have h2 := h.few hn hl ok.ok ok.len hi (fun c hc => by
    obtain ⟨j, hj, rfl⟩ := List.getElem_of_mem hc
    exact (hs.know j hj hj).2) ho ho2 hne
  unfold realB
  rw [h1, Bool.false_or, decide_eq_false_iff_not]
  dsimp only
  omega
theorem eK_ (hs : SaidIn n said.length said D cm) (h : Two n S said D L1 L2) (hn : Num1 D) (hl : D.length + 1 < 1000000) (ok : TlsOk n z L2) (hi : i < n) (ho : CIn other) (ho2 : other.check n = 0) (hne : ∀ h : i < said.length, said[i] ≠ other) (hS : (S.length : Int) ≤ (max (n : Int) 1 - 1) / 3) : realB D n [] L2 ⟨(i : Int), other⟩ = false := by
  have h2 := h.swap.few hn hl ok.ok ok.len hi (fun c hc => by
    obtain ⟨j, hj, rfl⟩ := List.getElem_of_mem hc
    exact (hs.know j hj hj).2) ho ho2 hne
  unfold realB
  rw [show sameK [] ⟨(i : Int), other⟩ = false from rfl, Bool.false_or, decide_eq_false_iff_not]
  dsimp only
  omega
theorem jj_ {z2 : Nat} (hs : SaidIn n said.length said D cm) (h : Two n S said D L1 L2) (ok : TlsOk n z L1) (ok2 : TlsOk n z2 L2) (hS : (S.length : Int) ≤ (max (n : Int) 1 - 1) / 3) (hm : s ∈ certTo n cm L1 view n) : realB D n [] L2 s = true ∧ CIn s.chg ∧ 0 ≤ s.who ∧ s.who < n := by
  unfold certTo at hm
  obtain ⟨i, hi, hc⟩ := List.mem_filterMap.1 hm
  have hin := List.mem_range.1 hi
  unfold certOk at hc
  cases hk : aget cm (i : Int) with
  | none => rw [hk] at hc; cases hc
  | some k =>
    rw [hk] at hc
    dsimp only at hc
    split at hc
    · next hv =>
      have hs2 := Option.some.inj hc
      subst hs2
      have hkok := hs.kok _ _ hk
      refine ⟨?_, hkok.1, by show (0 : Int) ≤ (i : Int); omega, by show ((i : Nat) : Int) < n; omega⟩
      have h1 : aget cm (i : Int) = (said[i]?).map (mkKp D) := hs.full i
      rw [hk] at h1
      obtain ⟨c, hcs, hkc⟩ := Option.map_eq_some_iff.1 h1.symm
      have e1 : (⟨view, k.dig, k.len⟩ : Sd) = sdOf D k.c := by
        rw [← hkc]
        refine Sd.same ?_ rfl
        show view = c.view
        rw [← hv.1, ← hkc]
        rfl
      have h2 := h.most (v := sdOf D k.c) ok.ok ok2.ok ok.len ok2.len hin
      have h3 := hv.2
      rw [e1] at h3
      unfold realB
      rw [Bool.or_eq_true]
      refine .inr (decide_eq_true ?_)
      dsimp only
      omega
    · cases hc
end
inductive Rem_ (y : It) : Blks → Blks → Prop
  | here {σ : Blks} : Rem_ y (y :: σ) σ
  | there {z : It} {σ τ : Blks} (h : Rem_ y σ τ) : Rem_ y (z :: σ) (z :: τ)
theorem Rem_.perm {y : It} {σ τ : Blks} (h : Rem_ y σ τ) : (y :: τ).Perm σ := by
  induction h with
  | here => exact List.Perm.refl _
  | there h ih => exact (List.Perm.swap _ _ _).trans (ih.cons _)
theorem pk_ {y : It} {ys σ τ : Blks} (h : Rem_ y σ τ) (k : ys.Perm τ) : (y :: ys).Perm σ := (k.cons y).trans h.perm
theorem X_ {ι : Type} {σ σ1 : Blks} {τ' : ι → Blks} {K : Blks → ι → Prop} (φ : Blks) (ν : ι → Blks) (hp : (mids σ1 ++ mids φ).Perm (mids σ)) (hs : ∀ x ∈ σ1, (x ∈ σ ∧ x.rids = []) ∨ ∃ y ∈ φ, x = y.toRd) (hr : ∀ x ∈ φ, x ∈ σ) (hν : ∀ z, (ν z).Perm (τ' z ++ φ)) (k : ∀ z, K (ν z) z) : After σ σ1 τ' K := ⟨φ, ⟨hp, hs, hr⟩, fun z => ⟨_, hν z, k z⟩⟩
def kfA (f : UInt8) : Nat := 1 + f.toNat % 2
theorem kfA_in {f : UInt8} : 1 ≤ kfA f ∧ kfA f ≤ 2 := by unfold kfA; omega
structure AAc where
  kind : Int
  from_ : Int
  of_ : Int
  chg : Chg
  k : Sd
  seq : Int
def AAc.abs (a : AAc) : List Abs := int a.kind :: int a.from_ :: int a.of_ :: (a.chg.abs ++ voA a.k a.seq)
theorem AAc.size (a : AAc) : a.abs.length = 42 := by simp [AAc.abs, Chg.abs, voA, digA, a.k.len]
theorem AAc.ones (a : AAc) : ones a.abs = true := by
  rw [bU_]; intro c hc
  simp only [AAc.abs, Chg.abs, voA, List.mem_cons, List.mem_append, List.not_mem_nil, or_false] at hc
  rcases hc with rfl | rfl | rfl | (rfl | rfl | rfl | rfl | rfl) | rfl | rfl | hc
  all_goals first | rfl | (obtain ⟨b, _, rfl⟩ := List.mem_map.1 hc; rfl)
structure AAcIn (a : AAc) : Prop where
  kind : InR .i64 a.kind
  from_ : InR .i64 a.from_
  of_ : InR .i64 a.of_
def lieS2 (n : Nat) (liars : List UInt8) : List Int := liars.map fun w => (w.toNat : Int) % (n : Int)
def lyM (S : List Int) : List (Int × Bool) := S.foldl (fun m w => aput m w true) []
theorem lyM_get (S : List Int) (w : Int) : aget (lyM S) w = if w ∈ S then some true else none := by
  have h : ∀ (S : List Int) (m : List (Int × Bool)), aget (S.foldl (fun m w => aput m w true) m) w = if w ∈ S then some true else aget m w := by
    intro S
    induction S with
    | nil => intro m; simp
    | cons a S ih =>
      intro m
      rw [List.foldl_cons, ih, a1_]
      by_cases h1 : w ∈ S
      · simp [h1]
      · by_cases h2 : w = a <;> simp [h1, h2]
  exact h S []
theorem lyM_snoc (S : List Int) {z : Nat} (h : z < S.length) : lyM (S.take (z + 1)) = aput (lyM (S.take z)) S[z] true := by
  unfold lyM
  rw [List.take_succ_eq_append_getElem h, List.foldl_append]
  rfl
theorem lyM_is (S : List Int) (w : Int) : (boo (decide (w ∈ S))).is (((aget (lyM S) w).map Value.bool).getD (Value.bool false)) := by
  rw [lyM_get]
  by_cases h : w ∈ S
  · rw [if_pos h, decide_eq_true h]; exact is_v
  · rw [if_neg h, decide_eq_false h]; exact is_v
theorem gf_ : ∀ w, (zeroValue 4).run Tryz.prog w = .ok (Value.bool false) w := fun w => by
  kernel_rfl
theorem ai_ {n : Nat} {L : List Tl} {who seq : Int} {k : Sd} : (ackL n L who seq k).map (fun x => [ptr x.t]) = L.map fun x => [ptr x.t] := by
  refine List.ext_getElem? fun i => ?_
  rw [List.getElem?_map, List.getElem?_map, fA_]
  split
  · cases L[i]? <;> rfl
  · rfl
theorem dp_ (zs : List (Nat × Nat × Nat)) (i : Nat) (w : Int) : ackOf (newTls zs) i w = none := by
  unfold ackOf newTls
  rw [List.getElem?_map]
  cases zs[i]? <;> rfl
theorem two_new {n : Nat} {S : List Int} {said : List Chg} {D : List (ByteArray × Nat)} (zs zs2 : List (Nat × Nat × Nat)) : Two n S said D (newTls zs) (newTls zs2) := ⟨fun i w _ => by rw [dp_, dp_], fun i w s _ h => by rw [dp_] at h; cases h⟩
theorem io_ {n : Nat} (zs : List (Nat × Nat × Nat)) (h : zs.length = n) : TlsOk n 0 (newTls zs) := by
  have key : ∀ x ∈ newTls zs, x.m = [] ∧ x.c = [] := fun x hx => by
    obtain ⟨z, _, rfl⟩ := List.mem_map.1 hx
    exact ⟨rfl, rfl⟩
  refine ⟨by rw [ce_, h], fun x hx => ?_, fun x hx => by rw [(key x hx).1]; exact Nat.le_refl _⟩
  obtain ⟨h1, h2⟩ := key x hx
  refine ⟨by rw [h1, h2]; exact TInv.nil, by rw [h1]; exact Nat.zero_le _, fun w v hv => ?_⟩
  rw [h1] at hv
  cases hv
theorem TlsOk.mono {n b b' : Nat} {L : List Tl} (h : TlsOk n b L) (hb : b ≤ b') : TlsOk n b' L := ⟨h.len, h.ok, fun x hx => Nat.le_trans (h.few x hx) hb⟩
theorem ad_ {D : List (ByteArray × Nat)} {c : Chg} (h : c.Lits) : sdOk (sdOf D c) := h.view
theorem dk_ {k : Sd} {seq : Int} {place : Nat → Option (Nat × Nat)} {Z : List Abs} (hZ : Z.length = 34) (h0 : place 0 = some (0, 1)) (h1 : place 1 = some (1, 1)) (h2 : place 2 = some (2, 32)) : fillA place Z [(0, int k.view), (1, int seq), (2, .agg (digA k.dig))] = some (voA k seq) := by
  have hd : (digA k.dig).length = 32 := by simp [digA, k.len]
  match Z, hZ with
  | a :: b :: Z, hZ =>
    have hZ2 : Z.length = 32 := by simpa using hZ
    have p1 : putL (a :: b :: Z) 0 [int k.view] = int k.view :: b :: Z := rfl
    have p2 : putL (int k.view :: b :: Z) 1 [int seq] = int k.view :: int seq :: Z := rfl
    have p3 : putL (int k.view :: int seq :: Z) 2 (digA k.dig) = voA k seq := by
      rw [cq_ _ _ _ (by simp), List.drop_eq_nil_of_le (by simp only [List.length_cons]; omega), List.append_nil]
      rfl
    simp only [fillA, h0, h1, h2, cellsA, p1, p2, p3, hd, hZ2, List.length_cons, List.length_nil]
    rfl
theorem cx_ (k : Sd) (seq : Int) : ones (voA k seq) = true := by
  rw [bU_]; intro a ha
  rcases List.mem_cons.1 ha with rfl | ha
  · rfl
  rcases List.mem_cons.1 ha with rfl | ha
  · rfl
  obtain ⟨b, _, rfl⟩ := List.mem_map.1 ha
  rfl
theorem cs_ {σ τ : Blks} {b : Nat} {t : TypeId} {cs : List Abs} (hn : (mids σ).Nodup) (h : (It.blk b t cs :: τ).Sublist σ) : b ∉ mids τ := (List.nodup_cons.1 (hn.sublist (dW_ h))).1
theorem cd_ {n : Nat} {S : List Int} {said : List Chg} {D : List (ByteArray × Nat)} {L1 L2 : List Tl} {cm : List (Int × Kp)} {s : Sgn} (h : Two n S said D L1 L2) : Two n S said (realD D cm s) L1 L2 := by
  unfold realD
  split
  · exact h
  · exact h.put _
theorem bR_ {n z : Nat} {said : List Chg} {D : List (ByteArray × Nat)} {cm cm2 : List (Int × Kp)} {s : Sgn} (h : SaidIn n z said D cm) : SaidIn n z said (realD D cm2 s) cm := by
  unfold realD
  split
  · exact h
  · exact h.put _
theorem bM_ {D : List (ByteArray × Nat)} {cm : List (Int × Kp)} {s : Sgn} (h : Num1 D) : Num1 (realD D cm s) := by
  unfold realD
  split
  · exact h
  · exact h.put _
theorem bN_ (D : List (ByteArray × Nat)) (cm : List (Int × Kp)) (s : Sgn) : (realD D cm s).length ≤ D.length + 1 := by
  unfold realD
  split
  · omega
  · exact ae_ _ _
theorem gI_ {n : Nat} : KOk n [] := fun who v hv => by cases hv
theorem en_ {n : Nat} {liars : List UInt8} : (lieS2 n liars).length = liars.length := by unfold lieS2; rw [List.length_map]
end Go.Proofs.YtggajaigfkekhaaGreat.A
