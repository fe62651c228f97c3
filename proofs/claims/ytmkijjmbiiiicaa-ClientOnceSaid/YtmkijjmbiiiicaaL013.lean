/-
  Packed out of the texts: L14, AOpenL.
-/
import Derived.Test.YtmkijjmbiiiicaaL012
/-
  Clients: the calls that the document fixes.
-/
set_option maxRecDepth 100000
set_option linter.unusedSimpArgs false
set_option linter.unusedVariables false
namespace Go.Proofs.Ytmkijjmbiiiicaa.A
open Go.RowKit

def s31 : CS := ⟨0, none, [], .slice none 0 0⟩
noncomputable def T31 : List (ByteArray × Nat) := askT [] 4 5 x31
def s31a (z : Nat × Nat × Nat × Nat) : CS := ⟨1, some ⟨x31, askM [] 4 5 x31, [], [], z.1, z.2.1, z.2.2.1, z.2.2.2⟩, [], .slice none 0 0⟩
def s31b (z : Nat × Nat × Nat × Nat) (v : Value) : CS := ⟨1, some ⟨x31, askM [] 4 5 x31, [(0, 0)], [(0, 1)], z.1, z.2.1, z.2.2.1, z.2.2.2⟩, [], v⟩
def s31c (v : Value) : CS := ⟨1, none, [⟨5, 1, 0⟩], v⟩
theorem T31_num : Num1 T31 := tmG_num Num1.nil _ _
theorem T31_len : T31.length ≤ 100 := by
  have h1 := tmG_len (gI 5 (textV 1 (askB x31))) [] (allN 4)
  have h2 := allN_le 4
  simp only [List.length_nil] at h1
  show (tmG _ _ _).length ≤ _
  omega
theorem t31_len (T : List (ByteArray × Nat)) (a : Int) : (t31 T a).length ≤ T.length + 1 := tmG_len _ T [5]
theorem t31_num {T : List (ByteArray × Nat)} (h : Num1 T) (a : Int) : Num1 (t31 T a) := tmG_num h _ _
theorem x31_ins : Core.ins x31 := by
  refine ⟨?_, ?_, ?_, ?_, ?_, by decide, by decide⟩ <;> (simp only [InR, lo, hi, x31]; omega)
section
variable {p q bd bt : Nat} {z : Nat × Nat × Nat × Nat} {v : Value} {T : List (ByteArray × Nat)}
theorem ask31_s : Spec Try.prog 9 [ptr p, coreA x31, .sl 2 []] (clP p q 4 5 s31 ++ hidP q bd bt []) (fun z : Nat × Nat × Nat × Nat => clP p q 4 5 (s31a z) ++ hidP q bd bt T31) (fun _ => .tup [.sl 5 (parcels (askM [] 4 5 x31) (allN 4)), int 0]) := by
  have h := askS_s (p := p) (q := q) (bd := bd) (bt := bt) (n := 4) (id := 5) (s := s31) (x := x31) (T := []) x31_ins x31_ins (by decide) (by decide) Num1.nil (by simp) (by decide)
  have e0 : askSE 4 5 s31 x31 = 0 := x31_ask
  have e1 : (fun z : Nat × Nat × Nat × Nat => clP p q 4 5 (askS [] 4 5 s31 x31 z) ++ hidP q bd bt (askST [] 4 5 s31 x31)) = fun z => clP p q 4 5 (s31a z) ++ hidP q bd bt T31 := by
    funext z
    rw [show askS [] 4 5 s31 x31 z = s31a z from if_pos x31_ask, show askST [] 4 5 s31 x31 = T31 from if_pos e0]
  rw [e1, e0, show askSL [] 4 5 s31 x31 = parcels (askM [] 4 5 x31) (allN 4) from if_pos e0] at h
  exact h
theorem rcv31a_s (hn : Num1 T) (hT : T.length ≤ 1000) : Spec Try.prog 11 [ptr p, .agg (m31 T 0).abs] (clP p q 4 5 (s31a z) ++ hidP q bd bt (t31 T 0)) (fun v : Value => clP p q 4 5 (s31b z v) ++ hidP q bd bt (t31 T 0)) (fun _ => int 0) := by
  have hl := t31_len T 0
  have h := recvF_s (p := p) (q := q) (bd := bd) (bt := bt) (n := 4) (id := 5) (s := s31a z) (m := m31 T 0) (T := t31 T 0) (by show r31.bytes.length ≤ _; rw [Rp.bytes_length]; omega) (t31_num hn 0) (by omega) ⟨fun w hw => by cases hw; exact Votes.nil, by show ([] : List Oc).length ≤ _; decide⟩ (by decide)
  obtain ⟨h1, h2, h3, h4⟩ := recv31a T
  have e1 : (fun v : Value => clP p q 4 5 (recvS (t31 T 0) 4 5 (s31a z) (m31 T 0) v) ++ hidP q bd bt (t31 T 0)) = fun v => clP p q 4 5 (s31b z v) ++ hidP q bd bt (t31 T 0) := by
    funext v
    have e : recvS (t31 T 0) 4 5 (s31a z) (m31 T 0) v = s31b z v := by
      refine (if_neg (by show ¬ recvD (t31 T 0) 4 5 1 [] [] (m31 T 0) = true; rw [h4]; decide)).trans ?_
      show CS.mk 1 (some ⟨x31, askM [] 4 5 x31, recvM (t31 T 0) 4 5 1 [] (m31 T 0), recvC (t31 T 0) 4 5 1 [] [] (m31 T 0), _, _, _, _⟩) [] v = _
      rw [h2, h3]
      rfl
    rw [e]
  rw [e1, show recvSE (t31 T 0) 4 5 (s31a z) (m31 T 0) = 0 from h1] at h
  exact h
theorem votes31 : Votes 4 [(0, 0)] [((0 : Int), 1)] := by
  have h := recv31a []
  have hv := (Votes.nil (n := 4)).recv (T := t31 [] 0) (id := 5) (stamp := 1) (m := m31 [] 0)
  rw [h.2.1, h.2.2.1] at hv
  exact hv
theorem rcv31b_s (hn : Num1 T) (hT : T.length ≤ 1000) : Spec Try.prog 11 [ptr p, .agg (m31 T 2).abs] (clP p q 4 5 (s31b z v) ++ hidP q bd bt (t31 T 2)) (fun v : Value => clP p q 4 5 (s31c v) ++ hidP q bd bt (t31 T 2)) (fun _ => int 0) := by
  have hl := t31_len T 2
  have h := recvF_s (p := p) (q := q) (bd := bd) (bt := bt) (n := 4) (id := 5) (s := s31b z v) (m := m31 T 2) (T := t31 T 2) (by show r31.bytes.length ≤ _; rw [Rp.bytes_length]; omega) (t31_num hn 2) (by omega) ⟨fun w hw => by cases hw; exact votes31, by show ([] : List Oc).length ≤ _; decide⟩ (by decide)
  obtain ⟨h1, h4⟩ := recv31b T
  have e1 : (fun u : Value => clP p q 4 5 (recvS (t31 T 2) 4 5 (s31b z v) (m31 T 2) u) ++ hidP q bd bt (t31 T 2)) = fun u => clP p q 4 5 (s31c u) ++ hidP q bd bt (t31 T 2) := by
    funext u
    have e : recvS (t31 T 2) 4 5 (s31b z v) (m31 T 2) u = s31c u := by
      refine (if_pos h4).trans ?_
      rw [r31_read T 2 (by decide)]
      rfl
    rw [e]
  rw [e1, show recvSE (t31 T 2) 4 5 (s31b z v) (m31 T 2) = 0 from h1] at h
  exact h
end
set_option maxHeartbeats 8000000 in
theorem fixed31_s  : Spec Try.prog 6 [] [] (fun _ : Unit => []) (fun _ => boo true) := by
  refine spec_of Try.func6 rfl Try.ntmps6 rfl fun G w => ?_
  refine SC.seq (SC.region ?_)
  refine SL.val (Val.assign rfl) rfl rfl ?_
  refine SL.nil (SE.seq ?_)
  refine SC.seq (SC.region ?_)
  refine SL.call (inew_s) Casts.refl (by kernel_rfl) rfl rfl rfl ?_
  refine After.make3 (by repeat (first | exact Reads.nil | (refine Reads.blk ?_ ?_; focus ((repeat first|assumption|exact m0|apply m1); done)) | (refine Reads.rd ?_ ?_; focus ((repeat first|assumption|exact m0|apply m1); done)) | (refine Reads.pc ?_ ?_; focus ((repeat first|assumption|exact m0|apply m1); done)) | (refine Reads.rdpc ?_ ?_; focus ((repeat first|assumption|exact m0|apply m1); done)))) (fun _ => rfl) ?_
  intro z0
  refine SL.val (Val.assign rfl) rfl rfl ?_
  refine SL.nil (SE.seq ?_)
  refine SC.seq (SC.region ?_)
  refine SL.val (Val.move rfl) rfl rfl ?_
  refine SL.val (Val.makeIface rfl (fun _ _ => by kernel_rfl)) rfl rfl ?_
  refine SL.call (new_s (q := z0.1) (n := 4) (id := 5) (by decide) (by decide)) Casts.refl (by kernel_rfl) rfl rfl rfl ?_
  refine After.make2 (by repeat (first | exact Reads.nil | (refine Reads.blk ?_ ?_; focus ((repeat first|assumption|exact m0|apply m1); done)) | (refine Reads.rd ?_ ?_; focus ((repeat first|assumption|exact m0|apply m1); done)) | (refine Reads.pc ?_ ?_; focus ((repeat first|assumption|exact m0|apply m1); done)) | (refine Reads.rdpc ?_ ?_; focus ((repeat first|assumption|exact m0|apply m1); done)))) (fun _ => rfl) ?_
  intro z1
  refine SL.val (Val.assign rfl) rfl rfl ?_
  refine SL.nil (SE.seq ?_)
  refine SC.seq ?_
  refine SC.to (T' := St _ _ (clP z1 z0.1 4 5 (s31) ++ hidP z0.1 z0.2.1 z0.2.2 ([])) _) (fun a w h => h.less (by show List.Sublist [_, _, _, _] [_, _, _, _, _]; repeat (first | exact List.nil_sublist _ | exact List.Sublist.refl _ | apply List.Sublist.cons_cons | apply List.Sublist.cons))) ?_
  refine SC.region ?_
  refine SL.val (Val.move rfl) rfl rfl ?_
  refine SL.val (Val.move rfl) rfl rfl ?_
  refine SL.val (Val.buildS (L := (Core.cells ⟨0, 0, 1, ⟨#[97]⟩, 0, 0, ⟨#[]⟩⟩).map .v) tabOk rfl rfl rfl (by rfl)) rfl rfl ?_
  refine SL.call (nextS_s (p := z1) (q := z0.1) (n := 4) (id := 5) (s := s31) (x := ⟨0, 0, 1, ⟨#[97]⟩, 0, 0, ⟨#[]⟩⟩) (by decide) (by decide)) Casts.refl (by kernel_rfl) rfl rfl rfl ?_
  refine After.mid [] (β := hidP z0.1 z0.2.1 z0.2.2 ([])) rfl (clP_rids _) ?_
  intro _
  refine SL.call (ask31_s (p := z1) (q := z0.1) (bd := z0.2.1) (bt := z0.2.2)) (Casts.keep (Casts.keep (Casts.nils (s := 2) Casts.refl))) (by kernel_rfl) rfl rfl rfl ?_
  refine After.mid [] (β := []) (by first | rfl | (simp; done) | (simp [hidP]; done)) askS_rids ?_
  intro za
  refine SL.val (Val.move rfl) rfl rfl ?_
  refine SL.val (Val.extract rfl rfl) rfl rfl ?_
  refine SL.val (Val.extract rfl rfl) rfl rfl ?_
  refine SL.val (Val.assign rfl) rfl rfl ?_
  refine SL.val (Val.assign rfl) rfl rfl ?_
  refine SL.nil (SE.seq ?_)
  refine SC.seq (SC.region ?_)
  refine SL.val (Val.move rfl) rfl rfl ?_
  refine SL.val (Val.move rfl) rfl rfl ?_
  refine SL.val (Val.buildS (L := r31.abs) tabOk rfl rfl rfl (by rfl)) rfl rfl ?_
  refine SL.call (reply_s (q := z0.1) (bd := z0.2.1) (bt := z0.2.2) (a := 0) (b := 5) (r := r31) (T := T31) T31_num (by have := T31_len; omega)) Casts.refl (by kernel_rfl) rfl rfl rfl ?_
  refine After.mid (clP z1 z0.1 4 5 (s31a za)) (β := []) (by first | rfl | (simp [hidP]; done)) (by intro x hx; simp only [hidP, List.mem_cons, List.not_mem_nil, or_false] at hx; rcases hx with rfl | rfl <;> rfl) ?_
  intro _
  refine SL.call (rcv31a_s (p := z1) (q := z0.1) (bd := z0.2.1) (bt := z0.2.2) (z := za) (T := T31) T31_num (by have := T31_len; omega)) Casts.refl (by kernel_rfl) rfl rfl rfl ?_
  refine After.mid [] (β := []) (by first | rfl | (simp; done) | (simp [hidP]; done)) askS_rids ?_
  intro zr
  refine SL.val (Val.assign rfl) rfl rfl ?_
  refine SL.nil (SE.seq ?_)
  refine SC.seq (SC.region ?_)
  refine SL.val (Val.move rfl) rfl rfl ?_
  refine SL.call (accS_s (p := z1) (q := z0.1) (n := 4) (id := 5) (s := s31b za zr) (by show ([] : List Oc).length ≤ _; decide)) Casts.refl (by kernel_rfl) rfl rfl rfl ?_
  refine After.mid [] (β := hidP z0.1 z0.2.1 z0.2.2 ((t31 T31 0))) (by first | rfl | (simp; done) | (simp [hidP, t31]; done)) (clP_rids _) ?_
  intro _
  first
    | refine SL.val (Val.lenSl rfl Try.underlying42 (List.length_map _)) rfl rfl ?_
    | refine SL.val (Val.lenOwn rfl (by repeat first|assumption|exact m0|apply m1) Try.underlying42 (List.length_map _)) rfl rfl ?_
    | refine SL.val (Val.lenNil rfl Try.underlying42) rfl rfl ?_
  refine SL.val (Val.assign rfl) rfl rfl ?_
  refine SL.nil (SE.seq ?_)
  refine SC.seq (SC.region ?_)
  refine SL.val (Val.move rfl) rfl rfl ?_
  refine SL.val (Val.move rfl) rfl rfl ?_
  refine SL.val (Val.buildS (L := r31.abs) tabOk rfl rfl rfl (by rfl)) rfl rfl ?_
  refine SL.call (reply_s (q := z0.1) (bd := z0.2.1) (bt := z0.2.2) (a := 2) (b := 5) (r := r31) (T := (t31 T31 0)) (t31_num T31_num 0) (by have := T31_len; have := t31_len T31 0; omega)) Casts.refl (by kernel_rfl) rfl rfl rfl ?_
  refine After.mid (clP z1 z0.1 4 5 (s31b za zr)) (β := []) (by first | rfl | (simp [hidP]; done)) (by intro x hx; simp only [hidP, List.mem_cons, List.not_mem_nil, or_false] at hx; rcases hx with rfl | rfl <;> rfl) ?_
  intro _
  refine SL.call (rcv31b_s (p := z1) (q := z0.1) (bd := z0.2.1) (bt := z0.2.2) (z := za) (v := zr) (T := (t31 T31 0)) (t31_num T31_num 0) (by have := T31_len; have := t31_len T31 0; omega)) Casts.refl (by kernel_rfl) rfl rfl rfl ?_
  refine After.mid [] (β := []) (by first | rfl | (simp; done) | (simp [hidP]; done)) askS_rids ?_
  intro zs
  refine SL.val (Val.assign rfl) rfl rfl ?_
  refine SL.nil (SE.seq ?_)
  refine SC.seq (SC.region ?_)
  refine SL.val (Val.move rfl) rfl rfl ?_
  refine SL.call (waitS_s (p := z1) (q := z0.1) (n := 4) (id := 5) (s := s31c zs)) Casts.refl (by kernel_rfl) rfl rfl rfl ?_
  refine After.mid [] (β := hidP z0.1 z0.2.1 z0.2.2 ((t31 (t31 T31 0) 2))) (by first | rfl | (simp; done) | (simp [hidP, t31]; done)) (clP_rids _) ?_
  intro _
  refine SL.val (Val.move rfl) rfl rfl ?_
  refine SL.val (Val.extract rfl rfl) rfl rfl ?_
  refine SL.val (Val.extract rfl rfl) rfl rfl ?_
  refine SL.eff (Eff.alloc tabOk rfl) rfl rfl ?_
  rintro _ _ ⟨b8, rfl, rfl⟩
  refine SL.eff (Eff.store tabOk rfl rfl rfl (by repeat first|assumption|exact Upd.here|apply Upd.there) (by rfl) (Nat.le_of_ble_eq_true (by rfl)) (by rfl) (by rfl)) rfl rfl ?_
  rintro _ _ ⟨rfl, rfl⟩
  refine SL.val (Val.assign rfl) rfl rfl ?_
  refine SL.nil (SE.seq ?_)
  refine SC.seq (SC.region ?_)
  refine SL.val (Val.move rfl) rfl rfl ?_
  refine SL.val (Val.to (C := boo true) (Val.eqI rfl rfl) (congrArg (fun b => Abs.v (Value.bool b)) (decide_eq_true (rfl)))) rfl rfl ?_
  refine SL.val (Val.move rfl) rfl rfl ?_
  refine SL.val (Val.move rfl) rfl rfl ?_
  first
    | refine SL.val (Val.lenSl rfl Try.underlying28 (List.length_map _)) rfl rfl ?_
    | refine SL.val (Val.lenOwn rfl (by repeat first|assumption|exact m0|apply m1) Try.underlying28 (List.length_map _)) rfl rfl ?_
    | refine SL.val (Val.lenNil rfl Try.underlying28) rfl rfl ?_
  refine SL.val (Val.to (C := boo true) (Val.eqI rfl rfl) (congrArg (fun b => Abs.v (Value.bool b)) (decide_eq_true (by kernel_rfl)))) rfl rfl ?_
  refine SL.val (Val.pickT rfl rfl) rfl rfl ?_
  refine SL.val (Val.move rfl) rfl rfl ?_
  refine SL.val (Val.move rfl) rfl rfl ?_
  refine SL.val (Val.to (C := boo true) (Val.eqI rfl rfl) (congrArg (fun b => Abs.v (Value.bool b)) (decide_eq_true (rfl)))) rfl rfl ?_
  refine SL.val (Val.pickT rfl rfl) rfl rfl ?_
  refine SL.val (Val.move rfl) rfl rfl ?_
  refine SL.val (Val.move rfl) rfl rfl ?_
  refine SL.val (Val.to (C := boo true) (Val.eqI rfl rfl) (congrArg (fun b => Abs.v (Value.bool b)) (decide_eq_true (rfl)))) rfl rfl ?_
  refine SL.val (Val.pickT rfl rfl) rfl rfl ?_
  refine SL.val (Val.move rfl) rfl rfl ?_
  refine SL.val (Val.move rfl) rfl rfl ?_
  refine SL.val (Val.to (C := boo true) (Val.eqI rfl rfl) (congrArg (fun b => Abs.v (Value.bool b)) (decide_eq_true (by kernel_rfl)))) rfl rfl ?_
  refine SL.val (Val.pickT rfl rfl) rfl rfl ?_
  refine SL.val (Val.move rfl) rfl rfl ?_
  refine SL.val (Val.move rfl) rfl rfl ?_
  refine SL.val (Val.notB rfl) rfl rfl ?_
  refine SL.val (Val.pickT rfl rfl) rfl rfl ?_
  refine SL.val (Val.move rfl) rfl rfl ?_
  refine SL.both (t := 63) rfl ?_ (by intro hc63; exfalso; simp [s31c] at hc63)
  intro hc63
  refine SL.val (Val.move rfl) rfl rfl ?_
  refine SL.call (accS_s (p := z1) (q := z0.1) (n := 4) (id := 5) (s := s31c zs) (by show [_].length ≤ _; decide)) Casts.refl (by kernel_rfl) rfl rfl rfl ?_
  refine After.mid [_] (β := hidP z0.1 z0.2.1 z0.2.2 ((t31 (t31 T31 0) 2))) (by first | rfl | (simp; done) | (simp [hidP, t31]; done)) (clP_rids _) ?_
  intro _
  first
    | refine SL.val (Val.lenSl rfl Try.underlying42 (List.length_map _)) rfl rfl ?_
    | refine SL.val (Val.lenOwn rfl (by repeat first|assumption|exact m0|apply m1) Try.underlying42 (List.length_map _)) rfl rfl ?_
    | refine SL.val (Val.lenNil rfl Try.underlying42) rfl rfl ?_
  refine SL.val (Val.to (C := boo true) (Val.eqI rfl rfl) (congrArg (fun b => Abs.v (Value.bool b)) (decide_eq_true (by kernel_rfl)))) rfl rfl ?_
  refine SL.val (Val.pickT rfl rfl) rfl rfl ?_
  refine SL.val (Val.move rfl) rfl rfl ?_
  refine SL.val (Val.move rfl) rfl rfl ?_
  refine SL.call (accS_s (p := z1) (q := z0.1) (n := 4) (id := 5) (s := s31c zs) (by show [_].length ≤ _; decide)) Casts.refl (by kernel_rfl) rfl rfl rfl ?_
  refine After.mid [_] (β := hidP z0.1 z0.2.1 z0.2.2 ((t31 (t31 T31 0) 2))) (by first | rfl | (simp; done) | (simp [hidP, t31]; done)) (clP_rids _) ?_
  intro _
  refine SL.val (Val.indexSl (q := 0) tabOk Try.underlying42 rfl rfl rfl rfl (show ((s31c zs).acc.map Oc.abs)[0]? = some (Oc.abs ⟨5, 1, 0⟩) from rfl) rfl rfl) rfl rfl ?_
  first
    | refine SL.val (Val.fieldAddr tabOk rfl rfl rfl rfl rfl) rfl rfl ?_
    | refine SL.val (Val.fieldAddrR tabOk rfl rfl rfl rfl rfl) rfl rfl ?_
  first
    | refine SL.val (Val.load1R tabOk rfl rfl rfl) rfl rfl ?_
    | refine SL.val (Val.load1 tabOk rfl rfl (by first|(apply Or.inl;(repeat first|assumption|exact m0|apply m1);done)|(apply Or.inr;(repeat first|assumption|exact m0|apply m1);done)) List.not_mem_nil (by rfl)) rfl rfl ?_
  refine SL.val (Val.to (C := boo true) (Val.eqI rfl rfl) (congrArg (fun b => Abs.v (Value.bool b)) (decide_eq_true (by kernel_rfl)))) rfl rfl ?_
  refine SL.val (Val.pickT rfl rfl) rfl rfl ?_
  refine SL.val (Val.assign rfl) rfl rfl ?_
  refine SL.nil (SE.seq ?_)
  refine SC.ret ?_
  refine SE.fin (rs := [.tmp 0]) rfl (RV.tmp rfl RV.nil) (()) (by repeat first|exact s0 _|exact s1 _|apply s2|apply s3) (by simp [It.rids]) ?_
  exact rfl
end Go.Proofs.Ytmkijjmbiiiicaa.A
/-
  Arguments that are rows of a client's acts, as trees.
-/
set_option maxRecDepth 100000
set_option linter.unusedSimpArgs false
set_option linter.unusedVariables false
namespace Go.Proofs.Ytmkijjmbiiiicaa.A
open Go.RowKit Go.ChangeShapes Go.WideShapes Go.ChangeAt

section
variable {H : Type} {enc : TypeId × Value → H} {w : World} {base : Nat} {spare : Nat → Bool} {held : Bool}
theorem open_bytL {v : Value} (h : LeafAt enc Try.prog w base spare held 37 v) : ∃ l : List UInt8, rep [] w (byt l) v := by
  obtain ⟨fuel, x, h⟩ := h
  obtain ⟨A0, n, c, rfl⟩ : ∃ A n c, v = .slice A n c := by
    rcases Deep.open_slice Try.underlying37 h with ⟨hcs, _⟩ | ⟨a, len, cap, m, n', D, Pl, hcs, _⟩
    · simp at hcs; exact ⟨_, _, _, hcs⟩
    · simp at hcs; exact ⟨_, _, _, hcs⟩
  obtain ⟨l, hl⟩ := open_bytesV h
  obtain ⟨A, c, he, h1, h2, h3, h4⟩ := hl
  refine ⟨l, rep_byt.2 ?_⟩
  rw [he]
  refine ⟨⟨A, c, rfl, h1, h2, h3⟩, fun hn => ?_⟩
  obtain ⟨b, off, rfl, hc⟩ := h4 hn
  exact ⟨b, off, _, _, rfl, by simp, hc⟩
theorem open_tgL (cs : List Value) (hl : cs.length = Try.prog.cellsOf 94) (h : ∃ m y, DataW.trod enc Try.prog w base spare held m 94 cs = some y) : ∃ x : Tg, reps [] w x.abs cs ∧ True := by
  obtain ⟨fuel, x, h⟩ := h
  rw [show Try.prog.cellsOf 94 = 32 by kernel_rfl] at hl
  have hlv : leaves Try.prog 4 94 = some (List.replicate 32 5) := by kernel_rfl
  have hh := leaves_trod 4 _ _ _ _ _ hlv (by simpa using hl.symm) h
  obtain ⟨d, rfl⟩ := open_u8 (cs := cs) fun v hv => by
    obtain ⟨j, hj, rfl⟩ := List.getElem_of_mem hv
    exact hh j cs[j] _ (List.getElem?_eq_getElem hj) (by rw [List.getElem?_replicate, if_pos (by omega)])
  exact ⟨⟨d, by simpa using hl⟩, reps_dig d, trivial⟩
theorem act_leaves : leaves Try.prog 4 55 = some [3, 3, 3, 3, 2, 3, 9, 2, 2, 9, 2, 3, 2, 29, 3, 3, 37, 38] := by kernel_rfl
theorem open_act (cs : List Value) (hl : cs.length = Try.prog.cellsOf 55) (h : ∃ m y, DataW.trod enc Try.prog w base spare held m 55 cs = some y) : ∃ a : Ac, reps [] w a.abs cs ∧ Core.ins a.core := by
  obtain ⟨fuel, x, h⟩ := h
  rw [show Try.prog.cellsOf 55 = 18 by kernel_rfl] at hl
  have hh := leaves_trod 4 _ _ _ _ _ act_leaves (by simpa using hl.symm) h
  match cs, hl with
  | [v0, v1, v2, v3, v4, v5, v6, v7, v8, v9, v10, v11, v12, v13, v14, v15, v16, v17], _ =>
    obtain ⟨n0, rfl, b0⟩ := (hh 0 v0 _ rfl rfl).int Try.underlying3
    obtain ⟨n1, rfl, b1⟩ := (hh 1 v1 _ rfl rfl).int Try.underlying3
    obtain ⟨n2, rfl, b2⟩ := (hh 2 v2 _ rfl rfl).int Try.underlying3
    obtain ⟨n3, rfl, b3⟩ := (hh 3 v3 _ rfl rfl).int Try.underlying3
    obtain ⟨n4, rfl, b4⟩ := (hh 4 v4 _ rfl rfl).int Try.underlying2
    obtain ⟨n5, rfl, b5⟩ := (hh 5 v5 _ rfl rfl).int Try.underlying3
    obtain ⟨s6, rfl, b6⟩ := (hh 6 v6 _ rfl rfl).string Try.underlying9
    obtain ⟨n7, rfl, b7⟩ := (hh 7 v7 _ rfl rfl).int Try.underlying2
    obtain ⟨n8, rfl, b8⟩ := (hh 8 v8 _ rfl rfl).int Try.underlying2
    obtain ⟨s9, rfl, b9⟩ := (hh 9 v9 _ rfl rfl).string Try.underlying9
    obtain ⟨n10, rfl, b10⟩ := (hh 10 v10 _ rfl rfl).int Try.underlying2
    obtain ⟨n11, rfl, b11⟩ := (hh 11 v11 _ rfl rfl).int Try.underlying3
    obtain ⟨n12, rfl, b12⟩ := (hh 12 v12 _ rfl rfl).int Try.underlying2
    obtain ⟨n13, rfl, b13⟩ := (hh 13 v13 _ rfl rfl).int Try.underlying29
    obtain ⟨n14, rfl, b14⟩ := (hh 14 v14 _ rfl rfl).int Try.underlying3
    obtain ⟨n15, rfl, b15⟩ := (hh 15 v15 _ rfl rfl).int Try.underlying3
    obtain ⟨l16, h16⟩ := open_bytL (hh 16 v16 _ rfl rfl)
    obtain ⟨ts, ht, _⟩ := open_slA (abs := Tg.abs) (Ok := fun _ => True) (s := 32) Try.underlying38 (by kernel_rfl) (hh 17 v17 _ rfl rfl) open_tgL
    exact ⟨⟨n0, n1, n2, ⟨n3, n4, n5, s6, n7, n8, s9⟩, ⟨n10, n11, n12, n13⟩, ⟨n14, n15, l16, ts⟩⟩, ⟨_, _, rfl, rfl, _, _, rfl, rfl, _, _, rfl, rfl, _, _, rfl, rfl, _, _, rfl, rfl, _, _, rfl, rfl, _, _, rfl, rfl, _, _, rfl, rfl, _, _, rfl, rfl, _, _, rfl, rfl, _, _, rfl, rfl, _, _, rfl, rfl, _, _, rfl, rfl, _, _, rfl, rfl, _, _, rfl, rfl, _, _, rfl, rfl, _, _, rfl, h16, _, _, rfl, ht, rfl⟩, ⟨wfIn b3, wfIn b4, wfIn b5, wfIn b7, wfIn b8, b6, b9⟩⟩
theorem open_acts {v : Value} (h : LeafAt enc Try.prog w base spare held 22 v) : ∃ l : List Ac, rep [] w (actsA l) v ∧ ∀ a ∈ l, Core.ins a.core :=
  open_slA (abs := Ac.abs) (Ok := fun a => Core.ins a.core) (s := 18) Try.underlying22 (by kernel_rfl) h open_act
end
end Go.Proofs.Ytmkijjmbiiiicaa.A
