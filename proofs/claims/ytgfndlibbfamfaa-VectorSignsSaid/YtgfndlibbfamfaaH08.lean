/-
  Packed out of the texts: T7, T8, T9, V3L.
-/
import Derived.Test.YtgfndlibbfamfaaH07
/-
  The program's tags: made, compared; two numbers sorted.
-/
set_option maxRecDepth 100000
set_option linter.unusedSimpArgs false
set_option linter.unusedVariables false
namespace Go.Proofs.Ytgfndlibbfamfaa.A
open Go.RowKit

section
variable {l k t a b : List UInt8} {x : UInt8} {h : Nat} {v : Value}
set_option maxHeartbeats 2000000 in
theorem mac_s (hk : k.length ≤ 1000000) (hl : l.length ≤ 1000000) : Spec Try.prog 15 [byt k, byt l] [] (fun _ : Unit => []) (fun _ => .agg (digA (hmac k l))) := by
  have h54 := padK_length k 54
  have h92 := padK_length k 92
  refine spec_of Try.func15 rfl Try.ntmps15 rfl fun G w => ?_
  refine SC.seq (SC.region ?_)
  refine SL.eff (Eff.alloc tabOk rfl) rfl rfl ?_
  rintro _ _ ⟨b4, rfl, rfl⟩
  refine SL.nil (SE.seq ?_)
  refine SC.seq (SC.region ?_)
  refine SL.val (Val.move rfl) rfl rfl ?_
  refine SL.call (pad_s (k := k) (x := 54) hk) Casts.refl (by kernel_rfl) rfl rfl rfl ?_
  refine After.make2 (by repeat first|exact .nil|refine .blk (by repeat first|assumption|exact m0|apply m1) ?_|refine .rd (by repeat first|assumption|exact m0|apply m1) ?_|refine .pc (by repeat first|assumption|exact m0|apply m1) ?_|refine .rdpc (by repeat first|assumption|exact m0|apply m1) ?_) (fun _ => rfl) ?_
  intro z1
  refine SL.val (Val.move rfl) rfl rfl ?_
  refine SL.call (pad_s (k := k) (x := 92) hk) Casts.refl (by kernel_rfl) rfl rfl rfl ?_
  refine After.make2 (by repeat first|exact .nil|refine .blk (by repeat first|assumption|exact m0|apply m1) ?_|refine .rd (by repeat first|assumption|exact m0|apply m1) ?_|refine .pc (by repeat first|assumption|exact m0|apply m1) ?_|refine .rdpc (by repeat first|assumption|exact m0|apply m1) ?_) (fun _ => rfl) ?_
  intro z2
  refine SL.val (Val.assign rfl) rfl rfl ?_
  refine SL.val (Val.assign rfl) rfl rfl ?_
  refine SL.nil (SE.seq ?_)
  refine SC.seq (SC.region ?_)
  refine SL.val (Val.move rfl) rfl rfl ?_
  refine SL.val (Val.move rfl) rfl rfl ?_
  refine SL.call (sadd1_s (h := z1.1) (v := z1.2) (t := padK k 54) (l := l) (by omega) (by omega)) Casts.refl (by kernel_rfl) rfl rfl rfl ?_
  refine After.at2 ⟨rfl, rfl⟩ (fun _ => rfl) ?_
  intro v1
  refine SL.nil (SE.seq ?_)
  refine SC.seq (SC.region ?_)
  refine SL.val (Val.move rfl) rfl rfl ?_
  refine SL.call (ssum1_s (h := z1.1) (v := v1) (t := (padK k 54 ++ l)) (by rw [List.length_append]; omega)) Casts.refl (by kernel_rfl) rfl rfl rfl ?_
  refine After.at20 ⟨rfl, rfl⟩ (fun _ => rfl) ?_
  intro _
  refine SL.eff (Eff.alloc tabOk rfl) rfl rfl ?_
  rintro _ _ ⟨b7, rfl, rfl⟩
  refine SL.eff (Eff.store (L' := digA (sha (padK k 54 ++ l))) tabOk rfl rfl rfl (by repeat first|assumption|exact Upd.here|apply Upd.there) (dig_out _ (by omega)) (Nat.le_of_ble_eq_true (by rfl)) (by exact ones_dig _) (putL_whole (by exact (dig_out _ (by omega))))) rfl rfl ?_
  rintro _ _ ⟨rfl, rfl⟩
  refine SL.nil (SE.seq ?_)
  refine SC.seq ?_
  refine SC.freezeB [] 7 rfl rfl ?_
  refine SC.region ?_
  refine SL.val (Val.move rfl) rfl rfl ?_
  refine SL.val (Val.to (C := byt (sha (padK k 54 ++ l))) (Val.sliceArrR tabOk Try.underlying64 rfl rfl rfl rfl rfl (by rw [digA_length, sha_length]; exact Nat.le_refl 32)) (congrArg (Abs.sl 1) (by rw [List.take_of_length_le (by rw [digA_length, sha_length]; exact Nat.le_refl 32)]; exact dig_cells _))) rfl rfl ?_
  refine SL.call (sadd1_s (h := z2.1) (v := z2.2) (t := padK k 92) (l := sha (padK k 54 ++ l)) (by omega) (by rw [sha_length]; omega)) Casts.refl (by kernel_rfl) rfl rfl rfl ?_
  refine After.two ⟨rfl, rfl⟩ (fun _ => rfl) ?_
  intro v2
  refine SL.nil (SE.seq ?_)
  refine SC.seq (SC.region ?_)
  refine SL.val (Val.move rfl) rfl rfl ?_
  refine SL.call (ssum1_s (h := z2.1) (v := v2) (t := (padK k 92 ++ sha (padK k 54 ++ l))) (by rw [List.length_append, sha_length]; omega)) Casts.refl (by kernel_rfl) rfl rfl rfl ?_
  refine After.two0 ⟨rfl, rfl⟩ (fun _ => rfl) ?_
  intro _
  refine SL.eff (Eff.store (L' := digA (hmac k l)) tabOk rfl rfl rfl (by repeat first|assumption|exact Upd.here|apply Upd.there) (dig_out _ (by omega)) (Nat.le_of_ble_eq_true (by rfl)) (by exact ones_dig _) (putL_whole (by exact (dig_out _ (by omega))))) rfl rfl ?_
  rintro _ _ ⟨rfl, rfl⟩
  refine SL.nil (SE.seq ?_)
  refine SC.ret ?_
  refine SE.fin (rs := [.cell 4 37]) rfl (RV.cell rfl (RV.cellA tabOk rfl rfl (by first|(apply Or.inl;(repeat first|assumption|exact m0|apply m1);done)|(apply Or.inr;(repeat first|assumption|exact m0|apply m1);done)) (dig_out _ (by omega))) RV.nil) (()) (by repeat first|exact s0 _|exact s1 _|apply s2|apply s3) (by simp [It.rids]) ?_
  exact rfl
theorem same_end {c : UInt8} : decide ((c.toNat : Int) = 0) = decide (c = 0) := by
  rw [decide_eq_decide]
  constructor
  · intro h
    apply UInt8.toNat.inj
    show c.toNat = 0
    omega
  · rintro rfl; rfl
theorem take_step {a b : List UInt8} {z : Nat} (h1 : z < a.length) (h2 : z < b.length) : a.take (z + 1) = b.take (z + 1) ↔ a.take z = b.take z ∧ a.getD z 0 = b.getD z 0 := by
  rw [List.take_add_one, List.take_add_one, List.getElem?_eq_getElem h1, List.getElem?_eq_getElem h2]
  have e1 : a.getD z 0 = a[z] := by simp [List.getD, h1]
  have e2 : b.getD z 0 = b[z] := by simp [List.getD, h2]
  rw [e1, e2]
  constructor
  · intro h
    have := List.append_inj h (by rw [List.length_take, List.length_take]; omega)
    exact ⟨this.1, by simpa using this.2⟩
  · rintro ⟨h3, h4⟩
    rw [h3, h4]
set_option maxHeartbeats 1000000 in
theorem msame_s (ha : a.length ≤ 1000000) : Spec Try.prog 68 [byt a, byt b] [] (fun _ : Unit => []) (fun _ => boo (decide (a = b))) := by
  refine spec_of Try.func68 rfl Try.ntmps68 rfl fun G w => ?_
  refine SC.seq (SC.region ?_)
  refine SL.val (Val.assign rfl) rfl rfl ?_
  refine SL.nil (SE.seq ?_)
  refine SC.seq ?_
  refine SC.seq (SC.region ?_)
  refine SL.val (Val.move rfl) rfl rfl ?_
  first
    | refine SL.val (Val.lenSl rfl Try.underlying22 (List.length_map _)) rfl rfl ?_
    | refine SL.val (Val.lenOwn rfl (by repeat first|assumption|exact m0|apply m1) Try.underlying22 (List.length_map _)) rfl rfl ?_
    | refine SL.val (Val.lenNil rfl Try.underlying22) rfl rfl ?_
  refine SL.val (Val.move rfl) rfl rfl ?_
  first
    | refine SL.val (Val.lenSl rfl Try.underlying22 (List.length_map _)) rfl rfl ?_
    | refine SL.val (Val.lenOwn rfl (by repeat first|assumption|exact m0|apply m1) Try.underlying22 (List.length_map _)) rfl rfl ?_
    | refine SL.val (Val.lenNil rfl Try.underlying22) rfl rfl ?_
  refine SL.val (Val.neI rfl rfl) rfl rfl ?_
  refine SL.nil (SE.seq ?_)
  refine SC.condP rfl ?_ ?_
  · intro hc12
    refine SC.seq (SC.region ?_)
    refine SL.val (Val.assign rfl) rfl rfl ?_
    refine SL.nil (SE.seq ?_)
    refine SC.ret ?_
    refine SE.then_ (by intro h; cases h) ?_
    refine SE.fin (rs := [.tmp 4]) rfl (RV.tmp rfl RV.nil) (()) (by repeat first|exact s0 _|exact s1 _|apply s2|apply s3) (by simp [It.rids]) ?_
    exact congrArg (fun q => Abs.v (Value.bool q)) (decide_eq_false (fun h => hc12 (by rw [h]))).symm
  intro hc12
  refine SC.skip ?_
  refine SE.seq ?_
  refine SC.seq (SC.region ?_)
  refine SL.val (Val.assign rfl) rfl rfl ?_
  refine SL.nil (SE.seq ?_)
  refine SC.seq ?_
  refine SC.seq (SC.region ?_)
  refine SL.val (Val.move rfl) rfl rfl ?_
  first
    | refine SL.val (Val.lenSl rfl Try.underlying22 (List.length_map _)) rfl rfl ?_
    | refine SL.val (Val.lenOwn rfl (by repeat first|assumption|exact m0|apply m1) Try.underlying22 (List.length_map _)) rfl rfl ?_
    | refine SL.val (Val.lenNil rfl Try.underlying22) rfl rfl ?_
  refine SL.val (Val.move rfl) rfl rfl ?_
  refine SL.nil (SE.seq ?_)
  refine SC.block ?_
  refine SC.loop (ι := Nat × UInt8) (fun z => []) (fun z => [(0, byt a), (1, byt b), (5, .v (bc z.2)), (13, byt a), (14, int (a.length : Nat)), (15, int (z.1 : Nat))]) (fun z => z.1 ≤ a.length ∧ (z.2 = 0 ↔ a.take z.1 = b.take z.1)) (fun z => a.length - z.1) (0, 0) (⟨Nat.zero_le _, by simp⟩) (by exact ⟨rfl, rfl, rfl, rfl, rfl, rfl, trivial⟩) (by repeat first|exact s0 _|exact s1 _|apply s2|apply s3) ?_
  intro z hz
  refine SC.seq (SC.region ?_)
  refine SL.val (Val.ltI rfl rfl) rfl rfl ?_
  refine SL.nil (SE.seq ?_)
  refine SC.seq ?_
  refine SC.condP rfl ?_ ?_
  rotate_left
  · intro hc16
    refine SC.exit ?_
    refine SE.then_ (by intro h; cases h) ?_
    refine SE.then_ (by intro h; cases h) ?_
    refine SE.exit ?_
    refine SE.seq ?_
    refine SC.seq (SC.region ?_)
    refine SL.val (Val.move rfl) rfl rfl ?_
    refine SL.val (Val.eqI rfl rfl) rfl rfl ?_
    refine SL.val (Val.assign rfl) rfl rfl ?_
    refine SL.nil (SE.seq ?_)
    refine SC.ret ?_
    refine SE.fin (rs := [.tmp 4]) rfl (RV.tmp rfl RV.nil) (()) (by repeat first|exact s0 _|exact s1 _|apply s2|apply s3) (by simp [It.rids]) ?_
    refine congrArg (fun q => Abs.v (Value.bool q)) ?_
    have h1 : z.1 = a.length := by omega
    have h2 := hz.2
    rw [h1, List.take_of_length_le (Nat.le_refl _), List.take_of_length_le (by omega)] at h2
    rw [same_end, decide_eq_decide]
    exact h2
  intro hc16
  refine SC.skip ?_
  refine SE.seq ?_
  refine SC.seq ?_
  refine SC.block ?_
  refine SC.seq (SC.region ?_)
  refine SL.val (Val.move rfl) rfl rfl ?_
  refine SL.val (Val.indexSl (q := z.1) tabOk Try.underlying22 rfl rfl rfl (by omega) (byt_get (by omega)) rfl rfl) rfl rfl ?_
  refine SL.val (Val.load1R tabOk rfl rfl rfl) rfl rfl ?_
  refine SL.val (Val.assign rfl) rfl rfl ?_
  refine SL.val (Val.assign rfl) rfl rfl ?_
  refine SL.nil (SE.seq ?_)
  refine SC.region ?_
  refine SL.val (Val.move rfl) rfl rfl ?_
  refine SL.val (Val.move rfl) rfl rfl ?_
  refine SL.val (Val.move rfl) rfl rfl ?_
  refine SL.val (Val.move rfl) rfl rfl ?_
  refine SL.val (Val.indexSl (q := z.1) tabOk Try.underlying22 rfl rfl rfl (by omega) (byt_get (by omega)) rfl rfl) rfl rfl ?_
  refine SL.val (Val.load1R tabOk rfl rfl rfl) rfl rfl ?_
  refine SL.val (Val.xor8 rfl rfl) rfl rfl ?_
  refine SL.val (Val.or8 rfl rfl) rfl rfl ?_
  refine SL.val (Val.assign rfl) rfl rfl ?_
  refine SL.nil ?_
  refine SE.inBlock ?_
  refine SE.seq ?_
  refine SC.region ?_
  first
    | refine SL.val (Val.addI rfl rfl (by simp only [InR, lo, hi]; omega)) rfl rfl ?_
    | refine SL.val (Val.addW rfl rfl) rfl rfl ?_
  refine SL.val (Val.move rfl) rfl rfl ?_
  refine SL.nil ?_
  refine SE.round (z.1 + 1, z.2 ||| (a.getD z.1 0 ^^^ b.getD z.1 0)) (by first | omega | (dsimp only; omega)) (⟨by dsimp only; omega, by rw [take_step (by omega) (by omega), ← hz.2, UInt8.or_eq_zero_iff, UInt8.xor_eq_zero_iff]⟩) (by exact ⟨rfl, rfl, rfl, rfl, rfl, rfl, trivial⟩) (by repeat first|exact s0 _|exact s1 _|apply s2|apply s3)
end
section
variable {x y b c : Nat}
theorem both_s (hx : x < 65536) (hy : y < 65536) : Spec Try.prog 16 [h16 x, h16 y] [] (fun v : Value => [own 5 1 v (bs (twoB (x, y)))]) (fun v => .v v) := by
  refine spec_of Try.func16 rfl Try.ntmps16 rfl fun G w => ?_
  refine SC.seq (SC.region ?_)
  refine SL.val (Val.assign rfl) rfl rfl ?_
  refine SL.nil (SE.seq ?_)
  refine SC.seq (SC.region ?_)
  refine SL.val (Val.move rfl) rfl rfl ?_
  refine SL.val (Val.to (C := wrd x) (Val.convI (k := .u16) rfl Try.underlying67 (by kernel_rfl) (by simp only [InR, lo, hi]; omega)) rfl) rfl rfl ?_
  refine SL.call (put_s (l := []) (x := x) (n := 2) (by simp) (by omega) rfl) (Casts.nils (s := 1) Casts.refl) (by kernel_rfl) rfl rfl rfl ?_
  refine After.pure (by repeat first|exact .nil|refine .blk (by repeat first|assumption|exact m0|apply m1) ?_|refine .rd (by repeat first|assumption|exact m0|apply m1) ?_|refine .pc (by repeat first|assumption|exact m0|apply m1) ?_|refine .rdpc (by repeat first|assumption|exact m0|apply m1) ?_) (fun _ => rfl) ?_
  intro _
  refine SL.val (Val.move rfl) rfl rfl ?_
  refine SL.val (Val.to (C := wrd y) (Val.convI (k := .u16) rfl Try.underlying67 (by kernel_rfl) (by simp only [InR, lo, hi]; omega)) rfl) rfl rfl ?_
  refine SL.call (putO_s (l := [] ++ beBytes x 2) (x := y) (n := 2) (by unfold lots; rw [List.nil_append, beBytes_length]; decide) (by omega) rfl) Casts.refl (by kernel_rfl) rfl rfl rfl ?_
  refine After.make (by repeat first|exact .nil|refine .blk (by repeat first|assumption|exact m0|apply m1) ?_|refine .rd (by repeat first|assumption|exact m0|apply m1) ?_|refine .pc (by repeat first|assumption|exact m0|apply m1) ?_|refine .rdpc (by repeat first|assumption|exact m0|apply m1) ?_) (fun _ => rfl) ?_
  intro r10
  refine SL.val (Val.assign rfl) rfl rfl ?_
  refine SL.nil (SE.seq ?_)
  refine SC.ret ?_
  refine SE.fin (rs := [.tmp 4]) rfl (RV.tmp rfl RV.nil) (r10) (by repeat first|exact s0 _|exact s1 _|apply s2|apply s3) (by simp [It.rids]) ?_
  exact rfl
abbrev so2 (x y : Nat) : List Abs := if y < x then [h16 y, h16 x] else [h16 x, h16 y]
def in2 (x y : Nat) : Nat → List Abs
  | 0 => [h16 y, h16 x]
  | _ => [h16 x, h16 y]
def out2 (x y : Nat) : Nat → List Abs
  | 1 => [h16 x, h16 y]
  | _ => so2 x y
theorem in2_so {x y j : Nat} (h0 : j = 0 → y < x) (h1 : j ≠ 0 → ¬ y < x) : in2 x y j = so2 x y := by
  rcases j with _ | j
  · rw [so2, if_pos (h0 rfl)]; rfl
  · rw [so2, if_neg (h1 (by simp))]; rfl
theorem nan_s  : Spec Try.prog 49 [h16 x] [] (fun _ : Unit => []) (fun _ => boo false) := by
  refine spec_of Try.func49 rfl Try.ntmps49 rfl fun G w => ?_
  refine SC.seq (SC.region ?_)
  refine SL.val (Val.assign rfl) rfl rfl ?_
  refine SL.nil (SE.seq ?_)
  refine SC.seq (SC.region ?_)
  refine SL.val (Val.move rfl) rfl rfl ?_
  refine SL.val (Val.move rfl) rfl rfl ?_
  refine SL.val (Val.neI rfl rfl) rfl rfl ?_
  refine SL.val (Val.assign rfl) rfl rfl ?_
  refine SL.nil (SE.seq ?_)
  refine SC.ret ?_
  refine SE.fin (rs := [.tmp 2]) rfl (RV.tmp rfl RV.nil) (()) (by repeat first|exact s0 _|exact s1 _|apply s2|apply s3) (by simp [It.rids]) ?_
  exact congrArg (fun q => Abs.v (Value.bool q)) (decide_eq_false (fun h => h rfl))
theorem less_s  : Spec Try.prog 35 [h16 x, h16 y] [] (fun _ : Unit => []) (fun _ => boo (decide (x < y))) := by
  refine spec_of Try.func35 rfl Try.ntmps35 rfl fun G w => ?_
  refine SC.seq (SC.region ?_)
  refine SL.val (Val.assign rfl) rfl rfl ?_
  refine SL.nil (SE.seq ?_)
  refine SC.seq (SC.region ?_)
  refine SL.val (Val.move rfl) rfl rfl ?_
  refine SL.call (nan_s (x := x)) Casts.refl (by kernel_rfl) rfl rfl rfl ?_
  refine After.pure (by repeat first|exact .nil|refine .blk (by repeat first|assumption|exact m0|apply m1) ?_|refine .rd (by repeat first|assumption|exact m0|apply m1) ?_|refine .pc (by repeat first|assumption|exact m0|apply m1) ?_|refine .rdpc (by repeat first|assumption|exact m0|apply m1) ?_) (fun _ => rfl) ?_
  intro _
  refine SL.val (Val.move rfl) rfl rfl ?_
  iterate 3 refine SL.skip rfl rfl ?_
  refine SL.val (Val.pickF rfl rfl) rfl rfl ?_
  refine SL.val (Val.move rfl) rfl rfl ?_
  refine SL.val (Val.move rfl) rfl rfl ?_
  refine SL.val (Val.move rfl) rfl rfl ?_
  refine SL.val (Val.ltI rfl rfl) rfl rfl ?_
  refine SL.val (Val.pickF rfl rfl) rfl rfl ?_
  refine SL.val (Val.assign rfl) rfl rfl ?_
  refine SL.nil (SE.seq ?_)
  refine SC.ret ?_
  refine SE.fin (rs := [.tmp 4]) rfl (RV.tmp rfl RV.nil) (()) (by repeat first|exact s0 _|exact s1 _|apply s2|apply s3) (by simp [It.rids]) ?_
  exact congrArg (fun q => Abs.v (Value.bool q)) (by rw [decide_eq_decide]; omega)
set_option maxHeartbeats 1000000 in
theorem insert_s  : Spec Try.prog 29 [.v (.slice (some ⟨b, 0, none⟩) 2 c), int 0, int 2] [.blk b 57 ([h16 x, h16 y])] (fun _ : Unit => [.blk b 57 (so2 x y)]) (fun _ => .tup []) := by
  refine spec_of Try.func29 rfl Try.ntmps29 rfl fun G w => ?_
  refine SC.seq (SC.region ?_)
  refine SL.val (Val.move rfl) rfl rfl ?_
  first
    | refine SL.val (Val.addI rfl rfl (by simp only [InR, lo, hi]; omega)) rfl rfl ?_
    | refine SL.val (Val.addW rfl rfl) rfl rfl ?_
  refine SL.val (Val.assign rfl) rfl rfl ?_
  refine SL.nil (SE.seq ?_)
  refine SC.block ?_
  refine SC.loop (ι := Nat) (fun z => [.blk b 57 (out2 x y z)]) (fun z => [(0, .v (.slice (some ⟨b, 0, none⟩) 2 c)), (1, int 0), (2, int 2), (6, int (z : Nat))]) (fun z => 1 ≤ z ∧ z ≤ 2) (fun z => 2 - z) (1) (by decide) (by exact ⟨rfl, rfl, rfl, rfl, trivial⟩) (by repeat first|exact s0 _|exact s1 _|apply s2|apply s3) ?_
  intro z hz
  refine SC.seq ?_
  refine SC.seq (SC.region ?_)
  refine SL.val (Val.move rfl) rfl rfl ?_
  refine SL.val (Val.move rfl) rfl rfl ?_
  refine SL.val (Val.ltI rfl rfl) rfl rfl ?_
  refine SL.nil (SE.seq ?_)
  refine SC.condP rfl ?_ ?_
  rotate_left
  · intro hc12
    obtain rfl : z = 2 := by omega
    refine SC.exit ?_
    refine SE.then_ (by intro h; cases h) ?_
    refine SE.then_ (by intro h; cases h) ?_
    refine SE.exit ?_
    refine SE.finN (rs := []) rfl RV.nil (()) (by repeat first|exact s0 _|exact s1 _|apply s2|apply s3) (by simp [It.rids]) ?_
    exact rfl
  intro hc12
  obtain rfl : z = 1 := by omega
  refine SC.skip ?_
  refine SE.seq ?_
  refine SC.seq ?_
  refine SC.block ?_
  refine SC.seq (SC.region ?_)
  refine SL.val (Val.move rfl) rfl rfl ?_
  refine SL.val (Val.assign rfl) rfl rfl ?_
  refine SL.nil (SE.seq ?_)
  refine SC.block ?_
  refine SC.loop (ι := Nat) (fun j => [.blk b 57 (in2 x y j)]) (fun j => [(0, .v (.slice (some ⟨b, 0, none⟩) 2 c)), (1, int 0), (2, int 2), (6, int ((1 : Nat) : Int)), (7, int (j : Nat))]) (fun j => j ≤ 1 ∧ (j = 0 → y < x)) (fun j => j) (1) (⟨Nat.le_refl _, fun h => by cases h⟩) (by exact ⟨rfl, rfl, rfl, rfl, rfl, trivial⟩) (by repeat first|exact s0 _|exact s1 _|apply s2|apply s3) ?_
  intro j hj
  have hj2 := hj.2
  refine SC.seq ?_
  refine SC.seq ?_
  refine SC.draw [] (.q 0 (.q 1 (.q 2 (.q 3 (.q 4 (.q 5 (.q 6 (.q 7 (.q 8 (.q 9 (.q 10 (.q 11 (.q 12 (.e 13 (.q 14 .nil))))))))))))))) (by kernel_rfl) (by kernel_rfl) ?_
  refine SX.val rfl (Val.move rfl) (by simp) rfl rfl ?_
  refine SX.val rfl (Val.move rfl) (by simp) rfl rfl ?_
  refine SX.val rfl (Val.gtI rfl rfl) (by simp) rfl rfl ?_
  refine SX.val rfl (Val.move rfl) (by simp) rfl rfl ?_
  refine SX.bothP (t := 19) rfl ?_ ?_
  rotate_left
  · intro hc19
    obtain rfl : j = 0 := by omega
    iterate 9 refine SX.skip rfl rfl rfl ?_
    refine SX.skip' rfl rfl rfl ?_
    refine SX.val rfl (Val.pickF rfl rfl) (by simp) rfl rfl ?_
    refine SX.nil (SE.seq ?_)
    refine SC.condF rfl ?_
    refine SC.exit ?_
    refine SE.then_ (by intro h; cases h) ?_
    refine SE.then_ (by intro h; cases h) ?_
    refine SE.exit ?_
    refine SE.inBlock ?_
    refine SE.seq ?_
    refine SC.region ?_
    refine SL.val (Val.move rfl) rfl rfl ?_
    first
      | refine SL.val (Val.addI rfl rfl (by simp only [InR, lo, hi]; omega)) rfl rfl ?_
      | refine SL.val (Val.addW rfl rfl) rfl rfl ?_
    refine SL.val (Val.assign rfl) rfl rfl ?_
    refine SL.nil ?_
    have hj0 := hj2
    refine SE.round (2) (by first | omega | (dsimp only; omega)) (by first | omega | (dsimp only; omega)) (by exact ⟨rfl, rfl, rfl, rfl, trivial⟩) (by first | (rw [show out2 x y 2 = in2 x y 0 from (in2_so (fun _ => hj0 rfl) (fun h => (h rfl).elim)).symm]; exact List.Sublist.refl _) | (rw [show out2 x y 2 = in2 x y 1 from (in2_so (fun h => by cases h) (fun _ => hge)).symm]; exact List.Sublist.refl _))
  intro hc19
  obtain rfl : j = 1 := by omega
  refine SX.val rfl (Val.move rfl) (by simp) rfl rfl ?_
  refine SX.val rfl (Val.move rfl) (by simp) rfl rfl ?_
  refine SX.val rfl (Val.indexBs (q := 1) tabOk Try.underlying59 rfl rfl rfl (by omega) (by decide)) (by first|(simp[mids,It.mids,ownPc];done)|(intro k hk;simp[mids,It.mids,ownPc] at hk ⊢;grind)) rfl rfl ?_
  refine SX.val rfl (Val.load1 tabOk rfl rfl (by first|(apply Or.inl;(repeat first|assumption|exact m0|apply m1);done)|(apply Or.inr;(repeat first|assumption|exact m0|apply m1);done)) List.not_mem_nil (by rfl)) (by simp) rfl rfl ?_
  refine SX.val rfl (Val.move rfl) (by simp) rfl rfl ?_
  refine SX.val rfl (Val.move rfl) (by simp) rfl rfl ?_
  first
    | refine SX.val rfl (Val.subI rfl rfl (by simp only [InR, lo, hi]; omega)) (by simp) rfl rfl ?_
    | refine SX.val rfl (Val.subW rfl rfl) (by simp) rfl rfl ?_
  refine SX.val rfl (Val.indexBs (q := 0) tabOk Try.underlying59 rfl rfl rfl (by omega) (by decide)) (by first|(simp[mids,It.mids,ownPc];done)|(intro k hk;simp[mids,It.mids,ownPc] at hk ⊢;grind)) rfl rfl ?_
  refine SX.val rfl (Val.load1 tabOk rfl rfl (by first|(apply Or.inl;(repeat first|assumption|exact m0|apply m1);done)|(apply Or.inr;(repeat first|assumption|exact m0|apply m1);done)) List.not_mem_nil (by rfl)) (by simp) rfl rfl ?_
  refine SX.call rfl (less_s (x := y) (y := x)) (by simp [mids, It.mids]) Casts.refl (by kernel_rfl) rfl rfl rfl ?_
  refine After.pure (by repeat first|exact .nil|refine .blk (by repeat first|assumption|exact m0|apply m1) ?_|refine .rd (by repeat first|assumption|exact m0|apply m1) ?_|refine .pc (by repeat first|assumption|exact m0|apply m1) ?_|refine .rdpc (by repeat first|assumption|exact m0|apply m1) ?_) (fun _ => rfl) ?_
  intro _
  refine SX.val rfl (Val.pickT rfl rfl) (by simp) rfl rfl ?_
  refine SX.nil (SE.seq ?_)
  refine SC.cond rfl ?_ ?_
  rotate_left
  · intro hc30
    have hge : ¬ y < x := by simpa using hc30
    refine SC.exit ?_
    refine SE.then_ (by intro h; cases h) ?_
    refine SE.then_ (by intro h; cases h) ?_
    refine SE.exit ?_
    refine SE.inBlock ?_
    refine SE.seq ?_
    refine SC.region ?_
    refine SL.val (Val.move rfl) rfl rfl ?_
    first
      | refine SL.val (Val.addI rfl rfl (by simp only [InR, lo, hi]; omega)) rfl rfl ?_
      | refine SL.val (Val.addW rfl rfl) rfl rfl ?_
    refine SL.val (Val.assign rfl) rfl rfl ?_
    refine SL.nil ?_
    have hj0 := hj2
    refine SE.round (2) (by first | omega | (dsimp only; omega)) (by first | omega | (dsimp only; omega)) (by exact ⟨rfl, rfl, rfl, rfl, trivial⟩) (by first | (rw [show out2 x y 2 = in2 x y 0 from (in2_so (fun _ => hj0 rfl) (fun h => (h rfl).elim)).symm]; exact List.Sublist.refl _) | (rw [show out2 x y 2 = in2 x y 1 from (in2_so (fun h => by cases h) (fun _ => hge)).symm]; exact List.Sublist.refl _))
  intro hc30
  have hlt : y < x := by simpa using hc30
  refine SC.skip ?_
  refine SE.seq ?_
  refine SC.seq ?_
  refine SC.block ?_
  refine SC.draw [b] (.q 0 (.q 1 (.q 2 (.q 3 (.q 4 (.q 5 (.q 6 (.q 7 (.q 8 (.q 10 (.q 11 (.q 12 (.two 9 13 (.e 13 (.q 14 (.e 15 (.q 16 (.e 17 .nil))))) (.e 9 (.q 14 (.e 15 (.q 16 (.e 17 .nil)))))))))))))))))) (by kernel_rfl) (by kernel_rfl) ?_
  refine SX.val rfl (Val.move rfl) (by first|(simp[mids,It.mids,ownPc];done)|(intro k hk;simp[mids,It.mids,ownPc] at hk ⊢;grind)) rfl rfl ?_
  refine SX.val rfl (Val.move rfl) (by first|(simp[mids,It.mids,ownPc];done)|(intro k hk;simp[mids,It.mids,ownPc] at hk ⊢;grind)) rfl rfl ?_
  refine SX.val rfl (Val.move rfl) (by first|(simp[mids,It.mids,ownPc];done)|(intro k hk;simp[mids,It.mids,ownPc] at hk ⊢;grind)) rfl rfl ?_
  refine SX.val rfl (Val.move rfl) (by first|(simp[mids,It.mids,ownPc];done)|(intro k hk;simp[mids,It.mids,ownPc] at hk ⊢;grind)) rfl rfl ?_
  first
    | refine SX.val rfl (Val.subI rfl rfl (by simp only [InR, lo, hi]; omega)) (by first|(simp[mids,It.mids,ownPc];done)|(intro k hk;simp[mids,It.mids,ownPc] at hk ⊢;grind)) rfl rfl ?_
    | refine SX.val rfl (Val.subW rfl rfl) (by first|(simp[mids,It.mids,ownPc];done)|(intro k hk;simp[mids,It.mids,ownPc] at hk ⊢;grind)) rfl rfl ?_
  refine SX.val rfl (Val.move rfl) (by first|(simp[mids,It.mids,ownPc];done)|(intro k hk;simp[mids,It.mids,ownPc] at hk ⊢;grind)) rfl rfl ?_
  refine SX.val rfl (Val.move rfl) (by first|(simp[mids,It.mids,ownPc];done)|(intro k hk;simp[mids,It.mids,ownPc] at hk ⊢;grind)) rfl rfl ?_
  first
    | refine SX.val rfl (Val.subI rfl rfl (by simp only [InR, lo, hi]; omega)) (by first|(simp[mids,It.mids,ownPc];done)|(intro k hk;simp[mids,It.mids,ownPc] at hk ⊢;grind)) rfl rfl ?_
    | refine SX.val rfl (Val.subW rfl rfl) (by first|(simp[mids,It.mids,ownPc];done)|(intro k hk;simp[mids,It.mids,ownPc] at hk ⊢;grind)) rfl rfl ?_
  refine SX.val rfl (Val.indexBs (q := 0) tabOk Try.underlying59 rfl rfl rfl (by omega) (by decide)) (by first|(simp[mids,It.mids,ownPc];done)|(intro k hk;simp[mids,It.mids,ownPc] at hk ⊢;grind)) rfl rfl ?_
  refine SX.val rfl (Val.move rfl) (by first|(simp[mids,It.mids,ownPc];done)|(intro k hk;simp[mids,It.mids,ownPc] at hk ⊢;grind)) rfl rfl ?_
  refine SX.val rfl (Val.move rfl) (by first|(simp[mids,It.mids,ownPc];done)|(intro k hk;simp[mids,It.mids,ownPc] at hk ⊢;grind)) rfl rfl ?_
  refine SX.val rfl (Val.indexBs (q := 1) tabOk Try.underlying59 rfl rfl rfl (by omega) (by decide)) (by first|(simp[mids,It.mids,ownPc];done)|(intro k hk;simp[mids,It.mids,ownPc] at hk ⊢;grind)) rfl rfl ?_
  refine SX.two ?_ ?_
  · skip
    refine SX.valE rfl (Val.load1 tabOk rfl rfl (by first|(apply Or.inl;(repeat first|assumption|exact m0|apply m1);done)|(apply Or.inr;(repeat first|assumption|exact m0|apply m1);done)) List.not_mem_nil (by rfl)) rfl rfl ?_
    refine SX.valE rfl (Val.load1 tabOk rfl rfl (by first|(apply Or.inl;(repeat first|assumption|exact m0|apply m1);done)|(apply Or.inr;(repeat first|assumption|exact m0|apply m1);done)) List.not_mem_nil (by rfl)) rfl rfl ?_
    refine SX.val rfl (Val.indexBs (q := 1) tabOk Try.underlying59 rfl rfl rfl (by omega) (by decide)) (by first|(simp[mids,It.mids,ownPc];done)|(intro k hk;simp[mids,It.mids,ownPc] at hk ⊢;grind)) rfl rfl ?_
    refine SX.eff rfl (Eff.store tabOk rfl rfl rfl (by repeat first|assumption|exact Upd.here|apply Upd.there) (by rfl) (Nat.le_of_ble_eq_true (by rfl)) (by rfl) (by rfl)) (by simp) rfl rfl ?_
    rintro _ _ ⟨rfl, rfl⟩
    refine SX.val rfl (Val.indexBs (q := 0) tabOk Try.underlying59 rfl rfl rfl (by omega) (by decide)) (by first|(simp[mids,It.mids,ownPc];done)|(intro k hk;simp[mids,It.mids,ownPc] at hk ⊢;grind)) rfl rfl ?_
    refine SX.eff rfl (Eff.store tabOk rfl rfl rfl (by repeat first|assumption|exact Upd.here|apply Upd.there) (by rfl) (Nat.le_of_ble_eq_true (by rfl)) (by rfl) (by rfl)) (by simp) rfl rfl ?_
    rintro _ _ ⟨rfl, rfl⟩
    refine SX.nil ?_
    refine SE.inBlock ?_
    refine SE.seq ?_
    refine SC.region ?_
    refine SL.val (Val.move rfl) rfl rfl ?_
    first
      | refine SL.val (Val.subI rfl rfl (by simp only [InR, lo, hi]; omega)) rfl rfl ?_
      | refine SL.val (Val.subW rfl rfl) rfl rfl ?_
    refine SL.val (Val.assign rfl) rfl rfl ?_
    refine SL.nil ?_
    refine SE.round (0) (by first | omega | (dsimp only; omega)) (⟨by decide, fun _ => hlt⟩) (by exact ⟨rfl, rfl, rfl, rfl, rfl, trivial⟩) (by repeat first|exact s0 _|exact s1 _|apply s2|apply s3)
  · skip
    refine SX.valE rfl (Val.load1 tabOk rfl rfl (by first|(apply Or.inl;(repeat first|assumption|exact m0|apply m1);done)|(apply Or.inr;(repeat first|assumption|exact m0|apply m1);done)) List.not_mem_nil (by rfl)) rfl rfl ?_
    refine SX.valE rfl (Val.load1 tabOk rfl rfl (by first|(apply Or.inl;(repeat first|assumption|exact m0|apply m1);done)|(apply Or.inr;(repeat first|assumption|exact m0|apply m1);done)) List.not_mem_nil (by rfl)) rfl rfl ?_
    refine SX.val rfl (Val.indexBs (q := 1) tabOk Try.underlying59 rfl rfl rfl (by omega) (by decide)) (by first|(simp[mids,It.mids,ownPc];done)|(intro k hk;simp[mids,It.mids,ownPc] at hk ⊢;grind)) rfl rfl ?_
    refine SX.eff rfl (Eff.store tabOk rfl rfl rfl (by repeat first|assumption|exact Upd.here|apply Upd.there) (by rfl) (Nat.le_of_ble_eq_true (by rfl)) (by rfl) (by rfl)) (by simp) rfl rfl ?_
    rintro _ _ ⟨rfl, rfl⟩
    refine SX.val rfl (Val.indexBs (q := 0) tabOk Try.underlying59 rfl rfl rfl (by omega) (by decide)) (by first|(simp[mids,It.mids,ownPc];done)|(intro k hk;simp[mids,It.mids,ownPc] at hk ⊢;grind)) rfl rfl ?_
    refine SX.eff rfl (Eff.store tabOk rfl rfl rfl (by repeat first|assumption|exact Upd.here|apply Upd.there) (by rfl) (Nat.le_of_ble_eq_true (by rfl)) (by rfl) (by rfl)) (by simp) rfl rfl ?_
    rintro _ _ ⟨rfl, rfl⟩
    refine SX.nil ?_
    refine SE.inBlock ?_
    refine SE.seq ?_
    refine SC.region ?_
    refine SL.val (Val.move rfl) rfl rfl ?_
    first
      | refine SL.val (Val.subI rfl rfl (by simp only [InR, lo, hi]; omega)) rfl rfl ?_
      | refine SL.val (Val.subW rfl rfl) rfl rfl ?_
    refine SL.val (Val.assign rfl) rfl rfl ?_
    refine SL.nil ?_
    refine SE.round (0) (by first | omega | (dsimp only; omega)) (⟨by decide, fun _ => hlt⟩) (by exact ⟨rfl, rfl, rfl, rfl, rfl, trivial⟩) (by repeat first|exact s0 _|exact s1 _|apply s2|apply s3)
end
end Go.Proofs.Ytgfndlibbfamfaa.A
/-
  The program's keys: two numbers sorted, a table.
-/
set_option maxRecDepth 100000
set_option linter.unusedSimpArgs false
set_option linter.unusedVariables false
namespace Go.Proofs.Ytgfndlibbfamfaa.A
open Go.RowKit

theorem pair_lit (p : Nat × Nat) (h : pairOk p) : ∃ l, keyOf Try.prog 57 (pairV p) = some l := by
  obtain ⟨h1, h2⟩ := h
  have hk : (Try.prog.keyType 57 && (pairV p).formed Try.prog 57) = true := by kernel_rfl
  have hn : Try.prog.cellsOf 57 = 2 := by kernel_rfl
  have hn5 : Try.prog.cellsOf 55 = 1 := by kernel_rfl
  obtain ⟨m, hm⟩ := types_pos
  unfold keyOf
  simp only [Try.underlying57, if_pos hk, hm]
  have e1 : IntKind.u16.min ≤ (p.1 : Int) ∧ (p.1 : Int) ≤ IntKind.u16.max := ⟨by show (0 : Int) ≤ _; omega, by show _ ≤ (65535 : Int); omega⟩
  have e2 : IntKind.u16.min ≤ (p.2 : Int) ∧ (p.2 : Int) ≤ IntKind.u16.max := ⟨by show (0 : Int) ≤ _; omega, by show _ ≤ (65535 : Int); omega⟩
  simp [Program.keyLits, Try.underlying57, Try.underlying55, hn, hn5, pairV, Value.cells, Lit.wf, List.range, List.range.loop, e1, e2]
theorem pair_fit : KeyFit Try.prog 57 pairV pairOk where
  keyed := Maps.Keyed.of_law (deep_law_laid laid (m := 4) (by decide) (of_decide_eq_true (by kernel_rfl)) (by kernel_rfl) (by kernel_rfl))
  lit := pair_lit
  inj a b _ _ h := by
    unfold pairV at h
    injection h with h
    simp at h
    obtain ⟨a1, a2⟩ := a
    obtain ⟨b1, b2⟩ := b
    simp only at h
    obtain ⟨h1, h2⟩ := h
    obtain rfl : a1 = b1 := by omega
    obtain rfl : a2 = b2 := by omega
    rfl
theorem digA_is (d : List UInt8) : (Abs.agg (digA d)).is (tagV d) := by
  have h := is_agg (us := d.map bc)
  rw [List.map_map] at h
  exact h
def zTag : List UInt8 := List.replicate 32 0
theorem tag_is (o : Option (List UInt8)) : (Abs.agg (digA (o.getD zTag))).is ((o.map tagV).getD (tagV zTag)) := by
  cases o with
  | none => exact digA_is _
  | some d => exact digA_is d
theorem pairA_is (p : Nat × Nat) : (Abs.agg [h16 p.1, h16 p.2]).is (pairV p) := is_agg (us := [.int .u16 (p.1 : Nat), .int .u16 (p.2 : Nat)])
theorem tag_zero : ∀ w, (zeroValue 37).run Try.prog w = .ok (tagV zTag) w := fun w => by
  obtain ⟨zv, h1, h2⟩ := (tabOk 37 _ (by rfl)).zeroValue (w := w)
  kernel_rfl
/-- A table's keys, one more asked for. -/
def kput (seed : List UInt8) (M : List ((Nat × Nat) × List UInt8)) (p : Nat × Nat) : List ((Nat × Nat) × List UInt8) := if (aget M p).isSome then M else aput M p (hmac seed (twoB p))
def KOk (seed : List UInt8) (M : List ((Nat × Nat) × List UInt8)) : Prop := ∀ p d, aget M p = some d → d = hmac seed (twoB p)
theorem KOk.nil {seed : List UInt8} : KOk seed [] := fun p d h => by cases h
theorem KOk.put {seed : List UInt8} {M : List ((Nat × Nat) × List UInt8)} (h : KOk seed M) (p : Nat × Nat) : KOk seed (kput seed M p) := by
  unfold kput
  split
  · exact h
  · intro q d hq
    rw [aget_aput] at hq
    split at hq
    · next e => subst e; cases hq; rfl
    · exact h q d hq
theorem KOk.get {seed : List UInt8} {M : List ((Nat × Nat) × List UInt8)} (h : KOk seed M) (p : Nat × Nat) : ((aget M p).getD zTag).length = 32 := by
  cases e : aget M p with
  | none => rfl
  | some d => rw [h p d e]; exact hmac_length _ _
theorem so2_pair (a b : Int) : so2 (w16 a) (w16 b) = [h16 (pairOf a b).1, h16 (pairOf a b).2] := by
  unfold pairOf
  split <;> rfl
theorem After.at1 {ι : Type} {a x1 x2 : It} {β : Blks} {τ' : ι → Blks} {y1 y2 : ι → It} {K : Blks → ι → Prop} (hr : x1.rids = [] ∧ x2.rids = []) (hτ : ∀ z, τ' z = [y1 z, y2 z]) (k : ∀ z, K (a :: y1 z :: y2 z :: β) z) : After (a :: x1 :: x2 :: β) [x1, x2] τ' K :=
  After.mid [a] (β := β) rfl (by intro x hx; simp only [List.mem_cons, List.not_mem_nil, or_false] at hx; rcases hx with rfl | rfl; exact hr.1; exact hr.2) fun z => by rw [hτ z]; exact k z
section
variable {x y b0 c0 : Nat}
theorem len64_s  : Spec Try.prog 39 [wrd 2] [] (fun _ : Unit => []) (fun _ => int 2) := by
  refine spec_of Try.func39 rfl Try.ntmps39 rfl fun G w => ?_
  refine SC.seq (SC.region ?_)
  refine SL.val (Val.assign rfl) rfl rfl ?_
  refine SL.nil (SE.seq ?_)
  refine SC.seq ?_
  refine SC.seq (SC.region ?_)
  refine SL.val (Val.move rfl) rfl rfl ?_
  refine SL.val (Val.geI rfl rfl) rfl rfl ?_
  refine SL.nil (SE.seq ?_)
  refine SC.condP rfl (by intro hc4; exfalso; omega) ?_
  intro hc4
  refine SC.skip ?_
  refine SE.seq ?_
  refine SC.seq ?_
  refine SC.seq (SC.region ?_)
  refine SL.val (Val.move rfl) rfl rfl ?_
  refine SL.val (Val.geI rfl rfl) rfl rfl ?_
  refine SL.nil (SE.seq ?_)
  refine SC.condP rfl (by intro hc8; exfalso; omega) ?_
  intro hc8
  refine SC.skip ?_
  refine SE.seq ?_
  refine SC.seq ?_
  refine SC.seq (SC.region ?_)
  refine SL.val (Val.move rfl) rfl rfl ?_
  refine SL.val (Val.geI rfl rfl) rfl rfl ?_
  refine SL.nil (SE.seq ?_)
  refine SC.condP rfl (by intro hc14; exfalso; omega) ?_
  intro hc14
  refine SC.skip ?_
  refine SE.seq ?_
  refine SC.seq (SC.region ?_)
  refine SL.val (Val.move rfl) rfl rfl ?_
  refine SL.val (Val.move rfl) rfl rfl ?_
  first
    | refine SL.val (Val.convI rfl Try.underlying5 (by kernel_rfl) (by simp only [InR, lo, hi]; omega)) rfl rfl ?_
    | refine SL.val (Val.convW rfl Try.underlying5 (by kernel_rfl)) rfl rfl ?_
  refine SL.val (Val.indexSt (q := 2) rfl rfl rfl (by decide) Try.underlying9) rfl rfl ?_
  first
    | refine SL.val (Val.convI rfl Try.underlying3 (by kernel_rfl) (by simp only [InR, lo, hi]; omega)) rfl rfl ?_
    | refine SL.val (Val.convW rfl Try.underlying3 (by kernel_rfl)) rfl rfl ?_
  first
    | refine SL.val (Val.addI rfl rfl (by simp only [InR, lo, hi]; omega)) rfl rfl ?_
    | refine SL.val (Val.addW rfl rfl) rfl rfl ?_
  refine SL.val (Val.assign rfl) rfl rfl ?_
  refine SL.nil (SE.seq ?_)
  refine SC.ret ?_
  refine SE.fin (rs := [.tmp 2]) rfl (RV.tmp rfl RV.nil) (()) (by repeat first|exact s0 _|exact s1 _|apply s2|apply s3) (by simp [It.rids]) ?_
  exact rfl
theorem len_s  : Spec Try.prog 23 [wrd 2] [] (fun _ : Unit => []) (fun _ => int 2) := by
  refine spec_of Try.func23 rfl Try.ntmps23 rfl fun G w => ?_
  refine SC.seq (SC.region ?_)
  refine SL.val (Val.assign rfl) rfl rfl ?_
  refine SL.nil (SE.seq ?_)
  refine SC.seq ?_
  refine SC.condF rfl ?_
  refine SC.skip ?_
  refine SE.seq ?_
  refine SC.seq (SC.region ?_)
  refine SL.val (Val.move rfl) rfl rfl ?_
  refine SL.call (len64_s) Casts.refl (by kernel_rfl) rfl rfl rfl ?_
  refine After.pure (by repeat first|exact .nil|refine .blk (by repeat first|assumption|exact m0|apply m1) ?_|refine .rd (by repeat first|assumption|exact m0|apply m1) ?_|refine .pc (by repeat first|assumption|exact m0|apply m1) ?_|refine .rdpc (by repeat first|assumption|exact m0|apply m1) ?_) (fun _ => rfl) ?_
  intro _
  refine SL.val (Val.assign rfl) rfl rfl ?_
  refine SL.nil (SE.seq ?_)
  refine SC.ret ?_
  refine SE.fin (rs := [.tmp 2]) rfl (RV.tmp rfl RV.nil) (()) (by repeat first|exact s0 _|exact s1 _|apply s2|apply s3) (by simp [It.rids]) ?_
  exact rfl
theorem pdq_s  : Spec Try.prog 22 [.v (.slice (some ⟨b0, 0, none⟩) 2 c0), int 0, int 2, int 2] [.blk b0 57 ([h16 x, h16 y])] (fun _ : Unit => [.blk b0 57 (so2 x y)]) (fun _ => .tup []) := by
  refine spec_of Try.func22 rfl Try.ntmps22 rfl fun G w => ?_
  refine SC.seq (SC.region ?_)
  refine SL.val (Val.assign rfl) rfl rfl ?_
  refine SL.nil (SE.seq ?_)
  refine SC.seq (SC.region ?_)
  refine SL.val (Val.assign rfl) rfl rfl ?_
  refine SL.nil (SE.seq ?_)
  refine SC.block ?_
  refine SC.loop (ι := Unit) (fun z => [.blk b0 57 ([h16 x, h16 y])]) (fun z => [(0, .v (.slice (some ⟨b0, 0, none⟩) 2 c0)), (1, int 0), (2, int 2), (3, int 2)]) (fun z => True) (fun z => 0) (()) (trivial) (by exact ⟨rfl, rfl, rfl, rfl, trivial⟩) (by repeat first|exact s0 _|exact s1 _|apply s2|apply s3) ?_
  intro z hz
  refine SC.block ?_
  refine SC.seq (SC.region ?_)
  refine SL.val (Val.move rfl) rfl rfl ?_
  refine SL.val (Val.move rfl) rfl rfl ?_
  first
    | refine SL.val (Val.subI rfl rfl (by simp only [InR, lo, hi]; omega)) rfl rfl ?_
    | refine SL.val (Val.subW rfl rfl) rfl rfl ?_
  refine SL.val (Val.assign rfl) rfl rfl ?_
  refine SL.nil (SE.seq ?_)
  refine SC.seq ?_
  refine SC.seq (SC.region ?_)
  refine SL.val (Val.move rfl) rfl rfl ?_
  refine SL.val (Val.leI rfl rfl) rfl rfl ?_
  refine SL.nil (SE.seq ?_)
  refine SC.condP rfl ?_ (by intro hc23; exfalso; omega)
  intro hc23
  refine SC.seq (SC.region ?_)
  refine SL.val (Val.move rfl) rfl rfl ?_
  refine SL.val (Val.move rfl) rfl rfl ?_
  refine SL.val (Val.move rfl) rfl rfl ?_
  refine SL.call (insert_s (b := b0) (c := c0) (x := x) (y := y)) Casts.refl (by kernel_rfl) rfl rfl rfl ?_
  refine After.one rfl (by repeat first|assumption|exact m0|apply m1) (fun _ => rfl) ?_
  intro _
  refine ⟨_, (by repeat first|assumption|exact Upd.here|apply Upd.there), ?_⟩
  refine SL.nil (SE.seq ?_)
  refine SC.ret ?_
  refine SE.then_ (by intro h; cases h) ?_
  refine SE.ret ?_
  refine SE.then_ (by intro h; cases h) ?_
  refine SE.ret ?_
  refine SE.fin (rs := []) rfl RV.nil (()) (by repeat first|exact s0 _|exact s1 _|apply s2|apply s3) (by simp [It.rids]) ?_
  exact rfl
theorem sort_s  : Spec Try.prog 17 [.v (.slice (some ⟨b0, 0, none⟩) 2 c0)] [.blk b0 57 ([h16 x, h16 y])] (fun _ : Unit => [.blk b0 57 (so2 x y)]) (fun _ => .tup []) := by
  refine spec_of Try.func17 rfl Try.ntmps17 rfl fun G w => ?_
  refine SC.seq (SC.region ?_)
  refine SL.val (Val.move rfl) rfl rfl ?_
  first
    | refine SL.val (Val.lenSl rfl Try.underlying59 (List.length_map _)) rfl rfl ?_
    | refine SL.val (Val.lenOwn rfl (by repeat first|assumption|exact m0|apply m1) Try.underlying59 (List.length_map _)) rfl rfl ?_
    | refine SL.val (Val.lenNil rfl Try.underlying59) rfl rfl ?_
  refine SL.val (Val.assign rfl) rfl rfl ?_
  refine SL.nil (SE.seq ?_)
  refine SC.region ?_
  refine SL.val (Val.move rfl) rfl rfl ?_
  refine SL.val (Val.move rfl) rfl rfl ?_
  refine SL.val (Val.move rfl) rfl rfl ?_
  first
    | refine SL.val (Val.convI rfl Try.underlying70 (by kernel_rfl) (by simp only [InR, lo, hi]; omega)) rfl rfl ?_
    | refine SL.val (Val.convU rfl Try.underlying70 (by kernel_rfl)) rfl rfl ?_
  refine SL.call (len_s) Casts.refl (by kernel_rfl) rfl rfl rfl ?_
  refine After.pure (by repeat first|exact .nil|refine .blk (by repeat first|assumption|exact m0|apply m1) ?_|refine .rd (by repeat first|assumption|exact m0|apply m1) ?_|refine .pc (by repeat first|assumption|exact m0|apply m1) ?_|refine .rdpc (by repeat first|assumption|exact m0|apply m1) ?_) (fun _ => rfl) ?_
  intro _
  refine SL.call (pdq_s (b0 := b0) (c0 := c0) (x := x) (y := y)) Casts.refl (by kernel_rfl) rfl rfl rfl ?_
  refine After.one rfl (by repeat first|assumption|exact m0|apply m1) (fun _ => rfl) ?_
  intro _
  refine ⟨_, (by repeat first|assumption|exact Upd.here|apply Upd.there), ?_⟩
  refine SL.nil ?_
  refine SE.finN (rs := []) rfl RV.nil (()) (by repeat first|exact s0 _|exact s1 _|apply s2|apply s3) (by simp [It.rids]) ?_
  exact rfl
end
end Go.Proofs.Ytgfndlibbfamfaa.A
/-
  The program's keys, tags, checks.
-/
set_option maxRecDepth 100000
set_option linter.unusedSimpArgs false
set_option linter.unusedVariables false
namespace Go.Proofs.Ytgfndlibbfamfaa.A
open Go.RowKit

section
variable {seed l tg : List UInt8} {a b : Int} {t m b0 c0 : Nat} {M : List ((Nat × Nat) × List UInt8)}
theorem sortp_s : Spec Try.prog 17 [.v (.slice (some ⟨b0, 0, none⟩) 2 c0)] [.blk b0 57 [h16 (w16 a), h16 (w16 b)]] (fun _ : Unit => [.blk b0 57 [h16 (pairOf a b).1, h16 (pairOf a b).2]]) (fun _ => .tup []) := by
  have h := sort_s (b0 := b0) (c0 := c0) (x := w16 a) (y := w16 b)
  rw [so2_pair] at h
  exact h
theorem kput_new {p : Nat × Nat} (h : (aget M p).isSome = false) : aput M p (hmac seed (twoB p)) = kput seed M p := by
  unfold kput
  rw [if_neg (by rw [h]; decide)]
theorem kput_old {p : Nat × Nat} (h : (aget M p).isSome = true) : kput seed M p = M := if_pos h
theorem KOk.is (h : KOk seed M) {p : Nat × Nat} (h1 : (aget M p).isSome = true) : (aget M p).getD zTag = hmac seed (twoB p) := by
  cases e : aget M p with
  | none => rw [e] at h1; cases h1
  | some d => exact h p d e
/-- A table of keys. -/
abbrev kt (t m : Nat) (seed : List UInt8) (M : List ((Nat × Nat) × List UInt8)) : Blks := [.blk t 44 [byt seed, mapV m], .pc (mapPc m pairV tagV pairOk M)]
theorem key0_s  : Spec Try.prog 14 [.v (.pointer none), int a, int b] [] (fun _ : Unit => []) (fun _ => .agg (digA (keyB [] a b))) := by
  have hp := pair_lt a b
  refine spec_of Try.func14 rfl Try.ntmps14 rfl fun G w => ?_
  refine SC.seq (SC.region ?_)
  refine SL.eff (Eff.alloc tabOk rfl) rfl rfl ?_
  rintro _ _ ⟨b6, rfl, rfl⟩
  refine SL.nil (SE.seq ?_)
  refine SC.seq (SC.region ?_)
  refine SL.val (Val.move rfl) rfl rfl ?_
  refine SL.val (Val.to (C := h16 (w16 a)) (Val.convW rfl Try.underlying55 (by kernel_rfl)) (congrArg (fun q => Abs.v (.int .u16 q)) (w16_wrap a))) rfl rfl ?_
  refine SL.val (Val.move rfl) rfl rfl ?_
  refine SL.val (Val.to (C := h16 (w16 b)) (Val.convW rfl Try.underlying55 (by kernel_rfl)) (congrArg (fun q => Abs.v (.int .u16 q)) (w16_wrap b))) rfl rfl ?_
  refine SL.val (Val.buildA tabOk rfl rfl rfl rfl) rfl rfl ?_
  refine SL.eff (Eff.alloc tabOk rfl) rfl rfl ?_
  rintro _ _ ⟨b7, rfl, rfl⟩
  refine SL.eff (Eff.store tabOk rfl rfl rfl (by repeat first|assumption|exact Upd.here|apply Upd.there) (by rfl) (Nat.le_of_ble_eq_true (by rfl)) (by rfl) (by rfl)) rfl rfl ?_
  rintro _ _ ⟨rfl, rfl⟩
  refine SL.nil (SE.seq ?_)
  refine SC.seq (SC.region ?_)
  refine SL.val (Val.sliceArr tabOk Try.underlying57 rfl rfl) rfl rfl ?_
  refine SL.call (sortp_s (b0 := b7) (c0 := 2) (a := a) (b := b)) Casts.refl (by kernel_rfl) rfl rfl rfl ?_
  refine After.one rfl (by repeat first|assumption|exact m0|apply m1) (fun _ => rfl) ?_
  intro _
  refine ⟨_, (by repeat first|assumption|exact Upd.here|apply Upd.there), ?_⟩
  refine SL.nil (SE.seq ?_)
  refine SC.seq ?_
  refine SC.seq (SC.region ?_)
  refine SL.val (Val.move rfl) rfl rfl ?_
  refine SL.val (Val.eqP rfl rfl (by kernel_rfl)) rfl rfl ?_
  refine SL.nil (SE.seq ?_)
  refine SC.condT rfl ?_
  refine SC.seq (SC.region ?_)
  refine SL.val (Val.indexArP (q := 0) tabOk Try.underlying57 rfl rfl rfl (by first | rfl | omega) (by decide) rfl) rfl rfl ?_
  refine SL.val (Val.load1 tabOk rfl rfl (by first|(apply Or.inl;(repeat first|assumption|exact m0|apply m1);done)|(apply Or.inr;(repeat first|assumption|exact m0|apply m1);done)) List.not_mem_nil (by rfl)) rfl rfl ?_
  refine SL.val (Val.indexArP (q := 1) tabOk Try.underlying57 rfl rfl rfl (by first | rfl | omega) (by decide) rfl) rfl rfl ?_
  refine SL.val (Val.load1 tabOk rfl rfl (by first|(apply Or.inl;(repeat first|assumption|exact m0|apply m1);done)|(apply Or.inr;(repeat first|assumption|exact m0|apply m1);done)) List.not_mem_nil (by rfl)) rfl rfl ?_
  refine SL.call (both_s (x := (pairOf a b).1) (y := (pairOf a b).2) hp.1 hp.2) Casts.refl (by kernel_rfl) rfl rfl rfl ?_
  refine After.make (by repeat first|exact .nil|refine .blk (by repeat first|assumption|exact m0|apply m1) ?_|refine .rd (by repeat first|assumption|exact m0|apply m1) ?_|refine .pc (by repeat first|assumption|exact m0|apply m1) ?_|refine .rdpc (by repeat first|assumption|exact m0|apply m1) ?_) (fun _ => rfl) ?_
  intro r23
  refine SL.freeze [] (t := 23) rfl rfl ?_
  refine SL.call (mac_s (k := []) (l := twoB (pairOf a b)) (by simp) (by rw [twoB_length]; omega)) (Casts.nils (s := 1) Casts.refl) (by kernel_rfl) rfl rfl rfl ?_
  refine After.pure (by repeat first|exact .nil|refine .blk (by repeat first|assumption|exact m0|apply m1) ?_|refine .rd (by repeat first|assumption|exact m0|apply m1) ?_|refine .pc (by repeat first|assumption|exact m0|apply m1) ?_|refine .rdpc (by repeat first|assumption|exact m0|apply m1) ?_) (fun _ => rfl) ?_
  intro _
  refine SL.eff (Eff.store (L' := digA (keyB [] a b)) tabOk rfl rfl rfl (by repeat first|assumption|exact Upd.here|apply Upd.there) (dig_out _ (by omega)) (Nat.le_of_ble_eq_true (by rfl)) (by exact ones_dig _) (putL_whole (by exact (dig_out _ (by omega))))) rfl rfl ?_
  rintro _ _ ⟨rfl, rfl⟩
  refine SL.nil (SE.seq ?_)
  refine SC.ret ?_
  refine SE.then_ (by intro h; cases h) ?_
  refine SE.fin (rs := [.cell 6 37]) rfl (RV.cell rfl (RV.cellA tabOk rfl rfl (by first|(apply Or.inl;(repeat first|assumption|exact m0|apply m1);done)|(apply Or.inr;(repeat first|assumption|exact m0|apply m1);done)) (dig_out _ (by omega))) RV.nil) (()) (by repeat first|exact s0 _|exact s1 _|apply s2|apply s3) (by simp [It.rids]) ?_
  exact rfl
set_option maxHeartbeats 1000000 in
theorem key_s (hs : seed.length ≤ 1000000) (hk : KOk seed M) : Spec Try.prog 14 [ptr t, int a, int b] [.blk t 44 [byt seed, mapV m], .pc (mapPc m pairV tagV pairOk (M))] (fun _ : Unit => [.blk t 44 [byt seed, mapV m], .pc (mapPc m pairV tagV pairOk (kput seed M (pairOf a b)))]) (fun _ => .agg (digA (keyB seed a b))) := by
  have hp := pair_lt a b
  have hgl := hk.get (pairOf a b)
  refine spec_of Try.func14 rfl Try.ntmps14 rfl fun G w => ?_
  refine SC.seq (SC.region ?_)
  refine SL.eff (Eff.alloc tabOk rfl) rfl rfl ?_
  rintro _ _ ⟨b6, rfl, rfl⟩
  refine SL.nil (SE.seq ?_)
  refine SC.seq (SC.region ?_)
  refine SL.val (Val.move rfl) rfl rfl ?_
  refine SL.val (Val.to (C := h16 (w16 a)) (Val.convW rfl Try.underlying55 (by kernel_rfl)) (congrArg (fun q => Abs.v (.int .u16 q)) (w16_wrap a))) rfl rfl ?_
  refine SL.val (Val.move rfl) rfl rfl ?_
  refine SL.val (Val.to (C := h16 (w16 b)) (Val.convW rfl Try.underlying55 (by kernel_rfl)) (congrArg (fun q => Abs.v (.int .u16 q)) (w16_wrap b))) rfl rfl ?_
  refine SL.val (Val.buildA tabOk rfl rfl rfl rfl) rfl rfl ?_
  refine SL.eff (Eff.alloc tabOk rfl) rfl rfl ?_
  rintro _ _ ⟨b7, rfl, rfl⟩
  refine SL.eff (Eff.store tabOk rfl rfl rfl (by repeat first|assumption|exact Upd.here|apply Upd.there) (by rfl) (Nat.le_of_ble_eq_true (by rfl)) (by rfl) (by rfl)) rfl rfl ?_
  rintro _ _ ⟨rfl, rfl⟩
  refine SL.nil (SE.seq ?_)
  refine SC.seq (SC.region ?_)
  refine SL.val (Val.sliceArr tabOk Try.underlying57 rfl rfl) rfl rfl ?_
  refine SL.call (sortp_s (b0 := b7) (c0 := 2) (a := a) (b := b)) Casts.refl (by kernel_rfl) rfl rfl rfl ?_
  refine After.one rfl (by repeat first|assumption|exact m0|apply m1) (fun _ => rfl) ?_
  intro _
  refine ⟨_, (by repeat first|assumption|exact Upd.here|apply Upd.there), ?_⟩
  refine SL.nil (SE.seq ?_)
  refine SC.seq ?_
  refine SC.seq (SC.region ?_)
  refine SL.val (Val.move rfl) rfl rfl ?_
  refine SL.val (Val.eqP rfl rfl (by kernel_rfl)) rfl rfl ?_
  refine SL.nil (SE.seq ?_)
  refine SC.condF rfl ?_
  refine SC.skip ?_
  refine SE.seq ?_
  refine SC.seq ?_
  refine SC.draw [] (.q 0 (.q 1 (.q 2 (.q 3 (.q 4 (.q 5 (.q 6 (.q 7 (.q 8 (.e 9 (.e 10 (.q 11 .nil)))))))))))) (by kernel_rfl) (by kernel_rfl) ?_
  refine SX.val rfl (Val.move rfl) (by simp) rfl rfl ?_
  refine SX.val rfl (Val.nilCheck rfl) (by simp) rfl rfl ?_
  refine SX.val rfl (Val.fieldAddr tabOk rfl rfl rfl rfl rfl) (by simp) rfl rfl ?_
  refine SX.val rfl (Val.load1 tabOk rfl rfl (by first|(apply Or.inl;(repeat first|assumption|exact m0|apply m1);done)|(apply Or.inr;(repeat first|assumption|exact m0|apply m1);done)) List.not_mem_nil (by rfl)) (by simp) rfl rfl ?_
  first
    | refine SX.val rfl (Val.loadA tabOk rfl rfl rfl (by first|(apply Or.inl;(repeat first|assumption|exact m0|apply m1);done)|(apply Or.inr;(repeat first|assumption|exact m0|apply m1);done)) List.not_mem_nil (by rfl)) (by simp) rfl rfl ?_
    | refine SX.val rfl (Val.loadP tabOk rfl rfl rfl (by first|(apply Or.inl;(repeat first|assumption|exact m0|apply m1);done)|(apply Or.inr;(repeat first|assumption|exact m0|apply m1);done)) List.not_mem_nil (Nat.le_of_ble_eq_true (by rfl))) (by simp) rfl rfl ?_
  refine SX.val rfl (Val.mapGetOk (a := (pairOf a b)) (zv := tagV zTag) (C := .agg (digA ((aget M (pairOf a b)).getD zTag))) pair_fit Try.underlying42 tag_zero rfl (by first|(apply Or.inl;(repeat first|assumption|exact m0|apply m1);done)|(apply Or.inr;(repeat first|assumption|exact m0|apply m1);done)) List.not_mem_nil rfl (pairA_is _) hp (tag_is _)) (by first | (simp [mids, It.mids, ownPc, mapPc]; done) | (intro k hk; simp [mids, It.mids, ownPc, mapPc] at hk ⊢; grind)) rfl rfl ?_
  refine SX.val rfl (Val.move rfl) (by simp) rfl rfl ?_
  refine SX.val rfl (Val.extract rfl rfl) (by simp) rfl rfl ?_
  refine SX.val rfl (Val.extract rfl rfl) (by simp) rfl rfl ?_
  refine SX.alloc tabOk rfl rfl rfl rfl fun b8 => ?_
  refine SX.eff rfl (Eff.store (L' := digA (((aget M (pairOf a b)).getD zTag))) tabOk rfl rfl rfl (by repeat first|assumption|exact Upd.here|apply Upd.there) ((digA_length _).trans hgl) (Nat.le_of_ble_eq_true (by rfl)) (by exact ones_dig _) (putL_whole (by exact ((digA_length _).trans hgl)))) (by simp) rfl rfl ?_
  rintro _ _ ⟨rfl, rfl⟩
  refine SX.val rfl (Val.assign rfl) (by first | (simp [mids, It.mids, ownPc, mapPc]; done) | (intro k hk; simp [mids, It.mids, ownPc, mapPc] at hk ⊢; grind)) rfl rfl ?_
  refine SX.nil (SE.seq ?_)
  refine SC.cutS (ι := Unit) (fun z => [.blk b8 37 (digA (keyB seed a b)), .blk b6 37 (digA zTag), .blk t 44 [byt seed, mapV m], .pc (mapPc m pairV tagV pairOk (kput seed M (pairOf a b)))]) (fun z => [(0, ptr t), (6, ptr b6), (8, ptr b8)]) (fun z => True) ?_ ?_
  · skip
    refine SC.seq (SC.region ?_)
    refine SL.val (Val.move rfl) rfl rfl ?_
    refine SL.val (Val.notB rfl) rfl rfl ?_
    refine SL.nil (SE.seq ?_)
    refine SC.cond rfl ?_ ?_
    rotate_left
    · intro hc35
      have hyes : (aget M (pairOf a b)).isSome = true := by simpa using hc35
      refine SC.skip ?_
      refine SE.meet () trivial ⟨rfl, rfl, rfl, trivial⟩ ?_
      rw [kput_old hyes, show keyB seed a b = ((aget M (pairOf a b)).getD zTag) from (hk.is hyes).symm]
      repeat (first | exact List.nil_sublist _ | exact List.Sublist.refl _ | apply List.Sublist.cons_cons | apply List.Sublist.cons)
    intro hc35
    have hno : (aget M (pairOf a b)).isSome = false := by simpa using hc35
    refine SC.seq ?_
    refine SC.drawZ [] (.q 0 (.q 1 (.q 2 (.q 3 (.q 4 (.q 5 (.q 6 (.q 7 (.e 8 (.e 9 .nil)))))))))) (by kernel_rfl) (by kernel_rfl) ?_
    refine SX.val rfl (Val.move rfl) (by simp) rfl rfl ?_
    refine SX.val rfl (Val.nilCheck rfl) (by simp) rfl rfl ?_
    refine SX.val rfl (Val.fieldAddr tabOk rfl rfl rfl rfl rfl) (by simp) rfl rfl ?_
    refine SX.val rfl (Val.load1 tabOk rfl rfl (by first|(apply Or.inl;(repeat first|assumption|exact m0|apply m1);done)|(apply Or.inr;(repeat first|assumption|exact m0|apply m1);done)) List.not_mem_nil (by rfl)) (by simp) rfl rfl ?_
    refine SX.val rfl (Val.indexArP (q := 0) tabOk Try.underlying57 rfl rfl rfl (by first | rfl | omega) (by decide) rfl) (by first | (simp [mids, It.mids, ownPc, mapPc]; done) | (intro k hk; simp [mids, It.mids, ownPc, mapPc] at hk ⊢; grind)) rfl rfl ?_
    refine SX.val rfl (Val.load1 tabOk rfl rfl (by first|(apply Or.inl;(repeat first|assumption|exact m0|apply m1);done)|(apply Or.inr;(repeat first|assumption|exact m0|apply m1);done)) List.not_mem_nil (by rfl)) (by simp) rfl rfl ?_
    refine SX.val rfl (Val.indexArP (q := 1) tabOk Try.underlying57 rfl rfl rfl (by first | rfl | omega) (by decide) rfl) (by first | (simp [mids, It.mids, ownPc, mapPc]; done) | (intro k hk; simp [mids, It.mids, ownPc, mapPc] at hk ⊢; grind)) rfl rfl ?_
    refine SX.val rfl (Val.load1 tabOk rfl rfl (by first|(apply Or.inl;(repeat first|assumption|exact m0|apply m1);done)|(apply Or.inr;(repeat first|assumption|exact m0|apply m1);done)) List.not_mem_nil (by rfl)) (by simp) rfl rfl ?_
    refine SX.callM rfl (both_s (x := (pairOf a b).1) (y := (pairOf a b).2) hp.1 hp.2) (by simp [mids, It.mids]) Casts.refl (by kernel_rfl) rfl rfl rfl ?_
    refine After.make (by repeat first|exact .nil|refine .blk (by repeat first|assumption|exact m0|apply m1) ?_|refine .rd (by repeat first|assumption|exact m0|apply m1) ?_|refine .pc (by repeat first|assumption|exact m0|apply m1) ?_|refine .rdpc (by repeat first|assumption|exact m0|apply m1) ?_) (fun _ => rfl) ?_
    intro r44
    refine SX.freeze [] (t := 44) rfl rfl ?_
    refine SX.call rfl (mac_s (k := seed) (l := twoB (pairOf a b)) hs (by rw [twoB_length]; omega)) (by simp [mids, It.mids]) Casts.refl (by kernel_rfl) rfl rfl rfl ?_
    refine After.pure (by repeat first|exact .nil|refine .blk (by repeat first|assumption|exact m0|apply m1) ?_|refine .rd (by repeat first|assumption|exact m0|apply m1) ?_|refine .pc (by repeat first|assumption|exact m0|apply m1) ?_|refine .rdpc (by repeat first|assumption|exact m0|apply m1) ?_) (fun _ => rfl) ?_
    intro _
    refine SX.nil ?_
    refine SE.effZ rfl (Eff.store (L' := digA (hmac seed (twoB (pairOf a b)))) tabOk rfl rfl rfl (by repeat first|assumption|exact Upd.here|apply Upd.there) (dig_out _ (by omega)) (by rw [digA_length, hgl]; exact Nat.le_refl 32) (by exact ones_dig _) (putL_whole (by exact (dig_out _ (by omega)).trans ((digA_length _).trans hgl).symm))) rfl rfl ?_
    rintro _ _ ⟨rfl, rfl⟩
    refine SE.seq ?_
    refine SC.drawZ [] (.q 0 (.q 1 (.q 2 (.q 3 (.q 4 (.q 5 .nil)))))) (by kernel_rfl) (by kernel_rfl) ?_
    refine SX.val rfl (Val.move rfl) (by simp) rfl rfl ?_
    refine SX.val rfl (Val.nilCheck rfl) (by simp) rfl rfl ?_
    refine SX.val rfl (Val.fieldAddr tabOk rfl rfl rfl rfl rfl) (by simp) rfl rfl ?_
    refine SX.val rfl (Val.load1 tabOk rfl rfl (by first|(apply Or.inl;(repeat first|assumption|exact m0|apply m1);done)|(apply Or.inr;(repeat first|assumption|exact m0|apply m1);done)) List.not_mem_nil (by rfl)) (by simp) rfl rfl ?_
    first
      | refine SX.val rfl (Val.loadA tabOk rfl rfl rfl (by first|(apply Or.inl;(repeat first|assumption|exact m0|apply m1);done)|(apply Or.inr;(repeat first|assumption|exact m0|apply m1);done)) List.not_mem_nil (by rfl)) (by simp) rfl rfl ?_
      | refine SX.val rfl (Val.loadP tabOk rfl rfl rfl (by first|(apply Or.inl;(repeat first|assumption|exact m0|apply m1);done)|(apply Or.inr;(repeat first|assumption|exact m0|apply m1);done)) List.not_mem_nil (Nat.le_of_ble_eq_true (by rfl))) (by simp) rfl rfl ?_
    refine SX.val rfl (Val.loadA tabOk rfl rfl rfl (by first|(apply Or.inl;(repeat first|assumption|exact m0|apply m1);done)|(apply Or.inr;(repeat first|assumption|exact m0|apply m1);done)) List.not_mem_nil (dig_out _ (by omega))) (by first | (simp [mids, It.mids, ownPc, mapPc]; done) | (intro k hk; simp [mids, It.mids, ownPc, mapPc] at hk ⊢; grind)) rfl rfl ?_
    refine SX.nil ?_
    refine SE.effZ rfl (Eff.mapPut (a := (pairOf a b)) (m' := kput seed M (pairOf a b)) (v := (hmac seed (twoB (pairOf a b)))) pair_fit Try.underlying42 rfl (by repeat first|assumption|exact Upd.here|apply Upd.there) rfl (pairA_is _) hp rfl (digA_is _) (kput_new hno)) rfl rfl ?_
    rintro _ _ ⟨rfl, rfl⟩
    refine SE.meet (()) (trivial) (by exact ⟨rfl, rfl, rfl, trivial⟩) (by repeat first|exact s0 _|exact s1 _|apply s2|apply s3)
  · intro z0 hz0
    refine SC.seq (SC.region ?_)
    refine SL.val (Val.loadA tabOk rfl rfl rfl (by first|(apply Or.inl;(repeat first|assumption|exact m0|apply m1);done)|(apply Or.inr;(repeat first|assumption|exact m0|apply m1);done)) List.not_mem_nil (dig_out _ (by omega))) rfl rfl ?_
    refine SL.eff (Eff.store (L' := digA (keyB seed a b)) tabOk rfl rfl rfl (by repeat first|assumption|exact Upd.here|apply Upd.there) (dig_out _ (by omega)) (Nat.le_of_ble_eq_true (by rfl)) (by exact ones_dig _) (putL_whole (by exact (dig_out _ (by omega))))) rfl rfl ?_
    rintro _ _ ⟨rfl, rfl⟩
    refine SL.nil (SE.seq ?_)
    refine SC.ret ?_
    refine SE.fin (rs := [.cell 6 37]) rfl (RV.cell rfl (RV.cellA tabOk rfl rfl (by first|(apply Or.inl;(repeat first|assumption|exact m0|apply m1);done)|(apply Or.inr;(repeat first|assumption|exact m0|apply m1);done)) (dig_out _ (by omega))) RV.nil) (()) (by repeat first|exact s0 _|exact s1 _|apply s2|apply s3) (by simp [It.rids]) ?_
    exact rfl
set_option maxHeartbeats 1000000 in
theorem tag0_s (hl : l.length ≤ 100000) : Spec Try.prog 11 [.v (.pointer none), int a, int b, byt l] [] (fun _ : Unit => []) (fun _ => .agg (digA (ktagB [] a b l))) := by
  refine spec_of Try.func11 rfl Try.ntmps11 rfl fun G w => ?_
  refine SC.seq (SC.region ?_)
  refine SL.eff (Eff.alloc tabOk rfl) rfl rfl ?_
  rintro _ _ ⟨b8, rfl, rfl⟩
  refine SL.nil (SE.seq ?_)
  refine SC.seq (SC.region ?_)
  refine SL.val (Val.move rfl) rfl rfl ?_
  refine SL.val (Val.move rfl) rfl rfl ?_
  refine SL.val (Val.move rfl) rfl rfl ?_
  refine SL.call (key0_s (a := a) (b := b)) Casts.refl (by kernel_rfl) rfl rfl rfl ?_
  refine After.pure (by repeat first|exact .nil|refine .blk (by repeat first|assumption|exact m0|apply m1) ?_|refine .rd (by repeat first|assumption|exact m0|apply m1) ?_|refine .pc (by repeat first|assumption|exact m0|apply m1) ?_|refine .rdpc (by repeat first|assumption|exact m0|apply m1) ?_) (fun _ => rfl) ?_
  intro _
  refine SL.eff (Eff.alloc tabOk rfl) rfl rfl ?_
  rintro _ _ ⟨b9, rfl, rfl⟩
  refine SL.eff (Eff.store (L' := digA (keyB [] a b)) tabOk rfl rfl rfl (by repeat first|assumption|exact Upd.here|apply Upd.there) (dig_out _ (by omega)) (Nat.le_of_ble_eq_true (by rfl)) (by exact ones_dig _) (putL_whole (by exact (dig_out _ (by omega))))) rfl rfl ?_
  rintro _ _ ⟨rfl, rfl⟩
  refine SL.nil (SE.seq ?_)
  refine SC.seq ?_
  refine SC.freezeB [] 9 rfl rfl ?_
  refine SC.drawZ [] (.q 0 (.q 1 (.q 2 (.q 3 (.q 4 (.q 6 (.e 5 (.e 7 (.e 8 .nil))))))))) (by kernel_rfl) (by kernel_rfl) ?_
  refine SX.val rfl (Val.to (C := byt (keyB [] a b)) (Val.sliceArrR tabOk Try.underlying37 rfl rfl rfl rfl rfl (by rw [digA_length]; exact Nat.le_of_eq (keyB_length [] a b).symm)) (congrArg (Abs.sl 1) (by rw [List.take_of_length_le (by rw [digA_length]; exact Nat.le_of_eq (keyB_length [] a b)), dig_cells]))) (by first | (simp [mids, It.mids, ownPc, mapPc]; done) | (intro k hk; simp [mids, It.mids, ownPc, mapPc] at hk ⊢; grind)) rfl rfl ?_
  refine SX.val rfl (Val.move rfl) (by simp) rfl rfl ?_
  refine SX.val rfl (Val.to (C := h16 (w16 a)) (Val.convW rfl Try.underlying55 (by kernel_rfl)) (congrArg (fun q => Abs.v (.int .u16 q)) (w16_wrap a))) (by first | (simp [mids, It.mids, ownPc, mapPc]; done) | (intro k hk; simp [mids, It.mids, ownPc, mapPc] at hk ⊢; grind)) rfl rfl ?_
  refine SX.val rfl (Val.move rfl) (by simp) rfl rfl ?_
  refine SX.val rfl (Val.to (C := h16 (w16 b)) (Val.convW rfl Try.underlying55 (by kernel_rfl)) (congrArg (fun q => Abs.v (.int .u16 q)) (w16_wrap b))) (by first | (simp [mids, It.mids, ownPc, mapPc]; done) | (intro k hk; simp [mids, It.mids, ownPc, mapPc] at hk ⊢; grind)) rfl rfl ?_
  refine SX.val rfl (Val.move rfl) (by simp) rfl rfl ?_
  refine SX.callM rfl (both_s (x := w16 a) (y := w16 b) (w16_lt a) (w16_lt b)) (by simp [mids, It.mids]) Casts.refl (by kernel_rfl) rfl rfl rfl ?_
  refine After.make (by repeat first|exact .nil|refine .blk (by repeat first|assumption|exact m0|apply m1) ?_|refine .rd (by repeat first|assumption|exact m0|apply m1) ?_|refine .pc (by repeat first|assumption|exact m0|apply m1) ?_|refine .rdpc (by repeat first|assumption|exact m0|apply m1) ?_) (fun _ => rfl) ?_
  intro r19
  refine SX.effX [] rfl (Eff.appendE (zs := bs (twoB (w16 a, w16 b) ++ l)) tabOk [] (List.map_append.symm) Try.underlying22 rfl rfl rfl rfl rfl rfl (bs_ones _) (by unfold maxLen; simp only [bs, List.length_map, List.length_append, List.length_cons, List.length_nil, List.length_replicate, List.length_drop, List.length_take, padK_length, sha_length, twoB_length]; omega) (by rw [show Try.prog.bytesOf 5 = 1 by kernel_rfl]; simp only [bs, List.length_map, List.length_append, List.length_cons, List.length_nil, List.length_replicate, List.length_drop, List.length_take, padK_length, sha_length, twoB_length]; omega)) (fun k hk => by simpa [mids, It.mids, ownPc] using hk) (by simp) rfl rfl ?_
  rintro _ _ ⟨r21, rfl, rfl⟩
  refine SX.freeze [] (t := 21) rfl rfl ?_
  refine SX.call rfl (mac_s (k := keyB [] a b) (l := twoB (w16 a, w16 b) ++ l) (by rw [keyB_length]; omega) (by rw [List.length_append, twoB_length]; omega)) (by simp [mids, It.mids]) Casts.refl (by kernel_rfl) rfl rfl rfl ?_
  refine After.pure (by repeat first|exact .nil|refine .blk (by repeat first|assumption|exact m0|apply m1) ?_|refine .rd (by repeat first|assumption|exact m0|apply m1) ?_|refine .pc (by repeat first|assumption|exact m0|apply m1) ?_|refine .rdpc (by repeat first|assumption|exact m0|apply m1) ?_) (fun _ => rfl) ?_
  intro _
  refine SX.nil ?_
  refine SE.effZ rfl (Eff.store (L' := digA (ktagB [] a b l)) tabOk rfl rfl rfl (by repeat first|assumption|exact Upd.here|apply Upd.there) (dig_out _ (by omega)) (Nat.le_of_ble_eq_true (by rfl)) (by exact ones_dig _) (putL_whole (by exact (dig_out _ (by omega))))) rfl rfl ?_
  rintro _ _ ⟨rfl, rfl⟩
  refine SE.seq ?_
  refine SC.ret ?_
  refine SE.fin (rs := [.cell 8 37]) rfl (RV.cell rfl (RV.cellA tabOk rfl rfl (by first|(apply Or.inl;(repeat first|assumption|exact m0|apply m1);done)|(apply Or.inr;(repeat first|assumption|exact m0|apply m1);done)) (dig_out _ (by omega))) RV.nil) (()) (by repeat first|exact s0 _|exact s1 _|apply s2|apply s3) (by simp [It.rids]) ?_
  exact rfl
set_option maxHeartbeats 1000000 in
theorem tag_s (hs : seed.length ≤ 1000000) (hk : KOk seed M) (hl : l.length ≤ 100000) : Spec Try.prog 11 [ptr t, int a, int b, byt l] [.blk t 44 [byt seed, mapV m], .pc (mapPc m pairV tagV pairOk (M))] (fun _ : Unit => [.blk t 44 [byt seed, mapV m], .pc (mapPc m pairV tagV pairOk (kput seed M (pairOf a b)))]) (fun _ => .agg (digA (ktagB seed a b l))) := by
  refine spec_of Try.func11 rfl Try.ntmps11 rfl fun G w => ?_
  refine SC.seq (SC.region ?_)
  refine SL.eff (Eff.alloc tabOk rfl) rfl rfl ?_
  rintro _ _ ⟨b8, rfl, rfl⟩
  refine SL.nil (SE.seq ?_)
  refine SC.seq (SC.region ?_)
  refine SL.val (Val.move rfl) rfl rfl ?_
  refine SL.val (Val.move rfl) rfl rfl ?_
  refine SL.val (Val.move rfl) rfl rfl ?_
  refine SL.call (key_s (t := t) (m := m) (a := a) (b := b) hs hk) Casts.refl (by kernel_rfl) rfl rfl rfl ?_
  refine After.at1 ⟨rfl, rfl⟩ (fun _ => rfl) ?_
  intro _
  refine SL.eff (Eff.alloc tabOk rfl) rfl rfl ?_
  rintro _ _ ⟨b9, rfl, rfl⟩
  refine SL.eff (Eff.store (L' := digA (keyB seed a b)) tabOk rfl rfl rfl (by repeat first|assumption|exact Upd.here|apply Upd.there) (dig_out _ (by omega)) (Nat.le_of_ble_eq_true (by rfl)) (by exact ones_dig _) (putL_whole (by exact (dig_out _ (by omega))))) rfl rfl ?_
  rintro _ _ ⟨rfl, rfl⟩
  refine SL.nil (SE.seq ?_)
  refine SC.seq ?_
  refine SC.freezeB [] 9 rfl rfl ?_
  refine SC.drawZ [] (.q 0 (.q 1 (.q 2 (.q 3 (.q 4 (.q 6 (.e 5 (.e 7 (.e 8 .nil))))))))) (by kernel_rfl) (by kernel_rfl) ?_
  refine SX.val rfl (Val.to (C := byt (keyB seed a b)) (Val.sliceArrR tabOk Try.underlying37 rfl rfl rfl rfl rfl (by rw [digA_length]; exact Nat.le_of_eq (keyB_length seed a b).symm)) (congrArg (Abs.sl 1) (by rw [List.take_of_length_le (by rw [digA_length]; exact Nat.le_of_eq (keyB_length seed a b)), dig_cells]))) (by first | (simp [mids, It.mids, ownPc, mapPc]; done) | (intro k hk; simp [mids, It.mids, ownPc, mapPc] at hk ⊢; grind)) rfl rfl ?_
  refine SX.val rfl (Val.move rfl) (by simp) rfl rfl ?_
  refine SX.val rfl (Val.to (C := h16 (w16 a)) (Val.convW rfl Try.underlying55 (by kernel_rfl)) (congrArg (fun q => Abs.v (.int .u16 q)) (w16_wrap a))) (by first | (simp [mids, It.mids, ownPc, mapPc]; done) | (intro k hk; simp [mids, It.mids, ownPc, mapPc] at hk ⊢; grind)) rfl rfl ?_
  refine SX.val rfl (Val.move rfl) (by simp) rfl rfl ?_
  refine SX.val rfl (Val.to (C := h16 (w16 b)) (Val.convW rfl Try.underlying55 (by kernel_rfl)) (congrArg (fun q => Abs.v (.int .u16 q)) (w16_wrap b))) (by first | (simp [mids, It.mids, ownPc, mapPc]; done) | (intro k hk; simp [mids, It.mids, ownPc, mapPc] at hk ⊢; grind)) rfl rfl ?_
  refine SX.val rfl (Val.move rfl) (by simp) rfl rfl ?_
  refine SX.callM rfl (both_s (x := w16 a) (y := w16 b) (w16_lt a) (w16_lt b)) (by simp [mids, It.mids]) Casts.refl (by kernel_rfl) rfl rfl rfl ?_
  refine After.make (by repeat first|exact .nil|refine .blk (by repeat first|assumption|exact m0|apply m1) ?_|refine .rd (by repeat first|assumption|exact m0|apply m1) ?_|refine .pc (by repeat first|assumption|exact m0|apply m1) ?_|refine .rdpc (by repeat first|assumption|exact m0|apply m1) ?_) (fun _ => rfl) ?_
  intro r19
  refine SX.effX [] rfl (Eff.appendE (zs := bs (twoB (w16 a, w16 b) ++ l)) tabOk [] (List.map_append.symm) Try.underlying22 rfl rfl rfl rfl rfl rfl (bs_ones _) (by unfold maxLen; simp only [bs, List.length_map, List.length_append, List.length_cons, List.length_nil, List.length_replicate, List.length_drop, List.length_take, padK_length, sha_length, twoB_length]; omega) (by rw [show Try.prog.bytesOf 5 = 1 by kernel_rfl]; simp only [bs, List.length_map, List.length_append, List.length_cons, List.length_nil, List.length_replicate, List.length_drop, List.length_take, padK_length, sha_length, twoB_length]; omega)) (fun k hk => by simpa [mids, It.mids, ownPc] using hk) (by simp) rfl rfl ?_
  rintro _ _ ⟨r21, rfl, rfl⟩
  refine SX.freeze [] (t := 21) rfl rfl ?_
  refine SX.call rfl (mac_s (k := keyB seed a b) (l := twoB (w16 a, w16 b) ++ l) (by rw [keyB_length]; omega) (by rw [List.length_append, twoB_length]; omega)) (by simp [mids, It.mids]) Casts.refl (by kernel_rfl) rfl rfl rfl ?_
  refine After.pure (by repeat first|exact .nil|refine .blk (by repeat first|assumption|exact m0|apply m1) ?_|refine .rd (by repeat first|assumption|exact m0|apply m1) ?_|refine .pc (by repeat first|assumption|exact m0|apply m1) ?_|refine .rdpc (by repeat first|assumption|exact m0|apply m1) ?_) (fun _ => rfl) ?_
  intro _
  refine SX.nil ?_
  refine SE.effZ rfl (Eff.store (L' := digA (ktagB seed a b l)) tabOk rfl rfl rfl (by repeat first|assumption|exact Upd.here|apply Upd.there) (dig_out _ (by omega)) (Nat.le_of_ble_eq_true (by rfl)) (by exact ones_dig _) (putL_whole (by exact (dig_out _ (by omega))))) rfl rfl ?_
  rintro _ _ ⟨rfl, rfl⟩
  refine SE.seq ?_
  refine SC.ret ?_
  refine SE.fin (rs := [.cell 8 37]) rfl (RV.cell rfl (RV.cellA tabOk rfl rfl (by first|(apply Or.inl;(repeat first|assumption|exact m0|apply m1);done)|(apply Or.inr;(repeat first|assumption|exact m0|apply m1);done)) (dig_out _ (by omega))) RV.nil) (()) (by repeat first|exact s0 _|exact s1 _|apply s2|apply s3) (by simp [It.rids]) ?_
  exact rfl
set_option maxHeartbeats 1000000 in
theorem check_s (hs : seed.length ≤ 1000000) (hk : KOk seed M) (hl : l.length ≤ 100000) (ht : tg.length = 32) : Spec Try.prog 67 [ptr t, int a, int b, byt l, .agg (digA tg)] [.blk t 44 [byt seed, mapV m], .pc (mapPc m pairV tagV pairOk (M))] (fun _ : Unit => [.blk t 44 [byt seed, mapV m], .pc (mapPc m pairV tagV pairOk (kput seed M (pairOf a b)))]) (fun _ => boo (decide (ktagB seed a b l = tg))) := by
  refine spec_of Try.func67 rfl Try.ntmps67 rfl fun G w => ?_
  refine SC.seq (SC.region ?_)
  refine SL.eff (Eff.boxA rfl) rfl rfl ?_
  rintro _ _ ⟨b9, rfl, rfl⟩
  refine SL.val (Val.assign rfl) rfl rfl ?_
  refine SL.nil (SE.seq ?_)
  refine SC.seq (SC.region ?_)
  refine SL.val (Val.move rfl) rfl rfl ?_
  refine SL.val (Val.move rfl) rfl rfl ?_
  refine SL.val (Val.move rfl) rfl rfl ?_
  refine SL.val (Val.move rfl) rfl rfl ?_
  refine SL.call (tag_s (t := t) (m := m) (a := a) (b := b) (l := l) hs hk hl) Casts.refl (by kernel_rfl) rfl rfl rfl ?_
  refine After.at1 ⟨rfl, rfl⟩ (fun _ => rfl) ?_
  intro _
  refine SL.eff (Eff.alloc tabOk rfl) rfl rfl ?_
  rintro _ _ ⟨b11, rfl, rfl⟩
  refine SL.eff (Eff.store (L' := digA (ktagB seed a b l)) tabOk rfl rfl rfl (by repeat first|assumption|exact Upd.here|apply Upd.there) (dig_out _ (by omega)) (Nat.le_of_ble_eq_true (by rfl)) (by exact ones_dig _) (putL_whole (by exact (dig_out _ (by omega))))) rfl rfl ?_
  rintro _ _ ⟨rfl, rfl⟩
  refine SL.nil (SE.seq ?_)
  refine SC.seq ?_
  refine SC.freezeB [] 11 rfl rfl ?_
  refine SC.freezeB [] 9 rfl rfl ?_
  refine SC.draw [] (.q 0 (.q 1 (.e 2 (.q 3 .nil)))) (by kernel_rfl) (by kernel_rfl) ?_
  refine SX.val rfl (Val.to (C := byt (ktagB seed a b l)) (Val.sliceArrR tabOk Try.underlying37 rfl rfl rfl rfl rfl (by rw [digA_length]; exact Nat.le_of_eq (ktagB_length seed a b l).symm)) (congrArg (Abs.sl 1) (by rw [List.take_of_length_le (by rw [digA_length]; exact Nat.le_of_eq (ktagB_length seed a b l)), dig_cells]))) (by first | (simp [mids, It.mids, ownPc, mapPc]; done) | (intro k hk; simp [mids, It.mids, ownPc, mapPc] at hk ⊢; grind)) rfl rfl ?_
  refine SX.val rfl (Val.to (C := byt (tg)) (Val.sliceArrR tabOk Try.underlying37 rfl rfl rfl rfl rfl (by rw [digA_length]; exact Nat.le_of_eq (ht).symm)) (congrArg (Abs.sl 1) (by rw [List.take_of_length_le (by rw [digA_length]; exact Nat.le_of_eq (ht)), dig_cells]))) (by first | (simp [mids, It.mids, ownPc, mapPc]; done) | (intro k hk; simp [mids, It.mids, ownPc, mapPc] at hk ⊢; grind)) rfl rfl ?_
  refine SX.call rfl (msame_s (a := ktagB seed a b l) (b := tg) (by rw [ktagB_length]; omega)) (by simp [mids, It.mids]) Casts.refl (by kernel_rfl) rfl rfl rfl ?_
  refine After.pure (by repeat first|exact .nil|refine .blk (by repeat first|assumption|exact m0|apply m1) ?_|refine .rd (by repeat first|assumption|exact m0|apply m1) ?_|refine .pc (by repeat first|assumption|exact m0|apply m1) ?_|refine .rdpc (by repeat first|assumption|exact m0|apply m1) ?_) (fun _ => rfl) ?_
  intro _
  refine SX.val rfl (Val.assign rfl) (by simp) rfl rfl ?_
  refine SX.nil (SE.seq ?_)
  refine SC.ret ?_
  refine SE.fin (rs := [.tmp 10]) rfl (RV.tmp rfl RV.nil) (()) (by repeat first|exact s0 _|exact s1 _|apply s2|apply s3) (by simp [It.rids]) ?_
  exact rfl
end
end Go.Proofs.Ytgfndlibbfamfaa.A
/-
  Messages, plain: what a book says of those told.
-/
set_option maxRecDepth 100000
set_option linter.unusedSimpArgs false
set_option linter.unusedVariables false
namespace Go.Proofs.Ytgfndlibbfamfaa.A
open Go.RowKit

/-! ### A book's numbers -/
abbrev TKey := (Int × Int) × List UInt8
/-- Unlike keys have unlike numbers, each up to the length. -/
structure TOk (T : TMap) : Prop where
  le : ∀ k v, aget T k = some v → 1 ≤ v ∧ v ≤ T.length
  inj : ∀ j k v, aget T j = some v → aget T k = some v → j = k
theorem TOk.nil : TOk [] := ⟨fun k v h => (by cases h), fun j k v h => (by cases h)⟩
theorem pm_has (T : TMap) (k : TKey) : (aget (pm T k) k).isSome = true := by
  unfold pm
  split
  · assumption
  · rw [aget_aput, if_pos rfl]; rfl
theorem pm_old {T : TMap} {j : TKey} (k : TKey) (h : (aget T j).isSome = true) : aget (pm T k) j = aget T j := by
  unfold pm
  split
  · rfl
  · next hn =>
    rw [aget_aput, if_neg]
    rintro rfl
    exact hn h
theorem pl_pm_old {T : TMap} {j : TKey} (k : TKey) (h : (aget T j).isSome = true) : pl (pm T k) j = pl T j := by
  obtain ⟨v, hv⟩ := Option.isSome_iff_exists.1 h
  have h2 := pm_old k h
  unfold pl
  rw [h2, hv]
  rfl
theorem pl_pm_self (T : TMap) (k : TKey) : pl (pm T k) k = pl T k := by
  by_cases h : (aget T k).isSome = true
  · exact pl_pm_old k h
  · have h2 : aget T k = none := by simpa using h
    unfold pl pm
    rw [if_neg h, aget_aput, if_pos rfl, h2]
    rfl
theorem TOk.pm {T : TMap} (h : TOk T) (k : TKey) : TOk (Proofs.Ytgfndlibbfamfaa.pm T k) := by
  unfold Proofs.Ytgfndlibbfamfaa.pm
  split
  · exact h
  · next hn =>
    have hl : (aput T k (T.length + 1)).length = T.length + 1 := by rw [aput_length, if_neg hn]
    refine ⟨fun j v hj => ?_, fun i j v hi hj => ?_⟩
    · rw [aget_aput] at hj
      rw [hl]
      split at hj
      · have := Option.some.inj hj; omega
      · have := h.le j v hj; omega
    · rw [aget_aput] at hi hj
      split at hi <;> split at hj
      · next a b => rw [a, b]
      · have := Option.some.inj hi; have := h.le j v hj; omega
      · have := Option.some.inj hj; have := h.le i v hi; omega
      · exact h.inj i j v hi hj
/-- What a book says, behind tags for some. -/
def tmL (f : Int) (t : List UInt8) (l : List Int) : TMap := l.foldl (fun T w => pm T ((f, w), t)) []
theorem tmL_snoc (f : Int) (t : List UInt8) (l : List Int) (w : Int) : tmL f t (l ++ [w]) = pm (tmL f t l) ((f, w), t) := by simp [tmL]
theorem tmL_ok (f : Int) (t : List UInt8) (l : List Int) : TOk (tmL f t l) := by
  suffices ∀ T, TOk T → TOk (l.foldl (fun T w => pm T ((f, w), t)) T) from this [] TOk.nil
  induction l with
  | nil => exact fun T h => h
  | cons w l ih => exact fun T h => ih _ (h.pm _)
theorem tmL_length (f : Int) (t : List UInt8) (l : List Int) : (tmL f t l).length ≤ l.length := by
  suffices ∀ T : TMap, (l.foldl (fun T w => pm T ((f, w), t)) T).length ≤ T.length + l.length from by simpa [tmL] using this []
  induction l with
  | nil => exact fun T => Nat.le_refl _
  | cons w l ih =>
    intro T
    have h1 := ih (pm T ((f, w), t))
    have h2 := pm_length T ((f, w), t)
    rw [List.foldl_cons, List.length_cons]
    omega
theorem tmL_has_aux (f : Int) (t : List UInt8) : ∀ (l : List Int) (T : TMap) (k : TKey), (aget (l.foldl (fun T w => pm T ((f, w), t)) T) k).isSome = true ↔ ((aget T k).isSome = true ∨ ∃ w ∈ l, k = ((f, w), t))
  | [], T, k => by simp
  | w :: l, T, k => by
    rw [List.foldl_cons, tmL_has_aux f t l]
    constructor
    · rintro (h | ⟨v, hv, rfl⟩)
      · by_cases hk : k = ((f, w), t)
        · exact .inr ⟨w, List.mem_cons_self, hk⟩
        · refine .inl ?_
          unfold pm at h
          split at h
          · exact h
          · rw [aget_aput, if_neg hk] at h; exact h
      · exact .inr ⟨v, List.mem_cons_of_mem _ hv, rfl⟩
    · rintro (h | ⟨v, hv, rfl⟩)
      · exact .inl (by rw [pm_old _ h]; exact h)
      · rcases List.mem_cons.1 hv with rfl | hv
        · exact .inl (pm_has _ _)
        · exact .inr ⟨v, hv, rfl⟩
theorem tmL_has (f : Int) (t : List UInt8) (l : List Int) (k : TKey) : (aget (tmL f t l) k).isSome = true ↔ ∃ w ∈ l, k = ((f, w), t) := by
  unfold tmL
  rw [tmL_has_aux]
  simp [aget]
theorem pl_le {T : TMap} (h : TOk T) (k : TKey) : 1 ≤ pl T k ∧ pl T k ≤ T.length + 1 := by
  unfold pl
  cases e : aget T k with
  | none => exact ⟨by simp, by simp⟩
  | some v => have := h.le k v e; simp; omega
/-- Like numbers: like keys, of those that are there. -/
theorem pl_inj {T : TMap} (h : TOk T) {j k : TKey} (hj : (aget T j).isSome = true) (hk : (aget T k).isSome = true) (e : pl T j = pl T k) : j = k := by
  obtain ⟨v, hv⟩ := Option.isSome_iff_exists.1 hj
  obtain ⟨u, hu⟩ := Option.isSome_iff_exists.1 hk
  have e1 : pl T j = v := by unfold pl; rw [hv]; rfl
  have e2 : pl T k = u := by unfold pl; rw [hu]; rfl
  have : v = u := by omega
  subst this
  exact h.inj j k v hv hu
/-- The tags of those told. -/
def tagB (T : TMap) (f : Int) (t : List UInt8) (w : Int) : Tg := ⟨numB 255 (pl T ((f, w), t)), numB_length _ _⟩
def tagsB (f : Int) (t : List UInt8) (l : List Int) : List Tg := l.map (tagB (tmL f t l) f t)
theorem tagsB_snoc (f : Int) (t : List UInt8) (l : List Int) (w : Int) : (tagsB f t l).map Tg.abs ++ [digA (numB 255 (pl (tmL f t l) ((f, w), t)))] = (tagsB f t (l ++ [w])).map Tg.abs := by
  unfold tagsB
  rw [tmL_snoc, List.map_append, List.map_append]
  congr 1
  · rw [List.map_map, List.map_map]
    refine List.map_congr_left fun v hv => ?_
    have hh := (tmL_has f t l ((f, v), t)).2 ⟨v, hv, rfl⟩
    show digA (numB 255 _) = digA (numB 255 _)
    rw [pl_pm_old _ hh]
  · show _ = [digA (numB 255 _)]
    rw [pl_pm_self]
/-- A message that was said by a book, and one with its tags. -/
theorem chk_book {f : Int} {t : List UInt8} {l : List Int} (hl : l.length ≤ 1000) {i : Nat} (hi : i < l.length) (k : TKey) :
    ((aget (tmL f t l) k).isSome && decide ((((tagsB f t l)[i]?).map Tg.d).getD [] = numB 255 (pl (tmL f t l) k))) = decide (k = ((f, l[i]), t)) := by
  have hT := tmL_ok f t l
  have hlen := tmL_length f t l
  have hself := (tmL_has f t l ((f, l[i]), t)).2 ⟨l[i], List.getElem_mem hi, rfl⟩
  have e1 : (((tagsB f t l)[i]?).map Tg.d).getD [] = numB 255 (pl (tmL f t l) ((f, l[i]), t)) := by
    unfold tagsB
    rw [List.getElem?_map, List.getElem?_eq_getElem hi]
    rfl
  rw [e1, Bool.eq_iff_iff, Bool.and_eq_true, decide_eq_true_iff, decide_eq_true_iff]
  constructor
  · rintro ⟨h1, h2⟩
    have b1 := pl_le hT ((f, l[i]), t)
    have b2 := pl_le hT k
    have := (numB_inj (by decide) (by decide) (by omega) (by omega) h2).2
    exact (pl_inj hT hself h1 this).symm
  · rintro rfl
    exact ⟨hself, rfl⟩
/-- By keys. -/
def tagK (seed : List UInt8) (f : Int) (t : List UInt8) (w : Int) : Tg := ⟨ktagB seed f w t, ktagB_length _ _ _ _⟩
def tagsK (seed : List UInt8) (f : Int) (t : List UInt8) (l : List Int) : List Tg := l.map (tagK seed f t)
theorem tagsK_snoc (seed : List UInt8) (f : Int) (t : List UInt8) (l : List Int) (w : Int) : (tagsK seed f t l).map Tg.abs ++ [digA (ktagB seed f w t)] = (tagsK seed f t (l ++ [w])).map Tg.abs := by simp [tagsK, tagK, Tg.abs]
def chkK (seed : List UInt8) (m : Msg) (place who : Int) : Int :=
  if place < 0 ∨ (m.tags.length : Int) ≤ place then 12 else
  if ktagB seed m.from_ who (textV m.kind m.body) = ((m.tags[place.toNat]?).map Tg.d).getD [] then 0 else 12
end Go.Proofs.Ytgfndlibbfamfaa.A
