/-
  Layer 5: BookApart, walked over the engine.
-/
import Derived.Test.YtdbeinbgekdnmaaBookPc
import Derived.Test.YtdbeinbgekdnmaaBookApart
set_option maxRecDepth 100000
namespace Go.Proofs.Ytdbeinbgekdnmaa
open Go.RowKit

theorem nil_Check (w : World) (x y v : Value) (M : List UInt8) : Calls Try.prog 41 #[.pointer none, x, y, v, arrB M] w fun e w' => e = .returned (.bool false) ∧ Ext [] w w' := by
  refine calls_of [.pointer none, x, y, v, arrB M] Try.func41 rfl Try.ntmps41 rfl (Mem [(w, [])] []) (Mem.start w) ?_
  refine SC.seq ?_
  refine SC.region ?_
  refine SL.eff (Eff.boxA rfl) rfl rfl ?_
  rintro _ _ ⟨b9, rfl, rfl⟩
  refine SL.val (Val.assign rfl) rfl rfl ?_
  refine SL.nil ?_
  refine SE.seq ?_
  refine SC.seq ?_
  refine SC.draw _ [(0, true), (1, true), (2, true), (3, true), (4, false), (5, true), (6, true), (7, true), (8, true), (9, true), (10, true), (11, false), (12, true), (13, true), (14, true)] (by kernel_rfl) (by kernel_rfl) (fun _ h => h) (fun _ h => h.drew) ?_
  refine SX.val rfl (Val.move rfl) rfl rfl ?_
  refine SX.val rfl (Val.move rfl) rfl rfl ?_
  refine SX.val rfl (Val.move rfl) rfl rfl ?_
  refine SX.val rfl (Val.move rfl) rfl rfl ?_
  refine SX.call rfl (by kernel_rfl) rfl rfl rfl ?_
  intro w hw
  refine (nil_Said w _ _ _).mono ?_; rintro _ _ ⟨rfl, rfl⟩; refine ⟨_, _, rfl, hw, _, fun _ h => h, fun _ h => h, ?_⟩; clear hw w
  refine SX.val rfl (Val.move rfl) rfl rfl ?_
  refine SX.skip rfl rfl rfl ?_
  refine SX.skip rfl rfl rfl ?_
  refine SX.skip rfl rfl rfl ?_
  refine SX.skip rfl rfl rfl ?_
  refine SX.skip rfl rfl rfl ?_
  refine SX.skip' (fun _ h => h) rfl rfl rfl ?_
  refine SX.skip rfl rfl rfl ?_
  refine SX.val rfl (Val.pickF rfl rfl) rfl rfl ?_
  refine SX.val rfl (Val.assign rfl) rfl rfl ?_
  refine SX.nil ?_
  refine SE.seq ?_
  refine SC.ret ?_
  refine SE.ret1 rfl rfl ?_
  intro w' hw; exact ⟨rfl, hw.ext _ List.mem_cons_self⟩

/-- The values are at most as many as there are keys. -/
def ValsLe {α : Type} [DecidableEq α] (m : List (α × Nat)) : Prop := ∀ c v, aget m c = some v → v ≤ m.length
theorem ValsLe.nil {α : Type} [DecidableEq α] : ValsLe ([] : List (α × Nat)) := fun c v h => by simp [aget] at h
theorem ValsLe.step {α : Type} [DecidableEq α] {m : List (α × Nat)} (h : ValsLe m) (k : α) : ValsLe (pm m k) := by
  unfold pm
  split
  · exact h
  · rename_i hn
    intro c v hc
    rw [aget_aput] at hc
    rw [aput_length, if_neg hn]
    split at hc
    · have := Option.some.inj hc; omega
    · have := h c v hc; omega
theorem ValsLe.pl {α : Type} [DecidableEq α] {m : List (α × Nat)} (h : ValsLe m) (k : α) : pl m k ≤ m.length + 1 := by
  unfold Proofs.Ytdbeinbgekdnmaa.pl
  cases hc : aget m k with
  | none => simp
  | some v => have := h k v hc; simp; omega
theorem put32 (L : List UInt8) (hL : L.length = 32) : putAt (List.replicate 32 (.int .u8 0)) 0 (L.map bc) = L.map bc := by
  simp [putAt, hL]
theorem num_same {D : DMap} {k m : Int} {a b : List UInt8} (h1 : Inv1 D (k8 k, a)) (h2 : pl D (k8 m, b) < 1000000) : decide (numB (k8 m) (pl D (k8 m, b)) = numB (k8 k) 1) = decide (k8 k = k8 m ∧ a = b) := by
  rw [decide_eq_decide]
  constructor
  · intro h
    obtain ⟨h3, h4⟩ := numB_inj (by unfold k8; omega) (by unfold k8; omega) (by omega) (by omega) h
    have := (h1.pl (k8 m, b)).1 h4
    simp at this
    exact ⟨h3.symm, this.2.symm⟩
  · rintro ⟨h3, h4⟩
    rw [← h3, ← h4, (h1.pl (k8 k, a)).2 rfl]
theorem tag_same {T : TMap} {x y z : Int} {a b : List UInt8} (h1 : Inv1 T ((x, y), a)) (h2 : pl T ((x, z), b) < 1000000) : ((aget T ((x, z), b)).isSome && decide (numB 255 1 = numB 255 (pl T ((x, z), b)))) = decide (z = y ∧ b = a) := by
  rw [Bool.eq_iff_iff]
  simp only [Bool.and_eq_true, decide_eq_true_eq]
  constructor
  · rintro ⟨_, h⟩
    obtain ⟨_, h4⟩ := numB_inj (by omega) (by omega) (by omega) (by omega) h
    have := (h1.pl ((x, z), b)).1 h4.symm
    simp at this
    exact ⟨this.1, this.2⟩
  · rintro ⟨rfl, rfl⟩
    refine ⟨by rw [h1.one]; rfl, ?_⟩
    rw [(h1.pl ((x, z), b)).2 rfl]
theorem k8_u8 (k : Int) : IntKind.u8.wrap k = (k8 k : Int) := by
  simp [IntKind.wrap, IntKind.bits, IntKind.signed, k8]; omega
theorem str_same {a b : List UInt8} : ((⟨a.toArray⟩ : ByteArray) = ⟨b.toArray⟩) ↔ a = b := by simp

set_option maxHeartbeats 1000000 in
theorem apart_walk (w : World) (k m x y z : Int) (A A' R : Option Addr) (ca ca' n cn : Nat) (a b : List UInt8) (xs : List (Value × List UInt8)) (ha : BytesV w (.slice A a.length ca) a) (hb : BytesV w (.slice A' b.length ca') b) (hn : xs.length = n) (hrow : Row w R (xs.map (·.1))) (hxs : ∀ e ∈ xs, BytesV w e.1 e.2)
    (hla : a.length ≤ 100) (hlb : b.length ≤ 100) (hln : n ≤ 50) (hx : i64r x) (hy : i64r y) (hz : i64r z) :
    Calls Try.prog 7 #[.int .i64 k, .slice A a.length ca, .int .i64 m, .slice A' b.length ca', .int .i64 x, .int .i64 y, .int .i64 z, .slice R n cn] w fun e w' => e = .returned (.bool true) ∧ Ext [] w w' := by
  obtain ⟨sb, hsb⟩ : ∃ sb, sb = decide (k8 k = k8 m ∧ a = b) := ⟨_, rfl⟩
  have hkA := Inv1.start (k8 k, a)
  have htA := Inv1.start ((x, y), a)
  have hvA := (ValsLe.nil (α := Nat × List UInt8)).step (k8 k, a)
  have hwA := (ValsLe.nil (α := (Int × Int) × List UInt8)).step ((x, y), a)
  refine calls_of [.int .i64 k, .slice A a.length ca, .int .i64 m, .slice A' b.length ca', .int .i64 x, .int .i64 y, .int .i64 z, .slice R n cn] Try.func7 rfl Try.ntmps7 rfl (Mem [(w, [])] []) (Mem.start w) ?_
  refine SC.seq ?_
  refine SC.region ?_
  refine SL.val (Val.assign rfl) rfl rfl ?_
  refine SL.nil ?_
  refine SE.seq ?_
  refine SC.seq ?_
  refine SC.seq ?_
  refine SC.region ?_
  refine SL.call (by kernel_rfl) rfl rfl rfl ?_
  intro w' hw
  refine (fixed05 w').mono ?_; rintro _ _ ⟨rfl, hx⟩; refine ⟨_, _, rfl, hw.same hx, ?_⟩; clear hx hw w'
  refine SL.val (Val.notT rfl) rfl rfl ?_
  refine SL.nil ?_
  refine SE.seq ?_
  refine SC.condF rfl ?_
  refine SC.skip ?_
  refine SE.seq ?_
  refine SC.seq ?_
  refine SC.seq ?_
  refine SC.region ?_
  refine SL.val (Val.move rfl) rfl rfl ?_
  refine SL.val (Val.lenSl rfl Try.underlying34) rfl rfl ?_
  refine SL.val (Val.gtI rfl rfl) rfl rfl ?_
  refine SL.val (Val.move rfl) rfl rfl ?_
  refine SL.bothP (t := 31) rfl (by intro hc31; exfalso; omega) ?_
  intro hc31
  refine SL.val (Val.move rfl) rfl rfl ?_
  refine SL.val (Val.lenSl rfl Try.underlying34) rfl rfl ?_
  refine SL.val (Val.gtI rfl rfl) rfl rfl ?_
  refine SL.val (Val.pickF rfl rfl) rfl rfl ?_
  refine SL.val (Val.move rfl) rfl rfl ?_
  refine SL.bothP (t := 36) rfl (by intro hc36; exfalso; omega) ?_
  intro hc36
  refine SL.val (Val.move rfl) rfl rfl ?_
  refine SL.val (Val.lenSl rfl Try.underlying42) rfl rfl ?_
  refine SL.val (Val.gtI rfl rfl) rfl rfl ?_
  refine SL.val (Val.pickF rfl rfl) rfl rfl ?_
  refine SL.nil ?_
  refine SE.seq ?_
  refine SC.condP rfl (by intro hc40; exfalso; omega) ?_
  intro hc40
  refine SC.skip ?_
  refine SE.seq ?_
  refine SC.seq ?_
  refine SC.region ?_
  refine SL.call (by kernel_rfl) rfl rfl rfl ?_
  intro w' hw
  refine (new_c hw).mono ?_; rintro _ _ ⟨p, bd, bt, rfl, hm⟩; refine ⟨_, _, rfl, hm, ?_⟩; clear hm hw w'
  refine SL.val (Val.assign rfl) rfl rfl ?_
  refine SL.nil ?_
  refine SE.seq ?_
  refine SC.seq ?_
  refine SC.region ?_
  refine SL.val (Val.move rfl) rfl rfl ?_
  refine SL.val (Val.move rfl) rfl rfl ?_
  refine SL.val (Val.move rfl) rfl rfl ?_
  refine SL.call (by kernel_rfl) rfl rfl rfl ?_
  intro w' hw
  refine (digest_c hw (by repeat (first | exact Upd.here | apply Upd.there)) (ha.ext0 (hw.ext _ List.mem_cons_self)) (by omega) (by decide) (by show 1 < 9223372036854775808; omega)).mono ?_; rintro _ _ ⟨he, hm⟩; replace he : _ = Ending.returned (arrB (numB (k8 k) 1)) := he; subst he; refine ⟨_, _, rfl, hm, ?_⟩; clear hm hw w'
  refine SL.val (Val.move rfl) rfl rfl ?_
  refine SL.val (Val.move rfl) rfl rfl ?_
  refine SL.val (Val.move rfl) rfl rfl ?_
  refine SL.val (Val.move rfl) rfl rfl ?_
  refine SL.call (by kernel_rfl) rfl rfl rfl ?_
  intro w' hw
  refine (tag_c hw (by repeat (first | exact Upd.here | apply Upd.there)) (ha.ext0 (hw.ext _ List.mem_cons_self)) hx hy (by omega) (by decide) (by show 1 < 9223372036854775808; omega)).mono ?_; rintro _ _ ⟨he, hm⟩; replace he : _ = Ending.returned (arrB (numB 255 1)) := he; subst he; refine ⟨_, _, rfl, hm, ?_⟩; clear hm hw w'
  refine SL.eff (Eff.alloc tabOk rfl) rfl rfl ?_
  rintro _ _ ⟨b18, rfl, rfl⟩
  refine SL.eff (Eff.alloc tabOk rfl) rfl rfl ?_
  rintro _ _ ⟨b19, rfl, rfl⟩
  refine SL.eff (Eff.storeA (L' := (numB (k8 k) 1).map bc) (vs := (numB (k8 k) 1).map bc) tabOk rfl rfl rfl (by repeat (first | exact Upd.here | apply Upd.there)) (by rw [List.length_map, numB_length]) (by decide) bc_one (put32 _ (numB_length _ _))) rfl rfl ?_; rintro _ _ ⟨rfl, rfl⟩
  refine SL.eff (Eff.storeA (L' := (numB 255 1).map bc) (vs := (numB 255 1).map bc) tabOk rfl rfl rfl (by repeat (first | exact Upd.here | apply Upd.there)) (by rw [List.length_map, numB_length]) (by decide) bc_one (put32 _ (numB_length _ _))) rfl rfl ?_; rintro _ _ ⟨rfl, rfl⟩
  refine SL.nil ?_
  refine SE.seq ?_
  refine SC.seq ?_
  refine SC.seq ?_
  refine SC.region ?_
  refine SL.val (Val.move rfl) rfl rfl ?_
  refine SL.val (Val.lenSl rfl Try.underlying42) rfl rfl ?_
  refine SL.val (Val.move rfl) rfl rfl ?_
  refine SL.nil ?_
  refine SE.seq ?_
  refine SC.block ?_
  refine SC.loop (ι := Nat × DMap × TMap) (fun s => [(0, .int .i64 k), (1, .slice A a.length ca), (2, .int .i64 m), (3, .slice A' b.length ca'), (4, .int .i64 x), (5, .int .i64 y), (6, .int .i64 z), (17, .pointer (some ⟨p, 0, none⟩)), (18, .pointer (some ⟨b18, 0, none⟩)), (19, .pointer (some ⟨b19, 0, none⟩)), (51, .slice R n cn), (52, .int .i64 (n : Nat)), (53, .int .i64 (s.1 : Nat))]) (fun s w' => (Inv1 s.2.1 (k8 k, a) ∧ Inv1 s.2.2 ((x, y), a) ∧ ValsLe s.2.1 ∧ ValsLe s.2.2 ∧ s.2.1.length ≤ 1 + s.1 ∧ s.2.2.length ≤ 1 + s.1 ∧ s.1 ≤ n) ∧ Mem [(w, [])] [.blk b19 (row 48 ((numB 255 1).map bc)), .blk b18 (row 46 ((numB (k8 k) 1).map bc)), .pc (bookPc p bd bt s.2.1 s.2.2)] w') (fun s => n - s.1) (0, pm [] (k8 k, a), pm [] ((x, y), a)) (by exact ⟨rfl, rfl, rfl, rfl, rfl, rfl, rfl, rfl, rfl, rfl, rfl, rfl, rfl, trivial⟩) (fun w' hw => ⟨⟨hkA, htA, hvA, hwA, by show (pm [] (k8 k, a)).length ≤ 1; exact pm_length [] _, by show (pm [] ((x, y), a)).length ≤ 1; exact pm_length [] _, Nat.zero_le _⟩, hw⟩) ?_
  intro s
  refine SC.facts ?_
  rintro ⟨f1, f2, f3, f4, f5, f6, f7⟩
  have g1 := f3.pl (k8 m, b)
  have g2 := f4.pl ((x, z), b)
  refine SC.seq ?_
  refine SC.region ?_
  refine SL.val (Val.ltI rfl rfl) rfl rfl ?_
  refine SL.nil ?_
  refine SE.seq ?_
  refine SC.seq ?_
  refine SC.condP rfl ?_ ?_
  · intro hc54
    have hlt2 : s.1 < n := by omega
    have hlt : s.1 < xs.length := by omega
    have hbi := hxs (xs[s.1]'hlt) (List.getElem_mem hlt)
    obtain ⟨Ai, ci, hei, hb1, hb2, hb3, hb4⟩ := id hbi
    obtain ⟨rb, ro, rfl, hc⟩ := hrow.at_ (k := s.1) (by simpa using hlt)
    simp only [List.getElem_map, hei] at hc
    rw [hei] at hbi
    have g3 := f3.pl (k8 m, (xs[s.1]'hlt).2)
    have g4 := f4.pl ((y, x), (xs[s.1]'hlt).2)
    refine SC.skip ?_
    refine SE.seq ?_
    refine SC.seq ?_
    refine SC.block ?_
    refine SC.seq ?_
    refine SC.region ?_
    first
      | refine SL.val (Val.indexSlN tabOk Try.underlying42 rfl rfl rfl (by omega)) rfl rfl ?_
      | refine SL.val (Val.indexSl tabOk Try.underlying42 rfl rfl rfl (by omega)) rfl rfl ?_
    refine SL.val (Val.load1C (v := .slice Ai (xs[s.1]'hlt).2.length ci) tabOk rfl rfl (fun w' hw => by
          show w'.cell? ⟨rb, ro + s.1 * 1, none⟩ = _
          rw [Nat.mul_one]
          exact (hw.ext _ List.mem_cons_self).cell hc (by simp))) rfl rfl ?_
    refine SL.val (Val.assign rfl) rfl rfl ?_
    refine SL.nil ?_
    refine SE.seq ?_
    refine SC.seq ?_
    refine SC.seq ?_
    refine SC.region ?_
    refine SL.val (Val.move rfl) rfl rfl ?_
    refine SL.val (Val.lenSl rfl Try.underlying34) rfl rfl ?_
    refine SL.val (Val.gtI rfl rfl) rfl rfl ?_
    refine SL.nil ?_
    refine SE.seq ?_
    refine SC.condP rfl ?_ ?_
    · intro hc59
      refine SC.seq ?_
      refine SC.region ?_
      refine SL.val (Val.assign rfl) rfl rfl ?_
      refine SL.nil ?_
      refine SE.seq ?_
      refine SC.ret ?_
      refine SE.then_ (by intro h; cases h) ?_
      refine SE.ret ?_
      refine SE.then_ (by intro h; cases h) ?_
      refine SE.then_ (by intro h; cases h) ?_
      refine SE.ret ?_
      refine SE.then_ (by intro h; cases h) ?_
      refine SE.ret1 rfl rfl ?_
      intro w' hw; exact ⟨rfl, hw.ext _ List.mem_cons_self⟩
    · intro hc59
      refine SC.skip ?_
      refine SE.seq ?_
      refine SC.seq ?_
      refine SC.region ?_
      refine SL.val (Val.move rfl) rfl rfl ?_
      refine SL.val (Val.move rfl) rfl rfl ?_
      refine SL.val (Val.move rfl) rfl rfl ?_
      refine SL.call (by kernel_rfl) rfl rfl rfl ?_
      intro w' hw
      refine (digest_c hw (by repeat (first | exact Upd.here | apply Upd.there)) (hbi.ext0 (hw.ext _ List.mem_cons_self)) (by omega) (by omega) (by omega)).mono ?_; rintro _ _ ⟨rfl, hm⟩; refine ⟨_, _, rfl, hm, ?_⟩; clear hm hw w'
      refine SL.nil ?_
      refine SE.seq ?_
      refine SC.region ?_
      refine SL.val (Val.move rfl) rfl rfl ?_
      refine SL.val (Val.move rfl) rfl rfl ?_
      refine SL.val (Val.move rfl) rfl rfl ?_
      refine SL.val (Val.move rfl) rfl rfl ?_
      refine SL.call (by kernel_rfl) rfl rfl rfl ?_
      intro w' hw
      refine (tag_c hw (by repeat (first | exact Upd.here | apply Upd.there)) (hbi.ext0 (hw.ext _ List.mem_cons_self)) hy hx (by omega) (by omega) (by omega)).mono ?_; rintro _ _ ⟨rfl, hm⟩; refine ⟨_, _, rfl, hm, ?_⟩; clear hm hw w'
      refine SL.nil ?_
      refine SE.inBlock ?_
      refine SE.seq ?_
      refine SC.region ?_
      first
        | refine SL.val (Val.addI rfl rfl (by simp only [InR, lo, hi]; omega)) rfl rfl ?_
        | refine SL.val (Val.addW rfl rfl) rfl rfl ?_
      refine SL.val (Val.move rfl) rfl rfl ?_
      refine SL.nil ?_
      have h5 := pm_length s.2.1 (k8 m, (xs[s.1]'hlt).2)
      have h6 := pm_length s.2.2 ((y, x), (xs[s.1]'hlt).2)
      exact SE.round (s.1 + 1, pm s.2.1 (k8 m, (xs[s.1]'hlt).2), pm s.2.2 ((y, x), (xs[s.1]'hlt).2)) (by show n - (s.1 + 1) < n - s.1; omega) (by exact ⟨rfl, rfl, rfl, rfl, rfl, rfl, rfl, rfl, rfl, rfl, rfl, rfl, rfl, trivial⟩) (fun w' hw => ⟨⟨f1.step _, f2.step _, f3.step _, f4.step _, by show (pm s.2.1 (k8 m, (xs[s.1]'hlt).2)).length ≤ 1 + (s.1 + 1); omega, by show (pm s.2.2 ((y, x), (xs[s.1]'hlt).2)).length ≤ 1 + (s.1 + 1); omega, hlt2⟩, hw⟩)
  · intro hc54
    refine SC.exit ?_
    refine SE.then_ (by intro h; cases h) ?_
    refine SE.then_ (by intro h; cases h) ?_
    refine SE.exit ?_
    refine SE.seq ?_
    refine SC.cut (ι := Unit) (fun _ => [(0, .int .i64 k), (1, .slice A a.length ca), (2, .int .i64 m), (3, .slice A' b.length ca'), (4, .int .i64 x), (5, .int .i64 y), (6, .int .i64 z), (17, .pointer (some ⟨p, 0, none⟩)), (18, .pointer (some ⟨b18, 0, none⟩)), (19, .pointer (some ⟨b19, 0, none⟩)), (22, .bool sb)]) (fun _ => Mem [(w, [])] [.blk b19 (row 48 ((numB 255 1).map bc)), .blk b18 (row 46 ((numB (k8 k) 1).map bc)), .pc (bookPc p bd bt s.2.1 s.2.2)]) ?_ ?_
    · skip
      refine SC.region ?_
      refine SL.val (Val.move rfl) rfl rfl ?_
      first
        | refine SL.val (Val.convI rfl Try.underlying5 (by kernel_rfl) (by simp only [InR, lo, hi]; omega)) rfl rfl ?_
        | refine SL.val (Val.convW rfl Try.underlying5 (by kernel_rfl)) rfl rfl ?_
      refine SL.val (Val.move rfl) rfl rfl ?_
      first
        | refine SL.val (Val.convI rfl Try.underlying5 (by kernel_rfl) (by simp only [InR, lo, hi]; omega)) rfl rfl ?_
        | refine SL.val (Val.convW rfl Try.underlying5 (by kernel_rfl)) rfl rfl ?_
      refine SL.val (Val.eqI rfl rfl) rfl rfl ?_
      refine SL.val (Val.move rfl) rfl rfl ?_
      refine SL.bothP (t := 75) rfl ?_ ?_
      · intro hc75
        refine SL.val (Val.move rfl) rfl rfl ?_
        refine SL.val (Val.toStr rfl fun w' hw => ha.ext0 (hw.ext _ List.mem_cons_self)) rfl rfl ?_
        refine SL.val (Val.move rfl) rfl rfl ?_
        refine SL.val (Val.toStr rfl fun w' hw => hb.ext0 (hw.ext _ List.mem_cons_self)) rfl rfl ?_
        refine SL.val (Val.eqS rfl rfl) rfl rfl ?_
        refine SL.val (Val.pickT rfl rfl) rfl rfl ?_
        refine SL.val (Val.assign rfl) rfl rfl ?_
        refine SL.nil ?_
        rw [k8_u8, k8_u8] at hc75
        exact SE.meet () (by exact ⟨rfl, rfl, rfl, rfl, rfl, rfl, rfl, rfl, rfl, rfl, by show some (Value.bool _) = _; rw [hsb]; congr 2; rw [decide_eq_decide, str_same]; exact ⟨fun h => ⟨by omega, h⟩, fun h => h.2⟩, trivial⟩) (fun _ h => h)
      · intro hc75
        refine SL.skip rfl rfl ?_
        refine SL.skip rfl rfl ?_
        refine SL.skip rfl rfl ?_
        refine SL.skip rfl rfl ?_
        refine SL.skip rfl rfl ?_
        refine SL.val (Val.pickF rfl rfl) rfl rfl ?_
        refine SL.val (Val.assign rfl) rfl rfl ?_
        refine SL.nil ?_
        rw [k8_u8, k8_u8] at hc75
        exact SE.meet () (by exact ⟨rfl, rfl, rfl, rfl, rfl, rfl, rfl, rfl, rfl, rfl, by show some (Value.bool _) = _; rw [hsb]; congr 2; symm; rw [decide_eq_false_iff_not]; rintro ⟨h, _⟩; exact hc75 (by rw [h]), trivial⟩) (fun _ h => h)
    · intro _
      have f1' := f1.step (k8 m, b)
      have f2' := f2
      have f3' := f3.step (k8 m, b)
      have g3 := f3'.pl (k8 k, a)
      have g4 := f4.pl ((x, y), a)
      have g5 := pm_length s.2.1 (k8 m, b)
      have g6 := pm_length s.2.2 ((x, y), a)
      replace f2' := f2.step ((x, y), a)
      have f4' := f4.step ((x, y), a)
      have g7 := f4'.pl ((x, z), b)
      refine SC.seq ?_
      refine SC.seq ?_
      refine SC.draw _ [(0, true), (1, true), (2, true), (4, true), (6, true), (3, false), (5, true), (7, true), (8, true), (9, true), (10, true), (11, true), (13, true), (12, false), (14, true), (15, true), (16, true), (17, true), (18, true), (19, true), (20, true), (22, true), (21, false), (23, true), (24, true)] (by kernel_rfl) (by kernel_rfl) (fun w h => h.sub (fun _ h => h) (List.sublist_append_left [_, _] [_])) (fun _ h => h.drew) ?_
      refine SX.val rfl (Val.move rfl) rfl rfl ?_
      refine SX.val rfl (Val.move rfl) rfl rfl ?_
      refine SX.val rfl (Val.move rfl) rfl rfl ?_
      first
        | refine SX.val rfl (Val.loadA tabOk rfl rfl rfl (by repeat (first | exact List.mem_cons_self | apply List.mem_cons_of_mem)) (by rfl)) rfl rfl ?_
        | refine SX.val rfl (Val.loadAC tabOk rfl rfl rfl (by assumption) (by assumption)) rfl rfl ?_
        | refine SX.val rfl (Val.loadP tabOk rfl rfl rfl (by repeat (first | exact List.mem_cons_self | apply List.mem_cons_of_mem)) (by decide)) rfl rfl ?_
      refine SX.val rfl (Val.move rfl) rfl rfl ?_
      refine SX.call rfl (by kernel_rfl) rfl rfl rfl ?_
      intro w' hw
      refine (digest_c hw (by repeat (first | exact Upd.here | apply Upd.there)) (hb.ext0 (hw.ext _ List.mem_cons_self)) (by omega) (by omega) (by omega)).mono ?_; rintro _ _ ⟨rfl, hm⟩; refine ⟨_, _, rfl, hm, _, fun _ h => h, fun w h => h.sub (fun _ h => h) (List.sublist_append_left [_, _] [_]), ?_⟩; clear hm hw w'
      refine SX.val rfl (Val.eqAB sb Try.underlying46 (by kernel_rfl) (by kernel_rfl) rfl rfl (by kernel_rfl) (numB_length _ _) (numB_length _ _) (by rw [hsb]; exact num_same f1 (by omega))) rfl rfl ?_
      refine SX.val rfl (Val.neBF rfl rfl (by kernel_rfl) rfl) rfl rfl ?_
      refine SX.val rfl (Val.move rfl) rfl rfl ?_
      refine SX.val rfl (Val.move rfl) rfl rfl ?_
      refine SX.val rfl (Val.move rfl) rfl rfl ?_
      refine SX.val rfl (Val.move rfl) rfl rfl ?_
      first
        | refine SX.val rfl (Val.loadA tabOk rfl rfl rfl (by repeat (first | exact List.mem_cons_self | apply List.mem_cons_of_mem)) (by rfl)) rfl rfl ?_
        | refine SX.val rfl (Val.loadAC tabOk rfl rfl rfl (by assumption) (by assumption)) rfl rfl ?_
        | refine SX.val rfl (Val.loadP tabOk rfl rfl rfl (by repeat (first | exact List.mem_cons_self | apply List.mem_cons_of_mem)) (by decide)) rfl rfl ?_
      refine SX.call rfl (by kernel_rfl) rfl rfl rfl ?_
      intro w' hw
      refine (digest_c hw (by repeat (first | exact Upd.here | apply Upd.there)) (ha.ext0 (hw.ext _ List.mem_cons_self)) (by omega) (by omega) (by omega)).mono ?_; rintro _ _ ⟨rfl, hm⟩; rw [(f1'.pl _).2 rfl]; refine ⟨_, _, rfl, hm, _, fun _ h => h, fun w h => h.sub (fun _ h => h) (List.sublist_append_left [_, _] [_]), ?_⟩; clear hm hw w'
      refine SX.val rfl (Val.neAF Try.underlying46 (by kernel_rfl) (by kernel_rfl) rfl rfl (by kernel_rfl) (numB_length _ _) rfl) rfl rfl ?_
      refine SX.val rfl (Val.pickF rfl rfl) rfl rfl ?_
      refine SX.val rfl (Val.move rfl) rfl rfl ?_
      refine SX.val rfl (Val.move rfl) rfl rfl ?_
      refine SX.val rfl (Val.move rfl) rfl rfl ?_
      refine SX.val rfl (Val.move rfl) rfl rfl ?_
      refine SX.val rfl (Val.move rfl) rfl rfl ?_
      first
        | refine SX.val rfl (Val.loadA tabOk rfl rfl rfl (by repeat (first | exact List.mem_cons_self | apply List.mem_cons_of_mem)) (by rfl)) rfl rfl ?_
        | refine SX.val rfl (Val.loadAC tabOk rfl rfl rfl (by assumption) (by assumption)) rfl rfl ?_
        | refine SX.val rfl (Val.loadP tabOk rfl rfl rfl (by repeat (first | exact List.mem_cons_self | apply List.mem_cons_of_mem)) (by decide)) rfl rfl ?_
      refine SX.call rfl (by kernel_rfl) rfl rfl rfl ?_
      intro w' hw
      refine (tag_c hw (by repeat (first | exact Upd.here | apply Upd.there)) (ha.ext0 (hw.ext _ List.mem_cons_self)) hx hy (by omega) (by omega) (by omega)).mono ?_; rintro _ _ ⟨rfl, hm⟩; rw [(f2.pl _).2 rfl]; refine ⟨_, _, rfl, hm, _, fun _ h => h, fun w h => h.sub (fun _ h => h) (List.sublist_append_left [_, _] [_]), ?_⟩; clear hm hw w'
      refine SX.val rfl (Val.neAF Try.underlying48 (by kernel_rfl) (by kernel_rfl) rfl rfl (by kernel_rfl) (numB_length _ _) rfl) rfl rfl ?_
      refine SX.val rfl (Val.pickF rfl rfl) rfl rfl ?_
      refine SX.nil ?_
      refine SE.seq ?_
      refine SC.condF rfl ?_
      refine SC.skip ?_
      refine SE.seq ?_
      refine SC.seq ?_
      refine SC.seq ?_
      refine SC.region ?_
      refine SL.val (Val.move rfl) rfl rfl ?_
      refine SL.val (Val.move rfl) rfl rfl ?_
      refine SL.val (Val.move rfl) rfl rfl ?_
      refine SL.val (Val.move rfl) rfl rfl ?_
      first
        | refine SL.val (Val.loadA tabOk rfl rfl rfl (by repeat (first | exact List.mem_cons_self | apply List.mem_cons_of_mem)) (by rfl)) rfl rfl ?_
        | refine SL.val (Val.loadAC tabOk rfl rfl rfl (by assumption) (by assumption)) rfl rfl ?_
        | refine SL.val (Val.loadP tabOk rfl rfl rfl (by repeat (first | exact List.mem_cons_self | apply List.mem_cons_of_mem)) (by decide)) rfl rfl ?_
      refine SL.call (by kernel_rfl) rfl rfl rfl ?_
      intro w' hw
      refine (check_c (M := numB 255 1) hw (by repeat (first | exact List.mem_cons_self | apply List.mem_cons_of_mem)) (upd_same (by repeat (first | exact List.mem_cons_self | apply List.mem_cons_of_mem))) (hb.ext0 (hw.ext _ List.mem_cons_self)) (numB_length _ _) hx hz (by omega) (by omega) (by omega) _ (tag_same f2' (by omega))).mono ?_; rintro _ _ ⟨rfl, hm⟩; refine ⟨_, _, rfl, hm, ?_⟩; clear hm hw w'
      refine SL.val (Val.move rfl) rfl rfl ?_
      refine SL.val (Val.move rfl) rfl rfl ?_
      refine SL.val (Val.eqI rfl rfl) rfl rfl ?_
      refine SL.val (Val.move rfl) rfl rfl ?_
      refine SL.bothP (t := 116) rfl ?_ ?_
      · intro hc116
        refine SL.val (Val.move rfl) rfl rfl ?_
        refine SL.val (Val.toStr rfl fun w' hw => ha.ext0 (hw.ext _ List.mem_cons_self)) rfl rfl ?_
        refine SL.val (Val.move rfl) rfl rfl ?_
        refine SL.val (Val.toStr rfl fun w' hw => hb.ext0 (hw.ext _ List.mem_cons_self)) rfl rfl ?_
        refine SL.val (Val.eqS rfl rfl) rfl rfl ?_
        refine SL.val (Val.pickT rfl rfl) rfl rfl ?_
        refine SL.val (Val.neBF rfl rfl (by kernel_rfl) (by first | (rw [decide_eq_decide, str_same]; simp only [hc116, true_and]; exact eq_comm) | simp [hc116])) rfl rfl ?_
        refine SL.nil ?_
        refine SE.seq ?_
        refine SC.condF rfl ?_
        refine SC.skip ?_
        refine SE.seq ?_
        refine SC.seq ?_
        refine SC.region ?_
        refine SL.val (Val.assign rfl) rfl rfl ?_
        refine SL.nil ?_
        refine SE.seq ?_
        refine SC.seq ?_
        refine SC.region ?_
        refine SL.val (Val.move rfl) rfl rfl ?_
        refine SL.call (by kernel_rfl) rfl rfl rfl ?_
        intro w' hw
        refine (nil_Sizes w').mono ?_; rintro _ _ ⟨rfl, rfl⟩; refine ⟨_, _, rfl, hw, ?_⟩; clear hw w'
        refine SL.val (Val.move rfl) rfl rfl ?_
        refine SL.val (Val.extract rfl rfl) rfl rfl ?_
        refine SL.val (Val.extract rfl rfl) rfl rfl ?_
        refine SL.val (Val.assign rfl) rfl rfl ?_
        refine SL.val (Val.assign rfl) rfl rfl ?_
        refine SL.nil ?_
        refine SE.seq ?_
        refine SC.seq ?_
        refine SC.region ?_
        refine SL.val (Val.move rfl) rfl rfl ?_
        refine SL.val (Val.move rfl) rfl rfl ?_
        first
          | refine SL.val (Val.addI rfl rfl (by simp only [InR, lo, hi]; omega)) rfl rfl ?_
          | refine SL.val (Val.addW rfl rfl) rfl rfl ?_
        refine SL.val (Val.eqI rfl rfl) rfl rfl ?_
        refine SL.val (Val.move rfl) rfl rfl ?_
        refine SL.bothP (t := 133) rfl ?_ (by intro hc133; exfalso; omega)
        intro hc133
        refine SL.val (Val.move rfl) rfl rfl ?_
        refine SL.val (Val.move rfl) rfl rfl ?_
        refine SL.val (Val.move rfl) rfl rfl ?_
        refine SL.call (by kernel_rfl) rfl rfl rfl ?_
        intro w' hw
        refine (nil_Digest w' _ _).mono ?_; rintro _ _ ⟨rfl, hx0⟩; refine ⟨_, _, rfl, hw.same hx0, ?_⟩; clear hx0 hw w'
        refine SL.val (Val.buildA tabOk rfl rfl rfl rfl) rfl rfl ?_
        refine SL.val (Val.eqAB (X := List.replicate 32 0) (Y := List.replicate 32 0) true Try.underlying46 (by kernel_rfl) (by kernel_rfl) rfl rfl (by kernel_rfl) rfl rfl (by simp)) rfl rfl ?_
        refine SL.val (Val.pickT rfl rfl) rfl rfl ?_
        refine SL.val (Val.move rfl) rfl rfl ?_
        refine SL.val (Val.move rfl) rfl rfl ?_
        refine SL.val (Val.move rfl) rfl rfl ?_
        refine SL.val (Val.move rfl) rfl rfl ?_
        refine SL.val (Val.move rfl) rfl rfl ?_
        refine SL.call (by kernel_rfl) rfl rfl rfl ?_
        intro w' hw
        refine (nil_Tag w' _ _ _).mono ?_; rintro _ _ ⟨rfl, hx0⟩; refine ⟨_, _, rfl, hw.same hx0, ?_⟩; clear hx0 hw w'
        refine SL.val (Val.buildA tabOk rfl rfl rfl rfl) rfl rfl ?_
        refine SL.val (Val.eqAB (X := List.replicate 32 0) (Y := List.replicate 32 0) true Try.underlying48 (by kernel_rfl) (by kernel_rfl) rfl rfl (by kernel_rfl) rfl rfl (by simp)) rfl rfl ?_
        refine SL.val (Val.pickT rfl rfl) rfl rfl ?_
        refine SL.val (Val.move rfl) rfl rfl ?_
        refine SL.val (Val.move rfl) rfl rfl ?_
        refine SL.val (Val.move rfl) rfl rfl ?_
        refine SL.val (Val.move rfl) rfl rfl ?_
        refine SL.val (Val.move rfl) rfl rfl ?_
        refine SL.call (by kernel_rfl) rfl rfl rfl ?_
        intro w' hw
        refine (nil_Said w' _ _ _).mono ?_; rintro _ _ ⟨rfl, rfl⟩; refine ⟨_, _, rfl, hw, ?_⟩; clear hw w'
        refine SL.val (Val.notF rfl) rfl rfl ?_
        refine SL.val (Val.pickT rfl rfl) rfl rfl ?_
        refine SL.val (Val.move rfl) rfl rfl ?_
        refine SL.val (Val.move rfl) rfl rfl ?_
        refine SL.val (Val.move rfl) rfl rfl ?_
        refine SL.val (Val.move rfl) rfl rfl ?_
        refine SL.val (Val.move rfl) rfl rfl ?_
        first
          | refine SL.val (Val.loadA tabOk rfl rfl rfl (by repeat (first | exact List.mem_cons_self | apply List.mem_cons_of_mem)) (by rfl)) rfl rfl ?_
          | refine SL.val (Val.loadAC tabOk rfl rfl rfl (by assumption) (by assumption)) rfl rfl ?_
          | refine SL.val (Val.loadP tabOk rfl rfl rfl (by repeat (first | exact List.mem_cons_self | apply List.mem_cons_of_mem)) (by decide)) rfl rfl ?_
        refine SL.call (by kernel_rfl) rfl rfl rfl ?_
        intro w' hw
        refine (nil_Check w' _ _ _ (numB 255 1)).mono ?_; rintro _ _ ⟨rfl, hx0⟩; refine ⟨_, _, rfl, hw.same hx0, ?_⟩; clear hx0 hw w'
        refine SL.val (Val.notF rfl) rfl rfl ?_
        refine SL.val (Val.pickT rfl rfl) rfl rfl ?_
        refine SL.val (Val.assign rfl) rfl rfl ?_
        refine SL.nil ?_
        refine SE.seq ?_
        refine SC.ret ?_
        refine SE.ret1 rfl rfl ?_
        intro w' hw; exact ⟨rfl, hw.ext _ List.mem_cons_self⟩
      · intro hc116
        refine SL.skip rfl rfl ?_
        refine SL.skip rfl rfl ?_
        refine SL.skip rfl rfl ?_
        refine SL.skip rfl rfl ?_
        refine SL.skip rfl rfl ?_
        refine SL.val (Val.pickF rfl rfl) rfl rfl ?_
        refine SL.val (Val.neBF rfl rfl (by kernel_rfl) (by first | (rw [decide_eq_decide, str_same]; simp only [hc116, true_and]; exact eq_comm) | simp [hc116])) rfl rfl ?_
        refine SL.nil ?_
        refine SE.seq ?_
        refine SC.condF rfl ?_
        refine SC.skip ?_
        refine SE.seq ?_
        refine SC.seq ?_
        refine SC.region ?_
        refine SL.val (Val.assign rfl) rfl rfl ?_
        refine SL.nil ?_
        refine SE.seq ?_
        refine SC.seq ?_
        refine SC.region ?_
        refine SL.val (Val.move rfl) rfl rfl ?_
        refine SL.call (by kernel_rfl) rfl rfl rfl ?_
        intro w' hw
        refine (nil_Sizes w').mono ?_; rintro _ _ ⟨rfl, rfl⟩; refine ⟨_, _, rfl, hw, ?_⟩; clear hw w'
        refine SL.val (Val.move rfl) rfl rfl ?_
        refine SL.val (Val.extract rfl rfl) rfl rfl ?_
        refine SL.val (Val.extract rfl rfl) rfl rfl ?_
        refine SL.val (Val.assign rfl) rfl rfl ?_
        refine SL.val (Val.assign rfl) rfl rfl ?_
        refine SL.nil ?_
        refine SE.seq ?_
        refine SC.seq ?_
        refine SC.region ?_
        refine SL.val (Val.move rfl) rfl rfl ?_
        refine SL.val (Val.move rfl) rfl rfl ?_
        first
          | refine SL.val (Val.addI rfl rfl (by simp only [InR, lo, hi]; omega)) rfl rfl ?_
          | refine SL.val (Val.addW rfl rfl) rfl rfl ?_
        refine SL.val (Val.eqI rfl rfl) rfl rfl ?_
        refine SL.val (Val.move rfl) rfl rfl ?_
        refine SL.bothP (t := 133) rfl ?_ (by intro hc133; exfalso; omega)
        intro hc133
        refine SL.val (Val.move rfl) rfl rfl ?_
        refine SL.val (Val.move rfl) rfl rfl ?_
        refine SL.val (Val.move rfl) rfl rfl ?_
        refine SL.call (by kernel_rfl) rfl rfl rfl ?_
        intro w' hw
        refine (nil_Digest w' _ _).mono ?_; rintro _ _ ⟨rfl, hx0⟩; refine ⟨_, _, rfl, hw.same hx0, ?_⟩; clear hx0 hw w'
        refine SL.val (Val.buildA tabOk rfl rfl rfl rfl) rfl rfl ?_
        refine SL.val (Val.eqAB (X := List.replicate 32 0) (Y := List.replicate 32 0) true Try.underlying46 (by kernel_rfl) (by kernel_rfl) rfl rfl (by kernel_rfl) rfl rfl (by simp)) rfl rfl ?_
        refine SL.val (Val.pickT rfl rfl) rfl rfl ?_
        refine SL.val (Val.move rfl) rfl rfl ?_
        refine SL.val (Val.move rfl) rfl rfl ?_
        refine SL.val (Val.move rfl) rfl rfl ?_
        refine SL.val (Val.move rfl) rfl rfl ?_
        refine SL.val (Val.move rfl) rfl rfl ?_
        refine SL.call (by kernel_rfl) rfl rfl rfl ?_
        intro w' hw
        refine (nil_Tag w' _ _ _).mono ?_; rintro _ _ ⟨rfl, hx0⟩; refine ⟨_, _, rfl, hw.same hx0, ?_⟩; clear hx0 hw w'
        refine SL.val (Val.buildA tabOk rfl rfl rfl rfl) rfl rfl ?_
        refine SL.val (Val.eqAB (X := List.replicate 32 0) (Y := List.replicate 32 0) true Try.underlying48 (by kernel_rfl) (by kernel_rfl) rfl rfl (by kernel_rfl) rfl rfl (by simp)) rfl rfl ?_
        refine SL.val (Val.pickT rfl rfl) rfl rfl ?_
        refine SL.val (Val.move rfl) rfl rfl ?_
        refine SL.val (Val.move rfl) rfl rfl ?_
        refine SL.val (Val.move rfl) rfl rfl ?_
        refine SL.val (Val.move rfl) rfl rfl ?_
        refine SL.val (Val.move rfl) rfl rfl ?_
        refine SL.call (by kernel_rfl) rfl rfl rfl ?_
        intro w' hw
        refine (nil_Said w' _ _ _).mono ?_; rintro _ _ ⟨rfl, rfl⟩; refine ⟨_, _, rfl, hw, ?_⟩; clear hw w'
        refine SL.val (Val.notF rfl) rfl rfl ?_
        refine SL.val (Val.pickT rfl rfl) rfl rfl ?_
        refine SL.val (Val.move rfl) rfl rfl ?_
        refine SL.val (Val.move rfl) rfl rfl ?_
        refine SL.val (Val.move rfl) rfl rfl ?_
        refine SL.val (Val.move rfl) rfl rfl ?_
        refine SL.val (Val.move rfl) rfl rfl ?_
        first
          | refine SL.val (Val.loadA tabOk rfl rfl rfl (by repeat (first | exact List.mem_cons_self | apply List.mem_cons_of_mem)) (by rfl)) rfl rfl ?_
          | refine SL.val (Val.loadAC tabOk rfl rfl rfl (by assumption) (by assumption)) rfl rfl ?_
          | refine SL.val (Val.loadP tabOk rfl rfl rfl (by repeat (first | exact List.mem_cons_self | apply List.mem_cons_of_mem)) (by decide)) rfl rfl ?_
        refine SL.call (by kernel_rfl) rfl rfl rfl ?_
        intro w' hw
        refine (nil_Check w' _ _ _ (numB 255 1)).mono ?_; rintro _ _ ⟨rfl, hx0⟩; refine ⟨_, _, rfl, hw.same hx0, ?_⟩; clear hx0 hw w'
        refine SL.val (Val.notF rfl) rfl rfl ?_
        refine SL.val (Val.pickT rfl rfl) rfl rfl ?_
        refine SL.val (Val.assign rfl) rfl rfl ?_
        refine SL.nil ?_
        refine SE.seq ?_
        refine SC.ret ?_
        refine SE.ret1 rfl rfl ?_
        intro w' hw; exact ⟨rfl, hw.ext _ List.mem_cons_self⟩
end Go.Proofs.Ytdbeinbgekdnmaa
