/-
  Packed out of the texts: OctDo, OctPut.
-/
import Derived.Test.YtpgffckfbgfgcaaE02
/-
  Layer 1 over the engine: readers of bytes, the program's and the document's.
-/
set_option maxRecDepth 100000
namespace Go.Proofs.Ytpgffckfbgfgcaa
open Go.RowKit

section
variable {S : List (World × List Nat)} {σ τ : Blks} {ρ : List Dt} {w : World} {p : Nat} {s : Rd}
theorem own_of {K : List Nat} {w w' : World} {r : Value} {l : List UInt8} (h : OwnB w' w.heap.size r l) (hK : ∀ k ∈ K, k < w.heap.size) : IsRow K w' r l.length (l.map bc) :=
  bytes_isRow h.bytes fun b off n c hv _ hk => by
    subst hv
    have := (h.block b rfl).1
    have := hK b hk
    omega
theorem Mem.small (h : Mem S σ ρ w) : ∀ k ∈ σ.flatMap It.ids, k < w.heap.size := fun k hk => by
  obtain ⟨z, hz, hk⟩ := List.mem_flatMap.1 hk
  exact h.lt hz k hk
theorem Mem.bytes {v : Value} {l : List UInt8} (h : Mem S σ ρ w) (hb : bytesD v l ∈ ρ) : BytesV w v l := isRow_bytes (h.data hb)
/-- A row of the call's own out of one that is new. -/
theorem Mem.owned {w' : World} {r : Value} {l : List UInt8} (h : Mem S σ ρ w) (hx : Ext [] w w') (ho : OwnB w' w.heap.size r l) : Mem S (.pc (ownPc 5 1 r l.length (l.map bc)) :: σ) ρ w' :=
  h.new hx (ho.mono (Nat.zero_le _)) own_ids fun k hk => by
    have hk' : r.ownBlock = some k := by simpa [It.ids, ownPc] using hk
    exact (ho.block k hk').1
theorem clone_c {v : Value} {l : List UInt8} (hw : Mem S σ ρ w) (hb : BytesV w v l) (hl : l.length ≤ lots) : Calls Try.prog 107 #[v] w fun e w' => ∃ r, e = .returned r ∧ Mem S σ (bytesD r l :: ρ) w' :=
  (slices_Clone w v l hb (by unfold lots at hl; omega)).mono fun e w' ⟨r, h1, h2, h3⟩ => ⟨r, h1, (hw.same h3).add (own_of h2 hw.small)⟩
theorem put_own {v : Value} {l : List UInt8} {x : Nat} {n : Int} (hw : Mem S σ ρ w) (hb : BytesV w v l) (hl : l.length ≤ lots) (hx : x < 18446744073709551616) (hn : sizeB n = true) :
    Calls Try.prog 116 #[v, .int .u64 x, .int .i64 n] w fun e w' => ∃ r, e = .returned r ∧ Mem S (.pc (ownPc 5 1 r (l ++ beBytes x n.toNat).length ((l ++ beBytes x n.toNat).map bc)) :: σ) ρ w' :=
  (octets_Put w v l x hx n hb (by unfold lots at hl; omega) hn).mono fun e w' ⟨r, h1, h2, h3⟩ => ⟨r, h1, hw.owned h3 h2⟩
theorem put_c {v : Value} {l : List UInt8} {x : Nat} {n : Int} (hw : Mem S σ ρ w) (hb : BytesV w v l) (hl : l.length ≤ lots) (hx : x < 18446744073709551616) (hn : sizeB n = true) :
    Calls Try.prog 116 #[v, .int .u64 x, .int .i64 n] w fun e w' => ∃ r, e = .returned r ∧ Mem S σ (bytesD r (l ++ beBytes x n.toNat) :: ρ) w' :=
  (put_own hw hb hl hx hn).mono fun _ _ ⟨r, h1, h2⟩ => ⟨r, h1, h2.freeze⟩

theorem ok_c (hw : Mem S σ ρ w) (hb : rdI 271 p s ∈ σ) : Calls Try.prog 186 #[.pointer (some ⟨p, 0, none⟩)] w fun e w' => e = .returned (.bool (decide (s.e = 0))) ∧ Mem S σ ρ w' := by
  refine calls_of [.pointer (some ⟨p, 0, none⟩)] Try.func186 rfl Try.ntmps186 rfl (Mem S σ ρ) hw ?_
  refine SC.seq (SC.region ?_)
  refine SL.val (Val.assign rfl) rfl rfl ?_
  refine SL.nil (SE.seq ?_)
  refine SC.seq (SC.region ?_)
  refine SL.val (Val.move rfl) rfl rfl ?_
  refine SL.val (Val.neP rfl rfl (by kernel_rfl)) rfl rfl ?_
  refine SL.val (Val.move rfl) rfl rfl ?_
  refine SL.val (Val.move rfl) rfl rfl ?_
  refine SL.val (Val.nilCheck rfl) rfl rfl ?_
  refine SL.val (Val.fieldAddr tabOk rfl rfl rfl rfl rfl) rfl rfl ?_
  first
    | refine SL.val (Val.load1 tabOk rfl rfl (by repeat (first | assumption | exact List.mem_cons_self | exact hmem _ | apply List.mem_cons_of_mem)) (by rfl)) rfl rfl ?_
    | refine SL.val (Val.load1C tabOk rfl rfl (by assumption)) rfl rfl ?_
  refine SL.val (Val.eqI rfl rfl) rfl rfl ?_
  refine SL.val (Val.pickT rfl rfl) rfl rfl ?_
  refine SL.val (Val.assign rfl) rfl rfl ?_
  refine SL.nil (SE.seq ?_)
  refine SC.ret ?_
  refine SE.ret1 rfl rfl ?_
  intro w' hw'; exact ⟨rfl, hw'⟩

theorem fail_c {x : Int} (hw : Mem S σ ρ w) (hu : Upd (rdI 271 p s) (rdI 271 p (s.fail x)) σ τ) (he : s.e = 0) : Calls Try.prog 187 #[.pointer (some ⟨p, 0, none⟩), .int .i64 x] w fun e w' => e = .returned (.tuple #[]) ∧ Mem S τ ρ w' := by
  have hb := hu.mem
  refine calls_of [.pointer (some ⟨p, 0, none⟩), .int .i64 x] Try.func187 rfl Try.ntmps187 rfl (Mem S σ ρ) hw ?_
  refine SC.seq (SC.region ?_)
  refine SL.val (Val.move rfl) rfl rfl ?_
  refine SL.val (Val.nilCheck rfl) rfl rfl ?_
  refine SL.val (Val.fieldAddr tabOk rfl rfl rfl rfl rfl) rfl rfl ?_
  first
    | refine SL.val (Val.load1 tabOk rfl rfl (by repeat (first | assumption | exact List.mem_cons_self | exact hmem _ | apply List.mem_cons_of_mem)) (by rfl)) rfl rfl ?_
    | refine SL.val (Val.load1C tabOk rfl rfl (by assumption)) rfl rfl ?_
  refine SL.val (Val.eqI rfl rfl) rfl rfl ?_
  refine SL.nil (SE.seq ?_)
  refine SC.condP rfl ?_ (by intro hc8; exfalso; omega)
  intro hc8
  refine SC.region ?_
  refine SL.val (Val.move rfl) rfl rfl ?_
  refine SL.val (Val.move rfl) rfl rfl ?_
  refine SL.val (Val.nilCheck rfl) rfl rfl ?_
  refine SL.val (Val.fieldAddr tabOk rfl rfl rfl rfl rfl) rfl rfl ?_
  refine SL.eff (Eff.store1 tabOk rfl rfl rfl rfl rfl (by repeat (first | assumption | exact Upd.here | exact hrep _ _ | apply Upd.there)) (by rfl) (by rfl)) rfl rfl ?_
  rintro _ _ ⟨rfl, rfl⟩
  refine SL.nil ?_
  refine SE.done (rs := []) rfl RV.nil ?_
  intro w' hw'; exact ⟨rfl, hw'⟩

set_option maxHeartbeats 400000 in
theorem fixed_a {n : Int} (hw : Mem S σ ρ w) (hb : rdI 271 p s ∈ σ) (hv : bytesD s.v s.l ∈ ρ) (he : s.e ≠ 0) : Calls Try.prog 188 #[.pointer (some ⟨p, 0, none⟩), .int .i64 n] w fun e w' => ∃ r, e = .returned r ∧ Mem S σ (bytesD r [] :: bytesD s.v s.l :: ρ) w' := by
  refine calls_of [.pointer (some ⟨p, 0, none⟩), .int .i64 n] Try.func188 rfl Try.ntmps188 rfl (Mem S σ ρ) hw ?_
  refine SC.seq (SC.region ?_)
  refine SL.val (Val.assign rfl) rfl rfl ?_
  refine SL.nil (SE.seq ?_)
  refine SC.seq ?_
  refine SC.block ?_
  refine SC.seq (SC.region ?_)
  refine SL.val (Val.move rfl) rfl rfl ?_
  refine SL.call (by kernel_rfl) rfl rfl rfl ?_
  intro w hw
  refine (ok_c (s := s) hw (by repeat (first | assumption | exact List.mem_cons_self | exact hmem _ | apply List.mem_cons_of_mem))).mono ?_; rintro _ _ ⟨rfl, hm⟩; refine ⟨_, _, rfl, hm, ?_⟩; clear hm hw w
  refine SL.val (Val.notP rfl) rfl rfl ?_
  refine SL.val (Val.assign rfl) rfl rfl ?_
  refine SL.nil (SE.seq ?_)
  refine SC.condP rfl ?_ (by intro hc6; exfalso; omega)
  intro hc6
  refine SC.seq (SC.region ?_)
  refine SL.val (Val.assign rfl) rfl rfl ?_
  refine SL.nil (SE.seq ?_)
  refine SC.ret ?_
  refine SE.ret ?_
  refine SE.then_ (by intro h; cases h) ?_
  refine SE.ret1 rfl rfl ?_
  intro w' hw'
  exact ⟨_, rfl, (hw'.add (z := bytesD _ _) (hw'.data hv)).add (z := bytesD (.slice none 0 0) []) (IsRow.nil rfl)⟩

set_option maxHeartbeats 400000 in
theorem fixed_b {n : Int} (hw : Mem S σ ρ w) (hu : Upd (rdI 271 p s) (rdI 271 p (s.fail 2)) σ τ) (hv : bytesD s.v s.l ∈ ρ) (he : s.e = 0) (hn : s.bad n) : Calls Try.prog 188 #[.pointer (some ⟨p, 0, none⟩), .int .i64 n] w fun e w' => ∃ r, e = .returned r ∧ Mem S τ (bytesD r [] :: bytesD s.v s.l :: ρ) w' := by
  have hb := hu.mem
  have hb2 := hu.mem'
  have hsv := (hw.data hv).shape
  obtain ⟨v, l, e⟩ := s
  obtain ⟨A, c, hsv, hs1, hs2, hs3⟩ := hsv
  dsimp only at hsv
  subst hsv
  unfold Rd.bad at hn
  dsimp only [Rd.fail] at *
  refine calls_of [.pointer (some ⟨p, 0, none⟩), .int .i64 n] Try.func188 rfl Try.ntmps188 rfl (Mem S σ ρ) hw ?_
  refine SC.seq (SC.region ?_)
  refine SL.val (Val.assign rfl) rfl rfl ?_
  refine SL.nil (SE.seq ?_)
  refine SC.seq ?_
  refine SC.block ?_
  refine SC.seq (SC.region ?_)
  refine SL.val (Val.move rfl) rfl rfl ?_
  refine SL.call (by kernel_rfl) rfl rfl rfl ?_
  intro w hw
  refine (ok_c (s := ⟨.slice A l.length c, l, e⟩) hw (by repeat (first | assumption | exact List.mem_cons_self | exact hmem _ | apply List.mem_cons_of_mem))).mono ?_; rintro _ _ ⟨rfl, hm⟩; refine ⟨_, _, rfl, hm, ?_⟩; clear hm hw w
  refine SL.val (Val.notP rfl) rfl rfl ?_
  refine SL.val (Val.assign rfl) rfl rfl ?_
  refine SL.nil (SE.seq ?_)
  refine SC.condP rfl (by intro hc6; exfalso; exact hc6 he) ?_
  intro hc6
  refine SC.seq (SC.region ?_)
  refine SL.val (Val.move rfl) rfl rfl ?_
  refine SL.val (Val.ltI rfl rfl) rfl rfl ?_
  refine SL.val (Val.move rfl) rfl rfl ?_
  refine SL.bothP (t := 13) rfl ?_ ?_
  · intro hc13
    iterate 7 refine SL.skip rfl rfl ?_
    refine SL.val (Val.pickT rfl rfl) rfl rfl ?_
    refine SL.val (Val.assign rfl) rfl rfl ?_
    refine SL.nil (SE.seq ?_)
    refine SC.condT rfl ?_
    refine SC.seq (SC.region ?_)
    refine SL.val (Val.move rfl) rfl rfl ?_
    refine SL.call (by kernel_rfl) rfl rfl rfl ?_
    intro w hw
    refine (fail_c (s := ⟨.slice A l.length c, l, e⟩) hw (by repeat (first | assumption | exact Upd.here | exact hrep _ _ | apply Upd.there)) he).mono ?_; rintro _ _ ⟨rfl, hm⟩; refine ⟨_, _, rfl, hm, ?_⟩; clear hm hw w
    refine SL.nil (SE.seq ?_)
    refine SC.seq (SC.region ?_)
    refine SL.val (Val.assign rfl) rfl rfl ?_
    refine SL.nil (SE.seq ?_)
    refine SC.ret ?_
    refine SE.ret ?_
    refine SE.then_ (by intro h; cases h) ?_
    refine SE.ret1 rfl rfl ?_
    intro w' hw'
    exact ⟨_, rfl, (hw'.add (z := bytesD _ _) (hw'.data hv)).add (z := bytesD (.slice none 0 0) []) (IsRow.nil rfl)⟩
  intro hc13
  refine SL.val (Val.move rfl) rfl rfl ?_
  refine SL.val (Val.move rfl) rfl rfl ?_
  refine SL.val (Val.nilCheck rfl) rfl rfl ?_
  refine SL.val (Val.fieldAddr tabOk rfl rfl rfl rfl rfl) rfl rfl ?_
  first
    | refine SL.val (Val.load1 tabOk rfl rfl (by repeat (first | assumption | exact List.mem_cons_self | exact hmem _ | apply List.mem_cons_of_mem)) (by rfl)) rfl rfl ?_
    | refine SL.val (Val.load1C tabOk rfl rfl (by assumption)) rfl rfl ?_
  refine SL.val (Val.lenSl rfl Try.underlying34) rfl rfl ?_
  refine SL.val (Val.gtI rfl rfl) rfl rfl ?_
  refine SL.val (Val.pickF rfl rfl) rfl rfl ?_
  refine SL.val (Val.assign rfl) rfl rfl ?_
  refine SL.nil (SE.seq ?_)
  refine SC.condP rfl ?_ (by intro hc10; exfalso; omega)
  intro hc10
  refine SC.seq (SC.region ?_)
  refine SL.val (Val.move rfl) rfl rfl ?_
  refine SL.call (by kernel_rfl) rfl rfl rfl ?_
  intro w hw
  refine (fail_c (s := ⟨.slice A l.length c, l, e⟩) hw (by repeat (first | assumption | exact Upd.here | exact hrep _ _ | apply Upd.there)) he).mono ?_; rintro _ _ ⟨rfl, hm⟩; refine ⟨_, _, rfl, hm, ?_⟩; clear hm hw w
  refine SL.nil (SE.seq ?_)
  refine SC.seq (SC.region ?_)
  refine SL.val (Val.assign rfl) rfl rfl ?_
  refine SL.nil (SE.seq ?_)
  refine SC.ret ?_
  refine SE.ret ?_
  refine SE.then_ (by intro h; cases h) ?_
  refine SE.ret1 rfl rfl ?_
  intro w' hw'
  exact ⟨_, rfl, (hw'.add (z := bytesD _ _) (hw'.data hv)).add (z := bytesD (.slice none 0 0) []) (IsRow.nil rfl)⟩

set_option maxHeartbeats 400000 in
theorem fixed_c' {n : Nat} (hw : Mem S σ ρ w) (hu : Upd (rdI 271 p s) (rdI 271 p ⟨tailV s.v n, s.l.drop n, 0⟩) σ τ) (hv : bytesD s.v s.l ∈ ρ) (hl : s.l.length ≤ lots) (he : s.e = 0) (hn : n ≤ s.l.length) : Calls Try.prog 188 #[.pointer (some ⟨p, 0, none⟩), .int .i64 n] w fun e w' => ∃ r, e = .returned r ∧ Mem S τ (bytesD r (s.l.take n) :: bytesD (tailV s.v n) (s.l.drop n) :: ρ) w' := by
  have hb := hu.mem
  have hb2 := hu.mem'
  have hsv := (hw.data hv).shape
  obtain ⟨v, l, e⟩ := s
  obtain ⟨A, c, hsv, hs1, hs2, hs3⟩ := hsv
  dsimp only at hsv
  subst hsv
  dsimp only at he
  subst he
  dsimp only at *
  refine calls_of [.pointer (some ⟨p, 0, none⟩), .int .i64 n] Try.func188 rfl Try.ntmps188 rfl (Mem S σ ρ) hw ?_
  refine SC.seq (SC.region ?_)
  refine SL.val (Val.assign rfl) rfl rfl ?_
  refine SL.nil (SE.seq ?_)
  refine SC.seq ?_
  refine SC.block ?_
  refine SC.seq (SC.region ?_)
  refine SL.val (Val.move rfl) rfl rfl ?_
  refine SL.call (by kernel_rfl) rfl rfl rfl ?_
  intro w hw
  refine (ok_c (s := ⟨.slice A l.length c, l, 0⟩) hw (by repeat (first | assumption | exact List.mem_cons_self | exact hmem _ | apply List.mem_cons_of_mem))).mono ?_; rintro _ _ ⟨rfl, hm⟩; refine ⟨_, _, rfl, hm, ?_⟩; clear hm hw w
  refine SL.val (Val.notP rfl) rfl rfl ?_
  refine SL.val (Val.assign rfl) rfl rfl ?_
  refine SL.nil (SE.seq ?_)
  refine SC.condP rfl (by intro hc6; exfalso; simp at hc6) ?_
  intro hc6
  refine SC.seq (SC.region ?_)
  refine SL.val (Val.move rfl) rfl rfl ?_
  refine SL.val (Val.ltI rfl rfl) rfl rfl ?_
  refine SL.val (Val.move rfl) rfl rfl ?_
  refine SL.bothP (t := 13) rfl (by intro hc13; exfalso; omega) ?_
  intro hc13
  refine SL.val (Val.move rfl) rfl rfl ?_
  refine SL.val (Val.move rfl) rfl rfl ?_
  refine SL.val (Val.nilCheck rfl) rfl rfl ?_
  refine SL.val (Val.fieldAddr tabOk rfl rfl rfl rfl rfl) rfl rfl ?_
  first
    | refine SL.val (Val.load1 tabOk rfl rfl (by repeat (first | assumption | exact List.mem_cons_self | exact hmem _ | apply List.mem_cons_of_mem)) (by rfl)) rfl rfl ?_
    | refine SL.val (Val.load1C tabOk rfl rfl (by assumption)) rfl rfl ?_
  refine SL.val (Val.lenSl rfl Try.underlying34) rfl rfl ?_
  refine SL.val (Val.gtI rfl rfl) rfl rfl ?_
  refine SL.val (Val.pickF rfl rfl) rfl rfl ?_
  refine SL.val (Val.assign rfl) rfl rfl ?_
  refine SL.nil (SE.seq ?_)
  refine SC.condP rfl (by intro hc10; exfalso; omega) ?_
  intro hc10
  refine SC.skip ?_
  refine SE.inBlock ?_
  refine SE.seq ?_
  refine SC.seq (SC.region ?_)
  refine SL.val (Val.move rfl) rfl rfl ?_
  refine SL.val (Val.nilCheck rfl) rfl rfl ?_
  refine SL.val (Val.fieldAddr tabOk rfl rfl rfl rfl rfl) rfl rfl ?_
  first
    | refine SL.val (Val.load1 tabOk rfl rfl (by repeat (first | assumption | exact List.mem_cons_self | exact hmem _ | apply List.mem_cons_of_mem)) (by rfl)) rfl rfl ?_
    | refine SL.val (Val.load1C tabOk rfl rfl (by assumption)) rfl rfl ?_
  refine SL.val (Val.move rfl) rfl rfl ?_
  refine SL.val (Val.move rfl) rfl rfl ?_
  refine SL.val (Val.sliceHiMax (q := n) tabOk Try.underlying34 rfl rfl rfl rfl rfl hn hs1) rfl rfl ?_
  refine SL.call (by kernel_rfl) rfl rfl rfl ?_
  intro w hw
  refine (clone_c (l := l.take n) hw (isRow_bytes (IsRow.head (hw.data hv) hn n (Nat.le_refl _) (by omega))) (by rw [List.length_take]; omega)).mono ?_; rintro _ _ ⟨r, rfl, hm⟩; refine ⟨_, _, rfl, hm, ?_⟩; clear hm hw w
  refine SL.val (Val.assign rfl) rfl rfl ?_
  refine SL.nil (SE.seq ?_)
  refine SC.seq (SC.region ?_)
  refine SL.val (Val.move rfl) rfl rfl ?_
  refine SL.val (Val.move rfl) rfl rfl ?_
  refine SL.val (Val.nilCheck rfl) rfl rfl ?_
  refine SL.val (Val.fieldAddr tabOk rfl rfl rfl rfl rfl) rfl rfl ?_
  first
    | refine SL.val (Val.load1 tabOk rfl rfl (by repeat (first | assumption | exact List.mem_cons_self | exact hmem _ | apply List.mem_cons_of_mem)) (by rfl)) rfl rfl ?_
    | refine SL.val (Val.load1C tabOk rfl rfl (by assumption)) rfl rfl ?_
  refine SL.val (Val.move rfl) rfl rfl ?_
  refine SL.val (Val.sliceLo (q := n) tabOk Try.underlying34 rfl rfl rfl rfl rfl hn) rfl rfl ?_
  refine SL.val (Val.nilCheck rfl) rfl rfl ?_
  refine SL.val (Val.fieldAddr tabOk rfl rfl rfl rfl rfl) rfl rfl ?_
  refine SL.eff (Eff.store1 tabOk rfl rfl rfl rfl rfl (by repeat (first | assumption | exact Upd.here | exact hrep _ _ | apply Upd.there)) (by rfl) (by rfl)) rfl rfl ?_
  rintro _ _ ⟨rfl, rfl⟩
  refine SL.nil (SE.seq ?_)
  refine SC.seq (SC.region ?_)
  refine SL.val (Val.move rfl) rfl rfl ?_
  refine SL.val (Val.assign rfl) rfl rfl ?_
  refine SL.nil (SE.seq ?_)
  refine SC.ret ?_
  refine SE.ret1 rfl rfl ?_
  intro w' hw'
  exact ⟨_, rfl, (hw'.add (z := bytesD _ _) (IsRow.tail (l := l) (hw'.data (z := bytesD _ l) (List.mem_cons_of_mem _ hv)) hn)).less (by intro x hx; simp only [List.mem_cons] at hx ⊢; rcases hx with rfl | rfl | hx <;> simp [*])⟩

theorem fixed_c {n : Int} (hw : Mem S σ ρ w) (hu : Upd (rdI 271 p s) (rdI 271 p (s.fixed n)) σ τ) (hv : bytesD s.v s.l ∈ ρ) (hl : s.l.length ≤ lots) : Calls Try.prog 188 #[.pointer (some ⟨p, 0, none⟩), .int .i64 n] w fun e w' => ∃ r, e = .returned r ∧ Mem S τ (bytesD r (s.out n) :: bytesD (s.fixed n).v (s.fixed n).l :: ρ) w' := by
  by_cases he : s.e = 0
  · by_cases hn : s.bad n
    · have e1 : s.fixed n = s.fail 2 := by simp [Rd.fixed, he, hn, Rd.fail]
      have e2 : s.out n = [] := by simp [Rd.out, hn]
      rw [e1] at hu ⊢
      rw [e2]
      exact fixed_b (s := s) hw hu hv he hn
    · have e1 : s.fixed n = ⟨tailV s.v n.toNat, s.l.drop n.toNat, 0⟩ := by simp [Rd.fixed, he, hn]
      have e2 : s.out n = s.l.take n.toNat := by simp [Rd.out, he, hn]
      rw [e1] at hu ⊢
      rw [e2]
      unfold Rd.bad at hn
      obtain ⟨k, rfl⟩ : ∃ k : Nat, n = k := ⟨n.toNat, by omega⟩
      exact fixed_c' (s := s) hw hu hv hl he (by omega)
  · have e1 : s.fixed n = s := by simp [Rd.fixed, he]
    have e2 : s.out n = [] := by simp [Rd.out, he]
    rw [e1] at hu ⊢
    rw [e2, upd_self hu]
    exact fixed_a (s := s) hw hu.mem hv he

set_option maxHeartbeats 400000 in
theorem number_c {n : Int} (hw : Mem S σ ρ w) (hu : Upd (rdI 271 p s) (rdI 271 p (s.fixed n)) σ τ) (hv : bytesD s.v s.l ∈ ρ) (hl : s.l.length ≤ lots) (hn : sizeB n = true) : Calls Try.prog 122 #[.pointer (some ⟨p, 0, none⟩), .int .i64 n] w fun e w' => e = .returned (.int .u64 (s.num n : Nat)) ∧ Mem S τ (bytesD (s.fixed n).v (s.fixed n).l :: ρ) w' := by
  have hb := hu.mem
  have h8 : (s.out n).length ≤ 8 := Nat.le_trans (s.out_length n) (sizeB_le hn).2
  unfold Rd.num
  refine calls_of [.pointer (some ⟨p, 0, none⟩), .int .i64 n] Try.func122 rfl Try.ntmps122 rfl (Mem S σ ρ) hw ?_
  refine SC.seq (SC.region ?_)
  refine SL.val (Val.assign rfl) rfl rfl ?_
  refine SL.nil (SE.seq ?_)
  refine SC.seq ?_
  refine SC.cut (ι := Unit) (fun _ => [(0, .pointer (some ⟨p, 0, none⟩)), (1, .int .i64 n), (14, .bool false)]) (fun _ => Mem S σ ρ) ?_ ?_
  · skip
    refine SC.region ?_
    refine SL.val (Val.move rfl) rfl rfl ?_
    refine SL.call (by kernel_rfl) rfl rfl rfl ?_
    intro w hw
    refine (ok_c (s := s) hw (by repeat (first | assumption | exact List.mem_cons_self | exact hmem _ | apply List.mem_cons_of_mem))).mono ?_; rintro _ _ ⟨rfl, hm⟩; refine ⟨_, _, rfl, hm, ?_⟩; clear hm hw w
    refine SL.val (Val.move rfl) rfl rfl ?_
    refine SL.bothP (t := 10) rfl ?_ ?_
    rotate_left
    · intro hc10
      iterate 3 refine SL.skip rfl rfl ?_
      refine SL.val (Val.pickF rfl rfl) rfl rfl ?_
      refine SL.nil ?_
      exact SE.meet () (by exact ⟨rfl, rfl, rfl, trivial⟩) (fun _ h => h)
    intro hc10
    refine SL.val (Val.move rfl) rfl rfl ?_
    refine SL.call (by kernel_rfl) rfl rfl rfl ?_
    intro w hw
    refine (octets_size n true hn w).mono ?_; rintro _ _ ⟨rfl, rfl⟩; refine ⟨_, _, rfl, hw, ?_⟩; clear hw w
    refine SL.val (Val.notT rfl) rfl rfl ?_
    refine SL.val (Val.pickT rfl rfl) rfl rfl ?_
    refine SL.nil ?_
    exact SE.meet () (by exact ⟨rfl, rfl, rfl, trivial⟩) (fun _ h => h)
  · intro _
    refine SC.condF rfl ?_
    refine SC.skip ?_
    refine SE.seq ?_
    refine SC.seq (SC.region ?_)
    refine SL.val (Val.assign rfl) rfl rfl ?_
    refine SL.nil (SE.seq ?_)
    refine SC.seq ?_
    refine SC.seq (SC.region ?_)
    refine SL.val (Val.move rfl) rfl rfl ?_
    refine SL.val (Val.move rfl) rfl rfl ?_
    refine SL.call (by kernel_rfl) rfl rfl rfl ?_
    intro w hw
    refine (fixed_c (s := s) hw hu hv hl).mono ?_; rintro _ _ ⟨r, rfl, hm⟩; obtain ⟨A, c, rfl, h1, h2, h3⟩ := (hm.data List.mem_cons_self).shape; have hA : s.out n ≠ [] → ∃ b off, A = some ⟨b, off, none⟩ := fun h => row_at (hm.data List.mem_cons_self) (by simpa using h); refine ⟨_, _, rfl, hm, ?_⟩; clear hm hw w
    refine SL.val (Val.lenSl rfl Try.underlying34) rfl rfl ?_
    refine SL.val (Val.move rfl) rfl rfl ?_
    refine SL.nil (SE.seq ?_)
    refine SC.block ?_
    refine SC.loop (ι := Nat) (fun k => [(5, .int .u64 (beVal ((s.out n).take k) : Nat)), (19, .slice A (s.out n).length c), (20, .int .i64 ((s.out n).length : Nat)), (21, .int .i64 (k : Nat))]) (fun k w' => k ≤ (s.out n).length ∧ Mem S τ (bytesD (.slice A (s.out n).length c) (s.out n) :: bytesD (s.fixed n).v (s.fixed n).l :: ρ) w') (fun k => (s.out n).length - k) 0 (by exact ⟨rfl, rfl, rfl, rfl, trivial⟩) (fun w' hw' => ⟨Nat.zero_le _, hw'⟩) ?_
    intro k
    refine SC.facts ?_
    intro hk
    refine SC.seq (SC.region ?_)
    refine SL.val (Val.ltI rfl rfl) rfl rfl ?_
    refine SL.nil (SE.seq ?_)
    refine SC.seq ?_
    refine SC.condP rfl ?_ ?_
    rotate_left
    · intro hc22
      refine SC.exit ?_
      refine SE.then_ (by intro h; cases h) ?_
      refine SE.then_ (by intro h; cases h) ?_
      refine SE.exit ?_
      refine SE.seq ?_
      refine SC.seq (SC.region ?_)
      refine SL.val (Val.move rfl) rfl rfl ?_
      refine SL.val (Val.assign rfl) rfl rfl ?_
      refine SL.nil (SE.seq ?_)
      refine SC.ret ?_
      refine SE.ret1 rfl rfl ?_
      intro w' hw'
      have hk2 : k = (s.out n).length := by omega
      subst hk2
      rw [List.take_of_length_le (Nat.le_refl _)]
      exact ⟨rfl, hw'.less (fun x hx => List.mem_cons_of_mem _ hx)⟩
    intro hc22
    have hlt : k < (s.out n).length := by omega
    have hb := beVal_take (s.out n) k hlt h8
    have hc := ((s.out n)[k]'hlt).toNat_lt
    obtain ⟨bb, off, rfl⟩ := hA (by intro h0; rw [h0] at hlt; simp at hlt)
    refine SC.skip ?_
    refine SE.seq ?_
    refine SC.seq ?_
    refine SC.block ?_
    refine SC.seq (SC.region ?_)
    first
      | refine SL.val (Val.indexSlN tabOk Try.underlying34 rfl rfl rfl (by omega)) rfl rfl ?_
      | refine SL.val (Val.indexSl tabOk Try.underlying34 rfl rfl rfl (by omega)) rfl rfl ?_
    refine SL.val (Val.load1D (u := bc ((s.out n)[k]'hlt)) tabOk rfl rfl (by repeat (first | assumption | exact List.mem_cons_self | exact hmem _ | apply List.mem_cons_of_mem)) (by show ((s.out n).map bc)[k * 1]? = _; rw [Nat.mul_one, List.getElem?_map, List.getElem?_eq_getElem hlt]; rfl)) rfl rfl ?_
    refine SL.val (Val.assign rfl) rfl rfl ?_
    refine SL.nil (SE.seq ?_)
    refine SC.region ?_
    refine SL.val (Val.move rfl) rfl rfl ?_
    refine SL.val (Val.shl8 rfl rfl hb) rfl rfl ?_
    refine SL.val (Val.move rfl) rfl rfl ?_
    first
      | refine SL.val (Val.convI rfl Try.underlying166 (by kernel_rfl) (by simp only [InR, lo, hi]; omega)) rfl rfl ?_
      | refine SL.val (Val.convU rfl Try.underlying166 (by kernel_rfl)) rfl rfl ?_
    refine SL.val (Val.or8 rfl rfl hb hc) rfl rfl ?_
    refine SL.val (Val.assign rfl) rfl rfl ?_
    refine SL.nil ?_
    refine SE.inBlock ?_
    refine SE.seq ?_
    refine SC.region ?_
    first
      | refine SL.val (Val.addI rfl rfl (by simp only [InR, lo, hi]; omega)) rfl rfl ?_
      | refine SL.val (Val.addW rfl rfl) rfl rfl ?_
    refine SL.val (Val.move rfl) rfl rfl ?_
    refine SL.nil ?_
    exact SE.round (k + 1) (by omega) (by exact ⟨by rw [take_snoc8 _ _ hlt]; rfl, rfl, rfl, rfl, trivial⟩) (fun w' hw' => ⟨hlt, hw'⟩)

set_option maxHeartbeats 400000 in
theorem count_m {most : Int} {υ : Blks} (hw : Mem S σ ρ w) (hu1 : Upd (rdI 271 p s) (rdI 271 p (s.fixed 2)) σ υ) (hu2 : Upd (rdI 271 p (s.fixed 2)) (rdI 271 p ((s.fixed 2).fail 4)) υ τ) (hv : bytesD s.v s.l ∈ ρ) (hl : s.l.length ≤ lots) (he : (s.fixed 2).e = 0) (hm : most < s.num 2) : Calls Try.prog 123 #[.pointer (some ⟨p, 0, none⟩), .int .i64 most] w fun e w' => e = .returned (.int .i64 0) ∧ Mem S τ (bytesD (s.fixed 2).v (s.fixed 2).l :: ρ) w' := by
  have hlt := s.num_lt (n := 2) (k := 2) (Nat.le_refl _)
  have hm1 := hu1.mem'
  have hm2 := hu2.mem
  have hm3 := hu2.mem'
  refine calls_of [.pointer (some ⟨p, 0, none⟩), .int .i64 most] Try.func123 rfl Try.ntmps123 rfl (Mem S σ ρ) hw ?_
  refine SC.seq (SC.region ?_)
  refine SL.val (Val.assign rfl) rfl rfl ?_
  refine SL.nil (SE.seq ?_)
  refine SC.seq (SC.region ?_)
  refine SL.val (Val.move rfl) rfl rfl ?_
  refine SL.call (by kernel_rfl) rfl rfl rfl ?_
  intro w hw
  refine (number_c (s := s) hw hu1 hv hl rfl).mono ?_; rintro _ _ ⟨rfl, hm⟩; refine ⟨_, _, rfl, hm, ?_⟩; clear hm hw w
  first
    | refine SL.val (Val.convI rfl Try.underlying3 (by kernel_rfl) (by simp only [InR, lo, hi]; omega)) rfl rfl ?_
    | refine SL.val (Val.convW rfl Try.underlying3 (by kernel_rfl)) rfl rfl ?_
  refine SL.val (Val.assign rfl) rfl rfl ?_
  refine SL.nil (SE.seq ?_)
  refine SC.seq ?_
  refine SC.seq (SC.region ?_)
  refine SL.val (Val.move rfl) rfl rfl ?_
  refine SL.call (by kernel_rfl) rfl rfl rfl ?_
  intro w hw
  refine (ok_c (s := s.fixed 2) hw (by repeat (first | assumption | exact List.mem_cons_self | exact hmem _ | apply List.mem_cons_of_mem))).mono ?_; rintro _ _ ⟨rfl, hm⟩; refine ⟨_, _, rfl, hm, ?_⟩; clear hm hw w
  refine SL.val (Val.move rfl) rfl rfl ?_
  refine SL.bothP (t := 11) rfl ?_ (by intro hc11; exfalso; exact hc11 he)
  intro hc11
  refine SL.val (Val.move rfl) rfl rfl ?_
  refine SL.val (Val.move rfl) rfl rfl ?_
  refine SL.val (Val.gtI rfl rfl) rfl rfl ?_
  refine SL.val (Val.pickT rfl rfl) rfl rfl ?_
  refine SL.nil (SE.seq ?_)
  refine SC.condP rfl ?_ (by intro hc15; exfalso; omega)
  intro hc15
  refine SC.seq (SC.region ?_)
  refine SL.val (Val.move rfl) rfl rfl ?_
  refine SL.call (by kernel_rfl) rfl rfl rfl ?_
  intro w hw
  refine (fail_c (s := s.fixed 2) (x := 4) hw hu2 he).mono ?_; rintro _ _ ⟨rfl, hm⟩; refine ⟨_, _, rfl, hm, ?_⟩; clear hm hw w
  refine SL.nil (SE.seq ?_)
  refine SC.seq (SC.region ?_)
  refine SL.val (Val.assign rfl) rfl rfl ?_
  refine SL.nil (SE.seq ?_)
  refine SC.ret ?_
  refine SE.then_ (by intro h; cases h) ?_
  refine SE.ret1 rfl rfl ?_
  intro w' hw'
  exact ⟨rfl, hw'⟩

set_option maxHeartbeats 400000 in
theorem count_l {most : Int} {υ : Blks} (hw : Mem S σ ρ w) (hu1 : Upd (rdI 271 p s) (rdI 271 p (s.fixed 2)) σ υ) (hv : bytesD s.v s.l ∈ ρ) (hl : s.l.length ≤ lots) (hn : ¬ ((s.fixed 2).e = 0 ∧ most < s.num 2)) (_h0 : (s.fixed 2).e ≠ 0 → s.num 2 = 0) : Calls Try.prog 123 #[.pointer (some ⟨p, 0, none⟩), .int .i64 most] w fun e w' => e = .returned (.int .i64 (s.num 2 : Nat)) ∧ Mem S υ (bytesD (s.fixed 2).v (s.fixed 2).l :: ρ) w' := by
  have hlt := s.num_lt (n := 2) (k := 2) (Nat.le_refl _)
  have hm1 := hu1.mem'
  refine calls_of [.pointer (some ⟨p, 0, none⟩), .int .i64 most] Try.func123 rfl Try.ntmps123 rfl (Mem S σ ρ) hw ?_
  refine SC.seq (SC.region ?_)
  refine SL.val (Val.assign rfl) rfl rfl ?_
  refine SL.nil (SE.seq ?_)
  refine SC.seq (SC.region ?_)
  refine SL.val (Val.move rfl) rfl rfl ?_
  refine SL.call (by kernel_rfl) rfl rfl rfl ?_
  intro w hw
  refine (number_c (s := s) hw hu1 hv hl rfl).mono ?_; rintro _ _ ⟨rfl, hm⟩; refine ⟨_, _, rfl, hm, ?_⟩; clear hm hw w
  first
    | refine SL.val (Val.convI rfl Try.underlying3 (by kernel_rfl) (by simp only [InR, lo, hi]; omega)) rfl rfl ?_
    | refine SL.val (Val.convW rfl Try.underlying3 (by kernel_rfl)) rfl rfl ?_
  refine SL.val (Val.assign rfl) rfl rfl ?_
  refine SL.nil (SE.seq ?_)
  refine SC.seq ?_
  refine SC.seq (SC.region ?_)
  refine SL.val (Val.move rfl) rfl rfl ?_
  refine SL.call (by kernel_rfl) rfl rfl rfl ?_
  intro w hw
  refine (ok_c (s := s.fixed 2) hw (by repeat (first | assumption | exact List.mem_cons_self | exact hmem _ | apply List.mem_cons_of_mem))).mono ?_; rintro _ _ ⟨rfl, hm⟩; refine ⟨_, _, rfl, hm, ?_⟩; clear hm hw w
  refine SL.val (Val.move rfl) rfl rfl ?_
  refine SL.bothP (t := 11) rfl ?_ ?_
  rotate_left
  · intro hc11
    iterate 3 refine SL.skip rfl rfl ?_
    refine SL.val (Val.pickF rfl rfl) rfl rfl ?_
    refine SL.nil (SE.seq ?_)
    refine SC.condF rfl ?_
    refine SC.skip ?_
    refine SE.seq ?_
    refine SC.seq (SC.region ?_)
    refine SL.val (Val.move rfl) rfl rfl ?_
    refine SL.val (Val.assign rfl) rfl rfl ?_
    refine SL.nil (SE.seq ?_)
    refine SC.ret ?_
    refine SE.ret1 rfl rfl ?_
    intro w' hw'
    exact ⟨rfl, hw'⟩
  intro hc11
  refine SL.val (Val.move rfl) rfl rfl ?_
  refine SL.val (Val.move rfl) rfl rfl ?_
  refine SL.val (Val.gtI rfl rfl) rfl rfl ?_
  refine SL.val (Val.pickT rfl rfl) rfl rfl ?_
  refine SL.nil (SE.seq ?_)
  refine SC.condP rfl (by intro hc15; exfalso; exact hn ⟨hc11, hc15⟩) ?_
  intro hc15
  refine SC.skip ?_
  refine SE.seq ?_
  refine SC.seq (SC.region ?_)
  refine SL.val (Val.move rfl) rfl rfl ?_
  refine SL.val (Val.assign rfl) rfl rfl ?_
  refine SL.nil (SE.seq ?_)
  refine SC.ret ?_
  refine SE.ret1 rfl rfl ?_
  intro w' hw'
  exact ⟨rfl, hw'⟩

theorem count_c {most : Int} (hw : Mem S σ ρ w) (hu : Upd (rdI 271 p s) (rdI 271 p (s.count most)) σ τ) (hv : bytesD s.v s.l ∈ ρ) (hl : s.l.length ≤ lots) : Calls Try.prog 123 #[.pointer (some ⟨p, 0, none⟩), .int .i64 most] w fun e w' => e = .returned (.int .i64 (s.countN most : Nat)) ∧ Mem S τ (bytesD (s.count most).v (s.count most).l :: ρ) w' := by
  by_cases h : (s.fixed 2).e = 0 ∧ most < s.num 2
  · have e1 : s.count most = (s.fixed 2).fail 4 := by simp [Rd.count, h]
    have e2 : s.countN most = 0 := by simp [Rd.countN, h]
    rw [e1] at hu ⊢
    rw [e2]
    obtain ⟨υ, h1, h2⟩ := upd_via (y := rdI 271 p (s.fixed 2)) hu
    exact count_m hw h1 h2 hv hl h.1 h.2
  · have e1 : s.count most = s.fixed 2 := by simp only [Rd.count, if_neg h]
    have e2 : s.countN most = s.num 2 := by simp only [Rd.countN, if_neg h]
    rw [e1] at hu ⊢
    rw [e2]
    exact count_l hw hu hv hl h (fun he => s.num0 he)

set_option maxHeartbeats 400000 in
theorem row_a {most : Int} {υ : Blks} (hw : Mem S σ ρ w) (hu1 : Upd (rdI 271 p s) (rdI 271 p (s.fixed 4)) σ υ) (hv : bytesD s.v s.l ∈ ρ) (hl : s.l.length ≤ lots) (_hmost : 0 ≤ most ∧ most ≤ 9223372036854775807) (he : (s.fixed 4).e ≠ 0) : Calls Try.prog 125 #[.pointer (some ⟨p, 0, none⟩), .int .i64 most] w fun e w' => ∃ r, e = .returned r ∧ Mem S υ (bytesD r [] :: bytesD (s.fixed 4).v (s.fixed 4).l :: ρ) w' := by
  have hlt := s.num_lt (n := 4) (k := 4) (Nat.le_refl _)
  have hl2 := s.fixed_length 4
  have hm1 := hu1.mem'
  refine calls_of [.pointer (some ⟨p, 0, none⟩), .int .i64 most] Try.func125 rfl Try.ntmps125 rfl (Mem S σ ρ) hw ?_
  refine SC.seq (SC.region ?_)
  refine SL.val (Val.assign rfl) rfl rfl ?_
  refine SL.nil (SE.seq ?_)
  refine SC.seq (SC.region ?_)
  refine SL.val (Val.move rfl) rfl rfl ?_
  refine SL.call (by kernel_rfl) rfl rfl rfl ?_
  intro w hw
  refine (number_c (s := s) hw hu1 hv hl rfl).mono ?_; rintro _ _ ⟨rfl, hm⟩; refine ⟨_, _, rfl, hm, ?_⟩; clear hm hw w
  refine SL.val (Val.assign rfl) rfl rfl ?_
  refine SL.nil (SE.seq ?_)
  refine SC.seq ?_
  refine SC.block ?_
  refine SC.seq (SC.region ?_)
  refine SL.val (Val.move rfl) rfl rfl ?_
  refine SL.call (by kernel_rfl) rfl rfl rfl ?_
  intro w hw
  refine (ok_c (s := s.fixed 4) hw (by repeat (first | assumption | exact List.mem_cons_self | exact hmem _ | apply List.mem_cons_of_mem))).mono ?_; rintro _ _ ⟨rfl, hm⟩; refine ⟨_, _, rfl, hm, ?_⟩; clear hm hw w
  refine SL.val (Val.notP rfl) rfl rfl ?_
  refine SL.val (Val.assign rfl) rfl rfl ?_
  refine SL.nil (SE.seq ?_)
  refine SC.condP rfl ?_ (by intro hc8; exfalso; omega)
  intro hc8
  refine SC.seq (SC.region ?_)
  refine SL.val (Val.assign rfl) rfl rfl ?_
  refine SL.nil (SE.seq ?_)
  refine SC.ret ?_
  refine SE.ret ?_
  refine SE.then_ (by intro h; cases h) ?_
  refine SE.ret1 rfl rfl ?_
  intro w' hw'
  exact ⟨_, rfl, hw'.add (z := bytesD (.slice none 0 0) []) (IsRow.nil rfl)⟩

set_option maxHeartbeats 400000 in
theorem row_b {most : Int} {υ : Blks} (hw : Mem S σ ρ w) (hu1 : Upd (rdI 271 p s) (rdI 271 p (s.fixed 4)) σ υ) (hu2 : Upd (rdI 271 p (s.fixed 4)) (rdI 271 p ((s.fixed 4).fail 3)) υ τ) (hv : bytesD s.v s.l ∈ ρ) (hl : s.l.length ≤ lots) (_hmost : 0 ≤ most ∧ most ≤ 9223372036854775807) (he : (s.fixed 4).e = 0) (hm : most < s.num 4) : Calls Try.prog 125 #[.pointer (some ⟨p, 0, none⟩), .int .i64 most] w fun e w' => ∃ r, e = .returned r ∧ Mem S τ (bytesD r [] :: bytesD (s.fixed 4).v (s.fixed 4).l :: ρ) w' := by
  have hm2 := hu2.mem
  have hm3 := hu2.mem'
  have hlt := s.num_lt (n := 4) (k := 4) (Nat.le_refl _)
  have hl2 := s.fixed_length 4
  have hm1 := hu1.mem'
  refine calls_of [.pointer (some ⟨p, 0, none⟩), .int .i64 most] Try.func125 rfl Try.ntmps125 rfl (Mem S σ ρ) hw ?_
  refine SC.seq (SC.region ?_)
  refine SL.val (Val.assign rfl) rfl rfl ?_
  refine SL.nil (SE.seq ?_)
  refine SC.seq (SC.region ?_)
  refine SL.val (Val.move rfl) rfl rfl ?_
  refine SL.call (by kernel_rfl) rfl rfl rfl ?_
  intro w hw
  refine (number_c (s := s) hw hu1 hv hl rfl).mono ?_; rintro _ _ ⟨rfl, hm⟩; refine ⟨_, _, rfl, hm, ?_⟩; clear hm hw w
  refine SL.val (Val.assign rfl) rfl rfl ?_
  refine SL.nil (SE.seq ?_)
  refine SC.seq ?_
  refine SC.block ?_
  refine SC.seq (SC.region ?_)
  refine SL.val (Val.move rfl) rfl rfl ?_
  refine SL.call (by kernel_rfl) rfl rfl rfl ?_
  intro w hw
  refine (ok_c (s := s.fixed 4) hw (by repeat (first | assumption | exact List.mem_cons_self | exact hmem _ | apply List.mem_cons_of_mem))).mono ?_; rintro _ _ ⟨rfl, hm⟩; refine ⟨_, _, rfl, hm, ?_⟩; clear hm hw w
  refine SL.val (Val.notP rfl) rfl rfl ?_
  refine SL.val (Val.assign rfl) rfl rfl ?_
  refine SL.nil (SE.seq ?_)
  refine SC.condP rfl (by intro hc8; exfalso; exact hc8 he) ?_
  intro hc8
  refine SC.seq (SC.region ?_)
  refine SL.val (Val.move rfl) rfl rfl ?_
  first
    | refine SL.val (Val.convI rfl Try.underlying2 (by kernel_rfl) (by simp only [InR, lo, hi]; omega)) rfl rfl ?_
    | refine SL.val (Val.convW rfl Try.underlying2 (by kernel_rfl)) rfl rfl ?_
  refine SL.val (Val.move rfl) rfl rfl ?_
  refine SL.val (Val.gtI rfl rfl) rfl rfl ?_
  refine SL.val (Val.assign rfl) rfl rfl ?_
  refine SL.nil (SE.seq ?_)
  refine SC.condP rfl ?_ (by intro hc12; exfalso; omega)
  intro hc12
  refine SC.seq (SC.region ?_)
  refine SL.val (Val.move rfl) rfl rfl ?_
  refine SL.call (by kernel_rfl) rfl rfl rfl ?_
  intro w hw
  refine (fail_c (s := s.fixed 4) (x := 3) hw hu2 he).mono ?_; rintro _ _ ⟨rfl, hm⟩; refine ⟨_, _, rfl, hm, ?_⟩; clear hm hw w
  refine SL.nil (SE.seq ?_)
  refine SC.seq (SC.region ?_)
  refine SL.val (Val.assign rfl) rfl rfl ?_
  refine SL.nil (SE.seq ?_)
  refine SC.ret ?_
  refine SE.ret ?_
  refine SE.then_ (by intro h; cases h) ?_
  refine SE.ret1 rfl rfl ?_
  intro w' hw'
  exact ⟨_, rfl, hw'.add (z := bytesD (.slice none 0 0) []) (IsRow.nil rfl)⟩

set_option maxHeartbeats 400000 in
theorem row_d {most : Int} {υ : Blks} (hw : Mem S σ ρ w) (hu1 : Upd (rdI 271 p s) (rdI 271 p (s.fixed 4)) σ υ) (hu2 : Upd (rdI 271 p (s.fixed 4)) (rdI 271 p ((s.fixed 4).fixed (s.num 4))) υ τ) (hv : bytesD s.v s.l ∈ ρ) (hl : s.l.length ≤ lots) (_hmost : 0 ≤ most ∧ most ≤ 9223372036854775807) (he : (s.fixed 4).e = 0) (hm : ¬ most < s.num 4) : Calls Try.prog 125 #[.pointer (some ⟨p, 0, none⟩), .int .i64 most] w fun e w' => ∃ r, e = .returned r ∧ Mem S τ (bytesD r ((s.fixed 4).out (s.num 4)) :: bytesD ((s.fixed 4).fixed (s.num 4)).v ((s.fixed 4).fixed (s.num 4)).l :: ρ) w' := by
  have hlt := s.num_lt (n := 4) (k := 4) (Nat.le_refl _)
  have hl2 := s.fixed_length 4
  have hm1 := hu1.mem'
  refine calls_of [.pointer (some ⟨p, 0, none⟩), .int .i64 most] Try.func125 rfl Try.ntmps125 rfl (Mem S σ ρ) hw ?_
  refine SC.seq (SC.region ?_)
  refine SL.val (Val.assign rfl) rfl rfl ?_
  refine SL.nil (SE.seq ?_)
  refine SC.seq (SC.region ?_)
  refine SL.val (Val.move rfl) rfl rfl ?_
  refine SL.call (by kernel_rfl) rfl rfl rfl ?_
  intro w hw
  refine (number_c (s := s) hw hu1 hv hl rfl).mono ?_; rintro _ _ ⟨rfl, hm⟩; refine ⟨_, _, rfl, hm, ?_⟩; clear hm hw w
  refine SL.val (Val.assign rfl) rfl rfl ?_
  refine SL.nil (SE.seq ?_)
  refine SC.seq ?_
  refine SC.block ?_
  refine SC.seq (SC.region ?_)
  refine SL.val (Val.move rfl) rfl rfl ?_
  refine SL.call (by kernel_rfl) rfl rfl rfl ?_
  intro w hw
  refine (ok_c (s := s.fixed 4) hw (by repeat (first | assumption | exact List.mem_cons_self | exact hmem _ | apply List.mem_cons_of_mem))).mono ?_; rintro _ _ ⟨rfl, hm⟩; refine ⟨_, _, rfl, hm, ?_⟩; clear hm hw w
  refine SL.val (Val.notP rfl) rfl rfl ?_
  refine SL.val (Val.assign rfl) rfl rfl ?_
  refine SL.nil (SE.seq ?_)
  refine SC.condP rfl (by intro hc8; exfalso; exact hc8 he) ?_
  intro hc8
  refine SC.seq (SC.region ?_)
  refine SL.val (Val.move rfl) rfl rfl ?_
  first
    | refine SL.val (Val.convI rfl Try.underlying2 (by kernel_rfl) (by simp only [InR, lo, hi]; omega)) rfl rfl ?_
    | refine SL.val (Val.convW rfl Try.underlying2 (by kernel_rfl)) rfl rfl ?_
  refine SL.val (Val.move rfl) rfl rfl ?_
  refine SL.val (Val.gtI rfl rfl) rfl rfl ?_
  refine SL.val (Val.assign rfl) rfl rfl ?_
  refine SL.nil (SE.seq ?_)
  refine SC.condP rfl (by intro hc12; exfalso; omega) ?_
  intro hc12
  refine SC.skip ?_
  refine SE.inBlock ?_
  refine SE.seq ?_
  refine SC.seq (SC.region ?_)
  refine SL.val (Val.move rfl) rfl rfl ?_
  refine SL.val (Val.move rfl) rfl rfl ?_
  first
    | refine SL.val (Val.convI rfl Try.underlying3 (by kernel_rfl) (by simp only [InR, lo, hi]; omega)) rfl rfl ?_
    | refine SL.val (Val.convW rfl Try.underlying3 (by kernel_rfl)) rfl rfl ?_
  refine SL.call (by kernel_rfl) rfl rfl rfl ?_
  intro w hw
  refine (fixed_c (s := s.fixed 4) hw hu2 (by repeat (first | assumption | exact List.mem_cons_self | exact hmem _ | apply List.mem_cons_of_mem)) (by omega)).mono ?_; rintro _ _ ⟨r, rfl, hm⟩; refine ⟨_, _, rfl, hm, ?_⟩; clear hm hw w
  refine SL.val (Val.assign rfl) rfl rfl ?_
  refine SL.nil (SE.seq ?_)
  refine SC.ret ?_
  refine SE.ret1 rfl rfl ?_
  intro w' hw'
  exact ⟨_, rfl, hw'.less (by intro x hx; simp only [List.mem_cons] at hx ⊢; rcases hx with rfl | rfl | hx <;> simp [*])⟩

theorem row_c {most : Int} (hw : Mem S σ ρ w) (hu : Upd (rdI 271 p s) (rdI 271 p (s.row most)) σ τ) (hv : bytesD s.v s.l ∈ ρ) (hl : s.l.length ≤ lots) (hmost : 0 ≤ most ∧ most ≤ 9223372036854775807) : Calls Try.prog 125 #[.pointer (some ⟨p, 0, none⟩), .int .i64 most] w fun e w' => ∃ r, e = .returned r ∧ Mem S τ (bytesD r (s.rowOut most) :: bytesD (s.row most).v (s.row most).l :: ρ) w' := by
  by_cases he : (s.fixed 4).e = 0
  · by_cases hm : most < s.num 4
    · have e1 : s.row most = (s.fixed 4).fail 3 := by simp [Rd.row, he, hm]
      have e2 : s.rowOut most = [] := by simp [Rd.rowOut, hm]
      rw [e1] at hu ⊢
      rw [e2]
      obtain ⟨υ, h1, h2⟩ := upd_via (y := rdI 271 p (s.fixed 4)) hu
      exact row_b hw h1 h2 hv hl hmost he hm
    · have e1 : s.row most = (s.fixed 4).fixed (s.num 4) := by simp [Rd.row, he, hm]
      have e2 : s.rowOut most = (s.fixed 4).out (s.num 4) := by simp [Rd.rowOut, he, hm]
      rw [e1] at hu ⊢
      rw [e2]
      obtain ⟨υ, h1, h2⟩ := upd_via (y := rdI 271 p (s.fixed 4)) hu
      exact row_d hw h1 h2 hv hl hmost he hm
  · have e1 : s.row most = s.fixed 4 := by simp [Rd.row, he]
    have e2 : s.rowOut most = [] := by simp [Rd.rowOut, he]
    rw [e1] at hu ⊢
    rw [e2]
    exact row_a hw hu hv hl hmost he

theorem end_c (hw : Mem S σ ρ w) (hb : rdI 271 p s ∈ σ) (hv : bytesD s.v s.l ∈ ρ) : Calls Try.prog 126 #[.pointer (some ⟨p, 0, none⟩)] w fun e w' => e = .returned (.int .i64 s.end_) ∧ Mem S σ ρ w' := by
  have hsv := (hw.data hv).shape
  obtain ⟨v, l, e⟩ := s
  obtain ⟨A, c, hsv, hs1, hs2, hs3⟩ := hsv
  dsimp only at hsv
  subst hsv
  have hnil : l = [] ↔ l.length = 0 := List.length_eq_zero_iff.symm
  refine calls_of [.pointer (some ⟨p, 0, none⟩)] Try.func126 rfl Try.ntmps126 rfl (Mem S σ ρ) hw ?_
  refine SC.seq (SC.region ?_)
  refine SL.val (Val.assign rfl) rfl rfl ?_
  refine SL.nil (SE.seq ?_)
  refine SC.seq ?_
  refine SC.block ?_
  refine SC.seq (SC.region ?_)
  refine SL.val (Val.move rfl) rfl rfl ?_
  refine SL.val (Val.eqP rfl rfl (by kernel_rfl)) rfl rfl ?_
  refine SL.val (Val.assign rfl) rfl rfl ?_
  refine SL.nil (SE.seq ?_)
  refine SC.condF rfl ?_
  refine SC.seq (SC.region ?_)
  refine SL.val (Val.move rfl) rfl rfl ?_
  refine SL.val (Val.nilCheck rfl) rfl rfl ?_
  refine SL.val (Val.fieldAddr tabOk rfl rfl rfl rfl rfl) rfl rfl ?_
  first
    | refine SL.val (Val.load1 tabOk rfl rfl (by repeat (first | assumption | exact List.mem_cons_self | exact hmem _ | apply List.mem_cons_of_mem)) (by rfl)) rfl rfl ?_
    | refine SL.val (Val.load1C tabOk rfl rfl (by assumption)) rfl rfl ?_
  refine SL.val (Val.eqI rfl rfl) rfl rfl ?_
  refine SL.val (Val.move rfl) rfl rfl ?_
  refine SL.bothP (t := 12) rfl ?_ ?_
  rotate_left
  · intro hc12
    iterate 6 refine SL.skip rfl rfl ?_
    refine SL.val (Val.pickF rfl rfl) rfl rfl ?_
    refine SL.val (Val.assign rfl) rfl rfl ?_
    refine SL.nil (SE.seq ?_)
    refine SC.condF rfl ?_
    refine SC.skip ?_
    refine SE.inBlock ?_
    refine SE.seq ?_
    refine SC.seq (SC.region ?_)
    refine SL.val (Val.move rfl) rfl rfl ?_
    refine SL.val (Val.nilCheck rfl) rfl rfl ?_
    refine SL.val (Val.fieldAddr tabOk rfl rfl rfl rfl rfl) rfl rfl ?_
    first
      | refine SL.val (Val.load1 tabOk rfl rfl (by repeat (first | assumption | exact List.mem_cons_self | exact hmem _ | apply List.mem_cons_of_mem)) (by rfl)) rfl rfl ?_
      | refine SL.val (Val.load1C tabOk rfl rfl (by assumption)) rfl rfl ?_
    refine SL.val (Val.assign rfl) rfl rfl ?_
    refine SL.nil (SE.seq ?_)
    refine SC.ret ?_
    refine SE.ret1 rfl rfl ?_
    intro w' hw'
    refine ⟨?_, hw'⟩
    dsimp only at *
    simp only [Rd.end_, Ne, hnil]
    first
      | (rw [if_pos (by constructor <;> omega)]; done)
      | (rw [if_neg (by omega)]; done)
  intro hc12
  refine SL.val (Val.move rfl) rfl rfl ?_
  refine SL.val (Val.nilCheck rfl) rfl rfl ?_
  refine SL.val (Val.fieldAddr tabOk rfl rfl rfl rfl rfl) rfl rfl ?_
  first
    | refine SL.val (Val.load1 tabOk rfl rfl (by repeat (first | assumption | exact List.mem_cons_self | exact hmem _ | apply List.mem_cons_of_mem)) (by rfl)) rfl rfl ?_
    | refine SL.val (Val.load1C tabOk rfl rfl (by assumption)) rfl rfl ?_
  refine SL.val (Val.lenSl rfl Try.underlying34) rfl rfl ?_
  refine SL.val (Val.gtI rfl rfl) rfl rfl ?_
  refine SL.val (Val.pickT rfl rfl) rfl rfl ?_
  refine SL.val (Val.assign rfl) rfl rfl ?_
  refine SL.nil (SE.seq ?_)
  refine SC.condP rfl ?_ ?_
  · intro hc6
    refine SC.seq (SC.region ?_)
    refine SL.val (Val.assign rfl) rfl rfl ?_
    refine SL.nil (SE.seq ?_)
    refine SC.ret ?_
    refine SE.ret ?_
    refine SE.then_ (by intro h; cases h) ?_
    refine SE.ret1 rfl rfl ?_
    intro w' hw'
    refine ⟨?_, hw'⟩
    dsimp only at *
    simp only [Rd.end_, Ne, hnil]
    first
      | (rw [if_pos (by constructor <;> omega)]; done)
      | (rw [if_neg (by omega)]; done)
  intro hc6
  refine SC.skip ?_
  refine SE.inBlock ?_
  refine SE.seq ?_
  refine SC.seq (SC.region ?_)
  refine SL.val (Val.move rfl) rfl rfl ?_
  refine SL.val (Val.nilCheck rfl) rfl rfl ?_
  refine SL.val (Val.fieldAddr tabOk rfl rfl rfl rfl rfl) rfl rfl ?_
  first
    | refine SL.val (Val.load1 tabOk rfl rfl (by repeat (first | assumption | exact List.mem_cons_self | exact hmem _ | apply List.mem_cons_of_mem)) (by rfl)) rfl rfl ?_
    | refine SL.val (Val.load1C tabOk rfl rfl (by assumption)) rfl rfl ?_
  refine SL.val (Val.assign rfl) rfl rfl ?_
  refine SL.nil (SE.seq ?_)
  refine SC.ret ?_
  refine SE.ret1 rfl rfl ?_
  intro w' hw'
  refine ⟨?_, hw'⟩
  dsimp only at *
  simp only [Rd.end_, Ne, hnil]
  first
    | (rw [if_pos (by constructor <;> omega)]; done)
    | (rw [if_neg (by omega)]; done)
end
end Go.Proofs.Ytpgffckfbgfgcaa
/-
  Layer 1 over the engine: what is put, and the document's readers.
-/
set_option maxRecDepth 100000
namespace Go.Proofs.Ytpgffckfbgfgcaa
open Go.RowKit

section
variable {S : List (World × List Nat)} {σ τ : Blks} {ρ : List Dt} {w : World} {p : Nat} {s : Rd}
/-- A block that is known becomes a row of the call's own. -/
theorem Mem.blkOwn {b k sz : Nat} {e : TypeId} {L : List Value} (h : Mem S (.blk b (row e L) :: σ) ρ w) (hL : L.length = k * sz) (hk : k ≤ maxLen) : Mem S (.pc (ownPc e sz (.slice (some ⟨b, 0, none⟩) k k) k L) :: σ) ρ w :=
  h.upd .here (Ext.refl w) ⟨hL, .inr ⟨b, k, L.toArray, rfl, Nat.zero_le _, h.hold (.blk b (row e L)) List.mem_cons_self, Nat.le_refl _, hk, by simpa using hL, by rw [← hL]; simp⟩⟩ own_ids fun k hk => .inl (by simpa [It.ids, ownPc, Value.ownBlock] using hk)
theorem oct_Row {v r : Value} {l m : List UInt8} (hw : Mem S σ ρ w) (hb : bytesD v l ∈ ρ) (hr : bytesD r m ∈ ρ) (hl : l.length + m.length + 4 ≤ lots) (hm : m.length < 4294967296) : Calls Try.prog 117 #[v, r] w fun e w' => ∃ z, e = .returned z ∧ Mem S σ (bytesD z (l ++ beBytes m.length 4 ++ m) :: ρ) w' := by
  obtain ⟨A, c, rfl, h1, h2, h3⟩ := (hw.data hr).shape
  refine calls_of [v, .slice A m.length c] Try.func117 rfl Try.ntmps117 rfl (Mem S σ ρ) hw ?_
  refine SC.seq (SC.region ?_)
  refine SL.val (Val.assign rfl) rfl rfl ?_
  refine SL.nil (SE.seq ?_)
  refine SC.seq (SC.region ?_)
  refine SL.val (Val.move rfl) rfl rfl ?_
  refine SL.val (Val.move rfl) rfl rfl ?_
  refine SL.val (Val.lenSl rfl Try.underlying34) rfl rfl ?_
  first
    | refine SL.val (Val.convI rfl Try.underlying166 (by kernel_rfl) (by simp only [InR, lo, hi]; omega)) rfl rfl ?_
    | refine SL.val (Val.convU rfl Try.underlying166 (by kernel_rfl)) rfl rfl ?_
  refine SL.call (by kernel_rfl) rfl rfl rfl ?_
  intro w hw
  refine (put_own (l := l) (x := m.length) (n := 4) hw (hw.bytes hb) (by omega) (by omega) rfl).mono ?_; rintro _ _ ⟨r, rfl, hm⟩; refine ⟨_, _, rfl, hm, ?_⟩; clear hm hw w
  refine SL.val (Val.move rfl) rfl rfl ?_
  refine SL.eff (Eff.append (pre := []) (news := m.map bc) tabOk Try.underlying34 rfl rfl rfl rfl rfl (fun _ hw => ⟨_, hw.data hr⟩) (by simp) bc_one (by unfold maxLen; (try simp only [List.length_append, beBytes_length]); unfold lots at *; omega) (by rw [show Try.prog.bytesOf 5 = 1 by kernel_rfl]; (try simp only [List.length_append, beBytes_length]); unfold lots at *; omega)) rfl rfl ?_
  rintro r _ rfl
  refine SL.val (Val.assign rfl) rfl rfl ?_
  refine SL.nil (SE.seq ?_)
  refine SC.ret ?_
  refine SE.ret1 rfl rfl ?_
  intro w' hw'
  have hf := Mem.freeze hw'
  refine ⟨_, rfl, ?_⟩
  have e1 : (l ++ beBytes m.length 4 ++ m).length = (l ++ beBytes m.length (Int.toNat 4)).length + m.length := by simp [beBytes_length]; omega
  unfold bytesD
  rw [e1, List.map_append]
  exact hf

theorem read_c {v : Value} {l : List UInt8} (hw : Mem S σ ρ w) (hb : bytesD v l ∈ ρ) (hl : l.length ≤ lots) : Calls Try.prog 121 #[v] w fun e w' => ∃ p z, e = .returned (.pointer (some ⟨p, 0, none⟩)) ∧ Mem S (rdI 271 p ⟨z, l, 0⟩ :: σ) (bytesD z l :: ρ) w' := by
  refine calls_of [v] Try.func121 rfl Try.ntmps121 rfl (Mem S σ ρ) hw ?_
  refine SC.seq (SC.region ?_)
  refine SL.val (Val.assign rfl) rfl rfl ?_
  refine SL.nil (SE.seq ?_)
  refine SC.seq (SC.region ?_)
  refine SL.val (Val.move rfl) rfl rfl ?_
  refine SL.call (by kernel_rfl) rfl rfl rfl ?_
  intro w hw
  refine (clone_c (l := l) hw (hw.bytes hb) hl).mono ?_; rintro _ _ ⟨r, rfl, hm⟩; obtain ⟨A, c, rfl, _⟩ := (hm.data List.mem_cons_self).shape; refine ⟨_, _, rfl, hm, ?_⟩; clear hm hw w
  refine SL.val (Val.buildS tabOk rfl rfl rfl rfl) rfl rfl ?_
  refine SL.eff (Eff.boxA rfl) rfl rfl ?_
  rintro _ _ ⟨b6, rfl, rfl⟩
  refine SL.val (Val.assign rfl) rfl rfl ?_
  refine SL.nil (SE.seq ?_)
  refine SC.ret ?_
  refine SE.ret1 rfl rfl ?_
  intro w' hw'
  exact ⟨_, _, rfl, hw'⟩

theorem size_c {n : Int} (hw : Mem S σ ρ w) (hn : sizeB n = true) : Calls Try.prog 173 #[.int .i64 n] w fun e w' => e = .returned (.bool true) ∧ Mem S σ ρ w' := by
  rcases sizeB_cases hn with rfl | rfl | rfl | rfl
  · skip
    refine calls_of [.int .i64 1] Try.func173 rfl Try.ntmps173 rfl (Mem S σ ρ) hw ?_
    refine SC.seq (SC.region ?_)
    refine SL.val (Val.assign rfl) rfl rfl ?_
    refine SL.nil (SE.seq ?_)
    refine SC.seq (SC.region ?_)
    refine SL.val (Val.move rfl) rfl rfl ?_
    refine SL.val (Val.eqI rfl rfl) rfl rfl ?_
    refine SL.val (Val.move rfl) rfl rfl ?_
    refine SL.bothP (t := 5) rfl ?_ (by intro hc5; exfalso; omega)
    intro hc5
    iterate 2 refine SL.skip rfl rfl ?_
    refine SL.val (Val.pickT rfl rfl) rfl rfl ?_
    refine SL.val (Val.move rfl) rfl rfl ?_
    iterate 2 refine SL.skip rfl rfl ?_
    refine SL.val (Val.pickT rfl rfl) rfl rfl ?_
    refine SL.val (Val.move rfl) rfl rfl ?_
    iterate 2 refine SL.skip rfl rfl ?_
    refine SL.val (Val.pickT rfl rfl) rfl rfl ?_
    refine SL.val (Val.assign rfl) rfl rfl ?_
    refine SL.nil (SE.seq ?_)
    refine SC.ret ?_
    refine SE.ret1 rfl rfl ?_
    intro w' hw'
    exact ⟨by first | rfl | simp, hw'⟩
  · skip
    refine calls_of [.int .i64 2] Try.func173 rfl Try.ntmps173 rfl (Mem S σ ρ) hw ?_
    refine SC.seq (SC.region ?_)
    refine SL.val (Val.assign rfl) rfl rfl ?_
    refine SL.nil (SE.seq ?_)
    refine SC.seq (SC.region ?_)
    refine SL.val (Val.move rfl) rfl rfl ?_
    refine SL.val (Val.eqI rfl rfl) rfl rfl ?_
    refine SL.val (Val.move rfl) rfl rfl ?_
    refine SL.bothP (t := 5) rfl (by intro hc5; exfalso; omega) ?_
    intro hc5
    refine SL.val (Val.move rfl) rfl rfl ?_
    refine SL.val (Val.eqI rfl rfl) rfl rfl ?_
    refine SL.val (Val.pickF rfl rfl) rfl rfl ?_
    refine SL.val (Val.move rfl) rfl rfl ?_
    refine SL.bothP (t := 9) rfl ?_ (by intro hc9; exfalso; omega)
    intro hc9
    iterate 2 refine SL.skip rfl rfl ?_
    refine SL.val (Val.pickT rfl rfl) rfl rfl ?_
    refine SL.val (Val.move rfl) rfl rfl ?_
    iterate 2 refine SL.skip rfl rfl ?_
    refine SL.val (Val.pickT rfl rfl) rfl rfl ?_
    refine SL.val (Val.assign rfl) rfl rfl ?_
    refine SL.nil (SE.seq ?_)
    refine SC.ret ?_
    refine SE.ret1 rfl rfl ?_
    intro w' hw'
    exact ⟨by first | rfl | simp, hw'⟩
  · skip
    refine calls_of [.int .i64 4] Try.func173 rfl Try.ntmps173 rfl (Mem S σ ρ) hw ?_
    refine SC.seq (SC.region ?_)
    refine SL.val (Val.assign rfl) rfl rfl ?_
    refine SL.nil (SE.seq ?_)
    refine SC.seq (SC.region ?_)
    refine SL.val (Val.move rfl) rfl rfl ?_
    refine SL.val (Val.eqI rfl rfl) rfl rfl ?_
    refine SL.val (Val.move rfl) rfl rfl ?_
    refine SL.bothP (t := 5) rfl (by intro hc5; exfalso; omega) ?_
    intro hc5
    refine SL.val (Val.move rfl) rfl rfl ?_
    refine SL.val (Val.eqI rfl rfl) rfl rfl ?_
    refine SL.val (Val.pickF rfl rfl) rfl rfl ?_
    refine SL.val (Val.move rfl) rfl rfl ?_
    refine SL.bothP (t := 9) rfl (by intro hc9; exfalso; omega) ?_
    intro hc9
    refine SL.val (Val.move rfl) rfl rfl ?_
    refine SL.val (Val.eqI rfl rfl) rfl rfl ?_
    refine SL.val (Val.pickF rfl rfl) rfl rfl ?_
    refine SL.val (Val.move rfl) rfl rfl ?_
    refine SL.bothP (t := 13) rfl ?_ (by intro hc13; exfalso; omega)
    intro hc13
    iterate 2 refine SL.skip rfl rfl ?_
    refine SL.val (Val.pickT rfl rfl) rfl rfl ?_
    refine SL.val (Val.assign rfl) rfl rfl ?_
    refine SL.nil (SE.seq ?_)
    refine SC.ret ?_
    refine SE.ret1 rfl rfl ?_
    intro w' hw'
    exact ⟨by first | rfl | simp, hw'⟩
  · skip
    refine calls_of [.int .i64 8] Try.func173 rfl Try.ntmps173 rfl (Mem S σ ρ) hw ?_
    refine SC.seq (SC.region ?_)
    refine SL.val (Val.assign rfl) rfl rfl ?_
    refine SL.nil (SE.seq ?_)
    refine SC.seq (SC.region ?_)
    refine SL.val (Val.move rfl) rfl rfl ?_
    refine SL.val (Val.eqI rfl rfl) rfl rfl ?_
    refine SL.val (Val.move rfl) rfl rfl ?_
    refine SL.bothP (t := 5) rfl (by intro hc5; exfalso; omega) ?_
    intro hc5
    refine SL.val (Val.move rfl) rfl rfl ?_
    refine SL.val (Val.eqI rfl rfl) rfl rfl ?_
    refine SL.val (Val.pickF rfl rfl) rfl rfl ?_
    refine SL.val (Val.move rfl) rfl rfl ?_
    refine SL.bothP (t := 9) rfl (by intro hc9; exfalso; omega) ?_
    intro hc9
    refine SL.val (Val.move rfl) rfl rfl ?_
    refine SL.val (Val.eqI rfl rfl) rfl rfl ?_
    refine SL.val (Val.pickF rfl rfl) rfl rfl ?_
    refine SL.val (Val.move rfl) rfl rfl ?_
    refine SL.bothP (t := 13) rfl (by intro hc13; exfalso; omega) ?_
    intro hc13
    refine SL.val (Val.move rfl) rfl rfl ?_
    refine SL.val (Val.eqI rfl rfl) rfl rfl ?_
    refine SL.val (Val.pickF rfl rfl) rfl rfl ?_
    refine SL.val (Val.assign rfl) rfl rfl ?_
    refine SL.nil (SE.seq ?_)
    refine SC.ret ?_
    refine SE.ret1 rfl rfl ?_
    intro w' hw'
    exact ⟨by first | rfl | simp, hw'⟩

theorem rput_own {v : Value} {l : List UInt8} {x n : Nat} (hw : Mem S σ ρ w) (hb : bytesD v l ∈ ρ) (hl : l.length + 8 ≤ lots) (hn : sizeB n = true) :
    Calls Try.prog 112 #[v, .int .u64 x, .int .i64 n] w fun e w' => ∃ r, e = .returned r ∧ Mem S (.pc (ownPc 5 1 r (l ++ beBytes x n).length ((l ++ beBytes x n).map bc)) :: σ) ρ w' := by
  obtain ⟨A, c, rfl, h1, h2, h3⟩ := (hw.data hb).shape
  have hn8 := sizeB_le hn
  refine calls_of [.slice A l.length c, .int .u64 x, .int .i64 n] Try.func112 rfl Try.ntmps112 rfl (Mem S σ ρ) hw ?_
  refine SC.seq (SC.region ?_)
  refine SL.val (Val.assign rfl) rfl rfl ?_
  refine SL.nil (SE.seq ?_)
  refine SC.seq (SC.region ?_)
  refine SL.eff (Eff.buildSlice (L := []) tabOk Try.underlying34 rfl rfl (fun L0 h => by match L0, h with | [], _ => rfl) rfl) rfl rfl ?_
  rintro _ _ ⟨b9, rfl, rfl⟩
  refine SL.to (fun _ h => Mem.blkOwn (k := 0) (sz := 1) h rfl (Nat.zero_le _)) ?_
  refine SL.val (Val.move rfl) rfl rfl ?_
  refine SL.eff (Eff.append (pre := []) (news := l.map bc) tabOk Try.underlying34 rfl rfl rfl rfl rfl (fun _ hw => ⟨_, hw.data hb⟩) (by simp) bc_one (by unfold maxLen; (try simp only [List.length_append, beBytes_length]); unfold lots at *; omega) (by rw [show Try.prog.bytesOf 5 = 1 by kernel_rfl]; (try simp only [List.length_append, beBytes_length]); unfold lots at *; omega)) rfl rfl ?_
  rintro r _ rfl
  refine SL.val (Val.assign rfl) rfl rfl ?_
  refine SL.nil (SE.seq ?_)
  refine SC.seq ?_
  refine SC.seq (SC.region ?_)
  refine SL.val (Val.move rfl) rfl rfl ?_
  refine SL.call (by kernel_rfl) rfl rfl rfl ?_
  intro w hw
  refine (size_c (n := n) hw hn).mono ?_; rintro _ _ ⟨rfl, hm⟩; refine ⟨_, _, rfl, hm, ?_⟩; clear hm hw w
  refine SL.val (Val.notT rfl) rfl rfl ?_
  refine SL.nil (SE.seq ?_)
  refine SC.condF rfl ?_
  refine SC.skip ?_
  refine SE.seq ?_
  refine SC.seq ?_
  refine SC.seq (SC.region ?_)
  refine SL.val (Val.move rfl) rfl rfl ?_
  first
    | refine SL.val (Val.subI rfl rfl (by simp only [InR, lo, hi]; omega)) rfl rfl ?_
    | refine SL.val (Val.subW rfl rfl) rfl rfl ?_
  refine SL.val (Val.assign rfl) rfl rfl ?_
  refine SL.nil (SE.seq ?_)
  refine SC.block ?_
  refine SC.loop (ι := Nat × Value) (fun z => [(1, .int .u64 x), (7, z.2), (8, .int .i64 ((n : Int) - 1 - (z.1 : Nat)))]) (fun z w' => z.1 ≤ n ∧ Mem S (.pc (ownPc 5 1 z.2 (l ++ (beBytes x n).take z.1).length ((l ++ (beBytes x n).take z.1).map bc)) :: σ) ρ w') (fun z => n - z.1) (0, _) (by exact ⟨rfl, rfl, by show some (Value.int _ _) = some (Value.int _ _); congr 2; simp, trivial⟩) (fun w' hw' => ⟨Nat.zero_le _, by simpa using hw'⟩) ?_
  intro z
  refine SC.facts ?_
  intro hz
  refine SC.seq ?_
  refine SC.seq (SC.region ?_)
  refine SL.val (Val.move rfl) rfl rfl ?_
  refine SL.val (Val.geI rfl rfl) rfl rfl ?_
  refine SL.nil (SE.seq ?_)
  refine SC.condP rfl ?_ ?_
  rotate_left
  · intro hc19
    refine SC.exit ?_
    refine SE.then_ (by intro h; cases h) ?_
    refine SE.then_ (by intro h; cases h) ?_
    refine SE.exit ?_
    refine SE.seq ?_
    refine SC.seq (SC.region ?_)
    refine SL.val (Val.move rfl) rfl rfl ?_
    refine SL.val (Val.assign rfl) rfl rfl ?_
    refine SL.nil (SE.seq ?_)
    refine SC.ret ?_
    refine SE.ret1 rfl rfl ?_
    intro w' hw'
    have e1 : z.1 = n := by omega
    have e2 : (beBytes x n).take z.1 = beBytes x n := by rw [e1]; exact List.take_of_length_le (by rw [beBytes_length]; exact Nat.le_refl _)
    rw [e2] at hw'
    exact ⟨_, rfl, hw'⟩
  intro hc19
  have hlt : z.1 < n := by omega
  refine SC.skip ?_
  refine SE.seq ?_
  refine SC.seq ?_
  refine SC.block ?_
  refine SC.region ?_
  refine SL.val (Val.move rfl) rfl rfl ?_
  refine SL.val (Val.move rfl) rfl rfl ?_
  refine SL.val (Val.move rfl) rfl rfl ?_
  first
    | refine SL.val (Val.convI rfl Try.underlying256 (by kernel_rfl) (by simp only [InR, lo, hi]; omega)) rfl rfl ?_
    | refine SL.val (Val.convU rfl Try.underlying256 (by kernel_rfl)) rfl rfl ?_
  first
    | refine SL.val (Val.mulI rfl rfl (by simp only [InR, lo, hi]; omega)) rfl rfl ?_
    | refine SL.val (Val.mulW rfl rfl) rfl rfl ?_
  refine SL.val (Val.shrN (q := x / 256 ^ (n - 1 - z.1)) rfl rfl (by omega) (by rw [show (8 * ((n : Int) - 1 - (z.1 : Nat))).toNat = 8 * (n - 1 - z.1) by omega]; exact shr_be x _ (by omega))) rfl rfl ?_
  refine SL.val (Val.convB (x' := x / 256 ^ (n - 1 - z.1)) rfl Try.underlying5 (by kernel_rfl)) rfl rfl ?_
  refine SL.eff (Eff.buildSlice (L := [bc (UInt8.ofNat (x / 256 ^ (n - 1 - z.1)))]) tabOk Try.underlying34 rfl rfl (fun L0 h => by match L0, h with | [_], _ => rfl) rfl) rfl rfl ?_
  rintro _ _ ⟨b29, rfl, rfl⟩
  refine SL.eff (Eff.append (pre := [_]) (news := [UInt8.ofNat (x / 256 ^ (n - 1 - z.1))].map bc) tabOk Try.underlying34 rfl rfl rfl rfl rfl (fun _ hw => ⟨_, hw.blkRow List.mem_cons_self (Nat.le_refl _) (by decide)⟩) rfl bc_one (by unfold maxLen; (try simp only [List.length_append, List.length_take, beBytes_length]); unfold lots at *; omega) (by rw [show Try.prog.bytesOf 5 = 1 by kernel_rfl]; (try simp only [List.length_append, List.length_take, beBytes_length]); unfold lots at *; omega)) rfl rfl ?_
  rintro r _ rfl
  refine SL.val (Val.assign rfl) rfl rfl ?_
  refine SL.nil ?_
  refine SE.inBlock ?_
  refine SE.seq ?_
  refine SC.region ?_
  refine SL.val (Val.move rfl) rfl rfl ?_
  first
    | refine SL.val (Val.subI rfl rfl (by simp only [InR, lo, hi]; omega)) rfl rfl ?_
    | refine SL.val (Val.subW rfl rfl) rfl rfl ?_
  refine SL.val (Val.assign rfl) rfl rfl ?_
  refine SL.nil ?_
  refine SE.round (z.1 + 1, r) (by show n - (z.1 + 1) < n - z.1; omega) (by exact ⟨rfl, rfl, by show some (Value.int _ _) = some (Value.int _ _); congr 2; push_cast; omega, trivial⟩) (fun w' hw' => ⟨hlt, ?_⟩)
  have e1 := beBytes_getElem x n z.1 hlt
  have e2 : (beBytes x n).take (z.1 + 1) = (beBytes x n).take z.1 ++ [UInt8.ofNat (x / 256 ^ (n - 1 - z.1))] := by rw [List.take_add_one, e1]; rfl
  show Mem S (.pc (ownPc _ _ _ (l ++ (beBytes x n).take (z.1 + 1)).length ((l ++ (beBytes x n).take (z.1 + 1)).map bc)) :: σ) ρ w'
  rw [e2, ← List.append_assoc, List.length_append, List.map_append]
  exact hw'.sub (fun _ h => h) (List.sublist_cons_self _ _)

theorem rput_c {v : Value} {l : List UInt8} {x n : Nat} (hw : Mem S σ ρ w) (hb : bytesD v l ∈ ρ) (hl : l.length + 8 ≤ lots) (hn : sizeB n = true) :
    Calls Try.prog 112 #[v, .int .u64 x, .int .i64 n] w fun e w' => ∃ r, e = .returned r ∧ Mem S σ (bytesD r (l ++ beBytes x n) :: ρ) w' :=
  (rput_own hw hb hl hn).mono fun _ _ ⟨r, h1, h2⟩ => ⟨r, h1, h2.freeze⟩
theorem roct_Row {v r : Value} {l m : List UInt8} (hw : Mem S σ ρ w) (hb : bytesD v l ∈ ρ) (hr : bytesD r m ∈ ρ) (hl : l.length + m.length + 8 ≤ lots) (hm : m.length < 4294967296) : Calls Try.prog 113 #[v, r] w fun e w' => ∃ z, e = .returned z ∧ Mem S σ (bytesD z (l ++ beBytes m.length 4 ++ m) :: ρ) w' := by
  obtain ⟨A, c, rfl, h1, h2, h3⟩ := (hw.data hr).shape
  refine calls_of [v, .slice A m.length c] Try.func113 rfl Try.ntmps113 rfl (Mem S σ ρ) hw ?_
  refine SC.seq (SC.region ?_)
  refine SL.val (Val.assign rfl) rfl rfl ?_
  refine SL.nil (SE.seq ?_)
  refine SC.seq (SC.region ?_)
  refine SL.val (Val.move rfl) rfl rfl ?_
  refine SL.val (Val.move rfl) rfl rfl ?_
  refine SL.val (Val.lenSl rfl Try.underlying34) rfl rfl ?_
  first
    | refine SL.val (Val.convI rfl Try.underlying166 (by kernel_rfl) (by simp only [InR, lo, hi]; omega)) rfl rfl ?_
    | refine SL.val (Val.convU rfl Try.underlying166 (by kernel_rfl)) rfl rfl ?_
  refine SL.call (by kernel_rfl) rfl rfl rfl ?_
  intro w hw
  refine (rput_own (l := l) (x := m.length) (n := 4) hw hb (by omega) rfl).mono ?_; rintro _ _ ⟨r, rfl, hm⟩; refine ⟨_, _, rfl, hm, ?_⟩; clear hm hw w
  refine SL.val (Val.move rfl) rfl rfl ?_
  refine SL.eff (Eff.append (pre := []) (news := m.map bc) tabOk Try.underlying34 rfl rfl rfl rfl rfl (fun _ hw => ⟨_, hw.data hr⟩) (by simp) bc_one (by unfold maxLen; (try simp only [List.length_append, beBytes_length]); unfold lots at *; omega) (by rw [show Try.prog.bytesOf 5 = 1 by kernel_rfl]; (try simp only [List.length_append, beBytes_length]); unfold lots at *; omega)) rfl rfl ?_
  rintro r _ rfl
  refine SL.val (Val.assign rfl) rfl rfl ?_
  refine SL.nil (SE.seq ?_)
  refine SC.ret ?_
  refine SE.ret1 rfl rfl ?_
  intro w' hw'
  have hf := Mem.freeze hw'
  refine ⟨_, rfl, ?_⟩
  have e1 : (l ++ beBytes m.length 4 ++ m).length = (l ++ beBytes m.length 4).length + m.length := by simp [beBytes_length]; omega
  unfold bytesD
  rw [e1, List.map_append]
  exact hf

set_option maxHeartbeats 400000 in
theorem rfixed_a {n : Int} (hw : Mem S σ ρ w) (hb : rdI 188 p s ∈ σ) (hv : bytesD s.v s.l ∈ ρ) (he : s.e ≠ 0) : Calls Try.prog 190 #[.pointer (some ⟨p, 0, none⟩), .int .i64 n] w fun e w' => ∃ r, e = .returned r ∧ Mem S σ (bytesD r [] :: bytesD s.v s.l :: ρ) w' := by
  refine calls_of [.pointer (some ⟨p, 0, none⟩), .int .i64 n] Try.func190 rfl Try.ntmps190 rfl (Mem S σ ρ) hw ?_
  refine SC.seq (SC.region ?_)
  refine SL.val (Val.assign rfl) rfl rfl ?_
  refine SL.nil (SE.seq ?_)
  refine SC.seq ?_
  refine SC.seq (SC.region ?_)
  refine SL.val (Val.move rfl) rfl rfl ?_
  refine SL.val (Val.nilCheck rfl) rfl rfl ?_
  refine SL.val (Val.fieldAddr tabOk rfl rfl rfl rfl rfl) rfl rfl ?_
  first
    | refine SL.val (Val.load1 tabOk rfl rfl (by repeat (first | assumption | exact List.mem_cons_self | exact hmem _ | apply List.mem_cons_of_mem)) (by rfl)) rfl rfl ?_
    | refine SL.val (Val.load1C tabOk rfl rfl (by assumption)) rfl rfl ?_
  refine SL.val (Val.eqI rfl rfl) rfl rfl ?_
  refine SL.val (Val.move rfl) rfl rfl ?_
  refine SL.bothP (t := 11) rfl (by intro hc11; exfalso; exact he hc11) ?_
  intro hc11
  iterate 11 refine SL.skip rfl rfl ?_
  refine SL.val (Val.pickF rfl rfl) rfl rfl ?_
  refine SL.nil (SE.seq ?_)
  refine SC.condF rfl ?_
  refine SC.skip ?_
  refine SE.seq ?_
  refine SC.seq ?_
  refine SC.seq (SC.region ?_)
  refine SL.val (Val.move rfl) rfl rfl ?_
  refine SL.val (Val.nilCheck rfl) rfl rfl ?_
  refine SL.val (Val.fieldAddr tabOk rfl rfl rfl rfl rfl) rfl rfl ?_
  first
    | refine SL.val (Val.load1 tabOk rfl rfl (by repeat (first | assumption | exact List.mem_cons_self | exact hmem _ | apply List.mem_cons_of_mem)) (by rfl)) rfl rfl ?_
    | refine SL.val (Val.load1C tabOk rfl rfl (by assumption)) rfl rfl ?_
  refine SL.val (Val.neI rfl rfl) rfl rfl ?_
  refine SL.nil (SE.seq ?_)
  refine SC.condP rfl ?_ (by intro hc31; exfalso; omega)
  intro hc31
  refine SC.seq (SC.region ?_)
  refine SL.val (Val.assign rfl) rfl rfl ?_
  refine SL.nil (SE.seq ?_)
  refine SC.ret ?_
  refine SE.then_ (by intro h; cases h) ?_
  refine SE.ret1 rfl rfl ?_
  intro w' hw'
  exact ⟨_, rfl, (hw'.add (z := bytesD _ _) (hw'.data hv)).add (z := bytesD (.slice none 0 0) []) (IsRow.nil rfl)⟩

set_option maxHeartbeats 400000 in
theorem rfixed_b {n : Int} (hw : Mem S σ ρ w) (hu : Upd (rdI 188 p s) (rdI 188 p (s.fail 2)) σ τ) (hv : bytesD s.v s.l ∈ ρ) (he : s.e = 0) (hn : s.bad n) : Calls Try.prog 190 #[.pointer (some ⟨p, 0, none⟩), .int .i64 n] w fun e w' => ∃ r, e = .returned r ∧ Mem S τ (bytesD r [] :: bytesD s.v s.l :: ρ) w' := by
  have hb := hu.mem
  have hb2 := hu.mem'
  have hsv := (hw.data hv).shape
  obtain ⟨v, l, e⟩ := s
  obtain ⟨A, c, hsv, hs1, hs2, hs3⟩ := hsv
  dsimp only at hsv
  subst hsv
  unfold Rd.bad at hn
  dsimp only [Rd.fail] at *
  refine calls_of [.pointer (some ⟨p, 0, none⟩), .int .i64 n] Try.func190 rfl Try.ntmps190 rfl (Mem S σ ρ) hw ?_
  refine SC.seq (SC.region ?_)
  refine SL.val (Val.assign rfl) rfl rfl ?_
  refine SL.nil (SE.seq ?_)
  refine SC.seq ?_
  refine SC.seq (SC.region ?_)
  refine SL.val (Val.move rfl) rfl rfl ?_
  refine SL.val (Val.nilCheck rfl) rfl rfl ?_
  refine SL.val (Val.fieldAddr tabOk rfl rfl rfl rfl rfl) rfl rfl ?_
  first
    | refine SL.val (Val.load1 tabOk rfl rfl (by repeat (first | assumption | exact List.mem_cons_self | exact hmem _ | apply List.mem_cons_of_mem)) (by rfl)) rfl rfl ?_
    | refine SL.val (Val.load1C tabOk rfl rfl (by assumption)) rfl rfl ?_
  refine SL.val (Val.eqI rfl rfl) rfl rfl ?_
  refine SL.val (Val.move rfl) rfl rfl ?_
  refine SL.bothP (t := 11) rfl ?_ (by intro hc11; exfalso; exact hc11 he)
  intro hc11
  refine SL.val (Val.move rfl) rfl rfl ?_
  refine SL.val (Val.ltI rfl rfl) rfl rfl ?_
  refine SL.val (Val.move rfl) rfl rfl ?_
  refine SL.bothP (t := 14) rfl ?_ ?_
  · intro hc14
    iterate 7 refine SL.skip rfl rfl ?_
    refine SL.val (Val.pickT rfl rfl) rfl rfl ?_
    refine SL.val (Val.pickT rfl rfl) rfl rfl ?_
    refine SL.nil (SE.seq ?_)
    refine SC.condT rfl ?_
    refine SC.region ?_
    refine SL.val (Val.move rfl) rfl rfl ?_
    refine SL.val (Val.nilCheck rfl) rfl rfl ?_
    refine SL.val (Val.fieldAddr tabOk rfl rfl rfl rfl rfl) rfl rfl ?_
    refine SL.eff (Eff.store1 tabOk rfl rfl rfl rfl rfl (by repeat (first | assumption | exact Upd.here | exact hrep _ _ | apply Upd.there)) (by rfl) (by rfl)) rfl rfl ?_
    rintro _ _ ⟨rfl, rfl⟩
    refine SL.nil (SE.seq ?_)
    refine SC.seq ?_
    refine SC.seq (SC.region ?_)
    refine SL.val (Val.move rfl) rfl rfl ?_
    refine SL.val (Val.nilCheck rfl) rfl rfl ?_
    refine SL.val (Val.fieldAddr tabOk rfl rfl rfl rfl rfl) rfl rfl ?_
    first
      | refine SL.val (Val.load1 tabOk rfl rfl (by repeat (first | assumption | exact List.mem_cons_self | exact hmem _ | apply List.mem_cons_of_mem)) (by rfl)) rfl rfl ?_
      | refine SL.val (Val.load1C tabOk rfl rfl (by assumption)) rfl rfl ?_
    refine SL.val (Val.neI rfl rfl) rfl rfl ?_
    refine SL.nil (SE.seq ?_)
    refine SC.condP rfl ?_ (by intro hc31; exfalso; exact hc31 (show (2 : Int) ≠ 0 by decide))
    intro hc31
    refine SC.seq (SC.region ?_)
    refine SL.val (Val.assign rfl) rfl rfl ?_
    refine SL.nil (SE.seq ?_)
    refine SC.ret ?_
    refine SE.then_ (by intro h; cases h) ?_
    refine SE.ret1 rfl rfl ?_
    intro w' hw'
    exact ⟨_, rfl, (hw'.add (z := bytesD _ _) (hw'.data hv)).add (z := bytesD (.slice none 0 0) []) (IsRow.nil rfl)⟩
  intro hc14
  refine SL.val (Val.move rfl) rfl rfl ?_
  refine SL.val (Val.move rfl) rfl rfl ?_
  refine SL.val (Val.nilCheck rfl) rfl rfl ?_
  refine SL.val (Val.fieldAddr tabOk rfl rfl rfl rfl rfl) rfl rfl ?_
  first
    | refine SL.val (Val.load1 tabOk rfl rfl (by repeat (first | assumption | exact List.mem_cons_self | exact hmem _ | apply List.mem_cons_of_mem)) (by rfl)) rfl rfl ?_
    | refine SL.val (Val.load1C tabOk rfl rfl (by assumption)) rfl rfl ?_
  refine SL.val (Val.lenSl rfl Try.underlying34) rfl rfl ?_
  refine SL.val (Val.gtI rfl rfl) rfl rfl ?_
  refine SL.val (Val.pickF rfl rfl) rfl rfl ?_
  refine SL.val (Val.pickT rfl rfl) rfl rfl ?_
  refine SL.nil (SE.seq ?_)
  refine SC.condP rfl ?_ (by intro hc23; exfalso; omega)
  intro hc23
  refine SC.region ?_
  refine SL.val (Val.move rfl) rfl rfl ?_
  refine SL.val (Val.nilCheck rfl) rfl rfl ?_
  refine SL.val (Val.fieldAddr tabOk rfl rfl rfl rfl rfl) rfl rfl ?_
  refine SL.eff (Eff.store1 tabOk rfl rfl rfl rfl rfl (by repeat (first | assumption | exact Upd.here | exact hrep _ _ | apply Upd.there)) (by rfl) (by rfl)) rfl rfl ?_
  rintro _ _ ⟨rfl, rfl⟩
  refine SL.nil (SE.seq ?_)
  refine SC.seq ?_
  refine SC.seq (SC.region ?_)
  refine SL.val (Val.move rfl) rfl rfl ?_
  refine SL.val (Val.nilCheck rfl) rfl rfl ?_
  refine SL.val (Val.fieldAddr tabOk rfl rfl rfl rfl rfl) rfl rfl ?_
  first
    | refine SL.val (Val.load1 tabOk rfl rfl (by repeat (first | assumption | exact List.mem_cons_self | exact hmem _ | apply List.mem_cons_of_mem)) (by rfl)) rfl rfl ?_
    | refine SL.val (Val.load1C tabOk rfl rfl (by assumption)) rfl rfl ?_
  refine SL.val (Val.neI rfl rfl) rfl rfl ?_
  refine SL.nil (SE.seq ?_)
  refine SC.condP rfl ?_ (by intro hc31; exfalso; exact hc31 (show (2 : Int) ≠ 0 by decide))
  intro hc31
  refine SC.seq (SC.region ?_)
  refine SL.val (Val.assign rfl) rfl rfl ?_
  refine SL.nil (SE.seq ?_)
  refine SC.ret ?_
  refine SE.then_ (by intro h; cases h) ?_
  refine SE.ret1 rfl rfl ?_
  intro w' hw'
  exact ⟨_, rfl, (hw'.add (z := bytesD _ _) (hw'.data hv)).add (z := bytesD (.slice none 0 0) []) (IsRow.nil rfl)⟩

set_option maxHeartbeats 400000 in
theorem rfixed_c' {n : Nat} (hw : Mem S σ ρ w) (hu : Upd (rdI 188 p s) (rdI 188 p ⟨tailV s.v n, s.l.drop n, 0⟩) σ τ) (hv : bytesD s.v s.l ∈ ρ) (hl : s.l.length ≤ lots) (he : s.e = 0) (hn : n ≤ s.l.length) : Calls Try.prog 190 #[.pointer (some ⟨p, 0, none⟩), .int .i64 n] w fun e w' => ∃ r, e = .returned r ∧ Mem S τ (bytesD r (s.l.take n) :: bytesD (tailV s.v n) (s.l.drop n) :: ρ) w' := by
  have hb := hu.mem
  have hb2 := hu.mem'
  have hsv := (hw.data hv).shape
  obtain ⟨v, l, e⟩ := s
  obtain ⟨A, c, hsv, hs1, hs2, hs3⟩ := hsv
  dsimp only at hsv
  subst hsv
  dsimp only at he
  subst he
  dsimp only at *
  refine calls_of [.pointer (some ⟨p, 0, none⟩), .int .i64 n] Try.func190 rfl Try.ntmps190 rfl (Mem S σ ρ) hw ?_
  refine SC.seq (SC.region ?_)
  refine SL.val (Val.assign rfl) rfl rfl ?_
  refine SL.nil (SE.seq ?_)
  refine SC.seq ?_
  refine SC.seq (SC.region ?_)
  refine SL.val (Val.move rfl) rfl rfl ?_
  refine SL.val (Val.nilCheck rfl) rfl rfl ?_
  refine SL.val (Val.fieldAddr tabOk rfl rfl rfl rfl rfl) rfl rfl ?_
  first
    | refine SL.val (Val.load1 tabOk rfl rfl (by repeat (first | assumption | exact List.mem_cons_self | exact hmem _ | apply List.mem_cons_of_mem)) (by rfl)) rfl rfl ?_
    | refine SL.val (Val.load1C tabOk rfl rfl (by assumption)) rfl rfl ?_
  refine SL.val (Val.eqI rfl rfl) rfl rfl ?_
  refine SL.val (Val.move rfl) rfl rfl ?_
  refine SL.bothP (t := 11) rfl ?_ (by intro hc11; exfalso; exact hc11 rfl)
  intro hc11
  refine SL.val (Val.move rfl) rfl rfl ?_
  refine SL.val (Val.ltI rfl rfl) rfl rfl ?_
  refine SL.val (Val.move rfl) rfl rfl ?_
  refine SL.bothP (t := 14) rfl (by intro hc14; exfalso; omega) ?_
  intro hc14
  refine SL.val (Val.move rfl) rfl rfl ?_
  refine SL.val (Val.move rfl) rfl rfl ?_
  refine SL.val (Val.nilCheck rfl) rfl rfl ?_
  refine SL.val (Val.fieldAddr tabOk rfl rfl rfl rfl rfl) rfl rfl ?_
  first
    | refine SL.val (Val.load1 tabOk rfl rfl (by repeat (first | assumption | exact List.mem_cons_self | exact hmem _ | apply List.mem_cons_of_mem)) (by rfl)) rfl rfl ?_
    | refine SL.val (Val.load1C tabOk rfl rfl (by assumption)) rfl rfl ?_
  refine SL.val (Val.lenSl rfl Try.underlying34) rfl rfl ?_
  refine SL.val (Val.gtI rfl rfl) rfl rfl ?_
  refine SL.val (Val.pickF rfl rfl) rfl rfl ?_
  refine SL.val (Val.pickT rfl rfl) rfl rfl ?_
  refine SL.nil (SE.seq ?_)
  refine SC.condP rfl (by intro hc23; exfalso; omega) ?_
  intro hc23
  refine SC.skip ?_
  refine SE.seq ?_
  refine SC.seq ?_
  refine SC.seq (SC.region ?_)
  refine SL.val (Val.move rfl) rfl rfl ?_
  refine SL.val (Val.nilCheck rfl) rfl rfl ?_
  refine SL.val (Val.fieldAddr tabOk rfl rfl rfl rfl rfl) rfl rfl ?_
  first
    | refine SL.val (Val.load1 tabOk rfl rfl (by repeat (first | assumption | exact List.mem_cons_self | exact hmem _ | apply List.mem_cons_of_mem)) (by rfl)) rfl rfl ?_
    | refine SL.val (Val.load1C tabOk rfl rfl (by assumption)) rfl rfl ?_
  refine SL.val (Val.neI rfl rfl) rfl rfl ?_
  refine SL.nil (SE.seq ?_)
  refine SC.condP rfl (by intro hc31; exfalso; exact hc31 rfl) ?_
  intro hc31
  refine SC.skip ?_
  refine SE.seq ?_
  refine SC.seq (SC.region ?_)
  refine SL.eff (Eff.buildSlice (L := []) tabOk Try.underlying34 rfl rfl (fun L0 h => by match L0, h with | [], _ => rfl) rfl) rfl rfl ?_
  rintro _ _ ⟨b32, rfl, rfl⟩
  refine SL.to (fun _ h => Mem.blkOwn (k := 0) (sz := 1) h rfl (Nat.zero_le _)) ?_
  refine SL.val (Val.move rfl) rfl rfl ?_
  refine SL.val (Val.nilCheck rfl) rfl rfl ?_
  refine SL.val (Val.fieldAddr tabOk rfl rfl rfl rfl rfl) rfl rfl ?_
  first
    | refine SL.val (Val.load1 tabOk rfl rfl (by repeat (first | assumption | exact List.mem_cons_self | exact hmem _ | apply List.mem_cons_of_mem)) (by rfl)) rfl rfl ?_
    | refine SL.val (Val.load1C tabOk rfl rfl (by assumption)) rfl rfl ?_
  refine SL.val (Val.move rfl) rfl rfl ?_
  refine SL.val (Val.sliceHi (q := n) tabOk Try.underlying34 rfl rfl rfl rfl (by omega)) rfl rfl ?_
  refine SL.eff (Eff.append (pre := []) (news := (l.take n).map bc) tabOk Try.underlying34 rfl rfl rfl rfl rfl (fun _ hw => ⟨_, IsRow.shapeN (IsRow.head (hw.data hv) hn c (by omega) (Nat.le_refl _)) (by simp; omega)⟩) (by simp; omega) bc_one (by unfold maxLen; (try simp only [List.length_append, List.length_take, beBytes_length]); unfold lots at *; omega) (by rw [show Try.prog.bytesOf 5 = 1 by kernel_rfl]; (try simp only [List.length_append, List.length_take, beBytes_length]); unfold lots at *; omega)) rfl rfl ?_
  rintro r _ rfl
  refine SL.to (fun _ h => Mem.freeze h) ?_
  refine SL.val (Val.assign rfl) rfl rfl ?_
  refine SL.nil (SE.seq ?_)
  refine SC.seq (SC.region ?_)
  refine SL.val (Val.move rfl) rfl rfl ?_
  refine SL.val (Val.move rfl) rfl rfl ?_
  refine SL.val (Val.nilCheck rfl) rfl rfl ?_
  refine SL.val (Val.fieldAddr tabOk rfl rfl rfl rfl rfl) rfl rfl ?_
  first
    | refine SL.val (Val.load1 tabOk rfl rfl (by repeat (first | assumption | exact List.mem_cons_self | exact hmem _ | apply List.mem_cons_of_mem)) (by rfl)) rfl rfl ?_
    | refine SL.val (Val.load1C tabOk rfl rfl (by assumption)) rfl rfl ?_
  refine SL.val (Val.move rfl) rfl rfl ?_
  refine SL.val (Val.sliceLo (q := n) tabOk Try.underlying34 rfl rfl rfl rfl rfl hn) rfl rfl ?_
  refine SL.val (Val.nilCheck rfl) rfl rfl ?_
  refine SL.val (Val.fieldAddr tabOk rfl rfl rfl rfl rfl) rfl rfl ?_
  refine SL.eff (Eff.store1 tabOk rfl rfl rfl rfl rfl (by repeat (first | assumption | exact Upd.here | exact hrep _ _ | apply Upd.there)) (by rfl) (by rfl)) rfl rfl ?_
  rintro _ _ ⟨rfl, rfl⟩
  refine SL.nil (SE.seq ?_)
  refine SC.seq (SC.region ?_)
  refine SL.val (Val.move rfl) rfl rfl ?_
  refine SL.val (Val.assign rfl) rfl rfl ?_
  refine SL.nil (SE.seq ?_)
  refine SC.ret ?_
  refine SE.ret1 rfl rfl ?_
  intro w' hw'
  have hd : bytesD r (l.take n) = rowD r (0 + n) ([] ++ (l.take n).map bc) := by unfold bytesD; rw [List.nil_append]; congr 1; simp; omega
  refine ⟨r, rfl, ?_⟩
  rw [hd]
  exact (hw'.add (z := bytesD _ _) (IsRow.tail (l := l) (hw'.data (z := bytesD _ l) (List.mem_cons_of_mem _ hv)) hn)).less (by intro x hx; simp only [List.mem_cons] at hx ⊢; rcases hx with rfl | rfl | hx <;> simp [*])

theorem rfixed_c {n : Int} (hw : Mem S σ ρ w) (hu : Upd (rdI 188 p s) (rdI 188 p (s.fixed n)) σ τ) (hv : bytesD s.v s.l ∈ ρ) (hl : s.l.length ≤ lots) : Calls Try.prog 190 #[.pointer (some ⟨p, 0, none⟩), .int .i64 n] w fun e w' => ∃ r, e = .returned r ∧ Mem S τ (bytesD r (s.out n) :: bytesD (s.fixed n).v (s.fixed n).l :: ρ) w' := by
  by_cases he : s.e = 0
  · by_cases hn : s.bad n
    · have e1 : s.fixed n = s.fail 2 := by simp [Rd.fixed, he, hn, Rd.fail]
      have e2 : s.out n = [] := by simp [Rd.out, hn]
      rw [e1] at hu ⊢
      rw [e2]
      exact rfixed_b (s := s) hw hu hv he hn
    · have e1 : s.fixed n = ⟨tailV s.v n.toNat, s.l.drop n.toNat, 0⟩ := by simp [Rd.fixed, he, hn]
      have e2 : s.out n = s.l.take n.toNat := by simp [Rd.out, he, hn]
      rw [e1] at hu ⊢
      rw [e2]
      unfold Rd.bad at hn
      obtain ⟨k, rfl⟩ : ∃ k : Nat, n = k := ⟨n.toNat, by omega⟩
      exact rfixed_c' (s := s) hw hu hv hl he (by omega)
  · have e1 : s.fixed n = s := by simp [Rd.fixed, he]
    have e2 : s.out n = [] := by simp [Rd.out, he]
    rw [e1] at hu ⊢
    rw [e2, upd_self hu]
    exact rfixed_a (s := s) hw hu.mem hv he

set_option maxHeartbeats 400000 in
theorem rnumber_c {n : Int} (hw : Mem S σ ρ w) (hu : Upd (rdI 188 p s) (rdI 188 p (s.fixed n)) σ τ) (hv : bytesD s.v s.l ∈ ρ) (hl : s.l.length ≤ lots) (hn : sizeB n = true) : Calls Try.prog 127 #[.pointer (some ⟨p, 0, none⟩), .int .i64 n] w fun e w' => e = .returned (.int .u64 (s.num n : Nat)) ∧ Mem S τ (bytesD (s.fixed n).v (s.fixed n).l :: ρ) w' := by
  have hb := hu.mem
  have h8 : (s.out n).length ≤ 8 := Nat.le_trans (s.out_length n) (sizeB_le hn).2
  unfold Rd.num
  refine calls_of [.pointer (some ⟨p, 0, none⟩), .int .i64 n] Try.func127 rfl Try.ntmps127 rfl (Mem S σ ρ) hw ?_
  refine SC.seq (SC.region ?_)
  refine SL.val (Val.assign rfl) rfl rfl ?_
  refine SL.nil (SE.seq ?_)
  refine SC.seq ?_
  refine SC.cut (ι := Unit) (fun _ => [(0, .pointer (some ⟨p, 0, none⟩)), (1, .int .i64 n), (17, .bool false)]) (fun _ => Mem S σ ρ) ?_ ?_
  · skip
    refine SC.region ?_
    refine SL.val (Val.move rfl) rfl rfl ?_
    refine SL.val (Val.nilCheck rfl) rfl rfl ?_
    refine SL.val (Val.fieldAddr tabOk rfl rfl rfl rfl rfl) rfl rfl ?_
    first
      | refine SL.val (Val.load1 tabOk rfl rfl (by repeat (first | assumption | exact List.mem_cons_self | exact hmem _ | apply List.mem_cons_of_mem)) (by rfl)) rfl rfl ?_
      | refine SL.val (Val.load1C tabOk rfl rfl (by assumption)) rfl rfl ?_
    refine SL.val (Val.eqI rfl rfl) rfl rfl ?_
    refine SL.val (Val.move rfl) rfl rfl ?_
    refine SL.bothP (t := 13) rfl ?_ ?_
    rotate_left
    · intro hc13
      iterate 3 refine SL.skip rfl rfl ?_
      refine SL.val (Val.pickF rfl rfl) rfl rfl ?_
      refine SL.nil ?_
      exact SE.meet () (by exact ⟨rfl, rfl, rfl, trivial⟩) (fun _ h => h)
    intro hc13
    refine SL.val (Val.move rfl) rfl rfl ?_
    refine SL.call (by kernel_rfl) rfl rfl rfl ?_
    intro w hw
    refine (size_c (n := n) hw hn).mono ?_; rintro _ _ ⟨rfl, hm⟩; refine ⟨_, _, rfl, hm, ?_⟩; clear hm hw w
    refine SL.val (Val.notT rfl) rfl rfl ?_
    refine SL.val (Val.pickT rfl rfl) rfl rfl ?_
    refine SL.nil ?_
    exact SE.meet () (by exact ⟨rfl, rfl, rfl, trivial⟩) (fun _ h => h)
  · intro _
    refine SC.condF rfl ?_
    refine SC.skip ?_
    refine SE.seq ?_
    refine SC.seq (SC.region ?_)
    refine SL.val (Val.assign rfl) rfl rfl ?_
    refine SL.nil (SE.seq ?_)
    refine SC.seq ?_
    refine SC.seq (SC.region ?_)
    refine SL.val (Val.move rfl) rfl rfl ?_
    refine SL.val (Val.move rfl) rfl rfl ?_
    refine SL.call (by kernel_rfl) rfl rfl rfl ?_
    intro w hw
    refine (rfixed_c (s := s) hw hu hv hl).mono ?_; rintro _ _ ⟨r, rfl, hm⟩; obtain ⟨A, c, rfl, h1, h2, h3⟩ := (hm.data List.mem_cons_self).shape; have hA : s.out n ≠ [] → ∃ b off, A = some ⟨b, off, none⟩ := fun h => row_at (hm.data List.mem_cons_self) (by simpa using h); refine ⟨_, _, rfl, hm, ?_⟩; clear hm hw w
    refine SL.val (Val.lenSl rfl Try.underlying34) rfl rfl ?_
    refine SL.val (Val.move rfl) rfl rfl ?_
    refine SL.nil (SE.seq ?_)
    refine SC.block ?_
    refine SC.loop (ι := Nat) (fun k => [(5, .int .u64 (beVal ((s.out n).take k) : Nat)), (23, .slice A (s.out n).length c), (24, .int .i64 ((s.out n).length : Nat)), (25, .int .i64 (k : Nat))]) (fun k w' => k ≤ (s.out n).length ∧ Mem S τ (bytesD (.slice A (s.out n).length c) (s.out n) :: bytesD (s.fixed n).v (s.fixed n).l :: ρ) w') (fun k => (s.out n).length - k) 0 (by exact ⟨rfl, rfl, rfl, rfl, trivial⟩) (fun w' hw' => ⟨Nat.zero_le _, hw'⟩) ?_
    intro k
    refine SC.facts ?_
    intro hk
    refine SC.seq (SC.region ?_)
    refine SL.val (Val.ltI rfl rfl) rfl rfl ?_
    refine SL.nil (SE.seq ?_)
    refine SC.seq ?_
    refine SC.condP rfl ?_ ?_
    rotate_left
    · intro hc26
      refine SC.exit ?_
      refine SE.then_ (by intro h; cases h) ?_
      refine SE.then_ (by intro h; cases h) ?_
      refine SE.exit ?_
      refine SE.seq ?_
      refine SC.seq (SC.region ?_)
      refine SL.val (Val.move rfl) rfl rfl ?_
      refine SL.val (Val.assign rfl) rfl rfl ?_
      refine SL.nil (SE.seq ?_)
      refine SC.ret ?_
      refine SE.ret1 rfl rfl ?_
      intro w' hw'
      have hk2 : k = (s.out n).length := by omega
      subst hk2
      rw [List.take_of_length_le (Nat.le_refl _)]
      exact ⟨rfl, hw'.less (fun x hx => List.mem_cons_of_mem _ hx)⟩
    intro hc26
    have hlt : k < (s.out n).length := by omega
    have hb := beVal_take (s.out n) k hlt h8
    have hc := ((s.out n)[k]'hlt).toNat_lt
    obtain ⟨bb, off, rfl⟩ := hA (by intro h0; rw [h0] at hlt; simp at hlt)
    refine SC.skip ?_
    refine SE.seq ?_
    refine SC.seq ?_
    refine SC.block ?_
    refine SC.seq (SC.region ?_)
    first
      | refine SL.val (Val.indexSlN tabOk Try.underlying34 rfl rfl rfl (by omega)) rfl rfl ?_
      | refine SL.val (Val.indexSl tabOk Try.underlying34 rfl rfl rfl (by omega)) rfl rfl ?_
    refine SL.val (Val.load1D (u := bc ((s.out n)[k]'hlt)) tabOk rfl rfl (by repeat (first | assumption | exact List.mem_cons_self | exact hmem _ | apply List.mem_cons_of_mem)) (by show ((s.out n).map bc)[k * 1]? = _; rw [Nat.mul_one, List.getElem?_map, List.getElem?_eq_getElem hlt]; rfl)) rfl rfl ?_
    refine SL.val (Val.assign rfl) rfl rfl ?_
    refine SL.nil (SE.seq ?_)
    refine SC.region ?_
    refine SL.val (Val.move rfl) rfl rfl ?_
    first
      | refine SL.val (Val.mulI rfl rfl (by simp only [InR, lo, hi]; omega)) rfl rfl ?_
      | refine SL.val (Val.mulW rfl rfl) rfl rfl ?_
    refine SL.val (Val.move rfl) rfl rfl ?_
    first
      | refine SL.val (Val.convI rfl Try.underlying166 (by kernel_rfl) (by simp only [InR, lo, hi]; omega)) rfl rfl ?_
      | refine SL.val (Val.convU rfl Try.underlying166 (by kernel_rfl)) rfl rfl ?_
    first
      | refine SL.val (Val.addI rfl rfl (by simp only [InR, lo, hi]; omega)) rfl rfl ?_
      | refine SL.val (Val.addW rfl rfl) rfl rfl ?_
    refine SL.val (Val.assign rfl) rfl rfl ?_
    refine SL.nil ?_
    refine SE.inBlock ?_
    refine SE.seq ?_
    refine SC.region ?_
    first
      | refine SL.val (Val.addI rfl rfl (by simp only [InR, lo, hi]; omega)) rfl rfl ?_
      | refine SL.val (Val.addW rfl rfl) rfl rfl ?_
    refine SL.val (Val.move rfl) rfl rfl ?_
    refine SL.nil ?_
    exact SE.round (k + 1) (by omega) (by exact ⟨by rw [take_snoc8 _ _ hlt]; rfl, rfl, rfl, rfl, trivial⟩) (fun w' hw' => ⟨hlt, hw'⟩)

set_option maxHeartbeats 400000 in
theorem rcount_m {most : Int} {υ : Blks} (hw : Mem S σ ρ w) (hu1 : Upd (rdI 188 p s) (rdI 188 p (s.fixed 2)) σ υ) (hu2 : Upd (rdI 188 p (s.fixed 2)) (rdI 188 p ((s.fixed 2).fail 4)) υ τ) (hv : bytesD s.v s.l ∈ ρ) (hl : s.l.length ≤ lots) (he : (s.fixed 2).e = 0) (hm : most < s.num 2) : Calls Try.prog 128 #[.pointer (some ⟨p, 0, none⟩), .int .i64 most] w fun e w' => e = .returned (.int .i64 0) ∧ Mem S τ (bytesD (s.fixed 2).v (s.fixed 2).l :: ρ) w' := by
  have hlt := s.num_lt (n := 2) (k := 2) (Nat.le_refl _)
  have hm1 := hu1.mem'
  have hm2 := hu2.mem
  have hm3 := hu2.mem'
  refine calls_of [.pointer (some ⟨p, 0, none⟩), .int .i64 most] Try.func128 rfl Try.ntmps128 rfl (Mem S σ ρ) hw ?_
  refine SC.seq (SC.region ?_)
  refine SL.val (Val.assign rfl) rfl rfl ?_
  refine SL.nil (SE.seq ?_)
  refine SC.seq (SC.region ?_)
  refine SL.val (Val.move rfl) rfl rfl ?_
  refine SL.call (by kernel_rfl) rfl rfl rfl ?_
  intro w hw
  refine (rnumber_c (s := s) hw hu1 hv hl rfl).mono ?_; rintro _ _ ⟨rfl, hm⟩; refine ⟨_, _, rfl, hm, ?_⟩; clear hm hw w
  first
    | refine SL.val (Val.convI rfl Try.underlying3 (by kernel_rfl) (by simp only [InR, lo, hi]; omega)) rfl rfl ?_
    | refine SL.val (Val.convW rfl Try.underlying3 (by kernel_rfl)) rfl rfl ?_
  refine SL.val (Val.assign rfl) rfl rfl ?_
  refine SL.nil (SE.seq ?_)
  refine SC.seq ?_
  refine SC.seq (SC.region ?_)
  refine SL.val (Val.move rfl) rfl rfl ?_
  refine SL.val (Val.nilCheck rfl) rfl rfl ?_
  refine SL.val (Val.fieldAddr tabOk rfl rfl rfl rfl rfl) rfl rfl ?_
  first
    | refine SL.val (Val.load1 tabOk rfl rfl (by repeat (first | assumption | exact List.mem_cons_self | exact hmem _ | apply List.mem_cons_of_mem)) (by rfl)) rfl rfl ?_
    | refine SL.val (Val.load1C tabOk rfl rfl (by assumption)) rfl rfl ?_
  refine SL.val (Val.eqI rfl rfl) rfl rfl ?_
  refine SL.val (Val.move rfl) rfl rfl ?_
  refine SL.bothP (t := 14) rfl ?_ (by intro hc14; exfalso; exact hc14 he)
  intro hc14
  refine SL.val (Val.move rfl) rfl rfl ?_
  refine SL.val (Val.move rfl) rfl rfl ?_
  refine SL.val (Val.gtI rfl rfl) rfl rfl ?_
  refine SL.val (Val.pickT rfl rfl) rfl rfl ?_
  refine SL.nil (SE.seq ?_)
  refine SC.condP rfl ?_ (by intro hc18; exfalso; omega)
  intro hc18
  refine SC.region ?_
  refine SL.val (Val.move rfl) rfl rfl ?_
  refine SL.val (Val.nilCheck rfl) rfl rfl ?_
  refine SL.val (Val.fieldAddr tabOk rfl rfl rfl rfl rfl) rfl rfl ?_
  refine SL.eff (Eff.store1 tabOk rfl rfl rfl rfl rfl (by repeat (first | assumption | exact Upd.here | exact hrep _ _ | apply Upd.there)) (by rfl) (by rfl)) rfl rfl ?_
  rintro _ _ ⟨rfl, rfl⟩
  refine SL.nil (SE.seq ?_)
  refine SC.seq ?_
  refine SC.seq (SC.region ?_)
  refine SL.val (Val.move rfl) rfl rfl ?_
  refine SL.val (Val.nilCheck rfl) rfl rfl ?_
  refine SL.val (Val.fieldAddr tabOk rfl rfl rfl rfl rfl) rfl rfl ?_
  first
    | refine SL.val (Val.load1 tabOk rfl rfl (by repeat (first | assumption | exact List.mem_cons_self | exact hmem _ | apply List.mem_cons_of_mem)) (by rfl)) rfl rfl ?_
    | refine SL.val (Val.load1C tabOk rfl rfl (by assumption)) rfl rfl ?_
  refine SL.val (Val.neI rfl rfl) rfl rfl ?_
  refine SL.nil (SE.seq ?_)
  refine SC.condP rfl ?_ (by intro hc26; exfalso; exact hc26 (show (4 : Int) ≠ 0 by decide))
  intro hc26
  refine SC.seq (SC.region ?_)
  refine SL.val (Val.assign rfl) rfl rfl ?_
  refine SL.nil (SE.seq ?_)
  refine SC.ret ?_
  refine SE.then_ (by intro h; cases h) ?_
  refine SE.ret1 rfl rfl ?_
  intro w' hw'
  exact ⟨rfl, hw'⟩

set_option maxHeartbeats 400000 in
theorem rcount_l {most : Int} {υ : Blks} (hw : Mem S σ ρ w) (hu1 : Upd (rdI 188 p s) (rdI 188 p (s.fixed 2)) σ υ) (hv : bytesD s.v s.l ∈ ρ) (hl : s.l.length ≤ lots) (hn : ¬ ((s.fixed 2).e = 0 ∧ most < s.num 2)) (_h0 : (s.fixed 2).e ≠ 0 → s.num 2 = 0) : Calls Try.prog 128 #[.pointer (some ⟨p, 0, none⟩), .int .i64 most] w fun e w' => e = .returned (.int .i64 (s.num 2 : Nat)) ∧ Mem S υ (bytesD (s.fixed 2).v (s.fixed 2).l :: ρ) w' := by
  have hlt := s.num_lt (n := 2) (k := 2) (Nat.le_refl _)
  have hm1 := hu1.mem'
  refine calls_of [.pointer (some ⟨p, 0, none⟩), .int .i64 most] Try.func128 rfl Try.ntmps128 rfl (Mem S σ ρ) hw ?_
  refine SC.seq (SC.region ?_)
  refine SL.val (Val.assign rfl) rfl rfl ?_
  refine SL.nil (SE.seq ?_)
  refine SC.seq (SC.region ?_)
  refine SL.val (Val.move rfl) rfl rfl ?_
  refine SL.call (by kernel_rfl) rfl rfl rfl ?_
  intro w hw
  refine (rnumber_c (s := s) hw hu1 hv hl rfl).mono ?_; rintro _ _ ⟨rfl, hm⟩; refine ⟨_, _, rfl, hm, ?_⟩; clear hm hw w
  first
    | refine SL.val (Val.convI rfl Try.underlying3 (by kernel_rfl) (by simp only [InR, lo, hi]; omega)) rfl rfl ?_
    | refine SL.val (Val.convW rfl Try.underlying3 (by kernel_rfl)) rfl rfl ?_
  refine SL.val (Val.assign rfl) rfl rfl ?_
  refine SL.nil (SE.seq ?_)
  refine SC.seq ?_
  refine SC.seq (SC.region ?_)
  refine SL.val (Val.move rfl) rfl rfl ?_
  refine SL.val (Val.nilCheck rfl) rfl rfl ?_
  refine SL.val (Val.fieldAddr tabOk rfl rfl rfl rfl rfl) rfl rfl ?_
  first
    | refine SL.val (Val.load1 tabOk rfl rfl (by repeat (first | assumption | exact List.mem_cons_self | exact hmem _ | apply List.mem_cons_of_mem)) (by rfl)) rfl rfl ?_
    | refine SL.val (Val.load1C tabOk rfl rfl (by assumption)) rfl rfl ?_
  refine SL.val (Val.eqI rfl rfl) rfl rfl ?_
  refine SL.val (Val.move rfl) rfl rfl ?_
  refine SL.bothP (t := 14) rfl ?_ ?_
  rotate_left
  · intro hc14
    iterate 3 refine SL.skip rfl rfl ?_
    refine SL.val (Val.pickF rfl rfl) rfl rfl ?_
    refine SL.nil (SE.seq ?_)
    refine SC.condF rfl ?_
    refine SC.skip ?_
    refine SE.seq ?_
    refine SC.seq ?_
    refine SC.seq (SC.region ?_)
    refine SL.val (Val.move rfl) rfl rfl ?_
    refine SL.val (Val.nilCheck rfl) rfl rfl ?_
    refine SL.val (Val.fieldAddr tabOk rfl rfl rfl rfl rfl) rfl rfl ?_
    first
      | refine SL.val (Val.load1 tabOk rfl rfl (by repeat (first | assumption | exact List.mem_cons_self | exact hmem _ | apply List.mem_cons_of_mem)) (by rfl)) rfl rfl ?_
      | refine SL.val (Val.load1C tabOk rfl rfl (by assumption)) rfl rfl ?_
    refine SL.val (Val.neI rfl rfl) rfl rfl ?_
    refine SL.nil (SE.seq ?_)
    refine SC.condP rfl ?_ ?_
    · intro hc26
      refine SC.seq (SC.region ?_)
      refine SL.val (Val.assign rfl) rfl rfl ?_
      refine SL.nil (SE.seq ?_)
      refine SC.ret ?_
      refine SE.then_ (by intro h; cases h) ?_
      refine SE.ret1 rfl rfl ?_
      intro w' hw'
      first
        | (exfalso; exact hc26 hc14)
        | exact ⟨by rw [_h0 hc26]; rfl, hw'⟩
        | exact ⟨rfl, hw'⟩
    intro hc26
    refine SC.skip ?_
    refine SE.seq ?_
    refine SC.seq (SC.region ?_)
    refine SL.val (Val.move rfl) rfl rfl ?_
    refine SL.val (Val.assign rfl) rfl rfl ?_
    refine SL.nil (SE.seq ?_)
    refine SC.ret ?_
    refine SE.ret1 rfl rfl ?_
    intro w' hw'
    first
      | (exfalso; exact hc26 hc14)
      | exact ⟨by rw [_h0 hc26]; rfl, hw'⟩
      | exact ⟨rfl, hw'⟩
  intro hc14
  refine SL.val (Val.move rfl) rfl rfl ?_
  refine SL.val (Val.move rfl) rfl rfl ?_
  refine SL.val (Val.gtI rfl rfl) rfl rfl ?_
  refine SL.val (Val.pickT rfl rfl) rfl rfl ?_
  refine SL.nil (SE.seq ?_)
  refine SC.condP rfl (by intro hc18; exfalso; exact hn ⟨hc14, hc18⟩) ?_
  intro hc18
  refine SC.skip ?_
  refine SE.seq ?_
  refine SC.seq ?_
  refine SC.seq (SC.region ?_)
  refine SL.val (Val.move rfl) rfl rfl ?_
  refine SL.val (Val.nilCheck rfl) rfl rfl ?_
  refine SL.val (Val.fieldAddr tabOk rfl rfl rfl rfl rfl) rfl rfl ?_
  first
    | refine SL.val (Val.load1 tabOk rfl rfl (by repeat (first | assumption | exact List.mem_cons_self | exact hmem _ | apply List.mem_cons_of_mem)) (by rfl)) rfl rfl ?_
    | refine SL.val (Val.load1C tabOk rfl rfl (by assumption)) rfl rfl ?_
  refine SL.val (Val.neI rfl rfl) rfl rfl ?_
  refine SL.nil (SE.seq ?_)
  refine SC.condP rfl ?_ ?_
  · intro hc26
    refine SC.seq (SC.region ?_)
    refine SL.val (Val.assign rfl) rfl rfl ?_
    refine SL.nil (SE.seq ?_)
    refine SC.ret ?_
    refine SE.then_ (by intro h; cases h) ?_
    refine SE.ret1 rfl rfl ?_
    intro w' hw'
    first
      | (exfalso; exact hc26 hc14)
      | exact ⟨by rw [_h0 hc26]; rfl, hw'⟩
      | exact ⟨rfl, hw'⟩
  intro hc26
  refine SC.skip ?_
  refine SE.seq ?_
  refine SC.seq (SC.region ?_)
  refine SL.val (Val.move rfl) rfl rfl ?_
  refine SL.val (Val.assign rfl) rfl rfl ?_
  refine SL.nil (SE.seq ?_)
  refine SC.ret ?_
  refine SE.ret1 rfl rfl ?_
  intro w' hw'
  first
    | (exfalso; exact hc26 hc14)
    | exact ⟨by rw [_h0 hc26]; rfl, hw'⟩
    | exact ⟨rfl, hw'⟩

theorem rcount_c {most : Int} (hw : Mem S σ ρ w) (hu : Upd (rdI 188 p s) (rdI 188 p (s.count most)) σ τ) (hv : bytesD s.v s.l ∈ ρ) (hl : s.l.length ≤ lots) : Calls Try.prog 128 #[.pointer (some ⟨p, 0, none⟩), .int .i64 most] w fun e w' => e = .returned (.int .i64 (s.countN most : Nat)) ∧ Mem S τ (bytesD (s.count most).v (s.count most).l :: ρ) w' := by
  by_cases h : (s.fixed 2).e = 0 ∧ most < s.num 2
  · have e1 : s.count most = (s.fixed 2).fail 4 := by simp [Rd.count, h]
    have e2 : s.countN most = 0 := by simp [Rd.countN, h]
    rw [e1] at hu ⊢
    rw [e2]
    obtain ⟨υ, h1, h2⟩ := upd_via (y := rdI 188 p (s.fixed 2)) hu
    exact rcount_m hw h1 h2 hv hl h.1 h.2
  · have e1 : s.count most = s.fixed 2 := by simp only [Rd.count, if_neg h]
    have e2 : s.countN most = s.num 2 := by simp only [Rd.countN, if_neg h]
    rw [e1] at hu ⊢
    rw [e2]
    exact rcount_l hw hu hv hl h (fun he => s.num0 he)

set_option maxHeartbeats 400000 in
theorem rrow_a {most : Int} {υ : Blks} (hw : Mem S σ ρ w) (hu1 : Upd (rdI 188 p s) (rdI 188 p (s.fixed 4)) σ υ) (hv : bytesD s.v s.l ∈ ρ) (hl : s.l.length ≤ lots) (_hmost : 0 ≤ most ∧ most ≤ 9223372036854775807) (he : (s.fixed 4).e ≠ 0) : Calls Try.prog 130 #[.pointer (some ⟨p, 0, none⟩), .int .i64 most] w fun e w' => ∃ r, e = .returned r ∧ Mem S υ (bytesD r [] :: bytesD (s.fixed 4).v (s.fixed 4).l :: ρ) w' := by
  have hlt := s.num_lt (n := 4) (k := 4) (Nat.le_refl _)
  have hl2 := s.fixed_length 4
  have hm1 := hu1.mem'
  refine calls_of [.pointer (some ⟨p, 0, none⟩), .int .i64 most] Try.func130 rfl Try.ntmps130 rfl (Mem S σ ρ) hw ?_
  refine SC.seq (SC.region ?_)
  refine SL.val (Val.assign rfl) rfl rfl ?_
  refine SL.nil (SE.seq ?_)
  refine SC.seq (SC.region ?_)
  refine SL.val (Val.move rfl) rfl rfl ?_
  refine SL.call (by kernel_rfl) rfl rfl rfl ?_
  intro w hw
  refine (rnumber_c (s := s) hw hu1 hv hl rfl).mono ?_; rintro _ _ ⟨rfl, hm⟩; refine ⟨_, _, rfl, hm, ?_⟩; clear hm hw w
  refine SL.val (Val.assign rfl) rfl rfl ?_
  refine SL.nil (SE.seq ?_)
  refine SC.seq ?_
  refine SC.seq (SC.region ?_)
  refine SL.val (Val.move rfl) rfl rfl ?_
  refine SL.val (Val.nilCheck rfl) rfl rfl ?_
  refine SL.val (Val.fieldAddr tabOk rfl rfl rfl rfl rfl) rfl rfl ?_
  first
    | refine SL.val (Val.load1 tabOk rfl rfl (by repeat (first | assumption | exact List.mem_cons_self | exact hmem _ | apply List.mem_cons_of_mem)) (by rfl)) rfl rfl ?_
    | refine SL.val (Val.load1C tabOk rfl rfl (by assumption)) rfl rfl ?_
  refine SL.val (Val.eqI rfl rfl) rfl rfl ?_
  refine SL.val (Val.move rfl) rfl rfl ?_
  refine SL.bothP (t := 13) rfl (by intro hc13; exfalso; exact he hc13) ?_
  intro hc13
  iterate 8 refine SL.skip rfl rfl ?_
  refine SL.val (Val.pickF rfl rfl) rfl rfl ?_
  refine SL.nil (SE.seq ?_)
  refine SC.condF rfl ?_
  refine SC.skip ?_
  refine SE.seq ?_
  refine SC.seq ?_
  refine SC.seq (SC.region ?_)
  refine SL.val (Val.move rfl) rfl rfl ?_
  refine SL.val (Val.nilCheck rfl) rfl rfl ?_
  refine SL.val (Val.fieldAddr tabOk rfl rfl rfl rfl rfl) rfl rfl ?_
  first
    | refine SL.val (Val.load1 tabOk rfl rfl (by repeat (first | assumption | exact List.mem_cons_self | exact hmem _ | apply List.mem_cons_of_mem)) (by rfl)) rfl rfl ?_
    | refine SL.val (Val.load1C tabOk rfl rfl (by assumption)) rfl rfl ?_
  refine SL.val (Val.neI rfl rfl) rfl rfl ?_
  refine SL.nil (SE.seq ?_)
  refine SC.condP rfl ?_ (by intro hc30; exfalso; exact hc30 he)
  intro hc30
  refine SC.seq (SC.region ?_)
  refine SL.val (Val.assign rfl) rfl rfl ?_
  refine SL.nil (SE.seq ?_)
  refine SC.ret ?_
  refine SE.then_ (by intro h; cases h) ?_
  refine SE.ret1 rfl rfl ?_
  intro w' hw'
  exact ⟨_, rfl, hw'.add (z := bytesD (.slice none 0 0) []) (IsRow.nil rfl)⟩

set_option maxHeartbeats 400000 in
theorem rrow_b {most : Int} {υ : Blks} (hw : Mem S σ ρ w) (hu1 : Upd (rdI 188 p s) (rdI 188 p (s.fixed 4)) σ υ) (hu2 : Upd (rdI 188 p (s.fixed 4)) (rdI 188 p ((s.fixed 4).fail 3)) υ τ) (hv : bytesD s.v s.l ∈ ρ) (hl : s.l.length ≤ lots) (_hmost : 0 ≤ most ∧ most ≤ 9223372036854775807) (he : (s.fixed 4).e = 0) (hm : most < s.num 4) : Calls Try.prog 130 #[.pointer (some ⟨p, 0, none⟩), .int .i64 most] w fun e w' => ∃ r, e = .returned r ∧ Mem S τ (bytesD r [] :: bytesD (s.fixed 4).v (s.fixed 4).l :: ρ) w' := by
  have hm2 := hu2.mem
  have hm3 := hu2.mem'
  have hlt := s.num_lt (n := 4) (k := 4) (Nat.le_refl _)
  have hl2 := s.fixed_length 4
  have hm1 := hu1.mem'
  refine calls_of [.pointer (some ⟨p, 0, none⟩), .int .i64 most] Try.func130 rfl Try.ntmps130 rfl (Mem S σ ρ) hw ?_
  refine SC.seq (SC.region ?_)
  refine SL.val (Val.assign rfl) rfl rfl ?_
  refine SL.nil (SE.seq ?_)
  refine SC.seq (SC.region ?_)
  refine SL.val (Val.move rfl) rfl rfl ?_
  refine SL.call (by kernel_rfl) rfl rfl rfl ?_
  intro w hw
  refine (rnumber_c (s := s) hw hu1 hv hl rfl).mono ?_; rintro _ _ ⟨rfl, hm⟩; refine ⟨_, _, rfl, hm, ?_⟩; clear hm hw w
  refine SL.val (Val.assign rfl) rfl rfl ?_
  refine SL.nil (SE.seq ?_)
  refine SC.seq ?_
  refine SC.seq (SC.region ?_)
  refine SL.val (Val.move rfl) rfl rfl ?_
  refine SL.val (Val.nilCheck rfl) rfl rfl ?_
  refine SL.val (Val.fieldAddr tabOk rfl rfl rfl rfl rfl) rfl rfl ?_
  first
    | refine SL.val (Val.load1 tabOk rfl rfl (by repeat (first | assumption | exact List.mem_cons_self | exact hmem _ | apply List.mem_cons_of_mem)) (by rfl)) rfl rfl ?_
    | refine SL.val (Val.load1C tabOk rfl rfl (by assumption)) rfl rfl ?_
  refine SL.val (Val.eqI rfl rfl) rfl rfl ?_
  refine SL.val (Val.move rfl) rfl rfl ?_
  refine SL.bothP (t := 13) rfl ?_ (by intro hc13; exfalso; exact hc13 he)
  intro hc13
  refine SL.val (Val.move rfl) rfl rfl ?_
  refine SL.val (Val.ltI rfl rfl) rfl rfl ?_
  refine SL.val (Val.move rfl) rfl rfl ?_
  refine SL.bothP (t := 16) rfl (by intro hc16; exfalso; omega) ?_
  intro hc16
  refine SL.val (Val.move rfl) rfl rfl ?_
  refine SL.val (Val.move rfl) rfl rfl ?_
  first
    | refine SL.val (Val.convI rfl Try.underlying166 (by kernel_rfl) (by simp only [InR, lo, hi]; omega)) rfl rfl ?_
    | refine SL.val (Val.convU rfl Try.underlying166 (by kernel_rfl)) rfl rfl ?_
  refine SL.val (Val.gtI rfl rfl) rfl rfl ?_
  refine SL.val (Val.pickF rfl rfl) rfl rfl ?_
  refine SL.val (Val.pickT rfl rfl) rfl rfl ?_
  refine SL.nil (SE.seq ?_)
  refine SC.condP rfl ?_ (by intro hc22; exfalso; omega)
  intro hc22
  refine SC.region ?_
  refine SL.val (Val.move rfl) rfl rfl ?_
  refine SL.val (Val.nilCheck rfl) rfl rfl ?_
  refine SL.val (Val.fieldAddr tabOk rfl rfl rfl rfl rfl) rfl rfl ?_
  refine SL.eff (Eff.store1 tabOk rfl rfl rfl rfl rfl (by repeat (first | assumption | exact Upd.here | exact hrep _ _ | apply Upd.there)) (by rfl) (by rfl)) rfl rfl ?_
  rintro _ _ ⟨rfl, rfl⟩
  refine SL.nil (SE.seq ?_)
  refine SC.seq ?_
  refine SC.seq (SC.region ?_)
  refine SL.val (Val.move rfl) rfl rfl ?_
  refine SL.val (Val.nilCheck rfl) rfl rfl ?_
  refine SL.val (Val.fieldAddr tabOk rfl rfl rfl rfl rfl) rfl rfl ?_
  first
    | refine SL.val (Val.load1 tabOk rfl rfl (by repeat (first | assumption | exact List.mem_cons_self | exact hmem _ | apply List.mem_cons_of_mem)) (by rfl)) rfl rfl ?_
    | refine SL.val (Val.load1C tabOk rfl rfl (by assumption)) rfl rfl ?_
  refine SL.val (Val.neI rfl rfl) rfl rfl ?_
  refine SL.nil (SE.seq ?_)
  refine SC.condP rfl ?_ (by intro hc30; exfalso; exact hc30 (show (3 : Int) ≠ 0 by decide))
  intro hc30
  refine SC.seq (SC.region ?_)
  refine SL.val (Val.assign rfl) rfl rfl ?_
  refine SL.nil (SE.seq ?_)
  refine SC.ret ?_
  refine SE.then_ (by intro h; cases h) ?_
  refine SE.ret1 rfl rfl ?_
  intro w' hw'
  exact ⟨_, rfl, hw'.add (z := bytesD (.slice none 0 0) []) (IsRow.nil rfl)⟩

set_option maxHeartbeats 400000 in
theorem rrow_d {most : Int} {υ : Blks} (hw : Mem S σ ρ w) (hu1 : Upd (rdI 188 p s) (rdI 188 p (s.fixed 4)) σ υ) (hu2 : Upd (rdI 188 p (s.fixed 4)) (rdI 188 p ((s.fixed 4).fixed (s.num 4))) υ τ) (hv : bytesD s.v s.l ∈ ρ) (hl : s.l.length ≤ lots) (_hmost : 0 ≤ most ∧ most ≤ 9223372036854775807) (he : (s.fixed 4).e = 0) (hm : ¬ most < s.num 4) : Calls Try.prog 130 #[.pointer (some ⟨p, 0, none⟩), .int .i64 most] w fun e w' => ∃ r, e = .returned r ∧ Mem S τ (bytesD r ((s.fixed 4).out (s.num 4)) :: bytesD ((s.fixed 4).fixed (s.num 4)).v ((s.fixed 4).fixed (s.num 4)).l :: ρ) w' := by
  have hlt := s.num_lt (n := 4) (k := 4) (Nat.le_refl _)
  have hl2 := s.fixed_length 4
  have hm1 := hu1.mem'
  refine calls_of [.pointer (some ⟨p, 0, none⟩), .int .i64 most] Try.func130 rfl Try.ntmps130 rfl (Mem S σ ρ) hw ?_
  refine SC.seq (SC.region ?_)
  refine SL.val (Val.assign rfl) rfl rfl ?_
  refine SL.nil (SE.seq ?_)
  refine SC.seq (SC.region ?_)
  refine SL.val (Val.move rfl) rfl rfl ?_
  refine SL.call (by kernel_rfl) rfl rfl rfl ?_
  intro w hw
  refine (rnumber_c (s := s) hw hu1 hv hl rfl).mono ?_; rintro _ _ ⟨rfl, hm⟩; refine ⟨_, _, rfl, hm, ?_⟩; clear hm hw w
  refine SL.val (Val.assign rfl) rfl rfl ?_
  refine SL.nil (SE.seq ?_)
  refine SC.seq ?_
  refine SC.seq (SC.region ?_)
  refine SL.val (Val.move rfl) rfl rfl ?_
  refine SL.val (Val.nilCheck rfl) rfl rfl ?_
  refine SL.val (Val.fieldAddr tabOk rfl rfl rfl rfl rfl) rfl rfl ?_
  first
    | refine SL.val (Val.load1 tabOk rfl rfl (by repeat (first | assumption | exact List.mem_cons_self | exact hmem _ | apply List.mem_cons_of_mem)) (by rfl)) rfl rfl ?_
    | refine SL.val (Val.load1C tabOk rfl rfl (by assumption)) rfl rfl ?_
  refine SL.val (Val.eqI rfl rfl) rfl rfl ?_
  refine SL.val (Val.move rfl) rfl rfl ?_
  refine SL.bothP (t := 13) rfl ?_ (by intro hc13; exfalso; exact hc13 he)
  intro hc13
  refine SL.val (Val.move rfl) rfl rfl ?_
  refine SL.val (Val.ltI rfl rfl) rfl rfl ?_
  refine SL.val (Val.move rfl) rfl rfl ?_
  refine SL.bothP (t := 16) rfl (by intro hc16; exfalso; omega) ?_
  intro hc16
  refine SL.val (Val.move rfl) rfl rfl ?_
  refine SL.val (Val.move rfl) rfl rfl ?_
  first
    | refine SL.val (Val.convI rfl Try.underlying166 (by kernel_rfl) (by simp only [InR, lo, hi]; omega)) rfl rfl ?_
    | refine SL.val (Val.convU rfl Try.underlying166 (by kernel_rfl)) rfl rfl ?_
  refine SL.val (Val.gtI rfl rfl) rfl rfl ?_
  refine SL.val (Val.pickF rfl rfl) rfl rfl ?_
  refine SL.val (Val.pickT rfl rfl) rfl rfl ?_
  refine SL.nil (SE.seq ?_)
  refine SC.condP rfl (by intro hc22; exfalso; omega) ?_
  intro hc22
  refine SC.skip ?_
  refine SE.seq ?_
  refine SC.seq ?_
  refine SC.seq (SC.region ?_)
  refine SL.val (Val.move rfl) rfl rfl ?_
  refine SL.val (Val.nilCheck rfl) rfl rfl ?_
  refine SL.val (Val.fieldAddr tabOk rfl rfl rfl rfl rfl) rfl rfl ?_
  first
    | refine SL.val (Val.load1 tabOk rfl rfl (by repeat (first | assumption | exact List.mem_cons_self | exact hmem _ | apply List.mem_cons_of_mem)) (by rfl)) rfl rfl ?_
    | refine SL.val (Val.load1C tabOk rfl rfl (by assumption)) rfl rfl ?_
  refine SL.val (Val.neI rfl rfl) rfl rfl ?_
  refine SL.nil (SE.seq ?_)
  refine SC.condP rfl (by intro hc30; exfalso; exact hc30 he) ?_
  intro hc30
  refine SC.skip ?_
  refine SE.seq ?_
  refine SC.seq (SC.region ?_)
  refine SL.val (Val.move rfl) rfl rfl ?_
  refine SL.val (Val.move rfl) rfl rfl ?_
  first
    | refine SL.val (Val.convI rfl Try.underlying3 (by kernel_rfl) (by simp only [InR, lo, hi]; omega)) rfl rfl ?_
    | refine SL.val (Val.convW rfl Try.underlying3 (by kernel_rfl)) rfl rfl ?_
  refine SL.call (by kernel_rfl) rfl rfl rfl ?_
  intro w hw
  refine (rfixed_c (s := s.fixed 4) hw hu2 (by repeat (first | assumption | exact List.mem_cons_self | exact hmem _ | apply List.mem_cons_of_mem)) (by omega)).mono ?_; rintro _ _ ⟨r, rfl, hm⟩; refine ⟨_, _, rfl, hm, ?_⟩; clear hm hw w
  refine SL.val (Val.assign rfl) rfl rfl ?_
  refine SL.nil (SE.seq ?_)
  refine SC.ret ?_
  refine SE.ret1 rfl rfl ?_
  intro w' hw'
  exact ⟨_, rfl, hw'.less (by intro x hx; simp only [List.mem_cons] at hx ⊢; rcases hx with rfl | rfl | hx <;> simp [*])⟩

theorem rrow_c {most : Int} (hw : Mem S σ ρ w) (hu : Upd (rdI 188 p s) (rdI 188 p (s.row most)) σ τ) (hv : bytesD s.v s.l ∈ ρ) (hl : s.l.length ≤ lots) (hmost : 0 ≤ most ∧ most ≤ 9223372036854775807) : Calls Try.prog 130 #[.pointer (some ⟨p, 0, none⟩), .int .i64 most] w fun e w' => ∃ r, e = .returned r ∧ Mem S τ (bytesD r (s.rowOut most) :: bytesD (s.row most).v (s.row most).l :: ρ) w' := by
  by_cases he : (s.fixed 4).e = 0
  · by_cases hm : most < s.num 4
    · have e1 : s.row most = (s.fixed 4).fail 3 := by simp [Rd.row, he, hm]
      have e2 : s.rowOut most = [] := by simp [Rd.rowOut, hm]
      rw [e1] at hu ⊢
      rw [e2]
      obtain ⟨υ, h1, h2⟩ := upd_via (y := rdI 188 p (s.fixed 4)) hu
      exact rrow_b hw h1 h2 hv hl hmost he hm
    · have e1 : s.row most = (s.fixed 4).fixed (s.num 4) := by simp [Rd.row, he, hm]
      have e2 : s.rowOut most = (s.fixed 4).out (s.num 4) := by simp [Rd.rowOut, he, hm]
      rw [e1] at hu ⊢
      rw [e2]
      obtain ⟨υ, h1, h2⟩ := upd_via (y := rdI 188 p (s.fixed 4)) hu
      exact rrow_d hw h1 h2 hv hl hmost he hm
  · have e1 : s.row most = s.fixed 4 := by simp [Rd.row, he]
    have e2 : s.rowOut most = [] := by simp [Rd.rowOut, he]
    rw [e1] at hu ⊢
    rw [e2]
    exact rrow_a hw hu hv hl hmost he

theorem rend_c (hw : Mem S σ ρ w) (hb : rdI 188 p s ∈ σ) (hv : bytesD s.v s.l ∈ ρ) : Calls Try.prog 131 #[.pointer (some ⟨p, 0, none⟩)] w fun e w' => e = .returned (.int .i64 s.end_) ∧ Mem S σ ρ w' := by
  have hsv := (hw.data hv).shape
  obtain ⟨v, l, e⟩ := s
  obtain ⟨A, c, hsv, hs1, hs2, hs3⟩ := hsv
  dsimp only at hsv
  subst hsv
  have hnil : l = [] ↔ l.length = 0 := List.length_eq_zero_iff.symm
  refine calls_of [.pointer (some ⟨p, 0, none⟩)] Try.func131 rfl Try.ntmps131 rfl (Mem S σ ρ) hw ?_
  refine SC.seq (SC.region ?_)
  refine SL.val (Val.assign rfl) rfl rfl ?_
  refine SL.nil (SE.seq ?_)
  refine SC.seq ?_
  refine SC.seq (SC.region ?_)
  refine SL.val (Val.move rfl) rfl rfl ?_
  refine SL.val (Val.nilCheck rfl) rfl rfl ?_
  refine SL.val (Val.fieldAddr tabOk rfl rfl rfl rfl rfl) rfl rfl ?_
  first
    | refine SL.val (Val.load1 tabOk rfl rfl (by repeat (first | assumption | exact List.mem_cons_self | exact hmem _ | apply List.mem_cons_of_mem)) (by rfl)) rfl rfl ?_
    | refine SL.val (Val.load1C tabOk rfl rfl (by assumption)) rfl rfl ?_
  refine SL.val (Val.eqI rfl rfl) rfl rfl ?_
  refine SL.val (Val.move rfl) rfl rfl ?_
  refine SL.bothP (t := 8) rfl ?_ ?_
  rotate_left
  · intro hc8
    iterate 6 refine SL.skip rfl rfl ?_
    refine SL.val (Val.pickF rfl rfl) rfl rfl ?_
    refine SL.nil (SE.seq ?_)
    refine SC.condF rfl ?_
    refine SC.skip ?_
    refine SE.seq ?_
    refine SC.seq (SC.region ?_)
    refine SL.val (Val.move rfl) rfl rfl ?_
    refine SL.val (Val.nilCheck rfl) rfl rfl ?_
    refine SL.val (Val.fieldAddr tabOk rfl rfl rfl rfl rfl) rfl rfl ?_
    first
      | refine SL.val (Val.load1 tabOk rfl rfl (by repeat (first | assumption | exact List.mem_cons_self | exact hmem _ | apply List.mem_cons_of_mem)) (by rfl)) rfl rfl ?_
      | refine SL.val (Val.load1C tabOk rfl rfl (by assumption)) rfl rfl ?_
    refine SL.val (Val.assign rfl) rfl rfl ?_
    refine SL.nil (SE.seq ?_)
    refine SC.ret ?_
    refine SE.ret1 rfl rfl ?_
    intro w' hw'
    refine ⟨?_, hw'⟩
    dsimp only at *
    simp only [Rd.end_, Ne, hnil]
    first
      | (rw [if_pos (by constructor <;> omega)]; done)
      | (rw [if_neg (by omega)]; done)
  intro hc8
  refine SL.val (Val.move rfl) rfl rfl ?_
  refine SL.val (Val.nilCheck rfl) rfl rfl ?_
  refine SL.val (Val.fieldAddr tabOk rfl rfl rfl rfl rfl) rfl rfl ?_
  first
    | refine SL.val (Val.load1 tabOk rfl rfl (by repeat (first | assumption | exact List.mem_cons_self | exact hmem _ | apply List.mem_cons_of_mem)) (by rfl)) rfl rfl ?_
    | refine SL.val (Val.load1C tabOk rfl rfl (by assumption)) rfl rfl ?_
  refine SL.val (Val.lenSl rfl Try.underlying34) rfl rfl ?_
  refine SL.val (Val.gtI rfl rfl) rfl rfl ?_
  refine SL.val (Val.pickT rfl rfl) rfl rfl ?_
  refine SL.nil (SE.seq ?_)
  refine SC.condP rfl ?_ ?_
  · intro hc15
    refine SC.seq (SC.region ?_)
    refine SL.val (Val.assign rfl) rfl rfl ?_
    refine SL.nil (SE.seq ?_)
    refine SC.ret ?_
    refine SE.then_ (by intro h; cases h) ?_
    refine SE.ret1 rfl rfl ?_
    intro w' hw'
    refine ⟨?_, hw'⟩
    dsimp only at *
    simp only [Rd.end_, Ne, hnil]
    first
      | (rw [if_pos (by constructor <;> omega)]; done)
      | (rw [if_neg (by omega)]; done)
  intro hc15
  refine SC.skip ?_
  refine SE.seq ?_
  refine SC.seq (SC.region ?_)
  refine SL.val (Val.move rfl) rfl rfl ?_
  refine SL.val (Val.nilCheck rfl) rfl rfl ?_
  refine SL.val (Val.fieldAddr tabOk rfl rfl rfl rfl rfl) rfl rfl ?_
  first
    | refine SL.val (Val.load1 tabOk rfl rfl (by repeat (first | assumption | exact List.mem_cons_self | exact hmem _ | apply List.mem_cons_of_mem)) (by rfl)) rfl rfl ?_
    | refine SL.val (Val.load1C tabOk rfl rfl (by assumption)) rfl rfl ?_
  refine SL.val (Val.assign rfl) rfl rfl ?_
  refine SL.nil (SE.seq ?_)
  refine SC.ret ?_
  refine SE.ret1 rfl rfl ?_
  intro w' hw'
  refine ⟨?_, hw'⟩
  dsimp only at *
  simp only [Rd.end_, Ne, hnil]
  first
    | (rw [if_pos (by constructor <;> omega)]; done)
    | (rw [if_neg (by omega)]; done)
end
end Go.Proofs.Ytpgffckfbgfgcaa
