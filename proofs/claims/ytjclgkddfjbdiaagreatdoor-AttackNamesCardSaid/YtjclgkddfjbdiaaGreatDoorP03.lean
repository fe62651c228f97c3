/-
  Packed out of the texts: OctDo, OctPut, EngStr, EngFace, A1, A2.
-/
import Derived.Test.YtjclgkddfjbdiaaGreatDoorP02
import Derived.Lib.ConvBytes
import Derived.Laws.BytesArg
import Derived.DeepKeys4
import Derived.Laws.CopyOwn
import Derived.Laws.RangeString
set_option maxRecDepth 100000
set_option linter.unusedSimpArgs false
set_option linter.unusedVariables false
namespace Go.Proofs.YtjclgkddfjbdiaaGreatDoor
open Go.RowKit
section
variable {S : List (World × List Nat)} {σ τ : Blks} {ρ : List Dt} {w : World} {p : Nat} {s : Rd}
theorem own_of {K : List Nat} {w w' : World} {r : Value} {l : List UInt8} (h : OwnB w' w.heap.size r l) (hK : ∀ k ∈ K, k < w.heap.size) : IsRow K w' r l.length (l.map bc) :=
  gL_ h.bytes fun b off n c hv _ hk => by
    subst hv
    have := (h.block b rfl).1
    have := hK b hk
    omega
theorem Mem.small (h : Mem S σ ρ w) : ∀ k ∈ σ.flatMap It.ids, k < w.heap.size := fun k hk => by
  obtain ⟨z, hz, hk⟩ := List.mem_flatMap.1 hk
  exact h.lt hz k hk
theorem Mem.bytes {v : Value} {l : List UInt8} (h : Mem S σ ρ w) (hb : bytesD v l ∈ ρ) : BytesV w v l := eh_ (h.data hb)
theorem Mem.owned {w' : World} {r : Value} {l : List UInt8} (h : Mem S σ ρ w) (hx : Ext [] w w') (ho : OwnB w' w.heap.size r l) : Mem S (.pc (ownPc 5 1 r l.length (l.map bc)) :: σ) ρ w' :=
  h.new hx (ho.mono (Nat.zero_le _)) gC_ fun k hk => by
    have hk' : r.ownBlock = some k := by simpa [It.ids, ownPc] using hk
    exact (ho.block k hk').1
theorem jB_ {v : Value} {l : List UInt8} (hw : Mem S σ ρ w) (hb : BytesV w v l) (hl : l.length ≤ lots) : Calls Tryz.prog 74 #[v] w fun e w' => ∃ r, e = .returned r ∧ Mem S σ (bytesD r l :: ρ) w' :=
  (fy_ w v l hb (by unfold lots at hl; omega)).mono fun e w' ⟨r, h1, h2, h3⟩ => ⟨r, h1, (hw.same h3).add (own_of h2 hw.small)⟩
theorem gy_ {v : Value} {l : List UInt8} {x : Nat} {n : Int} (hw : Mem S σ ρ w) (hb : BytesV w v l) (hl : l.length ≤ lots) (hx : x < 18446744073709551616) (hn : sizeB n = true) :
    Calls Tryz.prog 93 #[v, .int .u64 x, .int .i64 n] w fun e w' => ∃ r, e = .returned r ∧ Mem S (.pc (ownPc 5 1 r (l ++ beBytes x n.toNat).length ((l ++ beBytes x n.toNat).map bc)) :: σ) ρ w' :=
  (eP_ w v l x hx n hb (by unfold lots at hl; omega) hn).mono fun e w' ⟨r, h1, h2, h3⟩ => ⟨r, h1, hw.owned h3 h2⟩
theorem gz_ {v : Value} {l : List UInt8} {x : Nat} {n : Int} (hw : Mem S σ ρ w) (hb : BytesV w v l) (hl : l.length ≤ lots) (hx : x < 18446744073709551616) (hn : sizeB n = true) :
    Calls Tryz.prog 93 #[v, .int .u64 x, .int .i64 n] w fun e w' => ∃ r, e = .returned r ∧ Mem S σ (bytesD r (l ++ beBytes x n.toNat) :: ρ) w' :=
  (gy_ hw hb hl hx hn).mono fun _ _ ⟨r, h1, h2⟩ => ⟨r, h1, h2.freeze⟩
theorem ok_c (hw : Mem S σ ρ w) (hb : rdI 435 p s ∈ σ) : Calls Tryz.prog 305 #[.pointer (some ⟨p, 0, none⟩)] w fun e w' => e = .returned (.bool (decide (s.e = 0))) ∧ Mem S σ ρ w' := by
  refine au_ [.pointer (some ⟨p, 0, none⟩)] Tryz.func305 rfl Tryz.ntmps305 rfl (Mem S σ ρ) hw ?_
  refine c_ (a_ ?_)
  refine d_ (l_ rfl) rfl rfl ?_
  refine g_ (b_ ?_)
  refine c_ (a_ ?_)
  refine d_ (r_ rfl) rfl rfl ?_
  refine d_ (bz_ rfl rfl (by kernel_rfl)) rfl rfl ?_
  iterate 2 refine d_ (r_ rfl) rfl rfl ?_
  refine d_ (an_ rfl) rfl rfl ?_
  refine d_ (G_ tabOk rfl rfl rfl rfl rfl) rfl rfl ?_
  refine d_ (h_ tabOk rfl rfl (by repeat (first | assumption | exact List.mem_cons_self | exact hmem _ | apply List.mem_cons_of_mem)) (by rfl)) rfl rfl ?_
  refine d_ (dv_ rfl rfl) rfl rfl ?_
  refine d_ (U_ rfl rfl) rfl rfl ?_
  refine d_ (l_ rfl) rfl rfl ?_
  refine g_ (b_ ?_)
  refine o_ ?_
  refine Z_ rfl rfl ?_
  intro w' hw'; exact ⟨rfl, hw'⟩
theorem hy_ {x : Int} (hw : Mem S σ ρ w) (hu : Upd (rdI 435 p s) (rdI 435 p (s.fail x)) σ τ) (he : s.e = 0) : Calls Tryz.prog 306 #[.pointer (some ⟨p, 0, none⟩), .int .i64 x] w fun e w' => e = .returned (.tuple #[]) ∧ Mem S τ ρ w' := by
  have hb := hu.mem
  refine au_ [.pointer (some ⟨p, 0, none⟩), .int .i64 x] Tryz.func306 rfl Tryz.ntmps306 rfl (Mem S σ ρ) hw ?_
  refine c_ (a_ ?_)
  refine d_ (r_ rfl) rfl rfl ?_
  refine d_ (an_ rfl) rfl rfl ?_
  refine d_ (G_ tabOk rfl rfl rfl rfl rfl) rfl rfl ?_
  refine d_ (h_ tabOk rfl rfl (by repeat (first | assumption | exact List.mem_cons_self | exact hmem _ | apply List.mem_cons_of_mem)) (by rfl)) rfl rfl ?_
  refine d_ (dv_ rfl rfl) rfl rfl ?_
  refine g_ (b_ ?_)
  refine n_ rfl ?_ (by intro hc8; exfalso; omega)
  intro hc8
  refine a_ ?_
  iterate 2 refine d_ (r_ rfl) rfl rfl ?_
  refine d_ (an_ rfl) rfl rfl ?_
  refine d_ (G_ tabOk rfl rfl rfl rfl rfl) rfl rfl ?_
  refine aT_ (e1_ tabOk rfl rfl rfl rfl rfl (by repeat (first | assumption | exact Upd.here | exact hrep _ _ | apply Upd.there)) (by rfl) (by rfl)) rfl rfl ?_
  rintro _ _ ⟨rfl, rfl⟩
  refine g_ ?_
  refine SE.done (rs := []) rfl RV.nil ?_
  intro w' hw'; exact ⟨rfl, hw'⟩
set_option maxHeartbeats 400000 in
theorem fixed_a {n : Int} (hw : Mem S σ ρ w) (hb : rdI 435 p s ∈ σ) (hv : bytesD s.v s.l ∈ ρ) (he : s.e ≠ 0) : Calls Tryz.prog 228 #[.pointer (some ⟨p, 0, none⟩), .int .i64 n] w fun e w' => ∃ r, e = .returned r ∧ Mem S σ (bytesD r [] :: bytesD s.v s.l :: ρ) w' := by
  refine au_ [.pointer (some ⟨p, 0, none⟩), .int .i64 n] Tryz.func228 rfl Tryz.ntmps228 rfl (Mem S σ ρ) hw ?_
  refine c_ (a_ ?_)
  refine d_ (l_ rfl) rfl rfl ?_
  refine g_ (b_ ?_)
  refine c_ ?_
  refine w_ ?_
  refine c_ (a_ ?_)
  refine d_ (r_ rfl) rfl rfl ?_
  refine m_ (by kernel_rfl) rfl rfl rfl ?_
  intro w hw
  refine (ok_c (s := s) hw (by repeat (first | assumption | exact List.mem_cons_self | exact hmem _ | apply List.mem_cons_of_mem))).mono ?_; rintro _ _ ⟨rfl, hm⟩; refine ⟨_, _, rfl, hm, ?_⟩; clear hm hw w
  refine d_ (bG_ rfl) rfl rfl ?_
  refine d_ (l_ rfl) rfl rfl ?_
  refine g_ (b_ ?_)
  refine n_ rfl ?_ (by intro hc6; exfalso; omega)
  intro hc6
  refine c_ (a_ ?_)
  refine d_ (l_ rfl) rfl rfl ?_
  refine g_ (b_ ?_)
  refine o_ ?_
  refine aF_ ?_
  refine k_ (by intro h; cases h) ?_
  refine Z_ rfl rfl ?_
  intro w' hw'
  exact ⟨_, rfl, (hw'.add (z := bytesD _ _) (hw'.data hv)).add (z := bytesD (.slice none 0 0) []) (IsRow.nil rfl)⟩
set_option maxHeartbeats 400000 in
theorem fixed_b {n : Int} (hw : Mem S σ ρ w) (hu : Upd (rdI 435 p s) (rdI 435 p (s.fail 2)) σ τ) (hv : bytesD s.v s.l ∈ ρ) (he : s.e = 0) (hn : s.bad n) : Calls Tryz.prog 228 #[.pointer (some ⟨p, 0, none⟩), .int .i64 n] w fun e w' => ∃ r, e = .returned r ∧ Mem S τ (bytesD r [] :: bytesD s.v s.l :: ρ) w' := by
  have hb := hu.mem
  have hb2 := hu.mem'
  have hsv := (hw.data hv).shape
  obtain ⟨v, l, e⟩ := s
  obtain ⟨A, c, hsv, hs1, hs2, hs3⟩ := hsv
  dsimp only at hsv
  subst hsv
  unfold Rd.bad at hn
  dsimp only [Rd.fail] at *
  refine au_ [.pointer (some ⟨p, 0, none⟩), .int .i64 n] Tryz.func228 rfl Tryz.ntmps228 rfl (Mem S σ ρ) hw ?_
  refine c_ (a_ ?_)
  refine d_ (l_ rfl) rfl rfl ?_
  refine g_ (b_ ?_)
  refine c_ ?_
  refine w_ ?_
  refine c_ (a_ ?_)
  refine d_ (r_ rfl) rfl rfl ?_
  refine m_ (by kernel_rfl) rfl rfl rfl ?_
  intro w hw
  refine (ok_c (s := ⟨.slice A l.length c, l, e⟩) hw (by repeat (first | assumption | exact List.mem_cons_self | exact hmem _ | apply List.mem_cons_of_mem))).mono ?_; rintro _ _ ⟨rfl, hm⟩; refine ⟨_, _, rfl, hm, ?_⟩; clear hm hw w
  refine d_ (bG_ rfl) rfl rfl ?_
  refine d_ (l_ rfl) rfl rfl ?_
  refine g_ (b_ ?_)
  refine n_ rfl (by intro hc6; exfalso; exact hc6 he) ?_
  intro hc6
  refine c_ (a_ ?_)
  refine d_ (r_ rfl) rfl rfl ?_
  refine d_ (bi_ rfl rfl) rfl rfl ?_
  refine d_ (r_ rfl) rfl rfl ?_
  refine D_ (t := 13) rfl ?_ ?_
  · intro hc13
    iterate 7 refine aD_ rfl rfl ?_
    refine d_ (U_ rfl rfl) rfl rfl ?_
    refine d_ (l_ rfl) rfl rfl ?_
    refine g_ (b_ ?_)
    refine ab_ rfl ?_
    refine c_ (a_ ?_)
    refine d_ (r_ rfl) rfl rfl ?_
    refine m_ (by kernel_rfl) rfl rfl rfl ?_
    intro w hw
    refine (hy_ (s := ⟨.slice A l.length c, l, e⟩) hw (by repeat (first | assumption | exact Upd.here | exact hrep _ _ | apply Upd.there)) he).mono ?_; rintro _ _ ⟨rfl, hm⟩; refine ⟨_, _, rfl, hm, ?_⟩; clear hm hw w
    refine g_ (b_ ?_)
    refine c_ (a_ ?_)
    refine d_ (l_ rfl) rfl rfl ?_
    refine g_ (b_ ?_)
    refine o_ ?_
    refine aF_ ?_
    refine k_ (by intro h; cases h) ?_
    refine Z_ rfl rfl ?_
    intro w' hw'
    exact ⟨_, rfl, (hw'.add (z := bytesD _ _) (hw'.data hv)).add (z := bytesD (.slice none 0 0) []) (IsRow.nil rfl)⟩
  intro hc13
  iterate 2 refine d_ (r_ rfl) rfl rfl ?_
  refine d_ (an_ rfl) rfl rfl ?_
  refine d_ (G_ tabOk rfl rfl rfl rfl rfl) rfl rfl ?_
  refine d_ (h_ tabOk rfl rfl (by repeat (first | assumption | exact List.mem_cons_self | exact hmem _ | apply List.mem_cons_of_mem)) (by rfl)) rfl rfl ?_
  refine d_ (P_ rfl Tryz.underlying39) rfl rfl ?_
  refine d_ (a1_ rfl rfl) rfl rfl ?_
  refine d_ (aj_ rfl rfl) rfl rfl ?_
  refine d_ (l_ rfl) rfl rfl ?_
  refine g_ (b_ ?_)
  refine n_ rfl ?_ (by intro hc10; exfalso; omega)
  intro hc10
  refine c_ (a_ ?_)
  refine d_ (r_ rfl) rfl rfl ?_
  refine m_ (by kernel_rfl) rfl rfl rfl ?_
  intro w hw
  refine (hy_ (s := ⟨.slice A l.length c, l, e⟩) hw (by repeat (first | assumption | exact Upd.here | exact hrep _ _ | apply Upd.there)) he).mono ?_; rintro _ _ ⟨rfl, hm⟩; refine ⟨_, _, rfl, hm, ?_⟩; clear hm hw w
  refine g_ (b_ ?_)
  refine c_ (a_ ?_)
  refine d_ (l_ rfl) rfl rfl ?_
  refine g_ (b_ ?_)
  refine o_ ?_
  refine aF_ ?_
  refine k_ (by intro h; cases h) ?_
  refine Z_ rfl rfl ?_
  intro w' hw'
  exact ⟨_, rfl, (hw'.add (z := bytesD _ _) (hw'.data hv)).add (z := bytesD (.slice none 0 0) []) (IsRow.nil rfl)⟩
set_option maxHeartbeats 400000 in
theorem fixed_c' {n : Nat} (hw : Mem S σ ρ w) (hu : Upd (rdI 435 p s) (rdI 435 p ⟨tailV s.v n, s.l.drop n, 0⟩) σ τ) (hv : bytesD s.v s.l ∈ ρ) (hl : s.l.length ≤ lots) (he : s.e = 0) (hn : n ≤ s.l.length) : Calls Tryz.prog 228 #[.pointer (some ⟨p, 0, none⟩), .int .i64 n] w fun e w' => ∃ r, e = .returned r ∧ Mem S τ (bytesD r (s.l.take n) :: bytesD (tailV s.v n) (s.l.drop n) :: ρ) w' := by
  have hb := hu.mem
  have hb2 := hu.mem'
  have hsv := (hw.data hv).shape
  obtain ⟨v, l, e⟩ := s
  obtain ⟨A, c, hsv, hs1, hs2, hs3⟩ := hsv
  dsimp only at hsv
  subst hsv
  dsimp only at he
  subst he
  dsimp only at *
  refine au_ [.pointer (some ⟨p, 0, none⟩), .int .i64 n] Tryz.func228 rfl Tryz.ntmps228 rfl (Mem S σ ρ) hw ?_
  refine c_ (a_ ?_)
  refine d_ (l_ rfl) rfl rfl ?_
  refine g_ (b_ ?_)
  refine c_ ?_
  refine w_ ?_
  refine c_ (a_ ?_)
  refine d_ (r_ rfl) rfl rfl ?_
  refine m_ (by kernel_rfl) rfl rfl rfl ?_
  intro w hw
  refine (ok_c (s := ⟨.slice A l.length c, l, 0⟩) hw (by repeat (first | assumption | exact List.mem_cons_self | exact hmem _ | apply List.mem_cons_of_mem))).mono ?_; rintro _ _ ⟨rfl, hm⟩; refine ⟨_, _, rfl, hm, ?_⟩; clear hm hw w
  refine d_ (bG_ rfl) rfl rfl ?_
  refine d_ (l_ rfl) rfl rfl ?_
  refine g_ (b_ ?_)
  refine n_ rfl (by intro hc6; exfalso; simp at hc6) ?_
  intro hc6
  refine c_ (a_ ?_)
  refine d_ (r_ rfl) rfl rfl ?_
  refine d_ (bi_ rfl rfl) rfl rfl ?_
  refine d_ (r_ rfl) rfl rfl ?_
  refine D_ (t := 13) rfl (by intro hc13; exfalso; omega) ?_
  intro hc13
  iterate 2 refine d_ (r_ rfl) rfl rfl ?_
  refine d_ (an_ rfl) rfl rfl ?_
  refine d_ (G_ tabOk rfl rfl rfl rfl rfl) rfl rfl ?_
  refine d_ (h_ tabOk rfl rfl (by repeat (first | assumption | exact List.mem_cons_self | exact hmem _ | apply List.mem_cons_of_mem)) (by rfl)) rfl rfl ?_
  refine d_ (P_ rfl Tryz.underlying39) rfl rfl ?_
  refine d_ (a1_ rfl rfl) rfl rfl ?_
  refine d_ (aj_ rfl rfl) rfl rfl ?_
  refine d_ (l_ rfl) rfl rfl ?_
  refine g_ (b_ ?_)
  refine n_ rfl (by intro hc10; exfalso; omega) ?_
  intro hc10
  refine s_ ?_
  refine A_ ?_
  refine b_ ?_
  refine c_ (a_ ?_)
  refine d_ (r_ rfl) rfl rfl ?_
  refine d_ (an_ rfl) rfl rfl ?_
  refine d_ (G_ tabOk rfl rfl rfl rfl rfl) rfl rfl ?_
  refine d_ (h_ tabOk rfl rfl (by repeat (first | assumption | exact List.mem_cons_self | exact hmem _ | apply List.mem_cons_of_mem)) (by rfl)) rfl rfl ?_
  iterate 2 refine d_ (r_ rfl) rfl rfl ?_
  refine d_ (eF_ (q := n) tabOk Tryz.underlying39 rfl rfl rfl rfl rfl hn hs1) rfl rfl ?_
  refine m_ (by kernel_rfl) rfl rfl rfl ?_
  intro w hw
  refine (jB_ (l := l.take n) hw (eh_ (IsRow.head (hw.data hv) hn n (Nat.le_refl _) (by omega))) (by rw [List.length_take]; omega)).mono ?_; rintro _ _ ⟨r, rfl, hm⟩; refine ⟨_, _, rfl, hm, ?_⟩; clear hm hw w
  refine d_ (l_ rfl) rfl rfl ?_
  refine g_ (b_ ?_)
  refine c_ (a_ ?_)
  iterate 2 refine d_ (r_ rfl) rfl rfl ?_
  refine d_ (an_ rfl) rfl rfl ?_
  refine d_ (G_ tabOk rfl rfl rfl rfl rfl) rfl rfl ?_
  refine d_ (h_ tabOk rfl rfl (by repeat (first | assumption | exact List.mem_cons_self | exact hmem _ | apply List.mem_cons_of_mem)) (by rfl)) rfl rfl ?_
  refine d_ (r_ rfl) rfl rfl ?_
  refine d_ (eu_ (q := n) tabOk Tryz.underlying39 rfl rfl rfl rfl rfl hn) rfl rfl ?_
  refine d_ (an_ rfl) rfl rfl ?_
  refine d_ (G_ tabOk rfl rfl rfl rfl rfl) rfl rfl ?_
  refine aT_ (e1_ tabOk rfl rfl rfl rfl rfl (by repeat (first | assumption | exact Upd.here | exact hrep _ _ | apply Upd.there)) (by rfl) (by rfl)) rfl rfl ?_
  rintro _ _ ⟨rfl, rfl⟩
  refine g_ (b_ ?_)
  refine c_ (a_ ?_)
  refine d_ (r_ rfl) rfl rfl ?_
  refine d_ (l_ rfl) rfl rfl ?_
  refine g_ (b_ ?_)
  refine o_ ?_
  refine Z_ rfl rfl ?_
  intro w' hw'
  exact ⟨_, rfl, (hw'.add (z := bytesD _ _) (IsRow.tail (l := l) (hw'.data (z := bytesD _ l) (List.mem_cons_of_mem _ hv)) hn)).less (by intro x hx; simp only [List.mem_cons] at hx ⊢; rcases hx with rfl | rfl | hx <;> simp [*])⟩
theorem gG_ {n : Int} (hw : Mem S σ ρ w) (hu : Upd (rdI 435 p s) (rdI 435 p (s.fixed n)) σ τ) (hv : bytesD s.v s.l ∈ ρ) (hl : s.l.length ≤ lots) : Calls Tryz.prog 228 #[.pointer (some ⟨p, 0, none⟩), .int .i64 n] w fun e w' => ∃ r, e = .returned r ∧ Mem S τ (bytesD r (s.out n) :: bytesD (s.fixed n).v (s.fixed n).l :: ρ) w' := by
  by_cases he : s.e = 0
  · by_cases hn : s.bad n
    · have e1 : s.fixed n = s.fail 2 := by simp [Rd.fixed, he, hn, Rd.fail]
      have e2 : s.out n = [] := by simp [Rd.out, hn]
      rw [e1] at hu ⊢
      rw [e2]
      exact fixed_b (s := s) hw hu hv he hn
    · have e1 : s.fixed n = ⟨tailV s.v n.toNat, s.l.drop n.toNat, 0⟩ := by simp [Rd.fixed, he, hn]
      have e2 : s.out n = s.l.take n.toNat := by simp [Rd.out, he, hn]
      rw [e1] at hu ⊢
      rw [e2]
      unfold Rd.bad at hn
      obtain ⟨k, rfl⟩ : ∃ k : Nat, n = k := ⟨n.toNat, by omega⟩
      exact fixed_c' (s := s) hw hu hv hl he (by omega)
  · have e1 : s.fixed n = s := by simp [Rd.fixed, he]
    have e2 : s.out n = [] := by simp [Rd.out, he]
    rw [e1] at hu ⊢
    rw [e2, dH_ hu]
    exact fixed_a (s := s) hw hu.mem hv he
set_option maxHeartbeats 400000 in
theorem cm_ {n : Int} (hw : Mem S σ ρ w) (hu : Upd (rdI 435 p s) (rdI 435 p (s.fixed n)) σ τ) (hv : bytesD s.v s.l ∈ ρ) (hl : s.l.length ≤ lots) (hn : sizeB n = true) : Calls Tryz.prog 226 #[.pointer (some ⟨p, 0, none⟩), .int .i64 n] w fun e w' => e = .returned (.int .u64 (s.num n : Nat)) ∧ Mem S τ (bytesD (s.fixed n).v (s.fixed n).l :: ρ) w' := by
  have hb := hu.mem
  have h8 : (s.out n).length ≤ 8 := Nat.le_trans (s.out_length n) (sizeB_le hn).2
  unfold Rd.num
  refine au_ [.pointer (some ⟨p, 0, none⟩), .int .i64 n] Tryz.func226 rfl Tryz.ntmps226 rfl (Mem S σ ρ) hw ?_
  refine c_ (a_ ?_)
  refine d_ (l_ rfl) rfl rfl ?_
  refine g_ (b_ ?_)
  refine c_ ?_
  refine j3_ (ι := Unit) (fun _ => [(0, .pointer (some ⟨p, 0, none⟩)), (1, .int .i64 n), (14, .bool false)]) (fun _ => Mem S σ ρ) ?_ ?_
  · skip
    refine a_ ?_
    refine d_ (r_ rfl) rfl rfl ?_
    refine m_ (by kernel_rfl) rfl rfl rfl ?_
    intro w hw
    refine (ok_c (s := s) hw (by repeat (first | assumption | exact List.mem_cons_self | exact hmem _ | apply List.mem_cons_of_mem))).mono ?_; rintro _ _ ⟨rfl, hm⟩; refine ⟨_, _, rfl, hm, ?_⟩; clear hm hw w
    refine d_ (r_ rfl) rfl rfl ?_
    refine D_ (t := 10) rfl ?_ ?_
    rotate_left
    · intro hc10
      iterate 3 refine aD_ rfl rfl ?_
      refine d_ (aj_ rfl rfl) rfl rfl ?_
      refine g_ ?_
      exact R_ () (by exact ⟨rfl, rfl, rfl, trivial⟩) (fun _ h => h)
    intro hc10
    refine d_ (r_ rfl) rfl rfl ?_
    refine m_ (by kernel_rfl) rfl rfl rfl ?_
    intro w hw
    refine (d9_ n true hn w).mono ?_; rintro _ _ ⟨rfl, rfl⟩; refine ⟨_, _, rfl, hw, ?_⟩; clear hw w
    refine d_ (bb_ rfl) rfl rfl ?_
    refine d_ (U_ rfl rfl) rfl rfl ?_
    refine g_ ?_
    exact R_ () (by exact ⟨rfl, rfl, rfl, trivial⟩) (fun _ h => h)
  · intro _
    refine I_ rfl ?_
    refine s_ ?_
    refine b_ ?_
    refine c_ (a_ ?_)
    refine d_ (l_ rfl) rfl rfl ?_
    refine g_ (b_ ?_)
    refine c_ ?_
    refine c_ (a_ ?_)
    iterate 2 refine d_ (r_ rfl) rfl rfl ?_
    refine m_ (by kernel_rfl) rfl rfl rfl ?_
    intro w hw
    refine (gG_ (s := s) hw hu hv hl).mono ?_; rintro _ _ ⟨r, rfl, hm⟩; obtain ⟨A, c, rfl, h1, h2, h3⟩ := (hm.data List.mem_cons_self).shape; have hA : s.out n ≠ [] → ∃ b off, A = some ⟨b, off, none⟩ := fun h => row_at (hm.data List.mem_cons_self) (by simpa using h); refine ⟨_, _, rfl, hm, ?_⟩; clear hm hw w
    refine d_ (P_ rfl Tryz.underlying39) rfl rfl ?_
    refine d_ (r_ rfl) rfl rfl ?_
    refine g_ (b_ ?_)
    refine w_ ?_
    refine S_ (ι := Nat) (fun k => [(5, .int .u64 (beVal ((s.out n).take k) : Nat)), (19, .slice A (s.out n).length c), (20, .int .i64 ((s.out n).length : Nat)), (21, .int .i64 (k : Nat))]) (fun k w' => k ≤ (s.out n).length ∧ Mem S τ (bytesD (.slice A (s.out n).length c) (s.out n) :: bytesD (s.fixed n).v (s.fixed n).l :: ρ) w') (fun k => (s.out n).length - k) 0 (by exact ⟨rfl, rfl, rfl, rfl, trivial⟩) (fun w' hw' => ⟨Nat.zero_le _, hw'⟩) ?_
    intro k
    refine dQ_ ?_
    intro hk
    refine c_ (a_ ?_)
    refine d_ (bi_ rfl rfl) rfl rfl ?_
    refine g_ (b_ ?_)
    refine c_ ?_
    refine n_ rfl ?_ ?_
    rotate_left
    · intro hc22
      refine O_ ?_
      refine k_ (by intro h; cases h) ?_
      refine k_ (by intro h; cases h) ?_
      refine N_ ?_
      refine b_ ?_
      refine c_ (a_ ?_)
      refine d_ (r_ rfl) rfl rfl ?_
      refine d_ (l_ rfl) rfl rfl ?_
      refine g_ (b_ ?_)
      refine o_ ?_
      refine Z_ rfl rfl ?_
      intro w' hw'
      have hk2 : k = (s.out n).length := by omega
      subst hk2
      rw [List.take_of_length_le (Nat.le_refl _)]
      exact ⟨rfl, hw'.less (fun x hx => List.mem_cons_of_mem _ hx)⟩
    intro hc22
    have hlt : k < (s.out n).length := by omega
    have hb := ib_ (s.out n) k hlt h8
    have hc := ((s.out n)[k]'hlt).toNat_lt
    obtain ⟨bb, off, rfl⟩ := hA (by intro h0; rw [h0] at hlt; simp at hlt)
    refine s_ ?_
    refine b_ ?_
    refine c_ ?_
    refine w_ ?_
    refine c_ (a_ ?_)
    refine d_ (f9_ tabOk Tryz.underlying39 rfl rfl rfl (by omega)) rfl rfl ?_
    refine d_ (ii_ (u := bc ((s.out n)[k]'hlt)) tabOk rfl rfl (by repeat (first | assumption | exact List.mem_cons_self | exact hmem _ | apply List.mem_cons_of_mem)) (by show ((s.out n).map bc)[k * 1]? = _; rw [Nat.mul_one, List.getElem?_map, List.getElem?_eq_getElem hlt]; rfl)) rfl rfl ?_
    refine d_ (l_ rfl) rfl rfl ?_
    refine g_ (b_ ?_)
    refine a_ ?_
    refine d_ (r_ rfl) rfl rfl ?_
    refine d_ (Val.shl8 rfl rfl hb) rfl rfl ?_
    refine d_ (r_ rfl) rfl rfl ?_
    refine d_ (aa_ rfl Tryz.underlying27 (by kernel_rfl) (by simp only [InR, lo, hi]; omega)) rfl rfl ?_
    refine d_ (jT_ rfl rfl hb hc) rfl rfl ?_
    refine d_ (l_ rfl) rfl rfl ?_
    refine g_ ?_
    refine A_ ?_
    refine b_ ?_
    refine a_ ?_
    refine d_ (E_ rfl rfl (by simp only [InR, lo, hi]; omega)) rfl rfl ?_
    refine d_ (r_ rfl) rfl rfl ?_
    refine g_ ?_
    exact J_ (k + 1) (by omega) (by exact ⟨by rw [hP_ _ _ hlt]; rfl, rfl, rfl, rfl, trivial⟩) (fun w' hw' => ⟨hlt, hw'⟩)
set_option maxHeartbeats 400000 in
theorem count_m {most : Int} {υ : Blks} (hw : Mem S σ ρ w) (hu1 : Upd (rdI 435 p s) (rdI 435 p (s.fixed 2)) σ υ) (hu2 : Upd (rdI 435 p (s.fixed 2)) (rdI 435 p ((s.fixed 2).fail 4)) υ τ) (hv : bytesD s.v s.l ∈ ρ) (hl : s.l.length ≤ lots) (he : (s.fixed 2).e = 0) (hm : most < s.num 2) : Calls Tryz.prog 227 #[.pointer (some ⟨p, 0, none⟩), .int .i64 most] w fun e w' => e = .returned (.int .i64 0) ∧ Mem S τ (bytesD (s.fixed 2).v (s.fixed 2).l :: ρ) w' := by
  have hlt := s.num_lt (n := 2) (k := 2) (Nat.le_refl _)
  have hm1 := hu1.mem'
  have hm2 := hu2.mem
  have hm3 := hu2.mem'
  refine au_ [.pointer (some ⟨p, 0, none⟩), .int .i64 most] Tryz.func227 rfl Tryz.ntmps227 rfl (Mem S σ ρ) hw ?_
  refine c_ (a_ ?_)
  refine d_ (l_ rfl) rfl rfl ?_
  refine g_ (b_ ?_)
  refine c_ (a_ ?_)
  refine d_ (r_ rfl) rfl rfl ?_
  refine m_ (by kernel_rfl) rfl rfl rfl ?_
  intro w hw
  refine (cm_ (s := s) hw hu1 hv hl rfl).mono ?_; rintro _ _ ⟨rfl, hm⟩; refine ⟨_, _, rfl, hm, ?_⟩; clear hm hw w
  refine d_ (aa_ rfl Tryz.underlying3 (by kernel_rfl) (by simp only [InR, lo, hi]; omega)) rfl rfl ?_
  refine d_ (l_ rfl) rfl rfl ?_
  refine g_ (b_ ?_)
  refine c_ ?_
  refine c_ (a_ ?_)
  refine d_ (r_ rfl) rfl rfl ?_
  refine m_ (by kernel_rfl) rfl rfl rfl ?_
  intro w hw
  refine (ok_c (s := s.fixed 2) hw (by repeat (first | assumption | exact List.mem_cons_self | exact hmem _ | apply List.mem_cons_of_mem))).mono ?_; rintro _ _ ⟨rfl, hm⟩; refine ⟨_, _, rfl, hm, ?_⟩; clear hm hw w
  refine d_ (r_ rfl) rfl rfl ?_
  refine D_ (t := 11) rfl ?_ (by intro hc11; exfalso; exact hc11 he)
  intro hc11
  iterate 2 refine d_ (r_ rfl) rfl rfl ?_
  refine d_ (a1_ rfl rfl) rfl rfl ?_
  refine d_ (U_ rfl rfl) rfl rfl ?_
  refine g_ (b_ ?_)
  refine n_ rfl ?_ (by intro hc15; exfalso; omega)
  intro hc15
  refine c_ (a_ ?_)
  refine d_ (r_ rfl) rfl rfl ?_
  refine m_ (by kernel_rfl) rfl rfl rfl ?_
  intro w hw
  refine (hy_ (s := s.fixed 2) (x := 4) hw hu2 he).mono ?_; rintro _ _ ⟨rfl, hm⟩; refine ⟨_, _, rfl, hm, ?_⟩; clear hm hw w
  refine g_ (b_ ?_)
  refine c_ (a_ ?_)
  refine d_ (l_ rfl) rfl rfl ?_
  refine g_ (b_ ?_)
  refine o_ ?_
  refine k_ (by intro h; cases h) ?_
  refine Z_ rfl rfl ?_
  intro w' hw'
  exact ⟨rfl, hw'⟩
set_option maxHeartbeats 400000 in
theorem count_l {most : Int} {υ : Blks} (hw : Mem S σ ρ w) (hu1 : Upd (rdI 435 p s) (rdI 435 p (s.fixed 2)) σ υ) (hv : bytesD s.v s.l ∈ ρ) (hl : s.l.length ≤ lots) (hn : ¬ ((s.fixed 2).e = 0 ∧ most < s.num 2)) (_h0 : (s.fixed 2).e ≠ 0 → s.num 2 = 0) : Calls Tryz.prog 227 #[.pointer (some ⟨p, 0, none⟩), .int .i64 most] w fun e w' => e = .returned (.int .i64 (s.num 2 : Nat)) ∧ Mem S υ (bytesD (s.fixed 2).v (s.fixed 2).l :: ρ) w' := by
  have hlt := s.num_lt (n := 2) (k := 2) (Nat.le_refl _)
  have hm1 := hu1.mem'
  refine au_ [.pointer (some ⟨p, 0, none⟩), .int .i64 most] Tryz.func227 rfl Tryz.ntmps227 rfl (Mem S σ ρ) hw ?_
  refine c_ (a_ ?_)
  refine d_ (l_ rfl) rfl rfl ?_
  refine g_ (b_ ?_)
  refine c_ (a_ ?_)
  refine d_ (r_ rfl) rfl rfl ?_
  refine m_ (by kernel_rfl) rfl rfl rfl ?_
  intro w hw
  refine (cm_ (s := s) hw hu1 hv hl rfl).mono ?_; rintro _ _ ⟨rfl, hm⟩; refine ⟨_, _, rfl, hm, ?_⟩; clear hm hw w
  refine d_ (aa_ rfl Tryz.underlying3 (by kernel_rfl) (by simp only [InR, lo, hi]; omega)) rfl rfl ?_
  refine d_ (l_ rfl) rfl rfl ?_
  refine g_ (b_ ?_)
  refine c_ ?_
  refine c_ (a_ ?_)
  refine d_ (r_ rfl) rfl rfl ?_
  refine m_ (by kernel_rfl) rfl rfl rfl ?_
  intro w hw
  refine (ok_c (s := s.fixed 2) hw (by repeat (first | assumption | exact List.mem_cons_self | exact hmem _ | apply List.mem_cons_of_mem))).mono ?_; rintro _ _ ⟨rfl, hm⟩; refine ⟨_, _, rfl, hm, ?_⟩; clear hm hw w
  refine d_ (r_ rfl) rfl rfl ?_
  refine D_ (t := 11) rfl ?_ ?_
  rotate_left
  · intro hc11
    iterate 3 refine aD_ rfl rfl ?_
    refine d_ (aj_ rfl rfl) rfl rfl ?_
    refine g_ (b_ ?_)
    refine I_ rfl ?_
    refine s_ ?_
    refine b_ ?_
    refine c_ (a_ ?_)
    refine d_ (r_ rfl) rfl rfl ?_
    refine d_ (l_ rfl) rfl rfl ?_
    refine g_ (b_ ?_)
    refine o_ ?_
    refine Z_ rfl rfl ?_
    intro w' hw'
    exact ⟨rfl, hw'⟩
  intro hc11
  iterate 2 refine d_ (r_ rfl) rfl rfl ?_
  refine d_ (a1_ rfl rfl) rfl rfl ?_
  refine d_ (U_ rfl rfl) rfl rfl ?_
  refine g_ (b_ ?_)
  refine n_ rfl (by intro hc15; exfalso; exact hn ⟨hc11, hc15⟩) ?_
  intro hc15
  refine s_ ?_
  refine b_ ?_
  refine c_ (a_ ?_)
  refine d_ (r_ rfl) rfl rfl ?_
  refine d_ (l_ rfl) rfl rfl ?_
  refine g_ (b_ ?_)
  refine o_ ?_
  refine Z_ rfl rfl ?_
  intro w' hw'
  exact ⟨rfl, hw'⟩
theorem count_c {most : Int} (hw : Mem S σ ρ w) (hu : Upd (rdI 435 p s) (rdI 435 p (s.count most)) σ τ) (hv : bytesD s.v s.l ∈ ρ) (hl : s.l.length ≤ lots) : Calls Tryz.prog 227 #[.pointer (some ⟨p, 0, none⟩), .int .i64 most] w fun e w' => e = .returned (.int .i64 (s.countN most : Nat)) ∧ Mem S τ (bytesD (s.count most).v (s.count most).l :: ρ) w' := by
  by_cases h : (s.fixed 2).e = 0 ∧ most < s.num 2
  · have e1 : s.count most = (s.fixed 2).fail 4 := by simp [Rd.count, h]
    have e2 : s.countN most = 0 := by simp [Rd.countN, h]
    rw [e1] at hu ⊢
    rw [e2]
    obtain ⟨υ, h1, h2⟩ := gq_ (y := rdI 435 p (s.fixed 2)) hu
    exact count_m hw h1 h2 hv hl h.1 h.2
  · have e1 : s.count most = s.fixed 2 := by simp only [Rd.count, if_neg h]
    have e2 : s.countN most = s.num 2 := by simp only [Rd.countN, if_neg h]
    rw [e1] at hu ⊢
    rw [e2]
    exact count_l hw hu hv hl h (fun he => s.num0 he)
set_option maxHeartbeats 400000 in
theorem row_a {most : Int} {υ : Blks} (hw : Mem S σ ρ w) (hu1 : Upd (rdI 435 p s) (rdI 435 p (s.fixed 4)) σ υ) (hv : bytesD s.v s.l ∈ ρ) (hl : s.l.length ≤ lots) (_hmost : 0 ≤ most ∧ most ≤ 9223372036854775807) (he : (s.fixed 4).e ≠ 0) : Calls Tryz.prog 308 #[.pointer (some ⟨p, 0, none⟩), .int .i64 most] w fun e w' => ∃ r, e = .returned r ∧ Mem S υ (bytesD r [] :: bytesD (s.fixed 4).v (s.fixed 4).l :: ρ) w' := by
  have hlt := s.num_lt (n := 4) (k := 4) (Nat.le_refl _)
  have hl2 := s.fixed_length 4
  have hm1 := hu1.mem'
  refine au_ [.pointer (some ⟨p, 0, none⟩), .int .i64 most] Tryz.func308 rfl Tryz.ntmps308 rfl (Mem S σ ρ) hw ?_
  refine c_ (a_ ?_)
  refine d_ (l_ rfl) rfl rfl ?_
  refine g_ (b_ ?_)
  refine c_ (a_ ?_)
  refine d_ (r_ rfl) rfl rfl ?_
  refine m_ (by kernel_rfl) rfl rfl rfl ?_
  intro w hw
  refine (cm_ (s := s) hw hu1 hv hl rfl).mono ?_; rintro _ _ ⟨rfl, hm⟩; refine ⟨_, _, rfl, hm, ?_⟩; clear hm hw w
  refine d_ (l_ rfl) rfl rfl ?_
  refine g_ (b_ ?_)
  refine c_ ?_
  refine w_ ?_
  refine c_ (a_ ?_)
  refine d_ (r_ rfl) rfl rfl ?_
  refine m_ (by kernel_rfl) rfl rfl rfl ?_
  intro w hw
  refine (ok_c (s := s.fixed 4) hw (by repeat (first | assumption | exact List.mem_cons_self | exact hmem _ | apply List.mem_cons_of_mem))).mono ?_; rintro _ _ ⟨rfl, hm⟩; refine ⟨_, _, rfl, hm, ?_⟩; clear hm hw w
  refine d_ (bG_ rfl) rfl rfl ?_
  refine d_ (l_ rfl) rfl rfl ?_
  refine g_ (b_ ?_)
  refine n_ rfl ?_ (by intro hc8; exfalso; omega)
  intro hc8
  refine c_ (a_ ?_)
  refine d_ (l_ rfl) rfl rfl ?_
  refine g_ (b_ ?_)
  refine o_ ?_
  refine aF_ ?_
  refine k_ (by intro h; cases h) ?_
  refine Z_ rfl rfl ?_
  intro w' hw'
  exact ⟨_, rfl, hw'.add (z := bytesD (.slice none 0 0) []) (IsRow.nil rfl)⟩
set_option maxHeartbeats 400000 in
theorem row_b {most : Int} {υ : Blks} (hw : Mem S σ ρ w) (hu1 : Upd (rdI 435 p s) (rdI 435 p (s.fixed 4)) σ υ) (hu2 : Upd (rdI 435 p (s.fixed 4)) (rdI 435 p ((s.fixed 4).fail 3)) υ τ) (hv : bytesD s.v s.l ∈ ρ) (hl : s.l.length ≤ lots) (_hmost : 0 ≤ most ∧ most ≤ 9223372036854775807) (he : (s.fixed 4).e = 0) (hm : most < s.num 4) : Calls Tryz.prog 308 #[.pointer (some ⟨p, 0, none⟩), .int .i64 most] w fun e w' => ∃ r, e = .returned r ∧ Mem S τ (bytesD r [] :: bytesD (s.fixed 4).v (s.fixed 4).l :: ρ) w' := by
  have hm2 := hu2.mem
  have hm3 := hu2.mem'
  have hlt := s.num_lt (n := 4) (k := 4) (Nat.le_refl _)
  have hl2 := s.fixed_length 4
  have hm1 := hu1.mem'
  refine au_ [.pointer (some ⟨p, 0, none⟩), .int .i64 most] Tryz.func308 rfl Tryz.ntmps308 rfl (Mem S σ ρ) hw ?_
  refine c_ (a_ ?_)
  refine d_ (l_ rfl) rfl rfl ?_
  refine g_ (b_ ?_)
  refine c_ (a_ ?_)
  refine d_ (r_ rfl) rfl rfl ?_
  refine m_ (by kernel_rfl) rfl rfl rfl ?_
  intro w hw
  refine (cm_ (s := s) hw hu1 hv hl rfl).mono ?_; rintro _ _ ⟨rfl, hm⟩; refine ⟨_, _, rfl, hm, ?_⟩; clear hm hw w
  refine d_ (l_ rfl) rfl rfl ?_
  refine g_ (b_ ?_)
  refine c_ ?_
  refine w_ ?_
  refine c_ (a_ ?_)
  refine d_ (r_ rfl) rfl rfl ?_
  refine m_ (by kernel_rfl) rfl rfl rfl ?_
  intro w hw
  refine (ok_c (s := s.fixed 4) hw (by repeat (first | assumption | exact List.mem_cons_self | exact hmem _ | apply List.mem_cons_of_mem))).mono ?_; rintro _ _ ⟨rfl, hm⟩; refine ⟨_, _, rfl, hm, ?_⟩; clear hm hw w
  refine d_ (bG_ rfl) rfl rfl ?_
  refine d_ (l_ rfl) rfl rfl ?_
  refine g_ (b_ ?_)
  refine n_ rfl (by intro hc8; exfalso; exact hc8 he) ?_
  intro hc8
  refine c_ (a_ ?_)
  refine d_ (r_ rfl) rfl rfl ?_
  refine d_ (aa_ rfl Tryz.underlying2 (by kernel_rfl) (by simp only [InR, lo, hi]; omega)) rfl rfl ?_
  refine d_ (r_ rfl) rfl rfl ?_
  refine d_ (a1_ rfl rfl) rfl rfl ?_
  refine d_ (l_ rfl) rfl rfl ?_
  refine g_ (b_ ?_)
  refine n_ rfl ?_ (by intro hc12; exfalso; omega)
  intro hc12
  refine c_ (a_ ?_)
  refine d_ (r_ rfl) rfl rfl ?_
  refine m_ (by kernel_rfl) rfl rfl rfl ?_
  intro w hw
  refine (hy_ (s := s.fixed 4) (x := 3) hw hu2 he).mono ?_; rintro _ _ ⟨rfl, hm⟩; refine ⟨_, _, rfl, hm, ?_⟩; clear hm hw w
  refine g_ (b_ ?_)
  refine c_ (a_ ?_)
  refine d_ (l_ rfl) rfl rfl ?_
  refine g_ (b_ ?_)
  refine o_ ?_
  refine aF_ ?_
  refine k_ (by intro h; cases h) ?_
  refine Z_ rfl rfl ?_
  intro w' hw'
  exact ⟨_, rfl, hw'.add (z := bytesD (.slice none 0 0) []) (IsRow.nil rfl)⟩
set_option maxHeartbeats 400000 in
theorem row_d {most : Int} {υ : Blks} (hw : Mem S σ ρ w) (hu1 : Upd (rdI 435 p s) (rdI 435 p (s.fixed 4)) σ υ) (hu2 : Upd (rdI 435 p (s.fixed 4)) (rdI 435 p ((s.fixed 4).fixed (s.num 4))) υ τ) (hv : bytesD s.v s.l ∈ ρ) (hl : s.l.length ≤ lots) (_hmost : 0 ≤ most ∧ most ≤ 9223372036854775807) (he : (s.fixed 4).e = 0) (hm : ¬ most < s.num 4) : Calls Tryz.prog 308 #[.pointer (some ⟨p, 0, none⟩), .int .i64 most] w fun e w' => ∃ r, e = .returned r ∧ Mem S τ (bytesD r ((s.fixed 4).out (s.num 4)) :: bytesD ((s.fixed 4).fixed (s.num 4)).v ((s.fixed 4).fixed (s.num 4)).l :: ρ) w' := by
  have hlt := s.num_lt (n := 4) (k := 4) (Nat.le_refl _)
  have hl2 := s.fixed_length 4
  have hm1 := hu1.mem'
  refine au_ [.pointer (some ⟨p, 0, none⟩), .int .i64 most] Tryz.func308 rfl Tryz.ntmps308 rfl (Mem S σ ρ) hw ?_
  refine c_ (a_ ?_)
  refine d_ (l_ rfl) rfl rfl ?_
  refine g_ (b_ ?_)
  refine c_ (a_ ?_)
  refine d_ (r_ rfl) rfl rfl ?_
  refine m_ (by kernel_rfl) rfl rfl rfl ?_
  intro w hw
  refine (cm_ (s := s) hw hu1 hv hl rfl).mono ?_; rintro _ _ ⟨rfl, hm⟩; refine ⟨_, _, rfl, hm, ?_⟩; clear hm hw w
  refine d_ (l_ rfl) rfl rfl ?_
  refine g_ (b_ ?_)
  refine c_ ?_
  refine w_ ?_
  refine c_ (a_ ?_)
  refine d_ (r_ rfl) rfl rfl ?_
  refine m_ (by kernel_rfl) rfl rfl rfl ?_
  intro w hw
  refine (ok_c (s := s.fixed 4) hw (by repeat (first | assumption | exact List.mem_cons_self | exact hmem _ | apply List.mem_cons_of_mem))).mono ?_; rintro _ _ ⟨rfl, hm⟩; refine ⟨_, _, rfl, hm, ?_⟩; clear hm hw w
  refine d_ (bG_ rfl) rfl rfl ?_
  refine d_ (l_ rfl) rfl rfl ?_
  refine g_ (b_ ?_)
  refine n_ rfl (by intro hc8; exfalso; exact hc8 he) ?_
  intro hc8
  refine c_ (a_ ?_)
  refine d_ (r_ rfl) rfl rfl ?_
  refine d_ (aa_ rfl Tryz.underlying2 (by kernel_rfl) (by simp only [InR, lo, hi]; omega)) rfl rfl ?_
  refine d_ (r_ rfl) rfl rfl ?_
  refine d_ (a1_ rfl rfl) rfl rfl ?_
  refine d_ (l_ rfl) rfl rfl ?_
  refine g_ (b_ ?_)
  refine n_ rfl (by intro hc12; exfalso; omega) ?_
  intro hc12
  refine s_ ?_
  refine A_ ?_
  refine b_ ?_
  refine c_ (a_ ?_)
  iterate 2 refine d_ (r_ rfl) rfl rfl ?_
  refine d_ (aa_ rfl Tryz.underlying3 (by kernel_rfl) (by simp only [InR, lo, hi]; omega)) rfl rfl ?_
  refine m_ (by kernel_rfl) rfl rfl rfl ?_
  intro w hw
  refine (gG_ (s := s.fixed 4) hw hu2 (by repeat (first | assumption | exact List.mem_cons_self | exact hmem _ | apply List.mem_cons_of_mem)) (by omega)).mono ?_; rintro _ _ ⟨r, rfl, hm⟩; refine ⟨_, _, rfl, hm, ?_⟩; clear hm hw w
  refine d_ (l_ rfl) rfl rfl ?_
  refine g_ (b_ ?_)
  refine o_ ?_
  refine Z_ rfl rfl ?_
  intro w' hw'
  exact ⟨_, rfl, hw'.less (by intro x hx; simp only [List.mem_cons] at hx ⊢; rcases hx with rfl | rfl | hx <;> simp [*])⟩
theorem row_c {most : Int} (hw : Mem S σ ρ w) (hu : Upd (rdI 435 p s) (rdI 435 p (s.row most)) σ τ) (hv : bytesD s.v s.l ∈ ρ) (hl : s.l.length ≤ lots) (hmost : 0 ≤ most ∧ most ≤ 9223372036854775807) : Calls Tryz.prog 308 #[.pointer (some ⟨p, 0, none⟩), .int .i64 most] w fun e w' => ∃ r, e = .returned r ∧ Mem S τ (bytesD r (s.rowOut most) :: bytesD (s.row most).v (s.row most).l :: ρ) w' := by
  by_cases he : (s.fixed 4).e = 0
  · by_cases hm : most < s.num 4
    · have e1 : s.row most = (s.fixed 4).fail 3 := by simp [Rd.row, he, hm]
      have e2 : s.rowOut most = [] := by simp [Rd.rowOut, hm]
      rw [e1] at hu ⊢
      rw [e2]
      obtain ⟨υ, h1, h2⟩ := gq_ (y := rdI 435 p (s.fixed 4)) hu
      exact row_b hw h1 h2 hv hl hmost he hm
    · have e1 : s.row most = (s.fixed 4).fixed (s.num 4) := by simp [Rd.row, he, hm]
      have e2 : s.rowOut most = (s.fixed 4).out (s.num 4) := by simp [Rd.rowOut, he, hm]
      rw [e1] at hu ⊢
      rw [e2]
      obtain ⟨υ, h1, h2⟩ := gq_ (y := rdI 435 p (s.fixed 4)) hu
      exact row_d hw h1 h2 hv hl hmost he hm
  · have e1 : s.row most = s.fixed 4 := by simp [Rd.row, he]
    have e2 : s.rowOut most = [] := by simp [Rd.rowOut, he]
    rw [e1] at hu ⊢
    rw [e2]
    exact row_a hw hu hv hl hmost he
theorem end_c (hw : Mem S σ ρ w) (hb : rdI 435 p s ∈ σ) (hv : bytesD s.v s.l ∈ ρ) : Calls Tryz.prog 230 #[.pointer (some ⟨p, 0, none⟩)] w fun e w' => e = .returned (.int .i64 s.end_) ∧ Mem S σ ρ w' := by
  have hsv := (hw.data hv).shape
  obtain ⟨v, l, e⟩ := s
  obtain ⟨A, c, hsv, hs1, hs2, hs3⟩ := hsv
  dsimp only at hsv
  subst hsv
  have hnil : l = [] ↔ l.length = 0 := List.length_eq_zero_iff.symm
  refine au_ [.pointer (some ⟨p, 0, none⟩)] Tryz.func230 rfl Tryz.ntmps230 rfl (Mem S σ ρ) hw ?_
  refine c_ (a_ ?_)
  refine d_ (l_ rfl) rfl rfl ?_
  refine g_ (b_ ?_)
  refine c_ ?_
  refine w_ ?_
  refine c_ (a_ ?_)
  refine d_ (r_ rfl) rfl rfl ?_
  refine d_ (ax_ rfl rfl (by kernel_rfl)) rfl rfl ?_
  refine d_ (l_ rfl) rfl rfl ?_
  refine g_ (b_ ?_)
  refine I_ rfl ?_
  refine c_ (a_ ?_)
  refine d_ (r_ rfl) rfl rfl ?_
  refine d_ (an_ rfl) rfl rfl ?_
  refine d_ (G_ tabOk rfl rfl rfl rfl rfl) rfl rfl ?_
  refine d_ (h_ tabOk rfl rfl (by repeat (first | assumption | exact List.mem_cons_self | exact hmem _ | apply List.mem_cons_of_mem)) (by rfl)) rfl rfl ?_
  refine d_ (dv_ rfl rfl) rfl rfl ?_
  refine d_ (r_ rfl) rfl rfl ?_
  refine D_ (t := 12) rfl ?_ ?_
  rotate_left
  · intro hc12
    iterate 6 refine aD_ rfl rfl ?_
    refine d_ (aj_ rfl rfl) rfl rfl ?_
    refine d_ (l_ rfl) rfl rfl ?_
    refine g_ (b_ ?_)
    refine I_ rfl ?_
    refine s_ ?_
    refine A_ ?_
    refine b_ ?_
    refine c_ (a_ ?_)
    refine d_ (r_ rfl) rfl rfl ?_
    refine d_ (an_ rfl) rfl rfl ?_
    refine d_ (G_ tabOk rfl rfl rfl rfl rfl) rfl rfl ?_
    refine d_ (h_ tabOk rfl rfl (by repeat (first | assumption | exact List.mem_cons_self | exact hmem _ | apply List.mem_cons_of_mem)) (by rfl)) rfl rfl ?_
    refine d_ (l_ rfl) rfl rfl ?_
    refine g_ (b_ ?_)
    refine o_ ?_
    refine Z_ rfl rfl ?_
    intro w' hw'
    refine ⟨?_, hw'⟩
    dsimp only at *
    simp only [Rd.end_, Ne, hnil]
    (rw [if_neg (by omega)]; done)
  intro hc12
  refine d_ (r_ rfl) rfl rfl ?_
  refine d_ (an_ rfl) rfl rfl ?_
  refine d_ (G_ tabOk rfl rfl rfl rfl rfl) rfl rfl ?_
  refine d_ (h_ tabOk rfl rfl (by repeat (first | assumption | exact List.mem_cons_self | exact hmem _ | apply List.mem_cons_of_mem)) (by rfl)) rfl rfl ?_
  refine d_ (P_ rfl Tryz.underlying39) rfl rfl ?_
  refine d_ (a1_ rfl rfl) rfl rfl ?_
  refine d_ (U_ rfl rfl) rfl rfl ?_
  refine d_ (l_ rfl) rfl rfl ?_
  refine g_ (b_ ?_)
  refine n_ rfl ?_ ?_
  · intro hc6
    refine c_ (a_ ?_)
    refine d_ (l_ rfl) rfl rfl ?_
    refine g_ (b_ ?_)
    refine o_ ?_
    refine aF_ ?_
    refine k_ (by intro h; cases h) ?_
    refine Z_ rfl rfl ?_
    intro w' hw'
    refine ⟨?_, hw'⟩
    dsimp only at *
    simp only [Rd.end_, Ne, hnil]
    (rw [if_pos (by constructor <;> omega)]; done)
  intro hc6
  refine s_ ?_
  refine A_ ?_
  refine b_ ?_
  refine c_ (a_ ?_)
  refine d_ (r_ rfl) rfl rfl ?_
  refine d_ (an_ rfl) rfl rfl ?_
  refine d_ (G_ tabOk rfl rfl rfl rfl rfl) rfl rfl ?_
  refine d_ (h_ tabOk rfl rfl (by repeat (first | assumption | exact List.mem_cons_self | exact hmem _ | apply List.mem_cons_of_mem)) (by rfl)) rfl rfl ?_
  refine d_ (l_ rfl) rfl rfl ?_
  refine g_ (b_ ?_)
  refine o_ ?_
  refine Z_ rfl rfl ?_
  intro w' hw'
  refine ⟨?_, hw'⟩
  dsimp only at *
  simp only [Rd.end_, Ne, hnil]
  (rw [if_neg (by omega)]; done)
end
section
variable {S : List (World × List Nat)} {σ τ : Blks} {ρ : List Dt} {w : World} {p : Nat} {s : Rd}
theorem ea_ {v r : Value} {l m : List UInt8} (hw : Mem S σ ρ w) (hb : bytesD v l ∈ ρ) (hr : bytesD r m ∈ ρ) (hl : l.length + m.length + 4 ≤ lots) (hm : m.length < 4294967296) : Calls Tryz.prog 94 #[v, r] w fun e w' => ∃ z, e = .returned z ∧ Mem S σ (bytesD z (l ++ beBytes m.length 4 ++ m) :: ρ) w' := by
  obtain ⟨A, c, rfl, h1, h2, h3⟩ := (hw.data hr).shape
  refine au_ [v, .slice A m.length c] Tryz.func94 rfl Tryz.ntmps94 rfl (Mem S σ ρ) hw ?_
  refine c_ (a_ ?_)
  refine d_ (l_ rfl) rfl rfl ?_
  refine g_ (b_ ?_)
  refine c_ (a_ ?_)
  iterate 2 refine d_ (r_ rfl) rfl rfl ?_
  refine d_ (P_ rfl Tryz.underlying39) rfl rfl ?_
  refine d_ (aa_ rfl Tryz.underlying27 (by kernel_rfl) (by simp only [InR, lo, hi]; omega)) rfl rfl ?_
  refine m_ (by kernel_rfl) rfl rfl rfl ?_
  intro w hw
  refine (gy_ (l := l) (x := m.length) (n := 4) hw (hw.bytes hb) (by omega) (by omega) rfl).mono ?_; rintro _ _ ⟨r, rfl, hm⟩; refine ⟨_, _, rfl, hm, ?_⟩; clear hm hw w
  refine d_ (r_ rfl) rfl rfl ?_
  refine aT_ (bS_ (pre := []) (news := m.map bc) tabOk Tryz.underlying39 rfl rfl rfl rfl rfl (fun _ hw => ⟨_, hw.data hr⟩) (by simp) hJ_ (by unfold maxLen; (try simp only [List.length_append, v_]); unfold lots at *; omega) (by rw [show Tryz.prog.bytesOf 5 = 1 by kernel_rfl]; (try simp only [List.length_append, v_]); unfold lots at *; omega)) rfl rfl ?_
  rintro r _ rfl
  refine d_ (l_ rfl) rfl rfl ?_
  refine g_ (b_ ?_)
  refine o_ ?_
  refine Z_ rfl rfl ?_
  intro w' hw'
  have hf := Mem.freeze hw'
  refine ⟨_, rfl, ?_⟩
  have e1 : (l ++ beBytes m.length 4 ++ m).length = (l ++ beBytes m.length (Int.toNat 4)).length + m.length := by simp [v_]; omega
  unfold bytesD
  rw [e1, List.map_append]
  exact hf
theorem read_c {v : Value} {l : List UInt8} (hw : Mem S σ ρ w) (hb : bytesD v l ∈ ρ) (hl : l.length ≤ lots) : Calls Tryz.prog 225 #[v] w fun e w' => ∃ p z, e = .returned (.pointer (some ⟨p, 0, none⟩)) ∧ Mem S (rdI 435 p ⟨z, l, 0⟩ :: σ) (bytesD z l :: ρ) w' := by
  refine au_ [v] Tryz.func225 rfl Tryz.ntmps225 rfl (Mem S σ ρ) hw ?_
  refine c_ (a_ ?_)
  refine d_ (l_ rfl) rfl rfl ?_
  refine g_ (b_ ?_)
  refine c_ (a_ ?_)
  refine d_ (r_ rfl) rfl rfl ?_
  refine m_ (by kernel_rfl) rfl rfl rfl ?_
  intro w hw
  refine (jB_ (l := l) hw (hw.bytes hb) hl).mono ?_; rintro _ _ ⟨r, rfl, hm⟩; obtain ⟨A, c, rfl, _⟩ := (hm.data List.mem_cons_self).shape; refine ⟨_, _, rfl, hm, ?_⟩; clear hm hw w
  refine d_ (u_ tabOk rfl rfl rfl rfl) rfl rfl ?_
  refine aT_ (z_ rfl) rfl rfl ?_
  rintro _ _ ⟨b6, rfl, rfl⟩
  refine d_ (l_ rfl) rfl rfl ?_
  refine g_ (b_ ?_)
  refine o_ ?_
  refine Z_ rfl rfl ?_
  intro w' hw'
  exact ⟨_, _, rfl, hw'⟩
end
section
variable {P : Program} {n : Nat} {l : Slots} {S : List (World × List Nat)} {σ τ : Blks} {ρ : List Dt} {C D : World → Prop} {x y z : Operand} {d : Option Nat} {ty t e : TypeId} {pos : String} {aft : Array Edge} {g : Option (Nat × Bool)} {v u : Value} {Q : Exit → Act → World → Prop} {ops : Array Oper} {rest : List Oper} {ix : Plan} {w : World} {b q : Nat} {s : ByteArray}
theorem gE_ (w : World) (m old : Nat) (e : TypeId) (h : m ≤ maxLen) : m ≤ grownCap w m old e ∧ grownCap w m old e ≤ maxLen := by
  unfold grownCap maxLen at *
  simp only [Question.cut]
  have : (w.tape w.drawn (.appendCap m old e)) % (2 ^ 63 - m) < 2 ^ 63 - m := Nat.mod_lt _ (by omega)
  omega
theorem bI_ (hx : look l x = some (.string s)) (ht : Tryz.prog.underlying t = some .string) (hd : Tryz.prog.underlying e = some (.slice 5)) (hs : s.size ≤ lots) : Eff Tryz.prog n l (Mem S σ ρ) ⟨d, .convert t e x, ty, pos, aft, g⟩ fun u C' => C' = Mem S σ (bytesD u s.data.toList :: ρ) := fun Ac w hf hw => by
  have hrun := Lib.run_convert_string_bytes (P := Tryz.prog) w t e 5 s ht hd Tryz.underlying5
  have hc := gE_ w s.size 0 5 (by unfold lots at hs; unfold maxLen; omega)
  have hx1 : Ext [] w (Lib.bytesWorld w 5 s) := ⟨rfl, rfl, rfl, by rw [Lib.bytesWorld_size]; omega, fun k hk _ => Lib.bytesWorld_at_old w _ s k hk⟩
  refine ⟨_, _, _, rfl, (hw.same hx1).add (z := bytesD (.slice (some ⟨w.heap.size, 0, none⟩) s.size (grownCap w s.size 0 5)) s.data.toList) ⟨⟨some ⟨w.heap.size, 0, none⟩, _, by simp, by simpa using hc.1, hc.2, by simp⟩, fun _ => ⟨w.heap.size, 0, s.size, _, rfl, fun hk => ?_, fun j u hu => ?_⟩⟩, .inl ?_⟩
  · have := hw.small _ hk; omega
  · rw [Nat.zero_add]
    rw [List.getElem?_map] at hu
    have hj : j < s.size := by
      rcases Nat.lt_or_ge j s.size with h | h
      · exact h
      · rw [List.getElem?_eq_none (by simpa using h)] at hu; cases hu
    rw [Lib.bytesWorld_cell w _ s j hj, ← hu, List.getElem?_eq_getElem (by simpa using hj), List.getD_eq_getElem?_getD, List.getElem?_eq_getElem (by simpa using hj)]
    rfl
  · simp only [execOp, hf.eval hx, hrun, Sem.run_bind, Result.andThen_ok, Sem.run_pure]
def u64 (x : Int) : Nat := (x % 18446744073709551616).toNat
theorem bA_ {k : IntKind} {a : Int} (hx : look l x = some (.int k a)) (ht : P.underlying e = some (.int .u64)) (hs : (P.underlying t).isSome = true) : Val P n l D ⟨d, .convert t e x, ty, pos, aft, g⟩ (.int .u64 (u64 a : Nat)) := by
  have h := bQ_ (n := n) (D := D) (d := d) (ty := ty) (pos := pos) (aft := aft) (g := g) hx ht hs
  have h2 : IntKind.u64.wrap a = ((u64 a : Nat) : Int) := by
    simp [IntKind.wrap, IntKind.bits, IntKind.signed, u64]; omega
  rw [h2] at h
  exact h
theorem gV_ (hx : look l x = some (.string s)) (hu : P.underlying t = some .string) : Eff P n l (Mem S σ ρ) ⟨d, .range t x, ty, pos, aft, g⟩ fun u C' => ∃ b, u = .pointer (some ⟨b, 0, none⟩) ∧ C' = Mem S (.blk b (.stringIter s 0) :: σ) ρ := fun Ac w hf hw => by
  refine ⟨_, _, _, ⟨w.heap.size, rfl, rfl⟩, hw.alloc (.stringIter s 0), .inl ?_⟩
  simp only [execOp, Instr.range, hf.eval hx, Sem.run_bind, Sem.run_pure, Result.andThen_ok, run_underlying hu, newObj]
  rfl
theorem d1_ {p : Nat} (hb : w.heap[b]? = some (.stringIter s p)) : (getObj b).run P w = .ok (.stringIter s p) w := by simp [getObj, Sem.run, hb]
theorem gw_ {p p' : Nat} (hb : w.heap[b]? = some (.stringIter s p)) : (setObj b (.stringIter s p')).run P w = .ok () { w with heap := w.heap.setIfInBounds b (.stringIter s p') } := by simp [setObj, Sem.run, hb]
theorem Ext.setObj_ (w : World) (b : Nat) (o : Obj) : Ext [b] w { w with heap := w.heap.setIfInBounds b o } :=
  ⟨rfl, rfl, rfl, by simp, fun k _ hk => by
    have hne : b ≠ k := fun h => hk (by simp [h])
    simp [Array.getElem?_setIfInBounds_ne hne]⟩
theorem ip_ {p : Nat} (hx : look l x = some (.pointer (some ⟨b, 0, none⟩))) (hu : Upd (.blk b (.stringIter s p)) (.blk b (.stringIter s (p + (Utf8.decode s p).2))) σ τ) (hp : p < s.size) :
    Eff P n l (Mem S σ ρ) ⟨d, .next x true, ty, pos, aft, g⟩ fun u C' => u = .tuple #[.bool true, .int .i64 p, .int .i32 ((Utf8.decode s p).1 : Nat)] ∧ C' = Mem S τ ρ := fun Ac w hf hw => by
  have hb := hw.holds hu.mem
  have hlt : b < w.heap.size := hw.lt hu.mem b (by simp [It.ids])
  refine ⟨_, { w with heap := w.heap.setIfInBounds b (.stringIter s (p + (Utf8.decode s p).2)) }, _, ⟨rfl, rfl⟩, hw.updB hu (Ext.setObj_ w b _) (by simp [hlt]), .inl ?_⟩
  simp only [execOp, Instr.next, hf.eval hx, Sem.run_bind, Sem.run_pure, Result.andThen_ok, d1_ hb, if_pos hp, gw_ hb, goInt]
theorem gQ_ {p : Nat} (hx : look l x = some (.pointer (some ⟨b, 0, none⟩))) (hb : It.blk b (.stringIter s p) ∈ σ) (hp : ¬ p < s.size) :
    Val P n l (Mem S σ ρ) ⟨d, .next x true, ty, pos, aft, g⟩ (.tuple #[.bool false]) := fun Ac w hf hw => by
  have hb := hw.holds hb
  simp only [execOp, Instr.next, hf.eval hx, Sem.run_bind, Sem.run_pure, Result.andThen_ok, d1_ hb, if_neg hp]
theorem gH_ (s : ByteArray) (p : Nat) (h : p < s.size) (ha : ¬ (s[p]'h).toNat < 128) : 128 ≤ (Utf8.decode s p).1 := by
  have h0 : (s.get! (p + 0)).toNat = (s[p]'h).toNat := by
    have e : s.get! p = s[p]'h := by
      simp [ByteArray.get!, getElem!_pos, h]
      rfl
    rw [Nat.add_zero, e]
  unfold Utf8.decode
  simp only [h0]
  rw [if_neg (by omega)]
  repeat' split
  all_goals (try simp only [Bool.and_eq_true, decide_eq_true_eq, ge_iff_le] at *)
  all_goals (try dsimp only [Utf8.runeError] at *)
  all_goals omega
theorem RV.loadA {tab : List (Nat × TI)} (hT : TabOk P tab) {i : TI} {t' : TypeId} {L : List Value} (ht : ti tab t = some i) (hk : (match i.k with | .one => false | _ => true) = true) (hw : Mem S σ ρ w) (hb : It.blk b (row t' L) ∈ σ) (hl : L.length = i.size) : (loadVar t ⟨b, 0, none⟩).run P w = .ok (.agg L.toArray) w :=
  cA_ hT ht hk hl fun j u hu => by rw [Nat.zero_add, a2_ (hw.holds hb)]; exact hu
theorem fZ_ {w : World} {v : Value} {l : List UInt8} (h : BytesV w v l) : (convert 39 9 v).run Tryz.prog w = .ok (.string ⟨l.toArray⟩) w := by
  obtain ⟨A, c, rfl, _, _, h4, h5⟩ := h
  rcases A with _ | a
  · have := run_convert_bytes_nil (P := Tryz.prog) (w := w) 39 5 Tryz.underlying39 Tryz.underlying5 l.length c 9 Tryz.underlying9
    have hl : l = [] := by
      rcases l with _ | ⟨x, l⟩
      · rfl
      · obtain ⟨b, off, h0, _⟩ := h5 (by simp)
        cases h0
    subst hl
    exact this
  · refine run_convert_bytes_back (P := Tryz.prog) w 39 9 5 a c l Tryz.underlying39 Tryz.underlying5 Tryz.underlying9 (fun j hj => ?_)
    obtain ⟨b, off, h0, hc⟩ := h5 (by intro h0; have := congrArg List.length h0; simp at this; subst this; simp at hj)
    cases h0
    have hadd : (⟨b, off, none⟩ : Addr).add j = ⟨b, off + j, none⟩ := by
      unfold Addr.add
      split
      · rename_i h0; subst h0; rfl
      · rfl
    rw [hadd]
    exact hc j _ (by simp [bc, hj])
theorem c6_ {v : Value} {m : List UInt8} (hx : look l x = some v) (hv : bytesD v m ∈ ρ) : Val Tryz.prog n l (Mem S σ ρ) ⟨d, .convert 39 9 x, ty, pos, aft, g⟩ (.string ⟨m.toArray⟩) := fun A w hf hw => by
  have := fZ_ (hw.bytes hv)
  simp [execOp, hf.eval hx, this, Result.andThen]
theorem cU_ {f : FuncId} {fs cs : Array Value} {xs : List Operand} {ats : Array TypeId} {vals : List Value} {ρ : Operand → Value} (hb : goesIn P f = true) (hv : xs.map ρ = vals) (hf : ρ x = .func (.func f) fs cs) :
    (execOp ρ ⟨d, .call { callee := .value x, args := xs.toArray, argTypes := ats }, ty, pos, aft, g⟩).run P w = .ok (.enter f (fs ++ vals.toArray ++ cs)) w := by
  unfold goesIn at hb
  cases hfn : P.funcs[f]? with
  | none => simp [hfn] at hb
  | some fn =>
    simp only [hfn, Bool.and_eq_true, Bool.not_eq_true', beq_eq_false_iff_ne, Option.isSome_iff_ne_none] at hb
    obtain ⟨c, hn⟩ := Option.ne_none_iff_exists'.1 hb.1
    simp [execOp, resolve, hf, Deferred.ofValue, invoke, callFunc, program, Sem.run_bind, Sem.run, hfn, hb.2, hn, hv, Result.andThen]
theorem c9_ {f : FuncId} {fs cs : Array Value} {xs : List Operand} {ats : Array TypeId} {vals : List Value} (hx : look l x = some (.func (.func f) fs cs)) (hb : goesIn P f = true) (hv : looks l xs = some vals)
    (hg : gd ops l ⟨d, .call { callee := .value x, args := xs.toArray, argTypes := ats }, ty, pos, aft, g⟩ = some true) (hd : lt? d n = true)
    (hc : ∀ w, C w → Calls P f (fs ++ vals.toArray ++ cs) w fun e w' => ∃ v C', e = .returned v ∧ C' w' ∧ SL P n ops rest (put? l d v) C' Q) :
    SL P n ops (⟨d, .call { callee := .value x, args := xs.toArray, argTypes := ats }, ty, pos, aft, g⟩ :: rest) l C Q := fun a w hf hw =>
  wpList_step fun K hK => by
    rw [if_pos (hf.wanted hg)]
    unfold Oper.wp
    rw [cU_ hb (hf.evals hv) (hf.eval hx), Oper.upon_enter]
    refine (hc w hw).mono fun e w' ⟨v, C', he, hC', hk⟩ => ?_
    subst he
    exact hK _ _ (hk _ _ (hf.put? hd v) hC')
theorem fn_ {i : Nat} {f : FuncId} {fs cs : Array Value} {xs : List Operand} {ats : Array TypeId} {vals : List Value} (hi : ops[i]? = some ⟨d, .call { callee := .value x, args := xs.toArray, argTypes := ats }, ty, pos, aft, g⟩)
    (hx : look l x = some (.func (.func f) fs cs)) (hb : goesIn P f = true) (hv : looks l xs = some vals)
    (hg : gd ops l ⟨d, .call { callee := .value x, args := xs.toArray, argTypes := ats }, ty, pos, aft, g⟩ = some true) (hd : lt? d n = true)
    (hc : ∀ w, C w → Calls P f (fs ++ vals.toArray ++ cs) w fun e w' => ∃ v C', e = .returned v ∧ C' w' ∧ ∃ D' : World → Prop, (∀ w, D' w → D w) ∧ (∀ w, C' w → D' w) ∧ SX P n ops ix D' (put? l d v) C' Q) :
    SX P n ops (.e i ix) D l C Q := fun a w hf hw => by
  unfold planW wpOp
  simp only [hi, hf.wanted hg, if_true]
  refine .inl ?_
  unfold Oper.wp
  rw [cU_ hb (hf.evals hv) (hf.eval hx), Oper.upon_enter]
  refine (hc w hw).mono fun e w' ⟨v, C', he, hC', D', h1, h2, h3⟩ => ?_
  subst he
  exact ⟨D', h1, h2 _ hC', h3 _ _ (hf.put? hd v) hC'⟩
end
section
variable {P : Program} {n : Nat} {l : Slots} {C D : World → Prop} {ops : Array Oper} {rest : List Oper} {ix : Plan} {Q : Exit → Act → World → Prop} {t : TypeId} {x : Operand} {v : Value} {m : String} {d : Option Nat} {ty : TypeId} {pos : String} {aft : Array Edge} {g : Option (Nat × Bool)}
theorem b3_ (hx : look l x = some v) (h : ∀ w, (Instr.makeInterface t v).run P w = .ok (.iface t v) w) : Val P n l D ⟨d, .makeInterface t x, ty, pos, aft, g⟩ (.iface t v) := fun A w hf _ => by
  simp [execOp, hf.eval hx, h w, Result.andThen]
theorem b2_ (hx : look l x = some (.func (.method m) #[.iface t v] #[])) (h : ∀ w, (nilAhead (P.types.size + Made.depth) t v m).run P w = .ok (some false) w) : Val P n l D ⟨d, .nilCheck x, ty, pos, aft, g⟩ (.func (.method m) #[.iface t v] #[]) := fun A w hf _ => by
  simp [execOp, hf.eval hx, Sem.run_bind, program, Sem.run, h w, Result.andThen]
theorem hU_ {f : FuncId} {xs : List Operand} {ats : Array TypeId} {vals : List Value} {ρ : Operand → Value} {w : World} (hv : xs.map ρ = vals) (hf : ρ x = .iface t v)
    (hm : ∀ w, (invoke (.fn (.method m) #[]) (#[.iface t v] ++ vals.toArray)).run P w = .ok (.enter f (#[v] ++ vals.toArray)) w) :
    (execOp ρ ⟨d, .call { callee := .invoke x m, args := xs.toArray, argTypes := ats }, ty, pos, aft, g⟩).run P w = .ok (.enter f (#[v] ++ vals.toArray)) w := by
  have h0 := hm w
  simp only [execOp, resolve, Sem.run_bind, Sem.run_pure, Result.andThen_ok, hf]
  rw [show (xs.toArray.map ρ) = vals.toArray by rw [← hv]; simp]
  exact h0
end
end Go.Proofs.YtjclgkddfjbdiaaGreatDoor
namespace Go.Proofs.YtjclgkddfjbdiaaGreatDoor.A
open Go.RowKit
inductive Abs where
  | v (u : Value)
  | sl (s : Nat) (xs : List (List Abs))
  | agg (cs : List Abs)
  | rp (cs : List Abs)
  | tup (cs : List Abs)
  | fn (f : Fn) (bs cs : List Abs)
  | ifc (t : TypeId) (a : Abs)
mutual
def rep (K : List Nat) (w : World) : Abs → Value → Prop
  | .v u, x => x = u
  | .sl s xs, x => ∃ us, IsRow K w x xs.length us ∧ repss K w s xs us
  | .agg cs, x => ∃ us : List Value, x = .agg us.toArray ∧ reps K w cs us
  | .rp cs, x => ∃ b off, ∃ us : List Value, x = .pointer (some ⟨b, off, none⟩) ∧ b ∉ K ∧ b < w.heap.size ∧ (∀ j u, us[j]? = some u → w.cell? ⟨b, off + j, none⟩ = some u) ∧ reps K w cs us
  | .tup cs, x => ∃ us : List Value, x = .tuple us.toArray ∧ reps K w cs us
  | .fn f bs cs, x => ∃ us vs : List Value, x = .func f us.toArray vs.toArray ∧ reps K w bs us ∧ reps K w cs vs
  | .ifc t a, x => ∃ u, x = .iface t u ∧ rep K w a u
def reps (K : List Nat) (w : World) : List Abs → List Value → Prop
  | [], us => us = []
  | a :: ps, us => ∃ u us', us = u :: us' ∧ rep K w a u ∧ reps K w ps us'
def repss (K : List Nat) (w : World) (s : Nat) : List (List Abs) → List Value → Prop
  | [], us => us = []
  | x :: xs, us => ∃ us1 us2, us = us1 ++ us2 ∧ us1.length = s ∧ reps K w x us1 ∧ repss K w s xs us2
end
structure Carry (K : List Nat) (w : World) (K' : List Nat) (w' : World) : Prop where
  size : w.heap.size ≤ w'.heap.size
  out : ∀ b, b ∉ K → b < w.heap.size → b ∉ K'
  at_ : ∀ b, b ∉ K → b < w.heap.size → w'.heap[b]? = w.heap[b]?
section
variable {K K' K'' F : List Nat} {w w' w'' : World}
theorem Carry.cell (h : Carry K w K' w') {b o : Nat} {u : Value} (hb : b ∉ K) (hc : w.cell? ⟨b, o, none⟩ = some u) : w'.cell? ⟨b, o, none⟩ = some u := by
  have hlt := block_lt_of_cell hc
  rw [← hc]
  exact World.cell?_of_block (w := w) (h.at_ b hb hlt)
theorem Carry.refl : Carry K w K w := ⟨Nat.le_refl _, fun _ h _ => h, fun _ _ _ => rfl⟩
theorem Carry.trans (h : Carry K w K' w') (k : Carry K' w' K'' w'') : Carry K w K'' w'' :=
  ⟨Nat.le_trans h.size k.size, fun b hb hl => k.out b (h.out b hb hl) (Nat.lt_of_lt_of_le hl h.size), fun b hb hl => (k.at_ b (h.out b hb hl) (Nat.lt_of_lt_of_le hl h.size)).trans (h.at_ b hb hl)⟩
theorem Carry.of_ext (hx : Ext F w w') (hF : ∀ k ∈ F, k ∈ K ∨ w.heap.size ≤ k) (hK : ∀ k ∈ K', k ∈ K ∨ w.heap.size ≤ k) : Carry K w K' w' :=
  ⟨hx.size, fun b hb hl hm => by rcases hK b hm with h | h <;> first | exact hb h | omega,
   fun b hb hl => hx.block b hl fun hm => by rcases hF b hm with h | h <;> first | exact hb h | omega⟩
theorem Carry.less (hK : ∀ k ∈ K', k ∈ K) : Carry K w K' w := Carry.of_ext (Ext.refl w) (F := []) (by simp) fun k hk => .inl (hK k hk)
theorem Carry.row (h : Carry K w K' w') {x : Value} {n : Nat} {cs : List Value} (hr : IsRow K w x n cs) : IsRow K' w' x n cs := by
  refine ⟨hr.shape, fun hn => ?_⟩
  obtain ⟨b, off, n', c, hv, hb, hc⟩ := hr.cells hn
  have hlt : b < w.heap.size := by
    cases cs with
    | nil => exact absurd rfl hn
    | cons u cs => exact block_lt_of_cell (hc 0 u rfl)
  exact ⟨b, off, n', c, hv, h.out b hb hlt, fun j u hu => h.cell hb (hc j u hu)⟩
end
mutual
theorem aY_ {K K' : List Nat} {w w' : World} (h : Carry K w K' w') : ∀ (a : Abs) (x : Value), rep K w a x → rep K' w' a x
  | .v _, _, hx => hx
  | .sl s xs, _, ⟨us, h1, h2⟩ => ⟨us, h.row h1, ai_ h s xs us h2⟩
  | .agg cs, _, ⟨us, h1, h2⟩ => ⟨us, h1, ae_ h cs us h2⟩
  | .rp cs, _, ⟨b, off, us, h1, h2, h3, h4, h5⟩ => ⟨b, off, us, h1, h.out b h2 h3, Nat.lt_of_lt_of_le h3 h.size, fun j u hu => h.cell h2 (h4 j u hu), ae_ h cs us h5⟩
  | .tup cs, _, ⟨us, h1, h2⟩ => ⟨us, h1, ae_ h cs us h2⟩
  | .fn _ bs cs, _, ⟨us, vs, h1, h2, h3⟩ => ⟨us, vs, h1, ae_ h bs us h2, ae_ h cs vs h3⟩
  | .ifc _ a, _, ⟨u, h1, h2⟩ => ⟨u, h1, aY_ h a u h2⟩
theorem ae_ {K K' : List Nat} {w w' : World} (h : Carry K w K' w') : ∀ (ps : List Abs) (us : List Value), reps K w ps us → reps K' w' ps us
  | [], _, hx => hx
  | a :: ps, _, ⟨u, us', h1, h2, h3⟩ => ⟨u, us', h1, aY_ h a u h2, ae_ h ps us' h3⟩
theorem ai_ {K K' : List Nat} {w w' : World} (h : Carry K w K' w') (s : Nat) : ∀ (xs : List (List Abs)) (us : List Value), repss K w s xs us → repss K' w' s xs us
  | [], _, hx => hx
  | x :: xs, _, ⟨us1, us2, h1, h2, h3, h4⟩ => ⟨us1, us2, h1, h2, ae_ h x us1 h3, ai_ h s xs us2 h4⟩
end
section
variable {K : List Nat} {w : World} {s : Nat}
theorem V_ : ∀ {ps : List Abs} {us : List Value}, reps K w ps us → us.length = ps.length
  | [], _, h => by simp [reps] at h; simp [h]
  | a :: ps, _, ⟨u, us', h1, h2, h3⟩ => by subst h1; simp [V_ h3]
theorem a9_ : ∀ {ps : List Abs} {us : List Value} {j : Nat} {a : Abs}, reps K w ps us → ps[j]? = some a → ∃ u, us[j]? = some u ∧ rep K w a u
  | [], _, _, _, _, hj => by simp at hj
  | b :: ps, _, 0, a, ⟨u, us', h1, h2, h3⟩, hj => by simp at hj; subst hj h1; exact ⟨u, rfl, h2⟩
  | b :: ps, _, j + 1, a, ⟨u, us', h1, h2, h3⟩, hj => by
    subst h1
    simp only [List.getElem?_cons_succ] at hj ⊢
    exact a9_ h3 hj
theorem aR_ : ∀ {ps bs : List Abs} {us vs : List Value}, reps K w ps us → reps K w bs vs → reps K w (ps ++ bs) (us ++ vs)
  | [], _, _, _, h, k => by simp [reps] at h; subst h; exact k
  | a :: ps, _, _, _, ⟨u, us', h1, h2, h3⟩, k => by subst h1; exact ⟨u, _, rfl, h2, aR_ h3 k⟩
theorem dl_ : ∀ {ps bs : List Abs} {us : List Value}, reps K w (ps ++ bs) us → ∃ us1 us2, us = us1 ++ us2 ∧ us1.length = ps.length ∧ reps K w ps us1 ∧ reps K w bs us2
  | [], bs, us, h => ⟨[], us, rfl, rfl, rfl, h⟩
  | a :: ps, bs, _, ⟨u, us', h1, h2, h3⟩ => by
    subst h1
    obtain ⟨us1, us2, h4, h5, h6, h7⟩ := dl_ h3
    exact ⟨u :: us1, us2, by simp [h4], by simp [h5], ⟨u, us1, rfl, h2, h6⟩, h7⟩
theorem cc_ {ps : List Abs} {us : List Value} (h : reps K w ps us) (n : Nat) : reps K w (ps.take n) (us.take n) := by
  have h1 := h
  rw [← List.take_append_drop n ps] at h1
  obtain ⟨us1, us2, h4, h5, h6, h7⟩ := dl_ h1
  have hl := V_ h
  have : us.take n = us1 := by
    subst h4
    rw [List.length_take] at h5
    rcases Nat.le_total n ps.length with hn | hn
    · rw [List.take_append_of_le_length (by omega), List.take_of_length_le (by omega)]
    · have h8 := V_ h7
      rw [List.length_drop] at h8
      have h9 : us2 = [] := List.length_eq_zero_iff.1 (by omega)
      subst h9
      rw [List.append_nil, List.take_of_length_le (by omega)]
  rw [this]; exact h6
theorem cY_ {ps : List Abs} {us : List Value} (h : reps K w ps us) (n : Nat) : reps K w (ps.drop n) (us.drop n) := by
  have h1 := h
  rw [← List.take_append_drop n ps] at h1
  obtain ⟨us1, us2, h4, h5, h6, h7⟩ := dl_ h1
  have hl := V_ h
  have h8 := V_ h7
  rw [List.length_drop] at h8
  have : us.drop n = us2 := by
    subst h4
    rw [List.length_take] at h5
    rcases Nat.le_total n ps.length with hn | hn
    · have : us1.length = n := by omega
      subst this; simp
    · have h9 : us2 = [] := List.length_eq_zero_iff.1 (by omega)
      subst h9
      simp; omega
  rw [this]; exact h7
theorem aE_ : ∀ {xs : List (List Abs)} {us : List Value}, repss K w s xs us → us.length = xs.length * s
  | [], _, h => by simp [repss] at h; simp [h]
  | x :: xs, _, ⟨us1, us2, h1, h2, h3, h4⟩ => by subst h1; simp [aE_ h4, h2, Nat.succ_mul]; omega
theorem d3_ : ∀ {xs : List (List Abs)} {us : List Value} {q : Nat} {x : List Abs}, repss K w s xs us → xs[q]? = some x → ∃ vs : List Value, vs.length = s ∧ reps K w x vs ∧ ∀ j u, vs[j]? = some u → us[q * s + j]? = some u
  | [], _, _, _, _, hj => by simp at hj
  | y :: xs, _, 0, x, ⟨us1, us2, h1, h2, h3, h4⟩, hj => by
    simp at hj; subst hj h1
    refine ⟨us1, h2, h3, fun j u hu => ?_⟩
    rw [Nat.zero_mul, Nat.zero_add, List.getElem?_append_left (List.getElem?_eq_some_iff.1 hu).1]; exact hu
  | y :: xs, _, q + 1, x, ⟨us1, us2, h1, h2, h3, h4⟩, hj => by
    subst h1
    simp only [List.getElem?_cons_succ] at hj
    obtain ⟨vs, h5, h6, h7⟩ := d3_ h4 hj
    refine ⟨vs, h5, h6, fun j u hu => ?_⟩
    have : (q + 1) * s + j = us1.length + (q * s + j) := by rw [Nat.succ_mul]; omega
    rw [this, List.getElem?_append_right (by omega), Nat.add_sub_cancel_left]; exact h7 j u hu
theorem aX_ : ∀ {xs ys : List (List Abs)} {us vs : List Value}, repss K w s xs us → repss K w s ys vs → repss K w s (xs ++ ys) (us ++ vs)
  | [], _, _, _, h, k => by simp [repss] at h; subst h; exact k
  | x :: xs, _, _, _, ⟨us1, us2, h1, h2, h3, h4⟩, k => by subst h1; exact ⟨us1, _, by simp, h2, h3, aX_ h4 k⟩
theorem cB_ : ∀ {xs ys : List (List Abs)} {us : List Value}, repss K w s (xs ++ ys) us → ∃ us1 us2, us = us1 ++ us2 ∧ repss K w s xs us1 ∧ repss K w s ys us2
  | [], ys, us, h => ⟨[], us, rfl, rfl, h⟩
  | x :: xs, ys, _, ⟨us1, us2, h1, h2, h3, h4⟩ => by
    subst h1
    obtain ⟨a, b, h5, h6, h7⟩ := cB_ h4
    exact ⟨us1 ++ a, b, by simp [h5], ⟨us1, a, rfl, h2, h3, h6⟩, h7⟩
theorem di_ : ∀ {us : List Value}, repss K w 1 (us.map fun u => [.v u]) us
  | [] => rfl
  | u :: us => ⟨[u], us, rfl, rfl, ⟨u, [], rfl, rfl, rfl⟩, di_⟩
theorem cX_ : ∀ {us vs : List Value}, repss K w 1 (us.map fun u => [.v u]) vs → vs = us
  | [], vs, h => h
  | u :: us, vs, ⟨us1, us2, h1, h2, ⟨_, _, h3, h4, h5⟩, h6⟩ => by
    have := cX_ h6
    simp only [rep, reps] at h4 h5
    subst h4 h5 h3 h1 this
    rfl
end
def Abs.one : Abs → Bool
  | .v u => u.oneCell'
  | .agg _ => false
  | .tup _ => false
  | _ => true
theorem Abs.one_rep {K : List Nat} {w : World} {a : Abs} {x : Value} (h : rep K w a x) (h1 : a.one = true) : x.oneCell' = true := by
  cases a with
  | v u => have : x = u := h; subst this; exact h1
  | sl s xs => obtain ⟨us, hr, _⟩ := h; obtain ⟨A, c, rfl, _⟩ := hr.shape; rfl
  | rp cs => obtain ⟨b, o, us, rfl, _⟩ := h; rfl
  | fn f bs cs => obtain ⟨us, vs, rfl, _⟩ := h; rfl
  | ifc t a => obtain ⟨u, rfl, _⟩ := h; rfl
  | agg cs => cases h1
  | tup cs => cases h1
def ones : List Abs → Bool
  | [] => true
  | a :: ps => a.one && ones ps
theorem bN_ {K : List Nat} {w : World} : ∀ {ps : List Abs} {us : List Value}, reps K w ps us → ones ps = true → ∀ u ∈ us, u.oneCell' = true
  | [], _, h, _, u, hu => by simp [reps] at h; subst h; cases hu
  | a :: ps, _, ⟨x, us', h1, h2, h3⟩, ho, u, hu => by
    subst h1
    simp only [ones, Bool.and_eq_true] at ho
    rcases List.mem_cons.1 hu with rfl | hu
    · exact Abs.one_rep h2 ho.1
    · exact bN_ h3 ho.2 u hu
theorem bC_ {ps : List Abs} : ones ps = true ↔ ∀ a ∈ ps, a.one = true := by
  induction ps with
  | nil => simp [ones]
  | cons a ps ih => simp [ones, ih]
/-! ### Pieces of memory -/
structure Pc where
  ids : List Nat
  p : List Nat → World → Prop
  carry : ∀ K w K' w', Carry K w K' w' → (∀ k ∈ ids, w'.heap[k]? = w.heap[k]?) → p K w → p K' w'
  lt : ∀ K w, p K w → ∀ k ∈ ids, k < w.heap.size
inductive It where
  | blk (b : Nat) (t : TypeId) (cs : List Abs)
  | pc (c : Pc)
  | rd (b : Nat) (t : TypeId) (cs : List Abs)
  | rdpc (c : Pc)
abbrev Blks := List It
def It.mids : It → List Nat
  | .blk b _ _ => [b]
  | .pc c => c.ids
  | _ => []
def It.rids : It → List Nat
  | .rd b _ _ => [b]
  | .rdpc c => c.ids
  | _ => []
def It.holds (K : List Nat) (w : World) : It → Prop
  | .blk b t cs => ∃ us, w.heap[b]? = some (row t us) ∧ reps K w cs us
  | .rd b t cs => ∃ us, w.heap[b]? = some (row t us) ∧ reps K w cs us
  | .pc c => c.p K w
  | .rdpc c => c.p K w
def It.toRd : It → It
  | .blk b t cs => .rd b t cs
  | .pc c => .rdpc c
  | x => x
def mids (σ : Blks) : List Nat := σ.flatMap It.mids
theorem aN_ {w : World} {b : Nat} {o : Obj} (h : w.heap[b]? = some o) : b < w.heap.size := by
  rcases Nat.lt_or_ge b w.heap.size with h1 | h1
  · exact h1
  · rw [Array.getElem?_eq_none h1] at h; cases h
section
variable {K K' : List Nat} {w w' : World} {x : It} {σ τ : Blks}
theorem It.lt (h : x.holds K w) : ∀ k ∈ x.mids ++ x.rids, k < w.heap.size := by
  intro k hk
  cases x with
  | blk b t cs => obtain ⟨us, hb, _⟩ := h; simp [It.mids, It.rids] at hk; subst hk; exact aN_ hb
  | rd b t cs => obtain ⟨us, hb, _⟩ := h; simp [It.mids, It.rids] at hk; subst hk; exact aN_ hb
  | pc c => exact c.lt _ _ h k (by simpa [It.mids, It.rids] using hk)
  | rdpc c => exact c.lt _ _ h k (by simpa [It.mids, It.rids] using hk)
theorem It.carry (h : x.holds K w) (hc : Carry K w K' w') (hs : ∀ k ∈ x.mids ++ x.rids, w'.heap[k]? = w.heap[k]?) : x.holds K' w' := by
  cases x with
  | blk b t cs => obtain ⟨us, hb, hr⟩ := h; exact ⟨us, (hs b (by simp [It.mids])).trans hb, ae_ hc _ _ hr⟩
  | rd b t cs => obtain ⟨us, hb, hr⟩ := h; exact ⟨us, (hs b (by simp [It.rids])).trans hb, ae_ hc _ _ hr⟩
  | pc c => exact c.carry _ _ _ _ hc (fun k hk => hs k (by simp [It.mids, hk])) h
  | rdpc c => exact c.carry _ _ _ _ hc (fun k hk => hs k (by simp [It.rids, hk])) h
theorem bD_ {k : Nat} : k ∈ mids σ ↔ ∃ x ∈ σ, k ∈ x.mids := by simp [mids]
theorem L_ : mids (σ ++ τ) = mids σ ++ mids τ := by simp [mids]
theorem ad_ : mids (x :: σ) = x.mids ++ mids σ := by simp [mids]
theorem ho_ (h : τ.Sublist σ) : (mids τ).Sublist (mids σ) := by
  unfold mids
  induction h with
  | slnil => simp
  | cons a _ ih => simp only [List.flatMap_cons]; exact ih.trans (List.sublist_append_right _ _)
  | cons_cons a _ ih => simp only [List.flatMap_cons]; exact (List.Sublist.refl _).append ih
theorem cd_ (h : τ.Perm σ) : (mids τ).Perm (mids σ) := by unfold mids; exact h.flatMap_right _
end
structure Mem (w0 : World) (F G : List Nat) (σ : Blks) (w : World) : Prop where
  ext : Ext F w0 w
  out : ∀ k ∈ mids σ, k ∈ F ∨ w0.heap.size ≤ k
  sep : ∀ k ∈ mids σ, k ∉ G
  old : ∀ k ∈ G, k < w.heap.size
  ro : ∀ x ∈ σ, ∀ k ∈ x.rids, k ∈ G
  nodup : (mids σ).Nodup
  hold : ∀ x ∈ σ, x.holds (mids σ ++ G) w
inductive Upd (x y : It) : Blks → Blks → Prop
  | here {σ : Blks} : Upd x y (x :: σ) (y :: σ)
  | there {z : It} {σ τ : Blks} (h : Upd x y σ τ) : Upd x y (z :: σ) (z :: τ)
section
variable {w0 w w' : World} {F G Y : List Nat} {σ τ : Blks} {x y : It}
theorem Upd.split (h : Upd x y σ τ) : ∃ α β, σ = α ++ x :: β ∧ τ = α ++ y :: β := by
  induction h with
  | here => exact ⟨[], _, rfl, rfl⟩
  | there _ ih => obtain ⟨α, β, h1, h2⟩ := ih; exact ⟨_ :: α, β, by rw [h1]; rfl, by rw [h2]; rfl⟩
theorem Upd.mem (h : Upd x y σ τ) : x ∈ σ := by obtain ⟨α, β, rfl, rfl⟩ := h.split; simp
theorem Mem.lt (h : Mem w0 F G σ w) : ∀ k ∈ mids σ ++ G, k < w.heap.size := fun k hk => by
  rcases List.mem_append.1 hk with hk | hk
  · obtain ⟨x, hx, hk⟩ := bD_.1 hk; exact It.lt (h.hold x hx) k (List.mem_append_left _ hk)
  · exact h.old k hk
theorem Mem.step (h : Mem w0 F G σ w) (hx : Ext Y w w') (hY : ∀ k ∈ Y, k ∈ mids σ) (hτ : ∀ k ∈ mids τ, k ∈ mids σ ∨ w.heap.size ≤ k) (hro : ∀ x ∈ τ, ∀ k ∈ x.rids, k ∈ G) (hn : (mids τ).Nodup)
    (hh : Carry (mids σ ++ G) w (mids τ ++ G) w' → ∀ x ∈ τ, x.holds (mids τ ++ G) w') : Mem w0 F G τ w' ∧ Carry (mids σ ++ G) w (mids τ ++ G) w' := by
  have hc : Carry (mids σ ++ G) w (mids τ ++ G) w' := Carry.of_ext hx (fun k hk => .inl (List.mem_append_left _ (hY k hk))) fun k hk => by
    rcases List.mem_append.1 hk with hk | hk
    · rcases hτ k hk with h1 | h1
      · exact .inl (List.mem_append_left _ h1)
      · exact .inr h1
    · exact .inl (List.mem_append_right _ hk)
  refine ⟨⟨h.ext.trans hx fun k hk => h.out k (hY k hk), fun k hk => ?_, fun k hk hg => ?_, fun k hk => Nat.lt_of_lt_of_le (h.old k hk) hx.size, hro, hn, hh hc⟩, hc⟩
  · rcases hτ k hk with h1 | h1
    · exact h.out k h1
    · exact .inr (Nat.le_trans h.ext.size h1)
  · rcases hτ k hk with h1 | h1
    · exact h.sep k h1 hg
    · have := h.old k hg; omega
theorem Mem.keep (h : Mem w0 F G σ w) (hx : Ext Y w w') {K' : List Nat} (hc : Carry (mids σ ++ G) w K' w') (hz : y ∈ σ) (hY : ∀ k ∈ y.mids, k ∉ Y) (hY2 : ∀ k ∈ Y, k ∈ mids σ) : y.holds K' w' :=
  It.carry (h.hold y hz) hc fun k hk => hx.block k (It.lt (h.hold y hz) k hk) fun hm => by
    rcases List.mem_append.1 hk with hk | hk
    · exact hY k hk hm
    · exact h.sep k (hY2 k hm) (h.ro y hz k hk)
theorem Mem.same (h : Mem w0 F G σ w) (hx : Ext [] w w') : Mem w0 F G σ w' ∧ Carry (mids σ ++ G) w (mids σ ++ G) w' :=
  h.step hx (by simp) (fun k hk => .inl hk) h.ro h.nodup fun hc x hm => h.keep hx hc hm (by simp) (by simp)
theorem Mem.new (h : Mem w0 F G σ w) (hx : Ext [] w w') (hn : y.mids.Nodup) (hid : ∀ k ∈ y.mids, w.heap.size ≤ k) (hr : y.rids = []) (hy : Carry (mids σ ++ G) w (mids (y :: σ) ++ G) w' → y.holds (mids (y :: σ) ++ G) w') : Mem w0 F G (y :: σ) w' ∧ Carry (mids σ ++ G) w (mids (y :: σ) ++ G) w' := by
  refine h.step hx (by simp) (fun k hk => ?_) (fun x hm => ?_) ?_ fun hc x hm => ?_
  · rw [ad_] at hk
    rcases List.mem_append.1 hk with hk | hk
    · exact .inr (hid k hk)
    · exact .inl hk
  · rcases List.mem_cons.1 hm with rfl | hm
    · simp [hr]
    · exact h.ro x hm
  · rw [ad_, List.nodup_append]
    refine ⟨hn, h.nodup, fun a ha b hb he => ?_⟩
    subst he
    have := h.lt a (List.mem_append_left _ hb)
    have := hid a ha
    omega
  · rcases List.mem_cons.1 hm with rfl | hm
    · exact hy hc
    · exact h.keep hx hc hm (by simp) (by simp)
theorem Mem.alloc (h : Mem w0 F G σ w) (t : TypeId) {cs : List Abs} {us : List Value} (hr : reps (mids σ ++ G) w cs us) : Mem w0 F G (.blk w.heap.size t cs :: σ) (w.alloc (row t us)) ∧ Carry (mids σ ++ G) w (mids (.blk w.heap.size t cs :: σ) ++ G) (w.alloc (row t us)) :=
  h.new ((Ext.refl w).alloc _) (by simp [It.mids]) (by simp [It.mids]) rfl fun hc => ⟨us, heap_alloc_new w _, ae_ hc _ _ hr⟩
theorem Mem.upd (h : Mem w0 F G σ w) (u : Upd x y σ τ) (hx : Ext x.mids w w') (hn : y.mids.Nodup) (hid : ∀ k ∈ y.mids, k ∈ x.mids ∨ w.heap.size ≤ k) (hr : y.rids = []) (hy : Carry (mids σ ++ G) w (mids τ ++ G) w' → y.holds (mids τ ++ G) w') : Mem w0 F G τ w' ∧ Carry (mids σ ++ G) w (mids τ ++ G) w' := by
  obtain ⟨α, β, rfl, rfl⟩ := u.split
  have hnd := h.nodup
  simp only [L_, ad_, List.nodup_append] at hnd
  obtain ⟨n1, ⟨n2, n3, n4⟩, n5⟩ := hnd
  have hlt := h.lt
  refine h.step hx (fun k hk => ?_) (fun k hk => ?_) (fun z hm => ?_) ?_ fun hc z hm => ?_
  · simp [L_, ad_, hk]
  · simp only [L_, ad_, List.mem_append] at hk ⊢
    rcases hk with hk | hk | hk
    · simp [hk]
    · rcases hid k hk with h1 | h1
      · simp [h1]
      · exact .inr h1
    · simp [hk]
  · simp only [List.mem_append, List.mem_cons] at hm
    rcases hm with hm | rfl | hm
    · exact h.ro z (by simp [hm])
    · simp [hr]
    · exact h.ro z (by simp [hm])
  · have hout : ∀ k ∈ y.mids, (k ∉ mids α) ∧ k ∉ mids β := fun k hk => by
      rcases hid k hk with h1 | h1
      · exact ⟨fun h2 => n5 k h2 k (List.mem_append_left _ h1) rfl, fun h2 => n4 k h1 k h2 rfl⟩
      · refine ⟨fun h2 => ?_, fun h2 => ?_⟩
        · have := hlt k (by simp [L_, ad_, h2]); omega
        · have := hlt k (by simp [L_, ad_, h2]); omega
    simp only [L_, ad_, List.nodup_append]
    refine ⟨n1, ⟨hn, n3, fun a ha b hb he => ?_⟩, fun a ha b hb he => ?_⟩
    · subst he; exact (hout a ha).2 hb
    · subst he
      rcases List.mem_append.1 hb with hb | hb
      · exact (hout a hb).1 ha
      · exact n5 a ha a (List.mem_append_right _ hb) rfl
  · simp only [List.mem_append, List.mem_cons] at hm
    have hY2 : ∀ k ∈ x.mids, k ∈ mids (α ++ x :: β) := fun k hk => by simp [L_, ad_, hk]
    rcases hm with hm | rfl | hm
    · exact h.keep hx hc (by simp [hm]) (fun k hk hx => n5 k (bD_.2 ⟨z, hm, hk⟩) k (List.mem_append_left _ hx) rfl) hY2
    · exact hy hc
    · exact h.keep hx hc (by simp [hm]) (fun k hk hx => n4 k hx k (bD_.2 ⟨z, hm, hk⟩) rfl) hY2
theorem Mem.sub (h : Mem w0 F G σ w) (hs : τ.Sublist σ) : Mem w0 F G τ w ∧ Carry (mids σ ++ G) w (mids τ ++ G) w :=
  h.step (Ext.refl w) (Y := []) (by simp) (fun k hk => .inl ((ho_ hs).subset hk)) (fun x hx => h.ro x (hs.subset hx)) (h.nodup.sublist (ho_ hs)) fun hc x hm => h.keep (Ext.refl w) (Y := []) hc (hs.subset hm) (by simp) (by simp)
theorem Mem.perm (h : Mem w0 F G σ w) (hs : τ.Perm σ) : Mem w0 F G τ w ∧ Carry (mids σ ++ G) w (mids τ ++ G) w :=
  h.step (Ext.refl w) (Y := []) (by simp) (fun k hk => .inl ((cd_ hs).subset hk)) (fun x hx => h.ro x (hs.subset hx)) ((cd_ hs).nodup_iff.2 h.nodup) fun hc x hm => h.keep (Ext.refl w) (Y := []) hc (hs.subset hm) (by simp) (by simp)
end
abbrev Slots := List (Nat × Abs)
def slot : Slots → Nat → Option Abs
  | [], _ => none
  | (i, v) :: l, t => bif Nat.beq i t then some v else slot l t
def look (l : Slots) : Operand → Option Abs
  | .tmp t => slot l t
  | .const v => some (.v v)
  | .global g => some (.v (.pointer (some ⟨g, 0, none⟩)))
  | .func f => some (.fn (.func f) [] [])
def looks (l : Slots) : List Operand → Option (List Abs)
  | [] => some []
  | x :: xs => match look l x, looks l xs with
    | some v, some vs => some (v :: vs)
    | _, _ => none
def put? (l : Slots) (d : Option Nat) (v : Abs) : Slots := match d with
  | some d => (d, v) :: l
  | none => l
def Subs (l : Slots) : Slots → Prop
  | [] => True
  | (t, v) :: r => slot l t = some v ∧ Subs l r
theorem Subs.slot {l : Slots} : ∀ {r : Slots}, Subs l r → ∀ t v, slot r t = some v → A.slot l t = some v
  | [], _, t, v, h => by simp [A.slot] at h
  | (i, u) :: r, hs, t, v, h => by
    unfold A.slot at h
    by_cases hit : i = t
    · subst hit
      simp at h
      subst h
      exact hs.1
    · have : Nat.beq i t = false := b5_ hit
      rw [this] at h
      exact hs.2.slot t v h
structure Wd where
  w0 : World
  F : List Nat
  G : List Nat
structure St (n : Nat) (W : Wd) (σ : Blks) (l : Slots) (a : Act) (w : World) : Prop where
  defers : a.defers = []
  size : a.tmps.size = n
  slots : ∀ t x, slot l t = some x → ∃ u, a.tmps[t]? = some u ∧ rep (mids σ ++ W.G) w x u
  mem : Mem W.w0 W.F W.G σ w
section
variable {n : Nat} {W : Wd} {σ τ : Blks} {l l' : Slots} {a : Act} {w w' : World} {x : Operand} {y : Abs} {v u : Value}
theorem rep_fn0 {K : List Nat} {f : Fn} {x : Value} : rep K w (.fn f [] []) x ↔ x = .func f #[] #[] := by
  simp only [rep, reps]
  constructor
  · rintro ⟨us, vs, h, h1, h2⟩; subst h1 h2; exact h
  · rintro rfl; exact ⟨[], [], rfl, rfl, rfl⟩
theorem St.eval (h : St n W σ l a w) (hx : look l x = some y) : rep (mids σ ++ W.G) w y (a.eval x) := by
  cases x with
  | tmp t =>
    obtain ⟨u, h1, h2⟩ := h.slots t y hx
    have : a.eval (.tmp t) = u := by simp [Act.eval, h1]
    rw [this]; exact h2
  | const c => simp only [look, Option.some.injEq] at hx; subst hx; exact rfl
  | global g => simp only [look, Option.some.injEq] at hx; subst hx; exact rfl
  | func f => simp only [look, Option.some.injEq] at hx; subst hx; exact rep_fn0.2 rfl
theorem St.plain (h : St n W σ l a w) (hx : look l x = some (.v u)) : a.eval x = u := h.eval hx
theorem St.evals (h : St n W σ l a w) : ∀ {xs : List Operand} {ys : List Abs}, looks l xs = some ys → reps (mids σ ++ W.G) w ys (xs.map a.eval)
  | [], ys, hx => by simp [looks] at hx; subst hx; rfl
  | x :: xs, ys, hx => by
    unfold looks at hx
    cases h1 : look l x with
    | none => simp [h1] at hx
    | some v =>
      cases h2 : looks l xs with
      | none => simp [h1, h2] at hx
      | some us =>
        simp [h1, h2] at hx
        subst hx
        exact ⟨_, _, rfl, h.eval h1, h.evals h2⟩
theorem St.to (h : St n W σ l a w) (hm : Mem W.w0 W.F W.G τ w') (hc : Carry (mids σ ++ W.G) w (mids τ ++ W.G) w') : St n W τ l a w' :=
  ⟨h.defers, h.size, fun t x hx => by obtain ⟨u, h1, h2⟩ := h.slots t x hx; exact ⟨u, h1, aY_ hc _ _ h2⟩, hm⟩
theorem St.put (h : St n W σ l a w) {d : Option Nat} (hd : lt? d n = true) (hr : rep (mids σ ++ W.G) w y v) : St n W σ (put? l d y) (a.put d v) w := by
  cases d with
  | none => exact h
  | some d =>
    have hd : d < n := by simpa [lt?, Nat.blt_eq] using hd
    refine ⟨h.defers, by simp [Act.put, h.size], fun t x hx => ?_, h.mem⟩
    simp only [A.put?] at hx
    unfold slot at hx
    by_cases hdt : d = t
    · subst hdt
      simp at hx
      subst hx
      exact ⟨v, by simp [Act.put, h.size, hd], hr⟩
    · rw [b5_ hdt] at hx
      obtain ⟨u, h1, h2⟩ := h.slots t x hx
      refine ⟨u, ?_, h2⟩
      simp only [Act.put]
      rw [Array.getElem?_setIfInBounds_ne hdt]; exact h1
theorem St.sub (h : St n W σ l a w) {r : Slots} (hs : Subs l r) : St n W σ r a w := ⟨h.defers, h.size, fun t v hv => h.slots t v (hs.slot t v hv), h.mem⟩
theorem St.less (h : St n W σ l a w) (hs : τ.Sublist σ) : St n W τ l a w := let ⟨h1, h2⟩ := h.mem.sub hs; h.to h1 h2
theorem St.perm (h : St n W σ l a w) (hs : τ.Perm σ) : St n W τ l a w := let ⟨h1, h2⟩ := h.mem.perm hs; h.to h1 h2
theorem St.drew (h : St n W σ l a w) : St n W σ l a w.drew := let ⟨h1, h2⟩ := h.mem.same (Still.ext (Still.drewN w 1)); h.to h1 h2
theorem St.cast (h : St n W σ l a w) {t : Nat} {z : Abs} (hs : slot l t = some y) (hz : ∀ u, rep (mids σ ++ W.G) w y u → rep (mids σ ++ W.G) w z u) : St n W σ ((t, z) :: l) a w := by
  refine ⟨h.defers, h.size, fun i x hx => ?_, h.mem⟩
  unfold slot at hx
  by_cases hti : t = i
  · subst hti
    simp at hx
    subst hx
    obtain ⟨u, h1, h2⟩ := h.slots _ _ hs
    exact ⟨u, h1, hz u h2⟩
  · rw [b5_ hti] at hx
    exact h.slots i x hx
def gd (ops : Array Oper) (l : Slots) (o : Oper) : Option Bool := match o.guard with
  | none => some true
  | some (j, want) => match (ops[j]?).bind (·.dst) with
    | some d => match slot l d with
      | some (.v (.bool b)) => some (b == want)
      | some (.v (.tuple _)) => some false
      | _ => none
    | none => none
theorem St.wanted (h : St n W σ l a w) {ops : Array Oper} {o : Oper} {r : Bool} (hg : gd ops l o = some r) : Region.wanted o (yielded ops a.tmps) = r := by
  unfold gd at hg
  unfold Region.wanted
  cases hgd : o.guard with
  | none => simp [hgd] at hg; show true = r; exact hg.symm
  | some p =>
    obtain ⟨j, want⟩ := p
    simp only [hgd] at hg
    dsimp only
    unfold yielded
    cases hd : (ops[j]?).bind (·.dst) with
    | none => simp [hd] at hg
    | some d =>
      simp only [hd] at hg
      cases hs : slot l d with
      | none => simp [hs] at hg
      | some y =>
        simp only [hs] at hg
        obtain ⟨u, h1, h2⟩ := h.slots d y hs
        simp only [Option.bind_some, h1]
        cases y with
        | v c =>
          have : u = c := h2
          subst this
          cases u <;> simp at hg
          · rename_i b
            rw [← hg]
            cases b <;> cases want <;> rfl
          · rw [hg]
            cases want <;> rfl
        | _ => simp at hg
end
/-! ### Judgements -/
section
variable {P : Program} {n : Nat} {W : Wd} {ops : Array Oper} {l : Slots} {σ τ : Blks} {X : List Nat} {Q : Exit → Act → World → Prop} {o : Oper} {rest : List Oper} {ix : Plan} {T : Act → World → Prop}
def SL (P : Program) (ops : Array Oper) (rest : List Oper) (T : Act → World → Prop) (Q : Exit → Act → World → Prop) : Prop := ∀ a w, T a w → wpList P ops Q rest a w
def SC (P : Program) (c : Code) (T : Act → World → Prop) (Q : Exit → Act → World → Prop) : Prop := ∀ a w, T a w → c.wp P Q a w
def SE (e : Exit) (T : Act → World → Prop) (Q : Exit → Act → World → Prop) : Prop := ∀ a w, T a w → Q e a w
def SX (P : Program) (ops : Array Oper) (ix : Plan) (X : List Nat) (T : Act → World → Prop) (Q : Exit → Act → World → Prop) : Prop := ∀ a w, T a w → planW P ops (Q .normal) ix (fun w' => Ext X w w') a w
def Val (P : Program) (n : Nat) (W : Wd) (σ : Blks) (l : Slots) (X : List Nat) (o : Oper) (y : Abs) : Prop := ∀ a w, St n W σ l a w → (∀ k ∈ X, k ∈ mids σ) →
  ∃ v, rep (mids σ ++ W.G) w y v ∧ ∀ w', Ext X w w' → (execOp a.eval o).run P w' = .ok (.value v) w'
def Eff (P : Program) (n : Nat) (W : Wd) (σ : Blks) (l : Slots) (Y : List Nat) (o : Oper) (R : Abs → Blks → Prop) : Prop := ∀ a w, St n W σ l a w →
  ∃ v w' y τ, R y τ ∧ Ext Y w w' ∧ rep (mids τ ++ W.G) w' y v ∧ Mem W.w0 W.F W.G τ w' ∧ Carry (mids σ ++ W.G) w (mids τ ++ W.G) w' ∧
  ((execOp a.eval o).run P w = .ok (.value v) w' ∨ (v = undef ∧ (execOp a.eval o).run P w = .ok .skip w'))
theorem g_ (h : SE .normal T Q) : SL P ops [] T Q := h
theorem d_ {y : Abs} (hv : Val P n W σ l [] o y) (hg : gd ops l o = some true) (hd : lt? o.dst n = true) (k : SL P ops rest (St n W σ (put? l o.dst y)) Q) : SL P ops (o :: rest) (St n W σ l) Q := fun a w hs =>
  wpList_step fun K hK => by
    rw [if_pos (hs.wanted hg)]
    obtain ⟨v, hr, hrun⟩ := hv a w hs (by simp)
    unfold Oper.wp
    rw [hrun w (Ext.refl w)]
    exact hK _ _ (k _ _ (hs.put hd hr))
theorem aT_ {Y : List Nat} {R : Abs → Blks → Prop} (hv : Eff P n W σ l Y o R) (hg : gd ops l o = some true) (hd : lt? o.dst n = true) (k : ∀ y τ, R y τ → SL P ops rest (St n W τ (put? l o.dst y)) Q) : SL P ops (o :: rest) (St n W σ l) Q := fun a w hs =>
  wpList_step fun K hK => by
    rw [if_pos (hs.wanted hg)]
    unfold Oper.wp
    obtain ⟨v, w', y, τ, hR, _, hr, hm, hc, hrun | ⟨rfl, hrun⟩⟩ := hv a w hs
    · rw [hrun]; exact hK _ _ (k _ _ hR _ _ ((hs.to hm hc).put hd hr))
    · rw [hrun]; exact hK _ _ (k _ _ hR _ _ ((hs.to hm hc).put hd hr))
theorem aD_ (hg : gd ops l o = some false) (hd : lt? o.dst n = true) (k : SL P ops rest (St n W σ (put? l o.dst (.v undef))) Q) : SL P ops (o :: rest) (St n W σ l) Q := fun a w hs =>
  wpList_step fun K hK => by
    rw [if_neg (by rw [hs.wanted hg]; simp)]
    exact hK _ _ (k _ _ (hs.put hd (show rep _ _ (.v undef) undef from rfl)))
theorem fq_ {t : Nat} {b : Bool} (hs : slot l t = some (.v (.bool b))) (ht : b = true → SL P ops rest (St n W σ ((t, .v (.bool true)) :: l)) Q) (hf : b = false → SL P ops rest (St n W σ ((t, .v (.bool false)) :: l)) Q) : SL P ops rest (St n W σ l) Q := fun a w h => by
  cases b with
  | true => exact ht rfl a w (h.cast hs fun _ h => h)
  | false => exact hf rfl a w (h.cast hs fun _ h => h)
theorem D_ {t : Nat} {p : Prop} [hp : Decidable p] (hs : slot l t = some (.v (.bool (decide p)))) (ht : p → SL P ops rest (St n W σ ((t, .v (.bool true)) :: l)) Q) (hf : ¬p → SL P ops rest (St n W σ ((t, .v (.bool false)) :: l)) Q) : SL P ops rest (St n W σ l) Q :=
  fq_ hs (fun h => ht (of_decide_eq_true h)) (fun h => hf (of_decide_eq_false h))
theorem C_ (h : SE .normal T Q) : SX P ops .nil X T Q := fun a w hs => h a w hs
theorem j_ {i : Nat} {y : Abs} (hi : ops[i]? = some o) (hv : Val P n W σ l X o y) (hX : ∀ k ∈ X, k ∈ mids σ) (hg : gd ops l o = some true) (hd : lt? o.dst n = true) (k : SX P ops ix X (St n W σ (put? l o.dst y)) Q) : SX P ops (.q i ix) X (St n W σ l) Q := fun a w hs => by
  obtain ⟨v, hr, hrun⟩ := hv a w hs hX
  exact ⟨o, v, hi, .inl ⟨hs.wanted hg, fun w' hw' => hrun w' hw'⟩, k _ _ (hs.put hd hr)⟩
theorem X_ (h : ∀ k ∈ X, k ∈ mids σ) (k : (∀ k ∈ X, k ∈ mids σ) → SX P ops ix X (St n W σ l) Q) : SX P ops ix X (St n W σ l) Q := k h
theorem dw_ {i : Nat} (hi : ops[i]? = some o) (hg : gd ops l o = some false) (hd : lt? o.dst n = true) (k : SX P ops ix X (St n W σ (put? l o.dst (.v undef))) Q) : SX P ops (.q i ix) X (St n W σ l) Q := fun _ _ hs =>
  ⟨o, undef, hi, .inr ⟨hs.wanted hg, rfl⟩, k _ _ (hs.put hd (show rep _ _ (.v undef) undef from rfl))⟩
theorem bc_ {i : Nat} (hi : ops[i]? = some o) (hg : gd ops l o = some false) (hd : lt? o.dst n = true) (k : SX P ops ix X (St n W σ (put? l o.dst (.v undef))) Q) : SX P ops (.e i ix) X (St n W σ l) Q := fun a w hs => by
  unfold planW wpOp
  simp only [hi, hs.wanted hg]
  exact ⟨_, fun _ h => h, Ext.refl w, k _ _ (hs.put hd (show rep _ _ (.v undef) undef from rfl))⟩
theorem gd_ {i : Nat} {Y : List Nat} {R : Abs → Blks → Prop} (hi : ops[i]? = some o) (hv : Eff P n W σ l Y o R) (hY : ∀ k ∈ Y, k ∈ X) (hg : gd ops l o = some true) (hd : lt? o.dst n = true)
    (k : ∀ y τ, R y τ → SX P ops ix X (St n W τ (put? l o.dst y)) Q) : SX P ops (.e i ix) X (St n W σ l) Q := fun a w hs => by
  unfold planW wpOp
  simp only [hi, hs.wanted hg, if_true]
  refine .inl ?_
  unfold Oper.wp
  obtain ⟨v, w', y, τ, hR, hx, hr, hm, hc, hrun | ⟨rfl, hrun⟩⟩ := hv a w hs
  · rw [hrun]; exact ⟨fun w2 => Ext X w' w2, fun w2 h2 => (hx.mono (fun k hk => .inl (hY k hk))).trans h2 fun k hk => .inl hk, Ext.refl w', k _ _ hR _ _ ((hs.to hm hc).put hd hr)⟩
  · rw [hrun]; exact ⟨fun w2 => Ext X w' w2, fun w2 h2 => (hx.mono (fun k hk => .inl (hY k hk))).trans h2 fun k hk => .inl hk, Ext.refl w', k _ _ hR _ _ ((hs.to hm hc).put hd hr)⟩
theorem ez_ {i : Nat} {y : Abs} (hi : ops[i]? = some o) (hv : Val P n W σ l [] o y) (hg : gd ops l o = some true) (hd : lt? o.dst n = true) (k : SX P ops ix X (St n W σ (put? l o.dst y)) Q) : SX P ops (.e i ix) X (St n W σ l) Q := fun a w hs => by
  unfold planW wpOp
  simp only [hi, hs.wanted hg, if_true]
  refine .inl ?_
  unfold Oper.wp
  obtain ⟨v, hr, hrun⟩ := hv a w hs (by simp)
  rw [hrun w (Ext.refl w)]
  exact ⟨fun w2 => Ext X w w2, fun w2 h2 => h2, Ext.refl w, k _ _ (hs.put hd hr)⟩
theorem fm_ (X' : List Nat) {i : Nat} {Y : List Nat} {R : Abs → Blks → Prop} (hi : ops[i]? = some o) (hv : Eff P n W σ l Y o R) (hY : ∀ k ∈ Y, k ∈ X) (hX' : ∀ k ∈ X', k ∈ X) (hg : gd ops l o = some true) (hd : lt? o.dst n = true)
    (k : ∀ y τ, R y τ → SX P ops ix X' (St n W τ (put? l o.dst y)) Q) : SX P ops (.e i ix) X (St n W σ l) Q := fun a w hs => by
  unfold planW wpOp
  simp only [hi, hs.wanted hg, if_true]
  refine .inl ?_
  unfold Oper.wp
  obtain ⟨v, w', y, τ, hR, hx, hr, hm, hc, hrun | ⟨rfl, hrun⟩⟩ := hv a w hs
  · rw [hrun]; exact ⟨fun w2 => Ext X' w' w2, fun w2 h2 => (hx.mono (fun k hk => .inl (hY k hk))).trans h2 fun k hk => .inl (hX' k hk), Ext.refl w', k _ _ hR _ _ ((hs.to hm hc).put hd hr)⟩
  · rw [hrun]; exact ⟨fun w2 => Ext X' w' w2, fun w2 h2 => (hx.mono (fun k hk => .inl (hY k hk))).trans h2 fun k hk => .inl (hX' k hk), Ext.refl w', k _ _ hR _ _ ((hs.to hm hc).put hd hr)⟩
theorem aQ_ {i j : Nat} {k h : Plan} (h1 : SX P ops (.e i k) X T Q) (h2 : SX P ops (.e j h) X T Q) : SX P ops (.two i j k h) X T Q := fun a w hs => ⟨h1 a w hs, h2 a w hs⟩
theorem dP_ {i j r : Nat} {k h m : Plan} (h1 : SX P ops (.e i k) X T Q) (h2 : SX P ops (.e j h) X T Q) (h3 : SX P ops (.e r m) X T Q) : SX P ops (.three i j r k h m) X T Q := fun a w hs => ⟨h1 a w hs, h2 a w hs, h3 a w hs⟩
theorem SX.four {i j r q : Nat} {k h m s : Plan} (h1 : SX P ops (.e i k) X T Q) (h2 : SX P ops (.e j h) X T Q) (h3 : SX P ops (.e r m) X T Q) (h4 : SX P ops (.e q s) X T Q) : SX P ops (.four i j r q k h m s) X T Q := fun a w hs => ⟨h1 a w hs, h2 a w hs, h3 a w hs, h4 a w hs⟩
theorem fo_ {t : Nat} {b : Bool} (hs : slot l t = some (.v (.bool b))) (ht : b = true → SX P ops ix X (St n W σ ((t, .v (.bool true)) :: l)) Q) (hf : b = false → SX P ops ix X (St n W σ ((t, .v (.bool false)) :: l)) Q) : SX P ops ix X (St n W σ l) Q := fun a w h => by
  cases b with
  | true => exact ht rfl a w (h.cast hs fun _ h => h)
  | false => exact hf rfl a w (h.cast hs fun _ h => h)
theorem bd_ {t : Nat} {p : Prop} [hp : Decidable p] (hs : slot l t = some (.v (.bool (decide p)))) (ht : p → SX P ops ix X (St n W σ ((t, .v (.bool true)) :: l)) Q) (hf : ¬p → SX P ops ix X (St n W σ ((t, .v (.bool false)) :: l)) Q) : SX P ops ix X (St n W σ l) Q :=
  fo_ hs (fun h => ht (of_decide_eq_true h)) (fun h => hf (of_decide_eq_false h))
theorem T_ {id : Nat} (X : List Nat) (ix : Plan) (hm : P.follows .mixedOrders = true)
    (hok : (Region.noSelect ops && planOk ops ops.size (Array.replicate ops.size false) ix) = true) (h : SX P ops ix X (St n W σ l) Q) : SC P (.region id ops true) (St n W σ l) Q := fun a w hs =>
  cy_ (fun w' => Ext X w.drew w') ix hm hok (Ext.refl _) (h a _ hs.drew)
/-! ### Codes -/
section
variable {x y : Code} {id : Nat} {F : Exit → Act → World → Prop}
theorem c_ (h : SC P x T (Exit.then (y.wp P Q) Q)) : SC P (.seq x y) T Q := fun a w hs => wp_seq (h a w hs)
theorem a_ {os : List Oper} (h : SL P os.toArray os T Q) : SC P (.region id os.toArray false) T Q := fun a w hs => wp_region_lit (h a w hs)
theorem s_ (h : SE .normal T Q) : SC P .skip T Q := fun a w hs => wp_skip (h a w hs)
theorem O_ (h : SE (.exit id) T Q) : SC P (.exit id) T Q := fun a w hs => wp_exit (h a w hs)
theorem o_ (h : SE .ret T Q) : SC P .ret T Q := fun a w hs => wp_ret (h a w hs)
theorem w_ (h : SC P x T (Exit.inBlock id Q)) : SC P (.block id x) T Q := fun a w hs => wp_block (h a w hs)
theorem ay_ {c : Operand} {b : Bool} (hc : look l c = some (.v (.bool b))) (ht : b = true → SC P x (St n W σ l) Q) (hf : b = false → SC P y (St n W σ l) Q) : SC P (.cond c x y) (St n W σ l) Q := fun a w hs =>
  wp_cond_split (hs.plain hc) (fun h => ht h a w hs) (fun h => hf h a w hs)
theorem n_ {c : Operand} {p : Prop} [Decidable p] (hc : look l c = some (.v (.bool (decide p)))) (ht : p → SC P x (St n W σ l) Q) (hf : ¬p → SC P y (St n W σ l) Q) : SC P (.cond c x y) (St n W σ l) Q :=
  ay_ hc (fun h => ht (of_decide_eq_true h)) (fun h => hf (of_decide_eq_false h))
theorem ab_ {c : Operand} (hc : look l c = some (.v (.bool true))) (ht : SC P x (St n W σ l) Q) : SC P (.cond c x y) (St n W σ l) Q := ay_ hc (fun _ => ht) (fun h => by cases h)
theorem I_ {c : Operand} (hc : look l c = some (.v (.bool false))) (hf : SC P y (St n W σ l) Q) : SC P (.cond c x y) (St n W σ l) Q := ay_ hc (fun h => by cases h) (fun _ => hf)
theorem b_ (h : SC P y T Q) : SE .normal T (Exit.then (y.wp P Q) Q) := h
theorem k_ {e : Exit} {G : Act → World → Prop} (he : e ≠ .normal) (h : SE e T Q) : SE e T (Exit.then G Q) := fun a w hs => by
  cases e <;> first | exact h a w hs | exact absurd rfl he
theorem A_ (h : SE .normal T Q) : SE .normal T (Exit.inBlock id Q) := h
theorem N_ (h : SE .normal T Q) : SE (.exit id) T (Exit.inBlock id Q) := fun a w hs => by
  show if id = id then _ else _
  rw [if_pos rfl]; exact h a w hs
theorem aF_ (h : SE .ret T Q) : SE .ret T (Exit.inBlock id Q) := h
theorem SC.loop0 {ι : Type} (K : ι → Act → World → Prop) (m : ι → Nat) (x₀ : ι) (hs : ∀ a w, T a w → K x₀ a w)
    (round : ∀ z, SC P x (K z) (Exit.then (fun a w => ∃ u, m u < m z ∧ K u a w) Q)) : SC P (.loop x) T Q := by
  intro a0 w0 hf0 b kk cs
  have key : ∀ k z, m z = k → ∀ a w, K z a w →
      ∃ e a' w', Q e a' w' ∧ Arrives P (lone (b.at a (.code x :: .inLoop x :: kk)) cs w) b kk cs e a' w' := by
    intro k
    induction k using Nat.strongRecOn with
    | _ k ih =>
      intro z hz a w hw
      obtain ⟨e, a₁, w₁, hq, harr⟩ := round z a w hw b (.inLoop x :: kk) cs
      cases e with
      | normal =>
        obtain ⟨u, hu, hw₁⟩ := hq
        obtain ⟨e₂, a₂, w₂, hq₂, harr₂⟩ := ih (m u) (hz ▸ hu) u rfl a₁ w₁ hw₁
        exact ⟨e₂, a₂, w₂, hq₂, .of_steps (Steps.trans harr (.one step_inLoop)) harr₂⟩
      | exit id => exact ⟨_, a₁, w₁, hq, .pass (x := .inLoop x) rfl (fun _ _ => .inl (by simp)) harr⟩
      | goto l => exact ⟨_, a₁, w₁, hq, .pass (x := .inLoop x) rfl (fun _ _ => .inl (by simp)) harr⟩
      | ret => exact ⟨_, a₁, w₁, hq, .pass (x := .inLoop x) rfl (fun _ _ => .inl (by simp)) harr⟩
      | panic ch => exact ⟨_, a₁, w₁, hq, .pass (x := .inLoop x) rfl (fun _ _ => .inl (by simp)) harr⟩
      | outgrown => exact ⟨_, a₁, w₁, hq, .pass (x := .inLoop x) rfl (fun _ _ => .inl (by simp)) harr⟩
  obtain ⟨e, a', w', hq, harr⟩ := key _ x₀ rfl a0 w0 (hs a0 w0 hf0)
  exact ⟨e, a', w', hq, .of_steps (.one step_loop) harr⟩
def Head {ι : Type} (n : Nat) (W : Wd) (H : ι → Blks) (L : ι → Slots) (Φ : ι → Prop) (z : ι) (a : Act) (w : World) : Prop := Φ z ∧ St n W (H z) (L z) a w
theorem S_ {ι : Type} (H : ι → Blks) (L : ι → Slots) (Φ : ι → Prop) (m : ι → Nat) (x₀ : ι) (hΦ : Φ x₀) (hs : Subs l (L x₀)) (hH : (H x₀).Sublist σ)
    (round : ∀ z, Φ z → SC P x (St n W (H z) (L z)) (Exit.then (fun a w => ∃ u, m u < m z ∧ Head n W H L Φ u a w) Q)) : SC P (.loop x) (St n W σ l) Q :=
  SC.loop0 (Head n W H L Φ) m x₀ (fun _ _ h => ⟨hΦ, (h.less hH).sub hs⟩) fun z a w h => round z h.1 a w h.2
theorem J_ {ι : Type} {H : ι → Blks} {L : ι → Slots} {Φ : ι → Prop} {m : ι → Nat} {z : ι} (u : ι) (hm : m u < m z) (hΦ : Φ u) (hs : Subs l (L u)) (hH : (H u).Sublist σ) :
    SE .normal (St n W σ l) (Exit.then (fun a w => ∃ u, m u < m z ∧ Head n W H L Φ u a w) Q) := fun _ _ h => ⟨u, hm, hΦ, (h.less hH).sub hs⟩
theorem j3_ {ι : Type} (H : ι → Blks) (L : ι → Slots) (Φ : ι → Prop) (h : SC P x T (Exit.then (fun a w => ∃ z, Head n W H L Φ z a w) Q)) (k : ∀ z, Φ z → SC P y (St n W (H z) (L z)) Q) : SC P (.seq x y) T Q := fun a w hs =>
  wp_seq (wp_mono (h a w hs) fun e a' w' he => by
    cases e with
    | normal => obtain ⟨z, h1, h2⟩ := he; exact k z h1 a' w' h2
    | _ => exact he)
theorem R_ {ι : Type} {H : ι → Blks} {L : ι → Slots} {Φ : ι → Prop} (z : ι) (hΦ : Φ z) (hs : Subs l (L z)) (hH : (H z).Sublist σ) : SE .normal (St n W σ l) (Exit.then (fun a w => ∃ z, Head n W H L Φ z a w) Q) := fun _ _ h => ⟨z, hΦ, (h.less hH).sub hs⟩
end
/-! ### Calls -/
def Spec (P : Program) (f : FuncId) (args : List Abs) (σ : Blks) {ι : Type} (τ : ι → Blks) (res : ι → Abs) : Prop :=
  ∀ (G : List Nat) (w : World) (vals : List Value), Mem w (mids σ) G σ w → reps (mids σ ++ G) w args vals →
    Calls P f vals.toArray w fun e w' => ∃ z r, e = .returned r ∧ (∀ x ∈ τ z, x.rids = []) ∧ Mem w (mids σ) G (τ z) w' ∧ rep (mids (τ z) ++ G) w' (res z) r
abbrev Pure (P : Program) (f : FuncId) (args : List Abs) (res : Abs) : Prop := Spec P f args [] (fun _ : Unit => []) (fun _ => res)
structure Split (σ σ1 φ : Blks) : Prop where
  perm : (mids σ1 ++ mids φ).Perm (mids σ)
  sub : ∀ x ∈ σ1, (x ∈ σ ∧ x.rids = []) ∨ ∃ y ∈ φ, x = y.toRd
  rest : ∀ x ∈ φ, x ∈ σ
theorem eI_ {K : List Nat} {w : World} {y : It} (h : y.holds K w) : y.toRd.holds K w := by cases y <;> exact h
theorem fv_ (y : It) : ∀ k ∈ y.toRd.rids, k ∈ y.mids ++ y.rids := by cases y <;> simp [It.toRd, It.rids, It.mids]
theorem cO_ (y : It) : y.toRd.mids = [] := by cases y <;> rfl
theorem Spec.run {f : FuncId} {args : List Abs} {σ1 φ : Blks} {ι : Type} {τ : ι → Blks} {res : ι → Abs} (hs : Spec P f args σ1 τ res) {w0 w : World} {F G : List Nat} (hm : Mem w0 F G σ w) (hp : Split σ σ1 φ)
    {vals : List Value} (hv : reps (mids σ ++ G) w args vals) :
    Calls P f vals.toArray w fun e w' => ∃ z r, e = .returned r ∧ Ext (mids σ1) w w' ∧ (∀ k ∈ mids (τ z), k ∈ mids σ1 ∨ w.heap.size ≤ k) ∧ Mem w0 F G (τ z ++ φ) w' ∧ Carry (mids σ ++ G) w (mids (τ z ++ φ) ++ G) w' ∧ rep (mids (τ z ++ φ) ++ G) w' (res z) r := by
  have hmem : ∀ k, k ∈ mids σ ↔ k ∈ mids σ1 ∨ k ∈ mids φ := fun k => by rw [← hp.perm.mem_iff, List.mem_append]
  have hnd : (mids σ1 ++ mids φ).Nodup := hp.perm.nodup_iff.2 hm.nodup
  obtain ⟨n1, n2, n3⟩ := List.nodup_append.1 hnd
  have hc1 : Carry (mids σ ++ G) w (mids σ1 ++ (mids φ ++ G)) w := Carry.less fun k hk => by
    simp only [List.mem_append] at hk ⊢
    rw [hmem]
    rcases hk with h | h | h
    · exact .inl (.inl h)
    · exact .inl (.inr h)
    · exact .inr h
  have hm1 : Mem w (mids σ1) (mids φ ++ G) σ1 w := by
    refine ⟨Ext.refl w, fun k hk => .inl hk, fun k hk hg => ?_, fun k hk => ?_, fun x hx k hk => ?_, n1, fun x hx => ?_⟩
    · rcases List.mem_append.1 hg with h | h
      · exact n3 k hk k h rfl
      · exact hm.sep k ((hmem k).2 (.inl hk)) h
    · rcases List.mem_append.1 hk with h | h
      · exact hm.lt k (List.mem_append_left _ ((hmem k).2 (.inr h)))
      · exact hm.old k h
    · rcases hp.sub x hx with ⟨_, h⟩ | ⟨y, hy, rfl⟩
      · rw [h] at hk; cases hk
      · rcases List.mem_append.1 (fv_ y k hk) with h | h
        · exact List.mem_append_left _ (bD_.2 ⟨y, hy, h⟩)
        · exact List.mem_append_right _ (hm.ro y (hp.rest y hy) k h)
    · rcases hp.sub x hx with ⟨h, _⟩ | ⟨y, hy, rfl⟩
      · exact It.carry (hm.hold x h) hc1 fun _ _ => rfl
      · exact eI_ (It.carry (hm.hold y (hp.rest y hy)) hc1 fun _ _ => rfl)
  refine (hs _ w vals hm1 (ae_ hc1 _ _ hv)).mono fun e w' ⟨z, r, he, h0, h1, h2⟩ => ⟨z, r, he, h1.ext, h1.out, ?_⟩
  have hK : Carry (mids (τ z) ++ (mids φ ++ G)) w' (mids (τ z ++ φ) ++ G) w' := Carry.less fun k hk => by
    rw [L_] at hk
    simpa [List.append_assoc] using hk
  have hst := hm.step (τ := τ z ++ φ) h1.ext (fun k hk => (hmem k).2 (.inl hk)) (fun k hk => ?_) (fun x hx k hk => ?_) ?_ (fun hc x hx => ?_)
  · exact ⟨hst.1, hst.2, aY_ hK _ _ h2⟩
  · rw [L_] at hk
    rcases List.mem_append.1 hk with h | h
    · rcases h1.out k h with h | h
      · exact .inl ((hmem k).2 (.inl h))
      · exact .inr h
    · exact .inl ((hmem k).2 (.inr h))
  · rcases List.mem_append.1 hx with h | h
    · rw [h0 x h] at hk; cases hk
    · exact hm.ro x (hp.rest x h) k hk
  · rw [L_, List.nodup_append]
    refine ⟨h1.nodup, n2, fun a ha b hb he => ?_⟩
    subst he
    exact h1.sep a ha (List.mem_append_left _ hb)
  · rcases List.mem_append.1 hx with h | h
    · exact It.carry (h1.hold x h) hK fun _ _ => rfl
    · exact hm.keep h1.ext hc (hp.rest x h) (fun k hk hk1 => n3 k hk1 k (bD_.2 ⟨x, h, hk⟩) rfl) fun k hk => (hmem k).2 (.inl hk)
theorem Split.none : Split σ [] σ := ⟨by simp [mids], by simp, fun _ h => h⟩
theorem Split.rds {ys : Blks} (h : ∀ y ∈ ys, y ∈ σ) : Split σ (ys.map It.toRd) σ := by
  refine ⟨?_, fun x hx => ?_, fun _ h => h⟩
  · have : mids (ys.map It.toRd) = [] := by
      unfold mids
      simp [List.flatMap_map, cO_]
    rw [this]; exact List.Perm.refl _
  · obtain ⟨y, hy, rfl⟩ := List.mem_map.1 hx; exact .inr ⟨y, h y hy, rfl⟩
theorem Split.one {x : It} {α β : Blks} (hx : x.rids = []) {ys : Blks} (h : ∀ y ∈ ys, y ∈ α ++ β) : Split (α ++ x :: β) (x :: ys.map It.toRd) (α ++ β) := by
  refine ⟨?_, fun z hz => ?_, fun z hz => ?_⟩
  · have : mids (ys.map It.toRd) = [] := by
      unfold mids
      simp [List.flatMap_map, cO_]
    rw [ad_, this, List.append_nil, L_, L_, ad_]
    exact List.perm_append_comm_assoc _ _ _
  · rcases List.mem_cons.1 hz with rfl | hz
    · exact .inl ⟨by simp, hx⟩
    · obtain ⟨y, hy, rfl⟩ := List.mem_map.1 hz; exact .inr ⟨y, h y hy, rfl⟩
  · rcases List.mem_append.1 hz with h | h <;> simp [h]
def Casts (xs ys : List Abs) : Prop := ∀ K w us, reps K w xs us → reps K w ys us
theorem Casts.refl {xs : List Abs} : Casts xs xs := fun _ _ _ h => h
theorem Casts.cons {x y : Abs} {xs ys : List Abs} (h : ∀ K w u, rep K w x u → rep K w y u) (k : Casts xs ys) : Casts (x :: xs) (y :: ys) := fun K w _ ⟨u, us', h1, h2, h3⟩ => ⟨u, us', h1, h K w u h2, k K w us' h3⟩
theorem Casts.keep {x : Abs} {xs ys : List Abs} (k : Casts xs ys) : Casts (x :: xs) (x :: ys) := k.cons fun _ _ _ h => h
section
variable {f : FuncId} {args args' : List Abs} {σ1 φ : Blks} {ι : Type} {τ' : ι → Blks} {res : ι → Abs} {xs : List Operand} {ats : Array TypeId} {d : Option Nat} {ty : TypeId} {pos : String} {aft : Array Edge} {g : Option (Nat × Bool)} {i : Nat} {x : Operand} {m : String} {t : TypeId} {y : Abs} {bs cs : List Abs}
inductive Reads (σ : Blks) : Blks → Prop
  | nil : Reads σ []
  | blk {b : Nat} {t : TypeId} {cs : List Abs} {τ : Blks} (h : It.blk b t cs ∈ σ) (k : Reads σ τ) : Reads σ (.rd b t cs :: τ)
  | rd {b : Nat} {t : TypeId} {cs : List Abs} {τ : Blks} (h : It.rd b t cs ∈ σ) (k : Reads σ τ) : Reads σ (.rd b t cs :: τ)
  | pc {c : Pc} {τ : Blks} (h : It.pc c ∈ σ) (k : Reads σ τ) : Reads σ (.rdpc c :: τ)
  | rdpc {c : Pc} {τ : Blks} (h : It.rdpc c ∈ σ) (k : Reads σ τ) : Reads σ (.rdpc c :: τ)
theorem Reads.ys (h : Reads σ τ) : ∃ ys : Blks, (∀ y ∈ ys, y ∈ σ) ∧ τ = ys.map It.toRd := by
  induction h with
  | nil => exact ⟨[], by simp, rfl⟩
  | blk h _ ih => obtain ⟨ys, h1, rfl⟩ := ih; exact ⟨_ :: ys, List.forall_mem_cons.2 ⟨h, h1⟩, rfl⟩
  | rd h _ ih => obtain ⟨ys, h1, rfl⟩ := ih; exact ⟨_ :: ys, List.forall_mem_cons.2 ⟨h, h1⟩, rfl⟩
  | pc h _ ih => obtain ⟨ys, h1, rfl⟩ := ih; exact ⟨_ :: ys, List.forall_mem_cons.2 ⟨h, h1⟩, rfl⟩
  | rdpc h _ ih => obtain ⟨ys, h1, rfl⟩ := ih; exact ⟨_ :: ys, List.forall_mem_cons.2 ⟨h, h1⟩, rfl⟩
theorem Reads.split (h : Reads σ τ) : Split σ τ σ := by obtain ⟨ys, h1, rfl⟩ := h.ys; exact Split.rds h1
def After (σ σ1 : Blks) (τ' : ι → Blks) (K : Blks → ι → Prop) : Prop := ∃ φ, Split σ σ1 φ ∧ ∀ z, ∃ ν : Blks, ν.Perm (τ' z ++ φ) ∧ K ν z
section
variable {K : Blks → ι → Prop} {u : It} {uy : ι → It}
theorem dy_ (h : Reads σ σ1) (hτ : ∀ z, τ' z = []) (k : ∀ z, K σ z) : After σ σ1 τ' K := ⟨σ, h.split, fun z => ⟨σ, by rw [hτ z]; exact List.Perm.refl _, k z⟩⟩
theorem Y_ (h : Reads σ σ1) (hτ : ∀ z, τ' z = [uy z]) (k : ∀ z, K (uy z :: σ) z) : After σ σ1 τ' K := ⟨σ, h.split, fun z => ⟨_, by rw [hτ z]; exact List.Perm.refl _, k z⟩⟩
theorem g3_ {x y : It} {α β ν : Blks} (h : Upd x y (α ++ x :: β) ν) : ν.Perm (y :: (α ++ β)) := by
  obtain ⟨α', β', h1, rfl⟩ := h.split
  have h2 : (x :: (α ++ β)).Perm (x :: (α' ++ β')) := (List.perm_middle (a := x) (l₁ := α) (l₂ := β)).symm.trans ((h1 ▸ List.Perm.refl _ : (α ++ x :: β).Perm (α' ++ x :: β')).trans List.perm_middle)
  exact List.perm_middle.trans (List.Perm.cons y h2.cons_inv.symm)
theorem Q_ (hx : u.rids = []) (hm : u ∈ σ) (hτ : ∀ z, τ' z = [uy z]) (k : ∀ z, ∃ ν, Upd u (uy z) σ ν ∧ K ν z) : After σ [u] τ' K := by
  obtain ⟨α, β, rfl⟩ := List.append_of_mem hm
  refine ⟨α ++ β, Split.one hx (ys := []) (by simp), fun z => ?_⟩
  obtain ⟨ν, h1, h2⟩ := k z
  exact ⟨ν, by rw [hτ z]; exact g3_ (α := α) (β := β) (x := u) h1, h2⟩
theorem aA_ {ys : Blks} (hx : u.rids = []) (hm : u ∈ σ) (hr : ∀ y ∈ ys, y ∈ σ ∧ y ≠ u) (h1 : σ1 = u :: ys.map It.toRd) (hτ : ∀ z, τ' z = [uy z]) (k : ∀ z, ∃ ν, Upd u (uy z) σ ν ∧ K ν z) : After σ σ1 τ' K := by
  subst h1
  obtain ⟨α, β, rfl⟩ := List.append_of_mem hm
  refine ⟨α ++ β, Split.one hx fun y hy => ?_, fun z => ?_⟩
  · obtain ⟨h2, h3⟩ := hr y hy
    simp only [List.mem_append, List.mem_cons] at h2 ⊢
    rcases h2 with h2 | h2 | h2
    · exact .inl h2
    · exact absurd h2 h3
    · exact .inr h2
  · obtain ⟨ν, h1, h2⟩ := k z
    exact ⟨ν, by rw [hτ z]; exact g3_ (α := α) (β := β) (x := u) h1, h2⟩
end
theorem Spec.after {w0 w : World} {F G : List Nat} {K : Blks → ι → Prop} (hs : Spec P f args' σ1 τ' res) (hm : Mem w0 F G σ w) {vals : List Value} (hv : reps (mids σ ++ G) w args' vals) (k : After σ σ1 τ' K) :
    Calls P f vals.toArray w fun e w' => ∃ z r ν, e = .returned r ∧ Ext (mids σ1) w w' ∧ (∀ k ∈ mids (τ' z), k ∈ mids σ1 ∨ w.heap.size ≤ k) ∧ Mem w0 F G ν w' ∧ Carry (mids σ ++ G) w (mids ν ++ G) w' ∧ rep (mids ν ++ G) w' (res z) r ∧ K ν z := by
  obtain ⟨φ, hp, hk⟩ := k
  refine (hs.run hm hp hv).mono fun e w' ⟨z, r, he, hx, ho, hm', hc, hr⟩ => ?_
  obtain ⟨ν, h1, h2⟩ := hk z
  obtain ⟨h3, h4⟩ := hm'.perm h1
  exact ⟨z, r, ν, he, hx, ho, h3, hc.trans h4, aY_ h4 _ _ hr, h2⟩
theorem m_ (hs : Spec P f args' σ1 τ' res) (hca : Casts args args') (hb : goesIn P f = true) (hv : looks l xs = some args)
    (hg : gd ops l ⟨d, .call { callee := .value (.func f), args := xs.toArray, argTypes := ats }, ty, pos, aft, g⟩ = some true) (hd : lt? d n = true)
    (k : After σ σ1 τ' fun ν z => SL P ops rest (St n W ν (put? l d (res z))) Q) :
    SL P ops (⟨d, .call { callee := .value (.func f), args := xs.toArray, argTypes := ats }, ty, pos, aft, g⟩ :: rest) (St n W σ l) Q := fun a w h =>
  wpList_step fun K hK => by
    rw [if_pos (h.wanted hg)]
    unfold Oper.wp
    rw [cl_ hb rfl, Oper.upon_enter]
    refine (hs.after h.mem (hca _ _ _ (h.evals hv)) k).mono fun e w' ⟨z, r, ν, he, _, _, hm, hc, hr, hk⟩ => ?_
    subst he
    exact hK _ _ (hk _ _ ((h.to hm hc).put hd hr))
theorem H_ (hi : ops[i]? = some ⟨d, .call { callee := .value (.func f), args := xs.toArray, argTypes := ats }, ty, pos, aft, g⟩) (hs : Spec P f args' σ1 τ' res) (hX : ∀ k ∈ mids σ1, k ∈ X) (hca : Casts args args') (hb : goesIn P f = true) (hv : looks l xs = some args)
    (hg : gd ops l ⟨d, .call { callee := .value (.func f), args := xs.toArray, argTypes := ats }, ty, pos, aft, g⟩ = some true) (hd : lt? d n = true)
    (k : After σ σ1 τ' fun ν z => SX P ops ix X (St n W ν (put? l d (res z))) Q) : SX P ops (.e i ix) X (St n W σ l) Q := fun a w h => by
  unfold planW wpOp
  simp only [hi, h.wanted hg, if_true]
  refine .inl ?_
  unfold Oper.wp
  rw [cl_ hb rfl, Oper.upon_enter]
  refine (hs.after h.mem (hca _ _ _ (h.evals hv)) k).mono fun e w' ⟨z, r, ν, he, hx, _, hm, hc, hr, hk⟩ => ?_
  subst he
  exact ⟨fun w2 => Ext X w' w2, fun w2 h2 => (hx.mono (fun k hk => .inl (hX k hk))).trans h2 fun k hk => .inl hk, Ext.refl w', hk _ _ ((h.to hm hc).put hd hr)⟩
theorem cw_ (hi : ops[i]? = some ⟨d, .call { callee := .value (.func f), args := xs.toArray, argTypes := ats }, ty, pos, aft, g⟩) (hs : Spec P f args' σ1 τ' res) (hX : ∀ k ∈ mids σ1, k ∈ X) (hca : Casts args args') (hb : goesIn P f = true) (hv : looks l xs = some args)
    (hg : gd ops l ⟨d, .call { callee := .value (.func f), args := xs.toArray, argTypes := ats }, ty, pos, aft, g⟩ = some true) (hd : lt? d n = true)
    (k : After σ σ1 τ' fun ν z => SX P ops ix (mids (τ' z) ++ X) (St n W ν (put? l d (res z))) Q) : SX P ops (.e i ix) X (St n W σ l) Q := fun a w h => by
  unfold planW wpOp
  simp only [hi, h.wanted hg, if_true]
  refine .inl ?_
  unfold Oper.wp
  rw [cl_ hb rfl, Oper.upon_enter]
  refine (hs.after h.mem (hca _ _ _ (h.evals hv)) k).mono fun e w' ⟨z, r, ν, he, hx, ho, hm, hc, hr, hk⟩ => ?_
  subst he
  refine ⟨fun w2 => Ext (mids (τ' z) ++ X) w' w2, fun w2 h2 => (hx.mono (fun k hk => .inl (hX k hk))).trans h2 fun k hk => ?_, Ext.refl w', hk _ _ ((h.to hm hc).put hd hr)⟩
  rcases List.mem_append.1 hk with hk | hk
  · rcases ho k hk with h1 | h1
    · exact .inl (hX k h1)
    · exact .inr h1
  · exact .inl hk
theorem c9_ (hs : Spec P f args' σ1 τ' res) (hx : look l x = some (.fn (.func f) bs cs)) (hca : Casts (bs ++ args ++ cs) args') (hb : goesIn P f = true) (hv : looks l xs = some args)
    (hg : gd ops l ⟨d, .call { callee := .value x, args := xs.toArray, argTypes := ats }, ty, pos, aft, g⟩ = some true) (hd : lt? d n = true)
    (k : After σ σ1 τ' fun ν z => SL P ops rest (St n W ν (put? l d (res z))) Q) :
    SL P ops (⟨d, .call { callee := .value x, args := xs.toArray, argTypes := ats }, ty, pos, aft, g⟩ :: rest) (St n W σ l) Q := fun a w h =>
  wpList_step fun K hK => by
    rw [if_pos (h.wanted hg)]
    unfold Oper.wp
    obtain ⟨us, vs, h1, h2, h3⟩ := h.eval hx
    rw [cU_ hb rfl h1, Oper.upon_enter]
    have := hca _ _ _ (aR_ (aR_ h2 (h.evals hv)) h3)
    rw [show us.toArray ++ (xs.map a.eval).toArray ++ vs.toArray = (us ++ xs.map a.eval ++ vs).toArray by simp]
    refine (hs.after h.mem this k).mono fun e w' ⟨z, r, ν, he, _, _, hm, hc, hr, hk⟩ => ?_
    subst he
    exact hK _ _ (hk _ _ ((h.to hm hc).put hd hr))
theorem fn_ (hi : ops[i]? = some ⟨d, .call { callee := .value x, args := xs.toArray, argTypes := ats }, ty, pos, aft, g⟩) (hs : Spec P f args' σ1 τ' res) (hX : ∀ k ∈ mids σ1, k ∈ X) (hx : look l x = some (.fn (.func f) bs cs)) (hca : Casts (bs ++ args ++ cs) args') (hb : goesIn P f = true) (hv : looks l xs = some args)
    (hg : gd ops l ⟨d, .call { callee := .value x, args := xs.toArray, argTypes := ats }, ty, pos, aft, g⟩ = some true) (hd : lt? d n = true)
    (k : After σ σ1 τ' fun ν z => SX P ops ix X (St n W ν (put? l d (res z))) Q) : SX P ops (.e i ix) X (St n W σ l) Q := fun a w h => by
  unfold planW wpOp
  simp only [hi, h.wanted hg, if_true]
  refine .inl ?_
  unfold Oper.wp
  obtain ⟨us, vs, h1, h2, h3⟩ := h.eval hx
  rw [cU_ hb rfl h1, Oper.upon_enter]
  have := hca _ _ _ (aR_ (aR_ h2 (h.evals hv)) h3)
  rw [show us.toArray ++ (xs.map a.eval).toArray ++ vs.toArray = (us ++ xs.map a.eval ++ vs).toArray by simp]
  refine (hs.after h.mem this k).mono fun e w' ⟨z, r, ν, he, hx, _, hm, hc, hr, hk⟩ => ?_
  subst he
  exact ⟨fun w2 => Ext X w' w2, fun w2 h2 => (hx.mono (fun k hk => .inl (hX k hk))).trans h2 fun k hk => .inl hk, Ext.refl w', hk _ _ ((h.to hm hc).put hd hr)⟩
end
end
end Go.Proofs.YtjclgkddfjbdiaaGreatDoor.A
