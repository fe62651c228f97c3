/-
  Packed out of the texts: OctPut, EngStr, EngFace, A1.
-/
import Derived.Test.YtickdhjljpnlpaaGreatDoorR02
import Derived.Lib.ConvBytes
import Derived.Laws.BytesArg
import Derived.DeepKeys4
import Derived.Laws.CopyOwn
import Derived.Laws.RangeString
set_option maxRecDepth 100000
set_option linter.unusedSimpArgs false
set_option linter.unusedVariables false
namespace Go.Proofs.YtickdhjljpnlpaaGreatDoor
open Go.RowKit
section
variable {S : List (World × List Nat)} {σ τ : Blks} {ρ : List Dt} {w : World} {p : Nat} {s : Rd}
theorem Mem.blkOwn {b k sz : Nat} {e : TypeId} {L : List Value} (h : Mem S (.blk b (row e L) :: σ) ρ w) (hL : L.length = k * sz) (hk : k ≤ maxLen) : Mem S (.pc (ownPc e sz (.slice (some ⟨b, 0, none⟩) k k) k L) :: σ) ρ w :=
  h.upd .here (Ext.refl w) ⟨hL, .inr ⟨b, k, L.toArray, rfl, Nat.zero_le _, h.hold (.blk b (row e L)) List.mem_cons_self, Nat.le_refl _, hk, by simpa using hL, by rw [← hL]; simp⟩⟩ fV_ fun k hk => .inl (by simpa [It.ids, ownPc, Value.ownBlock] using hk)
theorem oct_Row {v r : Value} {l m : List UInt8} (hw : Mem S σ ρ w) (hb : bytesD v l ∈ ρ) (hr : bytesD r m ∈ ρ) (hl : l.length + m.length + 4 ≤ lots) (hm : m.length < 4294967296) : Calls Tryz.prog 54 #[v, r] w fun e w' => ∃ z, e = .returned z ∧ Mem S σ (bytesD z (l ++ beBytes m.length 4 ++ m) :: ρ) w' := by
  obtain ⟨A, c, rfl, h1, h2, h3⟩ := (hw.data hr).shape
  refine ah_ [v, .slice A m.length c] Tryz.func54 rfl Tryz.ntmps54 rfl (Mem S σ ρ) hw ?_
  refine d_ (a_ ?_)
  refine b_ (j_ rfl) rfl rfl ?_
  refine g_ (c_ ?_)
  refine d_ (a_ ?_)
  iterate 2 refine b_ (k_ rfl) rfl rfl ?_
  refine b_ (B_ rfl Tryz.underlying31) rfl rfl ?_
  refine b_ (ax_ rfl Tryz.underlying79 (by kernel_rfl) (by simp only [InR, lo, hi]; omega)) rfl rfl ?_
  refine s_ (by kernel_rfl) rfl rfl rfl ?_
  intro w hw
  refine (j9_ (l := l) (x := m.length) (n := 4) hw (hw.bytes hb) (by omega) (by omega) rfl).mono ?_; rintro _ _ ⟨r, rfl, hm⟩; refine ⟨_, _, rfl, hm, ?_⟩; clear hm hw w
  refine b_ (k_ rfl) rfl rfl ?_
  refine a0_ (bl_ (pre := []) (news := m.map bc) tabOk Tryz.underlying31 rfl rfl rfl rfl rfl (fun _ hw => ⟨_, hw.data hr⟩) (by simp) eZ_ (by unfold maxLen; (try simp only [List.length_append, w_]); unfold lots at *; omega) (by rw [show Tryz.prog.bytesOf 5 = 1 by kernel_rfl]; (try simp only [List.length_append, w_]); unfold lots at *; omega)) rfl rfl ?_
  rintro r _ rfl
  refine b_ (j_ rfl) rfl rfl ?_
  refine g_ (c_ ?_)
  refine m_ ?_
  refine P_ rfl rfl ?_
  intro w' hw'
  have hf := Mem.freeze hw'
  refine ⟨_, rfl, ?_⟩
  have e1 : (l ++ beBytes m.length 4 ++ m).length = (l ++ beBytes m.length (Int.toNat 4)).length + m.length := by simp [w_]; omega
  unfold bytesD
  rw [e1, List.map_append]
  exact hf
theorem read_c {v : Value} {l : List UInt8} (hw : Mem S σ ρ w) (hb : bytesD v l ∈ ρ) (hl : l.length ≤ lots) : Calls Tryz.prog 46 #[v] w fun e w' => ∃ p z, e = .returned (.pointer (some ⟨p, 0, none⟩)) ∧ Mem S (rdI 116 p ⟨z, l, 0⟩ :: σ) (bytesD z l :: ρ) w' := by
  refine ah_ [v] Tryz.func46 rfl Tryz.ntmps46 rfl (Mem S σ ρ) hw ?_
  refine d_ (a_ ?_)
  refine b_ (j_ rfl) rfl rfl ?_
  refine g_ (c_ ?_)
  refine d_ (a_ ?_)
  refine b_ (k_ rfl) rfl rfl ?_
  refine s_ (by kernel_rfl) rfl rfl rfl ?_
  intro w hw
  refine (k0_ (l := l) hw (hw.bytes hb) hl).mono ?_; rintro _ _ ⟨r, rfl, hm⟩; obtain ⟨A, c, rfl, _⟩ := (hm.data List.mem_cons_self).shape; refine ⟨_, _, rfl, hm, ?_⟩; clear hm hw w
  refine b_ (D_ tabOk rfl rfl rfl rfl) rfl rfl ?_
  refine a0_ (R_ rfl) rfl rfl ?_
  rintro _ _ ⟨b6, rfl, rfl⟩
  refine b_ (j_ rfl) rfl rfl ?_
  refine g_ (c_ ?_)
  refine m_ ?_
  refine P_ rfl rfl ?_
  intro w' hw'
  exact ⟨_, _, rfl, hw'⟩
theorem size_c {n : Int} (hw : Mem S σ ρ w) (hn : sizeB n = true) : Calls Tryz.prog 57 #[.int .i64 n] w fun e w' => e = .returned (.bool true) ∧ Mem S σ ρ w' := by
  rcases c6_ hn with rfl | rfl | rfl | rfl
  · skip
    refine ah_ [.int .i64 1] Tryz.func57 rfl Tryz.ntmps57 rfl (Mem S σ ρ) hw ?_
    refine d_ (a_ ?_)
    refine b_ (j_ rfl) rfl rfl ?_
    refine g_ (c_ ?_)
    refine d_ (a_ ?_)
    refine b_ (k_ rfl) rfl rfl ?_
    refine b_ (al_ rfl rfl) rfl rfl ?_
    refine b_ (k_ rfl) rfl rfl ?_
    refine z_ (t := 5) rfl ?_ (by intro hc5; exfalso; omega)
    intro hc5
    iterate 2 refine af_ rfl rfl ?_
    refine b_ (O_ rfl rfl) rfl rfl ?_
    refine b_ (k_ rfl) rfl rfl ?_
    iterate 2 refine af_ rfl rfl ?_
    refine b_ (O_ rfl rfl) rfl rfl ?_
    refine b_ (k_ rfl) rfl rfl ?_
    iterate 2 refine af_ rfl rfl ?_
    refine b_ (O_ rfl rfl) rfl rfl ?_
    refine b_ (j_ rfl) rfl rfl ?_
    refine g_ (c_ ?_)
    refine m_ ?_
    refine P_ rfl rfl ?_
    intro w' hw'
    exact ⟨by rfl, hw'⟩
  · skip
    refine ah_ [.int .i64 2] Tryz.func57 rfl Tryz.ntmps57 rfl (Mem S σ ρ) hw ?_
    refine d_ (a_ ?_)
    refine b_ (j_ rfl) rfl rfl ?_
    refine g_ (c_ ?_)
    refine d_ (a_ ?_)
    refine b_ (k_ rfl) rfl rfl ?_
    refine b_ (al_ rfl rfl) rfl rfl ?_
    refine b_ (k_ rfl) rfl rfl ?_
    refine z_ (t := 5) rfl (by intro hc5; exfalso; omega) ?_
    intro hc5
    refine b_ (k_ rfl) rfl rfl ?_
    refine b_ (al_ rfl rfl) rfl rfl ?_
    refine b_ (S_ rfl rfl) rfl rfl ?_
    refine b_ (k_ rfl) rfl rfl ?_
    refine z_ (t := 9) rfl ?_ (by intro hc9; exfalso; omega)
    intro hc9
    iterate 2 refine af_ rfl rfl ?_
    refine b_ (O_ rfl rfl) rfl rfl ?_
    refine b_ (k_ rfl) rfl rfl ?_
    iterate 2 refine af_ rfl rfl ?_
    refine b_ (O_ rfl rfl) rfl rfl ?_
    refine b_ (j_ rfl) rfl rfl ?_
    refine g_ (c_ ?_)
    refine m_ ?_
    refine P_ rfl rfl ?_
    intro w' hw'
    exact ⟨by rfl, hw'⟩
  · skip
    refine ah_ [.int .i64 4] Tryz.func57 rfl Tryz.ntmps57 rfl (Mem S σ ρ) hw ?_
    refine d_ (a_ ?_)
    refine b_ (j_ rfl) rfl rfl ?_
    refine g_ (c_ ?_)
    refine d_ (a_ ?_)
    refine b_ (k_ rfl) rfl rfl ?_
    refine b_ (al_ rfl rfl) rfl rfl ?_
    refine b_ (k_ rfl) rfl rfl ?_
    refine z_ (t := 5) rfl (by intro hc5; exfalso; omega) ?_
    intro hc5
    refine b_ (k_ rfl) rfl rfl ?_
    refine b_ (al_ rfl rfl) rfl rfl ?_
    refine b_ (S_ rfl rfl) rfl rfl ?_
    refine b_ (k_ rfl) rfl rfl ?_
    refine z_ (t := 9) rfl (by intro hc9; exfalso; omega) ?_
    intro hc9
    refine b_ (k_ rfl) rfl rfl ?_
    refine b_ (al_ rfl rfl) rfl rfl ?_
    refine b_ (S_ rfl rfl) rfl rfl ?_
    refine b_ (k_ rfl) rfl rfl ?_
    refine z_ (t := 13) rfl ?_ (by intro hc13; exfalso; omega)
    intro hc13
    iterate 2 refine af_ rfl rfl ?_
    refine b_ (O_ rfl rfl) rfl rfl ?_
    refine b_ (j_ rfl) rfl rfl ?_
    refine g_ (c_ ?_)
    refine m_ ?_
    refine P_ rfl rfl ?_
    intro w' hw'
    exact ⟨by rfl, hw'⟩
  · skip
    refine ah_ [.int .i64 8] Tryz.func57 rfl Tryz.ntmps57 rfl (Mem S σ ρ) hw ?_
    refine d_ (a_ ?_)
    refine b_ (j_ rfl) rfl rfl ?_
    refine g_ (c_ ?_)
    refine d_ (a_ ?_)
    refine b_ (k_ rfl) rfl rfl ?_
    refine b_ (al_ rfl rfl) rfl rfl ?_
    refine b_ (k_ rfl) rfl rfl ?_
    refine z_ (t := 5) rfl (by intro hc5; exfalso; omega) ?_
    intro hc5
    refine b_ (k_ rfl) rfl rfl ?_
    refine b_ (al_ rfl rfl) rfl rfl ?_
    refine b_ (S_ rfl rfl) rfl rfl ?_
    refine b_ (k_ rfl) rfl rfl ?_
    refine z_ (t := 9) rfl (by intro hc9; exfalso; omega) ?_
    intro hc9
    refine b_ (k_ rfl) rfl rfl ?_
    refine b_ (al_ rfl rfl) rfl rfl ?_
    refine b_ (S_ rfl rfl) rfl rfl ?_
    refine b_ (k_ rfl) rfl rfl ?_
    refine z_ (t := 13) rfl (by intro hc13; exfalso; omega) ?_
    intro hc13
    refine b_ (k_ rfl) rfl rfl ?_
    refine b_ (al_ rfl rfl) rfl rfl ?_
    refine b_ (S_ rfl rfl) rfl rfl ?_
    refine b_ (j_ rfl) rfl rfl ?_
    refine g_ (c_ ?_)
    refine m_ ?_
    refine P_ rfl rfl ?_
    intro w' hw'
    exact ⟨by rfl, hw'⟩
theorem ii_ {v : Value} {l : List UInt8} {x n : Nat} (hw : Mem S σ ρ w) (hb : bytesD v l ∈ ρ) (hl : l.length + 8 ≤ lots) (hn : sizeB n = true) :
    Calls Tryz.prog 33 #[v, .int .u64 x, .int .i64 n] w fun e w' => ∃ r, e = .returned r ∧ Mem S (.pc (ownPc 5 1 r (l ++ beBytes x n).length ((l ++ beBytes x n).map bc)) :: σ) ρ w' := by
  obtain ⟨A, c, rfl, h1, h2, h3⟩ := (hw.data hb).shape
  have hn8 := fN_ hn
  refine ah_ [.slice A l.length c, .int .u64 x, .int .i64 n] Tryz.func33 rfl Tryz.ntmps33 rfl (Mem S σ ρ) hw ?_
  refine d_ (a_ ?_)
  refine b_ (j_ rfl) rfl rfl ?_
  refine g_ (c_ ?_)
  refine d_ (a_ ?_)
  refine a0_ (b1_ (L := []) tabOk Tryz.underlying31 rfl rfl (fun L0 h => by match L0, h with | [], _ => rfl) rfl) rfl rfl ?_
  rintro _ _ ⟨b9, rfl, rfl⟩
  refine lg_ (fun _ h => Mem.blkOwn (k := 0) (sz := 1) h rfl (Nat.zero_le _)) ?_
  refine b_ (k_ rfl) rfl rfl ?_
  refine a0_ (bl_ (pre := []) (news := l.map bc) tabOk Tryz.underlying31 rfl rfl rfl rfl rfl (fun _ hw => ⟨_, hw.data hb⟩) (by simp) eZ_ (by unfold maxLen; (try simp only [List.length_append, w_]); unfold lots at *; omega) (by rw [show Tryz.prog.bytesOf 5 = 1 by kernel_rfl]; (try simp only [List.length_append, w_]); unfold lots at *; omega)) rfl rfl ?_
  rintro r _ rfl
  refine b_ (j_ rfl) rfl rfl ?_
  refine g_ (c_ ?_)
  refine d_ ?_
  refine d_ (a_ ?_)
  refine b_ (k_ rfl) rfl rfl ?_
  refine s_ (by kernel_rfl) rfl rfl rfl ?_
  intro w hw
  refine (size_c (n := n) hw hn).mono ?_; rintro _ _ ⟨rfl, hm⟩; refine ⟨_, _, rfl, hm, ?_⟩; clear hm hw w
  refine b_ (bn_ rfl) rfl rfl ?_
  refine g_ (c_ ?_)
  refine ad_ rfl ?_
  refine p_ ?_
  refine c_ ?_
  refine d_ ?_
  refine d_ (a_ ?_)
  refine b_ (k_ rfl) rfl rfl ?_
  refine b_ (aC_ rfl rfl (by simp only [InR, lo, hi]; omega)) rfl rfl ?_
  refine b_ (j_ rfl) rfl rfl ?_
  refine g_ (c_ ?_)
  refine y_ ?_
  refine ae_ (ι := Nat × Value) (fun z => [(1, .int .u64 x), (7, z.2), (8, .int .i64 ((n : Int) - 1 - (z.1 : Nat)))]) (fun z w' => z.1 ≤ n ∧ Mem S (.pc (ownPc 5 1 z.2 (l ++ (beBytes x n).take z.1).length ((l ++ (beBytes x n).take z.1).map bc)) :: σ) ρ w') (fun z => n - z.1) (0, _) (by exact ⟨rfl, rfl, by show some (Value.int _ _) = some (Value.int _ _); congr 2; simp, trivial⟩) (fun w' hw' => ⟨Nat.zero_le _, by simpa using hw'⟩) ?_
  intro z
  refine bO_ ?_
  intro hz
  refine d_ ?_
  refine d_ (a_ ?_)
  refine b_ (k_ rfl) rfl rfl ?_
  refine b_ (bK_ rfl rfl) rfl rfl ?_
  refine g_ (c_ ?_)
  refine o_ rfl ?_ ?_
  rotate_left
  · intro hc19
    refine W_ ?_
    refine h_ (by intro h; cases h) ?_
    refine h_ (by intro h; cases h) ?_
    refine V_ ?_
    refine c_ ?_
    refine d_ (a_ ?_)
    refine b_ (k_ rfl) rfl rfl ?_
    refine b_ (j_ rfl) rfl rfl ?_
    refine g_ (c_ ?_)
    refine m_ ?_
    refine P_ rfl rfl ?_
    intro w' hw'
    have e1 : z.1 = n := by omega
    have e2 : (beBytes x n).take z.1 = beBytes x n := by rw [e1]; exact List.take_of_length_le (by rw [w_]; exact Nat.le_refl _)
    rw [e2] at hw'
    exact ⟨_, rfl, hw'⟩
  intro hc19
  have hlt : z.1 < n := by omega
  refine p_ ?_
  refine c_ ?_
  refine d_ ?_
  refine y_ ?_
  refine a_ ?_
  iterate 3 refine b_ (k_ rfl) rfl rfl ?_
  refine b_ (ax_ rfl Tryz.underlying91 (by kernel_rfl) (by simp only [InR, lo, hi]; omega)) rfl rfl ?_
  refine b_ (dz_ rfl rfl (by simp only [InR, lo, hi]; omega)) rfl rfl ?_
  refine b_ (Val.shrN (q := x / 256 ^ (n - 1 - z.1)) rfl rfl (by omega) (by rw [show (8 * ((n : Int) - 1 - (z.1 : Nat))).toNat = 8 * (n - 1 - z.1) by omega]; exact shr_be x _ (by omega))) rfl rfl ?_
  refine b_ (le_ (x' := x / 256 ^ (n - 1 - z.1)) rfl Tryz.underlying5 (by kernel_rfl)) rfl rfl ?_
  refine a0_ (b1_ (L := [bc (UInt8.ofNat (x / 256 ^ (n - 1 - z.1)))]) tabOk Tryz.underlying31 rfl rfl (fun L0 h => by match L0, h with | [_], _ => rfl) rfl) rfl rfl ?_
  rintro _ _ ⟨b29, rfl, rfl⟩
  refine a0_ (bl_ (pre := [_]) (news := [UInt8.ofNat (x / 256 ^ (n - 1 - z.1))].map bc) tabOk Tryz.underlying31 rfl rfl rfl rfl rfl (fun _ hw => ⟨_, hw.blkRow List.mem_cons_self (Nat.le_refl _) (by decide)⟩) rfl eZ_ (by unfold maxLen; (try simp only [List.length_append, List.length_take, w_]); unfold lots at *; omega) (by rw [show Tryz.prog.bytesOf 5 = 1 by kernel_rfl]; (try simp only [List.length_append, List.length_take, w_]); unfold lots at *; omega)) rfl rfl ?_
  rintro r _ rfl
  refine b_ (j_ rfl) rfl rfl ?_
  refine g_ ?_
  refine u_ ?_
  refine c_ ?_
  refine a_ ?_
  refine b_ (k_ rfl) rfl rfl ?_
  refine b_ (aC_ rfl rfl (by simp only [InR, lo, hi]; omega)) rfl rfl ?_
  refine b_ (j_ rfl) rfl rfl ?_
  refine g_ ?_
  refine G_ (z.1 + 1, r) (by show n - (z.1 + 1) < n - z.1; omega) (by exact ⟨rfl, rfl, by show some (Value.int _ _) = some (Value.int _ _); congr 2; push_cast; omega, trivial⟩) (fun w' hw' => ⟨hlt, ?_⟩)
  have e1 := cz_ x n z.1 hlt
  have e2 : (beBytes x n).take (z.1 + 1) = (beBytes x n).take z.1 ++ [UInt8.ofNat (x / 256 ^ (n - 1 - z.1))] := by rw [List.take_add_one, e1]; rfl
  show Mem S (.pc (ownPc _ _ _ (l ++ (beBytes x n).take (z.1 + 1)).length ((l ++ (beBytes x n).take (z.1 + 1)).map bc)) :: σ) ρ w'
  rw [e2, ← List.append_assoc, List.length_append, List.map_append]
  exact hw'.sub (fun _ h => h) (List.sublist_cons_self _ _)
theorem rput_c {v : Value} {l : List UInt8} {x n : Nat} (hw : Mem S σ ρ w) (hb : bytesD v l ∈ ρ) (hl : l.length + 8 ≤ lots) (hn : sizeB n = true) :
    Calls Tryz.prog 33 #[v, .int .u64 x, .int .i64 n] w fun e w' => ∃ r, e = .returned r ∧ Mem S σ (bytesD r (l ++ beBytes x n) :: ρ) w' :=
  (ii_ hw hb hl hn).mono fun _ _ ⟨r, h1, h2⟩ => ⟨r, h1, h2.freeze⟩
theorem roct_Row {v r : Value} {l m : List UInt8} (hw : Mem S σ ρ w) (hb : bytesD v l ∈ ρ) (hr : bytesD r m ∈ ρ) (hl : l.length + m.length + 8 ≤ lots) (hm : m.length < 4294967296) : Calls Tryz.prog 34 #[v, r] w fun e w' => ∃ z, e = .returned z ∧ Mem S σ (bytesD z (l ++ beBytes m.length 4 ++ m) :: ρ) w' := by
  obtain ⟨A, c, rfl, h1, h2, h3⟩ := (hw.data hr).shape
  refine ah_ [v, .slice A m.length c] Tryz.func34 rfl Tryz.ntmps34 rfl (Mem S σ ρ) hw ?_
  refine d_ (a_ ?_)
  refine b_ (j_ rfl) rfl rfl ?_
  refine g_ (c_ ?_)
  refine d_ (a_ ?_)
  iterate 2 refine b_ (k_ rfl) rfl rfl ?_
  refine b_ (B_ rfl Tryz.underlying31) rfl rfl ?_
  refine b_ (ax_ rfl Tryz.underlying79 (by kernel_rfl) (by simp only [InR, lo, hi]; omega)) rfl rfl ?_
  refine s_ (by kernel_rfl) rfl rfl rfl ?_
  intro w hw
  refine (ii_ (l := l) (x := m.length) (n := 4) hw hb (by omega) rfl).mono ?_; rintro _ _ ⟨r, rfl, hm⟩; refine ⟨_, _, rfl, hm, ?_⟩; clear hm hw w
  refine b_ (k_ rfl) rfl rfl ?_
  refine a0_ (bl_ (pre := []) (news := m.map bc) tabOk Tryz.underlying31 rfl rfl rfl rfl rfl (fun _ hw => ⟨_, hw.data hr⟩) (by simp) eZ_ (by unfold maxLen; (try simp only [List.length_append, w_]); unfold lots at *; omega) (by rw [show Tryz.prog.bytesOf 5 = 1 by kernel_rfl]; (try simp only [List.length_append, w_]); unfold lots at *; omega)) rfl rfl ?_
  rintro r _ rfl
  refine b_ (j_ rfl) rfl rfl ?_
  refine g_ (c_ ?_)
  refine m_ ?_
  refine P_ rfl rfl ?_
  intro w' hw'
  have hf := Mem.freeze hw'
  refine ⟨_, rfl, ?_⟩
  have e1 : (l ++ beBytes m.length 4 ++ m).length = (l ++ beBytes m.length 4).length + m.length := by simp [w_]; omega
  unfold bytesD
  rw [e1, List.map_append]
  exact hf
set_option maxHeartbeats 400000 in
theorem rfixed_a {n : Int} (hw : Mem S σ ρ w) (hb : rdI 108 p s ∈ σ) (hv : bytesD s.v s.l ∈ ρ) (he : s.e ≠ 0) : Calls Tryz.prog 96 #[.pointer (some ⟨p, 0, none⟩), .int .i64 n] w fun e w' => ∃ r, e = .returned r ∧ Mem S σ (bytesD r [] :: bytesD s.v s.l :: ρ) w' := by
  refine ah_ [.pointer (some ⟨p, 0, none⟩), .int .i64 n] Tryz.func96 rfl Tryz.ntmps96 rfl (Mem S σ ρ) hw ?_
  refine d_ (a_ ?_)
  refine b_ (j_ rfl) rfl rfl ?_
  refine g_ (c_ ?_)
  refine d_ ?_
  refine d_ (a_ ?_)
  refine b_ (k_ rfl) rfl rfl ?_
  refine b_ (K_ rfl) rfl rfl ?_
  refine b_ (v_ tabOk rfl rfl rfl rfl rfl) rfl rfl ?_
  refine b_ (i_ tabOk rfl rfl (by repeat (first | assumption | exact List.mem_cons_self | exact hmem _ | apply List.mem_cons_of_mem)) (by rfl)) rfl rfl ?_
  refine b_ (al_ rfl rfl) rfl rfl ?_
  refine b_ (k_ rfl) rfl rfl ?_
  refine z_ (t := 11) rfl (by intro hc11; exfalso; exact he hc11) ?_
  intro hc11
  iterate 11 refine af_ rfl rfl ?_
  refine b_ (S_ rfl rfl) rfl rfl ?_
  refine g_ (c_ ?_)
  refine ad_ rfl ?_
  refine p_ ?_
  refine c_ ?_
  refine d_ ?_
  refine d_ (a_ ?_)
  refine b_ (k_ rfl) rfl rfl ?_
  refine b_ (K_ rfl) rfl rfl ?_
  refine b_ (v_ tabOk rfl rfl rfl rfl rfl) rfl rfl ?_
  refine b_ (i_ tabOk rfl rfl (by repeat (first | assumption | exact List.mem_cons_self | exact hmem _ | apply List.mem_cons_of_mem)) (by rfl)) rfl rfl ?_
  refine b_ (aQ_ rfl rfl) rfl rfl ?_
  refine g_ (c_ ?_)
  refine o_ rfl ?_ (by intro hc31; exfalso; omega)
  intro hc31
  refine d_ (a_ ?_)
  refine b_ (j_ rfl) rfl rfl ?_
  refine g_ (c_ ?_)
  refine m_ ?_
  refine h_ (by intro h; cases h) ?_
  refine P_ rfl rfl ?_
  intro w' hw'
  exact ⟨_, rfl, (hw'.add (z := bytesD _ _) (hw'.data hv)).add (z := bytesD (.slice none 0 0) []) (IsRow.nil rfl)⟩
set_option maxHeartbeats 400000 in
theorem rfixed_b {n : Int} (hw : Mem S σ ρ w) (hu : Upd (rdI 108 p s) (rdI 108 p (s.fail 2)) σ τ) (hv : bytesD s.v s.l ∈ ρ) (he : s.e = 0) (hn : s.bad n) : Calls Tryz.prog 96 #[.pointer (some ⟨p, 0, none⟩), .int .i64 n] w fun e w' => ∃ r, e = .returned r ∧ Mem S τ (bytesD r [] :: bytesD s.v s.l :: ρ) w' := by
  have hb := hu.mem
  have hb2 := hu.mem'
  have hsv := (hw.data hv).shape
  obtain ⟨v, l, e⟩ := s
  obtain ⟨A, c, hsv, hs1, hs2, hs3⟩ := hsv
  dsimp only at hsv
  subst hsv
  unfold Rd.bad at hn
  dsimp only [Rd.fail] at *
  refine ah_ [.pointer (some ⟨p, 0, none⟩), .int .i64 n] Tryz.func96 rfl Tryz.ntmps96 rfl (Mem S σ ρ) hw ?_
  refine d_ (a_ ?_)
  refine b_ (j_ rfl) rfl rfl ?_
  refine g_ (c_ ?_)
  refine d_ ?_
  refine d_ (a_ ?_)
  refine b_ (k_ rfl) rfl rfl ?_
  refine b_ (K_ rfl) rfl rfl ?_
  refine b_ (v_ tabOk rfl rfl rfl rfl rfl) rfl rfl ?_
  refine b_ (i_ tabOk rfl rfl (by repeat (first | assumption | exact List.mem_cons_self | exact hmem _ | apply List.mem_cons_of_mem)) (by rfl)) rfl rfl ?_
  refine b_ (al_ rfl rfl) rfl rfl ?_
  refine b_ (k_ rfl) rfl rfl ?_
  refine z_ (t := 11) rfl ?_ (by intro hc11; exfalso; exact hc11 he)
  intro hc11
  refine b_ (k_ rfl) rfl rfl ?_
  refine b_ (aI_ rfl rfl) rfl rfl ?_
  refine b_ (k_ rfl) rfl rfl ?_
  refine z_ (t := 14) rfl ?_ ?_
  · intro hc14
    iterate 7 refine af_ rfl rfl ?_
    refine b_ (O_ rfl rfl) rfl rfl ?_
    refine b_ (O_ rfl rfl) rfl rfl ?_
    refine g_ (c_ ?_)
    refine M_ rfl ?_
    refine a_ ?_
    refine b_ (k_ rfl) rfl rfl ?_
    refine b_ (K_ rfl) rfl rfl ?_
    refine b_ (v_ tabOk rfl rfl rfl rfl rfl) rfl rfl ?_
    refine a0_ (bA_ tabOk rfl rfl rfl rfl rfl (by repeat (first | assumption | exact Upd.here | exact hrep _ _ | apply Upd.there)) (by rfl) (by rfl)) rfl rfl ?_
    rintro _ _ ⟨rfl, rfl⟩
    refine g_ (c_ ?_)
    refine d_ ?_
    refine d_ (a_ ?_)
    refine b_ (k_ rfl) rfl rfl ?_
    refine b_ (K_ rfl) rfl rfl ?_
    refine b_ (v_ tabOk rfl rfl rfl rfl rfl) rfl rfl ?_
    refine b_ (i_ tabOk rfl rfl (by repeat (first | assumption | exact List.mem_cons_self | exact hmem _ | apply List.mem_cons_of_mem)) (by rfl)) rfl rfl ?_
    refine b_ (aQ_ rfl rfl) rfl rfl ?_
    refine g_ (c_ ?_)
    refine o_ rfl ?_ (by intro hc31; exfalso; exact hc31 (show (2 : Int) ≠ 0 by decide))
    intro hc31
    refine d_ (a_ ?_)
    refine b_ (j_ rfl) rfl rfl ?_
    refine g_ (c_ ?_)
    refine m_ ?_
    refine h_ (by intro h; cases h) ?_
    refine P_ rfl rfl ?_
    intro w' hw'
    exact ⟨_, rfl, (hw'.add (z := bytesD _ _) (hw'.data hv)).add (z := bytesD (.slice none 0 0) []) (IsRow.nil rfl)⟩
  intro hc14
  iterate 2 refine b_ (k_ rfl) rfl rfl ?_
  refine b_ (K_ rfl) rfl rfl ?_
  refine b_ (v_ tabOk rfl rfl rfl rfl rfl) rfl rfl ?_
  refine b_ (i_ tabOk rfl rfl (by repeat (first | assumption | exact List.mem_cons_self | exact hmem _ | apply List.mem_cons_of_mem)) (by rfl)) rfl rfl ?_
  refine b_ (B_ rfl Tryz.underlying31) rfl rfl ?_
  refine b_ (ay_ rfl rfl) rfl rfl ?_
  refine b_ (S_ rfl rfl) rfl rfl ?_
  refine b_ (O_ rfl rfl) rfl rfl ?_
  refine g_ (c_ ?_)
  refine o_ rfl ?_ (by intro hc23; exfalso; omega)
  intro hc23
  refine a_ ?_
  refine b_ (k_ rfl) rfl rfl ?_
  refine b_ (K_ rfl) rfl rfl ?_
  refine b_ (v_ tabOk rfl rfl rfl rfl rfl) rfl rfl ?_
  refine a0_ (bA_ tabOk rfl rfl rfl rfl rfl (by repeat (first | assumption | exact Upd.here | exact hrep _ _ | apply Upd.there)) (by rfl) (by rfl)) rfl rfl ?_
  rintro _ _ ⟨rfl, rfl⟩
  refine g_ (c_ ?_)
  refine d_ ?_
  refine d_ (a_ ?_)
  refine b_ (k_ rfl) rfl rfl ?_
  refine b_ (K_ rfl) rfl rfl ?_
  refine b_ (v_ tabOk rfl rfl rfl rfl rfl) rfl rfl ?_
  refine b_ (i_ tabOk rfl rfl (by repeat (first | assumption | exact List.mem_cons_self | exact hmem _ | apply List.mem_cons_of_mem)) (by rfl)) rfl rfl ?_
  refine b_ (aQ_ rfl rfl) rfl rfl ?_
  refine g_ (c_ ?_)
  refine o_ rfl ?_ (by intro hc31; exfalso; exact hc31 (show (2 : Int) ≠ 0 by decide))
  intro hc31
  refine d_ (a_ ?_)
  refine b_ (j_ rfl) rfl rfl ?_
  refine g_ (c_ ?_)
  refine m_ ?_
  refine h_ (by intro h; cases h) ?_
  refine P_ rfl rfl ?_
  intro w' hw'
  exact ⟨_, rfl, (hw'.add (z := bytesD _ _) (hw'.data hv)).add (z := bytesD (.slice none 0 0) []) (IsRow.nil rfl)⟩
set_option maxHeartbeats 400000 in
theorem j0_ {n : Nat} (hw : Mem S σ ρ w) (hu : Upd (rdI 108 p s) (rdI 108 p ⟨tailV s.v n, s.l.drop n, 0⟩) σ τ) (hv : bytesD s.v s.l ∈ ρ) (hl : s.l.length ≤ lots) (he : s.e = 0) (hn : n ≤ s.l.length) : Calls Tryz.prog 96 #[.pointer (some ⟨p, 0, none⟩), .int .i64 n] w fun e w' => ∃ r, e = .returned r ∧ Mem S τ (bytesD r (s.l.take n) :: bytesD (tailV s.v n) (s.l.drop n) :: ρ) w' := by
  have hb := hu.mem
  have hb2 := hu.mem'
  have hsv := (hw.data hv).shape
  obtain ⟨v, l, e⟩ := s
  obtain ⟨A, c, hsv, hs1, hs2, hs3⟩ := hsv
  dsimp only at hsv
  subst hsv
  dsimp only at he
  subst he
  dsimp only at *
  refine ah_ [.pointer (some ⟨p, 0, none⟩), .int .i64 n] Tryz.func96 rfl Tryz.ntmps96 rfl (Mem S σ ρ) hw ?_
  refine d_ (a_ ?_)
  refine b_ (j_ rfl) rfl rfl ?_
  refine g_ (c_ ?_)
  refine d_ ?_
  refine d_ (a_ ?_)
  refine b_ (k_ rfl) rfl rfl ?_
  refine b_ (K_ rfl) rfl rfl ?_
  refine b_ (v_ tabOk rfl rfl rfl rfl rfl) rfl rfl ?_
  refine b_ (i_ tabOk rfl rfl (by repeat (first | assumption | exact List.mem_cons_self | exact hmem _ | apply List.mem_cons_of_mem)) (by rfl)) rfl rfl ?_
  refine b_ (al_ rfl rfl) rfl rfl ?_
  refine b_ (k_ rfl) rfl rfl ?_
  refine z_ (t := 11) rfl ?_ (by intro hc11; exfalso; exact hc11 rfl)
  intro hc11
  refine b_ (k_ rfl) rfl rfl ?_
  refine b_ (aI_ rfl rfl) rfl rfl ?_
  refine b_ (k_ rfl) rfl rfl ?_
  refine z_ (t := 14) rfl (by intro hc14; exfalso; omega) ?_
  intro hc14
  iterate 2 refine b_ (k_ rfl) rfl rfl ?_
  refine b_ (K_ rfl) rfl rfl ?_
  refine b_ (v_ tabOk rfl rfl rfl rfl rfl) rfl rfl ?_
  refine b_ (i_ tabOk rfl rfl (by repeat (first | assumption | exact List.mem_cons_self | exact hmem _ | apply List.mem_cons_of_mem)) (by rfl)) rfl rfl ?_
  refine b_ (B_ rfl Tryz.underlying31) rfl rfl ?_
  refine b_ (ay_ rfl rfl) rfl rfl ?_
  refine b_ (S_ rfl rfl) rfl rfl ?_
  refine b_ (O_ rfl rfl) rfl rfl ?_
  refine g_ (c_ ?_)
  refine o_ rfl (by intro hc23; exfalso; omega) ?_
  intro hc23
  refine p_ ?_
  refine c_ ?_
  refine d_ ?_
  refine d_ (a_ ?_)
  refine b_ (k_ rfl) rfl rfl ?_
  refine b_ (K_ rfl) rfl rfl ?_
  refine b_ (v_ tabOk rfl rfl rfl rfl rfl) rfl rfl ?_
  refine b_ (i_ tabOk rfl rfl (by repeat (first | assumption | exact List.mem_cons_self | exact hmem _ | apply List.mem_cons_of_mem)) (by rfl)) rfl rfl ?_
  refine b_ (aQ_ rfl rfl) rfl rfl ?_
  refine g_ (c_ ?_)
  refine o_ rfl (by intro hc31; exfalso; exact hc31 rfl) ?_
  intro hc31
  refine p_ ?_
  refine c_ ?_
  refine d_ (a_ ?_)
  refine a0_ (b1_ (L := []) tabOk Tryz.underlying31 rfl rfl (fun L0 h => by match L0, h with | [], _ => rfl) rfl) rfl rfl ?_
  rintro _ _ ⟨b32, rfl, rfl⟩
  refine lg_ (fun _ h => Mem.blkOwn (k := 0) (sz := 1) h rfl (Nat.zero_le _)) ?_
  refine b_ (k_ rfl) rfl rfl ?_
  refine b_ (K_ rfl) rfl rfl ?_
  refine b_ (v_ tabOk rfl rfl rfl rfl rfl) rfl rfl ?_
  refine b_ (i_ tabOk rfl rfl (by repeat (first | assumption | exact List.mem_cons_self | exact hmem _ | apply List.mem_cons_of_mem)) (by rfl)) rfl rfl ?_
  refine b_ (k_ rfl) rfl rfl ?_
  refine b_ (e2_ (q := n) tabOk Tryz.underlying31 rfl rfl rfl rfl (by omega)) rfl rfl ?_
  refine a0_ (bl_ (pre := []) (news := (l.take n).map bc) tabOk Tryz.underlying31 rfl rfl rfl rfl rfl (fun _ hw => ⟨_, IsRow.shapeN (IsRow.head (hw.data hv) hn c (by omega) (Nat.le_refl _)) (by simp; omega)⟩) (by simp; omega) eZ_ (by unfold maxLen; (try simp only [List.length_append, List.length_take, w_]); unfold lots at *; omega) (by rw [show Tryz.prog.bytesOf 5 = 1 by kernel_rfl]; (try simp only [List.length_append, List.length_take, w_]); unfold lots at *; omega)) rfl rfl ?_
  rintro r _ rfl
  refine lg_ (fun _ h => Mem.freeze h) ?_
  refine b_ (j_ rfl) rfl rfl ?_
  refine g_ (c_ ?_)
  refine d_ (a_ ?_)
  iterate 2 refine b_ (k_ rfl) rfl rfl ?_
  refine b_ (K_ rfl) rfl rfl ?_
  refine b_ (v_ tabOk rfl rfl rfl rfl rfl) rfl rfl ?_
  refine b_ (i_ tabOk rfl rfl (by repeat (first | assumption | exact List.mem_cons_self | exact hmem _ | apply List.mem_cons_of_mem)) (by rfl)) rfl rfl ?_
  refine b_ (k_ rfl) rfl rfl ?_
  refine b_ (dd_ (q := n) tabOk Tryz.underlying31 rfl rfl rfl rfl rfl hn) rfl rfl ?_
  refine b_ (K_ rfl) rfl rfl ?_
  refine b_ (v_ tabOk rfl rfl rfl rfl rfl) rfl rfl ?_
  refine a0_ (bA_ tabOk rfl rfl rfl rfl rfl (by repeat (first | assumption | exact Upd.here | exact hrep _ _ | apply Upd.there)) (by rfl) (by rfl)) rfl rfl ?_
  rintro _ _ ⟨rfl, rfl⟩
  refine g_ (c_ ?_)
  refine d_ (a_ ?_)
  refine b_ (k_ rfl) rfl rfl ?_
  refine b_ (j_ rfl) rfl rfl ?_
  refine g_ (c_ ?_)
  refine m_ ?_
  refine P_ rfl rfl ?_
  intro w' hw'
  have hd : bytesD r (l.take n) = rowD r (0 + n) ([] ++ (l.take n).map bc) := by unfold bytesD; rw [List.nil_append]; congr 1; simp; omega
  refine ⟨r, rfl, ?_⟩
  rw [hd]
  exact (hw'.add (z := bytesD _ _) (IsRow.tail (l := l) (hw'.data (z := bytesD _ l) (List.mem_cons_of_mem _ hv)) hn)).less (by intro x hx; simp only [List.mem_cons] at hx ⊢; rcases hx with rfl | rfl | hx <;> simp [*])
theorem ik_ {n : Int} (hw : Mem S σ ρ w) (hu : Upd (rdI 108 p s) (rdI 108 p (s.fixed n)) σ τ) (hv : bytesD s.v s.l ∈ ρ) (hl : s.l.length ≤ lots) : Calls Tryz.prog 96 #[.pointer (some ⟨p, 0, none⟩), .int .i64 n] w fun e w' => ∃ r, e = .returned r ∧ Mem S τ (bytesD r (s.out n) :: bytesD (s.fixed n).v (s.fixed n).l :: ρ) w' := by
  by_cases he : s.e = 0
  · by_cases hn : s.bad n
    · have e1 : s.fixed n = s.fail 2 := by simp [Rd.fixed, he, hn, Rd.fail]
      have e2 : s.out n = [] := by simp [Rd.out, hn]
      rw [e1] at hu ⊢
      rw [e2]
      exact rfixed_b (s := s) hw hu hv he hn
    · have e1 : s.fixed n = ⟨tailV s.v n.toNat, s.l.drop n.toNat, 0⟩ := by simp [Rd.fixed, he, hn]
      have e2 : s.out n = s.l.take n.toNat := by simp [Rd.out, he, hn]
      rw [e1] at hu ⊢
      rw [e2]
      unfold Rd.bad at hn
      obtain ⟨k, rfl⟩ : ∃ k : Nat, n = k := ⟨n.toNat, by omega⟩
      exact j0_ (s := s) hw hu hv hl he (by omega)
  · have e1 : s.fixed n = s := by simp [Rd.fixed, he]
    have e2 : s.out n = [] := by simp [Rd.out, he]
    rw [e1] at hu ⊢
    rw [e2, d4_ hu]
    exact rfixed_a (s := s) hw hu.mem hv he
set_option maxHeartbeats 400000 in
theorem b3_ {n : Int} (hw : Mem S σ ρ w) (hu : Upd (rdI 108 p s) (rdI 108 p (s.fixed n)) σ τ) (hv : bytesD s.v s.l ∈ ρ) (hl : s.l.length ≤ lots) (hn : sizeB n = true) : Calls Tryz.prog 63 #[.pointer (some ⟨p, 0, none⟩), .int .i64 n] w fun e w' => e = .returned (.int .u64 (s.num n : Nat)) ∧ Mem S τ (bytesD (s.fixed n).v (s.fixed n).l :: ρ) w' := by
  have hb := hu.mem
  have h8 : (s.out n).length ≤ 8 := Nat.le_trans (s.out_length n) (fN_ hn).2
  unfold Rd.num
  refine ah_ [.pointer (some ⟨p, 0, none⟩), .int .i64 n] Tryz.func63 rfl Tryz.ntmps63 rfl (Mem S σ ρ) hw ?_
  refine d_ (a_ ?_)
  refine b_ (j_ rfl) rfl rfl ?_
  refine g_ (c_ ?_)
  refine d_ ?_
  refine i8_ (ι := Unit) (fun _ => [(0, .pointer (some ⟨p, 0, none⟩)), (1, .int .i64 n), (17, .bool false)]) (fun _ => Mem S σ ρ) ?_ ?_
  · skip
    refine a_ ?_
    refine b_ (k_ rfl) rfl rfl ?_
    refine b_ (K_ rfl) rfl rfl ?_
    refine b_ (v_ tabOk rfl rfl rfl rfl rfl) rfl rfl ?_
    refine b_ (i_ tabOk rfl rfl (by repeat (first | assumption | exact List.mem_cons_self | exact hmem _ | apply List.mem_cons_of_mem)) (by rfl)) rfl rfl ?_
    refine b_ (al_ rfl rfl) rfl rfl ?_
    refine b_ (k_ rfl) rfl rfl ?_
    refine z_ (t := 13) rfl ?_ ?_
    rotate_left
    · intro hc13
      iterate 3 refine af_ rfl rfl ?_
      refine b_ (S_ rfl rfl) rfl rfl ?_
      refine g_ ?_
      exact ab_ () (by exact ⟨rfl, rfl, rfl, trivial⟩) (fun _ h => h)
    intro hc13
    refine b_ (k_ rfl) rfl rfl ?_
    refine s_ (by kernel_rfl) rfl rfl rfl ?_
    intro w hw
    refine (size_c (n := n) hw hn).mono ?_; rintro _ _ ⟨rfl, hm⟩; refine ⟨_, _, rfl, hm, ?_⟩; clear hm hw w
    refine b_ (bn_ rfl) rfl rfl ?_
    refine b_ (O_ rfl rfl) rfl rfl ?_
    refine g_ ?_
    exact ab_ () (by exact ⟨rfl, rfl, rfl, trivial⟩) (fun _ h => h)
  · intro _
    refine ad_ rfl ?_
    refine p_ ?_
    refine c_ ?_
    refine d_ (a_ ?_)
    refine b_ (j_ rfl) rfl rfl ?_
    refine g_ (c_ ?_)
    refine d_ ?_
    refine d_ (a_ ?_)
    iterate 2 refine b_ (k_ rfl) rfl rfl ?_
    refine s_ (by kernel_rfl) rfl rfl rfl ?_
    intro w hw
    refine (ik_ (s := s) hw hu hv hl).mono ?_; rintro _ _ ⟨r, rfl, hm⟩; obtain ⟨A, c, rfl, h1, h2, h3⟩ := (hm.data List.mem_cons_self).shape; have hA : s.out n ≠ [] → ∃ b off, A = some ⟨b, off, none⟩ := fun h => eu_ (hm.data List.mem_cons_self) (by simpa using h); refine ⟨_, _, rfl, hm, ?_⟩; clear hm hw w
    refine b_ (B_ rfl Tryz.underlying31) rfl rfl ?_
    refine b_ (k_ rfl) rfl rfl ?_
    refine g_ (c_ ?_)
    refine y_ ?_
    refine ae_ (ι := Nat) (fun k => [(5, .int .u64 (beVal ((s.out n).take k) : Nat)), (23, .slice A (s.out n).length c), (24, .int .i64 ((s.out n).length : Nat)), (25, .int .i64 (k : Nat))]) (fun k w' => k ≤ (s.out n).length ∧ Mem S τ (bytesD (.slice A (s.out n).length c) (s.out n) :: bytesD (s.fixed n).v (s.fixed n).l :: ρ) w') (fun k => (s.out n).length - k) 0 (by exact ⟨rfl, rfl, rfl, rfl, trivial⟩) (fun w' hw' => ⟨Nat.zero_le _, hw'⟩) ?_
    intro k
    refine bO_ ?_
    intro hk
    refine d_ (a_ ?_)
    refine b_ (aI_ rfl rfl) rfl rfl ?_
    refine g_ (c_ ?_)
    refine d_ ?_
    refine o_ rfl ?_ ?_
    rotate_left
    · intro hc26
      refine W_ ?_
      refine h_ (by intro h; cases h) ?_
      refine h_ (by intro h; cases h) ?_
      refine V_ ?_
      refine c_ ?_
      refine d_ (a_ ?_)
      refine b_ (k_ rfl) rfl rfl ?_
      refine b_ (j_ rfl) rfl rfl ?_
      refine g_ (c_ ?_)
      refine m_ ?_
      refine P_ rfl rfl ?_
      intro w' hw'
      have hk2 : k = (s.out n).length := by omega
      subst hk2
      rw [List.take_of_length_le (Nat.le_refl _)]
      exact ⟨rfl, hw'.less (fun x hx => List.mem_cons_of_mem _ hx)⟩
    intro hc26
    have hlt : k < (s.out n).length := by omega
    have hb := fD_ (s.out n) k hlt h8
    have hc := ((s.out n)[k]'hlt).toNat_lt
    obtain ⟨bb, off, rfl⟩ := hA (by intro h0; rw [h0] at hlt; simp at hlt)
    refine p_ ?_
    refine c_ ?_
    refine d_ ?_
    refine y_ ?_
    refine d_ (a_ ?_)
    refine b_ (a7_ tabOk Tryz.underlying31 rfl rfl rfl (by omega)) rfl rfl ?_
    refine b_ (fG_ (u := bc ((s.out n)[k]'hlt)) tabOk rfl rfl (by repeat (first | assumption | exact List.mem_cons_self | exact hmem _ | apply List.mem_cons_of_mem)) (by show ((s.out n).map bc)[k * 1]? = _; rw [Nat.mul_one, List.getElem?_map, List.getElem?_eq_getElem hlt]; rfl)) rfl rfl ?_
    refine b_ (j_ rfl) rfl rfl ?_
    refine g_ (c_ ?_)
    refine a_ ?_
    refine b_ (k_ rfl) rfl rfl ?_
    refine b_ (dz_ rfl rfl (by simp only [InR, lo, hi]; omega)) rfl rfl ?_
    refine b_ (k_ rfl) rfl rfl ?_
    refine b_ (ax_ rfl Tryz.underlying79 (by kernel_rfl) (by simp only [InR, lo, hi]; omega)) rfl rfl ?_
    refine b_ (C_ rfl rfl (by simp only [InR, lo, hi]; omega)) rfl rfl ?_
    refine b_ (j_ rfl) rfl rfl ?_
    refine g_ ?_
    refine u_ ?_
    refine c_ ?_
    refine a_ ?_
    refine b_ (C_ rfl rfl (by simp only [InR, lo, hi]; omega)) rfl rfl ?_
    refine b_ (k_ rfl) rfl rfl ?_
    refine g_ ?_
    exact G_ (k + 1) (by omega) (by exact ⟨by rw [e7_ _ _ hlt]; rfl, rfl, rfl, rfl, trivial⟩) (fun w' hw' => ⟨hlt, hw'⟩)
set_option maxHeartbeats 400000 in
theorem rcount_m {most : Int} {υ : Blks} (hw : Mem S σ ρ w) (hu1 : Upd (rdI 108 p s) (rdI 108 p (s.fixed 2)) σ υ) (hu2 : Upd (rdI 108 p (s.fixed 2)) (rdI 108 p ((s.fixed 2).fail 4)) υ τ) (hv : bytesD s.v s.l ∈ ρ) (hl : s.l.length ≤ lots) (he : (s.fixed 2).e = 0) (hm : most < s.num 2) : Calls Tryz.prog 64 #[.pointer (some ⟨p, 0, none⟩), .int .i64 most] w fun e w' => e = .returned (.int .i64 0) ∧ Mem S τ (bytesD (s.fixed 2).v (s.fixed 2).l :: ρ) w' := by
  have hlt := s.num_lt (n := 2) (k := 2) (Nat.le_refl _)
  have hm1 := hu1.mem'
  have hm2 := hu2.mem
  have hm3 := hu2.mem'
  refine ah_ [.pointer (some ⟨p, 0, none⟩), .int .i64 most] Tryz.func64 rfl Tryz.ntmps64 rfl (Mem S σ ρ) hw ?_
  refine d_ (a_ ?_)
  refine b_ (j_ rfl) rfl rfl ?_
  refine g_ (c_ ?_)
  refine d_ (a_ ?_)
  refine b_ (k_ rfl) rfl rfl ?_
  refine s_ (by kernel_rfl) rfl rfl rfl ?_
  intro w hw
  refine (b3_ (s := s) hw hu1 hv hl rfl).mono ?_; rintro _ _ ⟨rfl, hm⟩; refine ⟨_, _, rfl, hm, ?_⟩; clear hm hw w
  refine b_ (ax_ rfl Tryz.underlying3 (by kernel_rfl) (by simp only [InR, lo, hi]; omega)) rfl rfl ?_
  refine b_ (j_ rfl) rfl rfl ?_
  refine g_ (c_ ?_)
  refine d_ ?_
  refine d_ (a_ ?_)
  refine b_ (k_ rfl) rfl rfl ?_
  refine b_ (K_ rfl) rfl rfl ?_
  refine b_ (v_ tabOk rfl rfl rfl rfl rfl) rfl rfl ?_
  refine b_ (i_ tabOk rfl rfl (by repeat (first | assumption | exact List.mem_cons_self | exact hmem _ | apply List.mem_cons_of_mem)) (by rfl)) rfl rfl ?_
  refine b_ (al_ rfl rfl) rfl rfl ?_
  refine b_ (k_ rfl) rfl rfl ?_
  refine z_ (t := 14) rfl ?_ (by intro hc14; exfalso; exact hc14 he)
  intro hc14
  iterate 2 refine b_ (k_ rfl) rfl rfl ?_
  refine b_ (ay_ rfl rfl) rfl rfl ?_
  refine b_ (O_ rfl rfl) rfl rfl ?_
  refine g_ (c_ ?_)
  refine o_ rfl ?_ (by intro hc18; exfalso; omega)
  intro hc18
  refine a_ ?_
  refine b_ (k_ rfl) rfl rfl ?_
  refine b_ (K_ rfl) rfl rfl ?_
  refine b_ (v_ tabOk rfl rfl rfl rfl rfl) rfl rfl ?_
  refine a0_ (bA_ tabOk rfl rfl rfl rfl rfl (by repeat (first | assumption | exact Upd.here | exact hrep _ _ | apply Upd.there)) (by rfl) (by rfl)) rfl rfl ?_
  rintro _ _ ⟨rfl, rfl⟩
  refine g_ (c_ ?_)
  refine d_ ?_
  refine d_ (a_ ?_)
  refine b_ (k_ rfl) rfl rfl ?_
  refine b_ (K_ rfl) rfl rfl ?_
  refine b_ (v_ tabOk rfl rfl rfl rfl rfl) rfl rfl ?_
  refine b_ (i_ tabOk rfl rfl (by repeat (first | assumption | exact List.mem_cons_self | exact hmem _ | apply List.mem_cons_of_mem)) (by rfl)) rfl rfl ?_
  refine b_ (aQ_ rfl rfl) rfl rfl ?_
  refine g_ (c_ ?_)
  refine o_ rfl ?_ (by intro hc26; exfalso; exact hc26 (show (4 : Int) ≠ 0 by decide))
  intro hc26
  refine d_ (a_ ?_)
  refine b_ (j_ rfl) rfl rfl ?_
  refine g_ (c_ ?_)
  refine m_ ?_
  refine h_ (by intro h; cases h) ?_
  refine P_ rfl rfl ?_
  intro w' hw'
  exact ⟨rfl, hw'⟩
set_option maxHeartbeats 400000 in
theorem rcount_l {most : Int} {υ : Blks} (hw : Mem S σ ρ w) (hu1 : Upd (rdI 108 p s) (rdI 108 p (s.fixed 2)) σ υ) (hv : bytesD s.v s.l ∈ ρ) (hl : s.l.length ≤ lots) (hn : ¬ ((s.fixed 2).e = 0 ∧ most < s.num 2)) (_h0 : (s.fixed 2).e ≠ 0 → s.num 2 = 0) : Calls Tryz.prog 64 #[.pointer (some ⟨p, 0, none⟩), .int .i64 most] w fun e w' => e = .returned (.int .i64 (s.num 2 : Nat)) ∧ Mem S υ (bytesD (s.fixed 2).v (s.fixed 2).l :: ρ) w' := by
  have hlt := s.num_lt (n := 2) (k := 2) (Nat.le_refl _)
  have hm1 := hu1.mem'
  refine ah_ [.pointer (some ⟨p, 0, none⟩), .int .i64 most] Tryz.func64 rfl Tryz.ntmps64 rfl (Mem S σ ρ) hw ?_
  refine d_ (a_ ?_)
  refine b_ (j_ rfl) rfl rfl ?_
  refine g_ (c_ ?_)
  refine d_ (a_ ?_)
  refine b_ (k_ rfl) rfl rfl ?_
  refine s_ (by kernel_rfl) rfl rfl rfl ?_
  intro w hw
  refine (b3_ (s := s) hw hu1 hv hl rfl).mono ?_; rintro _ _ ⟨rfl, hm⟩; refine ⟨_, _, rfl, hm, ?_⟩; clear hm hw w
  refine b_ (ax_ rfl Tryz.underlying3 (by kernel_rfl) (by simp only [InR, lo, hi]; omega)) rfl rfl ?_
  refine b_ (j_ rfl) rfl rfl ?_
  refine g_ (c_ ?_)
  refine d_ ?_
  refine d_ (a_ ?_)
  refine b_ (k_ rfl) rfl rfl ?_
  refine b_ (K_ rfl) rfl rfl ?_
  refine b_ (v_ tabOk rfl rfl rfl rfl rfl) rfl rfl ?_
  refine b_ (i_ tabOk rfl rfl (by repeat (first | assumption | exact List.mem_cons_self | exact hmem _ | apply List.mem_cons_of_mem)) (by rfl)) rfl rfl ?_
  refine b_ (al_ rfl rfl) rfl rfl ?_
  refine b_ (k_ rfl) rfl rfl ?_
  refine z_ (t := 14) rfl ?_ ?_
  rotate_left
  · intro hc14
    iterate 3 refine af_ rfl rfl ?_
    refine b_ (S_ rfl rfl) rfl rfl ?_
    refine g_ (c_ ?_)
    refine ad_ rfl ?_
    refine p_ ?_
    refine c_ ?_
    refine d_ ?_
    refine d_ (a_ ?_)
    refine b_ (k_ rfl) rfl rfl ?_
    refine b_ (K_ rfl) rfl rfl ?_
    refine b_ (v_ tabOk rfl rfl rfl rfl rfl) rfl rfl ?_
    refine b_ (i_ tabOk rfl rfl (by repeat (first | assumption | exact List.mem_cons_self | exact hmem _ | apply List.mem_cons_of_mem)) (by rfl)) rfl rfl ?_
    refine b_ (aQ_ rfl rfl) rfl rfl ?_
    refine g_ (c_ ?_)
    refine o_ rfl ?_ ?_
    · intro hc26
      refine d_ (a_ ?_)
      refine b_ (j_ rfl) rfl rfl ?_
      refine g_ (c_ ?_)
      refine m_ ?_
      refine h_ (by intro h; cases h) ?_
      refine P_ rfl rfl ?_
      intro w' hw'
      exact ⟨by rw [_h0 hc26]; rfl, hw'⟩
    intro hc26
    refine p_ ?_
    refine c_ ?_
    refine d_ (a_ ?_)
    refine b_ (k_ rfl) rfl rfl ?_
    refine b_ (j_ rfl) rfl rfl ?_
    refine g_ (c_ ?_)
    refine m_ ?_
    refine P_ rfl rfl ?_
    intro w' hw'
    (exfalso; exact hc26 hc14)
  intro hc14
  iterate 2 refine b_ (k_ rfl) rfl rfl ?_
  refine b_ (ay_ rfl rfl) rfl rfl ?_
  refine b_ (O_ rfl rfl) rfl rfl ?_
  refine g_ (c_ ?_)
  refine o_ rfl (by intro hc18; exfalso; exact hn ⟨hc14, hc18⟩) ?_
  intro hc18
  refine p_ ?_
  refine c_ ?_
  refine d_ ?_
  refine d_ (a_ ?_)
  refine b_ (k_ rfl) rfl rfl ?_
  refine b_ (K_ rfl) rfl rfl ?_
  refine b_ (v_ tabOk rfl rfl rfl rfl rfl) rfl rfl ?_
  refine b_ (i_ tabOk rfl rfl (by repeat (first | assumption | exact List.mem_cons_self | exact hmem _ | apply List.mem_cons_of_mem)) (by rfl)) rfl rfl ?_
  refine b_ (aQ_ rfl rfl) rfl rfl ?_
  refine g_ (c_ ?_)
  refine o_ rfl ?_ ?_
  · intro hc26
    refine d_ (a_ ?_)
    refine b_ (j_ rfl) rfl rfl ?_
    refine g_ (c_ ?_)
    refine m_ ?_
    refine h_ (by intro h; cases h) ?_
    refine P_ rfl rfl ?_
    intro w' hw'
    (exfalso; exact hc26 hc14)
  intro hc26
  refine p_ ?_
  refine c_ ?_
  refine d_ (a_ ?_)
  refine b_ (k_ rfl) rfl rfl ?_
  refine b_ (j_ rfl) rfl rfl ?_
  refine g_ (c_ ?_)
  refine m_ ?_
  refine P_ rfl rfl ?_
  intro w' hw'
  exact ⟨rfl, hw'⟩
theorem rcount_c {most : Int} (hw : Mem S σ ρ w) (hu : Upd (rdI 108 p s) (rdI 108 p (s.count most)) σ τ) (hv : bytesD s.v s.l ∈ ρ) (hl : s.l.length ≤ lots) : Calls Tryz.prog 64 #[.pointer (some ⟨p, 0, none⟩), .int .i64 most] w fun e w' => e = .returned (.int .i64 (s.countN most : Nat)) ∧ Mem S τ (bytesD (s.count most).v (s.count most).l :: ρ) w' := by
  by_cases h : (s.fixed 2).e = 0 ∧ most < s.num 2
  · have e1 : s.count most = (s.fixed 2).fail 4 := by simp [Rd.count, h]
    have e2 : s.countN most = 0 := by simp [Rd.countN, h]
    rw [e1] at hu ⊢
    rw [e2]
    obtain ⟨υ, h1, h2⟩ := dG_ (y := rdI 108 p (s.fixed 2)) hu
    exact rcount_m hw h1 h2 hv hl h.1 h.2
  · have e1 : s.count most = s.fixed 2 := by simp only [Rd.count, if_neg h]
    have e2 : s.countN most = s.num 2 := by simp only [Rd.countN, if_neg h]
    rw [e1] at hu ⊢
    rw [e2]
    exact rcount_l hw hu hv hl h (fun he => s.num0 he)
set_option maxHeartbeats 400000 in
theorem rrow_a {most : Int} {υ : Blks} (hw : Mem S σ ρ w) (hu1 : Upd (rdI 108 p s) (rdI 108 p (s.fixed 4)) σ υ) (hv : bytesD s.v s.l ∈ ρ) (hl : s.l.length ≤ lots) (_hmost : 0 ≤ most ∧ most ≤ 9223372036854775807) (he : (s.fixed 4).e ≠ 0) : Calls Tryz.prog 65 #[.pointer (some ⟨p, 0, none⟩), .int .i64 most] w fun e w' => ∃ r, e = .returned r ∧ Mem S υ (bytesD r [] :: bytesD (s.fixed 4).v (s.fixed 4).l :: ρ) w' := by
  have hlt := s.num_lt (n := 4) (k := 4) (Nat.le_refl _)
  have hl2 := s.fixed_length 4
  have hm1 := hu1.mem'
  refine ah_ [.pointer (some ⟨p, 0, none⟩), .int .i64 most] Tryz.func65 rfl Tryz.ntmps65 rfl (Mem S σ ρ) hw ?_
  refine d_ (a_ ?_)
  refine b_ (j_ rfl) rfl rfl ?_
  refine g_ (c_ ?_)
  refine d_ (a_ ?_)
  refine b_ (k_ rfl) rfl rfl ?_
  refine s_ (by kernel_rfl) rfl rfl rfl ?_
  intro w hw
  refine (b3_ (s := s) hw hu1 hv hl rfl).mono ?_; rintro _ _ ⟨rfl, hm⟩; refine ⟨_, _, rfl, hm, ?_⟩; clear hm hw w
  refine b_ (j_ rfl) rfl rfl ?_
  refine g_ (c_ ?_)
  refine d_ ?_
  refine d_ (a_ ?_)
  refine b_ (k_ rfl) rfl rfl ?_
  refine b_ (K_ rfl) rfl rfl ?_
  refine b_ (v_ tabOk rfl rfl rfl rfl rfl) rfl rfl ?_
  refine b_ (i_ tabOk rfl rfl (by repeat (first | assumption | exact List.mem_cons_self | exact hmem _ | apply List.mem_cons_of_mem)) (by rfl)) rfl rfl ?_
  refine b_ (al_ rfl rfl) rfl rfl ?_
  refine b_ (k_ rfl) rfl rfl ?_
  refine z_ (t := 13) rfl (by intro hc13; exfalso; exact he hc13) ?_
  intro hc13
  iterate 8 refine af_ rfl rfl ?_
  refine b_ (S_ rfl rfl) rfl rfl ?_
  refine g_ (c_ ?_)
  refine ad_ rfl ?_
  refine p_ ?_
  refine c_ ?_
  refine d_ ?_
  refine d_ (a_ ?_)
  refine b_ (k_ rfl) rfl rfl ?_
  refine b_ (K_ rfl) rfl rfl ?_
  refine b_ (v_ tabOk rfl rfl rfl rfl rfl) rfl rfl ?_
  refine b_ (i_ tabOk rfl rfl (by repeat (first | assumption | exact List.mem_cons_self | exact hmem _ | apply List.mem_cons_of_mem)) (by rfl)) rfl rfl ?_
  refine b_ (aQ_ rfl rfl) rfl rfl ?_
  refine g_ (c_ ?_)
  refine o_ rfl ?_ (by intro hc30; exfalso; exact hc30 he)
  intro hc30
  refine d_ (a_ ?_)
  refine b_ (j_ rfl) rfl rfl ?_
  refine g_ (c_ ?_)
  refine m_ ?_
  refine h_ (by intro h; cases h) ?_
  refine P_ rfl rfl ?_
  intro w' hw'
  exact ⟨_, rfl, hw'.add (z := bytesD (.slice none 0 0) []) (IsRow.nil rfl)⟩
set_option maxHeartbeats 400000 in
theorem rrow_b {most : Int} {υ : Blks} (hw : Mem S σ ρ w) (hu1 : Upd (rdI 108 p s) (rdI 108 p (s.fixed 4)) σ υ) (hu2 : Upd (rdI 108 p (s.fixed 4)) (rdI 108 p ((s.fixed 4).fail 3)) υ τ) (hv : bytesD s.v s.l ∈ ρ) (hl : s.l.length ≤ lots) (_hmost : 0 ≤ most ∧ most ≤ 9223372036854775807) (he : (s.fixed 4).e = 0) (hm : most < s.num 4) : Calls Tryz.prog 65 #[.pointer (some ⟨p, 0, none⟩), .int .i64 most] w fun e w' => ∃ r, e = .returned r ∧ Mem S τ (bytesD r [] :: bytesD (s.fixed 4).v (s.fixed 4).l :: ρ) w' := by
  have hm2 := hu2.mem
  have hm3 := hu2.mem'
  have hlt := s.num_lt (n := 4) (k := 4) (Nat.le_refl _)
  have hl2 := s.fixed_length 4
  have hm1 := hu1.mem'
  refine ah_ [.pointer (some ⟨p, 0, none⟩), .int .i64 most] Tryz.func65 rfl Tryz.ntmps65 rfl (Mem S σ ρ) hw ?_
  refine d_ (a_ ?_)
  refine b_ (j_ rfl) rfl rfl ?_
  refine g_ (c_ ?_)
  refine d_ (a_ ?_)
  refine b_ (k_ rfl) rfl rfl ?_
  refine s_ (by kernel_rfl) rfl rfl rfl ?_
  intro w hw
  refine (b3_ (s := s) hw hu1 hv hl rfl).mono ?_; rintro _ _ ⟨rfl, hm⟩; refine ⟨_, _, rfl, hm, ?_⟩; clear hm hw w
  refine b_ (j_ rfl) rfl rfl ?_
  refine g_ (c_ ?_)
  refine d_ ?_
  refine d_ (a_ ?_)
  refine b_ (k_ rfl) rfl rfl ?_
  refine b_ (K_ rfl) rfl rfl ?_
  refine b_ (v_ tabOk rfl rfl rfl rfl rfl) rfl rfl ?_
  refine b_ (i_ tabOk rfl rfl (by repeat (first | assumption | exact List.mem_cons_self | exact hmem _ | apply List.mem_cons_of_mem)) (by rfl)) rfl rfl ?_
  refine b_ (al_ rfl rfl) rfl rfl ?_
  refine b_ (k_ rfl) rfl rfl ?_
  refine z_ (t := 13) rfl ?_ (by intro hc13; exfalso; exact hc13 he)
  intro hc13
  refine b_ (k_ rfl) rfl rfl ?_
  refine b_ (aI_ rfl rfl) rfl rfl ?_
  refine b_ (k_ rfl) rfl rfl ?_
  refine z_ (t := 16) rfl (by intro hc16; exfalso; omega) ?_
  intro hc16
  iterate 2 refine b_ (k_ rfl) rfl rfl ?_
  refine b_ (ax_ rfl Tryz.underlying79 (by kernel_rfl) (by simp only [InR, lo, hi]; omega)) rfl rfl ?_
  refine b_ (ay_ rfl rfl) rfl rfl ?_
  refine b_ (S_ rfl rfl) rfl rfl ?_
  refine b_ (O_ rfl rfl) rfl rfl ?_
  refine g_ (c_ ?_)
  refine o_ rfl ?_ (by intro hc22; exfalso; omega)
  intro hc22
  refine a_ ?_
  refine b_ (k_ rfl) rfl rfl ?_
  refine b_ (K_ rfl) rfl rfl ?_
  refine b_ (v_ tabOk rfl rfl rfl rfl rfl) rfl rfl ?_
  refine a0_ (bA_ tabOk rfl rfl rfl rfl rfl (by repeat (first | assumption | exact Upd.here | exact hrep _ _ | apply Upd.there)) (by rfl) (by rfl)) rfl rfl ?_
  rintro _ _ ⟨rfl, rfl⟩
  refine g_ (c_ ?_)
  refine d_ ?_
  refine d_ (a_ ?_)
  refine b_ (k_ rfl) rfl rfl ?_
  refine b_ (K_ rfl) rfl rfl ?_
  refine b_ (v_ tabOk rfl rfl rfl rfl rfl) rfl rfl ?_
  refine b_ (i_ tabOk rfl rfl (by repeat (first | assumption | exact List.mem_cons_self | exact hmem _ | apply List.mem_cons_of_mem)) (by rfl)) rfl rfl ?_
  refine b_ (aQ_ rfl rfl) rfl rfl ?_
  refine g_ (c_ ?_)
  refine o_ rfl ?_ (by intro hc30; exfalso; exact hc30 (show (3 : Int) ≠ 0 by decide))
  intro hc30
  refine d_ (a_ ?_)
  refine b_ (j_ rfl) rfl rfl ?_
  refine g_ (c_ ?_)
  refine m_ ?_
  refine h_ (by intro h; cases h) ?_
  refine P_ rfl rfl ?_
  intro w' hw'
  exact ⟨_, rfl, hw'.add (z := bytesD (.slice none 0 0) []) (IsRow.nil rfl)⟩
set_option maxHeartbeats 400000 in
theorem rrow_d {most : Int} {υ : Blks} (hw : Mem S σ ρ w) (hu1 : Upd (rdI 108 p s) (rdI 108 p (s.fixed 4)) σ υ) (hu2 : Upd (rdI 108 p (s.fixed 4)) (rdI 108 p ((s.fixed 4).fixed (s.num 4))) υ τ) (hv : bytesD s.v s.l ∈ ρ) (hl : s.l.length ≤ lots) (_hmost : 0 ≤ most ∧ most ≤ 9223372036854775807) (he : (s.fixed 4).e = 0) (hm : ¬ most < s.num 4) : Calls Tryz.prog 65 #[.pointer (some ⟨p, 0, none⟩), .int .i64 most] w fun e w' => ∃ r, e = .returned r ∧ Mem S τ (bytesD r ((s.fixed 4).out (s.num 4)) :: bytesD ((s.fixed 4).fixed (s.num 4)).v ((s.fixed 4).fixed (s.num 4)).l :: ρ) w' := by
  have hlt := s.num_lt (n := 4) (k := 4) (Nat.le_refl _)
  have hl2 := s.fixed_length 4
  have hm1 := hu1.mem'
  refine ah_ [.pointer (some ⟨p, 0, none⟩), .int .i64 most] Tryz.func65 rfl Tryz.ntmps65 rfl (Mem S σ ρ) hw ?_
  refine d_ (a_ ?_)
  refine b_ (j_ rfl) rfl rfl ?_
  refine g_ (c_ ?_)
  refine d_ (a_ ?_)
  refine b_ (k_ rfl) rfl rfl ?_
  refine s_ (by kernel_rfl) rfl rfl rfl ?_
  intro w hw
  refine (b3_ (s := s) hw hu1 hv hl rfl).mono ?_; rintro _ _ ⟨rfl, hm⟩; refine ⟨_, _, rfl, hm, ?_⟩; clear hm hw w
  refine b_ (j_ rfl) rfl rfl ?_
  refine g_ (c_ ?_)
  refine d_ ?_
  refine d_ (a_ ?_)
  refine b_ (k_ rfl) rfl rfl ?_
  refine b_ (K_ rfl) rfl rfl ?_
  refine b_ (v_ tabOk rfl rfl rfl rfl rfl) rfl rfl ?_
  refine b_ (i_ tabOk rfl rfl (by repeat (first | assumption | exact List.mem_cons_self | exact hmem _ | apply List.mem_cons_of_mem)) (by rfl)) rfl rfl ?_
  refine b_ (al_ rfl rfl) rfl rfl ?_
  refine b_ (k_ rfl) rfl rfl ?_
  refine z_ (t := 13) rfl ?_ (by intro hc13; exfalso; exact hc13 he)
  intro hc13
  refine b_ (k_ rfl) rfl rfl ?_
  refine b_ (aI_ rfl rfl) rfl rfl ?_
  refine b_ (k_ rfl) rfl rfl ?_
  refine z_ (t := 16) rfl (by intro hc16; exfalso; omega) ?_
  intro hc16
  iterate 2 refine b_ (k_ rfl) rfl rfl ?_
  refine b_ (ax_ rfl Tryz.underlying79 (by kernel_rfl) (by simp only [InR, lo, hi]; omega)) rfl rfl ?_
  refine b_ (ay_ rfl rfl) rfl rfl ?_
  refine b_ (S_ rfl rfl) rfl rfl ?_
  refine b_ (O_ rfl rfl) rfl rfl ?_
  refine g_ (c_ ?_)
  refine o_ rfl (by intro hc22; exfalso; omega) ?_
  intro hc22
  refine p_ ?_
  refine c_ ?_
  refine d_ ?_
  refine d_ (a_ ?_)
  refine b_ (k_ rfl) rfl rfl ?_
  refine b_ (K_ rfl) rfl rfl ?_
  refine b_ (v_ tabOk rfl rfl rfl rfl rfl) rfl rfl ?_
  refine b_ (i_ tabOk rfl rfl (by repeat (first | assumption | exact List.mem_cons_self | exact hmem _ | apply List.mem_cons_of_mem)) (by rfl)) rfl rfl ?_
  refine b_ (aQ_ rfl rfl) rfl rfl ?_
  refine g_ (c_ ?_)
  refine o_ rfl (by intro hc30; exfalso; exact hc30 he) ?_
  intro hc30
  refine p_ ?_
  refine c_ ?_
  refine d_ (a_ ?_)
  iterate 2 refine b_ (k_ rfl) rfl rfl ?_
  refine b_ (ax_ rfl Tryz.underlying3 (by kernel_rfl) (by simp only [InR, lo, hi]; omega)) rfl rfl ?_
  refine s_ (by kernel_rfl) rfl rfl rfl ?_
  intro w hw
  refine (ik_ (s := s.fixed 4) hw hu2 (by repeat (first | assumption | exact List.mem_cons_self | exact hmem _ | apply List.mem_cons_of_mem)) (by omega)).mono ?_; rintro _ _ ⟨r, rfl, hm⟩; refine ⟨_, _, rfl, hm, ?_⟩; clear hm hw w
  refine b_ (j_ rfl) rfl rfl ?_
  refine g_ (c_ ?_)
  refine m_ ?_
  refine P_ rfl rfl ?_
  intro w' hw'
  exact ⟨_, rfl, hw'.less (by intro x hx; simp only [List.mem_cons] at hx ⊢; rcases hx with rfl | rfl | hx <;> simp [*])⟩
theorem rrow_c {most : Int} (hw : Mem S σ ρ w) (hu : Upd (rdI 108 p s) (rdI 108 p (s.row most)) σ τ) (hv : bytesD s.v s.l ∈ ρ) (hl : s.l.length ≤ lots) (hmost : 0 ≤ most ∧ most ≤ 9223372036854775807) : Calls Tryz.prog 65 #[.pointer (some ⟨p, 0, none⟩), .int .i64 most] w fun e w' => ∃ r, e = .returned r ∧ Mem S τ (bytesD r (s.rowOut most) :: bytesD (s.row most).v (s.row most).l :: ρ) w' := by
  by_cases he : (s.fixed 4).e = 0
  · by_cases hm : most < s.num 4
    · have e1 : s.row most = (s.fixed 4).fail 3 := by simp [Rd.row, he, hm]
      have e2 : s.rowOut most = [] := by simp [Rd.rowOut, hm]
      rw [e1] at hu ⊢
      rw [e2]
      obtain ⟨υ, h1, h2⟩ := dG_ (y := rdI 108 p (s.fixed 4)) hu
      exact rrow_b hw h1 h2 hv hl hmost he hm
    · have e1 : s.row most = (s.fixed 4).fixed (s.num 4) := by simp [Rd.row, he, hm]
      have e2 : s.rowOut most = (s.fixed 4).out (s.num 4) := by simp [Rd.rowOut, he, hm]
      rw [e1] at hu ⊢
      rw [e2]
      obtain ⟨υ, h1, h2⟩ := dG_ (y := rdI 108 p (s.fixed 4)) hu
      exact rrow_d hw h1 h2 hv hl hmost he hm
  · have e1 : s.row most = s.fixed 4 := by simp [Rd.row, he]
    have e2 : s.rowOut most = [] := by simp [Rd.rowOut, he]
    rw [e1] at hu ⊢
    rw [e2]
    exact rrow_a hw hu hv hl hmost he
theorem rend_c (hw : Mem S σ ρ w) (hb : rdI 108 p s ∈ σ) (hv : bytesD s.v s.l ∈ ρ) : Calls Tryz.prog 66 #[.pointer (some ⟨p, 0, none⟩)] w fun e w' => e = .returned (.int .i64 s.end_) ∧ Mem S σ ρ w' := by
  have hsv := (hw.data hv).shape
  obtain ⟨v, l, e⟩ := s
  obtain ⟨A, c, hsv, hs1, hs2, hs3⟩ := hsv
  dsimp only at hsv
  subst hsv
  have hnil : l = [] ↔ l.length = 0 := List.length_eq_zero_iff.symm
  refine ah_ [.pointer (some ⟨p, 0, none⟩)] Tryz.func66 rfl Tryz.ntmps66 rfl (Mem S σ ρ) hw ?_
  refine d_ (a_ ?_)
  refine b_ (j_ rfl) rfl rfl ?_
  refine g_ (c_ ?_)
  refine d_ ?_
  refine d_ (a_ ?_)
  refine b_ (k_ rfl) rfl rfl ?_
  refine b_ (K_ rfl) rfl rfl ?_
  refine b_ (v_ tabOk rfl rfl rfl rfl rfl) rfl rfl ?_
  refine b_ (i_ tabOk rfl rfl (by repeat (first | assumption | exact List.mem_cons_self | exact hmem _ | apply List.mem_cons_of_mem)) (by rfl)) rfl rfl ?_
  refine b_ (al_ rfl rfl) rfl rfl ?_
  refine b_ (k_ rfl) rfl rfl ?_
  refine z_ (t := 8) rfl ?_ ?_
  rotate_left
  · intro hc8
    iterate 6 refine af_ rfl rfl ?_
    refine b_ (S_ rfl rfl) rfl rfl ?_
    refine g_ (c_ ?_)
    refine ad_ rfl ?_
    refine p_ ?_
    refine c_ ?_
    refine d_ (a_ ?_)
    refine b_ (k_ rfl) rfl rfl ?_
    refine b_ (K_ rfl) rfl rfl ?_
    refine b_ (v_ tabOk rfl rfl rfl rfl rfl) rfl rfl ?_
    refine b_ (i_ tabOk rfl rfl (by repeat (first | assumption | exact List.mem_cons_self | exact hmem _ | apply List.mem_cons_of_mem)) (by rfl)) rfl rfl ?_
    refine b_ (j_ rfl) rfl rfl ?_
    refine g_ (c_ ?_)
    refine m_ ?_
    refine P_ rfl rfl ?_
    intro w' hw'
    refine ⟨?_, hw'⟩
    dsimp only at *
    simp only [Rd.end_, Ne, hnil]
    (rw [if_neg (by omega)]; done)
  intro hc8
  refine b_ (k_ rfl) rfl rfl ?_
  refine b_ (K_ rfl) rfl rfl ?_
  refine b_ (v_ tabOk rfl rfl rfl rfl rfl) rfl rfl ?_
  refine b_ (i_ tabOk rfl rfl (by repeat (first | assumption | exact List.mem_cons_self | exact hmem _ | apply List.mem_cons_of_mem)) (by rfl)) rfl rfl ?_
  refine b_ (B_ rfl Tryz.underlying31) rfl rfl ?_
  refine b_ (ay_ rfl rfl) rfl rfl ?_
  refine b_ (O_ rfl rfl) rfl rfl ?_
  refine g_ (c_ ?_)
  refine o_ rfl ?_ ?_
  · intro hc15
    refine d_ (a_ ?_)
    refine b_ (j_ rfl) rfl rfl ?_
    refine g_ (c_ ?_)
    refine m_ ?_
    refine h_ (by intro h; cases h) ?_
    refine P_ rfl rfl ?_
    intro w' hw'
    refine ⟨?_, hw'⟩
    dsimp only at *
    simp only [Rd.end_, Ne, hnil]
    (rw [if_pos (by constructor <;> omega)]; done)
  intro hc15
  refine p_ ?_
  refine c_ ?_
  refine d_ (a_ ?_)
  refine b_ (k_ rfl) rfl rfl ?_
  refine b_ (K_ rfl) rfl rfl ?_
  refine b_ (v_ tabOk rfl rfl rfl rfl rfl) rfl rfl ?_
  refine b_ (i_ tabOk rfl rfl (by repeat (first | assumption | exact List.mem_cons_self | exact hmem _ | apply List.mem_cons_of_mem)) (by rfl)) rfl rfl ?_
  refine b_ (j_ rfl) rfl rfl ?_
  refine g_ (c_ ?_)
  refine m_ ?_
  refine P_ rfl rfl ?_
  intro w' hw'
  refine ⟨?_, hw'⟩
  dsimp only at *
  simp only [Rd.end_, Ne, hnil]
  (rw [if_neg (by omega)]; done)
end
section
variable {P : Program} {n : Nat} {l : Slots} {S : List (World × List Nat)} {σ τ : Blks} {ρ : List Dt} {C D : World → Prop} {x y z : Operand} {d : Option Nat} {ty t e : TypeId} {pos : String} {aft : Array Edge} {g : Option (Nat × Bool)} {v u : Value} {Q : Exit → Act → World → Prop} {ops : Array Oper} {rest : List Oper} {ix : Plan} {w : World} {b q : Nat} {s : ByteArray}
theorem eN_ (w : World) (m old : Nat) (e : TypeId) (h : m ≤ maxLen) : m ≤ grownCap w m old e ∧ grownCap w m old e ≤ maxLen := by
  unfold grownCap maxLen at *
  simp only [Question.cut]
  have : (w.tape w.drawn (.appendCap m old e)) % (2 ^ 63 - m) < 2 ^ 63 - m := Nat.mod_lt _ (by omega)
  omega
theorem aF_ (hx : look l x = some (.string s)) (ht : Tryz.prog.underlying t = some .string) (hd : Tryz.prog.underlying e = some (.slice 5)) (hs : s.size ≤ lots) : Eff Tryz.prog n l (Mem S σ ρ) ⟨d, .convert t e x, ty, pos, aft, g⟩ fun u C' => C' = Mem S σ (bytesD u s.data.toList :: ρ) := fun Ac w hf hw => by
  have hrun := Lib.run_convert_string_bytes (P := Tryz.prog) w t e 5 s ht hd Tryz.underlying5
  have hc := eN_ w s.size 0 5 (by unfold lots at hs; unfold maxLen; omega)
  have hx1 : Ext [] w (Lib.bytesWorld w 5 s) := ⟨rfl, rfl, rfl, by rw [Lib.bytesWorld_size]; omega, fun k hk _ => Lib.bytesWorld_at_old w _ s k hk⟩
  refine ⟨_, _, _, rfl, (hw.same hx1).add (z := bytesD (.slice (some ⟨w.heap.size, 0, none⟩) s.size (grownCap w s.size 0 5)) s.data.toList) ⟨⟨some ⟨w.heap.size, 0, none⟩, _, by simp, by simpa using hc.1, hc.2, by simp⟩, fun _ => ⟨w.heap.size, 0, s.size, _, rfl, fun hk => ?_, fun j u hu => ?_⟩⟩, .inl ?_⟩
  · have := hw.small _ hk; omega
  · rw [Nat.zero_add]
    rw [List.getElem?_map] at hu
    have hj : j < s.size := by
      rcases Nat.lt_or_ge j s.size with h | h
      · exact h
      · rw [List.getElem?_eq_none (by simpa using h)] at hu; cases hu
    rw [Lib.bytesWorld_cell w _ s j hj, ← hu, List.getElem?_eq_getElem (by simpa using hj), List.getD_eq_getElem?_getD, List.getElem?_eq_getElem (by simpa using hj)]
    rfl
  · simp only [execOp, hf.eval hx, hrun, Sem.run_bind, Result.andThen_ok, Sem.run_pure]
def u64 (x : Int) : Nat := (x % 18446744073709551616).toNat
theorem a6_ {k : IntKind} {a : Int} (hx : look l x = some (.int k a)) (ht : P.underlying e = some (.int .u64)) (hs : (P.underlying t).isSome = true) : Val P n l D ⟨d, .convert t e x, ty, pos, aft, g⟩ (.int .u64 (u64 a : Nat)) := by
  have h := Z_ (n := n) (D := D) (d := d) (ty := ty) (pos := pos) (aft := aft) (g := g) hx ht hs
  have h2 : IntKind.u64.wrap a = ((u64 a : Nat) : Int) := by
    simp [IntKind.wrap, IntKind.bits, IntKind.signed, u64]; omega
  rw [h2] at h
  exact h
theorem ar_ {k : IntKind} {r : Int} (hx : look l x = some (.string s)) (hy : look l y = some (.int k r)) (hr : r = (q : Nat)) (hq : q < s.size) (hu : P.underlying t = some .string) : Val P n l D ⟨d, .index t x y, ty, pos, aft, g⟩ (.int .u8 ((s[q]'hq).toNat : Nat)) := fun Ac w hf _ => by
  subst hr
  have h1 : (if (0 : Int) ≤ (q : Int) then s[(q : Int).toNat]? else none) = some (s[q]'hq) := by
    rw [if_pos (by omega)]
    simp [getElem?_pos s q hq]
  simp only [execOp, Instr.index, asIntOf, hf.eval hx, hf.eval hy, Sem.run_bind, Sem.run_pure, Result.andThen_ok, run_underlying hu, h1]
theorem h9_ (hx : look l x = some (.string s)) (hu : P.underlying t = some .string) : Eff P n l (Mem S σ ρ) ⟨d, .range t x, ty, pos, aft, g⟩ fun u C' => ∃ b, u = .pointer (some ⟨b, 0, none⟩) ∧ C' = Mem S (.blk b (.stringIter s 0) :: σ) ρ := fun Ac w hf hw => by
  refine ⟨_, _, _, ⟨w.heap.size, rfl, rfl⟩, hw.alloc (.stringIter s 0), .inl ?_⟩
  simp only [execOp, Instr.range, hf.eval hx, Sem.run_bind, Sem.run_pure, Result.andThen_ok, run_underlying hu, newObj]
  rfl
theorem es_ {p : Nat} (hb : w.heap[b]? = some (.stringIter s p)) : (getObj b).run P w = .ok (.stringIter s p) w := by simp [getObj, Sem.run, hb]
theorem hq_ {p p' : Nat} (hb : w.heap[b]? = some (.stringIter s p)) : (setObj b (.stringIter s p')).run P w = .ok () { w with heap := w.heap.setIfInBounds b (.stringIter s p') } := by simp [setObj, Sem.run, hb]
theorem Ext.setObj_ (w : World) (b : Nat) (o : Obj) : Ext [b] w { w with heap := w.heap.setIfInBounds b o } :=
  ⟨rfl, rfl, rfl, by simp, fun k _ hk => by
    have hne : b ≠ k := fun h => hk (by simp [h])
    simp [Array.getElem?_setIfInBounds_ne hne]⟩
theorem jJ_ {p : Nat} (hx : look l x = some (.pointer (some ⟨b, 0, none⟩))) (hu : Upd (.blk b (.stringIter s p)) (.blk b (.stringIter s (p + (Utf8.decode s p).2))) σ τ) (hp : p < s.size) :
    Eff P n l (Mem S σ ρ) ⟨d, .next x true, ty, pos, aft, g⟩ fun u C' => u = .tuple #[.bool true, .int .i64 p, .int .i32 ((Utf8.decode s p).1 : Nat)] ∧ C' = Mem S τ ρ := fun Ac w hf hw => by
  have hb := hw.holds hu.mem
  have hlt : b < w.heap.size := hw.lt hu.mem b (by simp [It.ids])
  refine ⟨_, { w with heap := w.heap.setIfInBounds b (.stringIter s (p + (Utf8.decode s p).2)) }, _, ⟨rfl, rfl⟩, hw.updB hu (Ext.setObj_ w b _) (by simp [hlt]), .inl ?_⟩
  simp only [execOp, Instr.next, hf.eval hx, Sem.run_bind, Sem.run_pure, Result.andThen_ok, es_ hb, if_pos hp, hq_ hb, goInt]
theorem h1_ {p : Nat} (hx : look l x = some (.pointer (some ⟨b, 0, none⟩))) (hb : It.blk b (.stringIter s p) ∈ σ) (hp : ¬ p < s.size) :
    Val P n l (Mem S σ ρ) ⟨d, .next x true, ty, pos, aft, g⟩ (.tuple #[.bool false]) := fun Ac w hf hw => by
  have hb := hw.holds hb
  simp only [execOp, Instr.next, hf.eval hx, Sem.run_bind, Sem.run_pure, Result.andThen_ok, es_ hb, if_neg hp]
theorem eW_ (s : ByteArray) (p : Nat) (h : p < s.size) (ha : ¬ (s[p]'h).toNat < 128) : 128 ≤ (Utf8.decode s p).1 := by
  have h0 : (s.get! (p + 0)).toNat = (s[p]'h).toNat := by
    have e : s.get! p = s[p]'h := by
      simp [ByteArray.get!, getElem!_pos, h]
      rfl
    rw [Nat.add_zero, e]
  unfold Utf8.decode
  simp only [h0]
  rw [if_neg (by omega)]
  repeat' split
  all_goals (try simp only [Bool.and_eq_true, decide_eq_true_eq, ge_iff_le] at *)
  all_goals (try dsimp only [Utf8.runeError] at *)
  all_goals omega
theorem RV.loadA {tab : List (Nat × TI)} (hT : TabOk P tab) {i : TI} {t' : TypeId} {L : List Value} (ht : ti tab t = some i) (hk : (match i.k with | .one => false | _ => true) = true) (hw : Mem S σ ρ w) (hb : It.blk b (row t' L) ∈ σ) (hl : L.length = i.size) : (loadVar t ⟨b, 0, none⟩).run P w = .ok (.agg L.toArray) w :=
  c7_ hT ht hk hl fun j u hu => by rw [Nat.zero_add, bM_ (hw.holds hb)]; exact hu
theorem SX.to (h : ∀ w, C w → D w) (k : SX P n ops ix D l D Q) : SX P n ops ix D l C Q := fun a w hf hw => k a w hf (h w hw)
theorem g7_ {w : World} {v : Value} {l : List UInt8} (h : BytesV w v l) : (convert 31 9 v).run Tryz.prog w = .ok (.string ⟨l.toArray⟩) w := by
  obtain ⟨A, c, rfl, _, _, h4, h5⟩ := h
  rcases A with _ | a
  · have := run_convert_bytes_nil (P := Tryz.prog) (w := w) 31 5 Tryz.underlying31 Tryz.underlying5 l.length c 9 Tryz.underlying9
    have hl : l = [] := by
      rcases l with _ | ⟨x, l⟩
      · rfl
      · obtain ⟨b, off, h0, _⟩ := h5 (by simp)
        cases h0
    subst hl
    exact this
  · refine run_convert_bytes_back (P := Tryz.prog) w 31 9 5 a c l Tryz.underlying31 Tryz.underlying5 Tryz.underlying9 (fun j hj => ?_)
    obtain ⟨b, off, h0, hc⟩ := h5 (by intro h0; have := congrArg List.length h0; simp at this; subst this; simp at hj)
    cases h0
    have hadd : (⟨b, off, none⟩ : Addr).add j = ⟨b, off + j, none⟩ := by
      unfold Addr.add
      split
      · rename_i h0; subst h0; rfl
      · rfl
    rw [hadd]
    exact hc j _ (by simp [bc, hj])
theorem aq_ {v : Value} {m : List UInt8} (hx : look l x = some v) (hv : bytesD v m ∈ ρ) : Val Tryz.prog n l (Mem S σ ρ) ⟨d, .convert 31 9 x, ty, pos, aft, g⟩ (.string ⟨m.toArray⟩) := fun A w hf hw => by
  have := g7_ (hw.bytes hv)
  simp [execOp, hf.eval hx, this, Result.andThen]
theorem dj_ {f : FuncId} {fs cs : Array Value} {xs : List Operand} {ats : Array TypeId} {vals : List Value} {ρ : Operand → Value} (hb : goesIn P f = true) (hv : xs.map ρ = vals) (hf : ρ x = .func (.func f) fs cs) :
    (execOp ρ ⟨d, .call { callee := .value x, args := xs.toArray, argTypes := ats }, ty, pos, aft, g⟩).run P w = .ok (.enter f (fs ++ vals.toArray ++ cs)) w := by
  unfold goesIn at hb
  cases hfn : P.funcs[f]? with
  | none => simp [hfn] at hb
  | some fn =>
    simp only [hfn, Bool.and_eq_true, Bool.not_eq_true', beq_eq_false_iff_ne, Option.isSome_iff_ne_none] at hb
    obtain ⟨c, hn⟩ := Option.ne_none_iff_exists'.1 hb.1
    simp [execOp, resolve, hf, Deferred.ofValue, invoke, callFunc, program, Sem.run_bind, Sem.run, hfn, hb.2, hn, hv, Result.andThen]
theorem bF_ {f : FuncId} {fs cs : Array Value} {xs : List Operand} {ats : Array TypeId} {vals : List Value} (hx : look l x = some (.func (.func f) fs cs)) (hb : goesIn P f = true) (hv : looks l xs = some vals)
    (hg : gd ops l ⟨d, .call { callee := .value x, args := xs.toArray, argTypes := ats }, ty, pos, aft, g⟩ = some true) (hd : lt? d n = true)
    (hc : ∀ w, C w → Calls P f (fs ++ vals.toArray ++ cs) w fun e w' => ∃ v C', e = .returned v ∧ C' w' ∧ SL P n ops rest (put? l d v) C' Q) :
    SL P n ops (⟨d, .call { callee := .value x, args := xs.toArray, argTypes := ats }, ty, pos, aft, g⟩ :: rest) l C Q := fun a w hf hw =>
  wpList_step fun K hK => by
    rw [if_pos (hf.wanted hg)]
    unfold Oper.wp
    rw [dj_ hb (hf.evals hv) (hf.eval hx), Oper.upon_enter]
    refine (hc w hw).mono fun e w' ⟨v, C', he, hC', hk⟩ => ?_
    subst he
    exact hK _ _ (hk _ _ (hf.put? hd v) hC')
theorem a4_ {i : Nat} {f : FuncId} {fs cs : Array Value} {xs : List Operand} {ats : Array TypeId} {vals : List Value} (hi : ops[i]? = some ⟨d, .call { callee := .value x, args := xs.toArray, argTypes := ats }, ty, pos, aft, g⟩)
    (hx : look l x = some (.func (.func f) fs cs)) (hb : goesIn P f = true) (hv : looks l xs = some vals)
    (hg : gd ops l ⟨d, .call { callee := .value x, args := xs.toArray, argTypes := ats }, ty, pos, aft, g⟩ = some true) (hd : lt? d n = true)
    (hc : ∀ w, C w → Calls P f (fs ++ vals.toArray ++ cs) w fun e w' => ∃ v C', e = .returned v ∧ C' w' ∧ ∃ D' : World → Prop, (∀ w, D' w → D w) ∧ (∀ w, C' w → D' w) ∧ SX P n ops ix D' (put? l d v) C' Q) :
    SX P n ops (.e i ix) D l C Q := fun a w hf hw => by
  unfold planW wpOp
  simp only [hi, hf.wanted hg, if_true]
  refine .inl ?_
  unfold Oper.wp
  rw [dj_ hb (hf.evals hv) (hf.eval hx), Oper.upon_enter]
  refine (hc w hw).mono fun e w' ⟨v, C', he, hC', D', h1, h2, h3⟩ => ?_
  subst he
  exact ⟨D', h1, h2 _ hC', h3 _ _ (hf.put? hd v) hC'⟩
end
end Go.Proofs.YtickdhjljpnlpaaGreatDoor
namespace Go.Proofs.YtickdhjljpnlpaaGreatDoor.A
open Go.RowKit
inductive Abs where
  | v (u : Value)
  | sl (s : Nat) (xs : List (List Abs))
  | agg (cs : List Abs)
  | rp (cs : List Abs)
  | tup (cs : List Abs)
  | fn (f : Fn) (bs cs : List Abs)
  | ifc (t : TypeId) (a : Abs)
mutual
def rep (K : List Nat) (w : World) : Abs → Value → Prop
  | .v u, x => x = u
  | .sl s xs, x => ∃ us, IsRow K w x xs.length us ∧ repss K w s xs us
  | .agg cs, x => ∃ us : List Value, x = .agg us.toArray ∧ reps K w cs us
  | .rp cs, x => ∃ b off, ∃ us : List Value, x = .pointer (some ⟨b, off, none⟩) ∧ b ∉ K ∧ b < w.heap.size ∧ (∀ j u, us[j]? = some u → w.cell? ⟨b, off + j, none⟩ = some u) ∧ reps K w cs us
  | .tup cs, x => ∃ us : List Value, x = .tuple us.toArray ∧ reps K w cs us
  | .fn f bs cs, x => ∃ us vs : List Value, x = .func f us.toArray vs.toArray ∧ reps K w bs us ∧ reps K w cs vs
  | .ifc t a, x => ∃ u, x = .iface t u ∧ rep K w a u
def reps (K : List Nat) (w : World) : List Abs → List Value → Prop
  | [], us => us = []
  | a :: ps, us => ∃ u us', us = u :: us' ∧ rep K w a u ∧ reps K w ps us'
def repss (K : List Nat) (w : World) (s : Nat) : List (List Abs) → List Value → Prop
  | [], us => us = []
  | x :: xs, us => ∃ us1 us2, us = us1 ++ us2 ∧ us1.length = s ∧ reps K w x us1 ∧ repss K w s xs us2
end
structure Carry (K : List Nat) (w : World) (K' : List Nat) (w' : World) : Prop where
  size : w.heap.size ≤ w'.heap.size
  out : ∀ b, b ∉ K → b < w.heap.size → b ∉ K'
  at_ : ∀ b, b ∉ K → b < w.heap.size → w'.heap[b]? = w.heap[b]?
section
variable {K K' K'' F : List Nat} {w w' w'' : World}
theorem Carry.cell (h : Carry K w K' w') {b o : Nat} {u : Value} (hb : b ∉ K) (hc : w.cell? ⟨b, o, none⟩ = some u) : w'.cell? ⟨b, o, none⟩ = some u := by
  have hlt := block_lt_of_cell hc
  rw [← hc]
  exact World.cell?_of_block (w := w) (h.at_ b hb hlt)
theorem Carry.refl : Carry K w K w := ⟨Nat.le_refl _, fun _ h _ => h, fun _ _ _ => rfl⟩
theorem Carry.trans (h : Carry K w K' w') (k : Carry K' w' K'' w'') : Carry K w K'' w'' :=
  ⟨Nat.le_trans h.size k.size, fun b hb hl => k.out b (h.out b hb hl) (Nat.lt_of_lt_of_le hl h.size), fun b hb hl => (k.at_ b (h.out b hb hl) (Nat.lt_of_lt_of_le hl h.size)).trans (h.at_ b hb hl)⟩
theorem Carry.of_ext (hx : Ext F w w') (hF : ∀ k ∈ F, k ∈ K ∨ w.heap.size ≤ k) (hK : ∀ k ∈ K', k ∈ K ∨ w.heap.size ≤ k) : Carry K w K' w' :=
  ⟨hx.size, fun b hb hl hm => by rcases hK b hm with h | h <;> first | exact hb h | omega,
   fun b hb hl => hx.block b hl fun hm => by rcases hF b hm with h | h <;> first | exact hb h | omega⟩
theorem Carry.less (hK : ∀ k ∈ K', k ∈ K) : Carry K w K' w := Carry.of_ext (Ext.refl w) (F := []) (by simp) fun k hk => .inl (hK k hk)
theorem Carry.row (h : Carry K w K' w') {x : Value} {n : Nat} {cs : List Value} (hr : IsRow K w x n cs) : IsRow K' w' x n cs := by
  refine ⟨hr.shape, fun hn => ?_⟩
  obtain ⟨b, off, n', c, hv, hb, hc⟩ := hr.cells hn
  have hlt : b < w.heap.size := by
    cases cs with
    | nil => exact absurd rfl hn
    | cons u cs => exact block_lt_of_cell (hc 0 u rfl)
  exact ⟨b, off, n', c, hv, h.out b hb hlt, fun j u hu => h.cell hb (hc j u hu)⟩
end
mutual
theorem b4_ {K K' : List Nat} {w w' : World} (h : Carry K w K' w') : ∀ (a : Abs) (x : Value), rep K w a x → rep K' w' a x
  | .v _, _, hx => hx
  | .sl s xs, _, ⟨us, h1, h2⟩ => ⟨us, h.row h1, av_ h s xs us h2⟩
  | .agg cs, _, ⟨us, h1, h2⟩ => ⟨us, h1, aO_ h cs us h2⟩
  | .rp cs, _, ⟨b, off, us, h1, h2, h3, h4, h5⟩ => ⟨b, off, us, h1, h.out b h2 h3, Nat.lt_of_lt_of_le h3 h.size, fun j u hu => h.cell h2 (h4 j u hu), aO_ h cs us h5⟩
  | .tup cs, _, ⟨us, h1, h2⟩ => ⟨us, h1, aO_ h cs us h2⟩
  | .fn _ bs cs, _, ⟨us, vs, h1, h2, h3⟩ => ⟨us, vs, h1, aO_ h bs us h2, aO_ h cs vs h3⟩
  | .ifc _ a, _, ⟨u, h1, h2⟩ => ⟨u, h1, b4_ h a u h2⟩
theorem aO_ {K K' : List Nat} {w w' : World} (h : Carry K w K' w') : ∀ (ps : List Abs) (us : List Value), reps K w ps us → reps K' w' ps us
  | [], _, hx => hx
  | a :: ps, _, ⟨u, us', h1, h2, h3⟩ => ⟨u, us', h1, b4_ h a u h2, aO_ h ps us' h3⟩
theorem av_ {K K' : List Nat} {w w' : World} (h : Carry K w K' w') (s : Nat) : ∀ (xs : List (List Abs)) (us : List Value), repss K w s xs us → repss K' w' s xs us
  | [], _, hx => hx
  | x :: xs, _, ⟨us1, us2, h1, h2, h3, h4⟩ => ⟨us1, us2, h1, h2, aO_ h x us1 h3, av_ h s xs us2 h4⟩
end
section
variable {K : List Nat} {w : World} {s : Nat}
theorem aw_ : ∀ {ps : List Abs} {us : List Value}, reps K w ps us → us.length = ps.length
  | [], _, h => by simp [reps] at h; simp [h]
  | a :: ps, _, ⟨u, us', h1, h2, h3⟩ => by subst h1; simp [aw_ h3]
theorem ch_ : ∀ {ps : List Abs} {us : List Value} {j : Nat} {a : Abs}, reps K w ps us → ps[j]? = some a → ∃ u, us[j]? = some u ∧ rep K w a u
  | [], _, _, _, _, hj => by simp at hj
  | b :: ps, _, 0, a, ⟨u, us', h1, h2, h3⟩, hj => by simp at hj; subst hj h1; exact ⟨u, rfl, h2⟩
  | b :: ps, _, j + 1, a, ⟨u, us', h1, h2, h3⟩, hj => by
    subst h1
    simp only [List.getElem?_cons_succ] at hj ⊢
    exact ch_ h3 hj
theorem bq_ : ∀ {ps bs : List Abs} {us vs : List Value}, reps K w ps us → reps K w bs vs → reps K w (ps ++ bs) (us ++ vs)
  | [], _, _, _, h, k => by simp [reps] at h; subst h; exact k
  | a :: ps, _, _, _, ⟨u, us', h1, h2, h3⟩, k => by subst h1; exact ⟨u, _, rfl, h2, bq_ h3 k⟩
theorem dJ_ : ∀ {ps bs : List Abs} {us : List Value}, reps K w (ps ++ bs) us → ∃ us1 us2, us = us1 ++ us2 ∧ us1.length = ps.length ∧ reps K w ps us1 ∧ reps K w bs us2
  | [], bs, us, h => ⟨[], us, rfl, rfl, rfl, h⟩
  | a :: ps, bs, _, ⟨u, us', h1, h2, h3⟩ => by
    subst h1
    obtain ⟨us1, us2, h4, h5, h6, h7⟩ := dJ_ h3
    exact ⟨u :: us1, us2, by simp [h4], by simp [h5], ⟨u, us1, rfl, h2, h6⟩, h7⟩
theorem eA_ {ps : List Abs} {us : List Value} (h : reps K w ps us) (n : Nat) : reps K w (ps.take n) (us.take n) := by
  have h1 := h
  rw [← List.take_append_drop n ps] at h1
  obtain ⟨us1, us2, h4, h5, h6, h7⟩ := dJ_ h1
  have hl := aw_ h
  have : us.take n = us1 := by
    subst h4
    rw [List.length_take] at h5
    rcases Nat.le_total n ps.length with hn | hn
    · rw [List.take_append_of_le_length (by omega), List.take_of_length_le (by omega)]
    · have h8 := aw_ h7
      rw [List.length_drop] at h8
      have h9 : us2 = [] := List.length_eq_zero_iff.1 (by omega)
      subst h9
      rw [List.append_nil, List.take_of_length_le (by omega)]
  rw [this]; exact h6
theorem eB_ {ps : List Abs} {us : List Value} (h : reps K w ps us) (n : Nat) : reps K w (ps.drop n) (us.drop n) := by
  have h1 := h
  rw [← List.take_append_drop n ps] at h1
  obtain ⟨us1, us2, h4, h5, h6, h7⟩ := dJ_ h1
  have hl := aw_ h
  have h8 := aw_ h7
  rw [List.length_drop] at h8
  have : us.drop n = us2 := by
    subst h4
    rw [List.length_take] at h5
    rcases Nat.le_total n ps.length with hn | hn
    · have : us1.length = n := by omega
      subst this; simp
    · have h9 : us2 = [] := List.length_eq_zero_iff.1 (by omega)
      subst h9
      simp; omega
  rw [this]; exact h7
theorem aY_ : ∀ {xs : List (List Abs)} {us : List Value}, repss K w s xs us → us.length = xs.length * s
  | [], _, h => by simp [repss] at h; simp [h]
  | x :: xs, _, ⟨us1, us2, h1, h2, h3, h4⟩ => by subst h1; simp [aY_ h4, h2, Nat.succ_mul]; omega
theorem ez_ : ∀ {xs : List (List Abs)} {us : List Value} {q : Nat} {x : List Abs}, repss K w s xs us → xs[q]? = some x → ∃ vs : List Value, vs.length = s ∧ reps K w x vs ∧ ∀ j u, vs[j]? = some u → us[q * s + j]? = some u
  | [], _, _, _, _, hj => by simp at hj
  | y :: xs, _, 0, x, ⟨us1, us2, h1, h2, h3, h4⟩, hj => by
    simp at hj; subst hj h1
    refine ⟨us1, h2, h3, fun j u hu => ?_⟩
    rw [Nat.zero_mul, Nat.zero_add, List.getElem?_append_left (List.getElem?_eq_some_iff.1 hu).1]; exact hu
  | y :: xs, _, q + 1, x, ⟨us1, us2, h1, h2, h3, h4⟩, hj => by
    subst h1
    simp only [List.getElem?_cons_succ] at hj
    obtain ⟨vs, h5, h6, h7⟩ := ez_ h4 hj
    refine ⟨vs, h5, h6, fun j u hu => ?_⟩
    have : (q + 1) * s + j = us1.length + (q * s + j) := by rw [Nat.succ_mul]; omega
    rw [this, List.getElem?_append_right (by omega), Nat.add_sub_cancel_left]; exact h7 j u hu
theorem bg_ : ∀ {xs ys : List (List Abs)} {us vs : List Value}, repss K w s xs us → repss K w s ys vs → repss K w s (xs ++ ys) (us ++ vs)
  | [], _, _, _, h, k => by simp [repss] at h; subst h; exact k
  | x :: xs, _, _, _, ⟨us1, us2, h1, h2, h3, h4⟩, k => by subst h1; exact ⟨us1, _, by simp, h2, h3, bg_ h4 k⟩
theorem c8_ : ∀ {xs ys : List (List Abs)} {us : List Value}, repss K w s (xs ++ ys) us → ∃ us1 us2, us = us1 ++ us2 ∧ repss K w s xs us1 ∧ repss K w s ys us2
  | [], ys, us, h => ⟨[], us, rfl, rfl, h⟩
  | x :: xs, ys, _, ⟨us1, us2, h1, h2, h3, h4⟩ => by
    subst h1
    obtain ⟨a, b, h5, h6, h7⟩ := c8_ h4
    exact ⟨us1 ++ a, b, by simp [h5], ⟨us1, a, rfl, h2, h3, h6⟩, h7⟩
theorem fe_ : ∀ {us : List Value}, repss K w 1 (us.map fun u => [.v u]) us
  | [] => rfl
  | u :: us => ⟨[u], us, rfl, rfl, ⟨u, [], rfl, rfl, rfl⟩, fe_⟩
theorem dk_ : ∀ {us vs : List Value}, repss K w 1 (us.map fun u => [.v u]) vs → vs = us
  | [], vs, h => h
  | u :: us, vs, ⟨us1, us2, h1, h2, ⟨_, _, h3, h4, h5⟩, h6⟩ => by
    have := dk_ h6
    simp only [rep, reps] at h4 h5
    subst h4 h5 h3 h1 this
    rfl
end
def Abs.one : Abs → Bool
  | .v u => u.oneCell'
  | .agg _ => false
  | .tup _ => false
  | _ => true
theorem Abs.one_rep {K : List Nat} {w : World} {a : Abs} {x : Value} (h : rep K w a x) (h1 : a.one = true) : x.oneCell' = true := by
  cases a with
  | v u => have : x = u := h; subst this; exact h1
  | sl s xs => obtain ⟨us, hr, _⟩ := h; obtain ⟨A, c, rfl, _⟩ := hr.shape; rfl
  | rp cs => obtain ⟨b, o, us, rfl, _⟩ := h; rfl
  | fn f bs cs => obtain ⟨us, vs, rfl, _⟩ := h; rfl
  | ifc t a => obtain ⟨u, rfl, _⟩ := h; rfl
  | agg cs => cases h1
  | tup cs => cases h1
def ones : List Abs → Bool
  | [] => true
  | a :: ps => a.one && ones ps
theorem b7_ {K : List Nat} {w : World} : ∀ {ps : List Abs} {us : List Value}, reps K w ps us → ones ps = true → ∀ u ∈ us, u.oneCell' = true
  | [], _, h, _, u, hu => by simp [reps] at h; subst h; cases hu
  | a :: ps, _, ⟨x, us', h1, h2, h3⟩, ho, u, hu => by
    subst h1
    simp only [ones, Bool.and_eq_true] at ho
    rcases List.mem_cons.1 hu with rfl | hu
    · exact Abs.one_rep h2 ho.1
    · exact b7_ h3 ho.2 u hu
structure Pc where
  ids : List Nat
  p : List Nat → World → Prop
  carry : ∀ K w K' w', Carry K w K' w' → (∀ k ∈ ids, w'.heap[k]? = w.heap[k]?) → p K w → p K' w'
  lt : ∀ K w, p K w → ∀ k ∈ ids, k < w.heap.size
inductive It where
  | blk (b : Nat) (t : TypeId) (cs : List Abs)
  | pc (c : Pc)
  | rd (b : Nat) (t : TypeId) (cs : List Abs)
  | rdpc (c : Pc)
abbrev Blks := List It
def It.mids : It → List Nat
  | .blk b _ _ => [b]
  | .pc c => c.ids
  | _ => []
def It.rids : It → List Nat
  | .rd b _ _ => [b]
  | .rdpc c => c.ids
  | _ => []
def It.holds (K : List Nat) (w : World) : It → Prop
  | .blk b t cs => ∃ us, w.heap[b]? = some (row t us) ∧ reps K w cs us
  | .rd b t cs => ∃ us, w.heap[b]? = some (row t us) ∧ reps K w cs us
  | .pc c => c.p K w
  | .rdpc c => c.p K w
def It.toRd : It → It
  | .blk b t cs => .rd b t cs
  | .pc c => .rdpc c
  | x => x
def mids (σ : Blks) : List Nat := σ.flatMap It.mids
theorem bY_ {w : World} {b : Nat} {o : Obj} (h : w.heap[b]? = some o) : b < w.heap.size := by
  rcases Nat.lt_or_ge b w.heap.size with h1 | h1
  · exact h1
  · rw [Array.getElem?_eq_none h1] at h; cases h
section
variable {K K' : List Nat} {w w' : World} {x : It} {σ τ : Blks}
theorem It.lt (h : x.holds K w) : ∀ k ∈ x.mids ++ x.rids, k < w.heap.size := by
  intro k hk
  cases x with
  | blk b t cs => obtain ⟨us, hb, _⟩ := h; simp [It.mids, It.rids] at hk; subst hk; exact bY_ hb
  | rd b t cs => obtain ⟨us, hb, _⟩ := h; simp [It.mids, It.rids] at hk; subst hk; exact bY_ hb
  | pc c => exact c.lt _ _ h k (by simpa [It.mids, It.rids] using hk)
  | rdpc c => exact c.lt _ _ h k (by simpa [It.mids, It.rids] using hk)
theorem It.carry (h : x.holds K w) (hc : Carry K w K' w') (hs : ∀ k ∈ x.mids ++ x.rids, w'.heap[k]? = w.heap[k]?) : x.holds K' w' := by
  cases x with
  | blk b t cs => obtain ⟨us, hb, hr⟩ := h; exact ⟨us, (hs b (by simp [It.mids])).trans hb, aO_ hc _ _ hr⟩
  | rd b t cs => obtain ⟨us, hb, hr⟩ := h; exact ⟨us, (hs b (by simp [It.rids])).trans hb, aO_ hc _ _ hr⟩
  | pc c => exact c.carry _ _ _ _ hc (fun k hk => hs k (by simp [It.mids, hk])) h
  | rdpc c => exact c.carry _ _ _ _ hc (fun k hk => hs k (by simp [It.rids, hk])) h
theorem a2_ {k : Nat} : k ∈ mids σ ↔ ∃ x ∈ σ, k ∈ x.mids := by simp [mids]
theorem ak_ : mids (σ ++ τ) = mids σ ++ mids τ := by simp [mids]
theorem aB_ : mids (x :: σ) = x.mids ++ mids σ := by simp [mids]
theorem iv_ (h : τ.Sublist σ) : (mids τ).Sublist (mids σ) := by
  unfold mids
  induction h with
  | slnil => simp
  | cons a _ ih => simp only [List.flatMap_cons]; exact ih.trans (List.sublist_append_right _ _)
  | cons_cons a _ ih => simp only [List.flatMap_cons]; exact (List.Sublist.refl _).append ih
theorem cv_ (h : τ.Perm σ) : (mids τ).Perm (mids σ) := by unfold mids; exact h.flatMap_right _
end
structure Mem (w0 : World) (F G : List Nat) (σ : Blks) (w : World) : Prop where
  ext : Ext F w0 w
  out : ∀ k ∈ mids σ, k ∈ F ∨ w0.heap.size ≤ k
  sep : ∀ k ∈ mids σ, k ∉ G
  old : ∀ k ∈ G, k < w.heap.size
  ro : ∀ x ∈ σ, ∀ k ∈ x.rids, k ∈ G
  nodup : (mids σ).Nodup
  hold : ∀ x ∈ σ, x.holds (mids σ ++ G) w
inductive Upd (x y : It) : Blks → Blks → Prop
  | here {σ : Blks} : Upd x y (x :: σ) (y :: σ)
  | there {z : It} {σ τ : Blks} (h : Upd x y σ τ) : Upd x y (z :: σ) (z :: τ)
section
variable {w0 w w' : World} {F G Y : List Nat} {σ τ : Blks} {x y : It}
theorem Upd.split (h : Upd x y σ τ) : ∃ α β, σ = α ++ x :: β ∧ τ = α ++ y :: β := by
  induction h with
  | here => exact ⟨[], _, rfl, rfl⟩
  | there _ ih => obtain ⟨α, β, h1, h2⟩ := ih; exact ⟨_ :: α, β, by rw [h1]; rfl, by rw [h2]; rfl⟩
theorem Upd.mem (h : Upd x y σ τ) : x ∈ σ := by obtain ⟨α, β, rfl, rfl⟩ := h.split; simp
theorem Mem.lt (h : Mem w0 F G σ w) : ∀ k ∈ mids σ ++ G, k < w.heap.size := fun k hk => by
  rcases List.mem_append.1 hk with hk | hk
  · obtain ⟨x, hx, hk⟩ := a2_.1 hk; exact It.lt (h.hold x hx) k (List.mem_append_left _ hk)
  · exact h.old k hk
theorem Mem.step (h : Mem w0 F G σ w) (hx : Ext Y w w') (hY : ∀ k ∈ Y, k ∈ mids σ) (hτ : ∀ k ∈ mids τ, k ∈ mids σ ∨ w.heap.size ≤ k) (hro : ∀ x ∈ τ, ∀ k ∈ x.rids, k ∈ G) (hn : (mids τ).Nodup)
    (hh : Carry (mids σ ++ G) w (mids τ ++ G) w' → ∀ x ∈ τ, x.holds (mids τ ++ G) w') : Mem w0 F G τ w' ∧ Carry (mids σ ++ G) w (mids τ ++ G) w' := by
  have hc : Carry (mids σ ++ G) w (mids τ ++ G) w' := Carry.of_ext hx (fun k hk => .inl (List.mem_append_left _ (hY k hk))) fun k hk => by
    rcases List.mem_append.1 hk with hk | hk
    · rcases hτ k hk with h1 | h1
      · exact .inl (List.mem_append_left _ h1)
      · exact .inr h1
    · exact .inl (List.mem_append_right _ hk)
  refine ⟨⟨h.ext.trans hx fun k hk => h.out k (hY k hk), fun k hk => ?_, fun k hk hg => ?_, fun k hk => Nat.lt_of_lt_of_le (h.old k hk) hx.size, hro, hn, hh hc⟩, hc⟩
  · rcases hτ k hk with h1 | h1
    · exact h.out k h1
    · exact .inr (Nat.le_trans h.ext.size h1)
  · rcases hτ k hk with h1 | h1
    · exact h.sep k h1 hg
    · have := h.old k hg; omega
theorem Mem.keep (h : Mem w0 F G σ w) (hx : Ext Y w w') {K' : List Nat} (hc : Carry (mids σ ++ G) w K' w') (hz : y ∈ σ) (hY : ∀ k ∈ y.mids, k ∉ Y) (hY2 : ∀ k ∈ Y, k ∈ mids σ) : y.holds K' w' :=
  It.carry (h.hold y hz) hc fun k hk => hx.block k (It.lt (h.hold y hz) k hk) fun hm => by
    rcases List.mem_append.1 hk with hk | hk
    · exact hY k hk hm
    · exact h.sep k (hY2 k hm) (h.ro y hz k hk)
theorem Mem.same (h : Mem w0 F G σ w) (hx : Ext [] w w') : Mem w0 F G σ w' ∧ Carry (mids σ ++ G) w (mids σ ++ G) w' :=
  h.step hx (by simp) (fun k hk => .inl hk) h.ro h.nodup fun hc x hm => h.keep hx hc hm (by simp) (by simp)
theorem Mem.new (h : Mem w0 F G σ w) (hx : Ext [] w w') (hn : y.mids.Nodup) (hid : ∀ k ∈ y.mids, w.heap.size ≤ k) (hr : y.rids = []) (hy : Carry (mids σ ++ G) w (mids (y :: σ) ++ G) w' → y.holds (mids (y :: σ) ++ G) w') : Mem w0 F G (y :: σ) w' ∧ Carry (mids σ ++ G) w (mids (y :: σ) ++ G) w' := by
  refine h.step hx (by simp) (fun k hk => ?_) (fun x hm => ?_) ?_ fun hc x hm => ?_
  · rw [aB_] at hk
    rcases List.mem_append.1 hk with hk | hk
    · exact .inr (hid k hk)
    · exact .inl hk
  · rcases List.mem_cons.1 hm with rfl | hm
    · simp [hr]
    · exact h.ro x hm
  · rw [aB_, List.nodup_append]
    refine ⟨hn, h.nodup, fun a ha b hb he => ?_⟩
    subst he
    have := h.lt a (List.mem_append_left _ hb)
    have := hid a ha
    omega
  · rcases List.mem_cons.1 hm with rfl | hm
    · exact hy hc
    · exact h.keep hx hc hm (by simp) (by simp)
theorem Mem.alloc (h : Mem w0 F G σ w) (t : TypeId) {cs : List Abs} {us : List Value} (hr : reps (mids σ ++ G) w cs us) : Mem w0 F G (.blk w.heap.size t cs :: σ) (w.alloc (row t us)) ∧ Carry (mids σ ++ G) w (mids (.blk w.heap.size t cs :: σ) ++ G) (w.alloc (row t us)) :=
  h.new ((Ext.refl w).alloc _) (by simp [It.mids]) (by simp [It.mids]) rfl fun hc => ⟨us, heap_alloc_new w _, aO_ hc _ _ hr⟩
theorem Mem.upd (h : Mem w0 F G σ w) (u : Upd x y σ τ) (hx : Ext x.mids w w') (hn : y.mids.Nodup) (hid : ∀ k ∈ y.mids, k ∈ x.mids ∨ w.heap.size ≤ k) (hr : y.rids = []) (hy : Carry (mids σ ++ G) w (mids τ ++ G) w' → y.holds (mids τ ++ G) w') : Mem w0 F G τ w' ∧ Carry (mids σ ++ G) w (mids τ ++ G) w' := by
  obtain ⟨α, β, rfl, rfl⟩ := u.split
  have hnd := h.nodup
  simp only [ak_, aB_, List.nodup_append] at hnd
  obtain ⟨n1, ⟨n2, n3, n4⟩, n5⟩ := hnd
  have hlt := h.lt
  refine h.step hx (fun k hk => ?_) (fun k hk => ?_) (fun z hm => ?_) ?_ fun hc z hm => ?_
  · simp [ak_, aB_, hk]
  · simp only [ak_, aB_, List.mem_append] at hk ⊢
    rcases hk with hk | hk | hk
    · simp [hk]
    · rcases hid k hk with h1 | h1
      · simp [h1]
      · exact .inr h1
    · simp [hk]
  · simp only [List.mem_append, List.mem_cons] at hm
    rcases hm with hm | rfl | hm
    · exact h.ro z (by simp [hm])
    · simp [hr]
    · exact h.ro z (by simp [hm])
  · have hout : ∀ k ∈ y.mids, (k ∉ mids α) ∧ k ∉ mids β := fun k hk => by
      rcases hid k hk with h1 | h1
      · exact ⟨fun h2 => n5 k h2 k (List.mem_append_left _ h1) rfl, fun h2 => n4 k h1 k h2 rfl⟩
      · refine ⟨fun h2 => ?_, fun h2 => ?_⟩
        · have := hlt k (by simp [ak_, aB_, h2]); omega
        · have := hlt k (by simp [ak_, aB_, h2]); omega
    simp only [ak_, aB_, List.nodup_append]
    refine ⟨n1, ⟨hn, n3, fun a ha b hb he => ?_⟩, fun a ha b hb he => ?_⟩
    · subst he; exact (hout a ha).2 hb
    · subst he
      rcases List.mem_append.1 hb with hb | hb
      · exact (hout a hb).1 ha
      · exact n5 a ha a (List.mem_append_right _ hb) rfl
  · simp only [List.mem_append, List.mem_cons] at hm
    have hY2 : ∀ k ∈ x.mids, k ∈ mids (α ++ x :: β) := fun k hk => by simp [ak_, aB_, hk]
    rcases hm with hm | rfl | hm
    · exact h.keep hx hc (by simp [hm]) (fun k hk hx => n5 k (a2_.2 ⟨z, hm, hk⟩) k (List.mem_append_left _ hx) rfl) hY2
    · exact hy hc
    · exact h.keep hx hc (by simp [hm]) (fun k hk hx => n4 k hx k (a2_.2 ⟨z, hm, hk⟩) rfl) hY2
theorem Mem.sub (h : Mem w0 F G σ w) (hs : τ.Sublist σ) : Mem w0 F G τ w ∧ Carry (mids σ ++ G) w (mids τ ++ G) w :=
  h.step (Ext.refl w) (Y := []) (by simp) (fun k hk => .inl ((iv_ hs).subset hk)) (fun x hx => h.ro x (hs.subset hx)) (h.nodup.sublist (iv_ hs)) fun hc x hm => h.keep (Ext.refl w) (Y := []) hc (hs.subset hm) (by simp) (by simp)
theorem Mem.perm (h : Mem w0 F G σ w) (hs : τ.Perm σ) : Mem w0 F G τ w ∧ Carry (mids σ ++ G) w (mids τ ++ G) w :=
  h.step (Ext.refl w) (Y := []) (by simp) (fun k hk => .inl ((cv_ hs).subset hk)) (fun x hx => h.ro x (hs.subset hx)) ((cv_ hs).nodup_iff.2 h.nodup) fun hc x hm => h.keep (Ext.refl w) (Y := []) hc (hs.subset hm) (by simp) (by simp)
end
end Go.Proofs.YtickdhjljpnlpaaGreatDoor.A
