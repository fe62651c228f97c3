/-
  Packed out of the texts: OctPut, EngStr, EngFace, A1.
-/
import Derived.Test.YtmkijjmbiiiicaaL02
import Derived.Lib.ConvBytes
import Derived.Laws.BytesArg
import Derived.DeepKeys4
import Derived.Laws.CopyOwn
import Derived.Laws.RangeString
/-
  Layer 1 over the engine: what is put, and the document's readers.
-/
set_option maxRecDepth 100000
namespace Go.Proofs.Ytmkijjmbiiiicaa
open Go.RowKit

section
variable {S : List (World × List Nat)} {σ τ : Blks} {ρ : List Dt} {w : World} {p : Nat} {s : Rd}
/-- A block that is known becomes a row of the call's own. -/
theorem Mem.blkOwn {b k sz : Nat} {e : TypeId} {L : List Value} (h : Mem S (.blk b (row e L) :: σ) ρ w) (hL : L.length = k * sz) (hk : k ≤ maxLen) : Mem S (.pc (ownPc e sz (.slice (some ⟨b, 0, none⟩) k k) k L) :: σ) ρ w :=
  h.upd .here (Ext.refl w) ⟨hL, .inr ⟨b, k, L.toArray, rfl, Nat.zero_le _, h.hold (.blk b (row e L)) List.mem_cons_self, Nat.le_refl _, hk, by simpa using hL, by rw [← hL]; simp⟩⟩ own_ids fun k hk => .inl (by simpa [It.ids, ownPc, Value.ownBlock] using hk)
theorem oct_Row {v r : Value} {l m : List UInt8} (hw : Mem S σ ρ w) (hb : bytesD v l ∈ ρ) (hr : bytesD r m ∈ ρ) (hl : l.length + m.length + 4 ≤ lots) (hm : m.length < 4294967296) : Calls Try.prog 43 #[v, r] w fun e w' => ∃ z, e = .returned z ∧ Mem S σ (bytesD z (l ++ beBytes m.length 4 ++ m) :: ρ) w' := by
  obtain ⟨A, c, rfl, h1, h2, h3⟩ := (hw.data hr).shape
  refine calls_of [v, .slice A m.length c] Try.func43 rfl Try.ntmps43 rfl (Mem S σ ρ) hw ?_
  refine SC.seq (SC.region ?_)
  refine SL.val (Val.assign rfl) rfl rfl ?_
  refine SL.nil (SE.seq ?_)
  refine SC.seq (SC.region ?_)
  refine SL.val (Val.move rfl) rfl rfl ?_
  refine SL.val (Val.move rfl) rfl rfl ?_
  refine SL.val (Val.lenSl rfl Try.underlying37) rfl rfl ?_
  first
    | refine SL.val (Val.convI rfl Try.underlying105 (by kernel_rfl) (by simp only [InR, lo, hi]; omega)) rfl rfl ?_
    | refine SL.val (Val.convU rfl Try.underlying105 (by kernel_rfl)) rfl rfl ?_
  refine SL.call (by kernel_rfl) rfl rfl rfl ?_
  intro w hw
  refine (put_own (l := l) (x := m.length) (n := 4) hw (hw.bytes hb) (by omega) (by omega) rfl).mono ?_; rintro _ _ ⟨r, rfl, hm⟩; refine ⟨_, _, rfl, hm, ?_⟩; clear hm hw w
  refine SL.val (Val.move rfl) rfl rfl ?_
  refine SL.eff (Eff.append (pre := []) (news := m.map bc) tabOk Try.underlying37 rfl rfl rfl rfl rfl (fun _ hw => ⟨_, hw.data hr⟩) (by simp) bc_one (by unfold maxLen; (try simp only [List.length_append, beBytes_length]); unfold lots at *; omega) (by rw [show Try.prog.bytesOf 5 = 1 by kernel_rfl]; (try simp only [List.length_append, beBytes_length]); unfold lots at *; omega)) rfl rfl ?_
  rintro r _ rfl
  refine SL.val (Val.assign rfl) rfl rfl ?_
  refine SL.nil (SE.seq ?_)
  refine SC.ret ?_
  refine SE.ret1 rfl rfl ?_
  intro w' hw'
  have hf := Mem.freeze hw'
  refine ⟨_, rfl, ?_⟩
  have e1 : (l ++ beBytes m.length 4 ++ m).length = (l ++ beBytes m.length (Int.toNat 4)).length + m.length := by simp [beBytes_length]; omega
  unfold bytesD
  rw [e1, List.map_append]
  exact hf

theorem read_c {v : Value} {l : List UInt8} (hw : Mem S σ ρ w) (hb : bytesD v l ∈ ρ) (hl : l.length ≤ lots) : Calls Try.prog 67 #[v] w fun e w' => ∃ p z, e = .returned (.pointer (some ⟨p, 0, none⟩)) ∧ Mem S (rdI 141 p ⟨z, l, 0⟩ :: σ) (bytesD z l :: ρ) w' := by
  refine calls_of [v] Try.func67 rfl Try.ntmps67 rfl (Mem S σ ρ) hw ?_
  refine SC.seq (SC.region ?_)
  refine SL.val (Val.assign rfl) rfl rfl ?_
  refine SL.nil (SE.seq ?_)
  refine SC.seq (SC.region ?_)
  refine SL.val (Val.move rfl) rfl rfl ?_
  refine SL.call (by kernel_rfl) rfl rfl rfl ?_
  intro w hw
  refine (clone_c (l := l) hw (hw.bytes hb) hl).mono ?_; rintro _ _ ⟨r, rfl, hm⟩; obtain ⟨A, c, rfl, _⟩ := (hm.data List.mem_cons_self).shape; refine ⟨_, _, rfl, hm, ?_⟩; clear hm hw w
  refine SL.val (Val.buildS tabOk rfl rfl rfl rfl) rfl rfl ?_
  refine SL.eff (Eff.boxA rfl) rfl rfl ?_
  rintro _ _ ⟨b6, rfl, rfl⟩
  refine SL.val (Val.assign rfl) rfl rfl ?_
  refine SL.nil (SE.seq ?_)
  refine SC.ret ?_
  refine SE.ret1 rfl rfl ?_
  intro w' hw'
  exact ⟨_, _, rfl, hw'⟩

theorem size_c {n : Int} (hw : Mem S σ ρ w) (hn : sizeB n = true) : Calls Try.prog 74 #[.int .i64 n] w fun e w' => e = .returned (.bool true) ∧ Mem S σ ρ w' := by
  rcases sizeB_cases hn with rfl | rfl | rfl | rfl
  · skip
    refine calls_of [.int .i64 1] Try.func74 rfl Try.ntmps74 rfl (Mem S σ ρ) hw ?_
    refine SC.seq (SC.region ?_)
    refine SL.val (Val.assign rfl) rfl rfl ?_
    refine SL.nil (SE.seq ?_)
    refine SC.seq (SC.region ?_)
    refine SL.val (Val.move rfl) rfl rfl ?_
    refine SL.val (Val.eqI rfl rfl) rfl rfl ?_
    refine SL.val (Val.move rfl) rfl rfl ?_
    refine SL.bothP (t := 5) rfl ?_ (by intro hc5; exfalso; omega)
    intro hc5
    iterate 2 refine SL.skip rfl rfl ?_
    refine SL.val (Val.pickT rfl rfl) rfl rfl ?_
    refine SL.val (Val.move rfl) rfl rfl ?_
    iterate 2 refine SL.skip rfl rfl ?_
    refine SL.val (Val.pickT rfl rfl) rfl rfl ?_
    refine SL.val (Val.move rfl) rfl rfl ?_
    iterate 2 refine SL.skip rfl rfl ?_
    refine SL.val (Val.pickT rfl rfl) rfl rfl ?_
    refine SL.val (Val.assign rfl) rfl rfl ?_
    refine SL.nil (SE.seq ?_)
    refine SC.ret ?_
    refine SE.ret1 rfl rfl ?_
    intro w' hw'
    exact ⟨by first | rfl | simp, hw'⟩
  · skip
    refine calls_of [.int .i64 2] Try.func74 rfl Try.ntmps74 rfl (Mem S σ ρ) hw ?_
    refine SC.seq (SC.region ?_)
    refine SL.val (Val.assign rfl) rfl rfl ?_
    refine SL.nil (SE.seq ?_)
    refine SC.seq (SC.region ?_)
    refine SL.val (Val.move rfl) rfl rfl ?_
    refine SL.val (Val.eqI rfl rfl) rfl rfl ?_
    refine SL.val (Val.move rfl) rfl rfl ?_
    refine SL.bothP (t := 5) rfl (by intro hc5; exfalso; omega) ?_
    intro hc5
    refine SL.val (Val.move rfl) rfl rfl ?_
    refine SL.val (Val.eqI rfl rfl) rfl rfl ?_
    refine SL.val (Val.pickF rfl rfl) rfl rfl ?_
    refine SL.val (Val.move rfl) rfl rfl ?_
    refine SL.bothP (t := 9) rfl ?_ (by intro hc9; exfalso; omega)
    intro hc9
    iterate 2 refine SL.skip rfl rfl ?_
    refine SL.val (Val.pickT rfl rfl) rfl rfl ?_
    refine SL.val (Val.move rfl) rfl rfl ?_
    iterate 2 refine SL.skip rfl rfl ?_
    refine SL.val (Val.pickT rfl rfl) rfl rfl ?_
    refine SL.val (Val.assign rfl) rfl rfl ?_
    refine SL.nil (SE.seq ?_)
    refine SC.ret ?_
    refine SE.ret1 rfl rfl ?_
    intro w' hw'
    exact ⟨by first | rfl | simp, hw'⟩
  · skip
    refine calls_of [.int .i64 4] Try.func74 rfl Try.ntmps74 rfl (Mem S σ ρ) hw ?_
    refine SC.seq (SC.region ?_)
    refine SL.val (Val.assign rfl) rfl rfl ?_
    refine SL.nil (SE.seq ?_)
    refine SC.seq (SC.region ?_)
    refine SL.val (Val.move rfl) rfl rfl ?_
    refine SL.val (Val.eqI rfl rfl) rfl rfl ?_
    refine SL.val (Val.move rfl) rfl rfl ?_
    refine SL.bothP (t := 5) rfl (by intro hc5; exfalso; omega) ?_
    intro hc5
    refine SL.val (Val.move rfl) rfl rfl ?_
    refine SL.val (Val.eqI rfl rfl) rfl rfl ?_
    refine SL.val (Val.pickF rfl rfl) rfl rfl ?_
    refine SL.val (Val.move rfl) rfl rfl ?_
    refine SL.bothP (t := 9) rfl (by intro hc9; exfalso; omega) ?_
    intro hc9
    refine SL.val (Val.move rfl) rfl rfl ?_
    refine SL.val (Val.eqI rfl rfl) rfl rfl ?_
    refine SL.val (Val.pickF rfl rfl) rfl rfl ?_
    refine SL.val (Val.move rfl) rfl rfl ?_
    refine SL.bothP (t := 13) rfl ?_ (by intro hc13; exfalso; omega)
    intro hc13
    iterate 2 refine SL.skip rfl rfl ?_
    refine SL.val (Val.pickT rfl rfl) rfl rfl ?_
    refine SL.val (Val.assign rfl) rfl rfl ?_
    refine SL.nil (SE.seq ?_)
    refine SC.ret ?_
    refine SE.ret1 rfl rfl ?_
    intro w' hw'
    exact ⟨by first | rfl | simp, hw'⟩
  · skip
    refine calls_of [.int .i64 8] Try.func74 rfl Try.ntmps74 rfl (Mem S σ ρ) hw ?_
    refine SC.seq (SC.region ?_)
    refine SL.val (Val.assign rfl) rfl rfl ?_
    refine SL.nil (SE.seq ?_)
    refine SC.seq (SC.region ?_)
    refine SL.val (Val.move rfl) rfl rfl ?_
    refine SL.val (Val.eqI rfl rfl) rfl rfl ?_
    refine SL.val (Val.move rfl) rfl rfl ?_
    refine SL.bothP (t := 5) rfl (by intro hc5; exfalso; omega) ?_
    intro hc5
    refine SL.val (Val.move rfl) rfl rfl ?_
    refine SL.val (Val.eqI rfl rfl) rfl rfl ?_
    refine SL.val (Val.pickF rfl rfl) rfl rfl ?_
    refine SL.val (Val.move rfl) rfl rfl ?_
    refine SL.bothP (t := 9) rfl (by intro hc9; exfalso; omega) ?_
    intro hc9
    refine SL.val (Val.move rfl) rfl rfl ?_
    refine SL.val (Val.eqI rfl rfl) rfl rfl ?_
    refine SL.val (Val.pickF rfl rfl) rfl rfl ?_
    refine SL.val (Val.move rfl) rfl rfl ?_
    refine SL.bothP (t := 13) rfl (by intro hc13; exfalso; omega) ?_
    intro hc13
    refine SL.val (Val.move rfl) rfl rfl ?_
    refine SL.val (Val.eqI rfl rfl) rfl rfl ?_
    refine SL.val (Val.pickF rfl rfl) rfl rfl ?_
    refine SL.val (Val.assign rfl) rfl rfl ?_
    refine SL.nil (SE.seq ?_)
    refine SC.ret ?_
    refine SE.ret1 rfl rfl ?_
    intro w' hw'
    exact ⟨by first | rfl | simp, hw'⟩

theorem rput_own {v : Value} {l : List UInt8} {x n : Nat} (hw : Mem S σ ρ w) (hb : bytesD v l ∈ ρ) (hl : l.length + 8 ≤ lots) (hn : sizeB n = true) :
    Calls Try.prog 54 #[v, .int .u64 x, .int .i64 n] w fun e w' => ∃ r, e = .returned r ∧ Mem S (.pc (ownPc 5 1 r (l ++ beBytes x n).length ((l ++ beBytes x n).map bc)) :: σ) ρ w' := by
  obtain ⟨A, c, rfl, h1, h2, h3⟩ := (hw.data hb).shape
  have hn8 := sizeB_le hn
  refine calls_of [.slice A l.length c, .int .u64 x, .int .i64 n] Try.func54 rfl Try.ntmps54 rfl (Mem S σ ρ) hw ?_
  refine SC.seq (SC.region ?_)
  refine SL.val (Val.assign rfl) rfl rfl ?_
  refine SL.nil (SE.seq ?_)
  refine SC.seq (SC.region ?_)
  refine SL.eff (Eff.buildSlice (L := []) tabOk Try.underlying37 rfl rfl (fun L0 h => by match L0, h with | [], _ => rfl) rfl) rfl rfl ?_
  rintro _ _ ⟨b9, rfl, rfl⟩
  refine SL.to (fun _ h => Mem.blkOwn (k := 0) (sz := 1) h rfl (Nat.zero_le _)) ?_
  refine SL.val (Val.move rfl) rfl rfl ?_
  refine SL.eff (Eff.append (pre := []) (news := l.map bc) tabOk Try.underlying37 rfl rfl rfl rfl rfl (fun _ hw => ⟨_, hw.data hb⟩) (by simp) bc_one (by unfold maxLen; (try simp only [List.length_append, beBytes_length]); unfold lots at *; omega) (by rw [show Try.prog.bytesOf 5 = 1 by kernel_rfl]; (try simp only [List.length_append, beBytes_length]); unfold lots at *; omega)) rfl rfl ?_
  rintro r _ rfl
  refine SL.val (Val.assign rfl) rfl rfl ?_
  refine SL.nil (SE.seq ?_)
  refine SC.seq ?_
  refine SC.seq (SC.region ?_)
  refine SL.val (Val.move rfl) rfl rfl ?_
  refine SL.call (by kernel_rfl) rfl rfl rfl ?_
  intro w hw
  refine (size_c (n := n) hw hn).mono ?_; rintro _ _ ⟨rfl, hm⟩; refine ⟨_, _, rfl, hm, ?_⟩; clear hm hw w
  refine SL.val (Val.notT rfl) rfl rfl ?_
  refine SL.nil (SE.seq ?_)
  refine SC.condF rfl ?_
  refine SC.skip ?_
  refine SE.seq ?_
  refine SC.seq ?_
  refine SC.seq (SC.region ?_)
  refine SL.val (Val.move rfl) rfl rfl ?_
  first
    | refine SL.val (Val.subI rfl rfl (by simp only [InR, lo, hi]; omega)) rfl rfl ?_
    | refine SL.val (Val.subW rfl rfl) rfl rfl ?_
  refine SL.val (Val.assign rfl) rfl rfl ?_
  refine SL.nil (SE.seq ?_)
  refine SC.block ?_
  refine SC.loop (ι := Nat × Value) (fun z => [(1, .int .u64 x), (7, z.2), (8, .int .i64 ((n : Int) - 1 - (z.1 : Nat)))]) (fun z w' => z.1 ≤ n ∧ Mem S (.pc (ownPc 5 1 z.2 (l ++ (beBytes x n).take z.1).length ((l ++ (beBytes x n).take z.1).map bc)) :: σ) ρ w') (fun z => n - z.1) (0, _) (by exact ⟨rfl, rfl, by show some (Value.int _ _) = some (Value.int _ _); congr 2; simp, trivial⟩) (fun w' hw' => ⟨Nat.zero_le _, by simpa using hw'⟩) ?_
  intro z
  refine SC.facts ?_
  intro hz
  refine SC.seq ?_
  refine SC.seq (SC.region ?_)
  refine SL.val (Val.move rfl) rfl rfl ?_
  refine SL.val (Val.geI rfl rfl) rfl rfl ?_
  refine SL.nil (SE.seq ?_)
  refine SC.condP rfl ?_ ?_
  rotate_left
  · intro hc19
    refine SC.exit ?_
    refine SE.then_ (by intro h; cases h) ?_
    refine SE.then_ (by intro h; cases h) ?_
    refine SE.exit ?_
    refine SE.seq ?_
    refine SC.seq (SC.region ?_)
    refine SL.val (Val.move rfl) rfl rfl ?_
    refine SL.val (Val.assign rfl) rfl rfl ?_
    refine SL.nil (SE.seq ?_)
    refine SC.ret ?_
    refine SE.ret1 rfl rfl ?_
    intro w' hw'
    have e1 : z.1 = n := by omega
    have e2 : (beBytes x n).take z.1 = beBytes x n := by rw [e1]; exact List.take_of_length_le (by rw [beBytes_length]; exact Nat.le_refl _)
    rw [e2] at hw'
    exact ⟨_, rfl, hw'⟩
  intro hc19
  have hlt : z.1 < n := by omega
  refine SC.skip ?_
  refine SE.seq ?_
  refine SC.seq ?_
  refine SC.block ?_
  refine SC.region ?_
  refine SL.val (Val.move rfl) rfl rfl ?_
  refine SL.val (Val.move rfl) rfl rfl ?_
  refine SL.val (Val.move rfl) rfl rfl ?_
  first
    | refine SL.val (Val.convI rfl Try.underlying130 (by kernel_rfl) (by simp only [InR, lo, hi]; omega)) rfl rfl ?_
    | refine SL.val (Val.convU rfl Try.underlying130 (by kernel_rfl)) rfl rfl ?_
  first
    | refine SL.val (Val.mulI rfl rfl (by simp only [InR, lo, hi]; omega)) rfl rfl ?_
    | refine SL.val (Val.mulW rfl rfl) rfl rfl ?_
  refine SL.val (Val.shrN (q := x / 256 ^ (n - 1 - z.1)) rfl rfl (by omega) (by rw [show (8 * ((n : Int) - 1 - (z.1 : Nat))).toNat = 8 * (n - 1 - z.1) by omega]; exact shr_be x _ (by omega))) rfl rfl ?_
  refine SL.val (Val.convB (x' := x / 256 ^ (n - 1 - z.1)) rfl Try.underlying5 (by kernel_rfl)) rfl rfl ?_
  refine SL.eff (Eff.buildSlice (L := [bc (UInt8.ofNat (x / 256 ^ (n - 1 - z.1)))]) tabOk Try.underlying37 rfl rfl (fun L0 h => by match L0, h with | [_], _ => rfl) rfl) rfl rfl ?_
  rintro _ _ ⟨b29, rfl, rfl⟩
  refine SL.eff (Eff.append (pre := [_]) (news := [UInt8.ofNat (x / 256 ^ (n - 1 - z.1))].map bc) tabOk Try.underlying37 rfl rfl rfl rfl rfl (fun _ hw => ⟨_, hw.blkRow List.mem_cons_self (Nat.le_refl _) (by decide)⟩) rfl bc_one (by unfold maxLen; (try simp only [List.length_append, List.length_take, beBytes_length]); unfold lots at *; omega) (by rw [show Try.prog.bytesOf 5 = 1 by kernel_rfl]; (try simp only [List.length_append, List.length_take, beBytes_length]); unfold lots at *; omega)) rfl rfl ?_
  rintro r _ rfl
  refine SL.val (Val.assign rfl) rfl rfl ?_
  refine SL.nil ?_
  refine SE.inBlock ?_
  refine SE.seq ?_
  refine SC.region ?_
  refine SL.val (Val.move rfl) rfl rfl ?_
  first
    | refine SL.val (Val.subI rfl rfl (by simp only [InR, lo, hi]; omega)) rfl rfl ?_
    | refine SL.val (Val.subW rfl rfl) rfl rfl ?_
  refine SL.val (Val.assign rfl) rfl rfl ?_
  refine SL.nil ?_
  refine SE.round (z.1 + 1, r) (by show n - (z.1 + 1) < n - z.1; omega) (by exact ⟨rfl, rfl, by show some (Value.int _ _) = some (Value.int _ _); congr 2; push_cast; omega, trivial⟩) (fun w' hw' => ⟨hlt, ?_⟩)
  have e1 := beBytes_getElem x n z.1 hlt
  have e2 : (beBytes x n).take (z.1 + 1) = (beBytes x n).take z.1 ++ [UInt8.ofNat (x / 256 ^ (n - 1 - z.1))] := by rw [List.take_add_one, e1]; rfl
  show Mem S (.pc (ownPc _ _ _ (l ++ (beBytes x n).take (z.1 + 1)).length ((l ++ (beBytes x n).take (z.1 + 1)).map bc)) :: σ) ρ w'
  rw [e2, ← List.append_assoc, List.length_append, List.map_append]
  exact hw'.sub (fun _ h => h) (List.sublist_cons_self _ _)

theorem rput_c {v : Value} {l : List UInt8} {x n : Nat} (hw : Mem S σ ρ w) (hb : bytesD v l ∈ ρ) (hl : l.length + 8 ≤ lots) (hn : sizeB n = true) :
    Calls Try.prog 54 #[v, .int .u64 x, .int .i64 n] w fun e w' => ∃ r, e = .returned r ∧ Mem S σ (bytesD r (l ++ beBytes x n) :: ρ) w' :=
  (rput_own hw hb hl hn).mono fun _ _ ⟨r, h1, h2⟩ => ⟨r, h1, h2.freeze⟩
theorem roct_Row {v r : Value} {l m : List UInt8} (hw : Mem S σ ρ w) (hb : bytesD v l ∈ ρ) (hr : bytesD r m ∈ ρ) (hl : l.length + m.length + 8 ≤ lots) (hm : m.length < 4294967296) : Calls Try.prog 52 #[v, r] w fun e w' => ∃ z, e = .returned z ∧ Mem S σ (bytesD z (l ++ beBytes m.length 4 ++ m) :: ρ) w' := by
  obtain ⟨A, c, rfl, h1, h2, h3⟩ := (hw.data hr).shape
  refine calls_of [v, .slice A m.length c] Try.func52 rfl Try.ntmps52 rfl (Mem S σ ρ) hw ?_
  refine SC.seq (SC.region ?_)
  refine SL.val (Val.assign rfl) rfl rfl ?_
  refine SL.nil (SE.seq ?_)
  refine SC.seq (SC.region ?_)
  refine SL.val (Val.move rfl) rfl rfl ?_
  refine SL.val (Val.move rfl) rfl rfl ?_
  refine SL.val (Val.lenSl rfl Try.underlying37) rfl rfl ?_
  first
    | refine SL.val (Val.convI rfl Try.underlying105 (by kernel_rfl) (by simp only [InR, lo, hi]; omega)) rfl rfl ?_
    | refine SL.val (Val.convU rfl Try.underlying105 (by kernel_rfl)) rfl rfl ?_
  refine SL.call (by kernel_rfl) rfl rfl rfl ?_
  intro w hw
  refine (rput_own (l := l) (x := m.length) (n := 4) hw hb (by omega) rfl).mono ?_; rintro _ _ ⟨r, rfl, hm⟩; refine ⟨_, _, rfl, hm, ?_⟩; clear hm hw w
  refine SL.val (Val.move rfl) rfl rfl ?_
  refine SL.eff (Eff.append (pre := []) (news := m.map bc) tabOk Try.underlying37 rfl rfl rfl rfl rfl (fun _ hw => ⟨_, hw.data hr⟩) (by simp) bc_one (by unfold maxLen; (try simp only [List.length_append, beBytes_length]); unfold lots at *; omega) (by rw [show Try.prog.bytesOf 5 = 1 by kernel_rfl]; (try simp only [List.length_append, beBytes_length]); unfold lots at *; omega)) rfl rfl ?_
  rintro r _ rfl
  refine SL.val (Val.assign rfl) rfl rfl ?_
  refine SL.nil (SE.seq ?_)
  refine SC.ret ?_
  refine SE.ret1 rfl rfl ?_
  intro w' hw'
  have hf := Mem.freeze hw'
  refine ⟨_, rfl, ?_⟩
  have e1 : (l ++ beBytes m.length 4 ++ m).length = (l ++ beBytes m.length 4).length + m.length := by simp [beBytes_length]; omega
  unfold bytesD
  rw [e1, List.map_append]
  exact hf

set_option maxHeartbeats 400000 in
theorem rfixed_a {n : Int} (hw : Mem S σ ρ w) (hb : rdI 121 p s ∈ σ) (hv : bytesD s.v s.l ∈ ρ) (he : s.e ≠ 0) : Calls Try.prog 75 #[.pointer (some ⟨p, 0, none⟩), .int .i64 n] w fun e w' => ∃ r, e = .returned r ∧ Mem S σ (bytesD r [] :: bytesD s.v s.l :: ρ) w' := by
  refine calls_of [.pointer (some ⟨p, 0, none⟩), .int .i64 n] Try.func75 rfl Try.ntmps75 rfl (Mem S σ ρ) hw ?_
  refine SC.seq (SC.region ?_)
  refine SL.val (Val.assign rfl) rfl rfl ?_
  refine SL.nil (SE.seq ?_)
  refine SC.seq ?_
  refine SC.seq (SC.region ?_)
  refine SL.val (Val.move rfl) rfl rfl ?_
  refine SL.val (Val.nilCheck rfl) rfl rfl ?_
  refine SL.val (Val.fieldAddr tabOk rfl rfl rfl rfl rfl) rfl rfl ?_
  first
    | refine SL.val (Val.load1 tabOk rfl rfl (by repeat (first | assumption | exact List.mem_cons_self | exact hmem _ | apply List.mem_cons_of_mem)) (by rfl)) rfl rfl ?_
    | refine SL.val (Val.load1C tabOk rfl rfl (by assumption)) rfl rfl ?_
  refine SL.val (Val.eqI rfl rfl) rfl rfl ?_
  refine SL.val (Val.move rfl) rfl rfl ?_
  refine SL.bothP (t := 11) rfl (by intro hc11; exfalso; exact he hc11) ?_
  intro hc11
  iterate 11 refine SL.skip rfl rfl ?_
  refine SL.val (Val.pickF rfl rfl) rfl rfl ?_
  refine SL.nil (SE.seq ?_)
  refine SC.condF rfl ?_
  refine SC.skip ?_
  refine SE.seq ?_
  refine SC.seq ?_
  refine SC.seq (SC.region ?_)
  refine SL.val (Val.move rfl) rfl rfl ?_
  refine SL.val (Val.nilCheck rfl) rfl rfl ?_
  refine SL.val (Val.fieldAddr tabOk rfl rfl rfl rfl rfl) rfl rfl ?_
  first
    | refine SL.val (Val.load1 tabOk rfl rfl (by repeat (first | assumption | exact List.mem_cons_self | exact hmem _ | apply List.mem_cons_of_mem)) (by rfl)) rfl rfl ?_
    | refine SL.val (Val.load1C tabOk rfl rfl (by assumption)) rfl rfl ?_
  refine SL.val (Val.neI rfl rfl) rfl rfl ?_
  refine SL.nil (SE.seq ?_)
  refine SC.condP rfl ?_ (by intro hc31; exfalso; omega)
  intro hc31
  refine SC.seq (SC.region ?_)
  refine SL.val (Val.assign rfl) rfl rfl ?_
  refine SL.nil (SE.seq ?_)
  refine SC.ret ?_
  refine SE.then_ (by intro h; cases h) ?_
  refine SE.ret1 rfl rfl ?_
  intro w' hw'
  exact ⟨_, rfl, (hw'.add (z := bytesD _ _) (hw'.data hv)).add (z := bytesD (.slice none 0 0) []) (IsRow.nil rfl)⟩

set_option maxHeartbeats 400000 in
theorem rfixed_b {n : Int} (hw : Mem S σ ρ w) (hu : Upd (rdI 121 p s) (rdI 121 p (s.fail 2)) σ τ) (hv : bytesD s.v s.l ∈ ρ) (he : s.e = 0) (hn : s.bad n) : Calls Try.prog 75 #[.pointer (some ⟨p, 0, none⟩), .int .i64 n] w fun e w' => ∃ r, e = .returned r ∧ Mem S τ (bytesD r [] :: bytesD s.v s.l :: ρ) w' := by
  have hb := hu.mem
  have hb2 := hu.mem'
  have hsv := (hw.data hv).shape
  obtain ⟨v, l, e⟩ := s
  obtain ⟨A, c, hsv, hs1, hs2, hs3⟩ := hsv
  dsimp only at hsv
  subst hsv
  unfold Rd.bad at hn
  dsimp only [Rd.fail] at *
  refine calls_of [.pointer (some ⟨p, 0, none⟩), .int .i64 n] Try.func75 rfl Try.ntmps75 rfl (Mem S σ ρ) hw ?_
  refine SC.seq (SC.region ?_)
  refine SL.val (Val.assign rfl) rfl rfl ?_
  refine SL.nil (SE.seq ?_)
  refine SC.seq ?_
  refine SC.seq (SC.region ?_)
  refine SL.val (Val.move rfl) rfl rfl ?_
  refine SL.val (Val.nilCheck rfl) rfl rfl ?_
  refine SL.val (Val.fieldAddr tabOk rfl rfl rfl rfl rfl) rfl rfl ?_
  first
    | refine SL.val (Val.load1 tabOk rfl rfl (by repeat (first | assumption | exact List.mem_cons_self | exact hmem _ | apply List.mem_cons_of_mem)) (by rfl)) rfl rfl ?_
    | refine SL.val (Val.load1C tabOk rfl rfl (by assumption)) rfl rfl ?_
  refine SL.val (Val.eqI rfl rfl) rfl rfl ?_
  refine SL.val (Val.move rfl) rfl rfl ?_
  refine SL.bothP (t := 11) rfl ?_ (by intro hc11; exfalso; exact hc11 he)
  intro hc11
  refine SL.val (Val.move rfl) rfl rfl ?_
  refine SL.val (Val.ltI rfl rfl) rfl rfl ?_
  refine SL.val (Val.move rfl) rfl rfl ?_
  refine SL.bothP (t := 14) rfl ?_ ?_
  · intro hc14
    iterate 7 refine SL.skip rfl rfl ?_
    refine SL.val (Val.pickT rfl rfl) rfl rfl ?_
    refine SL.val (Val.pickT rfl rfl) rfl rfl ?_
    refine SL.nil (SE.seq ?_)
    refine SC.condT rfl ?_
    refine SC.region ?_
    refine SL.val (Val.move rfl) rfl rfl ?_
    refine SL.val (Val.nilCheck rfl) rfl rfl ?_
    refine SL.val (Val.fieldAddr tabOk rfl rfl rfl rfl rfl) rfl rfl ?_
    refine SL.eff (Eff.store1 tabOk rfl rfl rfl rfl rfl (by repeat (first | assumption | exact Upd.here | exact hrep _ _ | apply Upd.there)) (by rfl) (by rfl)) rfl rfl ?_
    rintro _ _ ⟨rfl, rfl⟩
    refine SL.nil (SE.seq ?_)
    refine SC.seq ?_
    refine SC.seq (SC.region ?_)
    refine SL.val (Val.move rfl) rfl rfl ?_
    refine SL.val (Val.nilCheck rfl) rfl rfl ?_
    refine SL.val (Val.fieldAddr tabOk rfl rfl rfl rfl rfl) rfl rfl ?_
    first
      | refine SL.val (Val.load1 tabOk rfl rfl (by repeat (first | assumption | exact List.mem_cons_self | exact hmem _ | apply List.mem_cons_of_mem)) (by rfl)) rfl rfl ?_
      | refine SL.val (Val.load1C tabOk rfl rfl (by assumption)) rfl rfl ?_
    refine SL.val (Val.neI rfl rfl) rfl rfl ?_
    refine SL.nil (SE.seq ?_)
    refine SC.condP rfl ?_ (by intro hc31; exfalso; exact hc31 (show (2 : Int) ≠ 0 by decide))
    intro hc31
    refine SC.seq (SC.region ?_)
    refine SL.val (Val.assign rfl) rfl rfl ?_
    refine SL.nil (SE.seq ?_)
    refine SC.ret ?_
    refine SE.then_ (by intro h; cases h) ?_
    refine SE.ret1 rfl rfl ?_
    intro w' hw'
    exact ⟨_, rfl, (hw'.add (z := bytesD _ _) (hw'.data hv)).add (z := bytesD (.slice none 0 0) []) (IsRow.nil rfl)⟩
  intro hc14
  refine SL.val (Val.move rfl) rfl rfl ?_
  refine SL.val (Val.move rfl) rfl rfl ?_
  refine SL.val (Val.nilCheck rfl) rfl rfl ?_
  refine SL.val (Val.fieldAddr tabOk rfl rfl rfl rfl rfl) rfl rfl ?_
  first
    | refine SL.val (Val.load1 tabOk rfl rfl (by repeat (first | assumption | exact List.mem_cons_self | exact hmem _ | apply List.mem_cons_of_mem)) (by rfl)) rfl rfl ?_
    | refine SL.val (Val.load1C tabOk rfl rfl (by assumption)) rfl rfl ?_
  refine SL.val (Val.lenSl rfl Try.underlying37) rfl rfl ?_
  refine SL.val (Val.gtI rfl rfl) rfl rfl ?_
  refine SL.val (Val.pickF rfl rfl) rfl rfl ?_
  refine SL.val (Val.pickT rfl rfl) rfl rfl ?_
  refine SL.nil (SE.seq ?_)
  refine SC.condP rfl ?_ (by intro hc23; exfalso; omega)
  intro hc23
  refine SC.region ?_
  refine SL.val (Val.move rfl) rfl rfl ?_
  refine SL.val (Val.nilCheck rfl) rfl rfl ?_
  refine SL.val (Val.fieldAddr tabOk rfl rfl rfl rfl rfl) rfl rfl ?_
  refine SL.eff (Eff.store1 tabOk rfl rfl rfl rfl rfl (by repeat (first | assumption | exact Upd.here | exact hrep _ _ | apply Upd.there)) (by rfl) (by rfl)) rfl rfl ?_
  rintro _ _ ⟨rfl, rfl⟩
  refine SL.nil (SE.seq ?_)
  refine SC.seq ?_
  refine SC.seq (SC.region ?_)
  refine SL.val (Val.move rfl) rfl rfl ?_
  refine SL.val (Val.nilCheck rfl) rfl rfl ?_
  refine SL.val (Val.fieldAddr tabOk rfl rfl rfl rfl rfl) rfl rfl ?_
  first
    | refine SL.val (Val.load1 tabOk rfl rfl (by repeat (first | assumption | exact List.mem_cons_self | exact hmem _ | apply List.mem_cons_of_mem)) (by rfl)) rfl rfl ?_
    | refine SL.val (Val.load1C tabOk rfl rfl (by assumption)) rfl rfl ?_
  refine SL.val (Val.neI rfl rfl) rfl rfl ?_
  refine SL.nil (SE.seq ?_)
  refine SC.condP rfl ?_ (by intro hc31; exfalso; exact hc31 (show (2 : Int) ≠ 0 by decide))
  intro hc31
  refine SC.seq (SC.region ?_)
  refine SL.val (Val.assign rfl) rfl rfl ?_
  refine SL.nil (SE.seq ?_)
  refine SC.ret ?_
  refine SE.then_ (by intro h; cases h) ?_
  refine SE.ret1 rfl rfl ?_
  intro w' hw'
  exact ⟨_, rfl, (hw'.add (z := bytesD _ _) (hw'.data hv)).add (z := bytesD (.slice none 0 0) []) (IsRow.nil rfl)⟩

set_option maxHeartbeats 400000 in
theorem rfixed_c' {n : Nat} (hw : Mem S σ ρ w) (hu : Upd (rdI 121 p s) (rdI 121 p ⟨tailV s.v n, s.l.drop n, 0⟩) σ τ) (hv : bytesD s.v s.l ∈ ρ) (hl : s.l.length ≤ lots) (he : s.e = 0) (hn : n ≤ s.l.length) : Calls Try.prog 75 #[.pointer (some ⟨p, 0, none⟩), .int .i64 n] w fun e w' => ∃ r, e = .returned r ∧ Mem S τ (bytesD r (s.l.take n) :: bytesD (tailV s.v n) (s.l.drop n) :: ρ) w' := by
  have hb := hu.mem
  have hb2 := hu.mem'
  have hsv := (hw.data hv).shape
  obtain ⟨v, l, e⟩ := s
  obtain ⟨A, c, hsv, hs1, hs2, hs3⟩ := hsv
  dsimp only at hsv
  subst hsv
  dsimp only at he
  subst he
  dsimp only at *
  refine calls_of [.pointer (some ⟨p, 0, none⟩), .int .i64 n] Try.func75 rfl Try.ntmps75 rfl (Mem S σ ρ) hw ?_
  refine SC.seq (SC.region ?_)
  refine SL.val (Val.assign rfl) rfl rfl ?_
  refine SL.nil (SE.seq ?_)
  refine SC.seq ?_
  refine SC.seq (SC.region ?_)
  refine SL.val (Val.move rfl) rfl rfl ?_
  refine SL.val (Val.nilCheck rfl) rfl rfl ?_
  refine SL.val (Val.fieldAddr tabOk rfl rfl rfl rfl rfl) rfl rfl ?_
  first
    | refine SL.val (Val.load1 tabOk rfl rfl (by repeat (first | assumption | exact List.mem_cons_self | exact hmem _ | apply List.mem_cons_of_mem)) (by rfl)) rfl rfl ?_
    | refine SL.val (Val.load1C tabOk rfl rfl (by assumption)) rfl rfl ?_
  refine SL.val (Val.eqI rfl rfl) rfl rfl ?_
  refine SL.val (Val.move rfl) rfl rfl ?_
  refine SL.bothP (t := 11) rfl ?_ (by intro hc11; exfalso; exact hc11 rfl)
  intro hc11
  refine SL.val (Val.move rfl) rfl rfl ?_
  refine SL.val (Val.ltI rfl rfl) rfl rfl ?_
  refine SL.val (Val.move rfl) rfl rfl ?_
  refine SL.bothP (t := 14) rfl (by intro hc14; exfalso; omega) ?_
  intro hc14
  refine SL.val (Val.move rfl) rfl rfl ?_
  refine SL.val (Val.move rfl) rfl rfl ?_
  refine SL.val (Val.nilCheck rfl) rfl rfl ?_
  refine SL.val (Val.fieldAddr tabOk rfl rfl rfl rfl rfl) rfl rfl ?_
  first
    | refine SL.val (Val.load1 tabOk rfl rfl (by repeat (first | assumption | exact List.mem_cons_self | exact hmem _ | apply List.mem_cons_of_mem)) (by rfl)) rfl rfl ?_
    | refine SL.val (Val.load1C tabOk rfl rfl (by assumption)) rfl rfl ?_
  refine SL.val (Val.lenSl rfl Try.underlying37) rfl rfl ?_
  refine SL.val (Val.gtI rfl rfl) rfl rfl ?_
  refine SL.val (Val.pickF rfl rfl) rfl rfl ?_
  refine SL.val (Val.pickT rfl rfl) rfl rfl ?_
  refine SL.nil (SE.seq ?_)
  refine SC.condP rfl (by intro hc23; exfalso; omega) ?_
  intro hc23
  refine SC.skip ?_
  refine SE.seq ?_
  refine SC.seq ?_
  refine SC.seq (SC.region ?_)
  refine SL.val (Val.move rfl) rfl rfl ?_
  refine SL.val (Val.nilCheck rfl) rfl rfl ?_
  refine SL.val (Val.fieldAddr tabOk rfl rfl rfl rfl rfl) rfl rfl ?_
  first
    | refine SL.val (Val.load1 tabOk rfl rfl (by repeat (first | assumption | exact List.mem_cons_self | exact hmem _ | apply List.mem_cons_of_mem)) (by rfl)) rfl rfl ?_
    | refine SL.val (Val.load1C tabOk rfl rfl (by assumption)) rfl rfl ?_
  refine SL.val (Val.neI rfl rfl) rfl rfl ?_
  refine SL.nil (SE.seq ?_)
  refine SC.condP rfl (by intro hc31; exfalso; exact hc31 rfl) ?_
  intro hc31
  refine SC.skip ?_
  refine SE.seq ?_
  refine SC.seq (SC.region ?_)
  refine SL.eff (Eff.buildSlice (L := []) tabOk Try.underlying37 rfl rfl (fun L0 h => by match L0, h with | [], _ => rfl) rfl) rfl rfl ?_
  rintro _ _ ⟨b32, rfl, rfl⟩
  refine SL.to (fun _ h => Mem.blkOwn (k := 0) (sz := 1) h rfl (Nat.zero_le _)) ?_
  refine SL.val (Val.move rfl) rfl rfl ?_
  refine SL.val (Val.nilCheck rfl) rfl rfl ?_
  refine SL.val (Val.fieldAddr tabOk rfl rfl rfl rfl rfl) rfl rfl ?_
  first
    | refine SL.val (Val.load1 tabOk rfl rfl (by repeat (first | assumption | exact List.mem_cons_self | exact hmem _ | apply List.mem_cons_of_mem)) (by rfl)) rfl rfl ?_
    | refine SL.val (Val.load1C tabOk rfl rfl (by assumption)) rfl rfl ?_
  refine SL.val (Val.move rfl) rfl rfl ?_
  refine SL.val (Val.sliceHi (q := n) tabOk Try.underlying37 rfl rfl rfl rfl (by omega)) rfl rfl ?_
  refine SL.eff (Eff.append (pre := []) (news := (l.take n).map bc) tabOk Try.underlying37 rfl rfl rfl rfl rfl (fun _ hw => ⟨_, IsRow.shapeN (IsRow.head (hw.data hv) hn c (by omega) (Nat.le_refl _)) (by simp; omega)⟩) (by simp; omega) bc_one (by unfold maxLen; (try simp only [List.length_append, List.length_take, beBytes_length]); unfold lots at *; omega) (by rw [show Try.prog.bytesOf 5 = 1 by kernel_rfl]; (try simp only [List.length_append, List.length_take, beBytes_length]); unfold lots at *; omega)) rfl rfl ?_
  rintro r _ rfl
  refine SL.to (fun _ h => Mem.freeze h) ?_
  refine SL.val (Val.assign rfl) rfl rfl ?_
  refine SL.nil (SE.seq ?_)
  refine SC.seq (SC.region ?_)
  refine SL.val (Val.move rfl) rfl rfl ?_
  refine SL.val (Val.move rfl) rfl rfl ?_
  refine SL.val (Val.nilCheck rfl) rfl rfl ?_
  refine SL.val (Val.fieldAddr tabOk rfl rfl rfl rfl rfl) rfl rfl ?_
  first
    | refine SL.val (Val.load1 tabOk rfl rfl (by repeat (first | assumption | exact List.mem_cons_self | exact hmem _ | apply List.mem_cons_of_mem)) (by rfl)) rfl rfl ?_
    | refine SL.val (Val.load1C tabOk rfl rfl (by assumption)) rfl rfl ?_
  refine SL.val (Val.move rfl) rfl rfl ?_
  refine SL.val (Val.sliceLo (q := n) tabOk Try.underlying37 rfl rfl rfl rfl rfl hn) rfl rfl ?_
  refine SL.val (Val.nilCheck rfl) rfl rfl ?_
  refine SL.val (Val.fieldAddr tabOk rfl rfl rfl rfl rfl) rfl rfl ?_
  refine SL.eff (Eff.store1 tabOk rfl rfl rfl rfl rfl (by repeat (first | assumption | exact Upd.here | exact hrep _ _ | apply Upd.there)) (by rfl) (by rfl)) rfl rfl ?_
  rintro _ _ ⟨rfl, rfl⟩
  refine SL.nil (SE.seq ?_)
  refine SC.seq (SC.region ?_)
  refine SL.val (Val.move rfl) rfl rfl ?_
  refine SL.val (Val.assign rfl) rfl rfl ?_
  refine SL.nil (SE.seq ?_)
  refine SC.ret ?_
  refine SE.ret1 rfl rfl ?_
  intro w' hw'
  have hd : bytesD r (l.take n) = rowD r (0 + n) ([] ++ (l.take n).map bc) := by unfold bytesD; rw [List.nil_append]; congr 1; simp; omega
  refine ⟨r, rfl, ?_⟩
  rw [hd]
  exact (hw'.add (z := bytesD _ _) (IsRow.tail (l := l) (hw'.data (z := bytesD _ l) (List.mem_cons_of_mem _ hv)) hn)).less (by intro x hx; simp only [List.mem_cons] at hx ⊢; rcases hx with rfl | rfl | hx <;> simp [*])

theorem rfixed_c {n : Int} (hw : Mem S σ ρ w) (hu : Upd (rdI 121 p s) (rdI 121 p (s.fixed n)) σ τ) (hv : bytesD s.v s.l ∈ ρ) (hl : s.l.length ≤ lots) : Calls Try.prog 75 #[.pointer (some ⟨p, 0, none⟩), .int .i64 n] w fun e w' => ∃ r, e = .returned r ∧ Mem S τ (bytesD r (s.out n) :: bytesD (s.fixed n).v (s.fixed n).l :: ρ) w' := by
  by_cases he : s.e = 0
  · by_cases hn : s.bad n
    · have e1 : s.fixed n = s.fail 2 := by simp [Rd.fixed, he, hn, Rd.fail]
      have e2 : s.out n = [] := by simp [Rd.out, hn]
      rw [e1] at hu ⊢
      rw [e2]
      exact rfixed_b (s := s) hw hu hv he hn
    · have e1 : s.fixed n = ⟨tailV s.v n.toNat, s.l.drop n.toNat, 0⟩ := by simp [Rd.fixed, he, hn]
      have e2 : s.out n = s.l.take n.toNat := by simp [Rd.out, he, hn]
      rw [e1] at hu ⊢
      rw [e2]
      unfold Rd.bad at hn
      obtain ⟨k, rfl⟩ : ∃ k : Nat, n = k := ⟨n.toNat, by omega⟩
      exact rfixed_c' (s := s) hw hu hv hl he (by omega)
  · have e1 : s.fixed n = s := by simp [Rd.fixed, he]
    have e2 : s.out n = [] := by simp [Rd.out, he]
    rw [e1] at hu ⊢
    rw [e2, upd_self hu]
    exact rfixed_a (s := s) hw hu.mem hv he

set_option maxHeartbeats 400000 in
theorem rnumber_c {n : Int} (hw : Mem S σ ρ w) (hu : Upd (rdI 121 p s) (rdI 121 p (s.fixed n)) σ τ) (hv : bytesD s.v s.l ∈ ρ) (hl : s.l.length ≤ lots) (hn : sizeB n = true) : Calls Try.prog 57 #[.pointer (some ⟨p, 0, none⟩), .int .i64 n] w fun e w' => e = .returned (.int .u64 (s.num n : Nat)) ∧ Mem S τ (bytesD (s.fixed n).v (s.fixed n).l :: ρ) w' := by
  have hb := hu.mem
  have h8 : (s.out n).length ≤ 8 := Nat.le_trans (s.out_length n) (sizeB_le hn).2
  unfold Rd.num
  refine calls_of [.pointer (some ⟨p, 0, none⟩), .int .i64 n] Try.func57 rfl Try.ntmps57 rfl (Mem S σ ρ) hw ?_
  refine SC.seq (SC.region ?_)
  refine SL.val (Val.assign rfl) rfl rfl ?_
  refine SL.nil (SE.seq ?_)
  refine SC.seq ?_
  refine SC.cut (ι := Unit) (fun _ => [(0, .pointer (some ⟨p, 0, none⟩)), (1, .int .i64 n), (17, .bool false)]) (fun _ => Mem S σ ρ) ?_ ?_
  · skip
    refine SC.region ?_
    refine SL.val (Val.move rfl) rfl rfl ?_
    refine SL.val (Val.nilCheck rfl) rfl rfl ?_
    refine SL.val (Val.fieldAddr tabOk rfl rfl rfl rfl rfl) rfl rfl ?_
    first
      | refine SL.val (Val.load1 tabOk rfl rfl (by repeat (first | assumption | exact List.mem_cons_self | exact hmem _ | apply List.mem_cons_of_mem)) (by rfl)) rfl rfl ?_
      | refine SL.val (Val.load1C tabOk rfl rfl (by assumption)) rfl rfl ?_
    refine SL.val (Val.eqI rfl rfl) rfl rfl ?_
    refine SL.val (Val.move rfl) rfl rfl ?_
    refine SL.bothP (t := 13) rfl ?_ ?_
    rotate_left
    · intro hc13
      iterate 3 refine SL.skip rfl rfl ?_
      refine SL.val (Val.pickF rfl rfl) rfl rfl ?_
      refine SL.nil ?_
      exact SE.meet () (by exact ⟨rfl, rfl, rfl, trivial⟩) (fun _ h => h)
    intro hc13
    refine SL.val (Val.move rfl) rfl rfl ?_
    refine SL.call (by kernel_rfl) rfl rfl rfl ?_
    intro w hw
    refine (size_c (n := n) hw hn).mono ?_; rintro _ _ ⟨rfl, hm⟩; refine ⟨_, _, rfl, hm, ?_⟩; clear hm hw w
    refine SL.val (Val.notT rfl) rfl rfl ?_
    refine SL.val (Val.pickT rfl rfl) rfl rfl ?_
    refine SL.nil ?_
    exact SE.meet () (by exact ⟨rfl, rfl, rfl, trivial⟩) (fun _ h => h)
  · intro _
    refine SC.condF rfl ?_
    refine SC.skip ?_
    refine SE.seq ?_
    refine SC.seq (SC.region ?_)
    refine SL.val (Val.assign rfl) rfl rfl ?_
    refine SL.nil (SE.seq ?_)
    refine SC.seq ?_
    refine SC.seq (SC.region ?_)
    refine SL.val (Val.move rfl) rfl rfl ?_
    refine SL.val (Val.move rfl) rfl rfl ?_
    refine SL.call (by kernel_rfl) rfl rfl rfl ?_
    intro w hw
    refine (rfixed_c (s := s) hw hu hv hl).mono ?_; rintro _ _ ⟨r, rfl, hm⟩; obtain ⟨A, c, rfl, h1, h2, h3⟩ := (hm.data List.mem_cons_self).shape; have hA : s.out n ≠ [] → ∃ b off, A = some ⟨b, off, none⟩ := fun h => row_at (hm.data List.mem_cons_self) (by simpa using h); refine ⟨_, _, rfl, hm, ?_⟩; clear hm hw w
    refine SL.val (Val.lenSl rfl Try.underlying37) rfl rfl ?_
    refine SL.val (Val.move rfl) rfl rfl ?_
    refine SL.nil (SE.seq ?_)
    refine SC.block ?_
    refine SC.loop (ι := Nat) (fun k => [(5, .int .u64 (beVal ((s.out n).take k) : Nat)), (23, .slice A (s.out n).length c), (24, .int .i64 ((s.out n).length : Nat)), (25, .int .i64 (k : Nat))]) (fun k w' => k ≤ (s.out n).length ∧ Mem S τ (bytesD (.slice A (s.out n).length c) (s.out n) :: bytesD (s.fixed n).v (s.fixed n).l :: ρ) w') (fun k => (s.out n).length - k) 0 (by exact ⟨rfl, rfl, rfl, rfl, trivial⟩) (fun w' hw' => ⟨Nat.zero_le _, hw'⟩) ?_
    intro k
    refine SC.facts ?_
    intro hk
    refine SC.seq (SC.region ?_)
    refine SL.val (Val.ltI rfl rfl) rfl rfl ?_
    refine SL.nil (SE.seq ?_)
    refine SC.seq ?_
    refine SC.condP rfl ?_ ?_
    rotate_left
    · intro hc26
      refine SC.exit ?_
      refine SE.then_ (by intro h; cases h) ?_
      refine SE.then_ (by intro h; cases h) ?_
      refine SE.exit ?_
      refine SE.seq ?_
      refine SC.seq (SC.region ?_)
      refine SL.val (Val.move rfl) rfl rfl ?_
      refine SL.val (Val.assign rfl) rfl rfl ?_
      refine SL.nil (SE.seq ?_)
      refine SC.ret ?_
      refine SE.ret1 rfl rfl ?_
      intro w' hw'
      have hk2 : k = (s.out n).length := by omega
      subst hk2
      rw [List.take_of_length_le (Nat.le_refl _)]
      exact ⟨rfl, hw'.less (fun x hx => List.mem_cons_of_mem _ hx)⟩
    intro hc26
    have hlt : k < (s.out n).length := by omega
    have hb := beVal_take (s.out n) k hlt h8
    have hc := ((s.out n)[k]'hlt).toNat_lt
    obtain ⟨bb, off, rfl⟩ := hA (by intro h0; rw [h0] at hlt; simp at hlt)
    refine SC.skip ?_
    refine SE.seq ?_
    refine SC.seq ?_
    refine SC.block ?_
    refine SC.seq (SC.region ?_)
    first
      | refine SL.val (Val.indexSlN tabOk Try.underlying37 rfl rfl rfl (by omega)) rfl rfl ?_
      | refine SL.val (Val.indexSl tabOk Try.underlying37 rfl rfl rfl (by omega)) rfl rfl ?_
    refine SL.val (Val.load1D (u := bc ((s.out n)[k]'hlt)) tabOk rfl rfl (by repeat (first | assumption | exact List.mem_cons_self | exact hmem _ | apply List.mem_cons_of_mem)) (by show ((s.out n).map bc)[k * 1]? = _; rw [Nat.mul_one, List.getElem?_map, List.getElem?_eq_getElem hlt]; rfl)) rfl rfl ?_
    refine SL.val (Val.assign rfl) rfl rfl ?_
    refine SL.nil (SE.seq ?_)
    refine SC.region ?_
    refine SL.val (Val.move rfl) rfl rfl ?_
    first
      | refine SL.val (Val.mulI rfl rfl (by simp only [InR, lo, hi]; omega)) rfl rfl ?_
      | refine SL.val (Val.mulW rfl rfl) rfl rfl ?_
    refine SL.val (Val.move rfl) rfl rfl ?_
    first
      | refine SL.val (Val.convI rfl Try.underlying105 (by kernel_rfl) (by simp only [InR, lo, hi]; omega)) rfl rfl ?_
      | refine SL.val (Val.convU rfl Try.underlying105 (by kernel_rfl)) rfl rfl ?_
    first
      | refine SL.val (Val.addI rfl rfl (by simp only [InR, lo, hi]; omega)) rfl rfl ?_
      | refine SL.val (Val.addW rfl rfl) rfl rfl ?_
    refine SL.val (Val.assign rfl) rfl rfl ?_
    refine SL.nil ?_
    refine SE.inBlock ?_
    refine SE.seq ?_
    refine SC.region ?_
    first
      | refine SL.val (Val.addI rfl rfl (by simp only [InR, lo, hi]; omega)) rfl rfl ?_
      | refine SL.val (Val.addW rfl rfl) rfl rfl ?_
    refine SL.val (Val.move rfl) rfl rfl ?_
    refine SL.nil ?_
    exact SE.round (k + 1) (by omega) (by exact ⟨by rw [take_snoc8 _ _ hlt]; rfl, rfl, rfl, rfl, trivial⟩) (fun w' hw' => ⟨hlt, hw'⟩)

theorem rend_c (hw : Mem S σ ρ w) (hb : rdI 121 p s ∈ σ) (hv : bytesD s.v s.l ∈ ρ) : Calls Try.prog 58 #[.pointer (some ⟨p, 0, none⟩)] w fun e w' => e = .returned (.int .i64 s.end_) ∧ Mem S σ ρ w' := by
  have hsv := (hw.data hv).shape
  obtain ⟨v, l, e⟩ := s
  obtain ⟨A, c, hsv, hs1, hs2, hs3⟩ := hsv
  dsimp only at hsv
  subst hsv
  have hnil : l = [] ↔ l.length = 0 := List.length_eq_zero_iff.symm
  refine calls_of [.pointer (some ⟨p, 0, none⟩)] Try.func58 rfl Try.ntmps58 rfl (Mem S σ ρ) hw ?_
  refine SC.seq (SC.region ?_)
  refine SL.val (Val.assign rfl) rfl rfl ?_
  refine SL.nil (SE.seq ?_)
  refine SC.seq ?_
  refine SC.seq (SC.region ?_)
  refine SL.val (Val.move rfl) rfl rfl ?_
  refine SL.val (Val.nilCheck rfl) rfl rfl ?_
  refine SL.val (Val.fieldAddr tabOk rfl rfl rfl rfl rfl) rfl rfl ?_
  first
    | refine SL.val (Val.load1 tabOk rfl rfl (by repeat (first | assumption | exact List.mem_cons_self | exact hmem _ | apply List.mem_cons_of_mem)) (by rfl)) rfl rfl ?_
    | refine SL.val (Val.load1C tabOk rfl rfl (by assumption)) rfl rfl ?_
  refine SL.val (Val.eqI rfl rfl) rfl rfl ?_
  refine SL.val (Val.move rfl) rfl rfl ?_
  refine SL.bothP (t := 8) rfl ?_ ?_
  rotate_left
  · intro hc8
    iterate 6 refine SL.skip rfl rfl ?_
    refine SL.val (Val.pickF rfl rfl) rfl rfl ?_
    refine SL.nil (SE.seq ?_)
    refine SC.condF rfl ?_
    refine SC.skip ?_
    refine SE.seq ?_
    refine SC.seq (SC.region ?_)
    refine SL.val (Val.move rfl) rfl rfl ?_
    refine SL.val (Val.nilCheck rfl) rfl rfl ?_
    refine SL.val (Val.fieldAddr tabOk rfl rfl rfl rfl rfl) rfl rfl ?_
    first
      | refine SL.val (Val.load1 tabOk rfl rfl (by repeat (first | assumption | exact List.mem_cons_self | exact hmem _ | apply List.mem_cons_of_mem)) (by rfl)) rfl rfl ?_
      | refine SL.val (Val.load1C tabOk rfl rfl (by assumption)) rfl rfl ?_
    refine SL.val (Val.assign rfl) rfl rfl ?_
    refine SL.nil (SE.seq ?_)
    refine SC.ret ?_
    refine SE.ret1 rfl rfl ?_
    intro w' hw'
    refine ⟨?_, hw'⟩
    dsimp only at *
    simp only [Rd.end_, Ne, hnil]
    first
      | (rw [if_pos (by constructor <;> omega)]; done)
      | (rw [if_neg (by omega)]; done)
  intro hc8
  refine SL.val (Val.move rfl) rfl rfl ?_
  refine SL.val (Val.nilCheck rfl) rfl rfl ?_
  refine SL.val (Val.fieldAddr tabOk rfl rfl rfl rfl rfl) rfl rfl ?_
  first
    | refine SL.val (Val.load1 tabOk rfl rfl (by repeat (first | assumption | exact List.mem_cons_self | exact hmem _ | apply List.mem_cons_of_mem)) (by rfl)) rfl rfl ?_
    | refine SL.val (Val.load1C tabOk rfl rfl (by assumption)) rfl rfl ?_
  refine SL.val (Val.lenSl rfl Try.underlying37) rfl rfl ?_
  refine SL.val (Val.gtI rfl rfl) rfl rfl ?_
  refine SL.val (Val.pickT rfl rfl) rfl rfl ?_
  refine SL.nil (SE.seq ?_)
  refine SC.condP rfl ?_ ?_
  · intro hc15
    refine SC.seq (SC.region ?_)
    refine SL.val (Val.assign rfl) rfl rfl ?_
    refine SL.nil (SE.seq ?_)
    refine SC.ret ?_
    refine SE.then_ (by intro h; cases h) ?_
    refine SE.ret1 rfl rfl ?_
    intro w' hw'
    refine ⟨?_, hw'⟩
    dsimp only at *
    simp only [Rd.end_, Ne, hnil]
    first
      | (rw [if_pos (by constructor <;> omega)]; done)
      | (rw [if_neg (by omega)]; done)
  intro hc15
  refine SC.skip ?_
  refine SE.seq ?_
  refine SC.seq (SC.region ?_)
  refine SL.val (Val.move rfl) rfl rfl ?_
  refine SL.val (Val.nilCheck rfl) rfl rfl ?_
  refine SL.val (Val.fieldAddr tabOk rfl rfl rfl rfl rfl) rfl rfl ?_
  first
    | refine SL.val (Val.load1 tabOk rfl rfl (by repeat (first | assumption | exact List.mem_cons_self | exact hmem _ | apply List.mem_cons_of_mem)) (by rfl)) rfl rfl ?_
    | refine SL.val (Val.load1C tabOk rfl rfl (by assumption)) rfl rfl ?_
  refine SL.val (Val.assign rfl) rfl rfl ?_
  refine SL.nil (SE.seq ?_)
  refine SC.ret ?_
  refine SE.ret1 rfl rfl ?_
  intro w' hw'
  refine ⟨?_, hw'⟩
  dsimp only at *
  simp only [Rd.end_, Ne, hnil]
  first
    | (rw [if_pos (by constructor <;> omega)]; done)
    | (rw [if_neg (by omega)]; done)
end
end Go.Proofs.Ytmkijjmbiiiicaa
/-
  An engine for walks: texts, and function values.
-/
set_option maxRecDepth 100000
namespace Go.Proofs.Ytmkijjmbiiiicaa
open Go.RowKit

section
variable {P : Program} {n : Nat} {l : Slots} {S : List (World × List Nat)} {σ τ : Blks} {ρ : List Dt} {C D : World → Prop} {x y z : Operand} {d : Option Nat} {ty t e : TypeId} {pos : String} {aft : Array Edge} {g : Option (Nat × Bool)} {v u : Value} {Q : Exit → Act → World → Prop} {ops : Array Oper} {rest : List Oper} {ix : Plan} {w : World} {b q : Nat} {s : ByteArray}
theorem grownCap_le (w : World) (m old : Nat) (e : TypeId) (h : m ≤ maxLen) : m ≤ grownCap w m old e ∧ grownCap w m old e ≤ maxLen := by
  unfold grownCap maxLen at *
  simp only [Question.cut]
  have : (w.tape w.drawn (.appendCap m old e)) % (2 ^ 63 - m) < 2 ^ 63 - m := Nat.mod_lt _ (by omega)
  omega
/-- A text as a row of bytes. -/
theorem Eff.strBytes (hx : look l x = some (.string s)) (ht : Try.prog.underlying t = some .string) (hd : Try.prog.underlying e = some (.slice 5)) (hs : s.size ≤ lots) : Eff Try.prog n l (Mem S σ ρ) ⟨d, .convert t e x, ty, pos, aft, g⟩ fun u C' => C' = Mem S σ (bytesD u s.data.toList :: ρ) := fun Ac w hf hw => by
  have hrun := Lib.run_convert_string_bytes (P := Try.prog) w t e 5 s ht hd Try.underlying5
  have hc := grownCap_le w s.size 0 5 (by unfold lots at hs; unfold maxLen; omega)
  have hx1 : Ext [] w (Lib.bytesWorld w 5 s) := ⟨rfl, rfl, rfl, by rw [Lib.bytesWorld_size]; omega, fun k hk _ => Lib.bytesWorld_at_old w _ s k hk⟩
  refine ⟨_, _, _, rfl, (hw.same hx1).add (z := bytesD (.slice (some ⟨w.heap.size, 0, none⟩) s.size (grownCap w s.size 0 5)) s.data.toList) ⟨⟨some ⟨w.heap.size, 0, none⟩, _, by simp, by simpa using hc.1, hc.2, by simp⟩, fun _ => ⟨w.heap.size, 0, s.size, _, rfl, fun hk => ?_, fun j u hu => ?_⟩⟩, .inl ?_⟩
  · have := hw.small _ hk; omega
  · rw [Nat.zero_add]
    rw [List.getElem?_map] at hu
    have hj : j < s.size := by
      rcases Nat.lt_or_ge j s.size with h | h
      · exact h
      · rw [List.getElem?_eq_none (by simpa using h)] at hu; cases hu
    rw [Lib.bytesWorld_cell w _ s j hj, ← hu, List.getElem?_eq_getElem (by simpa using hj), List.getD_eq_getElem?_getD, List.getElem?_eq_getElem (by simpa using hj)]
    rfl
  · simp only [execOp, hf.eval hx, hrun, Sem.run_bind, Result.andThen_ok, Sem.run_pure]
/-- A whole number as a word. -/
def u64 (x : Int) : Nat := (x % 18446744073709551616).toNat
theorem Val.convU {k : IntKind} {a : Int} (hx : look l x = some (.int k a)) (ht : P.underlying e = some (.int .u64)) (hs : (P.underlying t).isSome = true) : Val P n l D ⟨d, .convert t e x, ty, pos, aft, g⟩ (.int .u64 (u64 a : Nat)) := by
  have h := Val.convW (n := n) (D := D) (d := d) (ty := ty) (pos := pos) (aft := aft) (g := g) hx ht hs
  have h2 : IntKind.u64.wrap a = ((u64 a : Nat) : Int) := by
    simp [IntKind.wrap, IntKind.bits, IntKind.signed, u64]; omega
  rw [h2] at h
  exact h
/-- A byte of a text. -/
theorem Val.indexSt {k : IntKind} {r : Int} (hx : look l x = some (.string s)) (hy : look l y = some (.int k r)) (hr : r = (q : Nat)) (hq : q < s.size) (hu : P.underlying t = some .string) : Val P n l D ⟨d, .index t x y, ty, pos, aft, g⟩ (.int .u8 ((s[q]'hq).toNat : Nat)) := fun Ac w hf _ => by
  subst hr
  have h1 : (if (0 : Int) ≤ (q : Int) then s[(q : Int).toNat]? else none) = some (s[q]'hq) := by
    rw [if_pos (by omega)]
    simp [getElem?_pos s q hq]
  simp only [execOp, Instr.index, asIntOf, hf.eval hx, hf.eval hy, Sem.run_bind, Sem.run_pure, Result.andThen_ok, run_underlying hu, h1]
/-- A text is gone through, letter by letter. -/
theorem Eff.rangeSt (hx : look l x = some (.string s)) (hu : P.underlying t = some .string) : Eff P n l (Mem S σ ρ) ⟨d, .range t x, ty, pos, aft, g⟩ fun u C' => ∃ b, u = .pointer (some ⟨b, 0, none⟩) ∧ C' = Mem S (.blk b (.stringIter s 0) :: σ) ρ := fun Ac w hf hw => by
  refine ⟨_, _, _, ⟨w.heap.size, rfl, rfl⟩, hw.alloc (.stringIter s 0), .inl ?_⟩
  simp only [execOp, Instr.range, hf.eval hx, Sem.run_bind, Sem.run_pure, Result.andThen_ok, run_underlying hu, newObj]
  rfl
theorem run_getIter {p : Nat} (hb : w.heap[b]? = some (.stringIter s p)) : (getObj b).run P w = .ok (.stringIter s p) w := by simp [getObj, Sem.run, hb]
theorem run_setIter {p p' : Nat} (hb : w.heap[b]? = some (.stringIter s p)) : (setObj b (.stringIter s p')).run P w = .ok () { w with heap := w.heap.setIfInBounds b (.stringIter s p') } := by simp [setObj, Sem.run, hb]
theorem Ext.setObj_ (w : World) (b : Nat) (o : Obj) : Ext [b] w { w with heap := w.heap.setIfInBounds b o } :=
  ⟨rfl, rfl, rfl, by simp, fun k _ hk => by
    have hne : b ≠ k := fun h => hk (by simp [h])
    simp [Array.getElem?_setIfInBounds_ne hne]⟩
theorem Eff.nextSt {p : Nat} (hx : look l x = some (.pointer (some ⟨b, 0, none⟩))) (hu : Upd (.blk b (.stringIter s p)) (.blk b (.stringIter s (p + (Utf8.decode s p).2))) σ τ) (hp : p < s.size) :
    Eff P n l (Mem S σ ρ) ⟨d, .next x true, ty, pos, aft, g⟩ fun u C' => u = .tuple #[.bool true, .int .i64 p, .int .i32 ((Utf8.decode s p).1 : Nat)] ∧ C' = Mem S τ ρ := fun Ac w hf hw => by
  have hb := hw.holds hu.mem
  have hlt : b < w.heap.size := hw.lt hu.mem b (by simp [It.ids])
  refine ⟨_, { w with heap := w.heap.setIfInBounds b (.stringIter s (p + (Utf8.decode s p).2)) }, _, ⟨rfl, rfl⟩, hw.updB hu (Ext.setObj_ w b _) (by simp [hlt]), .inl ?_⟩
  simp only [execOp, Instr.next, hf.eval hx, Sem.run_bind, Sem.run_pure, Result.andThen_ok, run_getIter hb, if_pos hp, run_setIter hb, goInt]
theorem Val.nextEnd {p : Nat} (hx : look l x = some (.pointer (some ⟨b, 0, none⟩))) (hb : It.blk b (.stringIter s p) ∈ σ) (hp : ¬ p < s.size) :
    Val P n l (Mem S σ ρ) ⟨d, .next x true, ty, pos, aft, g⟩ (.tuple #[.bool false]) := fun Ac w hf hw => by
  have hb := hw.holds hb
  simp only [execOp, Instr.next, hf.eval hx, Sem.run_bind, Sem.run_pure, Result.andThen_ok, run_getIter hb, if_neg hp]
theorem decode_high (s : ByteArray) (p : Nat) (h : p < s.size) (ha : ¬ (s[p]'h).toNat < 128) : 128 ≤ (Utf8.decode s p).1 := by
  have h0 : (s.get! (p + 0)).toNat = (s[p]'h).toNat := by
    have e : s.get! p = s[p]'h := by
      simp [ByteArray.get!, getElem!_pos, h]
      rfl
    rw [Nat.add_zero, e]
  unfold Utf8.decode
  simp only [h0]
  rw [if_neg (by omega)]
  repeat' split
  all_goals (try simp only [Bool.and_eq_true, decide_eq_true_eq, ge_iff_le] at *)
  all_goals (try dsimp only [Utf8.runeError] at *)
  all_goals omega
theorem RV.loadA {tab : List (Nat × TI)} (hT : TabOk P tab) {i : TI} {t' : TypeId} {L : List Value} (ht : ti tab t = some i) (hk : (match i.k with | .one => false | _ => true) = true) (hw : Mem S σ ρ w) (hb : It.blk b (row t' L) ∈ σ) (hl : L.length = i.size) : (loadVar t ⟨b, 0, none⟩).run P w = .ok (.agg L.toArray) w :=
  run_loadAgg hT ht hk hl fun j u hu => by rw [Nat.zero_add, mem_cell (hw.holds hb)]; exact hu
/-- Data to come, out of what is known. -/
theorem SX.to (h : ∀ w, C w → D w) (k : SX P n ops ix D l D Q) : SX P n ops ix D l C Q := fun a w hf hw => k a w hf (h w hw)
theorem conv_txtE {w : World} {v : Value} {l : List UInt8} (h : BytesV w v l) : (convert 37 9 v).run Try.prog w = .ok (.string ⟨l.toArray⟩) w := by
  obtain ⟨A, c, rfl, _, _, h4, h5⟩ := h
  rcases A with _ | a
  · have := run_convert_bytes_nil (P := Try.prog) (w := w) 37 5 Try.underlying37 Try.underlying5 l.length c 9 Try.underlying9
    have hl : l = [] := by
      rcases l with _ | ⟨x, l⟩
      · rfl
      · obtain ⟨b, off, h0, _⟩ := h5 (by simp)
        cases h0
    subst hl
    exact this
  · refine run_convert_bytes_back (P := Try.prog) w 37 9 5 a c l Try.underlying37 Try.underlying5 Try.underlying9 (fun j hj => ?_)
    obtain ⟨b, off, h0, hc⟩ := h5 (by intro h0; have := congrArg List.length h0; simp at this; subst this; simp at hj)
    cases h0
    have hadd : (⟨b, off, none⟩ : Addr).add j = ⟨b, off + j, none⟩ := by
      unfold Addr.add
      split
      · rename_i h0; subst h0; rfl
      · rfl
    rw [hadd]
    exact hc j _ (by simp [bc, hj])
/-- A row of bytes as a text. -/
theorem Val.strOf {v : Value} {m : List UInt8} (hx : look l x = some v) (hv : bytesD v m ∈ ρ) : Val Try.prog n l (Mem S σ ρ) ⟨d, .convert 37 9 x, ty, pos, aft, g⟩ (.string ⟨m.toArray⟩) := fun A w hf hw => by
  have := conv_txtE (hw.bytes hv)
  simp [execOp, hf.eval hx, this, Result.andThen]
/-- A call of a function value. -/
theorem run_callv {f : FuncId} {fs cs : Array Value} {xs : List Operand} {ats : Array TypeId} {vals : List Value} {ρ : Operand → Value} (hb : goesIn P f = true) (hv : xs.map ρ = vals) (hf : ρ x = .func (.func f) fs cs) :
    (execOp ρ ⟨d, .call { callee := .value x, args := xs.toArray, argTypes := ats }, ty, pos, aft, g⟩).run P w = .ok (.enter f (fs ++ vals.toArray ++ cs)) w := by
  unfold goesIn at hb
  cases hfn : P.funcs[f]? with
  | none => simp [hfn] at hb
  | some fn =>
    simp only [hfn, Bool.and_eq_true, Bool.not_eq_true', beq_eq_false_iff_ne, Option.isSome_iff_ne_none] at hb
    obtain ⟨c, hn⟩ := Option.ne_none_iff_exists'.1 hb.1
    simp [execOp, resolve, hf, Deferred.ofValue, invoke, callFunc, program, Sem.run_bind, Sem.run, hfn, hb.2, hn, hv, Result.andThen]
theorem SL.callv {f : FuncId} {fs cs : Array Value} {xs : List Operand} {ats : Array TypeId} {vals : List Value} (hx : look l x = some (.func (.func f) fs cs)) (hb : goesIn P f = true) (hv : looks l xs = some vals)
    (hg : gd ops l ⟨d, .call { callee := .value x, args := xs.toArray, argTypes := ats }, ty, pos, aft, g⟩ = some true) (hd : lt? d n = true)
    (hc : ∀ w, C w → Calls P f (fs ++ vals.toArray ++ cs) w fun e w' => ∃ v C', e = .returned v ∧ C' w' ∧ SL P n ops rest (put? l d v) C' Q) :
    SL P n ops (⟨d, .call { callee := .value x, args := xs.toArray, argTypes := ats }, ty, pos, aft, g⟩ :: rest) l C Q := fun a w hf hw =>
  wpList_step fun K hK => by
    rw [if_pos (hf.wanted hg)]
    unfold Oper.wp
    rw [run_callv hb (hf.evals hv) (hf.eval hx), Oper.upon_enter]
    refine (hc w hw).mono fun e w' ⟨v, C', he, hC', hk⟩ => ?_
    subst he
    exact hK _ _ (hk _ _ (hf.put? hd v) hC')
theorem SX.callv {i : Nat} {f : FuncId} {fs cs : Array Value} {xs : List Operand} {ats : Array TypeId} {vals : List Value} (hi : ops[i]? = some ⟨d, .call { callee := .value x, args := xs.toArray, argTypes := ats }, ty, pos, aft, g⟩)
    (hx : look l x = some (.func (.func f) fs cs)) (hb : goesIn P f = true) (hv : looks l xs = some vals)
    (hg : gd ops l ⟨d, .call { callee := .value x, args := xs.toArray, argTypes := ats }, ty, pos, aft, g⟩ = some true) (hd : lt? d n = true)
    (hc : ∀ w, C w → Calls P f (fs ++ vals.toArray ++ cs) w fun e w' => ∃ v C', e = .returned v ∧ C' w' ∧ ∃ D' : World → Prop, (∀ w, D' w → D w) ∧ (∀ w, C' w → D' w) ∧ SX P n ops ix D' (put? l d v) C' Q) :
    SX P n ops (.e i ix) D l C Q := fun a w hf hw => by
  unfold planW wpOp
  simp only [hi, hf.wanted hg, if_true]
  refine .inl ?_
  unfold Oper.wp
  rw [run_callv hb (hf.evals hv) (hf.eval hx), Oper.upon_enter]
  refine (hc w hw).mono fun e w' ⟨v, C', he, hC', D', h1, h2, h3⟩ => ?_
  subst he
  exact ⟨D', h1, h2 _ hC', h3 _ _ (hf.put? hd v) hC'⟩
end
end Go.Proofs.Ytmkijjmbiiiicaa
/-
  The engine: interfaces, and calls of methods through them.
-/
set_option maxRecDepth 100000
namespace Go.Proofs.Ytmkijjmbiiiicaa
open Go.RowKit

section
variable {P : Program} {n : Nat} {l : Slots} {C D : World → Prop} {ops : Array Oper} {rest : List Oper} {ix : Plan} {Q : Exit → Act → World → Prop} {t : TypeId} {x : Operand} {v : Value} {m : String} {d : Option Nat} {ty : TypeId} {pos : String} {aft : Array Edge} {g : Option (Nat × Bool)}
theorem Val.makeIface (hx : look l x = some v) (h : ∀ w, (Instr.makeInterface t v).run P w = .ok (.iface t v) w) : Val P n l D ⟨d, .makeInterface t x, ty, pos, aft, g⟩ (.iface t v) := fun A w hf _ => by
  simp [execOp, hf.eval hx, h w, Result.andThen]
/-- A method value, ahead of its call: its receiver is no nil pointer that would be followed. -/
theorem Val.nilMethod (hx : look l x = some (.func (.method m) #[.iface t v] #[])) (h : ∀ w, (nilAhead (P.types.size + Made.depth) t v m).run P w = .ok (some false) w) : Val P n l D ⟨d, .nilCheck x, ty, pos, aft, g⟩ (.func (.method m) #[.iface t v] #[]) := fun A w hf _ => by
  simp [execOp, hf.eval hx, Sem.run_bind, program, Sem.run, h w, Result.andThen]
theorem run_invoke {f : FuncId} {xs : List Operand} {ats : Array TypeId} {vals : List Value} {ρ : Operand → Value} {w : World} (hv : xs.map ρ = vals) (hf : ρ x = .iface t v)
    (hm : ∀ w, (invoke (.fn (.method m) #[]) (#[.iface t v] ++ vals.toArray)).run P w = .ok (.enter f (#[v] ++ vals.toArray)) w) :
    (execOp ρ ⟨d, .call { callee := .invoke x m, args := xs.toArray, argTypes := ats }, ty, pos, aft, g⟩).run P w = .ok (.enter f (#[v] ++ vals.toArray)) w := by
  have h0 := hm w
  simp only [execOp, resolve, Sem.run_bind, Sem.run_pure, Result.andThen_ok, hf]
  rw [show (xs.toArray.map ρ) = vals.toArray by rw [← hv]; simp]
  exact h0
/-- A call of a method through an interface. -/
theorem SL.invoke {f : FuncId} {xs : List Operand} {ats : Array TypeId} {vals : List Value} (hx : look l x = some (.iface t v)) (hv : looks l xs = some vals)
    (hm : ∀ w, (Go.invoke (.fn (.method m) #[]) (#[.iface t v] ++ vals.toArray)).run P w = .ok (.enter f (#[v] ++ vals.toArray)) w)
    (hg : gd ops l ⟨d, .call { callee := .invoke x m, args := xs.toArray, argTypes := ats }, ty, pos, aft, g⟩ = some true) (hd : lt? d n = true)
    (hc : ∀ w, C w → Calls P f (#[v] ++ vals.toArray) w fun e w' => ∃ v C', e = .returned v ∧ C' w' ∧ SL P n ops rest (put? l d v) C' Q) :
    SL P n ops (⟨d, .call { callee := .invoke x m, args := xs.toArray, argTypes := ats }, ty, pos, aft, g⟩ :: rest) l C Q := fun a w hf hw =>
  wpList_step fun K hK => by
    rw [if_pos (hf.wanted hg)]
    unfold Oper.wp
    rw [run_invoke (hf.evals hv) (hf.eval hx) hm, Oper.upon_enter]
    refine (hc w hw).mono fun e w' ⟨v, C', he, hC', hk⟩ => ?_
    subst he
    exact hK _ _ (hk _ _ (hf.put? hd v) hC')
theorem SX.invoke {i : Nat} {f : FuncId} {xs : List Operand} {ats : Array TypeId} {vals : List Value} (hi : ops[i]? = some ⟨d, .call { callee := .invoke x m, args := xs.toArray, argTypes := ats }, ty, pos, aft, g⟩)
    (hx : look l x = some (.iface t v)) (hv : looks l xs = some vals)
    (hm : ∀ w, (Go.invoke (.fn (.method m) #[]) (#[.iface t v] ++ vals.toArray)).run P w = .ok (.enter f (#[v] ++ vals.toArray)) w)
    (hg : gd ops l ⟨d, .call { callee := .invoke x m, args := xs.toArray, argTypes := ats }, ty, pos, aft, g⟩ = some true) (hd : lt? d n = true)
    (hc : ∀ w, C w → Calls P f (#[v] ++ vals.toArray) w fun e w' => ∃ v C', e = .returned v ∧ C' w' ∧ ∃ D' : World → Prop, (∀ w, D' w → D w) ∧ (∀ w, C' w → D' w) ∧ SX P n ops ix D' (put? l d v) C' Q) :
    SX P n ops (.e i ix) D l C Q := fun a w hf hw => by
  unfold planW wpOp
  simp only [hi, hf.wanted hg, if_true]
  refine .inl ?_
  unfold Oper.wp
  rw [run_invoke (hf.evals hv) (hf.eval hx) hm, Oper.upon_enter]
  refine (hc w hw).mono fun e w' ⟨v, C', he, hC', D', h1, h2, h3⟩ => ?_
  subst he
  exact ⟨D', h1, h2 _ hC', h3 _ _ (hf.put? hd v) hC'⟩
end
end Go.Proofs.Ytmkijjmbiiiicaa
/-
  The second engine: values ps trees, and what a tree is in a world; pieces of memory; the state of a walk.
-/
set_option maxRecDepth 100000
set_option linter.unusedSimpArgs false
set_option linter.unusedVariables false
namespace Go.Proofs.Ytmkijjmbiiiicaa.A
open Go.RowKit

inductive Abs where
  | v (u : Value)
  | sl (s : Nat) (xs : List (List Abs))
  | agg (cs : List Abs)
  | rp (cs : List Abs)
  | tup (cs : List Abs)
  | fn (f : Fn) (bs cs : List Abs)
  | ifc (t : TypeId) (a : Abs)
mutual
/-- The value x is what the tree says, in the world w, apart from the blocks K. -/
def rep (K : List Nat) (w : World) : Abs → Value → Prop
  | .v u, x => x = u
  | .sl s xs, x => ∃ us, IsRow K w x xs.length us ∧ repss K w s xs us
  | .agg cs, x => ∃ us : List Value, x = .agg us.toArray ∧ reps K w cs us
  | .rp cs, x => ∃ b off, ∃ us : List Value, x = .pointer (some ⟨b, off, none⟩) ∧ b ∉ K ∧ b < w.heap.size ∧ (∀ j u, us[j]? = some u → w.cell? ⟨b, off + j, none⟩ = some u) ∧ reps K w cs us
  | .tup cs, x => ∃ us : List Value, x = .tuple us.toArray ∧ reps K w cs us
  | .fn f bs cs, x => ∃ us vs : List Value, x = .func f us.toArray vs.toArray ∧ reps K w bs us ∧ reps K w cs vs
  | .ifc t a, x => ∃ u, x = .iface t u ∧ rep K w a u
def reps (K : List Nat) (w : World) : List Abs → List Value → Prop
  | [], us => us = []
  | a :: ps, us => ∃ u us', us = u :: us' ∧ rep K w a u ∧ reps K w ps us'
def repss (K : List Nat) (w : World) (s : Nat) : List (List Abs) → List Value → Prop
  | [], us => us = []
  | x :: xs, us => ∃ us1 us2, us = us1 ++ us2 ∧ us1.length = s ∧ reps K w x us1 ∧ repss K w s xs us2
end
/-- What lies apart from K in w lies apart from K' in w', ps it was. -/
structure Carry (K : List Nat) (w : World) (K' : List Nat) (w' : World) : Prop where
  size : w.heap.size ≤ w'.heap.size
  out : ∀ b, b ∉ K → b < w.heap.size → b ∉ K'
  at_ : ∀ b, b ∉ K → b < w.heap.size → w'.heap[b]? = w.heap[b]?
section
variable {K K' K'' F : List Nat} {w w' w'' : World}
theorem Carry.cell (h : Carry K w K' w') {b o : Nat} {u : Value} (hb : b ∉ K) (hc : w.cell? ⟨b, o, none⟩ = some u) : w'.cell? ⟨b, o, none⟩ = some u := by
  have hlt := block_lt_of_cell hc
  rw [← hc]
  exact World.cell?_of_block (w := w) (h.at_ b hb hlt)
theorem Carry.refl : Carry K w K w := ⟨Nat.le_refl _, fun _ h _ => h, fun _ _ _ => rfl⟩
theorem Carry.trans (h : Carry K w K' w') (k : Carry K' w' K'' w'') : Carry K w K'' w'' :=
  ⟨Nat.le_trans h.size k.size, fun b hb hl => k.out b (h.out b hb hl) (Nat.lt_of_lt_of_le hl h.size), fun b hb hl => (k.at_ b (h.out b hb hl) (Nat.lt_of_lt_of_le hl h.size)).trans (h.at_ b hb hl)⟩
theorem Carry.of_ext (hx : Ext F w w') (hF : ∀ k ∈ F, k ∈ K ∨ w.heap.size ≤ k) (hK : ∀ k ∈ K', k ∈ K ∨ w.heap.size ≤ k) : Carry K w K' w' :=
  ⟨hx.size, fun b hb hl hm => by rcases hK b hm with h | h <;> first | exact hb h | omega,
   fun b hb hl => hx.block b hl fun hm => by rcases hF b hm with h | h <;> first | exact hb h | omega⟩
theorem Carry.less (hK : ∀ k ∈ K', k ∈ K) : Carry K w K' w := Carry.of_ext (Ext.refl w) (F := []) (by simp) fun k hk => .inl (hK k hk)
theorem Carry.row (h : Carry K w K' w') {x : Value} {n : Nat} {cs : List Value} (hr : IsRow K w x n cs) : IsRow K' w' x n cs := by
  refine ⟨hr.shape, fun hn => ?_⟩
  obtain ⟨b, off, n', c, hv, hb, hc⟩ := hr.cells hn
  have hlt : b < w.heap.size := by
    cases cs with
    | nil => exact absurd rfl hn
    | cons u cs => exact block_lt_of_cell (hc 0 u rfl)
  exact ⟨b, off, n', c, hv, h.out b hb hlt, fun j u hu => h.cell hb (hc j u hu)⟩
end
mutual
theorem rep_carry {K K' : List Nat} {w w' : World} (h : Carry K w K' w') : ∀ (a : Abs) (x : Value), rep K w a x → rep K' w' a x
  | .v _, _, hx => hx
  | .sl s xs, _, ⟨us, h1, h2⟩ => ⟨us, h.row h1, repss_carry h s xs us h2⟩
  | .agg cs, _, ⟨us, h1, h2⟩ => ⟨us, h1, reps_carry h cs us h2⟩
  | .rp cs, _, ⟨b, off, us, h1, h2, h3, h4, h5⟩ => ⟨b, off, us, h1, h.out b h2 h3, Nat.lt_of_lt_of_le h3 h.size, fun j u hu => h.cell h2 (h4 j u hu), reps_carry h cs us h5⟩
  | .tup cs, _, ⟨us, h1, h2⟩ => ⟨us, h1, reps_carry h cs us h2⟩
  | .fn _ bs cs, _, ⟨us, vs, h1, h2, h3⟩ => ⟨us, vs, h1, reps_carry h bs us h2, reps_carry h cs vs h3⟩
  | .ifc _ a, _, ⟨u, h1, h2⟩ => ⟨u, h1, rep_carry h a u h2⟩
theorem reps_carry {K K' : List Nat} {w w' : World} (h : Carry K w K' w') : ∀ (ps : List Abs) (us : List Value), reps K w ps us → reps K' w' ps us
  | [], _, hx => hx
  | a :: ps, _, ⟨u, us', h1, h2, h3⟩ => ⟨u, us', h1, rep_carry h a u h2, reps_carry h ps us' h3⟩
theorem repss_carry {K K' : List Nat} {w w' : World} (h : Carry K w K' w') (s : Nat) : ∀ (xs : List (List Abs)) (us : List Value), repss K w s xs us → repss K' w' s xs us
  | [], _, hx => hx
  | x :: xs, _, ⟨us1, us2, h1, h2, h3, h4⟩ => ⟨us1, us2, h1, h2, reps_carry h x us1 h3, repss_carry h s xs us2 h4⟩
end
section
variable {K : List Nat} {w : World} {s : Nat}
theorem reps_length : ∀ {ps : List Abs} {us : List Value}, reps K w ps us → us.length = ps.length
  | [], _, h => by simp [reps] at h; simp [h]
  | a :: ps, _, ⟨u, us', h1, h2, h3⟩ => by subst h1; simp [reps_length h3]
theorem reps_get : ∀ {ps : List Abs} {us : List Value} {j : Nat} {a : Abs}, reps K w ps us → ps[j]? = some a → ∃ u, us[j]? = some u ∧ rep K w a u
  | [], _, _, _, _, hj => by simp at hj
  | b :: ps, _, 0, a, ⟨u, us', h1, h2, h3⟩, hj => by simp at hj; subst hj h1; exact ⟨u, rfl, h2⟩
  | b :: ps, _, j + 1, a, ⟨u, us', h1, h2, h3⟩, hj => by
    subst h1
    simp only [List.getElem?_cons_succ] at hj ⊢
    exact reps_get h3 hj
theorem reps_append : ∀ {ps bs : List Abs} {us vs : List Value}, reps K w ps us → reps K w bs vs → reps K w (ps ++ bs) (us ++ vs)
  | [], _, _, _, h, k => by simp [reps] at h; subst h; exact k
  | a :: ps, _, _, _, ⟨u, us', h1, h2, h3⟩, k => by subst h1; exact ⟨u, _, rfl, h2, reps_append h3 k⟩
theorem reps_split : ∀ {ps bs : List Abs} {us : List Value}, reps K w (ps ++ bs) us → ∃ us1 us2, us = us1 ++ us2 ∧ us1.length = ps.length ∧ reps K w ps us1 ∧ reps K w bs us2
  | [], bs, us, h => ⟨[], us, rfl, rfl, rfl, h⟩
  | a :: ps, bs, _, ⟨u, us', h1, h2, h3⟩ => by
    subst h1
    obtain ⟨us1, us2, h4, h5, h6, h7⟩ := reps_split h3
    exact ⟨u :: us1, us2, by simp [h4], by simp [h5], ⟨u, us1, rfl, h2, h6⟩, h7⟩
theorem reps_take {ps : List Abs} {us : List Value} (h : reps K w ps us) (n : Nat) : reps K w (ps.take n) (us.take n) := by
  have h1 := h
  rw [← List.take_append_drop n ps] at h1
  obtain ⟨us1, us2, h4, h5, h6, h7⟩ := reps_split h1
  have hl := reps_length h
  have : us.take n = us1 := by
    subst h4
    rw [List.length_take] at h5
    rcases Nat.le_total n ps.length with hn | hn
    · rw [List.take_append_of_le_length (by omega), List.take_of_length_le (by omega)]
    · have h8 := reps_length h7
      rw [List.length_drop] at h8
      have h9 : us2 = [] := List.length_eq_zero_iff.1 (by omega)
      subst h9
      rw [List.append_nil, List.take_of_length_le (by omega)]
  rw [this]; exact h6
theorem reps_drop {ps : List Abs} {us : List Value} (h : reps K w ps us) (n : Nat) : reps K w (ps.drop n) (us.drop n) := by
  have h1 := h
  rw [← List.take_append_drop n ps] at h1
  obtain ⟨us1, us2, h4, h5, h6, h7⟩ := reps_split h1
  have hl := reps_length h
  have h8 := reps_length h7
  rw [List.length_drop] at h8
  have : us.drop n = us2 := by
    subst h4
    rw [List.length_take] at h5
    rcases Nat.le_total n ps.length with hn | hn
    · have : us1.length = n := by omega
      subst this; simp
    · have h9 : us2 = [] := List.length_eq_zero_iff.1 (by omega)
      subst h9
      simp; omega
  rw [this]; exact h7
theorem repss_length : ∀ {xs : List (List Abs)} {us : List Value}, repss K w s xs us → us.length = xs.length * s
  | [], _, h => by simp [repss] at h; simp [h]
  | x :: xs, _, ⟨us1, us2, h1, h2, h3, h4⟩ => by subst h1; simp [repss_length h4, h2, Nat.succ_mul]; omega
theorem repss_get : ∀ {xs : List (List Abs)} {us : List Value} {q : Nat} {x : List Abs}, repss K w s xs us → xs[q]? = some x → ∃ vs : List Value, vs.length = s ∧ reps K w x vs ∧ ∀ j u, vs[j]? = some u → us[q * s + j]? = some u
  | [], _, _, _, _, hj => by simp at hj
  | y :: xs, _, 0, x, ⟨us1, us2, h1, h2, h3, h4⟩, hj => by
    simp at hj; subst hj h1
    refine ⟨us1, h2, h3, fun j u hu => ?_⟩
    rw [Nat.zero_mul, Nat.zero_add, List.getElem?_append_left (List.getElem?_eq_some_iff.1 hu).1]; exact hu
  | y :: xs, _, q + 1, x, ⟨us1, us2, h1, h2, h3, h4⟩, hj => by
    subst h1
    simp only [List.getElem?_cons_succ] at hj
    obtain ⟨vs, h5, h6, h7⟩ := repss_get h4 hj
    refine ⟨vs, h5, h6, fun j u hu => ?_⟩
    have : (q + 1) * s + j = us1.length + (q * s + j) := by rw [Nat.succ_mul]; omega
    rw [this, List.getElem?_append_right (by omega), Nat.add_sub_cancel_left]; exact h7 j u hu
theorem repss_append : ∀ {xs ys : List (List Abs)} {us vs : List Value}, repss K w s xs us → repss K w s ys vs → repss K w s (xs ++ ys) (us ++ vs)
  | [], _, _, _, h, k => by simp [repss] at h; subst h; exact k
  | x :: xs, _, _, _, ⟨us1, us2, h1, h2, h3, h4⟩, k => by subst h1; exact ⟨us1, _, by simp, h2, h3, repss_append h4 k⟩
theorem repss_split : ∀ {xs ys : List (List Abs)} {us : List Value}, repss K w s (xs ++ ys) us → ∃ us1 us2, us = us1 ++ us2 ∧ repss K w s xs us1 ∧ repss K w s ys us2
  | [], ys, us, h => ⟨[], us, rfl, rfl, h⟩
  | x :: xs, ys, _, ⟨us1, us2, h1, h2, h3, h4⟩ => by
    subst h1
    obtain ⟨a, b, h5, h6, h7⟩ := repss_split h4
    exact ⟨us1 ++ a, b, by simp [h5], ⟨us1, a, rfl, h2, h3, h6⟩, h7⟩
theorem repss_one {x : List Abs} {us : List Value} (h : reps K w x us) (hs : us.length = s) : repss K w s [x] us := ⟨us, [], by simp, hs, h, rfl⟩
/-- Rows of single cells. -/
theorem repss_ones : ∀ {us : List Value}, repss K w 1 (us.map fun u => [.v u]) us
  | [] => rfl
  | u :: us => ⟨[u], us, rfl, rfl, ⟨u, [], rfl, rfl, rfl⟩, repss_ones⟩
theorem repss_ones_eq : ∀ {us vs : List Value}, repss K w 1 (us.map fun u => [.v u]) vs → vs = us
  | [], vs, h => h
  | u :: us, vs, ⟨us1, us2, h1, h2, ⟨_, _, h3, h4, h5⟩, h6⟩ => by
    have := repss_ones_eq h6
    simp only [rep, reps] at h4 h5
    subst h4 h5 h3 h1 this
    rfl
end
/-- One cell takes it. -/
def Abs.one : Abs → Bool
  | .v u => u.oneCell'
  | .agg _ => false
  | .tup _ => false
  | _ => true
theorem Abs.one_rep {K : List Nat} {w : World} {a : Abs} {x : Value} (h : rep K w a x) (h1 : a.one = true) : x.oneCell' = true := by
  cases a with
  | v u => have : x = u := h; subst this; exact h1
  | sl s xs => obtain ⟨us, hr, _⟩ := h; obtain ⟨A, c, rfl, _⟩ := hr.shape; rfl
  | rp cs => obtain ⟨b, o, us, rfl, _⟩ := h; rfl
  | fn f bs cs => obtain ⟨us, vs, rfl, _⟩ := h; rfl
  | ifc t a => obtain ⟨u, rfl, _⟩ := h; rfl
  | agg cs => cases h1
  | tup cs => cases h1
def ones : List Abs → Bool
  | [] => true
  | a :: ps => a.one && ones ps
theorem ones_reps {K : List Nat} {w : World} : ∀ {ps : List Abs} {us : List Value}, reps K w ps us → ones ps = true → ∀ u ∈ us, u.oneCell' = true
  | [], _, h, _, u, hu => by simp [reps] at h; subst h; cases hu
  | a :: ps, _, ⟨x, us', h1, h2, h3⟩, ho, u, hu => by
    subst h1
    simp only [ones, Bool.and_eq_true] at ho
    rcases List.mem_cons.1 hu with rfl | hu
    · exact Abs.one_rep h2 ho.1
    · exact ones_reps h3 ho.2 u hu
theorem ones_iff {ps : List Abs} : ones ps = true ↔ ∀ a ∈ ps, a.one = true := by
  induction ps with
  | nil => simp [ones]
  | cons a ps ih => simp [ones, ih]

/-! ### Pieces of memory -/
structure Pc where
  ids : List Nat
  p : List Nat → World → Prop
  carry : ∀ K w K' w', Carry K w K' w' → (∀ k ∈ ids, w'.heap[k]? = w.heap[k]?) → p K w → p K' w'
  lt : ∀ K w, p K w → ∀ k ∈ ids, k < w.heap.size
inductive It where
  | blk (b : Nat) (t : TypeId) (cs : List Abs)
  | pc (c : Pc)
  | rd (b : Nat) (t : TypeId) (cs : List Abs)
  | rdpc (c : Pc)
abbrev Blks := List It
def It.mids : It → List Nat
  | .blk b _ _ => [b]
  | .pc c => c.ids
  | _ => []
def It.rids : It → List Nat
  | .rd b _ _ => [b]
  | .rdpc c => c.ids
  | _ => []
def It.holds (K : List Nat) (w : World) : It → Prop
  | .blk b t cs => ∃ us, w.heap[b]? = some (row t us) ∧ reps K w cs us
  | .rd b t cs => ∃ us, w.heap[b]? = some (row t us) ∧ reps K w cs us
  | .pc c => c.p K w
  | .rdpc c => c.p K w
def It.toRd : It → It
  | .blk b t cs => .rd b t cs
  | .pc c => .rdpc c
  | x => x
def mids (σ : Blks) : List Nat := σ.flatMap It.mids
theorem heap_lt {w : World} {b : Nat} {o : Obj} (h : w.heap[b]? = some o) : b < w.heap.size := by
  rcases Nat.lt_or_ge b w.heap.size with h1 | h1
  · exact h1
  · rw [Array.getElem?_eq_none h1] at h; cases h
section
variable {K K' : List Nat} {w w' : World} {x : It} {σ τ : Blks}
theorem It.lt (h : x.holds K w) : ∀ k ∈ x.mids ++ x.rids, k < w.heap.size := by
  intro k hk
  cases x with
  | blk b t cs => obtain ⟨us, hb, _⟩ := h; simp [It.mids, It.rids] at hk; subst hk; exact heap_lt hb
  | rd b t cs => obtain ⟨us, hb, _⟩ := h; simp [It.mids, It.rids] at hk; subst hk; exact heap_lt hb
  | pc c => exact c.lt _ _ h k (by simpa [It.mids, It.rids] using hk)
  | rdpc c => exact c.lt _ _ h k (by simpa [It.mids, It.rids] using hk)
theorem It.carry (h : x.holds K w) (hc : Carry K w K' w') (hs : ∀ k ∈ x.mids ++ x.rids, w'.heap[k]? = w.heap[k]?) : x.holds K' w' := by
  cases x with
  | blk b t cs => obtain ⟨us, hb, hr⟩ := h; exact ⟨us, (hs b (by simp [It.mids])).trans hb, reps_carry hc _ _ hr⟩
  | rd b t cs => obtain ⟨us, hb, hr⟩ := h; exact ⟨us, (hs b (by simp [It.rids])).trans hb, reps_carry hc _ _ hr⟩
  | pc c => exact c.carry _ _ _ _ hc (fun k hk => hs k (by simp [It.mids, hk])) h
  | rdpc c => exact c.carry _ _ _ _ hc (fun k hk => hs k (by simp [It.rids, hk])) h
theorem mids_mem {k : Nat} : k ∈ mids σ ↔ ∃ x ∈ σ, k ∈ x.mids := by simp [mids]
theorem mids_append : mids (σ ++ τ) = mids σ ++ mids τ := by simp [mids]
theorem mids_cons : mids (x :: σ) = x.mids ++ mids σ := by simp [mids]
theorem mids_sub (h : τ.Sublist σ) : (mids τ).Sublist (mids σ) := by
  unfold mids
  induction h with
  | slnil => simp
  | cons a _ ih => simp only [List.flatMap_cons]; exact ih.trans (List.sublist_append_right _ _)
  | cons_cons a _ ih => simp only [List.flatMap_cons]; exact (List.Sublist.refl _).append ih
theorem mids_perm (h : τ.Perm σ) : (mids τ).Perm (mids σ) := by unfold mids; exact h.flatMap_right _
end
/-- The worlds that come of w0 by changes of the blocks F alone, and hold these pieces, apart from each other and from G. -/
structure Mem (w0 : World) (F G : List Nat) (σ : Blks) (w : World) : Prop where
  ext : Ext F w0 w
  out : ∀ k ∈ mids σ, k ∈ F ∨ w0.heap.size ≤ k
  sep : ∀ k ∈ mids σ, k ∉ G
  old : ∀ k ∈ G, k < w.heap.size
  ro : ∀ x ∈ σ, ∀ k ∈ x.rids, k ∈ G
  nodup : (mids σ).Nodup
  hold : ∀ x ∈ σ, x.holds (mids σ ++ G) w
/-- One piece is another one then. -/
inductive Upd (x y : It) : Blks → Blks → Prop
  | here {σ : Blks} : Upd x y (x :: σ) (y :: σ)
  | there {z : It} {σ τ : Blks} (h : Upd x y σ τ) : Upd x y (z :: σ) (z :: τ)
section
variable {w0 w w' : World} {F G Y : List Nat} {σ τ : Blks} {x y : It}
theorem Upd.split (h : Upd x y σ τ) : ∃ α β, σ = α ++ x :: β ∧ τ = α ++ y :: β := by
  induction h with
  | here => exact ⟨[], _, rfl, rfl⟩
  | there _ ih => obtain ⟨α, β, h1, h2⟩ := ih; exact ⟨_ :: α, β, by rw [h1]; rfl, by rw [h2]; rfl⟩
theorem Upd.mem (h : Upd x y σ τ) : x ∈ σ := by obtain ⟨α, β, rfl, rfl⟩ := h.split; simp
theorem Mem.lt (h : Mem w0 F G σ w) : ∀ k ∈ mids σ ++ G, k < w.heap.size := fun k hk => by
  rcases List.mem_append.1 hk with hk | hk
  · obtain ⟨x, hx, hk⟩ := mids_mem.1 hk; exact It.lt (h.hold x hx) k (List.mem_append_left _ hk)
  · exact h.old k hk
/-- What a step must show. -/
theorem Mem.step (h : Mem w0 F G σ w) (hx : Ext Y w w') (hY : ∀ k ∈ Y, k ∈ mids σ) (hτ : ∀ k ∈ mids τ, k ∈ mids σ ∨ w.heap.size ≤ k) (hro : ∀ x ∈ τ, ∀ k ∈ x.rids, k ∈ G) (hn : (mids τ).Nodup)
    (hh : Carry (mids σ ++ G) w (mids τ ++ G) w' → ∀ x ∈ τ, x.holds (mids τ ++ G) w') : Mem w0 F G τ w' ∧ Carry (mids σ ++ G) w (mids τ ++ G) w' := by
  have hc : Carry (mids σ ++ G) w (mids τ ++ G) w' := Carry.of_ext hx (fun k hk => .inl (List.mem_append_left _ (hY k hk))) fun k hk => by
    rcases List.mem_append.1 hk with hk | hk
    · rcases hτ k hk with h1 | h1
      · exact .inl (List.mem_append_left _ h1)
      · exact .inr h1
    · exact .inl (List.mem_append_right _ hk)
  refine ⟨⟨h.ext.trans hx fun k hk => h.out k (hY k hk), fun k hk => ?_, fun k hk hg => ?_, fun k hk => Nat.lt_of_lt_of_le (h.old k hk) hx.size, hro, hn, hh hc⟩, hc⟩
  · rcases hτ k hk with h1 | h1
    · exact h.out k h1
    · exact .inr (Nat.le_trans h.ext.size h1)
  · rcases hτ k hk with h1 | h1
    · exact h.sep k h1 hg
    · have := h.old k hg; omega
/-- Pieces that a change does not touch. -/
theorem Mem.keep (h : Mem w0 F G σ w) (hx : Ext Y w w') {K' : List Nat} (hc : Carry (mids σ ++ G) w K' w') (hz : y ∈ σ) (hY : ∀ k ∈ y.mids, k ∉ Y) (hY2 : ∀ k ∈ Y, k ∈ mids σ) : y.holds K' w' :=
  It.carry (h.hold y hz) hc fun k hk => hx.block k (It.lt (h.hold y hz) k hk) fun hm => by
    rcases List.mem_append.1 hk with hk | hk
    · exact hY k hk hm
    · exact h.sep k (hY2 k hm) (h.ro y hz k hk)
theorem Mem.same (h : Mem w0 F G σ w) (hx : Ext [] w w') : Mem w0 F G σ w' ∧ Carry (mids σ ++ G) w (mids σ ++ G) w' :=
  h.step hx (by simp) (fun k hk => .inl hk) h.ro h.nodup fun hc x hm => h.keep hx hc hm (by simp) (by simp)
/-- A new piece. -/
theorem Mem.new (h : Mem w0 F G σ w) (hx : Ext [] w w') (hn : y.mids.Nodup) (hid : ∀ k ∈ y.mids, w.heap.size ≤ k) (hr : y.rids = []) (hy : Carry (mids σ ++ G) w (mids (y :: σ) ++ G) w' → y.holds (mids (y :: σ) ++ G) w') : Mem w0 F G (y :: σ) w' ∧ Carry (mids σ ++ G) w (mids (y :: σ) ++ G) w' := by
  refine h.step hx (by simp) (fun k hk => ?_) (fun x hm => ?_) ?_ fun hc x hm => ?_
  · rw [mids_cons] at hk
    rcases List.mem_append.1 hk with hk | hk
    · exact .inr (hid k hk)
    · exact .inl hk
  · rcases List.mem_cons.1 hm with rfl | hm
    · simp [hr]
    · exact h.ro x hm
  · rw [mids_cons, List.nodup_append]
    refine ⟨hn, h.nodup, fun a ha b hb he => ?_⟩
    subst he
    have := h.lt a (List.mem_append_left _ hb)
    have := hid a ha
    omega
  · rcases List.mem_cons.1 hm with rfl | hm
    · exact hy hc
    · exact h.keep hx hc hm (by simp) (by simp)
theorem Mem.alloc (h : Mem w0 F G σ w) (t : TypeId) {cs : List Abs} {us : List Value} (hr : reps (mids σ ++ G) w cs us) : Mem w0 F G (.blk w.heap.size t cs :: σ) (w.alloc (row t us)) ∧ Carry (mids σ ++ G) w (mids (.blk w.heap.size t cs :: σ) ++ G) (w.alloc (row t us)) :=
  h.new ((Ext.refl w).alloc _) (by simp [It.mids]) (by simp [It.mids]) rfl fun hc => ⟨us, heap_alloc_new w _, reps_carry hc _ _ hr⟩
/-- A change of one piece. -/
theorem Mem.upd (h : Mem w0 F G σ w) (u : Upd x y σ τ) (hx : Ext x.mids w w') (hn : y.mids.Nodup) (hid : ∀ k ∈ y.mids, k ∈ x.mids ∨ w.heap.size ≤ k) (hr : y.rids = []) (hy : Carry (mids σ ++ G) w (mids τ ++ G) w' → y.holds (mids τ ++ G) w') : Mem w0 F G τ w' ∧ Carry (mids σ ++ G) w (mids τ ++ G) w' := by
  obtain ⟨α, β, rfl, rfl⟩ := u.split
  have hnd := h.nodup
  simp only [mids_append, mids_cons, List.nodup_append] at hnd
  obtain ⟨n1, ⟨n2, n3, n4⟩, n5⟩ := hnd
  have hlt := h.lt
  refine h.step hx (fun k hk => ?_) (fun k hk => ?_) (fun z hm => ?_) ?_ fun hc z hm => ?_
  · simp [mids_append, mids_cons, hk]
  · simp only [mids_append, mids_cons, List.mem_append] at hk ⊢
    rcases hk with hk | hk | hk
    · simp [hk]
    · rcases hid k hk with h1 | h1
      · simp [h1]
      · exact .inr h1
    · simp [hk]
  · simp only [List.mem_append, List.mem_cons] at hm
    rcases hm with hm | rfl | hm
    · exact h.ro z (by simp [hm])
    · simp [hr]
    · exact h.ro z (by simp [hm])
  · have hout : ∀ k ∈ y.mids, (k ∉ mids α) ∧ k ∉ mids β := fun k hk => by
      rcases hid k hk with h1 | h1
      · exact ⟨fun h2 => n5 k h2 k (List.mem_append_left _ h1) rfl, fun h2 => n4 k h1 k h2 rfl⟩
      · refine ⟨fun h2 => ?_, fun h2 => ?_⟩
        · have := hlt k (by simp [mids_append, mids_cons, h2]); omega
        · have := hlt k (by simp [mids_append, mids_cons, h2]); omega
    simp only [mids_append, mids_cons, List.nodup_append]
    refine ⟨n1, ⟨hn, n3, fun a ha b hb he => ?_⟩, fun a ha b hb he => ?_⟩
    · subst he; exact (hout a ha).2 hb
    · subst he
      rcases List.mem_append.1 hb with hb | hb
      · exact (hout a hb).1 ha
      · exact n5 a ha a (List.mem_append_right _ hb) rfl
  · simp only [List.mem_append, List.mem_cons] at hm
    have hY2 : ∀ k ∈ x.mids, k ∈ mids (α ++ x :: β) := fun k hk => by simp [mids_append, mids_cons, hk]
    rcases hm with hm | rfl | hm
    · exact h.keep hx hc (by simp [hm]) (fun k hk hx => n5 k (mids_mem.2 ⟨z, hm, hk⟩) k (List.mem_append_left _ hx) rfl) hY2
    · exact hy hc
    · exact h.keep hx hc (by simp [hm]) (fun k hk hx => n4 k hx k (mids_mem.2 ⟨z, hm, hk⟩) rfl) hY2
theorem Mem.sub (h : Mem w0 F G σ w) (hs : τ.Sublist σ) : Mem w0 F G τ w ∧ Carry (mids σ ++ G) w (mids τ ++ G) w :=
  h.step (Ext.refl w) (Y := []) (by simp) (fun k hk => .inl ((mids_sub hs).subset hk)) (fun x hx => h.ro x (hs.subset hx)) (h.nodup.sublist (mids_sub hs)) fun hc x hm => h.keep (Ext.refl w) (Y := []) hc (hs.subset hm) (by simp) (by simp)
theorem Mem.perm (h : Mem w0 F G σ w) (hs : τ.Perm σ) : Mem w0 F G τ w ∧ Carry (mids σ ++ G) w (mids τ ++ G) w :=
  h.step (Ext.refl w) (Y := []) (by simp) (fun k hk => .inl ((mids_perm hs).subset hk)) (fun x hx => h.ro x (hs.subset hx)) ((mids_perm hs).nodup_iff.2 h.nodup) fun hc x hm => h.keep (Ext.refl w) (Y := []) hc (hs.subset hm) (by simp) (by simp)
end
end Go.Proofs.Ytmkijjmbiiiicaa.A
