/-
  Packed out of the texts: Sum, Doc, A14, A16, A19, Id, V1, CryS, L3, L4, A20, CorEq.
-/
import Derived.Test.YtmkijjmbiiiicaaP06
import Derived.Lib.AppendZerosOnto
import Derived.Lib.Overlaps
/-
  Sums: what the program's rounds come to, as plain functions on words.
-/
set_option maxRecDepth 100000
set_option linter.unusedSimpArgs false
set_option linter.unusedVariables false
namespace Go.Proofs.Ytmkijjmbiiiicaa.A
open Go.RowKit

abbrev bs (l : List UInt8) : List (List Abs) := l.map fun b => [Abs.v (bc b)]
def rot (x : Wo) (n : Nat) : Wo := x >>> n ||| x <<< (32 - n)
def mixW (x : Wo) (a b c : Nat) : Wo := rot x a ^^^ rot x b ^^^ rot x c
def byW (l : List UInt8) (i : Nat) : Wo := BitVec.ofNat 32 (l.getD i 0).toNat
def wordAt (l : List UInt8) (i : Nat) : Wo := byW l (4 * i + 0) <<< 24 ||| byW l (4 * i + 1) <<< 16 ||| byW l (4 * i + 2) <<< 8 ||| byW l (4 * i + 3)
def nextW (l : List Wo) (z : Nat) : Wo := l.getD z 0 + (rot (l.getD (z + 1) 0) 7 ^^^ rot (l.getD (z + 1) 0) 18 ^^^ l.getD (z + 1) 0 >>> 3) + l.getD (z + 9) 0 + (rot (l.getD (z + 14) 0) 17 ^^^ rot (l.getD (z + 14) 0) 19 ^^^ l.getD (z + 14) 0 >>> 10)
def sched0 (l : List UInt8) (k : Nat) : List Wo := (List.range k).map (wordAt l)
def grow (l : List Wo) : Nat → List Wo
  | 0 => l
  | k + 1 => grow l k ++ [nextW (grow l k) k]
def sched (l : List UInt8) : List Wo := grow (sched0 l 16) 48
def roundsL : List Wo := [0x428a2f98#32, 0x71374491#32, 0xb5c0fbcf#32, 0xe9b5dba5#32, 0x3956c25b#32, 0x59f111f1#32, 0x923f82a4#32, 0xab1c5ed5#32, 0xd807aa98#32, 0x12835b01#32, 0x243185be#32, 0x550c7dc3#32, 0x72be5d74#32, 0x80deb1fe#32, 0x9bdc06a7#32, 0xc19bf174#32, 0xe49b69c1#32, 0xefbe4786#32, 0x0fc19dc6#32, 0x240ca1cc#32, 0x2de92c6f#32, 0x4a7484aa#32, 0x5cb0a9dc#32, 0x76f988da#32, 0x983e5152#32, 0xa831c66d#32, 0xb00327c8#32, 0xbf597fc7#32, 0xc6e00bf3#32, 0xd5a79147#32, 0x06ca6351#32, 0x14292967#32, 0x27b70a85#32, 0x2e1b2138#32, 0x4d2c6dfc#32, 0x53380d13#32, 0x650a7354#32, 0x766a0abb#32, 0x81c2c92e#32, 0x92722c85#32, 0xa2bfe8a1#32, 0xa81a664b#32, 0xc24b8b70#32, 0xc76c51a3#32, 0xd192e819#32, 0xd6990624#32, 0xf40e3585#32, 0x106aa070#32, 0x19a4c116#32, 0x1e376c08#32, 0x2748774c#32, 0x34b0bcb5#32, 0x391c0cb3#32, 0x4ed8aa4a#32, 0x5b9cca4f#32, 0x682e6ff3#32, 0x748f82ee#32, 0x78a5636f#32, 0x84c87814#32, 0x8cc70208#32, 0x90befffa#32, 0xa4506ceb#32, 0xbef9a3f7#32, 0xc67178f2#32]
structure R8 where
  (a0 a1 a2 a3 e0 e1 e2 e3 : Wo)
def R8.a (r : R8) : List Wo := [r.a0, r.a1, r.a2, r.a3]
def R8.e (r : R8) : List Wo := [r.e0, r.e1, r.e2, r.e3]
def R8.l (r : R8) : List Wo := [r.a0, r.a1, r.a2, r.a3, r.e0, r.e1, r.e2, r.e3]
def firstR : R8 := ⟨0x6a09e667#32, 0xbb67ae85#32, 0x3c6ef372#32, 0xa54ff53a#32, 0x510e527f#32, 0x9b05688c#32, 0x1f83d9ab#32, 0x5be0cd19#32⟩
def t1W (r : R8) (k w : Wo) : Wo := r.e3 + mixW r.e0 6 11 25 + (r.e2 ^^^ (r.e0 &&& (r.e1 ^^^ r.e2))) + k + w
def t2W (r : R8) : Wo := mixW r.a0 2 13 22 + ((r.a0 &&& r.a1) ^^^ (r.a0 &&& r.a2) ^^^ (r.a1 &&& r.a2))
def rnd (r : R8) (k w : Wo) : R8 := ⟨t1W r k w + t2W r, r.a0, r.a1, r.a2, r.a3 + t1W r k w, r.e0, r.e1, r.e2⟩
def rnds (r : R8) (ws : List Wo) : Nat → R8
  | 0 => r
  | i + 1 => rnd (rnds r ws i) (roundsL.getD i 0) (ws.getD i 0)
def R8.add (r s : R8) : R8 := ⟨r.a0 + s.a0, r.a1 + s.a1, r.a2 + s.a2, r.a3 + s.a3, r.e0 + s.e0, r.e1 + s.e1, r.e2 + s.e2, r.e3 + s.e3⟩
def blockW (r : R8) (l : List UInt8) : R8 := r.add (rnds r (sched l) 64)
/-- So many blocks of a text. -/
def blocks (r : R8) (l : List UInt8) : Nat → R8
  | 0 => r
  | k + 1 => blockW (blocks r l k) (l.drop (64 * k))
def padded (l : List UInt8) (n : Nat) : List UInt8 := l ++ [128] ++ List.replicate ((119 - l.length) % 64) 0 ++ beBytes (n * 8) 8
def byteAt (ws : List Wo) (q : Nat) : UInt8 := UInt8.ofNat (ws.getD (q / 4) 0 >>> (24 - 8 * (q % 4))).toNat
def outN (ws : List Wo) (j : Nat) : List UInt8 := (List.range j).map (byteAt ws) ++ List.replicate (32 - j) 0
/-- The sum of what was taken in so far. -/
def finish (r : R8) (rest : List UInt8) (n : Nat) : List UInt8 := outN (blocks r (padded rest n) ((padded rest n).length / 64)).l 32
/-- A sum that is under way. -/
structure Sm where
  (r : R8) (rest : List UInt8) (n : Nat)
def Sm.new : Sm := ⟨firstR, [], 0⟩
def Sm.add (s : Sm) (l : List UInt8) : Sm := ⟨blocks s.r (s.rest ++ l) ((s.rest ++ l).length / 64), (s.rest ++ l).drop (64 * ((s.rest ++ l).length / 64)), s.n + l.length⟩
def Sm.sum (s : Sm) : List UInt8 := finish s.r s.rest s.n
def Sm.Ok (s : Sm) : Prop := s.rest.length < 64
theorem bs_ones (l : List UInt8) : ∀ c ∈ bs l, ones c = true := by
  intro c hc
  obtain ⟨b, _, rfl⟩ := List.mem_map.1 hc
  rfl
theorem ones_dig (l : List UInt8) : ones (digA l) = true := by
  rw [ones_iff]
  intro a ha
  obtain ⟨p, _, rfl⟩ := List.mem_map.1 ha
  rfl
end Go.Proofs.Ytmkijjmbiiiicaa.A
/-
  Sums: what the document's answer comes to, as plain functions; the same as the program's.
-/
set_option maxRecDepth 100000
set_option linter.unusedSimpArgs false
set_option linter.unusedVariables false
namespace Go.Proofs.Ytmkijjmbiiiicaa.A
open Go.RowKit

section
variable {P : Program} {n : Nat} {W : Wd} {σ τ : Blks} {l : Slots} {X : List Nat} {x y z : Operand} {d : Option Nat} {ty t t' e : TypeId} {pos : String} {aft : Array Edge} {g : Option (Nat × Bool)} {k k' : IntKind} {a b : Int} {p q : Nat} {c : Wo}
end
/-! ### Constants -/
abbrev ws (l : List Wo) : List (List Abs) := l.map fun p => [u32 p]
end Go.Proofs.Ytmkijjmbiiiicaa.A
/-
  The second engine: slices of arrays in blocks; bytes mixed.
-/
set_option maxRecDepth 100000
set_option linter.unusedSimpArgs false
set_option linter.unusedVariables false
namespace Go.Proofs.Ytmkijjmbiiiicaa.A
open Go.RowKit
section
variable {P : Program} {n : Nat} {W : Wd} {σ τ : Blks} {l : Slots} {X : List Nat} {x y z : Operand} {d : Option Nat} {ty t t' e : TypeId} {pos : String} {aft : Array Edge} {g : Option (Nat × Bool)} {A : Abs} {tab : List (Nat × TI)} {ops : Array Oper} {Q : Exit → Act → World → Prop} {k : IntKind}
theorem ofInt8 (c : UInt8) : BitVec.ofInt IntKind.u8.bits ((c.toNat : Nat) : Int) = c.toBitVec := by
  show BitVec.ofInt 8 ((c.toBitVec.toNat : Nat) : Int) = _
  rw [BitVec.ofInt_natCast, BitVec.ofNat_toNat, BitVec.setWidth_eq]
theorem wrap8 (p : BitVec 8) : IntKind.u8.wrap (p.toNat : Nat) = (p.toNat : Nat) := by
  have := p.isLt
  simp only [IntKind.wrap, IntKind.bits, IntKind.signed]
  simp
  omega
theorem Val.or8 {c f : UInt8} (hx : look l x = some (.v (bc c))) (hy : look l y = some (.v (bc f))) : Val P n W σ l X ⟨d, .binOp .or t x y t', ty, pos, aft, g⟩ (.v (bc (c ||| f))) :=
  Val.bitI hx hy (fun w => by
    simp only [Op.intBits, ofInt8]
    exact congrArg (fun r => Result.ok (Value.int .u8 r) w) (wrap8 (c.toBitVec ||| f.toBitVec))) rfl
end
/-! ### Rows of words -/
end Go.Proofs.Ytmkijjmbiiiicaa.A
/-
  The second engine: rows of the call's own, cut; 'clear'.
-/
set_option maxRecDepth 100000
set_option linter.unusedSimpArgs false
set_option linter.unusedVariables false
namespace Go.Proofs.Ytmkijjmbiiiicaa.A
open Go.RowKit

section
variable {P : Program} {n : Nat} {W : Wd} {σ τ : Blks} {l : Slots} {X : List Nat} {x y z : Operand} {d : Option Nat} {ty t e e' : TypeId} {pos : String} {aft : Array Edge} {g : Option (Nat × Bool)} {v u : Value} {k : IntKind} {tab : List (Nat × TI)} {xs ys : List (List Abs)} {s q : Nat} {ops : Array Oper} {rest : List Oper} {Q : Exit → Act → World → Prop}
end
/-- Pieces that are read alone. -/
def RdAll (σ : Blks) : Prop := ∀ x ∈ σ, (∃ b t cs, x = .rd b t cs) ∨ ∃ c, x = .rdpc c
theorem RdAll.reads {σ τ : Blks} (h : RdAll τ) (hs : ∀ x ∈ τ, x ∈ σ) : Reads σ τ := by
  induction τ with
  | nil => exact .nil
  | cons x τ ih =>
    have h1 := ih (fun y hy => h y (List.mem_cons_of_mem _ hy)) (fun y hy => hs y (List.mem_cons_of_mem _ hy))
    have hx := hs x List.mem_cons_self
    rcases h x List.mem_cons_self with ⟨b, t, cs, rfl⟩ | ⟨c, rfl⟩
    · exact .rd hx h1
    · exact .rdpc hx h1
end Go.Proofs.Ytmkijjmbiiiicaa.A
/-
  The second engine: regions that draw and make memory of their own.
-/
set_option maxRecDepth 100000
set_option linter.unusedSimpArgs false
set_option linter.unusedVariables false
namespace Go.Proofs.Ytmkijjmbiiiicaa.A
open Go.RowKit

section
variable {P : Program} {n : Nat} {W : Wd} {σ σ0 : Blks} {l : Slots} {X0 : List Nat} {ops : Array Oper} {Q : Exit → Act → World → Prop} {ix : Plan} {o : Oper}
/-- The pieces that the region has made stand ahead: what follows may change them. -/
theorem SX.effN (ν : Blks) (X0 : List Nat) {i : Nat} {Y : List Nat} {R : Abs → Blks → Prop} (hi : ops[i]? = some o) (hv : Eff P n W σ l Y o R) (hσ : σ = ν ++ σ0) (hY : ∀ k ∈ Y, k ∈ mids ν ++ X0) (hg : gd ops l o = some true) (hd : lt? o.dst n = true)
    (k : ∀ y τ, R y τ → ∃ ν' : Blks, τ = ν' ++ σ0 ∧ SX P ops ix (mids ν' ++ X0) (St n W τ (put? l o.dst y)) Q) : SX P ops (.e i ix) (mids ν ++ X0) (St n W σ l) Q := fun a w hs => by
  unfold planW wpOp
  simp only [hi, hs.wanted hg, if_true]
  refine .inl ?_
  unfold Oper.wp
  obtain ⟨v, w', y, τ, hR, hx, hr, hm, hc, hrun⟩ := hv a w hs
  obtain ⟨ν', hτ, hk⟩ := k y τ hR
  have hnew : ∀ k ∈ mids ν' ++ X0, k ∈ mids ν ++ X0 ∨ w.heap.size ≤ k := fun k hk => by
    rcases List.mem_append.1 hk with hk | hk
    · have hkt : k ∈ mids τ := by rw [hτ, mids_append]; exact List.mem_append_left _ hk
      rcases Nat.lt_or_ge k w.heap.size with h1 | h1
      · have h2 : k ∈ mids σ ++ W.G := Classical.byContradiction fun hn => hc.out k hn h1 (List.mem_append_left _ hkt)
        rcases List.mem_append.1 h2 with h2 | h2
        · rw [hσ, mids_append] at h2
          rcases List.mem_append.1 h2 with h2 | h2
          · exact .inl (List.mem_append_left _ h2)
          · have hnd := hm.nodup
            rw [hτ, mids_append, List.nodup_append] at hnd
            exact absurd rfl (hnd.2.2 k hk k h2)
        · exact absurd h2 (hm.sep k hkt)
      · exact .inr h1
    · exact .inl (List.mem_append_right _ hk)
  have hinv : ∀ w2, Ext (mids ν' ++ X0) w' w2 → Ext (mids ν ++ X0) w w2 := fun w2 h2 => (hx.mono (fun k hk => .inl (hY k hk))).trans h2 hnew
  rcases hrun with hrun | ⟨rfl, hrun⟩
  · rw [hrun]; exact ⟨fun w2 => Ext (mids ν' ++ X0) w' w2, hinv, Ext.refl w', hk _ _ ((hs.to hm hc).put hd hr)⟩
  · rw [hrun]; exact ⟨fun w2 => Ext (mids ν' ++ X0) w' w2, hinv, Ext.refl w', hk _ _ ((hs.to hm hc).put hd hr)⟩
theorem own_mid {e : TypeId} {s : Nat} {v : Value} {xs : List (List Abs)} {ν : Blks} (h : own e s v xs ∈ ν) : ∀ k ∈ v.ownBlock.toList, k ∈ mids ν ++ [] := fun k hk => by
  rw [List.append_nil]
  exact mids_mem.2 ⟨_, h, hk⟩
end
/-- A row made that is at once a row read. -/
theorem Eff.frozen {P : Program} {n : Nat} {W : Wd} {σ : Blks} {l : Slots} {Y : List Nat} {o : Oper} {e : TypeId} {s : Nat} {zs : List (List Abs)} (pre : Blks) {post : Blks} (hE : Eff P n W σ l Y o fun r τ => ∃ u, r = .v u ∧ τ = pre ++ own e s u zs :: post) : Eff P n W σ l Y o fun r τ => r = .sl s zs ∧ τ = pre ++ post := fun a w h => by
  obtain ⟨v, w', y, τ, ⟨u, rfl, rfl⟩, hx, hr, hm, hc, hrun⟩ := hE a w h
  have hv : v = u := hr
  subst hv
  have hs := hm.sub (τ := pre ++ post) (List.Sublist.append (List.Sublist.refl _) (List.sublist_cons_self _ _))
  exact ⟨v, w', _, _, ⟨rfl, rfl⟩, hx, own_sl hm, hs.1, hc.trans hs.2, hrun⟩
/-- A block's cells said otherwise. -/
theorem Re.cast {b : Nat} {t : TypeId} {cs ds : List Abs} (h : Casts cs ds) : Re [.blk b t cs] [.blk b t ds] := ⟨⟨[], by simp [mids, It.mids]⟩, by simp [It.rids], fun K w hx y hy => by
  rw [List.mem_singleton.1 hy]
  obtain ⟨us, h1, h2⟩ := hx (.blk b t cs) (by simp)
  exact ⟨us, h1, h K w us h2⟩⟩
theorem Re.cons {xs ys : Blks} {x : It} (hx : x.rids = []) (h : Re xs ys) : Re (x :: xs) (x :: ys) where
  ids := by
    obtain ⟨a, ha⟩ := h.ids
    refine ⟨a, ?_⟩
    rw [mids_cons, mids_cons, List.append_assoc]
    exact List.Perm.append_left _ ha
  rd := fun y hy => by
    rcases List.mem_cons.1 hy with rfl | hy
    · exact hx
    · exact h.rd y hy
  hh := fun K w hk y hy => by
    rcases List.mem_cons.1 hy with rfl | hy
    · exact hk _ List.mem_cons_self
    · exact h.hh K w (fun z hz => hk z (List.mem_cons_of_mem _ hz)) y hy
theorem Re.perm {xs ys : Blks} (h : xs.Perm ys) (hr : ∀ x ∈ xs, x.rids = []) : Re xs ys := ⟨⟨[], by rw [List.append_nil]; exact mids_perm h⟩, fun y hy => hr y (h.mem_iff.2 hy), fun K w hx y hy => hx y (h.mem_iff.2 hy)⟩
end Go.Proofs.Ytmkijjmbiiiicaa.A
/-
  The document's Ideal.
-/
set_option maxRecDepth 100000
set_option linter.unusedSimpArgs false
set_option linter.unusedVariables false
namespace Go.Proofs.Ytmkijjmbiiiicaa.A
open Go.RowKit

theorem kint_zero : ∀ w, (zeroValue 3).run Try.prog w = .ok (cntV 0) w := fun w => by
  kernel_rfl
/-- A number as a digest, its last z bytes laid. -/
def num6 (f n z : Nat) : List UInt8 := UInt8.ofNat f :: (List.replicate 23 0 ++ (beBytes n 8).take z ++ List.replicate (8 - z) 0)
theorem num6_len {f n z : Nat} (hz : z ≤ 8) : (num6 f n z).length = 32 := by
  simp [num6, beBytes_length]
  omega
theorem num6_lenA {f n z : Nat} (hz : z ≤ 8) : (digA (num6 f n z)).length = 32 := by rw [digA, List.length_map, num6_len hz]
theorem num6_end {f n : Nat} : num6 f n 8 = numB f n := by
  unfold num6 numB
  rw [List.take_of_length_le (by rw [beBytes_length]; exact Nat.le_refl _)]
  simp
theorem num6_put {f n z : Nat} (hz : z < (beBytes n 8).length) : putL (digA (num6 f n z)) (24 + z) [.v (bc (beBytes n 8)[z])] = digA (num6 f n (z + 1)) := by
  have h8 : (beBytes n 8).length = 8 := beBytes_length _ _
  rw [putL_eq _ _ _ (by rw [num6_lenA (by omega)]; omega)]
  have e1 : num6 f n z = (UInt8.ofNat f :: (List.replicate 23 0 ++ (beBytes n 8).take z)) ++ (0 :: List.replicate (8 - (z + 1)) 0) := by
    unfold num6
    rw [show 8 - z = (8 - (z + 1)) + 1 by omega, List.replicate_succ (n := 8 - (z + 1)), ← List.cons_append]
  have e2 : num6 f n (z + 1) = (UInt8.ofNat f :: (List.replicate 23 0 ++ (beBytes n 8).take z)) ++ ((beBytes n 8)[z] :: List.replicate (8 - (z + 1)) 0) := by
    unfold num6
    rw [List.take_succ_eq_append_getElem hz, List.cons_append, List.append_assoc, List.append_assoc, List.append_assoc, List.singleton_append]
  have hl : (UInt8.ofNat f :: (List.replicate 23 0 ++ (beBytes n 8).take z)).length = 24 + z := by
    simp [h8]
    omega
  rw [e1, e2]
  unfold digA
  rw [List.map_append, List.map_append, List.take_append_of_le_length (by rw [List.length_map, hl]; exact Nat.le_refl _), List.take_of_length_le (by rw [List.length_map, hl]; exact Nat.le_refl _), List.drop_append, List.drop_of_length_le (by rw [List.length_map, hl]; simp), List.length_map, hl, List.map_cons, List.map_cons]
  simp
theorem plains_di (d : List UInt8) : plains (digA d) = some (d.map bc) := by
  have h := plains_map bc d
  simpa [digA] using h
theorem dig_ones (d : List UInt8) : ones (digA d) = true := ones_iff.2 fun a ha => by
  obtain ⟨b, _, rfl⟩ := List.mem_map.1 ha
  rfl
section
variable {f n : Nat} {l : List UInt8} {x : UInt8} {a b : Int}
theorem rputO_s {x n : Nat} (hl : l.length + 8 ≤ lots) (hn : sizeB n = true) : Spec Try.prog 54 [byt l, wrd x, int n] [] (fun r : Value => [own 5 1 r (bs (l ++ beBytes x n))]) (fun r => .v r) := Spec.ofOwnB fun K w vals hK hv => by
  obtain ⟨v, us', rfl, h1, h2⟩ := hv
  have := (reps_plain (us := [.int .u64 x, .int .i64 n])).1 h2
  subst this
  exact (rput_own ((enter2 w K).add (z := bytesD v l) (row2 (rep_byt.1 h1))) (by simp) hl hn).mono fun e w' ⟨r, he, hm⟩ => ⟨r, _, he, hm⟩
set_option maxHeartbeats 2000000 in
theorem inum_s (hf : f < 256) (hn : n < 9223372036854775808) : Spec Try.prog 56 [.v (.int .u8 (f : Nat)), int (n : Nat)] [] (fun _ : Unit => []) (fun _ => .agg (digA (numB f n))) := by
  refine spec_of Try.func56 rfl Try.ntmps56 rfl fun G w => ?_
  refine SC.seq (SC.region ?_)
  refine SL.eff (Eff.alloc tabOk rfl) rfl rfl ?_
  rintro _ _ ⟨b4, rfl, rfl⟩
  refine SL.nil (SE.seq ?_)
  refine SC.seq (SC.region ?_)
  refine SL.eff (Eff.alloc tabOk rfl) rfl rfl ?_
  rintro _ _ ⟨b5, rfl, rfl⟩
  refine SL.nil (SE.seq ?_)
  refine SC.seq (SC.region ?_)
  refine SL.val (Val.move rfl) rfl rfl ?_
  refine SL.val (Val.indexArP (q := 0) tabOk Try.underlying93 rfl rfl rfl rfl (by decide) rfl) rfl rfl ?_
  refine SL.eff (Eff.store (L' := digA (num6 f n 0)) tabOk rfl rfl rfl (by repeat first|assumption|exact Upd.here|apply Upd.there) (by rfl) (Nat.le_of_ble_eq_true (by rfl)) (by rfl) (by simp [num6, zabs, putL, digA, beBytes, cellsA, bc]; omega)) rfl rfl ?_
  rintro _ _ ⟨rfl, rfl⟩
  refine SL.nil (SE.seq ?_)
  refine SC.seq ?_
  refine SC.seq (SC.region ?_)
  refine SL.val (Val.move rfl) rfl rfl ?_
  first
    | refine SL.val (Val.convI rfl Try.underlying105 (by kernel_rfl) (by simp only [InR, lo, hi]; omega)) rfl rfl ?_
    | refine SL.val (Val.convU rfl Try.underlying105 (by kernel_rfl)) rfl rfl ?_
  refine SL.call (rput_s (l := []) (x := n) (n := 8) (by decide) rfl) (Casts.nils (s := 1) Casts.refl) (by kernel_rfl) rfl rfl rfl ?_
  refine After.pure (by repeat first|exact .nil|refine .blk (by repeat first|assumption|exact m0|apply m1) ?_|refine .rd (by repeat first|assumption|exact m0|apply m1) ?_|refine .pc (by repeat first|assumption|exact m0|apply m1) ?_|refine .rdpc (by repeat first|assumption|exact m0|apply m1) ?_) (fun _ => rfl) ?_
  intro _
  first
    | refine SL.val (Val.lenSl rfl Try.underlying37 (List.length_map _)) rfl rfl ?_
    | refine SL.val (Val.lenOwn rfl (by repeat first|assumption|exact m0|apply m1) Try.underlying37 (List.length_map _)) rfl rfl ?_
    | refine SL.val (Val.lenNil rfl Try.underlying37) rfl rfl ?_
  refine SL.val (Val.move rfl) rfl rfl ?_
  refine SL.nil (SE.seq ?_)
  refine SC.block ?_
  refine SC.loop (ι := Nat) (fun z => [.blk b5 93 (digA (num6 f n z)), .blk b4 93 (zabs (List.replicate 32 (.int .u8 0)))]) (fun z => [(4, ptr b4), (5, ptr b5), (12, byt (beBytes n 8)), (13, int (8 : Nat)), (14, int (z : Nat))]) (fun z => z ≤ 8) (fun z => 8 - z) (0) (Nat.zero_le _) (by exact ⟨rfl, rfl, rfl, congrArg (fun x : Nat => some (int (x : Nat))) (show ([] ++ beBytes n 8).length = 8 by simp [beBytes_length]), rfl, trivial⟩) (by repeat first|exact s0 _|exact s1 _|apply s2|apply s3) ?_
  intro z hz
  refine SC.seq (SC.region ?_)
  refine SL.val (Val.ltI rfl rfl) rfl rfl ?_
  refine SL.nil (SE.seq ?_)
  refine SC.seq ?_
  refine SC.condP rfl ?_ ?_
  rotate_left
  · intro hc15
    have h8 : ([] ++ beBytes n 8).length = 8 := by simp [beBytes_length]
    have hz8 : z = 8 := by omega
    refine SC.exit ?_
    refine SE.then_ (by intro h; cases h) ?_
    refine SE.then_ (by intro h; cases h) ?_
    refine SE.exit ?_
    refine SE.seq ?_
    refine SC.seq (SC.region ?_)
    refine SL.val (Val.loadA tabOk rfl rfl rfl (by first|(apply Or.inl;(repeat first|assumption|exact m0|apply m1);done)|(apply Or.inr;(repeat first|assumption|exact m0|apply m1);done)) List.not_mem_nil (num6_lenA (by omega))) rfl rfl ?_
    refine SL.eff (Eff.store (L' := digA (num6 f n z)) tabOk rfl rfl rfl (by repeat first|assumption|exact Upd.here|apply Upd.there) (by simp only [cellsA]; rw [num6_lenA (by omega)]) (Nat.le_of_ble_eq_true (by rfl)) (dig_ones _) (by exact putL_whole (by simp only [cellsA]; rw [num6_lenA (by omega)]; rfl))) rfl rfl ?_
    rintro _ _ ⟨rfl, rfl⟩
    refine SL.nil (SE.seq ?_)
    refine SC.ret ?_
    refine SE.fin (rs := [.cell 4 93]) rfl (RV.cell rfl (RV.cellA tabOk rfl rfl (by first|(apply Or.inl;(repeat first|assumption|exact m0|apply m1);done)|(apply Or.inr;(repeat first|assumption|exact m0|apply m1);done)) (num6_lenA (by omega))) RV.nil) () (by repeat first|exact s0 _|exact s1 _|apply s2|apply s3) (by simp [It.rids]) ?_
    show Abs.agg (digA (num6 f n z)) = _
    rw [hz8, num6_end]
  intro hc15
  have h8 : ([] ++ beBytes n 8).length = 8 := by simp [beBytes_length]
  have hlt : z < (beBytes n 8).length := by rw [beBytes_length]; omega
  refine SC.skip ?_
  refine SE.seq ?_
  refine SC.seq ?_
  refine SC.block ?_
  refine SC.seq (SC.region ?_)
  refine SL.val (Val.move rfl) rfl rfl ?_
  refine SL.val (Val.indexSl (q := z) tabOk Try.underlying37 rfl rfl rfl rfl (at_map hlt) rfl rfl) rfl rfl ?_
  refine SL.val (Val.to (C := .v (bc ((beBytes n 8)[z]'hlt))) (Val.load1R tabOk rfl rfl rfl) rfl) rfl rfl ?_
  refine SL.val (Val.assign rfl) rfl rfl ?_
  refine SL.val (Val.assign rfl) rfl rfl ?_
  refine SL.nil (SE.seq ?_)
  refine SC.region ?_
  refine SL.val (Val.move rfl) rfl rfl ?_
  refine SL.val (Val.to (C := int ((24 + z : Nat) : Int)) (Val.addI rfl rfl (by simp only [InR, lo, hi]; omega)) (congrArg int (by omega))) rfl rfl ?_
  refine SL.val (Val.move rfl) rfl rfl ?_
  refine SL.val (Val.indexArP (q := 24 + z) tabOk Try.underlying93 rfl rfl rfl rfl (by omega) rfl) rfl rfl ?_
  refine SL.eff (Eff.store (L' := digA (num6 f n (z + 1))) tabOk rfl rfl rfl (by repeat first|assumption|exact Upd.here|apply Upd.there) rfl (by rw [num6_lenA (by omega)]; show 0 + (24 + z) * 1 + 1 ≤ 32; omega) rfl (by rw [show 0 + (24 + z) * 1 = 24 + z by omega]; exact num6_put hlt)) rfl rfl ?_
  rintro _ _ ⟨rfl, rfl⟩
  refine SL.nil ?_
  refine SE.inBlock ?_
  refine SE.seq ?_
  refine SC.region ?_
  first
    | refine SL.val (Val.addI rfl rfl (by simp only [InR, lo, hi]; omega)) rfl rfl ?_
    | refine SL.val (Val.addW rfl rfl) rfl rfl ?_
  refine SL.val (Val.move rfl) rfl rfl ?_
  refine SL.nil ?_
  refine SE.round (z + 1) (by first | omega | (dsimp only; omega)) (by first | omega | (dsimp only; omega)) (by exact ⟨rfl, rfl, rfl, rfl, rfl, trivial⟩) (by repeat first|exact s0 _|exact s1 _|apply s2|apply s3)
def sKey (a b : Int) (l : List UInt8) : ByteArray := ⟨(beBytes (u64 a) 8 ++ beBytes (u64 b) 8 ++ l).toArray⟩
theorem sKey_len (a b : Int) (l : List UInt8) : (sKey a b l).size = 16 + l.length := by
  simp [sKey, ByteArray.size, beBytes_length]
  omega
theorem sKey_ok {a b : Int} {l : List UInt8} (h : l.length ≤ 1000000) : sOk (sKey a b l) := by
  unfold sOk
  rw [sKey_len]
  unfold maxLen
  omega
theorem said_s (hl : l.length ≤ 1000000) : Spec Try.prog 55 [int a, int b, byt l] [] (fun _ : Unit => []) (fun _ => .v (.string (sKey a b l))) := by
  refine spec_of Try.func55 rfl Try.ntmps55 rfl fun G w => ?_
  refine SC.seq (SC.region ?_)
  refine SL.val (Val.assign rfl) rfl rfl ?_
  refine SL.nil (SE.seq ?_)
  refine SC.seq (SC.region ?_)
  refine SL.val (Val.move rfl) rfl rfl ?_
  first
    | refine SL.val (Val.convI rfl Try.underlying105 (by kernel_rfl) (by simp only [InR, lo, hi]; omega)) rfl rfl ?_
    | refine SL.val (Val.convU rfl Try.underlying105 (by kernel_rfl)) rfl rfl ?_
  refine SL.call (rput_s (l := []) (x := u64 a) (n := 8) (by decide) rfl) (Casts.nils (s := 1) Casts.refl) (by kernel_rfl) rfl rfl rfl ?_
  refine After.pure (by repeat first|exact .nil|refine .blk (by repeat first|assumption|exact m0|apply m1) ?_|refine .rd (by repeat first|assumption|exact m0|apply m1) ?_|refine .pc (by repeat first|assumption|exact m0|apply m1) ?_|refine .rdpc (by repeat first|assumption|exact m0|apply m1) ?_) (fun _ => rfl) ?_
  intro _
  refine SL.val (Val.move rfl) rfl rfl ?_
  first
    | refine SL.val (Val.convI rfl Try.underlying105 (by kernel_rfl) (by simp only [InR, lo, hi]; omega)) rfl rfl ?_
    | refine SL.val (Val.convU rfl Try.underlying105 (by kernel_rfl)) rfl rfl ?_
  refine SL.call (rputO_s (l := [] ++ beBytes (u64 a) 8) (x := u64 b) (n := 8) (by rw [List.nil_append, beBytes_length]; decide) rfl) Casts.refl (by kernel_rfl) rfl rfl rfl ?_
  refine After.make (by repeat first|exact .nil|refine .blk (by repeat first|assumption|exact m0|apply m1) ?_|refine .rd (by repeat first|assumption|exact m0|apply m1) ?_|refine .pc (by repeat first|assumption|exact m0|apply m1) ?_|refine .rdpc (by repeat first|assumption|exact m0|apply m1) ?_) (fun _ => rfl) ?_
  intro r12
  refine SL.val (Val.move rfl) rfl rfl ?_
  refine SL.eff (Eff.append tabOk [] Try.underlying37 rfl rfl rfl rfl rfl rfl (bs_ones _) (by unfold maxLen; simp only [List.length_map, List.nil_append, List.length_append, beBytes_length]; omega) (by rw [show Try.prog.bytesOf 5 = 1 by kernel_rfl]; simp only [List.length_map, List.nil_append, List.length_append, beBytes_length]; omega)) rfl rfl ?_
  rintro _ _ ⟨r14, rfl, rfl⟩
  rw [← List.map_append]
  refine SL.freeze [] (t := 14) rfl rfl ?_
  refine SL.val (Val.strOf rfl) rfl rfl ?_
  refine SL.val (Val.assign rfl) rfl rfl ?_
  refine SL.nil (SE.seq ?_)
  refine SC.ret ?_
  refine SE.fin (rs := [.tmp 6]) rfl (RV.tmp rfl RV.nil) (()) (by repeat first|exact s0 _|exact s1 _|apply s2|apply s3) (by simp [It.rids]) ?_
  exact rfl
end
section
variable {q bd bt : Nat} {D T : List (ByteArray × Nat)} {a b : Int} {l M : List UInt8}
theorem cg_is (c : List (ByteArray × Nat)) (v : ByteArray) : (int ((cget c v : Nat) : Int)).is (((aget c v).map cntV).getD (cntV 0)) := cget_is c v
theorem inew_s  : Spec Try.prog 7 [] [] (fun z : Nat × Nat × Nat => [.blk z.1 68 [mapV z.2.1, mapV z.2.2], .pc (mapPc z.2.1 Value.string cntV sOk []), .pc (mapPc z.2.2 Value.string cntV sOk [])]) (fun z => ptr z.1) := by
  refine spec_of Try.func7 rfl Try.ntmps7 rfl fun G w => ?_
  refine SC.seq (SC.region ?_)
  refine SL.val (Val.assign rfl) rfl rfl ?_
  refine SL.nil (SE.seq ?_)
  refine SC.seq (SC.region ?_)
  refine SL.eff (Eff.makeMap Value.string cntV sOk (fun ac w => by simp [execOp, Instr.makeMap, newObj, Sem.run, Sem.run_bind, Result.andThen])) rfl rfl ?_
  rintro _ _ ⟨m1, rfl, rfl⟩
  refine SL.eff (Eff.makeMap Value.string cntV sOk (fun ac w => by simp [execOp, Instr.makeMap, newObj, Sem.run, Sem.run_bind, Result.andThen])) rfl rfl ?_
  rintro _ _ ⟨m2, rfl, rfl⟩
  refine SL.val (Val.buildS tabOk rfl rfl rfl rfl) rfl rfl ?_
  refine SL.eff (Eff.boxA rfl) rfl rfl ?_
  rintro _ _ ⟨b4, rfl, rfl⟩
  refine SL.val (Val.assign rfl) rfl rfl ?_
  refine SL.nil (SE.seq ?_)
  refine SC.ret ?_
  refine SE.perm (List.Perm.cons _ (List.Perm.swap _ _ _)) ?_
  refine SE.fin (rs := [.tmp 0]) rfl (RV.tmp rfl RV.nil) (b4, m1, m2) (by repeat first|exact s0 _|exact s1 _|apply s2|apply s3) (by simp [It.rids]) ?_
  exact rfl
set_option maxHeartbeats 1000000 in
theorem itag_s (hl : l.length ≤ 1000000) (hn : Num1 T) (hT : T.length < 1000000) : Spec Try.prog 51 [ptr q, int a, int b, byt l] [.blk q 68 [mapV bd, mapV bt], .pc (mapPc bt Value.string cntV sOk T)] (fun _ : Unit => [.blk q 68 [mapV bd, mapV bt], .pc (mapPc bt Value.string cntV sOk (pm T (sKey a b l)))]) (fun _ => .agg (digA (numB 255 (pl T (sKey a b l))))) := by
  have hp := hn.pl_le (sKey a b l)
  refine spec_of Try.func51 rfl Try.ntmps51 rfl fun G w => ?_
  refine SC.seq (SC.region ?_)
  refine SL.eff (Eff.alloc tabOk rfl) rfl rfl ?_
  rintro _ _ ⟨b8, rfl, rfl⟩
  refine SL.nil (SE.seq ?_)
  refine SC.seq (SC.region ?_)
  refine SL.val (Val.move rfl) rfl rfl ?_
  refine SL.val (Val.move rfl) rfl rfl ?_
  refine SL.val (Val.move rfl) rfl rfl ?_
  refine SL.call (said_s (a := a) (b := b) (l := l) hl) Casts.refl (by kernel_rfl) rfl rfl rfl ?_
  refine After.pure (by repeat (first | exact Reads.nil | (refine Reads.blk ?_ ?_; focus ((repeat first|assumption|exact m0|apply m1); done)) | (refine Reads.rd ?_ ?_; focus ((repeat first|assumption|exact m0|apply m1); done)) | (refine Reads.pc ?_ ?_; focus ((repeat first|assumption|exact m0|apply m1); done)) | (refine Reads.rdpc ?_ ?_; focus ((repeat first|assumption|exact m0|apply m1); done)))) (fun _ => rfl) ?_
  intro _
  refine SL.val (Val.assign rfl) rfl rfl ?_
  refine SL.nil (SE.seq ?_)
  refine SC.cutS (ι := Unit) (fun z => [.blk b8 94 (zabs (List.replicate 32 (.int .u8 0))), .blk q 68 [mapV bd, mapV bt], .pc (mapPc bt Value.string cntV sOk (pm T (sKey a b l)))]) (fun z => [(0, ptr q), (8, ptr b8), (9, .v (.string (sKey a b l)))]) (fun z => True) ?_ ?_
  · skip
    refine SC.seq (SC.region ?_)
    refine SL.val (Val.move rfl) rfl rfl ?_
    refine SL.val (Val.nilCheck rfl) rfl rfl ?_
    refine SL.val (Val.fieldAddr tabOk rfl rfl rfl rfl rfl) rfl rfl ?_
    refine SL.val (Val.load1 tabOk rfl rfl (by first|(apply Or.inl;(repeat first|assumption|exact m0|apply m1);done)|(apply Or.inr;(repeat first|assumption|exact m0|apply m1);done)) List.not_mem_nil (by rfl)) rfl rfl ?_
    refine SL.val (Val.move rfl) rfl rfl ?_
    refine SL.val (Val.mapGet (a := sKey a b l) (zv := cntV 0) (C := int ((cget T (sKey a b l) : Nat) : Int)) s_fit Try.underlying66 kint_zero rfl (by first|(apply Or.inl;(repeat first|assumption|exact m0|apply m1);done)|(apply Or.inr;(repeat first|assumption|exact m0|apply m1);done)) List.not_mem_nil rfl is_v (sKey_ok hl) (cg_is _ _)) rfl rfl ?_
    refine SL.val (Val.eqI rfl rfl) rfl rfl ?_
    refine SL.nil (SE.seq ?_)
    refine SC.condP rfl ?_ ?_
    rotate_left
    · intro hc20
      have hz0 : ¬ aget T (sKey a b l) = none := fun h => hc20 (by have := (hn.zero _).2 h; omega)
      refine SC.skip ?_
      refine SE.meet (()) (trivial) (by exact ⟨rfl, rfl, rfl, trivial⟩) (by rw [pm_old hz0]; exact List.Sublist.refl _)
    intro hc20
    have hz0 : aget T (sKey a b l) = none := (hn.zero _).1 (by omega)
    refine SC.drawZ [] (.q 0 (.q 1 (.q 2 (.q 3 (.q 4 (.q 5 (.q 6 (.q 7 (.q 8 (.q 9 (.q 10 .nil))))))))))) (by kernel_rfl) (by kernel_rfl) ?_
    refine SX.val rfl (Val.move rfl) (by simp) rfl rfl ?_
    refine SX.val rfl (Val.nilCheck rfl) (by simp) rfl rfl ?_
    refine SX.val rfl (Val.fieldAddr tabOk rfl rfl rfl rfl rfl) (by simp) rfl rfl ?_
    refine SX.val rfl (Val.load1 tabOk rfl rfl (by first|(apply Or.inl;(repeat first|assumption|exact m0|apply m1);done)|(apply Or.inr;(repeat first|assumption|exact m0|apply m1);done)) List.not_mem_nil (by rfl)) (by simp) rfl rfl ?_
    refine SX.val rfl (Val.move rfl) (by simp) rfl rfl ?_
    refine SX.val rfl (Val.move rfl) (by simp) rfl rfl ?_
    refine SX.val rfl (Val.nilCheck rfl) (by simp) rfl rfl ?_
    refine SX.val rfl (Val.fieldAddr tabOk rfl rfl rfl rfl rfl) (by simp) rfl rfl ?_
    refine SX.val rfl (Val.load1 tabOk rfl rfl (by first|(apply Or.inl;(repeat first|assumption|exact m0|apply m1);done)|(apply Or.inr;(repeat first|assumption|exact m0|apply m1);done)) List.not_mem_nil (by rfl)) (by simp) rfl rfl ?_
    refine SX.val rfl (Val.lenMap Try.underlying66 rfl (by first|(apply Or.inl;(repeat first|assumption|exact m0|apply m1);done)|(apply Or.inr;(repeat first|assumption|exact m0|apply m1);done)) List.not_mem_nil) (by first | (simp [mids, It.mids, ownPc, mapPc]; done) | (intro k hk; simp [mids, It.mids, ownPc, mapPc] at hk ⊢; grind)) rfl rfl ?_
    refine SX.val rfl (Val.to (C := int ((T.length + 1 : Nat) : Int)) (Val.addI rfl rfl (by simp only [InR, lo, hi]; omega)) rfl) (by first | (simp [mids, It.mids, ownPc, mapPc]; done) | (intro k hk; simp [mids, It.mids, ownPc, mapPc] at hk ⊢; grind)) rfl rfl ?_
    refine SX.nil ?_
    refine SE.effZ rfl (Eff.mapPut (a := sKey a b l) (v := T.length + 1) (m' := pm T (sKey a b l)) s_fit Try.underlying66 rfl (by repeat first|assumption|exact Upd.here|apply Upd.there) rfl is_v (sKey_ok hl) rfl is_v (pm_new hz0).symm) rfl rfl ?_
    rintro _ _ ⟨rfl, rfl⟩
    refine SE.meet (()) (trivial) (by exact ⟨rfl, rfl, rfl, trivial⟩) (by repeat first|exact s0 _|exact s1 _|apply s2|apply s3)
  · intro z hz
    refine SC.seq (SC.region ?_)
    refine SL.val (Val.move rfl) rfl rfl ?_
    refine SL.val (Val.nilCheck rfl) rfl rfl ?_
    refine SL.val (Val.fieldAddr tabOk rfl rfl rfl rfl rfl) rfl rfl ?_
    refine SL.val (Val.load1 tabOk rfl rfl (by first|(apply Or.inl;(repeat first|assumption|exact m0|apply m1);done)|(apply Or.inr;(repeat first|assumption|exact m0|apply m1);done)) List.not_mem_nil (by rfl)) rfl rfl ?_
    refine SL.val (Val.move rfl) rfl rfl ?_
    refine SL.val (Val.mapGet (a := sKey a b l) (zv := cntV 0) (C := int ((pl T (sKey a b l) : Nat) : Int)) s_fit Try.underlying66 kint_zero rfl (by first|(apply Or.inl;(repeat first|assumption|exact m0|apply m1);done)|(apply Or.inr;(repeat first|assumption|exact m0|apply m1);done)) List.not_mem_nil rfl is_v (sKey_ok hl) (by rw [← cget_pm]; exact cg_is _ _)) rfl rfl ?_
    refine SL.call (inum_s (f := 255) (n := pl T (sKey a b l)) (by omega) (by omega)) Casts.refl (by kernel_rfl) rfl rfl rfl ?_
    refine After.pure (by repeat (first | exact Reads.nil | (refine Reads.blk ?_ ?_; focus ((repeat first|assumption|exact m0|apply m1); done)) | (refine Reads.rd ?_ ?_; focus ((repeat first|assumption|exact m0|apply m1); done)) | (refine Reads.pc ?_ ?_; focus ((repeat first|assumption|exact m0|apply m1); done)) | (refine Reads.rdpc ?_ ?_; focus ((repeat first|assumption|exact m0|apply m1); done)))) (fun _ => rfl) ?_
    intro _
    refine SL.eff (Eff.store (L' := digA (numB 255 (pl T (sKey a b l)))) tabOk rfl rfl rfl (by repeat first|assumption|exact Upd.here|apply Upd.there) (by simp only [cellsA, digA, List.length_map]; rw [numB_length]) (Nat.le_of_ble_eq_true (by rfl)) (dig_ones _) (by exact putL_whole (by simp only [cellsA, digA, List.length_map]; rw [numB_length]; rfl))) rfl rfl ?_
    rintro _ _ ⟨rfl, rfl⟩
    refine SL.nil (SE.seq ?_)
    refine SC.ret ?_
    refine SE.fin (rs := [.cell 8 94]) rfl (RV.cell rfl (RV.cellA tabOk rfl rfl (by first|(apply Or.inl;(repeat first|assumption|exact m0|apply m1);done)|(apply Or.inr;(repeat first|assumption|exact m0|apply m1);done)) (by simp only [digA, List.length_map]; rw [numB_length])) RV.nil) (()) (by repeat first|exact s0 _|exact s1 _|apply s2|apply s3) (by simp [It.rids]) ?_
    exact rfl
set_option maxHeartbeats 1000000 in
theorem icheck_s (hl : l.length ≤ 1000000) (hn : Num1 T) (hT : T.length < 1000000) (hM : M.length = 32) : Spec Try.prog 38 [ptr q, int a, int b, byt l, .agg (digA M)] [.rd q 68 [mapV bd, mapV bt], .rdpc (mapPc bt Value.string cntV sOk T)] (fun _ : Unit => []) (fun _ => boo ((aget T (sKey a b l)).isSome && decide (M = numB 255 (pl T (sKey a b l))))) := by
  have hp := hn.pl_le (sKey a b l)
  have hcg : cget T (sKey a b l) ≤ 1000000 := by
    unfold cget
    cases h : aget T (sKey a b l) with
    | none => exact Nat.zero_le _
    | some v =>
      have := hn.pos _ v h
      show v ≤ _
      omega
  refine spec_of Try.func38 rfl Try.ntmps38 rfl fun G w => ?_
  refine SC.seq (SC.region ?_)
  refine SL.eff (Eff.boxA (cs := digA M) rfl) rfl rfl ?_
  rintro _ _ ⟨b9, rfl, rfl⟩
  refine SL.val (Val.assign rfl) rfl rfl ?_
  refine SL.nil (SE.seq ?_)
  refine SC.seq ?_
  refine SC.draw [] (.q 0 (.q 1 (.q 2 (.q 3 (.q 4 (.q 5 (.q 6 (.e 7 (.q 8 (.q 9 .nil)))))))))) (by kernel_rfl) (by kernel_rfl) ?_
  refine SX.val rfl (Val.move rfl) (by simp) rfl rfl ?_
  refine SX.val rfl (Val.nilCheck rfl) (by simp) rfl rfl ?_
  refine SX.val rfl (Val.fieldAddr tabOk rfl rfl rfl rfl rfl) (by simp) rfl rfl ?_
  refine SX.val rfl (Val.load1 tabOk rfl rfl (by first|(apply Or.inl;(repeat first|assumption|exact m0|apply m1);done)|(apply Or.inr;(repeat first|assumption|exact m0|apply m1);done)) List.not_mem_nil (by rfl)) (by simp) rfl rfl ?_
  refine SX.val rfl (Val.move rfl) (by simp) rfl rfl ?_
  refine SX.val rfl (Val.move rfl) (by simp) rfl rfl ?_
  refine SX.val rfl (Val.move rfl) (by simp) rfl rfl ?_
  refine SX.call rfl (said_s (a := a) (b := b) (l := l) hl) (by simp [mids, It.mids]) Casts.refl (by kernel_rfl) rfl rfl rfl ?_
  refine After.pure (by repeat (first | exact Reads.nil | (refine Reads.blk ?_ ?_; focus ((repeat first|assumption|exact m0|apply m1); done)) | (refine Reads.rd ?_ ?_; focus ((repeat first|assumption|exact m0|apply m1); done)) | (refine Reads.pc ?_ ?_; focus ((repeat first|assumption|exact m0|apply m1); done)) | (refine Reads.rdpc ?_ ?_; focus ((repeat first|assumption|exact m0|apply m1); done)))) (fun _ => rfl) ?_
  intro _
  refine SX.val rfl (Val.mapGet (a := sKey a b l) (zv := cntV 0) (C := int ((cget T (sKey a b l) : Nat) : Int)) s_fit Try.underlying66 kint_zero rfl (by first|(apply Or.inl;(repeat first|assumption|exact m0|apply m1);done)|(apply Or.inr;(repeat first|assumption|exact m0|apply m1);done)) List.not_mem_nil rfl is_v (sKey_ok hl) (cg_is _ _)) (by first | (simp [mids, It.mids, ownPc, mapPc]; done) | (intro k hk; simp [mids, It.mids, ownPc, mapPc] at hk ⊢; grind)) rfl rfl ?_
  refine SX.val rfl (Val.assign rfl) (by simp) rfl rfl ?_
  refine SX.nil (SE.seq ?_)
  refine SC.seq ?_
  refine SC.draw [] (.q 0 (.q 1 (.q 2 (.q 3 (.q 4 (.e 5 (.q 6 (.q 7 (.q 8 .nil))))))))) (by kernel_rfl) (by kernel_rfl) ?_
  refine SX.val rfl (Val.move rfl) (by simp) rfl rfl ?_
  refine SX.val rfl (Val.gtI rfl rfl) (by simp) rfl rfl ?_
  refine SX.val rfl (Val.move rfl) (by simp) rfl rfl ?_
  refine SX.bothP (t := 23) rfl ?_ ?_
  rotate_left
  · intro hc23
    have hz0 : aget T (sKey a b l) = none := (hn.zero _).1 (by omega)
    iterate 2 refine SX.skip rfl rfl rfl ?_
    refine SX.skip' rfl rfl rfl ?_
    refine SX.skip rfl rfl rfl ?_
    refine SX.val rfl (Val.pickF rfl rfl) (by simp) rfl rfl ?_
    refine SX.val rfl (Val.assign rfl) (by simp) rfl rfl ?_
    refine SX.nil (SE.seq ?_)
    refine SC.ret ?_
    refine SE.fin (rs := [.tmp 10]) rfl (RV.tmp rfl RV.nil) (()) (by repeat first|exact s0 _|exact s1 _|apply s2|apply s3) (by simp [It.rids]) ?_
    first
      | (rw [← hcp, show (aget T (sKey a b l)).isSome = true by cases h : aget T (sKey a b l) with | none => exact absurd h hz0 | some v => rfl, Bool.true_and]; rfl)
      | (rw [hz0]; rfl)
  intro hc23
  have hz0 : ¬ aget T (sKey a b l) = none := fun h => by have := (hn.zero _).2 h; omega
  have hcp : cget T (sKey a b l) = pl T (sKey a b l) := by
    rw [← cget_pm, pm_old hz0]
  refine SX.val rfl (Val.loadA tabOk rfl rfl rfl (by first|(apply Or.inl;(repeat first|assumption|exact m0|apply m1);done)|(apply Or.inr;(repeat first|assumption|exact m0|apply m1);done)) List.not_mem_nil (by simp only [digA, List.length_map]; exact hM)) (by first | (simp [mids, It.mids, ownPc, mapPc]; done) | (intro k hk; simp [mids, It.mids, ownPc, mapPc] at hk ⊢; grind)) rfl rfl ?_
  refine SX.val rfl (Val.move rfl) (by simp) rfl rfl ?_
  refine SX.call rfl (inum_s (f := 255) (n := cget T (sKey a b l)) (by omega) (by omega)) (by simp [mids, It.mids]) Casts.refl (by kernel_rfl) rfl rfl rfl ?_
  refine After.pure (by repeat (first | exact Reads.nil | (refine Reads.blk ?_ ?_; focus ((repeat first|assumption|exact m0|apply m1); done)) | (refine Reads.rd ?_ ?_; focus ((repeat first|assumption|exact m0|apply m1); done)) | (refine Reads.pc ?_ ?_; focus ((repeat first|assumption|exact m0|apply m1); done)) | (refine Reads.rdpc ?_ ?_; focus ((repeat first|assumption|exact m0|apply m1); done)))) (fun _ => rfl) ?_
  intro _
  refine SX.val rfl (Val.eqA rfl rfl (plains_di _) (plains_di _) (by kernel_rfl) (eqlB Try.underlying94 (by kernel_rfl) (by kernel_rfl) _ _ hM (numB_length _ _) _ rfl)) (by first | (simp [mids, It.mids, ownPc, mapPc]; done) | (intro k hk; simp [mids, It.mids, ownPc, mapPc] at hk ⊢; grind)) rfl rfl ?_
  refine SX.val rfl (Val.pickT rfl rfl) (by simp) rfl rfl ?_
  refine SX.val rfl (Val.assign rfl) (by simp) rfl rfl ?_
  refine SX.nil (SE.seq ?_)
  refine SC.ret ?_
  refine SE.fin (rs := [.tmp 10]) rfl (RV.tmp rfl RV.nil) (()) (by repeat first|exact s0 _|exact s1 _|apply s2|apply s3) (by simp [It.rids]) ?_
  first
    | (rw [← hcp, show (aget T (sKey a b l)).isSome = true by cases h : aget T (sKey a b l) with | none => exact absurd h hz0 | some v => rfl, Bool.true_and]; rfl)
    | (rw [hz0]; rfl)
end
end Go.Proofs.Ytmkijjmbiiiicaa.A
/-
  Messages: texts, and all.
-/
set_option maxRecDepth 100000
set_option linter.unusedSimpArgs false
set_option linter.unusedVariables false
namespace Go.Proofs.Ytmkijjmbiiiicaa.A
open Go.RowKit

section
variable {l : List UInt8} {n : Int} {k f place who : Int} {to : List Int} {p bd bt : Nat} {Dm : DMap} {T : TMap}
theorem wrap_u8 (k : Int) : (Value.int .u8 (IntKind.u8.wrap k)) = .int .u8 (k8 k : Nat) := by
  simp [IntKind.wrap, IntKind.bits, IntKind.signed, k8]
  omega
theorem wrap_bc (k : Int) : (Value.int .u8 (IntKind.u8.wrap k)) = bc (UInt8.ofNat (k8 k)) := by
  rw [wrap_u8]
  simp [bc, k8]
  omega
def textV (k : Int) (l : List UInt8) : List UInt8 := UInt8.ofNat (k8 k) :: l
def allN (n : Int) : List Int := if 7 < n then [] else (List.range n.toNat).map fun i => (i : Nat)
theorem clone_s (hl : l.length ≤ 1000000) : Spec Try.prog 45 [byt l] [] (fun _ : Unit => []) (fun _ => byt l) := by
  refine spec_of Try.func45 rfl Try.ntmps45 rfl fun G w => ?_
  refine SC.seq (SC.region ?_)
  refine SL.val (Val.assign rfl) rfl rfl ?_
  refine SL.nil (SE.seq ?_)
  refine SC.seq ?_
  refine SC.seq (SC.region ?_)
  refine SL.val (Val.move rfl) rfl rfl ?_
  refine SL.eqNil Try.underlying37 rfl rfl rfl ?_
  intro b hb
  refine SL.nil (SE.seq ?_)
  refine SC.cond rfl ?_ ?_
  · intro hc4
    have hnil : l = [] := List.map_eq_nil_iff.1 (hb hc4)
    refine SC.seq (SC.region ?_)
    refine SL.val (Val.assign rfl) rfl rfl ?_
    refine SL.nil (SE.seq ?_)
    refine SC.ret ?_
    refine SE.then_ (by intro h; cases h) ?_
    subst hnil
    refine SE.finC (rs := [.tmp 2]) rfl (RV.tmp rfl RV.nil) (Casts.nils (s := 1) Casts.refl) () (by repeat first|exact s0 _|exact s1 _|apply s2|apply s3) (by simp [It.rids]) rfl
  intro hc4
  refine SC.skip ?_
  refine SE.seq ?_
  refine SC.seq (SC.region ?_)
  refine SL.eff (Eff.buildOwn tabOk Try.underlying37 rfl rfl rfl rfl rfl rfl rfl) rfl rfl ?_
  rintro _ _ ⟨r5, rfl, rfl⟩
  refine SL.val (Val.move rfl) rfl rfl ?_
  refine SL.eff (Eff.appendE (zs := bs l) tabOk [] (rfl) Try.underlying37 rfl rfl rfl rfl rfl rfl (bs_ones _) (by unfold maxLen; simp only [bs, List.length_map, List.length_cons, List.length_nil]; omega) (by rw [show Try.prog.bytesOf 5 = 1 by kernel_rfl]; simp only [List.length_map, List.length_cons, List.length_nil]; omega)) rfl rfl ?_
  rintro _ _ ⟨r7, rfl, rfl⟩
  refine SL.val (Val.assign rfl) rfl rfl ?_
  refine SL.nil (SE.seq ?_)
  refine SC.ret ?_
  refine SE.freeze [] (t := 2) rfl rfl ?_
  refine SE.fin (rs := [.tmp 2]) rfl (RV.tmp rfl RV.nil) (()) (by repeat first|exact s0 _|exact s1 _|apply s2|apply s3) (by simp [It.rids]) ?_
  exact rfl
theorem text_s (hl : l.length ≤ 1000000) : Spec Try.prog 46 [int k, byt l] [] (fun _ : Unit => []) (fun _ => byt (textV k l)) := by
  refine spec_of Try.func46 rfl Try.ntmps46 rfl fun G w => ?_
  refine SC.seq (SC.region ?_)
  refine SL.val (Val.assign rfl) rfl rfl ?_
  refine SL.nil (SE.seq ?_)
  refine SC.seq (SC.region ?_)
  refine SL.val (Val.move rfl) rfl rfl ?_
  refine SL.val (Val.to (C := .v (.int .u8 (k8 k : Nat))) (Val.convW rfl Try.underlying5 (by kernel_rfl)) (congrArg Abs.v (wrap_u8 k))) rfl rfl ?_
  refine SL.eff (Eff.buildOwn tabOk Try.underlying37 rfl rfl rfl rfl rfl rfl rfl) rfl rfl ?_
  rintro _ _ ⟨r7, rfl, rfl⟩
  refine SL.val (Val.move rfl) rfl rfl ?_
  refine SL.eff (Eff.appendE (zs := bs (textV k l)) tabOk [] (by
      show [[Abs.v (Value.int .u8 (k8 k : Nat))]] ++ bs l = _
      rw [← wrap_u8, wrap_bc]
      rfl) Try.underlying37 rfl rfl rfl rfl rfl rfl (bs_ones _) (by unfold maxLen; simp only [bs, List.length_map, List.length_cons, List.length_nil]; omega) (by rw [show Try.prog.bytesOf 5 = 1 by kernel_rfl]; simp only [List.length_map, List.length_cons, List.length_nil]; omega)) rfl rfl ?_
  rintro _ _ ⟨r9, rfl, rfl⟩
  refine SL.val (Val.assign rfl) rfl rfl ?_
  refine SL.nil (SE.seq ?_)
  refine SC.ret ?_
  refine SE.freeze [] (t := 4) rfl rfl ?_
  refine SE.fin (rs := [.tmp 4]) rfl (RV.tmp rfl RV.nil) (()) (by repeat first|exact s0 _|exact s1 _|apply s2|apply s3) (by simp [It.rids]) ?_
  exact rfl
theorem ints_all (n : Int) (h : ¬ 7 < n) : (Abs.sl 1 ((List.range n.toNat).map fun i : Nat => [int (i : Nat)])) = ints (allN n) := by
  unfold allN
  rw [if_neg h]
  show _ = Abs.sl 1 (((List.range n.toNat).map fun i : Nat => (i : Int)).map fun x => [int x])
  rw [List.map_map]
  rfl
theorem ints_none (n : Int) (h : 7 < n) : (Abs.sl 1 []) = ints (allN n) := by
  unfold allN
  rw [if_pos h]
  rfl
theorem range_snoc (k : Nat) : (List.range k).map (fun i : Nat => [int (i : Nat)]) ++ [[int (k : Nat)]] = (List.range (k + 1)).map fun i : Nat => [int (i : Nat)] := by
  rw [List.range_succ, List.map_append]
  rfl
set_option maxHeartbeats 2000000 in
theorem all_s  : Spec Try.prog 25 [int n] [] (fun _ : Unit => []) (fun _ => ints (allN n)) := by
  refine spec_of Try.func25 rfl Try.ntmps25 rfl fun G w => ?_
  refine SC.seq (SC.region ?_)
  refine SL.val (Val.assign rfl) rfl rfl ?_
  refine SL.nil (SE.seq ?_)
  refine SC.seq ?_
  refine SC.seq (SC.region ?_)
  refine SL.val (Val.move rfl) rfl rfl ?_
  refine SL.val (Val.gtI rfl rfl) rfl rfl ?_
  refine SL.nil (SE.seq ?_)
  refine SC.condP rfl ?_ ?_
  · intro hc6
    refine SC.seq (SC.region ?_)
    refine SL.val (Val.assign rfl) rfl rfl ?_
    refine SL.nil (SE.seq ?_)
    refine SC.ret ?_
    refine SE.then_ (by intro h; cases h) ?_
    refine SE.finC (rs := [.tmp 2]) rfl (RV.tmp rfl RV.nil) (Casts.nils (s := 1) Casts.refl) () (by repeat first|exact s0 _|exact s1 _|apply s2|apply s3) (by simp [It.rids]) (ints_none n (by omega))
  intro hc6
  refine SC.skip ?_
  refine SE.seq ?_
  refine SC.seq (SC.region ?_)
  refine SL.val (Val.assign rfl) rfl rfl ?_
  refine SL.nil (SE.seq ?_)
  refine SC.seq ?_
  refine SC.seq (SC.region ?_)
  refine SL.val (Val.move rfl) rfl rfl ?_
  refine SL.val (Val.maxI rfl rfl) rfl rfl ?_
  refine SL.val (Val.move rfl) rfl rfl ?_
  refine SL.nil (SE.seq ?_)
  refine SC.block ?_
  refine SC.own0 3 1 ?_
  refine SC.loop (ι := Nat × Value) (fun z => [own 3 1 z.2 ((List.range z.1).map fun i : Nat => [int (i : Nat)])]) (fun z => [(3, .v z.2), (8, int (max n 0)), (9, int (z.1 : Nat))]) (fun z => z.1 ≤ n.toNat) (fun z => n.toNat - z.1) (0, .slice none 0 0) (Nat.zero_le _) (by exact ⟨rfl, rfl, rfl, trivial⟩) (by repeat first|exact s0 _|exact s1 _|apply s2|apply s3) ?_
  intro z hz
  refine SC.seq (SC.region ?_)
  refine SL.val (Val.ltI rfl rfl) rfl rfl ?_
  refine SL.nil (SE.seq ?_)
  refine SC.seq ?_
  refine SC.condP rfl ?_ ?_
  rotate_left
  · intro hc10
    refine SC.exit ?_
    refine SE.then_ (by intro h; cases h) ?_
    refine SE.then_ (by intro h; cases h) ?_
    refine SE.exit ?_
    refine SE.seq ?_
    refine SC.seq (SC.region ?_)
    refine SL.val (Val.move rfl) rfl rfl ?_
    refine SL.val (Val.assign rfl) rfl rfl ?_
    refine SL.nil (SE.seq ?_)
    refine SC.ret ?_
    have hz1 : z.1 = n.toNat := by omega
    refine SE.freeze [] (t := 2) rfl rfl ?_
    rw [hz1]
    refine SE.fin (rs := [.tmp 2]) rfl (RV.tmp rfl RV.nil) (()) (by repeat first|exact s0 _|exact s1 _|apply s2|apply s3) (by simp [It.rids]) ?_
    exact ints_all n (by omega)
  intro hc10
  refine SC.skip ?_
  refine SE.seq ?_
  refine SC.seq ?_
  refine SC.block ?_
  refine SC.seq (SC.region ?_)
  refine SL.val (Val.move rfl) rfl rfl ?_
  refine SL.val (Val.assign rfl) rfl rfl ?_
  refine SL.nil (SE.seq ?_)
  refine SC.region ?_
  refine SL.val (Val.move rfl) rfl rfl ?_
  refine SL.val (Val.move rfl) rfl rfl ?_
  refine SL.eff (Eff.buildSl tabOk Try.underlying77 rfl rfl rfl rfl rfl rfl rfl) rfl rfl ?_
  rintro _ _ ⟨rfl, rfl⟩
  refine SL.eff (Eff.appendE (zs := ((List.range (z.1 + 1)).map fun i : Nat => [int (i : Nat)])) tabOk [] (range_snoc z.1) Try.underlying77 rfl rfl rfl rfl rfl rfl (by intro c hc; rw [List.mem_singleton] at hc; subst hc; rfl) (by unfold maxLen; simp only [List.length_map, List.length_range, List.length_cons, List.length_nil]; omega) (by rw [show Try.prog.bytesOf 3 = 8 by kernel_rfl]; simp only [List.length_map, List.length_range, List.length_cons, List.length_nil]; omega)) rfl rfl ?_
  rintro _ _ ⟨r15, rfl, rfl⟩
  refine SL.val (Val.assign rfl) rfl rfl ?_
  refine SL.nil ?_
  refine SE.inBlock ?_
  refine SE.seq ?_
  refine SC.region ?_
  first
    | refine SL.val (Val.addI rfl rfl (by simp only [InR, lo, hi]; omega)) rfl rfl ?_
    | refine SL.val (Val.addW rfl rfl) rfl rfl ?_
  refine SL.val (Val.move rfl) rfl rfl ?_
  refine SL.nil ?_
  refine SE.round (z.1 + 1, r15) (by first | omega | (dsimp only; omega)) (by dsimp only; omega) (by exact ⟨rfl, rfl, rfl, trivial⟩) (by repeat first|exact s0 _|exact s1 _|apply s2|apply s3)
end
end Go.Proofs.Ytmkijjmbiiiicaa.A
/-
  Messages signed by the document's Ideal, and by a book.
-/
set_option maxRecDepth 100000
set_option linter.unusedSimpArgs false
set_option linter.unusedVariables false
namespace Go.Proofs.Ytmkijjmbiiiicaa.A
open Go.RowKit

theorem take_snocI {l : List Int} {z : Nat} (h : z < l.length) : l.take (z + 1) = l.take z ++ [l[z]] := List.take_succ_eq_append_getElem h
theorem dig32 {l : List UInt8} (h : l.length = 32) : (digA l).length = 32 := by simp only [digA, List.length_map]; exact h
theorem After.at3 {ι : Type} {a b c x1 x2 : It} {β : Blks} {τ' : ι → Blks} {y1 y2 : ι → It} {K : Blks → ι → Prop} (hr : x1.rids = [] ∧ x2.rids = []) (hτ : ∀ z, τ' z = [y1 z, y2 z]) (k : ∀ z, K (a :: b :: c :: y1 z :: y2 z :: β) z) : After (a :: b :: c :: x1 :: x2 :: β) [x1, x2] τ' K :=
  After.mid [a, b, c] (β := β) rfl (by intro x hx; simp only [List.mem_cons, List.not_mem_nil, or_false] at hx; rcases hx with rfl | rfl; exact hr.1; exact hr.2) fun z => by rw [hτ z]; exact k z
/-- The keys of those told. -/
abbrev gI (f : Int) (t : List UInt8) (w : Int) : ByteArray := sKey f w t
section
variable {k f n : Int} {body : List UInt8} {to : List Int} {p bd bt q : Nat} {Dm : DMap} {Tb : TMap} {T : List (ByteArray × Nat)}
set_option maxHeartbeats 4000000 in
theorem signi_s (hb : body.length ≤ 999000) (hn : Num1 T) (hT : T.length ≤ 900000) (hl : to.length ≤ 1000) : Spec Try.prog 24 [.ifc 24 (ptr q), int k, int f, byt body, ints to] [.blk q 68 [mapV bd, mapV bt], .pc (mapPc bt Value.string cntV sOk (T))] (fun _ : Unit => [.blk q 68 [mapV bd, mapV bt], .pc (mapPc bt Value.string cntV sOk (tmG (gI f (textV k body)) T to))]) (fun _ => .agg (Msg.mk k f body (tagsG (gI f (textV k body)) T to)).abs) := by
  refine spec_of Try.func24 rfl Try.ntmps24 rfl fun G w => ?_
  refine SC.seq (SC.region ?_)
  refine SL.eff (Eff.alloc tabOk rfl) rfl rfl ?_
  rintro _ _ ⟨b10, rfl, rfl⟩
  refine SL.nil (SE.seq ?_)
  refine SC.seq (SC.region ?_)
  refine SL.val (Val.move rfl) rfl rfl ?_
  refine SL.val (Val.move rfl) rfl rfl ?_
  refine SL.val (Val.move rfl) rfl rfl ?_
  refine SL.call (clone_s (l := body) (by omega)) Casts.refl (by kernel_rfl) rfl rfl rfl ?_
  refine After.pure (by repeat first|exact .nil|refine .blk (by repeat first|assumption|exact m0|apply m1) ?_|refine .rd (by repeat first|assumption|exact m0|apply m1) ?_|refine .pc (by repeat first|assumption|exact m0|apply m1) ?_|refine .rdpc (by repeat first|assumption|exact m0|apply m1) ?_) (fun _ => rfl) ?_
  intro _
  refine SL.val (Val.buildS tabOk rfl rfl rfl rfl) rfl rfl ?_
  refine SL.eff (Eff.alloc tabOk rfl) rfl rfl ?_
  rintro _ _ ⟨b11, rfl, rfl⟩
  refine SL.eff (Eff.store tabOk rfl rfl rfl (by repeat first|assumption|exact Upd.here|apply Upd.there) (by rfl) (Nat.le_of_ble_eq_true (by rfl)) (by rfl) (by rfl)) rfl rfl ?_
  rintro _ _ ⟨rfl, rfl⟩
  refine SL.nil (SE.seq ?_)
  refine SC.seq ?_
  refine SC.seq (SC.region ?_)
  refine SL.val (Val.move rfl) rfl rfl ?_
  refine SL.val (Val.ifaceNil Try.underlying70 rfl) rfl rfl ?_
  refine SL.nil (SE.seq ?_)
  refine SC.condF rfl ?_
  refine SC.skip ?_
  refine SE.seq ?_
  refine SC.seq (SC.region ?_)
  refine SL.val (Val.move rfl) rfl rfl ?_
  refine SL.val (Val.move rfl) rfl rfl ?_
  refine SL.call (text_s (k := k) (l := body) (by omega)) Casts.refl (by kernel_rfl) rfl rfl rfl ?_
  refine After.pure (by repeat first|exact .nil|refine .blk (by repeat first|assumption|exact m0|apply m1) ?_|refine .rd (by repeat first|assumption|exact m0|apply m1) ?_|refine .pc (by repeat first|assumption|exact m0|apply m1) ?_|refine .rdpc (by repeat first|assumption|exact m0|apply m1) ?_) (fun _ => rfl) ?_
  intro _
  refine SL.val (Val.assign rfl) rfl rfl ?_
  refine SL.nil (SE.seq ?_)
  refine SC.seq ?_
  refine SC.seq (SC.region ?_)
  refine SL.val (Val.move rfl) rfl rfl ?_
  first
    | refine SL.val (Val.lenSl rfl Try.underlying77 (List.length_map _)) rfl rfl ?_
    | refine SL.val (Val.lenOwn rfl (by repeat first|assumption|exact m0|apply m1) Try.underlying77 (List.length_map _)) rfl rfl ?_
    | refine SL.val (Val.lenNil rfl Try.underlying77) rfl rfl ?_
  refine SL.val (Val.move rfl) rfl rfl ?_
  refine SL.nil (SE.seq ?_)
  refine SC.block ?_
  refine SC.own0 94 32 ?_
  refine SC.loop (ι := Nat × Value × Unit) (fun z => [own 94 32 z.2.1 ((tagsG (gI f (textV k body)) T (to.take z.1)).map Tg.abs), .blk b11 40 [int k, int f, byt body, .v z.2.1], .blk b10 40 (zabs [.int .i64 0, .int .i64 0, .slice none 0 0, .slice none 0 0]), .blk q 68 [mapV bd, mapV bt], .pc (mapPc bt Value.string cntV sOk (tmG (gI f (textV k body)) T (to.take z.1)))]) (fun z => [(0, .ifc 24 (ptr q)), (2, int f), (10, ptr b10), (11, ptr b11), (12, byt (textV k body)), (26, ints to), (27, int (to.length : Nat)), (28, int (z.1 : Nat))]) (fun z => z.1 ≤ to.length) (fun z => to.length - z.1) (0, .slice none 0 0, ()) (Nat.zero_le _) (by exact ⟨rfl, rfl, rfl, rfl, rfl, rfl, rfl, rfl, trivial⟩) (by repeat first|exact s0 _|exact s1 _|apply s2|apply s3) ?_
  intro z hz
  refine SC.seq (SC.region ?_)
  refine SL.val (Val.ltI rfl rfl) rfl rfl ?_
  refine SL.nil (SE.seq ?_)
  refine SC.seq ?_
  refine SC.condP rfl ?_ ?_
  rotate_left
  · intro hc29
    refine SC.exit ?_
    refine SE.then_ (by intro h; cases h) ?_
    refine SE.then_ (by intro h; cases h) ?_
    refine SE.exit ?_
    refine SE.seq ?_
    refine SC.seq ?_
    have hz4 : z.1 = to.length := by omega
    refine SC.freezeC [] 3 rfl (by repeat first|assumption|exact Upd.here|apply Upd.there) rfl ?_
    rw [hz4, List.take_of_length_le (Nat.le_refl _)]
    refine SC.region ?_
    first
      | refine SL.val (Val.loadA tabOk rfl rfl rfl (by first|(apply Or.inl;(repeat first|assumption|exact m0|apply m1);done)|(apply Or.inr;(repeat first|assumption|exact m0|apply m1);done)) List.not_mem_nil (by rfl)) rfl rfl ?_
      | refine SL.val (Val.loadP tabOk rfl rfl rfl (by first|(apply Or.inl;(repeat first|assumption|exact m0|apply m1);done)|(apply Or.inr;(repeat first|assumption|exact m0|apply m1);done)) List.not_mem_nil (Nat.le_of_ble_eq_true (by rfl))) rfl rfl ?_
    refine SL.eff (Eff.store tabOk rfl rfl rfl (by repeat first|assumption|exact Upd.here|apply Upd.there) (by rfl) (Nat.le_of_ble_eq_true (by rfl)) (by rfl) (by rfl)) rfl rfl ?_
    rintro _ _ ⟨rfl, rfl⟩
    refine SL.nil (SE.seq ?_)
    refine SC.ret ?_
    refine SE.fin (rs := [.cell 10 40]) rfl (RV.cell rfl (RV.cellA tabOk rfl rfl (by first|(apply Or.inl;(repeat first|assumption|exact m0|apply m1);done)|(apply Or.inr;(repeat first|assumption|exact m0|apply m1);done)) (by rfl)) RV.nil) (()) (by repeat first|exact s0 _|exact s1 _|apply s2|apply s3) (by simp [It.rids]) ?_
    exact rfl
  intro hc29
  have hlt : z.1 < to.length := by omega
  have hT2 := tmG_len (gI f (textV k body)) T (to.take z.1)
  have hTn := tmG_num hn (gI f (textV k body)) (to.take z.1)
  have hTp := hTn.pl_le (gI f (textV k body) (to[z.1]'hlt))
  have hlen9 : (to.take z.1).length = z.1 := by rw [List.length_take]; omega
  refine SC.skip ?_
  refine SE.seq ?_
  refine SC.seq ?_
  refine SC.block ?_
  refine SC.seq (SC.region ?_)
  refine SL.val (Val.indexSl tabOk Try.underlying77 rfl rfl rfl rfl (at_map (by omega)) rfl rfl) rfl rfl ?_
  refine SL.val (Val.to (C := int (to[z.1]'hlt)) (Val.load1R tabOk rfl rfl rfl) rfl) rfl rfl ?_
  refine SL.val (Val.assign rfl) rfl rfl ?_
  refine SL.nil (SE.seq ?_)
  refine SC.draw (z.2.1.ownBlock.toList ++ [b11, q, bt]) (.q 0 (.q 2 (.q 3 (.q 4 (.q 5 (.two 1 6 (.e 6 (.e 7 (.e 8 (.q 9 (.e 10 .nil))))) (.two 1 7 (.e 7 (.e 8 (.q 9 (.e 10 .nil)))) (.e 1 (.e 8 (.q 9 (.e 10 .nil))))))))))) (by kernel_rfl) (by kernel_rfl) ?_
  refine SX.val rfl (Val.fieldAddr tabOk rfl rfl rfl rfl rfl) (by first | (simp [mids, It.mids, ownPc, mapPc]; done) | (intro k hk; simp [mids, It.mids, ownPc, mapPc] at hk ⊢; grind)) rfl rfl ?_
  refine SX.val rfl (Val.move rfl) (by first | (simp [mids, It.mids, ownPc, mapPc]; done) | (intro k hk; simp [mids, It.mids, ownPc, mapPc] at hk ⊢; grind)) rfl rfl ?_
  refine SX.val rfl (Val.move rfl) (by first | (simp [mids, It.mids, ownPc, mapPc]; done) | (intro k hk; simp [mids, It.mids, ownPc, mapPc] at hk ⊢; grind)) rfl rfl ?_
  refine SX.val rfl (Val.move rfl) (by first | (simp [mids, It.mids, ownPc, mapPc]; done) | (intro k hk; simp [mids, It.mids, ownPc, mapPc] at hk ⊢; grind)) rfl rfl ?_
  refine SX.val rfl (Val.move rfl) (by first | (simp [mids, It.mids, ownPc, mapPc]; done) | (intro k hk; simp [mids, It.mids, ownPc, mapPc] at hk ⊢; grind)) rfl rfl ?_
  refine SX.two ?_ ?_
  · skip
    refine SX.valE rfl (Val.load1 tabOk rfl rfl (by first|(apply Or.inl;(repeat first|assumption|exact m0|apply m1);done)|(apply Or.inr;(repeat first|assumption|exact m0|apply m1);done)) List.not_mem_nil (by rfl)) rfl rfl ?_
    refine SX.invokeR rfl (itag_s (q := q) (bd := bd) (bt := bt) (T := (tmG (gI f (textV k body)) T (to.take z.1))) (a := f) (b := to[z.1]) (l := (textV k body)) (by simp [textV]; omega) hTn (by omega)) (by simp [mids, It.mids, mapPc]) rfl Casts.refl (fun _ _ _ => by kernel_rfl) rfl rfl rfl ?_
    refine After.at3 ⟨rfl, rfl⟩ (fun _ => rfl) ?_
    intro _
    refine SX.eff rfl (Eff.buildSl tabOk Try.underlying38 rfl rfl rfl (elems_one (dig32 (numB_length _ _))) rfl rfl rfl) (by simp) rfl rfl ?_
    rintro _ _ ⟨rfl, rfl⟩
    refine SX.effX [b11] rfl (Eff.appendE (zs := (tagsG (gI f (textV k body)) T (to.take (z.1 + 1))).map Tg.abs) tabOk [] (by rw [take_snocI hlt]; exact tagsG_snoc _ _ _ _) Try.underlying38 rfl rfl rfl rfl rfl rfl (by intro c hc; rw [List.mem_singleton] at hc; subst hc; exact ones_dig _) (by unfold maxLen; simp only [tagsG, List.length_map, List.length_take, List.length_cons, List.length_nil]; omega) (by rw [show Try.prog.bytesOf 94 = 32 by kernel_rfl]; simp only [tagsG, List.length_map, List.length_take, List.length_cons, List.length_nil]; omega)) (fun k hk => List.mem_append_left _ hk) (by simp) rfl rfl ?_
    rintro _ _ ⟨r40, rfl, rfl⟩
    refine SX.val rfl (Val.fieldAddr tabOk rfl rfl rfl rfl rfl) (by first | (simp [mids, It.mids, ownPc, mapPc]; done) | (intro k hk; simp [mids, It.mids, ownPc, mapPc] at hk ⊢; grind)) rfl rfl ?_
    first
      | refine SX.eff rfl (Eff.store tabOk rfl rfl rfl (by repeat first|assumption|exact Upd.here|apply Upd.there) (by rfl) (Nat.le_of_ble_eq_true (by rfl)) (by rfl) (by rfl)) (by simp) rfl rfl ?_
      | refine SX.eff rfl (Eff.storeOwn tabOk rfl rfl rfl rfl (by repeat first|assumption|exact m0|apply m1) (by repeat first|assumption|exact Upd.here|apply Upd.there) rfl (by rfl)) (by simp) rfl rfl ?_
    rintro _ _ ⟨rfl, rfl⟩
    refine SX.nil ?_
    refine SE.inBlock ?_
    refine SE.seq ?_
    refine SC.region ?_
    first
      | refine SL.val (Val.addI rfl rfl (by simp only [InR, lo, hi]; omega)) rfl rfl ?_
      | refine SL.val (Val.addW rfl rfl) rfl rfl ?_
    refine SL.val (Val.move rfl) rfl rfl ?_
    refine SL.nil ?_
    refine SE.round (z.1 + 1, r40, ()) (by first | omega | (dsimp only; omega)) (by dsimp only; omega) (by exact ⟨rfl, rfl, rfl, rfl, rfl, rfl, rfl, rfl, trivial⟩) (by rw [take_snocI hlt, tmG_snoc]; exact List.Sublist.refl _)
  · skip
    refine SX.invokeR rfl (itag_s (q := q) (bd := bd) (bt := bt) (T := (tmG (gI f (textV k body)) T (to.take z.1))) (a := f) (b := to[z.1]) (l := (textV k body)) (by simp [textV]; omega) hTn (by omega)) (by simp [mids, It.mids, mapPc]) rfl Casts.refl (fun _ _ _ => by kernel_rfl) rfl rfl rfl ?_
    refine After.at3 ⟨rfl, rfl⟩ (fun _ => rfl) ?_
    intro _
    refine SX.two ?_ ?_
    · skip
      refine SX.valE rfl (Val.load1 tabOk rfl rfl (by first|(apply Or.inl;(repeat first|assumption|exact m0|apply m1);done)|(apply Or.inr;(repeat first|assumption|exact m0|apply m1);done)) List.not_mem_nil (by rfl)) rfl rfl ?_
      refine SX.eff rfl (Eff.buildSl tabOk Try.underlying38 rfl rfl rfl (elems_one (dig32 (numB_length _ _))) rfl rfl rfl) (by simp) rfl rfl ?_
      rintro _ _ ⟨rfl, rfl⟩
      refine SX.effX [b11] rfl (Eff.appendE (zs := (tagsG (gI f (textV k body)) T (to.take (z.1 + 1))).map Tg.abs) tabOk [] (by rw [take_snocI hlt]; exact tagsG_snoc _ _ _ _) Try.underlying38 rfl rfl rfl rfl rfl rfl (by intro c hc; rw [List.mem_singleton] at hc; subst hc; exact ones_dig _) (by unfold maxLen; simp only [tagsG, List.length_map, List.length_take, List.length_cons, List.length_nil]; omega) (by rw [show Try.prog.bytesOf 94 = 32 by kernel_rfl]; simp only [tagsG, List.length_map, List.length_take, List.length_cons, List.length_nil]; omega)) (fun k hk => List.mem_append_left _ hk) (by simp) rfl rfl ?_
      rintro _ _ ⟨r40, rfl, rfl⟩
      refine SX.val rfl (Val.fieldAddr tabOk rfl rfl rfl rfl rfl) (by first | (simp [mids, It.mids, ownPc, mapPc]; done) | (intro k hk; simp [mids, It.mids, ownPc, mapPc] at hk ⊢; grind)) rfl rfl ?_
      first
        | refine SX.eff rfl (Eff.store tabOk rfl rfl rfl (by repeat first|assumption|exact Upd.here|apply Upd.there) (by rfl) (Nat.le_of_ble_eq_true (by rfl)) (by rfl) (by rfl)) (by simp) rfl rfl ?_
        | refine SX.eff rfl (Eff.storeOwn tabOk rfl rfl rfl rfl (by repeat first|assumption|exact m0|apply m1) (by repeat first|assumption|exact Upd.here|apply Upd.there) rfl (by rfl)) (by simp) rfl rfl ?_
      rintro _ _ ⟨rfl, rfl⟩
      refine SX.nil ?_
      refine SE.inBlock ?_
      refine SE.seq ?_
      refine SC.region ?_
      first
        | refine SL.val (Val.addI rfl rfl (by simp only [InR, lo, hi]; omega)) rfl rfl ?_
        | refine SL.val (Val.addW rfl rfl) rfl rfl ?_
      refine SL.val (Val.move rfl) rfl rfl ?_
      refine SL.nil ?_
      refine SE.round (z.1 + 1, r40, ()) (by first | omega | (dsimp only; omega)) (by dsimp only; omega) (by exact ⟨rfl, rfl, rfl, rfl, rfl, rfl, rfl, rfl, trivial⟩) (by rw [take_snocI hlt, tmG_snoc]; exact List.Sublist.refl _)
    · skip
      refine SX.eff rfl (Eff.buildSl tabOk Try.underlying38 rfl rfl rfl (elems_one (dig32 (numB_length _ _))) rfl rfl rfl) (by simp) rfl rfl ?_
      rintro _ _ ⟨rfl, rfl⟩
      refine SX.valE rfl (Val.load1 tabOk rfl rfl (by first|(apply Or.inl;(repeat first|assumption|exact m0|apply m1);done)|(apply Or.inr;(repeat first|assumption|exact m0|apply m1);done)) List.not_mem_nil (by rfl)) rfl rfl ?_
      refine SX.effX [b11] rfl (Eff.appendE (zs := (tagsG (gI f (textV k body)) T (to.take (z.1 + 1))).map Tg.abs) tabOk [] (by rw [take_snocI hlt]; exact tagsG_snoc _ _ _ _) Try.underlying38 rfl rfl rfl rfl rfl rfl (by intro c hc; rw [List.mem_singleton] at hc; subst hc; exact ones_dig _) (by unfold maxLen; simp only [tagsG, List.length_map, List.length_take, List.length_cons, List.length_nil]; omega) (by rw [show Try.prog.bytesOf 94 = 32 by kernel_rfl]; simp only [tagsG, List.length_map, List.length_take, List.length_cons, List.length_nil]; omega)) (fun k hk => List.mem_append_left _ hk) (by simp) rfl rfl ?_
      rintro _ _ ⟨r40, rfl, rfl⟩
      refine SX.val rfl (Val.fieldAddr tabOk rfl rfl rfl rfl rfl) (by first | (simp [mids, It.mids, ownPc, mapPc]; done) | (intro k hk; simp [mids, It.mids, ownPc, mapPc] at hk ⊢; grind)) rfl rfl ?_
      first
        | refine SX.eff rfl (Eff.store tabOk rfl rfl rfl (by repeat first|assumption|exact Upd.here|apply Upd.there) (by rfl) (Nat.le_of_ble_eq_true (by rfl)) (by rfl) (by rfl)) (by simp) rfl rfl ?_
        | refine SX.eff rfl (Eff.storeOwn tabOk rfl rfl rfl rfl (by repeat first|assumption|exact m0|apply m1) (by repeat first|assumption|exact Upd.here|apply Upd.there) rfl (by rfl)) (by simp) rfl rfl ?_
      rintro _ _ ⟨rfl, rfl⟩
      refine SX.nil ?_
      refine SE.inBlock ?_
      refine SE.seq ?_
      refine SC.region ?_
      first
        | refine SL.val (Val.addI rfl rfl (by simp only [InR, lo, hi]; omega)) rfl rfl ?_
        | refine SL.val (Val.addW rfl rfl) rfl rfl ?_
      refine SL.val (Val.move rfl) rfl rfl ?_
      refine SL.nil ?_
      refine SE.round (z.1 + 1, r40, ()) (by first | omega | (dsimp only; omega)) (by dsimp only; omega) (by exact ⟨rfl, rfl, rfl, rfl, rfl, rfl, rfl, rfl, trivial⟩) (by rw [take_snocI hlt, tmG_snoc]; exact List.Sublist.refl _)
end
end Go.Proofs.Ytmkijjmbiiiicaa.A
/-
  What clients and replicas send.
-/
set_option maxRecDepth 100000
set_option linter.unusedSimpArgs false
set_option linter.unusedVariables false
namespace Go.Proofs.Ytmkijjmbiiiicaa.A
open Go.RowKit

def chkMI (T : List (ByteArray × Nat)) (m : Msg) (place who : Int) : Int :=
  if place < 0 ∨ (m.tags.length : Int) ≤ place then 12 else
  if ((aget T (sKey m.from_ who (textV m.kind m.body))).isSome && decide (((m.tags[place.toNat]?).map Tg.d).getD [] = numB 255 (pl T (sKey m.from_ who (textV m.kind m.body))))) = true then 0 else 12
section
variable {m : Msg} {r : Rp} {place who k f n a b : Int} {body : List UInt8} {to : List Int} {q bd bt : Nat} {T : List (ByteArray × Nat)}
theorem faults_s (hn : n ≤ 1000) : Spec Try.prog 31 [int n] [] (fun _ : Unit => []) (fun _ => int ((max n 1 - 1) / 3)) := by
  refine spec_of Try.func31 rfl Try.ntmps31 rfl fun G w => ?_
  refine SC.seq (SC.region ?_)
  refine SL.val (Val.assign rfl) rfl rfl ?_
  refine SL.nil (SE.seq ?_)
  refine SC.seq (SC.region ?_)
  refine SL.val (Val.move rfl) rfl rfl ?_
  refine SL.val (Val.maxI rfl rfl) rfl rfl ?_
  first
    | refine SL.val (Val.subI rfl rfl (by simp only [InR, lo, hi]; omega)) rfl rfl ?_
    | refine SL.val (Val.subW rfl rfl) rfl rfl ?_
  refine SL.val (Val.quoI rfl rfl (by omega) (by simp only [InR, lo, hi]; omega)) rfl rfl ?_
  refine SL.val (Val.assign rfl) rfl rfl ?_
  refine SL.nil (SE.seq ?_)
  refine SC.ret ?_
  refine SE.fin (rs := [.tmp 2]) rfl (RV.tmp rfl RV.nil) (()) (by repeat first|exact s0 _|exact s1 _|apply s2|apply s3) (by simp [It.rids]) ?_
  exact rfl
theorem rfaults_s (hn : n ≤ 300) : Spec Try.prog 40 [int n] [] (fun _ : Unit => []) (fun _ => int ((max n 1 - 1) / 3)) := by
  refine spec_of Try.func40 rfl Try.ntmps40 rfl fun G w => ?_
  refine SC.seq (SC.region ?_)
  refine SL.val (Val.assign rfl) rfl rfl ?_
  refine SL.nil (SE.seq ?_)
  refine SC.seq (SC.region ?_)
  refine SL.val (Val.assign rfl) rfl rfl ?_
  refine SL.nil (SE.seq ?_)
  refine SC.seq ?_
  refine SC.block ?_
  refine SC.loop (ι := Nat) (fun z => []) (fun z => [(0, int (n - 3 * (z : Int))), (3, int (z : Nat))]) (fun z => (z : Int) ≤ 100 ∧ (0 < z → 1 ≤ n - 3 * (z : Int))) (fun z => 100 - z) (0) (⟨by decide, by omega⟩) ⟨congrArg (fun q : Int => some (int q)) (by omega : n = n - 3 * ((0 : Nat) : Int)), rfl, trivial⟩ (by repeat first|exact s0 _|exact s1 _|apply s2|apply s3) ?_
  intro z hz
  refine SC.seq ?_
  refine SC.seq (SC.region ?_)
  refine SL.val (Val.move rfl) rfl rfl ?_
  refine SL.val (Val.geI rfl rfl) rfl rfl ?_
  refine SL.nil (SE.seq ?_)
  refine SC.condP rfl ?_ ?_
  rotate_left
  · intro hc5
    refine SC.exit ?_
    refine SE.then_ (by intro h; cases h) ?_
    refine SE.then_ (by intro h; cases h) ?_
    refine SE.exit ?_
    refine SE.seq ?_
    refine SC.seq (SC.region ?_)
    refine SL.val (Val.move rfl) rfl rfl ?_
    refine SL.val (Val.assign rfl) rfl rfl ?_
    refine SL.nil (SE.seq ?_)
    refine SC.ret ?_
    refine SE.fin (rs := [.tmp 2]) rfl (RV.tmp rfl RV.nil) (()) (by repeat first|exact s0 _|exact s1 _|apply s2|apply s3) (by simp [It.rids]) ?_
    refine congrArg int ?_
    omega
  intro hc5
  refine SC.skip ?_
  refine SE.seq ?_
  refine SC.block ?_
  refine SC.seq (SC.region ?_)
  refine SL.val (Val.move rfl) rfl rfl ?_
  first
    | refine SL.val (Val.subI rfl rfl (by simp only [InR, lo, hi]; omega)) rfl rfl ?_
    | refine SL.val (Val.subW rfl rfl) rfl rfl ?_
  refine SL.val (Val.assign rfl) rfl rfl ?_
  refine SL.nil (SE.seq ?_)
  refine SC.seq (SC.region ?_)
  refine SL.val (Val.move rfl) rfl rfl ?_
  first
    | refine SL.val (Val.addI rfl rfl (by simp only [InR, lo, hi]; omega)) rfl rfl ?_
    | refine SL.val (Val.addW rfl rfl) rfl rfl ?_
  refine SL.val (Val.assign rfl) rfl rfl ?_
  refine SL.nil (SE.seq ?_)
  refine SC.seq (SC.region ?_)
  refine SL.val (Val.move rfl) rfl rfl ?_
  refine SL.val (Val.gtI rfl rfl) rfl rfl ?_
  refine SL.nil (SE.seq ?_)
  refine SC.condP rfl (by intro hc11; exfalso; omega) ?_
  intro hc11
  refine SC.skip ?_
  refine SE.inBlock ?_
  refine SE.round (z + 1) (by first | omega | (dsimp only; omega)) (⟨by omega, fun _ => by omega⟩) ⟨congrArg (fun q : Int => some (int q)) (by omega : n - 3 * (z : Int) - 3 = n - 3 * ((z + 1 : Nat) : Int)), rfl, trivial⟩ (by repeat first|exact s0 _|exact s1 _|apply s2|apply s3)
set_option maxHeartbeats 2000000 in
theorem dall_s (hn : n ≤ 7) : Spec Try.prog 36 [int n] [] (fun _ : Unit => []) (fun _ => ints (allN n)) := by
  refine spec_of Try.func36 rfl Try.ntmps36 rfl fun G w => ?_
  refine SC.seq (SC.region ?_)
  refine SL.val (Val.assign rfl) rfl rfl ?_
  refine SL.nil (SE.seq ?_)
  refine SC.seq (SC.region ?_)
  refine SL.val (Val.assign rfl) rfl rfl ?_
  refine SL.nil (SE.seq ?_)
  refine SC.seq ?_
  refine SC.seq (SC.region ?_)
  refine SL.val (Val.assign rfl) rfl rfl ?_
  refine SL.nil (SE.seq ?_)
  refine SC.block ?_
  refine SC.own0 3 1 ?_
  refine SC.loop (ι := Nat × Value) (fun z => [own 3 1 z.2 ((List.range z.1).map fun i : Nat => [int (i : Nat)])]) (fun z => [(0, int n), (3, .v z.2), (4, int (z.1 : Nat))]) (fun z => z.1 ≤ n.toNat) (fun z => n.toNat - z.1) (0, .slice none 0 0) (Nat.zero_le _) (by exact ⟨rfl, rfl, rfl, trivial⟩) (by repeat first|exact s0 _|exact s1 _|apply s2|apply s3) ?_
  intro z hz
  refine SC.seq ?_
  refine SC.seq (SC.region ?_)
  refine SL.val (Val.move rfl) rfl rfl ?_
  refine SL.val (Val.move rfl) rfl rfl ?_
  refine SL.val (Val.ltI rfl rfl) rfl rfl ?_
  refine SL.nil (SE.seq ?_)
  refine SC.condP rfl ?_ ?_
  rotate_left
  · intro hc7
    refine SC.exit ?_
    refine SE.then_ (by intro h; cases h) ?_
    refine SE.then_ (by intro h; cases h) ?_
    refine SE.exit ?_
    refine SE.seq ?_
    refine SC.seq (SC.region ?_)
    refine SL.val (Val.move rfl) rfl rfl ?_
    refine SL.val (Val.assign rfl) rfl rfl ?_
    refine SL.nil (SE.seq ?_)
    refine SC.ret ?_
    refine SE.freeze [] (t := 2) rfl rfl ?_
    refine SE.fin (rs := [.tmp 2]) rfl (RV.tmp rfl RV.nil) (()) (by repeat first|exact s0 _|exact s1 _|apply s2|apply s3) (by simp [It.rids]) ?_
    rw [show z.1 = n.toNat by omega]
    exact ints_all n (by omega)
  intro hc7
  refine SC.skip ?_
  refine SE.seq ?_
  refine SC.seq ?_
  refine SC.block ?_
  refine SC.region ?_
  refine SL.val (Val.move rfl) rfl rfl ?_
  refine SL.val (Val.move rfl) rfl rfl ?_
  refine SL.eff (Eff.buildSl tabOk Try.underlying77 rfl rfl rfl rfl rfl rfl rfl) rfl rfl ?_
  rintro _ _ ⟨rfl, rfl⟩
  refine SL.eff (Eff.appendE (zs := ((List.range (z.1 + 1)).map fun i : Nat => [int (i : Nat)])) tabOk [] (range_snoc z.1) Try.underlying77 rfl rfl rfl rfl rfl rfl (by intro c hc; rw [List.mem_singleton] at hc; subst hc; rfl) (by unfold maxLen; simp only [List.length_map, List.length_range, List.length_cons, List.length_nil]; omega) (by rw [show Try.prog.bytesOf 3 = 8 by kernel_rfl]; simp only [List.length_map, List.length_range, List.length_cons, List.length_nil]; omega)) rfl rfl ?_
  rintro _ _ ⟨r13, rfl, rfl⟩
  refine SL.val (Val.assign rfl) rfl rfl ?_
  refine SL.nil ?_
  refine SE.inBlock ?_
  refine SE.seq ?_
  refine SC.region ?_
  refine SL.val (Val.move rfl) rfl rfl ?_
  first
    | refine SL.val (Val.addI rfl rfl (by simp only [InR, lo, hi]; omega)) rfl rfl ?_
    | refine SL.val (Val.addW rfl rfl) rfl rfl ?_
  refine SL.val (Val.assign rfl) rfl rfl ?_
  refine SL.nil ?_
  refine SE.round (z.1 + 1, r13) (by first | omega | (dsimp only; omega)) (by dsimp only; omega) (by exact ⟨rfl, rfl, rfl, trivial⟩) (by repeat first|exact s0 _|exact s1 _|apply s2|apply s3)
set_option maxHeartbeats 4000000 in
theorem message_s (hb : body.length ≤ 999000) (hn : Num1 T) (hT : T.length ≤ 900000) (hl : to.length ≤ 1000) : Spec Try.prog 34 [ptr q, int k, int f, byt body, ints to] [.blk q 68 [mapV bd, mapV bt], .pc (mapPc bt Value.string cntV sOk (T))] (fun _ : Unit => [.blk q 68 [mapV bd, mapV bt], .pc (mapPc bt Value.string cntV sOk (tmG (gI f (textV k body)) T to))]) (fun _ => .agg (Msg.mk k f body (tagsG (gI f (textV k body)) T to)).abs) := by
  refine spec_of Try.func34 rfl Try.ntmps34 rfl fun G w => ?_
  refine SC.seq (SC.region ?_)
  refine SL.eff (Eff.alloc tabOk rfl) rfl rfl ?_
  rintro _ _ ⟨b10, rfl, rfl⟩
  refine SL.nil (SE.seq ?_)
  refine SC.seq (SC.region ?_)
  refine SL.val (Val.move rfl) rfl rfl ?_
  refine SL.val (Val.move rfl) rfl rfl ?_
  refine SL.val (Val.move rfl) rfl rfl ?_
  refine SL.val (Val.buildS tabOk rfl rfl rfl rfl) rfl rfl ?_
  refine SL.eff (Eff.alloc tabOk rfl) rfl rfl ?_
  rintro _ _ ⟨b11, rfl, rfl⟩
  refine SL.eff (Eff.store tabOk rfl rfl rfl (by repeat first|assumption|exact Upd.here|apply Upd.there) (by rfl) (Nat.le_of_ble_eq_true (by rfl)) (by rfl) (by rfl)) rfl rfl ?_
  rintro _ _ ⟨rfl, rfl⟩
  refine SL.nil (SE.seq ?_)
  refine SC.seq (SC.region ?_)
  refine SL.val (Val.move rfl) rfl rfl ?_
  refine SL.val (Val.to (C := .v (.int .u8 (k8 k : Nat))) (Val.convW rfl Try.underlying5 (by kernel_rfl)) (congrArg Abs.v (wrap_u8 k))) rfl rfl ?_
  refine SL.eff (Eff.buildOwn tabOk Try.underlying37 rfl rfl rfl rfl rfl rfl rfl) rfl rfl ?_
  rintro _ _ ⟨r21, rfl, rfl⟩
  refine SL.val (Val.move rfl) rfl rfl ?_
  refine SL.eff (Eff.appendE (zs := bs (textV k body)) tabOk [] (by
      show [[Abs.v (Value.int .u8 (k8 k : Nat))]] ++ bs body = _
      rw [← wrap_u8, wrap_bc]
      rfl) Try.underlying37 rfl rfl rfl rfl rfl rfl (bs_ones _) (by unfold maxLen; simp only [bs, List.length_map, List.length_cons, List.length_nil]; omega) (by rw [show Try.prog.bytesOf 5 = 1 by kernel_rfl]; simp only [List.length_map, List.length_cons, List.length_nil]; omega)) rfl rfl ?_
  rintro _ _ ⟨r23, rfl, rfl⟩
  refine SL.val (Val.assign rfl) rfl rfl ?_
  refine SL.nil (SE.seq ?_)
  refine SC.seq ?_
  refine SC.seq ?_
  refine SC.freeze [] (t := 12) rfl rfl ?_
  refine SC.region ?_
  refine SL.val (Val.move rfl) rfl rfl ?_
  first
    | refine SL.val (Val.lenSl rfl Try.underlying77 (List.length_map _)) rfl rfl ?_
    | refine SL.val (Val.lenOwn rfl (by repeat first|assumption|exact m0|apply m1) Try.underlying77 (List.length_map _)) rfl rfl ?_
    | refine SL.val (Val.lenNil rfl Try.underlying77) rfl rfl ?_
  refine SL.val (Val.move rfl) rfl rfl ?_
  refine SL.nil (SE.seq ?_)
  refine SC.block ?_
  refine SC.own0 94 32 ?_
  refine SC.loop (ι := Nat × Value × Unit) (fun z => [own 94 32 z.2.1 ((tagsG (gI f (textV k body)) T (to.take z.1)).map Tg.abs), .blk b11 40 [int k, int f, byt body, .v z.2.1], .blk b10 40 (zabs [.int .i64 0, .int .i64 0, .slice none 0 0, .slice none 0 0]), .blk q 68 [mapV bd, mapV bt], .pc (mapPc bt Value.string cntV sOk ((tmG (gI f (textV k body)) T (to.take z.1))))]) (fun z => [(0, ptr q), (2, int f), (10, ptr b10), (11, ptr b11), (12, byt (textV k body)), (24, ints to), (25, int (to.length : Nat)), (26, int (z.1 : Nat))]) (fun z => z.1 ≤ to.length) (fun z => to.length - z.1) (0, .slice none 0 0, ()) (Nat.zero_le _) (by exact ⟨rfl, rfl, rfl, rfl, rfl, rfl, rfl, rfl, trivial⟩) (by repeat first|exact s0 _|exact s1 _|apply s2|apply s3) ?_
  intro z hz
  refine SC.seq (SC.region ?_)
  refine SL.val (Val.ltI rfl rfl) rfl rfl ?_
  refine SL.nil (SE.seq ?_)
  refine SC.seq ?_
  refine SC.condP rfl ?_ ?_
  rotate_left
  · intro hc27
    refine SC.exit ?_
    refine SE.then_ (by intro h; cases h) ?_
    refine SE.then_ (by intro h; cases h) ?_
    refine SE.exit ?_
    refine SE.seq ?_
    refine SC.seq ?_
    have hz4 : z.1 = to.length := by omega
    refine SC.freezeC [] 3 rfl (by repeat first|assumption|exact Upd.here|apply Upd.there) rfl ?_
    rw [hz4, List.take_of_length_le (Nat.le_refl _)]
    refine SC.region ?_
    first
      | refine SL.val (Val.loadA tabOk rfl rfl rfl (by first|(apply Or.inl;(repeat first|assumption|exact m0|apply m1);done)|(apply Or.inr;(repeat first|assumption|exact m0|apply m1);done)) List.not_mem_nil (by rfl)) rfl rfl ?_
      | refine SL.val (Val.loadP tabOk rfl rfl rfl (by first|(apply Or.inl;(repeat first|assumption|exact m0|apply m1);done)|(apply Or.inr;(repeat first|assumption|exact m0|apply m1);done)) List.not_mem_nil (Nat.le_of_ble_eq_true (by rfl))) rfl rfl ?_
    refine SL.eff (Eff.store tabOk rfl rfl rfl (by repeat first|assumption|exact Upd.here|apply Upd.there) (by rfl) (Nat.le_of_ble_eq_true (by rfl)) (by rfl) (by rfl)) rfl rfl ?_
    rintro _ _ ⟨rfl, rfl⟩
    refine SL.nil (SE.seq ?_)
    refine SC.ret ?_
    refine SE.fin (rs := [.cell 10 40]) rfl (RV.cell rfl (RV.cellA tabOk rfl rfl (by first|(apply Or.inl;(repeat first|assumption|exact m0|apply m1);done)|(apply Or.inr;(repeat first|assumption|exact m0|apply m1);done)) (by rfl)) RV.nil) (()) (by repeat first|exact s0 _|exact s1 _|apply s2|apply s3) (by simp [It.rids]) ?_
    exact rfl
  intro hc27
  have hlt : z.1 < to.length := by omega
  have hlen9 : (to.take z.1).length = z.1 := by rw [List.length_take]; omega
  have hT2 := tmG_len (gI f (textV k body)) T (to.take z.1)
  have hTn := tmG_num hn (gI f (textV k body)) (to.take z.1)
  have hTp := hTn.pl_le (gI f (textV k body) (to[z.1]'hlt))
  refine SC.skip ?_
  refine SE.seq ?_
  refine SC.seq ?_
  refine SC.block ?_
  refine SC.seq (SC.region ?_)
  refine SL.val (Val.indexSl tabOk Try.underlying77 rfl rfl rfl rfl (at_map (by omega)) rfl rfl) rfl rfl ?_
  refine SL.val (Val.to (C := int (to[z.1]'hlt)) (Val.load1R tabOk rfl rfl rfl) rfl) rfl rfl ?_
  refine SL.val (Val.assign rfl) rfl rfl ?_
  refine SL.nil (SE.seq ?_)
  refine SC.draw (z.2.1.ownBlock.toList ++ [b11, q, bt]) (.q 0 (.q 2 (.q 3 (.q 4 (.q 5 (.two 1 6 (.e 6 (.e 7 (.e 8 (.q 9 (.e 10 .nil))))) (.two 1 7 (.e 7 (.e 8 (.q 9 (.e 10 .nil)))) (.e 1 (.e 8 (.q 9 (.e 10 .nil))))))))))) (by kernel_rfl) (by kernel_rfl) ?_
  refine SX.val rfl (Val.fieldAddr tabOk rfl rfl rfl rfl rfl) (by first | (simp [mids, It.mids, ownPc, mapPc]; done) | (intro k hk; simp [mids, It.mids, ownPc, mapPc] at hk ⊢; grind)) rfl rfl ?_
  refine SX.val rfl (Val.move rfl) (by first | (simp [mids, It.mids, ownPc, mapPc]; done) | (intro k hk; simp [mids, It.mids, ownPc, mapPc] at hk ⊢; grind)) rfl rfl ?_
  refine SX.val rfl (Val.move rfl) (by first | (simp [mids, It.mids, ownPc, mapPc]; done) | (intro k hk; simp [mids, It.mids, ownPc, mapPc] at hk ⊢; grind)) rfl rfl ?_
  refine SX.val rfl (Val.move rfl) (by first | (simp [mids, It.mids, ownPc, mapPc]; done) | (intro k hk; simp [mids, It.mids, ownPc, mapPc] at hk ⊢; grind)) rfl rfl ?_
  refine SX.val rfl (Val.move rfl) (by first | (simp [mids, It.mids, ownPc, mapPc]; done) | (intro k hk; simp [mids, It.mids, ownPc, mapPc] at hk ⊢; grind)) rfl rfl ?_
  refine SX.two ?_ ?_
  · skip
    refine SX.valE rfl (Val.load1 tabOk rfl rfl (by first|(apply Or.inl;(repeat first|assumption|exact m0|apply m1);done)|(apply Or.inr;(repeat first|assumption|exact m0|apply m1);done)) List.not_mem_nil (by rfl)) rfl rfl ?_
    refine SX.call rfl (itag_s (q := q) (bd := bd) (bt := bt) (T := (tmG (gI f (textV k body)) T (to.take z.1))) (a := f) (b := to[z.1]) (l := (textV k body)) (by simp [textV]; omega) hTn (by omega)) (by simp [mids, It.mids, mapPc]) Casts.refl (by kernel_rfl) rfl rfl rfl ?_
    refine After.at3 ⟨rfl, rfl⟩ (fun _ => rfl) ?_
    intro _
    refine SX.eff rfl (Eff.buildSl tabOk Try.underlying38 rfl rfl rfl (elems_one (dig32 (numB_length _ _))) rfl rfl rfl) (by simp) rfl rfl ?_
    rintro _ _ ⟨rfl, rfl⟩
    refine SX.effX [b11] rfl (Eff.appendE (zs := (tagsG (gI f (textV k body)) T (to.take (z.1 + 1))).map Tg.abs) tabOk [] (by rw [take_snocI hlt]; exact tagsG_snoc _ _ _ _) Try.underlying38 rfl rfl rfl rfl rfl rfl (by intro c hc; rw [List.mem_singleton] at hc; subst hc; exact ones_dig _) (by unfold maxLen; simp only [tagsG, List.length_map, List.length_take, List.length_cons, List.length_nil]; omega) (by rw [show Try.prog.bytesOf 94 = 32 by kernel_rfl]; simp only [tagsG, List.length_map, List.length_take, List.length_cons, List.length_nil]; omega)) (fun k hk => List.mem_append_left _ hk) (by simp) rfl rfl ?_
    rintro _ _ ⟨r38, rfl, rfl⟩
    refine SX.val rfl (Val.fieldAddr tabOk rfl rfl rfl rfl rfl) (by first | (simp [mids, It.mids, ownPc, mapPc]; done) | (intro k hk; simp [mids, It.mids, ownPc, mapPc] at hk ⊢; grind)) rfl rfl ?_
    first
      | refine SX.eff rfl (Eff.store tabOk rfl rfl rfl (by repeat first|assumption|exact Upd.here|apply Upd.there) (by rfl) (Nat.le_of_ble_eq_true (by rfl)) (by rfl) (by rfl)) (by simp) rfl rfl ?_
      | refine SX.eff rfl (Eff.storeOwn tabOk rfl rfl rfl rfl (by repeat first|assumption|exact m0|apply m1) (by repeat first|assumption|exact Upd.here|apply Upd.there) rfl (by rfl)) (by simp) rfl rfl ?_
    rintro _ _ ⟨rfl, rfl⟩
    refine SX.nil ?_
    refine SE.inBlock ?_
    refine SE.seq ?_
    refine SC.region ?_
    first
      | refine SL.val (Val.addI rfl rfl (by simp only [InR, lo, hi]; omega)) rfl rfl ?_
      | refine SL.val (Val.addW rfl rfl) rfl rfl ?_
    refine SL.val (Val.move rfl) rfl rfl ?_
    refine SL.nil ?_
    refine SE.round (z.1 + 1, r38, ()) (by first | omega | (dsimp only; omega)) (by dsimp only; omega) (by exact ⟨rfl, rfl, rfl, rfl, rfl, rfl, rfl, rfl, trivial⟩) (by rw [take_snocI hlt, tmG_snoc]; exact List.Sublist.refl _)
  · skip
    refine SX.call rfl (itag_s (q := q) (bd := bd) (bt := bt) (T := (tmG (gI f (textV k body)) T (to.take z.1))) (a := f) (b := to[z.1]) (l := (textV k body)) (by simp [textV]; omega) hTn (by omega)) (by simp [mids, It.mids, mapPc]) Casts.refl (by kernel_rfl) rfl rfl rfl ?_
    refine After.at3 ⟨rfl, rfl⟩ (fun _ => rfl) ?_
    intro _
    refine SX.two ?_ ?_
    · skip
      refine SX.valE rfl (Val.load1 tabOk rfl rfl (by first|(apply Or.inl;(repeat first|assumption|exact m0|apply m1);done)|(apply Or.inr;(repeat first|assumption|exact m0|apply m1);done)) List.not_mem_nil (by rfl)) rfl rfl ?_
      refine SX.eff rfl (Eff.buildSl tabOk Try.underlying38 rfl rfl rfl (elems_one (dig32 (numB_length _ _))) rfl rfl rfl) (by simp) rfl rfl ?_
      rintro _ _ ⟨rfl, rfl⟩
      refine SX.effX [b11] rfl (Eff.appendE (zs := (tagsG (gI f (textV k body)) T (to.take (z.1 + 1))).map Tg.abs) tabOk [] (by rw [take_snocI hlt]; exact tagsG_snoc _ _ _ _) Try.underlying38 rfl rfl rfl rfl rfl rfl (by intro c hc; rw [List.mem_singleton] at hc; subst hc; exact ones_dig _) (by unfold maxLen; simp only [tagsG, List.length_map, List.length_take, List.length_cons, List.length_nil]; omega) (by rw [show Try.prog.bytesOf 94 = 32 by kernel_rfl]; simp only [tagsG, List.length_map, List.length_take, List.length_cons, List.length_nil]; omega)) (fun k hk => List.mem_append_left _ hk) (by simp) rfl rfl ?_
      rintro _ _ ⟨r38, rfl, rfl⟩
      refine SX.val rfl (Val.fieldAddr tabOk rfl rfl rfl rfl rfl) (by first | (simp [mids, It.mids, ownPc, mapPc]; done) | (intro k hk; simp [mids, It.mids, ownPc, mapPc] at hk ⊢; grind)) rfl rfl ?_
      first
        | refine SX.eff rfl (Eff.store tabOk rfl rfl rfl (by repeat first|assumption|exact Upd.here|apply Upd.there) (by rfl) (Nat.le_of_ble_eq_true (by rfl)) (by rfl) (by rfl)) (by simp) rfl rfl ?_
        | refine SX.eff rfl (Eff.storeOwn tabOk rfl rfl rfl rfl (by repeat first|assumption|exact m0|apply m1) (by repeat first|assumption|exact Upd.here|apply Upd.there) rfl (by rfl)) (by simp) rfl rfl ?_
      rintro _ _ ⟨rfl, rfl⟩
      refine SX.nil ?_
      refine SE.inBlock ?_
      refine SE.seq ?_
      refine SC.region ?_
      first
        | refine SL.val (Val.addI rfl rfl (by simp only [InR, lo, hi]; omega)) rfl rfl ?_
        | refine SL.val (Val.addW rfl rfl) rfl rfl ?_
      refine SL.val (Val.move rfl) rfl rfl ?_
      refine SL.nil ?_
      refine SE.round (z.1 + 1, r38, ()) (by first | omega | (dsimp only; omega)) (by dsimp only; omega) (by exact ⟨rfl, rfl, rfl, rfl, rfl, rfl, rfl, rfl, trivial⟩) (by rw [take_snocI hlt, tmG_snoc]; exact List.Sublist.refl _)
    · skip
      refine SX.eff rfl (Eff.buildSl tabOk Try.underlying38 rfl rfl rfl (elems_one (dig32 (numB_length _ _))) rfl rfl rfl) (by simp) rfl rfl ?_
      rintro _ _ ⟨rfl, rfl⟩
      refine SX.valE rfl (Val.load1 tabOk rfl rfl (by first|(apply Or.inl;(repeat first|assumption|exact m0|apply m1);done)|(apply Or.inr;(repeat first|assumption|exact m0|apply m1);done)) List.not_mem_nil (by rfl)) rfl rfl ?_
      refine SX.effX [b11] rfl (Eff.appendE (zs := (tagsG (gI f (textV k body)) T (to.take (z.1 + 1))).map Tg.abs) tabOk [] (by rw [take_snocI hlt]; exact tagsG_snoc _ _ _ _) Try.underlying38 rfl rfl rfl rfl rfl rfl (by intro c hc; rw [List.mem_singleton] at hc; subst hc; exact ones_dig _) (by unfold maxLen; simp only [tagsG, List.length_map, List.length_take, List.length_cons, List.length_nil]; omega) (by rw [show Try.prog.bytesOf 94 = 32 by kernel_rfl]; simp only [tagsG, List.length_map, List.length_take, List.length_cons, List.length_nil]; omega)) (fun k hk => List.mem_append_left _ hk) (by simp) rfl rfl ?_
      rintro _ _ ⟨r38, rfl, rfl⟩
      refine SX.val rfl (Val.fieldAddr tabOk rfl rfl rfl rfl rfl) (by first | (simp [mids, It.mids, ownPc, mapPc]; done) | (intro k hk; simp [mids, It.mids, ownPc, mapPc] at hk ⊢; grind)) rfl rfl ?_
      first
        | refine SX.eff rfl (Eff.store tabOk rfl rfl rfl (by repeat first|assumption|exact Upd.here|apply Upd.there) (by rfl) (Nat.le_of_ble_eq_true (by rfl)) (by rfl) (by rfl)) (by simp) rfl rfl ?_
        | refine SX.eff rfl (Eff.storeOwn tabOk rfl rfl rfl rfl (by repeat first|assumption|exact m0|apply m1) (by repeat first|assumption|exact Upd.here|apply Upd.there) rfl (by rfl)) (by simp) rfl rfl ?_
      rintro _ _ ⟨rfl, rfl⟩
      refine SX.nil ?_
      refine SE.inBlock ?_
      refine SE.seq ?_
      refine SC.region ?_
      first
        | refine SL.val (Val.addI rfl rfl (by simp only [InR, lo, hi]; omega)) rfl rfl ?_
        | refine SL.val (Val.addW rfl rfl) rfl rfl ?_
      refine SL.val (Val.move rfl) rfl rfl ?_
      refine SL.nil ?_
      refine SE.round (z.1 + 1, r38, ()) (by first | omega | (dsimp only; omega)) (by dsimp only; omega) (by exact ⟨rfl, rfl, rfl, rfl, rfl, rfl, rfl, rfl, trivial⟩) (by rw [take_snocI hlt, tmG_snoc]; exact List.Sublist.refl _)
set_option maxHeartbeats 1000000 in
theorem reply_s (hn : Num1 T) (hT : T.length ≤ 900000) : Spec Try.prog 20 [ptr q, int a, int b, .agg r.abs] [.blk q 68 [mapV bd, mapV bt], .pc (mapPc bt Value.string cntV sOk (T))] (fun _ : Unit => [.blk q 68 [mapV bd, mapV bt], .pc (mapPc bt Value.string cntV sOk (tmG (gI a (textV 12 r.bytes)) T [b]))]) (fun _ => .agg (Msg.mk 12 a r.bytes (tagsG (gI a (textV 12 r.bytes)) T [b])).abs) := by
  refine spec_of Try.func20 rfl Try.ntmps20 rfl fun G w => ?_
  refine SC.seq (SC.region ?_)
  refine SL.eff (Eff.boxA (cs := r.abs) rfl) rfl rfl ?_
  rintro _ _ ⟨b7, rfl, rfl⟩
  refine SL.eff (Eff.alloc tabOk rfl) rfl rfl ?_
  rintro _ _ ⟨b8, rfl, rfl⟩
  refine SL.nil (SE.seq ?_)
  refine SC.seq (SC.region ?_)
  refine SL.val (Val.move rfl) rfl rfl ?_
  refine SL.val (Val.move rfl) rfl rfl ?_
  refine SL.val (Val.loadA tabOk rfl rfl rfl (by first|(apply Or.inl;(repeat first|assumption|exact m0|apply m1);done)|(apply Or.inr;(repeat first|assumption|exact m0|apply m1);done)) List.not_mem_nil rfl) rfl rfl ?_
  refine SL.call (rreply_s (r := r)) Casts.refl (by kernel_rfl) rfl rfl rfl ?_
  refine After.pure (by repeat (first | exact Reads.nil | (refine Reads.blk ?_ ?_; focus ((repeat first|assumption|exact m0|apply m1); done)) | (refine Reads.rd ?_ ?_; focus ((repeat first|assumption|exact m0|apply m1); done)) | (refine Reads.pc ?_ ?_; focus ((repeat first|assumption|exact m0|apply m1); done)) | (refine Reads.rdpc ?_ ?_; focus ((repeat first|assumption|exact m0|apply m1); done)))) (fun _ => rfl) ?_
  intro _
  refine SL.val (Val.move rfl) rfl rfl ?_
  refine SL.eff (Eff.buildSl tabOk Try.underlying77 rfl rfl rfl rfl rfl rfl rfl) rfl rfl ?_
  rintro _ _ ⟨rfl, rfl⟩
  refine SL.call (message_s (q := q) (bd := bd) (bt := bt) (k := 12) (f := a) (body := r.bytes) (to := [b]) (T := T) (by rw [Rp.bytes_length]; omega) hn hT (by simp)) Casts.refl (by kernel_rfl) rfl rfl rfl ?_
  refine After.mid [_, _] (β := []) rfl (by intro x hx; simp only [List.mem_cons, List.not_mem_nil, or_false] at hx; rcases hx with rfl | rfl <;> rfl) ?_
  intro _
  refine SL.eff (Eff.store (L' := (Msg.mk 12 a r.bytes (tagsG (gI a (textV 12 r.bytes)) T [b])).abs) tabOk rfl rfl rfl (by repeat first|assumption|exact Upd.here|apply Upd.there) rfl (Nat.le_of_ble_eq_true (by rfl)) rfl (by exact putL_whole rfl)) rfl rfl ?_
  rintro _ _ ⟨rfl, rfl⟩
  refine SL.nil (SE.seq ?_)
  refine SC.ret ?_
  refine SE.fin (rs := [.cell 8 40]) rfl (RV.cell rfl (RV.cellA tabOk rfl rfl (by first|(apply Or.inl;(repeat first|assumption|exact m0|apply m1);done)|(apply Or.inr;(repeat first|assumption|exact m0|apply m1);done)) (by rfl)) RV.nil) (()) (by repeat first|exact s0 _|exact s1 _|apply s2|apply s3) (by simp [It.rids]) ?_
  exact rfl
set_option maxHeartbeats 4000000 in
theorem vchecki_s (hl : m.body.length ≤ 100000) (hn : Num1 T) (hT : T.length < 1000000) : Spec Try.prog 47 [.ifc 24 (ptr q), .agg m.abs, int place, int who] [.rd q 68 [mapV bd, mapV bt], .rdpc (mapPc bt Value.string cntV sOk T)] (fun _ : Unit => []) (fun _ => int (chkMI T m place who)) := by
  refine spec_of Try.func47 rfl Try.ntmps47 rfl fun G w => ?_
  refine SC.seq (SC.region ?_)
  refine SL.eff (Eff.boxA rfl) rfl rfl ?_
  rintro _ _ ⟨b5, rfl, rfl⟩
  refine SL.val (Val.assign rfl) rfl rfl ?_
  refine SL.nil (SE.seq ?_)
  refine SC.seq ?_
  refine SC.seq ?_
  refine SC.draw [] (.q 0 (.q 1 (.q 2 (.q 3 (.q 4 (.q 5 (.q 6 (.q 7 (.q 8 (.q 9 (.q 10 (.q 11 (.q 12 (.q 13 (.q 14 (.q 15 (.q 16 (.q 17 (.q 18 (.q 19 (.q 20 (.q 21 (.q 23 (.q 24 (.q 25 (.q 26 (.q 27 (.q 28 (.q 29 (.q 30 (.e 22 (.e 31 (.q 32 (.q 33 .nil)))))))))))))))))))))))))))))))))) (by kernel_rfl) (by kernel_rfl) ?_
  refine SX.val rfl (Val.move rfl) (by simp) rfl rfl ?_
  refine SX.val rfl (Val.ifaceNil Try.underlying70 rfl) (by first | (simp [mids, It.mids, ownPc, mapPc]; done) | (intro k hk; simp [mids, It.mids, ownPc, mapPc] at hk ⊢; grind)) rfl rfl ?_
  refine SX.val rfl (Val.move rfl) (by simp) rfl rfl ?_
  refine SX.val rfl (Val.move rfl) (by simp) rfl rfl ?_
  refine SX.val rfl (Val.ltI rfl rfl) (by simp) rfl rfl ?_
  refine SX.val rfl (Val.pickF rfl rfl) (by simp) rfl rfl ?_
  refine SX.val rfl (Val.move rfl) (by simp) rfl rfl ?_
  refine SX.bothP (t := 15) rfl ?_ ?_
  · intro hc15
    iterate 5 refine SX.skip rfl rfl rfl ?_
    refine SX.val rfl (Val.pickT rfl rfl) (by simp) rfl rfl ?_
    refine SX.val rfl (Val.move rfl) (by simp) rfl rfl ?_
    iterate 16 refine SX.skip rfl rfl rfl ?_
    refine SX.skip' rfl rfl rfl ?_
    refine SX.skip' rfl rfl rfl ?_
    refine SX.skip rfl rfl rfl ?_
    refine SX.val rfl (Val.pickT rfl rfl) (by simp) rfl rfl ?_
    refine SX.nil (SE.seq ?_)
    refine SC.condT rfl ?_
    refine SC.seq (SC.region ?_)
    refine SL.val (Val.assign rfl) rfl rfl ?_
    refine SL.nil (SE.seq ?_)
    refine SC.ret ?_
    refine SE.then_ (by intro h; cases h) ?_
    refine SE.fin (rs := [.tmp 8]) rfl (RV.tmp rfl RV.nil) (()) (by repeat first|exact s0 _|exact s1 _|apply s2|apply s3) (by simp [It.rids]) ?_
    refine congrArg int ?_
    unfold chkMI
    first
      | (rw [if_pos (by omega)])
      | (rw [if_neg (by omega), if_neg (by
          have h8 := hc42
          simp only [Int.toNat_natCast, List.getElem?_eq_getElem hq, Option.map_some, Option.getD_some]
          intro h9
          rw [h9] at h8
          simp at h8)])
  intro hc15
  refine SX.val rfl (Val.move rfl) (by simp) rfl rfl ?_
  refine SX.val rfl (Val.fieldAddr tabOk rfl rfl rfl rfl rfl) (by simp) rfl rfl ?_
  refine SX.val rfl (Val.load1 tabOk rfl rfl (by first|(apply Or.inl;(repeat first|assumption|exact m0|apply m1);done)|(apply Or.inr;(repeat first|assumption|exact m0|apply m1);done)) List.not_mem_nil (by rfl)) (by simp) rfl rfl ?_
  first
    | refine SX.val rfl (Val.lenSl rfl Try.underlying38 (List.length_map _)) (by simp) rfl rfl ?_
    | refine SX.val rfl (Val.lenOwn rfl (by repeat first|assumption|exact m0|apply m1) Try.underlying38 (List.length_map _)) (by simp) rfl rfl ?_
    | refine SX.val rfl (Val.lenNil rfl Try.underlying38) (by simp) rfl rfl ?_
  refine SX.val rfl (Val.geI rfl rfl) (by simp) rfl rfl ?_
  refine SX.val rfl (Val.pickF rfl rfl) (by simp) rfl rfl ?_
  refine SX.val rfl (Val.move rfl) (by simp) rfl rfl ?_
  refine SX.bothP (t := 22) rfl ?_ ?_
  · intro hc22
    iterate 16 refine SX.skip rfl rfl rfl ?_
    refine SX.skip' rfl rfl rfl ?_
    refine SX.skip' rfl rfl rfl ?_
    refine SX.skip rfl rfl rfl ?_
    refine SX.val rfl (Val.pickT rfl rfl) (by simp) rfl rfl ?_
    refine SX.nil (SE.seq ?_)
    refine SC.condT rfl ?_
    refine SC.seq (SC.region ?_)
    refine SL.val (Val.assign rfl) rfl rfl ?_
    refine SL.nil (SE.seq ?_)
    refine SC.ret ?_
    refine SE.then_ (by intro h; cases h) ?_
    refine SE.fin (rs := [.tmp 8]) rfl (RV.tmp rfl RV.nil) (()) (by repeat first|exact s0 _|exact s1 _|apply s2|apply s3) (by simp [It.rids]) ?_
    refine congrArg int ?_
    unfold chkMI
    first
      | (rw [if_pos (by omega)])
      | (rw [if_neg (by omega), if_neg (by
          have h8 := hc42
          simp only [Int.toNat_natCast, List.getElem?_eq_getElem hq, Option.map_some, Option.getD_some]
          intro h9
          rw [h9] at h8
          simp at h8)])
  intro hc22
  obtain ⟨qq, rfl⟩ : ∃ qq : Nat, place = (qq : Nat) := ⟨place.toNat, by omega⟩
  have hq : qq < m.tags.length := by omega
  refine SX.val rfl (Val.move rfl) (by simp) rfl rfl ?_
  refine SX.val rfl (Val.fieldAddr tabOk rfl rfl rfl rfl rfl) (by simp) rfl rfl ?_
  refine SX.val rfl (Val.load1 tabOk rfl rfl (by first|(apply Or.inl;(repeat first|assumption|exact m0|apply m1);done)|(apply Or.inr;(repeat first|assumption|exact m0|apply m1);done)) List.not_mem_nil (by rfl)) (by simp) rfl rfl ?_
  refine SX.val rfl (Val.move rfl) (by simp) rfl rfl ?_
  refine SX.val rfl (Val.fieldAddr tabOk rfl rfl rfl rfl rfl) (by simp) rfl rfl ?_
  refine SX.val rfl (Val.load1 tabOk rfl rfl (by first|(apply Or.inl;(repeat first|assumption|exact m0|apply m1);done)|(apply Or.inr;(repeat first|assumption|exact m0|apply m1);done)) List.not_mem_nil (by rfl)) (by simp) rfl rfl ?_
  refine SX.val rfl (Val.fieldAddr tabOk rfl rfl rfl rfl rfl) (by simp) rfl rfl ?_
  refine SX.val rfl (Val.load1 tabOk rfl rfl (by first|(apply Or.inl;(repeat first|assumption|exact m0|apply m1);done)|(apply Or.inr;(repeat first|assumption|exact m0|apply m1);done)) List.not_mem_nil (by rfl)) (by simp) rfl rfl ?_
  refine SX.val rfl (Val.fieldAddr tabOk rfl rfl rfl rfl rfl) (by simp) rfl rfl ?_
  refine SX.val rfl (Val.load1 tabOk rfl rfl (by first|(apply Or.inl;(repeat first|assumption|exact m0|apply m1);done)|(apply Or.inr;(repeat first|assumption|exact m0|apply m1);done)) List.not_mem_nil (by rfl)) (by simp) rfl rfl ?_
  refine SX.val rfl (Val.move rfl) (by simp) rfl rfl ?_
  refine SX.val rfl (Val.indexSl tabOk Try.underlying38 rfl rfl rfl rfl (at_map (by omega)) rfl rfl) (by simp) rfl rfl ?_
  refine SX.val rfl (Val.loadAR tabOk rfl rfl rfl (Tg.size _)) (by first | (simp [mids, It.mids, ownPc, mapPc]; done) | (intro k hk; simp [mids, It.mids, ownPc, mapPc] at hk ⊢; grind)) rfl rfl ?_
  refine SX.val rfl (Val.makeFunc rfl rfl) (by simp) rfl rfl ?_
  refine SX.val rfl (Val.nilMethod rfl (fun w => by kernel_rfl)) (by simp) rfl rfl ?_
  refine SX.val rfl (Val.move rfl) (by simp) rfl rfl ?_
  refine SX.call rfl (text_s (k := m.kind) (l := m.body) (by omega)) (by simp [mids, It.mids]) Casts.refl (by kernel_rfl) rfl rfl rfl ?_
  refine After.pure (by repeat first|exact .nil|refine .blk (by repeat first|assumption|exact m0|apply m1) ?_|refine .rd (by repeat first|assumption|exact m0|apply m1) ?_|refine .pc (by repeat first|assumption|exact m0|apply m1) ?_|refine .rdpc (by repeat first|assumption|exact m0|apply m1) ?_) (fun _ => rfl) ?_
  intro _
  refine SX.invokeR rfl (icheck_s (q := q) (bd := bd) (bt := bt) (T := T) (a := m.from_) (b := who) (l := textV m.kind m.body) (M := (m.tags[qq]'hq).d) (by simp [textV]; omega) hn hT (m.tags[qq]'hq).len) (by simp [mids, It.mids, mapPc, It.toRd]) rfl Casts.refl (fun _ _ _ => by kernel_rfl) rfl rfl rfl ?_
  refine After.pure (by repeat (first | exact Reads.nil | (refine Reads.blk ?_ ?_; focus ((repeat first|assumption|exact m0|apply m1); done)) | (refine Reads.rd ?_ ?_; focus ((repeat first|assumption|exact m0|apply m1); done)) | (refine Reads.pc ?_ ?_; focus ((repeat first|assumption|exact m0|apply m1); done)) | (refine Reads.rdpc ?_ ?_; focus ((repeat first|assumption|exact m0|apply m1); done)))) (fun _ => rfl) ?_
  intro _
  refine SX.val rfl (Val.notB rfl) (by simp) rfl rfl ?_
  refine SX.val rfl (Val.pickF rfl rfl) (by simp) rfl rfl ?_
  refine SX.nil (SE.seq ?_)
  refine SC.cond rfl ?_ ?_
  rotate_left
  · intro hc42
    refine SC.skip ?_
    refine SE.seq ?_
    refine SC.seq (SC.region ?_)
    refine SL.val (Val.assign rfl) rfl rfl ?_
    refine SL.nil (SE.seq ?_)
    refine SC.ret ?_
    refine SE.fin (rs := [.tmp 8]) rfl (RV.tmp rfl RV.nil) (()) (by repeat first|exact s0 _|exact s1 _|apply s2|apply s3) (by simp [It.rids]) ?_
    refine congrArg int ?_
    unfold chkMI
    rw [if_neg (by omega), if_pos (by
      have h8 := hc42
      simp only [Int.toNat_natCast, List.getElem?_eq_getElem hq, Option.map_some, Option.getD_some]
      simpa using h8)]
  intro hc42
  refine SC.seq (SC.region ?_)
  refine SL.val (Val.assign rfl) rfl rfl ?_
  refine SL.nil (SE.seq ?_)
  refine SC.ret ?_
  refine SE.then_ (by intro h; cases h) ?_
  refine SE.fin (rs := [.tmp 8]) rfl (RV.tmp rfl RV.nil) (()) (by repeat first|exact s0 _|exact s1 _|apply s2|apply s3) (by simp [It.rids]) ?_
  refine congrArg int ?_
  unfold chkMI
  first
    | (rw [if_pos (by omega)])
    | (rw [if_neg (by omega), if_neg (by
        have h8 := hc42
        simp only [Int.toNat_natCast, List.getElem?_eq_getElem hq, Option.map_some, Option.getD_some]
        intro h9
        rw [h9] at h8
        simp at h8)])
end
end Go.Proofs.Ytmkijjmbiiiicaa.A
/-
  Tallies of error numbers.
-/
set_option maxRecDepth 100000
set_option linter.unusedSimpArgs false
set_option linter.unusedVariables false
namespace Go.Proofs.Ytmkijjmbiiiicaa.A
open Go.RowKit Go.Maps

theorem After.three {ι : Type} {x1 x2 x3 : It} {β : Blks} {τ' : ι → Blks} {y1 y2 y3 : ι → It} {K : Blks → ι → Prop} (hr : x1.rids = [] ∧ x2.rids = [] ∧ x3.rids = []) (hτ : ∀ z, τ' z = [y1 z, y2 z, y3 z]) (k : ∀ z, K (y1 z :: y2 z :: y3 z :: β) z) : After (x1 :: x2 :: x3 :: β) [x1, x2, x3] τ' K :=
  After.mid [] (β := β) rfl (by intro x hx; simp only [List.mem_cons, List.not_mem_nil, or_false] at hx; rcases hx with rfl | rfl | rfl; exact hr.1; exact hr.2.1; exact hr.2.2) fun z => by rw [hτ z]; exact k z
section
variable {α : Type} [DecidableEq α] {m : List (Int × α)} {c : List (α × Nat)} {v k : α} {who : Int}
def tAddM (m : List (Int × α)) (who : Int) (k : α) : List (Int × α) := if (aget m who).isSome then m else aput m who k
def tAddC (m : List (Int × α)) (c : List (α × Nat)) (who : Int) (k : α) : List (α × Nat) := if (aget m who).isSome then c else chgC m c who k
def tAddB (m : List (Int × α)) (who : Int) (k : α) : Bool := match aget m who with | some v => decide (v = k) | none => true
omit [DecidableEq α] in
theorem tAddM_old (h : aget m who = some v) : tAddM m who k = m := if_pos (by rw [h]; rfl)
omit [DecidableEq α] in
theorem tAddM_new (h : aget m who = none) : tAddM m who k = aput m who k := if_neg (by rw [h]; simp)
theorem tAddC_old (h : aget m who = some v) : tAddC m c who k = c := if_pos (by rw [h]; rfl)
theorem tAddC_new (h : aget m who = none) : tAddC m c who k = chgC m c who k := if_neg (by rw [h]; simp)
theorem tAddB_old (h : aget m who = some v) : tAddB m who k = decide (v = k) := by unfold tAddB; rw [h]
theorem tAddB_new (h : aget m who = none) : tAddB m who k = true := by unfold tAddB; rw [h]
end
theorem getD_is {α : Type} {enc : α → Abs} {V : α → Value} {z : Abs} {zv : Value} (h : ∀ a, (enc a).is (V a)) (hz : z.is zv) (o : Option α) : ((o.map enc).getD z).is ((o.map V).getD zv) := by
  cases o with
  | none => exact hz
  | some a => exact h a
theorem isSome_some {α : Type} {o : Option α} (h : o.isSome = true) : ∃ v, o = some v := Option.isSome_iff_exists.1 h
theorem isSome_none {α : Type} {o : Option α} (h : o.isSome = false) : o = none := by simpa using h
def erE (x : Int) : Abs := .v (.int .i64 x)
theorem er_is (x : Int) : (erE x).is (intK x) := is_v
abbrev erA (o : Option Int) : Abs := (o.map erE).getD (.v (.int .i64 0))
theorem er_zero : ∀ w, (zeroValue 29).run Try.prog w = .ok (.int .i64 0) w := fun w => by
  kernel_rfl
theorem erA_is (o : Option Int) : (erA o).is ((o.map intK).getD (.int .i64 0)) := getD_is er_is (is_v) o
section
variable {t bv bn : Nat} {m : List (Int × Int)} {c : List (Int × Nat)} {k : Int} {who at_ : Int}
theorem er_new_s  : Spec Try.prog 26 [] [] (fun z : Nat × Nat × Nat => [.blk z.1 114 [mapV z.2.1, mapV z.2.2], .pc (mapPc z.2.1 intK intK intOk []), .pc (mapPc z.2.2 intK cntV intOk [])]) (fun z => ptr z.1) := by
  refine spec_of Try.func26 rfl Try.ntmps26 rfl fun G w => ?_
  refine SC.seq (SC.region ?_)
  refine SL.val (Val.assign rfl) rfl rfl ?_
  refine SL.nil (SE.seq ?_)
  refine SC.seq (SC.region ?_)
  refine SL.eff (Eff.makeMap intK intK intOk (fun ac w => by simp [execOp, Instr.makeMap, newObj, Sem.run, Sem.run_bind, Result.andThen])) rfl rfl ?_
  rintro _ _ ⟨m1, rfl, rfl⟩
  refine SL.eff (Eff.makeMap intK cntV intOk (fun ac w => by simp [execOp, Instr.makeMap, newObj, Sem.run, Sem.run_bind, Result.andThen])) rfl rfl ?_
  rintro _ _ ⟨m2, rfl, rfl⟩
  refine SL.val (Val.buildS tabOk rfl rfl rfl rfl) rfl rfl ?_
  refine SL.eff (Eff.boxA rfl) rfl rfl ?_
  rintro _ _ ⟨b4, rfl, rfl⟩
  refine SL.val (Val.assign rfl) rfl rfl ?_
  refine SL.nil (SE.seq ?_)
  refine SC.ret ?_
  refine SE.perm (List.Perm.cons _ (List.Perm.swap _ _ _)) ?_
  refine SE.fin (rs := [.tmp 0]) rfl (RV.tmp rfl RV.nil) (b4, m1, m2) (by repeat first|exact s0 _|exact s1 _|apply s2|apply s3) (by simp [It.rids]) ?_
  exact rfl
theorem int_zero : ∀ w, (zeroValue 3).run Try.prog w = .ok (cntV 0) w := fun w => by
  kernel_rfl
set_option maxHeartbeats 2000000 in
theorem er_change_s (hw : intOk who) (hti : TInv m c) (hl : m.length ≤ 1000) (hk : intOk k) (hok : ∀ w v, aget m w = some v → intOk v) : Spec Try.prog 49 [ptr t, int who, erE k] [.blk t 114 [mapV bv, mapV bn], .pc (mapPc bv intK intK intOk m), .pc (mapPc bn intK cntV intOk c)] (fun _ : Unit => [.blk t 114 [mapV bv, mapV bn], .pc (mapPc bv intK intK intOk (aput m who k)), .pc (mapPc bn intK cntV intOk (chgC m c who k))]) (fun _ => .tup []) := by
  refine spec_of Try.func49 rfl Try.ntmps49 rfl fun G w => ?_
  refine SC.seq ?_
  refine SC.seq (SC.region ?_)
  refine SL.val (Val.move rfl) rfl rfl ?_
  refine SL.val (Val.eqP rfl rfl (by kernel_rfl)) rfl rfl ?_
  refine SL.nil (SE.seq ?_)
  refine SC.condF rfl ?_
  refine SC.skip ?_
  refine SE.seq ?_
  refine SC.cutS (ι := Unit) (fun z => [.blk t 114 [mapV bv, mapV bn], .pc (mapPc bv intK intK intOk m), .pc (mapPc bn intK cntV intOk (decO c (aget m who)))]) (fun z => [(0, ptr t), (1, int who), (2, erE k)]) (fun z => True) ?_ ?_
  · skip
    refine SC.seq (SC.region ?_)
    refine SL.val (Val.move rfl) rfl rfl ?_
    refine SL.val (Val.nilCheck rfl) rfl rfl ?_
    refine SL.val (Val.fieldAddr tabOk rfl rfl rfl rfl rfl) rfl rfl ?_
    refine SL.val (Val.load1 tabOk rfl rfl (by first|(apply Or.inl;(repeat first|assumption|exact m0|apply m1);done)|(apply Or.inr;(repeat first|assumption|exact m0|apply m1);done)) List.not_mem_nil (by rfl)) rfl rfl ?_
    refine SL.val (Val.move rfl) rfl rfl ?_
    refine SL.val (Val.mapGetOk (a := who) (zv := (.int .i64 0)) (C := erA (aget m who)) (int_fit Try.underlying3) Try.underlying111 er_zero rfl (by first|(apply Or.inl;(repeat first|assumption|exact m0|apply m1);done)|(apply Or.inr;(repeat first|assumption|exact m0|apply m1);done)) List.not_mem_nil rfl is_v hw (erA_is _)) rfl rfl ?_
    refine SL.val (Val.move rfl) rfl rfl ?_
    refine SL.val (Val.extract rfl rfl) rfl rfl ?_
    refine SL.val (Val.extract rfl rfl) rfl rfl ?_
    refine SL.val (Val.assign rfl) rfl rfl ?_
    refine SL.val (Val.assign rfl) rfl rfl ?_
    refine SL.nil (SE.seq ?_)
    refine SC.seq (SC.region ?_)
    refine SL.val (Val.move rfl) rfl rfl ?_
    refine SL.nil (SE.seq ?_)
    refine SC.cond rfl ?_ ?_
    rotate_left
    · intro hc19
      have hv := isSome_none hc19
      rw [hv]
      refine SC.skip ?_
      refine SE.meet (()) (trivial) (by exact ⟨rfl, rfl, rfl, trivial⟩) (by repeat first|exact s0 _|exact s1 _|apply s2|apply s3)
    intro hc19
    obtain ⟨v, hv⟩ := isSome_some hc19
    rw [hv]
    refine SC.seq (SC.region ?_)
    refine SL.val (Val.move rfl) rfl rfl ?_
    refine SL.val (Val.nilCheck rfl) rfl rfl ?_
    refine SL.val (Val.fieldAddr tabOk rfl rfl rfl rfl rfl) rfl rfl ?_
    refine SL.val (Val.load1 tabOk rfl rfl (by first|(apply Or.inl;(repeat first|assumption|exact m0|apply m1);done)|(apply Or.inr;(repeat first|assumption|exact m0|apply m1);done)) List.not_mem_nil (by rfl)) rfl rfl ?_
    refine SL.val (Val.move rfl) rfl rfl ?_
    refine SL.val (Val.mapGet (a := v) (zv := cntV 0) (C := int ((cget c v : Nat) : Int)) (int_fit Try.underlying29) Try.underlying112 int_zero rfl (by first|(apply Or.inl;(repeat first|assumption|exact m0|apply m1);done)|(apply Or.inr;(repeat first|assumption|exact m0|apply m1);done)) List.not_mem_nil rfl (er_is _) (hok _ _ hv) (cget_is _ _)) rfl rfl ?_
    refine SL.val (Val.to (C := int ((cget c v - 1 : Nat) : Int)) (Val.subI rfl rfl (by have := hti.le v; simp only [InR, lo, hi]; omega)) (congrArg int (by have := hti.pos hv; omega))) rfl rfl ?_
    refine SL.eff (Eff.mapPut (a := v) (v := cget c v - 1) (m' := aput c v (cget c v - 1)) (int_fit Try.underlying29) Try.underlying112 rfl (by repeat first|assumption|exact Upd.here|apply Upd.there) rfl (er_is _) (hok _ _ hv) rfl is_v rfl) rfl rfl ?_
    rintro _ _ ⟨rfl, rfl⟩
    refine SL.nil (SE.seq ?_)
    refine SC.seq (SC.region ?_)
    refine SL.val (Val.move rfl) rfl rfl ?_
    refine SL.val (Val.nilCheck rfl) rfl rfl ?_
    refine SL.val (Val.fieldAddr tabOk rfl rfl rfl rfl rfl) rfl rfl ?_
    refine SL.val (Val.load1 tabOk rfl rfl (by first|(apply Or.inl;(repeat first|assumption|exact m0|apply m1);done)|(apply Or.inr;(repeat first|assumption|exact m0|apply m1);done)) List.not_mem_nil (by rfl)) rfl rfl ?_
    refine SL.val (Val.move rfl) rfl rfl ?_
    refine SL.val (Val.mapGet (a := v) (zv := cntV 0) (C := int ((cget (aput c v (cget c v - 1)) v : Nat) : Int)) (int_fit Try.underlying29) Try.underlying112 int_zero rfl (by first|(apply Or.inl;(repeat first|assumption|exact m0|apply m1);done)|(apply Or.inr;(repeat first|assumption|exact m0|apply m1);done)) List.not_mem_nil rfl (er_is _) (hok _ _ hv) (cget_is _ _)) rfl rfl ?_
    refine SL.val (Val.eqI rfl rfl) rfl rfl ?_
    refine SL.nil (SE.seq ?_)
    refine SC.condP rfl ?_ ?_
    rotate_left
    · intro hc33
      refine SC.skip ?_
      refine SE.meet () trivial ⟨rfl, rfl, rfl, trivial⟩ ?_
      rw [dec_keep (by omega)]
      repeat (first | exact List.nil_sublist _ | exact List.Sublist.refl _ | apply List.Sublist.cons_cons | apply List.Sublist.cons)
    intro hc33
    refine SC.region ?_
    refine SL.val (Val.move rfl) rfl rfl ?_
    refine SL.val (Val.nilCheck rfl) rfl rfl ?_
    refine SL.val (Val.fieldAddr tabOk rfl rfl rfl rfl rfl) rfl rfl ?_
    refine SL.val (Val.load1 tabOk rfl rfl (by first|(apply Or.inl;(repeat first|assumption|exact m0|apply m1);done)|(apply Or.inr;(repeat first|assumption|exact m0|apply m1);done)) List.not_mem_nil (by rfl)) rfl rfl ?_
    refine SL.val (Val.move rfl) rfl rfl ?_
    refine SL.eff (Eff.mapDel (a := v) (m' := decO c (some v)) (int_fit Try.underlying29) Try.underlying112 rfl (by repeat first|assumption|exact Upd.here|apply Upd.there) rfl (er_is _) (hok _ _ hv) (dec_del (by omega))) rfl rfl ?_
    rintro _ _ ⟨rfl, rfl⟩
    refine SL.nil ?_
    refine SE.meet (()) (trivial) (by exact ⟨rfl, rfl, rfl, trivial⟩) (by repeat first|exact s0 _|exact s1 _|apply s2|apply s3)
  · intro z0 hz0
    refine SC.seq (SC.region ?_)
    refine SL.val (Val.move rfl) rfl rfl ?_
    refine SL.val (Val.nilCheck rfl) rfl rfl ?_
    refine SL.val (Val.fieldAddr tabOk rfl rfl rfl rfl rfl) rfl rfl ?_
    refine SL.val (Val.load1 tabOk rfl rfl (by first|(apply Or.inl;(repeat first|assumption|exact m0|apply m1);done)|(apply Or.inr;(repeat first|assumption|exact m0|apply m1);done)) List.not_mem_nil (by rfl)) rfl rfl ?_
    refine SL.val (Val.move rfl) rfl rfl ?_
    refine SL.val (Val.move rfl) rfl rfl ?_
    refine SL.eff (Eff.mapPut (a := who) (v := k) (m' := aput m who k) (int_fit Try.underlying3) Try.underlying111 rfl (by repeat first|assumption|exact Upd.here|apply Upd.there) rfl is_v hw rfl (er_is _) rfl) rfl rfl ?_
    rintro _ _ ⟨rfl, rfl⟩
    refine SL.nil (SE.seq ?_)
    refine SC.region ?_
    refine SL.val (Val.move rfl) rfl rfl ?_
    refine SL.val (Val.nilCheck rfl) rfl rfl ?_
    refine SL.val (Val.fieldAddr tabOk rfl rfl rfl rfl rfl) rfl rfl ?_
    refine SL.val (Val.load1 tabOk rfl rfl (by first|(apply Or.inl;(repeat first|assumption|exact m0|apply m1);done)|(apply Or.inr;(repeat first|assumption|exact m0|apply m1);done)) List.not_mem_nil (by rfl)) rfl rfl ?_
    refine SL.val (Val.move rfl) rfl rfl ?_
    refine SL.val (Val.mapGet (a := k) (zv := cntV 0) (C := int ((cget (decO c (aget m who)) k : Nat) : Int)) (int_fit Try.underlying29) Try.underlying112 int_zero rfl (by first|(apply Or.inl;(repeat first|assumption|exact m0|apply m1);done)|(apply Or.inr;(repeat first|assumption|exact m0|apply m1);done)) List.not_mem_nil rfl (er_is _) hk (cget_is _ _)) rfl rfl ?_
    refine SL.val (Val.to (C := int ((cget (decO c (aget m who)) k + 1 : Nat) : Int)) (Val.addI rfl rfl (by have := hti.dec_le (aget m who) k; simp only [InR, lo, hi]; omega)) (congrArg int (by omega))) rfl rfl ?_
    refine SL.eff (Eff.mapPut (a := k) (v := cget (decO c (aget m who)) k + 1) (m' := chgC m c who k) (int_fit Try.underlying29) Try.underlying112 rfl (by repeat first|assumption|exact Upd.here|apply Upd.there) rfl (er_is _) hk rfl is_v rfl) rfl rfl ?_
    rintro _ _ ⟨rfl, rfl⟩
    refine SL.nil ?_
    refine SE.finN (rs := []) rfl RV.nil (()) (by repeat first|exact s0 _|exact s1 _|apply s2|apply s3) (by simp [It.rids]) ?_
    exact rfl
set_option maxHeartbeats 2000000 in
theorem er_add_s (hw : intOk who) (hti : TInv m c) (hl : m.length ≤ 1000) (hk : intOk k) (hok : ∀ w v, aget m w = some v → intOk v) : Spec Try.prog 29 [ptr t, int who, erE k] [.blk t 114 [mapV bv, mapV bn], .pc (mapPc bv intK intK intOk m), .pc (mapPc bn intK cntV intOk c)] (fun _ : Unit => [.blk t 114 [mapV bv, mapV bn], .pc (mapPc bv intK intK intOk (tAddM m who k)), .pc (mapPc bn intK cntV intOk (tAddC m c who k))]) (fun _ => boo (tAddB m who k)) := by
  refine spec_of Try.func29 rfl Try.ntmps29 rfl fun G w => ?_
  refine SC.seq (SC.region ?_)
  refine SL.val (Val.assign rfl) rfl rfl ?_
  refine SL.nil (SE.seq ?_)
  refine SC.seq ?_
  refine SC.seq (SC.region ?_)
  refine SL.val (Val.move rfl) rfl rfl ?_
  refine SL.val (Val.eqP rfl rfl (by kernel_rfl)) rfl rfl ?_
  refine SL.nil (SE.seq ?_)
  refine SC.condF rfl ?_
  refine SC.skip ?_
  refine SE.seq ?_
  refine SC.seq ?_
  refine SC.seq (SC.region ?_)
  refine SL.val (Val.move rfl) rfl rfl ?_
  refine SL.val (Val.nilCheck rfl) rfl rfl ?_
  refine SL.val (Val.fieldAddr tabOk rfl rfl rfl rfl rfl) rfl rfl ?_
  refine SL.val (Val.load1 tabOk rfl rfl (by first|(apply Or.inl;(repeat first|assumption|exact m0|apply m1);done)|(apply Or.inr;(repeat first|assumption|exact m0|apply m1);done)) List.not_mem_nil (by rfl)) rfl rfl ?_
  refine SL.val (Val.move rfl) rfl rfl ?_
  refine SL.val (Val.mapGetOk (a := who) (zv := (.int .i64 0)) (C := erA (aget m who)) (int_fit Try.underlying3) Try.underlying111 er_zero rfl (by first|(apply Or.inl;(repeat first|assumption|exact m0|apply m1);done)|(apply Or.inr;(repeat first|assumption|exact m0|apply m1);done)) List.not_mem_nil rfl is_v hw (erA_is _)) rfl rfl ?_
  refine SL.val (Val.move rfl) rfl rfl ?_
  refine SL.val (Val.extract rfl rfl) rfl rfl ?_
  refine SL.val (Val.extract rfl rfl) rfl rfl ?_
  refine SL.val (Val.assign rfl) rfl rfl ?_
  refine SL.val (Val.assign rfl) rfl rfl ?_
  refine SL.nil (SE.seq ?_)
  refine SC.seq (SC.region ?_)
  refine SL.val (Val.move rfl) rfl rfl ?_
  refine SL.nil (SE.seq ?_)
  refine SC.cond rfl ?_ ?_
  · intro hc20
    obtain ⟨v, hv⟩ := isSome_some hc20
    rw [hv]
    refine SC.seq (SC.region ?_)
    refine SL.val (Val.move rfl) rfl rfl ?_
    refine SL.val (Val.move rfl) rfl rfl ?_
    refine SL.val (Val.eqI rfl rfl) rfl rfl ?_
    refine SL.val (Val.assign rfl) rfl rfl ?_
    refine SL.nil (SE.seq ?_)
    refine SC.ret ?_
    refine SE.then_ (by intro h; cases h) ?_
    refine SE.fin (rs := [.tmp 6]) rfl (RV.tmp rfl RV.nil) (()) (by rw [tAddC_old hv, tAddM_old hv]; exact List.Sublist.refl _) (by simp [It.rids]) ?_
    exact congrArg (fun b => Abs.v (Value.bool b)) (tAddB_old hv).symm
  intro hc20
  have hv := isSome_none hc20
  refine SC.skip ?_
  refine SE.seq ?_
  refine SC.seq (SC.region ?_)
  refine SL.val (Val.move rfl) rfl rfl ?_
  refine SL.val (Val.move rfl) rfl rfl ?_
  refine SL.val (Val.move rfl) rfl rfl ?_
  refine SL.call (er_change_s (t := t) (bv := bv) (bn := bn) hw hti hl hk hok) Casts.refl (by kernel_rfl) rfl rfl rfl ?_
  refine After.three ⟨rfl, rfl, rfl⟩ (fun _ => rfl) ?_
  intro _
  refine SL.nil (SE.seq ?_)
  refine SC.seq (SC.region ?_)
  refine SL.val (Val.assign rfl) rfl rfl ?_
  refine SL.nil (SE.seq ?_)
  refine SC.ret ?_
  refine SE.fin (rs := [.tmp 6]) rfl (RV.tmp rfl RV.nil) (()) (by rw [tAddC_new hv, tAddM_new hv]; exact List.Sublist.refl _) (by simp [It.rids]) ?_
  exact congrArg (fun b => Abs.v (Value.bool b)) (tAddB_new hv).symm
end
section
variable {t bv bn : Nat} {m : List (Int × Int)} {c : List (Int × Nat)} {k who : Int}
end
end Go.Proofs.Ytmkijjmbiiiicaa.A
/-
  The second engine: what slices.Insert does with a row of the call's own: cut, grown, copied within.
-/
set_option maxRecDepth 100000
set_option linter.unusedSimpArgs false
set_option linter.unusedVariables false
namespace Go.Proofs.Ytmkijjmbiiiicaa.A
open Go.RowKit

/-- 's[q:]'. -/
def cutS (s : Nat) : Value → Nat → Value
  | .slice (some a) n c, q => .slice (some (if c = q then a else ⟨a.block, a.off + q * s, none⟩)) (n - q) (c - q)
  | .slice none n c, q => .slice none (n - q) (c - q)
  | v, _ => v
section
variable {P : Program} {n : Nat} {W : Wd} {σ τ : Blks} {l : Slots} {X : List Nat} {x y : Operand} {d : Option Nat} {ty t t' e e' : TypeId} {pos : String} {aft : Array Edge} {g : Option (Nat × Bool)} {v u : Value} {k : IntKind} {tab : List (Nat × TI)} {xs ys : List (List Abs)} {s q : Nat} {ops : Array Oper} {rest : List Oper} {Q : Exit → Act → World → Prop}
end
section
variable {xs js : List (List Abs)} {y : List Abs} {i : Nat}
end
end Go.Proofs.Ytmkijjmbiiiicaa.A
/-
  '==' on cores.
-/
set_option maxRecDepth 100000
set_option linter.unusedSimpArgs false
set_option linter.unusedVariables false
namespace Go.Proofs.Ytmkijjmbiiiicaa.A
open Go.RowKit

/-- What comes in of a core. -/
def Core.ins (c : Core) : Prop := InR .i64 c.client ∧ InR .i64 c.stamp ∧ InR .i64 c.op ∧ InR .i64 c.a ∧ InR .i64 c.b ∧ c.letter.size ≤ maxLen ∧ c.text.size ≤ maxLen
theorem wfIc {a : Int} (h : InR .i64 a) : (Lit.int .i64 a).wf = true := by
  obtain ⟨h0, h1⟩ := h
  simp only [lo, hi] at h0 h1
  simp [Lit.wf, IntKind.min, IntKind.max, IntKind.signed, IntKind.bits]; omega
def Core.lits (c : Core) : List Lit := [.int .i64 c.client, .int .i64 c.stamp, .int .i64 c.op, .string c.letter.data.toList, .int .i64 c.a, .int .i64 c.b, .string c.text.data.toList]
theorem core_lits (c : Core) (h : Core.ins c) : Try.prog.keyLits 4 33 c.cells = some (Core.lits c) := by
  obtain ⟨a1, a2, a3, a4, a5, h6, h7⟩ := h
  have h1 := wfIc a1
  have h2 := wfIc a2
  have h3 := wfIc a3
  have h4 := wfIc a4
  have h5 := wfIc a5
  have c2 : Try.prog.cellsOf 33 = 7 := by kernel_rfl
  have c3 : Try.prog.cellsOf 9 = 1 := by kernel_rfl
  have c4 : Try.prog.cellsOf 3 = 1 := by kernel_rfl
  have c5 : Try.prog.cellsOf 2 = 1 := by kernel_rfl
  simp [Program.keyLits, Try.underlying33, Try.underlying9, Try.underlying3, Try.underlying2, c2, c3, c4, c5, Core.cells, Core.lits, h1, h2, h3, h4, h5, h6, h7]
theorem core_formed (c : Core) : (Value.agg c.cells.toArray).formed Try.prog 33 = true := by kernel_rfl
theorem ba_of_data {a b : ByteArray} (h : a.data.toList = b.data.toList) : a = b := by
  cases a; cases b; simp at h; simp [h]
theorem Core.lits_inj {c d : Core} (h : Core.lits c = Core.lits d) : c = d := by
  simp only [Core.lits, List.cons.injEq, Lit.string.injEq, Lit.int.injEq, true_and, and_true] at h
  obtain ⟨h1, h2, h3, h4, h5, h6, h7⟩ := h
  obtain ⟨a1, a2, a3, a4, a5, a6, a7⟩ := c
  obtain ⟨b1, b2, b3, b4, b5, b6, b7⟩ := d
  simp only [Core.mk.injEq]
  exact ⟨h1, h2, h3, ba_of_data h4, h5, h6, ba_of_data h7⟩
noncomputable instance : DecidableEq Core := fun _ _ => Classical.propDecidable _
theorem neqCo {c d : Core} (hc : Core.ins c) (hd : Core.ins d) (w : World) : (binOp .neq 33 (.agg c.cells.toArray) (.agg d.cells.toArray)).run Try.prog w = .ok (.bool (decide (c ≠ d))) w :=
  run_neq_lits (m := 10) (by decide) (by kernel_rfl) (core_formed c) (core_formed d) (by simpa using core_lits c hc) (by simpa using core_lits d hd) _ (by
    rw [decide_eq_true_eq]
    exact ⟨fun h h2 => h (Core.lits_inj h2), fun h h2 => h (by rw [h2])⟩) w
theorem eqCo {c d : Core} (hc : Core.ins c) (hd : Core.ins d) (w : World) : (binOp .eql 33 (.agg c.cells.toArray) (.agg d.cells.toArray)).run Try.prog w = .ok (.bool (decide (c = d))) w :=
  run_eql_lits (m := 10) (by decide) (by kernel_rfl) (core_formed c) (core_formed d) (by simpa using core_lits c hc) (by simpa using core_lits d hd) _ (by
    rw [decide_eq_true_eq]
    exact ⟨fun h => by rw [h], fun h => Core.lits_inj h⟩) w
theorem core_plains (c : Core) : plains (c.cells.map .v) = some c.cells := by
  have h := plains_map (fun x : Value => x) c.cells
  simpa using h
end Go.Proofs.Ytmkijjmbiiiicaa.A
