/-
  Packed out of the texts: A16, A19, TM1, LayS, TGlob, TLaw, Money, Letter, LetterDo, LetterStep, Oc, Idx.
-/
import Derived.Test.YtickdhjljpnlpaaGreatDoorR05
import Derived.Shelf.Strconv.ErrVarAll
import Derived.Shelf.Strconv.Itoa3
import Derived.Test.YtickdhjljpnlpaaGreatDoorProg
import Derived.Lib.AtoiTie
import Derived.Test.YtickdhjljpnlpaaGreatDoorTie
import Derived.Lay
import Derived.LaidMore
import Derived.Stop.LaidErr
import Derived.Stop.Joined
import Derived.SevenTiedAt
set_option maxRecDepth 100000
set_option linter.unusedSimpArgs false
set_option linter.unusedVariables false
namespace Go.Proofs.YtickdhjljpnlpaaGreatDoor.A
open Go.RowKit
def cutTo : Value → Nat → Value
  | .slice a _ c, q => .slice a q c
  | v, _ => v
theorem hR_ (v : Value) (q : Nat) : (cutTo v q).ownBlock = v.ownBlock := by
  unfold cutTo
  split
  · next a n c => cases a <;> rfl
  · rfl
section
variable {P : Program} {n : Nat} {W : Wd} {σ τ : Blks} {l : Slots} {X : List Nat} {x y z : Operand} {d : Option Nat} {ty t e e' : TypeId} {pos : String} {aft : Array Edge} {g : Option (Nat × Bool)} {v u : Value} {k : IntKind} {tab : List (Nat × TI)} {xs ys : List (List Abs)} {s q : Nat} {ops : Array Oper} {rest : List Oper} {Q : Exit → Act → World → Prop}
theorem c4_ (hT : TabOk P tab) {j : TI} (hu : P.underlying t = some (.slice e)) (hj : ti tab e = some j) (hx : look l x = some (.v v)) (hb : isOwn σ e' s v xs) {r : Int} (hy : look l y = some (.v (.int k r))) (hr : r = (q : Nat)) (hq : q ≤ xs.length) :
    Val P n W σ l X ⟨d, .slice t x none (some y) none, ty, pos, aft, g⟩ (.v (cutTo v q)) := fun a w hs _ => by
  subst hr
  obtain ⟨us, hr1, hr2⟩ := hs.mem.ownR hb
  obtain ⟨A', c, hsh, h3, _⟩ := hr1.shape
  refine ⟨_, rfl, fun w' _ => ?_⟩
  have h7 := (hT _ _ hj).sizeOf (w := w')
  have e1 : a.eval x = .slice A' xs.length c := (hs.plain hx).trans hsh
  have e2 : a.eval y = .int k ((q : Nat) : Int) := hs.plain hy
  rw [hsh]
  have hqc : q ≤ c := by omega
  simp [execOp, Instr.sliceAt, Instr.slice, Instr.sliceBounds, Instr.sliceBound, asIntOf, e1, e2, run_underlying hu, Sem.run_bind, Result.andThen, h7, hqc, Addr.add, cutTo]
  try (cases A' <;> simp)
theorem gz_ {K : List Nat} {w : World} {z : Value} : ∀ m : Nat, repss K w 1 (List.replicate m [.v z]) (List.replicate m z)
  | 0 => rfl
  | m + 1 => ⟨[z], List.replicate m z, rfl, rfl, ⟨z, [], rfl, rfl, rfl⟩, gz_ m⟩
end
section
variable {P : Program} {n : Nat} {W : Wd} {σ σ0 : Blks} {l : Slots} {X0 : List Nat} {ops : Array Oper} {Q : Exit → Act → World → Prop} {ix : Plan} {o : Oper}
theorem cE_ (ν : Blks) (X0 : List Nat) {i : Nat} {Y : List Nat} {R : Abs → Blks → Prop} (hi : ops[i]? = some o) (hv : Eff P n W σ l Y o R) (hσ : σ = ν ++ σ0) (hY : ∀ k ∈ Y, k ∈ mids ν ++ X0) (hg : gd ops l o = some true) (hd : lt? o.dst n = true)
    (k : ∀ y τ, R y τ → ∃ ν' : Blks, τ = ν' ++ σ0 ∧ SX P ops ix (mids ν' ++ X0) (St n W τ (put? l o.dst y)) Q) : SX P ops (.e i ix) (mids ν ++ X0) (St n W σ l) Q := fun a w hs => by
  unfold planW wpOp
  simp only [hi, hs.wanted hg, if_true]
  refine .inl ?_
  unfold Oper.wp
  obtain ⟨v, w', y, τ, hR, hx, hr, hm, hc, hrun⟩ := hv a w hs
  obtain ⟨ν', hτ, hk⟩ := k y τ hR
  have hnew : ∀ k ∈ mids ν' ++ X0, k ∈ mids ν ++ X0 ∨ w.heap.size ≤ k := fun k hk => by
    rcases List.mem_append.1 hk with hk | hk
    · have hkt : k ∈ mids τ := by rw [hτ, ak_]; exact List.mem_append_left _ hk
      rcases Nat.lt_or_ge k w.heap.size with h1 | h1
      · have h2 : k ∈ mids σ ++ W.G := Classical.byContradiction fun hn => hc.out k hn h1 (List.mem_append_left _ hkt)
        rcases List.mem_append.1 h2 with h2 | h2
        · rw [hσ, ak_] at h2
          rcases List.mem_append.1 h2 with h2 | h2
          · exact .inl (List.mem_append_left _ h2)
          · have hnd := hm.nodup
            rw [hτ, ak_, List.nodup_append] at hnd
            exact absurd rfl (hnd.2.2 k hk k h2)
        · exact absurd h2 (hm.sep k hkt)
      · exact .inr h1
    · exact .inl (List.mem_append_right _ hk)
  have hinv : ∀ w2, Ext (mids ν' ++ X0) w' w2 → Ext (mids ν ++ X0) w w2 := fun w2 h2 => (hx.mono (fun k hk => .inl (hY k hk))).trans h2 hnew
  rcases hrun with hrun | ⟨rfl, hrun⟩
  · rw [hrun]; exact ⟨fun w2 => Ext (mids ν' ++ X0) w' w2, hinv, Ext.refl w', hk _ _ ((hs.to hm hc).put hd hr)⟩
  · rw [hrun]; exact ⟨fun w2 => Ext (mids ν' ++ X0) w' w2, hinv, Ext.refl w', hk _ _ ((hs.to hm hc).put hd hr)⟩
theorem dK_ {e : TypeId} {s : Nat} {v : Value} {xs : List (List Abs)} {ν : Blks} (h : own e s v xs ∈ ν) : ∀ k ∈ v.ownBlock.toList, k ∈ mids ν ++ [] := fun k hk => by
  rw [List.append_nil]
  exact a2_.2 ⟨_, h, hk⟩
end
theorem dU_ {P : Program} {n : Nat} {W : Wd} {σ : Blks} {l : Slots} {Y : List Nat} {o : Oper} {e : TypeId} {s : Nat} {zs : List (List Abs)} (pre : Blks) {post : Blks} (hE : Eff P n W σ l Y o fun r τ => ∃ u, r = .v u ∧ τ = pre ++ own e s u zs :: post) : Eff P n W σ l Y o fun r τ => r = .sl s zs ∧ τ = pre ++ post := fun a w h => by
  obtain ⟨v, w', y, τ, ⟨u, rfl, rfl⟩, hx, hr, hm, hc, hrun⟩ := hE a w h
  have hv : v = u := hr
  subst hv
  have hs := hm.sub (τ := pre ++ post) (List.Sublist.append (List.Sublist.refl _) (List.sublist_cons_self _ _))
  exact ⟨v, w', _, _, ⟨rfl, rfl⟩, hx, kg_ hm, hs.1, hc.trans hs.2, hrun⟩
theorem Re.cast {b : Nat} {t : TypeId} {cs ds : List Abs} (h : Casts cs ds) : Re [.blk b t cs] [.blk b t ds] := ⟨⟨[], by simp [mids, It.mids]⟩, by simp [It.rids], fun K w hx y hy => by
  rw [List.mem_singleton.1 hy]
  obtain ⟨us, h1, h2⟩ := hx (.blk b t cs) (by simp)
  exact ⟨us, h1, h K w us h2⟩⟩
theorem Re.cons {xs ys : Blks} {x : It} (hx : x.rids = []) (h : Re xs ys) : Re (x :: xs) (x :: ys) where
  ids := by
    obtain ⟨a, ha⟩ := h.ids
    refine ⟨a, ?_⟩
    rw [aB_, aB_, List.append_assoc]
    exact List.Perm.append_left _ ha
  rd := fun y hy => by
    rcases List.mem_cons.1 hy with rfl | hy
    · exact hx
    · exact h.rd y hy
  hh := fun K w hk y hy => by
    rcases List.mem_cons.1 hy with rfl | hy
    · exact hk _ List.mem_cons_self
    · exact h.hh K w (fun z hz => hk z (List.mem_cons_of_mem _ hz)) y hy
theorem Re.perm {xs ys : Blks} (h : xs.Perm ys) (hr : ∀ x ∈ xs, x.rids = []) : Re xs ys := ⟨⟨[], by rw [List.append_nil]; exact cv_ h⟩, fun y hy => hr y (h.mem_iff.2 hy), fun K w hx y hy => hx y (h.mem_iff.2 hy)⟩
abbrev stA (l : Txt) : Abs := .v (.string ⟨l.toArray⟩)
theorem bo_ (l : Txt) : (ByteArray.mk l.toArray).size = l.length := by simp [ByteArray.size]
theorem eo_ (l : Txt) (q : Nat) : Abs.v (.string ((ByteArray.mk l.toArray).extract q (ByteArray.mk l.toArray).size)) = stA (l.drop q) :=
  congrArg (fun s => Abs.v (.string s)) (ek_ (by rw [tx_lo, fL_, fL_]))
theorem st_hi (l : Txt) (q : Nat) : Abs.v (.string ((ByteArray.mk l.toArray).extract 0 q)) = stA (l.take q) :=
  congrArg (fun s => Abs.v (.string s)) (ek_ (by rw [tx_hi, fL_, fL_]))
theorem jf_ {l m : Txt} : (ByteArray.mk l.toArray = ByteArray.mk m.toArray) ↔ l = m := by
  constructor
  · intro h
    have := congrArg tx h
    rwa [fL_, fL_] at this
  · rintro rfl; rfl
theorem iU_ {l : Txt} (h : l.length = 0) : bare l = l := by rw [List.length_eq_zero_iff.1 h]; rfl
theorem k6_ {l : Txt} (hq : 0 < l.length) (h : ¬ ((l[0]'hq).toNat : Int) = 32) : bare l = l := by
  cases l with
  | nil => rfl
  | cons c t => exact if_neg fun e => h (by rw [show (c :: t)[0] = c from rfl, e]; rfl)
theorem iT_ {l : Txt} (hq : 0 < l.length) (h : ((l[0]'hq).toNat : Int) = 32) : bare (l.drop 1) = bare l := by
  cases l with
  | nil => simp at hq
  | cons c t =>
    have e : c = 32 := by
      have h1 : c.toNat = 32 := by have h2 : ((c.toNat : Nat) : Int) = 32 := h; omega
      exact UInt8.toNat_inj.1 h1
    exact (if_pos e).symm
def psA (l : Txt) (odd : Bool) : List Abs := [stA l, boo odd]
def takeT (l wd : Txt) : Txt := if begins (bare l) wd = true then (bare l).drop wd.length else bare l
section
variable {l wd : Txt} {odd : Bool} {p : Nat}
theorem ja_  : Spec Tryz.prog 154 [stA l, .v (.int .u8 32)] [] (fun _ : Unit => []) (fun _ => stA (bare l)) := by
 refine F_ Tryz.func154 rfl Tryz.ntmps154 rfl fun G w =>d_<|a_<|q_ 1 rfl<|g_<|c_<|d_<|y_<|ae_ (ι := Txt) (fun z => []) (fun z => [(0, stA z), (1, .v (.int .u8 32))]) (fun z => bare z = bare l) (fun z => z.length) (l) (rfl) (by exact ⟨rfl, rfl, trivial⟩) sn_ ?_
 intro z hz
 refine d_<|d_<|a_<|q_ 1 rfl<|b_ (l_ (C := int ((z.length : Nat) : Int)) (ao_ rfl Tryz.underlying9) rfl) rfl rfl<|q_ 2 rfl<|z_ (t := 8) rfl ?_ ?_
 rotate_left
 ·intro hc8
  refine q_ 5 rfl<|g_<|c_<|ad_ rfl<|W_<|h_ nofun<|h_ nofun<|V_<|c_<|d_<|a_<|q_ 2 rfl<|g_<|c_<|m_<|f_ (rs := [.tmp 4]) rfl (RV.tmp rfl RV.nil) (()) sn_ ?_
  (rw [← hz, iU_ (by omega)]; rfl)
 intro hc8
 have hq : 0 < z.length := by omega
 refine q_ 1 rfl<|b_ (l_ (C := .v (.int .u8 ((z[0]'hq).toNat : Nat))) (ar_ (s := ⟨z.toArray⟩) (q := 0) rfl rfl rfl hq Tryz.underlying9) rfl) rfl rfl<|q_ 3 rfl<|g_<|c_<|o_ rfl ?_ ?_
 ·intro hc13
  refine p_<|c_<|y_<|a_<|q_ 1 rfl<|b_ (l_ (C := stA (z.drop 1)) (aG_ (q := 1) Tryz.underlying9 rfl rfl rfl (by simp only [bo_]; omega)) (eo_ _ _)) rfl rfl ?_
  refine q_ 1 rfl<|g_<|u_<|G_ (z.drop 1) (by rw [List.length_drop]; omega) ((iT_ hq hc13).trans hz) (by exact ⟨rfl, rfl, trivial⟩) sn_
 intro hc13
 refine W_<|h_ nofun<|h_ nofun<|V_<|c_<|d_<|a_<|q_ 2 rfl<|g_<|c_<|m_<|f_ (rs := [.tmp 4]) rfl (RV.tmp rfl RV.nil) (()) sn_ ?_
 (rw [← hz, k6_ hq hc13]; rfl)
theorem i9_  : Spec Tryz.prog 139 [stA l, stA [32]] [] (fun _ : Unit => []) (fun _ => stA (bare l)) := by
 refine F_ Tryz.func139 rfl Tryz.ntmps139 rfl fun G w =>d_<|a_<|q_ 1 rfl<|g_<|c_<|d_<|d_<|a_<|q_ 1 rfl<|b_ (cC_ rfl rfl) rfl rfl<|q_ 1 rfl<|z_ (t := 9) rfl ?_ ?_
 ·intro hc9
  refine q_ 3 rfl<|g_<|c_<|M_ rfl<|d_<|a_<|q_ 2 rfl<|g_<|c_<|m_<|h_ nofun<|f_ (rs := [.tmp 4]) rfl (RV.tmp rfl RV.nil) (()) sn_ ?_
  rw [show l = [] from jf_.1 hc9]
  rfl
 intro hc9
 refine q_ 1 rfl<|b_ (l_ (C := boo false) (cC_ rfl rfl) (congrArg (fun b => Abs.v (Value.bool b)) (decide_eq_false (by decide)))) rfl rfl ?_
 refine q_ 1 rfl<|g_<|c_<|ad_ rfl<|p_<|c_<|d_<|d_<|a_<|q_ 1 rfl<|b_ (l_ (C := int 1) (ao_ rfl Tryz.underlying9) rfl) rfl rfl<|b_ (l_ (C := boo true) (al_ rfl rfl) (congrArg (fun b => Abs.v (Value.bool b)) (decide_eq_true (rfl)))) rfl rfl<|q_ 2 rfl<|b_ (l_ (C := .v (.int .u8 32)) (ar_ (q := 0) rfl rfl rfl (by decide) Tryz.underlying9) rfl) rfl rfl ?_
 refine b_ (l_ (C := boo true) (aI_ rfl rfl) (congrArg (fun b => Abs.v (Value.bool b)) (decide_eq_true (by decide)))) rfl rfl ?_
 refine q_ 1 rfl<|g_<|c_<|M_ rfl<|d_<|a_<|q_ 2 rfl<|b_ (l_ (C := .v (.int .u8 32)) (ar_ (q := 0) rfl rfl rfl (by decide) Tryz.underlying9) rfl) rfl rfl ?_
 refine s_ (ja_ (l := l)) Casts.refl (by kernel_rfl) rfl rfl rfl ?_
 exact ap_<|fun _=>q_ 1 rfl<|g_<|c_<|m_<|h_ nofun<|f_ (rs := [.tmp 4]) rfl (RV.tmp rfl RV.nil) (()) sn_<|rfl
theorem hL_  : Spec Tryz.prog 176 [stA l, stA wd] [] (fun _ : Unit => []) (fun _ => boo (begins l wd)) := by
 refine F_ Tryz.func176 rfl Tryz.ntmps176 rfl fun G w =>d_<|a_<|q_ 1 rfl<|g_<|c_<|d_<|a_<|q_ 1 rfl<|b_ (l_ (C := int ((l.length : Nat) : Int)) (ao_ rfl Tryz.underlying9) rfl) rfl rfl<|q_ 1 rfl<|b_ (l_ (C := int ((wd.length : Nat) : Int)) (ao_ rfl Tryz.underlying9) rfl) rfl rfl<|q_ 2 rfl<|z_ (t := 10) rfl ?_ ?_
 ·intro hc10
  refine q_ 2 rfl<|b_ (l_ (C := int ((wd.length : Nat) : Int)) (ao_ rfl Tryz.underlying9) rfl) rfl rfl<|b_ (l_ (C := stA (l.take wd.length)) (ck_ (q := wd.length) Tryz.underlying9 rfl rfl rfl (by simp only [bo_]; omega)) (st_hi _ _)) rfl rfl ?_
  refine q_ 1 rfl<|b_ (l_ (C := boo (decide (l.take wd.length = wd))) (cC_ rfl rfl) (congrArg (fun b => Abs.v (Value.bool b)) (decide_eq_decide.2 (jf_)))) rfl rfl<|q_ 2 rfl<|g_<|c_<|m_<|f_ (rs := [.tmp 4]) rfl (RV.tmp rfl RV.nil) (()) sn_<|congrArg (fun b => Abs.v (Value.bool b)) ?_
  rw [Bool.eq_iff_iff, cb_]
  (rw [decide_eq_true_iff]; exact ⟨fun h => ⟨by omega, h⟩, fun h => h.2⟩)
 intro hc10
 refine q_ 8 rfl<|g_<|c_<|m_<|f_ (rs := [.tmp 4]) rfl (RV.tmp rfl RV.nil) (()) sn_<|congrArg (fun b => Abs.v (Value.bool b)) ?_
 rw [Bool.eq_iff_iff, cb_]
 exact ⟨fun h => (by cases h), fun h => absurd h.1 (by omega)⟩
theorem g5_  : Spec Tryz.prog 165 [stA l, stA wd] [] (fun _ : Unit => []) (fun _ => .tup [stA (if begins l wd = true then l.drop wd.length else l), boo (begins l wd)]) := by
 refine F_ Tryz.func165 rfl Tryz.ntmps165 rfl fun G w =>d_<|a_<|q_ 2 rfl<|g_<|c_<|d_<|d_<|a_<|q_ 2 rfl<|s_ (hL_ (l := l) (wd := wd)) Casts.refl (by kernel_rfl) rfl rfl rfl ?_
 refine ap_<|fun _=>b_ (aj_ rfl) rfl rfl<|g_<|c_<|X_ rfl ?_ ?_
 ·intro hc9
  have hbg : begins l wd = false := by simpa using hc9
  refine d_<|a_<|q_ 3 rfl<|g_<|c_<|m_<|h_ nofun<|f_ (rs := [.tmp 4, .tmp 5]) rfl (RV.tmp rfl (RV.tmp rfl RV.nil)) (()) sn_ ?_
  rw [hbg]
  rfl
 intro hc9
 have hbg : begins l wd = true := by simpa using hc9
 have hlw := a5_ hbg
 refine p_<|c_<|d_<|a_<|q_ 2 rfl<|b_ (l_ (C := int ((wd.length : Nat) : Int)) (ao_ rfl Tryz.underlying9) rfl) rfl rfl<|b_ (l_ (C := stA (l.drop wd.length)) (aG_ (q := wd.length) Tryz.underlying9 rfl rfl rfl (by simp only [bo_]; omega)) (eo_ _ _)) rfl rfl ?_
 refine q_ 2 rfl<|g_<|c_<|m_<|f_ (rs := [.tmp 4, .tmp 5]) rfl (RV.tmp rfl (RV.tmp rfl RV.nil)) (()) sn_ ?_
 rw [hbg]
 rfl
theorem hS_  : Spec Tryz.prog 151 [stA l, stA wd] [] (fun _ : Unit => []) (fun _ => .tup [stA (if begins l wd = true then l.drop wd.length else l), boo (begins l wd)]) := by
 refine F_ Tryz.func151 rfl Tryz.ntmps151 rfl fun G w =>d_<|a_<|q_ 2 rfl<|g_<|c_<|d_<|a_<|q_ 2 rfl<|s_ (g5_ (l := l) (wd := wd)) Casts.refl (by kernel_rfl) rfl rfl rfl ?_
 exact ap_<|fun _=>q_ 4 rfl<|g_<|c_<|m_<|f_ (rs := [.tmp 4, .tmp 5]) rfl (RV.tmp rfl (RV.tmp rfl RV.nil)) (()) sn_<|rfl
theorem ge_  : Spec Tryz.prog 119 [ptr p] [.blk p 158 (psA (l) odd)] (fun _ : Unit => [.blk p 158 (psA (bare l) odd)]) (fun _ => .tup []) := by
 refine F_ Tryz.func119 rfl Tryz.ntmps119 rfl fun G w =>a_<|q_ 4 rfl<|b_ (i_ tabOk rfl rfl l0_ List.not_mem_nil rfl) rfl rfl<|s_ (i9_ (l := l)) Casts.refl (by kernel_rfl) rfl rfl rfl ?_
 refine ap_<|fun _=>q_ 2 rfl<|e_ (n_ (L' := psA (bare l) odd) tabOk rfl rfl rfl u0_ rfl (Nat.le_of_ble_eq_true rfl) rfl rfl) rfl rfl<|g_<|SE.finN (rs := []) rfl RV.nil (()) sr_ (by simp [It.rids]) ?_
 exact rfl
theorem e8_  : Spec Tryz.prog 136 [ptr p, stA wd] [.blk p 158 (psA (l) odd)] (fun _ : Unit => [.blk p 158 (psA (takeT l wd) odd)]) (fun _ => boo (begins (bare l) wd)) := by
 refine F_ Tryz.func136 rfl Tryz.ntmps136 rfl fun G w =>d_<|a_<|q_ 1 rfl<|g_<|c_<|d_<|a_<|q_ 1 rfl<|s_ (ge_ (p := p) (l := l) (odd := odd)) Casts.refl (by kernel_rfl) rfl rfl rfl ?_
 refine A_ rfl i0_ (fun _ => rfl)<|fun _=>⟨_, u0_, g_<|c_<|d_<|a_<|q_ 3 rfl<|b_ (i_ tabOk rfl rfl l0_ List.not_mem_nil rfl) rfl rfl<|q_ 1 rfl<|s_ (hS_ (l := bare l) (wd := wd)) Casts.refl (by kernel_rfl) rfl rfl rfl ?_⟩
 refine ap_<|fun _=>q_ 5 rfl<|g_<|c_<|d_<|d_<|a_<|q_ 1 rfl<|g_<|c_<|X_ rfl ?_ ?_
 rotate_left
 ·intro hc18
  refine p_<|c_<|d_<|a_<|q_ 2 rfl<|g_<|c_<|m_<|f_ (rs := [.tmp 4]) rfl (RV.tmp rfl RV.nil) (()) (by unfold takeT; (rw [if_neg (by simp only [*]; decide)]; exact List.Sublist.refl _)) ?_
  exact rfl
 intro hc18
 refine a_<|q_ 4 rfl<|e_ (n_ (L' := psA (if begins (bare l) wd = true then (bare l).drop wd.length else bare l) odd) tabOk rfl rfl rfl u0_ rfl (Nat.le_of_ble_eq_true rfl) rfl rfl) rfl rfl<|g_<|c_<|d_<|a_<|q_ 2 rfl<|g_<|c_<|m_<|f_ (rs := [.tmp 4]) rfl (RV.tmp rfl RV.nil) (()) (by unfold takeT; exact List.Sublist.refl _) ?_
 exact rfl
theorem c9_  : Spec Tryz.prog 108 [stA l] [] (fun _ : Unit => []) (fun _ => stA (bare l)) := by
 refine F_ Tryz.func108 rfl Tryz.ntmps108 rfl fun G w =>d_<|a_<|q_ 1 rfl<|g_<|c_<|d_<|y_<|ae_ (ι := Txt) (fun z => []) (fun z => [(0, stA z)]) (fun z => bare z = bare l) (fun z => z.length) (l) (rfl) (by exact ⟨rfl, trivial⟩) sn_ ?_
 intro z hz
 refine d_<|d_<|a_<|q_ 1 rfl<|b_ (l_ (C := int ((z.length : Nat) : Int)) (ao_ rfl Tryz.underlying9) rfl) rfl rfl<|q_ 2 rfl<|z_ (t := 6) rfl ?_ ?_
 rotate_left
 ·intro hc6
  refine q_ 4 rfl<|g_<|c_<|ad_ rfl<|W_<|h_ nofun<|h_ nofun<|V_<|c_<|d_<|a_<|q_ 2 rfl<|g_<|c_<|m_<|f_ (rs := [.tmp 2]) rfl (RV.tmp rfl RV.nil) (()) sn_ ?_
  (rw [← hz, iU_ (by omega)]; rfl)
 intro hc6
 have hq : 0 < z.length := by omega
 refine q_ 1 rfl<|b_ (l_ (C := .v (.int .u8 ((z[0]'hq).toNat : Nat))) (ar_ (s := ⟨z.toArray⟩) (q := 0) rfl rfl rfl hq Tryz.underlying9) rfl) rfl rfl<|q_ 2 rfl<|g_<|c_<|o_ rfl ?_ ?_
 ·intro hc10
  refine p_<|c_<|y_<|a_<|q_ 1 rfl<|b_ (l_ (C := stA (z.drop 1)) (aG_ (q := 1) Tryz.underlying9 rfl rfl rfl (by simp only [bo_]; omega)) (eo_ _ _)) rfl rfl ?_
  refine q_ 1 rfl<|g_<|u_<|G_ (z.drop 1) (by rw [List.length_drop]; omega) ((iT_ hq hc10).trans hz) (by exact ⟨rfl, trivial⟩) sn_
 intro hc10
 refine W_<|h_ nofun<|h_ nofun<|V_<|c_<|d_<|a_<|q_ 2 rfl<|g_<|c_<|m_<|f_ (rs := [.tmp 2]) rfl (RV.tmp rfl RV.nil) (()) sn_ ?_
 (rw [← hz, k6_ hq hc10]; rfl)
theorem bH_  : Spec Tryz.prog 127 [stA l, stA wd] [] (fun _ : Unit => []) (fun _ => boo (begins l wd)) := by
 refine F_ Tryz.func127 rfl Tryz.ntmps127 rfl fun G w =>d_<|a_<|q_ 1 rfl<|g_<|c_<|d_<|a_<|q_ 1 rfl<|b_ (l_ (C := int ((l.length : Nat) : Int)) (ao_ rfl Tryz.underlying9) rfl) rfl rfl<|q_ 1 rfl<|b_ (l_ (C := int ((wd.length : Nat) : Int)) (ao_ rfl Tryz.underlying9) rfl) rfl rfl<|q_ 2 rfl<|z_ (t := 10) rfl ?_ ?_
 ·intro hc10
  refine q_ 2 rfl<|b_ (l_ (C := int ((wd.length : Nat) : Int)) (ao_ rfl Tryz.underlying9) rfl) rfl rfl<|b_ (l_ (C := stA (l.take wd.length)) (ck_ (q := wd.length) Tryz.underlying9 rfl rfl rfl (by simp only [bo_]; omega)) (st_hi _ _)) rfl rfl ?_
  refine q_ 1 rfl<|b_ (l_ (C := boo (decide (l.take wd.length = wd))) (cC_ rfl rfl) (congrArg (fun b => Abs.v (Value.bool b)) (decide_eq_decide.2 (jf_)))) rfl rfl<|q_ 2 rfl<|g_<|c_<|m_<|f_ (rs := [.tmp 4]) rfl (RV.tmp rfl RV.nil) (()) sn_<|congrArg (fun b => Abs.v (Value.bool b)) ?_
  rw [Bool.eq_iff_iff, cb_]
  (rw [decide_eq_true_iff]; exact ⟨fun h => ⟨by omega, h⟩, fun h => h.2⟩)
 intro hc10
 refine q_ 8 rfl<|g_<|c_<|m_<|f_ (rs := [.tmp 4]) rfl (RV.tmp rfl RV.nil) (()) sn_<|congrArg (fun b => Abs.v (Value.bool b)) ?_
 rw [Bool.eq_iff_iff, cb_]
 exact ⟨fun h => (by cases h), fun h => absurd h.1 (by omega)⟩
end
end Go.Proofs.YtickdhjljpnlpaaGreatDoor.A
namespace Go.Proofs.YtickdhjljpnlpaaGreatDoor
open Go.Shelf Go.RowKit
def atoiR : Ren := ⟨fun | 172 => 152 | 244 => 166 | 245 => 167 | 247 => 177 | 279 => 178 | 280 => 179 | 281 => 180 | 282 => 181 | 287 => 186 | 316 => 187 | 171 => 153 | 205 => 188 | 321 => 197 | 322 => 198 | 243 => 168 | 246 => 182 | 283 => 189 | 284 => 190 | 285 => 191 | 286 => 192 | 129 => 200 | 317 => 199 | 318 => 201 | 319 => 202 | 320 => 203 | 337 => 205 | 338 => 206 | n => n, fun | 9 => 9 | 3 => 3 | 75 => 192 | 76 => 193 | 4 => 4 | 5 => 5 | 167 => 213 | 37 => 31 | 0 => 0 | 85 => 214 | 2 => 2 | 168 => 216 | 53 => 79 | 175 => 222 | 46 => 91 | 210 => 225 | 127 => 239 | 145 => 242 | 143 => 240 | 21 => 21 | 171 => 227 | 173 => 230 | 212 => 244 | 51 => 64 | 20 => 20 | 213 => 245 | 232 => 248 | 233 => 249 | 80 => 250 | n => n, fun | 15 => 0 | 16 => 1 | 17 => 4 | 18 => 6 | 19 => 7 | n => n⟩
theorem atoiL : LaysC.n172 Tryz.prog atoiR := {
  mixed := by kernel_rfl,
  f129 := Tryz.func200.trans (congrArg some (by kernel_rfl)),
  f171 := Tryz.func153.trans (congrArg some (by kernel_rfl)),
  f172 := Tryz.func152.trans (congrArg some (by kernel_rfl)),
  f205 := Tryz.func188.trans (congrArg some (by kernel_rfl)),
  f243 := Tryz.func168.trans (congrArg some (by kernel_rfl)),
  f244 := Tryz.func166.trans (congrArg some (by kernel_rfl)),
  f245 := Tryz.func167.trans (congrArg some (by kernel_rfl)),
  f246 := Tryz.func182.trans (congrArg some (by kernel_rfl)),
  f247 := Tryz.func177.trans (congrArg some (by kernel_rfl)),
  f279 := Tryz.func178.trans (congrArg some (by kernel_rfl)),
  f280 := Tryz.func179.trans (congrArg some (by kernel_rfl)),
  f281 := Tryz.func180.trans (congrArg some (by kernel_rfl)),
  f282 := Tryz.func181.trans (congrArg some (by kernel_rfl)),
  f283 := Tryz.func189.trans (congrArg some (by kernel_rfl)),
  f284 := Tryz.func190.trans (congrArg some (by kernel_rfl)),
  f285 := Tryz.func191.trans (congrArg some (by kernel_rfl)),
  f286 := Tryz.func192.trans (congrArg some (by kernel_rfl)),
  f287 := Tryz.func186.trans (congrArg some (by kernel_rfl)),
  f316 := Tryz.func187.trans (congrArg some (by kernel_rfl)),
  f317 := Tryz.func199.trans (congrArg some (by kernel_rfl)),
  f318 := Tryz.func201.trans (congrArg some (by kernel_rfl)),
  f319 := Tryz.func202.trans (congrArg some (by kernel_rfl)),
  f320 := Tryz.func203.trans (congrArg some (by kernel_rfl)),
  f321 := Tryz.func197.trans (congrArg some (by kernel_rfl)),
  f322 := Tryz.func198.trans (congrArg some (by kernel_rfl)),
  f337 := Tryz.func205.trans (congrArg some (by kernel_rfl)),
  f338 := Tryz.func206.trans (congrArg some (by kernel_rfl)),
  t0 := Tryz.underlying0,
  a0 := Tryz.isAgg0,
  z0 := Tryz.sizeOf0,
  v0 := Tryz.zeroValue0,
  t2 := Tryz.underlying2,
  a2 := Tryz.isAgg2,
  z2 := Tryz.sizeOf2,
  v2 := Tryz.zeroValue2,
  t3 := Tryz.underlying3,
  a3 := Tryz.isAgg3,
  z3 := Tryz.sizeOf3,
  v3 := Tryz.zeroValue3,
  t4 := Tryz.underlying4,
  a4 := Tryz.isAgg4,
  z4 := Tryz.sizeOf4,
  v4 := Tryz.zeroValue4,
  t5 := Tryz.underlying5,
  a5 := Tryz.isAgg5,
  z5 := Tryz.sizeOf5,
  v5 := Tryz.zeroValue5,
  t9 := Tryz.underlying9,
  a9 := Tryz.isAgg9,
  z9 := Tryz.sizeOf9,
  v9 := Tryz.zeroValue9,
  t20 := Tryz.underlying20,
  a20 := Tryz.isAgg20,
  z20 := Tryz.sizeOf20,
  v20 := Tryz.zeroValue20,
  t21 := Tryz.underlying21,
  a21 := Tryz.isAgg21,
  z21 := Tryz.sizeOf21,
  v21 := Tryz.zeroValue21,
  t37 := Tryz.underlying31,
  a37 := Tryz.isAgg31,
  z37 := Tryz.sizeOf31,
  v37 := Tryz.zeroValue31,
  t46 := Tryz.underlying91,
  a46 := Tryz.isAgg91,
  z46 := Tryz.sizeOf91,
  v46 := Tryz.zeroValue91,
  t51 := Tryz.underlying64,
  a51 := Tryz.isAgg64,
  z51 := Tryz.sizeOf64,
  v51 := Tryz.zeroValue64,
  t53 := Tryz.underlying79,
  a53 := Tryz.isAgg79,
  z53 := Tryz.sizeOf79,
  v53 := Tryz.zeroValue79,
  t75 := Tryz.underlying192,
  a75 := Tryz.isAgg192,
  z75 := Tryz.sizeOf192,
  v75 := Tryz.zeroValue192,
  t76 := Tryz.underlying193,
  a76 := Tryz.isAgg193,
  z76 := Tryz.sizeOf193,
  v76 := Tryz.zeroValue193,
  t85 := Tryz.underlying214,
  a85 := Tryz.isAgg214,
  z85 := Tryz.sizeOf214,
  v85 := Tryz.zeroValue214,
  t127 := Tryz.underlying239,
  a127 := Tryz.isAgg239,
  z127 := Tryz.sizeOf239,
  v127 := Tryz.zeroValue239,
  t143 := Tryz.underlying240,
  a143 := Tryz.isAgg240,
  z143 := Tryz.sizeOf240,
  v143 := Tryz.zeroValue240,
  t145 := Tryz.underlying242,
  a145 := Tryz.isAgg242,
  z145 := Tryz.sizeOf242,
  v145 := Tryz.zeroValue242,
  t167 := Tryz.underlying213,
  a167 := Tryz.isAgg213,
  z167 := Tryz.sizeOf213,
  v167 := Tryz.zeroValue213,
  t168 := Tryz.underlying216,
  a168 := Tryz.isAgg216,
  z168 := Tryz.sizeOf216,
  v168 := Tryz.zeroValue216,
  t171 := Tryz.underlying227,
  a171 := Tryz.isAgg227,
  z171 := Tryz.sizeOf227,
  v171 := Tryz.zeroValue227,
  t173 := Tryz.underlying230,
  a173 := Tryz.isAgg230,
  z173 := Tryz.sizeOf230,
  v173 := Tryz.zeroValue230,
  t175 := Tryz.underlying222,
  a175 := Tryz.isAgg222,
  z175 := Tryz.sizeOf222,
  v175 := Tryz.zeroValue222,
  t210 := Tryz.underlying225,
  a210 := Tryz.isAgg225,
  z210 := Tryz.sizeOf225,
  v210 := Tryz.zeroValue225,
  t212 := Tryz.underlying244,
  a212 := Tryz.isAgg244,
  z212 := Tryz.sizeOf244,
  v212 := Tryz.zeroValue244,
  t213 := Tryz.underlying245,
  a213 := Tryz.isAgg245,
  z213 := Tryz.sizeOf245,
  t232 := Tryz.underlying248,
  a232 := Tryz.isAgg248,
  z232 := Tryz.sizeOf248,
  v232 := Tryz.zeroValue248,
  t233 := Tryz.underlying249,
  a233 := Tryz.isAgg249,
  z233 := Tryz.sizeOf249,
  v233 := Tryz.zeroValue249,
  g15 := by kernel_rfl,
  g16 := by kernel_rfl,
  g17 := by kernel_rfl,
  g18 := by kernel_rfl,
  g19 := by kernel_rfl,
  t80 := Tryz.underlying250,
  a80 := Tryz.isAgg250,
  z80 := Tryz.sizeOf250,
  v80 := Tryz.zeroValue250,
  i0 := by kernel_rfl,
  i2 := by kernel_rfl,
  i3 := by kernel_rfl,
  i4 := by kernel_rfl,
  i5 := by kernel_rfl,
  i9 := by kernel_rfl,
  i20 := by kernel_rfl,
  i21 := by kernel_rfl,
  i37 := by kernel_rfl,
  i46 := by kernel_rfl,
  i51 := by kernel_rfl,
  i53 := by kernel_rfl,
  i75 := by kernel_rfl,
  i76 := by kernel_rfl,
  i80 := by kernel_rfl,
  i85 := by kernel_rfl,
  i127 := by kernel_rfl,
  i143 := by kernel_rfl,
  i145 := by kernel_rfl,
  i167 := by kernel_rfl,
  i168 := by kernel_rfl,
  i171 := by kernel_rfl,
  i173 := by kernel_rfl,
  i175 := by kernel_rfl,
  i210 := by kernel_rfl,
  i212 := by kernel_rfl,
  i232 := by kernel_rfl,
  i233 := by kernel_rfl,
  m15 := by kernel_rfl,
  m16 := by kernel_rfl,
  m17 := by kernel_rfl,
  m18 := by kernel_rfl,
  m19 := by kernel_rfl,
  c0 := by kernel_rfl,
  c2 := by kernel_rfl,
  c3 := by kernel_rfl,
  c4 := by kernel_rfl,
  c5 := by kernel_rfl,
  c9 := by kernel_rfl,
  c20 := by kernel_rfl,
  c21 := by kernel_rfl,
  c37 := by kernel_rfl,
  c46 := by kernel_rfl,
  c51 := by kernel_rfl,
  c53 := by kernel_rfl,
  c75 := by kernel_rfl,
  c76 := by kernel_rfl,
  c80 := by kernel_rfl,
  c85 := by kernel_rfl,
  c127 := by kernel_rfl,
  c143 := by kernel_rfl,
  c145 := by kernel_rfl,
  c167 := by kernel_rfl,
  c168 := by kernel_rfl,
  c171 := by kernel_rfl,
  c173 := by kernel_rfl,
  c175 := by kernel_rfl,
  c210 := by kernel_rfl,
  c212 := by kernel_rfl,
  c213 := by kernel_rfl,
  c232 := by kernel_rfl,
  c233 := by kernel_rfl }
def itoaR : Ren := ⟨fun | 171 => 153 | 243 => 168 | 246 => 182 | 283 => 189 | 284 => 190 | 285 => 191 | 286 => 192 | 129 => 200 | 317 => 199 | 318 => 201 | 319 => 202 | 320 => 203 | 337 => 205 | 338 => 206 | n => n, fun | 3 => 3 | 9 => 9 | 2 => 2 | 4 => 4 | 171 => 227 | 0 => 0 | 53 => 79 | 37 => 31 | 5 => 5 | 173 => 230 | 212 => 244 | 51 => 64 | 20 => 20 | 213 => 245 | 46 => 91 | 232 => 248 | 233 => 249 | n => n, fun | 17 => 4 | 18 => 6 | 19 => 7 | n => n⟩
theorem itoaL : LaysM.n171 Tryz.prog itoaR := {
  mixed := by kernel_rfl,
  f129 := Tryz.func200.trans (congrArg some (by kernel_rfl)),
  f171 := Tryz.func153.trans (congrArg some (by kernel_rfl)),
  f243 := Tryz.func168.trans (congrArg some (by kernel_rfl)),
  f246 := Tryz.func182.trans (congrArg some (by kernel_rfl)),
  f283 := Tryz.func189.trans (congrArg some (by kernel_rfl)),
  f284 := Tryz.func190.trans (congrArg some (by kernel_rfl)),
  f285 := Tryz.func191.trans (congrArg some (by kernel_rfl)),
  f286 := Tryz.func192.trans (congrArg some (by kernel_rfl)),
  f317 := Tryz.func199.trans (congrArg some (by kernel_rfl)),
  f318 := Tryz.func201.trans (congrArg some (by kernel_rfl)),
  f319 := Tryz.func202.trans (congrArg some (by kernel_rfl)),
  f320 := Tryz.func203.trans (congrArg some (by kernel_rfl)),
  f337 := Tryz.func205.trans (congrArg some (by kernel_rfl)),
  f338 := Tryz.func206.trans (congrArg some (by kernel_rfl)),
  t0 := Tryz.underlying0,
  a0 := Tryz.isAgg0,
  z0 := Tryz.sizeOf0,
  v0 := Tryz.zeroValue0,
  t2 := Tryz.underlying2,
  a2 := Tryz.isAgg2,
  z2 := Tryz.sizeOf2,
  v2 := Tryz.zeroValue2,
  t3 := Tryz.underlying3,
  a3 := Tryz.isAgg3,
  z3 := Tryz.sizeOf3,
  v3 := Tryz.zeroValue3,
  t4 := Tryz.underlying4,
  a4 := Tryz.isAgg4,
  z4 := Tryz.sizeOf4,
  v4 := Tryz.zeroValue4,
  t5 := Tryz.underlying5,
  a5 := Tryz.isAgg5,
  z5 := Tryz.sizeOf5,
  v5 := Tryz.zeroValue5,
  t9 := Tryz.underlying9,
  a9 := Tryz.isAgg9,
  z9 := Tryz.sizeOf9,
  v9 := Tryz.zeroValue9,
  t20 := Tryz.underlying20,
  a20 := Tryz.isAgg20,
  z20 := Tryz.sizeOf20,
  v20 := Tryz.zeroValue20,
  t37 := Tryz.underlying31,
  a37 := Tryz.isAgg31,
  z37 := Tryz.sizeOf31,
  v37 := Tryz.zeroValue31,
  t46 := Tryz.underlying91,
  a46 := Tryz.isAgg91,
  z46 := Tryz.sizeOf91,
  v46 := Tryz.zeroValue91,
  t51 := Tryz.underlying64,
  a51 := Tryz.isAgg64,
  z51 := Tryz.sizeOf64,
  v51 := Tryz.zeroValue64,
  t53 := Tryz.underlying79,
  a53 := Tryz.isAgg79,
  z53 := Tryz.sizeOf79,
  v53 := Tryz.zeroValue79,
  t171 := Tryz.underlying227,
  a171 := Tryz.isAgg227,
  z171 := Tryz.sizeOf227,
  v171 := Tryz.zeroValue227,
  t173 := Tryz.underlying230,
  a173 := Tryz.isAgg230,
  z173 := Tryz.sizeOf230,
  v173 := Tryz.zeroValue230,
  t212 := Tryz.underlying244,
  a212 := Tryz.isAgg244,
  z212 := Tryz.sizeOf244,
  v212 := Tryz.zeroValue244,
  t213 := Tryz.underlying245,
  a213 := Tryz.isAgg245,
  z213 := Tryz.sizeOf245,
  t232 := Tryz.underlying248,
  a232 := Tryz.isAgg248,
  z232 := Tryz.sizeOf248,
  v232 := Tryz.zeroValue248,
  t233 := Tryz.underlying249,
  a233 := Tryz.isAgg249,
  z233 := Tryz.sizeOf249,
  v233 := Tryz.zeroValue249,
  g17 := by kernel_rfl,
  g18 := by kernel_rfl,
  g19 := by kernel_rfl,
  i0 := by kernel_rfl,
  i2 := by kernel_rfl,
  i3 := by kernel_rfl,
  i4 := by kernel_rfl,
  i5 := by kernel_rfl,
  i9 := by kernel_rfl,
  i20 := by kernel_rfl,
  i37 := by kernel_rfl,
  i46 := by kernel_rfl,
  i51 := by kernel_rfl,
  i53 := by kernel_rfl,
  i171 := by kernel_rfl,
  i173 := by kernel_rfl,
  i212 := by kernel_rfl,
  i232 := by kernel_rfl,
  i233 := by kernel_rfl,
  m17 := by kernel_rfl,
  m18 := by kernel_rfl,
  m19 := by kernel_rfl }
end Go.Proofs.YtickdhjljpnlpaaGreatDoor
namespace Go.Proofs.YtickdhjljpnlpaaGreatDoor.A
open Go.RowKit
noncomputable def gvPc (name : String) (cs : Array Value) : Pc where
  ids := [(Tryz.prog.globalNamed name).getD 0]
  p := fun _ w => w.var? Tryz.prog name = some cs
  carry := fun K w K' w' hc hs h => by
    have h1 := hs _ List.mem_cons_self
    unfold World.var? at h ⊢
    cases hg : Tryz.prog.globalNamed name with
    | none => rw [hg] at h; cases h
    | some g =>
      rw [hg] at h h1
      simp only [Option.bind_some, Option.getD_some] at h h1 ⊢
      rw [h1]
      exact h
  lt := fun K w h k hk => by
    rw [List.mem_singleton] at hk
    subst hk
    unfold World.var? at h
    cases hg : Tryz.prog.globalNamed name with
    | none => rw [hg] at h; cases h
    | some g =>
      rw [hg] at h
      simp only [Option.bind_some, Option.getD_some] at h ⊢
      cases hb : w.heap[g]? with
      | none => rw [hb] at h; cases h
      | some o => exact bY_ hb
noncomputable def pow10C : Array Value := (Lib.pow10Tab.map fun z => Value.int .u64 z).toArray
noncomputable abbrev globs (es er : Value) : Blks := [.rdpc (gvPc "strconv.ErrSyntax" #[es]), .rdpc (gvPc "strconv.ErrRange" #[er]), .rdpc (gvPc "internal/strconv.uint64pow10" pow10C)]
def isIf (v : Value) : Prop := ∃ t u, v = .iface t u
section
variable {es er : Value} {l : Txt}
theorem fY_ {w w' : World} {G : List Nat} (hm : Mem w (mids (globs es er)) G (globs es er) w) (hx : Ext [] w w') : Mem w (mids (globs es er)) G [] w' := ((hm.same hx).1.sub (List.nil_sublist _)).1
def AtoiR (l : Txt) (z : Int × Value) : Prop := match Lib.atoiAll l with
  | .ok v => z = (v, .nilIface)
  | _ => isIf z.2
theorem atoi_s (he : isIf es) (hr : isIf er) (hl : l.length ≤ 100000) : Spec Tryz.prog 152 [stA l] (globs es er) (fun _ : {z : Int × Value // AtoiR l z} => []) (fun z => .tup [int z.1.1, .v z.1.2]) := fun G w vals hm hv => by
  obtain ⟨_, _, rfl, h1, h2⟩ := hv
  have h1 : _ = Value.string ⟨l.toArray⟩ := h1
  have h2 : _ = [] := h2
  subst h1 h2
  have hsz : (ByteArray.mk l.toArray).size = l.length := bo_ l
  have hg1 : w.var? Tryz.prog "strconv.ErrSyntax" = some #[es] := hm.hold (.rdpc (gvPc "strconv.ErrSyntax" #[es])) (by simp)
  have hg2 : w.var? Tryz.prog "strconv.ErrRange" = some #[er] := hm.hold (.rdpc (gvPc "strconv.ErrRange" #[er])) (by simp)
  have htx : (ByteArray.mk l.toArray).data.toList = l := fL_ l
  obtain ⟨t1, u1, rfl⟩ := he
  obtain ⟨t2, u2, rfl⟩ := hr
  cases h : Lib.atoiAll l with
  | ok v =>
    refine (Any.strconv_Atoi_ok atoiL ⟨l.toArray⟩ (by rw [hsz]; omega) v (by rw [htx]; exact h) w).mono ?_
    rintro e w' ⟨rfl, hw⟩
    have hx : Ext [] w w' := by
      rcases hw with rfl | ⟨t, rfl⟩
      · exact Ext.refl _
      · exact Ext.of_below (Lib.bytesWorld_below _ _ _)
    exact ⟨⟨(v, .nilIface), by unfold AtoiR; rw [h]⟩, _, rfl, by simp, fY_ hm hx, ⟨[_, _], rfl, _, _, rfl, rfl, _, _, rfl, rfl, rfl⟩⟩
  | range =>
    refine (Any.strconv_Atoi_range_var atoiL ⟨l.toArray⟩ (by rw [hsz]; omega) (by rw [htx]; exact h) t2 u2 w hg2).mono ?_
    rintro e w' ⟨N, rfl, _, _, hb⟩
    exact ⟨⟨(_, _), by unfold AtoiR; rw [h]; exact ⟨_, _, rfl⟩⟩, _, rfl, by simp, fY_ hm (Ext.of_below hb), ⟨[_, _], rfl, _, _, rfl, rfl, _, _, rfl, rfl, rfl⟩⟩
  | _ =>
    refine (Any.strconv_Atoi_syntax_var atoiL ⟨l.toArray⟩ (by rw [hsz]; omega) (by rw [htx]; exact h) t1 u1 w hg1).mono ?_
    rintro e w' ⟨N, rfl, _, _, hb⟩
    exact ⟨⟨(0, _), by unfold AtoiR; rw [h]; exact ⟨_, _, rfl⟩⟩, _, rfl, by simp, fY_ hm (Ext.of_below hb), ⟨[_, _], rfl, _, _, rfl, rfl, _, _, rfl, rfl, rfl⟩⟩
theorem itoa_s {v : Int} (hv0 : InR .i64 v) : Spec Tryz.prog 153 [int v] (globs es er) (fun _ : Unit => []) (fun _ => stA (Lib.itoa v)) := fun G w vals hm hv => by
  obtain ⟨_, _, rfl, h1, h2⟩ := hv
  have h1 : _ = Value.int .i64 v := h1
  have h2 : _ = [] := h2
  subst h1 h2
  have hg3 : w.var? Tryz.prog "internal/strconv.uint64pow10" = some pow10C := hm.hold (.rdpc (gvPc "internal/strconv.uint64pow10" pow10C)) (by simp)
  obtain ⟨b1, b2⟩ := hv0
  simp only [lo, hi] at b1 b2
  refine (Any.strconv_Itoa itoaL v b1 b2 w hg3).mono ?_
  rintro e w' ⟨rfl, k, os, rfl⟩
  have hx : Ext [] w (Sort.grow (w.drewN k) os) := by
    refine ⟨rfl, rfl, rfl, ?_, fun j hj _ => ?_⟩
    · simp [Sort.grow, World.drewN]
    · simp only [Sort.grow, World.drewN]
      rw [Array.getElem?_append_left hj]
  exact ⟨(), _, rfl, by simp, fY_ hm hx, rfl⟩
end
/-! ### Digits -/
theorem g4_ {u : Nat} (h : ¬ u < 10) : Lib.decDigits u = Lib.decDigits (u / 10) ++ [UInt8.ofNat (48 + u % 10)] := by
  rw [Lib.decDigits, dif_neg h]
theorem gb_ {u : Nat} (h : u < 10) : Lib.decDigits u = [UInt8.ofNat (48 + u)] := by
  rw [Lib.decDigits, dif_pos h]
theorem iP_ : ∀ (m u : Nat), 1 ≤ m → u < 10 ^ m → (Lib.decDigits u).length ≤ m
  | 0, _, h, _ => by omega
  | m + 1, u, _, h => by
    by_cases hu : u < 10
    · rw [gb_ hu]; simp
    · rw [g4_ hu, List.length_append]
      rw [Nat.pow_succ] at h
      have hm : 1 ≤ m := by
        rcases m with _ | m
        · simp at h; omega
        · omega
      have := iP_ m (u / 10) hm (by omega)
      simp only [List.length_singleton]
      omega
theorem iO_ {c : UInt8} (h : isDig c = true) : UInt8.ofNat (48 + (c.toNat - 48)) = c := by
  have h1 := of_decide_eq_true h
  rw [show 48 + (c.toNat - 48) = c.toNat by omega]
  simp
theorem decD_own : ∀ (l : Txt), l ≠ [] → (∀ c ∈ l, isDig c = true) → ¬ (1 < l.length ∧ l.head? = some 48) → Lib.decDigits (decV l) = l := fun l => by
  induction hn : l.length generalizing l with
  | zero => intro h; exact absurd (List.length_eq_zero_iff.1 hn) h
  | succ n ih =>
    intro _ hd hz
    rcases List.eq_nil_or_concat l with rfl | ⟨l', c, rfl⟩
    · simp at hn
    · rw [List.concat_eq_append] at hn hd hz ⊢
      have hc : isDig c = true := hd c (by simp)
      have hc1 := of_decide_eq_true hc
      rw [g3_]
      by_cases hl : l' = []
      · subst hl
        rw [show decV [] = 0 from rfl, Nat.zero_mul, Nat.zero_add, gb_ (by omega), iO_ hc]
        rfl
      · have hlen : l'.length = n := by rw [List.length_append] at hn; simpa using hn
        have hpos : 0 < l'.length := List.length_pos_iff.2 hl
        have hh : (l' ++ [c]).head? = l'.head? := by
          cases l' with
          | nil => exact absurd rfl hl
          | cons a r => rfl
        have hz2 : ¬ l'.head? = some 48 := fun e => hz ⟨by omega, by rw [hh]; exact e⟩
        have h1 := ih l' hlen hl (fun d hd' => hd d (by simp [hd'])) (fun e => hz2 e.2)
        have hge : 1 ≤ decV l' := by
          rcases Nat.eq_zero_or_pos (decV l') with h0 | h0
          · rw [h0, gb_ (by omega)] at h1
            rw [← h1] at hz2
            exact absurd rfl hz2
          · exact h0
        rw [g4_ (by omega), show (decV l' * 10 + (c.toNat - 48)) / 10 = decV l' by omega, show (decV l' * 10 + (c.toNat - 48)) % 10 = c.toNat - 48 by omega, h1, iO_ hc]
theorem kX_ {l : Txt} (hd : ∀ c ∈ l, isDig c = true) (h : l.head? = some 48) : decV l < 10 ^ (l.length - 1) := by
  cases l with
  | nil => cases h
  | cons a r =>
    have ha : a = 48 := by simpa using h
    subst ha
    have h1 := eX_ r (fun c hc => hd c (List.mem_cons_of_mem _ hc))
    have e : decV (48 :: r) = decV r := rfl
    rw [e, List.length_cons, Nat.add_sub_cancel]
    exact h1
theorem iC_ {l : Txt} (hd : ∀ c ∈ l, isDig c = true) (hn : l ≠ []) : Lib.itoa (decV l : Nat) = l ↔ ¬ (1 < l.length ∧ l.head? = some 48) := by
  have e : Lib.itoa (decV l : Nat) = Lib.decDigits (decV l) := by
    unfold Lib.itoa
    rw [if_neg (by omega)]
    rfl
  rw [e]
  constructor
  · rintro h ⟨h1, h2⟩
    have h3 := iP_ (l.length - 1) _ (by omega) (kX_ hd h2)
    rw [h] at h3
    omega
  · exact decD_own l hn hd
theorem fk_ : ∀ (l : Txt) (a : Nat), (∀ c ∈ l, isDig c = true) → (a + 1) * 10 ^ l.length ≤ 1000000 → Lib.parseUint10 a l = .ok (l.foldl (fun a c => a * 10 + (c.toNat - 48)) a)
  | [], a, _, _ => rfl
  | c :: l, a, h, hb => by
    have hc := of_decide_eq_true (h c List.mem_cons_self : isDig c = true)
    rw [List.length_cons, Nat.pow_succ] at hb
    have hpos : 0 < 10 ^ l.length := Nat.pow_pos (by omega)
    have hb2 : (a * 10 + (c.toNat - 48) + 1) * 10 ^ l.length ≤ 1000000 := by
      refine Nat.le_trans (Nat.mul_le_mul_right _ (show a * 10 + (c.toNat - 48) + 1 ≤ (a + 1) * 10 by omega)) ?_
      rw [Nat.mul_assoc, Nat.mul_comm 10]
      exact hb
    have hb3 : a * 10 + (c.toNat - 48) + 1 ≤ 1000000 := Nat.le_trans (Nat.le_mul_of_pos_right _ hpos) hb2
    rw [List.foldl_cons]
    show (if 48 ≤ c.toNat ∧ c.toNat ≤ 57 then _ else _) = _
    rw [if_pos hc, if_neg (by omega), if_neg (by omega)]
    exact fk_ l _ (fun d hd => h d (List.mem_cons_of_mem _ hd)) hb2
theorem hd_ {l : Txt} (hd : ∀ c ∈ l, isDig c = true) (hn : l ≠ []) (h4 : l.length ≤ 4) : Lib.atoiAll l = .ok (decV l : Nat) := by
  cases l with
  | nil => exact absurd rfl hn
  | cons c r =>
    have hc := of_decide_eq_true (hd c List.mem_cons_self : isDig c = true)
    have hp : Lib.parseMag (c :: r) = .ok (decV (c :: r)) := by
      unfold Lib.parseMag
      rw [if_neg (by simp)]
      refine fk_ (c :: r) 0 hd ?_
      have h10 : 10 ^ (c :: r).length ≤ 10 ^ 4 := Nat.pow_le_pow_right (by omega) h4
      omega
    have hlt := eX_ (c :: r) hd
    have h10 : 10 ^ (c :: r).length ≤ 10 ^ 4 := Nat.pow_le_pow_right (by omega) h4
    unfold Lib.atoiAll
    simp only [show ¬ (c.toNat = 43 ∨ c.toNat = 45) by omega, if_false, hp]
    rw [if_neg (by omega), if_neg (by omega), if_neg (by omega)]
def atoiBad (l : Txt) : Bool := match Lib.atoiAll l with
  | .ok _ => false
  | _ => true
theorem atoi_bad {l : Txt} {z : Int × Value} (h : AtoiR l z) : (atoiBad l = false ∧ z.2 = .nilIface) ∨ (atoiBad l = true ∧ ∃ t u, z.2 = .iface t u) := by
  unfold AtoiR at h
  unfold atoiBad
  cases ha : Lib.atoiAll l with
  | ok v => rw [ha] at h; exact .inl ⟨rfl, by rw [h]⟩
  | range => rw [ha] at h; exact .inr ⟨rfl, h⟩
  | _ => rw [ha] at h; exact .inr ⟨rfl, h⟩
theorem f8_ {t : Txt} (h : (digs t).length ≠ 0) : digs t ≠ [] := fun e => h (by rw [e]; rfl)
theorem bad_nil : atoiBad [] = true := by decide
theorem good_val {t : Txt} {z : Int × Value} (h : AtoiR (digs t) z) (hb : atoiBad (digs t) = false) (h4 : (digs t).length ≤ 4) : (digs t).length ≠ 0 ∧ z.1 = (decV (digs t) : Nat) := by
  have hn : (digs t).length ≠ 0 := fun h0 => by
    rw [List.length_eq_zero_iff.1 h0, bad_nil] at hb
    cases hb
  refine ⟨hn, ?_⟩
  have h1 := hd_ (cP_ t) (f8_ hn) h4
  unfold AtoiR at h
  rw [h1] at h
  rw [h]
theorem numT_bad {t : Txt} (hb : atoiBad (digs t) = true) : numT t = none := by
  unfold numT
  refine if_pos ?_
  by_cases h : (digs t).length = 0 ∨ 4 < (digs t).length
  · rcases h with h | h
    · exact .inl h
    · exact .inr (.inl h)
  · have h1 := hd_ (cP_ t) (f8_ (by omega)) (by omega)
    unfold atoiBad at hb
    rw [h1] at hb
    cases hb
theorem kn_ {t : Txt} (h : 4 < (digs t).length) : numT t = none := if_pos (.inr (.inl h))
theorem numT_own {t : Txt} (h0 : (digs t).length ≠ 0) (h4 : (digs t).length ≤ 4) (h : Lib.itoa (decV (digs t) : Nat) = digs t) : numT t = some (decV (digs t), t.drop (digs t).length) := by
  have h1 := (iC_ (cP_ t) (f8_ h0)).1 h
  refine if_neg ?_
  rintro (h2 | h2 | h2)
  · exact h0 h2
  · omega
  · exact h1 h2
theorem jq_ {t : Txt} (h0 : (digs t).length ≠ 0) (h : ¬ Lib.itoa (decV (digs t) : Nat) = digs t) : numT t = none := by
  refine if_pos (.inr (.inr ?_))
  exact Classical.byContradiction fun h2 => h ((iC_ (cP_ t) (f8_ h0)).2 h2)
theorem dv_ : ∀ {t : Txt} {k : Nat} (hk : k < t.length), (∀ j (hj : j < t.length), j < k → isDig t[j] = true) → ¬ isDig t[k] = true → (digs t).length = k
  | [], k, hk, _, _ => by simp at hk
  | c :: t, 0, _, _, h => by
    unfold digs
    rw [List.takeWhile_cons, if_neg (show ¬ isDig c = true from h)]
    rfl
  | c :: t, k + 1, hk, h, hn => by
    have hc : isDig c = true := h 0 (by simp) (by omega)
    unfold digs
    rw [List.takeWhile_cons, if_pos hc, List.length_cons]
    have := dv_ (t := t) (k := k) (by simpa using hk) (fun j hj hjk => h (j + 1) (by simpa using hj) (by omega)) hn
    unfold digs at this
    omega
theorem ga_ : ∀ {t : Txt}, (∀ j (hj : j < t.length), isDig t[j] = true) → (digs t).length = t.length
  | [], _ => rfl
  | c :: t, h => by
    have hc : isDig c = true := h 0 (by simp)
    unfold digs
    rw [List.takeWhile_cons, if_pos hc, List.length_cons, List.length_cons]
    have := ga_ (t := t) (fun j hj => h (j + 1) (by simpa using hj))
    unfold digs at this
    omega
theorem em_ (t : Txt) : t.take (digs t).length = digs t := by
  unfold digs
  induction t with
  | nil => rfl
  | cons c t ih =>
    rw [List.takeWhile_cons]
    split
    · rw [List.length_cons, List.take_succ_cons, ih]
    · rfl
def numL (l : Txt) : Txt := match numT (bare l) with
  | none => bare l
  | some x => x.2
def numO (l : Txt) (odd : Bool) : Bool := match numT (bare l) with
  | none => true
  | some _ => odd
def numV (l : Txt) : Int := match numT (bare l) with
  | none => 0
  | some x => (x.1 : Nat)
theorem dp_ {l : Txt} (h : numT (bare l) = none) (odd : Bool) : numL l = bare l ∧ numO l odd = true ∧ numV l = 0 := by
  unfold numL numO numV
  rw [h]
  exact ⟨rfl, rfl, rfl⟩
theorem fW_ {l : Txt} {v : Nat} {r : Txt} (h : numT (bare l) = some (v, r)) (odd : Bool) : numL l = r ∧ numO l odd = odd ∧ numV l = (v : Nat) := by
  unfold numL numO numV
  rw [h]
  exact ⟨rfl, rfl, rfl⟩
end Go.Proofs.YtickdhjljpnlpaaGreatDoor.A
namespace Go.Proofs.YtickdhjljpnlpaaGreatDoor
open Go.ChangeShapes Go.WideShapes Go.ChangeAt Go.RowKit
abbrev laidL : List (String × DataW Unit) := [("math/bits.deBruijn32tab", Rows.laid_math_bits_deBruijn32tab), ("math/bits.deBruijn64tab", Rows.laid_math_bits_deBruijn64tab), ("internal/strconv.uint64pow10", Rows.laid_internal_strconv_uint64pow10), ("unicode/utf8.acceptRanges", Rows.laid_unicode_utf8_acceptRanges), ("strconv.ErrRange", Rows.laid_strconv_ErrRange), ("strconv.ErrSyntax", Rows.laid_strconv_ErrSyntax), ("unicode/utf8.first", Rows.laid_unicode_utf8_first)]
/-! ### What the list gives a walk -/
theorem arr_ints {H : Type} {enc : TypeId × Value → H} {w : World} {base : Nat} {sp : Nat → Bool} {held : Bool} {k : IntKind} {t e : TypeId} {n fuel : Nat} {cs : List Value} {zs : List Int} {p : List MemPlace}
    (ht : Tryz.prog.underlying t = some (.array n e)) (he : Tryz.prog.underlying e = some (.int k)) (hc : Tryz.prog.cellsOf e = 1) (hct : Tryz.prog.cellsOf t = n)
    (h : DataW.trod enc Tryz.prog w base sp held fuel t cs = some (.agg (zs.map fun z => .lit (.int k z)), p)) : cs = zs.map (Value.int k) := by
  obtain ⟨xs, m, rfl, hx, hlen, hn, hel⟩ := DataW.trod_array ht h
  rw [hct] at hlen
  rw [hc] at hel
  simp only [Prod.mk.injEq, DataW.agg.injEq] at hx
  have hz : zs.length = n := by have := congrArg List.length hx.1; simpa [hn] using this
  refine List.ext_getElem (by rw [hlen, List.length_map, hz]) fun i h1 h2 => ?_
  have hi : i < n := by rw [← hlen]; exact h1
  have hxi : i < xs.length := by rw [hn]; exact hi
  have h3 := hel i hi
  rw [List.getElem?_eq_getElem hxi, Nat.mul_one, List.drop_eq_getElem_cons h1, List.take_succ_cons, List.take_zero] at h3
  obtain ⟨z, e1, e2, _⟩ := DataW.trod_int he h3
  have h4 : (zs.map fun z => (DataW.lit (.int k z) : DataW H))[i]? = (xs.map (·.1))[i]? := by rw [hx.1]
  rw [List.getElem?_map, List.getElem?_map, List.getElem?_eq_getElem hxi, List.getElem?_eq_getElem (by rw [hz]; exact hi)] at h4
  simp only [Option.map_some, Option.some.injEq] at h4
  rw [e2] at h4
  have h5 : zs[i]'(by rw [hz]; exact hi) = z := by injection h4 with h4; injection h4
  rw [List.getElem_map, h5]
  exact (List.cons.inj e1).1
theorem kP_ : "*" ++ "errors.errorString" = "*errors.errorString" := by decide
theorem es_row (u : TypeId) (h : Tryz.prog.typeName? 3 u = some "*errors.errorString") : u = 240 :=
  typeName_ptr_named (P := Tryz.prog) (nm := "errors.errorString") (by rw [kP_]; kernel_rfl) (by kernel_rfl) (by decide) u (by rw [kP_]; exact h)
theorem pow_sum : ∀ (x : DataW Unit), x = Rows.laid_internal_strconv_uint64pow10 → x = .agg (Lib.pow10Tab.map fun z => .lit (.int .u64 z)) := by
  rintro _ rfl
  kernel_rfl
theorem of_laid {W : World} (h : laidMetH Tryz.prog laidL W) : ∃ es er : Value, A.isIf es ∧ A.isIf er ∧ W.var? Tryz.prog "strconv.ErrSyntax" = some #[es] ∧ W.var? Tryz.prog "strconv.ErrRange" = some #[er] ∧ W.var? Tryz.prog "internal/strconv.uint64pow10" = some A.pow10C := by
  rw [MakeChecks.laidMetH_plain _ _ _ (by kernel_rfl)] at h
  have h2 := h.tail.tail
  have h4 := h2.tail.tail
  obtain ⟨a0, _, hv0, _⟩ := laid_sentinel (g := (Tryz.prog.globalNamed "strconv.ErrRange").getD 0) (ti := 192) (tp := 240) (te := 242) (ts := 9) h4 (by kernel_rfl) (by kernel_rfl) Tryz.underlying192 es_row Tryz.underlying240 Tryz.underlying242 rfl rfl Tryz.underlying9 (by kernel_rfl) (by kernel_rfl)
  obtain ⟨a1, _, hv1, _⟩ := laid_sentinel (g := (Tryz.prog.globalNamed "strconv.ErrSyntax").getD 0) (ti := 192) (tp := 240) (te := 242) (ts := 9) h4.tail (by kernel_rfl) (by kernel_rfl) Tryz.underlying192 es_row Tryz.underlying240 Tryz.underlying242 rfl rfl Tryz.underlying9 (by kernel_rfl) (by kernel_rfl)
  refine ⟨_, _, ⟨_, _, rfl⟩, ⟨_, _, rfl⟩, hv1, hv0, ?_⟩
  obtain ⟨ps, ⟨g, t, cs, f, p, q, hg, ht, hv, hd, _, _⟩, _, _⟩ := h2
  obtain rfl := Option.some.inj ((show Tryz.prog.globalNamed "internal/strconv.uint64pow10" = some ((Tryz.prog.globalNamed "internal/strconv.uint64pow10").getD 0) by kernel_rfl).symm.trans hg)
  obtain rfl := Option.some.inj ((show (Tryz.prog.globals[(Tryz.prog.globalNamed "internal/strconv.uint64pow10").getD 0]?).map (·.type) = some 244 by kernel_rfl).symm.trans ht)
  rw [pow_sum _ rfl] at hd
  have := arr_ints Tryz.underlying244 Tryz.underlying79 (by kernel_rfl) (by kernel_rfl) hd
  rw [hv]
  refine congrArg some (Array.toList_inj.1 ?_)
  rw [this]
  show _ = (List.map _ _).toArray.toList
  rw [List.toList_toArray]
/-! ### A world in which it holds -/
theorem laid_met (os : Os) (args : Array Value) : laidMetH Tryz.prog laidL ((World.laidAll Tryz.prog os laidL).forCall (fun _ _ => 0) ⟨#[], args, []⟩).memory := by
  rw [MakeChecks.laidMetH_plain _ _ _ (by kernel_rfl)]
  exact laidMet_laidAll args (by kernel_rfl) (by kernel_rfl)
/-! ### The walk, as a call -/
namespace A
theorem jM_ {w : World} {n : String} {cs : Array Value} (h : w.var? Tryz.prog n = some cs) : (Tryz.prog.globalNamed n).getD 0 < w.heap.size := by
  unfold World.var? at h
  cases hg : Tryz.prog.globalNamed n with
  | none => rw [hg] at h; cases h
  | some g =>
    rw [hg] at h
    simp only [Option.bind_some, Option.getD_some] at h ⊢
    rcases Nat.lt_or_ge g w.heap.size with h1 | h1
    · exact h1
    · rw [Array.getElem?_eq_none h1] at h; cases h
theorem law_ofG {f : FuncId} {args : List Abs} {es er : Value} (h : Spec Tryz.prog f args (globs es er) (fun _ : Unit => []) (fun _ => boo true)) {w : World} {vals : List Value} (hv : reps (mids (globs es er) ++ [(Tryz.prog.globalNamed "strconv.ErrSyntax").getD 0, (Tryz.prog.globalNamed "strconv.ErrRange").getD 0, (Tryz.prog.globalNamed "internal/strconv.uint64pow10").getD 0]) w args vals)
    (h1 : w.var? Tryz.prog "strconv.ErrSyntax" = some #[es]) (h2 : w.var? Tryz.prog "strconv.ErrRange" = some #[er]) (h3 : w.var? Tryz.prog "internal/strconv.uint64pow10" = some pow10C) : Calls Tryz.prog f vals.toArray w fun e w' => e = .returned (.bool true) ∧ Ext [] w w' := by
  have hm : Mem w (mids (globs es er)) [(Tryz.prog.globalNamed "strconv.ErrSyntax").getD 0, (Tryz.prog.globalNamed "strconv.ErrRange").getD 0, (Tryz.prog.globalNamed "internal/strconv.uint64pow10").getD 0] (globs es er) w := by
    refine ⟨Ext.refl w, by simp [mids, It.mids], by simp [mids, It.mids], ?_, ?_, by simp [mids, It.mids], ?_⟩
    · intro k hk
      simp only [List.mem_cons, List.not_mem_nil, or_false] at hk
      rcases hk with rfl | rfl | rfl
      · exact jM_ h1
      · exact jM_ h2
      · exact jM_ h3
    · intro x hx k hk
      simp only [globs, List.mem_cons, List.not_mem_nil, or_false] at hx
      rcases hx with rfl | rfl | rfl <;> (simp only [It.rids, gvPc, List.mem_singleton] at hk; simp [hk])
    · intro x hx
      simp only [globs, List.mem_cons, List.not_mem_nil, or_false] at hx
      rcases hx with rfl | rfl | rfl
      · exact h1
      · exact h2
      · exact h3
  refine (h _ w vals hm hv).mono fun e w' ⟨z, r, he, _, h1, h2⟩ => ⟨?_, h1.ext⟩
  have h2 : r = .bool true := h2
  rw [he, h2]
end A
/-! ### The lift -/
theorem js_ {H : Type} {enc : TypeId × Value → H} {os : Os} (started : os.Started) {f : FuncId} {fn : Func} {s : ChangeSpec}
    (noInit : Tryz.prog.inits.idxOf? f = none) (hfn : Tryz.prog.funcs[f]? = some fn) (hvars : s.vars = []) (hres : fn.resultTypes = #[4])
    (hparB : (fn.params.toList.all fun t => Tryz.prog.readableRec t && decide (t < Tryz.prog.types.size)) = true)
    (hspec : ∀ ds : List (DataW H), ds.length = fn.params.size → s.fn H (ds ++ []) = { results := [.lit (.bool true)], args := ds })
    (wit : ∃ (w : World) (tape : Tape) (i : Input), w.os = os ∧ (w.forCall tape i).Shaped Tryz.prog ∧ i.vars = [] ∧ Input.okWide Tryz.prog (w.forCall tape i) .any w.heap.size f i ∧
      ((s.pre enc Tryz.prog fn [] false (w.forCall tape i).memory i.args ∧ laidMetH Tryz.prog laidL (w.forCall tape i).memory) ∧ sizedMet enc Tryz.prog fn (OpenSpec.ofChange s) false (w.forCall tape i).memory i.args) ∧ Assume.holds {} Tryz.prog (lone (Frame.enter Tryz.prog f i.args .normal) [] (w.forCall tape i)))
    (walk : ∀ (W : World) (base : Nat) (args : Array Value) (ds : List (DataW H)) (p : List MemPlace),
      (∀ (j : Nat) t v, fn.params[j]? = some t → args[j]? = some v → Value.okWide Tryz.prog W .any base t v) →
      DataW.TrodAll enc Tryz.prog W 0 (fun _ => true) true fn.params.toList args.toList ds p →
      laidMetH Tryz.prog laidL W →
      (DataW.weightsEach Tryz.prog fn.params.toList ds).all (· ≤ reachBytes) = true →
      Calls Tryz.prog f args W fun e W' => e = .returned (.bool true) ∧ Ext [] W W') :
    ReturnsInHanded {} Tryz.checked os f .any (fun w args => (s.pre enc Tryz.prog fn [] false w args ∧ laidMetH Tryz.prog laidL w) ∧ sizedMet enc Tryz.prog fn (OpenSpec.ofChange s) false w args) (s.post enc Tryz.prog fn false true false false) := by
  have hpar : ∀ t ∈ fn.params.toList, Tryz.prog.readableRec t = true ∧ t < Tryz.prog.types.size := by
    simpa only [List.all_eq_true, Bool.and_eq_true, decide_eq_true_eq] using hparB
  refine returnsInHanded_of_change_and (C := Tryz.checked) (X := fun w _ => laidMetH Tryz.prog laidL w) (fun _ _ _ hh h => h.of_heap hh) law_own started noInit hfn wit ?_
  intro W base args ds gs before hval0 hW hcnd hsz hL _
  have hval : ∀ (j : Nat) t v, fn.params[j]? = some t → args[j]? = some v → Value.okWide Tryz.prog W .any base t v := hval0
  have hW' := hW
  obtain ⟨p, q, hA0, hV, rfl, hfz, hnd⟩ := hW
  have hA : DataW.TrodAll enc Tryz.prog W 0 (fun _ => true) true fn.params.toList args.toList ds p := hA0
  rw [hvars] at hV
  obtain ⟨rfl, rfl⟩ := trodVars_none hV
  have hsz' : (DataW.weightsEach Tryz.prog fn.params.toList ds).all (· ≤ reachBytes) = true := by
    have h2 := hsz
    simp only [OpenSpec.bare, OpenSpec.ofChange, ChangeSpec.plain, DataSpec.varTypes, hvars, List.filterMap_nil, List.append_nil] at h2
    exact h2
  refine (walk W base args ds p hval hA hL hsz').mono fun e W' ⟨he, bel⟩ => ?_
  subst he
  have hlen : ds.length = fn.params.size := by
    have : ∀ (ts : List TypeId) (vs : List Value) (ds : List (DataW H)) (p : List MemPlace), DataW.TrodAll enc Tryz.prog W 0 (fun _ => true) true ts vs ds p → ds.length = ts.length := by
      intro ts
      induction ts with
      | nil => intro vs ds p h; cases vs <;> cases ds <;> first | rfl | exact h.elim
      | cons t ts ih =>
        intro vs ds p h
        cases vs with
        | nil => exact h.elim
        | cons v vs =>
          cases ds with
          | nil => exact h.elim
          | cons d ds => obtain ⟨p0, q0, _, h1, _⟩ := h; simp [ih vs ds q0 h1]
    simpa using this _ _ _ _ hA
  obtain ⟨pa, hpa⟩ := dh_ (enc := enc) bel.below fn.params.toList args.toList ds p hpar hA
  refine ⟨_, rfl, ds, [], p ++ [], [], pa, [], hW', ?_, ?_, ?_, bel.below.frame _, fun h => by cases h⟩
  · rw [hspec ds hlen, hres]
    exact trodAll_mk1 (shut_bool Tryz.underlying4 _)
  · rw [hspec ds hlen]; exact hpa
  · rw [hspec ds hlen, hvars]; rfl
theorem ky_ {H : Type} {enc : TypeId × Value → H} {os : Os} (started : os.Started) {f : FuncId} {fn : Func} {s : ChangeSpec}
    (noInit : Tryz.prog.inits.idxOf? f = none) (hfn : Tryz.prog.funcs[f]? = some fn) (hvars : s.vars = []) (hres : fn.resultTypes = #[4])
    (hparB : (fn.params.toList.all fun t => Tryz.prog.readableRec t && decide (t < Tryz.prog.types.size)) = true)
    (hspec : ∀ ds : List (DataW H), ds.length = fn.params.size → s.fn H (ds ++ []) = { results := [.lit (.bool true)], args := ds })
    (wit : ∃ (w : World) (tape : Tape) (i : Input), w.os = os ∧ (w.forCall tape i).Shaped Tryz.prog ∧ i.vars = [] ∧ Input.okWide Tryz.prog (w.forCall tape i) .any w.heap.size f i ∧
      ((s.pre enc Tryz.prog fn [] false (w.forCall tape i).memory i.args ∧ laidMetH Tryz.prog laidL (w.forCall tape i).memory) ∧ sizedMet enc Tryz.prog fn (OpenSpec.ofChange s) false (w.forCall tape i).memory i.args) ∧ Assume.holds {} Tryz.prog (lone (Frame.enter Tryz.prog f i.args .normal) [] (w.forCall tape i)))
    (walk : ∀ (W : World) (base : Nat) (args : Array Value) (ds : List (DataW H)) (p : List MemPlace),
      (∀ (j : Nat) t v, fn.params[j]? = some t → args[j]? = some v → Value.okWide Tryz.prog W .any base t v) →
      DataW.TrodAll enc Tryz.prog W 0 (fun _ => true) true fn.params.toList args.toList ds p →
      laidMetH Tryz.prog laidL W →
      Calls Tryz.prog f args W fun e W' => e = .returned (.bool true) ∧ Ext [] W W') :
    ReturnsInHanded {} Tryz.checked os f .any (fun w args => (s.pre enc Tryz.prog fn [] false w args ∧ laidMetH Tryz.prog laidL w) ∧ sizedMet enc Tryz.prog fn (OpenSpec.ofChange s) false w args) (s.post enc Tryz.prog fn false true false false) :=
  js_ started noInit hfn hvars hres hparB hspec wit fun W base args ds p hval hA hL _ => walk W base args ds p hval hA hL
def isAmt (a : Int) : Bool := decide (0 ≤ a ∧ a ≤ 1099511627776)
theorem aP_ {a : Int} (h : isAmt a = true) : 0 ≤ a ∧ a ≤ 1099511627776 := by simpa [isAmt] using h
theorem aX_ {a : Int} (h0 : 0 ≤ a) (h1 : a ≤ 1099511627776) : isAmt a = true := by simp [isAmt]; omega
def amtAdd (a b : Int) : Int × Int := if !isAmt a || !isAmt b then (0, 5) else if isAmt (a + b) then (a + b, 0) else (0, 6)
def amtSub (a b : Int) : Int × Int := if !isAmt a || !isAmt b then (0, 5) else if isAmt (a - b) then (a - b, 0) else (0, 6)
def amtChange (a b : Int) : Int × Int := if b < 0 ∧ -1099511627776 ≤ b then amtSub a (-b) else amtAdd a b
theorem u64_neg {a : Int} (h0 : -9223372036854775808 ≤ a) (h1 : a < 0) : IntKind.u64.wrap a = a + 18446744073709551616 := by
  simp [IntKind.wrap, IntKind.signed, IntKind.bits]; omega
theorem a9_ (a : Int) (b : Bool) (hb : isAmt a = b) (w : World) (h0 : -9223372036854775808 ≤ a) (h1 : a ≤ 9223372036854775807) :
    Calls Tryz.prog 81 #[.int .i64 a] w fun e w' => e = .returned (.bool b) ∧ w = w' := by
  by_cases h : 0 ≤ a
  · go_enter Tryz.func81, Tryz.ntmps81
    go_wp2
    go_ret
    refine ⟨fP_ ?_, rfl⟩
    rw [← hb, isAmt]; simp [h]
  · go_enter Tryz.func81, Tryz.ntmps81
    go_wp2
    go_ret
    refine ⟨fP_ ?_, rfl⟩
    rw [← hb, isAmt, u64_neg h0 (by omega), decide_eq_decide]; omega
theorem bC_ (a : Int) (b : Bool) (hb : isAmt a = b) (w : World) :
    Calls Tryz.prog 31 #[.int .i64 a] w fun e w' => e = .returned (.bool b) ∧ w = w' := by
  by_cases h : 0 ≤ a
  · by_cases h2 : a ≤ 1099511627776
    · obtain rfl : true = b := by rw [← hb, aX_ h h2]
      go_enter Tryz.func31, Tryz.ntmps31
      go_wp2
      go_ret
      exact ⟨rfl, rfl⟩
    · obtain rfl : false = b := by rw [← hb]; simp [isAmt]; omega
      go_enter Tryz.func31, Tryz.ntmps31
      go_wp2
      go_ret
      exact ⟨rfl, rfl⟩
  · obtain rfl : false = b := by rw [← hb]; simp [isAmt]; omega
    go_enter Tryz.func31, Tryz.ntmps31
    go_wp2
    go_ret
    exact ⟨rfl, rfl⟩
theorem fm_ (a : Int) (w : World) (h0 : -9223372036854775808 ≤ a) (h1 : a ≤ 9223372036854775807) :
    Calls Tryz.prog 125 #[.int .i64 a] w fun e w' => e = .returned (.tuple #[.int .i64 (if isAmt a then a else 0), .int .i64 (if isAmt a then 0 else 6)]) ∧ w = w' := by
  cases h : isAmt a
  all_goals
    have H := Lib.hid h; clear h
    go_enter Tryz.func125, Tryz.ntmps125
    go_wp2_with (go_at_call 81; refine (a9_ _ _ H.out _ h0 h1).mono ?_; rintro e _ ⟨rfl, rfl⟩)
    go_ret2
    exact ⟨rfl, rfl⟩
theorem eI_ (a b : Int) (w : World) (a0 : -9223372036854775808 ≤ a) (a1 : a ≤ 9223372036854775807) (b0 : -9223372036854775808 ≤ b) (b1 : b ≤ 9223372036854775807) :
    Calls Tryz.prog 104 #[.int .i64 a, .int .i64 b] w fun e w' => e = .returned (.tuple #[.int .i64 (amtAdd a b).1, .int .i64 (amtAdd a b).2]) ∧ w = w' := by
  cases ha : isAmt a
  · have fin : amtAdd a b = (0, 5) := by simp [amtAdd, ha]
    rw [fin]
    have HA := Lib.hid ha; clear ha fin
    go_enter Tryz.func104, Tryz.ntmps104
    go_wp2_with (go_at_call 81; refine (a9_ _ _ HA.out _ a0 a1).mono ?_; rintro e _ ⟨rfl, rfl⟩)
    go_ret2
    exact ⟨rfl, rfl⟩
  · cases hb : isAmt b
    · have fin : amtAdd a b = (0, 5) := by simp [amtAdd, ha, hb]
      rw [fin]
      have HA := Lib.hid ha; clear ha fin
      have HB := Lib.hid hb; clear hb
      go_enter Tryz.func104, Tryz.ntmps104
      go_wp2_with (first
        | (go_at_call 81; with_reducible refine (a9_ a _ HA.out _ a0 a1).mono ?_; rintro e _ ⟨rfl, rfl⟩)
        | (go_at_call 81; with_reducible refine (a9_ b _ HB.out _ b0 b1).mono ?_; rintro e _ ⟨rfl, rfl⟩))
      go_ret2
      exact ⟨rfl, rfl⟩
    · have xa := aP_ ha
      have xb := aP_ hb
      obtain ⟨xa0, xa1⟩ := xa
      obtain ⟨xb0, xb1⟩ := xb
      have fin : amtAdd a b = (if isAmt (a + b) then a + b else 0, if isAmt (a + b) then 0 else 6) := by
        cases hc : isAmt (a + b) <;> simp [amtAdd, ha, hb, hc]
      rw [fin]
      have HA := Lib.hid ha; clear ha fin
      have HB := Lib.hid hb; clear hb
      have KK := fm_ (a + b) w (by omega) (by omega)
      have HK := Lib.hid KK; clear KK
      go_enter Tryz.func104, Tryz.ntmps104
      go_wp2_with (first
        | (go_at_call 81; with_reducible refine (a9_ a _ HA.out _ a0 a1).mono ?_; rintro e _ ⟨rfl, rfl⟩)
        | (go_at_call 81; with_reducible refine (a9_ b _ HB.out _ b0 b1).mono ?_; rintro e _ ⟨rfl, rfl⟩)
        | (go_at_call 125; refine HK.out.mono ?_; rintro e _ ⟨rfl, rfl⟩))
      all_goals
        go_ret2
        exact ⟨rfl, rfl⟩
theorem ko_ (a b : Int) (w : World) (a0 : -9223372036854775808 ≤ a) (a1 : a ≤ 9223372036854775807) (b0 : -9223372036854775808 ≤ b) (b1 : b ≤ 9223372036854775807) :
    Calls Tryz.prog 173 #[.int .i64 a, .int .i64 b] w fun e w' => e = .returned (.tuple #[.int .i64 (amtSub a b).1, .int .i64 (amtSub a b).2]) ∧ w = w' := by
  cases ha : isAmt a
  · have fin : amtSub a b = (0, 5) := by simp [amtSub, ha]
    rw [fin]
    have HA := Lib.hid ha; clear ha fin
    go_enter Tryz.func173, Tryz.ntmps173
    go_wp2_with (go_at_call 81; refine (a9_ _ _ HA.out _ a0 a1).mono ?_; rintro e _ ⟨rfl, rfl⟩)
    go_ret2
    exact ⟨rfl, rfl⟩
  · cases hb : isAmt b
    · have fin : amtSub a b = (0, 5) := by simp [amtSub, ha, hb]
      rw [fin]
      have HA := Lib.hid ha; clear ha fin
      have HB := Lib.hid hb; clear hb
      go_enter Tryz.func173, Tryz.ntmps173
      go_wp2_with (first
        | (go_at_call 81; with_reducible refine (a9_ a _ HA.out _ a0 a1).mono ?_; rintro e _ ⟨rfl, rfl⟩)
        | (go_at_call 81; with_reducible refine (a9_ b _ HB.out _ b0 b1).mono ?_; rintro e _ ⟨rfl, rfl⟩))
      go_ret2
      exact ⟨rfl, rfl⟩
    · have xa := aP_ ha
      have xb := aP_ hb
      obtain ⟨xa0, xa1⟩ := xa
      obtain ⟨xb0, xb1⟩ := xb
      have fin : amtSub a b = (if isAmt (a - b) then a - b else 0, if isAmt (a - b) then 0 else 6) := by
        cases hc : isAmt (a - b) <;> simp [amtSub, ha, hb, hc]
      rw [fin]
      have HA := Lib.hid ha; clear ha fin
      have HB := Lib.hid hb; clear hb
      have KK := fm_ (a - b) w (by omega) (by omega)
      have HK := Lib.hid KK; clear KK
      go_enter Tryz.func173, Tryz.ntmps173
      go_wp2_with (first
        | (go_at_call 81; with_reducible refine (a9_ a _ HA.out _ a0 a1).mono ?_; rintro e _ ⟨rfl, rfl⟩)
        | (go_at_call 81; with_reducible refine (a9_ b _ HB.out _ b0 b1).mono ?_; rintro e _ ⟨rfl, rfl⟩)
        | (go_at_call 125; refine HK.out.mono ?_; rintro e _ ⟨rfl, rfl⟩))
      all_goals
        go_ret2
        exact ⟨rfl, rfl⟩
theorem bI_ (a b : Int) (w : World) (a0 : -9223372036854775808 ≤ a) (a1 : a ≤ 9223372036854775807) (b0 : -9223372036854775808 ≤ b) (b1 : b ≤ 9223372036854775807) :
    Calls Tryz.prog 161 #[.int .i64 a, .int .i64 b] w fun e w' => e = .returned (.tuple #[.int .i64 (amtChange a b).1, .int .i64 (amtChange a b).2]) ∧ w = w' := by
  by_cases h0 : b < 0
  · by_cases h1 : -1099511627776 ≤ b
    · have fin : amtChange a b = amtSub a (-b) := by simp [amtChange, h0, h1]
      rw [fin]; clear fin
      go_enter Tryz.func161, Tryz.ntmps161
      go_wp2_with (go_at_call 173; refine (ko_ _ _ _ (by omega) (by omega) (by omega) (by omega)).mono ?_; rintro e _ ⟨rfl, rfl⟩)
      go_ret2
      exact ⟨rfl, rfl⟩
    · have fin : amtChange a b = amtAdd a b := by simp [amtChange, h1]
      rw [fin]; clear fin
      go_enter Tryz.func161, Tryz.ntmps161
      go_wp2_with (go_at_call 104; refine (eI_ _ _ _ a0 a1 b0 b1).mono ?_; rintro e _ ⟨rfl, rfl⟩)
      go_ret2
      exact ⟨rfl, rfl⟩
  · have fin : amtChange a b = amtAdd a b := by simp [amtChange, h0]
    rw [fin]; clear fin
    go_enter Tryz.func161, Tryz.ntmps161
    go_wp2_with (go_at_call 104; refine (eI_ _ _ _ a0 a1 b0 b1).mono ?_; rintro e _ ⟨rfl, rfl⟩)
    go_ret2
    exact ⟨rfl, rfl⟩
def refChange (a b : Int) : Int × Int := if !isAmt a || decide (b < -1099511627776) || decide (1099511627776 < b) then (0, 5) else if isAmt (a + b) then (a + b, 0) else (0, 6)
theorem dl_ (a b : Int) (h : isAmt b = true) : refChange a b = amtAdd a b := by
  have hb := aP_ h
  have h1 : decide (b < -1099511627776) = false := by simp; omega
  have h2 : decide (1099511627776 < b) = false := by simp; omega
  simp [refChange, amtAdd, h, h1, h2]
theorem fR_ (a b : Int) (h : isAmt b = true) : refChange a (0 - b) = amtSub a b := by
  have hb := aP_ h
  have h1 : decide (0 - b < -1099511627776) = false := by simp; omega
  have h2 : decide (1099511627776 < 0 - b) = false := by simp; omega
  have h3 : a + (0 - b) = a - b := by omega
  simp only [refChange, amtSub, h, h1, h2, h3, Bool.or_false, Bool.not_true]
theorem d2_ (a b : Int) : amtChange a b = refChange a b := by
  unfold amtChange
  by_cases h0 : b < 0
  · by_cases h1 : -1099511627776 ≤ b
    · rw [if_pos ⟨h0, h1⟩, ← fR_ a (-b) (aX_ (by omega) (by omega))]
      congr 1; omega
    · rw [if_neg (by omega)]
      have h2 : isAmt b = false := by simp [isAmt]; omega
      have h3 : decide (b < -1099511627776) = true := by simp; omega
      simp [amtAdd, refChange, h2, h3]
  · rw [if_neg (by omega)]
    by_cases h1 : b ≤ 1099511627776
    · exact (dl_ a b (aX_ (by omega) h1)).symm
    · have h2 : isAmt b = false := by simp [isAmt]; omega
      have h3 : decide (1099511627776 < b) = true := by simp; omega
      simp [amtAdd, refChange, h2, h3]
theorem dX_ (a b : Int) (w : World) (a0 : -9223372036854775808 ≤ a) (a1 : a ≤ 9223372036854775807) (b0 : -9223372036854775808 ≤ b) (b1 : b ≤ 9223372036854775807) :
    Calls Tryz.prog 114 #[.int .i64 a, .int .i64 b] w fun e w' => e = .returned (.tuple #[.int .i64 (refChange a b).1, .int .i64 (refChange a b).2]) ∧ w = w' := by
  cases ha : isAmt a
  · have fin : refChange a b = (0, 5) := by simp [refChange, ha]
    rw [fin]
    have HA := Lib.hid ha; clear ha fin
    go_enter Tryz.func114, Tryz.ntmps114
    go_wp2_with (go_at_call 31; with_reducible refine (bC_ a _ HA.out _).mono ?_; rintro e _ ⟨rfl, rfl⟩)
    go_ret2
    exact ⟨rfl, rfl⟩
  · have xa := aP_ ha
    obtain ⟨xa0, xa1⟩ := xa
    have HA := Lib.hid ha
    by_cases h1 : b < -1099511627776
    · have fin : refChange a b = (0, 5) := by simp [refChange, h1]
      rw [fin]
      clear ha fin
      go_enter Tryz.func114, Tryz.ntmps114
      go_wp2_with (go_at_call 31; with_reducible refine (bC_ a _ HA.out _).mono ?_; rintro e _ ⟨rfl, rfl⟩)
      go_ret2
      exact ⟨rfl, rfl⟩
    · by_cases h2 : 1099511627776 < b
      · have fin : refChange a b = (0, 5) := by simp [refChange, h2]
        rw [fin]
        clear ha fin
        go_enter Tryz.func114, Tryz.ntmps114
        go_wp2_with (go_at_call 31; with_reducible refine (bC_ a _ HA.out _).mono ?_; rintro e _ ⟨rfl, rfl⟩)
        go_ret2
        exact ⟨rfl, rfl⟩
      · cases hc : isAmt (a + b)
        · have fin : refChange a b = (0, 6) := by simp [refChange, ha, h1, h2, hc]
          rw [fin]
          have HC := Lib.hid hc
          clear ha fin hc
          go_enter Tryz.func114, Tryz.ntmps114
          go_wp2_with (first
            | (go_at_call 31; with_reducible refine (bC_ a _ HA.out _).mono ?_; rintro e _ ⟨rfl, rfl⟩)
            | (go_at_call 31; with_reducible refine (bC_ (a + b) _ HC.out _).mono ?_; rintro e _ ⟨rfl, rfl⟩))
          go_ret2
          exact ⟨rfl, rfl⟩
        · have fin : refChange a b = (a + b, 0) := by simp [refChange, ha, h1, h2, hc]
          rw [fin]
          have HC := Lib.hid hc
          clear ha fin hc
          go_enter Tryz.func114, Tryz.ntmps114
          go_wp2_with (first
            | (go_at_call 31; with_reducible refine (bC_ a _ HA.out _).mono ?_; rintro e _ ⟨rfl, rfl⟩)
            | (go_at_call 31; with_reducible refine (bC_ (a + b) _ HC.out _).mono ?_; rintro e _ ⟨rfl, rfl⟩))
          go_ret2
          exact ⟨rfl, rfl⟩
theorem j6_ (a b : Int) (w : World) (a0 : -9223372036854775808 ≤ a) (a1 : a ≤ 9223372036854775807) (b0 : -9223372036854775808 ≤ b) (b1 : b ≤ 9223372036854775807) :
    Calls Tryz.prog 92 #[.int .i64 a, .int .i64 b] w fun e w' => e = .returned (.tuple #[.int .i64 (amtAdd a b).1, .int .i64 (amtAdd a b).2]) ∧ w = w' := by
  cases hb : isAmt b
  · have fin : amtAdd a b = (0, 5) := by simp [amtAdd, hb]
    rw [fin]
    have HB := Lib.hid hb; clear hb fin
    go_enter Tryz.func92, Tryz.ntmps92
    go_wp2_with (go_at_call 31; with_reducible refine (bC_ b _ HB.out _).mono ?_; rintro e _ ⟨rfl, rfl⟩)
    go_ret2
    exact ⟨rfl, rfl⟩
  · have xb := aP_ hb
    obtain ⟨xb0, xb1⟩ := xb
    have HC := dX_ a b w a0 a1 (by omega) (by omega)
    rw [dl_ a b hb] at HC
    have HB := Lib.hid hb; clear hb
    have HD := Lib.hid HC; clear HC
    go_enter Tryz.func92, Tryz.ntmps92
    go_wp2_with (first
      | (go_at_call 31; with_reducible refine (bC_ b _ HB.out _).mono ?_; rintro e _ ⟨rfl, rfl⟩)
      | (go_at_call 114; refine HD.out.mono ?_; rintro e _ ⟨rfl, rfl⟩))
    go_ret2
    exact ⟨rfl, rfl⟩
theorem e0_ (a b : Int) : isAmt (amtAdd a b).1 = true := by
  unfold amtAdd; split
  · exact aX_ (by decide) (by decide)
  · split
    · assumption
    · exact aX_ (by decide) (by decide)
theorem k8_ (a b : Int) : isAmt (amtSub a b).1 = true := by
  unfold amtSub; split
  · exact aX_ (by decide) (by decide)
  · split
    · assumption
    · exact aX_ (by decide) (by decide)
theorem hf_ (a b : Int) : isAmt (amtChange a b).1 = true := by
  unfold amtChange; split
  · exact k8_ _ _
  · exact e0_ _ _
theorem by_ (a b : Int) (w : World) (a0 : -9223372036854775808 ≤ a) (a1 : a ≤ 9223372036854775807) (b0 : -9223372036854775808 ≤ b) (b1 : b ≤ 9223372036854775807) :
    Calls Tryz.prog 114 #[.int .i64 a, .int .i64 b] w fun e w' => e = .returned (.tuple #[.int .i64 (amtChange a b).1, .int .i64 (amtChange a b).2]) ∧ w = w' := by
  rw [d2_]; exact dX_ a b w a0 a1 b0 b1
structure Ltr where
  name : ByteArray
  state : Int
  amount : Int
  due : Int
  policy : ByteArray
  papers : ByteArray
def Ltr.cells (l : Ltr) : Array Value := #[.string l.name, .int .i64 l.state, .int .i64 l.amount, .int .i64 l.due, .string l.policy, .string l.papers]
def Ltr.none : Ltr := ⟨ByteArray.empty, 0, 0, 0, ByteArray.empty, ByteArray.empty⟩
def ltrRow (op : Int) : List Int :=
   if op = 1 then [1, 0, 0, 0, 0, 0, 0, 0]
  else if op = 2 then [0, 2, 0, 0, 0, 0, 0, 0]
  else if op = 3 then [0, 0, 2, 0, 0, 0, 0, 0]
  else if op = 4 then [0, 0, 3, 0, 0, 0, 0, 0]
  else if op = 5 then [0, 0, 0, 4, 0, 0, 0, 0]
  else if op = 6 then [0, 0, 0, 2, 0, 0, 0, 0]
  else if op = 7 then [0, 0, 0, 0, 5, 0, 0, 0]
  else if op = 8 then [0, 6, 6, 6, 0, 0, 0, 0]
  else if op = 9 then [0, 7, 7, 0, 0, 0, 0, 0]
  else [0, 0, 0, 0, 0, 0, 0, 0]
def ltrNext (state op : Int) : Int := if state < 0 then 0 else (ltrRow op).getD state.toNat 0
def tableCells : Array Value := #[.int .i64 0, .int .i64 0, .int .i64 0, .int .i64 0, .int .i64 0, .int .i64 0, .int .i64 0, .int .i64 0, .int .i64 1, .int .i64 0, .int .i64 0, .int .i64 0, .int .i64 0, .int .i64 0, .int .i64 0, .int .i64 0, .int .i64 0, .int .i64 2, .int .i64 0, .int .i64 0, .int .i64 0, .int .i64 0, .int .i64 0, .int .i64 0, .int .i64 0, .int .i64 0, .int .i64 2, .int .i64 0, .int .i64 0, .int .i64 0, .int .i64 0, .int .i64 0, .int .i64 0, .int .i64 0, .int .i64 3, .int .i64 0, .int .i64 0, .int .i64 0, .int .i64 0, .int .i64 0, .int .i64 0, .int .i64 0, .int .i64 0, .int .i64 4, .int .i64 0, .int .i64 0, .int .i64 0, .int .i64 0, .int .i64 0, .int .i64 0, .int .i64 0, .int .i64 2, .int .i64 0, .int .i64 0, .int .i64 0, .int .i64 0, .int .i64 0, .int .i64 0, .int .i64 0, .int .i64 0, .int .i64 5, .int .i64 0, .int .i64 0, .int .i64 0, .int .i64 0, .int .i64 6, .int .i64 6, .int .i64 6, .int .i64 0, .int .i64 0, .int .i64 0, .int .i64 0, .int .i64 0, .int .i64 7, .int .i64 7, .int .i64 0, .int .i64 0, .int .i64 0, .int .i64 0, .int .i64 0]
set_option maxRecDepth 100000 in
theorem gO_ (w : World) : Calls Tryz.prog 144 #[] w fun e w' => e = .returned (.agg tableCells) ∧ Ext [] w w' := by
  go_enter Tryz.func144, Tryz.ntmps144
  go_wp2_with (first
    | (refine d1_ (o := ⟨none, .store 181 _ _, _, _, _, _⟩) rfl _ _ _ rfl w _ _ tableCells rfl rfl rfl (by kernel_rfl) (by kernel_rfl) (by kernel_rfl) ?_))
  exact bodyPost_ret (v := .agg tableCells) (results_cell_row rfl _ _ w.heap.size _ _ _ _ rfl (heap_alloc_new _ _) Tryz.underlying181 rfl (by kernel_rfl)) rfl ⟨rfl, (Ext.refl _).alloc _⟩
theorem kF_ (op : Int) (h1 : 1 ≤ op) (h9 : op ≤ 9) (w : World) : (Instr.index 181 (.agg tableCells) (.int .i64 op)).run Tryz.prog w = .ok (.agg ((ltrRow op).map (Value.int .i64)).toArray) w := by
  have : op = 1 ∨ op = 2 ∨ op = 3 ∨ op = 4 ∨ op = 5 ∨ op = 6 ∨ op = 7 ∨ op = 8 ∨ op = 9 := by omega
  rcases this with rfl | rfl | rfl | rfl | rfl | rfl | rfl | rfl | rfl <;> (show _ = _; kernel_rfl)
theorem hK_ (op : Int) (h1 : 1 ≤ op) (h9 : op ≤ 9) (s : Int) (hs0 : 0 ≤ s) (hs7 : s ≤ 7) (w : World) :
    (Instr.index 180 (.agg ((ltrRow op).map (Value.int .i64)).toArray) (.int .i64 s)).run Tryz.prog w = .ok (.int .i64 (ltrNext s op)) w := by
  have h : op = 1 ∨ op = 2 ∨ op = 3 ∨ op = 4 ∨ op = 5 ∨ op = 6 ∨ op = 7 ∨ op = 8 ∨ op = 9 := by omega
  have h2 : s = 0 ∨ s = 1 ∨ s = 2 ∨ s = 3 ∨ s = 4 ∨ s = 5 ∨ s = 6 ∨ s = 7 := by omega
  rcases h with rfl | rfl | rfl | rfl | rfl | rfl | rfl | rfl | rfl <;> rcases h2 with rfl | rfl | rfl | rfl | rfl | rfl | rfl | rfl <;> (show _ = _; kernel_rfl)
theorem bt_ (s op : Int) (h : op < 1 ∨ 9 < op ∨ s < 0 ∨ 8 ≤ s) : ltrNext s op = 0 := by
  unfold ltrNext
  split
  · rfl
  · have h' : op < 1 ∨ 9 < op ∨ 8 ≤ s := by omega
    rcases h' with h' | h' | h'
    · simp only [ltrRow, if_neg (show ¬ op = 1 by omega), if_neg (show ¬ op = 2 by omega), if_neg (show ¬ op = 3 by omega), if_neg (show ¬ op = 4 by omega), if_neg (show ¬ op = 5 by omega), if_neg (show ¬ op = 6 by omega), if_neg (show ¬ op = 7 by omega), if_neg (show ¬ op = 8 by omega), if_neg (show ¬ op = 9 by omega)]
      rcases hs : s.toNat with _ | _ | _ | _ | _ | _ | _ | _ | n <;> simp
    · simp only [ltrRow, if_neg (show ¬ op = 1 by omega), if_neg (show ¬ op = 2 by omega), if_neg (show ¬ op = 3 by omega), if_neg (show ¬ op = 4 by omega), if_neg (show ¬ op = 5 by omega), if_neg (show ¬ op = 6 by omega), if_neg (show ¬ op = 7 by omega), if_neg (show ¬ op = 8 by omega), if_neg (show ¬ op = 9 by omega)]
      rcases hs : s.toNat with _ | _ | _ | _ | _ | _ | _ | _ | n <;> simp
    · have hl : (ltrRow op).length = 8 := by unfold ltrRow; repeat' split
                                             all_goals rfl
      rw [List.getD_eq_getElem?_getD, List.getElem?_eq_none (by omega)]; rfl
theorem dc_ (s op : Int) (w : World) :
    Calls Tryz.prog 122 #[.int .i64 s, .int .i64 op] w fun e w' => e = .returned (.int .i64 (ltrNext s op)) ∧ Ext [] w w' := by
  by_cases h1 : op < 1
  · rw [bt_ s op (by omega)]
    go_enter Tryz.func122, Tryz.ntmps122
    go_wp2
    go_ret
    exact ⟨rfl, Ext.refl _⟩
  by_cases h2 : 9 < op
  · rw [bt_ s op (by omega)]
    go_enter Tryz.func122, Tryz.ntmps122
    go_wp2
    go_ret
    exact ⟨rfl, Ext.refl _⟩
  by_cases h3 : s < 0
  · rw [bt_ s op (by omega)]
    go_enter Tryz.func122, Tryz.ntmps122
    go_wp2
    go_ret
    exact ⟨rfl, Ext.refl _⟩
  by_cases h4 : 8 ≤ s
  · rw [bt_ s op (by omega)]
    go_enter Tryz.func122, Tryz.ntmps122
    go_wp2
    go_ret
    exact ⟨rfl, Ext.refl _⟩
  have i1 := kF_ op (by omega) (by omega)
  have i2 := hK_ op (by omega) (by omega) s (by omega) (by omega)
  go_enter Tryz.func122, Tryz.ntmps122
  go_wp2_with (go_at_call 144; refine (gO_ _).mono ?_; rintro e w1 ⟨rfl, e1⟩)
  go_ret
  exact ⟨rfl, e1⟩
def ltrFrom (op : Int) : List Int := if op = 1 then [0] else if op = 2 then [1] else if op = 3 then [2] else if op = 4 then [2] else if op = 5 then [3] else if op = 6 then [3] else if op = 7 then [4] else if op = 8 then [1, 2, 3] else if op = 9 then [1, 2] else []
theorem aW_ (s op : Int) (h : s ∉ ltrFrom op) : ltrNext s op = 0 := by
  by_cases h1 : op < 1 ∨ 9 < op ∨ s < 0 ∨ 8 ≤ s
  · exact bt_ s op h1
  · have h3 : op = 1 ∨ op = 2 ∨ op = 3 ∨ op = 4 ∨ op = 5 ∨ op = 6 ∨ op = 7 ∨ op = 8 ∨ op = 9 := by omega
    have h2 : s = 0 ∨ s = 1 ∨ s = 2 ∨ s = 3 ∨ s = 4 ∨ s = 5 ∨ s = 6 ∨ s = 7 := by omega
    rcases h3 with rfl | rfl | rfl | rfl | rfl | rfl | rfl | rfl | rfl <;> rcases h2 with rfl | rfl | rfl | rfl | rfl | rfl | rfl | rfl <;> first | rfl | exact absurd (by decide) h
theorem aA_ (s op : Int) (w : World) :
    Calls Tryz.prog 111 #[.int .i64 s, .int .i64 op] w fun e w' => e = .returned (.int .i64 (ltrNext s op)) ∧ w = w' := by
  by_cases h1 : op < 1 ∨ 9 < op
  · rw [bt_ s op (by omega)]
    have k1 : (op == 1) = false := by simp; omega
    have k2 : (op == 2) = false := by simp; omega
    have k3 : (op == 3) = false := by simp; omega
    have k4 : (op == 4) = false := by simp; omega
    have k5 : (op == 5) = false := by simp; omega
    have k6 : (op == 6) = false := by simp; omega
    have k7 : (op == 7) = false := by simp; omega
    have k8 : (op == 8) = false := by simp; omega
    have k9 : (op == 9) = false := by simp; omega
    clear h1
    go_enter Tryz.func111, Tryz.ntmps111
    go_wp2
    go_ret
    exact ⟨rfl, rfl⟩
  have : op = 1 ∨ op = 2 ∨ op = 3 ∨ op = 4 ∨ op = 5 ∨ op = 6 ∨ op = 7 ∨ op = 8 ∨ op = 9 := by omega
  clear h1
  rcases this with rfl | rfl | rfl | rfl | rfl | rfl | rfl | rfl | rfl
  ·
    by_cases s0 : s = 0
    · subst s0
      rw [show ltrNext 0 1 = 1 from by decide]
      go_enter Tryz.func111, Tryz.ntmps111
      go_wp2
      go_ret
      exact ⟨rfl, rfl⟩
    have b0 : (s == 0) = false := by simpa using s0
    rw [show ltrNext s 1 = 0 from aW_ s 1 (by simp [ltrFrom]; omega)]
    go_enter Tryz.func111, Tryz.ntmps111
    go_wp2
    go_ret
    exact ⟨rfl, rfl⟩
  ·
    by_cases s1 : s = 1
    · subst s1
      rw [show ltrNext 1 2 = 2 from by decide]
      go_enter Tryz.func111, Tryz.ntmps111
      go_wp2
      go_ret
      exact ⟨rfl, rfl⟩
    have b1 : (s == 1) = false := by simpa using s1
    rw [show ltrNext s 2 = 0 from aW_ s 2 (by simp [ltrFrom]; omega)]
    go_enter Tryz.func111, Tryz.ntmps111
    go_wp2
    go_ret
    exact ⟨rfl, rfl⟩
  ·
    by_cases s2 : s = 2
    · subst s2
      rw [show ltrNext 2 3 = 2 from by decide]
      go_enter Tryz.func111, Tryz.ntmps111
      go_wp2
      go_ret
      exact ⟨rfl, rfl⟩
    have b2 : (s == 2) = false := by simpa using s2
    rw [show ltrNext s 3 = 0 from aW_ s 3 (by simp [ltrFrom]; omega)]
    go_enter Tryz.func111, Tryz.ntmps111
    go_wp2
    go_ret
    exact ⟨rfl, rfl⟩
  ·
    by_cases s2 : s = 2
    · subst s2
      rw [show ltrNext 2 4 = 3 from by decide]
      go_enter Tryz.func111, Tryz.ntmps111
      go_wp2
      go_ret
      exact ⟨rfl, rfl⟩
    have b2 : (s == 2) = false := by simpa using s2
    rw [show ltrNext s 4 = 0 from aW_ s 4 (by simp [ltrFrom]; omega)]
    go_enter Tryz.func111, Tryz.ntmps111
    go_wp2
    go_ret
    exact ⟨rfl, rfl⟩
  ·
    by_cases s3 : s = 3
    · subst s3
      rw [show ltrNext 3 5 = 4 from by decide]
      go_enter Tryz.func111, Tryz.ntmps111
      go_wp2
      go_ret
      exact ⟨rfl, rfl⟩
    have b3 : (s == 3) = false := by simpa using s3
    rw [show ltrNext s 5 = 0 from aW_ s 5 (by simp [ltrFrom]; omega)]
    go_enter Tryz.func111, Tryz.ntmps111
    go_wp2
    go_ret
    exact ⟨rfl, rfl⟩
  ·
    by_cases s3 : s = 3
    · subst s3
      rw [show ltrNext 3 6 = 2 from by decide]
      go_enter Tryz.func111, Tryz.ntmps111
      go_wp2
      go_ret
      exact ⟨rfl, rfl⟩
    have b3 : (s == 3) = false := by simpa using s3
    rw [show ltrNext s 6 = 0 from aW_ s 6 (by simp [ltrFrom]; omega)]
    go_enter Tryz.func111, Tryz.ntmps111
    go_wp2
    go_ret
    exact ⟨rfl, rfl⟩
  ·
    by_cases s4 : s = 4
    · subst s4
      rw [show ltrNext 4 7 = 5 from by decide]
      go_enter Tryz.func111, Tryz.ntmps111
      go_wp2
      go_ret
      exact ⟨rfl, rfl⟩
    have b4 : (s == 4) = false := by simpa using s4
    rw [show ltrNext s 7 = 0 from aW_ s 7 (by simp [ltrFrom]; omega)]
    go_enter Tryz.func111, Tryz.ntmps111
    go_wp2
    go_ret
    exact ⟨rfl, rfl⟩
  ·
    by_cases s1 : s = 1
    · subst s1
      rw [show ltrNext 1 8 = 6 from by decide]
      go_enter Tryz.func111, Tryz.ntmps111
      go_wp2
      go_ret
      exact ⟨rfl, rfl⟩
    by_cases s2 : s = 2
    · subst s2
      rw [show ltrNext 2 8 = 6 from by decide]
      go_enter Tryz.func111, Tryz.ntmps111
      go_wp2
      go_ret
      exact ⟨rfl, rfl⟩
    by_cases s3 : s = 3
    · subst s3
      rw [show ltrNext 3 8 = 6 from by decide]
      go_enter Tryz.func111, Tryz.ntmps111
      go_wp2
      go_ret
      exact ⟨rfl, rfl⟩
    have b1 : (s == 1) = false := by simpa using s1
    have b2 : (s == 2) = false := by simpa using s2
    have b3 : (s == 3) = false := by simpa using s3
    rw [show ltrNext s 8 = 0 from aW_ s 8 (by simp [ltrFrom]; omega)]
    go_enter Tryz.func111, Tryz.ntmps111
    go_wp2
    go_ret
    exact ⟨rfl, rfl⟩
  ·
    by_cases s1 : s = 1
    · subst s1
      rw [show ltrNext 1 9 = 7 from by decide]
      go_enter Tryz.func111, Tryz.ntmps111
      go_wp2
      go_ret
      exact ⟨rfl, rfl⟩
    by_cases s2 : s = 2
    · subst s2
      rw [show ltrNext 2 9 = 7 from by decide]
      go_enter Tryz.func111, Tryz.ntmps111
      go_wp2
      go_ret
      exact ⟨rfl, rfl⟩
    have b1 : (s == 1) = false := by simpa using s1
    have b2 : (s == 2) = false := by simpa using s2
    rw [show ltrNext s 9 = 0 from aW_ s 9 (by simp [ltrFrom]; omega)]
    go_enter Tryz.func111, Tryz.ntmps111
    go_wp2
    go_ret
    exact ⟨rfl, rfl⟩
/-! ### What a step does beside the state -/
def Ltr.apply (l : Ltr) (a b : Int) (text : ByteArray) : Ltr × Int :=
  if a < 1 then (l, 5) else if isAmt a = false then (l, 6) else if isAmt b = false then (l, 5) else (⟨l.name, 0, a, b, text, ByteArray.empty⟩, 0)
def Ltr.amend (l : Ltr) (a b : Int) : Ltr × Int :=
  if (amtChange l.amount a).2 ≠ 0 then (l, (amtChange l.amount a).2)
  else if (amtChange l.amount a).1 = 0 ∨ isAmt b = false then (l, 5)
  else ({ l with amount := (amtChange l.amount a).1, due := if b ≠ 0 then b else l.due }, 0)
def Ltr.expire (l : Ltr) (a : Int) : Int := if isAmt a = false then 5 else if a < l.due then 8 else 0
def Ltr.does (l : Ltr) (op a b : Int) (text : ByteArray) : Ltr × Int :=
  if (op = 1 ∨ op = 4) ∧ 200 < text.size then (l, 3)
  else if op = 1 then l.apply a b text
  else if op = 3 then l.amend a b
  else if op = 4 then ({ l with papers := text }, 0)
  else if op = 6 then ({ l with papers := ByteArray.empty }, 0)
  else if op = 8 then (l, l.expire a)
  else (l, 0)
def Ltr.step (l : Ltr) (op a b : Int) (text : ByteArray) : Ltr × Int :=
  if op < 1 ∨ 9 < op then (Ltr.none, 1)
  else if ltrNext l.state op = 0 then (Ltr.none, 8)
  else if (l.does op a b text).2 ≠ 0 then (Ltr.none, (l.does op a b text).2)
  else ({ (l.does op a b text).1 with state := ltrNext l.state op }, 0)
def i64ok (a : Int) : Prop := -9223372036854775808 ≤ a ∧ a ≤ 9223372036854775807
structure Ltr.Wf (l : Ltr) : Prop where
  state : i64ok l.state
  amount : i64ok l.amount
  due : i64ok l.due
theorem bu_ (a : Int) (b : Bool) (hb : isAmt a = b) (w : World) :
    Calls Tryz.prog 160 #[.int .i64 a] w fun e w' => e = .returned (.bool b) ∧ w = w' := by
  by_cases h : 0 ≤ a
  · by_cases h2 : a ≤ 1099511627776
    · obtain rfl : true = b := by rw [← hb, aX_ h h2]
      go_enter Tryz.func160, Tryz.ntmps160
      go_wp2
      go_ret
      exact ⟨rfl, rfl⟩
    · obtain rfl : false = b := by rw [← hb]; simp [isAmt]; omega
      go_enter Tryz.func160, Tryz.ntmps160
      go_wp2
      go_ret
      exact ⟨rfl, rfl⟩
  · obtain rfl : false = b := by rw [← hb]; simp [isAmt]; omega
    go_enter Tryz.func160, Tryz.ntmps160
    go_wp2
    go_ret
    exact ⟨rfl, rfl⟩
theorem bx_ (a : Int) (b : Bool) (hb : isAmt a = b) (w : World) :
    Calls Tryz.prog 56 #[.int .i64 a] w fun e w' => e = .returned (.bool b) ∧ w = w' := by
  by_cases h : 0 ≤ a
  · by_cases h2 : a ≤ 1099511627776
    · obtain rfl : true = b := by rw [← hb, aX_ h h2]
      go_enter Tryz.func56, Tryz.ntmps56
      go_wp2
      go_ret
      exact ⟨rfl, rfl⟩
    · obtain rfl : false = b := by rw [← hb]; simp [isAmt]; omega
      go_enter Tryz.func56, Tryz.ntmps56
      go_wp2
      go_ret
      exact ⟨rfl, rfl⟩
  · obtain rfl : false = b := by rw [← hb]; simp [isAmt]; omega
    go_enter Tryz.func56, Tryz.ntmps56
    go_wp2
    go_ret
    exact ⟨rfl, rfl⟩
def LtrAt (w : World) (p : Nat) (l : Ltr) : Prop := Blk w p 81 l.cells
section
variable {w : World} {p : Nat} {l : Ltr}
theorem LtrAt.setState (h : LtrAt w p l) (s : Int) : LtrAt (w.setCell ⟨p, 1, none⟩ (.int .i64 s)) p { l with state := s } := Blk.set_ h 1 _
theorem Ltr.one (l : Ltr) : l.cells.all (·.oneCell') = true := Array.all_eq_true_iff_forall_mem.2 (fun v hv => by
  simp [Ltr.cells] at hv
  rcases hv with rfl | rfl | rfl | rfl | rfl | rfl <;> rfl)
theorem am_ {ops : Array Oper} {rest : List Oper} {o : Oper} {a : Act} {Q : Exit → Act → World → Prop} (h : LtrAt w p l) (l' : Ltr) (hg : o.guard = none) (x y : Operand) (ho : o.op = .store 81 x y)
    (hx : a.eval x = .pointer (some ⟨p, 0, none⟩)) (hy : a.eval y = .agg l'.cells) (k : ∀ w', LtrAt w' p l' → Ext [p] w w' → wpList Tryz.prog ops Q rest (a.put o.dst undef) w') : wpList Tryz.prog ops Q (o :: rest) a w :=
  wpList_store_row hg 81 x y ho p l'.cells hx hy 81 l.cells h (by kernel_rfl) rfl (Ltr.one l') (k _ (Blk.setRow h _) ((Ext.refl _).setRow (by simp) _))
theorem LtrAt.c0 (h : LtrAt w p l) : w.cell? ⟨p, 0, none⟩ = some (.string l.name) := by have := Blk.cell h 0; simpa [Ltr.cells] using this
theorem LtrAt.c1 (h : LtrAt w p l) : w.cell? ⟨p, 1, none⟩ = some (.int .i64 l.state) := by have := Blk.cell h 1; simpa [Ltr.cells] using this
theorem LtrAt.c2 (h : LtrAt w p l) : w.cell? ⟨p, 2, none⟩ = some (.int .i64 l.amount) := by have := Blk.cell h 2; simpa [Ltr.cells] using this
theorem LtrAt.c3 (h : LtrAt w p l) : w.cell? ⟨p, 3, none⟩ = some (.int .i64 l.due) := by have := Blk.cell h 3; simpa [Ltr.cells] using this
theorem LtrAt.c4 (h : LtrAt w p l) : w.cell? ⟨p, 4, none⟩ = some (.string l.policy) := by have := Blk.cell h 4; simpa [Ltr.cells] using this
theorem LtrAt.c5 (h : LtrAt w p l) : w.cell? ⟨p, 5, none⟩ = some (.string l.papers) := by have := Blk.cell h 5; simpa [Ltr.cells] using this
end
theorem gP_ (w : World) (p : Nat) (l : Ltr) (a b : Int) (text : ByteArray) (h : LtrAt w p l) (ha : i64ok a) :
    Calls Tryz.prog 145 #[.pointer (some ⟨p, 0, none⟩), .int .i64 a, .int .i64 b, .string text] w fun e w' => e = .returned (.int .i64 (l.apply a b text).2) ∧ LtrAt w' p (l.apply a b text).1 ∧ Ext [p] w w' := by
  obtain ⟨a0, a1⟩ := ha
  have c0 := h.c0
  have H := Lib.hid h; clear h
  by_cases h1 : a < 1
  · rw [show l.apply a b text = (l, 5) by simp [Ltr.apply, h1]]
    go_enter Tryz.func145, Tryz.ntmps145
    go_wp2
    go_ret
    exact ⟨rfl, H.out, Ext.refl _⟩
  cases h2 : isAmt a
  · rw [show l.apply a b text = (l, 6) by simp [Ltr.apply, h1, h2]]
    have H2 := Lib.hid h2; clear h2
    go_enter Tryz.func145, Tryz.ntmps145
    go_wp2_with (go_at_call 81; with_reducible refine (a9_ a _ H2.out _ (by omega) (by omega)).mono ?_; rintro e _ ⟨rfl, rfl⟩)
    go_ret
    exact ⟨rfl, H.out, Ext.refl _⟩
  have H2 := Lib.hid h2
  cases h3 : isAmt b
  · rw [show l.apply a b text = (l, 5) by simp [Ltr.apply, h2, h3]]
    have H3 := Lib.hid h3; clear h3 h2
    go_enter Tryz.func145, Tryz.ntmps145
    go_wp2_with (first
      | (go_at_call 81; with_reducible refine (a9_ a _ H2.out _ (by omega) (by omega)).mono ?_; rintro e _ ⟨rfl, rfl⟩)
      | (go_at_call 160; with_reducible refine (bu_ b _ H3.out _).mono ?_; rintro e _ ⟨rfl, rfl⟩))
    go_ret
    exact ⟨rfl, H.out, Ext.refl _⟩
  rw [show l.apply a b text = (⟨l.name, 0, a, b, text, ByteArray.empty⟩, 0) by simp [Ltr.apply, h1, h2, h3]]
  have H3 := Lib.hid h3; clear h3 h2
  go_enter Tryz.func145, Tryz.ntmps145
  go_wp2_with (first
    | (go_at_call 81; with_reducible refine (a9_ a _ H2.out _ (by omega) (by omega)).mono ?_; rintro e _ ⟨rfl, rfl⟩)
    | (go_at_call 160; with_reducible refine (bu_ b _ H3.out _).mono ?_; rintro e _ ⟨rfl, rfl⟩)
    | ((with_reducible refine cj_ ⟨none, _, _, _, _, _⟩ ?_); refine am_ H.out ⟨l.name, 0, a, b, text, ByteArray.empty⟩ rfl _ _ rfl rfl rfl ?_; intro w1 hw1 x1))
  go_ret
  exact ⟨rfl, hw1, x1⟩
theorem gQ_ (w : World) (p : Nat) (l : Ltr) (a b : Int) (h : LtrAt w p l) (hl : i64ok l.amount) (ha : i64ok a) :
    Calls Tryz.prog 146 #[.pointer (some ⟨p, 0, none⟩), .int .i64 a, .int .i64 b] w fun e w' => e = .returned (.int .i64 (l.amend a b).2) ∧ LtrAt w' p (l.amend a b).1 ∧ Ext [p] w w' := by
  obtain ⟨a0, a1⟩ := ha
  obtain ⟨l0, l1⟩ := hl
  have c2 := h.c2
  have c3 := h.c3
  have f2 := h.frozen 2
  have f3 := h.frozen 3
  have H := Lib.hid h; clear h
  by_cases he : (amtChange l.amount a).2 = 0
  · have hb : ((amtChange l.amount a).2 != 0) = false := by simp [he]
    by_cases hv : (amtChange l.amount a).1 = 0
    · rw [show l.amend a b = (l, 5) by simp [Ltr.amend, he, hv]]
      have hvb : ((amtChange l.amount a).1 == 0) = true := by simp [hv]
      clear he hv
      go_enter Tryz.func146, Tryz.ntmps146
      go_wp2_with (go_at_call 161; refine (bI_ _ _ _ l0 l1 a0 a1).mono ?_; rintro e _ ⟨rfl, rfl⟩)
      go_ret
      exact ⟨rfl, H.out, Ext.refl _⟩
    · have hvb : ((amtChange l.amount a).1 == 0) = false := by simpa using hv
      cases hd : isAmt b
      · rw [show l.amend a b = (l, 5) by simp [Ltr.amend, he, hd]]
        have HD := Lib.hid hd
        clear he hv hd
        go_enter Tryz.func146, Tryz.ntmps146
        go_wp2_with (first
          | (go_at_call 161; refine (bI_ _ _ _ l0 l1 a0 a1).mono ?_; rintro e _ ⟨rfl, rfl⟩)
          | (go_at_call 160; with_reducible refine (bu_ b _ HD.out _).mono ?_; rintro e _ ⟨rfl, rfl⟩))
        go_ret
        exact ⟨rfl, H.out, Ext.refl _⟩
      · by_cases h0 : b = 0
        · subst h0
          rw [show l.amend a 0 = ({ l with amount := (amtChange l.amount a).1 }, 0) by simp [Ltr.amend, he, hd, hv]]
          have HD := Lib.hid hd
          clear he hv hd
          go_enter Tryz.func146, Tryz.ntmps146
          go_wp2_with (first
            | (go_at_call 161; refine (bI_ _ _ _ l0 l1 a0 a1).mono ?_; rintro e _ ⟨rfl, rfl⟩)
            | (go_at_call 160; with_reducible refine (bu_ 0 _ HD.out _).mono ?_; rintro e _ ⟨rfl, rfl⟩))
          go_ret
          exact ⟨rfl, Blk.set_ H.out 2 _, (Ext.refl _).setCell (by simp) _⟩
        · have h0b : (b != 0) = true := by simpa using h0
          rw [show l.amend a b = ({ l with amount := (amtChange l.amount a).1, due := b }, 0) by simp [Ltr.amend, he, hd, hv, h0]]
          have HD := Lib.hid hd
          clear he hv hd h0
          go_enter Tryz.func146, Tryz.ntmps146
          go_wp2_with (first
            | (go_at_call 161; refine (bI_ _ _ _ l0 l1 a0 a1).mono ?_; rintro e _ ⟨rfl, rfl⟩)
            | (go_at_call 160; with_reducible refine (bu_ b _ HD.out _).mono ?_; rintro e _ ⟨rfl, rfl⟩))
          go_ret
          exact ⟨rfl, Blk.set_ (Blk.set_ H.out 3 (.int .i64 b)) 2 _, ((Ext.refl _).setCell (by simp) _).setCell (by simp) _⟩
  · have hb : ((amtChange l.amount a).2 != 0) = true := by simpa using he
    rw [show l.amend a b = (l, (amtChange l.amount a).2) by simp [Ltr.amend, he]]
    clear he
    go_enter Tryz.func146, Tryz.ntmps146
    go_wp2_with (go_at_call 161; refine (bI_ _ _ _ l0 l1 a0 a1).mono ?_; rintro e _ ⟨rfl, rfl⟩)
    go_ret
    exact ⟨rfl, H.out, Ext.refl _⟩
theorem f2_ (w : World) (p : Nat) (l : Ltr) (a : Int) (h : LtrAt w p l) :
    Calls Tryz.prog 147 #[.pointer (some ⟨p, 0, none⟩), .int .i64 a] w fun e w' => e = .returned (.int .i64 (l.expire a)) ∧ w = w' := by
  have c3 := h.c3
  have H := Lib.hid h; clear h
  cases hd : isAmt a
  · rw [show l.expire a = 5 by simp [Ltr.expire, hd]]
    have HD := Lib.hid hd; clear hd
    go_enter Tryz.func147, Tryz.ntmps147
    go_wp2_with (go_at_call 160; with_reducible refine (bu_ a _ HD.out _).mono ?_; rintro e _ ⟨rfl, rfl⟩)
    go_ret
    exact ⟨rfl, rfl⟩
  · by_cases hlt : a < l.due
    · rw [show l.expire a = 8 by simp [Ltr.expire, hd, hlt]]
      have HD := Lib.hid hd; clear hd
      go_enter Tryz.func147, Tryz.ntmps147
      go_wp2_with (go_at_call 160; with_reducible refine (bu_ a _ HD.out _).mono ?_; rintro e _ ⟨rfl, rfl⟩)
      go_ret
      exact ⟨rfl, rfl⟩
    · rw [show l.expire a = 0 by simp [Ltr.expire, hd, hlt]]
      have HD := Lib.hid hd; clear hd
      go_enter Tryz.func147, Tryz.ntmps147
      go_wp2_with (go_at_call 160; with_reducible refine (bu_ a _ HD.out _).mono ?_; rintro e _ ⟨rfl, rfl⟩)
      go_ret
      exact ⟨rfl, rfl⟩
theorem hG_ (w : World) (p : Nat) (l : Ltr) (op a b : Int) (text : ByteArray) (h : LtrAt w p l) (hl : i64ok l.amount) (ha : i64ok a) (hop : 1 ≤ op) (hop9 : op ≤ 9) (ht : text.size ≤ 9223372036854775807) :
    Calls Tryz.prog 123 #[.pointer (some ⟨p, 0, none⟩), .int .i64 op, .int .i64 a, .int .i64 b, .string text] w fun e w' => e = .returned (.int .i64 (l.does op a b text).2) ∧ LtrAt w' p (l.does op a b text).1 ∧ Ext [p] w w' := by
  have c5 := h.c5
  have f5 := h.frozen 5
  have H := Lib.hid h; clear h
  have : op = 1 ∨ op = 2 ∨ op = 3 ∨ op = 4 ∨ op = 5 ∨ op = 6 ∨ op = 7 ∨ op = 8 ∨ op = 9 := by omega
  clear hop hop9
  rcases this with rfl | rfl | rfl | rfl | rfl | rfl | rfl | rfl | rfl
  · by_cases hs : 200 < text.size
    · rw [show l.does 1 a b text = (l, 3) by simp [Ltr.does, hs]]
      go_enter Tryz.func123, Tryz.ntmps123
      go_wp2
      go_ret
      exact ⟨rfl, H.out, Ext.refl _⟩
    · rw [show l.does 1 a b text = l.apply a b text by simp [Ltr.does, hs]]
      go_enter Tryz.func123, Tryz.ntmps123
      go_wp2_with (go_at_call 145; refine (gP_ _ _ _ _ _ _ H.out ha).mono ?_; rintro e w1 ⟨rfl, h1, x1⟩)
      go_ret
      exact ⟨rfl, h1, x1⟩
  · rw [show l.does 2 a b text = (l, 0) by simp [Ltr.does]]
    go_enter Tryz.func123, Tryz.ntmps123
    go_wp2
    go_ret
    exact ⟨rfl, H.out, Ext.refl _⟩
  · rw [show l.does 3 a b text = l.amend a b by simp [Ltr.does]]
    go_enter Tryz.func123, Tryz.ntmps123
    go_wp2_with (go_at_call 146; refine (gQ_ _ _ _ _ _ H.out hl ha).mono ?_; rintro e w1 ⟨rfl, h1, x1⟩)
    go_ret
    exact ⟨rfl, h1, x1⟩
  · by_cases hs : 200 < text.size
    · rw [show l.does 4 a b text = (l, 3) by simp [Ltr.does, hs]]
      go_enter Tryz.func123, Tryz.ntmps123
      go_wp2
      go_ret
      exact ⟨rfl, H.out, Ext.refl _⟩
    · rw [show l.does 4 a b text = ({ l with papers := text }, 0) by simp [Ltr.does, hs]]
      go_enter Tryz.func123, Tryz.ntmps123
      go_wp2
      go_ret
      exact ⟨rfl, Blk.set_ H.out 5 _, (Ext.refl _).setCell (by simp) _⟩
  · rw [show l.does 5 a b text = (l, 0) by simp [Ltr.does]]
    go_enter Tryz.func123, Tryz.ntmps123
    go_wp2
    go_ret
    exact ⟨rfl, H.out, Ext.refl _⟩
  · rw [show l.does 6 a b text = ({ l with papers := ByteArray.empty }, 0) by simp [Ltr.does]]
    go_enter Tryz.func123, Tryz.ntmps123
    go_wp2
    go_ret
    exact ⟨rfl, Blk.set_ H.out 5 _, (Ext.refl _).setCell (by simp) _⟩
  · rw [show l.does 7 a b text = (l, 0) by simp [Ltr.does]]
    go_enter Tryz.func123, Tryz.ntmps123
    go_wp2
    go_ret
    exact ⟨rfl, H.out, Ext.refl _⟩
  · rw [show l.does 8 a b text = (l, l.expire a) by simp [Ltr.does]]
    go_enter Tryz.func123, Tryz.ntmps123
    go_wp2_with (go_at_call 147; refine (f2_ _ _ _ _ H.out).mono ?_; rintro e _ ⟨rfl, rfl⟩)
    go_ret
    exact ⟨rfl, H.out, Ext.refl _⟩
  · rw [show l.does 9 a b text = (l, 0) by simp [Ltr.does]]
    go_enter Tryz.func123, Tryz.ntmps123
    go_wp2
    go_ret
    exact ⟨rfl, H.out, Ext.refl _⟩
theorem hH_ (w : World) (l : Ltr) (op a b : Int) (text : ByteArray) (hl : l.Wf) (ha : i64ok a) (ht : text.size ≤ 9223372036854775807) :
    Calls Tryz.prog 102 #[.agg l.cells, .int .i64 op, .int .i64 a, .int .i64 b, .string text] w fun e w' => e = .returned (.tuple #[.agg (l.step op a b text).1.cells, .int .i64 (l.step op a b text).2]) ∧ Ext [] w w' := by
  have hbox : LtrAt ((w.alloc (.cells l.cells 81)).alloc (.cells Ltr.none.cells 81)) w.heap.size l := Blk.alloc (Blk.new _ _ _) _
  have hres : LtrAt ((w.alloc (.cells l.cells 81)).alloc (.cells Ltr.none.cells 81)) (w.heap.size + 1) Ltr.none := by
    have := Blk.new (w.alloc (.cells l.cells 81)) 81 Ltr.none.cells
    rw [World.size_alloc] at this
    exact this
  have hx : Ext [] w ((w.alloc (.cells l.cells 81)).alloc (.cells Ltr.none.cells 81)) := ((Ext.refl _).alloc _).alloc _
  have k1 : l.cells[1]? = some (.int .i64 l.state) := rfl
  have HB := Lib.hid hbox
  have HR := Lib.hid hres
  clear hbox hres
  by_cases h1 : op < 1
  · rw [show l.step op a b text = (Ltr.none, 1) by simp [Ltr.step, h1]]
    go_enter Tryz.func102, Tryz.ntmps102
    go_wp2
    exact bodyPost_ret (N_ rfl _ _ (w.heap.size + 1) _ _ _ _ rfl HR.out Tryz.underlying81 rfl (by kernel_rfl)) rfl ⟨rfl, hx⟩
  by_cases h2 : 9 < op
  · rw [show l.step op a b text = (Ltr.none, 1) by simp [Ltr.step, h2]]
    go_enter Tryz.func102, Tryz.ntmps102
    go_wp2
    exact bodyPost_ret (N_ rfl _ _ (w.heap.size + 1) _ _ _ _ rfl HR.out Tryz.underlying81 rfl (by kernel_rfl)) rfl ⟨rfl, hx⟩
  have h3 : ¬ (op < 1 ∨ 9 < op) := by omega
  by_cases hn : ltrNext l.state op = 0
  · rw [show l.step op a b text = (Ltr.none, 8) by simp only [Ltr.step, if_neg h3, if_pos hn]]
    have hnb : (ltrNext l.state op == 0) = true := by simp [hn]
    clear hn h3
    go_enter Tryz.func102, Tryz.ntmps102
    go_wp2_with (first
      | (go_at_call 122; refine (dc_ _ _ _).mono ?_; rintro e w2 ⟨rfl, x2⟩)
      | ((with_reducible refine cj_ ⟨none, .store _ (.tmp 10) _, _, _, _, _⟩ ?_); refine am_ (Blk.ext HR.out x2 (by simp)) Ltr.none rfl _ _ rfl rfl rfl ?_; intro w3 hw3 x3))
    exact bodyPost_ret (N_ rfl _ _ (w.heap.size + 1) _ _ _ _ rfl hw3 Tryz.underlying81 rfl (by kernel_rfl)) rfl ⟨rfl, hx.trans (x2.app x3) (by simp)⟩
  have hnb : (ltrNext l.state op == 0) = false := by simpa using hn
  have hd := fun w2 (hb : LtrAt w2 w.heap.size l) => hG_ w2 w.heap.size l op a b text hb hl.amount ha (by omega) (by omega) ht
  by_cases he : (l.does op a b text).2 = 0
  · rw [show l.step op a b text = ({ (l.does op a b text).1 with state := ltrNext l.state op }, 0) by simp only [Ltr.step, if_neg h3, if_neg hn, he, ne_eq, not_true_eq_false, if_false]]
    have heb : ((l.does op a b text).2 != 0) = false := by simp [he]
    clear hn h3 he
    generalize l.does op a b text = r at *
    obtain ⟨l2, e2⟩ := r
    dsimp only at *
    have HD := Lib.hid hd
    clear hd
    go_enter Tryz.func102, Tryz.ntmps102
    go_wp2_with (first
      | (go_at_call 122; refine (dc_ _ _ _).mono ?_; rintro e w2 ⟨rfl, x2⟩)
      | (go_at_call 123; refine (HD.out _ (Blk.ext HB.out x2 (by simp))).mono ?_; rintro e w3 ⟨rfl, h3, x3⟩; have g1 := h3.c1; have f1 := h3.frozen 1; have h4 := Lib.hid (h3.setState (ltrNext l.state op)); have h5 := Lib.hid (Blk.far (Blk.ext (Blk.ext HR.out x2 (by simp)) x3 (by simp)) (p := ⟨w.heap.size, 1, none⟩) (by simp) (.int .i64 (ltrNext l.state op))))
      | ((with_reducible refine cj_ ⟨some 39, _, _, _, _, _⟩ ?_); refine wpList_load_row rfl _ _ rfl w.heap.size rfl _ _ _ _ h4.out Tryz.underlying81 rfl (by kernel_rfl) ?_)
      | ((with_reducible refine cj_ ⟨none, .store _ (.tmp 10) (.tmp 39), _, _, _, _⟩ ?_); refine am_ (p := w.heap.size + 1) (l := Ltr.none) h5.out { l2 with state := ltrNext l.state op } rfl _ _ rfl rfl rfl ?_; intro w5 hw5 x5))
    exact bodyPost_ret (N_ rfl _ _ (w.heap.size + 1) _ _ _ _ rfl hw5 Tryz.underlying81 rfl (by kernel_rfl)) rfl ⟨rfl, hx.trans (((x2.app x3).setCell (by simp) _).app x5) (by simp <;> omega)⟩
  · rw [show l.step op a b text = (Ltr.none, (l.does op a b text).2) by simp only [Ltr.step, if_neg h3, if_neg hn, he, ne_eq, not_false_eq_true, if_true]]
    have heb : ((l.does op a b text).2 != 0) = true := by simpa using he
    clear hn h3 he
    generalize l.does op a b text = r at *
    obtain ⟨l2, e2⟩ := r
    dsimp only at *
    have HD := Lib.hid hd
    clear hd
    go_enter Tryz.func102, Tryz.ntmps102
    go_wp2_with (first
      | (go_at_call 122; refine (dc_ _ _ _).mono ?_; rintro e w2 ⟨rfl, x2⟩)
      | (go_at_call 123; refine (HD.out _ (Blk.ext HB.out x2 (by simp))).mono ?_; rintro e w3 ⟨rfl, h3, x3⟩)
      | ((with_reducible refine cj_ ⟨none, .store _ (.tmp 10) _, _, _, _, _⟩ ?_); refine am_ (Blk.ext (Blk.ext HR.out x2 (by simp)) x3 (by simp)) Ltr.none rfl _ _ rfl rfl rfl ?_; intro w4 hw4 x4))
    exact bodyPost_ret (N_ rfl _ _ (w.heap.size + 1) _ _ _ _ rfl hw4 Tryz.underlying81 rfl (by kernel_rfl)) rfl ⟨rfl, hx.trans ((x2.app x3).app x4) (by simp <;> omega)⟩
end Go.Proofs.YtickdhjljpnlpaaGreatDoor
namespace Go.Proofs.YtickdhjljpnlpaaGreatDoor.A
open Go.RowKit
structure Oc where
  client : Int
  stamp : Int
  result : Int
def Oc.abs (o : Oc) : List Abs := [int o.client, int o.stamp, int o.result]
def outA (l : List Oc) : Abs := .sl 3 (l.map Oc.abs)
theorem ci_ (l : List Oc) : ∀ c ∈ l.map Oc.abs, ones c = true := by
  intro c hc
  obtain ⟨o, _, rfl⟩ := List.mem_map.1 hc
  rfl
def IdxOf {α : Type} (p : α → Bool) (xs : List α) (r : Int) : Prop := (r = -1 ∧ ∀ x ∈ xs, p x = false) ∨ ∃ i, ∃ h : i < xs.length, r = (i : Nat) ∧ p xs[i] = true ∧ ∀ j (hj : j < i), p (xs[j]'(by omega)) = false
theorem IdxOf.eq {α : Type} {p : α → Bool} : ∀ {xs : List α} {r : Int}, IdxOf p xs r → r = if xs.any p then ((xs.findIdx p : Nat) : Int) else -1 := fun {xs r} h => by
  rcases h with ⟨rfl, h⟩ | ⟨i, hi, rfl, h1, h2⟩
  · rw [if_neg]
    rw [Bool.not_eq_true, List.any_eq_false]
    intro x hx
    rw [h x hx]; decide
  · rw [if_pos (List.any_eq_true.2 ⟨_, List.getElem_mem hi, h1⟩)]
    refine congrArg Int.ofNat (Eq.symm ?_)
    rw [List.findIdx_eq hi]
    exact ⟨h1, fun j hj => h2 j hj⟩
end Go.Proofs.YtickdhjljpnlpaaGreatDoor.A
