/-
  Packed out of the texts: Batch6, BatchTwo, BatchBack, A28, LedB, LedK, LedL, LedD, Tml, A21, A7, Agr, Exe, ExeA, ExeO, CO1.
-/
import Derived.Test.YtickdhjljpnlpaaGreatDoorQ07
set_option maxRecDepth 100000
set_option linter.unusedSimpArgs false
set_option linter.unusedVariables false
namespace Go.Proofs.YtickdhjljpnlpaaGreatDoor
open Go.RowKit
/-! ### The same -/
structure Ent.Lits (e : Ent) : Prop where
  client : InR .i64 e.core.client
  stamp : InR .i64 e.core.stamp
  op : InR .i64 e.core.op
  a : InR .i64 e.core.a
  b : InR .i64 e.core.b
  letter : e.core.letter.size ≤ maxLen
  text : e.core.text.size ≤ maxLen
  mask : e.mask < 4294967296
noncomputable instance : DecidableEq Ent := fun _ _ => Classical.propDecidable _
theorem wfI {a : Int} (h : InR .i64 a) : (Lit.int .i64 a).wf = true := by
  obtain ⟨h0, h1⟩ := h
  simp only [lo, hi] at h0 h1
  simp [Lit.wf, IntKind.min, IntKind.max, IntKind.signed, IntKind.bits]; omega
section
variable {S : List (World × List Nat)} {σ τ : Blks} {ρ : List Dt} {w : World} {P : Program} {n : Nat} {l : Slots} {D : World → Prop} {o : Oper} {v u : Value}
theorem k_ (h : Val P n l D o v) (e : v = u) : Val P n l D o u := e ▸ h
end
theorem Rd.fixed_bad {s : Rd} (h : s.e ≠ 0) (n : Int) : s.fixed n = s := if_pos h
theorem Rd.fixed_ok {s : Rd} {n : Int} (h : (s.fixed n).e = 0) : s.e = 0 ∧ 0 ≤ n ∧ n ≤ s.l.length ∧ s.fixed n = ⟨tailV s.v n.toNat, s.l.drop n.toNat, 0⟩ := by
  by_cases he : s.e = 0
  · by_cases hb : s.bad n
    · rw [Rd.fixed, if_neg (by simpa using he), if_pos hb] at h
      exact absurd h (by show ¬ (2 : Int) = 0; decide)
    · rw [Rd.fixed, if_neg (by simpa using he), if_neg hb]
      unfold Rd.bad at hb
      exact ⟨he, by omega, by omega, rfl⟩
  · rw [Rd.fixed_bad he] at h
    exact absurd h he
theorem hO_ {s : Rd} {L : Int} (h : (s.row L).e = 0) : (s.row L).l.length + 4 ≤ s.l.length := by
  unfold Rd.row at h ⊢
  by_cases he : (s.fixed 4).e = 0
  · obtain ⟨_, _, h3, h4⟩ := Rd.fixed_ok he
    rw [if_neg (by simpa using he)] at h ⊢
    split at h
    · exact absurd h (by show ¬ (3 : Int) = 0; decide)
    · rename_i hn
      rw [if_neg hn]
      have h5 := (s.fixed 4).fixed_length (s.num 4)
      have h6 : (s.fixed 4).l.length = s.l.length - 4 := by rw [h4]; simp
      omega
  · rw [if_pos he] at h
    exact absurd h he
def Rd.At (s : Rd) (l : List UInt8) : Prop := s.e = 0 ∧ s.l = l
theorem ig_ {s : Rd} {x r : List UInt8} (h : s.At (x ++ r)) {n : Int} (hn : n = x.length) : (s.fixed n).At r ∧ s.out n = x := by
  obtain ⟨h1, h2⟩ := h
  have hb : ¬ s.bad n := by
    unfold Rd.bad
    rw [h2, List.length_append]
    omega
  have ht : n.toNat = x.length := by omega
  unfold Rd.At Rd.fixed Rd.out
  simp only [h1, ne_eq, not_true_eq_false, if_false, hb, h2, ht]
  simp
theorem cM_ {s : Rd} {r : List UInt8} {v k : Nat} (h : s.At (beBytes v k ++ r)) (hv : v < 256 ^ k) {n : Int} (hn : n = k) : (s.fixed n).At r ∧ s.num n = v := by
  obtain ⟨h1, h2⟩ := ig_ h (n := n) (by rw [t_]; exact hn)
  exact ⟨h1, by rw [Rd.num, h2, beVal_be v k hv]⟩
theorem kp_ {s : Rd} {x r : List UInt8} {most : Int} (h : s.At (rowB x ++ r)) (hx : x.length ≤ most) (hx2 : x.length < 4294967296) : (s.row most).At r ∧ s.rowOut most = x := by
  unfold rowB at h
  rw [List.append_assoc] at h
  obtain ⟨h1, h2⟩ := cM_ h (by omega) (n := 4) rfl
  obtain ⟨h3, h4⟩ := ig_ h1 (n := s.num 4) (by rw [h2])
  have hm : ¬ most < s.num 4 := by rw [h2]; omega
  unfold Rd.row Rd.rowOut
  simp only [h1.1, ne_eq, not_true_eq_false, if_false, hm]
  exact ⟨h3, h4⟩
theorem sg_u64 {a : Int} (h : InR .i64 a) : sg (u64 a) = a := by
  obtain ⟨h1, h2⟩ := h
  simp only [lo, hi] at h1 h2
  unfold sg u64
  simp [IntKind.wrap, IntKind.bits, IntKind.signed]
  split <;> omega
structure Core.Back (c : Core) : Prop where
  client : 0 ≤ c.client ∧ c.client < 256
  stamp : InR .i64 c.stamp
  op : 0 ≤ c.op ∧ c.op < 256
  a : InR .i64 c.a
  b : InR .i64 c.b
structure Ent.Back (e : Ent) : Prop where
  core : e.core.Back
  mask : e.mask < 256
  len : e.core.bytes.length ≤ 100000
theorem check_ok {c : Core} {n : Int} (h : c.check n = 0) : 1 ≤ n ∧ n ≤ 7 ∧ n ≤ c.client ∧ c.client < n + 4 ∧ 1 ≤ c.stamp ∧ c.stamp ≤ 1099511627776 ∧ 1 ≤ c.op ∧ c.op ≤ 9 ∧ nameB c.letter = true ∧ c.text.size ≤ 200 := by
  unfold Core.check at h
  split at h
  · exact absurd h (by decide)
  · split at h
    · exact absurd h (by decide)
    · split at h
      · exact absurd h (by decide)
      · split at h
        · exact absurd h (by decide)
        · split at h
          · exact absurd h (by decide)
          · rename_i h4 _
            rw [Bool.not_eq_false] at h4
            exact ⟨by omega, by omega, by omega, by omega, by omega, by omega, by omega, by omega, h4, by omega⟩
end Go.Proofs.YtickdhjljpnlpaaGreatDoor
namespace Go.Proofs.YtickdhjljpnlpaaGreatDoor.A
open Go.RowKit
section
variable {n : Nat} {W : Wd} {σ : Blks} {l : Slots} {x : Operand} {d : Option Nat} {ty t e : TypeId} {pos : String} {aft : Array Edge} {g : Option (Nat × Bool)} {s : ByteArray}
theorem as_ (hx : look l x = some (.v (.string s))) (ht : Tryz.prog.underlying t = some .string) (hd : Tryz.prog.underlying e = some (.slice 5)) (hs : s.size ≤ lots) : Eff Tryz.prog n W σ l [] ⟨d, .convert t e x, ty, pos, aft, g⟩ fun y τ => y = byt (tx s) ∧ τ = σ := fun a w h => by
  have hrun := Lib.run_convert_string_bytes (P := Tryz.prog) w t e 5 s ht hd Tryz.underlying5
  have hc := em_ w s.size 0 5 (by unfold lots at hs; unfold maxLen; omega)
  have hx1 : Ext [] w (Lib.bytesWorld w 5 s) := ⟨rfl, rfl, rfl, by rw [Lib.bytesWorld_size]; omega, fun k hk _ => Lib.bytesWorld_at_old w _ s k hk⟩
  obtain ⟨hm, hcar⟩ := h.mem.same hx1
  refine ⟨.slice (some ⟨w.heap.size, 0, none⟩) s.size (grownCap w s.size 0 5), _, _, _, ⟨rfl, rfl⟩, hx1, bk_.2 ⟨⟨some ⟨w.heap.size, 0, none⟩, _, by simp [tx], by simpa [tx] using hc.1, hc.2, by simp⟩, fun _ => ⟨w.heap.size, 0, s.size, _, rfl, fun hk => ?_, fun j u hu => ?_⟩⟩, hm, hcar, .inl ?_⟩
  · have := h.mem.lt _ hk; omega
  · rw [Nat.zero_add]
    rw [List.getElem?_map] at hu
    have hj : j < s.size := by
      rcases Nat.lt_or_ge j s.size with h | h
      · exact h
      · rw [List.getElem?_eq_none (by simpa [tx] using h)] at hu; cases hu
    rw [Lib.bytesWorld_cell w _ s j hj, ← hu, List.getElem?_eq_getElem (by simpa [tx] using hj), List.getD_eq_getElem?_getD, List.getElem?_eq_getElem (by simpa using hj)]
    rfl
  · simp only [execOp, h.plain hx, hrun, Sem.run_bind, Result.andThen_ok, Sem.run_pure]
end
section
variable {P : Program} {n : Nat} {W : Wd} {σ : Blks} {l : Slots} {X : List Nat} {x y : Operand} {d : Option Nat} {ty t t' : TypeId} {pos : String} {aft : Array Edge} {g : Option (Nat × Bool)} {s r : ByteArray}
theorem Val.ltS (hx : look l x = some (.v (.string s))) (hy : look l y = some (.v (.string r))) : Val P n W σ l X ⟨d, .binOp .lss t x y t', ty, pos, aft, g⟩ (.v (.bool (decide (ltB s r)))) := fun a w hs _ => by
  refine ⟨_, rfl, fun w' _ => ?_⟩
  simp [execOp, hs.plain hx, hs.plain hy, eqGuard, binOp, Op.stringOp, Proofs.bytesLess_eq, Lib.toList_data, ltB]
end
noncomputable instance (x : Ltr) : Decidable (LtR x) := Classical.propDecidable _
noncomputable instance (o : Oc) : Decidable (OcR o) := Classical.propDecidable _
noncomputable def Lg.chk (l : Lg) : Int := if l.Right then 0 else 2
/-! ### Written -/
def ltrByt (x : Ltr) : List UInt8 := beBytes (tx x.name).length 4 ++ tx x.name ++ beBytes (u64 x.state) 1 ++ beBytes (u64 x.amount) 8 ++ beBytes (u64 x.due) 8 ++ beBytes (tx x.policy).length 4 ++ tx x.policy ++ beBytes (tx x.papers).length 4 ++ tx x.papers
def Oc.bytes (o : Oc) : List UInt8 := beBytes (u64 o.client) 1 ++ beBytes (u64 o.stamp) 8 ++ beBytes (u64 o.result) 1
def ltrsB (ls : List Ltr) : List UInt8 := ls.flatMap ltrByt
def ocsB (os : List Oc) : List UInt8 := os.flatMap Oc.bytes
def Lg.head (l : Lg) : List UInt8 := [] ++ beBytes (u64 l.seq) 8 ++ beBytes (u64 l.total) 8 ++ beBytes l.ls.length 2
def Lg.bytes (l : Lg) : List UInt8 := l.head ++ ltrsB l.ls ++ beBytes l.os.length 2 ++ ocsB l.os
theorem Lg.head_length (l : Lg) : l.head.length = 18 := by
  unfold Lg.head
  simp only [List.length_append, t_, List.length_nil]
theorem fv_ (x : Ltr) : (ltrByt x).length = 29 + x.name.size + x.policy.size + x.papers.size := by
  unfold ltrByt
  simp only [List.length_append, t_, af_]
  omega
theorem Oc.bytes_length (o : Oc) : o.bytes.length = 10 := by
  unfold Oc.bytes
  simp only [List.length_append, t_]
theorem bf_ : ∀ {ls : List Ltr}, (∀ x ∈ ls, LtR x) → (ltrsB ls).length ≤ 500 * ls.length
  | [], _ => Nat.le_refl _
  | x :: ls, h => by
    have h1 := h x List.mem_cons_self
    have h2 := bf_ (ls := ls) fun y hy => h y (List.mem_cons_of_mem _ hy)
    have h3 := h1.policy
    have h4 := h1.papers
    have h5 : x.name.size ≤ 16 := by
      have := h1.name
      unfold nameB at this
      simp only [Bool.and_eq_true, decide_eq_true_eq] at this
      omega
    show ((ltrByt x) ++ ltrsB ls).length ≤ _
    rw [List.length_append, fv_, List.length_cons]
    omega
theorem cV_ (os : List Oc) : (ocsB os).length = 10 * os.length := by
  induction os with
  | nil => rfl
  | cons o os ih =>
    show (o.bytes ++ ocsB os).length = _
    rw [List.length_append, ih, Oc.bytes_length, List.length_cons]
    omega
theorem LtsR.all {ls : List Ltr} (h : LtsR ls) : ∀ x ∈ ls, LtR x := fun x hx => by
  obtain ⟨j, hj, rfl⟩ := List.getElem_of_mem hx
  exact h.each j hj
theorem OcsR.all {os : List Oc} (h : OcsR os) : ∀ x ∈ os, OcR x := fun x hx => by
  obtain ⟨j, hj, rfl⟩ := List.getElem_of_mem hx
  exact h.each j hj
theorem Lg.Right.bytes {l : Lg} (h : l.Right) : l.bytes.length ≤ 9000 := by
  have h1 := bf_ h.ls.all
  have h2 := h.lsFew
  have h3 := h.few
  unfold Lg.bytes
  simp only [List.length_append, t_, Lg.head_length, cV_]
  omega
/-! ### Read -/
def mkS (m : List UInt8) : ByteArray := ⟨m.toArray⟩
theorem jK_ (s : ByteArray) : mkS (tx s) = s := dV_ (fi_ _)
def Rd.l1 (s : Rd) : Rd := s.row 16
def Rd.l2 (s : Rd) : Rd := (Rd.l1 s).fixed 1
def Rd.l3 (s : Rd) : Rd := (Rd.l2 s).fixed 8
def Rd.l4 (s : Rd) : Rd := (Rd.l3 s).fixed 8
def Rd.l5 (s : Rd) : Rd := (Rd.l4 s).row 200
def Rd.l6 (s : Rd) : Rd := (Rd.l5 s).row 200
def Rd.ltr (s : Rd) : Ltr := ⟨mkS (s.rowOut 16), IntKind.i64.wrap ((Rd.l1 s).num 1 : Nat), IntKind.i64.wrap ((Rd.l2 s).num 8 : Nat), IntKind.i64.wrap ((Rd.l3 s).num 8 : Nat), mkS ((Rd.l4 s).rowOut 200), mkS ((Rd.l5 s).rowOut 200)⟩
def Rd.o3 (s : Rd) : Rd := ((s.fixed 1).fixed 8).fixed 1
def Rd.oc (s : Rd) : Oc := ⟨IntKind.i64.wrap (s.num 1 : Nat), IntKind.i64.wrap ((s.fixed 1).num 8 : Nat), IntKind.i64.wrap (((s.fixed 1).fixed 8).num 1 : Nat)⟩
def Rd.allG {α : Type} (one : Rd → α) (nx : Rd → Rd) : Nat → Rd → List α → List α × Rd
  | 0, s, acc => (acc, s)
  | k + 1, s, acc => Rd.allG one nx k (nx s) (acc ++ [one s])
def Rd.lgH (m : List UInt8) : Rd := ((Rd.of m).fixed 8).fixed 8
noncomputable def Rd.lgL (m : List UInt8) : List Ltr × Rd := Rd.allG Rd.ltr Rd.l6 ((Rd.lgH m).countN 16) ((Rd.lgH m).count 16) []
noncomputable def Rd.lgO (m : List UInt8) : List Oc × Rd := Rd.allG Rd.oc Rd.o3 ((Rd.lgL m).2.countN 4) ((Rd.lgL m).2.count 4) []
noncomputable def Rd.lg (m : List UInt8) : Lg := ⟨IntKind.i64.wrap ((Rd.of m).num 8 : Nat), IntKind.i64.wrap (((Rd.of m).fixed 8).num 8 : Nat), (Rd.lgL m).1, (Rd.lgO m).1⟩
noncomputable def parseL (m : List UInt8) : Lg × Int := if (Rd.lgO m).2.end_ ≠ 0 ∨ ¬ (Rd.lg m).Right then (Lg.zero, 2) else (Rd.lg m, 0)
theorem df_ (s : Rd) (most : Int) : (s.count most).l.length ≤ s.l.length := by
  unfold Rd.count
  have := s.fixed_length 2
  split
  · exact this
  · exact this
theorem e5_ (s : Rd) (most : Int) : s.countN most < 65536 := by
  unfold Rd.countN
  split
  · omega
  · exact s.num_lt (n := 2) (k := 2) (Nat.le_refl _)
theorem gq_ (s : Rd) : (Rd.l6 s).l.length ≤ s.l.length := by
  have h1 := Rd.row_length s 16
  have h2 := (Rd.l1 s).fixed_length 1
  have h3 := (Rd.l2 s).fixed_length 8
  have h4 := (Rd.l3 s).fixed_length 8
  have h5 := Rd.row_length (Rd.l4 s) 200
  have h6 := Rd.row_length (Rd.l5 s) 200
  unfold Rd.l6
  unfold Rd.l1 at h2
  unfold Rd.l2 at h3
  unfold Rd.l3 at h4
  unfold Rd.l4 at h5
  unfold Rd.l5 at h6
  unfold Rd.l5 Rd.l4 Rd.l3 Rd.l2 Rd.l1 at *
  omega
theorem gi_ (s : Rd) : (Rd.o3 s).l.length ≤ s.l.length := by
  have h2 := s.fixed_length 1
  have h3 := (s.fixed 1).fixed_length 8
  have h4 := ((s.fixed 1).fixed 8).fixed_length 1
  unfold Rd.o3
  omega
theorem fM_ {α : Type} {one : Rd → α} {nx : Rd → Rd} (hn : ∀ s : Rd, (nx s).l.length ≤ s.l.length) : ∀ (k : Nat) (s : Rd) (acc : List α), (Rd.allG one nx k s acc).1.length = acc.length + k ∧ (Rd.allG one nx k s acc).2.l.length ≤ s.l.length
  | 0, s, acc => ⟨rfl, Nat.le_refl _⟩
  | k + 1, s, acc => by
    have h1 := fM_ (one := one) hn k (nx s) (acc ++ [one s])
    have h2 := hn s
    rw [List.length_append, List.length_singleton] at h1
    unfold Rd.allG
    omega
theorem wrap_i64 (a : Int) : i64ok (IntKind.i64.wrap a) := by
  unfold i64ok
  simp [IntKind.wrap, IntKind.bits, IntKind.signed]
  split <;> omega
/-! ### Both tell the same -/
theorem gN_ {s : Rd} {r : List UInt8} {k : Nat} {most : Int} (h : s.At (beBytes k 2 ++ r)) (hk : k < 65536) (hm : (k : Int) ≤ most) : (s.count most).At r ∧ s.countN most = k := by
  obtain ⟨h1, h2⟩ := cM_ h (by omega) (n := 2) rfl
  have h3 : ¬ ((s.fixed 2).e = 0 ∧ most < s.num 2) := by rw [h2]; omega
  unfold Rd.count Rd.countN
  rw [if_neg h3, if_neg h3]
  exact ⟨h1, h2⟩
theorem bK_ {a : Int} (h : i64ok a) : IntKind.i64.wrap (u64 a : Nat) = a := sg_u64 (show InR .i64 a by unfold i64ok at h; simp only [InR, lo, hi]; omega)
theorem dU_ {a : Int} (h : 0 ≤ a ∧ a < 256) : u64 a < 256 ^ 1 := by
  unfold u64
  rw [Int.emod_eq_of_lt h.1 (by omega)]
  omega
theorem c0_ (a : Int) : u64 a < 256 ^ 8 := by
  have := u64_lt a
  omega
theorem fN_ {α : Type} {one : Rd → α} {nx : Rd → Rd} {enc : α → List UInt8} {Ok : α → Prop} (hone : ∀ (a : α) (s : Rd) (r : List UInt8), Ok a → s.At (enc a ++ r) → one s = a ∧ (nx s).At r) {r : List UInt8} : ∀ (xs : List α) (s : Rd) (acc : List α), (∀ a ∈ xs, Ok a) → s.At (xs.flatMap enc ++ r) → ∃ t : Rd, t.At r ∧ Rd.allG one nx xs.length s acc = (acc ++ xs, t)
  | [], s, acc, _, h => ⟨s, h, by simp [Rd.allG]⟩
  | a :: xs, s, acc, hok, h => by
    have e1 : (a :: xs).flatMap enc ++ r = enc a ++ (xs.flatMap enc ++ r) := by simp
    rw [e1] at h
    obtain ⟨h1, h2⟩ := hone a s _ (hok a List.mem_cons_self) h
    obtain ⟨t, ht, hr⟩ := fN_ hone xs (nx s) (acc ++ [a]) (fun y hy => hok y (List.mem_cons_of_mem _ hy)) h2
    refine ⟨t, ht, ?_⟩
    rw [List.length_cons]
    unfold Rd.allG
    rw [h1, hr]
    simp
theorem ltr_back (x : Ltr) (s : Rd) (r : List UInt8) (hx : LtR x) (h : s.At ((ltrByt x) ++ r)) : Rd.ltr s = x ∧ (Rd.l6 s).At r := by
  have hn : x.name.size ≤ 16 := by
    have := hx.name
    unfold nameB at this
    simp only [Bool.and_eq_true, decide_eq_true_eq] at this
    omega
  have h3 := hx.policy
  have h4 := hx.papers
  have e1 : (ltrByt x) ++ r = rowB (tx x.name) ++ (beBytes (u64 x.state) 1 ++ (beBytes (u64 x.amount) 8 ++ (beBytes (u64 x.due) 8 ++ (rowB (tx x.policy) ++ (rowB (tx x.papers) ++ r))))) := by
    simp [ltrByt, rowB]
  rw [e1] at h
  obtain ⟨a1, b1⟩ := kp_ (most := 16) h (by rw [af_]; omega) (by rw [af_]; omega)
  have ha := hx.amount
  have hs := hx.state
  have hd := bP_ hx.due
  obtain ⟨a2, b2⟩ := cM_ a1 (dU_ (by omega)) (n := 1) rfl
  obtain ⟨a3, b3⟩ := cM_ a2 (c0_ _) (n := 8) rfl
  obtain ⟨a4, b4⟩ := cM_ a3 (c0_ _) (n := 8) rfl
  obtain ⟨a5, b5⟩ := kp_ (most := 200) a4 (by rw [af_]; omega) (by rw [af_]; omega)
  obtain ⟨a6, b6⟩ := kp_ (most := 200) a5 (by rw [af_]; omega) (by rw [af_]; omega)
  refine ⟨?_, a6⟩
  unfold Rd.ltr Rd.l5 Rd.l4 Rd.l3 Rd.l2 Rd.l1
  rw [b1, b2, b3, b4, b5, b6, jK_, jK_, jK_, bK_ (by unfold i64ok; omega), bK_ (by unfold i64ok; omega), bK_ hd]
theorem oc_back (o : Oc) (s : Rd) (r : List UInt8) (ho : OcR o) (h : s.At (o.bytes ++ r)) : Rd.oc s = o ∧ (Rd.o3 s).At r := by
  have h1 := ho.client
  have h2 := ho.stamp
  have h3 := ho.result
  have e1 : o.bytes ++ r = beBytes (u64 o.client) 1 ++ (beBytes (u64 o.stamp) 8 ++ (beBytes (u64 o.result) 1 ++ r)) := by
    simp [Oc.bytes]
  rw [e1] at h
  obtain ⟨a1, b1⟩ := cM_ h (dU_ (by omega)) (n := 1) rfl
  obtain ⟨a2, b2⟩ := cM_ a1 (c0_ _) (n := 8) rfl
  obtain ⟨a3, b3⟩ := cM_ a2 (dU_ (by omega)) (n := 1) rfl
  refine ⟨?_, a3⟩
  unfold Rd.oc
  rw [b1, b2, b3, bK_ (by unfold i64ok; omega), bK_ (by unfold i64ok; omega), bK_ (by unfold i64ok; omega)]
theorem he_ {l : Lg} (h : l.Right) : parseL l.bytes = (l, 0) := by
  have e0 : l.bytes = beBytes (u64 l.seq) 8 ++ (beBytes (u64 l.total) 8 ++ (beBytes l.ls.length 2 ++ (l.ls.flatMap ltrByt ++ (beBytes l.os.length 2 ++ (l.os.flatMap Oc.bytes ++ []))))) := by
    simp [Lg.bytes, Lg.head, ltrsB, ocsB]
  have hs := h.seq
  have ht := bP_ h.total
  have h1 := h.few
  have h2 := h.lsFew
  have hat : (Rd.of l.bytes).At _ := ⟨rfl, e0⟩
  obtain ⟨a1, b1⟩ := cM_ hat (c0_ _) (n := 8) rfl
  obtain ⟨a2, b2⟩ := cM_ a1 (c0_ _) (n := 8) rfl
  have a2' : (Rd.lgH l.bytes).At _ := a2
  obtain ⟨a3, b3⟩ := gN_ (most := 16) a2' (by omega) (by omega)
  obtain ⟨t1, a4, b4⟩ := fN_ ltr_back l.ls _ [] h.ls.all a3
  have hp1 : Rd.lgL l.bytes = (l.ls, t1) := by unfold Rd.lgL; rw [b3, b4]; rfl
  obtain ⟨a5, b5⟩ := gN_ (most := 4) a4 (by omega) (by omega)
  obtain ⟨t2, a6, b6⟩ := fN_ oc_back l.os _ [] h.os.all a5
  have hp2 : Rd.lgO l.bytes = (l.os, t2) := by unfold Rd.lgO; rw [hp1]; dsimp only; rw [b5, b6]; rfl
  have hend : t2.end_ = 0 := by
    unfold Rd.end_
    rw [a6.1, a6.2]
    simp
  have hc : Rd.lg l.bytes = l := by
    unfold Rd.lg
    rw [hp1, hp2, b1, b2, bK_ (by unfold i64ok; omega), bK_ ht]
  unfold parseL
  rw [hc, hp2, if_neg (by
    rintro (h9 | h9)
    · exact h9 hend
    · exact h9 h)]
theorem gb_ {m : List UInt8} (h : (parseL m).2 = 0) : (parseL m).1.Right := by
  unfold parseL at h ⊢
  split
  · next hc => rw [if_pos hc] at h; cases h
  · next hc => exact Classical.byContradiction fun h9 => hc (.inr h9)
structure KOrd {α κ : Type} (key : α → κ) (lt : κ → κ → Prop) (eq gt : κ → α → Bool) : Prop where
  irr : ∀ k, ¬ lt k k
  trans : ∀ {a b c}, lt a b → lt b c → lt a c
  tri : ∀ a b, lt a b ∨ a = b ∨ lt b a
  eq_ : ∀ k x, eq k x = true ↔ key x = k
  gt_ : ∀ k x, gt k x = true ↔ lt k (key x)
section
variable {α κ : Type} {key : α → κ} {lt : κ → κ → Prop} {eq gt : κ → α → Bool}
def Asc (key : α → κ) (lt : κ → κ → Prop) (l : List α) : Prop := (l.map key).Pairwise lt
theorem Asc.of_adj (h : KOrd key lt eq gt) {l : List α} (ha : ∀ j (hj : j < l.length), 0 < j → lt (key (l[j - 1]'(by omega))) (key l[j])) : Asc key lt l := by
  unfold Asc
  rw [List.pairwise_iff_getElem]
  intro i j hi hj hij
  simp only [List.length_map] at hi hj
  simp only [List.getElem_map]
  have aux : ∀ d (hd : i + d + 1 < l.length), lt (key (l[i]'hi)) (key (l[i + d + 1]'hd)) := by
    intro d
    induction d with
    | zero => intro hd; exact ha (i + 1) hd (by omega)
    | succ d ih => intro hd; exact h.trans (ih (by omega)) (ha (i + (d + 1) + 1) hd (by omega))
  have h2 := aux (j - i - 1) (by omega)
  simpa only [show i + (j - i - 1) + 1 = j by omega] using h2
theorem Asc.adj {l : List α} (h : Asc key lt l) : ∀ j (hj : j < l.length), 0 < j → lt (key (l[j - 1]'(by omega))) (key l[j]) := fun j hj h0 => by
  unfold Asc at h
  rw [List.pairwise_iff_getElem] at h
  have := h (j - 1) j (by rw [List.length_map]; omega) (by rw [List.length_map]; omega) (by omega)
  simpa only [List.getElem_map] using this
theorem asc_cons {x : α} {l : List α} : Asc key lt (x :: l) ↔ (∀ y ∈ l, lt (key x) (key y)) ∧ Asc key lt l := by
  unfold Asc
  rw [List.map_cons, List.pairwise_cons]
  simp
end
theorem LtsR.mk' {ls : List Ltr} (h : ∀ x ∈ ls, LtR x) (ha : Asc (fun x : Ltr => x.name) ltB ls) : LtsR ls := ⟨fun j hj => h _ (List.getElem_mem hj), ha.adj⟩
theorem OcsR.mk' {os : List Oc} (h : ∀ x ∈ os, OcR x) (ha : Asc (fun o : Oc => o.client) (fun a b : Int => a < b) os) : OcsR os := ⟨fun j hj => h _ (List.getElem_mem hj), ha.adj⟩
theorem asc_few {os : List Oc} : ∀ {lo_ up : Int}, Asc (fun o : Oc => o.client) (fun a b : Int => a < b) os → (∀ o ∈ os, lo_ ≤ o.client ∧ o.client < up) → (os.length : Int) ≤ max (up - lo_) 0 := by
  induction os with
  | nil => intro lo_ up _ _; simp; omega
  | cons o os ih =>
    intro lo_ up ha hb
    obtain ⟨h1, h2⟩ := asc_cons.1 ha
    have h3 := hb o List.mem_cons_self
    have h4 := ih (lo_ := o.client + 1) (up := up) h2 fun p hp => by
      have h5 := h1 p hp
      have h6 := hb p (List.mem_cons_of_mem _ hp)
      omega
    rw [List.length_cons]
    omega
section
variable {l : Lg} {x : Ltr} {e : Ent} {c : Core} {n : Int} {op a b : Int} {t : ByteArray}
theorem check_ok (h : c.check n = 0) : (1 ≤ n ∧ n ≤ 7) ∧ (n ≤ c.client ∧ c.client < n + 4) ∧ (1 ≤ c.stamp ∧ c.stamp ≤ 1099511627776) ∧ (1 ≤ c.op ∧ c.op ≤ 9) ∧ nameB c.letter = true ∧ c.text.size ≤ 200 := by
  unfold Core.check at h
  split at h
  · cases h
  · split at h
    · cases h
    · split at h
      · cases h
      · split at h
        · cases h
        · next h4 =>
          split at h
          · cases h
          · exact ⟨by omega, by omega, by omega, by omega, by simpa using h4, by omega⟩
def paidF (x : Ltr) : Int := if x.state = 5 then x.amount else 0
def paidL (ls : List Ltr) : Int := (ls.map paidF).sum
structure Lg.Keep (l : Lg) : Prop where
  each : ∀ x ∈ l.ls, LtR x
  asc : Asc (fun x : Ltr => x.name) ltB l.ls
  few : l.ls.length ≤ 16
  os : ∀ o ∈ l.os, OcR o ∧ 4 ≤ o.client ∧ o.client < 8
  oasc : Asc (fun o : Oc => o.client) (fun a b : Int => a < b) l.os
  total : isAmt l.total = true
  paid : l.total = paidL l.ls
theorem Lg.zero_keep : Lg.zero.Keep := ⟨fun x hx => (by cases hx), by simp [Lg.zero, Asc], Nat.zero_le _, fun x hx => (by cases hx), by simp [Lg.zero, Asc], by decide, rfl⟩
theorem Lg.Keep.right (h : l.Keep) {s : Int} (hs : 0 ≤ s ∧ s ≤ 1048576) : ({ l with seq := s } : Lg).Right := by
  have hf := asc_few (lo_ := 4) (up := 8) h.oasc fun o ho => (h.os o ho).2
  exact ⟨OcsR.mk' (fun o ho => (h.os o ho).1) h.oasc, hs, h.total, by show l.os.length ≤ 4; omega, LtsR.mk' h.each h.asc, h.few⟩
/-! ### In any order -/
end
section
variable {α : Type} {p eq gt : α → Bool} {x y : α} {th : Bool}
def gStep (p : α → Bool) (th : Bool) (x : α) (s : List α × Bool) (y : α) : List α × Bool :=
  if (!s.2 && p y) = true then (if th = true then s.1 ++ [x] else s.1 ++ [x] ++ [y], true) else (s.1 ++ [y], s.2)
def gFin (x : α) (s : List α × Bool) : List α := if s.2 = true then s.1 else s.1 ++ [x]
theorem dt_ : ∀ (l acc : List α), l.foldl (gStep p th x) (acc, true) = (acc ++ l, true)
  | [], acc => by simp
  | y :: l, acc => by
    rw [List.foldl_cons, show gStep p th x (acc, true) y = (acc ++ [y], true) by simp [gStep], dt_ l]
    simp
theorem gfold : ∀ (l acc : List α), gFin x (l.foldl (gStep p th x) (acc, false)) = acc ++ putG p th x l
  | [], acc => by simp [gFin, putG]
  | y :: l, acc => by
    rw [List.foldl_cons]
    by_cases h : p y = true
    · cases th with
      | true =>
        rw [show gStep p true x (acc, false) y = (acc ++ [x], true) by simp [gStep, h], dt_]
        simp [gFin, putG, h]
      | false =>
        rw [show gStep p false x (acc, false) y = (acc ++ [x] ++ [y], true) by simp [gStep, h], dt_]
        simp [gFin, putG, h]
    · rw [show gStep p th x (acc, false) y = (acc ++ [y], false) by simp [gStep, h], gfold l]
      simp [putG, h]
def pickP (th : Bool) (eq gt : α → Bool) (y : α) : Bool := (th && eq y) || (!th && gt y)
theorem jv_ (l : List α) : putG (pickP th eq gt) th x l = if th = true then putG eq true x l else putG gt false x l := by
  cases th with
  | true => rw [if_pos rfl]; exact congrArg (fun q => putG q true x l) (funext fun y => by simp [pickP])
  | false => rw [if_neg (by decide)]; exact congrArg (fun q => putG q false x l) (funext fun y => by simp [pickP])
def gAt (eq gt : α → Bool) (th : Bool) (x : α) (l : List α) (z : Nat) : List α × Bool := (l.take z).foldl (gStep (pickP th eq gt) th x) ([], false)
theorem dO_ {l : List α} {z : Nat} (h : z < l.length) : gAt eq gt th x l (z + 1) = gStep (pickP th eq gt) th x (gAt eq gt th x l z) l[z] := by
  unfold gAt
  rw [List.take_succ_eq_append_getElem h, List.foldl_append]
  rfl
theorem fB_ {l : List α} {z : Nat} (h : l.length ≤ z) : gFin x (gAt eq gt (l.any eq) x l z) = withG eq gt x l := by
  unfold gAt
  rw [List.take_of_length_le h, gfold, List.nil_append, jv_]
  rfl
theorem j1_ (s : List α × Bool) : (gStep p th x s y).1.length ≤ s.1.length + 2 := by
  unfold gStep
  split
  · split <;> simp
  · simp
theorem fA_ {l : List α} (z : Nat) : (gAt eq gt th x l z).1.length ≤ 2 * l.length := by
  have aux : ∀ (l : List α) (s : List α × Bool), (l.foldl (gStep (pickP th eq gt) th x) s).1.length ≤ s.1.length + 2 * l.length := by
    intro l
    induction l with
    | nil => intro s; simp
    | cons y l ih =>
      intro s
      have h1 := ih (gStep (pickP th eq gt) th x s y)
      have h2 := j1_ (p := pickP th eq gt) (th := th) (x := x) (y := y) s
      rw [List.foldl_cons, List.length_cons]
      omega
  have h1 := aux (l.take z) ([], false)
  have h2 : (l.take z).length ≤ l.length := by rw [List.length_take]; exact Nat.min_le_right _ _
  unfold gAt
  simp only [List.length_nil] at h1
  omega
theorem es_ {l : List α} : (l.find? p).isSome = l.any p := by
  rw [Bool.eq_iff_iff, List.find?_isSome, List.any_eq_true]
end
section
variable {l : Lg} {x : Ltr} {e : Ent} {c : Core} {n : Int}
def Lg.at_ (l : Lg) (s : Int) : Lg := { l with seq := s }
theorem res_a (h : l.known e.core ≠ 0) : l.res e n = (l, l.known e.core) := by
  unfold Lg.res
  rw [if_pos h]
theorem res_b (h : ¬ l.known e.core ≠ 0) (h2 : endorsedF (l.old e.core.letter) e n ≠ 0) : l.res e n = (l, endorsedF (l.old e.core.letter) e n) := by
  unfold Lg.res
  rw [if_neg h, if_pos h2]
theorem jq_ (h : ¬ l.known e.core ≠ 0) (h2 : ¬ endorsedF (l.old e.core.letter) e n ≠ 0) : l.res e n = l.stepped (l.old e.core.letter) e.core := by
  unfold Lg.res
  rw [if_neg h, if_neg h2]
def ldgAt (n : Int) (l : Lg) (h : List (List Ent)) : Lg := h.foldl (fun l b => (l.foldF b n).1) l
theorem ds_ {n : Int} {l : Lg} {h : List (List Ent)} {z : Nat} (hz : z < h.length) : ldgAt n l (h.take (z + 1)) = ((ldgAt n l (h.take z)).foldF h[z] n).1 := by
  unfold ldgAt
  rw [List.take_succ_eq_append_getElem hz, List.foldl_append]
  rfl
end
structure Ev where
  seq : Int
  client : Int
  stamp : Int
  op : Int
  result : Int
  state : Int
structure EvIns (e : Ev) : Prop where
  seq : i64ok e.seq
  client : i64ok e.client
  stamp : i64ok e.stamp
  op : i64ok e.op
  result : i64ok e.result
  state : i64ok e.state
structure FewH (h : List (List Ent)) : Prop where
  en : ∀ j (hj : j < h.length), (∀ i (hi : i < h[j].length), h[j][i].core.letter.size ≤ 30 ∧ h[j][i].core.text.size ≤ 210) ∧ h[j].length ≤ 10
  len : h.length ≤ 40
noncomputable instance (h : List (List Ent)) : Decidable (FewH h) := Classical.propDecidable _
theorem FewH.row {h : List (List Ent)} (hf : FewH h) {b : List Ent} (hb : b ∈ h) : b.length ≤ 10 := by
  obtain ⟨j, hj, rfl⟩ := List.getElem_of_mem hb
  exact (hf.en j hj).2
def factsPc (l : List (Value × Abs)) : Pc where
  ids := []
  p := fun K w => ∀ x ∈ l, rep K w x.2 x.1
  carry := fun _ _ _ _ hc _ h x hx => bT_ hc _ _ (h x hx)
  lt := fun _ _ _ k hk => by cases hk
abbrev facts (l : List (Value × Abs)) : It := .pc (factsPc l)
/-! ### Maps whose values are trees: the map's own values, and what they are -/
section
variable {σ σ1 : Blks} {ι : Type} {τ' : ι → Blks} {K : Blks → ι → Prop}
theorem After.sub (φ : Blks) (hσ : σ.Perm (σ1 ++ φ)) (hr : ∀ x ∈ σ1, x.rids = []) (hk : ∀ z, ∃ ν : Blks, ν.Perm (τ' z ++ φ) ∧ K ν z) : After σ σ1 τ' K :=
  ⟨φ, ⟨by rw [← ai_]; exact ci_ hσ.symm, fun x hx => .inl ⟨hσ.mem_iff.2 (List.mem_append_left _ hx), hr x hx⟩, fun x hx => hσ.mem_iff.2 (List.mem_append_right _ hx)⟩, hk⟩
end
abbrev entsA (es : List Ent) : Abs := flat 8 Ent.cells es
theorem ent8 (e : Ent) : e.cells.length = 8 := rfl
section
variable {K : List Nat} {w : World} {v u : Value} {es fs : List Ent} {n : Int} {l : List UInt8} {p : Nat} {s : Rd}
theorem bcheck_s (hl : es.length ≤ 1000000) : Pure Tryz.prog 26 [entsA es, int n] (int (chkB es n)) := Pure.of2 fun K w vals hK hv => by
  obtain ⟨v, us', rfl, h1, h2⟩ := hv
  have h2 := (av_ (us := [.int .i64 n])).1 h2
  subst h2
  refine (gL_ ((enter2 w K).add (z := entsD v es) (row2 ((fm_ ent8).1 h1))) (by simp) hl).mono fun e w' ⟨he, hm⟩ => ⟨_, he, leave2 hm (by simp), rfl⟩
end
structure Dd where
  seq : Int
  batch : List Ent
  adopted : Bool
noncomputable instance : DecidableEq Dd := fun _ _ => Classical.propDecidable _
def Dd.abs (d : Dd) : List Abs := [int d.seq, entsR d.batch, boo d.adopted]
abbrev ddsA (l : List Dd) : Abs := .sl 3 (l.map Dd.abs)
structure DdIns (d : Dd) : Prop where
  seq : i64ok d.seq
  batch : ∀ e ∈ d.batch, EnIns e
theorem dds_ones (l : List Dd) : ∀ c ∈ l.map Dd.abs, ones c = true := by
  intro c hc
  obtain ⟨o, _, rfl⟩ := List.mem_map.1 hc
  rfl
def rowOf (D : List Dd) (k : Int) : List Dd := D.filter fun d => !d.adopted && decide (d.seq = k)
theorem f3_ (D E : List Dd) (k : Int) : rowOf (D ++ E) k = rowOf D k ++ rowOf E k := List.filter_append ..
theorem f2_ (d : Dd) (k : Int) : rowOf [d] k = if d.adopted = false ∧ d.seq = k then [d] else [] := by
  unfold rowOf
  by_cases h : d.adopted = false ∧ d.seq = k
  · rw [if_pos h, List.filter_cons_of_pos (by simp [h.1, h.2])]; rfl
  · rw [if_neg h, List.filter_cons_of_neg (by simpa using h)]; rfl
theorem d5_ {D : List Dd} {k : Int} {d : Dd} : d ∈ rowOf D k ↔ d ∈ D ∧ d.adopted = false ∧ d.seq = k := by
  unfold rowOf
  rw [List.mem_filter]
  simp
structure Num (D : List Dd) (tm : List (Int × (Value × List Dd))) : Prop where
  nd : (tm.map (·.1)).Nodup
  get : ∀ k, ((aget tm k).map (·.2)).getD [] = rowOf D k
  ok : ∀ e ∈ tm, i64ok e.1
theorem Num.nil : Num [] [] := ⟨List.nodup_nil, fun _ => rfl, fun e he => by cases he⟩
theorem Num.skip {D : List Dd} {tm : List (Int × (Value × List Dd))} (h : Num D tm) {d : Dd} (hd : d.adopted = true) : Num (D ++ [d]) tm := ⟨h.nd, fun k => by
  rw [h.get, f3_, f2_, if_neg (fun h => by rw [hd] at h; cases h.1), List.append_nil], h.ok⟩
theorem Num.put {D : List Dd} {tm : List (Int × (Value × List Dd))} (h : Num D tm) {d : Dd} (hd : d.adopted = false) (hi : i64ok d.seq) (v : Value) : Num (D ++ [d]) (aput tm d.seq (v, ((aget tm d.seq).map (·.2)).getD [] ++ [d])) := ⟨iN_ h.nd _ _, fun k => by
  rw [kt_, f3_, f2_, h.get]
  by_cases hk : k = d.seq
  · subst hk
    rw [if_pos rfl, if_pos ⟨hd, rfl⟩]
    rfl
  · rw [if_neg hk, if_neg (fun h => hk h.2.symm), List.append_nil]
    exact h.get k, fun e he => by
  unfold aput at he
  split at he
  · obtain ⟨x, hx, rfl⟩ := List.mem_map.1 he
    split
    · exact hi
    · exact h.ok x hx
  · rcases List.mem_append.1 he with he | he
    · exact h.ok e he
    · rw [List.mem_singleton.1 he]; exact hi⟩
theorem Num.none {D : List Dd} {tm : List (Int × (Value × List Dd))} (h : Num D tm) {k : Int} (hk : ∀ e ∈ tm, e.1 ≠ k) : rowOf D k = [] := by
  rw [← h.get, (eB_ tm k).2 (fun hm => by
    obtain ⟨e, he, h1⟩ := List.mem_map.1 hm
    exact hk e he h1)]
  rfl
/-! ### Whether they agree -/
def sameD (a b : List Dd) : Prop := ∀ x ∈ a, ∀ y ∈ b, x.adopted = false → y.adopted = false → x.seq = y.seq → x.batch = y.batch
noncomputable instance (a b : List Dd) : Decidable (sameD a b) := Classical.propDecidable _
theorem sameD.symm {a b : List Dd} (h : sameD a b) : sameD b a := fun x hx y hy h1 h2 h3 => (h y hy x hx h2 h1 h3.symm).symm
def oneB (l : List Dd) : Prop := ∀ x ∈ l, ∀ y, l.head? = some y → x.batch = y.batch
noncomputable instance (l : List Dd) : Decidable (oneB l) := Classical.propDecidable _
def allSame (l : List (List Dd)) : Prop := ∀ a ∈ l, ∀ b ∈ l, sameD a b
noncomputable instance (l : List (List Dd)) : Decidable (allSame l) := Classical.propDecidable _
structure IsHist (D : List Dd) (H : List (List Ent)) : Prop where
  at_ : ∀ i (hi : i < H.length), ∃ d, (rowOf D ((i : Int) + 1)).head? = some d ∧ H[i] = d.batch
  end_ : rowOf D ((H.length : Int) + 1) = []
theorem IsHist.uniq {D : List Dd} {H1 H2 : List (List Ent)} (h1 : IsHist D H1) (h2 : IsHist D H2) : H1 = H2 := by
  have aux : ∀ {A B : List (List Ent)}, IsHist D A → IsHist D B → B.length ≤ A.length := by
    intro A B ha hb
    rcases Nat.lt_or_ge A.length B.length with h | h
    · obtain ⟨d, hd, _⟩ := hb.at_ A.length h
      rw [ha.end_] at hd
      cases hd
    · exact h
  refine List.ext_getElem (Nat.le_antisymm (aux h2 h1) (aux h1 h2)) fun i g1 g2 => ?_
  obtain ⟨d, hd, e1⟩ := h1.at_ i g1
  obtain ⟨d2, hd2, e2⟩ := h2.at_ i g2
  rw [hd] at hd2
  cases hd2
  rw [e1, e2]
def HistUp (D : List Dd) (H : List (List Ent)) : Prop := ∀ i (hi : i < H.length), ∃ d, (rowOf D ((i : Int) + 1)).head? = some d ∧ H[i] = d.batch
theorem HistUp.nil {D : List Dd} : HistUp D [] := fun i hi => by cases hi
theorem HistUp.more {D : List Dd} {H : List (List Ent)} (h : HistUp D H) {d : Dd} (hd : (rowOf D ((H.length : Int) + 1)).head? = some d) : HistUp D (H ++ [d.batch]) := fun i hi => by
  rw [List.length_append, List.length_singleton] at hi
  rcases Nat.lt_or_ge i H.length with h1 | h1
  · obtain ⟨e, he, h2⟩ := h i h1
    exact ⟨e, he, by rw [List.getElem_append_left h1]; exact h2⟩
  · obtain rfl : i = H.length := by omega
    exact ⟨d, hd, by simp⟩
theorem jT_ : ∀ (m : Nat) (D : List Dd), (∀ i, i < m → rowOf D ((i : Int) + 1) ≠ []) → m ≤ D.length
  | 0, _, _ => Nat.zero_le _
  | m + 1, D, h => by
    have h1 := jT_ m (D.filter fun d => !decide (d.seq = (m : Int) + 1)) fun i hi => by
      have h2 := h i (by omega)
      obtain ⟨x, hx⟩ := List.exists_mem_of_ne_nil _ h2
      obtain ⟨g1, g2, g3⟩ := d5_.1 hx
      intro h3
      have h4 : x ∈ rowOf (D.filter fun d => !decide (d.seq = (m : Int) + 1)) ((i : Int) + 1) := d5_.2 ⟨List.mem_filter.2 ⟨g1, by simp; omega⟩, g2, g3⟩
      rw [h3] at h4
      cases h4
    obtain ⟨x, hx⟩ := List.exists_mem_of_ne_nil _ (h m (by omega))
    obtain ⟨g1, g2, g3⟩ := d5_.1 hx
    have h5 : (D.filter fun d => !decide (d.seq = (m : Int) + 1)).length < D.length := List.length_filter_lt_length_iff_exists.2 ⟨x, g1, by simp [g3]⟩
    omega
theorem HistUp.le {D : List Dd} {H : List (List Ent)} (h : HistUp D H) : H.length ≤ D.length := jT_ _ D fun i hi h2 => by
  obtain ⟨d, hd, _⟩ := h i hi
  rw [h2] at hd
  cases hd
theorem j0_ (D : List Dd) : ∃ H, IsHist D H := by
  have aux : ∀ (f : Nat) (H : List (List Ent)), HistUp D H → D.length ≤ H.length + f → ∃ H, IsHist D H := by
    intro f
    induction f with
    | zero =>
      intro H h hl
      cases hh : (rowOf D ((H.length : Int) + 1)).head? with
      | none => exact ⟨H, h, List.head?_eq_none_iff.1 hh⟩
      | some d =>
        have := (h.more hh).le
        simp at this
        omega
    | succ f ih =>
      intro H h hl
      cases hh : (rowOf D ((H.length : Int) + 1)).head? with
      | none => exact ⟨H, h, List.head?_eq_none_iff.1 hh⟩
      | some d => exact ih _ (h.more hh) (by simp; omega)
  exact aux D.length [] HistUp.nil (by simp)
noncomputable def histF (D : List Dd) : List (List Ent) := (j0_ D).choose
theorem histF_is (D : List Dd) : IsHist D (histF D) := (j0_ D).choose_spec
theorem IsHist.eq {D : List Dd} {H : List (List Ent)} (h : IsHist D H) : H = histF D := h.uniq (histF_is D)
theorem HistUp.done {D : List Dd} {H : List (List Ent)} (h : HistUp D H) (he : rowOf D ((H.length : Int) + 1) = []) : H = histF D := IsHist.eq ⟨h, he⟩
def outF : List Ent → List Int → List Oc
  | e :: es, r :: rs => if r ≠ 10 then ⟨e.core.client, e.core.stamp, r⟩ :: outF es rs else outF es rs
  | _, _ => []
theorem jB_ {es : List Ent} {rs : List Int} {z : Nat} (h : z < es.length) (k : z < rs.length) : outF (es.drop z) (rs.drop z) = if rs[z] ≠ 10 then ⟨es[z].core.client, es[z].core.stamp, rs[z]⟩ :: outF (es.drop (z + 1)) (rs.drop (z + 1)) else outF (es.drop (z + 1)) (rs.drop (z + 1)) := by
  rw [List.drop_eq_getElem_cons h, List.drop_eq_getElem_cons k, outF]
theorem outF_end {es : List Ent} {rs : List Int} {z : Nat} (h : rs.length ≤ z) : outF (es.drop z) (rs.drop z) = [] := by
  rw [List.drop_eq_nil_of_le h]
  cases es.drop z <;> rfl
structure Ex where
  l : Lg
  ds : List Dd
def Ex.zero : Ex := ⟨Lg.zero, []⟩
def Ex.doX (x : Ex) (n seq : Int) (b : List Ent) : Ex := if (1048576 ≤ x.l.seq ∨ seq ≠ x.l.seq + 1) ∨ chkB b n ≠ 0 then x else ⟨(x.l.foldF b n).1, x.ds ++ [⟨seq, b, false⟩]⟩
def Ex.doE (x : Ex) (n seq : Int) (b : List Ent) : Int := if 1048576 ≤ x.l.seq ∨ seq ≠ x.l.seq + 1 then 14 else chkB b n
def Ex.doO (x : Ex) (n seq : Int) (b : List Ent) : List Oc := if (1048576 ≤ x.l.seq ∨ seq ≠ x.l.seq + 1) ∨ chkB b n ≠ 0 then [] else outF b (x.l.foldF b n).2
noncomputable def Ex.adE (x : Ex) (m : List UInt8) : Int := if (parseL m).2 ≠ 0 then (parseL m).2 else if (parseL m).1.seq ≤ x.l.seq then 14 else 0
noncomputable def Ex.adX (x : Ex) (m : List UInt8) : Ex := if (parseL m).2 ≠ 0 ∨ (parseL m).1.seq ≤ x.l.seq then x else ⟨(parseL m).1, x.ds ++ [⟨(parseL m).1.seq, [], true⟩]⟩
section
variable {x : Ex} {n seq : Int} {b : List Ent} {m : List UInt8}
theorem kf_ (h : 1048576 ≤ x.l.seq ∨ seq ≠ x.l.seq + 1) : x.doX n seq b = x ∧ x.doE n seq b = 14 ∧ x.doO n seq b = [] := ⟨if_pos (.inl h), if_pos h, if_pos (.inl h)⟩
theorem do_odd (h : ¬ (1048576 ≤ x.l.seq ∨ seq ≠ x.l.seq + 1)) (h2 : chkB b n ≠ 0) : x.doX n seq b = x ∧ x.doE n seq b = chkB b n ∧ x.doO n seq b = [] := ⟨if_pos (.inr h2), if_neg h, if_pos (.inr h2)⟩
theorem do_ok (h : ¬ (1048576 ≤ x.l.seq ∨ seq ≠ x.l.seq + 1)) (h2 : ¬ chkB b n ≠ 0) : x.doX n seq b = ⟨(x.l.foldF b n).1, x.ds ++ [⟨seq, b, false⟩]⟩ ∧ x.doE n seq b = 0 ∧ x.doO n seq b = outF b (x.l.foldF b n).2 := by
  have h3 : ¬ ((1048576 ≤ x.l.seq ∨ seq ≠ x.l.seq + 1) ∨ chkB b n ≠ 0) := by rintro (h4 | h4); exact h h4; exact h2 h4
  exact ⟨if_neg h3, (if_neg h).trans (Classical.not_not.1 h2), if_neg h3⟩
theorem kv_ (h : (parseL m).2 ≠ 0) : x.adX m = x ∧ x.adE m = (parseL m).2 := ⟨if_pos (.inl h), if_pos h⟩
theorem fO_ (h : ¬ (parseL m).2 ≠ 0) (h2 : (parseL m).1.seq ≤ x.l.seq) : x.adX m = x ∧ x.adE m = 14 := ⟨if_pos (.inr h2), (if_neg h).trans (if_pos h2)⟩
theorem ku_ (h : ¬ (parseL m).2 ≠ 0) (h2 : ¬ (parseL m).1.seq ≤ x.l.seq) : x.adX m = ⟨(parseL m).1, x.ds ++ [⟨(parseL m).1.seq, [], true⟩]⟩ ∧ x.adE m = 0 := ⟨if_neg (by rintro (h3 | h3); exact h h3; exact h2 h3), (if_neg h).trans (if_neg h2)⟩
theorem Lg.Right.ins {l : Lg} (h : l.Right) : l.Ins := by
  have hs := h.seq
  refine ⟨by unfold i64ok; omega, bP_ h.total, fun y hy => ?_, fun o ho => ?_⟩
  · have hy := h.ls.all y hy
    have h1 := hy.state
    have h2 := hy.amount
    have h3 := hy.policy
    have h4 := hy.papers
    have h5 : y.name.size ≤ 16 := by
      have := hy.name
      unfold nameB at this
      simp only [Bool.and_eq_true, decide_eq_true_eq] at this
      omega
    exact ⟨⟨by show _ ∧ _; omega, by show _ ∧ _; omega, bP_ hy.due⟩, by unfold maxLen; omega, by unfold maxLen; omega, by unfold maxLen; omega⟩
  · have ho := h.os.all o ho
    have h1 := ho.client
    have h2 := ho.stamp
    have h3 := ho.result
    exact ⟨by unfold i64ok; omega, by unfold i64ok; omega, by unfold i64ok; omega⟩
structure Ex.Ok (x : Ex) (k : Nat) : Prop where
  ins : x.l.Ins
  seq : 0 ≤ x.l.seq ∧ x.l.seq ≤ 1048576
  ls : x.l.ls.length ≤ 16 + 10 * k
  os : x.l.os.length ≤ 4 + 10 * k
  few : x.ds.length ≤ k
  ds : ∀ d ∈ x.ds, DdIns d ∧ d.batch.length ≤ 10 ∧ ∀ e ∈ d.batch, e.core.letter.size ≤ lots
theorem Ex.zero_ok : Ex.zero.Ok 0 := ⟨Lg.zero_ins, by show (0 : Int) ≤ 0 ∧ (0 : Int) ≤ _; omega, by show 0 ≤ _; omega, by show 0 ≤ _; omega, Nat.le_refl _, fun d hd => by cases hd⟩
theorem Ex.Ok.up {k : Nat} (h : x.Ok k) : x.Ok (k + 1) := ⟨h.ins, h.seq, by have := h.ls; omega, by have := h.os; omega, by have := h.few; omega, h.ds⟩
theorem fD_ (l : Lg) : (l.foldF b n).1.seq = l.seq + 1 := congrArg (· + 1) (db_ n l b)
theorem h6_ {l : Lg} (h : l.Ins) (hs : i64ok (l.seq + 1)) (he : ∀ e ∈ b, EnIns e) : (l.foldF b n).1.Ins := by
  have h1 := h4_ n h he
  exact ⟨by show i64ok ((Lg.goes n l b).1.seq + 1); rw [db_]; exact hs, h1.total, h1.ls, h1.os⟩
theorem Ex.Ok.do_ {k : Nat} (h : x.Ok k) (he : ∀ e ∈ b, EnIns e) (hs : ∀ e ∈ b, e.core.letter.size ≤ lots) (hb : b.length ≤ 10) : (x.doX n seq b).Ok (k + 1) := by
  unfold Ex.doX
  split
  · exact h.up
  · next hc =>
    have h0 := h.seq
    have h1 := dd_ n x.l b
    have h2 := h.ls
    have h3 := h.os
    have h4 : seq = x.l.seq + 1 := Classical.byContradiction fun h9 => hc (.inl (.inr h9))
    have h5 : ¬ 1048576 ≤ x.l.seq := fun h9 => hc (.inl (.inl h9))
    refine ⟨h6_ h.ins (by unfold i64ok; omega) he, ?_, ?_, ?_, ?_, fun d hd => ?_⟩
    · show 0 ≤ (x.l.foldF b n).1.seq ∧ (x.l.foldF b n).1.seq ≤ _
      rw [fD_]
      omega
    · show (Lg.goes n x.l b).1.ls.length ≤ _
      omega
    · show (Lg.goes n x.l b).1.os.length ≤ _
      omega
    · have := h.few
      simp only [List.length_append, List.length_singleton]
      omega
    · rcases List.mem_append.1 hd with hd | hd
      · exact h.ds d hd
      · rw [List.mem_singleton.1 hd]
        exact ⟨⟨by show i64ok seq; unfold i64ok; omega, he⟩, hb, hs⟩
theorem Ex.Ok.ad {k : Nat} (h : x.Ok k) : (x.adX m).Ok (k + 1) := by
  unfold Ex.adX
  split
  · exact h.up
  · next hc =>
    have hr : (parseL m).1.Right := gb_ (Classical.byContradiction fun h9 => hc (.inl h9))
    have h1 := hr.seq
    have h2 := hr.lsFew
    have h3 := hr.few
    refine ⟨hr.ins, h1, by dsimp only; omega, by dsimp only; omega, ?_, fun d hd => ?_⟩
    · have := h.few
      simp only [List.length_append, List.length_singleton]
      omega
    · rcases List.mem_append.1 hd with hd | hd
      · exact h.ds d hd
      · rw [List.mem_singleton.1 hd]
        exact ⟨⟨by show i64ok (parseL m).1.seq; unfold i64ok; omega, fun e he => by cases he⟩, Nat.zero_le _, fun e he => by cases he⟩
noncomputable def Lg.bytesR (l : Lg) : List UInt8 := if l.Right then l.bytes else []
end
structure XAct where
  kind : Nat
  more : Int
  batch : List Ent
  l : Lg
  raw : List UInt8
def XAct.abs (a : XAct) : List Abs := [.v (.int .u8 (a.kind : Nat)), int a.more, entsR a.batch, int a.l.seq, int a.l.total, ltrsA a.l.ls, outA a.l.os, byt a.raw]
structure XAct.Ins (a : XAct) : Prop where
  kind : a.kind < 256
  more : i64ok a.more
  batch : ∀ e ∈ a.batch, EnIns e
  l : a.l.Ins
abbrev actsX (l : List XAct) : Abs := .sl 8 (l.map XAct.abs)
structure FewX (b : List Ent) : Prop where
  en : ∀ i (h : i < b.length), b[i].core.letter.size ≤ 100 ∧ b[i].core.text.size ≤ 300
  len : b.length ≤ 10
noncomputable instance (b : List Ent) : Decidable (FewX b) := Classical.propDecidable _
theorem FewX.szs {b : List Ent} (h : FewX b) : ∀ e ∈ b, e.core.letter.size ≤ lots := by
  intro e he
  obtain ⟨i, hi2, rfl⟩ := List.getElem_of_mem he
  have := (h.en i hi2).1
  unfold lots
  omega
/-! ### A ledger that may be stays one -/
theorem ez_ {l : Lg} (h : l.Right) : l.bytesR = l.bytes := if_pos h
def tailStep (acc : List Dd) (d : Dd) : List Dd := if d.adopted = true then [] else acc ++ [d]
def tailD (ds : List Dd) : List Dd := ds.foldl tailStep []
theorem dY_ (ds : List Dd) (d : Dd) : tailD (ds ++ [d]) = tailStep (tailD ds) d := by
  unfold tailD
  rw [List.foldl_append]
  rfl
theorem io_ {ds : List Dd} {z : Nat} (h : z < ds.length) : tailD (ds.take (z + 1)) = tailStep (tailD (ds.take z)) ds[z] := by
  rw [List.take_succ_eq_append_getElem h, dY_]
theorem fX_ (ds : List Dd) : (tailD ds).length ≤ ds.length := by
  have aux : ∀ (ds acc : List Dd), (ds.foldl tailStep acc).length ≤ acc.length + ds.length := by
    intro ds
    induction ds with
    | nil => intro acc; exact Nat.le_refl _
    | cons d ds ih =>
      intro acc
      have h1 := ih (tailStep acc d)
      have h2 : (tailStep acc d).length ≤ acc.length + 1 := by
        unfold tailStep
        split
        · exact Nat.zero_le _
        · simp
      rw [List.foldl_cons, List.length_cons]
      omega
  have h9 := aux ds []
  rw [List.length_nil, Nat.zero_add] at h9
  exact h9
theorem dX_ {ds : List Dd} {d : Dd} (h : d ∈ tailD ds) : d ∈ ds := by
  have aux : ∀ (ds acc : List Dd), d ∈ ds.foldl tailStep acc → d ∈ acc ∨ d ∈ ds := by
    intro ds
    induction ds with
    | nil => intro acc h; exact .inl h
    | cons c ds ih =>
      intro acc h
      rcases ih _ h with h | h
      · unfold tailStep at h
        split at h
        · cases h
        · rcases List.mem_append.1 h with h | h
          · exact .inl h
          · rw [List.mem_singleton.1 h]; exact .inr List.mem_cons_self
      · exact .inr (List.mem_cons_of_mem _ h)
  rcases aux ds [] h with h | h
  · cases h
  · exact h
abbrev batT (ds : List Dd) : List (List Ent) := (tailD ds).map (·.batch)
structure Since (x : Ex) (s : Lg) : Prop where
  l : x.l = ldgAt 4 s (batT x.ds)
  num : ∀ j (h : j < (tailD x.ds).length), (tailD x.ds)[j].seq = s.seq + 1 + (j : Nat)
  seq : x.l.seq = s.seq + ((tailD x.ds).length : Nat)
theorem Since.zero : Since Ex.zero Lg.zero := ⟨rfl, fun j h => (by cases h), rfl⟩
theorem jR_ {n : Int} {l : Lg} {h : List (List Ent)} {b : List Ent} : ldgAt n l (h ++ [b]) = ((ldgAt n l h).foldF b n).1 := by
  unfold ldgAt
  rw [List.foldl_append]
  rfl
theorem Since.do_ {x : Ex} {s : Lg} {b : List Ent} (h : Since x s) : Since (x.doX 4 (x.l.seq + 1) b) s := by
  unfold Ex.doX
  split
  · exact h
  · have ht : tailD (x.ds ++ [(⟨x.l.seq + 1, b, false⟩ : Dd)]) = tailD x.ds ++ [⟨x.l.seq + 1, b, false⟩] := by
      rw [dY_]
      rfl
    have hq := h.seq
    refine ⟨?_, fun j hj => ?_, ?_⟩
    · show (x.l.foldF b 4).1 = ldgAt 4 s ((tailD (x.ds ++ [_])).map _)
      rw [ht, List.map_append, List.map_singleton, jR_, ← h.l]
    · have hj2 : j < (tailD x.ds ++ [(⟨x.l.seq + 1, b, false⟩ : Dd)]).length := by rw [← ht]; exact hj
      have e : (tailD (x.ds ++ [(⟨x.l.seq + 1, b, false⟩ : Dd)]))[j]'hj = (tailD x.ds ++ [(⟨x.l.seq + 1, b, false⟩ : Dd)])[j]'hj2 := by simp only [ht]
      show ((tailD (x.ds ++ [(⟨x.l.seq + 1, b, false⟩ : Dd)]))[j]'hj).seq = _
      rw [e, List.getElem_append]
      split
      · next h1 => exact h.num j h1
      · next h1 =>
        rw [List.length_append, List.length_singleton] at hj2
        have hj3 : j = (tailD x.ds).length := by omega
        subst hj3
        simp only [Nat.sub_self, List.getElem_cons_zero]
        omega
    · show (x.l.foldF b 4).1.seq = s.seq + (((tailD (x.ds ++ [(⟨x.l.seq + 1, b, false⟩ : Dd)])).length : Nat) : Int)
      rw [fD_, ht, List.length_append, List.length_singleton]
      omega
theorem Since.ad {x : Ex} {l : Lg} (hr : l.Right) (h : x.adE l.bytes = 0) : Since (x.adX l.bytes) l := by
  have hp := he_ hr
  have h1 : ¬ (parseL l.bytes).2 ≠ 0 := by rw [hp]; simp
  have h2 : ¬ (parseL l.bytes).1.seq ≤ x.l.seq := fun h3 => by
    rw [(fO_ (x := x) h1 h3).2] at h
    cases h
  rw [(ku_ (x := x) h1 h2).1, hp]
  have ht : tailD (x.ds ++ [(⟨l.seq, [], true⟩ : Dd)]) = [] := by
    rw [dY_]
    rfl
  refine ⟨?_, fun j hj => ?_, ?_⟩
  · show l = ldgAt 4 l ((tailD (x.ds ++ [(⟨l.seq, [], true⟩ : Dd)])).map _)
    rw [ht]
    rfl
  · have : (tailD (x.ds ++ [(⟨l.seq, [], true⟩ : Dd)])).length = 0 := by rw [ht]; rfl
    have hj : j < (tailD (x.ds ++ [(⟨l.seq, [], true⟩ : Dd)])).length := hj
    omega
  · show l.seq = l.seq + (((tailD (x.ds ++ [(⟨l.seq, [], true⟩ : Dd)])).length : Nat) : Int)
    rw [ht]
    simp
theorem ad_no {x : Ex} {m : List UInt8} (h : x.adE m ≠ 0) : x.adX m = x := by
  by_cases h1 : (parseL m).2 ≠ 0
  · exact (kv_ h1).1
  · by_cases h2 : (parseL m).1.seq ≤ x.l.seq
    · exact (fO_ h1 h2).1
    · exact absurd (ku_ (x := x) h1 h2).2 h
theorem eZ_ {n : Int} {l : Lg} {h : List (List Ent)} (hl : l.Ins) (h0 : 0 ≤ l.seq) (h1 : l.seq ≤ 2000000) (hh : ∀ b ∈ h, ∀ e ∈ b, EnIns e) (hb : h.length ≤ 1000000) : ∀ z, z ≤ h.length → (ldgAt n l (h.take z)).Ins ∧ (ldgAt n l (h.take z)).seq = l.seq + (z : Nat)
  | 0, _ => ⟨hl, by show l.seq = _; simp⟩
  | z + 1, hz => by
    obtain ⟨g1, g2⟩ := eZ_ hl h0 h1 hh hb z (by omega)
    rw [ds_ (by omega)]
    refine ⟨h6_ g1 (by unfold i64ok; omega) (hh _ (List.getElem_mem (show z < h.length by omega))), ?_⟩
    rw [fD_, g2]
    omega
theorem e0_ {n : Int} {l : Lg} {h : List (List Ent)} (hr : ∀ b ∈ h, b.length ≤ 10) : ∀ z, z ≤ h.length → (ldgAt n l (h.take z)).ls.length ≤ l.ls.length + 10 * z ∧ (ldgAt n l (h.take z)).os.length ≤ l.os.length + 10 * z
  | 0, _ => ⟨Nat.le_refl _, Nat.le_refl _⟩
  | z + 1, hz => by
    obtain ⟨g1, g2⟩ := e0_ (n := n) (l := l) hr z (by omega)
    rw [ds_ (by omega)]
    have g3 := dd_ n (ldgAt n l (h.take z)) (h[z]'(by omega))
    have g4 := hr _ (List.getElem_mem (show z < h.length by omega))
    show (Lg.goes n _ _).1.ls.length ≤ _ ∧ (Lg.goes n _ _).1.os.length ≤ _
    omega
end Go.Proofs.YtickdhjljpnlpaaGreatDoor.A
namespace Go.Proofs.YtickdhjljpnlpaaGreatDoor.A
open Go.RowKit Go.ChangeShapes Go.WideShapes Go.ChangeAt
section
variable {H : Type} {enc : TypeId × Value → H} {w : World} {base : Nat} {spare : Nat → Bool} {held : Bool}
theorem hb_ {v : Value} (h : LeafAt enc Tryz.prog w base spare held 31 v) : ∃ m : List UInt8, rep [] w (byt m) v := by
  obtain ⟨m, h1, _⟩ := c6_ (abs := fun b : UInt8 => [Abs.v (bc b)]) (Ok := fun _ => True) (s := 1) Tryz.underlying31 (by kernel_rfl) h fun cs hl h => by
    rw [show Tryz.prog.cellsOf 5 = 1 by kernel_rfl] at hl
    match cs, hl with
    | [v0], _ =>
      obtain ⟨m, y, hy⟩ := h
      obtain ⟨c, hc, _⟩ := jE_ [v0] (by rw [show Tryz.prog.cellsOf 5 = 1 by kernel_rfl]; rfl) ⟨m, y, hy⟩
      simp at hc
      exact ⟨c, ⟨v0, [], rfl, hc, rfl⟩, trivial⟩
  exact ⟨m, h1⟩
theorem iT_ : leaves Tryz.prog 6 33 = some [5, 2, 26, 2, 2, 27, 28, 31] := by kernel_rfl
theorem jF_ (cs : List Value) (hl : cs.length = Tryz.prog.cellsOf 33) (h : ∃ m y, DataW.trod enc Tryz.prog w base spare held m 33 cs = some y) : ∃ a : XAct, reps [] w a.abs cs ∧ a.Ins := by
  obtain ⟨fuel, x, h⟩ := h
  rw [show Tryz.prog.cellsOf 33 = 8 by kernel_rfl] at hl
  have hh := bG_ 6 _ _ _ _ _ iT_ (by simpa using hl.symm) h
  match cs, hl with
  | [v0, v1, v2, v3, v4, v5, v6, v7], _ =>
    obtain ⟨n0, rfl, b0⟩ := (hh 0 v0 _ rfl rfl).int Tryz.underlying5
    obtain ⟨n1, rfl, b1⟩ := (hh 1 v1 _ rfl rfl).int Tryz.underlying2
    obtain ⟨es, h2, i2⟩ := jD_ (hh 2 v2 _ rfl rfl)
    obtain ⟨n3, rfl, b3⟩ := (hh 3 v3 _ rfl rfl).int Tryz.underlying2
    obtain ⟨n4, rfl, b4⟩ := (hh 4 v4 _ rfl rfl).int Tryz.underlying2
    obtain ⟨ls, h5, i5⟩ := c6_ (abs := ltrA) (Ok := LtIns) (s := 6) Tryz.underlying27 (by kernel_rfl) (hh 5 v5 _ rfl rfl) open_ltr
    obtain ⟨os, h6, i6⟩ := c6_ (abs := Oc.abs) (Ok := OcIns) (s := 3) Tryz.underlying28 (by kernel_rfl) (hh 6 v6 _ rfl rfl) open_ocO
    obtain ⟨m, h7⟩ := hb_ (hh 7 v7 _ rfl rfl)
    simp only [Lit.wf, Bool.and_eq_true, decide_eq_true_eq] at b0
    have c0 : (0 : Int) ≤ n0 := b0.1
    have c1 : n0 ≤ (255 : Int) := b0.2
    obtain ⟨k, rfl⟩ : ∃ k : Nat, n0 = k := ⟨n0.toNat, by omega⟩
    exact ⟨⟨k, n1, es, ⟨n3, n4, ls, os⟩, m⟩, ⟨_, _, rfl, rfl, _, _, rfl, rfl, _, _, rfl, h2, _, _, rfl, rfl, _, _, rfl, rfl, _, _, rfl, h5, _, _, rfl, h6, _, _, rfl, h7, rfl⟩, ⟨by show k < 256; omega, wfOk b1, i2, ⟨wfOk b3, wfOk b4, i5, i6⟩⟩⟩
theorem open_actsX {v : Value} (h : LeafAt enc Tryz.prog w base spare held 22 v) : ∃ l : List XAct, rep [] w (actsX l) v ∧ ∀ a ∈ l, a.Ins :=
  c6_ (abs := XAct.abs) (Ok := XAct.Ins) (s := 8) Tryz.underlying22 (by kernel_rfl) h jF_
end
section
variable {G : List Nat} {w : World}
theorem kn_ (hU : Other .u8 G w) {m : List UInt8} {v : Value} (h : rep [] w (byt m) v) : rep G w (byt m) v :=
  bk_.2 ((bk_.1 h).into hU fun hn => by
    cases m with
    | nil => exact absurd rfl hn
    | cons b m => exact ⟨_, rfl⟩)
theorem gR_ (hG : Other .i64 G w) (hU : Other .u8 G w) : ∀ {l : List XAct} {us : List Value}, repss [] w 8 (l.map XAct.abs) us → repss G w 8 (l.map XAct.abs) us ∧ (us ≠ [] → ∃ i, us[1]? = some (.int .i64 i))
  | [], us, h => by
    have h : us = [] := h
    subst h
    exact ⟨rfl, fun hn => absurd rfl hn⟩
  | a :: l, us, h => by
    obtain ⟨u1, u2, rfl, hl, ⟨x0, _, rfl, h0, x1, _, rfl, h1, x2, _, rfl, h2, x3, _, rfl, h3, x4, _, rfl, h4, x5, _, rfl, h5, x6, _, rfl, h6, x7, _, rfl, h7, h8⟩, hr⟩ := h
    have h1' : x1 = .int .i64 a.more := h1
    refine ⟨⟨_, u2, rfl, hl, ⟨x0, _, rfl, h0, x1, _, rfl, h1, x2, _, rfl, ens_keep hG h2, x3, _, rfl, h3, x4, _, rfl, h4, x5, _, rfl, ep_ (c := fun x : Ltr => x.cells.toList) (s := 6) (j := 1) (fun _ => rfl) (fun x => ⟨x.state, rfl⟩) hG h5, x6, _, rfl, ep_ (c := ocCells) (s := 3) (j := 0) (fun _ => rfl) (fun o => ⟨o.client, rfl⟩) hG h6, x7, _, rfl, kn_ hU h7, h8⟩, (gR_ hG hU hr).1⟩, fun _ => ?_⟩
    exact ⟨a.more, by rw [h1']; rfl⟩
theorem actsX_keep (hG : Other .i64 G w) (hU : Other .u8 G w) {l : List XAct} {v : Value} (h : rep [] w (actsX l) v) : rep G w (actsX l) v := by
  obtain ⟨us, h1, h2⟩ := h
  obtain ⟨h3, h4⟩ := gR_ hG hU h2
  exact ⟨us, h1.intoJ (j := 1) hG h4, h3⟩
end
section
variable {x : Oc} {xs : List Oc} {p q : Nat} {k : Int} {v : Value}
theorem jU_  : Spec Tryz.prog 62 [.agg (Oc.abs x)] [] (fun _ : Unit => []) (fun _ => int x.client) := by
 refine C_ Tryz.func62 rfl Tryz.ntmps62 rfl fun G w =>d_<|a_<|eb_ (L_ (cs := Oc.abs x) rfl) rfl rfl fun b1=>?_
 exact q_ 1 rfl<|g_<|b_<|d_<|a_<|q_ 1 rfl<|c_ (i_ tabOk rfl rfl l0_ List.not_mem_nil rfl) rfl rfl<|q_ 1 rfl<|g_<|b_<|l_<|f_ (rs := [.tmp 2]) rfl (RV.tmp rfl RV.nil) (()) sn_<|rfl
theorem pl1_oc  : Spec Tryz.prog 94 [.agg (Oc.abs x), ptr p, ptr q] [.rd p 105 [.fn (.func 62) [] []], .rd q 3 [int k]] (fun _ : Unit => []) (fun _ => boo (eqO k x)) := by
 refine C_ Tryz.func94 rfl Tryz.ntmps94 rfl fun G w =>d_<|a_<|eb_ (L_ (cs := Oc.abs x) rfl) rfl rfl fun b3=>?_
 refine q_ 1 rfl<|g_<|b_<|d_<|Y_ [] (.q 0 (.q 1 (.q 3 (.e 2 (.q 4 (.q 5 .nil)))))) (by kernel_rfl) (by kernel_rfl) ?_
 refine v_ rfl (i_ tabOk rfl rfl r1_ List.not_mem_nil rfl) (by simp) rfl rfl ?_
 refine hx_ fun hx9 =>v_ rfl (P_ tabOk rfl rfl rfl l0_ List.not_mem_nil rfl) hx9 rfl rfl<|v_ rfl (i_ tabOk rfl rfl r2_ List.not_mem_nil rfl) (by simp) rfl rfl ?_
 refine aS_ rfl (jU_ (x := x)) (by simp [mids, It.mids]) rfl Casts.refl (by kernel_rfl) rfl rfl rfl ?_
 exact ap_<|fun _=>hx_ fun hx9 =>qx_ 1 hx9 rfl<|qs_ 1 rfl<|R_<|b_<|l_<|f_ (rs := [.tmp 4]) rfl (RV.tmp rfl RV.nil) (()) sn_<|rfl
theorem pl2_oc  : Spec Tryz.prog 95 [.agg (Oc.abs x), ptr p, ptr q] [.rd p 105 [.fn (.func 62) [] []], .rd q 3 [int k]] (fun _ : Unit => []) (fun _ => boo (gtO k x)) := by
 refine C_ Tryz.func95 rfl Tryz.ntmps95 rfl fun G w =>d_<|a_<|eb_ (L_ (cs := Oc.abs x) rfl) rfl rfl fun b3=>?_
 refine q_ 1 rfl<|g_<|b_<|d_<|Y_ [] (.q 0 (.q 1 (.q 3 (.e 2 (.q 4 (.q 5 .nil)))))) (by kernel_rfl) (by kernel_rfl) ?_
 refine v_ rfl (i_ tabOk rfl rfl r1_ List.not_mem_nil rfl) (by simp) rfl rfl ?_
 refine hx_ fun hx9 =>v_ rfl (P_ tabOk rfl rfl rfl l0_ List.not_mem_nil rfl) hx9 rfl rfl<|v_ rfl (i_ tabOk rfl rfl r2_ List.not_mem_nil rfl) (by simp) rfl rfl ?_
 refine aS_ rfl (jU_ (x := x)) (by simp [mids, It.mids]) rfl Casts.refl (by kernel_rfl) rfl rfl rfl ?_
 exact ap_<|fun _=>hx_ fun hx9 =>qx_ 1 hx9 rfl<|qs_ 1 rfl<|R_<|b_<|l_<|f_ (rs := [.tmp 4]) rfl (RV.tmp rfl RV.nil) (()) sn_<|rfl
theorem bY_ {xs : List (List Abs)} (h1 : ∀ c ∈ xs, ones c = true) (hn : xs.length ≤ 1000000) : Spec Tryz.prog 38 [.sl 3 xs] [] (fun _ : Unit => []) (fun _ => .sl 3 xs) := by
 refine C_ Tryz.func38 rfl Tryz.ntmps38 rfl fun G w =>d_<|a_<|q_ 1 rfl<|g_<|b_<|d_<|d_<|a_<|q_ 1 rfl<|di_ Tryz.underlying28 rfl rfl rfl<|fun b hb=>g_<|b_<|S_ rfl ?_ ?_
 ·intro hc4
  have hnil : xs = [] := hb hc4
  subst hnil
  refine d_<|a_<|q_ 1 rfl<|g_<|b_<|l_<|h_ nofun<|fV_ (rs := [.tmp 2]) rfl (RV.tmp rfl RV.nil) (Casts.nils (s := 3) Casts.refl) () sn_ (by simp [It.rids]) rfl
 intro hc4
 refine o_<|b_<|d_<|a_<|eb_ (aX_ tabOk Tryz.underlying28 rfl rfl rfl rfl rfl rfl rfl) rfl rfl fun r5=>?_
 refine q_ 1 rfl<|eb_ (V_ (zs := xs) tabOk [] rfl Tryz.underlying28 rfl rfl rfl rfl rfl rfl h1 (by unfold maxLen; simp only [List.length_nil]; omega) (by rw [show Tryz.prog.bytesOf 40 = 24 by kernel_rfl]; simp only [List.length_nil]; omega)) rfl rfl fun r7=>?_
 exact q_ 1 rfl<|g_<|b_<|l_<|bb_ [] (t := 2) rfl rfl<|f_ (rs := [.tmp 2]) rfl (RV.tmp rfl RV.nil) (()) sn_<|rfl
theorem hs_ {xs : List (List Abs)} (h1 : ∀ c ∈ xs, ones c = true) (hn : xs.length ≤ 1000000) : Spec Tryz.prog 38 [.sl 3 xs] [] (fun r : Value => [own 40 3 r xs]) (fun r => .v r) := by
 refine C_ Tryz.func38 rfl Tryz.ntmps38 rfl fun G w =>d_<|a_<|q_ 1 rfl<|g_<|b_<|d_<|d_<|a_<|q_ 1 rfl<|di_ Tryz.underlying28 rfl rfl rfl<|fun b hb=>g_<|b_<|S_ rfl ?_ ?_
 ·intro hc4
  have hnil : xs = [] := hb hc4
  subst hnil
  exact d_<|bq_ 40 3<|a_<|q_ 1 rfl<|g_<|b_<|l_<|h_ nofun<|f_ (rs := [.tmp 2]) rfl (RV.tmp rfl RV.nil) (.slice none 0 0) sr_<|rfl
 intro hc4
 refine o_<|b_<|d_<|a_<|eb_ (aX_ tabOk Tryz.underlying28 rfl rfl rfl rfl rfl rfl rfl) rfl rfl fun r5=>?_
 refine q_ 1 rfl<|eb_ (V_ (zs := xs) tabOk [] rfl Tryz.underlying28 rfl rfl rfl rfl rfl rfl h1 (by unfold maxLen; simp only [List.length_nil]; omega) (by rw [show Tryz.prog.bytesOf 40 = 24 by kernel_rfl]; simp only [List.length_nil]; omega)) rfl rfl fun r7=>?_
 exact q_ 1 rfl<|g_<|b_<|l_<|f_ (rs := [.tmp 2]) rfl (RV.tmp rfl RV.nil) (r7) sr_<|rfl
end
theorem gs_ {xs : List Oc} {p : Oc → Bool} {k : Nat} {caps : List Abs} {σ : Blks} (hb : goesIn Tryz.prog k = true) (hr : Rds σ) (hn : xs.length < 9223372036854775807) (h : ∀ x ∈ xs, Spec Tryz.prog k (.agg (Oc.abs x) :: caps) σ (fun _ : Unit => []) (fun _ => boo (p x))) : Spec Tryz.prog 93 [.sl 3 (xs.map Oc.abs), .fn (.func k) [] caps] σ (fun _ : {r : Int // IdxOf p xs r} => []) (fun z => int z.1) := by
 refine C_ Tryz.func93 rfl Tryz.ntmps93 rfl fun G w =>d_<|a_<|q_ 1 rfl<|g_<|b_<|d_<|d_<|a_<|q_ 1 rfl<|c_ (E_ rfl Tryz.underlying28 (List.length_map _)) rfl rfl<|q_ 1 rfl<|g_<|b_<|w_<|aa_ (ι := Nat) (fun z => σ) (fun z => [(0, .sl 3 (xs.map Oc.abs)), (1, .fn (.func k) [] caps), (7, int (xs.length : Nat)), (8, int (z : Nat))]) (fun z => z ≤ xs.length ∧ ∀ j (hj : j < xs.length), j < z → p xs[j] = false) (fun z => xs.length - z) (0) (⟨Nat.zero_le _, by omega⟩) (by exact ⟨rfl, rfl, rfl, rfl, trivial⟩) sr_ ?_
 intro z hz
 refine d_<|a_<|q_ 1 rfl<|g_<|b_<|d_<|p_ rfl ?_ ?_
 rotate_left
 ·intro hc9
  refine X_<|h_ nofun<|h_ nofun<|W_<|b_<|d_<|a_<|q_ 1 rfl<|g_<|b_<|l_<|f_ (rs := [.tmp 4]) rfl (RV.tmp rfl RV.nil) (⟨-1, .inl ⟨rfl, fun x hx => by obtain ⟨j, hj, rfl⟩ := List.getElem_of_mem hx; exact hz.2 j hj (by omega)⟩⟩) sn_ ?_
  exact rfl
 intro hc9
 have hlt : z < xs.length := by omega
 refine o_<|b_<|d_<|w_<|d_<|a_<|q_ 2 rfl<|g_<|b_<|d_<|a_<|q_ 3 rfl<|c_ (H_ tabOk Tryz.underlying28 rfl rfl rfl rfl (aw_ (by omega)) rfl rfl) rfl rfl ?_
 refine c_ (T_ tabOk rfl rfl rfl rfl) rfl rfl<|bx_ (h _ (List.getElem_mem hlt)) rfl Casts.refl hb rfl rfl rfl<|bj_ (Rds.reads hr (fun x hx => by repeat (first | exact hx | apply List.mem_cons_of_mem))) (fun _ => rfl) ?_
 intro _
 refine g_<|b_<|S_ rfl ?_ ?_
 rotate_left
 ·intro hc16
  refine o_<|u_<|b_<|a_<|c_ (y_ rfl rfl (by simp only [InR, lo, hi]; omega)) rfl rfl ?_
  refine q_ 1 rfl<|g_<|D_ (z + 1) (by omega) (⟨by omega, fun j hj hjz => by rcases Nat.lt_or_ge j z with h1 | h1; exact hz.2 j hj h1; obtain rfl : j = z := (by omega); exact hc16⟩) (by exact ⟨rfl, rfl, rfl, rfl, trivial⟩) sr_
 intro hc16
 refine d_<|a_<|q_ 2 rfl<|g_<|b_<|l_<|A_<|h_ nofun<|h_ nofun<|A_<|h_ nofun<|f_ (rs := [.tmp 4]) rfl (RV.tmp rfl RV.nil) (⟨(z : Nat), .inr ⟨z, hlt, rfl, hc16, fun j hj => hz.2 j (by omega) hj⟩⟩) sn_ ?_
 exact rfl
theorem gr_ {v : Value} {xs : List Oc} {p : Oc → Bool} {k : Nat} {caps : List Abs} {σ : Blks} (hb : goesIn Tryz.prog k = true) (hr : Rds σ) (hn : xs.length < 9223372036854775807) (h : ∀ x ∈ xs, Spec Tryz.prog k (.agg (Oc.abs x) :: caps) σ (fun _ : Unit => []) (fun _ => boo (p x))) : Spec Tryz.prog 93 [.v v, .fn (.func k) [] caps] (.rdpc (ownPc 40 3 v (xs.map Oc.abs)) :: σ) (fun _ : {r : Int // IdxOf p xs r} => []) (fun z => int z.1) := by
 refine C_ Tryz.func93 rfl Tryz.ntmps93 rfl fun G w =>d_<|a_<|q_ 1 rfl<|g_<|b_<|d_<|d_<|a_<|q_ 1 rfl<|c_ (bI_ (m := xs.length) rfl (.inr i0_) Tryz.underlying28 (List.length_map _)) rfl rfl<|q_ 1 rfl<|g_<|b_<|w_<|aa_ (ι := Nat) (fun z => (.rdpc (ownPc 40 3 v (xs.map Oc.abs)) :: σ)) (fun z => [(0, .v v), (1, .fn (.func k) [] caps), (7, int (xs.length : Nat)), (8, int (z : Nat))]) (fun z => z ≤ xs.length ∧ ∀ j (hj : j < xs.length), j < z → p xs[j] = false) (fun z => xs.length - z) (0) (⟨Nat.zero_le _, by omega⟩) (by exact ⟨rfl, rfl, rfl, rfl, trivial⟩) sr_ ?_
 intro z hz
 refine d_<|a_<|q_ 1 rfl<|g_<|b_<|d_<|p_ rfl ?_ ?_
 rotate_left
 ·intro hc9
  refine X_<|h_ nofun<|h_ nofun<|W_<|b_<|d_<|a_<|q_ 1 rfl<|g_<|b_<|l_<|f_ (rs := [.tmp 4]) rfl (RV.tmp rfl RV.nil) (⟨-1, .inl ⟨rfl, fun x hx => by obtain ⟨j, hj, rfl⟩ := List.getElem_of_mem hx; exact hz.2 j hj (by omega)⟩⟩) sn_ ?_
  exact rfl
 intro hc9
 have hlt : z < xs.length := by omega
 refine o_<|b_<|d_<|w_<|d_<|a_<|q_ 2 rfl<|g_<|b_<|d_<|a_<|q_ 3 rfl<|c_ (a4_ (q := z) tabOk Tryz.underlying28 rfl rfl (.inr i0_) rfl rfl (by rw [List.length_map]; exact hlt) rfl rfl) rfl rfl ?_
 refine c_ (dE_ tabOk rfl rfl rfl (.inr i0_) rfl (aw_ hlt) rfl) rfl rfl<|bx_ (h _ (List.getElem_mem hlt)) rfl Casts.refl hb rfl rfl rfl<|bj_ (Rds.reads hr (fun x hx => by repeat (first | exact hx | apply List.mem_cons_of_mem))) (fun _ => rfl) ?_
 intro _
 refine g_<|b_<|S_ rfl ?_ ?_
 rotate_left
 ·intro hc16
  refine o_<|u_<|b_<|a_<|c_ (y_ rfl rfl (by simp only [InR, lo, hi]; omega)) rfl rfl ?_
  refine q_ 1 rfl<|g_<|D_ (z + 1) (by omega) (⟨by omega, fun j hj hjz => by rcases Nat.lt_or_ge j z with h1 | h1; exact hz.2 j hj h1; obtain rfl : j = z := (by omega); exact hc16⟩) (by exact ⟨rfl, rfl, rfl, rfl, trivial⟩) sr_
 intro hc16
 refine d_<|a_<|q_ 2 rfl<|g_<|b_<|l_<|A_<|h_ nofun<|h_ nofun<|A_<|h_ nofun<|f_ (rs := [.tmp 4]) rfl (RV.tmp rfl RV.nil) (⟨(z : Nat), .inr ⟨z, hlt, rfl, hc16, fun j hj => hz.2 j (by omega) hj⟩⟩) sn_ ?_
 exact rfl
theorem ins_oc {v u : Value} {xs : List (List Abs)} {y : List Abs} {i : Nat} (hil : i ≤ xs.length) (h1 : ∀ c ∈ xs, ones c = true) (hy : ones y = true) (hn : xs.length ≤ 1000000) : Spec Tryz.prog 126 [.v v, int (i : Nat), .v u] [own 40 3 u [y], own 40 3 v xs] (fun r : Value => [own 40 3 r (xs.take i ++ y :: xs.drop i)]) (fun r => .v r) := by
 refine C_ Tryz.func126 rfl Tryz.ntmps126 rfl fun G w =>d_<|a_<|q_ 1 rfl<|g_<|b_<|d_<|a_<|q_ 2 rfl<|c_ (aH_ (s := 3) (q := i) tabOk Tryz.underlying28 rfl rfl rfl i1_ rfl (by omega) (by omega)) rfl rfl ?_
 refine g_<|b_<|d_<|a_<|q_ 1 rfl<|c_ (b0_ (m := 1) rfl i0_ Tryz.underlying28 rfl) rfl rfl<|q_ 1 rfl<|g_<|b_<|d_<|d_<|a_<|q_ 2 rfl<|g_<|b_<|p_ rfl (by intro hc16; exfalso; omega) ?_
 intro hc16
 refine o_<|b_<|d_<|a_<|q_ 1 rfl<|c_ (b0_ (m := xs.length) rfl i1_ Tryz.underlying28 rfl) rfl rfl<|q_ 1 rfl<|g_<|b_<|d_<|d_<|a_<|q_ 3 rfl<|g_<|b_<|p_ rfl ?_ ?_
 ·intro hc22
  refine d_<|bJ_ [] (t := 2) rfl rfl<|a_<|q_ 2 rfl<|eb_ (bi_ tabOk [] Tryz.underlying28 rfl rfl rfl rfl rfl rfl (by intro c hc; rw [List.mem_singleton] at hc; subst hc; exact hy) (by unfold maxLen; simp; omega) (by rw [show Tryz.prog.bytesOf 40 = 24 by kernel_rfl]; simp; omega)) rfl rfl fun r25=>?_
  refine q_ 1 rfl<|g_<|b_<|l_<|h_ nofun<|f_ (rs := [.tmp 6]) rfl (RV.tmp rfl RV.nil) (r25) (by rw [← jX_ (y := y) (by omega : i = xs.length)]; exact List.Sublist.refl _) ?_
  exact rfl
 intro hc22
 have hlt : i < xs.length := by omega
 refine o_<|b_<|d_<|d_<|a_<|q_ 2 rfl<|c_ (y_ rfl rfl (by simp only [InR, lo, hi]; omega)) rfl rfl ?_
 refine q_ 1 rfl<|c_ (fc_ rfl i1_ Tryz.underlying28) rfl rfl<|q_ 1 rfl<|g_<|b_<|p_ rfl ?_ ?_
 ·intro hc31
  refine d_<|a_<|q_ 2 rfl<|c_ (cN_ (s := 3) (q := i) tabOk Tryz.underlying28 rfl rfl (.inl i1_) rfl rfl (by omega)) rfl rfl ?_
  refine q_ 2 rfl<|c_ (y_ rfl rfl (by simp only [InR, lo, hi]; omega)) rfl rfl ?_
  refine q_ 1 rfl<|c_ (k_ (C := int ((xs.length + 1 - i : Nat) : Int)) (bc_ rfl rfl (by simp only [InR, lo, hi]; omega)) (congrArg int (by omega))) rfl rfl ?_
  refine a7_ (cs_ (s := 3) (q := i) (m := xs.length + 1 - i) tabOk Tryz.underlying28 Tryz.underlying3 rfl rfl rfl rfl i1_ rfl rfl (by omega) (by omega) (by omega) (by unfold maxLen; omega) (by rw [show Tryz.prog.bytesOf 40 = 24 by kernel_rfl]; omega)) rfl rfl ?_
  rintro _ _ ⟨r40, js, rfl, hjs, rfl⟩
  refine q_ 1 rfl<|g_<|b_<|d_<|a_<|q_ 2 rfl<|c_ (aH_ (s := 3) (q := i) tabOk Tryz.underlying28 rfl rfl rfl i0_ rfl (by omega) (by (simp only [List.length_append, List.length_take, List.length_drop, List.length_cons, List.length_nil]; omega))) rfl rfl ?_
  refine q_ 1 rfl<|e_ (a6_ (s := 3) (q := i) (ys := [y]) (zs := xs.take i ++ y :: js.drop 1) tabOk Tryz.underlying28 rfl rfl rfl (by (simp only [List.length_append, List.length_take, List.length_drop, List.length_cons, List.length_nil]; omega)) (Src.ofAll rfl i1_ (by simp) (by (simp only [List.length_append, List.length_take, List.length_drop, List.length_cons, List.length_nil]; omega))) (by (intro c hc; rw [List.mem_singleton] at hc; subst hc; exact hy)) (ins_a hlt hjs) u0_) rfl rfl ?_
  refine g_<|b_<|d_<|Y_ r40.ownBlock.toList (.q 0 (.q 1 (.q 2 (.q 3 (.q 4 (.q 5 (.q 6 (.q 7 (.e 8 .nil))))))))) (by kernel_rfl) (by kernel_rfl) ?_
  refine hx_ fun hx9 =>qx_ 3 hx9 rfl<|v_ rfl (y_ rfl rfl (by simp only [InR, lo, hi]; omega)) hx9 rfl rfl ?_
  refine v_ rfl (aH_ (s := 3) (q := i + 1) tabOk Tryz.underlying28 rfl rfl rfl i0_ rfl (by omega) (by (simp only [List.length_append, List.length_take, List.length_drop, List.length_cons, List.length_nil]; omega))) hx9 rfl rfl ?_
  refine qx_ 2 hx9 rfl<|v_ rfl (aH_ (s := 3) (q := i) tabOk Tryz.underlying28 rfl rfl rfl i2_ rfl (by omega) (by omega)) hx9 rfl rfl ?_
  refine ex_ rfl (a6_ (s := 3) (q := i + 1) (ys := (xs.drop i)) (zs := (xs.take i ++ y :: xs.drop i)) tabOk Tryz.underlying28 rfl rfl rfl (by (simp only [List.length_append, List.length_take, List.length_drop, List.length_cons, List.length_nil]; omega)) (Src.ofOwn (xs := xs) (q := i) rfl i2_ hlt (by (simp only [List.length_append, List.length_take, List.length_drop, List.length_cons, List.length_nil]; omega)) (by rw [List.take_of_length_le (Nat.le_refl _)])) (by exact dN_ h1 _) (ins_b hlt hjs) u0_) (by simp) rfl rfl ?_
  exact R_<|b_<|d_<|a_<|q_ 2 rfl<|g_<|b_<|l_<|h_ nofun<|f_ (rs := [.tmp 6]) rfl (RV.tmp rfl RV.nil) (r40) (sc_ sn_)<|rfl
 intro hc31
 refine o_<|b_<|d_<|a_<|q_ 3 rfl<|c_ (y_ rfl rfl (by simp only [InR, lo, hi]; omega)) rfl rfl ?_
 refine c_ (gT_ (s := 3) (q := xs.length + 1) tabOk Tryz.underlying28 rfl rfl i1_ rfl (by omega) (by omega)) rfl rfl ?_
 refine q_ 1 rfl<|g_<|b_<|d_<|d_<|fd_ (v := v) (xs := xs) (q := xs.length + 1) i1_ (by omega) (by omega) fun js hjs => ⟨_, u1_, ?_⟩
 refine a_<|q_ 4 rfl<|c_ (y_ rfl rfl (by simp only [InR, lo, hi]; omega)) rfl rfl ?_
 refine c_ (aH_ (s := 3) (q := i + 1) tabOk Tryz.underlying28 rfl rfl rfl i1_ rfl (by omega) (by (simp only [List.length_append, List.length_take, List.length_drop, List.length_cons, List.length_nil]; omega))) rfl rfl ?_
 refine c_ (co_ (tr := 4) (s := 3) (q := i + 1) (α := [_]) (ys := [y]) Tryz.func149 (by kernel_rfl) (by kernel_rfl) (by kernel_rfl) (by kernel_rfl) tabOk Tryz.underlying28 rfl rfl rfl rfl rfl rfl i0_ (by simp) (by (simp only [List.length_append, List.length_take, List.length_drop, List.length_cons, List.length_nil]; omega))) rfl rfl ?_
 refine c_ (fQ_ rfl) rfl rfl<|g_<|b_<|K_ rfl<|d_<|Y_ (cutTo v (xs.length + 1)).ownBlock.toList (.q 0 (.q 1 (.q 2 (.q 3 (.q 4 (.q 5 (.q 6 (.q 7 (.e 8 .nil))))))))) (by kernel_rfl) (by kernel_rfl) ?_
 refine hx_ fun hx9 =>qx_ 3 hx9 rfl<|v_ rfl (y_ rfl rfl (by simp only [InR, lo, hi]; omega)) hx9 rfl rfl ?_
 refine v_ rfl (aH_ (s := 3) (q := i + 1) tabOk Tryz.underlying28 rfl rfl rfl i1_ rfl (by omega) (by (simp only [List.length_append, List.length_take, List.length_drop, List.length_cons, List.length_nil]; omega))) hx9 rfl rfl ?_
 refine qx_ 2 hx9 rfl<|v_ rfl (aH_ (s := 3) (q := i) tabOk Tryz.underlying28 rfl rfl rfl i1_ rfl (by omega) (by (simp only [List.length_append, List.length_take, List.length_drop, List.length_cons, List.length_nil]; omega))) hx9 rfl rfl ?_
 refine ex_ rfl (a6_ (s := 3) (q := i + 1) (ys := (xs.drop i)) (zs := (xs ++ js).take (i + 1) ++ xs.drop i) tabOk Tryz.underlying28 rfl rfl rfl (by (simp only [List.length_append, List.length_take, List.length_drop, List.length_cons, List.length_nil]; omega)) (Src.ofOwn (xs := xs ++ js) (q := i) rfl i1_ (by (simp only [List.length_append, List.length_take, List.length_drop, List.length_cons, List.length_nil]; omega)) (by (simp only [List.length_append, List.length_take, List.length_drop, List.length_cons, List.length_nil]; omega)) (jV_ hlt)) (by exact dN_ h1 _) (ins_c hlt hjs) u1_) (by simp) rfl rfl ?_
 refine R_<|b_<|d_<|a_<|q_ 2 rfl<|c_ (aH_ (s := 3) (q := i) tabOk Tryz.underlying28 rfl rfl rfl i1_ rfl (by omega) (by (simp only [List.length_append, List.length_take, List.length_drop, List.length_cons, List.length_nil]; omega))) rfl rfl ?_
 refine q_ 1 rfl<|e_ (a6_ (s := 3) (q := i) (ys := [y]) (zs := (xs.take i ++ y :: xs.drop i)) tabOk Tryz.underlying28 rfl rfl rfl (by (simp only [List.length_append, List.length_take, List.length_drop, List.length_cons, List.length_nil]; omega)) (Src.ofAll rfl i0_ (by simp) (by rw [jW_ hlt hjs]; simp only [List.length_cons, List.length_nil]; omega)) (by (intro c hc; rw [List.mem_singleton] at hc; subst hc; exact hy)) (ins_d hlt hjs) u1_) rfl rfl ?_
 exact g_<|b_<|d_<|a_<|q_ 2 rfl<|g_<|b_<|l_<|h_ nofun<|f_ (rs := [.tmp 6]) rfl (RV.tmp rfl RV.nil) ((cutTo v (xs.length + 1))) (sk_ sr_)<|rfl
section
variable {x : Oc} {xs : List Oc} {p q : Nat} {k : Int} {v : Value}
theorem place_oc (hn : xs.length ≤ 1000000) : Spec Tryz.prog 61 [.sl 3 (xs.map Oc.abs), int k, .fn (.func 62) [] []] [] (fun _ : Unit => []) (fun _ => .tup [int ((placeG (eqO k) (gtO k) xs).1 : Nat), boo (placeG (eqO k) (gtO k) xs).2]) := by
 refine C_ Tryz.func61 rfl Tryz.ntmps61 rfl fun G w =>d_<|a_<|eb_ (by_ rfl rfl) rfl rfl fun b4=>?_
 refine eb_ (by_ rfl rfl) rfl rfl fun b5=>?_
 refine q_ 2 rfl<|g_<|b_<|d_<|d_<|a_<|q_ 1 rfl<|c_ (ar_ rfl rfl) rfl rfl<|r_ (gs_ (xs := xs) (k := 94) (caps := [ptr b5, ptr b4]) (σ := [.rd b5 105 [.fn (.func 62) [] []], .rd b4 3 [int k]]) (p := eqO k) (by kernel_rfl) (by intro x hx; simp only [List.mem_cons, List.not_mem_nil, or_false] at hx; rcases hx with rfl | rfl <;> exact .inl ⟨_, _, _, rfl⟩) (by omega) (fun x _ => pl1_oc)) Casts.refl (by kernel_rfl) rfl rfl rfl ?_
 refine ap_ ?_
 intro z1
 have e1 := z1.2.eq
 refine q_ 1 rfl<|g_<|b_<|d_<|a_<|q_ 2 rfl<|g_<|b_<|p_ rfl ?_ ?_
 ·intro hc14
  have ha : xs.any (eqO k) = true := by
   rcases Bool.eq_false_or_eq_true (xs.any (eqO k)) with h | h
   ·exact h
   rw [if_neg (by rw [h]; decide)] at e1; omega
  rw [if_pos ha] at e1
  refine d_<|a_<|q_ 3 rfl<|g_<|b_<|l_<|h_ nofun<|f_ (rs := [.tmp 6, .tmp 7]) rfl (RV.tmp rfl (RV.tmp rfl RV.nil)) (()) sn_ ?_
  have hp : placeG (eqO k) (gtO k) xs = (xs.findIdx (eqO k), true) := if_pos ha
  rw [hp, e1]
  rfl
 intro hc14
 have hn1 : ¬ xs.any (eqO k) = true := fun h => by rw [if_pos h] at e1; omega
 refine o_<|b_<|d_<|d_<|a_<|q_ 1 rfl<|c_ (ar_ rfl rfl) rfl rfl<|r_ (gs_ (xs := xs) (k := 95) (caps := [ptr b5, ptr b4]) (σ := [.rd b5 105 [.fn (.func 62) [] []], .rd b4 3 [int k]]) (p := gtO k) (by kernel_rfl) (by intro x hx; simp only [List.mem_cons, List.not_mem_nil, or_false] at hx; rcases hx with rfl | rfl <;> exact .inl ⟨_, _, _, rfl⟩) (by omega) (fun x _ => pl2_oc)) Casts.refl (by kernel_rfl) rfl rfl rfl ?_
 refine ap_ ?_
 intro z2
 have e2 := z2.2.eq
 refine q_ 1 rfl<|g_<|b_<|d_<|a_<|q_ 2 rfl<|g_<|b_<|p_ rfl ?_ ?_
 ·intro hc20
  refine d_<|a_<|q_ 3 rfl<|g_<|b_<|l_<|h_ nofun<|f_ (rs := [.tmp 6, .tmp 7]) rfl (RV.tmp rfl (RV.tmp rfl RV.nil)) (()) sn_ ?_
  have hp : placeG (eqO k) (gtO k) xs = (xs.findIdx (gtO k), false) := if_neg hn1
  rw [hp]
  rcases Bool.eq_false_or_eq_true (xs.any (gtO k)) with h | h
  ·rw [if_pos h] at e2
   (rw [e2]; rfl)
  rw [if_neg (by rw [h]; decide)] at e2
  (exfalso; omega)
 intro hc20
 refine o_<|b_<|d_<|a_<|q_ 1 rfl<|c_ (E_ rfl Tryz.underlying28 (List.length_map _)) rfl rfl<|q_ 2 rfl<|g_<|b_<|l_<|f_ (rs := [.tmp 6, .tmp 7]) rfl (RV.tmp rfl (RV.tmp rfl RV.nil)) (()) sn_ ?_
 have hp : placeG (eqO k) (gtO k) xs = (xs.findIdx (gtO k), false) := if_neg hn1
 rw [hp]
 rcases Bool.eq_false_or_eq_true (xs.any (gtO k)) with h | h
 ·rw [if_pos h] at e2
  (exfalso; omega)
 rw [if_neg (by rw [h]; decide)] at e2
 (rw [show xs.findIdx (gtO k) = xs.length from List.findIdx_eq_length.2 (by simpa using h)]; rfl)
theorem jx_ (hn : xs.length ≤ 1000000) : Spec Tryz.prog 61 [.v v, int k, .fn (.func 62) [] []] [.rdpc (ownPc 40 3 v (xs.map Oc.abs))] (fun _ : Unit => []) (fun _ => .tup [int ((placeG (eqO k) (gtO k) xs).1 : Nat), boo (placeG (eqO k) (gtO k) xs).2]) := by
 refine C_ Tryz.func61 rfl Tryz.ntmps61 rfl fun G w =>d_<|a_<|eb_ (by_ rfl rfl) rfl rfl fun b4=>?_
 refine eb_ (by_ rfl rfl) rfl rfl fun b5=>?_
 refine q_ 2 rfl<|g_<|b_<|d_<|d_<|a_<|q_ 1 rfl<|c_ (ar_ rfl rfl) rfl rfl<|r_ (gr_ (xs := xs) (k := 94) (caps := [ptr b5, ptr b4]) (σ := [.rd b5 105 [.fn (.func 62) [] []], .rd b4 3 [int k]]) (p := eqO k) (by kernel_rfl) (by intro x hx; simp only [List.mem_cons, List.not_mem_nil, or_false] at hx; rcases hx with rfl | rfl <;> exact .inl ⟨_, _, _, rfl⟩) (by omega) (fun x _ => pl1_oc)) Casts.refl (by kernel_rfl) rfl rfl rfl ?_
 refine ap_ ?_
 intro z1
 have e1 := z1.2.eq
 refine q_ 1 rfl<|g_<|b_<|d_<|a_<|q_ 2 rfl<|g_<|b_<|p_ rfl ?_ ?_
 ·intro hc14
  have ha : xs.any (eqO k) = true := by
   rcases Bool.eq_false_or_eq_true (xs.any (eqO k)) with h | h
   ·exact h
   rw [if_neg (by rw [h]; decide)] at e1; omega
  rw [if_pos ha] at e1
  refine d_<|a_<|q_ 3 rfl<|g_<|b_<|l_<|h_ nofun<|f_ (rs := [.tmp 6, .tmp 7]) rfl (RV.tmp rfl (RV.tmp rfl RV.nil)) (()) sn_ ?_
  have hp : placeG (eqO k) (gtO k) xs = (xs.findIdx (eqO k), true) := if_pos ha
  rw [hp, e1]
  rfl
 intro hc14
 have hn1 : ¬ xs.any (eqO k) = true := fun h => by rw [if_pos h] at e1; omega
 refine o_<|b_<|d_<|d_<|a_<|q_ 1 rfl<|c_ (ar_ rfl rfl) rfl rfl<|r_ (gr_ (xs := xs) (k := 95) (caps := [ptr b5, ptr b4]) (σ := [.rd b5 105 [.fn (.func 62) [] []], .rd b4 3 [int k]]) (p := gtO k) (by kernel_rfl) (by intro x hx; simp only [List.mem_cons, List.not_mem_nil, or_false] at hx; rcases hx with rfl | rfl <;> exact .inl ⟨_, _, _, rfl⟩) (by omega) (fun x _ => pl2_oc)) Casts.refl (by kernel_rfl) rfl rfl rfl ?_
 refine ap_ ?_
 intro z2
 have e2 := z2.2.eq
 refine q_ 1 rfl<|g_<|b_<|d_<|a_<|q_ 2 rfl<|g_<|b_<|p_ rfl ?_ ?_
 ·intro hc20
  refine d_<|a_<|q_ 3 rfl<|g_<|b_<|l_<|h_ nofun<|f_ (rs := [.tmp 6, .tmp 7]) rfl (RV.tmp rfl (RV.tmp rfl RV.nil)) (()) sn_ ?_
  have hp : placeG (eqO k) (gtO k) xs = (xs.findIdx (gtO k), false) := if_neg hn1
  rw [hp]
  rcases Bool.eq_false_or_eq_true (xs.any (gtO k)) with h | h
  ·rw [if_pos h] at e2
   (rw [e2]; rfl)
  rw [if_neg (by rw [h]; decide)] at e2
  (exfalso; omega)
 intro hc20
 refine o_<|b_<|d_<|a_<|q_ 1 rfl<|c_ (bI_ (m := xs.length) rfl (.inr i2_) Tryz.underlying28 (List.length_map _)) rfl rfl<|q_ 2 rfl<|g_<|b_<|l_<|f_ (rs := [.tmp 6, .tmp 7]) rfl (RV.tmp rfl (RV.tmp rfl RV.nil)) (()) sn_ ?_
 have hp : placeG (eqO k) (gtO k) xs = (xs.findIdx (gtO k), false) := if_neg hn1
 rw [hp]
 rcases Bool.eq_false_or_eq_true (xs.any (gtO k)) with h | h
 ·rw [if_pos h] at e2
  (exfalso; omega)
 rw [if_neg (by rw [h]; decide)] at e2
 (rw [show xs.findIdx (gtO k) = xs.length from List.findIdx_eq_length.2 (by simpa using h)]; rfl)
set_option maxHeartbeats 1000000 in
theorem put_oc (hn : xs.length ≤ 100000) : Spec Tryz.prog 106 [.sl 3 (xs.map Oc.abs), .agg (Oc.abs x), .fn (.func 62) [] []] [] (fun _ : Unit => []) (fun _ => .sl 3 ((withG (eqO x.client) (gtO x.client) x xs).map Oc.abs)) := by
 refine C_ Tryz.func106 rfl Tryz.ntmps106 rfl fun G w =>d_<|a_<|eb_ (L_ (cs := Oc.abs x) rfl) rfl rfl fun b4=>?_
 refine q_ 1 rfl<|g_<|b_<|d_<|a_<|q_ 1 rfl<|r_ (hs_ (b4_ xs) (by rw [List.length_map]; omega)) Casts.refl (by kernel_rfl) rfl rfl rfl ?_
 refine bt_ (by repeat (first | exact Reads.nil | (refine Reads.blk ?_ ?_; focus ((repeat first|assumption|exact m0_|apply m1_); done)) | (refine Reads.rd ?_ ?_; focus ((repeat first|assumption|exact m0_|apply m1_); done)) | (refine Reads.pc ?_ ?_; focus ((repeat first|assumption|exact m0_|apply m1_); done)) | (refine Reads.rdpc ?_ ?_; focus ((repeat first|assumption|exact m0_|apply m1_); done)))) (fun _ => rfl) ?_
 intro z5
 refine q_ 1 rfl<|g_<|b_<|d_<|a_<|q_ 2 rfl<|c_ (P_ tabOk rfl rfl rfl l1_ List.not_mem_nil rfl) rfl rfl<|bx_ (jU_ (x := x)) rfl Casts.refl (by kernel_rfl) rfl rfl rfl ?_
 refine ap_<|fun _=>q_ 1 rfl<|r_ (jx_ (v := z5) (xs := xs) (k := x.client) (by omega)) Casts.refl (by kernel_rfl) rfl rfl rfl ?_
 refine ap_<|fun _=>q_ 5 rfl<|g_<|b_<|d_<|d_<|a_<|q_ 1 rfl<|g_<|b_<|S_ rfl ?_ ?_
 rotate_left
 ·intro hc20
  have hn1 : ¬ xs.any (eqO x.client) = true := fun h => by unfold placeG at hc20; rw [if_pos h] at hc20; cases hc20
  have hp : (placeG (eqO x.client) (gtO x.client) xs) = (xs.findIdx (gtO x.client), false) := if_neg hn1
  have hle : (placeG (eqO x.client) (gtO x.client) xs).1 ≤ xs.length := by rw [hp]; exact e3_
  have hw : (withG (eqO x.client) (gtO x.client) x xs) = xs.take (placeG (eqO x.client) (gtO x.client) xs).1 ++ x :: xs.drop (placeG (eqO x.client) (gtO x.client) xs).1 := by
   rw [hp]
   exact (if_neg hn1).trans fp_
  refine o_<|b_<|d_<|a_<|q_ 2 rfl<|c_ (P_ tabOk rfl rfl rfl l1_ List.not_mem_nil rfl) rfl rfl<|eb_ (aX_ tabOk Tryz.underlying28 rfl rfl rfl rfl rfl rfl rfl) rfl rfl fun r29=>?_
  refine r_ (ins_oc (u := r29) (v := z5) (xs := xs.map Oc.abs) (y := Oc.abs x) (i := (placeG (eqO x.client) (gtO x.client) xs).1) (by rw [List.length_map]; exact hle) (b4_ xs) rfl (by rw [List.length_map]; omega)) Casts.refl (by kernel_rfl) rfl rfl rfl ?_
  refine eE_ [] (β := [_]) rfl (by intro x hx; simp only [List.mem_cons, List.not_mem_nil, or_false] at hx; rcases hx with rfl | rfl <;> rfl) ?_
  intro z30
  refine gU_ [] (t := 30) rfl rfl ?_
  rw [show List.take (placeG (eqO x.client) (gtO x.client) xs).1 (List.map Oc.abs xs) ++ Oc.abs x :: List.drop (placeG (eqO x.client) (gtO x.client) xs).1 (List.map Oc.abs xs) = (withG (eqO x.client) (gtO x.client) x xs).map Oc.abs by rw [hw, List.map_append, List.map_cons, List.map_take, List.map_drop]]
  exact q_ 1 rfl<|g_<|b_<|l_<|f_ (rs := [.tmp 6]) rfl (RV.tmp rfl RV.nil) (()) sn_<|rfl
 intro hc20
 have ha : xs.any (eqO x.client) = true := by
  rcases Bool.eq_false_or_eq_true (xs.any (eqO x.client)) with h | h
  ·exact h
  unfold placeG at hc20; rw [if_neg (by rw [h]; decide)] at hc20; cases hc20
 have hp : (placeG (eqO x.client) (gtO x.client) xs) = (xs.findIdx (eqO x.client), true) := if_pos ha
 have hlt : (placeG (eqO x.client) (gtO x.client) xs).1 < xs.length := by rw [hp]; exact cy_ ha
 have hw : (withG (eqO x.client) (gtO x.client) x xs) = xs.set (placeG (eqO x.client) (gtO x.client) xs).1 x := by
  rw [hp]
  exact (if_pos ha).trans (fo_ ha)
 refine d_<|a_<|q_ 2 rfl<|c_ (P_ tabOk rfl rfl rfl l1_ List.not_mem_nil rfl) rfl rfl<|c_ (a4_ (q := (placeG (eqO x.client) (gtO x.client) xs).1) tabOk Tryz.underlying28 rfl rfl (.inl i0_) rfl rfl (by rw [List.length_map]; exact hlt) rfl rfl) rfl rfl ?_
 refine e_ (dy_ (q := (placeG (eqO x.client) (gtO x.client) xs).1) (ys := Oc.abs x) tabOk rfl rfl rfl u0_ rfl rfl rfl (by rw [List.length_map]; exact hlt) rfl) rfl rfl ?_
 refine g_<|b_<|d_<|bJ_ [] (t := 0) rfl rfl ?_
 rw [show List.set (List.map Oc.abs xs) (placeG (eqO x.client) (gtO x.client) xs).1 (Oc.abs x) = (withG (eqO x.client) (gtO x.client) x xs).map Oc.abs by rw [hw, List.map_set]]
 exact a_<|q_ 2 rfl<|g_<|b_<|l_<|h_ nofun<|f_ (rs := [.tmp 6]) rfl (RV.tmp rfl RV.nil) (()) sn_<|rfl
end
section
variable {x : Ltr} {xs : List Ltr} {p q : Nat} {k : ByteArray} {v : Value}
theorem hi_  : Spec Tryz.prog 117 [.agg (ltrA x)] [] (fun _ : Unit => []) (fun _ => st x.name) := by
 refine C_ Tryz.func117 rfl Tryz.ntmps117 rfl fun G w =>d_<|a_<|eb_ (L_ (cs := ltrA x) rfl) rfl rfl fun b1=>?_
 exact q_ 1 rfl<|g_<|b_<|d_<|a_<|q_ 1 rfl<|c_ (i_ tabOk rfl rfl l0_ List.not_mem_nil rfl) rfl rfl<|q_ 1 rfl<|g_<|b_<|l_<|f_ (rs := [.tmp 2]) rfl (RV.tmp rfl RV.nil) (()) sn_<|rfl
theorem jz_  : Spec Tryz.prog 134 [.agg (ltrA x), ptr p, ptr q] [.rd p 155 [.fn (.func 117) [] []], .rd q 9 [st k]] (fun _ : Unit => []) (fun _ => boo (eqL k x)) := by
 refine C_ Tryz.func134 rfl Tryz.ntmps134 rfl fun G w =>d_<|a_<|eb_ (L_ (cs := ltrA x) rfl) rfl rfl fun b3=>?_
 refine q_ 1 rfl<|g_<|b_<|d_<|Y_ [] (.q 0 (.q 1 (.q 3 (.e 2 (.q 4 (.q 5 .nil)))))) (by kernel_rfl) (by kernel_rfl) ?_
 refine v_ rfl (i_ tabOk rfl rfl r1_ List.not_mem_nil rfl) (by simp) rfl rfl ?_
 refine hx_ fun hx9 =>v_ rfl (P_ tabOk rfl rfl rfl l0_ List.not_mem_nil rfl) hx9 rfl rfl<|v_ rfl (i_ tabOk rfl rfl r2_ List.not_mem_nil rfl) (by simp) rfl rfl ?_
 refine aS_ rfl (hi_ (x := x)) (by simp [mids, It.mids]) rfl Casts.refl (by kernel_rfl) rfl rfl rfl ?_
 exact ap_<|fun _=>hx_ fun hx9 =>v_ rfl (cq_ rfl rfl) hx9 rfl rfl<|qs_ 1 rfl<|R_<|b_<|l_<|f_ (rs := [.tmp 4]) rfl (RV.tmp rfl RV.nil) (()) sn_<|rfl
theorem jy_  : Spec Tryz.prog 135 [.agg (ltrA x), ptr p, ptr q] [.rd p 155 [.fn (.func 117) [] []], .rd q 9 [st k]] (fun _ : Unit => []) (fun _ => boo (gtL k x)) := by
 refine C_ Tryz.func135 rfl Tryz.ntmps135 rfl fun G w =>d_<|a_<|eb_ (L_ (cs := ltrA x) rfl) rfl rfl fun b3=>?_
 refine q_ 1 rfl<|g_<|b_<|d_<|Y_ [] (.q 0 (.q 1 (.q 3 (.e 2 (.q 4 (.q 5 .nil)))))) (by kernel_rfl) (by kernel_rfl) ?_
 refine v_ rfl (i_ tabOk rfl rfl r1_ List.not_mem_nil rfl) (by simp) rfl rfl ?_
 refine hx_ fun hx9 =>v_ rfl (P_ tabOk rfl rfl rfl l0_ List.not_mem_nil rfl) hx9 rfl rfl<|v_ rfl (i_ tabOk rfl rfl r2_ List.not_mem_nil rfl) (by simp) rfl rfl ?_
 refine aS_ rfl (hi_ (x := x)) (by simp [mids, It.mids]) rfl Casts.refl (by kernel_rfl) rfl rfl rfl ?_
 exact ap_<|fun _=>hx_ fun hx9 =>v_ rfl (hz_ rfl rfl) hx9 rfl rfl<|qs_ 1 rfl<|R_<|b_<|l_<|f_ (rs := [.tmp 4]) rfl (RV.tmp rfl RV.nil) (()) sn_<|rfl
theorem bH_ {xs : List (List Abs)} (h1 : ∀ c ∈ xs, ones c = true) (hn : xs.length ≤ 1000000) : Spec Tryz.prog 37 [.sl 6 xs] [] (fun _ : Unit => []) (fun _ => .sl 6 xs) := by
 refine C_ Tryz.func37 rfl Tryz.ntmps37 rfl fun G w =>d_<|a_<|q_ 1 rfl<|g_<|b_<|d_<|d_<|a_<|q_ 1 rfl<|di_ Tryz.underlying27 rfl rfl rfl<|fun b hb=>g_<|b_<|S_ rfl ?_ ?_
 ·intro hc4
  have hnil : xs = [] := hb hc4
  subst hnil
  refine d_<|a_<|q_ 1 rfl<|g_<|b_<|l_<|h_ nofun<|fV_ (rs := [.tmp 2]) rfl (RV.tmp rfl RV.nil) (Casts.nils (s := 6) Casts.refl) () sn_ (by simp [It.rids]) rfl
 intro hc4
 refine o_<|b_<|d_<|a_<|eb_ (aX_ tabOk Tryz.underlying27 rfl rfl rfl rfl rfl rfl rfl) rfl rfl fun r5=>?_
 refine q_ 1 rfl<|eb_ (V_ (zs := xs) tabOk [] rfl Tryz.underlying27 rfl rfl rfl rfl rfl rfl h1 (by unfold maxLen; simp only [List.length_nil]; omega) (by rw [show Tryz.prog.bytesOf 81 = 72 by kernel_rfl]; simp only [List.length_nil]; omega)) rfl rfl fun r7=>?_
 exact q_ 1 rfl<|g_<|b_<|l_<|bb_ [] (t := 2) rfl rfl<|f_ (rs := [.tmp 2]) rfl (RV.tmp rfl RV.nil) (()) sn_<|rfl
theorem gH_ {xs : List (List Abs)} (h1 : ∀ c ∈ xs, ones c = true) (hn : xs.length ≤ 1000000) : Spec Tryz.prog 37 [.sl 6 xs] [] (fun r : Value => [own 81 6 r xs]) (fun r => .v r) := by
 refine C_ Tryz.func37 rfl Tryz.ntmps37 rfl fun G w =>d_<|a_<|q_ 1 rfl<|g_<|b_<|d_<|d_<|a_<|q_ 1 rfl<|di_ Tryz.underlying27 rfl rfl rfl<|fun b hb=>g_<|b_<|S_ rfl ?_ ?_
 ·intro hc4
  have hnil : xs = [] := hb hc4
  subst hnil
  exact d_<|bq_ 81 6<|a_<|q_ 1 rfl<|g_<|b_<|l_<|h_ nofun<|f_ (rs := [.tmp 2]) rfl (RV.tmp rfl RV.nil) (.slice none 0 0) sr_<|rfl
 intro hc4
 refine o_<|b_<|d_<|a_<|eb_ (aX_ tabOk Tryz.underlying27 rfl rfl rfl rfl rfl rfl rfl) rfl rfl fun r5=>?_
 refine q_ 1 rfl<|eb_ (V_ (zs := xs) tabOk [] rfl Tryz.underlying27 rfl rfl rfl rfl rfl rfl h1 (by unfold maxLen; simp only [List.length_nil]; omega) (by rw [show Tryz.prog.bytesOf 81 = 72 by kernel_rfl]; simp only [List.length_nil]; omega)) rfl rfl fun r7=>?_
 exact q_ 1 rfl<|g_<|b_<|l_<|f_ (rs := [.tmp 2]) rfl (RV.tmp rfl RV.nil) (r7) sr_<|rfl
end
theorem e2_ {xs : List Ltr} {p : Ltr → Bool} {k : Nat} {caps : List Abs} {σ : Blks} (hb : goesIn Tryz.prog k = true) (hr : Rds σ) (hn : xs.length < 9223372036854775807) (h : ∀ x ∈ xs, Spec Tryz.prog k (.agg (ltrA x) :: caps) σ (fun _ : Unit => []) (fun _ => boo (p x))) : Spec Tryz.prog 133 [.sl 6 (xs.map ltrA), .fn (.func k) [] caps] σ (fun _ : {r : Int // IdxOf p xs r} => []) (fun z => int z.1) := by
 refine C_ Tryz.func133 rfl Tryz.ntmps133 rfl fun G w =>d_<|a_<|q_ 1 rfl<|g_<|b_<|d_<|d_<|a_<|q_ 1 rfl<|c_ (E_ rfl Tryz.underlying27 (List.length_map _)) rfl rfl<|q_ 1 rfl<|g_<|b_<|w_<|aa_ (ι := Nat) (fun z => σ) (fun z => [(0, .sl 6 (xs.map ltrA)), (1, .fn (.func k) [] caps), (7, int (xs.length : Nat)), (8, int (z : Nat))]) (fun z => z ≤ xs.length ∧ ∀ j (hj : j < xs.length), j < z → p xs[j] = false) (fun z => xs.length - z) (0) (⟨Nat.zero_le _, by omega⟩) (by exact ⟨rfl, rfl, rfl, rfl, trivial⟩) sr_ ?_
 intro z hz
 refine d_<|a_<|q_ 1 rfl<|g_<|b_<|d_<|p_ rfl ?_ ?_
 rotate_left
 ·intro hc9
  refine X_<|h_ nofun<|h_ nofun<|W_<|b_<|d_<|a_<|q_ 1 rfl<|g_<|b_<|l_<|f_ (rs := [.tmp 4]) rfl (RV.tmp rfl RV.nil) (⟨-1, .inl ⟨rfl, fun x hx => by obtain ⟨j, hj, rfl⟩ := List.getElem_of_mem hx; exact hz.2 j hj (by omega)⟩⟩) sn_ ?_
  exact rfl
 intro hc9
 have hlt : z < xs.length := by omega
 refine o_<|b_<|d_<|w_<|d_<|a_<|q_ 2 rfl<|g_<|b_<|d_<|a_<|q_ 3 rfl<|c_ (H_ tabOk Tryz.underlying27 rfl rfl rfl rfl (aw_ (by omega)) rfl rfl) rfl rfl ?_
 refine c_ (T_ tabOk rfl rfl rfl rfl) rfl rfl<|bx_ (h _ (List.getElem_mem hlt)) rfl Casts.refl hb rfl rfl rfl<|bj_ (Rds.reads hr (fun x hx => by repeat (first | exact hx | apply List.mem_cons_of_mem))) (fun _ => rfl) ?_
 intro _
 refine g_<|b_<|S_ rfl ?_ ?_
 rotate_left
 ·intro hc16
  refine o_<|u_<|b_<|a_<|c_ (y_ rfl rfl (by simp only [InR, lo, hi]; omega)) rfl rfl ?_
  refine q_ 1 rfl<|g_<|D_ (z + 1) (by omega) (⟨by omega, fun j hj hjz => by rcases Nat.lt_or_ge j z with h1 | h1; exact hz.2 j hj h1; obtain rfl : j = z := (by omega); exact hc16⟩) (by exact ⟨rfl, rfl, rfl, rfl, trivial⟩) sr_
 intro hc16
 refine d_<|a_<|q_ 2 rfl<|g_<|b_<|l_<|A_<|h_ nofun<|h_ nofun<|A_<|h_ nofun<|f_ (rs := [.tmp 4]) rfl (RV.tmp rfl RV.nil) (⟨(z : Nat), .inr ⟨z, hlt, rfl, hc16, fun j hj => hz.2 j (by omega) hj⟩⟩) sn_ ?_
 exact rfl
theorem e1_ {v : Value} {xs : List Ltr} {p : Ltr → Bool} {k : Nat} {caps : List Abs} {σ : Blks} (hb : goesIn Tryz.prog k = true) (hr : Rds σ) (hn : xs.length < 9223372036854775807) (h : ∀ x ∈ xs, Spec Tryz.prog k (.agg (ltrA x) :: caps) σ (fun _ : Unit => []) (fun _ => boo (p x))) : Spec Tryz.prog 133 [.v v, .fn (.func k) [] caps] (.rdpc (ownPc 81 6 v (xs.map ltrA)) :: σ) (fun _ : {r : Int // IdxOf p xs r} => []) (fun z => int z.1) := by
 refine C_ Tryz.func133 rfl Tryz.ntmps133 rfl fun G w =>d_<|a_<|q_ 1 rfl<|g_<|b_<|d_<|d_<|a_<|q_ 1 rfl<|c_ (bI_ (m := xs.length) rfl (.inr i0_) Tryz.underlying27 (List.length_map _)) rfl rfl<|q_ 1 rfl<|g_<|b_<|w_<|aa_ (ι := Nat) (fun z => (.rdpc (ownPc 81 6 v (xs.map ltrA)) :: σ)) (fun z => [(0, .v v), (1, .fn (.func k) [] caps), (7, int (xs.length : Nat)), (8, int (z : Nat))]) (fun z => z ≤ xs.length ∧ ∀ j (hj : j < xs.length), j < z → p xs[j] = false) (fun z => xs.length - z) (0) (⟨Nat.zero_le _, by omega⟩) (by exact ⟨rfl, rfl, rfl, rfl, trivial⟩) sr_ ?_
 intro z hz
 refine d_<|a_<|q_ 1 rfl<|g_<|b_<|d_<|p_ rfl ?_ ?_
 rotate_left
 ·intro hc9
  refine X_<|h_ nofun<|h_ nofun<|W_<|b_<|d_<|a_<|q_ 1 rfl<|g_<|b_<|l_<|f_ (rs := [.tmp 4]) rfl (RV.tmp rfl RV.nil) (⟨-1, .inl ⟨rfl, fun x hx => by obtain ⟨j, hj, rfl⟩ := List.getElem_of_mem hx; exact hz.2 j hj (by omega)⟩⟩) sn_ ?_
  exact rfl
 intro hc9
 have hlt : z < xs.length := by omega
 refine o_<|b_<|d_<|w_<|d_<|a_<|q_ 2 rfl<|g_<|b_<|d_<|a_<|q_ 3 rfl<|c_ (a4_ (q := z) tabOk Tryz.underlying27 rfl rfl (.inr i0_) rfl rfl (by rw [List.length_map]; exact hlt) rfl rfl) rfl rfl ?_
 refine c_ (dE_ tabOk rfl rfl rfl (.inr i0_) rfl (aw_ hlt) rfl) rfl rfl<|bx_ (h _ (List.getElem_mem hlt)) rfl Casts.refl hb rfl rfl rfl<|bj_ (Rds.reads hr (fun x hx => by repeat (first | exact hx | apply List.mem_cons_of_mem))) (fun _ => rfl) ?_
 intro _
 refine g_<|b_<|S_ rfl ?_ ?_
 rotate_left
 ·intro hc16
  refine o_<|u_<|b_<|a_<|c_ (y_ rfl rfl (by simp only [InR, lo, hi]; omega)) rfl rfl ?_
  refine q_ 1 rfl<|g_<|D_ (z + 1) (by omega) (⟨by omega, fun j hj hjz => by rcases Nat.lt_or_ge j z with h1 | h1; exact hz.2 j hj h1; obtain rfl : j = z := (by omega); exact hc16⟩) (by exact ⟨rfl, rfl, rfl, rfl, trivial⟩) sr_
 intro hc16
 refine d_<|a_<|q_ 2 rfl<|g_<|b_<|l_<|A_<|h_ nofun<|h_ nofun<|A_<|h_ nofun<|f_ (rs := [.tmp 4]) rfl (RV.tmp rfl RV.nil) (⟨(z : Nat), .inr ⟨z, hlt, rfl, hc16, fun j hj => hz.2 j (by omega) hj⟩⟩) sn_ ?_
 exact rfl
theorem ins_ltr {v u : Value} {xs : List (List Abs)} {y : List Abs} {i : Nat} (hil : i ≤ xs.length) (h1 : ∀ c ∈ xs, ones c = true) (hy : ones y = true) (hn : xs.length ≤ 1000000) : Spec Tryz.prog 148 [.v v, int (i : Nat), .v u] [own 81 6 u [y], own 81 6 v xs] (fun r : Value => [own 81 6 r (xs.take i ++ y :: xs.drop i)]) (fun r => .v r) := by
 refine C_ Tryz.func148 rfl Tryz.ntmps148 rfl fun G w =>d_<|a_<|q_ 1 rfl<|g_<|b_<|d_<|a_<|q_ 2 rfl<|c_ (aH_ (s := 6) (q := i) tabOk Tryz.underlying27 rfl rfl rfl i1_ rfl (by omega) (by omega)) rfl rfl ?_
 refine g_<|b_<|d_<|a_<|q_ 1 rfl<|c_ (b0_ (m := 1) rfl i0_ Tryz.underlying27 rfl) rfl rfl<|q_ 1 rfl<|g_<|b_<|d_<|d_<|a_<|q_ 2 rfl<|g_<|b_<|p_ rfl (by intro hc16; exfalso; omega) ?_
 intro hc16
 refine o_<|b_<|d_<|a_<|q_ 1 rfl<|c_ (b0_ (m := xs.length) rfl i1_ Tryz.underlying27 rfl) rfl rfl<|q_ 1 rfl<|g_<|b_<|d_<|d_<|a_<|q_ 3 rfl<|g_<|b_<|p_ rfl ?_ ?_
 ·intro hc22
  refine d_<|bJ_ [] (t := 2) rfl rfl<|a_<|q_ 2 rfl<|eb_ (bi_ tabOk [] Tryz.underlying27 rfl rfl rfl rfl rfl rfl (by intro c hc; rw [List.mem_singleton] at hc; subst hc; exact hy) (by unfold maxLen; simp; omega) (by rw [show Tryz.prog.bytesOf 81 = 72 by kernel_rfl]; simp; omega)) rfl rfl fun r25=>?_
  refine q_ 1 rfl<|g_<|b_<|l_<|h_ nofun<|f_ (rs := [.tmp 6]) rfl (RV.tmp rfl RV.nil) (r25) (by rw [← jX_ (y := y) (by omega : i = xs.length)]; exact List.Sublist.refl _) ?_
  exact rfl
 intro hc22
 have hlt : i < xs.length := by omega
 refine o_<|b_<|d_<|d_<|a_<|q_ 2 rfl<|c_ (y_ rfl rfl (by simp only [InR, lo, hi]; omega)) rfl rfl ?_
 refine q_ 1 rfl<|c_ (fc_ rfl i1_ Tryz.underlying27) rfl rfl<|q_ 1 rfl<|g_<|b_<|p_ rfl ?_ ?_
 ·intro hc31
  refine d_<|a_<|q_ 2 rfl<|c_ (cN_ (s := 6) (q := i) tabOk Tryz.underlying27 rfl rfl (.inl i1_) rfl rfl (by omega)) rfl rfl ?_
  refine q_ 2 rfl<|c_ (y_ rfl rfl (by simp only [InR, lo, hi]; omega)) rfl rfl ?_
  refine q_ 1 rfl<|c_ (k_ (C := int ((xs.length + 1 - i : Nat) : Int)) (bc_ rfl rfl (by simp only [InR, lo, hi]; omega)) (congrArg int (by omega))) rfl rfl ?_
  refine a7_ (cs_ (s := 6) (q := i) (m := xs.length + 1 - i) tabOk Tryz.underlying27 Tryz.underlying3 rfl rfl rfl rfl i1_ rfl rfl (by omega) (by omega) (by omega) (by unfold maxLen; omega) (by rw [show Tryz.prog.bytesOf 81 = 72 by kernel_rfl]; omega)) rfl rfl ?_
  rintro _ _ ⟨r40, js, rfl, hjs, rfl⟩
  refine q_ 1 rfl<|g_<|b_<|d_<|a_<|q_ 2 rfl<|c_ (aH_ (s := 6) (q := i) tabOk Tryz.underlying27 rfl rfl rfl i0_ rfl (by omega) (by (simp only [List.length_append, List.length_take, List.length_drop, List.length_cons, List.length_nil]; omega))) rfl rfl ?_
  refine q_ 1 rfl<|e_ (a6_ (s := 6) (q := i) (ys := [y]) (zs := xs.take i ++ y :: js.drop 1) tabOk Tryz.underlying27 rfl rfl rfl (by (simp only [List.length_append, List.length_take, List.length_drop, List.length_cons, List.length_nil]; omega)) (Src.ofAll rfl i1_ (by simp) (by (simp only [List.length_append, List.length_take, List.length_drop, List.length_cons, List.length_nil]; omega))) (by (intro c hc; rw [List.mem_singleton] at hc; subst hc; exact hy)) (ins_a hlt hjs) u0_) rfl rfl ?_
  refine g_<|b_<|d_<|Y_ r40.ownBlock.toList (.q 0 (.q 1 (.q 2 (.q 3 (.q 4 (.q 5 (.q 6 (.q 7 (.e 8 .nil))))))))) (by kernel_rfl) (by kernel_rfl) ?_
  refine hx_ fun hx9 =>qx_ 3 hx9 rfl<|v_ rfl (y_ rfl rfl (by simp only [InR, lo, hi]; omega)) hx9 rfl rfl ?_
  refine v_ rfl (aH_ (s := 6) (q := i + 1) tabOk Tryz.underlying27 rfl rfl rfl i0_ rfl (by omega) (by (simp only [List.length_append, List.length_take, List.length_drop, List.length_cons, List.length_nil]; omega))) hx9 rfl rfl ?_
  refine qx_ 2 hx9 rfl<|v_ rfl (aH_ (s := 6) (q := i) tabOk Tryz.underlying27 rfl rfl rfl i2_ rfl (by omega) (by omega)) hx9 rfl rfl ?_
  refine ex_ rfl (a6_ (s := 6) (q := i + 1) (ys := (xs.drop i)) (zs := (xs.take i ++ y :: xs.drop i)) tabOk Tryz.underlying27 rfl rfl rfl (by (simp only [List.length_append, List.length_take, List.length_drop, List.length_cons, List.length_nil]; omega)) (Src.ofOwn (xs := xs) (q := i) rfl i2_ hlt (by (simp only [List.length_append, List.length_take, List.length_drop, List.length_cons, List.length_nil]; omega)) (by rw [List.take_of_length_le (Nat.le_refl _)])) (by exact dN_ h1 _) (ins_b hlt hjs) u0_) (by simp) rfl rfl ?_
  exact R_<|b_<|d_<|a_<|q_ 2 rfl<|g_<|b_<|l_<|h_ nofun<|f_ (rs := [.tmp 6]) rfl (RV.tmp rfl RV.nil) (r40) (sc_ sn_)<|rfl
 intro hc31
 refine o_<|b_<|d_<|a_<|q_ 3 rfl<|c_ (y_ rfl rfl (by simp only [InR, lo, hi]; omega)) rfl rfl ?_
 refine c_ (gT_ (s := 6) (q := xs.length + 1) tabOk Tryz.underlying27 rfl rfl i1_ rfl (by omega) (by omega)) rfl rfl ?_
 refine q_ 1 rfl<|g_<|b_<|d_<|d_<|fd_ (v := v) (xs := xs) (q := xs.length + 1) i1_ (by omega) (by omega) fun js hjs => ⟨_, u1_, ?_⟩
 refine a_<|q_ 4 rfl<|c_ (y_ rfl rfl (by simp only [InR, lo, hi]; omega)) rfl rfl ?_
 refine c_ (aH_ (s := 6) (q := i + 1) tabOk Tryz.underlying27 rfl rfl rfl i1_ rfl (by omega) (by (simp only [List.length_append, List.length_take, List.length_drop, List.length_cons, List.length_nil]; omega))) rfl rfl ?_
 refine c_ (co_ (tr := 4) (s := 6) (q := i + 1) (α := [_]) (ys := [y]) Tryz.func162 (by kernel_rfl) (by kernel_rfl) (by kernel_rfl) (by kernel_rfl) tabOk Tryz.underlying27 rfl rfl rfl rfl rfl rfl i0_ (by simp) (by (simp only [List.length_append, List.length_take, List.length_drop, List.length_cons, List.length_nil]; omega))) rfl rfl ?_
 refine c_ (fQ_ rfl) rfl rfl<|g_<|b_<|K_ rfl<|d_<|Y_ (cutTo v (xs.length + 1)).ownBlock.toList (.q 0 (.q 1 (.q 2 (.q 3 (.q 4 (.q 5 (.q 6 (.q 7 (.e 8 .nil))))))))) (by kernel_rfl) (by kernel_rfl) ?_
 refine hx_ fun hx9 =>qx_ 3 hx9 rfl<|v_ rfl (y_ rfl rfl (by simp only [InR, lo, hi]; omega)) hx9 rfl rfl ?_
 refine v_ rfl (aH_ (s := 6) (q := i + 1) tabOk Tryz.underlying27 rfl rfl rfl i1_ rfl (by omega) (by (simp only [List.length_append, List.length_take, List.length_drop, List.length_cons, List.length_nil]; omega))) hx9 rfl rfl ?_
 refine qx_ 2 hx9 rfl<|v_ rfl (aH_ (s := 6) (q := i) tabOk Tryz.underlying27 rfl rfl rfl i1_ rfl (by omega) (by (simp only [List.length_append, List.length_take, List.length_drop, List.length_cons, List.length_nil]; omega))) hx9 rfl rfl ?_
 refine ex_ rfl (a6_ (s := 6) (q := i + 1) (ys := (xs.drop i)) (zs := (xs ++ js).take (i + 1) ++ xs.drop i) tabOk Tryz.underlying27 rfl rfl rfl (by (simp only [List.length_append, List.length_take, List.length_drop, List.length_cons, List.length_nil]; omega)) (Src.ofOwn (xs := xs ++ js) (q := i) rfl i1_ (by (simp only [List.length_append, List.length_take, List.length_drop, List.length_cons, List.length_nil]; omega)) (by (simp only [List.length_append, List.length_take, List.length_drop, List.length_cons, List.length_nil]; omega)) (jV_ hlt)) (by exact dN_ h1 _) (ins_c hlt hjs) u1_) (by simp) rfl rfl ?_
 refine R_<|b_<|d_<|a_<|q_ 2 rfl<|c_ (aH_ (s := 6) (q := i) tabOk Tryz.underlying27 rfl rfl rfl i1_ rfl (by omega) (by (simp only [List.length_append, List.length_take, List.length_drop, List.length_cons, List.length_nil]; omega))) rfl rfl ?_
 refine q_ 1 rfl<|e_ (a6_ (s := 6) (q := i) (ys := [y]) (zs := (xs.take i ++ y :: xs.drop i)) tabOk Tryz.underlying27 rfl rfl rfl (by (simp only [List.length_append, List.length_take, List.length_drop, List.length_cons, List.length_nil]; omega)) (Src.ofAll rfl i0_ (by simp) (by rw [jW_ hlt hjs]; simp only [List.length_cons, List.length_nil]; omega)) (by (intro c hc; rw [List.mem_singleton] at hc; subst hc; exact hy)) (ins_d hlt hjs) u1_) rfl rfl ?_
 exact g_<|b_<|d_<|a_<|q_ 2 rfl<|g_<|b_<|l_<|h_ nofun<|f_ (rs := [.tmp 6]) rfl (RV.tmp rfl RV.nil) ((cutTo v (xs.length + 1))) (sk_ sr_)<|rfl
section
variable {x : Ltr} {xs : List Ltr} {p q : Nat} {k : ByteArray} {v : Value}
theorem jw_ (hn : xs.length ≤ 1000000) : Spec Tryz.prog 116 [.sl 6 (xs.map ltrA), st k, .fn (.func 117) [] []] [] (fun _ : Unit => []) (fun _ => .tup [int ((placeG (eqL k) (gtL k) xs).1 : Nat), boo (placeG (eqL k) (gtL k) xs).2]) := by
 refine C_ Tryz.func116 rfl Tryz.ntmps116 rfl fun G w =>d_<|a_<|eb_ (by_ rfl rfl) rfl rfl fun b4=>?_
 refine eb_ (by_ rfl rfl) rfl rfl fun b5=>?_
 refine q_ 2 rfl<|g_<|b_<|d_<|d_<|a_<|q_ 1 rfl<|c_ (ar_ rfl rfl) rfl rfl<|r_ (e2_ (xs := xs) (k := 134) (caps := [ptr b5, ptr b4]) (σ := [.rd b5 155 [.fn (.func 117) [] []], .rd b4 9 [st k]]) (p := eqL k) (by kernel_rfl) (by intro x hx; simp only [List.mem_cons, List.not_mem_nil, or_false] at hx; rcases hx with rfl | rfl <;> exact .inl ⟨_, _, _, rfl⟩) (by omega) (fun x _ => jz_)) Casts.refl (by kernel_rfl) rfl rfl rfl ?_
 refine ap_ ?_
 intro z1
 have e1 := z1.2.eq
 refine q_ 1 rfl<|g_<|b_<|d_<|a_<|q_ 2 rfl<|g_<|b_<|p_ rfl ?_ ?_
 ·intro hc14
  have ha : xs.any (eqL k) = true := by
   rcases Bool.eq_false_or_eq_true (xs.any (eqL k)) with h | h
   ·exact h
   rw [if_neg (by rw [h]; decide)] at e1; omega
  rw [if_pos ha] at e1
  refine d_<|a_<|q_ 3 rfl<|g_<|b_<|l_<|h_ nofun<|f_ (rs := [.tmp 6, .tmp 7]) rfl (RV.tmp rfl (RV.tmp rfl RV.nil)) (()) sn_ ?_
  have hp : placeG (eqL k) (gtL k) xs = (xs.findIdx (eqL k), true) := if_pos ha
  rw [hp, e1]
  rfl
 intro hc14
 have hn1 : ¬ xs.any (eqL k) = true := fun h => by rw [if_pos h] at e1; omega
 refine o_<|b_<|d_<|d_<|a_<|q_ 1 rfl<|c_ (ar_ rfl rfl) rfl rfl<|r_ (e2_ (xs := xs) (k := 135) (caps := [ptr b5, ptr b4]) (σ := [.rd b5 155 [.fn (.func 117) [] []], .rd b4 9 [st k]]) (p := gtL k) (by kernel_rfl) (by intro x hx; simp only [List.mem_cons, List.not_mem_nil, or_false] at hx; rcases hx with rfl | rfl <;> exact .inl ⟨_, _, _, rfl⟩) (by omega) (fun x _ => jy_)) Casts.refl (by kernel_rfl) rfl rfl rfl ?_
 refine ap_ ?_
 intro z2
 have e2 := z2.2.eq
 refine q_ 1 rfl<|g_<|b_<|d_<|a_<|q_ 2 rfl<|g_<|b_<|p_ rfl ?_ ?_
 ·intro hc20
  refine d_<|a_<|q_ 3 rfl<|g_<|b_<|l_<|h_ nofun<|f_ (rs := [.tmp 6, .tmp 7]) rfl (RV.tmp rfl (RV.tmp rfl RV.nil)) (()) sn_ ?_
  have hp : placeG (eqL k) (gtL k) xs = (xs.findIdx (gtL k), false) := if_neg hn1
  rw [hp]
  rcases Bool.eq_false_or_eq_true (xs.any (gtL k)) with h | h
  ·rw [if_pos h] at e2
   (rw [e2]; rfl)
  rw [if_neg (by rw [h]; decide)] at e2
  (exfalso; omega)
 intro hc20
 refine o_<|b_<|d_<|a_<|q_ 1 rfl<|c_ (E_ rfl Tryz.underlying27 (List.length_map _)) rfl rfl<|q_ 2 rfl<|g_<|b_<|l_<|f_ (rs := [.tmp 6, .tmp 7]) rfl (RV.tmp rfl (RV.tmp rfl RV.nil)) (()) sn_ ?_
 have hp : placeG (eqL k) (gtL k) xs = (xs.findIdx (gtL k), false) := if_neg hn1
 rw [hp]
 rcases Bool.eq_false_or_eq_true (xs.any (gtL k)) with h | h
 ·rw [if_pos h] at e2
  (exfalso; omega)
 rw [if_neg (by rw [h]; decide)] at e2
 (rw [show xs.findIdx (gtL k) = xs.length from List.findIdx_eq_length.2 (by simpa using h)]; rfl)
theorem iz_ (hn : xs.length ≤ 1000000) : Spec Tryz.prog 116 [.v v, st k, .fn (.func 117) [] []] [.rdpc (ownPc 81 6 v (xs.map ltrA))] (fun _ : Unit => []) (fun _ => .tup [int ((placeG (eqL k) (gtL k) xs).1 : Nat), boo (placeG (eqL k) (gtL k) xs).2]) := by
 refine C_ Tryz.func116 rfl Tryz.ntmps116 rfl fun G w =>d_<|a_<|eb_ (by_ rfl rfl) rfl rfl fun b4=>?_
 refine eb_ (by_ rfl rfl) rfl rfl fun b5=>?_
 refine q_ 2 rfl<|g_<|b_<|d_<|d_<|a_<|q_ 1 rfl<|c_ (ar_ rfl rfl) rfl rfl<|r_ (e1_ (xs := xs) (k := 134) (caps := [ptr b5, ptr b4]) (σ := [.rd b5 155 [.fn (.func 117) [] []], .rd b4 9 [st k]]) (p := eqL k) (by kernel_rfl) (by intro x hx; simp only [List.mem_cons, List.not_mem_nil, or_false] at hx; rcases hx with rfl | rfl <;> exact .inl ⟨_, _, _, rfl⟩) (by omega) (fun x _ => jz_)) Casts.refl (by kernel_rfl) rfl rfl rfl ?_
 refine ap_ ?_
 intro z1
 have e1 := z1.2.eq
 refine q_ 1 rfl<|g_<|b_<|d_<|a_<|q_ 2 rfl<|g_<|b_<|p_ rfl ?_ ?_
 ·intro hc14
  have ha : xs.any (eqL k) = true := by
   rcases Bool.eq_false_or_eq_true (xs.any (eqL k)) with h | h
   ·exact h
   rw [if_neg (by rw [h]; decide)] at e1; omega
  rw [if_pos ha] at e1
  refine d_<|a_<|q_ 3 rfl<|g_<|b_<|l_<|h_ nofun<|f_ (rs := [.tmp 6, .tmp 7]) rfl (RV.tmp rfl (RV.tmp rfl RV.nil)) (()) sn_ ?_
  have hp : placeG (eqL k) (gtL k) xs = (xs.findIdx (eqL k), true) := if_pos ha
  rw [hp, e1]
  rfl
 intro hc14
 have hn1 : ¬ xs.any (eqL k) = true := fun h => by rw [if_pos h] at e1; omega
 refine o_<|b_<|d_<|d_<|a_<|q_ 1 rfl<|c_ (ar_ rfl rfl) rfl rfl<|r_ (e1_ (xs := xs) (k := 135) (caps := [ptr b5, ptr b4]) (σ := [.rd b5 155 [.fn (.func 117) [] []], .rd b4 9 [st k]]) (p := gtL k) (by kernel_rfl) (by intro x hx; simp only [List.mem_cons, List.not_mem_nil, or_false] at hx; rcases hx with rfl | rfl <;> exact .inl ⟨_, _, _, rfl⟩) (by omega) (fun x _ => jy_)) Casts.refl (by kernel_rfl) rfl rfl rfl ?_
 refine ap_ ?_
 intro z2
 have e2 := z2.2.eq
 refine q_ 1 rfl<|g_<|b_<|d_<|a_<|q_ 2 rfl<|g_<|b_<|p_ rfl ?_ ?_
 ·intro hc20
  refine d_<|a_<|q_ 3 rfl<|g_<|b_<|l_<|h_ nofun<|f_ (rs := [.tmp 6, .tmp 7]) rfl (RV.tmp rfl (RV.tmp rfl RV.nil)) (()) sn_ ?_
  have hp : placeG (eqL k) (gtL k) xs = (xs.findIdx (gtL k), false) := if_neg hn1
  rw [hp]
  rcases Bool.eq_false_or_eq_true (xs.any (gtL k)) with h | h
  ·rw [if_pos h] at e2
   (rw [e2]; rfl)
  rw [if_neg (by rw [h]; decide)] at e2
  (exfalso; omega)
 intro hc20
 refine o_<|b_<|d_<|a_<|q_ 1 rfl<|c_ (bI_ (m := xs.length) rfl (.inr i2_) Tryz.underlying27 (List.length_map _)) rfl rfl<|q_ 2 rfl<|g_<|b_<|l_<|f_ (rs := [.tmp 6, .tmp 7]) rfl (RV.tmp rfl (RV.tmp rfl RV.nil)) (()) sn_ ?_
 have hp : placeG (eqL k) (gtL k) xs = (xs.findIdx (gtL k), false) := if_neg hn1
 rw [hp]
 rcases Bool.eq_false_or_eq_true (xs.any (gtL k)) with h | h
 ·rw [if_pos h] at e2
  (exfalso; omega)
 rw [if_neg (by rw [h]; decide)] at e2
 (rw [show xs.findIdx (gtL k) = xs.length from List.findIdx_eq_length.2 (by simpa using h)]; rfl)
set_option maxHeartbeats 1000000 in
theorem put_ltr (hn : xs.length ≤ 100000) : Spec Tryz.prog 124 [.sl 6 (xs.map ltrA), .agg (ltrA x), .fn (.func 117) [] []] [] (fun _ : Unit => []) (fun _ => .sl 6 ((withG (eqL x.name) (gtL x.name) x xs).map ltrA)) := by
 refine C_ Tryz.func124 rfl Tryz.ntmps124 rfl fun G w =>d_<|a_<|eb_ (L_ (cs := ltrA x) rfl) rfl rfl fun b4=>?_
 refine q_ 1 rfl<|g_<|b_<|d_<|a_<|q_ 1 rfl<|r_ (gH_ (bF_ xs) (by rw [List.length_map]; omega)) Casts.refl (by kernel_rfl) rfl rfl rfl ?_
 refine bt_ (by repeat (first | exact Reads.nil | (refine Reads.blk ?_ ?_; focus ((repeat first|assumption|exact m0_|apply m1_); done)) | (refine Reads.rd ?_ ?_; focus ((repeat first|assumption|exact m0_|apply m1_); done)) | (refine Reads.pc ?_ ?_; focus ((repeat first|assumption|exact m0_|apply m1_); done)) | (refine Reads.rdpc ?_ ?_; focus ((repeat first|assumption|exact m0_|apply m1_); done)))) (fun _ => rfl) ?_
 intro z5
 refine q_ 1 rfl<|g_<|b_<|d_<|a_<|q_ 2 rfl<|c_ (P_ tabOk rfl rfl rfl l1_ List.not_mem_nil rfl) rfl rfl<|bx_ (hi_ (x := x)) rfl Casts.refl (by kernel_rfl) rfl rfl rfl ?_
 refine ap_<|fun _=>q_ 1 rfl<|r_ (iz_ (v := z5) (xs := xs) (k := x.name) (by omega)) Casts.refl (by kernel_rfl) rfl rfl rfl ?_
 refine ap_<|fun _=>q_ 5 rfl<|g_<|b_<|d_<|d_<|a_<|q_ 1 rfl<|g_<|b_<|S_ rfl ?_ ?_
 rotate_left
 ·intro hc20
  have hn1 : ¬ xs.any (eqL x.name) = true := fun h => by unfold placeG at hc20; rw [if_pos h] at hc20; cases hc20
  have hp : (placeG (eqL x.name) (gtL x.name) xs) = (xs.findIdx (gtL x.name), false) := if_neg hn1
  have hle : (placeG (eqL x.name) (gtL x.name) xs).1 ≤ xs.length := by rw [hp]; exact e3_
  have hw : (withG (eqL x.name) (gtL x.name) x xs) = xs.take (placeG (eqL x.name) (gtL x.name) xs).1 ++ x :: xs.drop (placeG (eqL x.name) (gtL x.name) xs).1 := by
   rw [hp]
   exact (if_neg hn1).trans fp_
  refine o_<|b_<|d_<|a_<|q_ 2 rfl<|c_ (P_ tabOk rfl rfl rfl l1_ List.not_mem_nil rfl) rfl rfl<|eb_ (aX_ tabOk Tryz.underlying27 rfl rfl rfl rfl rfl rfl rfl) rfl rfl fun r29=>?_
  refine r_ (ins_ltr (u := r29) (v := z5) (xs := xs.map ltrA) (y := ltrA x) (i := (placeG (eqL x.name) (gtL x.name) xs).1) (by rw [List.length_map]; exact hle) (bF_ xs) rfl (by rw [List.length_map]; omega)) Casts.refl (by kernel_rfl) rfl rfl rfl ?_
  refine eE_ [] (β := [_]) rfl (by intro x hx; simp only [List.mem_cons, List.not_mem_nil, or_false] at hx; rcases hx with rfl | rfl <;> rfl) ?_
  intro z30
  refine gU_ [] (t := 30) rfl rfl ?_
  rw [show List.take (placeG (eqL x.name) (gtL x.name) xs).1 (List.map ltrA xs) ++ ltrA x :: List.drop (placeG (eqL x.name) (gtL x.name) xs).1 (List.map ltrA xs) = (withG (eqL x.name) (gtL x.name) x xs).map ltrA by rw [hw, List.map_append, List.map_cons, List.map_take, List.map_drop]]
  exact q_ 1 rfl<|g_<|b_<|l_<|f_ (rs := [.tmp 6]) rfl (RV.tmp rfl RV.nil) (()) sn_<|rfl
 intro hc20
 have ha : xs.any (eqL x.name) = true := by
  rcases Bool.eq_false_or_eq_true (xs.any (eqL x.name)) with h | h
  ·exact h
  unfold placeG at hc20; rw [if_neg (by rw [h]; decide)] at hc20; cases hc20
 have hp : (placeG (eqL x.name) (gtL x.name) xs) = (xs.findIdx (eqL x.name), true) := if_pos ha
 have hlt : (placeG (eqL x.name) (gtL x.name) xs).1 < xs.length := by rw [hp]; exact cy_ ha
 have hw : (withG (eqL x.name) (gtL x.name) x xs) = xs.set (placeG (eqL x.name) (gtL x.name) xs).1 x := by
  rw [hp]
  exact (if_pos ha).trans (fo_ ha)
 refine d_<|a_<|q_ 2 rfl<|c_ (P_ tabOk rfl rfl rfl l1_ List.not_mem_nil rfl) rfl rfl<|c_ (a4_ (q := (placeG (eqL x.name) (gtL x.name) xs).1) tabOk Tryz.underlying27 rfl rfl (.inl i0_) rfl rfl (by rw [List.length_map]; exact hlt) rfl rfl) rfl rfl ?_
 refine e_ (dy_ (q := (placeG (eqL x.name) (gtL x.name) xs).1) (ys := ltrA x) tabOk rfl rfl rfl u0_ rfl rfl rfl (by rw [List.length_map]; exact hlt) rfl) rfl rfl ?_
 refine g_<|b_<|d_<|bJ_ [] (t := 0) rfl rfl ?_
 rw [show List.set (List.map ltrA xs) (placeG (eqL x.name) (gtL x.name) xs).1 (ltrA x) = (withG (eqL x.name) (gtL x.name) x xs).map ltrA by rw [hw, List.map_set]]
 exact a_<|q_ 2 rfl<|g_<|b_<|l_<|h_ nofun<|f_ (rs := [.tmp 6]) rfl (RV.tmp rfl RV.nil) (()) sn_<|rfl
end
end Go.Proofs.YtickdhjljpnlpaaGreatDoor.A
