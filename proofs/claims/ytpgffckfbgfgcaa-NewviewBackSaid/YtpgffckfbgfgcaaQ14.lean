/-
  Packed out of the texts: NLaw, N1.
-/
import Derived.Test.YtpgffckfbgfgcaaQ13
/-
  New views, in plain Lean: what is written reads back; the program's Parse answers as the document's.
-/
set_option maxRecDepth 100000
set_option linter.unusedSimpArgs false
set_option linter.unusedVariables false
namespace Go.Proofs.Ytpgffckfbgfgcaa.A
open Go.RowKit

/-- A change that somebody says. -/
structure Sgn where
  who : Int
  chg : Chg
def Sgn.abs (s : Sgn) : List Abs := int s.who :: s.chg.abs
abbrev sgnsA (l : List Sgn) : Abs := .sl 6 (l.map Sgn.abs)
def SgnsOk (view n : Int) (l : List Sgn) : Prop := Rises (fun a b : Sgn => decide (a.who < b.who)) l ∧ ∀ s ∈ l, 0 ≤ s.who ∧ s.who < n ∧ s.chg.view = view ∧ s.chg.Right n
noncomputable def chkV (view : Int) (l : List Sgn) (n : Int) : Int :=
  if n < 1 ∨ 7 < n then 1 else if n < l.length then 4 else if (l.length : Int) < 2 * ((n - 1) / 3) + 1 then 16 else bif yes (SgnsOk view n l) then 0 else 2
def Sgn.bytes (s : Sgn) : List UInt8 := beBytes (u64 s.who) 1 ++ rowB s.chg.bytes
def viewB (view : Int) (l : List Sgn) : List UInt8 := beBytes (u64 view) 8 ++ beBytes l.length 2 ++ l.flatMap Sgn.bytes
/-- Signed changes as the program reads them; none: one of them may not be. -/
noncomputable def Rd.sgns (n room : Int) : Nat → Rd → List Sgn → Option (List Sgn × Rd)
  | 0, s, acc => some (acc, s)
  | k + 1, s, acc => if (parseC ((s.fixed 1).rowOut room) n).2 ≠ 0 then none else Rd.sgns n room k ((s.fixed 1).row room) (acc ++ [⟨(s.num 1 : Nat), (parseC ((s.fixed 1).rowOut room) n).1⟩])
/-- And as the document does. -/
noncomputable def Rd.rsgns (n : Int) : Nat → Rd → List Sgn → Bool → List Sgn × Bool × Rd
  | 0, s, acc, ok => (acc, ok, s)
  | k + 1, s, acc, ok => if s.e ≠ 0 then (acc, ok, s) else Rd.rsgns n k ((s.fixed 1).row 1048576) (acc ++ [⟨(s.num 1 : Nat), (rparseC ((s.fixed 1).rowOut 1048576) n).1⟩]) (ok && decide ((rparseC ((s.fixed 1).rowOut 1048576) n).2 = 0))
def Rd.vHead (l : List UInt8) : Rd := (Rd.of l).fixed 8
noncomputable def Rd.vSgns (l : List UInt8) (n : Int) : Option (List Sgn × Rd) := Rd.sgns n l.length ((Rd.vHead l).countN 7) ((Rd.vHead l).count 7) []
noncomputable def Rd.rvSgns (l : List UInt8) (n : Int) : List Sgn × Bool × Rd := Rd.rsgns n ((Rd.vHead l).countN 7) ((Rd.vHead l).count 7) [] true
noncomputable def parseV2 (v n : Int) : Option (List Sgn × Rd) → Int × List Sgn × Int
  | none => (0, [], 2)
  | some (xs, t) => if t.end_ ≠ 0 ∨ chkV v xs n ≠ 0 then (0, [], 2) else (v, xs, 0)
noncomputable def parseV (l : List UInt8) (n : Int) : Int × List Sgn × Int := if n < 1 ∨ 7 < n then (0, [], 1) else parseV2 (sg ((Rd.of l).num 8)) n (Rd.vSgns l n)
noncomputable def rparseV (l : List UInt8) (n : Int) : Int × List Sgn × Int :=
  if n < 1 ∨ 7 < n then (0, [], 1) else
  if (Rd.rvSgns l n).2.2.end_ ≠ 0 ∨ (Rd.rvSgns l n).2.1 = false ∨ chkV (sg ((Rd.of l).num 8)) (Rd.rvSgns l n).1 n ≠ 0 then (0, [], 2) else (sg ((Rd.of l).num 8), (Rd.rvSgns l n).1, 0)

/-- 'max' of two numbers. -/
theorem Val.maxI {P : Program} {n : Nat} {W : Wd} {σ : Blks} {l : Slots} {X : List Nat} {x y : Operand} {d : Option Nat} {ty t t' : TypeId} {pos : String} {aft : Array Edge} {gq : Option (Nat × Bool)} {k : IntKind} {a b : Int} (hx : look l x = some (.v (.int k a))) (hy : look l y = some (.v (.int k b))) :
    Val P n W σ l X ⟨d, .call { callee := .builtin .max, args := #[x, y], argTypes := #[t, t'] }, ty, pos, aft, gq⟩ (.v (.int k (max a b))) := fun ac w hs _ => ⟨_, rfl, fun w' _ => by
  have hm : (if a < b then b else a) = max a b := by omega
  simp [execOp, resolve, invoke, builtin, Builtin.max_, Builtin.max2, hs.plain hx, hs.plain hy, List.foldlM, hm]⟩
/-! ### What is written reads back -/
structure Sgn.Lits (s : Sgn) : Prop where
  who : InR .i64 s.who
  chg : s.chg.Lits
theorem sgns_back {n room : Int} {r : List UInt8} (hn : n ≤ 7) : ∀ (l : List Sgn) (s : Rd) (acc : List Sgn), (∀ x ∈ l, x.chg.Lits ∧ 0 ≤ x.who ∧ x.who < n ∧ x.chg.check n = 0 ∧ (x.chg.bytes.length : Int) ≤ room ∧ x.chg.bytes.length < 4294967296) → s.At (l.flatMap Sgn.bytes ++ r) →
    ∃ t : Rd, t.At r ∧ Rd.sgns n room l.length s acc = some (acc ++ l, t)
  | [], s, acc, _, h => ⟨s, h, by simp [Rd.sgns]⟩
  | x :: l, s, acc, hall, h => by
    obtain ⟨g1, g2, g3, g4, g5, g6⟩ := hall x List.mem_cons_self
    have e1 : (x :: l).flatMap Sgn.bytes ++ r = beBytes (u64 x.who) 1 ++ (rowB x.chg.bytes ++ (l.flatMap Sgn.bytes ++ r)) := by simp [Sgn.bytes]
    have u1 := u64_nat g2 (by omega)
    rw [e1] at h
    obtain ⟨a1, b1⟩ := at_num h (by omega) (n := 1) rfl
    obtain ⟨a2, b2⟩ := at_row (most := room) a1 g5 g6
    obtain ⟨t, ht, hr⟩ := sgns_back hn l ((s.fixed 1).row room) (acc ++ [x]) (fun x hx => hall x (List.mem_cons_of_mem _ hx)) a2
    refine ⟨t, ht, ?_⟩
    rw [List.length_cons]
    unfold Rd.sgns
    rw [b1, b2, chg_back g1 g4 g6, u1, if_neg (by simp)]
    have e2 : (⟨x.who, x.chg⟩ : Sgn) = x := rfl
    simp only [e2]
    rw [hr]
    simp
theorem chkV_ok {view n : Int} {l : List Sgn} (h : chkV view l n = 0) : ¬ (n < 1 ∨ 7 < n) ∧ (l.length : Int) ≤ n ∧ SgnsOk view n l := by
  unfold chkV at h
  split at h
  · exact absurd h (by decide)
  · rename_i h1
    split at h
    · exact absurd h (by decide)
    · rename_i h2
      split at h
      · exact absurd h (by decide)
      · refine ⟨h1, by omega, ?_⟩
        cases h3 : yes (SgnsOk view n l) with
        | true => exact yes_iff.1 h3
        | false => rw [h3] at h; exact absurd h (by decide)
theorem view_back {view : Int} {l : List Sgn} {n : Int} (hv : InR .i64 view) (hs : ∀ s ∈ l, s.Lits) (h : chkV view l n = 0) (hl : (viewB view l).length < 4294967296) : parseV (viewB view l) n = (view, l, 0) := by
  obtain ⟨hn, h7, hr, hok⟩ := chkV_ok h
  have e0 : viewB view l = beBytes (u64 view) 8 ++ (beBytes l.length 2 ++ (l.flatMap Sgn.bytes ++ [])) := by simp [viewB]
  have hlen := congrArg List.length e0
  simp only [List.length_append] at hlen
  have hat : (Rd.of (viewB view l)).At (beBytes (u64 view) 8 ++ _) := ⟨rfl, e0⟩
  obtain ⟨a1, b1⟩ := at_num hat (u64_lt8 _) (n := 8) rfl
  have a1' : (Rd.vHead (viewB view l)).At _ := a1
  obtain ⟨a2, b2⟩ := at_count (most := 7) a1' (by omega) (by omega)
  obtain ⟨t, a3, b3⟩ := sgns_back (n := n) (room := ((viewB view l).length : Nat)) (by omega) l _ [] (fun x hx => by
    obtain ⟨k1, k2, k3, k4⟩ := hok x hx
    have h5 := flat_le (f := Sgn.bytes) hx
    have h6 : x.chg.bytes.length ≤ x.bytes.length := by
      unfold Sgn.bytes rowB
      simp only [List.length_append]
      omega
    exact ⟨(hs x hx).chg, k1, k2, (check_right hn).2 k4, by omega, by omega⟩) a2
  have hend : t.end_ = 0 := by
    unfold Rd.end_
    rw [a3.1, a3.2]
    simp
  unfold parseV
  rw [if_neg hn]
  unfold Rd.vSgns
  rw [b2, b3, b1, sg_u64 hv]
  show (if t.end_ ≠ 0 ∨ chkV view l n ≠ 0 then (0, [], 2) else (view, l, (0 : Int))) = _
  rw [if_neg (by simp [hend, h])]

/-! ### Both Parses -/
def SB : Option (List Sgn × Rd) → Prop
  | none => True
  | some (_, t) => t.e ≠ 0
theorem sgns_bad {n room : Int} : ∀ (k : Nat) {s : Rd} (acc : List Sgn), s.e ≠ 0 → SB (Rd.sgns n room k s acc)
  | 0, _, _, h => h
  | k + 1, s, acc, h => by
    unfold Rd.sgns
    split
    · trivial
    · refine sgns_bad k _ ?_
      rw [Rd.fixed_bad h, Rd.row_bad h]
      exact h
theorem rsgns_stop {n : Int} {s : Rd} {acc : List Sgn} {ok : Bool} (h : s.e ≠ 0) : ∀ k, Rd.rsgns n k s acc ok = (acc, ok, s)
  | 0 => rfl
  | k + 1 => by show (if s.e ≠ 0 then _ else _) = _; rw [if_pos h]
theorem rsgns_odd {n : Int} : ∀ (k : Nat) (s : Rd) (acc : List Sgn), (Rd.rsgns n k s acc false).2.1 = false
  | 0, _, _ => rfl
  | k + 1, s, acc => by
    unfold Rd.rsgns
    split
    · rfl
    · rw [Bool.false_and]
      exact rsgns_odd k _ _
theorem sgns_two {n room : Int} (hr : room ≤ 1000000) : ∀ (k : Nat) (s : Rd) (acc : List Sgn), (s.l.length : Int) ≤ room →
    (SB (Rd.sgns n room k s acc) ∧ ((Rd.rsgns n k s acc true).2.2.e ≠ 0 ∨ (Rd.rsgns n k s acc true).2.1 = false)) ∨ ∃ xs t, Rd.sgns n room k s acc = some (xs, t) ∧ Rd.rsgns n k s acc true = (xs, true, t)
  | 0, s, acc, _ => .inr ⟨acc, s, rfl, rfl⟩
  | k + 1, s, acc, hl => by
    by_cases h : s.e ≠ 0
    · refine .inl ⟨sgns_bad _ _ h, .inl ?_⟩
      rw [rsgns_stop h]
      exact h
    · unfold Rd.sgns Rd.rsgns
      rw [if_neg h]
      have h2 := s.fixed_length 1
      have h4 := Rd.row_length (s.fixed 1) room
      have h5 : ((s.fixed 1).rowOut room).length ≤ (s.fixed 1).l.length := Rd.rowOut_length _ _
      rcases row_two (s := s.fixed 1) (L := room) (M := 1048576) (by omega) (by omega) with ⟨a, b⟩ | ⟨a, b⟩
      · refine .inl ⟨?_, .inl ?_⟩
        · split
          · trivial
          · exact sgns_bad _ _ a
        · rw [rsgns_stop b]
          exact b
      · rw [← a, ← b, chg_two (by omega)]
        by_cases c : (rparseC ((s.fixed 1).rowOut room) n).2 ≠ 0
        · rw [if_pos c, decide_eq_false c, Bool.and_false]
          exact .inl ⟨trivial, .inr (rsgns_odd _ _ _)⟩
        · rw [if_neg c, decide_eq_true (Decidable.not_not.1 c), Bool.and_true]
          exact sgns_two hr k _ _ (by omega)
theorem parseV_two {l : List UInt8} {n : Int} (hl : l.length ≤ 1000000) : parseV l n = rparseV l n := by
  unfold parseV rparseV
  by_cases hn : n < 1 ∨ 7 < n
  · rw [if_pos hn, if_pos hn]
  · rw [if_neg hn, if_neg hn]
    have hof : (Rd.of l).l = l := rfl
    have q1 := (Rd.of l).fixed_length 8
    have q3 := Rd.count_length (Rd.vHead l) 7
    unfold Rd.vHead at q3
    rw [hof] at q1
    rcases sgns_two (n := n) (room := (l.length : Nat)) (by omega) ((Rd.vHead l).countN 7) ((Rd.vHead l).count 7) [] (by unfold Rd.vHead; omega) with ⟨a, b⟩ | ⟨xs, t, a, b⟩
    · have a' : SB (Rd.vSgns l n) := a
      have b' : (Rd.rvSgns l n).2.2.e ≠ 0 ∨ (Rd.rvSgns l n).2.1 = false := b
      rw [if_pos (by
        rcases b' with b' | b'
        · exact .inl (Rd.end_bad b')
        · exact .inr (.inl b'))]
      cases h : Rd.vSgns l n with
      | none => rfl
      | some x =>
        obtain ⟨xs, t⟩ := x
        rw [h] at a'
        show (if t.end_ ≠ 0 ∨ _ then _ else _) = _
        rw [if_pos (.inl (Rd.end_bad a'))]
    · have a' : Rd.vSgns l n = some (xs, t) := a
      have b' : Rd.rvSgns l n = (xs, true, t) := b
      rw [a', b']
      show (if t.end_ ≠ 0 ∨ chkV _ xs n ≠ 0 then _ else _) = _
      by_cases h1 : t.end_ ≠ 0
      · rw [if_pos (.inl h1), if_pos (.inl h1)]
      · by_cases h2 : chkV (sg ((Rd.of l).num 8)) xs n ≠ 0
        · rw [if_pos (.inr h2), if_pos (.inr (.inr h2))]
        · rw [if_neg (fun h => by
            rcases h with h | h
            · exact h1 h
            · exact h2 h), if_neg (fun h => by
            rcases h with h | h | h
            · exact h1 h
            · cases h
            · exact h2 h)]
end Go.Proofs.Ytpgffckfbgfgcaa.A
/-
  New views: Check and Bytes, over the second engine.
-/
set_option maxRecDepth 100000
set_option linter.unusedSimpArgs false
set_option linter.unusedVariables false
namespace Go.Proofs.Ytpgffckfbgfgcaa.A
open Go.RowKit

theorem max_div {n : Int} (h : 1 ≤ n) : (max n 1 - 1) / 3 = (n - 1) / 3 := by rw [show max n 1 = n by omega]
def lastW (l : List Sgn) (z : Nat) : Int := if z = 0 then -1 else ((l[z - 1]?).map Sgn.who).getD 0
theorem lastW_succ {l : List Sgn} {z : Nat} (h : z < l.length) : lastW l (z + 1) = l[z].who := by
  unfold lastW
  rw [if_neg (by omega), Nat.add_sub_cancel, List.getElem?_eq_getElem h]
  rfl
def SgnAt (view n : Int) (l : List Sgn) (j : Nat) (h : j < l.length) : Prop := (0 ≤ l[j].who ∧ l[j].who < n ∧ l[j].chg.view = view ∧ l[j].chg.Right n) ∧ ∀ h0 : 0 < j, l[j - 1].who < l[j].who
theorem sgns_iff {view n : Int} {l : List Sgn} : SgnsOk view n l ↔ ∀ j (h : j < l.length), SgnAt view n l j h := by
  constructor
  · intro ⟨h1, h2⟩ j h
    exact ⟨h2 _ (List.getElem_mem h), fun h0 => of_decide_eq_true (rises_at h1 h0 h)⟩
  · intro h
    refine ⟨fun j hj => decide_eq_true ((h (j + 1) hj).2 (by omega)), fun s hs => ?_⟩
    obtain ⟨j, hj, rfl⟩ := List.getElem_of_mem hs
    exact (h j hj).1
theorem lastW_ge {view n : Int} {l : List Sgn} {z : Nat} (hz : z ≤ l.length) (h : ∀ j (h : j < l.length), j < z → SgnAt view n l j h) : -1 ≤ lastW l z := by
  cases z with
  | zero => show (-1 : Int) ≤ -1; omega
  | succ z =>
    rw [lastW_succ (by omega)]
    have := (h z (by omega) (by omega)).1.1
    omega
theorem lastW_at {l : List Sgn} {z : Nat} (hz : z < l.length) (h0 : 0 < z) : lastW l z = l[z - 1].who := by
  have := lastW_succ (l := l) (z := z - 1) (by omega)
  rw [show z - 1 + 1 = z by omega] at this
  exact this
section
variable {view n : Int} {l : List Sgn}
theorem faults_s (hn : n ≤ 1000) : Spec Try.prog 34 [int n] [] (fun _ : Unit => []) (fun _ => int ((max n 1 - 1) / 3)) := by
  refine spec_of Try.func34 rfl Try.ntmps34 rfl fun G w => ?_
  refine SC.seq (SC.region ?_)
  refine SL.val (Val.assign rfl) rfl rfl ?_
  refine SL.nil (SE.seq ?_)
  refine SC.seq (SC.region ?_)
  refine SL.val (Val.move rfl) rfl rfl ?_
  refine SL.val (Val.maxI rfl rfl) rfl rfl ?_
  first
    | refine SL.val (Val.subI rfl rfl (by simp only [InR, lo, hi]; omega)) rfl rfl ?_
    | refine SL.val (Val.subW rfl rfl) rfl rfl ?_
  refine SL.val (Val.quoI rfl rfl (by omega) (by simp only [InR, lo, hi]; omega)) rfl rfl ?_
  refine SL.val (Val.assign rfl) rfl rfl ?_
  refine SL.nil (SE.seq ?_)
  refine SC.ret ?_
  refine SE.fin (rs := [.tmp 2]) rfl (RV.tmp rfl RV.nil) (()) (by repeat first|exact s0 _|exact s1 _|apply s2|apply s3) (by simp [It.rids]) ?_
  exact rfl
theorem quorum_s (hn : n ≤ 1000) : Spec Try.prog 36 [int n] [] (fun _ : Unit => []) (fun _ => int (2 * ((max n 1 - 1) / 3) + 1)) := by
  refine spec_of Try.func36 rfl Try.ntmps36 rfl fun G w => ?_
  refine SC.seq (SC.region ?_)
  refine SL.val (Val.assign rfl) rfl rfl ?_
  refine SL.nil (SE.seq ?_)
  refine SC.seq (SC.region ?_)
  refine SL.val (Val.move rfl) rfl rfl ?_
  refine SL.call (faults_s hn) Casts.refl (by kernel_rfl) rfl rfl rfl ?_
  refine After.pure (by repeat first|exact .nil|refine .blk (by repeat first|assumption|exact m0|apply m1) ?_|refine .rd (by repeat first|assumption|exact m0|apply m1) ?_|refine .pc (by repeat first|assumption|exact m0|apply m1) ?_|refine .rdpc (by repeat first|assumption|exact m0|apply m1) ?_) (fun _ => rfl) ?_
  intro _
  first
    | refine SL.val (Val.mulI rfl rfl (by simp only [InR, lo, hi]; omega)) rfl rfl ?_
    | refine SL.val (Val.mulW rfl rfl) rfl rfl ?_
  first
    | refine SL.val (Val.addI rfl rfl (by simp only [InR, lo, hi]; omega)) rfl rfl ?_
    | refine SL.val (Val.addW rfl rfl) rfl rfl ?_
  refine SL.val (Val.assign rfl) rfl rfl ?_
  refine SL.nil (SE.seq ?_)
  refine SC.ret ?_
  refine SE.fin (rs := [.tmp 2]) rfl (RV.tmp rfl RV.nil) (()) (by repeat first|exact s0 _|exact s1 _|apply s2|apply s3) (by simp [It.rids]) ?_
  exact rfl
theorem rfaults_s (hn : n ≤ 300) : Spec Try.prog 35 [int n] [] (fun _ : Unit => []) (fun _ => int ((max n 1 - 1) / 3)) := by
  refine spec_of Try.func35 rfl Try.ntmps35 rfl fun G w => ?_
  refine SC.seq (SC.region ?_)
  refine SL.val (Val.assign rfl) rfl rfl ?_
  refine SL.nil (SE.seq ?_)
  refine SC.seq (SC.region ?_)
  refine SL.val (Val.assign rfl) rfl rfl ?_
  refine SL.nil (SE.seq ?_)
  refine SC.seq ?_
  refine SC.block ?_
  refine SC.loop (ι := Nat) (fun z => []) (fun z => [(0, int (n - 3 * (z : Int))), (3, int (z : Nat))]) (fun z => (z : Int) ≤ 100 ∧ (0 < z → 1 ≤ n - 3 * (z : Int))) (fun z => 100 - z) (0) (⟨by decide, by omega⟩) ⟨congrArg (fun q : Int => some (int q)) (by omega : n = n - 3 * ((0 : Nat) : Int)), rfl, trivial⟩ (by repeat first|exact s0 _|exact s1 _|apply s2|apply s3) ?_
  intro z hz
  refine SC.seq ?_
  refine SC.seq (SC.region ?_)
  refine SL.val (Val.move rfl) rfl rfl ?_
  refine SL.val (Val.geI rfl rfl) rfl rfl ?_
  refine SL.nil (SE.seq ?_)
  refine SC.condP rfl ?_ ?_
  rotate_left
  · intro hc5
    refine SC.exit ?_
    refine SE.then_ (by intro h; cases h) ?_
    refine SE.then_ (by intro h; cases h) ?_
    refine SE.exit ?_
    refine SE.seq ?_
    refine SC.seq (SC.region ?_)
    refine SL.val (Val.move rfl) rfl rfl ?_
    refine SL.val (Val.assign rfl) rfl rfl ?_
    refine SL.nil (SE.seq ?_)
    refine SC.ret ?_
    refine SE.fin (rs := [.tmp 2]) rfl (RV.tmp rfl RV.nil) (()) (by repeat first|exact s0 _|exact s1 _|apply s2|apply s3) (by simp [It.rids]) ?_
    refine congrArg int ?_
    omega
  intro hc5
  refine SC.skip ?_
  refine SE.seq ?_
  refine SC.block ?_
  refine SC.seq (SC.region ?_)
  refine SL.val (Val.move rfl) rfl rfl ?_
  first
    | refine SL.val (Val.subI rfl rfl (by simp only [InR, lo, hi]; omega)) rfl rfl ?_
    | refine SL.val (Val.subW rfl rfl) rfl rfl ?_
  refine SL.val (Val.assign rfl) rfl rfl ?_
  refine SL.nil (SE.seq ?_)
  refine SC.seq (SC.region ?_)
  refine SL.val (Val.move rfl) rfl rfl ?_
  first
    | refine SL.val (Val.addI rfl rfl (by simp only [InR, lo, hi]; omega)) rfl rfl ?_
    | refine SL.val (Val.addW rfl rfl) rfl rfl ?_
  refine SL.val (Val.assign rfl) rfl rfl ?_
  refine SL.nil (SE.seq ?_)
  refine SC.seq (SC.region ?_)
  refine SL.val (Val.move rfl) rfl rfl ?_
  refine SL.val (Val.gtI rfl rfl) rfl rfl ?_
  refine SL.nil (SE.seq ?_)
  refine SC.condP rfl (by intro hc11; exfalso; omega) ?_
  intro hc11
  refine SC.skip ?_
  refine SE.inBlock ?_
  refine SE.round (z + 1) (by first | omega | (dsimp only; omega)) (⟨by omega, fun _ => by omega⟩) ⟨congrArg (fun q : Int => some (int q)) (by omega : n - 3 * (z : Int) - 3 = n - 3 * ((z + 1 : Nat) : Int)), rfl, trivial⟩ (by repeat first|exact s0 _|exact s1 _|apply s2|apply s3)
set_option maxHeartbeats 2000000 in
theorem vcheck_s (hl : l.length < 9223372036854775807) (hf : ∀ s ∈ l, s.chg.Sized) : Spec Try.prog 28 [int view, sgnsA l, int n] [] (fun _ : Unit => []) (fun _ => int (chkV view l n)) := by
  refine spec_of Try.func28 rfl Try.ntmps28 rfl fun G w => ?_
  refine SC.seq (SC.region ?_)
  refine SL.val (Val.assign rfl) rfl rfl ?_
  refine SL.nil (SE.seq ?_)
  refine SC.seq ?_
  refine SC.block ?_
  refine SC.seq (SC.region ?_)
  refine SL.val (Val.move rfl) rfl rfl ?_
  refine SL.val (Val.ltI rfl rfl) rfl rfl ?_
  refine SL.val (Val.move rfl) rfl rfl ?_
  refine SL.bothP (t := 13) rfl ?_ ?_
  · intro hc13
    iterate 2 refine SL.skip rfl rfl ?_
    refine SL.val (Val.pickT rfl rfl) rfl rfl ?_
    refine SL.val (Val.assign rfl) rfl rfl ?_
    refine SL.nil (SE.seq ?_)
    refine SC.condT rfl ?_
    refine SC.seq (SC.region ?_)
    refine SL.val (Val.assign rfl) rfl rfl ?_
    refine SL.nil (SE.seq ?_)
    refine SC.ret ?_
    refine SE.ret ?_
    refine SE.then_ (by intro h; cases h) ?_
    refine SE.fin (rs := [.tmp 6]) rfl (RV.tmp rfl RV.nil) (()) (by repeat first|exact s0 _|exact s1 _|apply s2|apply s3) (by simp [It.rids]) ?_
    refine congrArg int ?_
    unfold chkV
    rw [if_pos (by omega)]
  intro hc13
  refine SL.val (Val.move rfl) rfl rfl ?_
  refine SL.val (Val.gtI rfl rfl) rfl rfl ?_
  refine SL.val (Val.pickF rfl rfl) rfl rfl ?_
  refine SL.val (Val.assign rfl) rfl rfl ?_
  refine SL.nil (SE.seq ?_)
  refine SC.condP rfl ?_ ?_
  · intro hc10
    refine SC.seq (SC.region ?_)
    refine SL.val (Val.assign rfl) rfl rfl ?_
    refine SL.nil (SE.seq ?_)
    refine SC.ret ?_
    refine SE.ret ?_
    refine SE.then_ (by intro h; cases h) ?_
    refine SE.fin (rs := [.tmp 6]) rfl (RV.tmp rfl RV.nil) (()) (by repeat first|exact s0 _|exact s1 _|apply s2|apply s3) (by simp [It.rids]) ?_
    refine congrArg int ?_
    unfold chkV
    rw [if_pos (by omega)]
  intro hc10
  refine SC.seq (SC.region ?_)
  refine SL.val (Val.move rfl) rfl rfl ?_
  first
    | refine SL.val (Val.lenSl rfl Try.underlying39 (List.length_map _)) rfl rfl ?_
    | refine SL.val (Val.lenOwn rfl (by repeat first|assumption|exact m0|apply m1) Try.underlying39 (List.length_map _)) rfl rfl ?_
    | refine SL.val (Val.lenNil rfl Try.underlying39) rfl rfl ?_
  refine SL.val (Val.move rfl) rfl rfl ?_
  refine SL.val (Val.gtI rfl rfl) rfl rfl ?_
  refine SL.val (Val.assign rfl) rfl rfl ?_
  refine SL.nil (SE.seq ?_)
  refine SC.condP rfl ?_ ?_
  · intro hc17
    refine SC.seq (SC.region ?_)
    refine SL.val (Val.assign rfl) rfl rfl ?_
    refine SL.nil (SE.seq ?_)
    refine SC.ret ?_
    refine SE.ret ?_
    refine SE.then_ (by intro h; cases h) ?_
    refine SE.fin (rs := [.tmp 6]) rfl (RV.tmp rfl RV.nil) (()) (by repeat first|exact s0 _|exact s1 _|apply s2|apply s3) (by simp [It.rids]) ?_
    refine congrArg int ?_
    unfold chkV
    rw [if_neg (by omega), if_pos (by omega)]
  intro hc17
  refine SC.seq (SC.region ?_)
  refine SL.val (Val.move rfl) rfl rfl ?_
  first
    | refine SL.val (Val.lenSl rfl Try.underlying39 (List.length_map _)) rfl rfl ?_
    | refine SL.val (Val.lenOwn rfl (by repeat first|assumption|exact m0|apply m1) Try.underlying39 (List.length_map _)) rfl rfl ?_
    | refine SL.val (Val.lenNil rfl Try.underlying39) rfl rfl ?_
  refine SL.val (Val.move rfl) rfl rfl ?_
  refine SL.call (quorum_s (n := n) (by omega)) Casts.refl (by kernel_rfl) rfl rfl rfl ?_
  refine After.pure (by repeat first|exact .nil|refine .blk (by repeat first|assumption|exact m0|apply m1) ?_|refine .rd (by repeat first|assumption|exact m0|apply m1) ?_|refine .pc (by repeat first|assumption|exact m0|apply m1) ?_|refine .rdpc (by repeat first|assumption|exact m0|apply m1) ?_) (fun _ => rfl) ?_
  intro _
  refine SL.val (Val.ltI rfl rfl) rfl rfl ?_
  refine SL.val (Val.assign rfl) rfl rfl ?_
  refine SL.nil (SE.seq ?_)
  refine SC.condP rfl ?_ ?_
  · intro hc22
    have hmx := max_div (n := n) (by omega)
    refine SC.seq (SC.region ?_)
    refine SL.val (Val.assign rfl) rfl rfl ?_
    refine SL.nil (SE.seq ?_)
    refine SC.ret ?_
    refine SE.ret ?_
    refine SE.then_ (by intro h; cases h) ?_
    refine SE.fin (rs := [.tmp 6]) rfl (RV.tmp rfl RV.nil) (()) (by repeat first|exact s0 _|exact s1 _|apply s2|apply s3) (by simp [It.rids]) ?_
    refine congrArg int ?_
    unfold chkV
    rw [if_neg (by omega), if_neg (by omega), if_pos (by omega)]
  intro hc22
  have hmx := max_div (n := n) (by omega)
  have hr2 : ¬ (n < 1 ∨ 7 < n) := by omega
  refine SC.skip ?_
  refine SE.inBlock ?_
  refine SE.seq ?_
  refine SC.seq (SC.region ?_)
  refine SL.val (Val.assign rfl) rfl rfl ?_
  refine SL.nil (SE.seq ?_)
  refine SC.seq ?_
  refine SC.seq (SC.region ?_)
  refine SL.val (Val.move rfl) rfl rfl ?_
  first
    | refine SL.val (Val.lenSl rfl Try.underlying39 (List.length_map _)) rfl rfl ?_
    | refine SL.val (Val.lenOwn rfl (by repeat first|assumption|exact m0|apply m1) Try.underlying39 (List.length_map _)) rfl rfl ?_
    | refine SL.val (Val.lenNil rfl Try.underlying39) rfl rfl ?_
  refine SL.val (Val.move rfl) rfl rfl ?_
  refine SL.nil (SE.seq ?_)
  refine SC.block ?_
  refine SC.loop (ι := Nat) (fun z => []) (fun z => [(0, int view), (2, int n), (7, int (lastW l z)), (28, sgnsA l), (29, int (l.length : Nat)), (30, int (z : Nat))]) (fun z => z ≤ l.length ∧ ∀ j (h : j < l.length), j < z → SgnAt view n l j h) (fun z => l.length - z) (0) (⟨Nat.zero_le _, by omega⟩) (by exact ⟨rfl, rfl, rfl, rfl, rfl, rfl, trivial⟩) (by repeat first|exact s0 _|exact s1 _|apply s2|apply s3) ?_
  intro z hz
  refine SC.seq (SC.region ?_)
  refine SL.val (Val.ltI rfl rfl) rfl rfl ?_
  refine SL.nil (SE.seq ?_)
  refine SC.seq ?_
  refine SC.condP rfl ?_ ?_
  rotate_left
  · intro hc31
    refine SC.exit ?_
    refine SE.then_ (by intro h; cases h) ?_
    refine SE.then_ (by intro h; cases h) ?_
    refine SE.exit ?_
    refine SE.seq ?_
    refine SC.seq (SC.region ?_)
    refine SL.val (Val.assign rfl) rfl rfl ?_
    refine SL.nil (SE.seq ?_)
    refine SC.ret ?_
    refine SE.fin (rs := [.tmp 6]) rfl (RV.tmp rfl RV.nil) (()) (by repeat first|exact s0 _|exact s1 _|apply s2|apply s3) (by simp [It.rids]) ?_
    refine congrArg int ?_
    unfold chkV
    rw [if_neg (by omega), if_neg (by omega), if_neg (by omega), yes_iff.2 (sgns_iff.2 fun j hj => hz.2 j hj (by omega))]
    rfl
  intro hc31
  have hlt : z < l.length := by omega
  have hge := lastW_ge hz.1 hz.2
  refine SC.skip ?_
  refine SE.seq ?_
  refine SC.seq ?_
  refine SC.block ?_
  refine SC.seq (SC.region ?_)
  refine SL.val (Val.indexSl tabOk Try.underlying39 rfl rfl rfl rfl (at_map (by omega)) rfl rfl) rfl rfl ?_
  first
    | refine SL.val (Val.loadAR tabOk rfl rfl rfl (by rfl)) rfl rfl ?_
    | refine SL.val (Val.loadPR tabOk rfl rfl rfl (Nat.le_of_ble_eq_true (by rfl))) rfl rfl ?_
  refine SL.eff (Eff.alloc tabOk rfl) rfl rfl ?_
  rintro _ _ ⟨b9, rfl, rfl⟩
  refine SL.eff (Eff.store tabOk rfl rfl rfl (by repeat first|assumption|exact Upd.here|apply Upd.there) (by rfl) (Nat.le_of_ble_eq_true (by rfl)) (by rfl) (by rfl)) rfl rfl ?_
  rintro _ _ ⟨rfl, rfl⟩
  refine SL.nil (SE.seq ?_)
  refine SC.seq ?_
  refine SC.seq (SC.region ?_)
  refine SL.val (Val.fieldAddr tabOk rfl rfl rfl rfl rfl) rfl rfl ?_
  refine SL.val (Val.load1 tabOk rfl rfl (by first|(apply Or.inl;(repeat first|assumption|exact m0|apply m1);done)|(apply Or.inr;(repeat first|assumption|exact m0|apply m1);done)) List.not_mem_nil (by rfl)) rfl rfl ?_
  refine SL.val (Val.move rfl) rfl rfl ?_
  refine SL.val (Val.leI rfl rfl) rfl rfl ?_
  refine SL.val (Val.move rfl) rfl rfl ?_
  refine SL.bothP (t := 38) rfl ?_ ?_
  · intro hc38
    iterate 4 refine SL.skip rfl rfl ?_
    refine SL.val (Val.pickT rfl rfl) rfl rfl ?_
    refine SL.val (Val.move rfl) rfl rfl ?_
    iterate 5 refine SL.skip rfl rfl ?_
    refine SL.val (Val.pickT rfl rfl) rfl rfl ?_
    refine SL.val (Val.move rfl) rfl rfl ?_
    iterate 5 refine SL.skip rfl rfl ?_
    refine SL.val (Val.pickT rfl rfl) rfl rfl ?_
    refine SL.nil (SE.seq ?_)
    refine SC.condT rfl ?_
    refine SC.seq (SC.region ?_)
    refine SL.val (Val.assign rfl) rfl rfl ?_
    refine SL.nil (SE.seq ?_)
    refine SC.ret ?_
    refine SE.then_ (by intro h; cases h) ?_
    refine SE.ret ?_
    refine SE.then_ (by intro h; cases h) ?_
    refine SE.then_ (by intro h; cases h) ?_
    refine SE.ret ?_
    refine SE.then_ (by intro h; cases h) ?_
    refine SE.fin (rs := [.tmp 6]) rfl (RV.tmp rfl RV.nil) (()) (by repeat first|exact s0 _|exact s1 _|apply s2|apply s3) (by simp [It.rids]) ?_
    refine congrArg int ?_
    unfold chkV
    rw [if_neg (by omega), if_neg (by omega), if_neg (by omega), no_iff.2 (by
      rw [sgns_iff]
      intro hall
      have h9 := hall z hlt
      obtain ⟨⟨g1, g2, g3, g4⟩, g5⟩ := h9
      first
        | omega
        | exact hc57 ((check_right hr2).2 g4)
        | (rcases Nat.eq_zero_or_pos z with h0 | h0
           · subst h0
             have h8 : lastW l 0 = -1 := rfl
             omega
           · have h7 := g5 h0
             rw [lastW_at hlt h0] at hc38
             omega))]
    rfl
  intro hc38
  refine SL.val (Val.fieldAddr tabOk rfl rfl rfl rfl rfl) rfl rfl ?_
  refine SL.val (Val.load1 tabOk rfl rfl (by first|(apply Or.inl;(repeat first|assumption|exact m0|apply m1);done)|(apply Or.inr;(repeat first|assumption|exact m0|apply m1);done)) List.not_mem_nil (by rfl)) rfl rfl ?_
  refine SL.val (Val.move rfl) rfl rfl ?_
  refine SL.val (Val.geI rfl rfl) rfl rfl ?_
  refine SL.val (Val.pickF rfl rfl) rfl rfl ?_
  refine SL.val (Val.move rfl) rfl rfl ?_
  refine SL.bothP (t := 44) rfl ?_ ?_
  · intro hc44
    iterate 5 refine SL.skip rfl rfl ?_
    refine SL.val (Val.pickT rfl rfl) rfl rfl ?_
    refine SL.val (Val.move rfl) rfl rfl ?_
    iterate 5 refine SL.skip rfl rfl ?_
    refine SL.val (Val.pickT rfl rfl) rfl rfl ?_
    refine SL.nil (SE.seq ?_)
    refine SC.condT rfl ?_
    refine SC.seq (SC.region ?_)
    refine SL.val (Val.assign rfl) rfl rfl ?_
    refine SL.nil (SE.seq ?_)
    refine SC.ret ?_
    refine SE.then_ (by intro h; cases h) ?_
    refine SE.ret ?_
    refine SE.then_ (by intro h; cases h) ?_
    refine SE.then_ (by intro h; cases h) ?_
    refine SE.ret ?_
    refine SE.then_ (by intro h; cases h) ?_
    refine SE.fin (rs := [.tmp 6]) rfl (RV.tmp rfl RV.nil) (()) (by repeat first|exact s0 _|exact s1 _|apply s2|apply s3) (by simp [It.rids]) ?_
    refine congrArg int ?_
    unfold chkV
    rw [if_neg (by omega), if_neg (by omega), if_neg (by omega), no_iff.2 (by
      rw [sgns_iff]
      intro hall
      have h9 := hall z hlt
      obtain ⟨⟨g1, g2, g3, g4⟩, g5⟩ := h9
      first
        | omega
        | exact hc57 ((check_right hr2).2 g4)
        | (rcases Nat.eq_zero_or_pos z with h0 | h0
           · subst h0
             have h8 : lastW l 0 = -1 := rfl
             omega
           · have h7 := g5 h0
             rw [lastW_at hlt h0] at hc38
             omega))]
    rfl
  intro hc44
  refine SL.val (Val.fieldAddr tabOk rfl rfl rfl rfl rfl) rfl rfl ?_
  refine SL.val (Val.fieldAddr tabOk rfl rfl rfl rfl rfl) rfl rfl ?_
  refine SL.val (Val.load1 tabOk rfl rfl (by first|(apply Or.inl;(repeat first|assumption|exact m0|apply m1);done)|(apply Or.inr;(repeat first|assumption|exact m0|apply m1);done)) List.not_mem_nil (by rfl)) rfl rfl ?_
  refine SL.val (Val.move rfl) rfl rfl ?_
  refine SL.val (Val.neI rfl rfl) rfl rfl ?_
  refine SL.val (Val.pickF rfl rfl) rfl rfl ?_
  refine SL.val (Val.move rfl) rfl rfl ?_
  refine SL.bothP (t := 51) rfl ?_ ?_
  · intro hc51
    iterate 5 refine SL.skip rfl rfl ?_
    refine SL.val (Val.pickT rfl rfl) rfl rfl ?_
    refine SL.nil (SE.seq ?_)
    refine SC.condT rfl ?_
    refine SC.seq (SC.region ?_)
    refine SL.val (Val.assign rfl) rfl rfl ?_
    refine SL.nil (SE.seq ?_)
    refine SC.ret ?_
    refine SE.then_ (by intro h; cases h) ?_
    refine SE.ret ?_
    refine SE.then_ (by intro h; cases h) ?_
    refine SE.then_ (by intro h; cases h) ?_
    refine SE.ret ?_
    refine SE.then_ (by intro h; cases h) ?_
    refine SE.fin (rs := [.tmp 6]) rfl (RV.tmp rfl RV.nil) (()) (by repeat first|exact s0 _|exact s1 _|apply s2|apply s3) (by simp [It.rids]) ?_
    refine congrArg int ?_
    unfold chkV
    rw [if_neg (by omega), if_neg (by omega), if_neg (by omega), no_iff.2 (by
      rw [sgns_iff]
      intro hall
      have h9 := hall z hlt
      obtain ⟨⟨g1, g2, g3, g4⟩, g5⟩ := h9
      first
        | omega
        | exact hc57 ((check_right hr2).2 g4)
        | (rcases Nat.eq_zero_or_pos z with h0 | h0
           · subst h0
             have h8 : lastW l 0 = -1 := rfl
             omega
           · have h7 := g5 h0
             rw [lastW_at hlt h0] at hc38
             omega))]
    rfl
  intro hc51
  refine SL.val (Val.fieldAddr tabOk rfl rfl rfl rfl rfl) rfl rfl ?_
  first
    | refine SL.val (Val.loadA tabOk rfl rfl rfl (by first|(apply Or.inl;(repeat first|assumption|exact m0|apply m1);done)|(apply Or.inr;(repeat first|assumption|exact m0|apply m1);done)) List.not_mem_nil (by rfl)) rfl rfl ?_
    | refine SL.val (Val.loadP tabOk rfl rfl rfl (by first|(apply Or.inl;(repeat first|assumption|exact m0|apply m1);done)|(apply Or.inr;(repeat first|assumption|exact m0|apply m1);done)) List.not_mem_nil (Nat.le_of_ble_eq_true (by rfl))) rfl rfl ?_
  refine SL.val (Val.move rfl) rfl rfl ?_
  refine SL.call (check_s (c := (l[z]'hlt).chg) (n := n) (hf _ (List.getElem_mem hlt)).prep (hf _ (List.getElem_mem hlt)).prop (hf _ (List.getElem_mem hlt)).pts) Casts.refl (by kernel_rfl) rfl rfl rfl ?_
  refine After.pure (by repeat first|exact .nil|refine .blk (by repeat first|assumption|exact m0|apply m1) ?_|refine .rd (by repeat first|assumption|exact m0|apply m1) ?_|refine .pc (by repeat first|assumption|exact m0|apply m1) ?_|refine .rdpc (by repeat first|assumption|exact m0|apply m1) ?_) (fun _ => rfl) ?_
  intro _
  refine SL.val (Val.neI rfl rfl) rfl rfl ?_
  refine SL.val (Val.pickF rfl rfl) rfl rfl ?_
  refine SL.nil (SE.seq ?_)
  refine SC.condP rfl ?_ ?_
  rotate_left
  · intro hc57
    refine SC.skip ?_
    refine SE.seq ?_
    refine SC.region ?_
    refine SL.val (Val.fieldAddr tabOk rfl rfl rfl rfl rfl) rfl rfl ?_
    refine SL.val (Val.load1 tabOk rfl rfl (by first|(apply Or.inl;(repeat first|assumption|exact m0|apply m1);done)|(apply Or.inr;(repeat first|assumption|exact m0|apply m1);done)) List.not_mem_nil (by rfl)) rfl rfl ?_
    refine SL.val (Val.assign rfl) rfl rfl ?_
    refine SL.nil ?_
    refine SE.inBlock ?_
    refine SE.seq ?_
    refine SC.region ?_
    first
      | refine SL.val (Val.addI rfl rfl (by simp only [InR, lo, hi]; omega)) rfl rfl ?_
      | refine SL.val (Val.addW rfl rfl) rfl rfl ?_
    refine SL.val (Val.move rfl) rfl rfl ?_
    refine SL.nil ?_
    refine SE.round (z + 1) (by first | omega | (dsimp only; omega)) (⟨by omega, fun j hj hjz => by
      rcases Nat.lt_or_ge j z with h1 | h1
      · exact hz.2 j hj h1
      obtain rfl : j = z := (by omega)
      refine ⟨⟨by omega, by omega, by omega, (check_right hr2).1 (by omega)⟩, fun h0 => ?_⟩
      rw [lastW_at hlt h0] at hc38
      omega⟩) ⟨rfl, rfl, congrArg (fun q : Int => some (int q)) (lastW_succ hlt).symm, rfl, rfl, rfl, trivial⟩ (by repeat first|exact s0 _|exact s1 _|apply s2|apply s3)
  intro hc57
  refine SC.seq (SC.region ?_)
  refine SL.val (Val.assign rfl) rfl rfl ?_
  refine SL.nil (SE.seq ?_)
  refine SC.ret ?_
  refine SE.then_ (by intro h; cases h) ?_
  refine SE.ret ?_
  refine SE.then_ (by intro h; cases h) ?_
  refine SE.then_ (by intro h; cases h) ?_
  refine SE.ret ?_
  refine SE.then_ (by intro h; cases h) ?_
  refine SE.fin (rs := [.tmp 6]) rfl (RV.tmp rfl RV.nil) (()) (by repeat first|exact s0 _|exact s1 _|apply s2|apply s3) (by simp [It.rids]) ?_
  refine congrArg int ?_
  unfold chkV
  rw [if_neg (by omega), if_neg (by omega), if_neg (by omega), no_iff.2 (by
    rw [sgns_iff]
    intro hall
    have h9 := hall z hlt
    obtain ⟨⟨g1, g2, g3, g4⟩, g5⟩ := h9
    first
      | omega
      | exact hc57 ((check_right hr2).2 g4)
      | (rcases Nat.eq_zero_or_pos z with h0 | h0
         · subst h0
           have h8 : lastW l 0 = -1 := rfl
           omega
         · have h7 := g5 h0
           rw [lastW_at hlt h0] at hc38
           omega))]
  rfl
set_option maxHeartbeats 2000000 in
theorem rvcheck_s (hl : l.length < 9223372036854775807) (hf : ∀ s ∈ l, s.chg.Fit) : Spec Try.prog 29 [int view, sgnsA l, int n] [] (fun _ : Unit => []) (fun _ => int (chkV view l n)) := by
  refine spec_of Try.func29 rfl Try.ntmps29 rfl fun G w => ?_
  refine SC.seq (SC.region ?_)
  refine SL.val (Val.assign rfl) rfl rfl ?_
  refine SL.nil (SE.seq ?_)
  refine SC.seq ?_
  refine SC.seq (SC.region ?_)
  refine SL.val (Val.move rfl) rfl rfl ?_
  refine SL.val (Val.ltI rfl rfl) rfl rfl ?_
  refine SL.val (Val.move rfl) rfl rfl ?_
  refine SL.bothP (t := 11) rfl ?_ ?_
  · intro hc11
    iterate 2 refine SL.skip rfl rfl ?_
    refine SL.val (Val.pickT rfl rfl) rfl rfl ?_
    refine SL.nil (SE.seq ?_)
    refine SC.condT rfl ?_
    refine SC.seq (SC.region ?_)
    refine SL.val (Val.assign rfl) rfl rfl ?_
    refine SL.nil (SE.seq ?_)
    refine SC.ret ?_
    refine SE.then_ (by intro h; cases h) ?_
    refine SE.fin (rs := [.tmp 6]) rfl (RV.tmp rfl RV.nil) (()) (by repeat first|exact s0 _|exact s1 _|apply s2|apply s3) (by simp [It.rids]) ?_
    refine congrArg int ?_
    unfold chkV
    rw [if_pos (by omega)]
  intro hc11
  refine SL.val (Val.move rfl) rfl rfl ?_
  refine SL.val (Val.gtI rfl rfl) rfl rfl ?_
  refine SL.val (Val.pickF rfl rfl) rfl rfl ?_
  refine SL.nil (SE.seq ?_)
  refine SC.condP rfl ?_ ?_
  · intro hc14
    refine SC.seq (SC.region ?_)
    refine SL.val (Val.assign rfl) rfl rfl ?_
    refine SL.nil (SE.seq ?_)
    refine SC.ret ?_
    refine SE.then_ (by intro h; cases h) ?_
    refine SE.fin (rs := [.tmp 6]) rfl (RV.tmp rfl RV.nil) (()) (by repeat first|exact s0 _|exact s1 _|apply s2|apply s3) (by simp [It.rids]) ?_
    refine congrArg int ?_
    unfold chkV
    rw [if_pos (by omega)]
  intro hc14
  refine SC.skip ?_
  refine SE.seq ?_
  refine SC.seq ?_
  refine SC.seq (SC.region ?_)
  refine SL.val (Val.move rfl) rfl rfl ?_
  first
    | refine SL.val (Val.lenSl rfl Try.underlying39 (List.length_map _)) rfl rfl ?_
    | refine SL.val (Val.lenOwn rfl (by repeat first|assumption|exact m0|apply m1) Try.underlying39 (List.length_map _)) rfl rfl ?_
    | refine SL.val (Val.lenNil rfl Try.underlying39) rfl rfl ?_
  refine SL.val (Val.move rfl) rfl rfl ?_
  refine SL.val (Val.gtI rfl rfl) rfl rfl ?_
  refine SL.nil (SE.seq ?_)
  refine SC.condP rfl ?_ ?_
  · intro hc18
    refine SC.seq (SC.region ?_)
    refine SL.val (Val.assign rfl) rfl rfl ?_
    refine SL.nil (SE.seq ?_)
    refine SC.ret ?_
    refine SE.then_ (by intro h; cases h) ?_
    refine SE.fin (rs := [.tmp 6]) rfl (RV.tmp rfl RV.nil) (()) (by repeat first|exact s0 _|exact s1 _|apply s2|apply s3) (by simp [It.rids]) ?_
    refine congrArg int ?_
    unfold chkV
    rw [if_neg (by omega), if_pos (by omega)]
  intro hc18
  refine SC.skip ?_
  refine SE.seq ?_
  refine SC.seq ?_
  refine SC.seq (SC.region ?_)
  refine SL.val (Val.move rfl) rfl rfl ?_
  first
    | refine SL.val (Val.lenSl rfl Try.underlying39 (List.length_map _)) rfl rfl ?_
    | refine SL.val (Val.lenOwn rfl (by repeat first|assumption|exact m0|apply m1) Try.underlying39 (List.length_map _)) rfl rfl ?_
    | refine SL.val (Val.lenNil rfl Try.underlying39) rfl rfl ?_
  refine SL.val (Val.move rfl) rfl rfl ?_
  refine SL.call (rfaults_s (n := n) (by omega)) Casts.refl (by kernel_rfl) rfl rfl rfl ?_
  refine After.pure (by repeat first|exact .nil|refine .blk (by repeat first|assumption|exact m0|apply m1) ?_|refine .rd (by repeat first|assumption|exact m0|apply m1) ?_|refine .pc (by repeat first|assumption|exact m0|apply m1) ?_|refine .rdpc (by repeat first|assumption|exact m0|apply m1) ?_) (fun _ => rfl) ?_
  intro _
  first
    | refine SL.val (Val.mulI rfl rfl (by simp only [InR, lo, hi]; omega)) rfl rfl ?_
    | refine SL.val (Val.mulW rfl rfl) rfl rfl ?_
  first
    | refine SL.val (Val.addI rfl rfl (by simp only [InR, lo, hi]; omega)) rfl rfl ?_
    | refine SL.val (Val.addW rfl rfl) rfl rfl ?_
  refine SL.val (Val.ltI rfl rfl) rfl rfl ?_
  refine SL.nil (SE.seq ?_)
  refine SC.condP rfl ?_ ?_
  · intro hc25
    have hmx := max_div (n := n) (by omega)
    refine SC.seq (SC.region ?_)
    refine SL.val (Val.assign rfl) rfl rfl ?_
    refine SL.nil (SE.seq ?_)
    refine SC.ret ?_
    refine SE.then_ (by intro h; cases h) ?_
    refine SE.fin (rs := [.tmp 6]) rfl (RV.tmp rfl RV.nil) (()) (by repeat first|exact s0 _|exact s1 _|apply s2|apply s3) (by simp [It.rids]) ?_
    refine congrArg int ?_
    unfold chkV
    rw [if_neg (by omega), if_neg (by omega), if_pos (by omega)]
  intro hc25
  have hmx := max_div (n := n) (by omega)
  refine SC.skip ?_
  refine SE.seq ?_
  refine SC.seq ?_
  refine SC.seq (SC.region ?_)
  refine SL.val (Val.move rfl) rfl rfl ?_
  first
    | refine SL.val (Val.lenSl rfl Try.underlying39 (List.length_map _)) rfl rfl ?_
    | refine SL.val (Val.lenOwn rfl (by repeat first|assumption|exact m0|apply m1) Try.underlying39 (List.length_map _)) rfl rfl ?_
    | refine SL.val (Val.lenNil rfl Try.underlying39) rfl rfl ?_
  refine SL.val (Val.move rfl) rfl rfl ?_
  refine SL.nil (SE.seq ?_)
  refine SC.block ?_
  refine SC.loop (ι := Nat) (fun z => []) (fun z => [(0, int view), (1, sgnsA l), (2, int n), (26, sgnsA l), (27, int (l.length : Nat)), (28, int (z : Nat))]) (fun z => z ≤ l.length ∧ ∀ j (h : j < l.length), j < z → SgnAt view n l j h) (fun z => l.length - z) (0) (⟨Nat.zero_le _, by omega⟩) (by exact ⟨rfl, rfl, rfl, rfl, rfl, rfl, trivial⟩) (by repeat first|exact s0 _|exact s1 _|apply s2|apply s3) ?_
  intro z hz
  refine SC.seq (SC.region ?_)
  refine SL.val (Val.ltI rfl rfl) rfl rfl ?_
  refine SL.nil (SE.seq ?_)
  refine SC.seq ?_
  refine SC.condP rfl ?_ ?_
  rotate_left
  · intro hc29
    refine SC.exit ?_
    refine SE.then_ (by intro h; cases h) ?_
    refine SE.then_ (by intro h; cases h) ?_
    refine SE.exit ?_
    refine SE.seq ?_
    refine SC.seq (SC.region ?_)
    refine SL.val (Val.assign rfl) rfl rfl ?_
    refine SL.nil (SE.seq ?_)
    refine SC.ret ?_
    refine SE.fin (rs := [.tmp 6]) rfl (RV.tmp rfl RV.nil) (()) (by repeat first|exact s0 _|exact s1 _|apply s2|apply s3) (by simp [It.rids]) ?_
    refine congrArg int ?_
    unfold chkV
    rw [if_neg (by omega), if_neg (by omega), if_neg (by omega), yes_iff.2 (sgns_iff.2 fun j hj => hz.2 j hj (by omega))]
    rfl
  intro hc29
  have hlt : z < l.length := by omega
  refine SC.skip ?_
  refine SE.seq ?_
  refine SC.seq ?_
  refine SC.block ?_
  refine SC.seq (SC.region ?_)
  refine SL.val (Val.move rfl) rfl rfl ?_
  refine SL.val (Val.indexSl tabOk Try.underlying39 rfl rfl rfl rfl (at_map (by omega)) rfl rfl) rfl rfl ?_
  first
    | refine SL.val (Val.loadAR tabOk rfl rfl rfl (by rfl)) rfl rfl ?_
    | refine SL.val (Val.loadPR tabOk rfl rfl rfl (Nat.le_of_ble_eq_true (by rfl))) rfl rfl ?_
  refine SL.eff (Eff.alloc tabOk rfl) rfl rfl ?_
  rintro _ _ ⟨b8, rfl, rfl⟩
  refine SL.val (Val.assign rfl) rfl rfl ?_
  refine SL.eff (Eff.store tabOk rfl rfl rfl (by repeat first|assumption|exact Upd.here|apply Upd.there) (by rfl) (Nat.le_of_ble_eq_true (by rfl)) (by rfl) (by rfl)) rfl rfl ?_
  rintro _ _ ⟨rfl, rfl⟩
  refine SL.nil (SE.seq ?_)
  refine SC.seq ?_
  refine SC.draw [] (.q 0 (.q 1 (.q 2 (.q 3 (.q 4 (.q 5 (.q 6 (.q 7 (.q 8 (.q 9 (.q 10 (.q 11 (.q 12 (.q 13 (.q 14 (.q 15 (.q 16 (.q 17 (.q 18 (.q 19 (.q 20 (.q 21 (.q 22 (.q 23 (.q 24 (.q 25 (.q 26 (.q 27 (.q 28 (.q 29 (.q 30 (.q 31 (.q 32 (.q 33 (.q 34 (.e 35 (.q 36 (.q 37 .nil)))))))))))))))))))))))))))))))))))))) (by kernel_rfl) (by kernel_rfl) ?_
  refine SX.val rfl (Val.fieldAddr tabOk rfl rfl rfl rfl rfl) (by simp) rfl rfl ?_
  refine SX.val rfl (Val.load1 tabOk rfl rfl (by first|(apply Or.inl;(repeat first|assumption|exact m0|apply m1);done)|(apply Or.inr;(repeat first|assumption|exact m0|apply m1);done)) List.not_mem_nil (by rfl)) (by simp) rfl rfl ?_
  refine SX.val rfl (Val.ltI rfl rfl) (by simp) rfl rfl ?_
  refine SX.val rfl (Val.move rfl) (by simp) rfl rfl ?_
  refine SX.bothP (t := 36) rfl ?_ ?_
  · intro hc36
    iterate 4 refine SX.skip rfl rfl rfl ?_
    refine SX.val rfl (Val.pickT rfl rfl) (by simp) rfl rfl ?_
    refine SX.val rfl (Val.move rfl) (by simp) rfl rfl ?_
    iterate 13 refine SX.skip rfl rfl rfl ?_
    refine SX.val rfl (Val.pickT rfl rfl) (by simp) rfl rfl ?_
    refine SX.val rfl (Val.move rfl) (by simp) rfl rfl ?_
    iterate 5 refine SX.skip rfl rfl rfl ?_
    refine SX.val rfl (Val.pickT rfl rfl) (by simp) rfl rfl ?_
    refine SX.val rfl (Val.move rfl) (by simp) rfl rfl ?_
    iterate 3 refine SX.skip rfl rfl rfl ?_
    refine SX.skip' rfl rfl rfl ?_
    refine SX.skip rfl rfl rfl ?_
    refine SX.val rfl (Val.pickT rfl rfl) (by simp) rfl rfl ?_
    refine SX.nil (SE.seq ?_)
    refine SC.condT rfl ?_
    refine SC.seq (SC.region ?_)
    refine SL.val (Val.assign rfl) rfl rfl ?_
    refine SL.nil (SE.seq ?_)
    refine SC.ret ?_
    refine SE.ret ?_
    refine SE.then_ (by intro h; cases h) ?_
    refine SE.then_ (by intro h; cases h) ?_
    refine SE.ret ?_
    refine SE.then_ (by intro h; cases h) ?_
    refine SE.fin (rs := [.tmp 6]) rfl (RV.tmp rfl RV.nil) (()) (by repeat first|exact s0 _|exact s1 _|apply s2|apply s3) (by simp [It.rids]) ?_
    refine congrArg int ?_
    unfold chkV
    rw [if_neg (by omega), if_neg (by omega), if_neg (by omega), no_iff.2 (by
      rw [sgns_iff]
      intro hall
      have h9 := hall z hlt
      obtain ⟨⟨g1, g2, g3, g4⟩, g5⟩ := h9
      first
        | omega
        | (have h8 := g5 (by omega)
           omega)
        | (have h8 := yes_iff.2 g4
           simp [h8] at hc70))]
    rfl
  intro hc36
  refine SX.val rfl (Val.fieldAddr tabOk rfl rfl rfl rfl rfl) (by simp) rfl rfl ?_
  refine SX.val rfl (Val.load1 tabOk rfl rfl (by first|(apply Or.inl;(repeat first|assumption|exact m0|apply m1);done)|(apply Or.inr;(repeat first|assumption|exact m0|apply m1);done)) List.not_mem_nil (by rfl)) (by simp) rfl rfl ?_
  refine SX.val rfl (Val.move rfl) (by simp) rfl rfl ?_
  refine SX.val rfl (Val.geI rfl rfl) (by simp) rfl rfl ?_
  refine SX.val rfl (Val.pickF rfl rfl) (by simp) rfl rfl ?_
  refine SX.val rfl (Val.move rfl) (by simp) rfl rfl ?_
  refine SX.bothP (t := 42) rfl ?_ ?_
  · intro hc42
    iterate 13 refine SX.skip rfl rfl rfl ?_
    refine SX.val rfl (Val.pickT rfl rfl) (by simp) rfl rfl ?_
    refine SX.val rfl (Val.move rfl) (by simp) rfl rfl ?_
    iterate 5 refine SX.skip rfl rfl rfl ?_
    refine SX.val rfl (Val.pickT rfl rfl) (by simp) rfl rfl ?_
    refine SX.val rfl (Val.move rfl) (by simp) rfl rfl ?_
    iterate 3 refine SX.skip rfl rfl rfl ?_
    refine SX.skip' rfl rfl rfl ?_
    refine SX.skip rfl rfl rfl ?_
    refine SX.val rfl (Val.pickT rfl rfl) (by simp) rfl rfl ?_
    refine SX.nil (SE.seq ?_)
    refine SC.condT rfl ?_
    refine SC.seq (SC.region ?_)
    refine SL.val (Val.assign rfl) rfl rfl ?_
    refine SL.nil (SE.seq ?_)
    refine SC.ret ?_
    refine SE.ret ?_
    refine SE.then_ (by intro h; cases h) ?_
    refine SE.then_ (by intro h; cases h) ?_
    refine SE.ret ?_
    refine SE.then_ (by intro h; cases h) ?_
    refine SE.fin (rs := [.tmp 6]) rfl (RV.tmp rfl RV.nil) (()) (by repeat first|exact s0 _|exact s1 _|apply s2|apply s3) (by simp [It.rids]) ?_
    refine congrArg int ?_
    unfold chkV
    rw [if_neg (by omega), if_neg (by omega), if_neg (by omega), no_iff.2 (by
      rw [sgns_iff]
      intro hall
      have h9 := hall z hlt
      obtain ⟨⟨g1, g2, g3, g4⟩, g5⟩ := h9
      first
        | omega
        | (have h8 := g5 (by omega)
           omega)
        | (have h8 := yes_iff.2 g4
           simp [h8] at hc70))]
    rfl
  intro hc42
  refine SX.val rfl (Val.move rfl) (by simp) rfl rfl ?_
  refine SX.val rfl (Val.gtI rfl rfl) (by simp) rfl rfl ?_
  refine SX.val rfl (Val.move rfl) (by simp) rfl rfl ?_
  refine SX.bothP (t := 45) rfl ?_ ?_
  rotate_left
  · intro hc45
    iterate 9 refine SX.skip rfl rfl rfl ?_
    refine SX.val rfl (Val.pickF rfl rfl) (by simp) rfl rfl ?_
    refine SX.val rfl (Val.pickF rfl rfl) (by simp) rfl rfl ?_
    refine SX.val rfl (Val.move rfl) (by simp) rfl rfl ?_
    refine SX.val rfl (Val.fieldAddr tabOk rfl rfl rfl rfl rfl) (by simp) rfl rfl ?_
    refine SX.val rfl (Val.fieldAddr tabOk rfl rfl rfl rfl rfl) (by simp) rfl rfl ?_
    refine SX.val rfl (Val.load1 tabOk rfl rfl (by first|(apply Or.inl;(repeat first|assumption|exact m0|apply m1);done)|(apply Or.inr;(repeat first|assumption|exact m0|apply m1);done)) List.not_mem_nil (by rfl)) (by simp) rfl rfl ?_
    refine SX.val rfl (Val.move rfl) (by simp) rfl rfl ?_
    refine SX.val rfl (Val.neI rfl rfl) (by simp) rfl rfl ?_
    refine SX.val rfl (Val.pickF rfl rfl) (by simp) rfl rfl ?_
    refine SX.val rfl (Val.move rfl) (by simp) rfl rfl ?_
    refine SX.bothP (t := 64) rfl ?_ ?_
    · intro hc64
      iterate 3 refine SX.skip rfl rfl rfl ?_
      refine SX.skip' rfl rfl rfl ?_
      refine SX.skip rfl rfl rfl ?_
      refine SX.val rfl (Val.pickT rfl rfl) (by simp) rfl rfl ?_
      refine SX.nil (SE.seq ?_)
      refine SC.condT rfl ?_
      refine SC.seq (SC.region ?_)
      refine SL.val (Val.assign rfl) rfl rfl ?_
      refine SL.nil (SE.seq ?_)
      refine SC.ret ?_
      refine SE.ret ?_
      refine SE.then_ (by intro h; cases h) ?_
      refine SE.then_ (by intro h; cases h) ?_
      refine SE.ret ?_
      refine SE.then_ (by intro h; cases h) ?_
      refine SE.fin (rs := [.tmp 6]) rfl (RV.tmp rfl RV.nil) (()) (by repeat first|exact s0 _|exact s1 _|apply s2|apply s3) (by simp [It.rids]) ?_
      refine congrArg int ?_
      unfold chkV
      rw [if_neg (by omega), if_neg (by omega), if_neg (by omega), no_iff.2 (by
        rw [sgns_iff]
        intro hall
        have h9 := hall z hlt
        obtain ⟨⟨g1, g2, g3, g4⟩, g5⟩ := h9
        first
          | omega
          | (have h8 := g5 (by omega)
             omega)
          | (have h8 := yes_iff.2 g4
             simp [h8] at hc70))]
      rfl
    intro hc64
    refine SX.val rfl (Val.fieldAddr tabOk rfl rfl rfl rfl rfl) (by simp) rfl rfl ?_
    first
      | refine SX.val rfl (Val.loadA tabOk rfl rfl rfl (by first|(apply Or.inl;(repeat first|assumption|exact m0|apply m1);done)|(apply Or.inr;(repeat first|assumption|exact m0|apply m1);done)) List.not_mem_nil (by rfl)) (by simp) rfl rfl ?_
      | refine SX.val rfl (Val.loadP tabOk rfl rfl rfl (by first|(apply Or.inl;(repeat first|assumption|exact m0|apply m1);done)|(apply Or.inr;(repeat first|assumption|exact m0|apply m1);done)) List.not_mem_nil (Nat.le_of_ble_eq_true (by rfl))) (by simp) rfl rfl ?_
    refine SX.val rfl (Val.move rfl) (by simp) rfl rfl ?_
    refine SX.call rfl (right_s (c := (l[z]'hlt).chg) (n := n) (hf _ (List.getElem_mem hlt)).prep (hf _ (List.getElem_mem hlt)).prop (hf _ (List.getElem_mem hlt)).pts (hf _ (List.getElem_mem hlt)).lprep (hf _ (List.getElem_mem hlt)).lprop) (by simp [mids, It.mids]) Casts.refl (by kernel_rfl) rfl rfl rfl ?_
    refine After.pure (by repeat first|exact .nil|refine .blk (by repeat first|assumption|exact m0|apply m1) ?_|refine .rd (by repeat first|assumption|exact m0|apply m1) ?_|refine .pc (by repeat first|assumption|exact m0|apply m1) ?_|refine .rdpc (by repeat first|assumption|exact m0|apply m1) ?_) (fun _ => rfl) ?_
    intro _
    refine SX.val rfl (Val.notB rfl) (by simp) rfl rfl ?_
    refine SX.val rfl (Val.pickF rfl rfl) (by simp) rfl rfl ?_
    refine SX.nil (SE.seq ?_)
    refine SC.cond rfl ?_ ?_
    rotate_left
    · intro hc70
      refine SC.skip ?_
      refine SE.inBlock ?_
      refine SE.seq ?_
      refine SC.region ?_
      first
        | refine SL.val (Val.addI rfl rfl (by simp only [InR, lo, hi]; omega)) rfl rfl ?_
        | refine SL.val (Val.addW rfl rfl) rfl rfl ?_
      refine SL.val (Val.move rfl) rfl rfl ?_
      refine SL.nil ?_
      refine SE.round (z + 1) (by first | omega | (dsimp only; omega)) (⟨by omega, fun j hj hjz => by
        rcases Nat.lt_or_ge j z with h1 | h1
        · exact hz.2 j hj h1
        obtain rfl : j = z := (by omega)
        exact ⟨⟨by omega, by omega, by omega, yes_iff.1 (by simpa using hc70)⟩, fun h0 => by omega⟩⟩) (by exact ⟨rfl, rfl, rfl, rfl, rfl, rfl, trivial⟩) (by repeat first|exact s0 _|exact s1 _|apply s2|apply s3)
    intro hc70
    refine SC.seq (SC.region ?_)
    refine SL.val (Val.assign rfl) rfl rfl ?_
    refine SL.nil (SE.seq ?_)
    refine SC.ret ?_
    refine SE.ret ?_
    refine SE.then_ (by intro h; cases h) ?_
    refine SE.then_ (by intro h; cases h) ?_
    refine SE.ret ?_
    refine SE.then_ (by intro h; cases h) ?_
    refine SE.fin (rs := [.tmp 6]) rfl (RV.tmp rfl RV.nil) (()) (by repeat first|exact s0 _|exact s1 _|apply s2|apply s3) (by simp [It.rids]) ?_
    refine congrArg int ?_
    unfold chkV
    rw [if_neg (by omega), if_neg (by omega), if_neg (by omega), no_iff.2 (by
      rw [sgns_iff]
      intro hall
      have h9 := hall z hlt
      obtain ⟨⟨g1, g2, g3, g4⟩, g5⟩ := h9
      first
        | omega
        | (have h8 := g5 (by omega)
           omega)
        | (have h8 := yes_iff.2 g4
           simp [h8] at hc70))]
    rfl
  intro hc45
  refine SX.val rfl (Val.move rfl) (by simp) rfl rfl ?_
  refine SX.val rfl (Val.move rfl) (by simp) rfl rfl ?_
  first
    | refine SX.val rfl (Val.subI rfl rfl (by simp only [InR, lo, hi]; omega)) (by simp) rfl rfl ?_
    | refine SX.val rfl (Val.subW rfl rfl) (by simp) rfl rfl ?_
  refine SX.val rfl (Val.indexSl (q := z - 1) tabOk Try.underlying39 rfl rfl rfl (by omega) (at_map (by omega)) rfl rfl) (by first|(simp[mids,It.mids,ownPc];done)|(intro k hk;simp[mids,It.mids,ownPc] at hk ⊢;grind)) rfl rfl ?_
  refine SX.val rfl (Val.fieldAddrR tabOk rfl rfl rfl rfl rfl) (by simp) rfl rfl ?_
  refine SX.val rfl (Val.load1R tabOk rfl rfl rfl) (by simp) rfl rfl ?_
  refine SX.val rfl (Val.fieldAddr tabOk rfl rfl rfl rfl rfl) (by simp) rfl rfl ?_
  refine SX.val rfl (Val.load1 tabOk rfl rfl (by first|(apply Or.inl;(repeat first|assumption|exact m0|apply m1);done)|(apply Or.inr;(repeat first|assumption|exact m0|apply m1);done)) List.not_mem_nil (by rfl)) (by simp) rfl rfl ?_
  refine SX.val rfl (Val.geI rfl rfl) (by simp) rfl rfl ?_
  refine SX.val rfl (Val.pickT rfl rfl) (by simp) rfl rfl ?_
  refine SX.val rfl (Val.pickF rfl rfl) (by simp) rfl rfl ?_
  refine SX.val rfl (Val.move rfl) (by simp) rfl rfl ?_
  refine SX.bothP (t := 57) rfl ?_ ?_
  · intro hc57
    iterate 5 refine SX.skip rfl rfl rfl ?_
    refine SX.val rfl (Val.pickT rfl rfl) (by simp) rfl rfl ?_
    refine SX.val rfl (Val.move rfl) (by simp) rfl rfl ?_
    iterate 3 refine SX.skip rfl rfl rfl ?_
    refine SX.skip' rfl rfl rfl ?_
    refine SX.skip rfl rfl rfl ?_
    refine SX.val rfl (Val.pickT rfl rfl) (by simp) rfl rfl ?_
    refine SX.nil (SE.seq ?_)
    refine SC.condT rfl ?_
    refine SC.seq (SC.region ?_)
    refine SL.val (Val.assign rfl) rfl rfl ?_
    refine SL.nil (SE.seq ?_)
    refine SC.ret ?_
    refine SE.ret ?_
    refine SE.then_ (by intro h; cases h) ?_
    refine SE.then_ (by intro h; cases h) ?_
    refine SE.ret ?_
    refine SE.then_ (by intro h; cases h) ?_
    refine SE.fin (rs := [.tmp 6]) rfl (RV.tmp rfl RV.nil) (()) (by repeat first|exact s0 _|exact s1 _|apply s2|apply s3) (by simp [It.rids]) ?_
    refine congrArg int ?_
    unfold chkV
    rw [if_neg (by omega), if_neg (by omega), if_neg (by omega), no_iff.2 (by
      rw [sgns_iff]
      intro hall
      have h9 := hall z hlt
      obtain ⟨⟨g1, g2, g3, g4⟩, g5⟩ := h9
      first
        | omega
        | (have h8 := g5 (by omega)
           omega)
        | (have h8 := yes_iff.2 g4
           simp [h8] at hc70))]
    rfl
  intro hc57
  refine SX.val rfl (Val.fieldAddr tabOk rfl rfl rfl rfl rfl) (by simp) rfl rfl ?_
  refine SX.val rfl (Val.fieldAddr tabOk rfl rfl rfl rfl rfl) (by simp) rfl rfl ?_
  refine SX.val rfl (Val.load1 tabOk rfl rfl (by first|(apply Or.inl;(repeat first|assumption|exact m0|apply m1);done)|(apply Or.inr;(repeat first|assumption|exact m0|apply m1);done)) List.not_mem_nil (by rfl)) (by simp) rfl rfl ?_
  refine SX.val rfl (Val.move rfl) (by simp) rfl rfl ?_
  refine SX.val rfl (Val.neI rfl rfl) (by simp) rfl rfl ?_
  refine SX.val rfl (Val.pickF rfl rfl) (by simp) rfl rfl ?_
  refine SX.val rfl (Val.move rfl) (by simp) rfl rfl ?_
  refine SX.bothP (t := 64) rfl ?_ ?_
  · intro hc64
    iterate 3 refine SX.skip rfl rfl rfl ?_
    refine SX.skip' rfl rfl rfl ?_
    refine SX.skip rfl rfl rfl ?_
    refine SX.val rfl (Val.pickT rfl rfl) (by simp) rfl rfl ?_
    refine SX.nil (SE.seq ?_)
    refine SC.condT rfl ?_
    refine SC.seq (SC.region ?_)
    refine SL.val (Val.assign rfl) rfl rfl ?_
    refine SL.nil (SE.seq ?_)
    refine SC.ret ?_
    refine SE.ret ?_
    refine SE.then_ (by intro h; cases h) ?_
    refine SE.then_ (by intro h; cases h) ?_
    refine SE.ret ?_
    refine SE.then_ (by intro h; cases h) ?_
    refine SE.fin (rs := [.tmp 6]) rfl (RV.tmp rfl RV.nil) (()) (by repeat first|exact s0 _|exact s1 _|apply s2|apply s3) (by simp [It.rids]) ?_
    refine congrArg int ?_
    unfold chkV
    rw [if_neg (by omega), if_neg (by omega), if_neg (by omega), no_iff.2 (by
      rw [sgns_iff]
      intro hall
      have h9 := hall z hlt
      obtain ⟨⟨g1, g2, g3, g4⟩, g5⟩ := h9
      first
        | omega
        | (have h8 := g5 (by omega)
           omega)
        | (have h8 := yes_iff.2 g4
           simp [h8] at hc70))]
    rfl
  intro hc64
  refine SX.val rfl (Val.fieldAddr tabOk rfl rfl rfl rfl rfl) (by simp) rfl rfl ?_
  first
    | refine SX.val rfl (Val.loadA tabOk rfl rfl rfl (by first|(apply Or.inl;(repeat first|assumption|exact m0|apply m1);done)|(apply Or.inr;(repeat first|assumption|exact m0|apply m1);done)) List.not_mem_nil (by rfl)) (by simp) rfl rfl ?_
    | refine SX.val rfl (Val.loadP tabOk rfl rfl rfl (by first|(apply Or.inl;(repeat first|assumption|exact m0|apply m1);done)|(apply Or.inr;(repeat first|assumption|exact m0|apply m1);done)) List.not_mem_nil (Nat.le_of_ble_eq_true (by rfl))) (by simp) rfl rfl ?_
  refine SX.val rfl (Val.move rfl) (by simp) rfl rfl ?_
  refine SX.call rfl (right_s (c := (l[z]'hlt).chg) (n := n) (hf _ (List.getElem_mem hlt)).prep (hf _ (List.getElem_mem hlt)).prop (hf _ (List.getElem_mem hlt)).pts (hf _ (List.getElem_mem hlt)).lprep (hf _ (List.getElem_mem hlt)).lprop) (by simp [mids, It.mids]) Casts.refl (by kernel_rfl) rfl rfl rfl ?_
  refine After.pure (by repeat first|exact .nil|refine .blk (by repeat first|assumption|exact m0|apply m1) ?_|refine .rd (by repeat first|assumption|exact m0|apply m1) ?_|refine .pc (by repeat first|assumption|exact m0|apply m1) ?_|refine .rdpc (by repeat first|assumption|exact m0|apply m1) ?_) (fun _ => rfl) ?_
  intro _
  refine SX.val rfl (Val.notB rfl) (by simp) rfl rfl ?_
  refine SX.val rfl (Val.pickF rfl rfl) (by simp) rfl rfl ?_
  refine SX.nil (SE.seq ?_)
  refine SC.cond rfl ?_ ?_
  rotate_left
  · intro hc70
    refine SC.skip ?_
    refine SE.inBlock ?_
    refine SE.seq ?_
    refine SC.region ?_
    first
      | refine SL.val (Val.addI rfl rfl (by simp only [InR, lo, hi]; omega)) rfl rfl ?_
      | refine SL.val (Val.addW rfl rfl) rfl rfl ?_
    refine SL.val (Val.move rfl) rfl rfl ?_
    refine SL.nil ?_
    refine SE.round (z + 1) (by first | omega | (dsimp only; omega)) (⟨by omega, fun j hj hjz => by
      rcases Nat.lt_or_ge j z with h1 | h1
      · exact hz.2 j hj h1
      obtain rfl : j = z := (by omega)
      exact ⟨⟨by omega, by omega, by omega, yes_iff.1 (by simpa using hc70)⟩, fun h0 => by omega⟩⟩) (by exact ⟨rfl, rfl, rfl, rfl, rfl, rfl, trivial⟩) (by repeat first|exact s0 _|exact s1 _|apply s2|apply s3)
  intro hc70
  refine SC.seq (SC.region ?_)
  refine SL.val (Val.assign rfl) rfl rfl ?_
  refine SL.nil (SE.seq ?_)
  refine SC.ret ?_
  refine SE.ret ?_
  refine SE.then_ (by intro h; cases h) ?_
  refine SE.then_ (by intro h; cases h) ?_
  refine SE.ret ?_
  refine SE.then_ (by intro h; cases h) ?_
  refine SE.fin (rs := [.tmp 6]) rfl (RV.tmp rfl RV.nil) (()) (by repeat first|exact s0 _|exact s1 _|apply s2|apply s3) (by simp [It.rids]) ?_
  refine congrArg int ?_
  unfold chkV
  rw [if_neg (by omega), if_neg (by omega), if_neg (by omega), no_iff.2 (by
    rw [sgns_iff]
    intro hall
    have h9 := hall z hlt
    obtain ⟨⟨g1, g2, g3, g4⟩, g5⟩ := h9
    first
      | omega
      | (have h8 := g5 (by omega)
         omega)
      | (have h8 := yes_iff.2 g4
         simp [h8] at hc70))]
  rfl
theorem sgn_le {s : Sgn} (h : s.chg.bytes.length ≤ 800000) : s.bytes.length ≤ 800005 := by
  unfold Sgn.bytes rowB
  simp only [List.length_append, beBytes_length]
  omega
set_option maxHeartbeats 2000000 in
theorem vbytes_s (hl : l.length ≤ 1000) (hf : ∀ s ∈ l, s.chg.Few ∧ s.chg.bytes.length ≤ 800000) : Spec Try.prog 27 [int view, sgnsA l] [] (fun _ : Unit => []) (fun _ => byt (viewB view l)) := by
  have hL : lots = 100000000000 := rfl
  refine spec_of Try.func27 rfl Try.ntmps27 rfl fun G w => ?_
  refine SC.seq (SC.region ?_)
  refine SL.val (Val.assign rfl) rfl rfl ?_
  refine SL.nil (SE.seq ?_)
  refine SC.seq (SC.region ?_)
  refine SL.val (Val.move rfl) rfl rfl ?_
  first
    | refine SL.val (Val.convI rfl Try.underlying166 (by kernel_rfl) (by simp only [InR, lo, hi]; omega)) rfl rfl ?_
    | refine SL.val (Val.convU rfl Try.underlying166 (by kernel_rfl)) rfl rfl ?_
  refine SL.call (put_s (l := []) (x := u64 view) (n := 8) (Nat.zero_le _) (u64_lt _) rfl) (Casts.cons (fun _ _ _ h => rep_nil h) Casts.refl) (by kernel_rfl) rfl rfl rfl ?_
  refine After.pure (by repeat first|exact .nil|refine .blk (by repeat first|assumption|exact m0|apply m1) ?_|refine .rd (by repeat first|assumption|exact m0|apply m1) ?_|refine .pc (by repeat first|assumption|exact m0|apply m1) ?_|refine .rdpc (by repeat first|assumption|exact m0|apply m1) ?_) (fun _ => rfl) ?_
  intro _
  refine SL.val (Val.move rfl) rfl rfl ?_
  first
    | refine SL.val (Val.lenSl rfl Try.underlying39 (List.length_map _)) rfl rfl ?_
    | refine SL.val (Val.lenOwn rfl (by repeat first|assumption|exact m0|apply m1) Try.underlying39 (List.length_map _)) rfl rfl ?_
    | refine SL.val (Val.lenNil rfl Try.underlying39) rfl rfl ?_
  first
    | refine SL.val (Val.convI rfl Try.underlying166 (by kernel_rfl) (by simp only [InR, lo, hi]; omega)) rfl rfl ?_
    | refine SL.val (Val.convU rfl Try.underlying166 (by kernel_rfl)) rfl rfl ?_
  refine SL.call (put_s (l := [] ++ beBytes (u64 view) 8) (x := l.length) (n := 2) (by simp [beBytes_length]; omega) (by omega) rfl) Casts.refl (by kernel_rfl) rfl rfl rfl ?_
  refine After.pure (by repeat first|exact .nil|refine .blk (by repeat first|assumption|exact m0|apply m1) ?_|refine .rd (by repeat first|assumption|exact m0|apply m1) ?_|refine .pc (by repeat first|assumption|exact m0|apply m1) ?_|refine .rdpc (by repeat first|assumption|exact m0|apply m1) ?_) (fun _ => rfl) ?_
  intro _
  refine SL.val (Val.assign rfl) rfl rfl ?_
  refine SL.nil (SE.seq ?_)
  refine SC.seq ?_
  refine SC.seq (SC.region ?_)
  refine SL.val (Val.move rfl) rfl rfl ?_
  first
    | refine SL.val (Val.lenSl rfl Try.underlying39 (List.length_map _)) rfl rfl ?_
    | refine SL.val (Val.lenOwn rfl (by repeat first|assumption|exact m0|apply m1) Try.underlying39 (List.length_map _)) rfl rfl ?_
    | refine SL.val (Val.lenNil rfl Try.underlying39) rfl rfl ?_
  refine SL.val (Val.move rfl) rfl rfl ?_
  refine SL.nil (SE.seq ?_)
  refine SC.block ?_
  refine SC.loop (ι := Nat) (fun z => []) (fun z => [(5, byt (beBytes (u64 view) 8 ++ beBytes l.length 2 ++ (l.take z).flatMap Sgn.bytes)), (15, sgnsA l), (16, int (l.length : Nat)), (17, int (z : Nat))]) (fun z => z ≤ l.length) (fun z => l.length - z) (0) (Nat.zero_le _) ⟨congrArg (fun m => some (byt m)) (by simp), rfl, rfl, rfl, trivial⟩ (by repeat first|exact s0 _|exact s1 _|apply s2|apply s3) ?_
  intro z hz
  have hlen : (beBytes (u64 view) 8 ++ beBytes l.length 2 ++ (l.take z).flatMap Sgn.bytes).length ≤ 10 + 1000 * 800005 := by
    have h0 := flat_length (f := Sgn.bytes) (B := 800005) (xs := l.take z) (fun s hs => sgn_le (hf s (List.mem_of_mem_take hs)).2)
    have h9 : (l.take z).length ≤ l.length := by simp; omega
    have h8 : (l.take z).length * 800005 ≤ 1000 * 800005 := Nat.mul_le_mul_right _ (by omega)
    simp only [List.length_append, beBytes_length]
    omega
  refine SC.seq (SC.region ?_)
  refine SL.val (Val.ltI rfl rfl) rfl rfl ?_
  refine SL.nil (SE.seq ?_)
  refine SC.seq ?_
  refine SC.condP rfl ?_ ?_
  rotate_left
  · intro hc18
    refine SC.exit ?_
    refine SE.then_ (by intro h; cases h) ?_
    refine SE.then_ (by intro h; cases h) ?_
    refine SE.exit ?_
    refine SE.seq ?_
    refine SC.seq (SC.region ?_)
    refine SL.val (Val.move rfl) rfl rfl ?_
    refine SL.val (Val.assign rfl) rfl rfl ?_
    refine SL.nil (SE.seq ?_)
    refine SC.ret ?_
    refine SE.fin (rs := [.tmp 4]) rfl (RV.tmp rfl RV.nil) (()) (by repeat first|exact s0 _|exact s1 _|apply s2|apply s3) (by simp [It.rids]) ?_
    have e2 : (beBytes (u64 view) 8 ++ beBytes l.length 2 ++ (l.take z).flatMap Sgn.bytes) = viewB view l := by
      rw [List.take_of_length_le (by omega)]
      rfl
    exact congrArg byt e2
  intro hc18
  have hlt : z < l.length := by omega
  have hbl := (hf _ (List.getElem_mem hlt)).2
  refine SC.skip ?_
  refine SE.seq ?_
  refine SC.seq ?_
  refine SC.block ?_
  refine SC.seq (SC.region ?_)
  refine SL.val (Val.indexSl tabOk Try.underlying39 rfl rfl rfl rfl (at_map (by omega)) rfl rfl) rfl rfl ?_
  first
    | refine SL.val (Val.loadAR tabOk rfl rfl rfl (by rfl)) rfl rfl ?_
    | refine SL.val (Val.loadPR tabOk rfl rfl rfl (Nat.le_of_ble_eq_true (by rfl))) rfl rfl ?_
  refine SL.eff (Eff.alloc tabOk rfl) rfl rfl ?_
  rintro _ _ ⟨b7, rfl, rfl⟩
  refine SL.eff (Eff.store tabOk rfl rfl rfl (by repeat first|assumption|exact Upd.here|apply Upd.there) (by rfl) (Nat.le_of_ble_eq_true (by rfl)) (by rfl) (by rfl)) rfl rfl ?_
  rintro _ _ ⟨rfl, rfl⟩
  refine SL.nil (SE.seq ?_)
  refine SC.draw [] (.q 0 (.q 1 (.q 2 (.q 3 (.q 5 (.q 6 (.e 4 (.e 7 (.e 8 (.q 9 .nil)))))))))) (by kernel_rfl) (by kernel_rfl) ?_
  refine SX.val rfl (Val.move rfl) (by simp) rfl rfl ?_
  refine SX.val rfl (Val.fieldAddr tabOk rfl rfl rfl rfl rfl) (by simp) rfl rfl ?_
  refine SX.val rfl (Val.load1 tabOk rfl rfl (by first|(apply Or.inl;(repeat first|assumption|exact m0|apply m1);done)|(apply Or.inr;(repeat first|assumption|exact m0|apply m1);done)) List.not_mem_nil (by rfl)) (by simp) rfl rfl ?_
  first
    | refine SX.val rfl (Val.convI rfl Try.underlying166 (by kernel_rfl) (by simp only [InR, lo, hi]; omega)) (by simp) rfl rfl ?_
    | refine SX.val rfl (Val.convU rfl Try.underlying166 (by kernel_rfl)) (by simp) rfl rfl ?_
  refine SX.val rfl (Val.fieldAddr tabOk rfl rfl rfl rfl rfl) (by simp) rfl rfl ?_
  first
    | refine SX.val rfl (Val.loadA tabOk rfl rfl rfl (by first|(apply Or.inl;(repeat first|assumption|exact m0|apply m1);done)|(apply Or.inr;(repeat first|assumption|exact m0|apply m1);done)) List.not_mem_nil (by rfl)) (by simp) rfl rfl ?_
    | refine SX.val rfl (Val.loadP tabOk rfl rfl rfl (by first|(apply Or.inl;(repeat first|assumption|exact m0|apply m1);done)|(apply Or.inr;(repeat first|assumption|exact m0|apply m1);done)) List.not_mem_nil (Nat.le_of_ble_eq_true (by rfl))) (by simp) rfl rfl ?_
  refine SX.call rfl (put_s (l := (beBytes (u64 view) 8 ++ beBytes l.length 2 ++ (l.take z).flatMap Sgn.bytes)) (x := u64 (l[z]'hlt).who) (n := 1) (by omega) (u64_lt _) rfl) (by simp [mids, It.mids]) Casts.refl (by kernel_rfl) rfl rfl rfl ?_
  refine After.pure (by repeat first|exact .nil|refine .blk (by repeat first|assumption|exact m0|apply m1) ?_|refine .rd (by repeat first|assumption|exact m0|apply m1) ?_|refine .pc (by repeat first|assumption|exact m0|apply m1) ?_|refine .rdpc (by repeat first|assumption|exact m0|apply m1) ?_) (fun _ => rfl) ?_
  intro _
  refine SX.call rfl (bytes_s (c := (l[z]'hlt).chg) (hf _ (List.getElem_mem hlt)).1) (by simp [mids, It.mids]) Casts.refl (by kernel_rfl) rfl rfl rfl ?_
  refine After.pure (by repeat first|exact .nil|refine .blk (by repeat first|assumption|exact m0|apply m1) ?_|refine .rd (by repeat first|assumption|exact m0|apply m1) ?_|refine .pc (by repeat first|assumption|exact m0|apply m1) ?_|refine .rdpc (by repeat first|assumption|exact m0|apply m1) ?_) (fun _ => rfl) ?_
  intro _
  refine SX.call rfl (row_s (l := (beBytes (u64 view) 8 ++ beBytes l.length 2 ++ (l.take z).flatMap Sgn.bytes) ++ beBytes (u64 (l[z]'hlt).who) 1) (m := (l[z]'hlt).chg.bytes) (by rw [List.length_append, beBytes_length]; omega) (by omega)) (by simp [mids, It.mids]) Casts.refl (by kernel_rfl) rfl rfl rfl ?_
  refine After.pure (by repeat first|exact .nil|refine .blk (by repeat first|assumption|exact m0|apply m1) ?_|refine .rd (by repeat first|assumption|exact m0|apply m1) ?_|refine .pc (by repeat first|assumption|exact m0|apply m1) ?_|refine .rdpc (by repeat first|assumption|exact m0|apply m1) ?_) (fun _ => rfl) ?_
  intro _
  refine SX.val rfl (Val.assign rfl) (by simp) rfl rfl ?_
  refine SX.nil ?_
  refine SE.inBlock ?_
  refine SE.seq ?_
  refine SC.region ?_
  first
    | refine SL.val (Val.addI rfl rfl (by simp only [InR, lo, hi]; omega)) rfl rfl ?_
    | refine SL.val (Val.addW rfl rfl) rfl rfl ?_
  refine SL.val (Val.move rfl) rfl rfl ?_
  refine SL.nil ?_
  have e1 : (beBytes (u64 view) 8 ++ beBytes l.length 2 ++ (l.take z).flatMap Sgn.bytes) ++ beBytes (u64 (l[z]'hlt).who) 1 ++ beBytes (l[z]'hlt).chg.bytes.length 4 ++ (l[z]'hlt).chg.bytes = beBytes (u64 view) 8 ++ beBytes l.length 2 ++ (l.take (z + 1)).flatMap Sgn.bytes := by
    rw [List.take_succ_eq_append_getElem hlt, List.flatMap_append]
    simp [Sgn.bytes, rowB]
  refine SE.round (z + 1) (by first | omega | (dsimp only; omega)) (by first | omega | (dsimp only; omega)) ⟨congrArg (fun m => some (byt m)) e1, rfl, rfl, rfl, trivial⟩ (by repeat first|exact s0 _|exact s1 _|apply s2|apply s3)
set_option maxHeartbeats 2000000 in
theorem rvbytes_s (hl : l.length ≤ 1000) (hf : ∀ s ∈ l, s.chg.Few ∧ s.chg.bytes.length ≤ 800000) : Spec Try.prog 30 [int view, sgnsA l] [] (fun _ : Unit => []) (fun _ => byt (viewB view l)) := by
  have hL : lots = 100000000000 := rfl
  refine spec_of Try.func30 rfl Try.ntmps30 rfl fun G w => ?_
  refine SC.seq (SC.region ?_)
  refine SL.val (Val.assign rfl) rfl rfl ?_
  refine SL.nil (SE.seq ?_)
  refine SC.seq (SC.region ?_)
  refine SL.val (Val.move rfl) rfl rfl ?_
  first
    | refine SL.val (Val.convI rfl Try.underlying166 (by kernel_rfl) (by simp only [InR, lo, hi]; omega)) rfl rfl ?_
    | refine SL.val (Val.convU rfl Try.underlying166 (by kernel_rfl)) rfl rfl ?_
  refine SL.call (rput_s (l := []) (x := u64 view) (n := 8) (by simp; first | done | omega)  rfl) (Casts.cons (fun _ _ _ h => rep_nil h) Casts.refl) (by kernel_rfl) rfl rfl rfl ?_
  refine After.pure (by repeat first|exact .nil|refine .blk (by repeat first|assumption|exact m0|apply m1) ?_|refine .rd (by repeat first|assumption|exact m0|apply m1) ?_|refine .pc (by repeat first|assumption|exact m0|apply m1) ?_|refine .rdpc (by repeat first|assumption|exact m0|apply m1) ?_) (fun _ => rfl) ?_
  intro _
  refine SL.val (Val.move rfl) rfl rfl ?_
  first
    | refine SL.val (Val.lenSl rfl Try.underlying39 (List.length_map _)) rfl rfl ?_
    | refine SL.val (Val.lenOwn rfl (by repeat first|assumption|exact m0|apply m1) Try.underlying39 (List.length_map _)) rfl rfl ?_
    | refine SL.val (Val.lenNil rfl Try.underlying39) rfl rfl ?_
  first
    | refine SL.val (Val.convI rfl Try.underlying166 (by kernel_rfl) (by simp only [InR, lo, hi]; omega)) rfl rfl ?_
    | refine SL.val (Val.convU rfl Try.underlying166 (by kernel_rfl)) rfl rfl ?_
  refine SL.call (rput_s (l := [] ++ beBytes (u64 view) 8) (x := l.length) (n := 2) (by simp [beBytes_length]; omega) rfl) Casts.refl (by kernel_rfl) rfl rfl rfl ?_
  refine After.pure (by repeat first|exact .nil|refine .blk (by repeat first|assumption|exact m0|apply m1) ?_|refine .rd (by repeat first|assumption|exact m0|apply m1) ?_|refine .pc (by repeat first|assumption|exact m0|apply m1) ?_|refine .rdpc (by repeat first|assumption|exact m0|apply m1) ?_) (fun _ => rfl) ?_
  intro _
  refine SL.val (Val.assign rfl) rfl rfl ?_
  refine SL.nil (SE.seq ?_)
  refine SC.seq ?_
  refine SC.seq (SC.region ?_)
  refine SL.val (Val.move rfl) rfl rfl ?_
  first
    | refine SL.val (Val.lenSl rfl Try.underlying39 (List.length_map _)) rfl rfl ?_
    | refine SL.val (Val.lenOwn rfl (by repeat first|assumption|exact m0|apply m1) Try.underlying39 (List.length_map _)) rfl rfl ?_
    | refine SL.val (Val.lenNil rfl Try.underlying39) rfl rfl ?_
  refine SL.val (Val.move rfl) rfl rfl ?_
  refine SL.nil (SE.seq ?_)
  refine SC.block ?_
  refine SC.loop (ι := Nat) (fun z => []) (fun z => [(5, byt (beBytes (u64 view) 8 ++ beBytes l.length 2 ++ (l.take z).flatMap Sgn.bytes)), (15, sgnsA l), (16, int (l.length : Nat)), (17, int (z : Nat))]) (fun z => z ≤ l.length) (fun z => l.length - z) (0) (Nat.zero_le _) ⟨congrArg (fun m => some (byt m)) (by simp), rfl, rfl, rfl, trivial⟩ (by repeat first|exact s0 _|exact s1 _|apply s2|apply s3) ?_
  intro z hz
  have hlen : (beBytes (u64 view) 8 ++ beBytes l.length 2 ++ (l.take z).flatMap Sgn.bytes).length ≤ 10 + 1000 * 800005 := by
    have h0 := flat_length (f := Sgn.bytes) (B := 800005) (xs := l.take z) (fun s hs => sgn_le (hf s (List.mem_of_mem_take hs)).2)
    have h9 : (l.take z).length ≤ l.length := by simp; omega
    have h8 : (l.take z).length * 800005 ≤ 1000 * 800005 := Nat.mul_le_mul_right _ (by omega)
    simp only [List.length_append, beBytes_length]
    omega
  refine SC.seq (SC.region ?_)
  refine SL.val (Val.ltI rfl rfl) rfl rfl ?_
  refine SL.nil (SE.seq ?_)
  refine SC.seq ?_
  refine SC.condP rfl ?_ ?_
  rotate_left
  · intro hc18
    refine SC.exit ?_
    refine SE.then_ (by intro h; cases h) ?_
    refine SE.then_ (by intro h; cases h) ?_
    refine SE.exit ?_
    refine SE.seq ?_
    refine SC.seq (SC.region ?_)
    refine SL.val (Val.move rfl) rfl rfl ?_
    refine SL.val (Val.assign rfl) rfl rfl ?_
    refine SL.nil (SE.seq ?_)
    refine SC.ret ?_
    refine SE.fin (rs := [.tmp 4]) rfl (RV.tmp rfl RV.nil) (()) (by repeat first|exact s0 _|exact s1 _|apply s2|apply s3) (by simp [It.rids]) ?_
    have e2 : (beBytes (u64 view) 8 ++ beBytes l.length 2 ++ (l.take z).flatMap Sgn.bytes) = viewB view l := by
      rw [List.take_of_length_le (by omega)]
      rfl
    exact congrArg byt e2
  intro hc18
  have hlt : z < l.length := by omega
  have hbl := (hf _ (List.getElem_mem hlt)).2
  refine SC.skip ?_
  refine SE.seq ?_
  refine SC.seq ?_
  refine SC.block ?_
  refine SC.seq (SC.region ?_)
  refine SL.val (Val.indexSl tabOk Try.underlying39 rfl rfl rfl rfl (at_map (by omega)) rfl rfl) rfl rfl ?_
  first
    | refine SL.val (Val.loadAR tabOk rfl rfl rfl (by rfl)) rfl rfl ?_
    | refine SL.val (Val.loadPR tabOk rfl rfl rfl (Nat.le_of_ble_eq_true (by rfl))) rfl rfl ?_
  refine SL.eff (Eff.alloc tabOk rfl) rfl rfl ?_
  rintro _ _ ⟨b7, rfl, rfl⟩
  refine SL.eff (Eff.store tabOk rfl rfl rfl (by repeat first|assumption|exact Upd.here|apply Upd.there) (by rfl) (Nat.le_of_ble_eq_true (by rfl)) (by rfl) (by rfl)) rfl rfl ?_
  rintro _ _ ⟨rfl, rfl⟩
  refine SL.nil (SE.seq ?_)
  refine SC.draw [] (.q 0 (.q 1 (.q 2 (.q 3 (.q 5 (.q 6 (.e 4 (.e 7 (.e 8 (.q 9 .nil)))))))))) (by kernel_rfl) (by kernel_rfl) ?_
  refine SX.val rfl (Val.move rfl) (by simp) rfl rfl ?_
  refine SX.val rfl (Val.fieldAddr tabOk rfl rfl rfl rfl rfl) (by simp) rfl rfl ?_
  refine SX.val rfl (Val.load1 tabOk rfl rfl (by first|(apply Or.inl;(repeat first|assumption|exact m0|apply m1);done)|(apply Or.inr;(repeat first|assumption|exact m0|apply m1);done)) List.not_mem_nil (by rfl)) (by simp) rfl rfl ?_
  first
    | refine SX.val rfl (Val.convI rfl Try.underlying166 (by kernel_rfl) (by simp only [InR, lo, hi]; omega)) (by simp) rfl rfl ?_
    | refine SX.val rfl (Val.convU rfl Try.underlying166 (by kernel_rfl)) (by simp) rfl rfl ?_
  refine SX.val rfl (Val.fieldAddr tabOk rfl rfl rfl rfl rfl) (by simp) rfl rfl ?_
  first
    | refine SX.val rfl (Val.loadA tabOk rfl rfl rfl (by first|(apply Or.inl;(repeat first|assumption|exact m0|apply m1);done)|(apply Or.inr;(repeat first|assumption|exact m0|apply m1);done)) List.not_mem_nil (by rfl)) (by simp) rfl rfl ?_
    | refine SX.val rfl (Val.loadP tabOk rfl rfl rfl (by first|(apply Or.inl;(repeat first|assumption|exact m0|apply m1);done)|(apply Or.inr;(repeat first|assumption|exact m0|apply m1);done)) List.not_mem_nil (Nat.le_of_ble_eq_true (by rfl))) (by simp) rfl rfl ?_
  refine SX.call rfl (rput_s (l := (beBytes (u64 view) 8 ++ beBytes l.length 2 ++ (l.take z).flatMap Sgn.bytes)) (x := u64 (l[z]'hlt).who) (n := 1) (by omega) rfl) (by simp [mids, It.mids]) Casts.refl (by kernel_rfl) rfl rfl rfl ?_
  refine After.pure (by repeat first|exact .nil|refine .blk (by repeat first|assumption|exact m0|apply m1) ?_|refine .rd (by repeat first|assumption|exact m0|apply m1) ?_|refine .pc (by repeat first|assumption|exact m0|apply m1) ?_|refine .rdpc (by repeat first|assumption|exact m0|apply m1) ?_) (fun _ => rfl) ?_
  intro _
  refine SX.call rfl (rbytes_s (c := (l[z]'hlt).chg) (hf _ (List.getElem_mem hlt)).1) (by simp [mids, It.mids]) Casts.refl (by kernel_rfl) rfl rfl rfl ?_
  refine After.pure (by repeat first|exact .nil|refine .blk (by repeat first|assumption|exact m0|apply m1) ?_|refine .rd (by repeat first|assumption|exact m0|apply m1) ?_|refine .pc (by repeat first|assumption|exact m0|apply m1) ?_|refine .rdpc (by repeat first|assumption|exact m0|apply m1) ?_) (fun _ => rfl) ?_
  intro _
  refine SX.call rfl (rrow_s (l := (beBytes (u64 view) 8 ++ beBytes l.length 2 ++ (l.take z).flatMap Sgn.bytes) ++ beBytes (u64 (l[z]'hlt).who) 1) (m := (l[z]'hlt).chg.bytes) (by rw [List.length_append, beBytes_length]; omega) (by omega)) (by simp [mids, It.mids]) Casts.refl (by kernel_rfl) rfl rfl rfl ?_
  refine After.pure (by repeat first|exact .nil|refine .blk (by repeat first|assumption|exact m0|apply m1) ?_|refine .rd (by repeat first|assumption|exact m0|apply m1) ?_|refine .pc (by repeat first|assumption|exact m0|apply m1) ?_|refine .rdpc (by repeat first|assumption|exact m0|apply m1) ?_) (fun _ => rfl) ?_
  intro _
  refine SX.val rfl (Val.assign rfl) (by simp) rfl rfl ?_
  refine SX.nil ?_
  refine SE.inBlock ?_
  refine SE.seq ?_
  refine SC.region ?_
  first
    | refine SL.val (Val.addI rfl rfl (by simp only [InR, lo, hi]; omega)) rfl rfl ?_
    | refine SL.val (Val.addW rfl rfl) rfl rfl ?_
  refine SL.val (Val.move rfl) rfl rfl ?_
  refine SL.nil ?_
  have e1 : (beBytes (u64 view) 8 ++ beBytes l.length 2 ++ (l.take z).flatMap Sgn.bytes) ++ beBytes (u64 (l[z]'hlt).who) 1 ++ beBytes (l[z]'hlt).chg.bytes.length 4 ++ (l[z]'hlt).chg.bytes = beBytes (u64 view) 8 ++ beBytes l.length 2 ++ (l.take (z + 1)).flatMap Sgn.bytes := by
    rw [List.take_succ_eq_append_getElem hlt, List.flatMap_append]
    simp [Sgn.bytes, rowB]
  refine SE.round (z + 1) (by first | omega | (dsimp only; omega)) (by first | omega | (dsimp only; omega)) ⟨congrArg (fun m => some (byt m)) e1, rfl, rfl, rfl, trivial⟩ (by repeat first|exact s0 _|exact s1 _|apply s2|apply s3)
end
end Go.Proofs.Ytpgffckfbgfgcaa.A
