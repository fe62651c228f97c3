/-
  Packed out of the texts: AdO.
-/
import Derived.Test.YtggajaigfkekhaaGreatP011
set_option maxRecDepth 100000
namespace Go.Proofs.YtggajaigfkekhaaGreat
open Go.RowKit Go.ChangeShapes Go.WideShapes Go.ChangeAt
theorem BytesV.rowA {w : World} {v : Value} {l : List UInt8} (h : BytesV w v l) : IsRow [] w v l.length (l.map bc) := by
  obtain ⟨A, c, rfl, h1, h2, h3, h4⟩ := h
  refine ⟨⟨A, c, rfl, h1, h2, h3⟩, fun hn => ?_⟩
  obtain ⟨b, off, rfl, hc⟩ := h4 hn
  exact ⟨b, off, _, _, rfl, by simp, hc⟩
section
variable {H : Type} {enc : TypeId × Value → H} {w : World} {base : Nat} {spare : Nat → Bool} {held : Bool}
theorem hn_ {v : Value} (h : LeafAt enc Tryz.prog w base spare held 27 v) : ∃ l : List UInt8, A.rep [] w (A.byt l) v := by
  obtain ⟨fuel, x, h⟩ := h
  obtain ⟨A0, n, c, rfl⟩ : ∃ A n c, v = .slice A n c := by
    rcases Deep.open_slice Tryz.underlying27 h with ⟨hcs, _⟩ | ⟨a, len, cap, m, n', D, Pl, hcs, _⟩
    · simp at hcs; exact ⟨_, _, _, hcs⟩
    · simp at hcs; exact ⟨_, _, _, hcs⟩
  obtain ⟨l, hl⟩ := gD_ h
  exact ⟨l, A.a7_.2 hl.rowA⟩
theorem h9_ : leaves Tryz.prog 4 46 = some (3 :: 3 :: 3 :: 2 :: 2 :: 23 :: 24 :: 24 :: 2 :: 2 :: List.replicate 32 5) := by kernel_rfl
theorem open_aac (cs : List Value) (hl : cs.length = Tryz.prog.cellsOf 46) (h : ∃ m y, DataW.trod enc Tryz.prog w base spare held m 46 cs = some y) : ∃ a : A.AAc, A.reps [] w a.abs cs ∧ A.AAcIn a ∧ a.chg.Lits ∧ InR .i64 a.k.view ∧ InR .i64 a.seq := by
  obtain ⟨fuel, x, h⟩ := h
  rw [show Tryz.prog.cellsOf 46 = 42 by kernel_rfl] at hl
  have hh := bt_ 4 _ _ _ _ _ h9_ (by simpa using hl.symm) h
  match cs, hl with
  | v0 :: v1 :: v2 :: v3 :: v4 :: v5 :: v6 :: v7 :: v8 :: v9 :: cs, hl =>
    obtain ⟨n0, rfl, b0⟩ := (hh 0 v0 _ rfl rfl).int Tryz.underlying3
    obtain ⟨n1, rfl, b1⟩ := (hh 1 v1 _ rfl rfl).int Tryz.underlying3
    obtain ⟨n2, rfl, b2⟩ := (hh 2 v2 _ rfl rfl).int Tryz.underlying3
    obtain ⟨n3, rfl, b3⟩ := (hh 3 v3 _ rfl rfl).int Tryz.underlying2
    obtain ⟨n4, rfl, b4⟩ := (hh 4 v4 _ rfl rfl).int Tryz.underlying2
    obtain ⟨n8, rfl, b8⟩ := (hh 8 v8 _ rfl rfl).int Tryz.underlying2
    obtain ⟨n9, rfl, b9⟩ := (hh 9 v9 _ rfl rfl).int Tryz.underlying2
    obtain ⟨ps, hp, hps⟩ := A.dU_ (abs := A.Pnt.abs) (Ok := fun p => InR .i64 p.seq) Tryz.underlying23 (by kernel_rfl) (hh 5 v5 _ rfl rfl) A.open_pnt
    obtain ⟨ps1, ha, has⟩ := A.dU_ (abs := A.Prf.abs) (Ok := A.Prf.Lits) Tryz.underlying24 (by kernel_rfl) (hh 6 v6 _ rfl rfl) A.hp_
    obtain ⟨bs, hb, hbs⟩ := A.dU_ (abs := A.Prf.abs) (Ok := A.Prf.Lits) Tryz.underlying24 (by kernel_rfl) (hh 7 v7 _ rfl rfl) A.hp_
    have hl2 : cs.length = 32 := by simpa using hl
    obtain ⟨d, rfl⟩ := A.iJ_ (cs := cs) fun u hu => by
      obtain ⟨j, hj, rfl⟩ := List.getElem_of_mem hu
      exact hh (j + 10) cs[j] _ (by simp only [List.getElem?_cons_succ]; rw [List.getElem?_eq_getElem hj]) (by simp only [List.getElem?_cons_succ]; rw [List.getElem?_replicate, if_pos (by omega)])
    refine ⟨⟨n0, n1, n2, ⟨n3, n4, ps, ps1, bs⟩, ⟨n8, d, by simpa using hl2⟩, n9⟩, ?_, ⟨A.wfIn b0, A.wfIn b1, A.wfIn b2⟩, ⟨A.wfIn b3, A.wfIn b4, hps, has, hbs⟩, A.wfIn b8, A.wfIn b9⟩
    exact ⟨_, _, rfl, rfl, _, _, rfl, rfl, _, _, rfl, rfl, _, _, rfl, rfl, _, _, rfl, rfl, _, _, rfl, hp, _, _, rfl, ha, _, _, rfl, hb, _, _, rfl, rfl, _, _, rfl, rfl, A.reps_dig d⟩
theorem iN_ {v : Value} (h : LeafAt enc Tryz.prog w base spare held 28 v) : ∃ xs : List A.AAc, A.rep [] w (.sl 42 (xs.map A.AAc.abs)) v ∧ ∀ x ∈ xs, A.AAcIn x ∧ x.chg.Lits ∧ InR .i64 x.k.view ∧ InR .i64 x.seq :=
  A.dU_ (abs := A.AAc.abs) (Ok := fun a => A.AAcIn a ∧ a.chg.Lits ∧ InR .i64 a.k.view ∧ InR .i64 a.seq) (s := 42) Tryz.underlying28 (by kernel_rfl) h open_aac
theorem iM_ (cs : List Value) (hl : cs.length = Tryz.prog.cellsOf 26) (h : ∃ m y, DataW.trod enc Tryz.prog w base spare held m 26 cs = some y) : ∃ c : A.Chg, A.reps [] w c.abs cs ∧ c.Lits := by
  obtain ⟨fuel, x, h⟩ := h
  exact A.open_chg hl h
theorem iL_ {v : Value} (h : LeafAt enc Tryz.prog w base spare held 22 v) : ∃ xs : List A.Chg, A.rep [] w (.sl 5 (xs.map A.Chg.abs)) v ∧ ∀ x ∈ xs, x.Lits :=
  A.dU_ (abs := A.Chg.abs) (Ok := A.Chg.Lits) (s := 5) Tryz.underlying22 (by kernel_rfl) h iM_
end
end Go.Proofs.YtggajaigfkekhaaGreat
