/-
  Packed out of the texts: Open, OpenBytes, AOpen, AFace, ABook, ABk2, Tg, A9, A15, Y0, A10, A11, A12, A13, StrK, Cry, A18, Sum, Doc, A14, A16, A19.
-/
import Derived.Test.YtjclgkddfjbdiaaGreatDoorR04
import Derived.Deep.Slices
set_option maxRecDepth 100000
set_option linter.unusedSimpArgs false
set_option linter.unusedVariables false
namespace Go.Proofs.YtjclgkddfjbdiaaGreatDoor
open Go.RowKit Go.ChangeShapes Go.WideShapes Go.ChangeAt
def leaves (P : Program) : Nat → TypeId → Option (List TypeId)
  | 0, _ => none
  | d + 1, t =>
    match P.underlying t with
    | some (.struct fs) => fs.toList.foldlM (fun acc f => (leaves P d f.type).bind fun l => if f.offset = acc.length ∧ l.length = P.cellsOf f.type then some (acc ++ l) else none) []
    | some (.array n e) => (leaves P d e).bind fun l => if l.length = P.cellsOf e then some (List.replicate n l).flatten else none
    | some _ => some [t]
    | none => none
section
variable {H : Type} {enc : TypeId × Value → H} {P : Program} {w : World} {base : Nat} {spare : Nat → Bool} {held : Bool}
def LeafAt (enc : TypeId × Value → H) (P : Program) (w : World) (base : Nat) (spare : Nat → Bool) (held : Bool) (u : TypeId) (v : Value) : Prop := ∃ n y, DataW.trod enc P w base spare held n u [v] = some y
theorem fY_ {d : Nat} {cs : List Value} {n : Nat}
    (ih : ∀ (t : TypeId) (ts : List TypeId) (fuel : Nat) (cs : List Value) (x : DataW H × List MemPlace), leaves P d t = some ts → ts.length = cs.length → DataW.trod enc P w base spare held fuel t cs = some x →
      ∀ (j : Nat) (v : Value) (u : TypeId), cs[j]? = some v → ts[j]? = some u → LeafAt enc P w base spare held u v) :
    ∀ (fs : List Field) (acc ts : List TypeId), (∀ f ∈ fs, ∃ y, DataW.trod enc P w base spare held n f.type ((cs.drop f.offset).take (P.cellsOf f.type)) = some y) →
      fs.foldlM (fun acc f => (leaves P d f.type).bind fun l => if f.offset = acc.length ∧ l.length = P.cellsOf f.type then some (acc ++ l) else none) acc = some ts →
      ts.length ≤ cs.length →
      (∀ (j : Nat) (v : Value) (u : TypeId), cs[j]? = some v → acc[j]? = some u → LeafAt enc P w base spare held u v) →
      (∀ (j : Nat) (v : Value) (u : TypeId), cs[j]? = some v → ts[j]? = some u → LeafAt enc P w base spare held u v) := by
  intro fs
  induction fs with
  | nil =>
    intro acc ts _ h _ ha
    simp at h
    subst h
    exact ha
  | cons f fs hfs =>
    intro acc ts hall h hlen ha
    simp only [List.foldlM_cons, Option.bind_eq_bind, Option.bind_eq_some_iff] at h
    obtain ⟨acc', ⟨l, hl, hif⟩, hrest⟩ := h
    split at hif
    · rename_i hc
      obtain ⟨ho, hlc⟩ := hc
      simp only [Option.some.injEq] at hif
      subst hif
      have hmono : ∀ (fs : List Field) (a b : List TypeId), fs.foldlM (fun acc f => (leaves P d f.type).bind fun l => if f.offset = acc.length ∧ l.length = P.cellsOf f.type then some (acc ++ l) else none) a = some b → a.length ≤ b.length := by
        intro fs
        induction fs with
        | nil => intro a b h; simp at h; subst h; exact Nat.le_refl _
        | cons f fs ih2 =>
          intro a b h
          simp only [List.foldlM_cons, Option.bind_eq_bind, Option.bind_eq_some_iff] at h
          obtain ⟨a', ⟨l, _, hif⟩, hr⟩ := h
          split at hif
          · simp only [Option.some.injEq] at hif
            subst hif
            have := ih2 _ _ hr
            simp at this
            omega
          · cases hif
      have hacc := hmono _ _ _ hrest
      refine hfs (acc ++ l) ts (fun g hg => hall g (List.mem_cons_of_mem _ hg)) hrest hlen ?_
      intro j v u hv hu
      rw [List.getElem?_append] at hu
      split at hu
      · exact ha j v u hv hu
      · rename_i hj
        obtain ⟨y, hy⟩ := hall f List.mem_cons_self
        rw [List.length_append] at hacc
        refine ih f.type l n _ y hl ?_ hy (j - acc.length) v u ?_ hu
        · rw [List.length_take, List.length_drop]; omega
        · have hjl : j - acc.length < l.length := (List.getElem?_eq_some_iff.1 hu).1
          rw [List.getElem?_take, if_pos (by omega), List.getElem?_drop, ho, show acc.length + (j - acc.length) = j by omega]
          exact hv
    · cases hif
theorem da_ : ∀ (d : Nat) (t : TypeId) (ts : List TypeId) (fuel : Nat) (cs : List Value) (x : DataW H × List MemPlace), leaves P d t = some ts → ts.length = cs.length → DataW.trod enc P w base spare held fuel t cs = some x →
    ∀ (j : Nat) (v : Value) (u : TypeId), cs[j]? = some v → ts[j]? = some u → LeafAt enc P w base spare held u v := by
  intro d
  induction d with
  | zero => intro t ts fuel cs x h; simp [leaves] at h
  | succ d ih =>
    intro t ts fuel cs x h hlen ht
    unfold leaves at h
    split at h
    · rename_i fs hu
      obtain ⟨xs, n, _, _, hcl, hxl, hf⟩ := DataW.trod_struct hu ht
      refine fY_ (n := n) ih fs.toList [] ts ?_ h (by omega) (by simp)
      intro f hfm
      obtain ⟨i, hi, he⟩ := List.getElem_of_mem hfm
      have h1 := hf i f (by rw [← Array.getElem?_toList, List.getElem?_eq_getElem hi, he])
      have : i < xs.length := by rw [hxl]; simpa using hi
      exact ⟨xs[i], by rw [h1, List.getElem?_eq_getElem this]⟩
    · rename_i m e hu
      obtain ⟨xs, n, _, _, hcl, hxl, hf⟩ := DataW.trod_array hu ht
      simp only [Option.bind_eq_some_iff] at h
      obtain ⟨l, hl, hif⟩ := h
      split at hif
      · rename_i hc
        simp only [Option.some.injEq] at hif
        subst hif
        intro j v u hv hu'
        have hjl : j < (List.replicate m l).flatten.length := (List.getElem?_eq_some_iff.1 hu').1
        have hfl : ∀ k, (List.replicate k l).flatten.length = k * l.length := by
          intro k; simp
        rw [hfl] at hjl
        have hl0 : 0 < l.length := by
          rcases Nat.eq_zero_or_pos l.length with h0 | h0
          · rw [h0] at hjl; simp at hjl
          · exact h0
        have hi : j / l.length < m := by rw [Nat.div_lt_iff_lt_mul hl0]; exact hjl
        have hmod := Nat.mod_lt j hl0
        have hjd := Nat.div_add_mod j l.length
        have hget : ∀ (k j : Nat), j < k * l.length → (List.replicate k l).flatten[j]? = l[j % l.length]? := by
          intro k
          induction k with
          | zero => intro j hj; simp at hj
          | succ k ihk =>
            intro j hj
            rw [List.replicate_succ, List.flatten_cons, List.getElem?_append]
            split
            · rename_i h1; rw [Nat.mod_eq_of_lt h1]
            · rename_i h1
              rw [ihk (j - l.length) (by rw [Nat.succ_mul] at hj; omega)]
              rw [← Nat.mod_eq_sub_mod (show l.length ≤ j by omega)]
        rw [hget m j hjl] at hu'
        have h1 := hf (j / l.length) hi
        have hxi : j / l.length < xs.length := by omega
        rw [List.getElem?_eq_getElem hxi] at h1
        have hsz : (j / l.length) * P.cellsOf e + P.cellsOf e ≤ cs.length := by
          rw [← hlen, hfl, ← hc]
          calc (j / l.length) * l.length + l.length = (j / l.length + 1) * l.length := by rw [Nat.succ_mul]
            _ ≤ m * l.length := Nat.mul_le_mul_right _ hi
        refine ih e l n _ _ hl ?_ h1 (j % l.length) v u ?_ hu'
        · rw [List.length_take, List.length_drop]; omega
        · rw [List.getElem?_take, if_pos (by omega), List.getElem?_drop, ← hc, ← hv]
          congr 1
          rw [Nat.mul_comm]; exact hjd
      · cases hif
    · rename_i hu1 hu2 hs
      simp only [Option.some.injEq] at h
      subst h
      intro j v u hv hu'
      have hc1 : cs.length = 1 := by simpa using hlen.symm
      match cs, hc1 with
      | [c], _ =>
        match j with
        | 0 =>
          simp at hv hu'
          subst hv; subst hu'
          exact ⟨fuel, x, ht⟩
        | j + 1 => simp at hv
    · cases h
theorem LeafAt.int {u : TypeId} {v : Value} {k : IntKind} (h : LeafAt enc P w base spare held u v) (hu : P.underlying u = some (.int k)) : ∃ n, v = .int k n ∧ (Lit.int k n).wf = true := by
  obtain ⟨n, y, hy⟩ := h
  obtain ⟨m, h1, _, h2⟩ := DataW.trod_int hu hy
  simp at h1
  exact ⟨m, h1, h2⟩
theorem LeafAt.string {u : TypeId} {v : Value} (h : LeafAt enc P w base spare held u v) (hu : P.underlying u = some .string) : ∃ s, v = .string s ∧ s.size ≤ maxLen := by
  obtain ⟨n, y, hy⟩ := h
  obtain ⟨m, h1, _, h2⟩ := DataW.trod_string hu hy
  simp at h1
  exact ⟨m, h1, h2⟩
theorem LeafAt.bool {u : TypeId} {v : Value} (h : LeafAt enc P w base spare held u v) (hu : P.underlying u = some .bool) : ∃ b, v = .bool b := by
  obtain ⟨n, y, hy⟩ := h
  obtain ⟨m, h1, _⟩ := DataW.trod_bool hu hy
  simp at h1
  exact ⟨m, h1⟩
theorem hF_ {α : Type} {sz : Nat} (h0 : 0 < sz) : ∀ (xs : List (List α)), (∀ x ∈ xs, x.length = sz) → ∀ j, xs.flatten[j]? = (xs[j / sz]?).bind fun x => x[j % sz]? := by
  intro xs
  induction xs with
  | nil => intro _ j; simp
  | cons x xs ih =>
    intro hx j
    have hxl := hx x List.mem_cons_self
    rw [List.flatten_cons, List.getElem?_append]
    split
    · rename_i h1
      rw [Nat.div_eq_of_lt (by omega), Nat.mod_eq_of_lt (by omega)]
      simp
    · rename_i h1
      rw [ih (fun y hy => hx y (List.mem_cons_of_mem _ hy)), hxl]
      have h2 : j / sz = (j - sz) / sz + 1 := by
        rw [Nat.div_eq_sub_div h0 (by omega)]
      rw [h2, List.getElem?_cons_succ, ← Nat.mod_eq_sub_mod (show sz ≤ j by omega)]
theorem fd_ {α : Type} {sz : Nat} : ∀ (xs : List (List α)), (∀ x ∈ xs, x.length = sz) → xs.flatten.length = xs.length * sz := by
  intro xs
  induction xs with
  | nil => intro _; simp
  | cons x xs ih =>
    intro hx
    rw [List.flatten_cons, List.length_append, ih (fun y hy => hx y (List.mem_cons_of_mem _ hy)), hx x List.mem_cons_self, List.length_cons, Nat.succ_mul, Nat.add_comm]
theorem add_eq (b off : Nat) (j : Nat) : (⟨b, off, none⟩ : Addr).add j = ⟨b, off + j, none⟩ := by
  unfold Addr.add
  split
  · rename_i h0; subst h0; rfl
  · rfl
theorem open_row {t e : TypeId} {fuel : Nat} {A : Option Addr} {n c : Nat} {x : DataW H × List MemPlace} (ht : P.underlying t = some (.slice e)) (h : DataW.trod enc P w base spare held fuel t [.slice A n c] = some x) :
    n ≤ c ∧ c ≤ maxLen ∧ ∃ xs : List (List Value), xs.length = n ∧ (∀ cs ∈ xs, cs.length = P.cellsOf e ∧ ∃ m y, DataW.trod enc P w base spare held m e cs = some y) ∧ (xs.flatten ≠ [] → ∃ b off : Nat, A = some ⟨b, off, none⟩ ∧ ∀ j u, xs.flatten[j]? = some u → w.cell? ⟨b, off + j, none⟩ = some u) := by
  rcases Deep.open_slice ht h with ⟨hcs, _⟩ | ⟨a, len, cap, m, n', D, Pl, hcs, _, hl, hm, hmm, _, hi⟩
  · simp at hcs
    obtain ⟨rfl, rfl, rfl⟩ := hcs
    exact ⟨Nat.le_refl _, Nat.zero_le _, [], rfl, by simp, by simp⟩
  · simp at hcs
    obtain ⟨rfl, rfl, rfl⟩ := hcs
    have hnm : n ≤ m := by rw [hmm]; split <;> omega
    refine ⟨hl, hm, (List.range n).map fun i => ((w.cells? base (a.add (i * P.cellsOf e)) (P.cellsOf e)).getD []), by simp, ?_, ?_⟩
    · intro cs hcs
      simp only [List.mem_map, List.mem_range] at hcs
      obtain ⟨i, hin, rfl⟩ := hcs
      obtain ⟨cs', h1, h2⟩ := hi i (by omega)
      rw [h1]
      exact ⟨(World.cells?_some h1).2.1, n', _, h2⟩
    · intro hne
      have hall : ∀ y ∈ (List.range n).map (fun i => ((w.cells? base (a.add (i * P.cellsOf e)) (P.cellsOf e)).getD [])), y.length = P.cellsOf e := by
        intro y hy
        simp only [List.mem_map, List.mem_range] at hy
        obtain ⟨i, hin, rfl⟩ := hy
        obtain ⟨cs', h1, _⟩ := hi i (by omega)
        rw [h1]
        exact (World.cells?_some h1).2.1
      have hlen0 := fd_ _ hall
      have hpos : 0 < n * P.cellsOf e := by
        rcases Nat.eq_zero_or_pos (n * P.cellsOf e) with h0 | h0
        · exfalso
          apply hne
          apply List.eq_nil_of_length_eq_zero
          rw [hlen0]
          simpa using h0
        · exact h0
      have hsz : 0 < P.cellsOf e := Nat.pos_of_mul_pos_left hpos
      have hn0 : 0 < n := Nat.pos_of_mul_pos_right hpos
      obtain ⟨b, off, spot⟩ := a
      have hs : spot = none := by
        obtain ⟨cs', h1, _⟩ := hi 0 (by omega)
        obtain ⟨_, hl1, hc1⟩ := World.cells?_some h1
        have h2 := hc1 0 hsz
        have h3 : ((⟨b, off, spot⟩ : Addr).add (0 * P.cellsOf e)).add 0 = ⟨b, off, spot⟩ := by simp [Addr.add]
        rw [h3, List.getElem?_eq_getElem (by omega)] at h2
        exact kd_ h2
      subst hs
      refine ⟨b, off, rfl, fun j u hu => ?_⟩
      rw [hF_ hsz _ hall] at hu
      simp only [Option.bind_eq_some_iff, List.getElem?_map, Option.map_eq_some_iff] at hu
      obtain ⟨y, ⟨i, hir, rfl⟩, hy⟩ := hu
      have hrl := List.getElem?_eq_some_iff.1 hir
      obtain ⟨hir1, hir2⟩ := hrl
      simp at hir1 hir2
      subst hir2
      obtain ⟨cs', h1, _⟩ := hi (j / P.cellsOf e) (by omega)
      rw [h1] at hy
      simp only [Option.getD_some] at hy
      obtain ⟨_, hl1, hc1⟩ := World.cells?_some h1
      have h2 := hc1 (j % P.cellsOf e) (Nat.mod_lt _ hsz)
      rw [add_eq, add_eq, hy] at h2
      have hjd := Nat.div_add_mod j (P.cellsOf e)
      rw [show off + j = off + j / P.cellsOf e * P.cellsOf e + j % P.cellsOf e by rw [Nat.mul_comm (j / P.cellsOf e)]; omega]
      exact h2
end
end Go.Proofs.YtjclgkddfjbdiaaGreatDoor
namespace Go.Proofs.YtjclgkddfjbdiaaGreatDoor
open Go.RowKit Go.ChangeShapes Go.WideShapes Go.ChangeAt
section
variable {H : Type} {enc : TypeId × Value → H} {w : World} {base : Nat} {spare : Nat → Bool} {held : Bool}
theorem kx_ {t e : TypeId} {fuel : Nat} {A : Option Addr} {n c : Nat} {x : DataW H × List MemPlace} (ht : Tryz.prog.underlying t = some (.slice e)) (h : DataW.trod enc Tryz.prog w base spare held fuel t [.slice A n c] = some x) : A = none → c = 0 := by
  intro hA
  rcases Deep.open_slice ht h with ⟨hcs, _⟩ | ⟨a, len, cap, m, n', D, Pl, hcs, _⟩
  · simp at hcs
    exact hcs.2.2
  · simp at hcs
    rw [hA] at hcs
    simp at hcs
end
end Go.Proofs.YtjclgkddfjbdiaaGreatDoor
namespace Go.Proofs.YtjclgkddfjbdiaaGreatDoor.A
open Go.RowKit Go.ChangeShapes Go.WideShapes Go.ChangeAt
section
variable {H : Type} {enc : TypeId × Value → H} {w : World} {base : Nat} {spare : Nat → Bool} {held : Bool}
theorem wfIn {a : Int} (h : (Lit.int .i64 a).wf = true) : InR .i64 a := by
  have := bounds_i64 h
  simp only [InR, lo, hi]
  omega
theorem gE_ {α : Type} {abs : α → List Abs} {Ok : α → Prop} {s : Nat} : ∀ {ys : List (List Value)}, (∀ cs ∈ ys, cs.length = s ∧ ∃ a, reps [] w (abs a) cs ∧ Ok a) → ∃ xs : List α, repss [] w s (xs.map abs) ys.flatten ∧ xs.length = ys.length ∧ ∀ a ∈ xs, Ok a
  | [], _ => ⟨[], rfl, rfl, by simp⟩
  | cs :: ys, h => by
    obtain ⟨h1, a, h2, h3⟩ := h cs List.mem_cons_self
    obtain ⟨xs, h4, h5, h6⟩ := gE_ (ys := ys) fun c hc => h c (List.mem_cons_of_mem _ hc)
    exact ⟨a :: xs, ⟨cs, _, rfl, h1, h2, h4⟩, by simp [h5], by simpa using ⟨h3, h6⟩⟩
theorem open_slA {α : Type} {abs : α → List Abs} {Ok : α → Prop} {t e : TypeId} {s : Nat} {v : Value} (ht : Tryz.prog.underlying t = some (.slice e)) (hs : Tryz.prog.cellsOf e = s) (h : LeafAt enc Tryz.prog w base spare held t v)
    (hdec : ∀ cs, cs.length = Tryz.prog.cellsOf e → (∃ m y, DataW.trod enc Tryz.prog w base spare held m e cs = some y) → ∃ a, reps [] w (abs a) cs ∧ Ok a) :
    ∃ xs : List α, rep [] w (.sl s (xs.map abs)) v ∧ ∀ a ∈ xs, Ok a := by
  obtain ⟨fuel, x, h⟩ := h
  obtain ⟨A, n, c, rfl⟩ : ∃ A n c, v = .slice A n c := by
    rcases Deep.open_slice ht h with ⟨hcs, _⟩ | ⟨a, len, cap, m, n', D, Pl, hcs, _⟩
    · simp at hcs; exact ⟨_, _, _, hcs⟩
    · simp at hcs; exact ⟨_, _, _, hcs⟩
  obtain ⟨h1, h2, ys, h3, h4, h5⟩ := open_row ht h
  obtain ⟨xs, h6, h7, h8⟩ := gE_ (abs := abs) (Ok := Ok) (s := s) (w := w) (ys := ys) fun cs hc => ⟨by rw [← hs]; exact (h4 cs hc).1, hdec cs (h4 cs hc).1 (h4 cs hc).2⟩
  refine ⟨xs, ⟨ys.flatten, ⟨⟨A, c, ?_, ?_, h2, kx_ ht h⟩, fun hn => ?_⟩, h6⟩, h8⟩
  · rw [List.length_map, h7, h3]
  · rw [List.length_map, h7, h3]; exact h1
  · obtain ⟨b, off, rfl, hc⟩ := h5 hn
    exact ⟨b, off, _, _, rfl, by simp, hc⟩
theorem ih_ {K : List Nat} (d : List UInt8) : reps K w (digA d) (d.map bc) := by
  have : digA d = (d.map bc).map .v := by simp [digA]
  rw [this]
  exact ai_.2 rfl
end
theorem _root_.Go.Proofs.YtjclgkddfjbdiaaGreatDoor.IsRow.bytesA {K : List Nat} {w : World} {v : Value} {m : List UInt8} (h : IsRow K w v m.length (m.map bc)) : BytesV w v m := by
  obtain ⟨A, c, rfl, h1, h2, h3⟩ := h.shape
  refine ⟨A, c, rfl, h1, h2, h3, fun hn => ?_⟩
  obtain ⟨b, off, n', c', hv, _, hc⟩ := h.cells hn
  simp at hv
  obtain ⟨rfl, _, _⟩ := hv
  exact ⟨b, off, rfl, hc⟩
theorem bw_ {n : Nat} {W : Wd} {σ : Blks} {l : Slots} {X : List Nat} {x : Operand} {d : Option Nat} {ty : TypeId} {pos : String} {aft : Array Edge} {gq : Option (Nat × Bool)} {m : List UInt8} (hx : look l x = some (byt m)) : Val Tryz.prog n W σ l X ⟨d, .convert 39 9 x, ty, pos, aft, gq⟩ (.v (.string ⟨m.toArray⟩)) := fun a w hs hX => ⟨_, rfl, fun w' hw' => by
  have h1 := aP_.1 (hs.eval hx)
  have h2 := (Carry.of_ext hw' (K := mids σ ++ W.G) (K' := mids σ ++ W.G) (fun k hk => .inl (List.mem_append_left _ (hX k hk))) (fun k hk => .inl hk)).row h1
  have := gT_ h2.bytesA
  simp [execOp, this, Result.andThen]⟩
theorem bs_ {P : Program} {n : Nat} {W : Wd} {ops : Array Oper} {l : Slots} {σ : Blks} {X : List Nat} {Q : Exit → Act → World → Prop} {ix : Plan} {f : FuncId} {args args' : List Abs} {σ1 : Blks} {ι : Type} {τ' : ι → Blks} {res : ι → Abs} {xs : List Operand} {ats : Array TypeId} {d : Option Nat} {ty : TypeId} {pos : String} {aft : Array Edge} {g : Option (Nat × Bool)} {i : Nat} {x : Operand} {m : String} {t : TypeId} {y : Abs}
    (hi : ops[i]? = some ⟨d, .call { callee := .invoke x m, args := xs.toArray, argTypes := ats }, ty, pos, aft, g⟩) (hs : Spec P f args' σ1 τ' res) (hX : ∀ k ∈ mids σ1, k ∈ X) (hx : look l x = some (.ifc t y)) (hca : Casts (y :: args) args')
    (hmm : ∀ (u : Value) (ρ : Operand → Value) w, (Go.invoke (.fn (.method m) #[]) (#[.iface t u] ++ (xs.map ρ).toArray)).run P w = .ok (.enter f (#[u] ++ (xs.map ρ).toArray)) w) (hv : looks l xs = some args)
    (hg : gd ops l ⟨d, .call { callee := .invoke x m, args := xs.toArray, argTypes := ats }, ty, pos, aft, g⟩ = some true) (hd : lt? d n = true)
    (k : After σ σ1 τ' fun ν z => SX P ops ix X (St n W ν (put? l d (res z))) Q) : SX P ops (.e i ix) X (St n W σ l) Q := fun a w h => by
  unfold planW wpOp
  simp only [hi, h.wanted hg, if_true]
  refine .inl ?_
  unfold Oper.wp
  obtain ⟨u, h1, h2⟩ := h.eval hx
  rw [jd_ rfl h1 (hmm u a.eval), Oper.upon_enter]
  have : reps (mids σ ++ W.G) w (y :: args) (u :: xs.map a.eval) := ⟨u, _, rfl, h2, h.evals hv⟩
  rw [show #[u] ++ (xs.map a.eval).toArray = (u :: xs.map a.eval).toArray by simp]
  refine (hs.after h.mem (hca _ _ _ this) k).mono fun e w' ⟨z, r, ν, he, hx, _, hm, hc, hr, hk⟩ => ?_
  subst he
  exact ⟨fun w2 => Ext X w' w2, fun w2 h2 => (hx.mono (fun k hk => .inl (hX k hk))).trans h2 fun k hk => .inl hk, Ext.refl w', hk _ _ ((h.to hm hc).put hd hr)⟩
theorem cq_ {P : Program} {n : Nat} {W : Wd} {σ : Blks} {l : Slots} {X : List Nat} {x : Operand} {d : Option Nat} {ty : TypeId} {pos : String} {aft : Array Edge} {g : Option (Nat × Bool)} {m : String} {t : TypeId} {u : Value}
    (hx : look l x = some (.fn (.method m) [.ifc t (.v u)] [])) (h : ∀ w, (nilAhead (P.types.size + Made.depth) t u m).run P w = .ok (some false) w) : Val P n W σ l X ⟨d, .nilCheck x, ty, pos, aft, g⟩ (.fn (.method m) [.ifc t (.v u)] []) := fun a w hs _ => by
  have hr := hs.eval hx
  obtain ⟨us, vs, h1, ⟨_, _, rfl, ⟨_, rfl, h2⟩, h3⟩, h4⟩ := hr
  have h2 : _ = u := h2
  have h3 : _ = [] := h3
  have h4 : vs = [] := h4
  subst h2 h3 h4
  refine ⟨_, hs.eval hx, fun w' _ => ?_⟩
  simp [execOp, h1, Sem.run_bind, program, Sem.run, h w', Result.andThen]
abbrev DMap := List ((Nat × List UInt8) × Nat)
abbrev TMap := List (((Int × Int) × List UInt8) × Nat)
theorem gJ_ {α β : Type} {w w' : World} {b : Nat} {K : α → Value} {V : β → Value} {Good : α → Prop} {m : List (α × β)} (h : MapOf w b K V Good m) (hb : w'.heap[b]? = w.heap[b]?) : MapOf w' b K V Good m := by
  obtain ⟨es, clock, h1, h2⟩ := h
  exact ⟨es, clock, hb.trans h1, h2⟩
def bkPc (p bd bt : Nat) (D : DMap) (T : TMap) : Pc where
  ids := [p, bd, bt]
  p := fun _ w => BookAt w p bd bt D T
  carry := fun K w K' w' _ hs h => ⟨(hs p (by simp)).trans h.blk, gJ_ h.md (hs bd (by simp)), gJ_ h.mt (hs bt (by simp)), h.ne⟩
  lt := fun K w h k hk => by
    simp only [List.mem_cons, List.not_mem_nil, or_false] at hk
    rcases hk with rfl | rfl | rfl
    · exact h.blk.lt
    · exact h.md.lt
    · exact h.mt.lt
theorem iL_ {w : World} {p bd bt : Nat} {D D' : DMap} {T T' : TMap} (h : BookAt w p bd bt D T) : (It.mids (.pc (bkPc p bd bt D' T'))).Nodup := by
  obtain ⟨h1, h2, h3⟩ := h.ne
  simp [It.mids, bkPc]
  omega
section
variable {p bd bt : Nat} {D : DMap} {T : TMap} {k x y : Int} {l : List UInt8}
theorem bknew_s : Spec Tryz.prog 15 [] [] (fun z : Nat × Nat × Nat => [.pc (bkPc z.1 z.2.1 z.2.2 [] [])]) (fun z => .v (.pointer (some ⟨z.1, 0, none⟩))) := fun G w vals hm hv => by
  have hv : vals = [] := hv
  subst hv
  refine (book_New w).mono fun e w' ⟨h1, h2, h3⟩ => ?_
  have h4 := hm.new (y := .pc (bkPc (w.heap.size + 2) w.heap.size (w.heap.size + 1) [] [])) h3 (iL_ h2) (by
    intro k hk
    simp only [It.mids, bkPc, List.mem_cons, List.not_mem_nil, or_false] at hk
    omega) rfl (fun _ => h2)
  exact ⟨(w.heap.size + 2, w.heap.size, w.heap.size + 1), _, h1, by simp [It.rids], h4.1, rfl⟩
theorem jt_ (hl : l.length ≤ maxLen) (hm : D.length < 1000000) (hpl : pl D (k8 k, l) < 9223372036854775808) :
    Spec Tryz.prog 553 [.v (.pointer (some ⟨p, 0, none⟩)), .v (.int .i64 k), byt l] [.pc (bkPc p bd bt D T)] (fun _ : Unit => [.pc (bkPc p bd bt (pm D (k8 k, l)) T)]) (fun _ => .agg (digA (numB (k8 k) (pl D (k8 k, l))))) := fun G w vals hmm hv => by
  obtain ⟨_, _, rfl, h1, _, _, rfl, h2, v, _, rfl, h3, h4⟩ := hv
  have h1 : _ = Value.pointer (some ⟨p, 0, none⟩) := h1
  have h2 : _ = Value.int .i64 k := h2
  have h4 : _ = [] := h4
  subst h1 h2 h4
  have hb : BookAt w p bd bt D T := hmm.hold (.pc (bkPc p bd bt D T)) (by simp)
  refine (hO_ w p bd bt D T k v l hb (aP_.1 h3).bytesA ⟨by show k8 k < 256; unfold k8; omega, hl⟩ (by omega) hpl).mono fun e w' ⟨e1, e2, e3⟩ => ?_
  have h5 := hmm.upd (x := .pc (bkPc p bd bt D T)) (y := .pc (bkPc p bd bt (pm D (k8 k, l)) T)) .here (e3.mono (by simp [It.mids, bkPc])) (iL_ e2) (fun k hk => .inl hk) rfl (fun _ => e2)
  refine ⟨(), _, e1, by simp [It.rids], h5.1, ?_⟩
  rw [fS_ _ _ (by unfold k8; omega)]
  exact ⟨_, rfl, ih_ _⟩
end
section
variable {from_ to_ : Int} {l M : List UInt8} {p bd bt : Nat} {D : DMap} {T : TMap}
/-! ### The program's calls -/
theorem la_ (hx : i64r from_) (hy : i64r to_) (hl : l.length ≤ maxLen) (hm : T.length < 1000000) (hpl : pl T ((from_, to_), l) < 9223372036854775808) :
    Spec Tryz.prog 555 [.v (.pointer (some ⟨p, 0, none⟩)), int from_, int to_, byt l] [.pc (bkPc p bd bt D T)] (fun _ : Unit => [.pc (bkPc p bd bt D (pm T ((from_, to_), l)))]) (fun _ => .agg (digA (numB 255 (pl T ((from_, to_), l))))) := fun G w vals hmm hv => by
  obtain ⟨_, _, rfl, h1, _, _, rfl, h2, _, _, rfl, h2', v, _, rfl, h3, h4⟩ := hv
  have h1 : _ = Value.pointer (some ⟨p, 0, none⟩) := h1
  have h2 : _ = Value.int .i64 from_ := h2
  have h2' : _ = Value.int .i64 to_ := h2'
  have h4 : _ = [] := h4
  subst h1 h2 h2' h4
  have hb : BookAt w p bd bt D T := hmm.hold (.pc (bkPc p bd bt D T)) (by simp)
  refine (iK_ w p bd bt D T from_ to_ v l hb (aP_.1 h3).bytesA ⟨hx, hy, hl⟩ (by omega) hpl).mono fun e w' ⟨e1, e2, e3⟩ => ?_
  have h5 := hmm.upd (x := .pc (bkPc p bd bt D T)) (y := .pc (bkPc p bd bt D (pm T ((from_, to_), l)))) .here (e3.mono (by simp [It.mids, bkPc])) (iL_ e2) (fun k hk => .inl hk) rfl (fun _ => e2)
  refine ⟨(), _, e1, by simp [It.rids], h5.1, ?_⟩
  rw [fS_ _ _ (by omega)]
  exact ⟨_, rfl, ih_ _⟩
theorem gZ_ (hx : i64r from_) (hy : i64r to_) (hl : l.length ≤ maxLen) (hM : M.length = 32) (hm : T.length < 1000000) (hpl : pl T ((from_, to_), l) < 9223372036854775808) :
    Spec Tryz.prog 552 [.v (.pointer (some ⟨p, 0, none⟩)), int from_, int to_, byt l, .agg (digA M)] [.pc (bkPc p bd bt D T)] (fun _ : Unit => [.pc (bkPc p bd bt D T)]) (fun _ => boo ((aget T ((from_, to_), l)).isSome && decide (M = numB 255 (pl T ((from_, to_), l))))) := fun G w vals hmm hv => by
  obtain ⟨_, _, rfl, h1, _, _, rfl, h2, _, _, rfl, h2', v, _, rfl, h3, _, _, rfl, ⟨us, rfl, h5⟩, h4⟩ := hv
  have h1 : _ = Value.pointer (some ⟨p, 0, none⟩) := h1
  have h2 : _ = Value.int .i64 from_ := h2
  have h2' : _ = Value.int .i64 to_ := h2'
  have h4 : _ = [] := h4
  have h5 : us = M.map bc := by
    have e : digA M = (M.map bc).map .v := by simp [digA]
    rw [e] at h5
    exact ai_.1 h5
  subst h1 h2 h2' h4 h5
  have hb : BookAt w p bd bt D T := hmm.hold (.pc (bkPc p bd bt D T)) (by simp)
  refine (js_ w p bd bt D T from_ to_ v l M hb (aP_.1 h3).bytesA ⟨hx, hy, hl⟩ hM (by omega) hpl _ rfl).mono fun e w' ⟨e1, e2, e3⟩ => ?_
  have h6 := hmm.upd (x := .pc (bkPc p bd bt D T)) (y := .pc (bkPc p bd bt D T)) .here (e3.mono (by simp [It.mids, bkPc])) (iL_ e2) (fun k hk => .inl hk) rfl (fun _ => e2)
  exact ⟨(), _, e1, by simp [It.rids], h6.1, rfl⟩
end
structure Tg where
  d : List UInt8
  len : d.length = 32
def Tg.abs (t : Tg) : List Abs := digA t.d
theorem Tg.size (t : Tg) : t.abs.length = 32 := by simp [Tg.abs, digA, t.len]
structure Msg where
  kind : Int
  from_ : Int
  body : List UInt8
  tags : List Tg
def Msg.abs (m : Msg) : List Abs := [int m.kind, int m.from_, byt m.body, .sl 32 (m.tags.map Tg.abs)]
theorem iv_ {α β : Type} {w w' : World} {b : Nat} {K : α → Value} {V : β → Value} {Good : α → Prop} {m : List (α × β)} (h : MapOf w b K V Good m) (hb : w'.heap[b]? = w.heap[b]?) : MapOf w' b K V Good m := by
  obtain ⟨es, clock, h1, h2⟩ := h
  exact ⟨es, clock, hb.trans h1, h2⟩
def mapPc {α β : Type} (b : Nat) (K : α → Value) (V : β → Value) (Good : α → Prop) (m : List (α × β)) : Pc where
  ids := [b]
  p := fun _ w => MapOf w b K V Good m
  carry := fun _ _ _ _ _ hs h => iv_ h (hs b (by simp))
  lt := fun _ _ h k hk => by simp at hk; subst hk; exact h.lt
abbrev mapV (b : Nat) : Abs := .v (.map (some b))
section
variable {P : Program} {n : Nat} {W : Wd} {σ τ : Blks} {l : Slots} {X : List Nat} {x y z : Operand} {d : Option Nat} {ty t k e : TypeId} {pos : String} {aft : Array Edge} {g : Option (Nat × Bool)} {b : Nat} {A B C : Abs}
variable {α β : Type} [DecidableEq α] {K : α → Value} {V : β → Value} {Good : α → Prop} {m : List (α × β)} {a : α} {v : β} {zv : Value}
def Abs.is (A : Abs) (u : Value) : Prop := (∀ K w x, rep K w A x → x = u) ∧ ∀ K w, rep K w A u
theorem is_v {u : Value} : (Abs.v u).is u := ⟨fun _ _ _ h => h, fun _ _ => rfl⟩
theorem is_agg {us : List Value} : (Abs.agg (us.map .v)).is (.agg us.toArray) := ⟨fun _ _ _ ⟨vs, h1, h2⟩ => by rw [h1, ai_.1 h2], fun _ _ => ⟨us, rfl, ai_.2 rfl⟩⟩
omit [DecidableEq α] in
theorem mem_map {w0 w : World} {F G : List Nat} {σ : Blks} (h : Mem w0 F G σ w) (hb : It.pc (mapPc b K V Good m) ∈ σ ∨ It.rdpc (mapPc b K V Good m) ∈ σ) : MapOf w b K V Good m := by
  rcases hb with hb | hb
  · exact h.hold _ hb
  · exact h.hold _ hb
end
end Go.Proofs.YtjclgkddfjbdiaaGreatDoor.A
namespace Go.Proofs.YtjclgkddfjbdiaaGreatDoor
open Go.RowKit
section
variable {α β : Type} [DecidableEq α] {P : Program} {w w' : World} {b : Nat} {k e t : TypeId} {K : α → Value} {V : β → Value} {Good : α → Prop} {m : List (α × β)}
theorem g3_ {m : List (α × β)} {a : α} (h : aget m a = none) : adel m a = m := by
  unfold adel
  rw [List.filter_eq_self]
  intro q hq
  simp only [decide_eq_true_eq]
  intro e
  rw [e3_] at h
  exact h (e ▸ List.mem_map.2 ⟨q, hq, rfl⟩)
end
end Go.Proofs.YtjclgkddfjbdiaaGreatDoor
namespace Go.Proofs.YtjclgkddfjbdiaaGreatDoor.A
open Go.RowKit
/-! ### Keys that are ints -/
abbrev intK (x : Int) : Value := .int .i64 x
abbrev intOk (x : Int) : Prop := InR .i64 x
theorem ix_ {x : Int} (h : intOk x) : (Lit.int .i64 x).wf = true := by
  simp only [InR, lo, hi] at h
  simp only [Lit.wf, Bool.and_eq_true, decide_eq_true_eq]
  exact ⟨by show (-9223372036854775808 : Int) ≤ _; omega, by show _ ≤ (9223372036854775807 : Int); omega⟩
theorem a0_ {P : Program} {k : TypeId} (hk : P.underlying k = some (.int .i64)) : KeyFit P k intK intOk where
  keyed := Maps.int_keyed hk
  lit a h := ⟨_, Maps.keyOf_int_mk hk (ix_ h)⟩
  inj a b _ _ h := by
    injection h
def srt (ks : List Int) : List Int := ks.mergeSort fun x y => decide (x ≤ y)
theorem ej_ (ks : List Int) : (srt ks).Perm ks := List.mergeSort_perm _ _
theorem fk_ (ks : List Int) : (srt ks).Pairwise (· ≤ ·) := by
  have h := List.pairwise_mergeSort (le := fun x y : Int => decide (x ≤ y)) (fun a b c h1 h2 => by simp only [decide_eq_true_eq] at *; omega) (fun a b => by simp only [Bool.or_eq_true, decide_eq_true_eq]; omega) ks
  exact h.imp fun h => by simpa using h
theorem dm_ : ∀ {l m : List Int}, l.Perm m → l.Pairwise (· ≤ ·) → m.Pairwise (· ≤ ·) → l = m
  | [], m, h, _, _ => (List.nil_perm.1 h).symm ▸ rfl
  | a :: l, [], h, _, _ => by have := h.length_eq; simp at this
  | a :: l, b :: m, h, h1, h2 => by
    rw [List.pairwise_cons] at h1 h2
    have hab : a = b := by
      have ha : a ∈ b :: m := h.mem_iff.1 List.mem_cons_self
      have hb : b ∈ a :: l := h.mem_iff.2 List.mem_cons_self
      rcases List.mem_cons.1 ha with e | ha
      · exact e
      · rcases List.mem_cons.1 hb with e | hb
        · exact e.symm
        · have := h1.1 b hb; have := h2.1 a ha; omega
    subst hab
    rw [dm_ (h.cons_inv) h1.2 h2.2]
theorem kc_ {l m : List Int} (h : l.Perm m) : srt l = srt m := dm_ (((ej_ l).trans h).trans (ej_ m).symm) (fk_ l) (fk_ m)
theorem b7_ (ks : List Int) : (srt ks).length = ks.length := (ej_ ks).length_eq
section
variable {α : Type} [DecidableEq α] {m : List (Int × α)} {c : List (α × Nat)} {u v k : α} {w who : Int}
def cget (c : List (α × Nat)) (v : α) : Nat := (aget c v).getD 0
def cnt (m : List (Int × α)) (v : α) : Nat := (m.filter fun p => decide (p.2 = v)).length
structure TInv (m : List (Int × α)) (c : List (α × Nat)) : Prop where
  nd : (m.map (·.1)).Nodup
  num : ∀ v, cget c v = cnt m v
theorem cnt_cons (p : Int × α) (m : List (Int × α)) (v : α) : cnt (p :: m) v = (if p.2 = v then 1 else 0) + cnt m v := by
  unfold cnt
  rw [List.filter_cons]
  by_cases h : p.2 = v
  · simp [h]; omega
  · simp [h]
theorem cnt_le (m : List (Int × α)) (v : α) : cnt m v ≤ m.length := List.length_filter_le _ _
omit [DecidableEq α] in
theorem lk_ (p : Int × α) (m : List (Int × α)) (w : Int) : aget (p :: m) w = if p.1 = w then some p.2 else aget m w := by
  unfold aget
  rw [List.find?_cons]
  by_cases h : p.1 = w <;> simp [h]
theorem kZ_ : ∀ {m : List (Int × α)} {w : Int} {v : α}, aget m w = some v → 1 ≤ cnt m v
  | [], w, v, h => by cases h
  | p :: m, w, v, h => by
    rw [lk_] at h
    rw [cnt_cons]
    split at h
    · have := Option.some.inj h
      rw [if_pos this]
      omega
    · have := kZ_ h
      omega
omit [DecidableEq α] in
theorem map_none : ∀ {m : List (Int × α)} {w : Int} {k : α}, w ∉ m.map (·.1) → (m.map fun p => if p.1 = w then (w, k) else p) = m
  | [], _, _, _ => rfl
  | p :: m, w, k, h => by
    rw [List.map_cons, List.mem_cons, not_or] at h
    rw [List.map_cons, if_neg (fun e => h.1 e.symm), map_none h.2]
theorem TInv.nil : TInv ([] : List (Int × α)) [] := ⟨by simp, fun v => rfl⟩
theorem TInv.pos (h : TInv m c) (hw : aget m who = some v) : 1 ≤ cget c v := by rw [h.num]; exact kZ_ hw
end
def isOwn (σ : Blks) (e : TypeId) (s : Nat) (v : Value) (xs : List (List Abs)) : Prop := own e s v xs ∈ σ ∨ It.rdpc (ownPc e s v xs) ∈ σ
def eptr : Value → Nat → Value
  | .slice (some ⟨b, off, _⟩) _ _, o => .pointer (some ⟨b, off + o, none⟩)
  | v, _ => v
section
variable {P : Program} {n : Nat} {W : Wd} {σ τ : Blks} {l : Slots} {X : List Nat} {x y z : Operand} {d : Option Nat} {ty t e e' : TypeId} {pos : String} {aft : Array Edge} {g : Option (Nat × Bool)} {v : Value} {k : IntKind} {A : Abs} {tab : List (Nat × TI)} {xs : List (List Abs)} {s q : Nat} {cs : List Abs}
theorem Mem.ownR {w0 w : World} {F G : List Nat} (h : Mem w0 F G σ w) (hb : isOwn σ e s v xs) : ∃ us, IsRow [] w v xs.length us ∧ repss (mids σ ++ G) w s xs us := by
  have hp : (ownPc e s v xs).p (mids σ ++ G) w := by
    rcases hb with hb | hb
    · exact h.hold _ hb
    · exact h.hold _ hb
  obtain ⟨us, h1, h2⟩ := hp
  exact ⟨us, ownsRow.isRow h1 (by simp), h2⟩
theorem df_ {m : Nat} (hx : look l x = some (.v v)) (hb : isOwn σ e' s v xs) (ht : P.underlying t = some (.slice e)) (hm : xs.length = m) : Val P n W σ l X ⟨d, .call { callee := .builtin .len, args := #[x], argTypes := #[t] }, ty, pos, aft, g⟩ (.v (.int .i64 m)) := aB_ fun a w hs _ => by
  subst hm
  obtain ⟨us, h1, _⟩ := hs.mem.ownR hb
  obtain ⟨A', c, h2, _⟩ := h1.shape
  exact ⟨_, rfl, fun w' _ => Proofs.YtjclgkddfjbdiaaGreatDoor.H_ (by rw [hs.at2 hx, hs.plain hx, h2]) ht⟩
theorem gD_ {w : World} {us : List Value} (hr : IsRow [] w v xs.length us) (hp : repss (mids σ ++ W.G) w s xs us) (hpos : 0 < s) (hq : xs[q]? = some cs) : ∃ b off c, v = .slice (some ⟨b, off, none⟩) xs.length c ∧ b < w.heap.size ∧ ∃ vs : List Value, vs.length = s ∧ reps (mids σ ++ W.G) w cs vs ∧ ∀ j u, vs[j]? = some u → w.cell? ⟨b, off + q * s + j, none⟩ = some u := by
  obtain ⟨vs, h3, h4, h5⟩ := eD_ hp hq
  have hlt : q < xs.length := (List.getElem?_eq_some_iff.1 hq).1
  have hlen := aI_ hp
  have hne : us ≠ [] := by
    rintro rfl
    have : xs.length * s = 0 := by simpa using hlen.symm
    rcases Nat.mul_eq_zero.1 this with h | h <;> omega
  obtain ⟨A', c, hsh, h6, h7, h8⟩ := hr.shape
  obtain ⟨b, off, n', c', hv, hb, hc⟩ := hr.cells hne
  have hv2 := hv
  rw [hsh] at hv2
  simp at hv2
  obtain ⟨rfl, rfl, rfl⟩ := hv2
  have hcell : ∀ j u, vs[j]? = some u → w.cell? ⟨b, off + q * s + j, none⟩ = some u := fun j u hu => by rw [Nat.add_assoc]; exact hc _ u (h5 j u hu)
  have hbl : b < w.heap.size := by
    cases vs with
    | nil => simp at h3; omega
    | cons u vs => exact block_lt_of_cell (hcell 0 u rfl)
  exact ⟨b, off, _, hsh, hbl, vs, h3, h4, hcell⟩
theorem aU_ (hT : TabOk P tab) {j : TI} (hu : P.underlying t = some (.slice e)) (hj : ti tab e = some j) (hx : look l x = some (.v v)) (hb : isOwn σ e' s v xs) {r : Int} (hy : look l y = some (.v (.int k r))) (hr : r = (q : Nat)) (hq : q < xs.length) (hsz : Nat.beq s j.size = true) (hpos : Nat.blt 0 s = true) :
    Val P n W σ l X ⟨d, .indexAddr t x y, ty, pos, aft, g⟩ (.v (eptr v (q * s))) := aB_ fun a w hs hX => by
  subst hr
  have hsz := Nat.eq_of_beq_eq_true hsz
  have hpos : 0 < s := by simpa [Nat.blt_eq] using hpos
  obtain ⟨us, h1, h2⟩ := hs.mem.ownR hb
  obtain ⟨b, off, c, hv, _⟩ := gD_ h1 h2 hpos (List.getElem?_eq_getElem hq)
  refine ⟨_, rfl, fun w' _ => ?_⟩
  rw [hv]
  show Proofs.YtjclgkddfjbdiaaGreatDoor.Val _ _ _ _ _ (.pointer (some ⟨b, off + q * s, none⟩))
  rw [hsz]
  exact Proofs.YtjclgkddfjbdiaaGreatDoor.bT_ hT hu hj (by rw [hs.at2 hx, hs.plain hx, hv]) (by rw [hs.at2 hy, hs.plain hy]) hq
theorem ec_ (hT : TabOk P tab) {sz : Nat} {zs : List Value} (ht : ti tab t = some ⟨sz, .one, zs⟩) (hx : look l x = some (.v (eptr v (q * s)))) (hb : isOwn σ e' s v xs) (hpos : Nat.blt 0 s = true) (hq : xs[q]? = some cs) (hv : cs[0]? = some A) : Val P n W σ l [] ⟨d, .load t x, ty, pos, aft, g⟩ A := aB_ fun a w hs hX => by
  have hpos : 0 < s := by simpa [Nat.blt_eq] using hpos
  obtain ⟨us, h1, h2⟩ := hs.mem.ownR hb
  obtain ⟨b, off, c, hvv, hbl, vs, h3, h4, h5⟩ := gD_ h1 h2 hpos hq
  obtain ⟨u, h6, h7⟩ := a2_ h4 hv
  refine ⟨u, h7, fun w' hw' => Proofs.YtjclgkddfjbdiaaGreatDoor.fA_ (b := b) (o := off + q * s) hT ht (by rw [hs.at2 hx, hs.plain hx, hvv]; rfl) fun w1 e => by subst e; exact ca_ hw' (by simp) (h5 0 u h6)⟩
theorem ea_ (hT : TabOk P tab) {i : TI} (ht : ti tab t = some i) (hk : (match i.k with | .one => false | _ => true) = true) (hx : look l x = some (.v (eptr v (q * s)))) (hb : isOwn σ e' s v xs) (hpos : Nat.blt 0 s = true) (hq : xs[q]? = some cs) (hs0 : Nat.beq s i.size = true) : Val P n W σ l [] ⟨d, .load t x, ty, pos, aft, g⟩ (.agg cs) := aB_ fun a w hs hX => by
  have hpos : 0 < s := by simpa [Nat.blt_eq] using hpos
  have hs0 := Nat.eq_of_beq_eq_true hs0
  obtain ⟨us, h1, h2⟩ := hs.mem.ownR hb
  obtain ⟨b, off, c, hvv, hbl, vs, h3, h4, h5⟩ := gD_ h1 h2 hpos hq
  exact ⟨_, ⟨vs, rfl, h4⟩, fun w' hw' => Proofs.YtjclgkddfjbdiaaGreatDoor.dZ_ (b := b) (o := off + q * s) hT ht hk (by rw [hs.at2 hx, hs.plain hx, hvv]; rfl) (by omega) fun w1 e j u hu => by subst e; exact ca_ hw' (by simp) (h5 j u hu)⟩
theorem W_ {ι : Type} {σ1 : Blks} {τ' : ι → Blks} {K : Blks → ι → Prop} (α : Blks) {β : Blks} (hσ : σ = α ++ (σ1 ++ β)) (hr : ∀ x ∈ σ1, x.rids = []) (k : ∀ z, K (α ++ (τ' z ++ β)) z) : After σ σ1 τ' K := by
  subst hσ
  refine ⟨α ++ β, ⟨?_, fun x hx => .inl ⟨by simp [hx], hr x hx⟩, fun x hx => ?_⟩, fun z => ⟨_, ?_, k z⟩⟩
  · simp only [T_]
    exact List.perm_append_comm_assoc _ _ _
  · rcases List.mem_append.1 hx with h | h <;> simp [h]
  · exact List.perm_append_comm_assoc _ _ _
end
theorem bL_ {P : Program} {n : Nat} {W : Wd} {σ : Blks} {l : Slots} {Q : Exit → Act → World → Prop} {x y : Code} {ι : Type} (H : ι → Blks) (L : ι → Slots) (Φ : ι → Prop) (h : SC P x (St n W σ l) (Exit.then (fun a w => ∃ z, Head n W H L Φ z a w) Q)) (k : ∀ z, Φ z → SC P y (St n W (H z) (L z)) Q) : SC P (.seq x y) (St n W σ l) Q := lv_ H L Φ h k
section
variable {P : Program} {n : Nat} {W : Wd} {ops : Array Oper} {l : Slots} {σ : Blks} {X : List Nat} {Q : Exit → Act → World → Prop} {ix : Plan} {f : FuncId} {args args' : List Abs} {σ1 : Blks} {ι : Type} {τ' : ι → Blks} {res : ι → Abs} {xs : List Operand} {ats : Array TypeId} {d : Option Nat} {ty : TypeId} {pos : String} {aft : Array Edge} {g : Option (Nat × Bool)} {i : Nat}
theorem bV_ (X' : List Nat) (hi : ops[i]? = some ⟨d, .call { callee := .value (.func f), args := xs.toArray, argTypes := ats }, ty, pos, aft, g⟩) (hs : Spec P f args' σ1 τ' res) (hX : ∀ k ∈ mids σ1, k ∈ X) (hX' : ∀ k ∈ X', k ∈ X) (hca : Casts args args') (hb : goesIn P f = true) (hv : looks l xs = some args)
    (hg : gd ops l ⟨d, .call { callee := .value (.func f), args := xs.toArray, argTypes := ats }, ty, pos, aft, g⟩ = some true) (hd : lt? d n = true)
    (k : After σ σ1 τ' fun ν z => SX P ops ix X' (St n W ν (put? l d (res z))) Q) : SX P ops (.e i ix) X (St n W σ l) Q := fun a w h => by
  unfold planW wpOp
  simp only [hi, h.wanted hg, if_true]
  refine .inl ?_
  unfold Oper.wp
  rw [ci_ hb rfl, Oper.upon_enter]
  refine (hs.after h.mem (hca _ _ _ (h.evals hv)) k).mono fun e w' ⟨z, r, ν, he, hx, _, hm, hc, hr, hk⟩ => ?_
  subst he
  exact ⟨fun w2 => Ext X' w' w2, fun w2 h2 => (hx.mono (fun k hk => .inl (hX k hk))).trans h2 fun k hk => .inl (hX' k hk), Ext.refl w', hk _ _ ((h.to hm hc).put hd hr)⟩
end
theorem ga_ {P : Program} {n : Nat} {W : Wd} {σ : Blks} {l : Slots} {X : List Nat} {x y : Operand} {d : Option Nat} {ty t t' : TypeId} {pos : String} {aft : Array Edge} {gq : Option (Nat × Bool)} {k : IntKind} {a b : Int} (hx : look l x = some (.v (.int k a))) (hy : look l y = some (.v (.int k b))) :
    Val P n W σ l X ⟨d, .call { callee := .builtin .max, args := #[x, y], argTypes := #[t, t'] }, ty, pos, aft, gq⟩ (.v (.int k (max a b))) := fun ac w hs _ => ⟨_, rfl, fun w' _ => by
  have hm : (if a < b then b else a) = max a b := by omega
  simp [execOp, resolve, invoke, builtin, Builtin.max_, Builtin.max2, hs.plain hx, hs.plain hy, List.foldlM, hm]⟩
end Go.Proofs.YtjclgkddfjbdiaaGreatDoor.A
namespace Go.Proofs.YtjclgkddfjbdiaaGreatDoor
open Go.RowKit
/-! ### Regions that draw, whose last operation comes behind all others -/
section
variable {P : Program} {ops : Array Oper}
def anyZ (P : Program) (ops : Array Oper) (D : World → Prop) (z : Nat) (Q : Act → World → Prop) : Nat → Array Bool → Act → World → Prop
  | 0, listed, a, w => Region.ready .any ops listed = [] ∧ Q a w
  | fuel + 1, listed, a, w => (Region.ready .any ops listed = [] → Q a w) ∧
      ∀ i ∈ Region.ready .any ops listed, wpOp P ops NoExit i (fun a' w' => (i = z ∨ D w') ∧ anyZ P ops D z Q fuel (listed.setIfInBounds i true) a' w') a w
theorem anyZ.wpAny {D : World → Prop} {z : Nat} {Q : Exit → Act → World → Prop} : ∀ (fuel : Nat) (listed : Array Bool) (a : Act) (w : World),
    anyZ P ops D z (Q .normal) fuel listed a w → wpAny P .any ops Q fuel listed a w
  | 0, _, _, _, h => h
  | fuel + 1, _, _, _, h => ⟨h.1, fun i hi => b1_ (wpOp_mono (fun a' w' h3 => anyZ.wpAny fuel _ a' w' h3.2) (h.2 i hi))⟩
theorem anyZ.mono {D D' : World → Prop} {z : Nat} {Q : Act → World → Prop} (hD : ∀ w, D' w → D w) : ∀ (fuel : Nat) (listed : Array Bool) (a : Act) (w : World),
    anyZ P ops D' z Q fuel listed a w → anyZ P ops D z Q fuel listed a w
  | 0, _, _, _, h => h
  | fuel + 1, _, _, _, h => ⟨h.1, fun i hi => wpOp_mono (fun a' w' h3 => ⟨h3.1.imp_right (hD _), anyZ.mono hD fuel _ a' w' h3.2⟩) (h.2 i hi)⟩
def Down (ops : Array Oper) (L : Array Bool) : Prop := ∀ (k : Nat) (o : Oper), ops[k]? = some o → L.getD k false = true → ∀ e ∈ o.after, Region.binds .any e = true → L.getD e.on false = true
theorem Down.set {L : Array Bool} (h : Down ops L) {j : Nat} (hj : j ∈ Region.ready .any ops L) : Down ops (L.setIfInBounds j true) := by
  intro k o hk hl e he hb
  refine getD_set_true ?_
  by_cases hkj : k = j
  · subst hkj
    obtain ⟨_, o', ho', hall⟩ := mem_ready.1 hj
    rw [ho'] at hk
    cases hk
    exact hall e he hb
  · have : (L.setIfInBounds j true).getD k false = L.getD k false := getD_set_ne false (Ne.symm hkj)
    exact h k o hk (this ▸ hl) e he hb
def domOk (ops : Array Oper) : Bool := (List.range (ops.size - 1)).all fun i => (List.range ops.size).any fun j => Nat.blt i j && ((ops[j]?).map fun o => o.after.any fun e => Region.binds .any e && e.on == i).getD false
theorem dom_next (hd : domOk ops = true) {i : Nat} (hi : i + 1 < ops.size) : ∃ j o, i < j ∧ j < ops.size ∧ ops[j]? = some o ∧ ∃ e ∈ o.after, Region.binds .any e = true ∧ e.on = i := by
  unfold domOk at hd
  rw [List.all_eq_true] at hd
  have h1 := hd i (by rw [List.mem_range]; omega)
  rw [List.any_eq_true] at h1
  obtain ⟨j, hj, h2⟩ := h1
  rw [List.mem_range] at hj
  simp only [Bool.and_eq_true, Nat.blt_eq] at h2
  obtain ⟨h2, h3⟩ := h2
  cases ho : ops[j]? with
  | none => rw [ho] at h3; cases h3
  | some o =>
    rw [ho] at h3
    simp only [Option.map_some, Option.getD_some, Array.any_eq_true, Bool.and_eq_true, beq_iff_eq] at h3
    obtain ⟨m, hm, hb, hon⟩ := h3
    exact ⟨j, o, h2, hj, ho, _, Array.getElem_mem hm, hb, hon⟩
theorem dom_all (hd : domOk ops = true) {L : Array Bool} (hL : Down ops L) (hz : ops.size - 1 ∈ Region.ready .any ops L) : ∀ m i, ops.size - 1 - i = m → i + 1 < ops.size → L.getD i false = true := by
  intro m
  induction m using Nat.strongRecOn with
  | _ m ih =>
    intro i hm hi
    obtain ⟨j, o, hij, hj, ho, e, he, hb, hon⟩ := dom_next hd hi
    subst hon
    by_cases hjz : j = ops.size - 1
    · subst hjz
      obtain ⟨_, o', ho', hall⟩ := mem_ready.1 hz
      rw [ho'] at ho
      cases ho
      exact hall e he hb
    · exact hL j o ho (ih _ (by omega) j rfl (by omega)) e he hb
theorem eS_ {L : Array Bool} {i : Nat} (h : L.getD i true = false) : L.getD i false = false := by
  rw [Array.getD_eq_getD_getElem?] at h ⊢
  cases hq : L[i]? with
  | none => rfl
  | some b => rw [hq] at h; exact h
theorem jx_ {D : World → Prop} {Q : Act → World → Prop} {i : Nat} {oi : Oper} {v : Value} (hd : domOk ops = true) (hiz : i + 1 < ops.size) (hi : ops[i]? = some oi) (hsel : ∀ (j : Nat) (o : Oper) cs b, ops[j]? = some o → o.op ≠ .select cs b) :
    ∀ (fuel : Nat) (listed : Array Bool) (a : Act) (w : World), D w → Down ops listed →
      (∀ j oj, ops[j]? = some oj → j ≠ i → listed.getD j true = false → (∀ e ∈ oj.after, Region.binds .any e = true → e.on ≠ i) → oi.apart ops oj = true) →
      i ∈ Region.ready .any ops listed → YieldsD P ops D oi v a →
      anyZ P ops D (ops.size - 1) Q fuel (listed.setIfInBounds i true) (a.put oi.dst v) w → anyZ P ops D (ops.size - 1) Q (fuel + 1) listed a w := by
  intro fuel
  induction fuel with
  | zero =>
    intro listed a w hDw _ _ hr hy H
    refine ⟨fun h => (by rw [h] at hr; cases hr), fun j hj => ?_⟩
    by_cases hji : j = i
    · subst hji; exact hy.wpOp hi hDw ⟨.inr hDw, H⟩
    · have := ready_mono hj hji
      rw [H.1] at this
      cases this
  | succ fuel ih =>
    intro listed a w hDw hdn hfree hr hy H
    refine ⟨fun h => (by rw [h] at hr; cases hr), fun j hj => ?_⟩
    by_cases hji : j = i
    · subst hji; exact hy.wpOp hi hDw ⟨.inr hDw, H⟩
    · have hjz : j ≠ ops.size - 1 := fun h => by
        subst h
        have h1 := dom_all hd hdn hj _ i rfl hiz
        have h0 := eS_ (mem_ready.1 hr).1
        rw [h1] at h0
        cases h0
      have h1 := H.2 j (ready_mono hj hji)
      obtain ⟨hjun, oj, hoj, hall⟩ := mem_ready.1 hj
      have hnot : ∀ e ∈ oj.after, Region.binds .any e = true → e.on ≠ i := fun e he hb heq => by
        have h1 := hall e he hb
        have h0 := (mem_ready.1 hr).1
        rw [heq] at h1
        rw [eS_ h0] at h1
        cases h1
      have h2 := es_ hoj (hfree j oj hoj hji hjun hnot) (fun cs b => hsel i oi cs b hi) (fun cs b => hsel j oj cs b hoj) hy h1
      have hfree' : ∀ k ok, ops[k]? = some ok → k ≠ i → (listed.setIfInBounds j true).getD k true = false →
          (∀ e ∈ ok.after, Region.binds .any e = true → e.on ≠ i) → oi.apart ops ok = true := fun k ok hk hki hun hno => by
        refine hfree k ok hk hki ?_ hno
        by_cases hjk : j = k
        · subst hjk; exact hjun
        · rw [getD_set_ne true hjk] at hun; exact hun
      refine wpOp_mono (fun a' w' h3 => ?_) h2
      have hDw' : D w' := h3.2.1.resolve_left hjz
      refine ⟨.inr hDw', ih (listed.setIfInBounds j true) a' w' hDw' (hdn.set hj) hfree' (ready_mono hr (Ne.symm hji)) h3.1 ?_⟩
      rw [Array.setIfInBounds_comm _ _ hji]
      exact h3.2.2
def planOkZ (ops : Array Oper) : Nat → Array Bool → Plan → Bool
  | _ + 1, listed, .nil => (Region.ready .any ops listed == [ops.size - 1]) && (Region.ready .any ops (listed.setIfInBounds (ops.size - 1) true)).isEmpty
  | n + 1, listed, .q i k => Nat.blt (i + 1) ops.size && Region.free .any ops listed i && (Region.ready .any ops listed).contains i && planOkZ ops n (listed.setIfInBounds i true) k
  | n + 1, listed, .e i k => (Region.ready .any ops listed == [i]) && planOkZ ops n (listed.setIfInBounds i true) k
  | n + 1, listed, .two i j k h => (Region.ready .any ops listed == [i, j]) && planOkZ ops n (listed.setIfInBounds i true) k && planOkZ ops n (listed.setIfInBounds j true) h
  | _ + 1, _, .three .. => false
  | _ + 1, _, .four .. => false
  | 0, _, _ => false
theorem planW.anyZ {Q : Act → World → Prop} (hs : Region.noSelect ops = true) (hd : domOk ops = true) : ∀ (n : Nat) (ix : Plan) (D : World → Prop) (listed : Array Bool) (a : Act) (w : World), planOkZ ops n listed ix = true → D w → Down ops listed →
    planW P ops (fun a w => wpOp P ops NoExit (ops.size - 1) Q a w) ix D a w → Proofs.YtjclgkddfjbdiaaGreatDoor.anyZ P ops D (ops.size - 1) Q n listed a w
  | 0, .nil, _, _, _, _, hok, _, _, _ => by cases hok
  | n + 1, .nil, D, listed, a, w, hok, hD, hdn, h => by
    simp only [planOkZ, Bool.and_eq_true, beq_iff_eq, List.isEmpty_iff] at hok
    refine ⟨fun h0 => (by rw [hok.1] at h0; cases h0), fun j hj => ?_⟩
    rw [hok.1] at hj
    simp only [List.mem_singleton] at hj
    subst hj
    refine wpOp_mono (fun a' w' hq => ⟨.inl rfl, ?_⟩) h
    cases n with
    | zero => exact ⟨hok.2, hq⟩
    | succ n => exact ⟨fun _ => hq, fun i hi => by rw [hok.2] at hi; cases hi⟩
  | n + 1, .q i ix, D, listed, a, w, hok, hD, hdn, ⟨o, v, hi, hy, h⟩ => by
    simp only [planOkZ, Bool.and_eq_true, Nat.blt_eq] at hok
    have hrd : i ∈ Region.ready .any ops listed := by simpa using hok.1.2
    exact jx_ hd hok.1.1.1 hi (Region.noSelect_spec hs) n listed a w hD hdn (Region.free_spec hi hok.1.1.2) hrd hy (planW.anyZ hs hd n ix D _ _ _ hok.2 hD (hdn.set hrd) h)
  | n + 1, .e i ix, D, listed, a, w, hok, hD, hdn, h => by
    simp only [planOkZ, Bool.and_eq_true, beq_iff_eq] at hok
    refine ⟨fun h0 => (by rw [hok.1] at h0; cases h0), fun j hj => ?_⟩
    have hj0 := hj
    rw [hok.1] at hj
    simp only [List.mem_singleton] at hj
    subst hj
    exact wpOp_mono (fun a' w' ⟨D', hD', hw', h'⟩ => ⟨.inr (hD' _ hw'), anyZ.mono hD' _ _ _ _ (planW.anyZ hs hd n ix D' _ a' w' hok.2 hw' (hdn.set hj0) h')⟩) h
  | n + 1, .two i j k m, D, listed, a, w, hok, hD, hdn, h => by
    simp only [planOkZ, Bool.and_eq_true, beq_iff_eq] at hok
    refine ⟨fun h0 => (by rw [hok.1.1] at h0; cases h0), fun r hr => ?_⟩
    have hr0 := hr
    rw [hok.1.1] at hr
    simp only [List.mem_cons, List.not_mem_nil, or_false] at hr
    rcases hr with rfl | rfl
    · exact wpOp_mono (fun a' w' ⟨D', hD', hw', h'⟩ => ⟨.inr (hD' _ hw'), anyZ.mono hD' _ _ _ _ (planW.anyZ hs hd n k D' _ a' w' hok.1.2 hw' (hdn.set hr0) h')⟩) h.1
    · exact wpOp_mono (fun a' w' ⟨D', hD', hw', h'⟩ => ⟨.inr (hD' _ hw'), anyZ.mono hD' _ _ _ _ (planW.anyZ hs hd n m D' _ a' w' hok.2 hw' (hdn.set hr0) h')⟩) h.2
  | n + 1, .three .., D, listed, a, w, hok, hD, hdn, h => by simp [planOkZ] at hok
  | n + 1, .four .., D, listed, a, w, hok, hD, hdn, h => by simp [planOkZ] at hok
theorem gP_ (n : Nat) : Down ops (Array.replicate n false) := by
  intro k o _ h
  rw [Array.getD_eq_getD_getElem?, Array.getElem?_replicate] at h
  split at h <;> cases h
theorem eq_ {id : Nat} {a : Act} {w : World} {Q : Exit → Act → World → Prop} (D : World → Prop) (ix : Plan) (hm : P.follows .mixedOrders = true)
    (hok : (Region.noSelect ops && domOk ops && planOkZ ops ops.size (Array.replicate ops.size false) ix) = true) (hD : D w.drew)
    (h : planW P ops (fun a w => wpOp P ops NoExit (ops.size - 1) (Q .normal) a w) ix D a w.drew) : (Code.region id ops true).wp P Q a w := by
  simp only [Bool.and_eq_true] at hok
  refine wp_region_any hm ?_
  exact anyZ.wpAny _ _ _ _ (planW.anyZ hok.1.1 hok.1.2 _ ix D _ a _ hok.2 hD (gP_ _) h)
end
end Go.Proofs.YtjclgkddfjbdiaaGreatDoor
namespace Go.Proofs.YtjclgkddfjbdiaaGreatDoor.A
open Go.RowKit
section
variable {P : Program} {n : Nat} {W : Wd} {σ : Blks} {l : Slots} {o : Oper} {ops : Array Oper} {Q : Exit → Act → World → Prop}
def LastOp (P : Program) (ops : Array Oper) (Q : Exit → Act → World → Prop) : Exit → Act → World → Prop := fun _ a w => wpOp P ops NoExit (ops.size - 1) (Q .normal) a w
theorem as_ {id : Nat} (X : List Nat) (ix : Plan) (hm : P.follows .mixedOrders = true)
    (hok : (Region.noSelect ops && domOk ops && planOkZ ops ops.size (Array.replicate ops.size false) ix) = true) (h : SX P ops ix X (St n W σ l) (LastOp P ops Q)) : SC P (.region id ops true) (St n W σ l) Q := fun a w hs =>
  eq_ (fun w' => Ext X w.drew w') ix hm hok (Ext.refl _) (h a _ hs.drew)
theorem aq_ {Y : List Nat} {R : Abs → Blks → Prop} (hi : ops[ops.size - 1]? = some o) (hv : Eff P n W σ l Y o R) (hg : gd ops l o = some true) (hd : lt? o.dst n = true)
    (k : ∀ y τ, R y τ → SE .normal (St n W τ (put? l o.dst y)) Q) : SE .normal (St n W σ l) (LastOp P ops Q) := fun a w hs => by
  unfold LastOp wpOp
  simp only [hi, hs.wanted hg, if_true]
  refine .inl ?_
  unfold Oper.wp
  obtain ⟨v, w', y, τ, hR, hx, hr, hm, hc, hrun | ⟨rfl, hrun⟩⟩ := hv a w hs
  · rw [hrun]; exact k _ _ hR _ _ ((hs.to hm hc).put hd hr)
  · rw [hrun]; exact k _ _ hR _ _ ((hs.to hm hc).put hd hr)
end
abbrev Wo := BitVec 32
def u32 (p : Wo) : Abs := .v (.int .u32 (p.toNat : Nat))
theorem p_ {L ys : List Abs} (h : ys.length = L.length) : putL L 0 ys = ys := by
  rw [ck_ _ _ _ (Nat.zero_le _), Nat.zero_add, h]
  simp
section
variable {P : Program} {n : Nat} {W : Wd} {σ τ : Blks} {l : Slots} {X : List Nat} {x y z : Operand} {d : Option Nat} {ty t t' e : TypeId} {pos : String} {aft : Array Edge} {g : Option (Nat × Bool)} {k k' : IntKind} {b : Nat} {A B : Abs} {tab : List (Nat × TI)} {ops : Array Oper} {rest : List Oper} {Q : Exit → Act → World → Prop} {p q : Wo}
theorem wrap32 (p : Wo) : IntKind.u32.wrap (p.toNat : Nat) = (p.toNat : Nat) := by
  have := p.isLt
  simp [IntKind.wrap, IntKind.bits, IntKind.signed]
  omega
theorem ofInt32 (p : Wo) : BitVec.ofInt IntKind.u32.bits ((p.toNat : Nat) : Int) = p := by
  show BitVec.ofInt 32 ((p.toNat : Nat) : Int) = p
  rw [BitVec.ofInt_natCast, BitVec.ofNat_toNat, BitVec.setWidth_eq]
theorem Val.andW (hx : look l x = some (u32 p)) (hy : look l y = some (u32 q)) : Val P n W σ l X ⟨d, .binOp .and t x y t', ty, pos, aft, g⟩ (u32 (p &&& q)) :=
  bU_ hx hy (fun w => by
    simp only [Op.intBits, ofInt32]
    exact congrArg (fun r => Result.ok (Value.int .u32 r) w) (wrap32 (p &&& q))) rfl
theorem lm_ (hx : look l x = some (u32 p)) (hy : look l y = some (u32 q)) : Val P n W σ l X ⟨d, .binOp .or t x y t', ty, pos, aft, g⟩ (u32 (p ||| q)) :=
  bU_ hx hy (fun w => by
    simp only [Op.intBits, ofInt32]
    exact congrArg (fun r => Result.ok (Value.int .u32 r) w) (wrap32 (p ||| q))) rfl
theorem Val.shrB {m : Nat} {r : Int} (hx : look l x = some (u32 p)) (hy : look l y = some (.v (.int k' r))) (hr : r = (m : Nat)) : Val P n W σ l X ⟨d, .binOp .shr t x y t', ty, pos, aft, g⟩ (u32 (p >>> m)) :=
  h_ (f7_ hx hy (by omega)) (congrArg (fun r => Abs.v (.int .u32 r)) (by
    subst hr
    have hp := p.isLt
    simp only [IntKind.bits, Int.toNat_natCast, BitVec.toNat_ushiftRight, Nat.shiftRight_eq_div_pow]
    rw [Int.fdiv_eq_ediv_of_nonneg _ (by exact Int.le_of_lt (Int.pow_pos (by decide)))]
    rcases Nat.le_total m 32 with h | h
    · rw [Nat.min_eq_left h]; simp
    · rw [Nat.min_eq_right h, Nat.div_eq_of_lt (Nat.lt_of_lt_of_le hp (Nat.pow_le_pow_right (by decide) h))]
      omega))
theorem iS_ {m : Nat} {r : Int} (hx : look l x = some (u32 p)) (hy : look l y = some (.v (.int k' r))) (hr : r = (m : Nat)) : Val P n W σ l X ⟨d, .binOp .shl t x y t', ty, pos, aft, g⟩ (u32 (p <<< m)) :=
  h_ (dE_ hx hy (by omega)) (congrArg (fun r => Abs.v (.int .u32 r)) (by
    subst hr
    have hp := p.isLt
    have e : ∀ v : Int, IntKind.u32.wrap v = v % 4294967296 := fun v => by simp [IntKind.wrap, IntKind.bits, IntKind.signed]
    rw [e, show IntKind.u32.bits = 32 from rfl, Int.toNat_natCast, BitVec.toNat_shiftLeft, Nat.shiftLeft_eq]
    rcases Nat.le_total m 32 with h | h
    · rw [Nat.min_eq_left h]; simp
    · rw [Nat.min_eq_right h]
      obtain ⟨j, rfl⟩ : ∃ j, m = 32 + j := ⟨m - 32, by omega⟩
      rw [Nat.pow_add, show p.toNat * (2 ^ 32 * 2 ^ j) = 2 ^ 32 * (p.toNat * 2 ^ j) by rw [Nat.mul_left_comm], Nat.mul_mod_right]
      simp))
theorem aO_ {ix : Plan} (hT : TabOk P tab) {i : TI} {j : Nat} (ht : ti tab t = some i) (hi : ops[j]? = some ⟨d, .alloc t, ty, pos, aft, g⟩) (hg : gd ops l ⟨d, .alloc t, ty, pos, aft, g⟩ = some true) (hd : lt? d n = true)
    (k : ∀ b, SX P ops ix (b :: X) (St n W (.blk b t (zabs i.zero) :: σ) (put? l d (.v (.pointer (some ⟨b, 0, none⟩))))) Q) : SX P ops (.e j ix) X (St n W σ l) Q := fun a w hs => by
  unfold planW wpOp
  simp only [hi, hs.wanted hg, if_true]
  refine .inl ?_
  unfold Oper.wp
  obtain ⟨zv, hz, hc⟩ := (hT t _ ht).zeroValue (w := w)
  obtain ⟨h1, h2⟩ := hs.mem.alloc t (b8_ i.zero)
  have hrun : (execOp a.eval ⟨d, .alloc t, ty, pos, aft, g⟩).run P w = .ok (.value (.pointer (some ⟨w.heap.size, 0, none⟩))) (w.alloc (row t i.zero)) := by
    simp [execOp, Instr.alloc, Sem.run_bind, hz, Result.andThen, newVar, newRow, newObj, Sem.run, hc, row]
  rw [hrun]
  refine ⟨fun w2 => Ext (w.heap.size :: X) (w.alloc (row t i.zero)) w2, fun w2 h3 => ((Ext.refl w).alloc _).trans (h3 : Ext (w.heap.size :: X) _ w2) fun x hx => ?_, Ext.refl _, k _ _ _ ((hs.to h1 h2).put hd (show rep _ _ (.v (.pointer (some ⟨w.heap.size, 0, none⟩))) _ from rfl))⟩
  rcases List.mem_cons.1 hx with rfl | hx
  · exact .inr (Nat.le_refl _)
  · exact .inl hx
theorem e8_ {ex : Exit} (h : τ.Perm σ) (k : SE ex (St n W τ l) Q) : SE ex (St n W σ l) Q := fun a w hs => k a w (hs.perm h)
theorem SE.swap {ex : Exit} {x y : It} (k : SE ex (St n W (y :: x :: σ) l) Q) : SE ex (St n W (x :: y :: σ) l) Q := e8_ (List.Perm.swap x y σ) k
end
section
variable {P : Program} {n : Nat} {W : Wd} {σ : Blks} {l : Slots} {X : List Nat} {x : Operand} {d : Option Nat} {ty t t' e tp : TypeId} {pos : String} {aft : Array Edge} {gq : Option (Nat × Bool)} {A : Abs} {ms : Array (String × TypeId)} {ops : Array Oper} {rest : List Oper} {Q : Exit → Act → World → Prop} {s : Nat} {xs : List (List Abs)}
theorem aE_ (hi : P.underlying t = some (.interface ms)) (hx : look l x = some (.ifc tp A)) : Val P n W σ l X ⟨d, .binOp .eql t x (.const .nilIface) t', ty, pos, aft, gq⟩ (.v (.bool false)) := fun a w hs _ => by
  obtain ⟨u, h1, h2⟩ := hs.eval hx
  refine ⟨_, rfl, fun w' _ => ?_⟩
  have h : ∀ d : Nat, (Op.equalIn (d + 1) t (.iface tp u) .nilIface).run P w' = .ok false w' := fun d => by simp [Op.equalIn, run_underlying hi]
  have h3 : (binOp .eql t (.iface tp u) .nilIface).run P w' = .ok (.bool false) w' := by
    simp only [binOp]
    simp [Op.equal, Op.maxDepth, h 9999]
  have e : a.eval (.const .nilIface) = .nilIface := rfl
  simp [execOp, h1, e, eqGuard, h3]
theorem bW_ (ht : P.underlying t = some (.slice e)) (hx : look l x = some (.sl s xs)) (hg : gd ops l ⟨d, .binOp .eql t x (.const (.slice none 0 0)) t', ty, pos, aft, gq⟩ = some true) (hd : lt? d n = true)
    (k : ∀ b : Bool, (b = true → xs = []) → SL P ops rest (St n W σ (put? l d (.v (.bool b)))) Q) : SL P ops (⟨d, .binOp .eql t x (.const (.slice none 0 0)) t', ty, pos, aft, gq⟩ :: rest) (St n W σ l) Q := fun a w hs =>
  wpList_step fun K hK => by
    rw [if_pos (hs.wanted hg)]
    unfold Oper.wp
    obtain ⟨us, hr, h2⟩ := hs.eval hx
    obtain ⟨A', c, h1, h3, h4, h5⟩ := hr.shape
    have e1 : a.eval (.const (.slice none 0 0)) = .slice none 0 0 := rfl
    have hrun : (binOp .eql t (.slice A' xs.length c) (.slice none 0 0)).run P w = .ok (.bool A'.isNone) w := by
      have h : ∀ d : Nat, (Op.equalIn (d + 1) t (.slice A' xs.length c) (.slice none 0 0)).run P w = .ok A'.isNone w := fun d => by cases A' <;> simp [Op.equalIn, run_underlying ht]
      simp only [binOp]
      simp [Op.equal, Op.maxDepth, h 9999]
    have hrun2 : (execOp a.eval ⟨d, .binOp .eql t x (.const (.slice none 0 0)) t', ty, pos, aft, gq⟩).run P w = .ok (.value (.bool A'.isNone)) w := by simp [execOp, h1, e1, eqGuard, hrun]
    rw [hrun2]
    refine hK _ _ (k A'.isNone (fun hb => ?_) _ _ (hs.put hd (show rep _ _ (.v (.bool A'.isNone)) _ from rfl)))
    cases A' with
    | none =>
      have := h5 rfl
      exact List.length_eq_zero_iff.1 (by omega)
    | some A' => cases hb
end
end Go.Proofs.YtjclgkddfjbdiaaGreatDoor.A
namespace Go.Proofs.YtjclgkddfjbdiaaGreatDoor
open Go.RowKit
section
variable {P : Program} {ops : Array Oper}
def anyS (P : Program) (ops : Array Oper) (D : World → Prop) (m : Nat) (Q : Act → World → Prop) : Nat → Array Bool → Act → World → Prop
  | 0, listed, a, w => Region.ready .any ops listed = [] ∧ Q a w
  | fuel + 1, listed, a, w => (Region.ready .any ops listed = [] → Q a w) ∧
      ∀ i ∈ Region.ready .any ops listed, wpOp P ops NoExit i (fun a' w' => (m ≤ i ∨ D w') ∧ anyS P ops D m Q fuel (listed.setIfInBounds i true) a' w') a w
theorem anyS.wpAny {D : World → Prop} {m : Nat} {Q : Exit → Act → World → Prop} : ∀ (fuel : Nat) (listed : Array Bool) (a : Act) (w : World),
    anyS P ops D m (Q .normal) fuel listed a w → wpAny P .any ops Q fuel listed a w
  | 0, _, _, _, h => h
  | fuel + 1, _, _, _, h => ⟨h.1, fun i hi => b1_ (wpOp_mono (fun a' w' h3 => anyS.wpAny fuel _ a' w' h3.2) (h.2 i hi))⟩
theorem anyS.mono {D D' : World → Prop} {m : Nat} {Q : Act → World → Prop} (hD : ∀ w, D' w → D w) : ∀ (fuel : Nat) (listed : Array Bool) (a : Act) (w : World),
    anyS P ops D' m Q fuel listed a w → anyS P ops D m Q fuel listed a w
  | 0, _, _, _, h => h
  | fuel + 1, _, _, _, h => ⟨h.1, fun i hi => wpOp_mono (fun a' w' h3 => ⟨h3.1.imp_right (hD _), anyS.mono hD fuel _ a' w' h3.2⟩) (h.2 i hi)⟩
def headIn (m : Nat) (L : Array Bool) : Bool := (List.range m).all fun i => L.getD i false
theorem jn_ {m : Nat} {L : Array Bool} (h : headIn m L = true) (j : Nat) : headIn m (L.setIfInBounds j true) = true := by
  unfold headIn at *
  rw [List.all_eq_true] at *
  exact fun i hi => getD_set_true (h i hi)
theorem jo_ {m : Nat} {L : Array Bool} (h : headIn m L = true) {i : Nat} (hi : i < m) : L.getD i false = true := by
  unfold headIn at h
  rw [List.all_eq_true] at h
  exact h i (List.mem_range.2 hi)
theorem anyD.toS {D D2 : World → Prop} {m : Nat} {Q : Act → World → Prop} : ∀ (fuel : Nat) (listed : Array Bool) (a : Act) (w : World), headIn m listed = true →
    anyD P ops D2 Q fuel listed a w → anyS P ops D m Q fuel listed a w
  | 0, _, _, _, _, h => h
  | fuel + 1, L, _, _, hL, h => ⟨h.1, fun i hi => wpOp_mono (fun a' w' h3 => ⟨.inl (by
      rcases Nat.lt_or_ge i m with h1 | h1
      · have h2 := jo_ hL h1
        rw [eS_ (mem_ready.1 hi).1] at h2
        cases h2
      · exact h1), anyD.toS fuel _ a' w' (jn_ hL i) h3.2⟩) (h.2 i hi)⟩
def domOkS (ops : Array Oper) (m : Nat) : Bool :=
  ((List.range m).all fun i => (List.range (m + 1)).any fun j => Nat.blt i j && ((ops[j]?).map fun o => o.after.any fun e => Region.binds .any e && e.on == i).getD false) &&
  ((List.range ops.size).all fun j => Nat.ble j m || ((ops[j]?).map fun o => o.after.any fun e => Region.binds .any e && Nat.ble m e.on && Nat.blt e.on j).getD false)
theorem kS_ {m : Nat} (hd : domOkS ops m = true) {i : Nat} (hi : i < m) : ∃ j o, i < j ∧ j ≤ m ∧ ops[j]? = some o ∧ ∃ e ∈ o.after, Region.binds .any e = true ∧ e.on = i := by
  unfold domOkS at hd
  rw [Bool.and_eq_true, List.all_eq_true] at hd
  have h1 := hd.1 i (by rw [List.mem_range]; omega)
  rw [List.any_eq_true] at h1
  obtain ⟨j, hj, h2⟩ := h1
  rw [List.mem_range] at hj
  simp only [Bool.and_eq_true, Nat.blt_eq] at h2
  obtain ⟨h2, h3⟩ := h2
  cases ho : ops[j]? with
  | none => rw [ho] at h3; cases h3
  | some o =>
    rw [ho] at h3
    simp only [Option.map_some, Option.getD_some, Array.any_eq_true, Bool.and_eq_true, beq_iff_eq] at h3
    obtain ⟨x, hx, hb, hon⟩ := h3
    exact ⟨j, o, h2, by omega, ho, _, Array.getElem_mem hx, hb, hon⟩
theorem kT_ {m : Nat} (hd : domOkS ops m = true) {j : Nat} {o : Oper} (ho : ops[j]? = some o) (hj : m < j) : ∃ e ∈ o.after, Region.binds .any e = true ∧ m ≤ e.on ∧ e.on < j := by
  unfold domOkS at hd
  rw [Bool.and_eq_true, List.all_eq_true, List.all_eq_true] at hd
  have h1 := hd.2 j (by rw [List.mem_range]; exact (Array.getElem?_eq_some_iff.1 ho).1)
  rw [ho] at h1
  simp only [Option.map_some, Option.getD_some, Bool.or_eq_true, Nat.ble_eq, Array.any_eq_true, Bool.and_eq_true, Nat.blt_eq] at h1
  rcases h1 with h1 | ⟨x, hx, ⟨hb, h2⟩, h3⟩
  · omega
  · exact ⟨_, Array.getElem_mem hx, hb, h2, h3⟩
def Due (ops : Array Oper) (L : Array Bool) (j : Nat) : Prop := ∃ o, ops[j]? = some o ∧ ∀ e ∈ o.after, Region.binds .any e = true → L.getD e.on false = true
theorem Due.down {m : Nat} (hd : domOkS ops m = true) {L : Array Bool} (hL : Down ops L) (hin : ∀ k, L.getD k false = true → ∃ o, ops[k]? = some o) : ∀ j, m ≤ j → Due ops L j → Due ops L m := by
  intro j
  induction j using Nat.strongRecOn with
  | _ j ih =>
    intro hj h
    by_cases hjm : j = m
    · subst hjm; exact h
    · obtain ⟨o, ho, hall⟩ := h
      obtain ⟨e, he, hb, h1, h2⟩ := kT_ hd ho (by omega)
      have h3 := hall e he hb
      obtain ⟨o2, ho2⟩ := hin _ h3
      exact ih e.on h2 h1 ⟨o2, ho2, hL _ _ ho2 h3⟩
theorem domS_all {m : Nat} (hd : domOkS ops m = true) {L : Array Bool} (hL : Down ops L) (hz : Due ops L m) : ∀ k i, m - i = k → i < m → L.getD i false = true := by
  intro k
  induction k using Nat.strongRecOn with
  | _ k ih =>
    intro i hk hi
    obtain ⟨j, o, hij, hj, ho, e, he, hb, hon⟩ := kS_ hd hi
    subst hon
    by_cases hjz : j = m
    · subst hjz
      obtain ⟨o', ho', hall⟩ := hz
      rw [ho'] at ho
      cases ho
      exact hall e he hb
    · exact hL j o ho (ih _ (by omega) j rfl (by omega)) e he hb
structure Listed (ops : Array Oper) (L : Array Bool) : Prop where
  down : Down ops L
  there : ∀ k, L.getD k false = true → ∃ o, ops[k]? = some o
theorem Listed.set {L : Array Bool} (h : Listed ops L) {j : Nat} (hj : j ∈ Region.ready .any ops L) : Listed ops (L.setIfInBounds j true) := by
  refine ⟨h.down.set hj, fun k hk => ?_⟩
  by_cases hkj : k = j
  · subst hkj
    obtain ⟨_, o, ho, _⟩ := mem_ready.1 hj
    exact ⟨o, ho⟩
  · have : (L.setIfInBounds j true).getD k false = L.getD k false := getD_set_ne false (Ne.symm hkj)
    exact h.there k (this ▸ hk)
theorem Listed.none (n : Nat) : Listed ops (Array.replicate n false) := by
  refine ⟨gP_ n, fun k h => ?_⟩
  rw [Array.getD_eq_getD_getElem?, Array.getElem?_replicate] at h
  split at h <;> cases h
theorem jy_ {D : World → Prop} {m : Nat} {Q : Act → World → Prop} {i : Nat} {oi : Oper} {v : Value} (hd : domOkS ops m = true) (hiz : i < m) (hi : ops[i]? = some oi) (hsel : ∀ (j : Nat) (o : Oper) cs b, ops[j]? = some o → o.op ≠ .select cs b) :
    ∀ (fuel : Nat) (listed : Array Bool) (a : Act) (w : World), D w → Listed ops listed →
      (∀ j oj, ops[j]? = some oj → j ≠ i → listed.getD j true = false → (∀ e ∈ oj.after, Region.binds .any e = true → e.on ≠ i) → oi.apart ops oj = true) →
      i ∈ Region.ready .any ops listed → YieldsD P ops D oi v a →
      anyS P ops D m Q fuel (listed.setIfInBounds i true) (a.put oi.dst v) w → anyS P ops D m Q (fuel + 1) listed a w := by
  intro fuel
  induction fuel with
  | zero =>
    intro listed a w hDw _ _ hr hy H
    refine ⟨fun h => (by rw [h] at hr; cases hr), fun j hj => ?_⟩
    by_cases hji : j = i
    · subst hji; exact hy.wpOp hi hDw ⟨.inr hDw, H⟩
    · have := ready_mono hj hji
      rw [H.1] at this
      cases this
  | succ fuel ih =>
    intro listed a w hDw hdn hfree hr hy H
    refine ⟨fun h => (by rw [h] at hr; cases hr), fun j hj => ?_⟩
    by_cases hji : j = i
    · subst hji; exact hy.wpOp hi hDw ⟨.inr hDw, H⟩
    · have hjz : ¬ m ≤ j := fun h => by
        have h2 : Due ops listed j := (mem_ready.1 hj).2
        have h1 := domS_all hd hdn.down (h2.down hd hdn.down hdn.there j h) _ i rfl hiz
        have h0 := eS_ (mem_ready.1 hr).1
        rw [h1] at h0
        cases h0
      have h1 := H.2 j (ready_mono hj hji)
      obtain ⟨hjun, oj, hoj, hall⟩ := mem_ready.1 hj
      have hnot : ∀ e ∈ oj.after, Region.binds .any e = true → e.on ≠ i := fun e he hb heq => by
        have h1 := hall e he hb
        have h0 := (mem_ready.1 hr).1
        rw [heq] at h1
        rw [eS_ h0] at h1
        cases h1
      have h2 := es_ hoj (hfree j oj hoj hji hjun hnot) (fun cs b => hsel i oi cs b hi) (fun cs b => hsel j oj cs b hoj) hy h1
      have hfree' : ∀ k ok, ops[k]? = some ok → k ≠ i → (listed.setIfInBounds j true).getD k true = false →
          (∀ e ∈ ok.after, Region.binds .any e = true → e.on ≠ i) → oi.apart ops ok = true := fun k ok hk hki hun hno => by
        refine hfree k ok hk hki ?_ hno
        by_cases hjk : j = k
        · subst hjk; exact hjun
        · rw [getD_set_ne true hjk] at hun; exact hun
      refine wpOp_mono (fun a' w' h3 => ?_) h2
      have hDw' : D w' := h3.2.1.resolve_left hjz
      refine ⟨.inr hDw', ih (listed.setIfInBounds j true) a' w' hDw' (hdn.set hj) hfree' (ready_mono hr (Ne.symm hji)) h3.1 ?_⟩
      rw [Array.setIfInBounds_comm _ _ hji]
      exact h3.2.2
def planOkS (ops : Array Oper) (m : Nat) (k2 : Plan) : Nat → Array Bool → Plan → Bool
  | n, listed, .nil => headIn m listed && planOk ops n listed k2
  | n + 1, listed, .q i k => Nat.blt i m && Region.free .any ops listed i && (Region.ready .any ops listed).contains i && planOkS ops m k2 n (listed.setIfInBounds i true) k
  | n + 1, listed, .e i k => (Region.ready .any ops listed == [i]) && planOkS ops m k2 n (listed.setIfInBounds i true) k
  | n + 1, listed, .two i j k h => (Region.ready .any ops listed == [i, j]) && planOkS ops m k2 n (listed.setIfInBounds i true) k && planOkS ops m k2 n (listed.setIfInBounds j true) h
  | _ + 1, _, .three .. => false
  | _ + 1, _, .four .. => false
  | 0, _, _ => false
def RestOf (P : Program) (ops : Array Oper) (k2 : Plan) (Q : Exit → Act → World → Prop) : Exit → Act → World → Prop := fun _ a w => ∃ D : World → Prop, D w ∧ planW P ops (Q .normal) k2 D a w
theorem planW.anyS {Q : Exit → Act → World → Prop} {m : Nat} {k2 : Plan} (hs : Region.noSelect ops = true) (hd : domOkS ops m = true) : ∀ (n : Nat) (ix : Plan) (D : World → Prop) (listed : Array Bool) (a : Act) (w : World), planOkS ops m k2 n listed ix = true → D w → Listed ops listed →
    planW P ops (RestOf P ops k2 Q .normal) ix D a w → Proofs.YtjclgkddfjbdiaaGreatDoor.anyS P ops D m (Q .normal) n listed a w
  | n, .nil, D, listed, a, w, hok, hD, hdn, ⟨D2, h1, h2⟩ => by
    unfold planOkS at hok
    simp only [Bool.and_eq_true] at hok
    exact anyD.toS _ _ _ _ hok.1 (planW.anyD hs n k2 D2 _ _ _ hok.2 h1 h2)
  | n + 1, .q i ix, D, listed, a, w, hok, hD, hdn, ⟨o, v, hi, hy, h⟩ => by
    simp only [planOkS, Bool.and_eq_true, Nat.blt_eq] at hok
    have hrd : i ∈ Region.ready .any ops listed := by simpa using hok.1.2
    exact jy_ hd hok.1.1.1 hi (Region.noSelect_spec hs) n listed a w hD hdn (Region.free_spec hi hok.1.1.2) hrd hy (planW.anyS hs hd n ix D _ _ _ hok.2 hD (hdn.set hrd) h)
  | n + 1, .e i ix, D, listed, a, w, hok, hD, hdn, h => by
    simp only [planOkS, Bool.and_eq_true, beq_iff_eq] at hok
    refine ⟨fun h0 => (by rw [hok.1] at h0; cases h0), fun j hj => ?_⟩
    have hj0 := hj
    rw [hok.1] at hj
    simp only [List.mem_singleton] at hj
    subst hj
    exact wpOp_mono (fun a' w' ⟨D', hD', hw', h'⟩ => ⟨.inr (hD' _ hw'), anyS.mono hD' _ _ _ _ (planW.anyS hs hd n ix D' _ a' w' hok.2 hw' (hdn.set hj0) h')⟩) h
  | n + 1, .two i j k r, D, listed, a, w, hok, hD, hdn, h => by
    simp only [planOkS, Bool.and_eq_true, beq_iff_eq] at hok
    refine ⟨fun h0 => (by rw [hok.1.1] at h0; cases h0), fun q hq => ?_⟩
    have hq0 := hq
    rw [hok.1.1] at hq
    simp only [List.mem_cons, List.not_mem_nil, or_false] at hq
    rcases hq with rfl | rfl
    · exact wpOp_mono (fun a' w' ⟨D', hD', hw', h'⟩ => ⟨.inr (hD' _ hw'), anyS.mono hD' _ _ _ _ (planW.anyS hs hd n k D' _ a' w' hok.1.2 hw' (hdn.set hq0) h')⟩) h.1
    · exact wpOp_mono (fun a' w' ⟨D', hD', hw', h'⟩ => ⟨.inr (hD' _ hw'), anyS.mono hD' _ _ _ _ (planW.anyS hs hd n r D' _ a' w' hok.2 hw' (hdn.set hq0) h')⟩) h.2
  | n + 1, .three .., D, listed, a, w, hok, hD, hdn, h => by simp [planOkS] at hok
  | n + 1, .four .., D, listed, a, w, hok, hD, hdn, h => by simp [planOkS] at hok
theorem er_ {id m : Nat} {k2 : Plan} {a : Act} {w : World} {Q : Exit → Act → World → Prop} (D : World → Prop) (ix : Plan) (hm : P.follows .mixedOrders = true)
    (hok : (Region.noSelect ops && domOkS ops m && planOkS ops m k2 ops.size (Array.replicate ops.size false) ix) = true) (hD : D w.drew)
    (h : planW P ops (RestOf P ops k2 Q .normal) ix D a w.drew) : (Code.region id ops true).wp P Q a w := by
  simp only [Bool.and_eq_true] at hok
  refine wp_region_any hm ?_
  exact anyS.wpAny _ _ _ _ (planW.anyS hok.1.1 hok.1.2 _ ix D _ a _ hok.2 hD (Listed.none _) h)
end
end Go.Proofs.YtjclgkddfjbdiaaGreatDoor
namespace Go.Proofs.YtjclgkddfjbdiaaGreatDoor.A
open Go.RowKit
section
variable {P : Program} {n : Nat} {W : Wd} {σ τ : Blks} {l : Slots} {X : List Nat} {x y : Operand} {d : Option Nat} {ty t t' e : TypeId} {pos : String} {aft : Array Edge} {g : Option (Nat × Bool)} {A : Abs} {tab : List (Nat × TI)} {ops : Array Oper} {Q : Exit → Act → World → Prop} {v : Value} {xs : List (List Abs)} {s q : Nat} {a b : Int}
theorem SC.drawS {id : Nat} (m : Nat) (X : List Nat) (ix k2 : Plan) (hm : P.follows .mixedOrders = true)
    (hok : (Region.noSelect ops && domOkS ops m && planOkS ops m k2 ops.size (Array.replicate ops.size false) ix) = true) (h : SX P ops ix X (St n W σ l) (RestOf P ops k2 Q)) : SC P (.region id ops true) (St n W σ l) Q := fun a w hs =>
  er_ (fun w' => Ext X w.drew w') ix hm hok (Ext.refl _) (h a _ hs.drew)
theorem SE.rest {k2 : Plan} (X : List Nat) (h : SX P ops k2 X (St n W σ l) Q) : SE .normal (St n W σ l) (RestOf P ops k2 Q) := fun a w hs => ⟨fun w' => Ext X w w', Ext.refl w, h a w hs⟩
theorem gx_ {K : List Nat} {w : World} {ys : List Abs} {vs : List Value} (hy : reps K w ys vs) (hv : vs.length = s) : ∀ {xs : List (List Abs)} {us : List Value} {q : Nat}, repss K w s xs us → q < xs.length → repss K w s (xs.set q ys) (us.take (q * s) ++ vs ++ us.drop (q * s + s))
  | [], _, _, _, h => by simp at h
  | c :: xs, _, 0, ⟨u1, u2, h1, h2, h3, h4⟩, _ => by
    subst h1
    refine ⟨vs, u2, ?_, hv, hy, h4⟩
    simp [← h2]
  | c :: xs, _, q + 1, ⟨u1, u2, h1, h2, h3, h4⟩, hq => by
    subst h1
    have h5 := gx_ hy hv h4 (q := q) (by simpa using hq)
    refine ⟨u1, _, ?_, h2, h3, h5⟩
    have e1 : (q + 1) * s = u1.length + q * s := by rw [Nat.succ_mul]; omega
    rw [e1, Nat.add_assoc, List.take_length_add_append, List.drop_length_add_append]
    simp
theorem jH_ (hT : TabOk P tab) {i : TI} {ys : List Abs} (ht : ti tab t = some i) (hx : look l x = some (.v (eptr v (q * s)))) (hy : look l y = some A) (hu : Upd (own e s v xs) (own e s v (xs.set q ys)) σ τ) (hc : cellsA A = ys) (hs : Nat.beq i.size s = true) (hl : Nat.beq ys.length s = true) (hq : q < xs.length) (h1 : ones ys = true) :
    Eff P n W σ l v.ownBlock.toList ⟨d, .store t x y, ty, pos, aft, g⟩ fun u τ' => u = .v undef ∧ τ' = τ := fun ac w hst => by
  have hs := Nat.eq_of_beq_eq_true hs
  have hl := Nat.eq_of_beq_eq_true hl
  obtain ⟨us, hown, hr⟩ : (ownPc e s v xs).p _ w := hst.mem.hold _ hu.mem
  have hry := cX_ (hst.eval hy)
  rw [hc] at hry
  have hlen := ac_ hry
  have hone := b9_ hry h1
  rcases hown.2 with ⟨h, h0⟩ | ⟨gb, cap, cur, hv, hbase, hg, hn, hcap, hsz, htk⟩
  · omega
  · subst hv
    have h2 := (hT t _ ht).sizeOf (w := w)
    have hb1 : q * s + s ≤ xs.length * s := by rw [← Nat.succ_mul]; exact Nat.mul_le_mul_right _ hq
    have hb2 : xs.length * s ≤ cap * s := Nat.mul_le_mul_right _ hn
    have hrun := run_storeCells_at (P := P) gb (0 + q * s) e (cellsL (ac.eval y)) 0 cur w hg (by omega) hone
    have e0 : 0 + q * s + 0 = q * s := by omega
    rw [e0] at hrun
    have hcl : cur.toList.length = cur.size := by simp
    have hle : (cellsL (ac.eval y)).length = s := by omega
    have hxx : Ext (Value.ownBlock (.slice (some ⟨gb, 0, none⟩) xs.length cap)).toList w (w.setRow gb (cur.toList.take (q * s) ++ cellsL (ac.eval y) ++ cur.toList.drop (q * s + (cellsL (ac.eval y)).length)).toArray) := (Ext.refl w).setRow (.inl (by simp [Value.ownBlock])) _
    have hnew : (cur.toList.take (q * s) ++ cellsL (ac.eval y) ++ cur.toList.drop (q * s + (cellsL (ac.eval y)).length)).take (xs.length * s) = us.take (q * s) ++ cellsL (ac.eval y) ++ us.drop (q * s + s) := by
      rw [← htk, hle]
      apply List.ext_getElem?
      intro j
      simp only [List.getElem?_take, List.getElem?_append, List.length_append, List.length_take, List.getElem?_drop, hle]
      grind
    have hm := hst.mem.upd hu hxx aQ_ (fun k hk => .inl hk) rfl fun hca => ⟨us.take (q * s) ++ cellsL (ac.eval y) ++ us.drop (q * s + s), ⟨?_, .inr ⟨gb, cap, _, by rw [List.length_set], hbase, setRow_heap w gb cur _ e (0, 0) hg, by rw [List.length_set]; exact hn, hcap, ?_, ?_⟩⟩, am_ hca _ _ _ (gx_ hry (by omega) hr hq)⟩
    · refine ⟨undef, _, _, _, ⟨rfl, rfl⟩, hxx, rfl, hm.1, hm.2, .inr ⟨rfl, ?_⟩⟩
      have hcs := dA_ (ac.eval y)
      have hle2 : (cellsL (ac.eval y)).length = i.size := by omega
      have hx2 : ac.eval x = .pointer (some ⟨gb, 0 + q * s, none⟩) := hst.plain hx
      simp [execOp, hx2, Instr.storeAt, Instr.sureAddr, storeVar, Sem.run_bind, hcs, h2, hle2, hrun, Result.andThen]
      (simp only [Nat.zero_add] at hrun; simp [hle2, hrun])
    · have h5 := hown.1
      simp only [List.length_append, List.length_take, List.length_drop, List.length_set]
      omega
    · simp only [List.size_toArray, List.length_append, List.length_take, List.length_drop]
      omega
    · rw [List.length_set]
      simpa using hnew
end
section
variable {α : Type} [DecidableEq α] {T : List (α × Nat)} {k k' : α} {v : Nat}
structure Num1 (T : List (α × Nat)) : Prop where
  pos : ∀ k v, aget T k = some v → 1 ≤ v ∧ v ≤ T.length
  inj : ∀ k k' v, aget T k = some v → aget T k' = some v → k = k'
theorem Num1.nil : Num1 ([] : List (α × Nat)) := ⟨fun k v h => by simp [aget] at h, fun k k' v h => by simp [aget] at h⟩
theorem Num1.put (h : Num1 T) (k : α) : Num1 (pm T k) := by
  unfold pm
  split
  · exact h
  · rename_i hn
    refine ⟨fun c v hc => ?_, fun c c' v hc hc' => ?_⟩
    · rw [e2_, if_neg hn]
      rw [dD_] at hc
      split at hc
      · have := Option.some.inj hc
        omega
      · have := h.pos c v hc
        omega
    · rw [dD_] at hc hc'
      split at hc
      · next e =>
        split at hc'
        · next e' => exact e.trans e'.symm
        · have h1 := Option.some.inj hc
          have := h.pos c' v hc'
          omega
      · split at hc'
        · have h1 := Option.some.inj hc'
          have := h.pos c v hc
          omega
        · exact h.inj c c' v hc hc'
theorem Num1.pl_le (h : Num1 T) (k : α) : pl T k ≤ T.length + 1 := by
  unfold pl
  cases hk : aget T k with
  | none => exact Nat.le_refl _
  | some v =>
    have := h.pos k v hk
    show v ≤ _
    omega
theorem pm_new (hk : aget T k = none) : pm T k = aput T k (T.length + 1) := by
  unfold pm
  rw [if_neg (by rw [hk]; decide)]
theorem pm_old (hk : ¬ aget T k = none) : pm T k = T := by
  unfold pm
  rw [if_pos (by cases h : aget T k with | none => exact absurd h hk | some v => rfl)]
theorem hR_ (c : α) : aget (pm T k) c = if c = k then some (pl T k) else aget T c := by
  by_cases hk : aget T k = none
  · rw [pm_new hk, dD_]
    unfold pl
    rw [hk]
    rfl
  · rw [pm_old hk]
    split
    · next e =>
      rw [e]
      unfold pl
      cases h : aget T k with
      | none => exact absurd h hk
      | some v => rfl
    · rfl
end
section
variable {α : Type} [DecidableEq α] {T : List (α × Nat)} {k : α} {g : Int → α} {l : List Int}
def hasK (T : List (α × Nat)) (k : α) : Bool := (aget T k).isSome
theorem hasK_iff : hasK T k = true ↔ ¬ aget T k = none := by
  unfold hasK
  cases aget T k <;> simp
theorem hasK_pm (c : α) : hasK (pm T k) c = (decide (c = k) || hasK T c) := by
  unfold hasK
  rw [hR_]
  by_cases h : c = k <;> simp [h]
theorem pl_keep {c : α} (h : hasK T c = true) : pl (pm T k) c = pl T c := by
  rw [hasK_iff] at h
  unfold pl
  rw [hR_]
  split
  · next e =>
    subst e
    unfold pl
    cases hc : aget T c with
    | none => exact absurd hc h
    | some v => rfl
  · cases hc : aget T c with
    | none => exact absurd hc h
    | some v => rfl
theorem pl_self : pl (pm T k) k = pl T k := by
  show (aget (pm T k) k).getD _ = _
  rw [hR_, if_pos rfl]
  rfl
def tmG (g : Int → α) (T : List (α × Nat)) (l : List Int) : List (α × Nat) := l.foldl (fun T w => pm T (g w)) T
theorem eg_ (g : Int → α) (T : List (α × Nat)) (l : List Int) (w : Int) : tmG g T (l ++ [w]) = pm (tmG g T l) (g w) := by
  unfold tmG
  rw [List.foldl_append]
  rfl
theorem j6_ (h : Num1 T) (g : Int → α) : ∀ l : List Int, Num1 (tmG g T l) := fun l => by
  induction l generalizing T with
  | nil => exact h
  | cons w l ih => exact ih (h.put (g w))
theorem j7_ (g : Int → α) (T : List (α × Nat)) (l : List Int) : (tmG g T l).length ≤ T.length + l.length := by
  induction l generalizing T with
  | nil => exact Nat.le_refl _
  | cons w l ih =>
    have h1 := ih (T := pm T (g w))
    have h2 := gB_ T (g w)
    show (tmG g (pm T (g w)) l).length ≤ _
    rw [List.length_cons]
    omega
theorem tmG_has (g : Int → α) (T : List (α × Nat)) (c : α) : ∀ l : List Int, hasK (tmG g T l) c = (hasK T c || l.any fun w => decide (c = g w)) := fun l => by
  induction l generalizing T with
  | nil => simp [tmG]
  | cons w l ih =>
    show hasK (tmG g (pm T (g w)) l) c = _
    rw [ih, hasK_pm, List.any_cons]
    cases decide (c = g w) <;> cases hasK T c <;> rfl
def tagN (T : List (α × Nat)) (k : α) : Tg := ⟨numB 255 (pl T k), bq_ _ _⟩
def tagsG (g : Int → α) (T : List (α × Nat)) (l : List Int) : List Tg := l.map fun w => tagN (tmG g T l) (g w)
theorem d6_ (g : Int → α) (T : List (α × Nat)) (l : List Int) : (tagsG g T l).length = l.length := by simp [tagsG]
theorem dI_ (g : Int → α) (T : List (α × Nat)) (l : List Int) (w : Int) : (tagsG g T l).map Tg.abs ++ [digA (numB 255 (pl (tmG g T l) (g w)))] = (tagsG g T (l ++ [w])).map Tg.abs := by
  unfold tagsG
  rw [eg_, List.map_append, List.map_append]
  congr 1
  · rw [List.map_map, List.map_map]
    refine List.map_congr_left fun v hv => ?_
    have hh : hasK (tmG g T l) (g v) = true := by
      rw [tmG_has, Bool.or_eq_true]
      exact .inr (List.any_eq_true.2 ⟨v, hv, by simp⟩)
    show digA (numB 255 _) = digA (numB 255 _)
    rw [pl_keep hh]
  · show _ = [digA (numB 255 _)]
    rw [pl_self]
def chkG (T : List (α × Nat)) (k : α) (M : List UInt8) : Bool := hasK T k && decide (M = numB 255 (pl T k))
end
def blkP (b : Nat) (t : TypeId) (cs : List Abs) : Pc where
  ids := [b]
  p := fun K w => ∃ us, w.heap[b]? = some (row t us) ∧ reps K w cs us
  carry := fun K w K' w' hc hs ⟨us, h1, h2⟩ => ⟨us, (hs b (by simp)).trans h1, aj_ hc _ _ h2⟩
  lt := fun K w ⟨us, h1, _⟩ k hk => by
    simp at hk
    subst hk
    exact aR_ h1
def bigP (l : List Pc) : Pc where
  ids := l.flatMap Pc.ids
  p := fun K w => ∀ c ∈ l, c.p K w
  carry := fun K w K' w' hc hs h c hm => c.carry K w K' w' hc (fun k hk => hs k (List.mem_flatMap.2 ⟨c, hm, hk⟩)) (h c hm)
  lt := fun K w h k hk => by
    obtain ⟨c, hm, hk⟩ := List.mem_flatMap.1 hk
    exact c.lt K w (h c hm) k hk
section
variable {w0 w : World} {F G : List Nat} {α β xs ys : Blks}
theorem Mem.regroup {zs : List Nat} (hp : (mids xs).Perm (mids ys ++ zs)) (hr : ∀ y ∈ ys, y.rids = []) (hh : ∀ K, (∀ x ∈ xs, x.holds K w) → ∀ y ∈ ys, y.holds K w) (h : Mem w0 F G (α ++ (xs ++ β)) w) :
    Mem w0 F G (α ++ (ys ++ β)) w ∧ Carry (mids (α ++ (xs ++ β)) ++ G) w (mids (α ++ (ys ++ β)) ++ G) w := by
  have hsub : ∀ k ∈ mids ys, k ∈ mids xs := fun k hk => hp.mem_iff.2 (List.mem_append_left _ hk)
  refine h.step (Y := []) (Ext.refl w) (by simp) (fun k hk => ?_) (fun x hx => ?_) ?_ fun hc x hx => ?_
  · simp only [T_, List.mem_append] at hk ⊢
    rcases hk with hk | hk | hk
    · exact .inl (.inl hk)
    · exact .inl (.inr (.inl (hsub k hk)))
    · exact .inl (.inr (.inr hk))
  · simp only [List.mem_append] at hx
    rcases hx with hx | hx | hx
    · exact h.ro x (by simp [hx])
    · rw [hr x hx]; simp
    · exact h.ro x (by simp [hx])
  · have hn := h.nodup
    simp only [T_] at hn ⊢
    have h2 : (mids α ++ (mids xs ++ mids β)).Perm ((mids α ++ (mids ys ++ mids β)) ++ zs) := by
      rw [List.append_assoc, List.append_assoc]
      refine List.Perm.append_left _ ?_
      refine (hp.append_right _).trans ?_
      rw [List.append_assoc]
      exact List.Perm.append_left _ List.perm_append_comm
    exact (List.nodup_append.1 (h2.nodup_iff.1 hn)).1
  · simp only [List.mem_append] at hx
    rcases hx with hx | hx | hx
    · exact h.keep (Y := []) (Ext.refl w) hc (by simp [hx]) (by simp) (by simp)
    · exact hh _ (fun z hz => h.keep (Y := []) (Ext.refl w) hc (by simp [hz]) (by simp) (by simp)) x hx
    · exact h.keep (Y := []) (Ext.refl w) hc (by simp [hx]) (by simp) (by simp)
end
section
variable {P : Program} {n : Nat} {W : Wd} {σ τ : Blks} {l : Slots} {X : List Nat} {ops : Array Oper} {rest : List Oper} {Q : Exit → Act → World → Prop} {ix : Plan} {α β xs ys : Blks}
structure Re (xs ys : Blks) : Prop where
  ids : ∃ zs : List Nat, (mids xs).Perm (mids ys ++ zs)
  rd : ∀ y ∈ ys, y.rids = []
  hh : ∀ K w, (∀ x ∈ xs, x.holds K w) → ∀ y ∈ ys, y.holds K w
theorem St.re {a : Act} {w : World} (hr : Re xs ys) (hσ : σ = α ++ (xs ++ β)) (hτ : τ = α ++ (ys ++ β)) (h : St n W σ l a w) : St n W τ l a w := by
  subst hσ hτ
  obtain ⟨zs, hz⟩ := hr.ids
  have h1 := h.mem.regroup hz hr.rd (fun K => hr.hh K w)
  exact h.to h1.1 h1.2
theorem ct_ {c : Code} (α : Blks) {β : Blks} (hr : Re xs ys) (hσ : σ = α ++ (xs ++ β)) (k : SC P c (St n W (α ++ (ys ++ β)) l) Q) : SC P c (St n W σ l) Q := fun a w h => k a w (h.re hr hσ rfl)
theorem c2_ {ex : Exit} (α : Blks) {β : Blks} (hr : Re xs ys) (hσ : σ = α ++ (xs ++ β)) (k : SE ex (St n W (α ++ (ys ++ β)) l) Q) : SE ex (St n W σ l) Q := fun a w h => k a w (h.re hr hσ rfl)
end
theorem Re.refl {xs : Blks} (h : ∀ x ∈ xs, x.rids = []) : Re xs xs := ⟨⟨[], by simp⟩, h, fun _ _ h => h⟩
theorem Re.trans {xs ys zs : Blks} (h : Re xs ys) (k : Re ys zs) : Re xs zs where
  ids := by
    obtain ⟨a, ha⟩ := h.ids
    obtain ⟨b, hb⟩ := k.ids
    exact ⟨b ++ a, ha.trans ((hb.append_right a).trans (by rw [List.append_assoc]))⟩
  rd := k.rd
  hh := fun K w hx => k.hh K w (h.hh K w hx)
theorem Re.out {l1 l2 : List Pc} {c : Pc} : Re [.pc (bigP (l1 ++ c :: l2))] [.pc c, .pc (bigP (l1 ++ l2))] where
  ids := ⟨[], by
    simp only [mids, List.flatMap_cons, List.flatMap_nil, It.mids, bigP, List.flatMap_append, List.append_nil]
    exact List.perm_append_comm_assoc _ _ _⟩
  rd := by simp [It.rids]
  hh := fun K w h y hy => by
    have h1 : ∀ d ∈ l1 ++ c :: l2, d.p K w := h _ (List.mem_singleton.2 rfl)
    simp only [List.mem_cons, List.not_mem_nil, or_false] at hy
    rcases hy with rfl | rfl
    · exact h1 c (by simp)
    · intro d hd
      exact h1 d (by
        rcases List.mem_append.1 hd with hd | hd
        · simp [hd]
        · simp [hd])
theorem Re.back {l1 l2 : List Pc} {c : Pc} : Re [.pc c, .pc (bigP (l1 ++ l2))] [.pc (bigP (l1 ++ c :: l2))] where
  ids := ⟨[], by
    simp only [mids, List.flatMap_cons, List.flatMap_nil, It.mids, bigP, List.flatMap_append, List.append_nil]
    exact List.perm_append_comm_assoc _ _ _⟩
  rd := by simp [It.rids]
  hh := fun K w h y hy => by
    have h1 : c.p K w := h (.pc c) (by simp)
    have h2 : ∀ d ∈ l1 ++ l2, d.p K w := h (.pc (bigP (l1 ++ l2))) (by simp)
    rw [List.mem_singleton.1 hy]
    intro d hd
    simp only [List.mem_append, List.mem_cons] at hd
    rcases hd with hd | rfl | hd
    · exact h2 d (by simp [hd])
    · exact h1
    · exact h2 d (by simp [hd])
theorem Re.empty : Re [] [.pc (bigP [])] := ⟨⟨[], by simp [mids, It.mids, bigP]⟩, by simp [It.rids], fun K w _ y hy => by
  rw [List.mem_singleton.1 hy]
  intro d hd
  cases hd⟩
theorem Re.blkIn {b : Nat} {t : TypeId} {cs : List Abs} : Re [.blk b t cs] [.pc (blkP b t cs)] := ⟨⟨[], by simp [mids, It.mids, blkP]⟩, by simp [It.rids], fun K w h y hy => by
  rw [List.mem_singleton.1 hy]
  exact h (.blk b t cs) (by simp)⟩
theorem Re.blkOut {b : Nat} {t : TypeId} {cs : List Abs} : Re [.pc (blkP b t cs)] [.blk b t cs] := ⟨⟨[], by simp [mids, It.mids, blkP]⟩, by simp [It.rids], fun K w h y hy => by
  rw [List.mem_singleton.1 hy]
  exact h (.pc (blkP b t cs)) (by simp)⟩
theorem Mem.re {w0 w : World} {F G : List Nat} {xs ys : Blks} (hr : Re xs ys) (h : Mem w0 F G xs w) : Mem w0 F G ys w ∧ Carry (mids xs ++ G) w (mids ys ++ G) w := by
  obtain ⟨zs, hz⟩ := hr.ids
  have h1 := Mem.regroup (α := []) (β := []) hz hr.rd (fun K => hr.hh K w) (by simpa using h)
  simpa using h1
theorem Spec.reg {P : Program} {f : FuncId} {args : List Abs} {xs σ0 φ : Blks} {ι : Type} {τ τ0 : ι → Blks} {res : ι → Abs} (hs : Spec P f args xs τ res) (hx : ∀ x ∈ xs, x.rids = []) (h0 : Re σ0 (xs ++ φ)) (h1 : ∀ z, Re (τ z ++ φ) (τ0 z)) : Spec P f args σ0 τ0 res := fun G w vals hm hv => by
  obtain ⟨hm1, hc1⟩ := Mem.re h0 hm
  have hp : Split (xs ++ φ) xs φ := ⟨by rw [T_], fun x h => .inl ⟨by simp [h], hx x h⟩, fun x h => by simp [h]⟩
  refine (hs.run hm1 hp (aj_ hc1 _ _ hv)).mono fun e w' ⟨z, r, he, _, _, hm2, _, hr⟩ => ?_
  obtain ⟨hm3, hc3⟩ := Mem.re (h1 z) hm2
  exact ⟨z, r, he, (h1 z).rd, hm3, a7_ hc3 _ _ hr⟩
abbrev bs (l : List UInt8) : List (List Abs) := l.map fun b => [Abs.v (bc b)]
def rot (x : Wo) (n : Nat) : Wo := x >>> n ||| x <<< (32 - n)
def mixW (x : Wo) (a b c : Nat) : Wo := rot x a ^^^ rot x b ^^^ rot x c
def byW (l : List UInt8) (i : Nat) : Wo := BitVec.ofNat 32 (l.getD i 0).toNat
def wordAt (l : List UInt8) (i : Nat) : Wo := byW l (4 * i + 0) <<< 24 ||| byW l (4 * i + 1) <<< 16 ||| byW l (4 * i + 2) <<< 8 ||| byW l (4 * i + 3)
def nextW (l : List Wo) (z : Nat) : Wo := l.getD z 0 + (rot (l.getD (z + 1) 0) 7 ^^^ rot (l.getD (z + 1) 0) 18 ^^^ l.getD (z + 1) 0 >>> 3) + l.getD (z + 9) 0 + (rot (l.getD (z + 14) 0) 17 ^^^ rot (l.getD (z + 14) 0) 19 ^^^ l.getD (z + 14) 0 >>> 10)
def sched0 (l : List UInt8) (k : Nat) : List Wo := (List.range k).map (wordAt l)
def grow (l : List Wo) : Nat → List Wo
  | 0 => l
  | k + 1 => grow l k ++ [nextW (grow l k) k]
def sched (l : List UInt8) : List Wo := grow (sched0 l 16) 48
def roundsL : List Wo := [0x428a2f98#32, 0x71374491#32, 0xb5c0fbcf#32, 0xe9b5dba5#32, 0x3956c25b#32, 0x59f111f1#32, 0x923f82a4#32, 0xab1c5ed5#32, 0xd807aa98#32, 0x12835b01#32, 0x243185be#32, 0x550c7dc3#32, 0x72be5d74#32, 0x80deb1fe#32, 0x9bdc06a7#32, 0xc19bf174#32, 0xe49b69c1#32, 0xefbe4786#32, 0x0fc19dc6#32, 0x240ca1cc#32, 0x2de92c6f#32, 0x4a7484aa#32, 0x5cb0a9dc#32, 0x76f988da#32, 0x983e5152#32, 0xa831c66d#32, 0xb00327c8#32, 0xbf597fc7#32, 0xc6e00bf3#32, 0xd5a79147#32, 0x06ca6351#32, 0x14292967#32, 0x27b70a85#32, 0x2e1b2138#32, 0x4d2c6dfc#32, 0x53380d13#32, 0x650a7354#32, 0x766a0abb#32, 0x81c2c92e#32, 0x92722c85#32, 0xa2bfe8a1#32, 0xa81a664b#32, 0xc24b8b70#32, 0xc76c51a3#32, 0xd192e819#32, 0xd6990624#32, 0xf40e3585#32, 0x106aa070#32, 0x19a4c116#32, 0x1e376c08#32, 0x2748774c#32, 0x34b0bcb5#32, 0x391c0cb3#32, 0x4ed8aa4a#32, 0x5b9cca4f#32, 0x682e6ff3#32, 0x748f82ee#32, 0x78a5636f#32, 0x84c87814#32, 0x8cc70208#32, 0x90befffa#32, 0xa4506ceb#32, 0xbef9a3f7#32, 0xc67178f2#32]
structure R8 where
  (a0 a1 a2 a3 e0 e1 e2 e3 : Wo)
def R8.a (r : R8) : List Wo := [r.a0, r.a1, r.a2, r.a3]
def R8.e (r : R8) : List Wo := [r.e0, r.e1, r.e2, r.e3]
def R8.l (r : R8) : List Wo := [r.a0, r.a1, r.a2, r.a3, r.e0, r.e1, r.e2, r.e3]
def firstR : R8 := ⟨0x6a09e667#32, 0xbb67ae85#32, 0x3c6ef372#32, 0xa54ff53a#32, 0x510e527f#32, 0x9b05688c#32, 0x1f83d9ab#32, 0x5be0cd19#32⟩
def t1W (r : R8) (k w : Wo) : Wo := r.e3 + mixW r.e0 6 11 25 + (r.e2 ^^^ (r.e0 &&& (r.e1 ^^^ r.e2))) + k + w
def t2W (r : R8) : Wo := mixW r.a0 2 13 22 + ((r.a0 &&& r.a1) ^^^ (r.a0 &&& r.a2) ^^^ (r.a1 &&& r.a2))
def rnd (r : R8) (k w : Wo) : R8 := ⟨t1W r k w + t2W r, r.a0, r.a1, r.a2, r.a3 + t1W r k w, r.e0, r.e1, r.e2⟩
def rnds (r : R8) (ws : List Wo) : Nat → R8
  | 0 => r
  | i + 1 => rnd (rnds r ws i) (roundsL.getD i 0) (ws.getD i 0)
def R8.add (r s : R8) : R8 := ⟨r.a0 + s.a0, r.a1 + s.a1, r.a2 + s.a2, r.a3 + s.a3, r.e0 + s.e0, r.e1 + s.e1, r.e2 + s.e2, r.e3 + s.e3⟩
def blockW (r : R8) (l : List UInt8) : R8 := r.add (rnds r (sched l) 64)
def blocks (r : R8) (l : List UInt8) : Nat → R8
  | 0 => r
  | k + 1 => blockW (blocks r l k) (l.drop (64 * k))
structure Sm where
  (r : R8) (rest : List UInt8) (n : Nat)
def Sm.new : Sm := ⟨firstR, [], 0⟩
def Sm.add (s : Sm) (l : List UInt8) : Sm := ⟨blocks s.r (s.rest ++ l) ((s.rest ++ l).length / 64), (s.rest ++ l).drop (64 * ((s.rest ++ l).length / 64)), s.n + l.length⟩
theorem k9_ (l : List UInt8) : ∀ c ∈ bs l, ones c = true := by
  intro c hc
  obtain ⟨b, _, rfl⟩ := List.mem_map.1 hc
  rfl
theorem bO_ (l : List UInt8) : ones (digA l) = true := by
  rw [bN_]
  intro a ha
  obtain ⟨p, _, rfl⟩ := List.mem_map.1 ha
  rfl
def an64 (x y : Nat) : Nat := (x % 18446744073709551616) &&& (y % 18446744073709551616)
def or64 (x y : Nat) : Nat := (x % 18446744073709551616) ||| (y % 18446744073709551616)
section
variable {P : Program} {n : Nat} {W : Wd} {σ τ : Blks} {l : Slots} {X : List Nat} {x y z : Operand} {d : Option Nat} {ty t t' e : TypeId} {pos : String} {aft : Array Edge} {g : Option (Nat × Bool)} {k k' : IntKind} {a b : Int} {p q : Nat} {c : Wo}
theorem wrap64 (v : Int) : IntKind.u64.wrap v = v % 18446744073709551616 := by simp [IntKind.wrap, IntKind.bits, IntKind.signed]
theorem ofInt64 (p : Nat) : BitVec.ofInt IntKind.u64.bits ((p : Nat) : Int) = BitVec.ofNat 64 p := by
  show BitVec.ofInt 64 ((p : Nat) : Int) = _
  rw [BitVec.ofInt_natCast]
theorem Val.an64 (hx : look l x = some (.v (.int .u64 a))) (hy : look l y = some (.v (.int .u64 b))) (p q : Nat) (ha : a = (p : Nat)) (hb : b = (q : Nat)) : Val P n W σ l X ⟨d, .binOp .and t x y t', ty, pos, aft, g⟩ (wrd (an64 p q)) := by
  subst ha hb
  refine bU_ hx hy (fun w => ?_) rfl
  simp only [Op.intBits, ofInt64]
  refine congrArg (fun r => Result.ok (Value.int .u64 r) w) ?_
  rw [wrap64]
  have h : (BitVec.ofNat 64 p &&& BitVec.ofNat 64 q).toNat = Proofs.YtjclgkddfjbdiaaGreatDoor.A.an64 p q := by rw [BitVec.toNat_and, BitVec.toNat_ofNat, BitVec.toNat_ofNat]; rfl
  have h2 := (BitVec.ofNat 64 p &&& BitVec.ofNat 64 q).isLt
  show (((BitVec.ofNat 64 p &&& BitVec.ofNat 64 q).toNat : Nat) : Int) % _ = _
  rw [← h]
  omega
theorem Val.or64 (hx : look l x = some (.v (.int .u64 a))) (hy : look l y = some (.v (.int .u64 b))) (p q : Nat) (ha : a = (p : Nat)) (hb : b = (q : Nat)) : Val P n W σ l X ⟨d, .binOp .or t x y t', ty, pos, aft, g⟩ (wrd (or64 p q)) := by
  subst ha hb
  refine bU_ hx hy (fun w => ?_) rfl
  simp only [Op.intBits, ofInt64]
  refine congrArg (fun r => Result.ok (Value.int .u64 r) w) ?_
  rw [wrap64]
  have h : (BitVec.ofNat 64 p ||| BitVec.ofNat 64 q).toNat = Proofs.YtjclgkddfjbdiaaGreatDoor.A.or64 p q := by rw [BitVec.toNat_or, BitVec.toNat_ofNat, BitVec.toNat_ofNat]; rfl
  have h2 := (BitVec.ofNat 64 p ||| BitVec.ofNat 64 q).isLt
  show (((BitVec.ofNat 64 p ||| BitVec.ofNat 64 q).toNat : Nat) : Int) % _ = _
  rw [← h]
  omega
theorem g5_ (hx : look l x = some (.v (.int .u64 a))) (hy : look l y = some (.v (.int k b))) (p q : Nat) (ha : a = (p : Nat)) (hb : b = (q : Nat)) (hq : q ≤ 64) : Val P n W σ l X ⟨d, .binOp .shr t x y t', ty, pos, aft, g⟩ (wrd (p / 2 ^ q)) :=
  h_ (f7_ hx hy (by omega)) (congrArg (fun r => Abs.v (.int .u64 r)) (by
    subst ha hb
    simp only [IntKind.bits, Int.toNat_natCast]
    rw [Int.fdiv_eq_ediv_of_nonneg _ (by exact Int.le_of_lt (Int.pow_pos (by decide))), Nat.min_eq_left hq]
    simp))
theorem g6_ (hx : look l x = some (.v (.int .u64 a))) (hy : look l y = some (.v (.int k b))) (p q : Nat) (ha : a = (p : Nat)) (hb : b = (q : Nat)) (hq : q ≤ 64) : Val P n W σ l X ⟨d, .binOp .shl t x y t', ty, pos, aft, g⟩ (wrd (p * 2 ^ q % 18446744073709551616)) :=
  h_ (dE_ hx hy (by omega)) (congrArg (fun r => Abs.v (.int .u64 r)) (by
    subst ha hb
    rw [wrap64, show IntKind.u64.bits = 64 from rfl, Int.toNat_natCast, Nat.min_eq_left hq]
    simp))
end
/-! ### Constants -/
def mulHi (x y : Nat) : Nat :=
  let w0 := an64 x 4294967295 * an64 y 4294967295 % 18446744073709551616
  let t := (x / 2 ^ 32 * an64 y 4294967295 % 18446744073709551616 + w0 / 2 ^ 32) % 18446744073709551616
  ((x / 2 ^ 32 * (y / 2 ^ 32) % 18446744073709551616 + t / 2 ^ 32) % 18446744073709551616 + (an64 t 4294967295 + an64 x 4294967295 * (y / 2 ^ 32) % 18446744073709551616) % 18446744073709551616 / 2 ^ 32) % 18446744073709551616
def gt2 (hi lo p : Nat) : Bool := Nat.blt p hi || (Nat.beq hi p && Nat.blt 0 lo)
def above (x p : Nat) (cube : Bool) : Bool :=
  match cube with
  | false => gt2 (mulHi x x) (x * x % 18446744073709551616) p
  | true => gt2 ((mulHi x x * x % 18446744073709551616 + mulHi (x * x % 18446744073709551616) x) % 18446744073709551616) (x * x % 18446744073709551616 * x % 18446744073709551616) (p * 2 ^ 32 % 18446744073709551616)
abbrev ws (l : List Wo) : List (List Abs) := l.map fun p => [u32 p]
section
variable {P : Program} {n : Nat} {W : Wd} {σ τ : Blks} {l : Slots} {X : List Nat} {x y z : Operand} {d : Option Nat} {ty t t' e : TypeId} {pos : String} {aft : Array Edge} {g : Option (Nat × Bool)} {A : Abs} {tab : List (Nat × TI)} {ops : Array Oper} {Q : Exit → Act → World → Prop} {k : IntKind}
theorem ofInt8 (c : UInt8) : BitVec.ofInt IntKind.u8.bits ((c.toNat : Nat) : Int) = c.toBitVec := by
  show BitVec.ofInt 8 ((c.toBitVec.toNat : Nat) : Int) = _
  rw [BitVec.ofInt_natCast, BitVec.ofNat_toNat, BitVec.setWidth_eq]
theorem wrap8 (p : BitVec 8) : IntKind.u8.wrap (p.toNat : Nat) = (p.toNat : Nat) := by
  have := p.isLt
  simp only [IntKind.wrap, IntKind.bits, IntKind.signed]
  simp
  omega
theorem ln_ {c f : UInt8} (hx : look l x = some (.v (bc c))) (hy : look l y = some (.v (bc f))) : Val P n W σ l X ⟨d, .binOp .or t x y t', ty, pos, aft, g⟩ (.v (bc (c ||| f))) :=
  bU_ hx hy (fun w => by
    simp only [Op.intBits, ofInt8]
    exact congrArg (fun r => Result.ok (Value.int .u8 r) w) (wrap8 (c.toBitVec ||| f.toBitVec))) rfl
end
/-! ### Rows of words -/
def cutTo : Value → Nat → Value
  | .slice a _ c, q => .slice a q c
  | v, _ => v
theorem cl_ (v : Value) (q : Nat) : (cutTo v q).ownBlock = v.ownBlock := by
  unfold cutTo
  split
  · next a n c => cases a <;> rfl
  · rfl
section
variable {P : Program} {n : Nat} {W : Wd} {σ τ : Blks} {l : Slots} {X : List Nat} {x y z : Operand} {d : Option Nat} {ty t e e' : TypeId} {pos : String} {aft : Array Edge} {g : Option (Nat × Bool)} {v u : Value} {k : IntKind} {tab : List (Nat × TI)} {xs ys : List (List Abs)} {s q : Nat} {ops : Array Oper} {rest : List Oper} {Q : Exit → Act → World → Prop}
theorem ff_ (hT : TabOk P tab) {j : TI} (hu : P.underlying t = some (.slice e)) (hj : ti tab e = some j) (hx : look l x = some (.v v)) (hb : isOwn σ e' s v xs) {r : Int} (hy : look l y = some (.v (.int k r))) (hr : r = (q : Nat)) (hq : q ≤ xs.length) :
    Val P n W σ l X ⟨d, .slice t x none (some y) none, ty, pos, aft, g⟩ (.v (cutTo v q)) := fun a w hs _ => by
  subst hr
  obtain ⟨us, hr1, hr2⟩ := hs.mem.ownR hb
  obtain ⟨A', c, hsh, h3, _⟩ := hr1.shape
  refine ⟨_, rfl, fun w' _ => ?_⟩
  have h7 := (hT _ _ hj).sizeOf (w := w')
  have e1 : a.eval x = .slice A' xs.length c := (hs.plain hx).trans hsh
  have e2 : a.eval y = .int k ((q : Nat) : Int) := hs.plain hy
  rw [hsh]
  have hqc : q ≤ c := by omega
  simp [execOp, Instr.sliceAt, Instr.slice, Instr.sliceBounds, Instr.sliceBound, asIntOf, e1, e2, run_underlying hu, Sem.run_bind, Result.andThen, h7, hqc, Addr.add, cutTo]
  try (cases A' <;> simp)
theorem gy_ {K : List Nat} {w : World} {z : Value} : ∀ m : Nat, repss K w 1 (List.replicate m [.v z]) (List.replicate m z)
  | 0 => rfl
  | m + 1 => ⟨[z], List.replicate m z, rfl, rfl, ⟨z, [], rfl, rfl, rfl⟩, gy_ m⟩
end
section
variable {P : Program} {n : Nat} {W : Wd} {σ σ0 : Blks} {l : Slots} {X0 : List Nat} {ops : Array Oper} {Q : Exit → Act → World → Prop} {ix : Plan} {o : Oper}
theorem cs_ (ν : Blks) (X0 : List Nat) {i : Nat} {Y : List Nat} {R : Abs → Blks → Prop} (hi : ops[i]? = some o) (hv : Eff P n W σ l Y o R) (hσ : σ = ν ++ σ0) (hY : ∀ k ∈ Y, k ∈ mids ν ++ X0) (hg : gd ops l o = some true) (hd : lt? o.dst n = true)
    (k : ∀ y τ, R y τ → ∃ ν' : Blks, τ = ν' ++ σ0 ∧ SX P ops ix (mids ν' ++ X0) (St n W τ (put? l o.dst y)) Q) : SX P ops (.e i ix) (mids ν ++ X0) (St n W σ l) Q := fun a w hs => by
  unfold planW wpOp
  simp only [hi, hs.wanted hg, if_true]
  refine .inl ?_
  unfold Oper.wp
  obtain ⟨v, w', y, τ, hR, hx, hr, hm, hc, hrun⟩ := hv a w hs
  obtain ⟨ν', hτ, hk⟩ := k y τ hR
  have hnew : ∀ k ∈ mids ν' ++ X0, k ∈ mids ν ++ X0 ∨ w.heap.size ≤ k := fun k hk => by
    rcases List.mem_append.1 hk with hk | hk
    · have hkt : k ∈ mids τ := by rw [hτ, T_]; exact List.mem_append_left _ hk
      rcases Nat.lt_or_ge k w.heap.size with h1 | h1
      · have h2 : k ∈ mids σ ++ W.G := Classical.byContradiction fun hn => hc.out k hn h1 (List.mem_append_left _ hkt)
        rcases List.mem_append.1 h2 with h2 | h2
        · rw [hσ, T_] at h2
          rcases List.mem_append.1 h2 with h2 | h2
          · exact .inl (List.mem_append_left _ h2)
          · have hnd := hm.nodup
            rw [hτ, T_, List.nodup_append] at hnd
            exact absurd rfl (hnd.2.2 k hk k h2)
        · exact absurd h2 (hm.sep k hkt)
      · exact .inr h1
    · exact .inl (List.mem_append_right _ hk)
  have hinv : ∀ w2, Ext (mids ν' ++ X0) w' w2 → Ext (mids ν ++ X0) w w2 := fun w2 h2 => (hx.mono (fun k hk => .inl (hY k hk))).trans h2 hnew
  rcases hrun with hrun | ⟨rfl, hrun⟩
  · rw [hrun]; exact ⟨fun w2 => Ext (mids ν' ++ X0) w' w2, hinv, Ext.refl w', hk _ _ ((hs.to hm hc).put hd hr)⟩
  · rw [hrun]; exact ⟨fun w2 => Ext (mids ν' ++ X0) w' w2, hinv, Ext.refl w', hk _ _ ((hs.to hm hc).put hd hr)⟩
end
theorem Re.cast {b : Nat} {t : TypeId} {cs ds : List Abs} (h : Casts cs ds) : Re [.blk b t cs] [.blk b t ds] := ⟨⟨[], by simp [mids, It.mids]⟩, by simp [It.rids], fun K w hx y hy => by
  rw [List.mem_singleton.1 hy]
  obtain ⟨us, h1, h2⟩ := hx (.blk b t cs) (by simp)
  exact ⟨us, h1, h K w us h2⟩⟩
theorem Re.cons {xs ys : Blks} {x : It} (hx : x.rids = []) (h : Re xs ys) : Re (x :: xs) (x :: ys) where
  ids := by
    obtain ⟨a, ha⟩ := h.ids
    refine ⟨a, ?_⟩
    rw [af_, af_, List.append_assoc]
    exact List.Perm.append_left _ ha
  rd := fun y hy => by
    rcases List.mem_cons.1 hy with rfl | hy
    · exact hx
    · exact h.rd y hy
  hh := fun K w hk y hy => by
    rcases List.mem_cons.1 hy with rfl | hy
    · exact hk _ List.mem_cons_self
    · exact h.hh K w (fun z hz => hk z (List.mem_cons_of_mem _ hz)) y hy
theorem Re.perm {xs ys : Blks} (h : xs.Perm ys) (hr : ∀ x ∈ xs, x.rids = []) : Re xs ys := ⟨⟨[], by rw [List.append_nil]; exact cG_ h⟩, fun y hy => hr y (h.mem_iff.2 hy), fun K w hx y hy => hx y (h.mem_iff.2 hy)⟩
end Go.Proofs.YtjclgkddfjbdiaaGreatDoor.A
