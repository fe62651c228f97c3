/-
  Packed out of the texts: AOpenF.
-/
import Derived.Test.YtbhjchlflkgjbaaM111
import Derived.JoinedCond
/-
  Arguments that are policies, as trees, with their size by the reading's bulk; and from a walk to the second form's statement.
-/
set_option maxRecDepth 100000
set_option linter.unusedSimpArgs false
set_option linter.unusedVariables false
namespace Go.Proofs.Ytbhjchlflkgjbaa
open Go.RowKit Go.ChangeShapes Go.WideShapes Go.ChangeAt
section
variable {H : Type} {enc : TypeId × Value → H} {P : Program} {w : World} {base : Nat} {spare : Nat → Bool} {held : Bool}
/-- A slice that came in: its row, element by element, each with its datum. -/
theorem open_rowD {t e : TypeId} {fuel : Nat} {A : Option Addr} {n c : Nat} {x : DataW H × List MemPlace} (ht : P.underlying t = some (.slice e)) (h : DataW.trod enc P w base spare held fuel t [.slice A n c] = some x) :
    n ≤ c ∧ c ≤ maxLen ∧ ∃ (F : Nat → List Value) (D : Nat → DataW H), (∀ i, i < n → (F i).length = P.cellsOf e ∧ ∃ m pl, DataW.trod enc P w base spare held m e (F i) = some (D i, pl)) ∧ Rows.uptoBulkAll ((List.range n).map D) + 1 ≤ Rows.uptoBulk x.1 ∧
      (((List.range n).map F).flatten ≠ [] → ∃ b off : Nat, A = some ⟨b, off, none⟩ ∧ ∀ j u, ((List.range n).map F).flatten[j]? = some u → w.cell? ⟨b, off + j, none⟩ = some u) := by
  rcases Deep.open_slice ht h with ⟨hcs, hx⟩ | ⟨a, len, cap, m, n', D, Pl, hcs, _, hl, hm, hmm, hx, hi⟩
  · simp at hcs
    obtain ⟨rfl, rfl, rfl⟩ := hcs
    subst hx
    exact ⟨Nat.le_refl _, Nat.zero_le _, fun _ => [], fun _ => .nil, fun i h => by omega, by simp [Rows.uptoBulkAll, Rows.uptoBulk], by simp⟩
  · simp at hcs
    obtain ⟨rfl, rfl, rfl⟩ := hcs
    have hnm : n ≤ m := by rw [hmm]; split <;> omega
    subst hx
    refine ⟨hl, hm, fun i => ((w.cells? base (a.add (i * P.cellsOf e)) (P.cellsOf e)).getD []), D, ?_, by simp only [Rows.uptoBulk]; omega, ?_⟩
    · intro i hin
      obtain ⟨cs', h1, h2⟩ := hi i (by omega)
      simp only [h1, Option.getD_some]
      exact ⟨(World.cells?_some h1).2.1, n', _, h2⟩
    · intro hne
      have hall : ∀ y ∈ (List.range n).map (fun i => ((w.cells? base (a.add (i * P.cellsOf e)) (P.cellsOf e)).getD [])), y.length = P.cellsOf e := by
        intro y hy
        simp only [List.mem_map, List.mem_range] at hy
        obtain ⟨i, hin, rfl⟩ := hy
        obtain ⟨cs', h1, _⟩ := hi i (by omega)
        rw [h1]
        exact (World.cells?_some h1).2.1
      have hlen0 := flatten_length _ hall
      have hpos : 0 < n * P.cellsOf e := by
        rcases Nat.eq_zero_or_pos (n * P.cellsOf e) with h0 | h0
        · exfalso
          apply hne
          apply List.eq_nil_of_length_eq_zero
          rw [hlen0]
          simpa using h0
        · exact h0
      have hsz : 0 < P.cellsOf e := Nat.pos_of_mul_pos_left hpos
      have hn0 : 0 < n := Nat.pos_of_mul_pos_right hpos
      obtain ⟨b, off, spot⟩ := a
      have hs : spot = none := by
        obtain ⟨cs', h1, _⟩ := hi 0 (by omega)
        obtain ⟨_, hl1, hc1⟩ := World.cells?_some h1
        have h2 := hc1 0 hsz
        have h3 : ((⟨b, off, spot⟩ : Addr).add (0 * P.cellsOf e)).add 0 = ⟨b, off, spot⟩ := by simp [Addr.add]
        rw [h3, List.getElem?_eq_getElem (by omega)] at h2
        exact spot_none h2
      subst hs
      refine ⟨b, off, rfl, fun j u hu => ?_⟩
      rw [flatten_get hsz _ hall] at hu
      simp only [Option.bind_eq_some_iff, List.getElem?_map, Option.map_eq_some_iff] at hu
      obtain ⟨y, ⟨i, hir, rfl⟩, hy⟩ := hu
      have hrl := List.getElem?_eq_some_iff.1 hir
      obtain ⟨hir1, hir2⟩ := hrl
      simp at hir1 hir2
      subst hir2
      obtain ⟨cs', h1, _⟩ := hi (j / P.cellsOf e) (by omega)
      rw [h1] at hy
      simp only [Option.getD_some] at hy
      obtain ⟨_, hl1, hc1⟩ := World.cells?_some h1
      have h2 := hc1 (j % P.cellsOf e) (Nat.mod_lt _ hsz)
      rw [add_eq, add_eq, hy] at h2
      have hjd := Nat.div_add_mod j (P.cellsOf e)
      rw [show off + j = off + j / P.cellsOf e * P.cellsOf e + j % P.cellsOf e by rw [Nat.mul_comm (j / P.cellsOf e)]; omega]
      exact h2
end
namespace A
theorem reps_frms {w : World} {n : Nat} {F : Nat → List Value} {H : Type} {D : Nat → DataW H} : ∀ {L : List Nat}, (∀ i ∈ L, (F i).length = 3 ∧ ∃ f : Frm, reps [] w f.abs (F i) ∧ f.nodes ≤ Rows.uptoBulk (D i)) → ∃ ks : List Frm, repss [] w 3 (ks.map Frm.abs) (L.map F).flatten ∧ ks.length = L.length ∧ Frm.nodess ks ≤ Rows.uptoBulkAll (L.map D)
  | [], _ => ⟨[], rfl, rfl, by simp [Frm.nodess]⟩
  | i :: L, h => by
    obtain ⟨h1, f, h2, h3⟩ := h i List.mem_cons_self
    obtain ⟨ks, h4, h5, h6⟩ := reps_frms (n := n) (F := F) (D := D) (L := L) fun c hc => h c (List.mem_cons_of_mem _ hc)
    exact ⟨f :: ks, ⟨_, _, rfl, h1, h2, h4⟩, by simp [h5], by simp only [Frm.nodess, List.map_cons, Rows.uptoBulkAll]; omega⟩
section
variable {H : Type} {enc : TypeId × Value → H} {w : World} {base : Nat} {spare : Nat → Bool} {held : Bool}
theorem bulk_mem {d : DataW H} : ∀ {ds : List (DataW H)}, d ∈ ds → Rows.uptoBulk d ≤ Rows.uptoBulkAll ds
  | x :: ds, h => by
    rcases List.mem_cons.1 h with rfl | h
    · simp only [Rows.uptoBulkAll]; omega
    · have := bulk_mem h; simp only [Rows.uptoBulkAll]; omega
/-- A policy that came in: a tree of no more nodes than the reading's bulk. -/
theorem open_frmN : ∀ (N : Nat) {fuel : Nat} {cs : List Value} {x : DataW H × List MemPlace}, Rows.uptoBulk x.1 ≤ N → cs.length = 3 → DataW.trod enc Try.prog w base spare held fuel 45 cs = some x → ∃ f : Frm, reps [] w f.abs cs ∧ f.nodes ≤ Rows.uptoBulk x.1
  | 0, fuel, cs, x, hb, hl, h => by
    obtain ⟨xs, n, rfl, rfl, _⟩ := DataW.trod_struct Try.underlying45 h
    simp [Rows.uptoBulk] at hb
  | N + 1, fuel, cs, x, hb, hl, h => by
    obtain ⟨xs, n, rfl, rfl, _, hsz, hf⟩ := DataW.trod_struct Try.underlying45 h
    match cs, hl, xs, hsz with
    | [v0, v1, v2], _, [x0, x1, x2], _ =>
      have c1 : Try.prog.cellsOf 3 = 1 := by kernel_rfl
      have c2 : Try.prog.cellsOf 43 = 1 := by kernel_rfl
      have h0 : DataW.trod enc Try.prog w base spare held n 3 (List.take (Try.prog.cellsOf 3) [v0, v1, v2]) = some x0 := hf 0 _ rfl
      rw [c1] at h0
      replace h0 : DataW.trod enc Try.prog w base spare held n 3 [v0] = some x0 := h0
      have h1 : DataW.trod enc Try.prog w base spare held n 3 (List.take (Try.prog.cellsOf 3) [v1, v2]) = some x1 := hf 1 _ rfl
      rw [c1] at h1
      replace h1 : DataW.trod enc Try.prog w base spare held n 3 [v1] = some x1 := h1
      have h2 : DataW.trod enc Try.prog w base spare held n 43 (List.take (Try.prog.cellsOf 43) [v2]) = some x2 := hf 2 _ rfl
      rw [c2] at h2
      replace h2 : DataW.trod enc Try.prog w base spare held n 43 [v2] = some x2 := h2
      obtain ⟨n0, rfl, _⟩ := (show LeafAt enc Try.prog w base spare held 3 v0 from ⟨_, _, h0⟩).int Try.underlying3
      obtain ⟨n1, rfl, _⟩ := (show LeafAt enc Try.prog w base spare held 3 v1 from ⟨_, _, h1⟩).int Try.underlying3
      obtain ⟨A0, m, c, rfl⟩ : ∃ A n c, v2 = .slice A n c := by
        rcases Deep.open_slice Try.underlying43 h2 with ⟨hcs, _⟩ | ⟨a, len, cap, m, n', D, Pl, hcs, _⟩
        · simp at hcs; exact ⟨_, _, _, hcs⟩
        · simp at hcs; exact ⟨_, _, _, hcs⟩
      obtain ⟨k1, k2, F, D, k3, k4, k5⟩ := open_rowD Try.underlying43 h2
      simp only [List.map_cons, List.map_nil, Rows.uptoBulk, Rows.uptoBulkAll] at hb ⊢
      have e3 : Try.prog.cellsOf 45 = 3 := by kernel_rfl
      obtain ⟨ks, k6, k7, k8⟩ := reps_frms (w := w) (n := m) (F := F) (D := D) (L := List.range m) fun i hi => by
        obtain ⟨q1, mm, pl, q2⟩ := k3 i (List.mem_range.1 hi)
        have q3 : Rows.uptoBulk (D i) ≤ Rows.uptoBulkAll ((List.range m).map D) := bulk_mem (List.mem_map.2 ⟨i, hi, rfl⟩)
        rw [e3] at q1
        exact ⟨q1, open_frmN N (x := (D i, pl)) (by show Rows.uptoBulk (D i) ≤ N; omega) q1 q2⟩
      rw [List.length_range] at k7
      refine ⟨.mk n0 n1 ks, ?_, by rw [Frm.nodes_mk]; omega⟩
      rw [Frm.abs_mk]
      refine ⟨_, _, rfl, rfl, _, _, rfl, rfl, _, _, rfl, ?_, rfl⟩
      refine ⟨((List.range m).map F).flatten, ⟨⟨A0, c, ?_, ?_, k2, open_none Try.underlying43 h2⟩, fun hn => ?_⟩, k6⟩
      · rw [List.length_map, k7]
      · rw [List.length_map, k7]; exact k1
      · obtain ⟨b, off, rfl, hc⟩ := k5 hn
        exact ⟨b, off, _, _, rfl, by simp, hc⟩
theorem open_frm {cs : List Value} {fuel : Nat} {x : DataW H × List MemPlace} (hl : cs.length = Try.prog.cellsOf 45) (h : DataW.trod enc Try.prog w base spare held fuel 45 cs = some x) : ∃ f : Frm, reps [] w f.abs cs ∧ f.nodes ≤ Rows.uptoBulk x.1 :=
  open_frmN _ (Nat.le_refl _) (by rw [hl]; kernel_rfl) h
theorem open_en {cs : List Value} {fuel : Nat} {x : DataW H × List MemPlace} (hl : cs.length = Try.prog.cellsOf 34) (h : DataW.trod enc Try.prog w base spare held fuel 34 cs = some x) : ∃ e : En, reps [] w e.abs cs ∧ InR .i64 e.org :=
  open_enA cs hl ⟨_, _, h⟩
theorem open_wo {a : Int} (h : (Lit.int .u32 a).wf = true) : ∃ s : Wo, Value.int .u32 a = .int .u32 (s.toNat : Nat) := by
  have h1 : 0 ≤ a ∧ a < 4294967296 := by
    simp [Lit.wf, IntKind.min, IntKind.max, IntKind.signed, IntKind.bits] at h
    omega
  refine ⟨BitVec.ofNat 32 a.toNat, ?_⟩
  rw [BitVec.toNat_ofNat, Nat.mod_eq_of_lt (by omega)]
  congr 1
  omega
end
end A
set_option maxRecDepth 100000 in
/-- From a walk that returns true and changes no old memory to the second form's statement. -/
theorem law_lift_upto {H : Type} {enc : TypeId × Value → H} {os : Os} (started : os.Started) {f : FuncId} {fn : Func} {s : ChangeSpec} (F : Stop.Interp)
    (noInit : Try.prog.inits.idxOf? f = none) (hfn : Try.prog.funcs[f]? = some fn) (hvars : s.vars = []) (hres : fn.resultTypes = #[4])
    (hparB : (fn.params.toList.all fun t => Try.prog.readableRec t && decide (t < Try.prog.types.size)) = true)
    (hspec : ∀ ds : List (DataW H), ds.length = fn.params.size → s.fn H (ds ++ []) = { results := [.lit (.bool true)], args := ds })
    (wit : ∃ (w : World) (tape : Tape) (i : Input), w.os = os ∧ (w.forCall tape i).Shaped Try.prog ∧ i.vars = [] ∧ Input.okWide Try.prog (w.forCall tape i) .any w.heap.size f i ∧
      (Rows.OpenSpec.upto s).pre6 enc Try.prog fn [] false (w.forCall tape i).memory i.args ∧ Assume.holds {} Try.prog (lone (Frame.enter Try.prog f i.args .normal) [] (w.forCall tape i)))
    (walk : ∀ (W : World) (base : Nat) (args : Array Value) (ds : List (DataW H)) (p : List MemPlace),
      (∀ (j : Nat) t v, fn.params[j]? = some t → args[j]? = some v → Value.okWide Try.prog W .any base t v) →
      DataW.TrodAll enc Try.prog W 0 (fun _ => true) true fn.params.toList args.toList ds p →
      Rows.uptoSmall H ds = true →
      Calls Try.prog f args W fun e W' => e = .returned (.bool true) ∧ Ext [] W W') :
    ReturnsInHanded {} Try.checked os f .any ((Rows.OpenSpec.upto s).pre6 enc Try.prog fn [] false) (((Rows.OpenSpec.upto s).at F).post enc Try.prog fn false true false false) := by
  have hpar : ∀ t ∈ fn.params.toList, Try.prog.readableRec t = true ∧ t < Try.prog.types.size := by
    simpa only [List.all_eq_true, Bool.and_eq_true, decide_eq_true_eq] using hparB
  refine returnsInHanded_of_cond (C := Try.checked) (s := Rows.OpenSpec.upto s) (k := Rows.uptoSmall) rfl law_own started noInit hfn wit ?_
  intro W base args ds gs before hval0 hW _ hk _
  have hval : ∀ (j : Nat) t v, fn.params[j]? = some t → args[j]? = some v → Value.okWide Try.prog W .any base t v := hval0
  have hW' := hW
  obtain ⟨p, q, hA0, hV, rfl, hfz, hnd⟩ := hW
  have hA : DataW.TrodAll enc Try.prog W 0 (fun _ => true) true fn.params.toList args.toList ds p := hA0
  have hvars2 : (Rows.OpenSpec.upto s).vars = [] := hvars
  rw [hvars2] at hV
  obtain ⟨rfl, rfl⟩ := trodVars_none hV
  rw [List.append_nil] at hk
  refine (walk W base args ds p hval hA hk).mono fun e W' ⟨he, bel⟩ => ?_
  subst he
  have hlen : ds.length = fn.params.size := by
    have : ∀ (ts : List TypeId) (vs : List Value) (ds : List (DataW H)) (p : List MemPlace), DataW.TrodAll enc Try.prog W 0 (fun _ => true) true ts vs ds p → ds.length = ts.length := by
      intro ts
      induction ts with
      | nil => intro vs ds p h; cases vs <;> cases ds <;> first | rfl | exact h.elim
      | cons t ts ih =>
        intro vs ds p h
        cases vs with
        | nil => exact h.elim
        | cons v vs =>
          cases ds with
          | nil => exact h.elim
          | cons d ds => obtain ⟨p0, q0, _, h1, _⟩ := h; simp [ih vs ds q0 h1]
    simpa using this _ _ _ _ hA
  obtain ⟨pa, hpa⟩ := trodAll_below (enc := enc) bel.below fn.params.toList args.toList ds p hpar hA
  show ∃ v, _ ∧ s.post enc Try.prog fn false true false false W args v W'
  refine ⟨_, rfl, ds, [], p ++ [], [], pa, [], hW', ?_, ?_, ?_, bel.below.frame _, fun h => by cases h⟩
  · rw [hspec ds hlen, hres]
    exact trodAll_mk1 (shut_bool Try.underlying4 _)
  · rw [hspec ds hlen]; exact hpa
  · rw [hspec ds hlen, hvars]; rfl
end Go.Proofs.Ytbhjchlflkgjbaa
