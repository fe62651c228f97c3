/-
  From a walk that returns true and changes no old memory to the given statement, for any law without package variables.
-/
import Derived.Test.YtdbeinbgekdnmaaBase
import Derived.Test.YtdbeinbgekdnmaaRows
import Derived.OpenShut
import Derived.SizedLaws
namespace Go.Proofs.Ytdbeinbgekdnmaa
open Go.ChangeShapes Go.WideShapes Go.ChangeAt Go.RowKit

theorem law_own : ownKnob Try.prog.godebug = none := by kernel_rfl
theorem law_laidOut : laidOutB Try.prog = true := by kernel_rfl

theorem trodAll_below {H : Type} {enc : TypeId × Value → H} {W W' : World} (hb : Below W.heap.size W W') :
    ∀ (ts : List TypeId) (vs : List Value) (ds : List (DataW H)) (p : List MemPlace), (∀ t ∈ ts, Try.prog.readableRec t = true ∧ t < Try.prog.types.size) →
      DataW.TrodAll enc Try.prog W 0 (fun _ => true) true ts vs ds p → ∃ q, DataW.TrodAll enc Try.prog W' 0 (fun b => decide (b < W.heap.size)) true ts vs ds q
  | [], [], [], p, _, h => ⟨p, h⟩
  | t :: ts, v :: vs, d :: ds, p, hr, h => by
    obtain ⟨p0, q0, h0, h1, rfl⟩ := h
    obtain ⟨q, hq⟩ := trodAll_below hb ts vs ds q0 (fun t ht => hr t (List.mem_cons_of_mem _ ht)) h1
    have lt0 : ∀ x ∈ p0, x.block < W.heap.size := by obtain ⟨m, hm⟩ := h0; exact DataW.trod_lt m _ _ _ hm
    exact ⟨p0 ++ q, p0, q, Below.trod law_laidOut (hr t List.mem_cons_self).1 (hr t List.mem_cons_self).2 h0 hb lt0, hq, rfl⟩
  | [], _ :: _, _, _, _, h => h.elim
  | [], [], _ :: _, _, _, h => h.elim
  | _ :: _, [], _, _, _, h => h.elim
  | _ :: _, _ :: _, [], _, _, h => h.elim

set_option maxRecDepth 100000 in
theorem law_lift {H : Type} {enc : TypeId × Value → H} {os : Os} (started : os.Started) {f : FuncId} {fn : Func} {s : ChangeSpec}
    (noInit : Try.prog.inits.idxOf? f = none) (hfn : Try.prog.funcs[f]? = some fn) (hvars : s.vars = []) (hres : fn.resultTypes = #[4])
    (hparB : (fn.params.toList.all fun t => Try.prog.readableRec t && decide (t < Try.prog.types.size)) = true)
    (hspec : ∀ ds : List (DataW H), ds.length = fn.params.size → s.fn H (ds ++ []) = { results := [.lit (.bool true)], args := ds })
    (wit : ∃ (w : World) (tape : Tape) (i : Input), w.os = os ∧ (w.forCall tape i).Shaped Try.prog ∧ i.vars = [] ∧ Input.okWide Try.prog (w.forCall tape i) .any w.heap.size f i ∧
      s.pre6 enc Try.prog fn [] false (w.forCall tape i).memory i.args ∧ Assume.holds {} Try.prog (lone (Frame.enter Try.prog f i.args .normal) [] (w.forCall tape i)))
    (walk : ∀ (W : World) (base : Nat) (args : Array Value) (ds : List (DataW H)) (p : List MemPlace),
      (∀ (j : Nat) t v, fn.params[j]? = some t → args[j]? = some v → Value.okWide Try.prog W .any base t v) →
      DataW.TrodAll enc Try.prog W 0 (fun _ => true) true fn.params.toList args.toList ds p →
      (DataW.weightsEach Try.prog fn.params.toList ds).all (· ≤ reachBytes) = true →
      Calls Try.prog f args W fun e W' => e = .returned (.bool true) ∧ Ext [] W W') :
    ReturnsInHanded {} Try.checked os f .any (s.pre6 enc Try.prog fn [] false) (s.post enc Try.prog fn false true false false) := by
  have hpar : ∀ t ∈ fn.params.toList, Try.prog.readableRec t = true ∧ t < Try.prog.types.size := by
    simpa only [List.all_eq_true, Bool.and_eq_true, decide_eq_true_eq] using hparB
  refine returnsInHanded_of_change_sized (C := Try.checked) law_own started noInit hfn wit ?_
  intro W base args ds gs before hval0 hW hcnd hsz _
  have hval : ∀ (j : Nat) t v, fn.params[j]? = some t → args[j]? = some v → Value.okWide Try.prog W .any base t v := hval0
  have hW' := hW
  obtain ⟨p, q, hA0, hV, rfl, hfz, hnd⟩ := hW
  have hA : DataW.TrodAll enc Try.prog W 0 (fun _ => true) true fn.params.toList args.toList ds p := hA0
  rw [hvars] at hV
  obtain ⟨rfl, rfl⟩ := trodVars_none hV
  have hsz' : (DataW.weightsEach Try.prog fn.params.toList ds).all (· ≤ reachBytes) = true := by
    have h2 := hsz
    simp only [ChangeSpec.plain, DataSpec.varTypes, hvars, List.filterMap_nil, List.append_nil] at h2
    exact h2
  refine (walk W base args ds p hval hA hsz').mono fun e W' ⟨he, bel⟩ => ?_
  subst he
  have hlen : ds.length = fn.params.size := by
    have : ∀ (ts : List TypeId) (vs : List Value) (ds : List (DataW H)) (p : List MemPlace), DataW.TrodAll enc Try.prog W 0 (fun _ => true) true ts vs ds p → ds.length = ts.length := by
      intro ts
      induction ts with
      | nil => intro vs ds p h; cases vs <;> cases ds <;> first | rfl | exact h.elim
      | cons t ts ih =>
        intro vs ds p h
        cases vs with
        | nil => exact h.elim
        | cons v vs =>
          cases ds with
          | nil => exact h.elim
          | cons d ds => obtain ⟨p0, q0, _, h1, _⟩ := h; simp [ih vs ds q0 h1]
    simpa using this _ _ _ _ hA
  obtain ⟨pa, hpa⟩ := trodAll_below (enc := enc) bel.below fn.params.toList args.toList ds p hpar hA
  refine ⟨_, rfl, ds, [], p ++ [], [], pa, [], hW', ?_, ?_, ?_, bel.below.frame _, fun h => by cases h⟩
  · rw [hspec ds hlen, hres]
    exact trodAll_mk1 (shut_bool Try.underlying4 _)
  · rw [hspec ds hlen]; exact hpa
  · rw [hspec ds hlen, hvars]; rfl

theorem spot_none {w : World} {b o : Nat} {s : Option Nat} {v : Value} (h : w.cell? ⟨b, o, s⟩ = some v) : s = none := by
  have := World.cell?_spot h
  simpa using this

set_option maxRecDepth 100000 in
/-- A slice of integers that came in. -/
theorem open_row_ints {H : Type} {enc : TypeId × Value → H} {W : World} {base : Nat} {t e : TypeId} {k : IntKind} {v : Value} {d : DataW H} {p : List MemPlace}
    (ht : Try.prog.underlying t = some (.slice e)) (he : Try.prog.underlying e = some (.int k)) (hE : Try.prog.cellsOf e = 1)
    (hv : Value.okWide Try.prog W .any base t v) (h : DataW.Trod enc Try.prog W 0 (fun _ => true) true t v d p) :
    ∃ (A : Option Addr) (n c : Nat) (zs : List Int), v = .slice A n c ∧ zs.length = n ∧ n ≤ c ∧ c ≤ maxLen ∧ Row W A (zs.map (Value.int k)) ∧ ∀ z ∈ zs, (Lit.int k z).wf = true := by
  obtain ⟨A, n, c, rfl⟩ := okWide_slice ht hv
  obtain ⟨fuel, hf⟩ := h
  rcases open_ints ht he hE hf with ⟨hcs, _⟩ | ⟨x, l, c', zs, hcs, _, hl, hm, hz, _, hcell, hwz⟩
  · simp [Value.cells] at hcs
    obtain ⟨rfl, rfl, rfl⟩ := hcs
    exact ⟨none, 0, 0, [], rfl, rfl, Nat.le_refl _, Nat.zero_le _, Row.nil_ _ _, by simp⟩
  · simp [Value.cells] at hcs
    obtain ⟨rfl, rfl, rfl⟩ := hcs
    have hz' : zs.length = c := by simpa using hz
    refine ⟨some x, n, c, zs.take n, rfl, by simp; omega, hl, hm, ?_, fun z hz0 => hwz z (List.mem_of_mem_take hz0)⟩
    intro hn
    have hn0 : 0 < zs.length := by
      rcases zs with _ | ⟨z, zs⟩
      · simp at hn
      · simp
    obtain ⟨b, off, spot⟩ := x
    have h0 := hcell 0 hn0
    have hs : spot = none := by
      have : (⟨b, off, spot⟩ : Addr).add 0 = ⟨b, off, spot⟩ := by simp [Addr.add]
      rw [this] at h0
      exact spot_none h0
    subst hs
    refine ⟨b, off, rfl, fun j u hu => ?_⟩
    rw [List.getElem?_map, List.getElem?_take] at hu
    split at hu
    · rename_i hj
      have hjl : j < zs.length := by
        rcases Nat.lt_or_ge j zs.length with h1 | h1
        · exact h1
        · rw [List.getElem?_eq_none h1] at hu; simp at hu
      have hcj := hcell j hjl
      have e1 : (⟨b, off, none⟩ : Addr).add j = ⟨b, off + j, none⟩ := by
        unfold Addr.add
        split
        · rename_i h0; subst h0; rfl
        · rfl
      rw [e1] at hcj
      rw [hcj, ← hu]
      simp [hjl]
    · simp at hu
end Go.Proofs.Ytdbeinbgekdnmaa
