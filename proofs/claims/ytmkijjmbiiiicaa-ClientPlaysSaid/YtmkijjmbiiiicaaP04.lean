/-
  Packed out of the texts: A4, A5, Rd, A6, A8, Law, Open, OpenBytes, AOpen, Names.
-/
import Derived.Test.YtmkijjmbiiiicaaP03
import Derived.Test.YtmkijjmbiiiicaaRows
import Derived.OpenShut
import Derived.SizedLaws
import Derived.Deep.Slices
/-
  The second engine: rows of the call's own, slices, texts; a call's begin and end.
-/
set_option maxRecDepth 100000
set_option linter.unusedSimpArgs false
set_option linter.unusedVariables false
namespace Go.Proofs.Ytmkijjmbiiiicaa.A
open Go.RowKit

/-- A row of bytes. -/
abbrev byt (l : List UInt8) : Abs := .sl 1 (l.map fun b => [.v (bc b)])
section
variable {K : List Nat} {w : World} {x : Value}
theorem byt_map (l : List UInt8) : (l.map fun b => [Abs.v (bc b)]) = (l.map bc).map fun u => [.v u] := by rw [List.map_map]; rfl
theorem rep_byt {l : List UInt8} : rep K w (byt l) x ↔ IsRow K w x l.length (l.map bc) := by
  constructor
  · rintro ⟨us, h1, h2⟩
    rw [byt_map] at h2
    have := repss_ones_eq h2
    subst this
    simpa using h1
  · intro h
    refine ⟨l.map bc, by simpa using h, ?_⟩
    rw [byt_map]; exact repss_ones
/-- A nil slice. -/
theorem rep_nil {s : Nat} {x : Value} (h : rep K w (.v (.slice none 0 0)) x) : rep K w (.sl s []) x := ⟨[], IsRow.nil h, rfl⟩
end
/-- A row of the call's own. -/
def ownPc (e : TypeId) (s : Nat) (v : Value) (xs : List (List Abs)) : Pc where
  ids := v.ownBlock.toList
  p := fun K w => ∃ us, w.ownsRow 0 e s v xs.length us ∧ repss K w s xs us
  carry := fun K w K' w' hc hs ⟨us, h, hr⟩ => by
    refine ⟨us, ⟨h.1, ?_⟩, repss_carry hc s xs us hr⟩
    rcases h.2 with h2 | ⟨g, cap, cur, rfl, hg, hh, hrest⟩
    · exact .inl h2
    · exact .inr ⟨g, cap, cur, rfl, hg, (hs g (by simp [Value.ownBlock])).trans hh, hrest⟩
  lt := fun K w ⟨us, h, _⟩ k hk => by
    have := World.ownsRow.lt h k (by simpa using hk)
    omega
abbrev own (e : TypeId) (s : Nat) (v : Value) (xs : List (List Abs)) : It := .pc (ownPc e s v xs)
theorem own_nodup {e : TypeId} {s : Nat} {v : Value} {xs : List (List Abs)} : (own e s v xs).mids.Nodup := by
  simp only [It.mids, ownPc]
  cases v.ownBlock <;> simp
section
variable {P : Program} {n : Nat} {W : Wd} {σ τ : Blks} {l : Slots} {X : List Nat} {x y z : Operand} {d : Option Nat} {ty t t' e : TypeId} {pos : String} {aft : Array Edge} {g : Option (Nat × Bool)} {v u : Value} {k k' : IntKind} {a b : Int} {o : Oper} {A B : Abs} {tab : List (Nat × TI)} {ops : Array Oper} {rest : List Oper} {Q : Exit → Act → World → Prop} {ix : Plan} {xs ys : List (List Abs)} {s : Nat}
theorem Mem.own0 {w0 w : World} {F G : List Nat} (h : Mem w0 F G σ w) (e : TypeId) (s : Nat) : Mem w0 F G (own e s (.slice none 0 0) [] :: σ) w ∧ Carry (mids σ ++ G) w (mids (own e s (.slice none 0 0) [] :: σ) ++ G) w :=
  h.new (Ext.refl w) own_nodup (by simp [It.mids, ownPc, Value.ownBlock]) rfl fun _ => ⟨[], ⟨by simp, .inl ⟨rfl, rfl⟩⟩, rfl⟩
theorem St.own0 {a : Act} {w : World} (h : St n W σ l a w) (e : TypeId) (s : Nat) : St n W (own e s (.slice none 0 0) [] :: σ) l a w := let ⟨h1, h2⟩ := h.mem.own0 e s; h.to h1 h2
/-- A row of the call's own, as a row that is read. -/
theorem own_sl {w0 w : World} {F G : List Nat} {pre post : Blks} (h : Mem w0 F G (pre ++ own e s v xs :: post) w) : rep (mids (pre ++ post) ++ G) w (.sl s xs) v := by
  obtain ⟨us, h1, h2⟩ : (ownPc e s v xs).p _ w := h.hold (own e s v xs) (by simp)
  have hc := (h.sub (τ := pre ++ post) (List.Sublist.append (List.Sublist.refl _) (List.sublist_cons_self _ _))).2
  refine ⟨us, ownsRow.isRow h1 fun k hk hm => ?_, repss_carry hc s xs us h2⟩
  have hk' : k ∈ (own e s v xs).mids := by simp [It.mids, ownPc, hk]
  have hnd := h.nodup
  simp only [mids_append, mids_cons, List.nodup_append] at hnd hm
  obtain ⟨n1, ⟨n2, n3, n4⟩, n5⟩ := hnd
  rcases List.mem_append.1 hm with hm | hm
  · rcases List.mem_append.1 hm with hm | hm
    · exact n5 k hm k (List.mem_append_left _ hk') rfl
    · exact n4 k hk' k hm rfl
  · exact h.sep k (by simp [mids_append, mids_cons, hk']) hm
theorem St.freeze {a : Act} {w : World} {pre post : Blks} {t : Nat} (h : St n W (pre ++ own e s v xs :: post) l a w) (hs : slot l t = some (.v v)) : St n W (pre ++ post) ((t, .sl s xs) :: l) a w := by
  have hsub : (pre ++ post).Sublist (pre ++ own e s v xs :: post) := List.Sublist.append (List.Sublist.refl _) (List.sublist_cons_self _ _)
  refine (h.less hsub).cast hs fun u hu => ?_
  have : u = v := hu
  subst this
  exact own_sl h.mem
theorem SL.freeze (pre : Blks) {post : Blks} {t : Nat} (hσ : σ = pre ++ own e s v xs :: post) (hs : slot l t = some (.v v)) (k : SL P ops rest (St n W (pre ++ post) ((t, .sl s xs) :: l)) Q) : SL P ops rest (St n W σ l) Q := by
  subst hσ; exact fun a w h => k a w (h.freeze hs)
theorem SX.freeze (pre : Blks) {post : Blks} {t : Nat} (hσ : σ = pre ++ own e s v xs :: post) (hs : slot l t = some (.v v)) (k : SX P ops ix X (St n W (pre ++ post) ((t, .sl s xs) :: l)) Q) : SX P ops ix X (St n W σ l) Q := by
  subst hσ; exact fun a w h => k a w (h.freeze hs)
theorem SE.freeze {ex : Exit} (pre : Blks) {post : Blks} {t : Nat} (hσ : σ = pre ++ own e s v xs :: post) (hs : slot l t = some (.v v)) (k : SE ex (St n W (pre ++ post) ((t, .sl s xs) :: l)) Q) : SE ex (St n W σ l) Q := by
  subst hσ; exact fun a w h => k a w (h.freeze hs)
theorem SC.freeze {c : Code} (pre : Blks) {post : Blks} {t : Nat} (hσ : σ = pre ++ own e s v xs :: post) (hs : slot l t = some (.v v)) (k : SC P c (St n W (pre ++ post) ((t, .sl s xs) :: l)) Q) : SC P c (St n W σ l) Q := by
  subst hσ; exact fun a w h => k a w (h.freeze hs)
theorem SC.own0 {c : Code} (e : TypeId) (s : Nat) (k : SC P c (St n W (own e s (.slice none 0 0) [] :: σ) l) Q) : SC P c (St n W σ l) Q := fun a w h => k a w (h.own0 e s)
theorem SL.own0 (e : TypeId) (s : Nat) (k : SL P ops rest (St n W (own e s (.slice none 0 0) [] :: σ) l) Q) : SL P ops rest (St n W σ l) Q := fun a w h => k a w (h.own0 e s)
theorem Val.lenOwn {m : Nat} (hx : look l x = some (.v v)) (hb : own e s v xs ∈ σ) (ht : P.underlying t = some (.slice e)) (hm : xs.length = m) : Val P n W σ l X ⟨d, .call { callee := .builtin .len, args := #[x], argTypes := #[t] }, ty, pos, aft, g⟩ (.v (.int .i64 m)) := Val.mk' fun a w hs _ => by
  subst hm
  obtain ⟨us, h1, _⟩ : (ownPc e s v xs).p _ w := hs.mem.hold _ hb
  refine ⟨_, rfl, fun w' _ => ?_⟩
  rcases h1.2 with ⟨rfl, h0⟩ | ⟨g, cap, cur, rfl, _⟩
  · rw [h0]; exact Proofs.Ytmkijjmbiiiicaa.Val.lenSl (by rw [hs.at2 hx, hs.plain hx]) ht
  · exact Proofs.Ytmkijjmbiiiicaa.Val.lenSl (by rw [hs.at2 hx, hs.plain hx]) ht
/-- A store of a row of the call's own. -/
theorem Eff.storeOwn (hT : TabOk P tab) {sz b o : Nat} {zs : List Value} {cs L' : List Abs} (ht : ti tab t = some ⟨sz, .one, zs⟩) (h1 : Nat.beq sz 1 = true) (hx : look l x = some (.v (.pointer (some ⟨b, o, none⟩)))) (hy : look l y = some (.v v)) (hb : own e s v xs ∈ σ) (hu : Upd (.blk b t' cs) (.blk b t' L') σ τ) (hn : Nat.blt o cs.length = true) (hL : putL cs o [.v v] = L') :
    Eff P n W σ l [b] ⟨d, .store t x y, ty, pos, aft, g⟩ fun u τ' => u = .v undef ∧ τ' = τ := fun a w hs => by
  obtain ⟨us, h2, _⟩ : (ownPc e s v xs).p _ w := hs.mem.hold _ hb
  have h1 := Nat.eq_of_beq_eq_true h1
  subst h1
  have hn : o < cs.length := by simpa [Nat.blt_eq] using hn
  have hsl : ∃ A n c, v = .slice A n c := by
    rcases h2.2 with ⟨h, _⟩ | ⟨g, cap, cur, h, _⟩
    · exact ⟨_, _, _, h⟩
    · exact ⟨_, _, _, h⟩
  obtain ⟨A', n', c', rfl⟩ := hsl
  exact Eff.store hT ht hx hy hu rfl (by show o + 1 ≤ _; omega) rfl hL a w hs
/-- 'append(dst, src...)': dst the call's own, src a row that is read. -/
theorem Eff.append (hT : TabOk P tab) {i : TI} (pre : Blks) {post : Blks} (hu : P.underlying t = some (.slice e)) (hi : ti tab e = some i) (hpos : Nat.blt 0 i.size = true) (hsz : Nat.beq s i.size = true)
    (hx : look l x = some (.v v)) (hy : look l y = some (.sl s ys)) (hσ : σ = pre ++ own e s v xs :: post) (h1 : ∀ c ∈ ys, ones c = true) (hm : xs.length + ys.length ≤ maxLen) (hby : (xs.length + ys.length) * P.bytesOf e ≤ 140737488355328) :
    Eff P n W σ l v.ownBlock.toList ⟨d, .call { callee := .builtin .append, args := #[x, y], argTypes := #[t, t] }, ty, pos, aft, g⟩ fun r τ => ∃ u, r = .v u ∧ τ = pre ++ own e s u (xs ++ ys) :: post := fun a w hs => by
  subst hσ
  have hsz := Nat.eq_of_beq_eq_true hsz
  subst hsz
  obtain ⟨us, own1, hr1⟩ : (ownPc e i.size v xs).p _ w := hs.mem.hold (own e i.size v xs) (by simp)
  obtain ⟨news, hrow, hr2⟩ := hs.eval hy
  obtain ⟨A', c', hsh, _⟩ := hrow.shape
  have hone : ∀ u ∈ news, u.oneCell' = true := by
    have aux : ∀ (ys : List (List Abs)) (news : List Value), (∀ c ∈ ys, ones c = true) → repss (mids (pre ++ own e i.size v xs :: post) ++ W.G) w i.size ys news → ∀ u ∈ news, u.oneCell' = true := by
      intro ys
      induction ys with
      | nil => intro news _ h u hu; have : news = [] := h; subst this; cases hu
      | cons c ys ih =>
        rintro news ho ⟨u1, u2, rfl, _, h3, h4⟩ u hu
        rcases List.mem_append.1 hu with hu | hu
        · exact ones_reps h3 (ho c (by simp)) u hu
        · exact ih u2 (fun c hc => ho c (by simp [hc])) h4 u hu
    exact aux ys news h1 hr2
  have hrow' := hrow
  rw [hsh] at hrow'
  obtain ⟨v', w', hrun, h2, h3, h4⟩ := run_appendRow (ty := ty) hT hu hi hby hpos own1 hrow' (repss_length hr2) hone hm
  have hlt := World.ownsRow.lt own1
  have hxx : Ext v.ownBlock.toList w w' := ext_grownF h3 fun k hk => .inl (by simpa using hk)
  have hup : Upd (own e i.size v xs) (own e i.size v' (xs ++ ys)) (pre ++ own e i.size v xs :: post) (pre ++ own e i.size v' (xs ++ ys) :: post) := by
    clear hs own1 hr1 hrow hr2 hrow'
    induction pre with
    | nil => exact .here
    | cons p pre ih => exact .there ih
  have hm2 := hs.mem.upd hup hxx own_nodup (fun k hk => ?_) rfl fun hc => ⟨_, by rw [List.length_append]; exact h2, repss_append (repss_carry hc _ _ _ hr1) (repss_carry hc _ _ _ hr2)⟩
  · refine ⟨v', w', _, _, ⟨v', rfl, rfl⟩, hxx, rfl, hm2.1, hm2.2, .inl ?_⟩
    simp [execOp, resolve, invoke, builtin, hs.plain hx, hsh, hrun, Result.andThen]
  · have hk' : v'.ownBlock = some k := by simpa [It.mids, ownPc] using hk
    rcases h4 with h4 | h4
    · exact .inl (by simp [It.mids, ownPc, ← h4, hk'])
    · rw [h4] at hk'; simp at hk'; exact .inr (by omega)
/-- The same, its row said otherwise. -/
theorem Eff.appendE (hT : TabOk P tab) {i : TI} (pre : Blks) {post : Blks} {zs : List (List Abs)} (hz : xs ++ ys = zs) (hu : P.underlying t = some (.slice e)) (hi : ti tab e = some i) (hpos : Nat.blt 0 i.size = true) (hsz : Nat.beq s i.size = true)
    (hx : look l x = some (.v v)) (hy : look l y = some (.sl s ys)) (hσ : σ = pre ++ own e s v xs :: post) (h1 : ∀ c ∈ ys, ones c = true) (hm : xs.length + ys.length ≤ maxLen) (hby : (xs.length + ys.length) * P.bytesOf e ≤ 140737488355328) :
    Eff P n W σ l v.ownBlock.toList ⟨d, .call { callee := .builtin .append, args := #[x, y], argTypes := #[t, t] }, ty, pos, aft, g⟩ fun r τ => ∃ u, r = .v u ∧ τ = pre ++ own e s u zs :: post := hz ▸ Eff.append hT pre hu hi hpos hsz hx hy hσ h1 hm hby
/-- The parts of a slice's literal, each an element. -/
def inOrder : Nat → List (Nat × Abs) → Bool
  | _, [] => true
  | i, (j, _) :: l => Nat.beq i j && inOrder (i + 1) l
def elems (s : Nat) : List (Nat × Abs) → Option (List (List Abs))
  | [] => some []
  | (_, y) :: l => match elems s l with
    | some xs => bif Nat.beq (cellsA y).length s then some (cellsA y :: xs) else none
    | none => none
theorem fill_elems {K : List Nat} {w : World} (s : Nat) : ∀ (vs : List (Nat × Abs)) (us : List (Nat × Value)) (i : Nat) (xs : List (List Abs)) (cv : List Value), vs.map (·.1) = us.map (·.1) → inOrder i vs = true → elems s vs = some xs → reps K w (vs.map (·.2)) (us.map (·.2)) → cv.length = (i + vs.length) * s →
    fillL (fun j => some (j * s, s)) cv us = some (cv.take (i * s) ++ us.flatMap fun p => cellsL p.2) ∧ repss K w s xs (us.flatMap fun p => cellsL p.2)
  | [], us, i, xs, cv, h1, _, h2, _, h4 => by
    simp [elems] at h2
    subst h2
    cases us with
    | nil => exact ⟨by rw [List.take_of_length_le (by simp at h4; omega)]; simp [fillL], rfl⟩
    | cons _ _ => simp at h1
  | (j, y) :: vs, us, i, xs, cv, h1, h0, h2, h3, h4 => by
    cases us with
    | nil => simp at h1
    | cons p us =>
      obtain ⟨i', u⟩ := p
      simp only [List.map_cons, List.cons.injEq] at h1
      obtain ⟨rfl, h1⟩ := h1
      obtain ⟨u', us', h5, h6, h7⟩ := h3
      simp only [List.map_cons, List.cons.injEq] at h5
      obtain ⟨rfl, rfl⟩ := h5
      simp only [inOrder, Bool.and_eq_true] at h0
      have hj := Nat.eq_of_beq_eq_true h0.1
      subst hj
      unfold elems at h2
      cases he : elems s vs with
      | none => simp [he] at h2
      | some xs' =>
        simp only [he] at h2
        cases hb : Nat.beq (cellsA y).length s with
        | false => rw [hb] at h2; simp at h2
        | true =>
          rw [hb] at h2
          simp only [cond_true, Option.some.injEq] at h2
          subst h2
          have hb := Nat.eq_of_beq_eq_true hb
          have hc := cellsA_rep h6
          have l1 : (cellsL u).length = (cellsA y).length := reps_length hc
          simp only [List.length_cons] at h4
          have e0 : (i + (vs.length + 1)) * s = i * s + s + vs.length * s := by rw [← Nat.add_assoc, Nat.succ_mul, Nat.add_mul]; omega
          have e1 : (i + 1) * s = i * s + s := Nat.succ_mul i s
          have e2 : (i + 1 + vs.length) * s = i * s + s + vs.length * s := by rw [Nat.add_mul, e1]
          have hle : i * s + s ≤ cv.length := by omega
          have hmin : min (i * s) cv.length = i * s := by omega
          have hmin2 : (List.take (i * s) cv).length = i * s := by rw [List.length_take]; exact hmin
          unfold fillL
          dsimp only
          have hbb : (Nat.beq (cellsL u).length s && Nat.ble (i * s + s) cv.length) = true := by
            rw [Bool.and_eq_true]
            exact ⟨by rw [l1, hb]; simp, Nat.ble_eq.symm ▸ hle⟩
          rw [hbb]
          simp only [cond_true]
          obtain ⟨h8, h9⟩ := fill_elems s vs us (i + 1) xs' (putAt cv (i * s) (cellsL u)) h1 h0.2 he h7 (by
            rw [putAt_eq _ _ _ (by omega), List.length_append, List.length_append, hmin2, List.length_drop]; omega)
          refine ⟨?_, _, _, rfl, l1.trans hb, hc, h9⟩
          have h10 : List.take ((i + 1) * s) (List.take (i * s) cv ++ cellsL u ++ List.drop (i * s + (cellsL u).length) cv) = List.take (i * s) cv ++ cellsL u := by
            rw [List.take_append_of_le_length (by rw [List.length_append, hmin2]; omega), List.take_of_length_le (by rw [List.length_append, hmin2]; omega)]
          rw [h8, putAt_eq _ _ _ (by omega), h10, List.flatMap_cons, ← List.append_assoc]
theorem build_core (hT : TabOk P tab) {i : TI} {len : Nat} {ps : List (Nat × Operand)} {vs : List (Nat × Abs)} (hu : P.underlying t = some (.slice e)) (hi : ti tab e = some i) (hps : evalParts l ps = some vs) (hin : inOrder 0 vs = true) (he : elems i.size vs = some xs) (hlen : Nat.beq vs.length len = true) (hsz : Nat.ble (len * i.size) 16777216 = true) (hpos : Nat.blt 0 i.size = true) {a : Act} {w : World} (hs : St n W σ l a w) :
    ∃ b w' L', Ext [] w w' ∧ w'.heap[b]? = some (row e L') ∧ w.heap.size ≤ b ∧ repss (mids σ ++ W.G) w i.size xs L' ∧ xs.length = len ∧ len ≤ maxLen ∧ (execOp a.eval ⟨d, .buildSlice t len ps.toArray, ty, pos, aft, g⟩).run P w = .ok (.value (.slice (some ⟨b, 0, none⟩) len len)) w' := by
  obtain ⟨h1, h2, h3⟩ := evalParts2 hs hps
  have hlen := Nat.eq_of_beq_eq_true hlen
  subst hlen
  have hsz' := Nat.le_of_ble_eq_true hsz
  have hpos : 0 < i.size := by simpa [Nat.blt_eq] using hpos
  have hxl : ∀ (vs : List (Nat × Abs)) (xs : List (List Abs)), elems i.size vs = some xs → xs.length = vs.length := by
    intro vs
    induction vs with
    | nil => intro xs h; simp [elems] at h; subst h; rfl
    | cons p vs ih =>
      obtain ⟨j, y⟩ := p
      intro xs h
      unfold elems at h
      cases he : elems i.size vs with
      | none => simp [he] at h
      | some xs' =>
        simp only [he] at h
        cases hb : Nat.beq (cellsA y).length i.size <;> rw [hb] at h <;> simp at h
        subst h
        simp [ih xs' he]
  generalize hLd : ((ps.map fun p => (p.1, a.eval p.2)).flatMap fun p => cellsL p.2) = L'
  have key : ∀ L0 : List Value, L0.length = vs.length * i.size → fillL (fun j => some (j * i.size, i.size)) L0 (ps.map fun p => (p.1, a.eval p.2)) = some L' := fun L0 hL0 => by
    have h8 := (fill_elems (K := mids σ ++ W.G) (w := w) i.size vs (ps.map fun p => (p.1, a.eval p.2)) 0 xs L0 (by rw [List.map_map]; exact h2) hin he (by rw [List.map_map]; exact h3) (by rw [Nat.zero_add]; exact hL0)).1
    rw [Nat.zero_mul, List.take_zero, List.nil_append, hLd] at h8
    exact h8
  have hr : repss (mids σ ++ W.G) w i.size xs L' := by
    have h8 := (fill_elems (K := mids σ ++ W.G) (w := w) i.size vs (ps.map fun p => (p.1, a.eval p.2)) 0 xs (List.replicate (vs.length * i.size) undef) (by rw [List.map_map]; exact h2) hin he (by rw [List.map_map]; exact h3) (by simp)).2
    rw [hLd] at h8
    exact h8
  obtain ⟨v', w', C', ⟨b, rfl, rfl⟩, hC', hrun⟩ := lift_eff (C := Proofs.Ytmkijjmbiiiicaa.Mem [(w, [])] [] []) hs (Proofs.Ytmkijjmbiiiicaa.Eff.buildSlice (P := P) (n := n) (S := [(w, [])]) (σ := []) (ρ := []) (d := d) (ty := ty) (pos := pos) (aft := aft) (g := g) hT hu hi h1 key hsz) (Proofs.Ytmkijjmbiiiicaa.Mem.start w)
  have hx0 : Ext [] w w' := hC'.ext (w, []) (by simp)
  have hb : w'.heap[b]? = some (row e L') := hC'.holds (by simp)
  have hbn : w.heap.size ≤ b := by
    have := hC'.out _ (List.mem_cons_self) b (by simp [Proofs.Ytmkijjmbiiiicaa.It.ids]) (w, []) (by simp)
    simpa using this
  have hml : vs.length ≤ maxLen := by unfold maxLen; have : vs.length ≤ vs.length * i.size := Nat.le_mul_of_pos_right _ hpos; omega
  rcases hrun with hrun | ⟨h0, _⟩
  · exact ⟨b, w', L', hx0, hb, hbn, hr, hxl vs xs he, hml, hrun⟩
  · cases h0
/-- A slice's literal, that is only read from then on. -/
theorem Eff.buildSl (hT : TabOk P tab) {i : TI} {len : Nat} {ps : List (Nat × Operand)} {vs : List (Nat × Abs)} (hu : P.underlying t = some (.slice e)) (hi : ti tab e = some i) (hps : evalParts l ps = some vs) (hin : inOrder 0 vs = true) (he : elems i.size vs = some xs) (hlen : Nat.beq vs.length len = true) (hsz : Nat.ble (len * i.size) 16777216 = true) (hpos : Nat.blt 0 i.size = true) :
    Eff P n W σ l [] ⟨d, .buildSlice t len ps.toArray, ty, pos, aft, g⟩ fun r τ => r = .sl i.size xs ∧ τ = σ := fun a w hs => by
  obtain ⟨b, w', L', hx0, hb, hbn, hr, hxl, hml, hrun⟩ := build_core (d := d) (ty := ty) (pos := pos) (aft := aft) (g := g) hT hu hi hps hin he hlen hsz hpos hs
  obtain ⟨hm, hc⟩ := hs.mem.same hx0
  refine ⟨_, w', _, _, ⟨rfl, rfl⟩, hx0, ⟨L', ⟨⟨_, len, by rw [hxl], by omega, hml, by simp⟩, fun hn => ⟨b, 0, len, len, rfl, fun hk => ?_, fun j u hj => by rw [Nat.zero_add, mem_cell hb]; exact hj⟩⟩, repss_carry hc _ _ _ hr⟩, hm, hc, .inl hrun⟩
  have := hs.mem.lt b hk
  omega
/-- A slice's literal, as a row of the call's own. -/
theorem Eff.buildOwn (hT : TabOk P tab) {i : TI} {len : Nat} {ps : List (Nat × Operand)} {vs : List (Nat × Abs)} (hu : P.underlying t = some (.slice e)) (hi : ti tab e = some i) (hps : evalParts l ps = some vs) (hin : inOrder 0 vs = true) (he : elems i.size vs = some xs) (hlen : Nat.beq vs.length len = true) (hsz : Nat.ble (len * i.size) 16777216 = true) (hpos : Nat.blt 0 i.size = true) :
    Eff P n W σ l [] ⟨d, .buildSlice t len ps.toArray, ty, pos, aft, g⟩ fun r τ => ∃ u, r = .v u ∧ τ = own e i.size u xs :: σ := fun a w hs => by
  obtain ⟨b, w', L', hx0, hb, hbn, hr, hxl, hml, hrun⟩ := build_core (d := d) (ty := ty) (pos := pos) (aft := aft) (g := g) hT hu hi hps hin he hlen hsz hpos hs
  have hll := repss_length hr
  obtain ⟨hm, hc⟩ := hs.mem.new (y := own e i.size (.slice (some ⟨b, 0, none⟩) len len) xs) hx0 own_nodup (by simpa [It.mids, ownPc, Value.ownBlock] using hbn) rfl fun hc => ⟨L', ⟨by rw [hll], .inr ⟨b, len, L'.toArray, by rw [hxl], Nat.zero_le _, hb, by omega, hml, by simp [hll, hxl], by rw [List.take_of_length_le (by simp [hll])]⟩⟩, repss_carry hc _ _ _ hr⟩
  exact ⟨_, w', _, _, ⟨_, rfl, rfl⟩, hx0, rfl, hm, hc, .inl hrun⟩
end
end Go.Proofs.Ytmkijjmbiiiicaa.A
/-
  The second engine: slices of rows, a call's begin and end, contracts of the first engine.
-/
set_option maxRecDepth 100000
set_option linter.unusedSimpArgs false
set_option linter.unusedVariables false
namespace Go.Proofs.Ytmkijjmbiiiicaa.A
open Go.RowKit

section
variable {K : List Nat} {w : World} {s : Nat}
theorem repss_drop {xs : List (List Abs)} {us : List Value} (h : repss K w s xs us) (q : Nat) (hq : q ≤ xs.length) : repss K w s (xs.drop q) (us.drop (q * s)) ∧ repss K w s (xs.take q) (us.take (q * s)) := by
  have h1 := h
  rw [← List.take_append_drop q xs] at h1
  obtain ⟨u1, u2, rfl, h2, h3⟩ := repss_split h1
  have hl : u1.length = q * s := by rw [repss_length h2, List.length_take, Nat.min_eq_left hq]
  rw [← hl]
  simp [h2, h3]
theorem IsRow.tailN {A : Option Addr} {m c q : Nat} {us : List Value} (h : IsRow K w (.slice A m c) m us) (hq : q ≤ m) (hl : us.length = m * s) : IsRow K w (.slice (if c = q then A else A.map (·.add (q * s))) (m - q) (c - q)) (m - q) (us.drop (q * s)) := by
  obtain ⟨A', c', hv, h1, h2, h3⟩ := h.shape
  simp at hv
  obtain ⟨rfl, rfl⟩ := hv
  refine ⟨⟨_, c - q, rfl, by omega, by omega, fun hA => ?_⟩, fun hn => ?_⟩
  · split at hA
    · have := h3 hA; omega
    · cases A with
      | none => have := h3 rfl; omega
      | some a => simp at hA
  · have hlt : q < m := by
      rcases Nat.lt_or_ge q m with h4 | h4
      · exact h4
      · have : q = m := by omega
        subst this
        exact absurd (List.drop_eq_nil_of_le (by omega)) hn
    obtain ⟨b, off, n', c2, hv, hb, hc⟩ := h.cells (by rintro rfl; simp at hn)
    simp at hv
    obtain ⟨rfl, rfl, rfl⟩ := hv
    refine ⟨b, off + q * s, m - q, c - q, by rw [if_neg (by omega)]; simp [Addr.add_none], hb, fun j u hu => ?_⟩
    rw [List.getElem?_drop] at hu
    rw [Nat.add_assoc]; exact hc _ u hu
theorem IsRow.headN {A : Option Addr} {m c q : Nat} {us : List Value} (h : IsRow K w (.slice A m c) m us) (hq : q ≤ m) (k : Nat) (hk : q ≤ k) (hkc : k ≤ c) (hkA : A = none → k = 0) : IsRow K w (.slice A q k) q (us.take (q * s)) := by
  obtain ⟨A', c', hv, h1, h2, h3⟩ := h.shape
  simp at hv
  obtain ⟨rfl, rfl⟩ := hv
  refine ⟨⟨_, k, rfl, hk, by omega, hkA⟩, fun hn => ?_⟩
  obtain ⟨b, off, n', c2, hv, hb, hc⟩ := h.cells (by rintro rfl; simp at hn)
  simp at hv
  obtain ⟨rfl, rfl, rfl⟩ := hv
  refine ⟨b, off, q, k, rfl, hb, fun j u hu => ?_⟩
  rw [List.getElem?_take] at hu
  split at hu
  · exact hc j u hu
  · cases hu
end
section
variable {P : Program} {n : Nat} {W : Wd} {σ τ : Blks} {l : Slots} {X : List Nat} {x y z : Operand} {d : Option Nat} {ty t t' e : TypeId} {pos : String} {aft : Array Edge} {g : Option (Nat × Bool)} {v u : Value} {k k' : IntKind} {a b r : Int} {o : Oper} {A B : Abs} {tab : List (Nat × TI)} {xs ys : List (List Abs)} {s q : Nat} {fn : Func}
/-- 's[q:]' -/
theorem Val.sliceLo (hT : TabOk P tab) {i : TI} (hu : P.underlying t = some (.slice e)) (hi : ti tab e = some i) (hsz : Nat.beq s i.size = true) (hx : look l x = some (.sl s xs)) (hy : look l y = some (.v (.int k r))) (hr : r = (q : Nat)) (hq : q ≤ xs.length) :
    Val P n W σ l X ⟨d, .slice t x (some y) none none, ty, pos, aft, g⟩ (.sl s (xs.drop q)) := fun a w hs _ => by
  subst hr
  have hsz := Nat.eq_of_beq_eq_true hsz
  subst hsz
  obtain ⟨us, h1, h2⟩ := hs.eval hx
  obtain ⟨A', c, hsh, h3, h4, h5⟩ := h1.shape
  rw [hsh] at h1
  have h6 := IsRow.tailN h1 hq (repss_length h2)
  refine ⟨_, ⟨_, by rw [List.length_drop]; exact h6, (repss_drop h2 q hq).1⟩, fun w' _ => ?_⟩
  have h7 := (hT _ _ hi).sizeOf (w := w')
  simp [execOp, Instr.sliceAt, Instr.slice, Instr.sliceBounds, Instr.sliceBound, asIntOf, hsh, hs.plain hy, run_underlying hu, Sem.run_bind, Result.andThen, h7, hq]
/-- 's[:q]' -/
theorem Val.sliceHi (hT : TabOk P tab) {i : TI} (hu : P.underlying t = some (.slice e)) (hi : ti tab e = some i) (hsz : Nat.beq s i.size = true) (hx : look l x = some (.sl s xs)) (hy : look l y = some (.v (.int k r))) (hr : r = (q : Nat)) (hq : q ≤ xs.length) :
    Val P n W σ l X ⟨d, .slice t x none (some y) none, ty, pos, aft, g⟩ (.sl s (xs.take q)) := fun a w hs _ => by
  subst hr
  have hsz := Nat.eq_of_beq_eq_true hsz
  subst hsz
  obtain ⟨us, h1, h2⟩ := hs.eval hx
  obtain ⟨A', c, hsh, h3, h4, h5⟩ := h1.shape
  rw [hsh] at h1
  have h6 := IsRow.headN (s := i.size) h1 hq c (by omega) (Nat.le_refl _) h5
  refine ⟨.slice A' q c, ⟨_, by rw [List.length_take, Nat.min_eq_left hq]; exact h6, (repss_drop h2 q hq).2⟩, fun w' _ => ?_⟩
  have h7 := (hT _ _ hi).sizeOf (w := w')
  have hA : (if (c : Int) = 0 then A' else A'.map (·.add (0 * i.size))) = A' := by
    cases A' <;> simp [Addr.add]
  have hqc : q ≤ c := by omega
  have hA2 : (if c = 0 then A' else A'.map fun x => x.add 0) = A' := by cases A' <;> simp [Addr.add]
  simp [execOp, Instr.sliceAt, Instr.slice, Instr.sliceBounds, Instr.sliceBound, asIntOf, hsh, hs.plain hy, run_underlying hu, Sem.run_bind, Result.andThen, h7, hqc, Addr.add]
  try (cases A' <;> simp)

/-! ### A call's begin and end -/
def args0 : List Abs → Nat → Slots
  | [], _ => []
  | v :: vs, i => (i, v) :: args0 vs (i + 1)
theorem slot_args0 : ∀ (vs : List Abs) (i t : Nat) (v : Abs), slot (args0 vs i) t = some v → i ≤ t ∧ vs[t - i]? = some v
  | [], i, t, v, h => by simp [args0, slot] at h
  | u :: vs, i, t, v, h => by
    unfold args0 slot at h
    by_cases hit : i = t
    · subst hit
      simp at h
      subst h
      simp
    · rw [beq_ne hit] at h
      obtain ⟨h1, h2⟩ := slot_args0 vs (i + 1) t v h
      refine ⟨by omega, ?_⟩
      rw [show t - i = (t - (i + 1)) + 1 by omega]
      simpa using h2
section
variable {ι : Type} {τ' : ι → Blks} {res : ι → Abs} {args : List Abs}
/-- What a contract's end says. -/
def Post (G : List Nat) (σ : Blks) (τ' : ι → Blks) (res : ι → Abs) (w : World) (e : Ending) (w' : World) : Prop :=
  ∃ z r, e = .returned r ∧ (∀ x ∈ τ' z, x.rids = []) ∧ Mem w (mids σ) G (τ' z) w' ∧ rep (mids (τ' z) ++ G) w' (res z) r
/-- A call is its body, from its arguments on. -/
theorem spec_of {f : FuncId} {c : Code} (hf : P.funcs[f]? = some fn) (hb : fn.body = some c) (hn : fn.ntmps = n) (hle : Nat.ble args.length n = true)
    (h : ∀ G w, SC P c (St n ⟨w, mids σ, G⟩ σ (args0 args 0)) (bodyPost P fn (Post G σ τ' res w))) : Spec P f args σ τ' res := fun G w vals hm hv => by
  have hlen := reps_length hv
  refine calls_of vals hf hb hn (by rw [hlen]; exact hle) (fun w1 => w1 = w) rfl fun a w1 hfr hw => ?_
  subst hw
  refine h G w1 a w1 ⟨hfr.defers, hfr.size, fun t x hx => ?_, hm⟩
  have h1 := (slot_args0 args 0 t x hx).2
  rw [Nat.sub_zero] at h1
  obtain ⟨u, h2, h3⟩ := reps_get hv h1
  refine ⟨u, hfr.at_ t u ?_, h3⟩
  have h4 := slot_full vals 0 t u h2
  rw [Nat.zero_add] at h4
  exact h4
/-- What the results are. -/
inductive RV (P : Program) (n : Nat) (W : Wd) (σ : Blks) (l : Slots) : List ResultVar → List Abs → Prop
  | nil : RV P n W σ l [] []
  | tmp {t : Nat} {v : Abs} {rs : List ResultVar} {vs : List Abs} (h : slot l t = some v) (k : RV P n W σ l rs vs) : RV P n W σ l (.tmp t :: rs) (v :: vs)
  | cell {p ty b : Nat} {v : Abs} {rs : List ResultVar} {vs : List Abs} (h : slot l p = some (.v (.pointer (some ⟨b, 0, none⟩)))) (hv : ∀ a w, St n W σ l a w → ∃ u, rep (mids σ ++ W.G) w v u ∧ (loadVar ty ⟨b, 0, none⟩).run P w = .ok u w) (k : RV P n W σ l rs vs) : RV P n W σ l (.cell p ty :: rs) (v :: vs)
theorem RV.run {rs : List ResultVar} {vs : List Abs} (h : RV P n W σ l rs vs) {a : Act} {w : World} (hs : St n W σ l a w) : ∃ us, reps (mids σ ++ W.G) w vs us ∧ (rs.mapM (resV a.tmps)).run P w = .ok us w := by
  induction h with
  | nil => exact ⟨[], rfl, rfl⟩
  | @tmp t v rs vs h _ ih =>
    obtain ⟨us, h3, h4⟩ := ih
    obtain ⟨u, h1, h2⟩ := hs.slots t v h
    have h5 : (resV a.tmps (.tmp t)).run P w = .ok u w := by simp [resV, h1]
    exact ⟨u :: us, ⟨u, us, rfl, h2, h3⟩, by simp only [List.mapM_cons, Sem.run_bind, h5, Result.andThen_ok, h4, Sem.run_pure]⟩
  | @cell q ty b v rs vs h hv _ ih =>
    obtain ⟨us, h3, h4⟩ := ih
    obtain ⟨u, h1, h2⟩ := hv a w hs
    obtain ⟨p, h6, h7⟩ := hs.slots q _ h
    have h8 : p = .pointer (some ⟨b, 0, none⟩) := h7
    subst h8
    have h5 : (resV a.tmps (.cell q ty)).run P w = .ok u w := by simp [resV, h6, asAddr]; exact h2
    exact ⟨u :: us, ⟨u, us, rfl, h1, h3⟩, by simp only [List.mapM_cons, Sem.run_bind, h5, Result.andThen_ok, h4, Sem.run_pure]⟩
theorem RV.cellA (hT : TabOk P tab) {i : TI} {b : Nat} {cs : List Abs} (ht : ti tab t = some i) (hk : (match i.k with | .one => false | _ => true) = true) (hb : isBlk σ b t' cs) (hl : cs.length = i.size) : ∀ a w, St n W σ l a w → ∃ u, rep (mids σ ++ W.G) w (.agg cs) u ∧ (loadVar t ⟨b, 0, none⟩).run P w = .ok u w := fun a w hs => by
  obtain ⟨us, h1, h2⟩ := hs.mem.blk hb
  exact ⟨_, ⟨us, rfl, h2⟩, run_loadAgg hT ht hk (by rw [reps_length h2]; exact hl) fun j u hu => by rw [Nat.zero_add, mem_cell h1]; exact hu⟩
def retA : List Abs → Abs
  | [v] => v
  | vs => .tup vs
theorem ret_rep {K : List Nat} {w : World} : ∀ {vs : List Abs} {us : List Value}, reps K w vs us → rep K w (retA vs) (retOf us)
  | [], us, h => by have : us = [] := h; subst this; exact ⟨[], rfl, rfl⟩
  | [v], us, ⟨u, us', h1, h2, h3⟩ => by have : us' = [] := h3; subst this h1; exact h2
  | v :: v2 :: vs, us, h => by
    obtain ⟨u, us', h1, h2, u2, us2, h3, h4, h5⟩ := id h
    subst h1 h3
    exact ⟨_, rfl, h⟩
theorem RV.results {rs : List ResultVar} {vs : List Abs} (hr : fn.results = rs.toArray) (h : RV P n W σ l rs vs) {a : Act} {w : World} (hs : St n W σ l a w) : ∃ us, reps (mids σ ++ W.G) w vs us ∧ (results fn a.tmps).run P w = .ok (retOf us) w := by
  obtain ⟨us, h1, h2⟩ := h.run hs
  refine ⟨us, h1, ?_⟩
  rw [results_eq, hr, Array.mapM_eq_mapM_toList, Sem.run_bind, Sem.run_map]
  dsimp only
  rw [h2]
  match us with
  | [] => rfl
  | [v] => rfl
  | v :: u :: vs => simp [retOf, Result.andThen]
theorem SE.retG {R : Ending → World → Prop} {rs : List ResultVar} {vs : List Abs} (hr : fn.results = rs.toArray) (h : RV P n W σ l rs vs) (k : ∀ a w us, St n W σ l a w → reps (mids σ ++ W.G) w vs us → R (.returned (retOf us)) w) : SE .ret (St n W σ l) (bodyPost P fn R) := fun a w hs => by
  obtain ⟨us, h1, h2⟩ := h.results hr hs
  exact ⟨hs.defers, _, h2, k a w us hs h1⟩
theorem SE.doneG {R : Ending → World → Prop} {rs : List ResultVar} {vs : List Abs} (hr : fn.results = rs.toArray) (h : RV P n W σ l rs vs) (k : ∀ a w us, St n W σ l a w → reps (mids σ ++ W.G) w vs us → R (.returned (retOf us)) w) : SE .normal (St n W σ l) (bodyPost P fn R) := fun a w hs => by
  obtain ⟨us, h1, h2⟩ := h.results hr hs
  exact ⟨hs.defers, _, h2, k a w us hs h1⟩
theorem post_of {G : List Nat} {w0 : World} {σ0 : Blks} {vs : List Abs} (z : ι) (hsub : (τ' z).Sublist σ) (hro : ∀ x ∈ τ' z, x.rids = []) (hres : retA vs = res z) {a : Act} {w : World} {us : List Value} (hs : St n ⟨w0, mids σ0, G⟩ σ l a w) (hv : reps (mids σ ++ G) w vs us) : Post G σ0 τ' res w0 (.returned (retOf us)) w := by
  obtain ⟨h1, h2⟩ := hs.mem.sub hsub
  exact ⟨z, _, rfl, hro, h1, hres ▸ ret_rep (reps_carry h2 _ _ hv)⟩
/-- The end of a contract: z tells which pieces and which value come of it. -/
theorem SE.fin {G : List Nat} {w0 : World} {σ0 : Blks} {rs : List ResultVar} {vs : List Abs} (hr : fn.results = rs.toArray) (h : RV P n ⟨w0, mids σ0, G⟩ σ l rs vs) (z : ι) (hsub : (τ' z).Sublist σ) (hro : ∀ x ∈ τ' z, x.rids = []) (hres : retA vs = res z) : SE .ret (St n ⟨w0, mids σ0, G⟩ σ l) (bodyPost P fn (Post G σ0 τ' res w0)) :=
  SE.retG hr h fun _ _ _ hs hv => post_of z hsub hro hres hs hv
/-- The same, the results said otherwise. -/
theorem SE.finC {G : List Nat} {w0 : World} {σ0 : Blks} {rs : List ResultVar} {vs vs2 : List Abs} (hr : fn.results = rs.toArray) (h : RV P n ⟨w0, mids σ0, G⟩ σ l rs vs) (hca : Casts vs vs2) (z : ι) (hsub : (τ' z).Sublist σ) (hro : ∀ x ∈ τ' z, x.rids = []) (hres : retA vs2 = res z) : SE .ret (St n ⟨w0, mids σ0, G⟩ σ l) (bodyPost P fn (Post G σ0 τ' res w0)) :=
  SE.retG hr h fun _ _ _ hs hv => post_of z hsub hro hres hs (hca _ _ _ hv)
theorem cast_agg {cs ds : List Abs} (h : Casts cs ds) : ∀ K w u, rep K w (.agg cs) u → rep K w (.agg ds) u := fun K w _ ⟨us, h1, h2⟩ => ⟨us, h1, h K w us h2⟩
theorem Casts.nils {s : Nat} {xs ys : List Abs} (k : Casts xs ys) : Casts (.v (.slice none 0 0) :: xs) (.sl s [] :: ys) := k.cons fun _ _ _ h => rep_nil h
theorem SE.finN {G : List Nat} {w0 : World} {σ0 : Blks} {rs : List ResultVar} {vs : List Abs} (hr : fn.results = rs.toArray) (h : RV P n ⟨w0, mids σ0, G⟩ σ l rs vs) (z : ι) (hsub : (τ' z).Sublist σ) (hro : ∀ x ∈ τ' z, x.rids = []) (hres : retA vs = res z) : SE .normal (St n ⟨w0, mids σ0, G⟩ σ l) (bodyPost P fn (Post G σ0 τ' res w0)) :=
  SE.doneG hr h fun _ _ _ hs hv => post_of z hsub hro hres hs hv
end

/-! ### Contracts of the first engine -/
/-- The blocks of K in the world w, as they were, as a piece of the first engine. -/
def old2 (w : World) (K : List Nat) : Proofs.Ytmkijjmbiiiicaa.It := .pc
  { ids := (List.range w.heap.size).filter fun k => decide (k ∈ K)
    p := fun w' => w.heap.size ≤ w'.heap.size ∧ ∀ k, k < w.heap.size → k ∈ K → w'.heap[k]? = w.heap[k]?
    st := fun F w1 w2 hx hF h => ⟨Nat.le_trans h.1 hx.size, fun k hk hm => (hx.block k (Nat.lt_of_lt_of_le hk h.1) (hF k (by simp [hk, hm]))).trans (h.2 k hk hm)⟩
    lt := fun w' h k hk => by
      have : k < w.heap.size := by have := (List.mem_filter.1 hk).1; simpa using this
      exact Nat.lt_of_lt_of_le this h.1 }
theorem old2_ids {w : World} {K : List Nat} {k : Nat} : k ∈ (old2 w K).ids ↔ k < w.heap.size ∧ k ∈ K := by simp [old2, Proofs.Ytmkijjmbiiiicaa.It.ids]
theorem enter2 (w : World) (K : List Nat) : Proofs.Ytmkijjmbiiiicaa.Mem [(w, K)] [old2 w K] [] w := by
  refine ⟨fun s hs => ?_, fun x hx k hk s hs => ?_, ?_, fun x hx => ?_, by simp⟩
  · rw [List.mem_singleton] at hs; subst hs; exact Ext.refl w
  · rw [List.mem_singleton] at hs hx; subst hs hx; exact .inl (old2_ids.1 hk).2
  · simp only [List.flatMap_cons, List.flatMap_nil, List.append_nil]
    exact List.Nodup.sublist List.filter_sublist List.nodup_range
  · rw [List.mem_singleton] at hx; subst hx; exact ⟨Nat.le_refl _, fun _ _ _ => rfl⟩
theorem leave2 {w w' : World} {K : List Nat} {ρ : List Dt} {σ2 : Proofs.Ytmkijjmbiiiicaa.Blks} (h : Proofs.Ytmkijjmbiiiicaa.Mem [(w, K)] σ2 ρ w') (hm : old2 w K ∈ σ2) : Ext [] w w' := by
  have h1 := h.ext (w, K) (by simp)
  have h2 : _ ∧ _ := h.hold _ hm
  exact ⟨h1.os, h1.tape, h1.output, h1.size, fun k hk _ => by
    by_cases hK : k ∈ K
    · exact h2.2 k hk hK
    · exact h1.block k hk hK⟩
theorem row2 {w : World} {K : List Nat} {v : Value} {n : Nat} {cs : List Value} (h : IsRow K w v n cs) : IsRow ([old2 w K].flatMap Proofs.Ytmkijjmbiiiicaa.It.ids) w v n cs :=
  h.grow fun k hk => .inl (by
    simp only [List.flatMap_cons, List.flatMap_nil, List.append_nil] at hk
    exact (old2_ids.1 hk).2)
theorem row3 {w w' : World} {K L : List Nat} {v : Value} {n : Nat} {cs : List Value} (hK : ∀ k ∈ K, k < w.heap.size) (hL : ∀ k, k < w.heap.size → k ∈ K → k ∈ L) (h : IsRow L w' v n cs) : IsRow K w' v n cs :=
  h.grow fun k hk => .inl (hL k (hK k hk) hk)
theorem Pure.of2 {f : FuncId} {args : List Abs} {res : Abs} (h : ∀ (K : List Nat) (w : World) (vals : List Value), (∀ k ∈ K, k < w.heap.size) → reps K w args vals → Calls P f vals.toArray w fun e w' => ∃ r, e = .returned r ∧ Ext [] w w' ∧ rep K w' res r) : Pure P f args res := fun G w vals hm hv =>
  (h G w vals hm.old hv).mono fun e w' ⟨r, he, hx, hr⟩ => ⟨(), r, he, by simp, ⟨hx, by simp [mids], by simp [mids], fun k hk => Nat.lt_of_lt_of_le (hm.old k hk) hx.size, by simp, by simp [mids], by simp⟩, hr⟩
end
end Go.Proofs.Ytmkijjmbiiiicaa.A
/-
  Readers, in plain Lean: what is read turns on the bytes alone.
-/
set_option maxRecDepth 100000
namespace Go.Proofs.Ytmkijjmbiiiicaa
open Go.RowKit

/-- Two readers of the same bytes. -/
def Rd.as (s t : Rd) : Prop := s.l = t.l ∧ s.e = t.e
section
variable {s t : Rd}
theorem Rd.as.bad (h : s.as t) (n : Int) : s.bad n ↔ t.bad n := by unfold Rd.bad; rw [h.1]
theorem Rd.as.fixed (h : s.as t) (n : Int) : (s.fixed n).as (t.fixed n) := by
  unfold Rd.fixed Rd.as
  by_cases he : t.e = 0
  · have he' : s.e = 0 := by rw [h.2, he]
    by_cases hb : t.bad n
    · simp [he, he', hb, (h.bad n).2 hb, h.1]
    · have hb' : ¬ s.bad n := fun x => hb ((h.bad n).1 x)
      simp [he, he', hb, hb', h.1]
  · have he' : s.e ≠ 0 := by rw [h.2]; exact he
    simp [he, h.1, h.2]
theorem Rd.as.out (h : s.as t) (n : Int) : s.out n = t.out n := by
  unfold Rd.out
  rw [h.1, h.2]
  by_cases hb : t.bad n
  · simp [hb, (h.bad n).2 hb]
  · have hb' : ¬ s.bad n := fun x => hb ((h.bad n).1 x)
    simp [hb, hb']
theorem Rd.as.num (h : s.as t) (n : Int) : s.num n = t.num n := by unfold Rd.num; rw [h.out]
theorem Rd.as.row (h : s.as t) (most : Int) : (s.row most).as (t.row most) := by
  have h1 := h.fixed 4
  unfold Rd.row
  rw [h1.2, h.num 4]
  split
  · exact h1
  · split
    · exact ⟨h1.1, rfl⟩
    · exact h1.fixed _
theorem Rd.as.end_ (h : s.as t) : s.end_ = t.end_ := by unfold Rd.end_; rw [h.1, h.2]
end
def Rd.of (l : List UInt8) : Rd := ⟨.slice none 0 0, l, 0⟩
section
variable {P : Program} {n : Nat} {l : Slots} {D : World → Prop} {x y : Operand} {d : Option Nat} {ty t t' : TypeId} {pos : String} {aft : Array Edge} {g : Option (Nat × Bool)}
end
end Go.Proofs.Ytmkijjmbiiiicaa
/-
  The second engine: the contracts of octets, as they stand.
-/
set_option maxRecDepth 100000
set_option linter.unusedSimpArgs false
set_option linter.unusedVariables false
namespace Go.Proofs.Ytmkijjmbiiiicaa.A
open Go.RowKit

abbrev int (x : Int) : Abs := .v (.int .i64 x)
abbrev wrd (x : Nat) : Abs := .v (.int .u64 (x : Nat))
abbrev boo (b : Bool) : Abs := .v (.bool b)
abbrev ptr (b : Nat) : Abs := .v (.pointer (some ⟨b, 0, none⟩))
/-- A reader in a block. -/
abbrev rdA (T : TypeId) (p : Nat) (s : Rd) : It := .blk p T [byt s.l, int s.e]
section
variable {P : Program} {f : FuncId}
theorem reps_plain {K : List Nat} {w : World} : ∀ {us vs : List Value}, reps K w (us.map .v) vs ↔ vs = us
  | [], vs => Iff.rfl
  | u :: us, vs => by
    constructor
    · rintro ⟨u', us', h1, h2, h3⟩
      have h2 : u' = u := h2
      rw [h1, h2, reps_plain.1 h3]
    · rintro rfl; exact ⟨u, us, rfl, rfl, reps_plain.2 rfl⟩
/-- A function of readers, in general: what it answers turns on rows that are read. -/
theorem Spec.ofRdG {T p : Nat} {s t : Rd} {vals : List Value} {res : Abs} (h : ∀ (S : List (World × List Nat)) (σ2 : Proofs.Ytmkijjmbiiiicaa.Blks) (ρ : List Dt) (w : World) (v : Value), Proofs.Ytmkijjmbiiiicaa.Mem S (rdI T p ⟨v, s.l, s.e⟩ :: σ2) ρ w → bytesD v s.l ∈ ρ →
    Calls P f vals.toArray w fun e w' => ∃ r v' ρ', e = .returned r ∧ Proofs.Ytmkijjmbiiiicaa.Mem S (rdI T p ⟨v', t.l, t.e⟩ :: σ2) ρ' w' ∧ bytesD v' t.l ∈ ρ' ∧ ∀ K', (∀ x n cs, rowD x n cs ∈ ρ' → IsRow K' w' x n cs) → rep K' w' res r) : Spec P f (vals.map .v) [rdA T p s] (fun _ : Unit => [rdA T p t]) (fun _ => res) := fun G w vs hm hv => by
  have := reps_plain.1 hv
  subst this
  obtain ⟨us, hb, v, us', h1, h2, e, us2, h3, h4, h5⟩ := hm.hold (rdA T p s) (by simp)
  have h4 : e = .int .i64 s.e := h4
  have h5 : us2 = [] := h5
  subst h5 h4 h3 h1
  have h2 := rep_byt.1 h2
  have hpG : p ∉ G := hm.sep p (by simp [mids, It.mids])
  have hw2 : Proofs.Ytmkijjmbiiiicaa.Mem [(w, p :: G)] (rdI T p ⟨v, s.l, s.e⟩ :: [old2 w G]) [bytesD v s.l] w := by
    refine ⟨fun s hs => ?_, fun x hx k hk s hs => ?_, ?_, fun x hx => ?_, fun z hz => ?_⟩
    · rw [List.mem_singleton] at hs; subst hs; exact Ext.refl w
    · rw [List.mem_singleton] at hs
      subst hs
      rcases List.mem_cons.1 hx with rfl | hx
      · simp only [Proofs.Ytmkijjmbiiiicaa.It.ids, List.mem_singleton] at hk; exact .inl (by simp [hk])
      · rw [List.mem_singleton] at hx; subst hx
        exact .inl (List.mem_cons_of_mem _ (old2_ids.1 hk).2)
    · simp only [List.flatMap_cons, List.flatMap_nil, List.append_nil, List.nodup_append]
      refine ⟨by simp [Proofs.Ytmkijjmbiiiicaa.It.ids], List.Nodup.sublist List.filter_sublist List.nodup_range, fun a ha b hb he => ?_⟩
      simp only [Proofs.Ytmkijjmbiiiicaa.It.ids, List.mem_singleton] at ha
      subst ha he
      exact hpG (old2_ids.1 hb).2
    · rcases List.mem_cons.1 hx with rfl | hx
      · exact hb
      · rw [List.mem_singleton] at hx; subst hx; exact ⟨Nat.le_refl _, fun _ _ _ => rfl⟩
    · rw [List.mem_singleton] at hz; subst hz
      refine h2.grow fun k hk => .inl ?_
      simp only [List.flatMap_cons, List.flatMap_nil, List.append_nil, List.mem_append] at hk
      rcases hk with hk | hk
      · simp only [Proofs.Ytmkijjmbiiiicaa.It.ids, List.mem_singleton] at hk
        simp [mids, It.mids, hk]
      · simp [(old2_ids.1 hk).2]
  refine (h _ _ _ _ v hw2 (by simp)).mono fun e w' ⟨r, v', ρ', he, hm', hd, hd2⟩ => ?_
  have hx := hm'.ext (w, p :: G) (by simp)
  have ho : _ ∧ _ := hm'.hold (old2 w G) (by simp)
  have hx2 : Ext (mids [rdA T p s]) w w' := ⟨hx.os, hx.tape, hx.output, hx.size, fun k hk hn => by
    by_cases hK : k ∈ G
    · exact ho.2 k hk hK
    · exact hx.block k hk (by simp only [List.mem_cons, not_or]; exact ⟨by simpa [mids, It.mids] using hn, hK⟩)⟩
  have hb' : w'.heap[p]? = some (row T [v', .int .i64 t.e]) := hm'.holds (by simp)
  have hgrow : ∀ (x : Value) (m : Nat) (cs : List Value), rowD x m cs ∈ ρ' → IsRow (mids [rdA T p t] ++ G) w' x m cs := fun _ _ _ hd => (hm'.data hd).grow fun k hk => by
    simp only [List.mem_append] at hk
    refine .inl ?_
    simp only [List.flatMap_cons, List.flatMap_nil, List.append_nil, List.mem_append]
    rcases hk with hk | hk
    · exact .inl (by simpa [mids, It.mids, Proofs.Ytmkijjmbiiiicaa.It.ids] using hk)
    · exact .inr (old2_ids.2 ⟨hm.old k hk, hk⟩)
  refine ⟨(), r, he, by simp [It.rids], ⟨hx2, fun k hk => .inl hk, fun k hk hg => hpG (by simp [mids, It.mids] at hk; subst hk; exact hg), fun k hk => Nat.lt_of_lt_of_le (hm.old k hk) hx.size, by simp [It.rids], by simp [mids, It.mids], fun x hx => ?_⟩, hd2 _ hgrow⟩
  rw [List.mem_singleton] at hx; subst hx
  exact ⟨_, hb', _, _, rfl, rep_byt.2 (hgrow _ _ _ hd), _, _, rfl, rfl, rfl⟩
/-- A function of readers that answers a plain value. -/
theorem Spec.ofRd {T p : Nat} {s t : Rd} {vals : List Value} {u : Value} (h : ∀ (S : List (World × List Nat)) (σ2 : Proofs.Ytmkijjmbiiiicaa.Blks) (ρ : List Dt) (w : World) (v : Value), Proofs.Ytmkijjmbiiiicaa.Mem S (rdI T p ⟨v, s.l, s.e⟩ :: σ2) ρ w → bytesD v s.l ∈ ρ →
    Calls P f vals.toArray w fun e w' => ∃ v' ρ', e = .returned u ∧ Proofs.Ytmkijjmbiiiicaa.Mem S (rdI T p ⟨v', t.l, t.e⟩ :: σ2) ρ' w' ∧ bytesD v' t.l ∈ ρ') : Spec P f (vals.map .v) [rdA T p s] (fun _ : Unit => [rdA T p t]) (fun _ => .v u) :=
  Spec.ofRdG fun S σ2 ρ w v hw hd => (h S σ2 ρ w v hw hd).mono fun _ _ ⟨v', ρ', h1, h2, h3⟩ => ⟨u, v', ρ', h1, h2, h3, fun _ _ => rfl⟩
/-- A pure function of bytes. -/
theorem Pure.ofB {l out : List UInt8} {rest : List Value} (h : ∀ (S : List (World × List Nat)) (σ2 : Proofs.Ytmkijjmbiiiicaa.Blks) (ρ : List Dt) (w : World) (v : Value), Proofs.Ytmkijjmbiiiicaa.Mem S σ2 ρ w → bytesD v l ∈ ρ →
    Calls P f (v :: rest).toArray w fun e w' => ∃ r ρ', e = .returned r ∧ Proofs.Ytmkijjmbiiiicaa.Mem S σ2 ρ' w' ∧ bytesD r out ∈ ρ') : Pure P f (byt l :: rest.map .v) (byt out) := Pure.of2 fun K w vals hK hv => by
  obtain ⟨v, us', rfl, h1, h2⟩ := hv
  have := reps_plain.1 h2
  subst this
  refine (h _ _ _ _ v ((enter2 w K).add (z := bytesD v l) (row2 (rep_byt.1 h1))) (by simp)).mono fun e w' ⟨r, ρ', he, hm, hd⟩ => ⟨r, he, leave2 hm (by simp), rep_byt.2 (row3 hK ?_ (hm.data hd))⟩
  intro k hk hkK
  simp only [List.flatMap_cons, List.flatMap_nil, List.append_nil]
  exact old2_ids.2 ⟨hk, hkK⟩
theorem Pure.ofBB {l m out : List UInt8} (h : ∀ (S : List (World × List Nat)) (σ2 : Proofs.Ytmkijjmbiiiicaa.Blks) (ρ : List Dt) (w : World) (v r : Value), Proofs.Ytmkijjmbiiiicaa.Mem S σ2 ρ w → bytesD v l ∈ ρ → bytesD r m ∈ ρ →
    Calls P f #[v, r] w fun e w' => ∃ r ρ', e = .returned r ∧ Proofs.Ytmkijjmbiiiicaa.Mem S σ2 ρ' w' ∧ bytesD r out ∈ ρ') : Pure P f [byt l, byt m] (byt out) := Pure.of2 fun K w vals hK hv => by
  obtain ⟨v, us', rfl, h1, r, us2, rfl, h2, h3⟩ := hv
  have h3 : us2 = [] := h3
  subst h3
  refine (h _ _ _ _ v r (((enter2 w K).add (z := bytesD v l) (row2 (rep_byt.1 h1))).add (z := bytesD r m) (row2 (rep_byt.1 h2))) (by simp) (by simp)).mono fun e w' ⟨r, ρ', he, hm, hd⟩ => ⟨r, he, leave2 hm (by simp), rep_byt.2 (row3 hK ?_ (hm.data hd))⟩
  intro k hk hkK
  simp only [List.flatMap_cons, List.flatMap_nil, List.append_nil]
  exact old2_ids.2 ⟨hk, hkK⟩
end
section
variable {l m : List UInt8} {p : Nat} {s : Rd}
theorem put_s {x : Nat} {n : Int} (hl : l.length ≤ lots) (hx : x < 18446744073709551616) (hn : sizeB n = true) : Pure Try.prog 42 [byt l, wrd x, int n] (byt (l ++ beBytes x n.toNat)) :=
  Pure.ofB (rest := [_, _]) fun _ _ _ _ _ hw hd => (put_c hw (hw.bytes hd) hl hx hn).mono fun _ _ ⟨r, h1, h2⟩ => ⟨r, _, h1, h2, by simp⟩
theorem rput_s {x n : Nat} (hl : l.length + 8 ≤ lots) (hn : sizeB n = true) : Pure Try.prog 54 [byt l, wrd x, int n] (byt (l ++ beBytes x n)) :=
  Pure.ofB (rest := [_, _]) fun _ _ _ _ _ hw hd => (rput_c hw hd hl hn).mono fun _ _ ⟨r, h1, h2⟩ => ⟨r, _, h1, h2, by simp⟩
theorem row_s (hl : l.length + m.length + 4 ≤ lots) (hm : m.length < 4294967296) : Pure Try.prog 43 [byt l, byt m] (byt (l ++ beBytes m.length 4 ++ m)) :=
  Pure.ofBB fun _ _ _ _ _ _ hw hd hd2 => (oct_Row hw hd hd2 hl hm).mono fun _ _ ⟨r, h1, h2⟩ => ⟨r, _, h1, h2, by simp⟩
theorem rrow_s (hl : l.length + m.length + 8 ≤ lots) (hm : m.length < 4294967296) : Pure Try.prog 52 [byt l, byt m] (byt (l ++ beBytes m.length 4 ++ m)) :=
  Pure.ofBB fun _ _ _ _ _ _ hw hd hd2 => (roct_Row hw hd hd2 hl hm).mono fun _ _ ⟨r, h1, h2⟩ => ⟨r, _, h1, h2, by simp⟩
abbrev TR : Nat := 141
abbrev RR : Nat := 121
abbrev pv (p : Nat) : Value := .pointer (some ⟨p, 0, none⟩)
theorem as_mk (v : Value) (s : Rd) : (⟨v, s.l, s.e⟩ : Rd).as s := ⟨rfl, rfl⟩
/-- The reader's slice in sight or not. -/
theorem rdI_as {T : Nat} {s t : Rd} (h : s.as t) : rdI T p s = rdI T p ⟨s.v, t.l, t.e⟩ := by rw [rdI, rdI, h.2]
theorem number_s {n : Int} (hl : s.l.length ≤ lots) (hn : sizeB n = true) : Spec Try.prog 77 [ptr p, int n] [rdA TR p s] (fun _ : Unit => [rdA TR p (s.fixed n)]) (fun _ => wrd (s.num n)) :=
  Spec.ofRd (vals := [pv p, .int .i64 n]) fun _ _ _ _ v hw hd => (number_c hw .here hd hl hn).mono fun _ _ ⟨h1, h2⟩ => ⟨_, _, by rw [h1, (as_mk v s).num], rdI_as ((as_mk v s).fixed n) ▸ h2, by rw [← ((as_mk v s).fixed n).1]; simp⟩
theorem rnumber_s {n : Int} (hl : s.l.length ≤ lots) (hn : sizeB n = true) : Spec Try.prog 57 [ptr p, int n] [rdA RR p s] (fun _ : Unit => [rdA RR p (s.fixed n)]) (fun _ => wrd (s.num n)) :=
  Spec.ofRd (vals := [pv p, .int .i64 n]) fun _ _ _ _ v hw hd => (rnumber_c hw .here hd hl hn).mono fun _ _ ⟨h1, h2⟩ => ⟨_, _, by rw [h1, (as_mk v s).num], rdI_as ((as_mk v s).fixed n) ▸ h2, by rw [← ((as_mk v s).fixed n).1]; simp⟩
theorem end_s : Spec Try.prog 70 [ptr p] [rdA TR p s] (fun _ : Unit => [rdA TR p s]) (fun _ => int s.end_) :=
  Spec.ofRd (vals := [pv p]) fun _ _ _ _ v hw hd => (end_c (s := ⟨v, s.l, s.e⟩) hw List.mem_cons_self hd).mono fun _ _ ⟨h1, h2⟩ => ⟨v, _, by rw [h1, (as_mk v s).end_], h2, hd⟩
theorem rend_s : Spec Try.prog 58 [ptr p] [rdA RR p s] (fun _ : Unit => [rdA RR p s]) (fun _ => int s.end_) :=
  Spec.ofRd (vals := [pv p]) fun _ _ _ _ v hw hd => (rend_c (s := ⟨v, s.l, s.e⟩) hw List.mem_cons_self hd).mono fun _ _ ⟨h1, h2⟩ => ⟨v, _, by rw [h1, (as_mk v s).end_], h2, hd⟩
/-- A reader of bytes, new. -/
theorem read_s (hl : l.length ≤ lots) : Spec Try.prog 67 [byt l] [] (fun p : Nat => [rdA TR p (Rd.of l)]) (fun p => ptr p) := fun G w vals hm hv => by
  obtain ⟨v, us', rfl, h1, h2⟩ := hv
  have h2 : us' = [] := h2
  subst h2
  refine (read_c ((enter2 w G).add (z := bytesD v l) (row2 (rep_byt.1 h1))) (by simp) hl).mono fun e w' ⟨p, z, he, hm2⟩ => ?_
  have hx := leave2 hm2 (by simp)
  have hb : w'.heap[p]? = some (row TR [z, .int .i64 0]) := hm2.holds (by simp)
  have hd := hm2.data (z := bytesD z l) (by simp)
  have hpn : w.heap.size ≤ p := by
    have h3 := hm2.out _ (List.mem_cons_self) p (by simp [Proofs.Ytmkijjmbiiiicaa.It.ids]) (w, G) (by simp)
    rcases h3 with h3 | h3
    · have h4 := hm2.nodup
      simp only [List.flatMap_cons, List.flatMap_nil, List.append_nil, List.nodup_append] at h4
      exact absurd rfl (h4.2.2 p (by simp [Proofs.Ytmkijjmbiiiicaa.It.ids]) p (old2_ids.2 ⟨hm.old p h3, h3⟩))
    · exact h3
  refine ⟨p, _, he, by simp [It.rids], ⟨hx, fun k hk => ?_, fun k hk hg => ?_, fun k hk => Nat.lt_of_lt_of_le (hm.old k hk) hx.size, by simp [It.rids], by simp [mids, It.mids], fun x hxm => ?_⟩, rfl⟩
  · simp [mids, It.mids] at hk; subst hk; exact .inr hpn
  · simp [mids, It.mids] at hk; subst hk; have := hm.old k hg; omega
  · rw [List.mem_singleton] at hxm; subst hxm
    refine ⟨_, hb, _, _, rfl, rep_byt.2 (hd.grow fun k hk => .inl ?_), _, _, rfl, rfl, rfl⟩
    simp only [List.flatMap_cons, List.flatMap_nil, List.append_nil, List.mem_append] at hk ⊢
    rcases hk with hk | hk
    · exact .inl (by simpa [mids, It.mids, Proofs.Ytmkijjmbiiiicaa.It.ids] using hk)
    · exact .inr (old2_ids.2 ⟨hm.old k hk, hk⟩)
end
end Go.Proofs.Ytmkijjmbiiiicaa.A
/-
  The second engine: arrays, copies, blocks that are only read from then on.
-/
set_option maxRecDepth 100000
set_option linter.unusedSimpArgs false
set_option linter.unusedVariables false
namespace Go.Proofs.Ytmkijjmbiiiicaa.A
open Go.RowKit

section
variable {P : Program} {n : Nat} {W : Wd} {σ τ : Blks} {l : Slots} {X : List Nat} {x y z : Operand} {d : Option Nat} {ty t t' e : TypeId} {pos : String} {aft : Array Edge} {g : Option (Nat × Bool)} {v u : Value} {k k' : IntKind} {a b : Nat} {o : Oper} {A B : Abs} {tab : List (Nat × TI)} {ops : Array Oper} {rest : List Oper} {Q : Exit → Act → World → Prop} {ix : Plan} {xs ys : List (List Abs)} {s q : Nat} {cs : List Abs}
theorem upd_self {x : It} {σ τ : Blks} (h : Upd x x σ τ) : τ = σ := by
  induction h with
  | here => rfl
  | there _ ih => rw [ih]
theorem SC.known {c : Code} {p : Prop} {T : Act → World → Prop} (h : ∀ a w, T a w → p) (k : p → SC P c T Q) : SC P c T Q := fun a w ha => k (h a w ha) a w ha
theorem SL.known {p : Prop} {T : Act → World → Prop} (h : ∀ a w, T a w → p) (k : p → SL P ops rest T Q) : SL P ops rest T Q := fun a w ha => k (h a w ha) a w ha
theorem reps_set {K : List Nat} {w : World} {z : Abs} : ∀ {ps : List Abs} {us : List Value} {o : Nat} {u : Value}, reps K w ps us → us[o]? = some u → rep K w z u → reps K w (putL ps o [z]) us
  | [], us, o, u, h, hu, _ => by have : us = [] := h; subst this; simp at hu
  | a :: ps, _, 0, u, ⟨x, us', h1, h2, h3⟩, hu, hz => by
    subst h1
    simp at hu
    subst hu
    exact ⟨x, us', rfl, hz, h3⟩
  | a :: ps, _, o + 1, u, ⟨x, us', h1, h2, h3⟩, hu, hz => by
    subst h1
    exact ⟨x, us', rfl, h2, reps_set h3 (by simpa using hu) hz⟩
/-- A row of the call's own, that a block's cell holds, is only read from then on. -/
theorem St.freezeC {a : Act} {w : World} {pre post : Blks} {o : Nat} (h : St n W (pre ++ own e s v xs :: post) l a w) (hu : Upd (.blk b t cs) (.blk b t (putL cs o [.sl s xs])) (pre ++ post) τ) (hv : cs[o]? = some (.v v)) : St n W τ l a w := by
  have hsub : (pre ++ post).Sublist (pre ++ own e s v xs :: post) := List.Sublist.append (List.Sublist.refl _) (List.sublist_cons_self _ _)
  have h1 := own_sl h.mem
  have h2 := h.less hsub
  obtain ⟨us, hb, hr⟩ := h2.mem.hold _ hu.mem
  obtain ⟨u, h3, h4⟩ := reps_get hr hv
  have h4 : u = v := h4
  subst h4
  have hm := h2.mem.upd hu (Ext.refl w) (by simp [It.mids]) (by simp [It.mids]) rfl fun hc => ⟨us, hb, reps_carry hc _ _ (reps_set hr h3 h1)⟩
  exact h2.to hm.1 hm.2
theorem SC.freezeC {c : Code} (pre : Blks) {post : Blks} (o : Nat) (hσ : σ = pre ++ own e s v xs :: post) (hu : Upd (.blk b t cs) (.blk b t (putL cs o [.sl s xs])) (pre ++ post) τ) (hv : cs[o]? = some (.v v)) (k : SC P c (St n W τ l) Q) : SC P c (St n W σ l) Q := by
  subst hσ; exact fun a w h => k a w (h.freezeC hu hv)
theorem SL.freezeC (pre : Blks) {post : Blks} (o : Nat) (hσ : σ = pre ++ own e s v xs :: post) (hu : Upd (.blk b t cs) (.blk b t (putL cs o [.sl s xs])) (pre ++ post) τ) (hv : cs[o]? = some (.v v)) (k : SL P ops rest (St n W τ l) Q) : SL P ops rest (St n W σ l) Q := by
  subst hσ; exact fun a w h => k a w (h.freezeC hu hv)
/-- The address of an element of an array in a block. -/
theorem Val.indexArP (hT : TabOk P tab) {i : TI} {m off : Nat} {r : Int} (hu : P.underlying t = some (.array m e)) (hi : ti tab e = some i) (hx : look l x = some (.v (.pointer (some ⟨b, off, none⟩)))) (hy : look l y = some (.v (.int k r))) (hr : r = (q : Nat)) (hq : q < m) (hm : Nat.ble m 1 = false) :
    Val P n W σ l X ⟨d, .indexAddr t x y, ty, pos, aft, g⟩ (.v (.pointer (some ⟨b, off + q * i.size, none⟩))) := fun a w hs _ => ⟨_, rfl, fun w' _ => by
  subst hr
  have h6 := (hT _ _ hi).sizeOf (w := w')
  have hq' : (q : Int) < (m : Nat) := by omega
  simp [execOp, Instr.indexAt, Instr.sureAddr, asIntOf, hs.plain hx, hs.plain hy, run_underlying hu, Sem.run_bind, Result.andThen, h6, hq, Addr.add_none]⟩
/-- A function that makes a row of bytes of its own. -/
theorem Spec.ofOwnB {f : FuncId} {args : List Abs} {out : List UInt8} {e : TypeId} (h : ∀ (K : List Nat) (w : World) (vals : List Value), (∀ k ∈ K, k < w.heap.size) → reps K w args vals →
    Calls P f vals.toArray w fun en w' => ∃ r ρ, en = .returned r ∧ Proofs.Ytmkijjmbiiiicaa.Mem [(w, K)] [.pc (Proofs.Ytmkijjmbiiiicaa.ownPc e 1 r out.length (out.map bc)), old2 w K] ρ w') : Spec P f args [] (fun r : Value => [own e 1 r (out.map fun b => [.v (bc b)])]) (fun r => .v r) := fun G w vals hm hv =>
  (h G w vals hm.old hv).mono fun en w' ⟨r, ρ, he, hm2⟩ => by
    have hx := leave2 hm2 (by simp)
    have how : w'.ownsRow 0 e 1 r out.length (out.map bc) := hm2.hold (.pc (Proofs.Ytmkijjmbiiiicaa.ownPc e 1 r out.length (out.map bc))) (by simp)
    have hnew : ∀ k ∈ r.ownBlock.toList, w.heap.size ≤ k := fun k hk => by
      have h3 := hm2.out _ (List.mem_cons_self) k (by simpa [Proofs.Ytmkijjmbiiiicaa.It.ids, Proofs.Ytmkijjmbiiiicaa.ownPc] using hk) (w, G) (by simp)
      rcases h3 with h3 | h3
      · have h4 := hm2.nodup
        simp only [List.flatMap_cons, List.flatMap_nil, List.append_nil, List.nodup_append] at h4
        exact absurd rfl (h4.2.2 k (by simpa [Proofs.Ytmkijjmbiiiicaa.It.ids, Proofs.Ytmkijjmbiiiicaa.ownPc] using hk) k (old2_ids.2 ⟨hm.old k h3, h3⟩))
      · exact h3
    refine ⟨r, r, he, by simp [It.rids], ⟨hx, fun k hk => .inr (hnew k ?_), fun k hk hg => ?_, fun k hk => Nat.lt_of_lt_of_le (hm.old k hk) hx.size, by simp [It.rids], ?_, fun x hxm => ?_⟩, rfl⟩
    · simpa [mids, It.mids, ownPc] using hk
    · have := hnew k (by simpa [mids, It.mids, ownPc] using hk)
      have := hm.old k hg
      omega
    · simp only [mids, List.flatMap_cons, List.flatMap_nil, List.append_nil]; exact own_nodup
    · rw [List.mem_singleton] at hxm; subst hxm
      refine ⟨out.map bc, by simpa using how, ?_⟩
      rw [byt_map]; exact repss_ones
end
/-- An array of bytes as cells. -/
def digA (d : List UInt8) : List Abs := d.map fun b => .v (bc b)
abbrev ints (xs : List Int) : Abs := .sl 1 (xs.map fun x => [int x])
theorem elems_one {s i : Nat} {cs : List Abs} (h : cs.length = s) : elems s [(i, .agg cs)] = some [cs] := by simp [elems, cellsA, h]
end Go.Proofs.Ytmkijjmbiiiicaa.A
/-
  From a walk that returns true and changes no old memory to the given statement, for any law without package variables.
-/
namespace Go.Proofs.Ytmkijjmbiiiicaa
open Go.ChangeShapes Go.WideShapes Go.ChangeAt Go.RowKit

theorem law_own : ownKnob Try.prog.godebug = none := by kernel_rfl
theorem law_laidOut : laidOutB Try.prog = true := by kernel_rfl

theorem trodAll_below {H : Type} {enc : TypeId × Value → H} {W W' : World} (hb : Below W.heap.size W W') :
    ∀ (ts : List TypeId) (vs : List Value) (ds : List (DataW H)) (p : List MemPlace), (∀ t ∈ ts, Try.prog.readableRec t = true ∧ t < Try.prog.types.size) →
      DataW.TrodAll enc Try.prog W 0 (fun _ => true) true ts vs ds p → ∃ q, DataW.TrodAll enc Try.prog W' 0 (fun b => decide (b < W.heap.size)) true ts vs ds q
  | [], [], [], p, _, h => ⟨p, h⟩
  | t :: ts, v :: vs, d :: ds, p, hr, h => by
    obtain ⟨p0, q0, h0, h1, rfl⟩ := h
    obtain ⟨q, hq⟩ := trodAll_below hb ts vs ds q0 (fun t ht => hr t (List.mem_cons_of_mem _ ht)) h1
    have lt0 : ∀ x ∈ p0, x.block < W.heap.size := by obtain ⟨m, hm⟩ := h0; exact DataW.trod_lt m _ _ _ hm
    exact ⟨p0 ++ q, p0, q, Below.trod law_laidOut (hr t List.mem_cons_self).1 (hr t List.mem_cons_self).2 h0 hb lt0, hq, rfl⟩
  | [], _ :: _, _, _, _, h => h.elim
  | [], [], _ :: _, _, _, h => h.elim
  | _ :: _, [], _, _, _, h => h.elim
  | _ :: _, _ :: _, [], _, _, h => h.elim

set_option maxRecDepth 100000 in
theorem law_lift {H : Type} {enc : TypeId × Value → H} {os : Os} (started : os.Started) {f : FuncId} {fn : Func} {s : ChangeSpec}
    (noInit : Try.prog.inits.idxOf? f = none) (hfn : Try.prog.funcs[f]? = some fn) (hvars : s.vars = []) (hres : fn.resultTypes = #[4])
    (hparB : (fn.params.toList.all fun t => Try.prog.readableRec t && decide (t < Try.prog.types.size)) = true)
    (hspec : ∀ ds : List (DataW H), ds.length = fn.params.size → s.fn H (ds ++ []) = { results := [.lit (.bool true)], args := ds })
    (wit : ∃ (w : World) (tape : Tape) (i : Input), w.os = os ∧ (w.forCall tape i).Shaped Try.prog ∧ i.vars = [] ∧ Input.okWide Try.prog (w.forCall tape i) .any w.heap.size f i ∧
      s.pre6 enc Try.prog fn [] false (w.forCall tape i).memory i.args ∧ Assume.holds {} Try.prog (lone (Frame.enter Try.prog f i.args .normal) [] (w.forCall tape i)))
    (walk : ∀ (W : World) (base : Nat) (args : Array Value) (ds : List (DataW H)) (p : List MemPlace),
      (∀ (j : Nat) t v, fn.params[j]? = some t → args[j]? = some v → Value.okWide Try.prog W .any base t v) →
      DataW.TrodAll enc Try.prog W 0 (fun _ => true) true fn.params.toList args.toList ds p →
      (DataW.weightsEach Try.prog fn.params.toList ds).all (· ≤ reachBytes) = true →
      Calls Try.prog f args W fun e W' => e = .returned (.bool true) ∧ Ext [] W W') :
    ReturnsInHanded {} Try.checked os f .any (s.pre6 enc Try.prog fn [] false) (s.post enc Try.prog fn false true false false) := by
  have hpar : ∀ t ∈ fn.params.toList, Try.prog.readableRec t = true ∧ t < Try.prog.types.size := by
    simpa only [List.all_eq_true, Bool.and_eq_true, decide_eq_true_eq] using hparB
  refine returnsInHanded_of_change_sized (C := Try.checked) law_own started noInit hfn wit ?_
  intro W base args ds gs before hval0 hW hcnd hsz _
  have hval : ∀ (j : Nat) t v, fn.params[j]? = some t → args[j]? = some v → Value.okWide Try.prog W .any base t v := hval0
  have hW' := hW
  obtain ⟨p, q, hA0, hV, rfl, hfz, hnd⟩ := hW
  have hA : DataW.TrodAll enc Try.prog W 0 (fun _ => true) true fn.params.toList args.toList ds p := hA0
  rw [hvars] at hV
  obtain ⟨rfl, rfl⟩ := trodVars_none hV
  have hsz' : (DataW.weightsEach Try.prog fn.params.toList ds).all (· ≤ reachBytes) = true := by
    have h2 := hsz
    simp only [ChangeSpec.plain, DataSpec.varTypes, hvars, List.filterMap_nil, List.append_nil] at h2
    exact h2
  refine (walk W base args ds p hval hA hsz').mono fun e W' ⟨he, bel⟩ => ?_
  subst he
  have hlen : ds.length = fn.params.size := by
    have : ∀ (ts : List TypeId) (vs : List Value) (ds : List (DataW H)) (p : List MemPlace), DataW.TrodAll enc Try.prog W 0 (fun _ => true) true ts vs ds p → ds.length = ts.length := by
      intro ts
      induction ts with
      | nil => intro vs ds p h; cases vs <;> cases ds <;> first | rfl | exact h.elim
      | cons t ts ih =>
        intro vs ds p h
        cases vs with
        | nil => exact h.elim
        | cons v vs =>
          cases ds with
          | nil => exact h.elim
          | cons d ds => obtain ⟨p0, q0, _, h1, _⟩ := h; simp [ih vs ds q0 h1]
    simpa using this _ _ _ _ hA
  obtain ⟨pa, hpa⟩ := trodAll_below (enc := enc) bel.below fn.params.toList args.toList ds p hpar hA
  refine ⟨_, rfl, ds, [], p ++ [], [], pa, [], hW', ?_, ?_, ?_, bel.below.frame _, fun h => by cases h⟩
  · rw [hspec ds hlen, hres]
    exact trodAll_mk1 (shut_bool Try.underlying4 _)
  · rw [hspec ds hlen]; exact hpa
  · rw [hspec ds hlen, hvars]; rfl

theorem spot_none {w : World} {b o : Nat} {s : Option Nat} {v : Value} (h : w.cell? ⟨b, o, s⟩ = some v) : s = none := by
  have := World.cell?_spot h
  simpa using this

end Go.Proofs.Ytmkijjmbiiiicaa
/-
  Arguments opened down to their cells: a struct, however deep, is its cells, each read by its own type.
-/
set_option maxRecDepth 100000
namespace Go.Proofs.Ytmkijjmbiiiicaa
open Go.RowKit Go.ChangeShapes Go.WideShapes Go.ChangeAt

/-- The types of a type's cells, in order. -/
def leaves (P : Program) : Nat → TypeId → Option (List TypeId)
  | 0, _ => none
  | d + 1, t =>
    match P.underlying t with
    | some (.struct fs) => fs.toList.foldlM (fun acc f => (leaves P d f.type).bind fun l => if f.offset = acc.length ∧ l.length = P.cellsOf f.type then some (acc ++ l) else none) []
    | some (.array n e) => (leaves P d e).bind fun l => if l.length = P.cellsOf e then some (List.replicate n l).flatten else none
    | some _ => some [t]
    | none => none

section
variable {H : Type} {enc : TypeId × Value → H} {P : Program} {w : World} {base : Nat} {spare : Nat → Bool} {held : Bool}

/-- Cell j reads by its own type. -/
def LeafAt (enc : TypeId × Value → H) (P : Program) (w : World) (base : Nat) (spare : Nat → Bool) (held : Bool) (u : TypeId) (v : Value) : Prop := ∃ n y, DataW.trod enc P w base spare held n u [v] = some y

theorem leaves_fields {d : Nat} {cs : List Value} {n : Nat}
    (ih : ∀ (t : TypeId) (ts : List TypeId) (fuel : Nat) (cs : List Value) (x : DataW H × List MemPlace), leaves P d t = some ts → ts.length = cs.length → DataW.trod enc P w base spare held fuel t cs = some x →
      ∀ (j : Nat) (v : Value) (u : TypeId), cs[j]? = some v → ts[j]? = some u → LeafAt enc P w base spare held u v) :
    ∀ (fs : List Field) (acc ts : List TypeId), (∀ f ∈ fs, ∃ y, DataW.trod enc P w base spare held n f.type ((cs.drop f.offset).take (P.cellsOf f.type)) = some y) →
      fs.foldlM (fun acc f => (leaves P d f.type).bind fun l => if f.offset = acc.length ∧ l.length = P.cellsOf f.type then some (acc ++ l) else none) acc = some ts →
      ts.length ≤ cs.length →
      (∀ (j : Nat) (v : Value) (u : TypeId), cs[j]? = some v → acc[j]? = some u → LeafAt enc P w base spare held u v) →
      (∀ (j : Nat) (v : Value) (u : TypeId), cs[j]? = some v → ts[j]? = some u → LeafAt enc P w base spare held u v) := by
  intro fs
  induction fs with
  | nil =>
    intro acc ts _ h _ ha
    simp at h
    subst h
    exact ha
  | cons f fs hfs =>
    intro acc ts hall h hlen ha
    simp only [List.foldlM_cons, Option.bind_eq_bind, Option.bind_eq_some_iff] at h
    obtain ⟨acc', ⟨l, hl, hif⟩, hrest⟩ := h
    split at hif
    · rename_i hc
      obtain ⟨ho, hlc⟩ := hc
      simp only [Option.some.injEq] at hif
      subst hif
      have hmono : ∀ (fs : List Field) (a b : List TypeId), fs.foldlM (fun acc f => (leaves P d f.type).bind fun l => if f.offset = acc.length ∧ l.length = P.cellsOf f.type then some (acc ++ l) else none) a = some b → a.length ≤ b.length := by
        intro fs
        induction fs with
        | nil => intro a b h; simp at h; subst h; exact Nat.le_refl _
        | cons f fs ih2 =>
          intro a b h
          simp only [List.foldlM_cons, Option.bind_eq_bind, Option.bind_eq_some_iff] at h
          obtain ⟨a', ⟨l, _, hif⟩, hr⟩ := h
          split at hif
          · simp only [Option.some.injEq] at hif
            subst hif
            have := ih2 _ _ hr
            simp at this
            omega
          · cases hif
      have hacc := hmono _ _ _ hrest
      refine hfs (acc ++ l) ts (fun g hg => hall g (List.mem_cons_of_mem _ hg)) hrest hlen ?_
      intro j v u hv hu
      rw [List.getElem?_append] at hu
      split at hu
      · exact ha j v u hv hu
      · rename_i hj
        obtain ⟨y, hy⟩ := hall f List.mem_cons_self
        rw [List.length_append] at hacc
        refine ih f.type l n _ y hl ?_ hy (j - acc.length) v u ?_ hu
        · rw [List.length_take, List.length_drop]; omega
        · have hjl : j - acc.length < l.length := (List.getElem?_eq_some_iff.1 hu).1
          rw [List.getElem?_take, if_pos (by omega), List.getElem?_drop, ho, show acc.length + (j - acc.length) = j by omega]
          exact hv
    · cases hif

theorem leaves_trod : ∀ (d : Nat) (t : TypeId) (ts : List TypeId) (fuel : Nat) (cs : List Value) (x : DataW H × List MemPlace), leaves P d t = some ts → ts.length = cs.length → DataW.trod enc P w base spare held fuel t cs = some x →
    ∀ (j : Nat) (v : Value) (u : TypeId), cs[j]? = some v → ts[j]? = some u → LeafAt enc P w base spare held u v := by
  intro d
  induction d with
  | zero => intro t ts fuel cs x h; simp [leaves] at h
  | succ d ih =>
    intro t ts fuel cs x h hlen ht
    unfold leaves at h
    split at h
    · rename_i fs hu
      obtain ⟨xs, n, _, _, hcl, hxl, hf⟩ := DataW.trod_struct hu ht
      refine leaves_fields (n := n) ih fs.toList [] ts ?_ h (by omega) (by simp)
      intro f hfm
      obtain ⟨i, hi, he⟩ := List.getElem_of_mem hfm
      have h1 := hf i f (by rw [← Array.getElem?_toList, List.getElem?_eq_getElem hi, he])
      have : i < xs.length := by rw [hxl]; simpa using hi
      exact ⟨xs[i], by rw [h1, List.getElem?_eq_getElem this]⟩
    · rename_i m e hu
      obtain ⟨xs, n, _, _, hcl, hxl, hf⟩ := DataW.trod_array hu ht
      simp only [Option.bind_eq_some_iff] at h
      obtain ⟨l, hl, hif⟩ := h
      split at hif
      · rename_i hc
        simp only [Option.some.injEq] at hif
        subst hif
        intro j v u hv hu'
        have hjl : j < (List.replicate m l).flatten.length := (List.getElem?_eq_some_iff.1 hu').1
        have hfl : ∀ k, (List.replicate k l).flatten.length = k * l.length := by
          intro k; simp
        rw [hfl] at hjl
        have hl0 : 0 < l.length := by
          rcases Nat.eq_zero_or_pos l.length with h0 | h0
          · rw [h0] at hjl; simp at hjl
          · exact h0
        have hi : j / l.length < m := by rw [Nat.div_lt_iff_lt_mul hl0]; exact hjl
        have hmod := Nat.mod_lt j hl0
        have hjd := Nat.div_add_mod j l.length
        have hget : ∀ (k j : Nat), j < k * l.length → (List.replicate k l).flatten[j]? = l[j % l.length]? := by
          intro k
          induction k with
          | zero => intro j hj; simp at hj
          | succ k ihk =>
            intro j hj
            rw [List.replicate_succ, List.flatten_cons, List.getElem?_append]
            split
            · rename_i h1; rw [Nat.mod_eq_of_lt h1]
            · rename_i h1
              rw [ihk (j - l.length) (by rw [Nat.succ_mul] at hj; omega)]
              rw [← Nat.mod_eq_sub_mod (show l.length ≤ j by omega)]
        rw [hget m j hjl] at hu'
        have h1 := hf (j / l.length) hi
        have hxi : j / l.length < xs.length := by omega
        rw [List.getElem?_eq_getElem hxi] at h1
        have hsz : (j / l.length) * P.cellsOf e + P.cellsOf e ≤ cs.length := by
          rw [← hlen, hfl, ← hc]
          calc (j / l.length) * l.length + l.length = (j / l.length + 1) * l.length := by rw [Nat.succ_mul]
            _ ≤ m * l.length := Nat.mul_le_mul_right _ hi
        refine ih e l n _ _ hl ?_ h1 (j % l.length) v u ?_ hu'
        · rw [List.length_take, List.length_drop]; omega
        · rw [List.getElem?_take, if_pos (by omega), List.getElem?_drop, ← hc, ← hv]
          congr 1
          rw [Nat.mul_comm]; exact hjd
      · cases hif
    · rename_i hu1 hu2 hs
      simp only [Option.some.injEq] at h
      subst h
      intro j v u hv hu'
      have hc1 : cs.length = 1 := by simpa using hlen.symm
      match cs, hc1 with
      | [c], _ =>
        match j with
        | 0 =>
          simp at hv hu'
          subst hv; subst hu'
          exact ⟨fuel, x, ht⟩
        | j + 1 => simp at hv
    · cases h
theorem LeafAt.int {u : TypeId} {v : Value} {k : IntKind} (h : LeafAt enc P w base spare held u v) (hu : P.underlying u = some (.int k)) : ∃ n, v = .int k n ∧ (Lit.int k n).wf = true := by
  obtain ⟨n, y, hy⟩ := h
  obtain ⟨m, h1, _, h2⟩ := DataW.trod_int hu hy
  simp at h1
  exact ⟨m, h1, h2⟩
theorem LeafAt.string {u : TypeId} {v : Value} (h : LeafAt enc P w base spare held u v) (hu : P.underlying u = some .string) : ∃ s, v = .string s ∧ s.size ≤ maxLen := by
  obtain ⟨n, y, hy⟩ := h
  obtain ⟨m, h1, _, h2⟩ := DataW.trod_string hu hy
  simp at h1
  exact ⟨m, h1, h2⟩
theorem LeafAt.bool {u : TypeId} {v : Value} (h : LeafAt enc P w base spare held u v) (hu : P.underlying u = some .bool) : ∃ b, v = .bool b := by
  obtain ⟨n, y, hy⟩ := h
  obtain ⟨m, h1, _⟩ := DataW.trod_bool hu hy
  simp at h1
  exact ⟨m, h1⟩

theorem flatten_get {α : Type} {sz : Nat} (h0 : 0 < sz) : ∀ (xs : List (List α)), (∀ x ∈ xs, x.length = sz) → ∀ j, xs.flatten[j]? = (xs[j / sz]?).bind fun x => x[j % sz]? := by
  intro xs
  induction xs with
  | nil => intro _ j; simp
  | cons x xs ih =>
    intro hx j
    have hxl := hx x List.mem_cons_self
    rw [List.flatten_cons, List.getElem?_append]
    split
    · rename_i h1
      rw [Nat.div_eq_of_lt (by omega), Nat.mod_eq_of_lt (by omega)]
      simp
    · rename_i h1
      rw [ih (fun y hy => hx y (List.mem_cons_of_mem _ hy)), hxl]
      have h2 : j / sz = (j - sz) / sz + 1 := by
        rw [Nat.div_eq_sub_div h0 (by omega)]
      rw [h2, List.getElem?_cons_succ, ← Nat.mod_eq_sub_mod (show sz ≤ j by omega)]
theorem flatten_length {α : Type} {sz : Nat} : ∀ (xs : List (List α)), (∀ x ∈ xs, x.length = sz) → xs.flatten.length = xs.length * sz := by
  intro xs
  induction xs with
  | nil => intro _; simp
  | cons x xs ih =>
    intro hx
    rw [List.flatten_cons, List.length_append, ih (fun y hy => hx y (List.mem_cons_of_mem _ hy)), hx x List.mem_cons_self, List.length_cons, Nat.succ_mul, Nat.add_comm]
theorem add_eq (b off : Nat) (j : Nat) : (⟨b, off, none⟩ : Addr).add j = ⟨b, off + j, none⟩ := by
  unfold Addr.add
  split
  · rename_i h0; subst h0; rfl
  · rfl

/-- A slice that came in: its row, element by element: each element's cells read by the element's type. -/
theorem open_row {t e : TypeId} {fuel : Nat} {A : Option Addr} {n c : Nat} {x : DataW H × List MemPlace} (ht : P.underlying t = some (.slice e)) (h : DataW.trod enc P w base spare held fuel t [.slice A n c] = some x) :
    n ≤ c ∧ c ≤ maxLen ∧ ∃ xs : List (List Value), xs.length = n ∧ (∀ cs ∈ xs, cs.length = P.cellsOf e ∧ ∃ m y, DataW.trod enc P w base spare held m e cs = some y) ∧ (xs.flatten ≠ [] → ∃ b off : Nat, A = some ⟨b, off, none⟩ ∧ ∀ j u, xs.flatten[j]? = some u → w.cell? ⟨b, off + j, none⟩ = some u) := by
  rcases Deep.open_slice ht h with ⟨hcs, _⟩ | ⟨a, len, cap, m, n', D, Pl, hcs, _, hl, hm, hmm, _, hi⟩
  · simp at hcs
    obtain ⟨rfl, rfl, rfl⟩ := hcs
    exact ⟨Nat.le_refl _, Nat.zero_le _, [], rfl, by simp, by simp⟩
  · simp at hcs
    obtain ⟨rfl, rfl, rfl⟩ := hcs
    have hnm : n ≤ m := by rw [hmm]; split <;> omega
    refine ⟨hl, hm, (List.range n).map fun i => ((w.cells? base (a.add (i * P.cellsOf e)) (P.cellsOf e)).getD []), by simp, ?_, ?_⟩
    · intro cs hcs
      simp only [List.mem_map, List.mem_range] at hcs
      obtain ⟨i, hin, rfl⟩ := hcs
      obtain ⟨cs', h1, h2⟩ := hi i (by omega)
      rw [h1]
      exact ⟨(World.cells?_some h1).2.1, n', _, h2⟩
    · intro hne
      have hall : ∀ y ∈ (List.range n).map (fun i => ((w.cells? base (a.add (i * P.cellsOf e)) (P.cellsOf e)).getD [])), y.length = P.cellsOf e := by
        intro y hy
        simp only [List.mem_map, List.mem_range] at hy
        obtain ⟨i, hin, rfl⟩ := hy
        obtain ⟨cs', h1, _⟩ := hi i (by omega)
        rw [h1]
        exact (World.cells?_some h1).2.1
      have hlen0 := flatten_length _ hall
      have hpos : 0 < n * P.cellsOf e := by
        rcases Nat.eq_zero_or_pos (n * P.cellsOf e) with h0 | h0
        · exfalso
          apply hne
          apply List.eq_nil_of_length_eq_zero
          rw [hlen0]
          simpa using h0
        · exact h0
      have hsz : 0 < P.cellsOf e := Nat.pos_of_mul_pos_left hpos
      have hn0 : 0 < n := Nat.pos_of_mul_pos_right hpos
      obtain ⟨b, off, spot⟩ := a
      have hs : spot = none := by
        obtain ⟨cs', h1, _⟩ := hi 0 (by omega)
        obtain ⟨_, hl1, hc1⟩ := World.cells?_some h1
        have h2 := hc1 0 hsz
        have h3 : ((⟨b, off, spot⟩ : Addr).add (0 * P.cellsOf e)).add 0 = ⟨b, off, spot⟩ := by simp [Addr.add]
        rw [h3, List.getElem?_eq_getElem (by omega)] at h2
        exact spot_none h2
      subst hs
      refine ⟨b, off, rfl, fun j u hu => ?_⟩
      rw [flatten_get hsz _ hall] at hu
      simp only [Option.bind_eq_some_iff, List.getElem?_map, Option.map_eq_some_iff] at hu
      obtain ⟨y, ⟨i, hir, rfl⟩, hy⟩ := hu
      have hrl := List.getElem?_eq_some_iff.1 hir
      obtain ⟨hir1, hir2⟩ := hrl
      simp at hir1 hir2
      subst hir2
      obtain ⟨cs', h1, _⟩ := hi (j / P.cellsOf e) (by omega)
      rw [h1] at hy
      simp only [Option.getD_some] at hy
      obtain ⟨_, hl1, hc1⟩ := World.cells?_some h1
      have h2 := hc1 (j % P.cellsOf e) (Nat.mod_lt _ hsz)
      rw [add_eq, add_eq, hy] at h2
      have hjd := Nat.div_add_mod j (P.cellsOf e)
      rw [show off + j = off + j / P.cellsOf e * P.cellsOf e + j % P.cellsOf e by rw [Nat.mul_comm (j / P.cellsOf e)]; omega]
      exact h2
/-- The same, the elements decoded. -/
theorem open_rowOf {α : Type} {cells : α → List Value} {Ok : α → Prop} {t e : TypeId} {fuel : Nat} {A : Option Addr} {n c : Nat} {x : DataW H × List MemPlace} (ht : P.underlying t = some (.slice e)) (h : DataW.trod enc P w base spare held fuel t [.slice A n c] = some x)
    (hdec : ∀ cs, cs.length = P.cellsOf e → (∃ m y, DataW.trod enc P w base spare held m e cs = some y) → ∃ a, cs = cells a ∧ Ok a) :
    n ≤ c ∧ c ≤ maxLen ∧ ∃ xs : List α, xs.length = n ∧ Row w A (xs.flatMap cells) ∧ ∀ a ∈ xs, Ok a := by
  obtain ⟨h1, h2, ys, hl, hall, hrow⟩ := open_row ht h
  have hd : ∀ (ys : List (List Value)), (∀ cs ∈ ys, cs.length = P.cellsOf e ∧ ∃ m y, DataW.trod enc P w base spare held m e cs = some y) → ∃ xs : List α, xs.length = ys.length ∧ ys = xs.map cells ∧ ∀ a ∈ xs, Ok a := by
    intro ys
    induction ys with
    | nil => intro _; exact ⟨[], rfl, rfl, by simp⟩
    | cons cs ys ih =>
      intro hy
      obtain ⟨a, ha, hok⟩ := hdec cs (hy cs List.mem_cons_self).1 (hy cs List.mem_cons_self).2
      obtain ⟨xs, hxl, hxe, hxo⟩ := ih (fun c hc => hy c (List.mem_cons_of_mem _ hc))
      exact ⟨a :: xs, by simp [hxl], by simp [ha, hxe], by simpa using ⟨hok, hxo⟩⟩
  obtain ⟨xs, hxl, hxe, hxo⟩ := hd ys hall
  refine ⟨h1, h2, xs, by omega, ?_, hxo⟩
  intro hne
  have hf : ys.flatten = xs.flatMap cells := by rw [hxe, List.flatMap]
  rw [← hf] at hne
  obtain ⟨b, off, hA, hc⟩ := hrow hne
  exact ⟨b, off, hA, fun j u hu => hc j u (by rw [hf]; exact hu)⟩
end
end Go.Proofs.Ytmkijjmbiiiicaa
/-
  Rows of bytes that come in as arguments.
-/
set_option maxRecDepth 100000
namespace Go.Proofs.Ytmkijjmbiiiicaa
open Go.RowKit Go.ChangeShapes Go.WideShapes Go.ChangeAt

section
variable {H : Type} {enc : TypeId × Value → H} {w : World} {base : Nat} {spare : Nat → Bool} {held : Bool}
theorem open_byte (cs : List Value) (hl : cs.length = Try.prog.cellsOf 5) (h : ∃ m y, DataW.trod enc Try.prog w base spare held m 5 cs = some y) : ∃ c : UInt8, cs = [bc c] ∧ True := by
  obtain ⟨fuel, x, h⟩ := h
  rw [show Try.prog.cellsOf 5 = 1 by kernel_rfl] at hl
  have hlv : leaves Try.prog 4 5 = some [5] := by kernel_rfl
  have hh := leaves_trod 4 _ _ _ _ _ hlv (by simpa using hl.symm) h
  match cs, hl with
  | [v0], _ =>
    obtain ⟨n, rfl, b⟩ := (hh 0 v0 _ rfl rfl).int Try.underlying5
    simp only [Lit.wf, Bool.and_eq_true, decide_eq_true_eq] at b
    have b0 : (0 : Int) ≤ n := b.1
    have b1 : n ≤ (255 : Int) := b.2
    refine ⟨UInt8.ofNat n.toNat, ?_, trivial⟩
    have : ((UInt8.ofNat n.toNat).toNat : Int) = n := by simp; omega
    simp [bc]
    omega
theorem open_bytes {fuel : Nat} {A : Option Addr} {n c : Nat} {x : DataW H × List MemPlace} (h : DataW.trod enc Try.prog w base spare held fuel 37 [.slice A n c] = some x) : ∃ l : List UInt8, l.length = n ∧ n ≤ c ∧ c ≤ maxLen ∧ Row w A (l.map bc) := by
  obtain ⟨h1, h2, xs, h3, h4, _⟩ := open_rowOf (cells := fun c : UInt8 => [bc c]) (Ok := fun _ => True) Try.underlying37 h (fun cs hl hh => open_byte cs hl hh)
  refine ⟨xs, h3, h1, h2, ?_⟩
  have : xs.flatMap (fun c : UInt8 => [bc c]) = xs.map bc := by
    clear h3 h4
    induction xs with
    | nil => rfl
    | cons a xs ih => simp [ih]
  rw [← this]
  exact h4
theorem open_none {t e : TypeId} {fuel : Nat} {A : Option Addr} {n c : Nat} {x : DataW H × List MemPlace} (ht : Try.prog.underlying t = some (.slice e)) (h : DataW.trod enc Try.prog w base spare held fuel t [.slice A n c] = some x) : A = none → c = 0 := by
  intro hA
  rcases Deep.open_slice ht h with ⟨hcs, _⟩ | ⟨a, len, cap, m, n', D, Pl, hcs, _⟩
  · simp at hcs
    exact hcs.2.2
  · simp at hcs
    rw [hA] at hcs
    simp at hcs
theorem open_bytesV {fuel : Nat} {A : Option Addr} {n c : Nat} {x : DataW H × List MemPlace} (h : DataW.trod enc Try.prog w base spare held fuel 37 [.slice A n c] = some x) : ∃ l : List UInt8, BytesV w (.slice A n c) l := by
  obtain ⟨l, rfl, h1, h2, h3⟩ := open_bytes h
  exact ⟨l, A, c, rfl, h1, h2, open_none Try.underlying37 h, h3⟩
end
end Go.Proofs.Ytmkijjmbiiiicaa
/-
  Arguments that are rows of structs as trees: opened down to their cells; from a walk to the statement.
-/
set_option maxRecDepth 100000
set_option linter.unusedSimpArgs false
set_option linter.unusedVariables false
namespace Go.Proofs.Ytmkijjmbiiiicaa.A
open Go.RowKit Go.ChangeShapes Go.WideShapes Go.ChangeAt

section
variable {H : Type} {enc : TypeId × Value → H} {w : World} {base : Nat} {spare : Nat → Bool} {held : Bool}
theorem wfIn {a : Int} (h : (Lit.int .i64 a).wf = true) : InR .i64 a := by
  have := bounds_i64 h
  simp only [InR, lo, hi]
  omega
theorem open_rows {α : Type} {abs : α → List Abs} {Ok : α → Prop} {s : Nat} : ∀ {ys : List (List Value)}, (∀ cs ∈ ys, cs.length = s ∧ ∃ a, reps [] w (abs a) cs ∧ Ok a) → ∃ xs : List α, repss [] w s (xs.map abs) ys.flatten ∧ xs.length = ys.length ∧ ∀ a ∈ xs, Ok a
  | [], _ => ⟨[], rfl, rfl, by simp⟩
  | cs :: ys, h => by
    obtain ⟨h1, a, h2, h3⟩ := h cs List.mem_cons_self
    obtain ⟨xs, h4, h5, h6⟩ := open_rows (ys := ys) fun c hc => h c (List.mem_cons_of_mem _ hc)
    exact ⟨a :: xs, ⟨cs, _, rfl, h1, h2, h4⟩, by simp [h5], by simpa using ⟨h3, h6⟩⟩
/-- A slice that came in, as a tree. -/
theorem open_slA {α : Type} {abs : α → List Abs} {Ok : α → Prop} {t e : TypeId} {s : Nat} {v : Value} (ht : Try.prog.underlying t = some (.slice e)) (hs : Try.prog.cellsOf e = s) (h : LeafAt enc Try.prog w base spare held t v)
    (hdec : ∀ cs, cs.length = Try.prog.cellsOf e → (∃ m y, DataW.trod enc Try.prog w base spare held m e cs = some y) → ∃ a, reps [] w (abs a) cs ∧ Ok a) :
    ∃ xs : List α, rep [] w (.sl s (xs.map abs)) v ∧ ∀ a ∈ xs, Ok a := by
  obtain ⟨fuel, x, h⟩ := h
  obtain ⟨A, n, c, rfl⟩ : ∃ A n c, v = .slice A n c := by
    rcases Deep.open_slice ht h with ⟨hcs, _⟩ | ⟨a, len, cap, m, n', D, Pl, hcs, _⟩
    · simp at hcs; exact ⟨_, _, _, hcs⟩
    · simp at hcs; exact ⟨_, _, _, hcs⟩
  obtain ⟨h1, h2, ys, h3, h4, h5⟩ := open_row ht h
  obtain ⟨xs, h6, h7, h8⟩ := open_rows (abs := abs) (Ok := Ok) (s := s) (w := w) (ys := ys) fun cs hc => ⟨by rw [← hs]; exact (h4 cs hc).1, hdec cs (h4 cs hc).1 (h4 cs hc).2⟩
  refine ⟨xs, ⟨ys.flatten, ⟨⟨A, c, ?_, ?_, h2, open_none ht h⟩, fun hn => ?_⟩, h6⟩, h8⟩
  · rw [List.length_map, h7, h3]
  · rw [List.length_map, h7, h3]; exact h1
  · obtain ⟨b, off, rfl, hc⟩ := h5 hn
    exact ⟨b, off, _, _, rfl, by simp, hc⟩
theorem open_u8 : ∀ {cs : List Value}, (∀ v ∈ cs, LeafAt enc Try.prog w base spare held 5 v) → ∃ d : List UInt8, cs = d.map bc
  | [], _ => ⟨[], rfl⟩
  | v :: cs, h => by
    obtain ⟨d, rfl⟩ := open_u8 (cs := cs) fun x hx => h x (List.mem_cons_of_mem _ hx)
    obtain ⟨m, y, hy⟩ := h v List.mem_cons_self
    obtain ⟨c, hc, _⟩ := open_byte [v] (by rw [show Try.prog.cellsOf 5 = 1 by kernel_rfl]; rfl) ⟨m, y, hy⟩
    simp at hc
    exact ⟨c :: d, by rw [hc]; rfl⟩
theorem reps_dig {K : List Nat} (d : List UInt8) : reps K w (digA d) (d.map bc) := by
  have : digA d = (d.map bc).map .v := by simp [digA]
  rw [this]
  exact reps_plain.2 rfl
end
theorem _root_.Go.Proofs.Ytmkijjmbiiiicaa.IsRow.bytesA {K : List Nat} {w : World} {v : Value} {m : List UInt8} (h : IsRow K w v m.length (m.map bc)) : BytesV w v m := by
  obtain ⟨A, c, rfl, h1, h2, h3⟩ := h.shape
  refine ⟨A, c, rfl, h1, h2, h3, fun hn => ?_⟩
  obtain ⟨b, off, n', c', hv, _, hc⟩ := h.cells hn
  simp at hv
  obtain ⟨rfl, _, _⟩ := hv
  exact ⟨b, off, rfl, hc⟩
/-- A row of bytes as a text. -/
theorem Val.strOf {n : Nat} {W : Wd} {σ : Blks} {l : Slots} {X : List Nat} {x : Operand} {d : Option Nat} {ty : TypeId} {pos : String} {aft : Array Edge} {gq : Option (Nat × Bool)} {m : List UInt8} (hx : look l x = some (byt m)) : Val Try.prog n W σ l X ⟨d, .convert 37 9 x, ty, pos, aft, gq⟩ (.v (.string ⟨m.toArray⟩)) := fun a w hs hX => ⟨_, rfl, fun w' hw' => by
  have h1 := rep_byt.1 (hs.eval hx)
  have h2 := (Carry.of_ext hw' (K := mids σ ++ W.G) (K' := mids σ ++ W.G) (fun k hk => .inl (List.mem_append_left _ (hX k hk))) (fun k hk => .inl hk)).row h1
  have := conv_txtE h2.bytesA
  simp [execOp, this, Result.andThen]⟩
/-- A law's walk, as a call in a world. -/
theorem law_of {f : FuncId} {args : List Abs} (h : Pure Try.prog f args (boo true)) {w : World} {vals : List Value} (hv : reps [] w args vals) : Calls Try.prog f vals.toArray w fun e w' => e = .returned (.bool true) ∧ Ext [] w w' := by
  have hm : Mem w (mids []) [] [] w := ⟨Ext.refl w, by simp [mids], by simp, by simp, by simp, by simp [mids], by simp⟩
  refine (h [] w vals hm hv).mono fun e w' ⟨z, r, he, _, h1, h2⟩ => ⟨?_, h1.ext⟩
  have h2 : r = .bool true := h2
  rw [he, h2]
end Go.Proofs.Ytmkijjmbiiiicaa.A
/-
  Names of letters, and cores that may be: the program's and the document's, over the engine.
-/
set_option maxRecDepth 100000
namespace Go.Proofs.Ytmkijjmbiiiicaa
open Go.RowKit

/-- A letter of a name. -/
def nameC (c : Nat) : Bool := (decide (97 ≤ c) && decide (c ≤ 122)) || (decide (48 ≤ c) && decide (c ≤ 57)) || decide (c = 45)
def nameB (s : ByteArray) : Bool := s.data.toList.all (fun c => nameC c.toNat) && decide (1 ≤ s.size) && decide (s.size ≤ 16)
section
variable {S : List (World × List Nat)} {σ τ : Blks} {ρ : List Dt} {w : World}
theorem all_at {s : ByteArray} {k : Nat} (h : k < s.size) (hb : nameC (s[k]'h).toNat = false) : s.data.toList.all (fun c => nameC c.toNat) = false := by
  rw [List.all_eq_false]
  refine ⟨s[k]'h, ?_, by rw [hb]; decide⟩
  have : s[k]'h = s.data.toList[k]'(by simpa using h) := rfl
  rw [this]
  exact List.getElem_mem _
theorem all_all {s : ByteArray} (hp : ∀ j (hj : j < s.size), nameC (s[j]'hj).toNat = true) : s.data.toList.all (fun c => nameC c.toNat) = true := by
  rw [List.all_eq_true]
  intro c hc
  obtain ⟨j, hj, rfl⟩ := List.getElem_of_mem hc
  exact hp j (by simpa using hj)

theorem odd_c {r : Nat} (hw : Mem S σ ρ w) : Calls Try.prog 62 #[.int .i32 r] w fun e w' => e = .returned (.bool (!nameC r)) ∧ Mem S σ ρ w' := by
  refine calls_of [.int .i32 r] Try.func62 rfl Try.ntmps62 rfl (Mem S σ ρ) hw ?_
  refine SC.seq (SC.region ?_)
  refine SL.val (Val.assign rfl) rfl rfl ?_
  refine SL.nil (SE.seq ?_)
  refine SC.seq (SC.region ?_)
  refine SL.val (Val.move rfl) rfl rfl ?_
  refine SL.val (Val.ltI rfl rfl) rfl rfl ?_
  refine SL.val (Val.move rfl) rfl rfl ?_
  refine SL.bothP (t := 5) rfl ?_ ?_
  · intro hc5
    iterate 2 refine SL.skip rfl rfl ?_
    refine SL.val (Val.pickT rfl rfl) rfl rfl ?_
    refine SL.val (Val.move rfl) rfl rfl ?_
    refine SL.val (Val.move rfl) rfl rfl ?_
    refine SL.val (Val.ltI rfl rfl) rfl rfl ?_
    refine SL.val (Val.move rfl) rfl rfl ?_
    refine SL.bothP (t := 12) rfl ?_ ?_
    · intro hc12
      iterate 2 refine SL.skip rfl rfl ?_
      refine SL.val (Val.pickT rfl rfl) rfl rfl ?_
      refine SL.val (Val.pickT rfl rfl) rfl rfl ?_
      refine SL.val (Val.move rfl) rfl rfl ?_
      refine SL.val (Val.move rfl) rfl rfl ?_
      refine SL.val (Val.neI rfl rfl) rfl rfl ?_
      refine SL.val (Val.pickT rfl rfl) rfl rfl ?_
      refine SL.val (Val.assign rfl) rfl rfl ?_
      refine SL.nil (SE.seq ?_)
      refine SC.ret ?_
      refine SE.ret1 rfl rfl ?_
      intro w' hw'
      refine ⟨?_, hw'⟩
      congr 2
      rw [Bool.eq_iff_iff]
      simp [nameC]
      omega
    intro hc12
    refine SL.val (Val.move rfl) rfl rfl ?_
    refine SL.val (Val.gtI rfl rfl) rfl rfl ?_
    refine SL.val (Val.pickF rfl rfl) rfl rfl ?_
    refine SL.val (Val.pickT rfl rfl) rfl rfl ?_
    refine SL.val (Val.move rfl) rfl rfl ?_
    refine SL.bothP (t := 17) rfl ?_ ?_
    · intro hc17
      refine SL.val (Val.move rfl) rfl rfl ?_
      refine SL.val (Val.neI rfl rfl) rfl rfl ?_
      refine SL.val (Val.pickT rfl rfl) rfl rfl ?_
      refine SL.val (Val.assign rfl) rfl rfl ?_
      refine SL.nil (SE.seq ?_)
      refine SC.ret ?_
      refine SE.ret1 rfl rfl ?_
      intro w' hw'
      refine ⟨?_, hw'⟩
      congr 2
      rw [Bool.eq_iff_iff]
      simp [nameC]
      omega
    intro hc17
    iterate 2 refine SL.skip rfl rfl ?_
    refine SL.val (Val.pickF rfl rfl) rfl rfl ?_
    refine SL.val (Val.assign rfl) rfl rfl ?_
    refine SL.nil (SE.seq ?_)
    refine SC.ret ?_
    refine SE.ret1 rfl rfl ?_
    intro w' hw'
    refine ⟨?_, hw'⟩
    congr 2
    rw [Bool.eq_iff_iff]
    simp [nameC]
    omega
  intro hc5
  refine SL.val (Val.move rfl) rfl rfl ?_
  refine SL.val (Val.gtI rfl rfl) rfl rfl ?_
  refine SL.val (Val.pickF rfl rfl) rfl rfl ?_
  refine SL.val (Val.move rfl) rfl rfl ?_
  refine SL.bothP (t := 9) rfl ?_ ?_
  rotate_left
  · intro hc9
    iterate 6 refine SL.skip rfl rfl ?_
    refine SL.val (Val.pickF rfl rfl) rfl rfl ?_
    refine SL.val (Val.move rfl) rfl rfl ?_
    iterate 2 refine SL.skip rfl rfl ?_
    refine SL.val (Val.pickF rfl rfl) rfl rfl ?_
    refine SL.val (Val.assign rfl) rfl rfl ?_
    refine SL.nil (SE.seq ?_)
    refine SC.ret ?_
    refine SE.ret1 rfl rfl ?_
    intro w' hw'
    refine ⟨?_, hw'⟩
    congr 2
    rw [Bool.eq_iff_iff]
    simp [nameC]
    omega
  intro hc9
  refine SL.val (Val.move rfl) rfl rfl ?_
  refine SL.val (Val.ltI rfl rfl) rfl rfl ?_
  refine SL.val (Val.move rfl) rfl rfl ?_
  refine SL.bothP (t := 12) rfl ?_ ?_
  · intro hc12
    iterate 2 refine SL.skip rfl rfl ?_
    refine SL.val (Val.pickT rfl rfl) rfl rfl ?_
    refine SL.val (Val.pickT rfl rfl) rfl rfl ?_
    refine SL.val (Val.move rfl) rfl rfl ?_
    refine SL.val (Val.move rfl) rfl rfl ?_
    refine SL.val (Val.neI rfl rfl) rfl rfl ?_
    refine SL.val (Val.pickT rfl rfl) rfl rfl ?_
    refine SL.val (Val.assign rfl) rfl rfl ?_
    refine SL.nil (SE.seq ?_)
    refine SC.ret ?_
    refine SE.ret1 rfl rfl ?_
    intro w' hw'
    refine ⟨?_, hw'⟩
    congr 2
    rw [Bool.eq_iff_iff]
    simp [nameC]
    omega
  intro hc12
  refine SL.val (Val.move rfl) rfl rfl ?_
  refine SL.val (Val.gtI rfl rfl) rfl rfl ?_
  refine SL.val (Val.pickF rfl rfl) rfl rfl ?_
  refine SL.val (Val.pickT rfl rfl) rfl rfl ?_
  refine SL.val (Val.move rfl) rfl rfl ?_
  refine SL.bothP (t := 17) rfl ?_ ?_
  · intro hc17
    refine SL.val (Val.move rfl) rfl rfl ?_
    refine SL.val (Val.neI rfl rfl) rfl rfl ?_
    refine SL.val (Val.pickT rfl rfl) rfl rfl ?_
    refine SL.val (Val.assign rfl) rfl rfl ?_
    refine SL.nil (SE.seq ?_)
    refine SC.ret ?_
    refine SE.ret1 rfl rfl ?_
    intro w' hw'
    refine ⟨?_, hw'⟩
    congr 2
    rw [Bool.eq_iff_iff]
    simp [nameC]
    omega
  intro hc17
  iterate 2 refine SL.skip rfl rfl ?_
  refine SL.val (Val.pickF rfl rfl) rfl rfl ?_
  refine SL.val (Val.assign rfl) rfl rfl ?_
  refine SL.nil (SE.seq ?_)
  refine SC.ret ?_
  refine SE.ret1 rfl rfl ?_
  intro w' hw'
  refine ⟨?_, hw'⟩
  congr 2
  rw [Bool.eq_iff_iff]
  simp [nameC]
  omega

set_option maxHeartbeats 400000 in
theorem indexOdd_c {s : ByteArray} (hw : Mem S σ ρ w) (_hs : s.size ≤ 16) : Calls Try.prog 78 #[.string s, .func (.func 62) #[] #[], .bool true] w fun e w' => ∃ r : Int, e = .returned (.int .i64 r) ∧ (0 ≤ r ↔ s.data.toList.all (fun c => nameC c.toNat) = false) ∧ Mem S σ ρ w' := by
  refine calls_of [.string s, .func (.func 62) #[] #[], .bool true] Try.func78 rfl Try.ntmps78 rfl (Mem S σ ρ) hw ?_
  refine SC.seq (SC.region ?_)
  refine SL.val (Val.assign rfl) rfl rfl ?_
  refine SL.nil (SE.seq ?_)
  refine SC.seq ?_
  refine SC.seq (SC.region ?_)
  refine SL.val (Val.move rfl) rfl rfl ?_
  refine SL.eff (Eff.rangeSt rfl Try.underlying9) rfl rfl ?_
  rintro _ _ ⟨b10, rfl, rfl⟩
  refine SL.nil (SE.seq ?_)
  refine SC.block ?_
  refine SC.loop (ι := Nat) (fun k => [(1, .func (.func 62) #[] #[]), (2, .bool true), (10, .pointer (some ⟨b10, 0, none⟩))]) (fun k w' => (k ≤ s.size ∧ ∀ j (hj : j < s.size), j < k → nameC (s[j]'hj).toNat = true) ∧ Mem S (.blk b10 (.stringIter s k) :: σ) ρ w') (fun k => s.size - k) 0 (by exact ⟨rfl, rfl, rfl, trivial⟩) (fun w' hw' => ⟨⟨Nat.zero_le _, fun j hj h => by omega⟩, hw'⟩) ?_
  intro k
  refine SC.facts ?_
  rintro ⟨hk, hp⟩
  by_cases hlt : k < s.size
  · have hd := decode_high s k hlt
    have hc := (s[k]'hlt).toNat_lt
    skip
    refine SC.seq (SC.region ?_)
    refine SL.eff (Eff.nextSt rfl .here hlt) rfl rfl ?_
    rintro _ _ ⟨rfl, rfl⟩
    refine SL.val (Val.extract rfl rfl) rfl rfl ?_
    refine SL.nil (SE.seq ?_)
    refine SC.seq ?_
    refine SC.condT rfl ?_
    refine SC.skip ?_
    refine SE.seq ?_
    refine SC.block ?_
    refine SC.seq (SC.region ?_)
    refine SL.val (Val.extract rfl rfl) rfl rfl ?_
    refine SL.val (Val.extract rfl rfl) rfl rfl ?_
    refine SL.val (Val.assign rfl) rfl rfl ?_
    refine SL.val (Val.assign rfl) rfl rfl ?_
    refine SL.nil (SE.seq ?_)
    refine SC.seq (SC.region ?_)
    refine SL.val (Val.move rfl) rfl rfl ?_
    refine SL.val (Val.move rfl) rfl rfl ?_
    refine SL.callv rfl (by kernel_rfl) rfl rfl rfl ?_
    intro w hw
    refine (odd_c hw).mono ?_
    rintro _ _ ⟨rfl, hm⟩
    refine ⟨_, _, rfl, hm, ?_⟩
    clear hm hw w
    refine SL.val (Val.move rfl) rfl rfl ?_
    refine SL.val (Val.eqB rfl rfl (by kernel_rfl)) rfl rfl ?_
    refine SL.nil (SE.seq ?_)
    refine SC.cond rfl ?_ ?_
    rotate_left
    · intro hodd
      refine SC.skip ?_
      refine SE.inBlock ?_
      simp only [beq_true, Bool.not_eq_false'] at hodd
      have h128 : (s[k]'hlt).toNat < 128 := by
        rcases Nat.lt_or_ge (s[k]'hlt).toNat 128 with h | h
        · exact h
        · have h2 := hd (by omega)
          simp only [nameC, Bool.or_eq_true, Bool.and_eq_true, decide_eq_true_eq] at hodd
          omega
      have e1 := decode_ascii s k hlt h128
      exact SE.round (k + 1) (by omega) (by exact ⟨rfl, rfl, rfl, trivial⟩) (fun w' hw' => ⟨⟨hlt, fun j hj h => by
        rcases Nat.lt_or_ge j k with h2 | h2
        · exact hp j hj h2
        · obtain rfl : j = k := by omega
          rw [e1] at hodd; exact hodd⟩, by rw [e1] at hw'; exact hw'⟩)
    intro hodd
    refine SC.seq (SC.region ?_)
    refine SL.val (Val.move rfl) rfl rfl ?_
    refine SL.val (Val.assign rfl) rfl rfl ?_
    refine SL.nil (SE.seq ?_)
    refine SC.ret ?_
    refine SE.ret ?_
    refine SE.then_ (by intro h; cases h) ?_
    refine SE.ret ?_
    refine SE.then_ (by intro h; cases h) ?_
    refine SE.ret1 rfl rfl ?_
    intro w' hw'
    refine ⟨_, rfl, ?_, hw'.sub (fun _ h => h) (List.sublist_cons_self _ _)⟩
    rw [all_at hlt (by
  simp only [beq_true, Bool.not_eq_true'] at hodd
  rcases Nat.lt_or_ge (s[k]'hlt).toNat 128 with h | h
  · rw [decode_ascii s k hlt h] at hodd; exact hodd
  · simp only [nameC, Bool.or_eq_false_iff, Bool.and_eq_false_iff, decide_eq_false_iff_not]; omega)]
    simp
  · skip
    refine SC.seq (SC.region ?_)
    refine SL.val (Val.nextEnd rfl List.mem_cons_self hlt) rfl rfl ?_
    refine SL.val (Val.extract rfl rfl) rfl rfl ?_
    refine SL.nil (SE.seq ?_)
    refine SC.seq ?_
    refine SC.condF rfl ?_
    refine SC.exit ?_
    refine SE.then_ (by intro h; cases h) ?_
    refine SE.then_ (by intro h; cases h) ?_
    refine SE.exit ?_
    refine SE.seq ?_
    refine SC.seq (SC.region ?_)
    refine SL.val (Val.assign rfl) rfl rfl ?_
    refine SL.nil (SE.seq ?_)
    refine SC.ret ?_
    refine SE.ret1 rfl rfl ?_
    intro w' hw'
    refine ⟨_, rfl, ?_, hw'.sub (fun _ h => h) (List.sublist_cons_self _ _)⟩
    rw [all_all fun j hj => hp j hj (by omega)]
    simp

theorem index_c {s : ByteArray} (hw : Mem S σ ρ w) (hs : s.size ≤ 16) : Calls Try.prog 76 #[.string s, .func (.func 62) #[] #[]] w fun e w' => ∃ r : Int, e = .returned (.int .i64 r) ∧ (0 ≤ r ↔ s.data.toList.all (fun c => nameC c.toNat) = false) ∧ Mem S σ ρ w' := by
  refine calls_of [.string s, .func (.func 62) #[] #[]] Try.func76 rfl Try.ntmps76 rfl (Mem S σ ρ) hw ?_
  refine SC.seq (SC.region ?_)
  refine SL.val (Val.assign rfl) rfl rfl ?_
  refine SL.nil (SE.seq ?_)
  refine SC.seq (SC.region ?_)
  refine SL.val (Val.move rfl) rfl rfl ?_
  refine SL.val (Val.move rfl) rfl rfl ?_
  refine SL.call (by kernel_rfl) rfl rfl rfl ?_
  intro w hw
  refine (indexOdd_c hw hs).mono ?_; rintro _ _ ⟨r, rfl, hr, hm⟩; refine ⟨_, _, rfl, hm, ?_⟩; clear hm hw w
  refine SL.val (Val.assign rfl) rfl rfl ?_
  refine SL.nil (SE.seq ?_)
  refine SC.ret ?_
  refine SE.ret1 rfl rfl ?_
  intro w' hw'
  exact ⟨_, rfl, hr, hw'⟩
theorem contains_c {s : ByteArray} (hw : Mem S σ ρ w) (hs : s.size ≤ 16) : Calls Try.prog 63 #[.string s, .func (.func 62) #[] #[]] w fun e w' => e = .returned (.bool (!s.data.toList.all (fun c => nameC c.toNat))) ∧ Mem S σ ρ w' := by
  refine calls_of [.string s, .func (.func 62) #[] #[]] Try.func63 rfl Try.ntmps63 rfl (Mem S σ ρ) hw ?_
  refine SC.seq (SC.region ?_)
  refine SL.val (Val.assign rfl) rfl rfl ?_
  refine SL.nil (SE.seq ?_)
  refine SC.seq (SC.region ?_)
  refine SL.val (Val.move rfl) rfl rfl ?_
  refine SL.val (Val.move rfl) rfl rfl ?_
  refine SL.call (by kernel_rfl) rfl rfl rfl ?_
  intro w hw
  refine (index_c hw hs).mono ?_; rintro _ _ ⟨r, rfl, hr, hm⟩; refine ⟨_, _, rfl, hm, ?_⟩; clear hm hw w
  refine SL.val (Val.geI rfl rfl) rfl rfl ?_
  refine SL.val (Val.assign rfl) rfl rfl ?_
  refine SL.nil (SE.seq ?_)
  refine SC.ret ?_
  refine SE.ret1 rfl rfl ?_
  intro w' hw'
  refine ⟨?_, hw'⟩
  congr 2
  rw [Bool.eq_iff_iff, decide_eq_true_eq, hr]
  simp

theorem isName_c {s : ByteArray} (hw : Mem S σ ρ w) : Calls Try.prog 41 #[.string s] w fun e w' => e = .returned (.bool (nameB s)) ∧ Mem S σ ρ w' := by
  have h0 : (s = ⟨#[]⟩) ↔ s.size = 0 := by
    constructor
    · rintro rfl; rfl
    · intro h
      obtain ⟨a⟩ := s
      congr 1
      exact Array.eq_empty_of_size_eq_zero h
  refine calls_of [.string s] Try.func41 rfl Try.ntmps41 rfl (Mem S σ ρ) hw ?_
  refine SC.seq (SC.region ?_)
  refine SL.val (Val.assign rfl) rfl rfl ?_
  refine SL.nil (SE.seq ?_)
  refine SC.seq (SC.region ?_)
  refine SL.val (Val.assign rfl) rfl rfl ?_
  refine SL.nil (SE.seq ?_)
  refine SC.seq (SC.region ?_)
  refine SL.val (Val.move rfl) rfl rfl ?_
  refine SL.val (Val.neS rfl rfl) rfl rfl ?_
  refine SL.val (Val.move rfl) rfl rfl ?_
  refine SL.bothP (t := 6) rfl ?_ ?_
  rotate_left
  · intro hc6
    iterate 3 refine SL.skip rfl rfl ?_
    refine SL.val (Val.pickF rfl rfl) rfl rfl ?_
    refine SL.val (Val.move rfl) rfl rfl ?_
    iterate 4 refine SL.skip rfl rfl ?_
    refine SL.val (Val.pickF rfl rfl) rfl rfl ?_
    refine SL.val (Val.assign rfl) rfl rfl ?_
    refine SL.nil (SE.seq ?_)
    refine SC.ret ?_
    refine SE.ret1 rfl rfl ?_
    intro w' hw'
    refine ⟨?_, hw'⟩
    congr 2
    unfold nameB
    rw [Ne, h0] at hc6
    rw [Bool.eq_iff_iff]
    first
      | (simp; omega)
      | (have h1 : 1 ≤ s.size := by omega
         have h2 : s.size ≤ 16 := by omega
         simp [h1, h2])
  intro hc6
  refine SL.val (Val.move rfl) rfl rfl ?_
  refine SL.val (Val.lenSt rfl Try.underlying9) rfl rfl ?_
  refine SL.val (Val.leI rfl rfl) rfl rfl ?_
  refine SL.val (Val.pickT rfl rfl) rfl rfl ?_
  refine SL.val (Val.move rfl) rfl rfl ?_
  refine SL.bothP (t := 11) rfl ?_ ?_
  rotate_left
  · intro hc11
    iterate 4 refine SL.skip rfl rfl ?_
    refine SL.val (Val.pickF rfl rfl) rfl rfl ?_
    refine SL.val (Val.assign rfl) rfl rfl ?_
    refine SL.nil (SE.seq ?_)
    refine SC.ret ?_
    refine SE.ret1 rfl rfl ?_
    intro w' hw'
    refine ⟨?_, hw'⟩
    congr 2
    unfold nameB
    rw [Ne, h0] at hc6
    rw [Bool.eq_iff_iff]
    first
      | (simp; omega)
      | (have h1 : 1 ≤ s.size := by omega
         have h2 : s.size ≤ 16 := by omega
         simp [h1, h2])
  intro hc11
  refine SL.val (Val.move rfl) rfl rfl ?_
  refine SL.val (Val.move rfl) rfl rfl ?_
  refine SL.call (by kernel_rfl) rfl rfl rfl ?_
  intro w hw
  refine (contains_c hw (by omega)).mono ?_; rintro _ _ ⟨rfl, hm⟩; refine ⟨_, _, rfl, hm, ?_⟩; clear hm hw w
  refine SL.val (Val.notB rfl) rfl rfl ?_
  refine SL.val (Val.pickT rfl rfl) rfl rfl ?_
  refine SL.val (Val.assign rfl) rfl rfl ?_
  refine SL.nil (SE.seq ?_)
  refine SC.ret ?_
  refine SE.ret1 rfl rfl ?_
  intro w' hw'
  refine ⟨?_, hw'⟩
  congr 2
  unfold nameB
  rw [Ne, h0] at hc6
  rw [Bool.eq_iff_iff]
  first
    | (simp; omega)
    | (have h1 : 1 ≤ s.size := by omega
       have h2 : s.size ≤ 16 := by omega
       simp [h1, h2])

set_option maxHeartbeats 400000 in
theorem risName_c {s : ByteArray} (hw : Mem S σ ρ w) (hs : s.size ≤ lots) : Calls Try.prog 50 #[.string s] w fun e w' => e = .returned (.bool (nameB s)) ∧ Mem S σ ρ w' := by
  unfold lots at hs
  refine calls_of [.string s] Try.func50 rfl Try.ntmps50 rfl (Mem S σ ρ) hw ?_
  refine SC.seq (SC.region ?_)
  refine SL.val (Val.assign rfl) rfl rfl ?_
  refine SL.nil (SE.seq ?_)
  refine SC.seq ?_
  refine SC.seq (SC.region ?_)
  refine SL.val (Val.assign rfl) rfl rfl ?_
  refine SL.nil (SE.seq ?_)
  refine SC.block ?_
  refine SC.loop (ι := Nat) (fun k => [(0, .string s), (3, .int .i64 (k : Nat))]) (fun k w' => (k ≤ s.size ∧ ∀ j (hj : j < s.size), j < k → nameC (s[j]'hj).toNat = true) ∧ Mem S σ ρ w') (fun k => s.size - k) 0 (by exact ⟨rfl, rfl, trivial⟩) (fun w' hw' => ⟨⟨Nat.zero_le _, fun j hj h => by omega⟩, hw'⟩) ?_
  intro k
  refine SC.facts ?_
  rintro ⟨hk, hp⟩
  refine SC.seq ?_
  refine SC.seq (SC.region ?_)
  refine SL.val (Val.move rfl) rfl rfl ?_
  refine SL.val (Val.move rfl) rfl rfl ?_
  refine SL.val (Val.lenSt rfl Try.underlying9) rfl rfl ?_
  refine SL.val (Val.ltI rfl rfl) rfl rfl ?_
  refine SL.nil (SE.seq ?_)
  refine SC.condP rfl ?_ ?_
  rotate_left
  · intro hc7
    refine SC.exit ?_
    refine SE.then_ (by intro h; cases h) ?_
    refine SE.then_ (by intro h; cases h) ?_
    refine SE.exit ?_
    refine SE.seq ?_
    refine SC.seq (SC.region ?_)
    refine SL.val (Val.move rfl) rfl rfl ?_
    refine SL.val (Val.lenSt rfl Try.underlying9) rfl rfl ?_
    refine SL.val (Val.geI rfl rfl) rfl rfl ?_
    refine SL.val (Val.move rfl) rfl rfl ?_
    refine SL.bothP (t := 42) rfl ?_ ?_
    · intro hc42
      refine SL.val (Val.move rfl) rfl rfl ?_
      refine SL.val (Val.lenSt rfl Try.underlying9) rfl rfl ?_
      refine SL.val (Val.leI rfl rfl) rfl rfl ?_
      refine SL.val (Val.pickT rfl rfl) rfl rfl ?_
      refine SL.val (Val.assign rfl) rfl rfl ?_
      refine SL.nil (SE.seq ?_)
      refine SC.ret ?_
      refine SE.ret1 rfl rfl ?_
      intro w' hw'
      refine ⟨?_, hw'⟩
      congr 2
      unfold nameB
      first
        | (rw [all_at hlt (by simp [nameC]; omega)]; rfl)
        | (rw [all_all fun j hj => hp j hj (by omega)]; rw [Bool.eq_iff_iff]; simp; omega)
        | (exfalso; omega)
    intro hc42
    iterate 3 refine SL.skip rfl rfl ?_
    refine SL.val (Val.pickF rfl rfl) rfl rfl ?_
    refine SL.val (Val.assign rfl) rfl rfl ?_
    refine SL.nil (SE.seq ?_)
    refine SC.ret ?_
    refine SE.ret1 rfl rfl ?_
    intro w' hw'
    refine ⟨?_, hw'⟩
    congr 2
    unfold nameB
    first
      | (rw [all_at hlt (by simp [nameC]; omega)]; rfl)
      | (rw [all_all fun j hj => hp j hj (by omega)]; rw [Bool.eq_iff_iff]; simp; omega)
      | (exfalso; omega)
  intro hc7
  have hlt : k < s.size := by omega
  refine SC.skip ?_
  refine SE.seq ?_
  refine SC.seq ?_
  refine SC.block ?_
  refine SC.seq (SC.region ?_)
  refine SL.val (Val.move rfl) rfl rfl ?_
  refine SL.val (Val.move rfl) rfl rfl ?_
  refine SL.val (Val.indexSt (q := k) rfl rfl rfl hlt Try.underlying9) rfl rfl ?_
  refine SL.val (Val.geI rfl rfl) rfl rfl ?_
  refine SL.val (Val.move rfl) rfl rfl ?_
  refine SL.bothP (t := 14) rfl ?_ ?_
  rotate_left
  · intro hc14
    iterate 4 refine SL.skip rfl rfl ?_
    refine SL.val (Val.pickF rfl rfl) rfl rfl ?_
    refine SL.val (Val.move rfl) rfl rfl ?_
    refine SL.val (Val.move rfl) rfl rfl ?_
    refine SL.val (Val.move rfl) rfl rfl ?_
    refine SL.val (Val.indexSt (q := k) rfl rfl rfl hlt Try.underlying9) rfl rfl ?_
    refine SL.val (Val.geI rfl rfl) rfl rfl ?_
    refine SL.val (Val.move rfl) rfl rfl ?_
    refine SL.bothP (t := 25) rfl ?_ ?_
    rotate_left
    · intro hc25
      iterate 4 refine SL.skip rfl rfl ?_
      refine SL.val (Val.pickF rfl rfl) rfl rfl ?_
      refine SL.val (Val.pickF rfl rfl) rfl rfl ?_
      refine SL.val (Val.move rfl) rfl rfl ?_
      refine SL.val (Val.move rfl) rfl rfl ?_
      refine SL.val (Val.move rfl) rfl rfl ?_
      refine SL.val (Val.indexSt (q := k) rfl rfl rfl hlt Try.underlying9) rfl rfl ?_
      refine SL.val (Val.eqI rfl rfl) rfl rfl ?_
      refine SL.val (Val.pickF rfl rfl) rfl rfl ?_
      refine SL.val (Val.notP rfl) rfl rfl ?_
      refine SL.nil (SE.seq ?_)
      refine SC.condP rfl ?_ ?_
      rotate_left
      · intro hc38
        refine SC.skip ?_
        refine SE.inBlock ?_
        refine SE.seq ?_
        refine SC.region ?_
        refine SL.val (Val.move rfl) rfl rfl ?_
        first
          | refine SL.val (Val.addI rfl rfl (by simp only [InR, lo, hi]; omega)) rfl rfl ?_
          | refine SL.val (Val.addW rfl rfl) rfl rfl ?_
        refine SL.val (Val.assign rfl) rfl rfl ?_
        refine SL.nil ?_
        have hgood : nameC (s[k]'hlt).toNat = true := by
          simp [nameC]
          omega
        exact SE.round (k + 1) (by omega) (by exact ⟨rfl, rfl, trivial⟩) (fun w' hw' => ⟨⟨hlt, fun j hj h => by
          rcases Nat.lt_or_ge j k with h2 | h2
          · exact hp j hj h2
          · obtain rfl : j = k := by omega
            exact hgood⟩, hw'⟩)
      intro hc38
      refine SC.seq (SC.region ?_)
      refine SL.val (Val.assign rfl) rfl rfl ?_
      refine SL.nil (SE.seq ?_)
      refine SC.ret ?_
      refine SE.ret ?_
      refine SE.then_ (by intro h; cases h) ?_
      refine SE.then_ (by intro h; cases h) ?_
      refine SE.ret ?_
      refine SE.then_ (by intro h; cases h) ?_
      refine SE.ret1 rfl rfl ?_
      intro w' hw'
      refine ⟨?_, hw'⟩
      congr 2
      unfold nameB
      first
        | (rw [all_at hlt (by simp [nameC]; omega)]; rfl)
        | (rw [all_all fun j hj => hp j hj (by omega)]; rw [Bool.eq_iff_iff]; simp; omega)
        | (exfalso; omega)
    intro hc25
    refine SL.val (Val.move rfl) rfl rfl ?_
    refine SL.val (Val.move rfl) rfl rfl ?_
    refine SL.val (Val.indexSt (q := k) rfl rfl rfl hlt Try.underlying9) rfl rfl ?_
    refine SL.val (Val.leI rfl rfl) rfl rfl ?_
    refine SL.val (Val.pickT rfl rfl) rfl rfl ?_
    refine SL.val (Val.pickF rfl rfl) rfl rfl ?_
    refine SL.val (Val.move rfl) rfl rfl ?_
    refine SL.bothP (t := 32) rfl ?_ ?_
    · intro hc32
      iterate 4 refine SL.skip rfl rfl ?_
      refine SL.val (Val.pickT rfl rfl) rfl rfl ?_
      refine SL.val (Val.notT rfl) rfl rfl ?_
      refine SL.nil (SE.seq ?_)
      refine SC.condF rfl ?_
      refine SC.skip ?_
      refine SE.inBlock ?_
      refine SE.seq ?_
      refine SC.region ?_
      refine SL.val (Val.move rfl) rfl rfl ?_
      first
        | refine SL.val (Val.addI rfl rfl (by simp only [InR, lo, hi]; omega)) rfl rfl ?_
        | refine SL.val (Val.addW rfl rfl) rfl rfl ?_
      refine SL.val (Val.assign rfl) rfl rfl ?_
      refine SL.nil ?_
      have hgood : nameC (s[k]'hlt).toNat = true := by
        simp [nameC]
        omega
      exact SE.round (k + 1) (by omega) (by exact ⟨rfl, rfl, trivial⟩) (fun w' hw' => ⟨⟨hlt, fun j hj h => by
        rcases Nat.lt_or_ge j k with h2 | h2
        · exact hp j hj h2
        · obtain rfl : j = k := by omega
          exact hgood⟩, hw'⟩)
    intro hc32
    refine SL.val (Val.move rfl) rfl rfl ?_
    refine SL.val (Val.move rfl) rfl rfl ?_
    refine SL.val (Val.indexSt (q := k) rfl rfl rfl hlt Try.underlying9) rfl rfl ?_
    refine SL.val (Val.eqI rfl rfl) rfl rfl ?_
    refine SL.val (Val.pickF rfl rfl) rfl rfl ?_
    refine SL.val (Val.notP rfl) rfl rfl ?_
    refine SL.nil (SE.seq ?_)
    refine SC.condP rfl ?_ ?_
    rotate_left
    · intro hc38
      refine SC.skip ?_
      refine SE.inBlock ?_
      refine SE.seq ?_
      refine SC.region ?_
      refine SL.val (Val.move rfl) rfl rfl ?_
      first
        | refine SL.val (Val.addI rfl rfl (by simp only [InR, lo, hi]; omega)) rfl rfl ?_
        | refine SL.val (Val.addW rfl rfl) rfl rfl ?_
      refine SL.val (Val.assign rfl) rfl rfl ?_
      refine SL.nil ?_
      have hgood : nameC (s[k]'hlt).toNat = true := by
        simp [nameC]
        omega
      exact SE.round (k + 1) (by omega) (by exact ⟨rfl, rfl, trivial⟩) (fun w' hw' => ⟨⟨hlt, fun j hj h => by
        rcases Nat.lt_or_ge j k with h2 | h2
        · exact hp j hj h2
        · obtain rfl : j = k := by omega
          exact hgood⟩, hw'⟩)
    intro hc38
    refine SC.seq (SC.region ?_)
    refine SL.val (Val.assign rfl) rfl rfl ?_
    refine SL.nil (SE.seq ?_)
    refine SC.ret ?_
    refine SE.ret ?_
    refine SE.then_ (by intro h; cases h) ?_
    refine SE.then_ (by intro h; cases h) ?_
    refine SE.ret ?_
    refine SE.then_ (by intro h; cases h) ?_
    refine SE.ret1 rfl rfl ?_
    intro w' hw'
    refine ⟨?_, hw'⟩
    congr 2
    unfold nameB
    first
      | (rw [all_at hlt (by simp [nameC]; omega)]; rfl)
      | (rw [all_all fun j hj => hp j hj (by omega)]; rw [Bool.eq_iff_iff]; simp; omega)
      | (exfalso; omega)
  intro hc14
  refine SL.val (Val.move rfl) rfl rfl ?_
  refine SL.val (Val.move rfl) rfl rfl ?_
  refine SL.val (Val.indexSt (q := k) rfl rfl rfl hlt Try.underlying9) rfl rfl ?_
  refine SL.val (Val.leI rfl rfl) rfl rfl ?_
  refine SL.val (Val.pickT rfl rfl) rfl rfl ?_
  refine SL.val (Val.move rfl) rfl rfl ?_
  refine SL.bothP (t := 20) rfl ?_ ?_
  · intro hc20
    iterate 10 refine SL.skip rfl rfl ?_
    refine SL.val (Val.pickT rfl rfl) rfl rfl ?_
    refine SL.val (Val.move rfl) rfl rfl ?_
    iterate 4 refine SL.skip rfl rfl ?_
    refine SL.val (Val.pickT rfl rfl) rfl rfl ?_
    refine SL.val (Val.notT rfl) rfl rfl ?_
    refine SL.nil (SE.seq ?_)
    refine SC.condF rfl ?_
    refine SC.skip ?_
    refine SE.inBlock ?_
    refine SE.seq ?_
    refine SC.region ?_
    refine SL.val (Val.move rfl) rfl rfl ?_
    first
      | refine SL.val (Val.addI rfl rfl (by simp only [InR, lo, hi]; omega)) rfl rfl ?_
      | refine SL.val (Val.addW rfl rfl) rfl rfl ?_
    refine SL.val (Val.assign rfl) rfl rfl ?_
    refine SL.nil ?_
    have hgood : nameC (s[k]'hlt).toNat = true := by
      simp [nameC]
      omega
    exact SE.round (k + 1) (by omega) (by exact ⟨rfl, rfl, trivial⟩) (fun w' hw' => ⟨⟨hlt, fun j hj h => by
      rcases Nat.lt_or_ge j k with h2 | h2
      · exact hp j hj h2
      · obtain rfl : j = k := by omega
        exact hgood⟩, hw'⟩)
  intro hc20
  refine SL.val (Val.move rfl) rfl rfl ?_
  refine SL.val (Val.move rfl) rfl rfl ?_
  refine SL.val (Val.indexSt (q := k) rfl rfl rfl hlt Try.underlying9) rfl rfl ?_
  refine SL.val (Val.geI rfl rfl) rfl rfl ?_
  refine SL.val (Val.move rfl) rfl rfl ?_
  refine SL.bothP (t := 25) rfl ?_ ?_
  rotate_left
  · intro hc25
    iterate 4 refine SL.skip rfl rfl ?_
    refine SL.val (Val.pickF rfl rfl) rfl rfl ?_
    refine SL.val (Val.pickF rfl rfl) rfl rfl ?_
    refine SL.val (Val.move rfl) rfl rfl ?_
    refine SL.val (Val.move rfl) rfl rfl ?_
    refine SL.val (Val.move rfl) rfl rfl ?_
    refine SL.val (Val.indexSt (q := k) rfl rfl rfl hlt Try.underlying9) rfl rfl ?_
    refine SL.val (Val.eqI rfl rfl) rfl rfl ?_
    refine SL.val (Val.pickF rfl rfl) rfl rfl ?_
    refine SL.val (Val.notP rfl) rfl rfl ?_
    refine SL.nil (SE.seq ?_)
    refine SC.condP rfl ?_ ?_
    rotate_left
    · intro hc38
      refine SC.skip ?_
      refine SE.inBlock ?_
      refine SE.seq ?_
      refine SC.region ?_
      refine SL.val (Val.move rfl) rfl rfl ?_
      first
        | refine SL.val (Val.addI rfl rfl (by simp only [InR, lo, hi]; omega)) rfl rfl ?_
        | refine SL.val (Val.addW rfl rfl) rfl rfl ?_
      refine SL.val (Val.assign rfl) rfl rfl ?_
      refine SL.nil ?_
      have hgood : nameC (s[k]'hlt).toNat = true := by
        simp [nameC]
        omega
      exact SE.round (k + 1) (by omega) (by exact ⟨rfl, rfl, trivial⟩) (fun w' hw' => ⟨⟨hlt, fun j hj h => by
        rcases Nat.lt_or_ge j k with h2 | h2
        · exact hp j hj h2
        · obtain rfl : j = k := by omega
          exact hgood⟩, hw'⟩)
    intro hc38
    refine SC.seq (SC.region ?_)
    refine SL.val (Val.assign rfl) rfl rfl ?_
    refine SL.nil (SE.seq ?_)
    refine SC.ret ?_
    refine SE.ret ?_
    refine SE.then_ (by intro h; cases h) ?_
    refine SE.then_ (by intro h; cases h) ?_
    refine SE.ret ?_
    refine SE.then_ (by intro h; cases h) ?_
    refine SE.ret1 rfl rfl ?_
    intro w' hw'
    refine ⟨?_, hw'⟩
    congr 2
    unfold nameB
    first
      | (rw [all_at hlt (by simp [nameC]; omega)]; rfl)
      | (rw [all_all fun j hj => hp j hj (by omega)]; rw [Bool.eq_iff_iff]; simp; omega)
      | (exfalso; omega)
  intro hc25
  refine SL.val (Val.move rfl) rfl rfl ?_
  refine SL.val (Val.move rfl) rfl rfl ?_
  refine SL.val (Val.indexSt (q := k) rfl rfl rfl hlt Try.underlying9) rfl rfl ?_
  refine SL.val (Val.leI rfl rfl) rfl rfl ?_
  refine SL.val (Val.pickT rfl rfl) rfl rfl ?_
  refine SL.val (Val.pickF rfl rfl) rfl rfl ?_
  refine SL.val (Val.move rfl) rfl rfl ?_
  refine SL.bothP (t := 32) rfl ?_ ?_
  · intro hc32
    iterate 4 refine SL.skip rfl rfl ?_
    refine SL.val (Val.pickT rfl rfl) rfl rfl ?_
    refine SL.val (Val.notT rfl) rfl rfl ?_
    refine SL.nil (SE.seq ?_)
    refine SC.condF rfl ?_
    refine SC.skip ?_
    refine SE.inBlock ?_
    refine SE.seq ?_
    refine SC.region ?_
    refine SL.val (Val.move rfl) rfl rfl ?_
    first
      | refine SL.val (Val.addI rfl rfl (by simp only [InR, lo, hi]; omega)) rfl rfl ?_
      | refine SL.val (Val.addW rfl rfl) rfl rfl ?_
    refine SL.val (Val.assign rfl) rfl rfl ?_
    refine SL.nil ?_
    have hgood : nameC (s[k]'hlt).toNat = true := by
      simp [nameC]
      omega
    exact SE.round (k + 1) (by omega) (by exact ⟨rfl, rfl, trivial⟩) (fun w' hw' => ⟨⟨hlt, fun j hj h => by
      rcases Nat.lt_or_ge j k with h2 | h2
      · exact hp j hj h2
      · obtain rfl : j = k := by omega
        exact hgood⟩, hw'⟩)
  intro hc32
  refine SL.val (Val.move rfl) rfl rfl ?_
  refine SL.val (Val.move rfl) rfl rfl ?_
  refine SL.val (Val.indexSt (q := k) rfl rfl rfl hlt Try.underlying9) rfl rfl ?_
  refine SL.val (Val.eqI rfl rfl) rfl rfl ?_
  refine SL.val (Val.pickF rfl rfl) rfl rfl ?_
  refine SL.val (Val.notP rfl) rfl rfl ?_
  refine SL.nil (SE.seq ?_)
  refine SC.condP rfl ?_ ?_
  rotate_left
  · intro hc38
    refine SC.skip ?_
    refine SE.inBlock ?_
    refine SE.seq ?_
    refine SC.region ?_
    refine SL.val (Val.move rfl) rfl rfl ?_
    first
      | refine SL.val (Val.addI rfl rfl (by simp only [InR, lo, hi]; omega)) rfl rfl ?_
      | refine SL.val (Val.addW rfl rfl) rfl rfl ?_
    refine SL.val (Val.assign rfl) rfl rfl ?_
    refine SL.nil ?_
    have hgood : nameC (s[k]'hlt).toNat = true := by
      simp [nameC]
      omega
    exact SE.round (k + 1) (by omega) (by exact ⟨rfl, rfl, trivial⟩) (fun w' hw' => ⟨⟨hlt, fun j hj h => by
      rcases Nat.lt_or_ge j k with h2 | h2
      · exact hp j hj h2
      · obtain rfl : j = k := by omega
        exact hgood⟩, hw'⟩)
  intro hc38
  refine SC.seq (SC.region ?_)
  refine SL.val (Val.assign rfl) rfl rfl ?_
  refine SL.nil (SE.seq ?_)
  refine SC.ret ?_
  refine SE.ret ?_
  refine SE.then_ (by intro h; cases h) ?_
  refine SE.then_ (by intro h; cases h) ?_
  refine SE.ret ?_
  refine SE.then_ (by intro h; cases h) ?_
  refine SE.ret1 rfl rfl ?_
  intro w' hw'
  refine ⟨?_, hw'⟩
  congr 2
  unfold nameB
  first
    | (rw [all_at hlt (by simp [nameC]; omega)]; rfl)
    | (rw [all_all fun j hj => hp j hj (by omega)]; rw [Bool.eq_iff_iff]; simp; omega)
    | (exfalso; omega)
end
end Go.Proofs.Ytmkijjmbiiiicaa
