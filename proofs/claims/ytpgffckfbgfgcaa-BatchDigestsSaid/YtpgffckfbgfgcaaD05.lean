/-
  Packed out of the texts: A4, A5, Names.
-/
import Derived.Test.YtpgffckfbgfgcaaD04
/-
  The second engine: rows of the call's own, slices, texts; a call's begin and end.
-/
set_option maxRecDepth 100000
set_option linter.unusedSimpArgs false
set_option linter.unusedVariables false
namespace Go.Proofs.Ytpgffckfbgfgcaa.A
open Go.RowKit

/-- A row of bytes. -/
abbrev byt (l : List UInt8) : Abs := .sl 1 (l.map fun b => [.v (bc b)])
/-- A row of single cells. -/
abbrev sl1 {α : Type} (f : α → Abs) (l : List α) : Abs := .sl 1 (l.map fun b => [f b])
section
variable {K : List Nat} {w : World} {x : Value}
theorem byt_map (l : List UInt8) : (l.map fun b => [Abs.v (bc b)]) = (l.map bc).map fun u => [.v u] := by rw [List.map_map]; rfl
theorem rep_byt {l : List UInt8} : rep K w (byt l) x ↔ IsRow K w x l.length (l.map bc) := by
  constructor
  · rintro ⟨us, h1, h2⟩
    rw [byt_map] at h2
    have := repss_ones_eq h2
    subst this
    simpa using h1
  · intro h
    refine ⟨l.map bc, by simpa using h, ?_⟩
    rw [byt_map]; exact repss_ones
/-- A nil slice. -/
theorem rep_nil {s : Nat} {x : Value} (h : rep K w (.v (.slice none 0 0)) x) : rep K w (.sl s []) x := ⟨[], IsRow.nil h, rfl⟩
end
/-- A row of the call's own. -/
def ownPc (e : TypeId) (s : Nat) (v : Value) (xs : List (List Abs)) : Pc where
  ids := v.ownBlock.toList
  p := fun K w => ∃ us, w.ownsRow 0 e s v xs.length us ∧ repss K w s xs us
  carry := fun K w K' w' hc hs ⟨us, h, hr⟩ => by
    refine ⟨us, ⟨h.1, ?_⟩, repss_carry hc s xs us hr⟩
    rcases h.2 with h2 | ⟨g, cap, cur, rfl, hg, hh, hrest⟩
    · exact .inl h2
    · exact .inr ⟨g, cap, cur, rfl, hg, (hs g (by simp [Value.ownBlock])).trans hh, hrest⟩
  lt := fun K w ⟨us, h, _⟩ k hk => by
    have := World.ownsRow.lt h k (by simpa using hk)
    omega
abbrev own (e : TypeId) (s : Nat) (v : Value) (xs : List (List Abs)) : It := .pc (ownPc e s v xs)
theorem own_nodup {e : TypeId} {s : Nat} {v : Value} {xs : List (List Abs)} : (own e s v xs).mids.Nodup := by
  simp only [It.mids, ownPc]
  cases v.ownBlock <;> simp
section
variable {P : Program} {n : Nat} {W : Wd} {σ τ : Blks} {l : Slots} {X : List Nat} {x y z : Operand} {d : Option Nat} {ty t t' e : TypeId} {pos : String} {aft : Array Edge} {g : Option (Nat × Bool)} {v u : Value} {k k' : IntKind} {a b : Int} {o : Oper} {A B : Abs} {tab : List (Nat × TI)} {ops : Array Oper} {rest : List Oper} {Q : Exit → Act → World → Prop} {ix : Plan} {xs ys : List (List Abs)} {s : Nat}
theorem Mem.own0 {w0 w : World} {F G : List Nat} (h : Mem w0 F G σ w) (e : TypeId) (s : Nat) : Mem w0 F G (own e s (.slice none 0 0) [] :: σ) w ∧ Carry (mids σ ++ G) w (mids (own e s (.slice none 0 0) [] :: σ) ++ G) w :=
  h.new (Ext.refl w) own_nodup (by simp [It.mids, ownPc, Value.ownBlock]) rfl fun _ => ⟨[], ⟨by simp, .inl ⟨rfl, rfl⟩⟩, rfl⟩
theorem St.own0 {a : Act} {w : World} (h : St n W σ l a w) (e : TypeId) (s : Nat) : St n W (own e s (.slice none 0 0) [] :: σ) l a w := let ⟨h1, h2⟩ := h.mem.own0 e s; h.to h1 h2
/-- A row of the call's own, as a row that is read. -/
theorem own_sl {w0 w : World} {F G : List Nat} {pre post : Blks} (h : Mem w0 F G (pre ++ own e s v xs :: post) w) : rep (mids (pre ++ post) ++ G) w (.sl s xs) v := by
  obtain ⟨us, h1, h2⟩ : (ownPc e s v xs).p _ w := h.hold (own e s v xs) (by simp)
  have hc := (h.sub (τ := pre ++ post) (List.Sublist.append (List.Sublist.refl _) (List.sublist_cons_self _ _))).2
  refine ⟨us, ownsRow.isRow h1 fun k hk hm => ?_, repss_carry hc s xs us h2⟩
  have hk' : k ∈ (own e s v xs).mids := by simp [It.mids, ownPc, hk]
  have hnd := h.nodup
  simp only [mids_append, mids_cons, List.nodup_append] at hnd hm
  obtain ⟨n1, ⟨n2, n3, n4⟩, n5⟩ := hnd
  rcases List.mem_append.1 hm with hm | hm
  · rcases List.mem_append.1 hm with hm | hm
    · exact n5 k hm k (List.mem_append_left _ hk') rfl
    · exact n4 k hk' k hm rfl
  · exact h.sep k (by simp [mids_append, mids_cons, hk']) hm
theorem St.freeze {a : Act} {w : World} {pre post : Blks} {t : Nat} (h : St n W (pre ++ own e s v xs :: post) l a w) (hs : slot l t = some (.v v)) : St n W (pre ++ post) ((t, .sl s xs) :: l) a w := by
  have hsub : (pre ++ post).Sublist (pre ++ own e s v xs :: post) := List.Sublist.append (List.Sublist.refl _) (List.sublist_cons_self _ _)
  refine (h.less hsub).cast hs fun u hu => ?_
  have : u = v := hu
  subst this
  exact own_sl h.mem
theorem SL.freeze (pre : Blks) {post : Blks} {t : Nat} (hσ : σ = pre ++ own e s v xs :: post) (hs : slot l t = some (.v v)) (k : SL P ops rest (St n W (pre ++ post) ((t, .sl s xs) :: l)) Q) : SL P ops rest (St n W σ l) Q := by
  subst hσ; exact fun a w h => k a w (h.freeze hs)
theorem SX.freeze (pre : Blks) {post : Blks} {t : Nat} (hσ : σ = pre ++ own e s v xs :: post) (hs : slot l t = some (.v v)) (k : SX P ops ix X (St n W (pre ++ post) ((t, .sl s xs) :: l)) Q) : SX P ops ix X (St n W σ l) Q := by
  subst hσ; exact fun a w h => k a w (h.freeze hs)
theorem SE.freeze {ex : Exit} (pre : Blks) {post : Blks} {t : Nat} (hσ : σ = pre ++ own e s v xs :: post) (hs : slot l t = some (.v v)) (k : SE ex (St n W (pre ++ post) ((t, .sl s xs) :: l)) Q) : SE ex (St n W σ l) Q := by
  subst hσ; exact fun a w h => k a w (h.freeze hs)
theorem SC.freeze {c : Code} (pre : Blks) {post : Blks} {t : Nat} (hσ : σ = pre ++ own e s v xs :: post) (hs : slot l t = some (.v v)) (k : SC P c (St n W (pre ++ post) ((t, .sl s xs) :: l)) Q) : SC P c (St n W σ l) Q := by
  subst hσ; exact fun a w h => k a w (h.freeze hs)
theorem SC.own0 {c : Code} (e : TypeId) (s : Nat) (k : SC P c (St n W (own e s (.slice none 0 0) [] :: σ) l) Q) : SC P c (St n W σ l) Q := fun a w h => k a w (h.own0 e s)
theorem SL.own0 (e : TypeId) (s : Nat) (k : SL P ops rest (St n W (own e s (.slice none 0 0) [] :: σ) l) Q) : SL P ops rest (St n W σ l) Q := fun a w h => k a w (h.own0 e s)
theorem Val.lenOwn {m : Nat} (hx : look l x = some (.v v)) (hb : own e s v xs ∈ σ) (ht : P.underlying t = some (.slice e)) (hm : xs.length = m) : Val P n W σ l X ⟨d, .call { callee := .builtin .len, args := #[x], argTypes := #[t] }, ty, pos, aft, g⟩ (.v (.int .i64 m)) := Val.mk' fun a w hs _ => by
  subst hm
  obtain ⟨us, h1, _⟩ : (ownPc e s v xs).p _ w := hs.mem.hold _ hb
  refine ⟨_, rfl, fun w' _ => ?_⟩
  rcases h1.2 with ⟨rfl, h0⟩ | ⟨g, cap, cur, rfl, _⟩
  · rw [h0]; exact Proofs.Ytpgffckfbgfgcaa.Val.lenSl (by rw [hs.at2 hx, hs.plain hx]) ht
  · exact Proofs.Ytpgffckfbgfgcaa.Val.lenSl (by rw [hs.at2 hx, hs.plain hx]) ht
/-- A store of a row of the call's own. -/
theorem Eff.storeOwn (hT : TabOk P tab) {sz b o : Nat} {zs : List Value} {cs L' : List Abs} (ht : ti tab t = some ⟨sz, .one, zs⟩) (h1 : Nat.beq sz 1 = true) (hx : look l x = some (.v (.pointer (some ⟨b, o, none⟩)))) (hy : look l y = some (.v v)) (hb : own e s v xs ∈ σ) (hu : Upd (.blk b t' cs) (.blk b t' L') σ τ) (hn : Nat.blt o cs.length = true) (hL : putL cs o [.v v] = L') :
    Eff P n W σ l [b] ⟨d, .store t x y, ty, pos, aft, g⟩ fun u τ' => u = .v undef ∧ τ' = τ := fun a w hs => by
  obtain ⟨us, h2, _⟩ : (ownPc e s v xs).p _ w := hs.mem.hold _ hb
  have h1 := Nat.eq_of_beq_eq_true h1
  subst h1
  have hn : o < cs.length := by simpa [Nat.blt_eq] using hn
  have hsl : ∃ A n c, v = .slice A n c := by
    rcases h2.2 with ⟨h, _⟩ | ⟨g, cap, cur, h, _⟩
    · exact ⟨_, _, _, h⟩
    · exact ⟨_, _, _, h⟩
  obtain ⟨A', n', c', rfl⟩ := hsl
  exact Eff.store hT ht hx hy hu rfl (by show o + 1 ≤ _; omega) rfl hL a w hs
/-- 'append(dst, src...)': dst the call's own, src a row that is read. -/
theorem Eff.append (hT : TabOk P tab) {i : TI} (pre : Blks) {post : Blks} (hu : P.underlying t = some (.slice e)) (hi : ti tab e = some i) (hpos : Nat.blt 0 i.size = true) (hsz : Nat.beq s i.size = true)
    (hx : look l x = some (.v v)) (hy : look l y = some (.sl s ys)) (hσ : σ = pre ++ own e s v xs :: post) (h1 : ∀ c ∈ ys, ones c = true) (hm : xs.length + ys.length ≤ maxLen) (hby : (xs.length + ys.length) * P.bytesOf e ≤ 140737488355328) :
    Eff P n W σ l v.ownBlock.toList ⟨d, .call { callee := .builtin .append, args := #[x, y], argTypes := #[t, t] }, ty, pos, aft, g⟩ fun r τ => ∃ u, r = .v u ∧ τ = pre ++ own e s u (xs ++ ys) :: post := fun a w hs => by
  subst hσ
  have hsz := Nat.eq_of_beq_eq_true hsz
  subst hsz
  obtain ⟨us, own1, hr1⟩ : (ownPc e i.size v xs).p _ w := hs.mem.hold (own e i.size v xs) (by simp)
  obtain ⟨news, hrow, hr2⟩ := hs.eval hy
  obtain ⟨A', c', hsh, _⟩ := hrow.shape
  have hone : ∀ u ∈ news, u.oneCell' = true := by
    have aux : ∀ (ys : List (List Abs)) (news : List Value), (∀ c ∈ ys, ones c = true) → repss (mids (pre ++ own e i.size v xs :: post) ++ W.G) w i.size ys news → ∀ u ∈ news, u.oneCell' = true := by
      intro ys
      induction ys with
      | nil => intro news _ h u hu; have : news = [] := h; subst this; cases hu
      | cons c ys ih =>
        rintro news ho ⟨u1, u2, rfl, _, h3, h4⟩ u hu
        rcases List.mem_append.1 hu with hu | hu
        · exact ones_reps h3 (ho c (by simp)) u hu
        · exact ih u2 (fun c hc => ho c (by simp [hc])) h4 u hu
    exact aux ys news h1 hr2
  have hrow' := hrow
  rw [hsh] at hrow'
  obtain ⟨v', w', hrun, h2, h3, h4⟩ := run_appendRow (ty := ty) hT hu hi hby hpos own1 hrow' (repss_length hr2) hone hm
  have hlt := World.ownsRow.lt own1
  have hxx : Ext v.ownBlock.toList w w' := ext_grownF h3 fun k hk => .inl (by simpa using hk)
  have hup : Upd (own e i.size v xs) (own e i.size v' (xs ++ ys)) (pre ++ own e i.size v xs :: post) (pre ++ own e i.size v' (xs ++ ys) :: post) := by
    clear hs own1 hr1 hrow hr2 hrow'
    induction pre with
    | nil => exact .here
    | cons p pre ih => exact .there ih
  have hm2 := hs.mem.upd hup hxx own_nodup (fun k hk => ?_) rfl fun hc => ⟨_, by rw [List.length_append]; exact h2, repss_append (repss_carry hc _ _ _ hr1) (repss_carry hc _ _ _ hr2)⟩
  · refine ⟨v', w', _, _, ⟨v', rfl, rfl⟩, hxx, rfl, hm2.1, hm2.2, .inl ?_⟩
    simp [execOp, resolve, invoke, builtin, hs.plain hx, hsh, hrun, Result.andThen]
  · have hk' : v'.ownBlock = some k := by simpa [It.mids, ownPc] using hk
    rcases h4 with h4 | h4
    · exact .inl (by simp [It.mids, ownPc, ← h4, hk'])
    · rw [h4] at hk'; simp at hk'; exact .inr (by omega)
/-- The same, its row said otherwise. -/
theorem Eff.appendE (hT : TabOk P tab) {i : TI} (pre : Blks) {post : Blks} {zs : List (List Abs)} (hz : xs ++ ys = zs) (hu : P.underlying t = some (.slice e)) (hi : ti tab e = some i) (hpos : Nat.blt 0 i.size = true) (hsz : Nat.beq s i.size = true)
    (hx : look l x = some (.v v)) (hy : look l y = some (.sl s ys)) (hσ : σ = pre ++ own e s v xs :: post) (h1 : ∀ c ∈ ys, ones c = true) (hm : xs.length + ys.length ≤ maxLen) (hby : (xs.length + ys.length) * P.bytesOf e ≤ 140737488355328) :
    Eff P n W σ l v.ownBlock.toList ⟨d, .call { callee := .builtin .append, args := #[x, y], argTypes := #[t, t] }, ty, pos, aft, g⟩ fun r τ => ∃ u, r = .v u ∧ τ = pre ++ own e s u zs :: post := hz ▸ Eff.append hT pre hu hi hpos hsz hx hy hσ h1 hm hby
/-- The parts of a slice's literal, each an element. -/
def inOrder : Nat → List (Nat × Abs) → Bool
  | _, [] => true
  | i, (j, _) :: l => Nat.beq i j && inOrder (i + 1) l
def elems (s : Nat) : List (Nat × Abs) → Option (List (List Abs))
  | [] => some []
  | (_, y) :: l => match elems s l with
    | some xs => bif Nat.beq (cellsA y).length s then some (cellsA y :: xs) else none
    | none => none
theorem fill_elems {K : List Nat} {w : World} (s : Nat) : ∀ (vs : List (Nat × Abs)) (us : List (Nat × Value)) (i : Nat) (xs : List (List Abs)) (cv : List Value), vs.map (·.1) = us.map (·.1) → inOrder i vs = true → elems s vs = some xs → reps K w (vs.map (·.2)) (us.map (·.2)) → cv.length = (i + vs.length) * s →
    fillL (fun j => some (j * s, s)) cv us = some (cv.take (i * s) ++ us.flatMap fun p => cellsL p.2) ∧ repss K w s xs (us.flatMap fun p => cellsL p.2)
  | [], us, i, xs, cv, h1, _, h2, _, h4 => by
    simp [elems] at h2
    subst h2
    cases us with
    | nil => exact ⟨by rw [List.take_of_length_le (by simp at h4; omega)]; simp [fillL], rfl⟩
    | cons _ _ => simp at h1
  | (j, y) :: vs, us, i, xs, cv, h1, h0, h2, h3, h4 => by
    cases us with
    | nil => simp at h1
    | cons p us =>
      obtain ⟨i', u⟩ := p
      simp only [List.map_cons, List.cons.injEq] at h1
      obtain ⟨rfl, h1⟩ := h1
      obtain ⟨u', us', h5, h6, h7⟩ := h3
      simp only [List.map_cons, List.cons.injEq] at h5
      obtain ⟨rfl, rfl⟩ := h5
      simp only [inOrder, Bool.and_eq_true] at h0
      have hj := Nat.eq_of_beq_eq_true h0.1
      subst hj
      unfold elems at h2
      cases he : elems s vs with
      | none => simp [he] at h2
      | some xs' =>
        simp only [he] at h2
        cases hb : Nat.beq (cellsA y).length s with
        | false => rw [hb] at h2; simp at h2
        | true =>
          rw [hb] at h2
          simp only [cond_true, Option.some.injEq] at h2
          subst h2
          have hb := Nat.eq_of_beq_eq_true hb
          have hc := cellsA_rep h6
          have l1 : (cellsL u).length = (cellsA y).length := reps_length hc
          simp only [List.length_cons] at h4
          have e0 : (i + (vs.length + 1)) * s = i * s + s + vs.length * s := by rw [← Nat.add_assoc, Nat.succ_mul, Nat.add_mul]; omega
          have e1 : (i + 1) * s = i * s + s := Nat.succ_mul i s
          have e2 : (i + 1 + vs.length) * s = i * s + s + vs.length * s := by rw [Nat.add_mul, e1]
          have hle : i * s + s ≤ cv.length := by omega
          have hmin : min (i * s) cv.length = i * s := by omega
          have hmin2 : (List.take (i * s) cv).length = i * s := by rw [List.length_take]; exact hmin
          unfold fillL
          dsimp only
          have hbb : (Nat.beq (cellsL u).length s && Nat.ble (i * s + s) cv.length) = true := by
            rw [Bool.and_eq_true]
            exact ⟨by rw [l1, hb]; simp, Nat.ble_eq.symm ▸ hle⟩
          rw [hbb]
          simp only [cond_true]
          obtain ⟨h8, h9⟩ := fill_elems s vs us (i + 1) xs' (putAt cv (i * s) (cellsL u)) h1 h0.2 he h7 (by
            rw [putAt_eq _ _ _ (by omega), List.length_append, List.length_append, hmin2, List.length_drop]; omega)
          refine ⟨?_, _, _, rfl, l1.trans hb, hc, h9⟩
          have h10 : List.take ((i + 1) * s) (List.take (i * s) cv ++ cellsL u ++ List.drop (i * s + (cellsL u).length) cv) = List.take (i * s) cv ++ cellsL u := by
            rw [List.take_append_of_le_length (by rw [List.length_append, hmin2]; omega), List.take_of_length_le (by rw [List.length_append, hmin2]; omega)]
          rw [h8, putAt_eq _ _ _ (by omega), h10, List.flatMap_cons, ← List.append_assoc]
theorem build_core (hT : TabOk P tab) {i : TI} {len : Nat} {ps : List (Nat × Operand)} {vs : List (Nat × Abs)} (hu : P.underlying t = some (.slice e)) (hi : ti tab e = some i) (hps : evalParts l ps = some vs) (hin : inOrder 0 vs = true) (he : elems i.size vs = some xs) (hlen : Nat.beq vs.length len = true) (hsz : Nat.ble (len * i.size) 16777216 = true) (hpos : Nat.blt 0 i.size = true) {a : Act} {w : World} (hs : St n W σ l a w) :
    ∃ b w' L', Ext [] w w' ∧ w'.heap[b]? = some (row e L') ∧ w.heap.size ≤ b ∧ repss (mids σ ++ W.G) w i.size xs L' ∧ xs.length = len ∧ len ≤ maxLen ∧ (execOp a.eval ⟨d, .buildSlice t len ps.toArray, ty, pos, aft, g⟩).run P w = .ok (.value (.slice (some ⟨b, 0, none⟩) len len)) w' := by
  obtain ⟨h1, h2, h3⟩ := evalParts2 hs hps
  have hlen := Nat.eq_of_beq_eq_true hlen
  subst hlen
  have hsz' := Nat.le_of_ble_eq_true hsz
  have hpos : 0 < i.size := by simpa [Nat.blt_eq] using hpos
  have hxl : ∀ (vs : List (Nat × Abs)) (xs : List (List Abs)), elems i.size vs = some xs → xs.length = vs.length := by
    intro vs
    induction vs with
    | nil => intro xs h; simp [elems] at h; subst h; rfl
    | cons p vs ih =>
      obtain ⟨j, y⟩ := p
      intro xs h
      unfold elems at h
      cases he : elems i.size vs with
      | none => simp [he] at h
      | some xs' =>
        simp only [he] at h
        cases hb : Nat.beq (cellsA y).length i.size <;> rw [hb] at h <;> simp at h
        subst h
        simp [ih xs' he]
  generalize hLd : ((ps.map fun p => (p.1, a.eval p.2)).flatMap fun p => cellsL p.2) = L'
  have key : ∀ L0 : List Value, L0.length = vs.length * i.size → fillL (fun j => some (j * i.size, i.size)) L0 (ps.map fun p => (p.1, a.eval p.2)) = some L' := fun L0 hL0 => by
    have h8 := (fill_elems (K := mids σ ++ W.G) (w := w) i.size vs (ps.map fun p => (p.1, a.eval p.2)) 0 xs L0 (by rw [List.map_map]; exact h2) hin he (by rw [List.map_map]; exact h3) (by rw [Nat.zero_add]; exact hL0)).1
    rw [Nat.zero_mul, List.take_zero, List.nil_append, hLd] at h8
    exact h8
  have hr : repss (mids σ ++ W.G) w i.size xs L' := by
    have h8 := (fill_elems (K := mids σ ++ W.G) (w := w) i.size vs (ps.map fun p => (p.1, a.eval p.2)) 0 xs (List.replicate (vs.length * i.size) undef) (by rw [List.map_map]; exact h2) hin he (by rw [List.map_map]; exact h3) (by simp)).2
    rw [hLd] at h8
    exact h8
  obtain ⟨v', w', C', ⟨b, rfl, rfl⟩, hC', hrun⟩ := lift_eff (C := Proofs.Ytpgffckfbgfgcaa.Mem [(w, [])] [] []) hs (Proofs.Ytpgffckfbgfgcaa.Eff.buildSlice (P := P) (n := n) (S := [(w, [])]) (σ := []) (ρ := []) (d := d) (ty := ty) (pos := pos) (aft := aft) (g := g) hT hu hi h1 key hsz) (Proofs.Ytpgffckfbgfgcaa.Mem.start w)
  have hx0 : Ext [] w w' := hC'.ext (w, []) (by simp)
  have hb : w'.heap[b]? = some (row e L') := hC'.holds (by simp)
  have hbn : w.heap.size ≤ b := by
    have := hC'.out _ (List.mem_cons_self) b (by simp [Proofs.Ytpgffckfbgfgcaa.It.ids]) (w, []) (by simp)
    simpa using this
  have hml : vs.length ≤ maxLen := by unfold maxLen; have : vs.length ≤ vs.length * i.size := Nat.le_mul_of_pos_right _ hpos; omega
  rcases hrun with hrun | ⟨h0, _⟩
  · exact ⟨b, w', L', hx0, hb, hbn, hr, hxl vs xs he, hml, hrun⟩
  · cases h0
/-- A slice's literal, that is only read from then on. -/
theorem Eff.buildSl (hT : TabOk P tab) {i : TI} {len : Nat} {ps : List (Nat × Operand)} {vs : List (Nat × Abs)} (hu : P.underlying t = some (.slice e)) (hi : ti tab e = some i) (hps : evalParts l ps = some vs) (hin : inOrder 0 vs = true) (he : elems i.size vs = some xs) (hlen : Nat.beq vs.length len = true) (hsz : Nat.ble (len * i.size) 16777216 = true) (hpos : Nat.blt 0 i.size = true) :
    Eff P n W σ l [] ⟨d, .buildSlice t len ps.toArray, ty, pos, aft, g⟩ fun r τ => r = .sl i.size xs ∧ τ = σ := fun a w hs => by
  obtain ⟨b, w', L', hx0, hb, hbn, hr, hxl, hml, hrun⟩ := build_core (d := d) (ty := ty) (pos := pos) (aft := aft) (g := g) hT hu hi hps hin he hlen hsz hpos hs
  obtain ⟨hm, hc⟩ := hs.mem.same hx0
  refine ⟨_, w', _, _, ⟨rfl, rfl⟩, hx0, ⟨L', ⟨⟨_, len, by rw [hxl], by omega, hml, by simp⟩, fun hn => ⟨b, 0, len, len, rfl, fun hk => ?_, fun j u hj => by rw [Nat.zero_add, mem_cell hb]; exact hj⟩⟩, repss_carry hc _ _ _ hr⟩, hm, hc, .inl hrun⟩
  have := hs.mem.lt b hk
  omega
/-- A slice's literal, as a row of the call's own. -/
theorem Eff.buildOwn (hT : TabOk P tab) {i : TI} {len : Nat} {ps : List (Nat × Operand)} {vs : List (Nat × Abs)} (hu : P.underlying t = some (.slice e)) (hi : ti tab e = some i) (hps : evalParts l ps = some vs) (hin : inOrder 0 vs = true) (he : elems i.size vs = some xs) (hlen : Nat.beq vs.length len = true) (hsz : Nat.ble (len * i.size) 16777216 = true) (hpos : Nat.blt 0 i.size = true) :
    Eff P n W σ l [] ⟨d, .buildSlice t len ps.toArray, ty, pos, aft, g⟩ fun r τ => ∃ u, r = .v u ∧ τ = own e i.size u xs :: σ := fun a w hs => by
  obtain ⟨b, w', L', hx0, hb, hbn, hr, hxl, hml, hrun⟩ := build_core (d := d) (ty := ty) (pos := pos) (aft := aft) (g := g) hT hu hi hps hin he hlen hsz hpos hs
  have hll := repss_length hr
  obtain ⟨hm, hc⟩ := hs.mem.new (y := own e i.size (.slice (some ⟨b, 0, none⟩) len len) xs) hx0 own_nodup (by simpa [It.mids, ownPc, Value.ownBlock] using hbn) rfl fun hc => ⟨L', ⟨by rw [hll], .inr ⟨b, len, L'.toArray, by rw [hxl], Nat.zero_le _, hb, by omega, hml, by simp [hll, hxl], by rw [List.take_of_length_le (by simp [hll])]⟩⟩, repss_carry hc _ _ _ hr⟩
  exact ⟨_, w', _, _, ⟨_, rfl, rfl⟩, hx0, rfl, hm, hc, .inl hrun⟩
end
end Go.Proofs.Ytpgffckfbgfgcaa.A
/-
  The second engine: slices of rows, a call's begin and end, contracts of the first engine.
-/
set_option maxRecDepth 100000
set_option linter.unusedSimpArgs false
set_option linter.unusedVariables false
namespace Go.Proofs.Ytpgffckfbgfgcaa.A
open Go.RowKit

section
variable {K : List Nat} {w : World} {s : Nat}
theorem repss_drop {xs : List (List Abs)} {us : List Value} (h : repss K w s xs us) (q : Nat) (hq : q ≤ xs.length) : repss K w s (xs.drop q) (us.drop (q * s)) ∧ repss K w s (xs.take q) (us.take (q * s)) := by
  have h1 := h
  rw [← List.take_append_drop q xs] at h1
  obtain ⟨u1, u2, rfl, h2, h3⟩ := repss_split h1
  have hl : u1.length = q * s := by rw [repss_length h2, List.length_take, Nat.min_eq_left hq]
  rw [← hl]
  simp [h2, h3]
theorem IsRow.tailN {A : Option Addr} {m c q : Nat} {us : List Value} (h : IsRow K w (.slice A m c) m us) (hq : q ≤ m) (hl : us.length = m * s) : IsRow K w (.slice (if c = q then A else A.map (·.add (q * s))) (m - q) (c - q)) (m - q) (us.drop (q * s)) := by
  obtain ⟨A', c', hv, h1, h2, h3⟩ := h.shape
  simp at hv
  obtain ⟨rfl, rfl⟩ := hv
  refine ⟨⟨_, c - q, rfl, by omega, by omega, fun hA => ?_⟩, fun hn => ?_⟩
  · split at hA
    · have := h3 hA; omega
    · cases A with
      | none => have := h3 rfl; omega
      | some a => simp at hA
  · have hlt : q < m := by
      rcases Nat.lt_or_ge q m with h4 | h4
      · exact h4
      · have : q = m := by omega
        subst this
        exact absurd (List.drop_eq_nil_of_le (by omega)) hn
    obtain ⟨b, off, n', c2, hv, hb, hc⟩ := h.cells (by rintro rfl; simp at hn)
    simp at hv
    obtain ⟨rfl, rfl, rfl⟩ := hv
    refine ⟨b, off + q * s, m - q, c - q, by rw [if_neg (by omega)]; simp [Addr.add_none], hb, fun j u hu => ?_⟩
    rw [List.getElem?_drop] at hu
    rw [Nat.add_assoc]; exact hc _ u hu
theorem IsRow.headN {A : Option Addr} {m c q : Nat} {us : List Value} (h : IsRow K w (.slice A m c) m us) (hq : q ≤ m) (k : Nat) (hk : q ≤ k) (hkc : k ≤ c) (hkA : A = none → k = 0) : IsRow K w (.slice A q k) q (us.take (q * s)) := by
  obtain ⟨A', c', hv, h1, h2, h3⟩ := h.shape
  simp at hv
  obtain ⟨rfl, rfl⟩ := hv
  refine ⟨⟨_, k, rfl, hk, by omega, hkA⟩, fun hn => ?_⟩
  obtain ⟨b, off, n', c2, hv, hb, hc⟩ := h.cells (by rintro rfl; simp at hn)
  simp at hv
  obtain ⟨rfl, rfl, rfl⟩ := hv
  refine ⟨b, off, q, k, rfl, hb, fun j u hu => ?_⟩
  rw [List.getElem?_take] at hu
  split at hu
  · exact hc j u hu
  · cases hu
end
section
variable {P : Program} {n : Nat} {W : Wd} {σ τ : Blks} {l : Slots} {X : List Nat} {x y z : Operand} {d : Option Nat} {ty t t' e : TypeId} {pos : String} {aft : Array Edge} {g : Option (Nat × Bool)} {v u : Value} {k k' : IntKind} {a b r : Int} {o : Oper} {A B : Abs} {tab : List (Nat × TI)} {xs ys : List (List Abs)} {s q : Nat} {fn : Func}
/-- 's[q:]' -/
theorem Val.sliceLo (hT : TabOk P tab) {i : TI} (hu : P.underlying t = some (.slice e)) (hi : ti tab e = some i) (hsz : Nat.beq s i.size = true) (hx : look l x = some (.sl s xs)) (hy : look l y = some (.v (.int k r))) (hr : r = (q : Nat)) (hq : q ≤ xs.length) :
    Val P n W σ l X ⟨d, .slice t x (some y) none none, ty, pos, aft, g⟩ (.sl s (xs.drop q)) := fun a w hs _ => by
  subst hr
  have hsz := Nat.eq_of_beq_eq_true hsz
  subst hsz
  obtain ⟨us, h1, h2⟩ := hs.eval hx
  obtain ⟨A', c, hsh, h3, h4, h5⟩ := h1.shape
  rw [hsh] at h1
  have h6 := IsRow.tailN h1 hq (repss_length h2)
  refine ⟨_, ⟨_, by rw [List.length_drop]; exact h6, (repss_drop h2 q hq).1⟩, fun w' _ => ?_⟩
  have h7 := (hT _ _ hi).sizeOf (w := w')
  simp [execOp, Instr.sliceAt, Instr.slice, Instr.sliceBounds, Instr.sliceBound, asIntOf, hsh, hs.plain hy, run_underlying hu, Sem.run_bind, Result.andThen, h7, hq]
/-- 's[:q]' -/
theorem Val.sliceHi (hT : TabOk P tab) {i : TI} (hu : P.underlying t = some (.slice e)) (hi : ti tab e = some i) (hsz : Nat.beq s i.size = true) (hx : look l x = some (.sl s xs)) (hy : look l y = some (.v (.int k r))) (hr : r = (q : Nat)) (hq : q ≤ xs.length) :
    Val P n W σ l X ⟨d, .slice t x none (some y) none, ty, pos, aft, g⟩ (.sl s (xs.take q)) := fun a w hs _ => by
  subst hr
  have hsz := Nat.eq_of_beq_eq_true hsz
  subst hsz
  obtain ⟨us, h1, h2⟩ := hs.eval hx
  obtain ⟨A', c, hsh, h3, h4, h5⟩ := h1.shape
  rw [hsh] at h1
  have h6 := IsRow.headN (s := i.size) h1 hq c (by omega) (Nat.le_refl _) h5
  refine ⟨.slice A' q c, ⟨_, by rw [List.length_take, Nat.min_eq_left hq]; exact h6, (repss_drop h2 q hq).2⟩, fun w' _ => ?_⟩
  have h7 := (hT _ _ hi).sizeOf (w := w')
  have hA : (if (c : Int) = 0 then A' else A'.map (·.add (0 * i.size))) = A' := by
    cases A' <;> simp [Addr.add]
  have hqc : q ≤ c := by omega
  have hA2 : (if c = 0 then A' else A'.map fun x => x.add 0) = A' := by cases A' <;> simp [Addr.add]
  simp [execOp, Instr.sliceAt, Instr.slice, Instr.sliceBounds, Instr.sliceBound, asIntOf, hsh, hs.plain hy, run_underlying hu, Sem.run_bind, Result.andThen, h7, hqc, Addr.add]
  try (cases A' <;> simp)

/-! ### A call's begin and end -/
def args0 : List Abs → Nat → Slots
  | [], _ => []
  | v :: vs, i => (i, v) :: args0 vs (i + 1)
theorem slot_args0 : ∀ (vs : List Abs) (i t : Nat) (v : Abs), slot (args0 vs i) t = some v → i ≤ t ∧ vs[t - i]? = some v
  | [], i, t, v, h => by simp [args0, slot] at h
  | u :: vs, i, t, v, h => by
    unfold args0 slot at h
    by_cases hit : i = t
    · subst hit
      simp at h
      subst h
      simp
    · rw [beq_ne hit] at h
      obtain ⟨h1, h2⟩ := slot_args0 vs (i + 1) t v h
      refine ⟨by omega, ?_⟩
      rw [show t - i = (t - (i + 1)) + 1 by omega]
      simpa using h2
section
variable {ι : Type} {τ' : ι → Blks} {res : ι → Abs} {args : List Abs}
/-- What a contract's end says. -/
def Post (G : List Nat) (σ : Blks) (τ' : ι → Blks) (res : ι → Abs) (w : World) (e : Ending) (w' : World) : Prop :=
  ∃ z r, e = .returned r ∧ (∀ x ∈ τ' z, x.rids = []) ∧ Mem w (mids σ) G (τ' z) w' ∧ rep (mids (τ' z) ++ G) w' (res z) r
/-- A call is its body, from its arguments on. -/
theorem spec_of {f : FuncId} {c : Code} (hf : P.funcs[f]? = some fn) (hb : fn.body = some c) (hn : fn.ntmps = n) (hle : Nat.ble args.length n = true)
    (h : ∀ G w, SC P c (St n ⟨w, mids σ, G⟩ σ (args0 args 0)) (bodyPost P fn (Post G σ τ' res w))) : Spec P f args σ τ' res := fun G w vals hm hv => by
  have hlen := reps_length hv
  refine calls_of vals hf hb hn (by rw [hlen]; exact hle) (fun w1 => w1 = w) rfl fun a w1 hfr hw => ?_
  subst hw
  refine h G w1 a w1 ⟨hfr.defers, hfr.size, fun t x hx => ?_, hm⟩
  have h1 := (slot_args0 args 0 t x hx).2
  rw [Nat.sub_zero] at h1
  obtain ⟨u, h2, h3⟩ := reps_get hv h1
  refine ⟨u, hfr.at_ t u ?_, h3⟩
  have h4 := slot_full vals 0 t u h2
  rw [Nat.zero_add] at h4
  exact h4
/-- What the results are. -/
inductive RV (P : Program) (n : Nat) (W : Wd) (σ : Blks) (l : Slots) : List ResultVar → List Abs → Prop
  | nil : RV P n W σ l [] []
  | tmp {t : Nat} {v : Abs} {rs : List ResultVar} {vs : List Abs} (h : slot l t = some v) (k : RV P n W σ l rs vs) : RV P n W σ l (.tmp t :: rs) (v :: vs)
  | cell {p ty b : Nat} {v : Abs} {rs : List ResultVar} {vs : List Abs} (h : slot l p = some (.v (.pointer (some ⟨b, 0, none⟩)))) (hv : ∀ a w, St n W σ l a w → ∃ u, rep (mids σ ++ W.G) w v u ∧ (loadVar ty ⟨b, 0, none⟩).run P w = .ok u w) (k : RV P n W σ l rs vs) : RV P n W σ l (.cell p ty :: rs) (v :: vs)
theorem RV.run {rs : List ResultVar} {vs : List Abs} (h : RV P n W σ l rs vs) {a : Act} {w : World} (hs : St n W σ l a w) : ∃ us, reps (mids σ ++ W.G) w vs us ∧ (rs.mapM (resV a.tmps)).run P w = .ok us w := by
  induction h with
  | nil => exact ⟨[], rfl, rfl⟩
  | @tmp t v rs vs h _ ih =>
    obtain ⟨us, h3, h4⟩ := ih
    obtain ⟨u, h1, h2⟩ := hs.slots t v h
    have h5 : (resV a.tmps (.tmp t)).run P w = .ok u w := by simp [resV, h1]
    exact ⟨u :: us, ⟨u, us, rfl, h2, h3⟩, by simp only [List.mapM_cons, Sem.run_bind, h5, Result.andThen_ok, h4, Sem.run_pure]⟩
  | @cell q ty b v rs vs h hv _ ih =>
    obtain ⟨us, h3, h4⟩ := ih
    obtain ⟨u, h1, h2⟩ := hv a w hs
    obtain ⟨p, h6, h7⟩ := hs.slots q _ h
    have h8 : p = .pointer (some ⟨b, 0, none⟩) := h7
    subst h8
    have h5 : (resV a.tmps (.cell q ty)).run P w = .ok u w := by simp [resV, h6, asAddr]; exact h2
    exact ⟨u :: us, ⟨u, us, rfl, h1, h3⟩, by simp only [List.mapM_cons, Sem.run_bind, h5, Result.andThen_ok, h4, Sem.run_pure]⟩
theorem RV.cell1 (hT : TabOk P tab) {sz b : Nat} {zs : List Value} {cs : List Abs} (ht : ti tab t = some ⟨sz, .one, zs⟩) (hb : isBlk σ b t' cs) (hv : cs[0]? = some A) : ∀ a w, St n W σ l a w → ∃ u, rep (mids σ ++ W.G) w A u ∧ (loadVar t ⟨b, 0, none⟩).run P w = .ok u w := fun a w hs => by
  obtain ⟨us, h1, h2⟩ := hs.mem.blk hb
  obtain ⟨u, h3, h4⟩ := reps_get h2 hv
  have h5 := (hT t _ ht).isAgg (w := w)
  exact ⟨u, h4, by simp [loadVar, Sem.run_bind, h5, Result.andThen, load, Sem.run, mem_cell h1 0, h3]⟩
theorem RV.cellA (hT : TabOk P tab) {i : TI} {b : Nat} {cs : List Abs} (ht : ti tab t = some i) (hk : (match i.k with | .one => false | _ => true) = true) (hb : isBlk σ b t' cs) (hl : cs.length = i.size) : ∀ a w, St n W σ l a w → ∃ u, rep (mids σ ++ W.G) w (.agg cs) u ∧ (loadVar t ⟨b, 0, none⟩).run P w = .ok u w := fun a w hs => by
  obtain ⟨us, h1, h2⟩ := hs.mem.blk hb
  exact ⟨_, ⟨us, rfl, h2⟩, run_loadAgg hT ht hk (by rw [reps_length h2]; exact hl) fun j u hu => by rw [Nat.zero_add, mem_cell h1]; exact hu⟩
def retA : List Abs → Abs
  | [v] => v
  | vs => .tup vs
theorem ret_rep {K : List Nat} {w : World} : ∀ {vs : List Abs} {us : List Value}, reps K w vs us → rep K w (retA vs) (retOf us)
  | [], us, h => by have : us = [] := h; subst this; exact ⟨[], rfl, rfl⟩
  | [v], us, ⟨u, us', h1, h2, h3⟩ => by have : us' = [] := h3; subst this h1; exact h2
  | v :: v2 :: vs, us, h => by
    obtain ⟨u, us', h1, h2, u2, us2, h3, h4, h5⟩ := id h
    subst h1 h3
    exact ⟨_, rfl, h⟩
theorem RV.results {rs : List ResultVar} {vs : List Abs} (hr : fn.results = rs.toArray) (h : RV P n W σ l rs vs) {a : Act} {w : World} (hs : St n W σ l a w) : ∃ us, reps (mids σ ++ W.G) w vs us ∧ (results fn a.tmps).run P w = .ok (retOf us) w := by
  obtain ⟨us, h1, h2⟩ := h.run hs
  refine ⟨us, h1, ?_⟩
  rw [results_eq, hr, Array.mapM_eq_mapM_toList, Sem.run_bind, Sem.run_map]
  dsimp only
  rw [h2]
  match us with
  | [] => rfl
  | [v] => rfl
  | v :: u :: vs => simp [retOf, Result.andThen]
theorem SE.retG {R : Ending → World → Prop} {rs : List ResultVar} {vs : List Abs} (hr : fn.results = rs.toArray) (h : RV P n W σ l rs vs) (k : ∀ a w us, St n W σ l a w → reps (mids σ ++ W.G) w vs us → R (.returned (retOf us)) w) : SE .ret (St n W σ l) (bodyPost P fn R) := fun a w hs => by
  obtain ⟨us, h1, h2⟩ := h.results hr hs
  exact ⟨hs.defers, _, h2, k a w us hs h1⟩
theorem SE.doneG {R : Ending → World → Prop} {rs : List ResultVar} {vs : List Abs} (hr : fn.results = rs.toArray) (h : RV P n W σ l rs vs) (k : ∀ a w us, St n W σ l a w → reps (mids σ ++ W.G) w vs us → R (.returned (retOf us)) w) : SE .normal (St n W σ l) (bodyPost P fn R) := fun a w hs => by
  obtain ⟨us, h1, h2⟩ := h.results hr hs
  exact ⟨hs.defers, _, h2, k a w us hs h1⟩
theorem post_of {G : List Nat} {w0 : World} {σ0 : Blks} {vs : List Abs} (z : ι) (hsub : (τ' z).Sublist σ) (hro : ∀ x ∈ τ' z, x.rids = []) (hres : retA vs = res z) {a : Act} {w : World} {us : List Value} (hs : St n ⟨w0, mids σ0, G⟩ σ l a w) (hv : reps (mids σ ++ G) w vs us) : Post G σ0 τ' res w0 (.returned (retOf us)) w := by
  obtain ⟨h1, h2⟩ := hs.mem.sub hsub
  exact ⟨z, _, rfl, hro, h1, hres ▸ ret_rep (reps_carry h2 _ _ hv)⟩
/-- The end of a contract: z tells which pieces and which value come of it. -/
theorem SE.fin {G : List Nat} {w0 : World} {σ0 : Blks} {rs : List ResultVar} {vs : List Abs} (hr : fn.results = rs.toArray) (h : RV P n ⟨w0, mids σ0, G⟩ σ l rs vs) (z : ι) (hsub : (τ' z).Sublist σ) (hro : ∀ x ∈ τ' z, x.rids = []) (hres : retA vs = res z) : SE .ret (St n ⟨w0, mids σ0, G⟩ σ l) (bodyPost P fn (Post G σ0 τ' res w0)) :=
  SE.retG hr h fun _ _ _ hs hv => post_of z hsub hro hres hs hv
/-- The same, the results said otherwise. -/
theorem SE.finC {G : List Nat} {w0 : World} {σ0 : Blks} {rs : List ResultVar} {vs vs2 : List Abs} (hr : fn.results = rs.toArray) (h : RV P n ⟨w0, mids σ0, G⟩ σ l rs vs) (hca : Casts vs vs2) (z : ι) (hsub : (τ' z).Sublist σ) (hro : ∀ x ∈ τ' z, x.rids = []) (hres : retA vs2 = res z) : SE .ret (St n ⟨w0, mids σ0, G⟩ σ l) (bodyPost P fn (Post G σ0 τ' res w0)) :=
  SE.retG hr h fun _ _ _ hs hv => post_of z hsub hro hres hs (hca _ _ _ hv)
theorem cast_agg {cs ds : List Abs} (h : Casts cs ds) : ∀ K w u, rep K w (.agg cs) u → rep K w (.agg ds) u := fun K w _ ⟨us, h1, h2⟩ => ⟨us, h1, h K w us h2⟩
theorem Casts.nils {s : Nat} {xs ys : List Abs} (k : Casts xs ys) : Casts (.v (.slice none 0 0) :: xs) (.sl s [] :: ys) := k.cons fun _ _ _ h => rep_nil h
theorem SE.finN {G : List Nat} {w0 : World} {σ0 : Blks} {rs : List ResultVar} {vs : List Abs} (hr : fn.results = rs.toArray) (h : RV P n ⟨w0, mids σ0, G⟩ σ l rs vs) (z : ι) (hsub : (τ' z).Sublist σ) (hro : ∀ x ∈ τ' z, x.rids = []) (hres : retA vs = res z) : SE .normal (St n ⟨w0, mids σ0, G⟩ σ l) (bodyPost P fn (Post G σ0 τ' res w0)) :=
  SE.doneG hr h fun _ _ _ hs hv => post_of z hsub hro hres hs hv
end

/-! ### Contracts of the first engine -/
/-- The blocks of K in the world w, as they were, as a piece of the first engine. -/
def old2 (w : World) (K : List Nat) : Proofs.Ytpgffckfbgfgcaa.It := .pc
  { ids := (List.range w.heap.size).filter fun k => decide (k ∈ K)
    p := fun w' => w.heap.size ≤ w'.heap.size ∧ ∀ k, k < w.heap.size → k ∈ K → w'.heap[k]? = w.heap[k]?
    st := fun F w1 w2 hx hF h => ⟨Nat.le_trans h.1 hx.size, fun k hk hm => (hx.block k (Nat.lt_of_lt_of_le hk h.1) (hF k (by simp [hk, hm]))).trans (h.2 k hk hm)⟩
    lt := fun w' h k hk => by
      have : k < w.heap.size := by have := (List.mem_filter.1 hk).1; simpa using this
      exact Nat.lt_of_lt_of_le this h.1 }
theorem old2_ids {w : World} {K : List Nat} {k : Nat} : k ∈ (old2 w K).ids ↔ k < w.heap.size ∧ k ∈ K := by simp [old2, Proofs.Ytpgffckfbgfgcaa.It.ids]
theorem enter2 (w : World) (K : List Nat) : Proofs.Ytpgffckfbgfgcaa.Mem [(w, K)] [old2 w K] [] w := by
  refine ⟨fun s hs => ?_, fun x hx k hk s hs => ?_, ?_, fun x hx => ?_, by simp⟩
  · rw [List.mem_singleton] at hs; subst hs; exact Ext.refl w
  · rw [List.mem_singleton] at hs hx; subst hs hx; exact .inl (old2_ids.1 hk).2
  · simp only [List.flatMap_cons, List.flatMap_nil, List.append_nil]
    exact List.Nodup.sublist List.filter_sublist List.nodup_range
  · rw [List.mem_singleton] at hx; subst hx; exact ⟨Nat.le_refl _, fun _ _ _ => rfl⟩
theorem leave2 {w w' : World} {K : List Nat} {ρ : List Dt} {σ2 : Proofs.Ytpgffckfbgfgcaa.Blks} (h : Proofs.Ytpgffckfbgfgcaa.Mem [(w, K)] σ2 ρ w') (hm : old2 w K ∈ σ2) : Ext [] w w' := by
  have h1 := h.ext (w, K) (by simp)
  have h2 : _ ∧ _ := h.hold _ hm
  exact ⟨h1.os, h1.tape, h1.output, h1.size, fun k hk _ => by
    by_cases hK : k ∈ K
    · exact h2.2 k hk hK
    · exact h1.block k hk hK⟩
theorem row2 {w : World} {K : List Nat} {v : Value} {n : Nat} {cs : List Value} (h : IsRow K w v n cs) : IsRow ([old2 w K].flatMap Proofs.Ytpgffckfbgfgcaa.It.ids) w v n cs :=
  h.grow fun k hk => .inl (by
    simp only [List.flatMap_cons, List.flatMap_nil, List.append_nil] at hk
    exact (old2_ids.1 hk).2)
theorem row3 {w w' : World} {K L : List Nat} {v : Value} {n : Nat} {cs : List Value} (hK : ∀ k ∈ K, k < w.heap.size) (hL : ∀ k, k < w.heap.size → k ∈ K → k ∈ L) (h : IsRow L w' v n cs) : IsRow K w' v n cs :=
  h.grow fun k hk => .inl (hL k (hK k hk) hk)
theorem Pure.of2 {f : FuncId} {args : List Abs} {res : Abs} (h : ∀ (K : List Nat) (w : World) (vals : List Value), (∀ k ∈ K, k < w.heap.size) → reps K w args vals → Calls P f vals.toArray w fun e w' => ∃ r, e = .returned r ∧ Ext [] w w' ∧ rep K w' res r) : Pure P f args res := fun G w vals hm hv =>
  (h G w vals hm.old hv).mono fun e w' ⟨r, he, hx, hr⟩ => ⟨(), r, he, by simp, ⟨hx, by simp [mids], by simp [mids], fun k hk => Nat.lt_of_lt_of_le (hm.old k hk) hx.size, by simp, by simp [mids], by simp⟩, hr⟩
end
end Go.Proofs.Ytpgffckfbgfgcaa.A
/-
  Names of letters, and cores that may be: the program's and the document's, over the engine.
-/
set_option maxRecDepth 100000
namespace Go.Proofs.Ytpgffckfbgfgcaa
open Go.RowKit

/-- A letter of a name. -/
def nameC (c : Nat) : Bool := (decide (97 ≤ c) && decide (c ≤ 122)) || (decide (48 ≤ c) && decide (c ≤ 57)) || decide (c = 45)
def nameB (s : ByteArray) : Bool := s.data.toList.all (fun c => nameC c.toNat) && decide (1 ≤ s.size) && decide (s.size ≤ 16)
section
variable {S : List (World × List Nat)} {σ τ : Blks} {ρ : List Dt} {w : World}
theorem all_at {s : ByteArray} {k : Nat} (h : k < s.size) (hb : nameC (s[k]'h).toNat = false) : s.data.toList.all (fun c => nameC c.toNat) = false := by
  rw [List.all_eq_false]
  refine ⟨s[k]'h, ?_, by rw [hb]; decide⟩
  have : s[k]'h = s.data.toList[k]'(by simpa using h) := rfl
  rw [this]
  exact List.getElem_mem _
theorem all_all {s : ByteArray} (hp : ∀ j (hj : j < s.size), nameC (s[j]'hj).toNat = true) : s.data.toList.all (fun c => nameC c.toNat) = true := by
  rw [List.all_eq_true]
  intro c hc
  obtain ⟨j, hj, rfl⟩ := List.getElem_of_mem hc
  exact hp j (by simpa using hj)

theorem odd_c {r : Nat} (hw : Mem S σ ρ w) : Calls Try.prog 253 #[.int .i32 r] w fun e w' => e = .returned (.bool (!nameC r)) ∧ Mem S σ ρ w' := by
  refine calls_of [.int .i32 r] Try.func253 rfl Try.ntmps253 rfl (Mem S σ ρ) hw ?_
  refine SC.seq (SC.region ?_)
  refine SL.val (Val.assign rfl) rfl rfl ?_
  refine SL.nil (SE.seq ?_)
  refine SC.seq (SC.region ?_)
  refine SL.val (Val.move rfl) rfl rfl ?_
  refine SL.val (Val.ltI rfl rfl) rfl rfl ?_
  refine SL.val (Val.move rfl) rfl rfl ?_
  refine SL.bothP (t := 5) rfl ?_ ?_
  · intro hc5
    iterate 2 refine SL.skip rfl rfl ?_
    refine SL.val (Val.pickT rfl rfl) rfl rfl ?_
    refine SL.val (Val.move rfl) rfl rfl ?_
    refine SL.val (Val.move rfl) rfl rfl ?_
    refine SL.val (Val.ltI rfl rfl) rfl rfl ?_
    refine SL.val (Val.move rfl) rfl rfl ?_
    refine SL.bothP (t := 12) rfl ?_ ?_
    · intro hc12
      iterate 2 refine SL.skip rfl rfl ?_
      refine SL.val (Val.pickT rfl rfl) rfl rfl ?_
      refine SL.val (Val.pickT rfl rfl) rfl rfl ?_
      refine SL.val (Val.move rfl) rfl rfl ?_
      refine SL.val (Val.move rfl) rfl rfl ?_
      refine SL.val (Val.neI rfl rfl) rfl rfl ?_
      refine SL.val (Val.pickT rfl rfl) rfl rfl ?_
      refine SL.val (Val.assign rfl) rfl rfl ?_
      refine SL.nil (SE.seq ?_)
      refine SC.ret ?_
      refine SE.ret1 rfl rfl ?_
      intro w' hw'
      refine ⟨?_, hw'⟩
      congr 2
      rw [Bool.eq_iff_iff]
      simp [nameC]
      omega
    intro hc12
    refine SL.val (Val.move rfl) rfl rfl ?_
    refine SL.val (Val.gtI rfl rfl) rfl rfl ?_
    refine SL.val (Val.pickF rfl rfl) rfl rfl ?_
    refine SL.val (Val.pickT rfl rfl) rfl rfl ?_
    refine SL.val (Val.move rfl) rfl rfl ?_
    refine SL.bothP (t := 17) rfl ?_ ?_
    · intro hc17
      refine SL.val (Val.move rfl) rfl rfl ?_
      refine SL.val (Val.neI rfl rfl) rfl rfl ?_
      refine SL.val (Val.pickT rfl rfl) rfl rfl ?_
      refine SL.val (Val.assign rfl) rfl rfl ?_
      refine SL.nil (SE.seq ?_)
      refine SC.ret ?_
      refine SE.ret1 rfl rfl ?_
      intro w' hw'
      refine ⟨?_, hw'⟩
      congr 2
      rw [Bool.eq_iff_iff]
      simp [nameC]
      omega
    intro hc17
    iterate 2 refine SL.skip rfl rfl ?_
    refine SL.val (Val.pickF rfl rfl) rfl rfl ?_
    refine SL.val (Val.assign rfl) rfl rfl ?_
    refine SL.nil (SE.seq ?_)
    refine SC.ret ?_
    refine SE.ret1 rfl rfl ?_
    intro w' hw'
    refine ⟨?_, hw'⟩
    congr 2
    rw [Bool.eq_iff_iff]
    simp [nameC]
    omega
  intro hc5
  refine SL.val (Val.move rfl) rfl rfl ?_
  refine SL.val (Val.gtI rfl rfl) rfl rfl ?_
  refine SL.val (Val.pickF rfl rfl) rfl rfl ?_
  refine SL.val (Val.move rfl) rfl rfl ?_
  refine SL.bothP (t := 9) rfl ?_ ?_
  rotate_left
  · intro hc9
    iterate 6 refine SL.skip rfl rfl ?_
    refine SL.val (Val.pickF rfl rfl) rfl rfl ?_
    refine SL.val (Val.move rfl) rfl rfl ?_
    iterate 2 refine SL.skip rfl rfl ?_
    refine SL.val (Val.pickF rfl rfl) rfl rfl ?_
    refine SL.val (Val.assign rfl) rfl rfl ?_
    refine SL.nil (SE.seq ?_)
    refine SC.ret ?_
    refine SE.ret1 rfl rfl ?_
    intro w' hw'
    refine ⟨?_, hw'⟩
    congr 2
    rw [Bool.eq_iff_iff]
    simp [nameC]
    omega
  intro hc9
  refine SL.val (Val.move rfl) rfl rfl ?_
  refine SL.val (Val.ltI rfl rfl) rfl rfl ?_
  refine SL.val (Val.move rfl) rfl rfl ?_
  refine SL.bothP (t := 12) rfl ?_ ?_
  · intro hc12
    iterate 2 refine SL.skip rfl rfl ?_
    refine SL.val (Val.pickT rfl rfl) rfl rfl ?_
    refine SL.val (Val.pickT rfl rfl) rfl rfl ?_
    refine SL.val (Val.move rfl) rfl rfl ?_
    refine SL.val (Val.move rfl) rfl rfl ?_
    refine SL.val (Val.neI rfl rfl) rfl rfl ?_
    refine SL.val (Val.pickT rfl rfl) rfl rfl ?_
    refine SL.val (Val.assign rfl) rfl rfl ?_
    refine SL.nil (SE.seq ?_)
    refine SC.ret ?_
    refine SE.ret1 rfl rfl ?_
    intro w' hw'
    refine ⟨?_, hw'⟩
    congr 2
    rw [Bool.eq_iff_iff]
    simp [nameC]
    omega
  intro hc12
  refine SL.val (Val.move rfl) rfl rfl ?_
  refine SL.val (Val.gtI rfl rfl) rfl rfl ?_
  refine SL.val (Val.pickF rfl rfl) rfl rfl ?_
  refine SL.val (Val.pickT rfl rfl) rfl rfl ?_
  refine SL.val (Val.move rfl) rfl rfl ?_
  refine SL.bothP (t := 17) rfl ?_ ?_
  · intro hc17
    refine SL.val (Val.move rfl) rfl rfl ?_
    refine SL.val (Val.neI rfl rfl) rfl rfl ?_
    refine SL.val (Val.pickT rfl rfl) rfl rfl ?_
    refine SL.val (Val.assign rfl) rfl rfl ?_
    refine SL.nil (SE.seq ?_)
    refine SC.ret ?_
    refine SE.ret1 rfl rfl ?_
    intro w' hw'
    refine ⟨?_, hw'⟩
    congr 2
    rw [Bool.eq_iff_iff]
    simp [nameC]
    omega
  intro hc17
  iterate 2 refine SL.skip rfl rfl ?_
  refine SL.val (Val.pickF rfl rfl) rfl rfl ?_
  refine SL.val (Val.assign rfl) rfl rfl ?_
  refine SL.nil (SE.seq ?_)
  refine SC.ret ?_
  refine SE.ret1 rfl rfl ?_
  intro w' hw'
  refine ⟨?_, hw'⟩
  congr 2
  rw [Bool.eq_iff_iff]
  simp [nameC]
  omega

set_option maxHeartbeats 400000 in
theorem indexOdd_c {s : ByteArray} (hw : Mem S σ ρ w) (_hs : s.size ≤ 16) : Calls Try.prog 292 #[.string s, .func (.func 253) #[] #[], .bool true] w fun e w' => ∃ r : Int, e = .returned (.int .i64 r) ∧ (0 ≤ r ↔ s.data.toList.all (fun c => nameC c.toNat) = false) ∧ Mem S σ ρ w' := by
  refine calls_of [.string s, .func (.func 253) #[] #[], .bool true] Try.func292 rfl Try.ntmps292 rfl (Mem S σ ρ) hw ?_
  refine SC.seq (SC.region ?_)
  refine SL.val (Val.assign rfl) rfl rfl ?_
  refine SL.nil (SE.seq ?_)
  refine SC.seq ?_
  refine SC.seq (SC.region ?_)
  refine SL.val (Val.move rfl) rfl rfl ?_
  refine SL.eff (Eff.rangeSt rfl Try.underlying9) rfl rfl ?_
  rintro _ _ ⟨b10, rfl, rfl⟩
  refine SL.nil (SE.seq ?_)
  refine SC.block ?_
  refine SC.loop (ι := Nat) (fun k => [(1, .func (.func 253) #[] #[]), (2, .bool true), (10, .pointer (some ⟨b10, 0, none⟩))]) (fun k w' => (k ≤ s.size ∧ ∀ j (hj : j < s.size), j < k → nameC (s[j]'hj).toNat = true) ∧ Mem S (.blk b10 (.stringIter s k) :: σ) ρ w') (fun k => s.size - k) 0 (by exact ⟨rfl, rfl, rfl, trivial⟩) (fun w' hw' => ⟨⟨Nat.zero_le _, fun j hj h => by omega⟩, hw'⟩) ?_
  intro k
  refine SC.facts ?_
  rintro ⟨hk, hp⟩
  by_cases hlt : k < s.size
  · have hd := decode_high s k hlt
    have hc := (s[k]'hlt).toNat_lt
    skip
    refine SC.seq (SC.region ?_)
    refine SL.eff (Eff.nextSt rfl .here hlt) rfl rfl ?_
    rintro _ _ ⟨rfl, rfl⟩
    refine SL.val (Val.extract rfl rfl) rfl rfl ?_
    refine SL.nil (SE.seq ?_)
    refine SC.seq ?_
    refine SC.condT rfl ?_
    refine SC.skip ?_
    refine SE.seq ?_
    refine SC.block ?_
    refine SC.seq (SC.region ?_)
    refine SL.val (Val.extract rfl rfl) rfl rfl ?_
    refine SL.val (Val.extract rfl rfl) rfl rfl ?_
    refine SL.val (Val.assign rfl) rfl rfl ?_
    refine SL.val (Val.assign rfl) rfl rfl ?_
    refine SL.nil (SE.seq ?_)
    refine SC.seq (SC.region ?_)
    refine SL.val (Val.move rfl) rfl rfl ?_
    refine SL.val (Val.move rfl) rfl rfl ?_
    refine SL.callv rfl (by kernel_rfl) rfl rfl rfl ?_
    intro w hw
    refine (odd_c hw).mono ?_
    rintro _ _ ⟨rfl, hm⟩
    refine ⟨_, _, rfl, hm, ?_⟩
    clear hm hw w
    refine SL.val (Val.move rfl) rfl rfl ?_
    refine SL.val (Val.eqB rfl rfl (by kernel_rfl)) rfl rfl ?_
    refine SL.nil (SE.seq ?_)
    refine SC.cond rfl ?_ ?_
    rotate_left
    · intro hodd
      refine SC.skip ?_
      refine SE.inBlock ?_
      simp only [beq_true, Bool.not_eq_false'] at hodd
      have h128 : (s[k]'hlt).toNat < 128 := by
        rcases Nat.lt_or_ge (s[k]'hlt).toNat 128 with h | h
        · exact h
        · have h2 := hd (by omega)
          simp only [nameC, Bool.or_eq_true, Bool.and_eq_true, decide_eq_true_eq] at hodd
          omega
      have e1 := decode_ascii s k hlt h128
      exact SE.round (k + 1) (by omega) (by exact ⟨rfl, rfl, rfl, trivial⟩) (fun w' hw' => ⟨⟨hlt, fun j hj h => by
        rcases Nat.lt_or_ge j k with h2 | h2
        · exact hp j hj h2
        · obtain rfl : j = k := by omega
          rw [e1] at hodd; exact hodd⟩, by rw [e1] at hw'; exact hw'⟩)
    intro hodd
    refine SC.seq (SC.region ?_)
    refine SL.val (Val.move rfl) rfl rfl ?_
    refine SL.val (Val.assign rfl) rfl rfl ?_
    refine SL.nil (SE.seq ?_)
    refine SC.ret ?_
    refine SE.ret ?_
    refine SE.then_ (by intro h; cases h) ?_
    refine SE.ret ?_
    refine SE.then_ (by intro h; cases h) ?_
    refine SE.ret1 rfl rfl ?_
    intro w' hw'
    refine ⟨_, rfl, ?_, hw'.sub (fun _ h => h) (List.sublist_cons_self _ _)⟩
    rw [all_at hlt (by
  simp only [beq_true, Bool.not_eq_true'] at hodd
  rcases Nat.lt_or_ge (s[k]'hlt).toNat 128 with h | h
  · rw [decode_ascii s k hlt h] at hodd; exact hodd
  · simp only [nameC, Bool.or_eq_false_iff, Bool.and_eq_false_iff, decide_eq_false_iff_not]; omega)]
    simp
  · skip
    refine SC.seq (SC.region ?_)
    refine SL.val (Val.nextEnd rfl List.mem_cons_self hlt) rfl rfl ?_
    refine SL.val (Val.extract rfl rfl) rfl rfl ?_
    refine SL.nil (SE.seq ?_)
    refine SC.seq ?_
    refine SC.condF rfl ?_
    refine SC.exit ?_
    refine SE.then_ (by intro h; cases h) ?_
    refine SE.then_ (by intro h; cases h) ?_
    refine SE.exit ?_
    refine SE.seq ?_
    refine SC.seq (SC.region ?_)
    refine SL.val (Val.assign rfl) rfl rfl ?_
    refine SL.nil (SE.seq ?_)
    refine SC.ret ?_
    refine SE.ret1 rfl rfl ?_
    intro w' hw'
    refine ⟨_, rfl, ?_, hw'.sub (fun _ h => h) (List.sublist_cons_self _ _)⟩
    rw [all_all fun j hj => hp j hj (by omega)]
    simp

theorem index_c {s : ByteArray} (hw : Mem S σ ρ w) (hs : s.size ≤ 16) : Calls Try.prog 276 #[.string s, .func (.func 253) #[] #[]] w fun e w' => ∃ r : Int, e = .returned (.int .i64 r) ∧ (0 ≤ r ↔ s.data.toList.all (fun c => nameC c.toNat) = false) ∧ Mem S σ ρ w' := by
  refine calls_of [.string s, .func (.func 253) #[] #[]] Try.func276 rfl Try.ntmps276 rfl (Mem S σ ρ) hw ?_
  refine SC.seq (SC.region ?_)
  refine SL.val (Val.assign rfl) rfl rfl ?_
  refine SL.nil (SE.seq ?_)
  refine SC.seq (SC.region ?_)
  refine SL.val (Val.move rfl) rfl rfl ?_
  refine SL.val (Val.move rfl) rfl rfl ?_
  refine SL.call (by kernel_rfl) rfl rfl rfl ?_
  intro w hw
  refine (indexOdd_c hw hs).mono ?_; rintro _ _ ⟨r, rfl, hr, hm⟩; refine ⟨_, _, rfl, hm, ?_⟩; clear hm hw w
  refine SL.val (Val.assign rfl) rfl rfl ?_
  refine SL.nil (SE.seq ?_)
  refine SC.ret ?_
  refine SE.ret1 rfl rfl ?_
  intro w' hw'
  exact ⟨_, rfl, hr, hw'⟩
theorem contains_c {s : ByteArray} (hw : Mem S σ ρ w) (hs : s.size ≤ 16) : Calls Try.prog 254 #[.string s, .func (.func 253) #[] #[]] w fun e w' => e = .returned (.bool (!s.data.toList.all (fun c => nameC c.toNat))) ∧ Mem S σ ρ w' := by
  refine calls_of [.string s, .func (.func 253) #[] #[]] Try.func254 rfl Try.ntmps254 rfl (Mem S σ ρ) hw ?_
  refine SC.seq (SC.region ?_)
  refine SL.val (Val.assign rfl) rfl rfl ?_
  refine SL.nil (SE.seq ?_)
  refine SC.seq (SC.region ?_)
  refine SL.val (Val.move rfl) rfl rfl ?_
  refine SL.val (Val.move rfl) rfl rfl ?_
  refine SL.call (by kernel_rfl) rfl rfl rfl ?_
  intro w hw
  refine (index_c hw hs).mono ?_; rintro _ _ ⟨r, rfl, hr, hm⟩; refine ⟨_, _, rfl, hm, ?_⟩; clear hm hw w
  refine SL.val (Val.geI rfl rfl) rfl rfl ?_
  refine SL.val (Val.assign rfl) rfl rfl ?_
  refine SL.nil (SE.seq ?_)
  refine SC.ret ?_
  refine SE.ret1 rfl rfl ?_
  intro w' hw'
  refine ⟨?_, hw'⟩
  congr 2
  rw [Bool.eq_iff_iff, decide_eq_true_eq, hr]
  simp

theorem isName_c {s : ByteArray} (hw : Mem S σ ρ w) : Calls Try.prog 216 #[.string s] w fun e w' => e = .returned (.bool (nameB s)) ∧ Mem S σ ρ w' := by
  have h0 : (s = ⟨#[]⟩) ↔ s.size = 0 := by
    constructor
    · rintro rfl; rfl
    · intro h
      obtain ⟨a⟩ := s
      congr 1
      exact Array.eq_empty_of_size_eq_zero h
  refine calls_of [.string s] Try.func216 rfl Try.ntmps216 rfl (Mem S σ ρ) hw ?_
  refine SC.seq (SC.region ?_)
  refine SL.val (Val.assign rfl) rfl rfl ?_
  refine SL.nil (SE.seq ?_)
  refine SC.seq (SC.region ?_)
  refine SL.val (Val.assign rfl) rfl rfl ?_
  refine SL.nil (SE.seq ?_)
  refine SC.seq (SC.region ?_)
  refine SL.val (Val.move rfl) rfl rfl ?_
  refine SL.val (Val.neS rfl rfl) rfl rfl ?_
  refine SL.val (Val.move rfl) rfl rfl ?_
  refine SL.bothP (t := 6) rfl ?_ ?_
  rotate_left
  · intro hc6
    iterate 3 refine SL.skip rfl rfl ?_
    refine SL.val (Val.pickF rfl rfl) rfl rfl ?_
    refine SL.val (Val.move rfl) rfl rfl ?_
    iterate 4 refine SL.skip rfl rfl ?_
    refine SL.val (Val.pickF rfl rfl) rfl rfl ?_
    refine SL.val (Val.assign rfl) rfl rfl ?_
    refine SL.nil (SE.seq ?_)
    refine SC.ret ?_
    refine SE.ret1 rfl rfl ?_
    intro w' hw'
    refine ⟨?_, hw'⟩
    congr 2
    unfold nameB
    rw [Ne, h0] at hc6
    rw [Bool.eq_iff_iff]
    first
      | (simp; omega)
      | (have h1 : 1 ≤ s.size := by omega
         have h2 : s.size ≤ 16 := by omega
         simp [h1, h2])
  intro hc6
  refine SL.val (Val.move rfl) rfl rfl ?_
  refine SL.val (Val.lenSt rfl Try.underlying9) rfl rfl ?_
  refine SL.val (Val.leI rfl rfl) rfl rfl ?_
  refine SL.val (Val.pickT rfl rfl) rfl rfl ?_
  refine SL.val (Val.move rfl) rfl rfl ?_
  refine SL.bothP (t := 11) rfl ?_ ?_
  rotate_left
  · intro hc11
    iterate 4 refine SL.skip rfl rfl ?_
    refine SL.val (Val.pickF rfl rfl) rfl rfl ?_
    refine SL.val (Val.assign rfl) rfl rfl ?_
    refine SL.nil (SE.seq ?_)
    refine SC.ret ?_
    refine SE.ret1 rfl rfl ?_
    intro w' hw'
    refine ⟨?_, hw'⟩
    congr 2
    unfold nameB
    rw [Ne, h0] at hc6
    rw [Bool.eq_iff_iff]
    first
      | (simp; omega)
      | (have h1 : 1 ≤ s.size := by omega
         have h2 : s.size ≤ 16 := by omega
         simp [h1, h2])
  intro hc11
  refine SL.val (Val.move rfl) rfl rfl ?_
  refine SL.val (Val.move rfl) rfl rfl ?_
  refine SL.call (by kernel_rfl) rfl rfl rfl ?_
  intro w hw
  refine (contains_c hw (by omega)).mono ?_; rintro _ _ ⟨rfl, hm⟩; refine ⟨_, _, rfl, hm, ?_⟩; clear hm hw w
  refine SL.val (Val.notB rfl) rfl rfl ?_
  refine SL.val (Val.pickT rfl rfl) rfl rfl ?_
  refine SL.val (Val.assign rfl) rfl rfl ?_
  refine SL.nil (SE.seq ?_)
  refine SC.ret ?_
  refine SE.ret1 rfl rfl ?_
  intro w' hw'
  refine ⟨?_, hw'⟩
  congr 2
  unfold nameB
  rw [Ne, h0] at hc6
  rw [Bool.eq_iff_iff]
  first
    | (simp; omega)
    | (have h1 : 1 ≤ s.size := by omega
       have h2 : s.size ≤ 16 := by omega
       simp [h1, h2])

set_option maxHeartbeats 400000 in
theorem risName_c {s : ByteArray} (hw : Mem S σ ρ w) (hs : s.size ≤ lots) : Calls Try.prog 174 #[.string s] w fun e w' => e = .returned (.bool (nameB s)) ∧ Mem S σ ρ w' := by
  unfold lots at hs
  refine calls_of [.string s] Try.func174 rfl Try.ntmps174 rfl (Mem S σ ρ) hw ?_
  refine SC.seq (SC.region ?_)
  refine SL.val (Val.assign rfl) rfl rfl ?_
  refine SL.nil (SE.seq ?_)
  refine SC.seq ?_
  refine SC.seq (SC.region ?_)
  refine SL.val (Val.assign rfl) rfl rfl ?_
  refine SL.nil (SE.seq ?_)
  refine SC.block ?_
  refine SC.loop (ι := Nat) (fun k => [(0, .string s), (3, .int .i64 (k : Nat))]) (fun k w' => (k ≤ s.size ∧ ∀ j (hj : j < s.size), j < k → nameC (s[j]'hj).toNat = true) ∧ Mem S σ ρ w') (fun k => s.size - k) 0 (by exact ⟨rfl, rfl, trivial⟩) (fun w' hw' => ⟨⟨Nat.zero_le _, fun j hj h => by omega⟩, hw'⟩) ?_
  intro k
  refine SC.facts ?_
  rintro ⟨hk, hp⟩
  refine SC.seq ?_
  refine SC.seq (SC.region ?_)
  refine SL.val (Val.move rfl) rfl rfl ?_
  refine SL.val (Val.move rfl) rfl rfl ?_
  refine SL.val (Val.lenSt rfl Try.underlying9) rfl rfl ?_
  refine SL.val (Val.ltI rfl rfl) rfl rfl ?_
  refine SL.nil (SE.seq ?_)
  refine SC.condP rfl ?_ ?_
  rotate_left
  · intro hc7
    refine SC.exit ?_
    refine SE.then_ (by intro h; cases h) ?_
    refine SE.then_ (by intro h; cases h) ?_
    refine SE.exit ?_
    refine SE.seq ?_
    refine SC.seq (SC.region ?_)
    refine SL.val (Val.move rfl) rfl rfl ?_
    refine SL.val (Val.lenSt rfl Try.underlying9) rfl rfl ?_
    refine SL.val (Val.geI rfl rfl) rfl rfl ?_
    refine SL.val (Val.move rfl) rfl rfl ?_
    refine SL.bothP (t := 42) rfl ?_ ?_
    · intro hc42
      refine SL.val (Val.move rfl) rfl rfl ?_
      refine SL.val (Val.lenSt rfl Try.underlying9) rfl rfl ?_
      refine SL.val (Val.leI rfl rfl) rfl rfl ?_
      refine SL.val (Val.pickT rfl rfl) rfl rfl ?_
      refine SL.val (Val.assign rfl) rfl rfl ?_
      refine SL.nil (SE.seq ?_)
      refine SC.ret ?_
      refine SE.ret1 rfl rfl ?_
      intro w' hw'
      refine ⟨?_, hw'⟩
      congr 2
      unfold nameB
      first
        | (rw [all_at hlt (by simp [nameC]; omega)]; rfl)
        | (rw [all_all fun j hj => hp j hj (by omega)]; rw [Bool.eq_iff_iff]; simp; omega)
        | (exfalso; omega)
    intro hc42
    iterate 3 refine SL.skip rfl rfl ?_
    refine SL.val (Val.pickF rfl rfl) rfl rfl ?_
    refine SL.val (Val.assign rfl) rfl rfl ?_
    refine SL.nil (SE.seq ?_)
    refine SC.ret ?_
    refine SE.ret1 rfl rfl ?_
    intro w' hw'
    refine ⟨?_, hw'⟩
    congr 2
    unfold nameB
    first
      | (rw [all_at hlt (by simp [nameC]; omega)]; rfl)
      | (rw [all_all fun j hj => hp j hj (by omega)]; rw [Bool.eq_iff_iff]; simp; omega)
      | (exfalso; omega)
  intro hc7
  have hlt : k < s.size := by omega
  refine SC.skip ?_
  refine SE.seq ?_
  refine SC.seq ?_
  refine SC.block ?_
  refine SC.seq (SC.region ?_)
  refine SL.val (Val.move rfl) rfl rfl ?_
  refine SL.val (Val.move rfl) rfl rfl ?_
  refine SL.val (Val.indexSt (q := k) rfl rfl rfl hlt Try.underlying9) rfl rfl ?_
  refine SL.val (Val.geI rfl rfl) rfl rfl ?_
  refine SL.val (Val.move rfl) rfl rfl ?_
  refine SL.bothP (t := 14) rfl ?_ ?_
  rotate_left
  · intro hc14
    iterate 4 refine SL.skip rfl rfl ?_
    refine SL.val (Val.pickF rfl rfl) rfl rfl ?_
    refine SL.val (Val.move rfl) rfl rfl ?_
    refine SL.val (Val.move rfl) rfl rfl ?_
    refine SL.val (Val.move rfl) rfl rfl ?_
    refine SL.val (Val.indexSt (q := k) rfl rfl rfl hlt Try.underlying9) rfl rfl ?_
    refine SL.val (Val.geI rfl rfl) rfl rfl ?_
    refine SL.val (Val.move rfl) rfl rfl ?_
    refine SL.bothP (t := 25) rfl ?_ ?_
    rotate_left
    · intro hc25
      iterate 4 refine SL.skip rfl rfl ?_
      refine SL.val (Val.pickF rfl rfl) rfl rfl ?_
      refine SL.val (Val.pickF rfl rfl) rfl rfl ?_
      refine SL.val (Val.move rfl) rfl rfl ?_
      refine SL.val (Val.move rfl) rfl rfl ?_
      refine SL.val (Val.move rfl) rfl rfl ?_
      refine SL.val (Val.indexSt (q := k) rfl rfl rfl hlt Try.underlying9) rfl rfl ?_
      refine SL.val (Val.eqI rfl rfl) rfl rfl ?_
      refine SL.val (Val.pickF rfl rfl) rfl rfl ?_
      refine SL.val (Val.notP rfl) rfl rfl ?_
      refine SL.nil (SE.seq ?_)
      refine SC.condP rfl ?_ ?_
      rotate_left
      · intro hc38
        refine SC.skip ?_
        refine SE.inBlock ?_
        refine SE.seq ?_
        refine SC.region ?_
        refine SL.val (Val.move rfl) rfl rfl ?_
        first
          | refine SL.val (Val.addI rfl rfl (by simp only [InR, lo, hi]; omega)) rfl rfl ?_
          | refine SL.val (Val.addW rfl rfl) rfl rfl ?_
        refine SL.val (Val.assign rfl) rfl rfl ?_
        refine SL.nil ?_
        have hgood : nameC (s[k]'hlt).toNat = true := by
          simp [nameC]
          omega
        exact SE.round (k + 1) (by omega) (by exact ⟨rfl, rfl, trivial⟩) (fun w' hw' => ⟨⟨hlt, fun j hj h => by
          rcases Nat.lt_or_ge j k with h2 | h2
          · exact hp j hj h2
          · obtain rfl : j = k := by omega
            exact hgood⟩, hw'⟩)
      intro hc38
      refine SC.seq (SC.region ?_)
      refine SL.val (Val.assign rfl) rfl rfl ?_
      refine SL.nil (SE.seq ?_)
      refine SC.ret ?_
      refine SE.ret ?_
      refine SE.then_ (by intro h; cases h) ?_
      refine SE.then_ (by intro h; cases h) ?_
      refine SE.ret ?_
      refine SE.then_ (by intro h; cases h) ?_
      refine SE.ret1 rfl rfl ?_
      intro w' hw'
      refine ⟨?_, hw'⟩
      congr 2
      unfold nameB
      first
        | (rw [all_at hlt (by simp [nameC]; omega)]; rfl)
        | (rw [all_all fun j hj => hp j hj (by omega)]; rw [Bool.eq_iff_iff]; simp; omega)
        | (exfalso; omega)
    intro hc25
    refine SL.val (Val.move rfl) rfl rfl ?_
    refine SL.val (Val.move rfl) rfl rfl ?_
    refine SL.val (Val.indexSt (q := k) rfl rfl rfl hlt Try.underlying9) rfl rfl ?_
    refine SL.val (Val.leI rfl rfl) rfl rfl ?_
    refine SL.val (Val.pickT rfl rfl) rfl rfl ?_
    refine SL.val (Val.pickF rfl rfl) rfl rfl ?_
    refine SL.val (Val.move rfl) rfl rfl ?_
    refine SL.bothP (t := 32) rfl ?_ ?_
    · intro hc32
      iterate 4 refine SL.skip rfl rfl ?_
      refine SL.val (Val.pickT rfl rfl) rfl rfl ?_
      refine SL.val (Val.notT rfl) rfl rfl ?_
      refine SL.nil (SE.seq ?_)
      refine SC.condF rfl ?_
      refine SC.skip ?_
      refine SE.inBlock ?_
      refine SE.seq ?_
      refine SC.region ?_
      refine SL.val (Val.move rfl) rfl rfl ?_
      first
        | refine SL.val (Val.addI rfl rfl (by simp only [InR, lo, hi]; omega)) rfl rfl ?_
        | refine SL.val (Val.addW rfl rfl) rfl rfl ?_
      refine SL.val (Val.assign rfl) rfl rfl ?_
      refine SL.nil ?_
      have hgood : nameC (s[k]'hlt).toNat = true := by
        simp [nameC]
        omega
      exact SE.round (k + 1) (by omega) (by exact ⟨rfl, rfl, trivial⟩) (fun w' hw' => ⟨⟨hlt, fun j hj h => by
        rcases Nat.lt_or_ge j k with h2 | h2
        · exact hp j hj h2
        · obtain rfl : j = k := by omega
          exact hgood⟩, hw'⟩)
    intro hc32
    refine SL.val (Val.move rfl) rfl rfl ?_
    refine SL.val (Val.move rfl) rfl rfl ?_
    refine SL.val (Val.indexSt (q := k) rfl rfl rfl hlt Try.underlying9) rfl rfl ?_
    refine SL.val (Val.eqI rfl rfl) rfl rfl ?_
    refine SL.val (Val.pickF rfl rfl) rfl rfl ?_
    refine SL.val (Val.notP rfl) rfl rfl ?_
    refine SL.nil (SE.seq ?_)
    refine SC.condP rfl ?_ ?_
    rotate_left
    · intro hc38
      refine SC.skip ?_
      refine SE.inBlock ?_
      refine SE.seq ?_
      refine SC.region ?_
      refine SL.val (Val.move rfl) rfl rfl ?_
      first
        | refine SL.val (Val.addI rfl rfl (by simp only [InR, lo, hi]; omega)) rfl rfl ?_
        | refine SL.val (Val.addW rfl rfl) rfl rfl ?_
      refine SL.val (Val.assign rfl) rfl rfl ?_
      refine SL.nil ?_
      have hgood : nameC (s[k]'hlt).toNat = true := by
        simp [nameC]
        omega
      exact SE.round (k + 1) (by omega) (by exact ⟨rfl, rfl, trivial⟩) (fun w' hw' => ⟨⟨hlt, fun j hj h => by
        rcases Nat.lt_or_ge j k with h2 | h2
        · exact hp j hj h2
        · obtain rfl : j = k := by omega
          exact hgood⟩, hw'⟩)
    intro hc38
    refine SC.seq (SC.region ?_)
    refine SL.val (Val.assign rfl) rfl rfl ?_
    refine SL.nil (SE.seq ?_)
    refine SC.ret ?_
    refine SE.ret ?_
    refine SE.then_ (by intro h; cases h) ?_
    refine SE.then_ (by intro h; cases h) ?_
    refine SE.ret ?_
    refine SE.then_ (by intro h; cases h) ?_
    refine SE.ret1 rfl rfl ?_
    intro w' hw'
    refine ⟨?_, hw'⟩
    congr 2
    unfold nameB
    first
      | (rw [all_at hlt (by simp [nameC]; omega)]; rfl)
      | (rw [all_all fun j hj => hp j hj (by omega)]; rw [Bool.eq_iff_iff]; simp; omega)
      | (exfalso; omega)
  intro hc14
  refine SL.val (Val.move rfl) rfl rfl ?_
  refine SL.val (Val.move rfl) rfl rfl ?_
  refine SL.val (Val.indexSt (q := k) rfl rfl rfl hlt Try.underlying9) rfl rfl ?_
  refine SL.val (Val.leI rfl rfl) rfl rfl ?_
  refine SL.val (Val.pickT rfl rfl) rfl rfl ?_
  refine SL.val (Val.move rfl) rfl rfl ?_
  refine SL.bothP (t := 20) rfl ?_ ?_
  · intro hc20
    iterate 10 refine SL.skip rfl rfl ?_
    refine SL.val (Val.pickT rfl rfl) rfl rfl ?_
    refine SL.val (Val.move rfl) rfl rfl ?_
    iterate 4 refine SL.skip rfl rfl ?_
    refine SL.val (Val.pickT rfl rfl) rfl rfl ?_
    refine SL.val (Val.notT rfl) rfl rfl ?_
    refine SL.nil (SE.seq ?_)
    refine SC.condF rfl ?_
    refine SC.skip ?_
    refine SE.inBlock ?_
    refine SE.seq ?_
    refine SC.region ?_
    refine SL.val (Val.move rfl) rfl rfl ?_
    first
      | refine SL.val (Val.addI rfl rfl (by simp only [InR, lo, hi]; omega)) rfl rfl ?_
      | refine SL.val (Val.addW rfl rfl) rfl rfl ?_
    refine SL.val (Val.assign rfl) rfl rfl ?_
    refine SL.nil ?_
    have hgood : nameC (s[k]'hlt).toNat = true := by
      simp [nameC]
      omega
    exact SE.round (k + 1) (by omega) (by exact ⟨rfl, rfl, trivial⟩) (fun w' hw' => ⟨⟨hlt, fun j hj h => by
      rcases Nat.lt_or_ge j k with h2 | h2
      · exact hp j hj h2
      · obtain rfl : j = k := by omega
        exact hgood⟩, hw'⟩)
  intro hc20
  refine SL.val (Val.move rfl) rfl rfl ?_
  refine SL.val (Val.move rfl) rfl rfl ?_
  refine SL.val (Val.indexSt (q := k) rfl rfl rfl hlt Try.underlying9) rfl rfl ?_
  refine SL.val (Val.geI rfl rfl) rfl rfl ?_
  refine SL.val (Val.move rfl) rfl rfl ?_
  refine SL.bothP (t := 25) rfl ?_ ?_
  rotate_left
  · intro hc25
    iterate 4 refine SL.skip rfl rfl ?_
    refine SL.val (Val.pickF rfl rfl) rfl rfl ?_
    refine SL.val (Val.pickF rfl rfl) rfl rfl ?_
    refine SL.val (Val.move rfl) rfl rfl ?_
    refine SL.val (Val.move rfl) rfl rfl ?_
    refine SL.val (Val.move rfl) rfl rfl ?_
    refine SL.val (Val.indexSt (q := k) rfl rfl rfl hlt Try.underlying9) rfl rfl ?_
    refine SL.val (Val.eqI rfl rfl) rfl rfl ?_
    refine SL.val (Val.pickF rfl rfl) rfl rfl ?_
    refine SL.val (Val.notP rfl) rfl rfl ?_
    refine SL.nil (SE.seq ?_)
    refine SC.condP rfl ?_ ?_
    rotate_left
    · intro hc38
      refine SC.skip ?_
      refine SE.inBlock ?_
      refine SE.seq ?_
      refine SC.region ?_
      refine SL.val (Val.move rfl) rfl rfl ?_
      first
        | refine SL.val (Val.addI rfl rfl (by simp only [InR, lo, hi]; omega)) rfl rfl ?_
        | refine SL.val (Val.addW rfl rfl) rfl rfl ?_
      refine SL.val (Val.assign rfl) rfl rfl ?_
      refine SL.nil ?_
      have hgood : nameC (s[k]'hlt).toNat = true := by
        simp [nameC]
        omega
      exact SE.round (k + 1) (by omega) (by exact ⟨rfl, rfl, trivial⟩) (fun w' hw' => ⟨⟨hlt, fun j hj h => by
        rcases Nat.lt_or_ge j k with h2 | h2
        · exact hp j hj h2
        · obtain rfl : j = k := by omega
          exact hgood⟩, hw'⟩)
    intro hc38
    refine SC.seq (SC.region ?_)
    refine SL.val (Val.assign rfl) rfl rfl ?_
    refine SL.nil (SE.seq ?_)
    refine SC.ret ?_
    refine SE.ret ?_
    refine SE.then_ (by intro h; cases h) ?_
    refine SE.then_ (by intro h; cases h) ?_
    refine SE.ret ?_
    refine SE.then_ (by intro h; cases h) ?_
    refine SE.ret1 rfl rfl ?_
    intro w' hw'
    refine ⟨?_, hw'⟩
    congr 2
    unfold nameB
    first
      | (rw [all_at hlt (by simp [nameC]; omega)]; rfl)
      | (rw [all_all fun j hj => hp j hj (by omega)]; rw [Bool.eq_iff_iff]; simp; omega)
      | (exfalso; omega)
  intro hc25
  refine SL.val (Val.move rfl) rfl rfl ?_
  refine SL.val (Val.move rfl) rfl rfl ?_
  refine SL.val (Val.indexSt (q := k) rfl rfl rfl hlt Try.underlying9) rfl rfl ?_
  refine SL.val (Val.leI rfl rfl) rfl rfl ?_
  refine SL.val (Val.pickT rfl rfl) rfl rfl ?_
  refine SL.val (Val.pickF rfl rfl) rfl rfl ?_
  refine SL.val (Val.move rfl) rfl rfl ?_
  refine SL.bothP (t := 32) rfl ?_ ?_
  · intro hc32
    iterate 4 refine SL.skip rfl rfl ?_
    refine SL.val (Val.pickT rfl rfl) rfl rfl ?_
    refine SL.val (Val.notT rfl) rfl rfl ?_
    refine SL.nil (SE.seq ?_)
    refine SC.condF rfl ?_
    refine SC.skip ?_
    refine SE.inBlock ?_
    refine SE.seq ?_
    refine SC.region ?_
    refine SL.val (Val.move rfl) rfl rfl ?_
    first
      | refine SL.val (Val.addI rfl rfl (by simp only [InR, lo, hi]; omega)) rfl rfl ?_
      | refine SL.val (Val.addW rfl rfl) rfl rfl ?_
    refine SL.val (Val.assign rfl) rfl rfl ?_
    refine SL.nil ?_
    have hgood : nameC (s[k]'hlt).toNat = true := by
      simp [nameC]
      omega
    exact SE.round (k + 1) (by omega) (by exact ⟨rfl, rfl, trivial⟩) (fun w' hw' => ⟨⟨hlt, fun j hj h => by
      rcases Nat.lt_or_ge j k with h2 | h2
      · exact hp j hj h2
      · obtain rfl : j = k := by omega
        exact hgood⟩, hw'⟩)
  intro hc32
  refine SL.val (Val.move rfl) rfl rfl ?_
  refine SL.val (Val.move rfl) rfl rfl ?_
  refine SL.val (Val.indexSt (q := k) rfl rfl rfl hlt Try.underlying9) rfl rfl ?_
  refine SL.val (Val.eqI rfl rfl) rfl rfl ?_
  refine SL.val (Val.pickF rfl rfl) rfl rfl ?_
  refine SL.val (Val.notP rfl) rfl rfl ?_
  refine SL.nil (SE.seq ?_)
  refine SC.condP rfl ?_ ?_
  rotate_left
  · intro hc38
    refine SC.skip ?_
    refine SE.inBlock ?_
    refine SE.seq ?_
    refine SC.region ?_
    refine SL.val (Val.move rfl) rfl rfl ?_
    first
      | refine SL.val (Val.addI rfl rfl (by simp only [InR, lo, hi]; omega)) rfl rfl ?_
      | refine SL.val (Val.addW rfl rfl) rfl rfl ?_
    refine SL.val (Val.assign rfl) rfl rfl ?_
    refine SL.nil ?_
    have hgood : nameC (s[k]'hlt).toNat = true := by
      simp [nameC]
      omega
    exact SE.round (k + 1) (by omega) (by exact ⟨rfl, rfl, trivial⟩) (fun w' hw' => ⟨⟨hlt, fun j hj h => by
      rcases Nat.lt_or_ge j k with h2 | h2
      · exact hp j hj h2
      · obtain rfl : j = k := by omega
        exact hgood⟩, hw'⟩)
  intro hc38
  refine SC.seq (SC.region ?_)
  refine SL.val (Val.assign rfl) rfl rfl ?_
  refine SL.nil (SE.seq ?_)
  refine SC.ret ?_
  refine SE.ret ?_
  refine SE.then_ (by intro h; cases h) ?_
  refine SE.then_ (by intro h; cases h) ?_
  refine SE.ret ?_
  refine SE.then_ (by intro h; cases h) ?_
  refine SE.ret1 rfl rfl ?_
  intro w' hw'
  refine ⟨?_, hw'⟩
  congr 2
  unfold nameB
  first
    | (rw [all_at hlt (by simp [nameC]; omega)]; rfl)
    | (rw [all_all fun j hj => hp j hj (by omega)]; rw [Bool.eq_iff_iff]; simp; omega)
    | (exfalso; omega)
end
end Go.Proofs.Ytpgffckfbgfgcaa
