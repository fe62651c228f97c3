/-
  Packed out of the texts: A3, A4, A5, Rd, A6, A8, Open, OpenBytes, AOpen, A10, A11, A12.
-/
import Derived.Test.YtejcohlpjikjpaaGreatDoorU02
import Derived.Deep.Slices
/-
  The second engine: the laws of the operations.
-/
set_option maxRecDepth 100000
set_option linter.unusedSimpArgs false
set_option linter.unusedVariables false
namespace Go.Proofs.YtejcohlpjikjpaaGreatDoor.A
open Go.RowKit

theorem slot_full : ∀ (vs : List Value) (i j : Nat) (v : Value), vs[j]? = some v → Proofs.YtejcohlpjikjpaaGreatDoor.slot (argSlots vs i) (i + j) = some v
  | [], _, _, _, h => by simp at h
  | u :: vs, i, 0, v, h => by simp at h; subst h; simp [argSlots, Proofs.YtejcohlpjikjpaaGreatDoor.slot]
  | u :: vs, i, j + 1, v, h => by
    unfold argSlots Proofs.YtejcohlpjikjpaaGreatDoor.slot
    rw [beq_ne (by omega : ¬ i = i + (j + 1))]
    have := slot_full vs (i + 1) j v (by simpa using h)
    rw [show i + 1 + j = i + (j + 1) by omega] at this
    exact this
abbrev fullS (a : Act) : Proofs.YtejcohlpjikjpaaGreatDoor.Slots := argSlots a.tmps.toList 0
section
variable {P : Program} {n : Nat} {W : Wd} {σ τ : Blks} {l : Slots} {X : List Nat} {x y z : Operand} {d : Option Nat} {ty t t' e : TypeId} {pos : String} {aft : Array Edge} {g : Option (Nat × Bool)} {v u : Value} {k k' : IntKind} {a b : Int} {o : Oper} {A B : Abs} {tab : List (Nat × TI)}
theorem St.fr {a : Act} {w : World} (h : St n W σ l a w) : Fr n a (fullS a) := ⟨h.defers, h.size, fun t v hv => by
  have h1 := (slot_args _ 0 t v hv).2
  rw [Nat.sub_zero] at h1
  simpa using h1⟩
theorem St.at2 {a : Act} {w : World} (h : St n W σ l a w) (hx : look l x = some A) : Proofs.YtejcohlpjikjpaaGreatDoor.look (fullS a) x = some (a.eval x) := by
  cases x with
  | tmp t =>
    obtain ⟨u, h1, _⟩ := h.slots t A hx
    have h2 := slot_full a.tmps.toList 0 t u (by simpa using h1)
    rw [Nat.zero_add] at h2
    simp [Proofs.YtejcohlpjikjpaaGreatDoor.look, h2, Act.eval, h1]
  | const c => rfl
  | global g => rfl
  | func f => rfl
theorem Val.of1 (hx : look l x = some (.v u)) (h : ∀ l2 : Proofs.YtejcohlpjikjpaaGreatDoor.Slots, Proofs.YtejcohlpjikjpaaGreatDoor.look l2 x = some u → Proofs.YtejcohlpjikjpaaGreatDoor.Val P n l2 (fun _ => True) o v) : Val P n W σ l X o (.v v) := fun _ _ hs _ =>
  ⟨v, rfl, fun w' _ => h _ (by rw [hs.at2 hx, hs.plain hx]) _ w' hs.fr trivial⟩
theorem Val.of2 {u2 : Value} (hx : look l x = some (.v u)) (hy : look l y = some (.v u2)) (h : ∀ l2 : Proofs.YtejcohlpjikjpaaGreatDoor.Slots, Proofs.YtejcohlpjikjpaaGreatDoor.look l2 x = some u → Proofs.YtejcohlpjikjpaaGreatDoor.look l2 y = some u2 → Proofs.YtejcohlpjikjpaaGreatDoor.Val P n l2 (fun _ => True) o v) : Val P n W σ l X o (.v v) := fun _ _ hs _ =>
  ⟨v, rfl, fun w' _ => h _ (by rw [hs.at2 hx, hs.plain hx]) (by rw [hs.at2 hy, hs.plain hy]) _ w' hs.fr trivial⟩
/-- The general form: by what the operands are, in each world. -/
theorem Val.mk' (h : ∀ a w, St n W σ l a w → (∀ k ∈ X, k ∈ mids σ ++ W.G) → ∃ v, rep (mids σ ++ W.G) w A v ∧ ∀ w', Ext X w w' → Proofs.YtejcohlpjikjpaaGreatDoor.Val P n (fullS a) (fun w1 => w1 = w') o v) : Val P n W σ l X o A := fun a w hs hX => by
  obtain ⟨v, h1, h2⟩ := h a w hs fun k hk => List.mem_append_left _ (hX k hk)
  exact ⟨v, h1, fun w' hw' => h2 w' hw' a w' hs.fr rfl⟩
theorem Val.to {C : Abs} (h : Val P n W σ l X o A) (e : A = C) : Val P n W σ l X o C := e ▸ h
theorem Val.move (hx : look l x = some A) : Val P n W σ l X ⟨d, .move x, ty, pos, aft, g⟩ A := Val.mk' fun a w hs _ => ⟨_, hs.eval hx, fun w' _ => Proofs.YtejcohlpjikjpaaGreatDoor.Val.move (hs.at2 hx)⟩
theorem Val.assign (hx : look l x = some A) : Val P n W σ l X ⟨d, .assign x, ty, pos, aft, g⟩ A := Val.mk' fun a w hs _ => ⟨_, hs.eval hx, fun w' _ => Proofs.YtejcohlpjikjpaaGreatDoor.Val.assign (hs.at2 hx)⟩
theorem Val.pickT (hc : look l x = some (.v (.bool true))) (hy : look l y = some A) : Val P n W σ l X ⟨d, .pick x y z, ty, pos, aft, g⟩ A := Val.mk' fun a w hs _ => ⟨_, hs.eval hy, fun w' _ => Proofs.YtejcohlpjikjpaaGreatDoor.Val.pickT (by rw [hs.at2 hc, hs.plain hc]) (hs.at2 hy)⟩
theorem Val.pickF (hc : look l x = some (.v (.bool false))) (hz : look l z = some A) : Val P n W σ l X ⟨d, .pick x y z, ty, pos, aft, g⟩ A := Val.mk' fun a w hs _ => ⟨_, hs.eval hz, fun w' _ => Proofs.YtejcohlpjikjpaaGreatDoor.Val.pickF (by rw [hs.at2 hc, hs.plain hc]) (hs.at2 hz)⟩
theorem Val.addI (hx : look l x = some (.v (.int k a))) (hy : look l y = some (.v (.int k b))) (h : InR k (a + b)) : Val P n W σ l X ⟨d, .binOp .add t x y t', ty, pos, aft, g⟩ (.v (.int k (a + b))) :=
  Val.of2 hx hy fun _ ehx ehy => Proofs.YtejcohlpjikjpaaGreatDoor.Val.addI ehx ehy h
theorem Val.subI (hx : look l x = some (.v (.int k a))) (hy : look l y = some (.v (.int k b))) (h : InR k (a - b)) : Val P n W σ l X ⟨d, .binOp .sub t x y t', ty, pos, aft, g⟩ (.v (.int k (a - b))) :=
  Val.of2 hx hy fun _ ehx ehy => Proofs.YtejcohlpjikjpaaGreatDoor.Val.subI ehx ehy h
theorem Val.mulI (hx : look l x = some (.v (.int k a))) (hy : look l y = some (.v (.int k b))) (h : InR k (a * b)) : Val P n W σ l X ⟨d, .binOp .mul t x y t', ty, pos, aft, g⟩ (.v (.int k (a * b))) :=
  Val.of2 hx hy fun _ ehx ehy => Proofs.YtejcohlpjikjpaaGreatDoor.Val.mulI ehx ehy h
theorem Val.addW (hx : look l x = some (.v (.int k a))) (hy : look l y = some (.v (.int k b))) : Val P n W σ l X ⟨d, .binOp .add t x y t', ty, pos, aft, g⟩ (.v (.int k (k.wrap (a + b)))) :=
  Val.of2 hx hy fun _ ehx ehy => Proofs.YtejcohlpjikjpaaGreatDoor.Val.addW ehx ehy
theorem Val.subW (hx : look l x = some (.v (.int k a))) (hy : look l y = some (.v (.int k b))) : Val P n W σ l X ⟨d, .binOp .sub t x y t', ty, pos, aft, g⟩ (.v (.int k (k.wrap (a - b)))) :=
  Val.of2 hx hy fun _ ehx ehy => Proofs.YtejcohlpjikjpaaGreatDoor.Val.subW ehx ehy
theorem Val.mulW (hx : look l x = some (.v (.int k a))) (hy : look l y = some (.v (.int k b))) : Val P n W σ l X ⟨d, .binOp .mul t x y t', ty, pos, aft, g⟩ (.v (.int k (k.wrap (a * b)))) :=
  Val.of2 hx hy fun _ ehx ehy => Proofs.YtejcohlpjikjpaaGreatDoor.Val.mulW ehx ehy
theorem Val.remI (hx : look l x = some (.v (.int k a))) (hy : look l y = some (.v (.int k b))) (h : 0 ≤ a ∧ 0 < b) : Val P n W σ l X ⟨d, .binOp .rem t x y t', ty, pos, aft, g⟩ (.v (.int k (a % b))) :=
  Val.of2 hx hy fun _ ehx ehy => Proofs.YtejcohlpjikjpaaGreatDoor.Val.remI ehx ehy h
theorem Val.quoI (hx : look l x = some (.v (.int k a))) (hy : look l y = some (.v (.int k b))) (h : 0 ≤ a ∧ 0 < b) (hr : InR k (a / b)) : Val P n W σ l X ⟨d, .binOp .quo t x y t', ty, pos, aft, g⟩ (.v (.int k (a / b))) :=
  Val.of2 hx hy fun _ ehx ehy => Proofs.YtejcohlpjikjpaaGreatDoor.Val.quoI ehx ehy h hr
theorem Val.bitI {op : BinOp} {r : Int} (hx : look l x = some (.v (.int k a))) (hy : look l y = some (.v (.int k b))) (h : ∀ w, (Op.intBits op k a b).run P w = .ok (.int k r) w) (ho : (op matches .and | .or | .xor | .andNot) = true) : Val P n W σ l X ⟨d, .binOp op t x y t', ty, pos, aft, g⟩ (.v (.int k r)) :=
  Val.of2 hx hy fun _ ehx ehy => Proofs.YtejcohlpjikjpaaGreatDoor.Val.bitI ehx ehy h ho
theorem Val.shrI (hx : look l x = some (.v (.int k a))) (hy : look l y = some (.v (.int k' b))) (h : 0 ≤ b) : Val P n W σ l X ⟨d, .binOp .shr t x y t', ty, pos, aft, g⟩ (.v (.int k (a.fdiv (2 ^ (min b.toNat k.bits))))) :=
  Val.of2 hx hy fun _ ehx ehy => Proofs.YtejcohlpjikjpaaGreatDoor.Val.shrI ehx ehy h
theorem Val.eqI (hx : look l x = some (.v (.int k a))) (hy : look l y = some (.v (.int k b))) : Val P n W σ l X ⟨d, .binOp .eql t x y t', ty, pos, aft, g⟩ (.v (.bool (decide (a = b)))) :=
  Val.of2 hx hy fun _ ehx ehy => Proofs.YtejcohlpjikjpaaGreatDoor.Val.eqI ehx ehy
theorem Val.neI (hx : look l x = some (.v (.int k a))) (hy : look l y = some (.v (.int k b))) : Val P n W σ l X ⟨d, .binOp .neq t x y t', ty, pos, aft, g⟩ (.v (.bool (decide (a ≠ b)))) :=
  Val.of2 hx hy fun _ ehx ehy => Proofs.YtejcohlpjikjpaaGreatDoor.Val.neI ehx ehy
theorem Val.ltI (hx : look l x = some (.v (.int k a))) (hy : look l y = some (.v (.int k b))) : Val P n W σ l X ⟨d, .binOp .lss t x y t', ty, pos, aft, g⟩ (.v (.bool (decide (a < b)))) :=
  Val.of2 hx hy fun _ ehx ehy => Proofs.YtejcohlpjikjpaaGreatDoor.Val.ltI ehx ehy
theorem Val.leI (hx : look l x = some (.v (.int k a))) (hy : look l y = some (.v (.int k b))) : Val P n W σ l X ⟨d, .binOp .leq t x y t', ty, pos, aft, g⟩ (.v (.bool (decide (a ≤ b)))) :=
  Val.of2 hx hy fun _ ehx ehy => Proofs.YtejcohlpjikjpaaGreatDoor.Val.leI ehx ehy
theorem Val.gtI (hx : look l x = some (.v (.int k a))) (hy : look l y = some (.v (.int k b))) : Val P n W σ l X ⟨d, .binOp .gtr t x y t', ty, pos, aft, g⟩ (.v (.bool (decide (b < a)))) :=
  Val.of2 hx hy fun _ ehx ehy => Proofs.YtejcohlpjikjpaaGreatDoor.Val.gtI ehx ehy
theorem Val.geI (hx : look l x = some (.v (.int k a))) (hy : look l y = some (.v (.int k b))) : Val P n W σ l X ⟨d, .binOp .geq t x y t', ty, pos, aft, g⟩ (.v (.bool (decide (b ≤ a)))) :=
  Val.of2 hx hy fun _ ehx ehy => Proofs.YtejcohlpjikjpaaGreatDoor.Val.geI ehx ehy
theorem Val.eqS {s r : ByteArray} (hx : look l x = some (.v (.string s))) (hy : look l y = some (.v (.string r))) : Val P n W σ l X ⟨d, .binOp .eql t x y t', ty, pos, aft, g⟩ (.v (.bool (decide (s = r)))) :=
  Val.of2 hx hy fun _ ehx ehy => Proofs.YtejcohlpjikjpaaGreatDoor.Val.eqS ehx ehy
theorem Val.neS {s r : ByteArray} (hx : look l x = some (.v (.string s))) (hy : look l y = some (.v (.string r))) : Val P n W σ l X ⟨d, .binOp .neq t x y t', ty, pos, aft, g⟩ (.v (.bool (decide (s ≠ r)))) :=
  Val.of2 hx hy fun _ ehx ehy => Proofs.YtejcohlpjikjpaaGreatDoor.Val.neS ehx ehy
theorem Val.eqB {p q : Bool} (hx : look l x = some (.v (.bool p))) (hy : look l y = some (.v (.bool q))) (ht : P.underlying t = some .bool) : Val P n W σ l X ⟨d, .binOp .eql t x y t', ty, pos, aft, g⟩ (.v (.bool (p == q))) :=
  Val.of2 hx hy fun _ ehx ehy => Proofs.YtejcohlpjikjpaaGreatDoor.Val.eqB ehx ehy ht
theorem Val.notP {p : Prop} [Decidable p] (hx : look l x = some (.v (.bool (decide p)))) : Val P n W σ l X ⟨d, .unOp .not t x, ty, pos, aft, g⟩ (.v (.bool (decide ¬p))) :=
  Val.of1 hx fun _ ehx => Proofs.YtejcohlpjikjpaaGreatDoor.Val.notP ehx
theorem Val.notB {p : Bool} (hx : look l x = some (.v (.bool p))) : Val P n W σ l X ⟨d, .unOp .not t x, ty, pos, aft, g⟩ (.v (.bool !p)) :=
  Val.of1 hx fun _ ehx => Proofs.YtejcohlpjikjpaaGreatDoor.Val.notB ehx
theorem Val.notT (hx : look l x = some (.v (.bool true))) : Val P n W σ l X ⟨d, .unOp .not t x, ty, pos, aft, g⟩ (.v (.bool false)) :=
  Val.of1 hx fun _ ehx => Proofs.YtejcohlpjikjpaaGreatDoor.Val.notT ehx
theorem Val.notF (hx : look l x = some (.v (.bool false))) : Val P n W σ l X ⟨d, .unOp .not t x, ty, pos, aft, g⟩ (.v (.bool true)) :=
  Val.of1 hx fun _ ehx => Proofs.YtejcohlpjikjpaaGreatDoor.Val.notF ehx
theorem Val.convI {k2 : IntKind} (hx : look l x = some (.v (.int k a))) (ht : P.underlying t' = some (.int k2)) (hs : (P.underlying t).isSome = true) (h : InR k2 a) : Val P n W σ l X ⟨d, .convert t t' x, ty, pos, aft, g⟩ (.v (.int k2 a)) :=
  Val.of1 hx fun _ ehx => Proofs.YtejcohlpjikjpaaGreatDoor.Val.convI ehx ht hs h
theorem Val.convW {k2 : IntKind} (hx : look l x = some (.v (.int k a))) (ht : P.underlying t' = some (.int k2)) (hs : (P.underlying t).isSome = true) : Val P n W σ l X ⟨d, .convert t t' x, ty, pos, aft, g⟩ (.v (.int k2 (k2.wrap a))) :=
  Val.of1 hx fun _ ehx => Proofs.YtejcohlpjikjpaaGreatDoor.Val.convW ehx ht hs
theorem Val.nilCheck {p : Addr} (hx : look l x = some (.v (.pointer (some p)))) : Val P n W σ l X ⟨d, .nilCheck x, ty, pos, aft, g⟩ (.v (.pointer (some p))) :=
  Val.of1 hx fun _ ehx => Proofs.YtejcohlpjikjpaaGreatDoor.Val.nilCheck ehx
theorem Val.lenSt {s : ByteArray} (hx : look l x = some (.v (.string s))) (ht : P.underlying t = some .string) : Val P n W σ l X ⟨d, .call { callee := .builtin .len, args := #[x], argTypes := #[t] }, ty, pos, aft, g⟩ (.v (.int .i64 s.size)) :=
  Val.of1 hx fun _ ehx => Proofs.YtejcohlpjikjpaaGreatDoor.Val.lenSt ehx ht
theorem Val.indexSt {k : IntKind} {s : ByteArray} {r : Int} {q : Nat} (hx : look l x = some (.v (.string s))) (hy : look l y = some (.v (.int k r))) (hr : r = (q : Nat)) (hq : q < s.size) (hu : P.underlying t = some .string) : Val P n W σ l X ⟨d, .index t x y, ty, pos, aft, g⟩ (.v (.int .u8 ((s[q]'hq).toNat : Nat))) :=
  Val.of2 hx hy fun _ ehx ehy => Proofs.YtejcohlpjikjpaaGreatDoor.Val.indexSt ehx ehy hr hq hu
/-! ### Rows and parts -/
def plains : List Abs → Option (List Value)
  | [] => some []
  | .v u :: l => match plains l with
    | some us => some (u :: us)
    | none => none
  | _ :: _ => none
theorem plains_reps {K : List Nat} {w : World} : ∀ {ys : List Abs} {us vs : List Value}, plains ys = some us → reps K w ys vs → vs = us
  | [], us, vs, h, hr => by simp [plains] at h; subst h; exact hr
  | .v u :: l, us, vs, h, ⟨u', vs', h1, h2, h3⟩ => by
    unfold plains at h
    cases h4 : plains l with
    | none => simp [h4] at h
    | some us' =>
      simp [h4] at h
      have h5 : u' = u := h2
      rw [h1, h5, plains_reps h4 h3, h]
  | .sl _ _ :: _, _, _, h, _ => by simp [plains] at h
  | .agg _ :: _, _, _, h, _ => by simp [plains] at h
  | .rp _ :: _, _, _, h, _ => by simp [plains] at h
  | .tup _ :: _, _, _, h, _ => by simp [plains] at h
  | .fn _ _ _ :: _, _, _, h, _ => by simp [plains] at h
  | .ifc _ _ :: _, _, _, h, _ => by simp [plains] at h
theorem at_map {α : Type} {f : α → List Abs} {xs : List α} {q : Nat} (h : q < xs.length) : (xs.map f)[q]? = some (f xs[q]) := by simp [h]
theorem Val.neA {cx cy : List Abs} {X' Y' : List Value} (hx : look l x = some (.agg cx)) (hy : look l y = some (.agg cy)) (px : plains cx = some X') (py : plains cy = some Y') (hg : P.eqGuardType P.depth t = false) (h : ∀ w, (binOp .neq t (.agg X'.toArray) (.agg Y'.toArray)).run P w = .ok v w) : Val P n W σ l X ⟨d, .binOp .neq t x y t', ty, pos, aft, g⟩ (.v v) := Val.mk' fun a w hs _ => by
  obtain ⟨ux, h1, h2⟩ := hs.eval hx
  obtain ⟨uy, h3, h4⟩ := hs.eval hy
  rw [plains_reps px h2] at h1
  rw [plains_reps py h4] at h3
  exact ⟨v, rfl, fun w' _ => Proofs.YtejcohlpjikjpaaGreatDoor.Val.neA (by rw [hs.at2 hx, h1]) (by rw [hs.at2 hy, h3]) hg h⟩
theorem Val.extract {vs : List Abs} {i : Nat} (hx : look l x = some (.tup vs)) (hi : vs[i]? = some A) : Val P n W σ l X ⟨d, .extract x i, ty, pos, aft, g⟩ A := Val.mk' fun a w hs _ => by
  obtain ⟨us, h1, h2⟩ := hs.eval hx
  obtain ⟨u, h3, h4⟩ := reps_get h2 hi
  exact ⟨u, h4, fun w' _ => Proofs.YtejcohlpjikjpaaGreatDoor.Val.extract (by rw [hs.at2 hx, h1]) (by simpa using h3)⟩
theorem Val.lenSl {s m : Nat} {xs : List (List Abs)} (hx : look l x = some (.sl s xs)) (ht : P.underlying t = some (.slice e)) (hm : xs.length = m) : Val P n W σ l X ⟨d, .call { callee := .builtin .len, args := #[x], argTypes := #[t] }, ty, pos, aft, g⟩ (.v (.int .i64 m)) := Val.mk' fun a w hs _ => by
  subst hm
  obtain ⟨us, hr, _⟩ := hs.eval hx
  obtain ⟨A', c, h1, _⟩ := hr.shape
  exact ⟨_, rfl, fun w' _ => Proofs.YtejcohlpjikjpaaGreatDoor.Val.lenSl (by rw [hs.at2 hx, h1]) ht⟩
theorem Val.lenNil {c : Nat} {A' : Option Addr} {m : Nat} (hx : look l x = some (.v (.slice A' m c))) (ht : P.underlying t = some (.slice e)) : Val P n W σ l X ⟨d, .call { callee := .builtin .len, args := #[x], argTypes := #[t] }, ty, pos, aft, g⟩ (.v (.int .i64 m)) := Val.of1 hx fun _ h => Proofs.YtejcohlpjikjpaaGreatDoor.Val.lenSl h ht
theorem looks2 {a : Act} {w : World} (hs : St n W σ l a w) : ∀ {xs : List Operand} {ys : List Abs}, looks l xs = some ys → Proofs.YtejcohlpjikjpaaGreatDoor.looks (fullS a) xs = some (xs.map a.eval)
  | [], _, _ => rfl
  | x :: xs, ys, h => by
    unfold looks at h
    cases h1 : look l x with
    | none => simp [h1] at h
    | some v =>
      cases h2 : looks l xs with
      | none => simp [h1, h2] at h
      | some us => simp [Proofs.YtejcohlpjikjpaaGreatDoor.looks, hs.at2 h1, looks2 hs h2]
theorem Val.makeFunc {fn : Fn} {fs cs : List Operand} {us vs : List Abs} (hf' : looks l fs = some us) (hc : looks l cs = some vs) : Val P n W σ l X ⟨d, .makeFunc fn fs.toArray cs.toArray, ty, pos, aft, g⟩ (.fn fn us vs) := Val.mk' fun a w hs _ =>
  ⟨_, ⟨_, _, rfl, hs.evals hf', hs.evals hc⟩, fun w' _ => Proofs.YtejcohlpjikjpaaGreatDoor.Val.makeFunc (looks2 hs hf') (looks2 hs hc)⟩
/-- Same blocks, then the same cells. -/
theorem cell_later {w w' : World} {b j : Nat} {u : Value} (hx : Ext X w w') (hb : b ∉ X) (h : w.cell? ⟨b, j, none⟩ = some u) : w'.cell? ⟨b, j, none⟩ = some u := hx.cell h hb
theorem row_later {w w' : World} {b : Nat} {us : List Value} (hx : Ext X w w') (hb : b ∉ X) (h : w.heap[b]? = some (row t us)) : w'.heap[b]? = some (row t us) := (hx.block b (heap_lt h) hb).trans h
/-- The cells of a block, whether it may be changed or not. -/
def isBlk (σ : Blks) (b : Nat) (t : TypeId) (cs : List Abs) : Prop := It.blk b t cs ∈ σ ∨ It.rd b t cs ∈ σ
theorem Mem.blk {w0 w : World} {F G : List Nat} {b : Nat} {cs : List Abs} (h : Mem w0 F G σ w) (hb : isBlk σ b t cs) : ∃ us, w.heap[b]? = some (row t us) ∧ reps (mids σ ++ G) w cs us := by
  rcases hb with hb | hb
  · exact h.hold _ hb
  · exact h.hold _ hb
theorem Val.load1 (hT : TabOk P tab) {sz b o : Nat} {zs : List Value} {cs : List Abs} (ht : ti tab t = some ⟨sz, .one, zs⟩) (hx : look l x = some (.v (.pointer (some ⟨b, o, none⟩)))) (hb : isBlk σ b t' cs) (hbX : b ∉ X) (hv : cs[o]? = some A) : Val P n W σ l X ⟨d, .load t x, ty, pos, aft, g⟩ A := Val.mk' fun a w hs _ => by
  obtain ⟨us, h1, h2⟩ := hs.mem.blk hb
  obtain ⟨u, h3, h4⟩ := reps_get h2 hv
  exact ⟨u, h4, fun w' hw' => Proofs.YtejcohlpjikjpaaGreatDoor.Val.load1C hT ht (by rw [hs.at2 hx, hs.plain hx]) fun w1 e => by subst e; rw [mem_cell (row_later hw' hbX h1)]; exact h3⟩
theorem Val.load1R (hT : TabOk P tab) {sz : Nat} {zs : List Value} {cs : List Abs} (ht : ti tab t = some ⟨sz, .one, zs⟩) (hx : look l x = some (.rp cs)) (hv : cs[0]? = some A) : Val P n W σ l X ⟨d, .load t x, ty, pos, aft, g⟩ A := Val.mk' fun a w hs hX => by
  obtain ⟨b, off, us, h1, h2, h3, h4, h5⟩ := hs.eval hx
  obtain ⟨u, h6, h7⟩ := reps_get h5 hv
  exact ⟨u, h7, fun w' hw' => Proofs.YtejcohlpjikjpaaGreatDoor.Val.load1C hT ht (by rw [hs.at2 hx, h1]) fun w1 e => by subst e; exact cell_later hw' (fun hm => h2 (hX b hm)) (h4 0 u h6)⟩
/-- So many of a list from there on. -/
def part (cs : List Abs) (o s : Nat) : List Abs := (cs.drop o).take s
theorem Val.loadP (hT : TabOk P tab) {i : TI} {b o : Nat} {cs : List Abs} (ht : ti tab t = some i) (hk : (match i.k with | .one => false | _ => true) = true) (hx : look l x = some (.v (.pointer (some ⟨b, o, none⟩)))) (hb : isBlk σ b t' cs) (hbX : b ∉ X) (hl : o + i.size ≤ cs.length) : Val P n W σ l X ⟨d, .load t x, ty, pos, aft, g⟩ (.agg (part cs o i.size)) := Val.mk' fun a w hs _ => by
  obtain ⟨us, h1, h2⟩ := hs.mem.blk hb
  have hlen := reps_length h2
  refine ⟨_, ⟨_, rfl, reps_take (reps_drop h2 o) i.size⟩, fun w' hw' => Proofs.YtejcohlpjikjpaaGreatDoor.Val.loadAC hT ht hk (by rw [hs.at2 hx, hs.plain hx]) (by simp; omega) fun w1 e j u hu => ?_⟩
  subst e
  rw [mem_cell (row_later hw' hbX h1)]
  rw [List.getElem?_take, List.getElem?_drop] at hu
  split at hu
  · exact hu
  · cases hu
theorem Val.loadA (hT : TabOk P tab) {i : TI} {b : Nat} {cs : List Abs} (ht : ti tab t = some i) (hk : (match i.k with | .one => false | _ => true) = true) (hx : look l x = some (.v (.pointer (some ⟨b, 0, none⟩)))) (hb : isBlk σ b t' cs) (hbX : b ∉ X) (hl : cs.length = i.size) : Val P n W σ l X ⟨d, .load t x, ty, pos, aft, g⟩ (.agg cs) :=
  Val.to (Val.loadP hT ht hk hx hb hbX (by omega)) (by simp [part, ← hl])
theorem Val.loadPR (hT : TabOk P tab) {i : TI} {cs : List Abs} (ht : ti tab t = some i) (hk : (match i.k with | .one => false | _ => true) = true) (hx : look l x = some (.rp cs)) (hl : i.size ≤ cs.length) : Val P n W σ l X ⟨d, .load t x, ty, pos, aft, g⟩ (.agg (cs.take i.size)) := Val.mk' fun a w hs hX => by
  obtain ⟨b, off, us, h1, h2, h3, h4, h5⟩ := hs.eval hx
  have hlen := reps_length h5
  refine ⟨_, ⟨_, rfl, reps_take h5 i.size⟩, fun w' hw' => Proofs.YtejcohlpjikjpaaGreatDoor.Val.loadAC hT ht hk (by rw [hs.at2 hx, h1]) (by simp; omega) fun w1 e j u hu => ?_⟩
  subst e
  rw [List.getElem?_take] at hu
  split at hu
  · exact cell_later hw' (fun hm => h2 (hX b hm)) (h4 j u hu)
  · cases hu
theorem Val.loadAR (hT : TabOk P tab) {i : TI} {cs : List Abs} (ht : ti tab t = some i) (hk : (match i.k with | .one => false | _ => true) = true) (hx : look l x = some (.rp cs)) (hl : cs.length = i.size) : Val P n W σ l X ⟨d, .load t x, ty, pos, aft, g⟩ (.agg cs) :=
  Val.to (Val.loadPR hT ht hk hx (by omega)) (by simp [← hl])
theorem Val.fieldAddr (hT : TabOk P tab) {sz fo ft f b o : Nat} {gs : List (Nat × Nat)} {zs : List Value} {j : TI} (ht : ti tab t = some ⟨sz, .struct gs, zs⟩) (hx : look l x = some (.v (.pointer (some ⟨b, o, none⟩)))) (hfo : gs[f]? = some (fo, ft)) (hj : ti tab ft = some j) (hs : Nat.beq j.size 0 = false) :
    Val P n W σ l X ⟨d, .fieldAddr t x f, ty, pos, aft, g⟩ (.v (.pointer (some ⟨b, o + fo, none⟩))) := Val.of1 hx fun _ h => Proofs.YtejcohlpjikjpaaGreatDoor.Val.fieldAddr hT ht h hfo hj hs
theorem Val.fieldAddrR (hT : TabOk P tab) {sz fo ft f : Nat} {gs : List (Nat × Nat)} {zs : List Value} {j : TI} {cs : List Abs} (ht : ti tab t = some ⟨sz, .struct gs, zs⟩) (hx : look l x = some (.rp cs)) (hfo : gs[f]? = some (fo, ft)) (hj : ti tab ft = some j) (hs0 : Nat.beq j.size 0 = false) :
    Val P n W σ l X ⟨d, .fieldAddr t x f, ty, pos, aft, g⟩ (.rp (cs.drop fo)) := Val.mk' fun a w hs hX => by
  obtain ⟨b, off, us, h1, h2, h3, h4, h5⟩ := hs.eval hx
  refine ⟨_, ⟨b, off + fo, us.drop fo, rfl, h2, h3, fun j u hu => ?_, reps_drop h5 fo⟩, fun w' _ => Proofs.YtejcohlpjikjpaaGreatDoor.Val.fieldAddr hT ht (by rw [hs.at2 hx, h1]) hfo hj hs0⟩
  rw [List.getElem?_drop] at hu
  rw [Nat.add_assoc]; exact h4 _ u hu
/-- The address of an element of a row that is read. -/
theorem Val.indexSl (hT : TabOk P tab) {s q : Nat} {k : IntKind} {j : TI} {xs : List (List Abs)} {cs : List Abs} (hu : P.underlying t = some (.slice e)) (hj : ti tab e = some j) (hx : look l x = some (.sl s xs)) {r : Int} (hy : look l y = some (.v (.int k r))) (hr : r = (q : Nat)) (hq : xs[q]? = some cs) (hsz : Nat.beq s j.size = true) (hpos : Nat.blt 0 s = true) :
    Val P n W σ l X ⟨d, .indexAddr t x y, ty, pos, aft, g⟩ (.rp cs) := Val.mk' fun a w hs hX => by
  subst hr
  obtain ⟨us, hr, h2⟩ := hs.eval hx
  have hsz := Nat.eq_of_beq_eq_true hsz
  have hpos : 0 < s := by simpa [Nat.blt_eq] using hpos
  obtain ⟨vs, h3, h4, h5⟩ := repss_get h2 hq
  have hlt : q < xs.length := (List.getElem?_eq_some_iff.1 hq).1
  have hlen := repss_length h2
  have hne : us ≠ [] := by
    rintro rfl
    have : xs.length * s = 0 := by simpa using hlen.symm
    rcases Nat.mul_eq_zero.1 this with h | h <;> omega
  obtain ⟨A', c, hsh, h6, h7, h8⟩ := hr.shape
  obtain ⟨b, off, n', c', hv, hb, hc⟩ := hr.cells hne
  rw [hsh] at hv
  simp at hv
  obtain ⟨rfl, rfl, rfl⟩ := hv
  have hcell : ∀ j u, vs[j]? = some u → w.cell? ⟨b, off + q * s + j, none⟩ = some u := fun j u hu => by rw [Nat.add_assoc]; exact hc _ u (h5 j u hu)
  have hbl : b < w.heap.size := by
    cases vs with
    | nil => simp at h3; omega
    | cons u vs => exact block_lt_of_cell (hcell 0 u rfl)
  refine ⟨_, ⟨b, off + q * s, vs, rfl, hb, hbl, hcell, h4⟩, fun w' _ => ?_⟩
  rw [hsz]
  exact Proofs.YtejcohlpjikjpaaGreatDoor.Val.indexSlN hT hu hj (by rw [hs.at2 hx, hsh]) (by rw [hs.at2 hy, hs.plain hy]) hlt

/-! ### Operations that change memory -/
theorem lift_eff {a : Act} {w : World} (hs : St n W σ l a w) {R : Value → (World → Prop) → Prop} {C : World → Prop} (h : Proofs.YtejcohlpjikjpaaGreatDoor.Eff P n (fullS a) C o R) (hC : C w) : ∃ v w' C', R v C' ∧ C' w' ∧ ((execOp a.eval o).run P w = .ok (.value v) w' ∨ (v = undef ∧ (execOp a.eval o).run P w = .ok .skip w')) := h a w hs.fr hC
def zabs (zs : List Value) : List Abs := zs.map .v
theorem reps_zabs {K : List Nat} {w : World} : ∀ zs : List Value, reps K w (zabs zs) zs
  | [] => rfl
  | z :: zs => ⟨z, zs, rfl, rfl, reps_zabs zs⟩
theorem Eff.alloc (hT : TabOk P tab) {i : TI} (ht : ti tab t = some i) : Eff P n W σ l [] ⟨d, .alloc t, ty, pos, aft, g⟩ fun v τ => ∃ b, v = .v (.pointer (some ⟨b, 0, none⟩)) ∧ τ = .blk b t (zabs i.zero) :: σ := fun a w hs => by
  obtain ⟨zv, hz, hc⟩ := (hT t _ ht).zeroValue (w := w)
  obtain ⟨h1, h2⟩ := hs.mem.alloc t (reps_zabs i.zero)
  refine ⟨_, _, _, _, ⟨w.heap.size, rfl, rfl⟩, (Ext.refl w).alloc _, rfl, h1, h2, .inl ?_⟩
  simp [execOp, Instr.alloc, Sem.run_bind, hz, Result.andThen, newVar, newRow, newObj, Sem.run, hc, row]
theorem Eff.boxA {cs : List Abs} (hx : look l x = some (.agg cs)) : Eff P n W σ l [] ⟨d, .box t x, ty, pos, aft, g⟩ fun v τ => ∃ b, v = .v (.pointer (some ⟨b, 0, none⟩)) ∧ τ = .blk b t cs :: σ := fun a w hs => by
  obtain ⟨us, hv, hr⟩ := hs.eval hx
  obtain ⟨h1, h2⟩ := hs.mem.alloc t hr
  refine ⟨_, _, _, _, ⟨w.heap.size, rfl, rfl⟩, (Ext.refl w).alloc _, rfl, h1, h2, .inl ?_⟩
  simp [execOp, hv, Instr.box, Result.andThen, newVar, newRow, newObj, Sem.run, Value.cells, row]
theorem cells_one (h1 : v.oneCell' = true) : v.cells = #[v] := by cases v <;> simp [Value.oneCell'] at h1 <;> rfl
theorem Eff.box1 (hx : look l x = some A) (h1 : A.one = true) : Eff P n W σ l [] ⟨d, .box t x, ty, pos, aft, g⟩ fun v τ => ∃ b, v = .v (.pointer (some ⟨b, 0, none⟩)) ∧ τ = .blk b t [A] :: σ := fun a w hs => by
  have hr := hs.eval hx
  have hc := cells_one (Abs.one_rep hr h1)
  obtain ⟨h3, h4⟩ := hs.mem.alloc t (cs := [A]) (us := [a.eval x]) ⟨_, _, rfl, hr, rfl⟩
  refine ⟨_, _, _, _, ⟨w.heap.size, rfl, rfl⟩, (Ext.refl w).alloc _, rfl, h3, h4, .inl ?_⟩
  simp [execOp, Instr.box, Result.andThen, newVar, newRow, newObj, Sem.run, hc, row]
/-- The cells there are these now. -/
def putL : List Abs → Nat → List Abs → List Abs
  | L, 0, vs => vs ++ L.drop vs.length
  | x :: L, n + 1, vs => x :: putL L n vs
  | [], _ + 1, _ => []
theorem putL_eq : ∀ (L : List Abs) (n : Nat) (vs : List Abs), n ≤ L.length → putL L n vs = L.take n ++ vs ++ L.drop (n + vs.length)
  | L, 0, vs, _ => by simp [putL]
  | x :: L, n + 1, vs, h => by
    have := putL_eq L n vs (by simpa using h)
    simp [putL, this, Nat.add_right_comm n 1 vs.length]
  | [], n + 1, vs, h => by simp at h
theorem reps_put {K : List Nat} {w : World} {cs ys : List Abs} {us vs : List Value} {o : Nat} (h : reps K w cs us) (k : reps K w ys vs) (ho : o ≤ cs.length) : reps K w (putL cs o ys) (putAt us o vs) := by
  have h1 := reps_length h
  have h2 := reps_length k
  rw [putL_eq _ _ _ ho, putAt_eq _ _ _ (by omega), h2]
  exact reps_append (reps_append (reps_take h o) k) (reps_drop h _)
/-- The cells of a value. -/
def cellsA : Abs → List Abs
  | .v (.agg us) => us.toList.map .v
  | .agg cs => cs
  | y => [y]
theorem cellsA_rep {K : List Nat} {w : World} (hr : rep K w A v) : reps K w (cellsA A) (cellsL v) := by
  cases A with
  | v u =>
    have : v = u := hr
    subst this
    cases v <;> first | exact ⟨_, _, rfl, rfl, rfl⟩ | skip
    rename_i us
    exact reps_zabs us.toList
  | agg cs => obtain ⟨us, rfl, h⟩ := hr; simpa [cellsL, cellsA] using h
  | sl s xs => have h0 := hr; obtain ⟨us, h1, h2⟩ := hr; obtain ⟨A', c, rfl, _⟩ := h1.shape; exact ⟨_, _, rfl, h0, rfl⟩
  | rp cs => have h0 := hr; obtain ⟨b, o, us, rfl, _⟩ := hr; exact ⟨_, _, rfl, h0, rfl⟩
  | tup cs => have h0 := hr; obtain ⟨us, rfl, _⟩ := hr; exact ⟨_, _, rfl, h0, rfl⟩
  | fn f bs cs => have h0 := hr; obtain ⟨us, vs, rfl, _⟩ := hr; exact ⟨_, _, rfl, h0, rfl⟩
  | ifc t a => have h0 := hr; obtain ⟨u, rfl, _⟩ := hr; exact ⟨_, _, rfl, h0, rfl⟩
/-- A store into a block that is known. -/
theorem Eff.store (hT : TabOk P tab) {i : TI} {b o : Nat} {cs L' : List Abs} (ht : ti tab t = some i) (hx : look l x = some (.v (.pointer (some ⟨b, o, none⟩)))) (hy : look l y = some A) (hu : Upd (.blk b t' cs) (.blk b t' L') σ τ) (hl : (cellsA A).length = i.size) (hn : o + i.size ≤ cs.length) (h1 : ones (cellsA A) = true) (hL : putL cs o (cellsA A) = L') :
    Eff P n W σ l [b] ⟨d, .store t x y, ty, pos, aft, g⟩ fun u τ' => u = .v undef ∧ τ' = τ := fun a w hs => by
  obtain ⟨us, hb, hr⟩ := hs.mem.hold _ hu.mem
  have hry := cellsA_rep (hs.eval hy)
  have hlen := reps_length hr
  have hlen2 := reps_length hry
  have h2 := (hT t _ ht).sizeOf (w := w)
  have hone := ones_reps hry h1
  have hst := run_storeCells_at (P := P) b o t' (cellsL (a.eval y)) 0 us.toArray w hb (by simp; omega) hone
  have hE : (us.toArray.toList.take (o + 0) ++ cellsL (a.eval y) ++ us.toArray.toList.drop (o + 0 + (cellsL (a.eval y)).length)).toArray = (putAt us o (cellsL (a.eval y))).toArray := by
    rw [putAt_eq us o _ (by omega)]; simp
  rw [hE] at hst
  have hxx : Ext [b] w (w.setRow b (putAt us o (cellsL (a.eval y))).toArray) := (Ext.refl w).setRow (.inl (by simp)) _
  have hm := hs.mem.upd hu hxx (by simp [It.mids]) (by simp [It.mids]) rfl fun hc => ⟨_, heap_setRow hb, reps_carry hc _ _ (hL ▸ reps_put hr hry (by omega))⟩
  refine ⟨undef, _, _, _, ⟨rfl, rfl⟩, hxx, rfl, hm.1, hm.2, .inr ⟨rfl, ?_⟩⟩
  have hcs := cellsL_eq (a.eval y)
  have hle : (cellsL (a.eval y)).length = i.size := by omega
  simp [execOp, hs.plain hx, Instr.storeAt, Instr.sureAddr, storeVar, Sem.run_bind, hcs, h2, hle, hst, Result.andThen]

/-! ### Composite values -/
def fillA (place : Nat → Option (Nat × Nat)) (cells : List Abs) : List (Nat × Abs) → Option (List Abs)
  | [] => some cells
  | (i, v) :: rest => match place i with
    | none => none
    | some (off, size) => bif Nat.beq (cellsA v).length size && Nat.ble (off + size) cells.length then fillA place (putL cells off (cellsA v)) rest else none
def evalParts (l : Slots) : List (Nat × Operand) → Option (List (Nat × Abs))
  | [] => some []
  | (i, x) :: ps => match look l x, evalParts l ps with
    | some v, some vs => some ((i, v) :: vs)
    | _, _ => none
theorem evalParts2 {a : Act} {w : World} (hs : St n W σ l a w) : ∀ {ps : List (Nat × Operand)} {vs : List (Nat × Abs)}, evalParts l ps = some vs →
    Proofs.YtejcohlpjikjpaaGreatDoor.evalParts (fullS a) ps = some (ps.map fun p => (p.1, a.eval p.2)) ∧ vs.map (·.1) = ps.map (·.1) ∧ reps (mids σ ++ W.G) w (vs.map (·.2)) (ps.map fun p => a.eval p.2)
  | [], vs, h => by simp [evalParts] at h; subst h; exact ⟨rfl, rfl, rfl⟩
  | (i, x) :: ps, vs, h => by
    unfold evalParts at h
    cases h1 : look l x with
    | none => simp [h1] at h
    | some v =>
      cases h2 : evalParts l ps with
      | none => simp [h1, h2] at h
      | some us =>
        simp [h1, h2] at h
        subst h
        obtain ⟨h3, h4, h5⟩ := evalParts2 hs h2
        refine ⟨by simp [Proofs.YtejcohlpjikjpaaGreatDoor.evalParts, hs.at2 h1, h3], by simpa using h4, ⟨_, _, rfl, hs.eval h1, h5⟩⟩
theorem fill_reps {K : List Nat} {w : World} (place : Nat → Option (Nat × Nat)) : ∀ (vs : List (Nat × Abs)) (us : List (Nat × Value)) (cells L : List Abs) (cv : List Value), vs.map (·.1) = us.map (·.1) → reps K w (vs.map (·.2)) (us.map (·.2)) → reps K w cells cv → fillA place cells vs = some L → ∃ L', fillL place cv us = some L' ∧ reps K w L L'
  | [], us, cells, L, cv, h1, h2, h3, h4 => by
    simp [fillA] at h4
    subst h4
    cases us with
    | nil => exact ⟨cv, rfl, h3⟩
    | cons _ _ => simp at h1
  | (i, v) :: rest, us, cells, L, cv, h1, h2, h3, h4 => by
    cases us with
    | nil => simp at h1
    | cons p us =>
      obtain ⟨i', u⟩ := p
      simp only [List.map_cons, List.cons.injEq] at h1
      obtain ⟨rfl, h1⟩ := h1
      obtain ⟨u', us', h5, h6, h7⟩ := h2
      simp only [List.map_cons, List.cons.injEq] at h5
      obtain ⟨rfl, rfl⟩ := h5
      unfold fillA at h4
      unfold fillL
      cases hp : place i with
      | none => simp [hp] at h4
      | some os =>
        obtain ⟨off, size⟩ := os
        simp only [hp] at h4 ⊢
        have hc := cellsA_rep h6
        have l1 := reps_length hc
        have l2 := reps_length h3
        cases hb : (Nat.beq (cellsA v).length size && Nat.ble (off + size) cells.length) with
        | false => rw [hb] at h4; simp at h4
        | true =>
          rw [hb] at h4
          rw [l1, l2, hb]
          simp only [Bool.and_eq_true] at hb
          have e1 := Nat.eq_of_beq_eq_true hb.1
          have e2 := Nat.le_of_ble_eq_true hb.2
          exact fill_reps place rest us _ L _ h1 h7 (reps_put h3 hc (by omega)) h4
theorem Val.buildS (hT : TabOk P tab) {sz : Nat} {gs : List (Nat × Nat)} {zs : List Value} {L : List Abs} {ps : List (Nat × Operand)} {vs : List (Nat × Abs)} (ht : ti tab t = some ⟨sz, .struct gs, zs⟩) (hin : allIn tab gs = true) (hps : evalParts l ps = some vs) (hL : fillA ((places tab gs)[·]?) (zabs zs) vs = some L) :
    Val P n W σ l X ⟨d, .build t ps.toArray, ty, pos, aft, g⟩ (.agg L) := Val.mk' fun a w hs hX => by
  obtain ⟨h1, h2, h3⟩ := evalParts2 hs hps
  obtain ⟨L', h4, h5⟩ := fill_reps _ vs (ps.map fun p => (p.1, a.eval p.2)) _ L zs (by rw [List.map_map]; exact h2) (by rw [List.map_map]; exact h3) (reps_zabs zs) hL
  exact ⟨_, ⟨L', rfl, h5⟩, fun w' _ => Proofs.YtejcohlpjikjpaaGreatDoor.Val.buildS hT ht hin h1 h4⟩
end
end Go.Proofs.YtejcohlpjikjpaaGreatDoor.A
/-
  The second engine: rows of the call's own, slices, texts; a call's begin and end.
-/
namespace Go.Proofs.YtejcohlpjikjpaaGreatDoor.A
open Go.RowKit

section
variable {K : List Nat} {w : World} {x : Value}
/-- A nil slice. -/
theorem rep_nil {s : Nat} {x : Value} (h : rep K w (.v (.slice none 0 0)) x) : rep K w (.sl s []) x := ⟨[], IsRow.nil h, rfl⟩
end
/-- A row of the call's own. -/
def ownPc (e : TypeId) (s : Nat) (v : Value) (xs : List (List Abs)) : Pc where
  ids := v.ownBlock.toList
  p := fun K w => ∃ us, w.ownsRow 0 e s v xs.length us ∧ repss K w s xs us
  carry := fun K w K' w' hc hs ⟨us, h, hr⟩ => by
    refine ⟨us, ⟨h.1, ?_⟩, repss_carry hc s xs us hr⟩
    rcases h.2 with h2 | ⟨g, cap, cur, rfl, hg, hh, hrest⟩
    · exact .inl h2
    · exact .inr ⟨g, cap, cur, rfl, hg, (hs g (by simp [Value.ownBlock])).trans hh, hrest⟩
  lt := fun K w ⟨us, h, _⟩ k hk => by
    have := World.ownsRow.lt h k (by simpa using hk)
    omega
abbrev own (e : TypeId) (s : Nat) (v : Value) (xs : List (List Abs)) : It := .pc (ownPc e s v xs)
theorem own_nodup {e : TypeId} {s : Nat} {v : Value} {xs : List (List Abs)} : (own e s v xs).mids.Nodup := by
  simp only [It.mids, ownPc]
  cases v.ownBlock <;> simp
section
variable {P : Program} {n : Nat} {W : Wd} {σ τ : Blks} {l : Slots} {X : List Nat} {x y z : Operand} {d : Option Nat} {ty t t' e : TypeId} {pos : String} {aft : Array Edge} {g : Option (Nat × Bool)} {v u : Value} {k k' : IntKind} {a b : Int} {o : Oper} {A B : Abs} {tab : List (Nat × TI)} {ops : Array Oper} {rest : List Oper} {Q : Exit → Act → World → Prop} {ix : Plan} {xs ys : List (List Abs)} {s : Nat}
theorem Mem.own0 {w0 w : World} {F G : List Nat} (h : Mem w0 F G σ w) (e : TypeId) (s : Nat) : Mem w0 F G (own e s (.slice none 0 0) [] :: σ) w ∧ Carry (mids σ ++ G) w (mids (own e s (.slice none 0 0) [] :: σ) ++ G) w :=
  h.new (Ext.refl w) own_nodup (by simp [It.mids, ownPc, Value.ownBlock]) rfl fun _ => ⟨[], ⟨by simp, .inl ⟨rfl, rfl⟩⟩, rfl⟩
theorem St.own0 {a : Act} {w : World} (h : St n W σ l a w) (e : TypeId) (s : Nat) : St n W (own e s (.slice none 0 0) [] :: σ) l a w := let ⟨h1, h2⟩ := h.mem.own0 e s; h.to h1 h2
/-- A row of the call's own, as a row that is read. -/
theorem own_sl {w0 w : World} {F G : List Nat} {pre post : Blks} (h : Mem w0 F G (pre ++ own e s v xs :: post) w) : rep (mids (pre ++ post) ++ G) w (.sl s xs) v := by
  obtain ⟨us, h1, h2⟩ : (ownPc e s v xs).p _ w := h.hold (own e s v xs) (by simp)
  have hc := (h.sub (τ := pre ++ post) (List.Sublist.append (List.Sublist.refl _) (List.sublist_cons_self _ _))).2
  refine ⟨us, ownsRow.isRow h1 fun k hk hm => ?_, repss_carry hc s xs us h2⟩
  have hk' : k ∈ (own e s v xs).mids := by simp [It.mids, ownPc, hk]
  have hnd := h.nodup
  simp only [mids_append, mids_cons, List.nodup_append] at hnd hm
  obtain ⟨n1, ⟨n2, n3, n4⟩, n5⟩ := hnd
  rcases List.mem_append.1 hm with hm | hm
  · rcases List.mem_append.1 hm with hm | hm
    · exact n5 k hm k (List.mem_append_left _ hk') rfl
    · exact n4 k hk' k hm rfl
  · exact h.sep k (by simp [mids_append, mids_cons, hk']) hm
theorem St.freeze {a : Act} {w : World} {pre post : Blks} {t : Nat} (h : St n W (pre ++ own e s v xs :: post) l a w) (hs : slot l t = some (.v v)) : St n W (pre ++ post) ((t, .sl s xs) :: l) a w := by
  have hsub : (pre ++ post).Sublist (pre ++ own e s v xs :: post) := List.Sublist.append (List.Sublist.refl _) (List.sublist_cons_self _ _)
  refine (h.less hsub).cast hs fun u hu => ?_
  have : u = v := hu
  subst this
  exact own_sl h.mem
theorem SL.freeze (pre : Blks) {post : Blks} {t : Nat} (hσ : σ = pre ++ own e s v xs :: post) (hs : slot l t = some (.v v)) (k : SL P ops rest (St n W (pre ++ post) ((t, .sl s xs) :: l)) Q) : SL P ops rest (St n W σ l) Q := by
  subst hσ; exact fun a w h => k a w (h.freeze hs)
theorem SX.freeze (pre : Blks) {post : Blks} {t : Nat} (hσ : σ = pre ++ own e s v xs :: post) (hs : slot l t = some (.v v)) (k : SX P ops ix X (St n W (pre ++ post) ((t, .sl s xs) :: l)) Q) : SX P ops ix X (St n W σ l) Q := by
  subst hσ; exact fun a w h => k a w (h.freeze hs)
theorem SE.freeze {ex : Exit} (pre : Blks) {post : Blks} {t : Nat} (hσ : σ = pre ++ own e s v xs :: post) (hs : slot l t = some (.v v)) (k : SE ex (St n W (pre ++ post) ((t, .sl s xs) :: l)) Q) : SE ex (St n W σ l) Q := by
  subst hσ; exact fun a w h => k a w (h.freeze hs)
theorem SC.freeze {c : Code} (pre : Blks) {post : Blks} {t : Nat} (hσ : σ = pre ++ own e s v xs :: post) (hs : slot l t = some (.v v)) (k : SC P c (St n W (pre ++ post) ((t, .sl s xs) :: l)) Q) : SC P c (St n W σ l) Q := by
  subst hσ; exact fun a w h => k a w (h.freeze hs)
theorem SC.own0 {c : Code} (e : TypeId) (s : Nat) (k : SC P c (St n W (own e s (.slice none 0 0) [] :: σ) l) Q) : SC P c (St n W σ l) Q := fun a w h => k a w (h.own0 e s)
theorem SL.own0 (e : TypeId) (s : Nat) (k : SL P ops rest (St n W (own e s (.slice none 0 0) [] :: σ) l) Q) : SL P ops rest (St n W σ l) Q := fun a w h => k a w (h.own0 e s)
theorem Val.lenOwn {m : Nat} (hx : look l x = some (.v v)) (hb : own e s v xs ∈ σ) (ht : P.underlying t = some (.slice e)) (hm : xs.length = m) : Val P n W σ l X ⟨d, .call { callee := .builtin .len, args := #[x], argTypes := #[t] }, ty, pos, aft, g⟩ (.v (.int .i64 m)) := Val.mk' fun a w hs _ => by
  subst hm
  obtain ⟨us, h1, _⟩ : (ownPc e s v xs).p _ w := hs.mem.hold _ hb
  refine ⟨_, rfl, fun w' _ => ?_⟩
  rcases h1.2 with ⟨rfl, h0⟩ | ⟨g, cap, cur, rfl, _⟩
  · rw [h0]; exact Proofs.YtejcohlpjikjpaaGreatDoor.Val.lenSl (by rw [hs.at2 hx, hs.plain hx]) ht
  · exact Proofs.YtejcohlpjikjpaaGreatDoor.Val.lenSl (by rw [hs.at2 hx, hs.plain hx]) ht
/-- 'append(dst, src...)': dst the call's own, src a row that is read. -/
theorem Eff.append (hT : TabOk P tab) {i : TI} (pre : Blks) {post : Blks} (hu : P.underlying t = some (.slice e)) (hi : ti tab e = some i) (hpos : Nat.blt 0 i.size = true) (hsz : Nat.beq s i.size = true)
    (hx : look l x = some (.v v)) (hy : look l y = some (.sl s ys)) (hσ : σ = pre ++ own e s v xs :: post) (h1 : ∀ c ∈ ys, ones c = true) (hm : xs.length + ys.length ≤ maxLen) (hby : (xs.length + ys.length) * P.bytesOf e ≤ 140737488355328) :
    Eff P n W σ l v.ownBlock.toList ⟨d, .call { callee := .builtin .append, args := #[x, y], argTypes := #[t, t] }, ty, pos, aft, g⟩ fun r τ => ∃ u, r = .v u ∧ τ = pre ++ own e s u (xs ++ ys) :: post := fun a w hs => by
  subst hσ
  have hsz := Nat.eq_of_beq_eq_true hsz
  subst hsz
  obtain ⟨us, own1, hr1⟩ : (ownPc e i.size v xs).p _ w := hs.mem.hold (own e i.size v xs) (by simp)
  obtain ⟨news, hrow, hr2⟩ := hs.eval hy
  obtain ⟨A', c', hsh, _⟩ := hrow.shape
  have hone : ∀ u ∈ news, u.oneCell' = true := by
    have aux : ∀ (ys : List (List Abs)) (news : List Value), (∀ c ∈ ys, ones c = true) → repss (mids (pre ++ own e i.size v xs :: post) ++ W.G) w i.size ys news → ∀ u ∈ news, u.oneCell' = true := by
      intro ys
      induction ys with
      | nil => intro news _ h u hu; have : news = [] := h; subst this; cases hu
      | cons c ys ih =>
        rintro news ho ⟨u1, u2, rfl, _, h3, h4⟩ u hu
        rcases List.mem_append.1 hu with hu | hu
        · exact ones_reps h3 (ho c (by simp)) u hu
        · exact ih u2 (fun c hc => ho c (by simp [hc])) h4 u hu
    exact aux ys news h1 hr2
  have hrow' := hrow
  rw [hsh] at hrow'
  obtain ⟨v', w', hrun, h2, h3, h4⟩ := run_appendRow (ty := ty) hT hu hi hby hpos own1 hrow' (repss_length hr2) hone hm
  have hlt := World.ownsRow.lt own1
  have hxx : Ext v.ownBlock.toList w w' := ext_grownF h3 fun k hk => .inl (by simpa using hk)
  have hup : Upd (own e i.size v xs) (own e i.size v' (xs ++ ys)) (pre ++ own e i.size v xs :: post) (pre ++ own e i.size v' (xs ++ ys) :: post) := by
    clear hs own1 hr1 hrow hr2 hrow'
    induction pre with
    | nil => exact .here
    | cons p pre ih => exact .there ih
  have hm2 := hs.mem.upd hup hxx own_nodup (fun k hk => ?_) rfl fun hc => ⟨_, by rw [List.length_append]; exact h2, repss_append (repss_carry hc _ _ _ hr1) (repss_carry hc _ _ _ hr2)⟩
  · refine ⟨v', w', _, _, ⟨v', rfl, rfl⟩, hxx, rfl, hm2.1, hm2.2, .inl ?_⟩
    simp [execOp, resolve, invoke, builtin, hs.plain hx, hsh, hrun, Result.andThen]
  · have hk' : v'.ownBlock = some k := by simpa [It.mids, ownPc] using hk
    rcases h4 with h4 | h4
    · exact .inl (by simp [It.mids, ownPc, ← h4, hk'])
    · rw [h4] at hk'; simp at hk'; exact .inr (by omega)
/-- The same, its row said otherwise. -/
theorem Eff.appendE (hT : TabOk P tab) {i : TI} (pre : Blks) {post : Blks} {zs : List (List Abs)} (hz : xs ++ ys = zs) (hu : P.underlying t = some (.slice e)) (hi : ti tab e = some i) (hpos : Nat.blt 0 i.size = true) (hsz : Nat.beq s i.size = true)
    (hx : look l x = some (.v v)) (hy : look l y = some (.sl s ys)) (hσ : σ = pre ++ own e s v xs :: post) (h1 : ∀ c ∈ ys, ones c = true) (hm : xs.length + ys.length ≤ maxLen) (hby : (xs.length + ys.length) * P.bytesOf e ≤ 140737488355328) :
    Eff P n W σ l v.ownBlock.toList ⟨d, .call { callee := .builtin .append, args := #[x, y], argTypes := #[t, t] }, ty, pos, aft, g⟩ fun r τ => ∃ u, r = .v u ∧ τ = pre ++ own e s u zs :: post := hz ▸ Eff.append hT pre hu hi hpos hsz hx hy hσ h1 hm hby
/-- The parts of a slice's literal, each an element. -/
def inOrder : Nat → List (Nat × Abs) → Bool
  | _, [] => true
  | i, (j, _) :: l => Nat.beq i j && inOrder (i + 1) l
def elems (s : Nat) : List (Nat × Abs) → Option (List (List Abs))
  | [] => some []
  | (_, y) :: l => match elems s l with
    | some xs => bif Nat.beq (cellsA y).length s then some (cellsA y :: xs) else none
    | none => none
theorem fill_elems {K : List Nat} {w : World} (s : Nat) : ∀ (vs : List (Nat × Abs)) (us : List (Nat × Value)) (i : Nat) (xs : List (List Abs)) (cv : List Value), vs.map (·.1) = us.map (·.1) → inOrder i vs = true → elems s vs = some xs → reps K w (vs.map (·.2)) (us.map (·.2)) → cv.length = (i + vs.length) * s →
    fillL (fun j => some (j * s, s)) cv us = some (cv.take (i * s) ++ us.flatMap fun p => cellsL p.2) ∧ repss K w s xs (us.flatMap fun p => cellsL p.2)
  | [], us, i, xs, cv, h1, _, h2, _, h4 => by
    simp [elems] at h2
    subst h2
    cases us with
    | nil => exact ⟨by rw [List.take_of_length_le (by simp at h4; omega)]; simp [fillL], rfl⟩
    | cons _ _ => simp at h1
  | (j, y) :: vs, us, i, xs, cv, h1, h0, h2, h3, h4 => by
    cases us with
    | nil => simp at h1
    | cons p us =>
      obtain ⟨i', u⟩ := p
      simp only [List.map_cons, List.cons.injEq] at h1
      obtain ⟨rfl, h1⟩ := h1
      obtain ⟨u', us', h5, h6, h7⟩ := h3
      simp only [List.map_cons, List.cons.injEq] at h5
      obtain ⟨rfl, rfl⟩ := h5
      simp only [inOrder, Bool.and_eq_true] at h0
      have hj := Nat.eq_of_beq_eq_true h0.1
      subst hj
      unfold elems at h2
      cases he : elems s vs with
      | none => simp [he] at h2
      | some xs' =>
        simp only [he] at h2
        cases hb : Nat.beq (cellsA y).length s with
        | false => rw [hb] at h2; simp at h2
        | true =>
          rw [hb] at h2
          simp only [cond_true, Option.some.injEq] at h2
          subst h2
          have hb := Nat.eq_of_beq_eq_true hb
          have hc := cellsA_rep h6
          have l1 : (cellsL u).length = (cellsA y).length := reps_length hc
          simp only [List.length_cons] at h4
          have e0 : (i + (vs.length + 1)) * s = i * s + s + vs.length * s := by rw [← Nat.add_assoc, Nat.succ_mul, Nat.add_mul]; omega
          have e1 : (i + 1) * s = i * s + s := Nat.succ_mul i s
          have e2 : (i + 1 + vs.length) * s = i * s + s + vs.length * s := by rw [Nat.add_mul, e1]
          have hle : i * s + s ≤ cv.length := by omega
          have hmin : min (i * s) cv.length = i * s := by omega
          have hmin2 : (List.take (i * s) cv).length = i * s := by rw [List.length_take]; exact hmin
          unfold fillL
          dsimp only
          have hbb : (Nat.beq (cellsL u).length s && Nat.ble (i * s + s) cv.length) = true := by
            rw [Bool.and_eq_true]
            exact ⟨by rw [l1, hb]; simp, Nat.ble_eq.symm ▸ hle⟩
          rw [hbb]
          simp only [cond_true]
          obtain ⟨h8, h9⟩ := fill_elems s vs us (i + 1) xs' (putAt cv (i * s) (cellsL u)) h1 h0.2 he h7 (by
            rw [putAt_eq _ _ _ (by omega), List.length_append, List.length_append, hmin2, List.length_drop]; omega)
          refine ⟨?_, _, _, rfl, l1.trans hb, hc, h9⟩
          have h10 : List.take ((i + 1) * s) (List.take (i * s) cv ++ cellsL u ++ List.drop (i * s + (cellsL u).length) cv) = List.take (i * s) cv ++ cellsL u := by
            rw [List.take_append_of_le_length (by rw [List.length_append, hmin2]; omega), List.take_of_length_le (by rw [List.length_append, hmin2]; omega)]
          rw [h8, putAt_eq _ _ _ (by omega), h10, List.flatMap_cons, ← List.append_assoc]
theorem build_core (hT : TabOk P tab) {i : TI} {len : Nat} {ps : List (Nat × Operand)} {vs : List (Nat × Abs)} (hu : P.underlying t = some (.slice e)) (hi : ti tab e = some i) (hps : evalParts l ps = some vs) (hin : inOrder 0 vs = true) (he : elems i.size vs = some xs) (hlen : Nat.beq vs.length len = true) (hsz : Nat.ble (len * i.size) 16777216 = true) (hpos : Nat.blt 0 i.size = true) {a : Act} {w : World} (hs : St n W σ l a w) :
    ∃ b w' L', Ext [] w w' ∧ w'.heap[b]? = some (row e L') ∧ w.heap.size ≤ b ∧ repss (mids σ ++ W.G) w i.size xs L' ∧ xs.length = len ∧ len ≤ maxLen ∧ (execOp a.eval ⟨d, .buildSlice t len ps.toArray, ty, pos, aft, g⟩).run P w = .ok (.value (.slice (some ⟨b, 0, none⟩) len len)) w' := by
  obtain ⟨h1, h2, h3⟩ := evalParts2 hs hps
  have hlen := Nat.eq_of_beq_eq_true hlen
  subst hlen
  have hsz' := Nat.le_of_ble_eq_true hsz
  have hpos : 0 < i.size := by simpa [Nat.blt_eq] using hpos
  have hxl : ∀ (vs : List (Nat × Abs)) (xs : List (List Abs)), elems i.size vs = some xs → xs.length = vs.length := by
    intro vs
    induction vs with
    | nil => intro xs h; simp [elems] at h; subst h; rfl
    | cons p vs ih =>
      obtain ⟨j, y⟩ := p
      intro xs h
      unfold elems at h
      cases he : elems i.size vs with
      | none => simp [he] at h
      | some xs' =>
        simp only [he] at h
        cases hb : Nat.beq (cellsA y).length i.size <;> rw [hb] at h <;> simp at h
        subst h
        simp [ih xs' he]
  generalize hLd : ((ps.map fun p => (p.1, a.eval p.2)).flatMap fun p => cellsL p.2) = L'
  have key : ∀ L0 : List Value, L0.length = vs.length * i.size → fillL (fun j => some (j * i.size, i.size)) L0 (ps.map fun p => (p.1, a.eval p.2)) = some L' := fun L0 hL0 => by
    have h8 := (fill_elems (K := mids σ ++ W.G) (w := w) i.size vs (ps.map fun p => (p.1, a.eval p.2)) 0 xs L0 (by rw [List.map_map]; exact h2) hin he (by rw [List.map_map]; exact h3) (by rw [Nat.zero_add]; exact hL0)).1
    rw [Nat.zero_mul, List.take_zero, List.nil_append, hLd] at h8
    exact h8
  have hr : repss (mids σ ++ W.G) w i.size xs L' := by
    have h8 := (fill_elems (K := mids σ ++ W.G) (w := w) i.size vs (ps.map fun p => (p.1, a.eval p.2)) 0 xs (List.replicate (vs.length * i.size) undef) (by rw [List.map_map]; exact h2) hin he (by rw [List.map_map]; exact h3) (by simp)).2
    rw [hLd] at h8
    exact h8
  obtain ⟨v', w', C', ⟨b, rfl, rfl⟩, hC', hrun⟩ := lift_eff (C := Proofs.YtejcohlpjikjpaaGreatDoor.Mem [(w, [])] [] []) hs (Proofs.YtejcohlpjikjpaaGreatDoor.Eff.buildSlice (P := P) (n := n) (S := [(w, [])]) (σ := []) (ρ := []) (d := d) (ty := ty) (pos := pos) (aft := aft) (g := g) hT hu hi h1 key hsz) (Proofs.YtejcohlpjikjpaaGreatDoor.Mem.start w)
  have hx0 : Ext [] w w' := hC'.ext (w, []) (by simp)
  have hb : w'.heap[b]? = some (row e L') := hC'.holds (by simp)
  have hbn : w.heap.size ≤ b := by
    have := hC'.out _ (List.mem_cons_self) b (by simp [Proofs.YtejcohlpjikjpaaGreatDoor.It.ids]) (w, []) (by simp)
    simpa using this
  have hml : vs.length ≤ maxLen := by unfold maxLen; have : vs.length ≤ vs.length * i.size := Nat.le_mul_of_pos_right _ hpos; omega
  rcases hrun with hrun | ⟨h0, _⟩
  · exact ⟨b, w', L', hx0, hb, hbn, hr, hxl vs xs he, hml, hrun⟩
  · cases h0
/-- A slice's literal, that is only read from then on. -/
theorem Eff.buildSl (hT : TabOk P tab) {i : TI} {len : Nat} {ps : List (Nat × Operand)} {vs : List (Nat × Abs)} (hu : P.underlying t = some (.slice e)) (hi : ti tab e = some i) (hps : evalParts l ps = some vs) (hin : inOrder 0 vs = true) (he : elems i.size vs = some xs) (hlen : Nat.beq vs.length len = true) (hsz : Nat.ble (len * i.size) 16777216 = true) (hpos : Nat.blt 0 i.size = true) :
    Eff P n W σ l [] ⟨d, .buildSlice t len ps.toArray, ty, pos, aft, g⟩ fun r τ => r = .sl i.size xs ∧ τ = σ := fun a w hs => by
  obtain ⟨b, w', L', hx0, hb, hbn, hr, hxl, hml, hrun⟩ := build_core (d := d) (ty := ty) (pos := pos) (aft := aft) (g := g) hT hu hi hps hin he hlen hsz hpos hs
  obtain ⟨hm, hc⟩ := hs.mem.same hx0
  refine ⟨_, w', _, _, ⟨rfl, rfl⟩, hx0, ⟨L', ⟨⟨_, len, by rw [hxl], by omega, hml, by simp⟩, fun hn => ⟨b, 0, len, len, rfl, fun hk => ?_, fun j u hj => by rw [Nat.zero_add, mem_cell hb]; exact hj⟩⟩, repss_carry hc _ _ _ hr⟩, hm, hc, .inl hrun⟩
  have := hs.mem.lt b hk
  omega
/-- A slice's literal, as a row of the call's own. -/
theorem Eff.buildOwn (hT : TabOk P tab) {i : TI} {len : Nat} {ps : List (Nat × Operand)} {vs : List (Nat × Abs)} (hu : P.underlying t = some (.slice e)) (hi : ti tab e = some i) (hps : evalParts l ps = some vs) (hin : inOrder 0 vs = true) (he : elems i.size vs = some xs) (hlen : Nat.beq vs.length len = true) (hsz : Nat.ble (len * i.size) 16777216 = true) (hpos : Nat.blt 0 i.size = true) :
    Eff P n W σ l [] ⟨d, .buildSlice t len ps.toArray, ty, pos, aft, g⟩ fun r τ => ∃ u, r = .v u ∧ τ = own e i.size u xs :: σ := fun a w hs => by
  obtain ⟨b, w', L', hx0, hb, hbn, hr, hxl, hml, hrun⟩ := build_core (d := d) (ty := ty) (pos := pos) (aft := aft) (g := g) hT hu hi hps hin he hlen hsz hpos hs
  have hll := repss_length hr
  obtain ⟨hm, hc⟩ := hs.mem.new (y := own e i.size (.slice (some ⟨b, 0, none⟩) len len) xs) hx0 own_nodup (by simpa [It.mids, ownPc, Value.ownBlock] using hbn) rfl fun hc => ⟨L', ⟨by rw [hll], .inr ⟨b, len, L'.toArray, by rw [hxl], Nat.zero_le _, hb, by omega, hml, by simp [hll, hxl], by rw [List.take_of_length_le (by simp [hll])]⟩⟩, repss_carry hc _ _ _ hr⟩
  exact ⟨_, w', _, _, ⟨_, rfl, rfl⟩, hx0, rfl, hm, hc, .inl hrun⟩
end
end Go.Proofs.YtejcohlpjikjpaaGreatDoor.A
/-
  The second engine: slices of rows, a call's begin and end, contracts of the first engine.
-/
namespace Go.Proofs.YtejcohlpjikjpaaGreatDoor.A
open Go.RowKit

section
variable {K : List Nat} {w : World} {s : Nat}
theorem repss_drop {xs : List (List Abs)} {us : List Value} (h : repss K w s xs us) (q : Nat) (hq : q ≤ xs.length) : repss K w s (xs.drop q) (us.drop (q * s)) ∧ repss K w s (xs.take q) (us.take (q * s)) := by
  have h1 := h
  rw [← List.take_append_drop q xs] at h1
  obtain ⟨u1, u2, rfl, h2, h3⟩ := repss_split h1
  have hl : u1.length = q * s := by rw [repss_length h2, List.length_take, Nat.min_eq_left hq]
  rw [← hl]
  simp [h2, h3]
end
section
variable {P : Program} {n : Nat} {W : Wd} {σ τ : Blks} {l : Slots} {X : List Nat} {x y z : Operand} {d : Option Nat} {ty t t' e : TypeId} {pos : String} {aft : Array Edge} {g : Option (Nat × Bool)} {v u : Value} {k k' : IntKind} {a b r : Int} {o : Oper} {A B : Abs} {tab : List (Nat × TI)} {xs ys : List (List Abs)} {s q : Nat} {fn : Func}
def args0 : List Abs → Nat → Slots
  | [], _ => []
  | v :: vs, i => (i, v) :: args0 vs (i + 1)
theorem slot_args0 : ∀ (vs : List Abs) (i t : Nat) (v : Abs), slot (args0 vs i) t = some v → i ≤ t ∧ vs[t - i]? = some v
  | [], i, t, v, h => by simp [args0, slot] at h
  | u :: vs, i, t, v, h => by
    unfold args0 slot at h
    by_cases hit : i = t
    · subst hit
      simp at h
      subst h
      simp
    · rw [beq_ne hit] at h
      obtain ⟨h1, h2⟩ := slot_args0 vs (i + 1) t v h
      refine ⟨by omega, ?_⟩
      rw [show t - i = (t - (i + 1)) + 1 by omega]
      simpa using h2
section
variable {ι : Type} {τ' : ι → Blks} {res : ι → Abs} {args : List Abs}
/-- What a contract's end says. -/
def Post (G : List Nat) (σ : Blks) (τ' : ι → Blks) (res : ι → Abs) (w : World) (e : Ending) (w' : World) : Prop :=
  ∃ z r, e = .returned r ∧ (∀ x ∈ τ' z, x.rids = []) ∧ Mem w (mids σ) G (τ' z) w' ∧ rep (mids (τ' z) ++ G) w' (res z) r
/-- A call is its body, from its arguments on. -/
theorem spec_of {f : FuncId} {c : Code} (hf : P.funcs[f]? = some fn) (hb : fn.body = some c) (hn : fn.ntmps = n) (hle : Nat.ble args.length n = true)
    (h : ∀ G w, SC P c (St n ⟨w, mids σ, G⟩ σ (args0 args 0)) (bodyPost P fn (Post G σ τ' res w))) : Spec P f args σ τ' res := fun G w vals hm hv => by
  have hlen := reps_length hv
  refine calls_of vals hf hb hn (by rw [hlen]; exact hle) (fun w1 => w1 = w) rfl fun a w1 hfr hw => ?_
  subst hw
  refine h G w1 a w1 ⟨hfr.defers, hfr.size, fun t x hx => ?_, hm⟩
  have h1 := (slot_args0 args 0 t x hx).2
  rw [Nat.sub_zero] at h1
  obtain ⟨u, h2, h3⟩ := reps_get hv h1
  refine ⟨u, hfr.at_ t u ?_, h3⟩
  have h4 := slot_full vals 0 t u h2
  rw [Nat.zero_add] at h4
  exact h4
/-- What the results are. -/
inductive RV (P : Program) (n : Nat) (W : Wd) (σ : Blks) (l : Slots) : List ResultVar → List Abs → Prop
  | nil : RV P n W σ l [] []
  | tmp {t : Nat} {v : Abs} {rs : List ResultVar} {vs : List Abs} (h : slot l t = some v) (k : RV P n W σ l rs vs) : RV P n W σ l (.tmp t :: rs) (v :: vs)
  | cell {p ty b : Nat} {v : Abs} {rs : List ResultVar} {vs : List Abs} (h : slot l p = some (.v (.pointer (some ⟨b, 0, none⟩)))) (hv : ∀ a w, St n W σ l a w → ∃ u, rep (mids σ ++ W.G) w v u ∧ (loadVar ty ⟨b, 0, none⟩).run P w = .ok u w) (k : RV P n W σ l rs vs) : RV P n W σ l (.cell p ty :: rs) (v :: vs)
theorem RV.run {rs : List ResultVar} {vs : List Abs} (h : RV P n W σ l rs vs) {a : Act} {w : World} (hs : St n W σ l a w) : ∃ us, reps (mids σ ++ W.G) w vs us ∧ (rs.mapM (resV a.tmps)).run P w = .ok us w := by
  induction h with
  | nil => exact ⟨[], rfl, rfl⟩
  | @tmp t v rs vs h _ ih =>
    obtain ⟨us, h3, h4⟩ := ih
    obtain ⟨u, h1, h2⟩ := hs.slots t v h
    have h5 : (resV a.tmps (.tmp t)).run P w = .ok u w := by simp [resV, h1]
    exact ⟨u :: us, ⟨u, us, rfl, h2, h3⟩, by simp only [List.mapM_cons, Sem.run_bind, h5, Result.andThen_ok, h4, Sem.run_pure]⟩
  | @cell q ty b v rs vs h hv _ ih =>
    obtain ⟨us, h3, h4⟩ := ih
    obtain ⟨u, h1, h2⟩ := hv a w hs
    obtain ⟨p, h6, h7⟩ := hs.slots q _ h
    have h8 : p = .pointer (some ⟨b, 0, none⟩) := h7
    subst h8
    have h5 : (resV a.tmps (.cell q ty)).run P w = .ok u w := by simp [resV, h6, asAddr]; exact h2
    exact ⟨u :: us, ⟨u, us, rfl, h1, h3⟩, by simp only [List.mapM_cons, Sem.run_bind, h5, Result.andThen_ok, h4, Sem.run_pure]⟩
theorem RV.cell1 (hT : TabOk P tab) {sz b : Nat} {zs : List Value} {cs : List Abs} (ht : ti tab t = some ⟨sz, .one, zs⟩) (hb : isBlk σ b t' cs) (hv : cs[0]? = some A) : ∀ a w, St n W σ l a w → ∃ u, rep (mids σ ++ W.G) w A u ∧ (loadVar t ⟨b, 0, none⟩).run P w = .ok u w := fun a w hs => by
  obtain ⟨us, h1, h2⟩ := hs.mem.blk hb
  obtain ⟨u, h3, h4⟩ := reps_get h2 hv
  have h5 := (hT t _ ht).isAgg (w := w)
  exact ⟨u, h4, by simp [loadVar, Sem.run_bind, h5, Result.andThen, load, Sem.run, mem_cell h1 0, h3]⟩
theorem RV.cellA (hT : TabOk P tab) {i : TI} {b : Nat} {cs : List Abs} (ht : ti tab t = some i) (hk : (match i.k with | .one => false | _ => true) = true) (hb : isBlk σ b t' cs) (hl : cs.length = i.size) : ∀ a w, St n W σ l a w → ∃ u, rep (mids σ ++ W.G) w (.agg cs) u ∧ (loadVar t ⟨b, 0, none⟩).run P w = .ok u w := fun a w hs => by
  obtain ⟨us, h1, h2⟩ := hs.mem.blk hb
  exact ⟨_, ⟨us, rfl, h2⟩, run_loadAgg hT ht hk (by rw [reps_length h2]; exact hl) fun j u hu => by rw [Nat.zero_add, mem_cell h1]; exact hu⟩
def retA : List Abs → Abs
  | [v] => v
  | vs => .tup vs
theorem ret_rep {K : List Nat} {w : World} : ∀ {vs : List Abs} {us : List Value}, reps K w vs us → rep K w (retA vs) (retOf us)
  | [], us, h => by have : us = [] := h; subst this; exact ⟨[], rfl, rfl⟩
  | [v], us, ⟨u, us', h1, h2, h3⟩ => by have : us' = [] := h3; subst this h1; exact h2
  | v :: v2 :: vs, us, h => by
    obtain ⟨u, us', h1, h2, u2, us2, h3, h4, h5⟩ := id h
    subst h1 h3
    exact ⟨_, rfl, h⟩
theorem RV.results {rs : List ResultVar} {vs : List Abs} (hr : fn.results = rs.toArray) (h : RV P n W σ l rs vs) {a : Act} {w : World} (hs : St n W σ l a w) : ∃ us, reps (mids σ ++ W.G) w vs us ∧ (results fn a.tmps).run P w = .ok (retOf us) w := by
  obtain ⟨us, h1, h2⟩ := h.run hs
  refine ⟨us, h1, ?_⟩
  rw [results_eq, hr, Array.mapM_eq_mapM_toList, Sem.run_bind, Sem.run_map]
  dsimp only
  rw [h2]
  match us with
  | [] => rfl
  | [v] => rfl
  | v :: u :: vs => simp [retOf, Result.andThen]
theorem SE.retG {R : Ending → World → Prop} {rs : List ResultVar} {vs : List Abs} (hr : fn.results = rs.toArray) (h : RV P n W σ l rs vs) (k : ∀ a w us, St n W σ l a w → reps (mids σ ++ W.G) w vs us → R (.returned (retOf us)) w) : SE .ret (St n W σ l) (bodyPost P fn R) := fun a w hs => by
  obtain ⟨us, h1, h2⟩ := h.results hr hs
  exact ⟨hs.defers, _, h2, k a w us hs h1⟩
theorem SE.doneG {R : Ending → World → Prop} {rs : List ResultVar} {vs : List Abs} (hr : fn.results = rs.toArray) (h : RV P n W σ l rs vs) (k : ∀ a w us, St n W σ l a w → reps (mids σ ++ W.G) w vs us → R (.returned (retOf us)) w) : SE .normal (St n W σ l) (bodyPost P fn R) := fun a w hs => by
  obtain ⟨us, h1, h2⟩ := h.results hr hs
  exact ⟨hs.defers, _, h2, k a w us hs h1⟩
theorem post_of {G : List Nat} {w0 : World} {σ0 : Blks} {vs : List Abs} (z : ι) (hsub : (τ' z).Sublist σ) (hro : ∀ x ∈ τ' z, x.rids = []) (hres : retA vs = res z) {a : Act} {w : World} {us : List Value} (hs : St n ⟨w0, mids σ0, G⟩ σ l a w) (hv : reps (mids σ ++ G) w vs us) : Post G σ0 τ' res w0 (.returned (retOf us)) w := by
  obtain ⟨h1, h2⟩ := hs.mem.sub hsub
  exact ⟨z, _, rfl, hro, h1, hres ▸ ret_rep (reps_carry h2 _ _ hv)⟩
/-- The end of a contract: z tells which pieces and which value come of it. -/
theorem SE.fin {G : List Nat} {w0 : World} {σ0 : Blks} {rs : List ResultVar} {vs : List Abs} (hr : fn.results = rs.toArray) (h : RV P n ⟨w0, mids σ0, G⟩ σ l rs vs) (z : ι) (hsub : (τ' z).Sublist σ) (hro : ∀ x ∈ τ' z, x.rids = []) (hres : retA vs = res z) : SE .ret (St n ⟨w0, mids σ0, G⟩ σ l) (bodyPost P fn (Post G σ0 τ' res w0)) :=
  SE.retG hr h fun _ _ _ hs hv => post_of z hsub hro hres hs hv
/-- The same, the results said otherwise. -/
theorem SE.finC {G : List Nat} {w0 : World} {σ0 : Blks} {rs : List ResultVar} {vs vs2 : List Abs} (hr : fn.results = rs.toArray) (h : RV P n ⟨w0, mids σ0, G⟩ σ l rs vs) (hca : Casts vs vs2) (z : ι) (hsub : (τ' z).Sublist σ) (hro : ∀ x ∈ τ' z, x.rids = []) (hres : retA vs2 = res z) : SE .ret (St n ⟨w0, mids σ0, G⟩ σ l) (bodyPost P fn (Post G σ0 τ' res w0)) :=
  SE.retG hr h fun _ _ _ hs hv => post_of z hsub hro hres hs (hca _ _ _ hv)
theorem cast_agg {cs ds : List Abs} (h : Casts cs ds) : ∀ K w u, rep K w (.agg cs) u → rep K w (.agg ds) u := fun K w _ ⟨us, h1, h2⟩ => ⟨us, h1, h K w us h2⟩
theorem Casts.nils {s : Nat} {xs ys : List Abs} (k : Casts xs ys) : Casts (.v (.slice none 0 0) :: xs) (.sl s [] :: ys) := k.cons fun _ _ _ h => rep_nil h
theorem SE.finN {G : List Nat} {w0 : World} {σ0 : Blks} {rs : List ResultVar} {vs : List Abs} (hr : fn.results = rs.toArray) (h : RV P n ⟨w0, mids σ0, G⟩ σ l rs vs) (z : ι) (hsub : (τ' z).Sublist σ) (hro : ∀ x ∈ τ' z, x.rids = []) (hres : retA vs = res z) : SE .normal (St n ⟨w0, mids σ0, G⟩ σ l) (bodyPost P fn (Post G σ0 τ' res w0)) :=
  SE.doneG hr h fun _ _ _ hs hv => post_of z hsub hro hres hs hv
end

/-! ### Contracts of the first engine -/
/-- The blocks of K in the world w, as they were, as a piece of the first engine. -/
def old2 (w : World) (K : List Nat) : Proofs.YtejcohlpjikjpaaGreatDoor.It := .pc
  { ids := (List.range w.heap.size).filter fun k => decide (k ∈ K)
    p := fun w' => w.heap.size ≤ w'.heap.size ∧ ∀ k, k < w.heap.size → k ∈ K → w'.heap[k]? = w.heap[k]?
    st := fun F w1 w2 hx hF h => ⟨Nat.le_trans h.1 hx.size, fun k hk hm => (hx.block k (Nat.lt_of_lt_of_le hk h.1) (hF k (by simp [hk, hm]))).trans (h.2 k hk hm)⟩
    lt := fun w' h k hk => by
      have : k < w.heap.size := by have := (List.mem_filter.1 hk).1; simpa using this
      exact Nat.lt_of_lt_of_le this h.1 }
theorem old2_ids {w : World} {K : List Nat} {k : Nat} : k ∈ (old2 w K).ids ↔ k < w.heap.size ∧ k ∈ K := by simp [old2, Proofs.YtejcohlpjikjpaaGreatDoor.It.ids]
theorem enter2 (w : World) (K : List Nat) : Proofs.YtejcohlpjikjpaaGreatDoor.Mem [(w, K)] [old2 w K] [] w := by
  refine ⟨fun s hs => ?_, fun x hx k hk s hs => ?_, ?_, fun x hx => ?_, by simp⟩
  · rw [List.mem_singleton] at hs; subst hs; exact Ext.refl w
  · rw [List.mem_singleton] at hs hx; subst hs hx; exact .inl (old2_ids.1 hk).2
  · simp only [List.flatMap_cons, List.flatMap_nil, List.append_nil]
    exact List.Nodup.sublist List.filter_sublist List.nodup_range
  · rw [List.mem_singleton] at hx; subst hx; exact ⟨Nat.le_refl _, fun _ _ _ => rfl⟩
theorem leave2 {w w' : World} {K : List Nat} {ρ : List Dt} {σ2 : Proofs.YtejcohlpjikjpaaGreatDoor.Blks} (h : Proofs.YtejcohlpjikjpaaGreatDoor.Mem [(w, K)] σ2 ρ w') (hm : old2 w K ∈ σ2) : Ext [] w w' := by
  have h1 := h.ext (w, K) (by simp)
  have h2 : _ ∧ _ := h.hold _ hm
  exact ⟨h1.os, h1.tape, h1.output, h1.size, fun k hk _ => by
    by_cases hK : k ∈ K
    · exact h2.2 k hk hK
    · exact h1.block k hk hK⟩
theorem row2 {w : World} {K : List Nat} {v : Value} {n : Nat} {cs : List Value} (h : IsRow K w v n cs) : IsRow ([old2 w K].flatMap Proofs.YtejcohlpjikjpaaGreatDoor.It.ids) w v n cs :=
  h.grow fun k hk => .inl (by
    simp only [List.flatMap_cons, List.flatMap_nil, List.append_nil] at hk
    exact (old2_ids.1 hk).2)
theorem Pure.of2 {f : FuncId} {args : List Abs} {res : Abs} (h : ∀ (K : List Nat) (w : World) (vals : List Value), (∀ k ∈ K, k < w.heap.size) → reps K w args vals → Calls P f vals.toArray w fun e w' => ∃ r, e = .returned r ∧ Ext [] w w' ∧ rep K w' res r) : Pure P f args res := fun G w vals hm hv =>
  (h G w vals hm.old hv).mono fun e w' ⟨r, he, hx, hr⟩ => ⟨(), r, he, by simp, ⟨hx, by simp [mids], by simp [mids], fun k hk => Nat.lt_of_lt_of_le (hm.old k hk) hx.size, by simp, by simp [mids], by simp⟩, hr⟩
end
end Go.Proofs.YtejcohlpjikjpaaGreatDoor.A
/-
  Readers, in plain Lean: what is read turns on the bytes alone.
-/
namespace Go.Proofs.YtejcohlpjikjpaaGreatDoor
open Go.RowKit

/-- Two readers of the same bytes. -/
def Rd.as (s t : Rd) : Prop := s.l = t.l ∧ s.e = t.e
section
variable {s t : Rd}
theorem Rd.as.bad (h : s.as t) (n : Int) : s.bad n ↔ t.bad n := by unfold Rd.bad; rw [h.1]
theorem Rd.as.fixed (h : s.as t) (n : Int) : (s.fixed n).as (t.fixed n) := by
  unfold Rd.fixed Rd.as
  by_cases he : t.e = 0
  · have he' : s.e = 0 := by rw [h.2, he]
    by_cases hb : t.bad n
    · simp [he, he', hb, (h.bad n).2 hb, h.1]
    · have hb' : ¬ s.bad n := fun x => hb ((h.bad n).1 x)
      simp [he, he', hb, hb', h.1]
  · have he' : s.e ≠ 0 := by rw [h.2]; exact he
    simp [he, h.1, h.2]
theorem Rd.as.out (h : s.as t) (n : Int) : s.out n = t.out n := by
  unfold Rd.out
  rw [h.1, h.2]
  by_cases hb : t.bad n
  · simp [hb, (h.bad n).2 hb]
  · have hb' : ¬ s.bad n := fun x => hb ((h.bad n).1 x)
    simp [hb, hb']
theorem Rd.as.num (h : s.as t) (n : Int) : s.num n = t.num n := by unfold Rd.num; rw [h.out]
theorem Rd.as.row (h : s.as t) (most : Int) : (s.row most).as (t.row most) := by
  have h1 := h.fixed 4
  unfold Rd.row
  rw [h1.2, h.num 4]
  split
  · exact h1
  · split
    · exact ⟨h1.1, rfl⟩
    · exact h1.fixed _
theorem Rd.as.rowOut (h : s.as t) (most : Int) : s.rowOut most = t.rowOut most := by
  have h1 := h.fixed 4
  unfold Rd.rowOut
  rw [h1.2, h.num 4, h1.out]
theorem Rd.as.end_ (h : s.as t) : s.end_ = t.end_ := by unfold Rd.end_; rw [h.1, h.2]
end
def Rd.of (l : List UInt8) : Rd := ⟨.slice none 0 0, l, 0⟩
section
variable {P : Program} {n : Nat} {l : Slots} {D : World → Prop} {x y : Operand} {d : Option Nat} {ty t t' : TypeId} {pos : String} {aft : Array Edge} {g : Option (Nat × Bool)}
end
end Go.Proofs.YtejcohlpjikjpaaGreatDoor
/-
  The second engine: the contracts of octets, as they stand.
-/
namespace Go.Proofs.YtejcohlpjikjpaaGreatDoor.A
open Go.RowKit

abbrev int (x : Int) : Abs := .v (.int .i64 x)
abbrev boo (b : Bool) : Abs := .v (.bool b)
abbrev ptr (b : Nat) : Abs := .v (.pointer (some ⟨b, 0, none⟩))
section
variable {P : Program} {f : FuncId}
/-- Rows of elements of plain cells. -/
abbrev flat {α : Type} (s : Nat) (c : α → List Value) (xs : List α) : Abs := .sl s (xs.map fun a => (c a).map .v)
theorem reps_plain {K : List Nat} {w : World} : ∀ {us vs : List Value}, reps K w (us.map .v) vs ↔ vs = us
  | [], vs => Iff.rfl
  | u :: us, vs => by
    constructor
    · rintro ⟨u', us', h1, h2, h3⟩
      have h2 : u' = u := h2
      rw [h1, h2, reps_plain.1 h3]
    · rintro rfl; exact ⟨u, us, rfl, rfl, reps_plain.2 rfl⟩
theorem repss_flat {K : List Nat} {w : World} {α : Type} {s : Nat} {c : α → List Value} (hc : ∀ a, (c a).length = s) : ∀ {xs : List α} {us : List Value}, repss K w s (xs.map fun a => (c a).map .v) us ↔ us = xs.flatMap c
  | [], us => Iff.rfl
  | x :: xs, us => by
    constructor
    · rintro ⟨u1, u2, h1, h2, h3, h4⟩
      rw [h1, reps_plain.1 h3, (repss_flat hc).1 h4, List.flatMap_cons]
    · rintro rfl
      exact ⟨c x, _, rfl, hc x, reps_plain.2 rfl, (repss_flat hc).2 rfl⟩
theorem rep_flat {K : List Nat} {w : World} {α : Type} {s : Nat} {c : α → List Value} (hc : ∀ a, (c a).length = s) {xs : List α} {x : Value} : rep K w (flat s c xs) x ↔ IsRow K w x xs.length (xs.flatMap c) := by
  constructor
  · rintro ⟨us, h1, h2⟩
    have := (repss_flat hc).1 h2
    subst this
    simpa using h1
  · intro h
    exact ⟨_, by simpa using h, (repss_flat hc).2 rfl⟩
end
section
variable {l m : List UInt8} {p : Nat} {s : Rd}
abbrev pv (p : Nat) : Value := .pointer (some ⟨p, 0, none⟩)
end
end Go.Proofs.YtejcohlpjikjpaaGreatDoor.A
/-
  The second engine: arrays, copies, blocks that are only read from then on.
-/
namespace Go.Proofs.YtejcohlpjikjpaaGreatDoor.A
open Go.RowKit

section
variable {P : Program} {n : Nat} {W : Wd} {σ τ : Blks} {l : Slots} {X : List Nat} {x y z : Operand} {d : Option Nat} {ty t t' e : TypeId} {pos : String} {aft : Array Edge} {g : Option (Nat × Bool)} {v u : Value} {k k' : IntKind} {a b : Nat} {o : Oper} {A B : Abs} {tab : List (Nat × TI)} {ops : Array Oper} {rest : List Oper} {Q : Exit → Act → World → Prop} {ix : Plan} {xs ys : List (List Abs)} {s q : Nat} {cs : List Abs}
theorem upd_self {x : It} {σ τ : Blks} (h : Upd x x σ τ) : τ = σ := by
  induction h with
  | here => rfl
  | there _ ih => rw [ih]
theorem SC.known {c : Code} {p : Prop} {T : Act → World → Prop} (h : ∀ a w, T a w → p) (k : p → SC P c T Q) : SC P c T Q := fun a w ha => k (h a w ha) a w ha
theorem SL.known {p : Prop} {T : Act → World → Prop} (h : ∀ a w, T a w → p) (k : p → SL P ops rest T Q) : SL P ops rest T Q := fun a w ha => k (h a w ha) a w ha
/-- 'copy(dst, src)' into a block of the call's own, of single cells. -/
theorem Eff.copy {off m c : Nat} {L' : List Abs} (hu : P.underlying t = some (.slice e)) (hi : (P.info? e).map (·.size) = some 1) (hx : look l x = some (.v (.slice (some ⟨b, off, none⟩) m c))) (hy : look l y = some (.sl 1 xs)) (hup : Upd (.blk b t' cs) (.blk b t' L') σ τ) (hl : off + min xs.length m ≤ cs.length) (h1 : ∀ c ∈ xs, ones c = true) (hL : putL cs off (xs.take m).flatten = L') :
    Eff P n W σ l [b] ⟨d, .call { callee := .builtin .copy, args := #[x, y], argTypes := #[t, t] }, ty, pos, aft, g⟩ fun r τ' => r = .v (.int .i64 (min xs.length m : Nat)) ∧ τ' = τ := fun a w hs => by
  obtain ⟨us, hb, hr⟩ := hs.mem.hold _ hup.mem
  obtain ⟨news, hrow, hr2⟩ := hs.eval hy
  obtain ⟨A', c', hsh, _⟩ := hrow.shape
  have hlen := reps_length hr
  have hlen2 := repss_length hr2
  rw [Nat.mul_one] at hlen2
  have hreps : ∀ (xs : List (List Abs)) (news : List Value), repss (mids σ ++ W.G) w 1 xs news → reps (mids σ ++ W.G) w xs.flatten news := by
    intro xs
    induction xs with
    | nil => intro news h; exact h
    | cons y ys ih =>
      rintro news ⟨u1, u2, rfl, _, h3, h4⟩
      rw [List.flatten_cons]; exact reps_append h3 (ih u2 h4)
  have htk : ∀ (m : Nat), repss (mids σ ++ W.G) w 1 (xs.take m) (news.take m) := fun m => by
    rcases Nat.le_total m xs.length with h | h
    · have := (repss_drop hr2 m h).2; rwa [Nat.mul_one] at this
    · rw [List.take_of_length_le h, List.take_of_length_le (by omega)]; exact hr2
  have hone : ∀ u ∈ news.take m, u.oneCell' = true := ones_reps (hreps _ _ (htk m)) (by
    rw [ones_iff]; intro a ha
    obtain ⟨c, hc, hac⟩ := List.mem_flatten.1 ha
    exact ones_iff.1 (h1 c (List.mem_of_mem_take hc)) a hac)
  have htl : (news.take m).length = Nat.min xs.length m := by rw [List.length_take, hlen2]; exact Nat.min_comm _ _
  have hmn : (news.take m).length = min xs.length m := htl
  by_cases hn : news = []
  · subst hn
    have h0 : xs.length = 0 := by simpa using hlen2.symm
    have hxn : xs = [] := List.length_eq_zero_iff.1 h0
    subst hxn
    have hLc : L' = cs := by rw [← hL, putL_eq _ _ _ (by omega)]; simp
    subst hLc
    have hτ := upd_self hup
    subst hτ
    refine ⟨_, w, _, _, ⟨rfl, rfl⟩, Ext.refl w, rfl, hs.mem, Carry.refl, .inl ?_⟩
    obtain ⟨I, hI, hIs⟩ : ∃ I, P.info? e = some I ∧ I.size = 1 := by
      cases hq : P.info? e with
      | none => simp [hq] at hi
      | some i => exact ⟨i, rfl, by simpa [hq] using hi⟩
    cases A' <;> simp [execOp, resolve, invoke, builtin, Builtin.copy_, hs.plain hx, hsh, run_underlying hu, Builtin.lenOf, Builtin.firstCells, sizeOf, typeInfo, hI, hIs, storeCells, Sem.run_bind, Result.andThen, loadCells, loadCellsFrom, goInt]
  · obtain ⟨bb, o2, n2, c2, hv, hbb, hcc⟩ := hrow.cells hn
    rw [hsh] at hv
    simp at hv
    obtain ⟨rfl, rfl, rfl⟩ := hv
    have hrun := run_copy_row (P := P) w t t ty e b off m c ⟨bb, o2, none⟩ xs.length c' us.toArray t' (news.take m) hu hi hb htl (fun j u hu => by
      rw [Addr.add_none]
      rw [List.getElem?_take] at hu
      split at hu
      · exact hcc j u hu
      · cases hu) (by simp; omega) hone
    have hE : (us.toArray.toList.take off ++ news.take m ++ us.toArray.toList.drop (off + (news.take m).length)).toArray = (putAt us off (news.take m)).toArray := by
      rw [putAt_eq us off _ (by omega)]
    rw [hE, hmn] at hrun
    have hxx : Ext [b] w (w.setRow b (putAt us off (news.take m)).toArray) := (Ext.refl w).setRow (.inl (by simp)) _
    have hm := hs.mem.upd hup hxx (by simp [It.mids]) (by simp [It.mids]) rfl fun hc => ⟨_, heap_setRow hb, reps_carry hc _ _ (hL ▸ reps_put hr (hreps _ _ (htk m)) (by omega))⟩
    refine ⟨_, _, _, _, ⟨rfl, rfl⟩, hxx, rfl, hm.1, hm.2, .inl ?_⟩
    simp [execOp, resolve, invoke, builtin, hs.plain hx, hsh, hrun, Result.andThen, goInt]
end
abbrev ints (xs : List Int) : Abs := .sl 1 (xs.map fun x => [int x])
theorem elems_one {s i : Nat} {cs : List Abs} (h : cs.length = s) : elems s [(i, .agg cs)] = some [cs] := by simp [elems, cellsA, h]
end Go.Proofs.YtejcohlpjikjpaaGreatDoor.A
/-
  Arguments opened down to their cells: a struct, however deep, is its cells, each read by its own type.
-/
namespace Go.Proofs.YtejcohlpjikjpaaGreatDoor
open Go.RowKit Go.ChangeShapes Go.WideShapes Go.ChangeAt

/-- The types of a type's cells, in order. -/
def leaves (P : Program) : Nat → TypeId → Option (List TypeId)
  | 0, _ => none
  | d + 1, t =>
    match P.underlying t with
    | some (.struct fs) => fs.toList.foldlM (fun acc f => (leaves P d f.type).bind fun l => if f.offset = acc.length ∧ l.length = P.cellsOf f.type then some (acc ++ l) else none) []
    | some (.array n e) => (leaves P d e).bind fun l => if l.length = P.cellsOf e then some (List.replicate n l).flatten else none
    | some _ => some [t]
    | none => none

section
variable {H : Type} {enc : TypeId × Value → H} {P : Program} {w : World} {base : Nat} {spare : Nat → Bool} {held : Bool}

/-- Cell j reads by its own type. -/
def LeafAt (enc : TypeId × Value → H) (P : Program) (w : World) (base : Nat) (spare : Nat → Bool) (held : Bool) (u : TypeId) (v : Value) : Prop := ∃ n y, DataW.trod enc P w base spare held n u [v] = some y

theorem leaves_fields {d : Nat} {cs : List Value} {n : Nat}
    (ih : ∀ (t : TypeId) (ts : List TypeId) (fuel : Nat) (cs : List Value) (x : DataW H × List MemPlace), leaves P d t = some ts → ts.length = cs.length → DataW.trod enc P w base spare held fuel t cs = some x →
      ∀ (j : Nat) (v : Value) (u : TypeId), cs[j]? = some v → ts[j]? = some u → LeafAt enc P w base spare held u v) :
    ∀ (fs : List Field) (acc ts : List TypeId), (∀ f ∈ fs, ∃ y, DataW.trod enc P w base spare held n f.type ((cs.drop f.offset).take (P.cellsOf f.type)) = some y) →
      fs.foldlM (fun acc f => (leaves P d f.type).bind fun l => if f.offset = acc.length ∧ l.length = P.cellsOf f.type then some (acc ++ l) else none) acc = some ts →
      ts.length ≤ cs.length →
      (∀ (j : Nat) (v : Value) (u : TypeId), cs[j]? = some v → acc[j]? = some u → LeafAt enc P w base spare held u v) →
      (∀ (j : Nat) (v : Value) (u : TypeId), cs[j]? = some v → ts[j]? = some u → LeafAt enc P w base spare held u v) := by
  intro fs
  induction fs with
  | nil =>
    intro acc ts _ h _ ha
    simp at h
    subst h
    exact ha
  | cons f fs hfs =>
    intro acc ts hall h hlen ha
    simp only [List.foldlM_cons, Option.bind_eq_bind, Option.bind_eq_some_iff] at h
    obtain ⟨acc', ⟨l, hl, hif⟩, hrest⟩ := h
    split at hif
    · rename_i hc
      obtain ⟨ho, hlc⟩ := hc
      simp only [Option.some.injEq] at hif
      subst hif
      have hmono : ∀ (fs : List Field) (a b : List TypeId), fs.foldlM (fun acc f => (leaves P d f.type).bind fun l => if f.offset = acc.length ∧ l.length = P.cellsOf f.type then some (acc ++ l) else none) a = some b → a.length ≤ b.length := by
        intro fs
        induction fs with
        | nil => intro a b h; simp at h; subst h; exact Nat.le_refl _
        | cons f fs ih2 =>
          intro a b h
          simp only [List.foldlM_cons, Option.bind_eq_bind, Option.bind_eq_some_iff] at h
          obtain ⟨a', ⟨l, _, hif⟩, hr⟩ := h
          split at hif
          · simp only [Option.some.injEq] at hif
            subst hif
            have := ih2 _ _ hr
            simp at this
            omega
          · cases hif
      have hacc := hmono _ _ _ hrest
      refine hfs (acc ++ l) ts (fun g hg => hall g (List.mem_cons_of_mem _ hg)) hrest hlen ?_
      intro j v u hv hu
      rw [List.getElem?_append] at hu
      split at hu
      · exact ha j v u hv hu
      · rename_i hj
        obtain ⟨y, hy⟩ := hall f List.mem_cons_self
        rw [List.length_append] at hacc
        refine ih f.type l n _ y hl ?_ hy (j - acc.length) v u ?_ hu
        · rw [List.length_take, List.length_drop]; omega
        · have hjl : j - acc.length < l.length := (List.getElem?_eq_some_iff.1 hu).1
          rw [List.getElem?_take, if_pos (by omega), List.getElem?_drop, ho, show acc.length + (j - acc.length) = j by omega]
          exact hv
    · cases hif

theorem leaves_trod : ∀ (d : Nat) (t : TypeId) (ts : List TypeId) (fuel : Nat) (cs : List Value) (x : DataW H × List MemPlace), leaves P d t = some ts → ts.length = cs.length → DataW.trod enc P w base spare held fuel t cs = some x →
    ∀ (j : Nat) (v : Value) (u : TypeId), cs[j]? = some v → ts[j]? = some u → LeafAt enc P w base spare held u v := by
  intro d
  induction d with
  | zero => intro t ts fuel cs x h; simp [leaves] at h
  | succ d ih =>
    intro t ts fuel cs x h hlen ht
    unfold leaves at h
    split at h
    · rename_i fs hu
      obtain ⟨xs, n, _, _, hcl, hxl, hf⟩ := DataW.trod_struct hu ht
      refine leaves_fields (n := n) ih fs.toList [] ts ?_ h (by omega) (by simp)
      intro f hfm
      obtain ⟨i, hi, he⟩ := List.getElem_of_mem hfm
      have h1 := hf i f (by rw [← Array.getElem?_toList, List.getElem?_eq_getElem hi, he])
      have : i < xs.length := by rw [hxl]; simpa using hi
      exact ⟨xs[i], by rw [h1, List.getElem?_eq_getElem this]⟩
    · rename_i m e hu
      obtain ⟨xs, n, _, _, hcl, hxl, hf⟩ := DataW.trod_array hu ht
      simp only [Option.bind_eq_some_iff] at h
      obtain ⟨l, hl, hif⟩ := h
      split at hif
      · rename_i hc
        simp only [Option.some.injEq] at hif
        subst hif
        intro j v u hv hu'
        have hjl : j < (List.replicate m l).flatten.length := (List.getElem?_eq_some_iff.1 hu').1
        have hfl : ∀ k, (List.replicate k l).flatten.length = k * l.length := by
          intro k; simp
        rw [hfl] at hjl
        have hl0 : 0 < l.length := by
          rcases Nat.eq_zero_or_pos l.length with h0 | h0
          · rw [h0] at hjl; simp at hjl
          · exact h0
        have hi : j / l.length < m := by rw [Nat.div_lt_iff_lt_mul hl0]; exact hjl
        have hmod := Nat.mod_lt j hl0
        have hjd := Nat.div_add_mod j l.length
        have hget : ∀ (k j : Nat), j < k * l.length → (List.replicate k l).flatten[j]? = l[j % l.length]? := by
          intro k
          induction k with
          | zero => intro j hj; simp at hj
          | succ k ihk =>
            intro j hj
            rw [List.replicate_succ, List.flatten_cons, List.getElem?_append]
            split
            · rename_i h1; rw [Nat.mod_eq_of_lt h1]
            · rename_i h1
              rw [ihk (j - l.length) (by rw [Nat.succ_mul] at hj; omega)]
              rw [← Nat.mod_eq_sub_mod (show l.length ≤ j by omega)]
        rw [hget m j hjl] at hu'
        have h1 := hf (j / l.length) hi
        have hxi : j / l.length < xs.length := by omega
        rw [List.getElem?_eq_getElem hxi] at h1
        have hsz : (j / l.length) * P.cellsOf e + P.cellsOf e ≤ cs.length := by
          rw [← hlen, hfl, ← hc]
          calc (j / l.length) * l.length + l.length = (j / l.length + 1) * l.length := by rw [Nat.succ_mul]
            _ ≤ m * l.length := Nat.mul_le_mul_right _ hi
        refine ih e l n _ _ hl ?_ h1 (j % l.length) v u ?_ hu'
        · rw [List.length_take, List.length_drop]; omega
        · rw [List.getElem?_take, if_pos (by omega), List.getElem?_drop, ← hc, ← hv]
          congr 1
          rw [Nat.mul_comm]; exact hjd
      · cases hif
    · rename_i hu1 hu2 hs
      simp only [Option.some.injEq] at h
      subst h
      intro j v u hv hu'
      have hc1 : cs.length = 1 := by simpa using hlen.symm
      match cs, hc1 with
      | [c], _ =>
        match j with
        | 0 =>
          simp at hv hu'
          subst hv; subst hu'
          exact ⟨fuel, x, ht⟩
        | j + 1 => simp at hv
    · cases h
theorem LeafAt.int {u : TypeId} {v : Value} {k : IntKind} (h : LeafAt enc P w base spare held u v) (hu : P.underlying u = some (.int k)) : ∃ n, v = .int k n ∧ (Lit.int k n).wf = true := by
  obtain ⟨n, y, hy⟩ := h
  obtain ⟨m, h1, _, h2⟩ := DataW.trod_int hu hy
  simp at h1
  exact ⟨m, h1, h2⟩
theorem LeafAt.string {u : TypeId} {v : Value} (h : LeafAt enc P w base spare held u v) (hu : P.underlying u = some .string) : ∃ s, v = .string s ∧ s.size ≤ maxLen := by
  obtain ⟨n, y, hy⟩ := h
  obtain ⟨m, h1, _, h2⟩ := DataW.trod_string hu hy
  simp at h1
  exact ⟨m, h1, h2⟩
theorem LeafAt.bool {u : TypeId} {v : Value} (h : LeafAt enc P w base spare held u v) (hu : P.underlying u = some .bool) : ∃ b, v = .bool b := by
  obtain ⟨n, y, hy⟩ := h
  obtain ⟨m, h1, _⟩ := DataW.trod_bool hu hy
  simp at h1
  exact ⟨m, h1⟩

theorem flatten_get {α : Type} {sz : Nat} (h0 : 0 < sz) : ∀ (xs : List (List α)), (∀ x ∈ xs, x.length = sz) → ∀ j, xs.flatten[j]? = (xs[j / sz]?).bind fun x => x[j % sz]? := by
  intro xs
  induction xs with
  | nil => intro _ j; simp
  | cons x xs ih =>
    intro hx j
    have hxl := hx x List.mem_cons_self
    rw [List.flatten_cons, List.getElem?_append]
    split
    · rename_i h1
      rw [Nat.div_eq_of_lt (by omega), Nat.mod_eq_of_lt (by omega)]
      simp
    · rename_i h1
      rw [ih (fun y hy => hx y (List.mem_cons_of_mem _ hy)), hxl]
      have h2 : j / sz = (j - sz) / sz + 1 := by
        rw [Nat.div_eq_sub_div h0 (by omega)]
      rw [h2, List.getElem?_cons_succ, ← Nat.mod_eq_sub_mod (show sz ≤ j by omega)]
theorem flatten_length {α : Type} {sz : Nat} : ∀ (xs : List (List α)), (∀ x ∈ xs, x.length = sz) → xs.flatten.length = xs.length * sz := by
  intro xs
  induction xs with
  | nil => intro _; simp
  | cons x xs ih =>
    intro hx
    rw [List.flatten_cons, List.length_append, ih (fun y hy => hx y (List.mem_cons_of_mem _ hy)), hx x List.mem_cons_self, List.length_cons, Nat.succ_mul, Nat.add_comm]
theorem add_eq (b off : Nat) (j : Nat) : (⟨b, off, none⟩ : Addr).add j = ⟨b, off + j, none⟩ := by
  unfold Addr.add
  split
  · rename_i h0; subst h0; rfl
  · rfl

/-- A slice that came in: its row, element by element: each element's cells read by the element's type. -/
theorem open_row {t e : TypeId} {fuel : Nat} {A : Option Addr} {n c : Nat} {x : DataW H × List MemPlace} (ht : P.underlying t = some (.slice e)) (h : DataW.trod enc P w base spare held fuel t [.slice A n c] = some x) :
    n ≤ c ∧ c ≤ maxLen ∧ ∃ xs : List (List Value), xs.length = n ∧ (∀ cs ∈ xs, cs.length = P.cellsOf e ∧ ∃ m y, DataW.trod enc P w base spare held m e cs = some y) ∧ (xs.flatten ≠ [] → ∃ b off : Nat, A = some ⟨b, off, none⟩ ∧ ∀ j u, xs.flatten[j]? = some u → w.cell? ⟨b, off + j, none⟩ = some u) := by
  rcases Deep.open_slice ht h with ⟨hcs, _⟩ | ⟨a, len, cap, m, n', D, Pl, hcs, _, hl, hm, hmm, _, hi⟩
  · simp at hcs
    obtain ⟨rfl, rfl, rfl⟩ := hcs
    exact ⟨Nat.le_refl _, Nat.zero_le _, [], rfl, by simp, by simp⟩
  · simp at hcs
    obtain ⟨rfl, rfl, rfl⟩ := hcs
    have hnm : n ≤ m := by rw [hmm]; split <;> omega
    refine ⟨hl, hm, (List.range n).map fun i => ((w.cells? base (a.add (i * P.cellsOf e)) (P.cellsOf e)).getD []), by simp, ?_, ?_⟩
    · intro cs hcs
      simp only [List.mem_map, List.mem_range] at hcs
      obtain ⟨i, hin, rfl⟩ := hcs
      obtain ⟨cs', h1, h2⟩ := hi i (by omega)
      rw [h1]
      exact ⟨(World.cells?_some h1).2.1, n', _, h2⟩
    · intro hne
      have hall : ∀ y ∈ (List.range n).map (fun i => ((w.cells? base (a.add (i * P.cellsOf e)) (P.cellsOf e)).getD [])), y.length = P.cellsOf e := by
        intro y hy
        simp only [List.mem_map, List.mem_range] at hy
        obtain ⟨i, hin, rfl⟩ := hy
        obtain ⟨cs', h1, _⟩ := hi i (by omega)
        rw [h1]
        exact (World.cells?_some h1).2.1
      have hlen0 := flatten_length _ hall
      have hpos : 0 < n * P.cellsOf e := by
        rcases Nat.eq_zero_or_pos (n * P.cellsOf e) with h0 | h0
        · exfalso
          apply hne
          apply List.eq_nil_of_length_eq_zero
          rw [hlen0]
          simpa using h0
        · exact h0
      have hsz : 0 < P.cellsOf e := Nat.pos_of_mul_pos_left hpos
      have hn0 : 0 < n := Nat.pos_of_mul_pos_right hpos
      obtain ⟨b, off, spot⟩ := a
      have hs : spot = none := by
        obtain ⟨cs', h1, _⟩ := hi 0 (by omega)
        obtain ⟨_, hl1, hc1⟩ := World.cells?_some h1
        have h2 := hc1 0 hsz
        have h3 : ((⟨b, off, spot⟩ : Addr).add (0 * P.cellsOf e)).add 0 = ⟨b, off, spot⟩ := by simp [Addr.add]
        rw [h3, List.getElem?_eq_getElem (by omega)] at h2
        exact spot_none h2
      subst hs
      refine ⟨b, off, rfl, fun j u hu => ?_⟩
      rw [flatten_get hsz _ hall] at hu
      simp only [Option.bind_eq_some_iff, List.getElem?_map, Option.map_eq_some_iff] at hu
      obtain ⟨y, ⟨i, hir, rfl⟩, hy⟩ := hu
      have hrl := List.getElem?_eq_some_iff.1 hir
      obtain ⟨hir1, hir2⟩ := hrl
      simp at hir1 hir2
      subst hir2
      obtain ⟨cs', h1, _⟩ := hi (j / P.cellsOf e) (by omega)
      rw [h1] at hy
      simp only [Option.getD_some] at hy
      obtain ⟨_, hl1, hc1⟩ := World.cells?_some h1
      have h2 := hc1 (j % P.cellsOf e) (Nat.mod_lt _ hsz)
      rw [add_eq, add_eq, hy] at h2
      have hjd := Nat.div_add_mod j (P.cellsOf e)
      rw [show off + j = off + j / P.cellsOf e * P.cellsOf e + j % P.cellsOf e by rw [Nat.mul_comm (j / P.cellsOf e)]; omega]
      exact h2
end
end Go.Proofs.YtejcohlpjikjpaaGreatDoor
/-
  Rows of bytes that come in as arguments.
-/
namespace Go.Proofs.YtejcohlpjikjpaaGreatDoor
open Go.RowKit Go.ChangeShapes Go.WideShapes Go.ChangeAt

section
variable {H : Type} {enc : TypeId × Value → H} {w : World} {base : Nat} {spare : Nat → Bool} {held : Bool}
theorem open_none {t e : TypeId} {fuel : Nat} {A : Option Addr} {n c : Nat} {x : DataW H × List MemPlace} (ht : Tryz.prog.underlying t = some (.slice e)) (h : DataW.trod enc Tryz.prog w base spare held fuel t [.slice A n c] = some x) : A = none → c = 0 := by
  intro hA
  rcases Deep.open_slice ht h with ⟨hcs, _⟩ | ⟨a, len, cap, m, n', D, Pl, hcs, _⟩
  · simp at hcs
    exact hcs.2.2
  · simp at hcs
    rw [hA] at hcs
    simp at hcs
end
end Go.Proofs.YtejcohlpjikjpaaGreatDoor
/-
  Arguments that are rows of structs as trees: opened down to their cells; from a walk to the statement.
-/
namespace Go.Proofs.YtejcohlpjikjpaaGreatDoor.A
open Go.RowKit Go.ChangeShapes Go.WideShapes Go.ChangeAt

section
variable {H : Type} {enc : TypeId × Value → H} {w : World} {base : Nat} {spare : Nat → Bool} {held : Bool}
theorem open_rows {α : Type} {abs : α → List Abs} {Ok : α → Prop} {s : Nat} : ∀ {ys : List (List Value)}, (∀ cs ∈ ys, cs.length = s ∧ ∃ a, reps [] w (abs a) cs ∧ Ok a) → ∃ xs : List α, repss [] w s (xs.map abs) ys.flatten ∧ xs.length = ys.length ∧ ∀ a ∈ xs, Ok a
  | [], _ => ⟨[], rfl, rfl, by simp⟩
  | cs :: ys, h => by
    obtain ⟨h1, a, h2, h3⟩ := h cs List.mem_cons_self
    obtain ⟨xs, h4, h5, h6⟩ := open_rows (ys := ys) fun c hc => h c (List.mem_cons_of_mem _ hc)
    exact ⟨a :: xs, ⟨cs, _, rfl, h1, h2, h4⟩, by simp [h5], by simpa using ⟨h3, h6⟩⟩
/-- A slice that came in, as a tree. -/
theorem open_slA {α : Type} {abs : α → List Abs} {Ok : α → Prop} {t e : TypeId} {s : Nat} {v : Value} (ht : Tryz.prog.underlying t = some (.slice e)) (hs : Tryz.prog.cellsOf e = s) (h : LeafAt enc Tryz.prog w base spare held t v)
    (hdec : ∀ cs, cs.length = Tryz.prog.cellsOf e → (∃ m y, DataW.trod enc Tryz.prog w base spare held m e cs = some y) → ∃ a, reps [] w (abs a) cs ∧ Ok a) :
    ∃ xs : List α, rep [] w (.sl s (xs.map abs)) v ∧ ∀ a ∈ xs, Ok a := by
  obtain ⟨fuel, x, h⟩ := h
  obtain ⟨A, n, c, rfl⟩ : ∃ A n c, v = .slice A n c := by
    rcases Deep.open_slice ht h with ⟨hcs, _⟩ | ⟨a, len, cap, m, n', D, Pl, hcs, _⟩
    · simp at hcs; exact ⟨_, _, _, hcs⟩
    · simp at hcs; exact ⟨_, _, _, hcs⟩
  obtain ⟨h1, h2, ys, h3, h4, h5⟩ := open_row ht h
  obtain ⟨xs, h6, h7, h8⟩ := open_rows (abs := abs) (Ok := Ok) (s := s) (w := w) (ys := ys) fun cs hc => ⟨by rw [← hs]; exact (h4 cs hc).1, hdec cs (h4 cs hc).1 (h4 cs hc).2⟩
  refine ⟨xs, ⟨ys.flatten, ⟨⟨A, c, ?_, ?_, h2, open_none ht h⟩, fun hn => ?_⟩, h6⟩, h8⟩
  · rw [List.length_map, h7, h3]
  · rw [List.length_map, h7, h3]; exact h1
  · obtain ⟨b, off, rfl, hc⟩ := h5 hn
    exact ⟨b, off, _, _, rfl, by simp, hc⟩
end
end Go.Proofs.YtejcohlpjikjpaaGreatDoor.A
/-
  The second engine: rows of one's own, read; calls that change several pieces.
-/
namespace Go.Proofs.YtejcohlpjikjpaaGreatDoor.A
open Go.RowKit

def isOwn (σ : Blks) (e : TypeId) (s : Nat) (v : Value) (xs : List (List Abs)) : Prop := own e s v xs ∈ σ ∨ It.rdpc (ownPc e s v xs) ∈ σ
/-- The address of so many cells behind a row's first one. -/
def eptr : Value → Nat → Value
  | .slice (some ⟨b, off, _⟩) _ _, o => .pointer (some ⟨b, off + o, none⟩)
  | v, _ => v
section
variable {P : Program} {n : Nat} {W : Wd} {σ τ : Blks} {l : Slots} {X : List Nat} {x y z : Operand} {d : Option Nat} {ty t e e' : TypeId} {pos : String} {aft : Array Edge} {g : Option (Nat × Bool)} {v : Value} {k : IntKind} {A : Abs} {tab : List (Nat × TI)} {xs : List (List Abs)} {s q : Nat} {cs : List Abs}
theorem Mem.ownR {w0 w : World} {F G : List Nat} (h : Mem w0 F G σ w) (hb : isOwn σ e s v xs) : ∃ us, IsRow [] w v xs.length us ∧ repss (mids σ ++ G) w s xs us := by
  have hp : (ownPc e s v xs).p (mids σ ++ G) w := by
    rcases hb with hb | hb
    · exact h.hold _ hb
    · exact h.hold _ hb
  obtain ⟨us, h1, h2⟩ := hp
  exact ⟨us, ownsRow.isRow h1 (by simp), h2⟩
theorem Val.lenOwnR {m : Nat} (hx : look l x = some (.v v)) (hb : isOwn σ e' s v xs) (ht : P.underlying t = some (.slice e)) (hm : xs.length = m) : Val P n W σ l X ⟨d, .call { callee := .builtin .len, args := #[x], argTypes := #[t] }, ty, pos, aft, g⟩ (.v (.int .i64 m)) := Val.mk' fun a w hs _ => by
  subst hm
  obtain ⟨us, h1, _⟩ := hs.mem.ownR hb
  obtain ⟨A', c, h2, _⟩ := h1.shape
  exact ⟨_, rfl, fun w' _ => Proofs.YtejcohlpjikjpaaGreatDoor.Val.lenSl (by rw [hs.at2 hx, hs.plain hx, h2]) ht⟩
theorem own_at {w : World} {us : List Value} (hr : IsRow [] w v xs.length us) (hp : repss (mids σ ++ W.G) w s xs us) (hpos : 0 < s) (hq : xs[q]? = some cs) : ∃ b off c, v = .slice (some ⟨b, off, none⟩) xs.length c ∧ b < w.heap.size ∧ ∃ vs : List Value, vs.length = s ∧ reps (mids σ ++ W.G) w cs vs ∧ ∀ j u, vs[j]? = some u → w.cell? ⟨b, off + q * s + j, none⟩ = some u := by
  obtain ⟨vs, h3, h4, h5⟩ := repss_get hp hq
  have hlt : q < xs.length := (List.getElem?_eq_some_iff.1 hq).1
  have hlen := repss_length hp
  have hne : us ≠ [] := by
    rintro rfl
    have : xs.length * s = 0 := by simpa using hlen.symm
    rcases Nat.mul_eq_zero.1 this with h | h <;> omega
  obtain ⟨A', c, hsh, h6, h7, h8⟩ := hr.shape
  obtain ⟨b, off, n', c', hv, hb, hc⟩ := hr.cells hne
  have hv2 := hv
  rw [hsh] at hv2
  simp at hv2
  obtain ⟨rfl, rfl, rfl⟩ := hv2
  have hcell : ∀ j u, vs[j]? = some u → w.cell? ⟨b, off + q * s + j, none⟩ = some u := fun j u hu => by rw [Nat.add_assoc]; exact hc _ u (h5 j u hu)
  have hbl : b < w.heap.size := by
    cases vs with
    | nil => simp at h3; omega
    | cons u vs => exact block_lt_of_cell (hcell 0 u rfl)
  exact ⟨b, off, _, hsh, hbl, vs, h3, h4, hcell⟩
/-- The address of an element. -/
theorem Val.indexOwn (hT : TabOk P tab) {j : TI} (hu : P.underlying t = some (.slice e)) (hj : ti tab e = some j) (hx : look l x = some (.v v)) (hb : isOwn σ e' s v xs) {r : Int} (hy : look l y = some (.v (.int k r))) (hr : r = (q : Nat)) (hq : q < xs.length) (hsz : Nat.beq s j.size = true) (hpos : Nat.blt 0 s = true) :
    Val P n W σ l X ⟨d, .indexAddr t x y, ty, pos, aft, g⟩ (.v (eptr v (q * s))) := Val.mk' fun a w hs hX => by
  subst hr
  have hsz := Nat.eq_of_beq_eq_true hsz
  have hpos : 0 < s := by simpa [Nat.blt_eq] using hpos
  obtain ⟨us, h1, h2⟩ := hs.mem.ownR hb
  obtain ⟨b, off, c, hv, _⟩ := own_at h1 h2 hpos (List.getElem?_eq_getElem hq)
  refine ⟨_, rfl, fun w' _ => ?_⟩
  rw [hv]
  show Proofs.YtejcohlpjikjpaaGreatDoor.Val _ _ _ _ _ (.pointer (some ⟨b, off + q * s, none⟩))
  rw [hsz]
  exact Proofs.YtejcohlpjikjpaaGreatDoor.Val.indexSlN hT hu hj (by rw [hs.at2 hx, hs.plain hx, hv]) (by rw [hs.at2 hy, hs.plain hy]) hq
theorem Val.loadOwnA (hT : TabOk P tab) {i : TI} (ht : ti tab t = some i) (hk : (match i.k with | .one => false | _ => true) = true) (hx : look l x = some (.v (eptr v (q * s)))) (hb : isOwn σ e' s v xs) (hpos : Nat.blt 0 s = true) (hq : xs[q]? = some cs) (hs0 : Nat.beq s i.size = true) : Val P n W σ l [] ⟨d, .load t x, ty, pos, aft, g⟩ (.agg cs) := Val.mk' fun a w hs hX => by
  have hpos : 0 < s := by simpa [Nat.blt_eq] using hpos
  have hs0 := Nat.eq_of_beq_eq_true hs0
  obtain ⟨us, h1, h2⟩ := hs.mem.ownR hb
  obtain ⟨b, off, c, hvv, hbl, vs, h3, h4, h5⟩ := own_at h1 h2 hpos hq
  exact ⟨_, ⟨vs, rfl, h4⟩, fun w' hw' => Proofs.YtejcohlpjikjpaaGreatDoor.Val.loadAC (b := b) (o := off + q * s) hT ht hk (by rw [hs.at2 hx, hs.plain hx, hvv]; rfl) (by omega) fun w1 e j u hu => by subst e; exact cell_later hw' (by simp) (h5 j u hu)⟩
/-- It changes pieces that lie side by side. -/
theorem After.mid {ι : Type} {σ1 : Blks} {τ' : ι → Blks} {K : Blks → ι → Prop} (α : Blks) {β : Blks} (hσ : σ = α ++ (σ1 ++ β)) (hr : ∀ x ∈ σ1, x.rids = []) (k : ∀ z, K (α ++ (τ' z ++ β)) z) : After σ σ1 τ' K := by
  subst hσ
  refine ⟨α ++ β, ⟨?_, fun x hx => .inl ⟨by simp [hx], hr x hx⟩, fun x hx => ?_⟩, fun z => ⟨_, ?_, k z⟩⟩
  · simp only [mids_append]
    exact List.perm_append_comm_assoc _ _ _
  · rcases List.mem_append.1 hx with h | h <;> simp [h]
  · exact List.perm_append_comm_assoc _ _ _
end
/-- A cut, from a known state. -/
theorem SC.cutS {P : Program} {n : Nat} {W : Wd} {σ : Blks} {l : Slots} {Q : Exit → Act → World → Prop} {x y : Code} {ι : Type} (H : ι → Blks) (L : ι → Slots) (Φ : ι → Prop) (h : SC P x (St n W σ l) (Exit.then (fun a w => ∃ z, Head n W H L Φ z a w) Q)) (k : ∀ z, Φ z → SC P y (St n W (H z) (L z)) Q) : SC P (.seq x y) (St n W σ l) Q := SC.cut H L Φ h k
section
variable {P : Program} {n : Nat} {W : Wd} {ops : Array Oper} {l : Slots} {σ : Blks} {X : List Nat} {Q : Exit → Act → World → Prop} {ix : Plan} {f : FuncId} {args args' : List Abs} {σ1 : Blks} {ι : Type} {τ' : ι → Blks} {res : ι → Abs} {xs : List Operand} {ats : Array TypeId} {d : Option Nat} {ty : TypeId} {pos : String} {aft : Array Edge} {g : Option (Nat × Bool)} {i : Nat}
end
/-- 'max' of two numbers. -/
theorem Val.maxI {P : Program} {n : Nat} {W : Wd} {σ : Blks} {l : Slots} {X : List Nat} {x y : Operand} {d : Option Nat} {ty t t' : TypeId} {pos : String} {aft : Array Edge} {gq : Option (Nat × Bool)} {k : IntKind} {a b : Int} (hx : look l x = some (.v (.int k a))) (hy : look l y = some (.v (.int k b))) :
    Val P n W σ l X ⟨d, .call { callee := .builtin .max, args := #[x, y], argTypes := #[t, t'] }, ty, pos, aft, gq⟩ (.v (.int k (max a b))) := fun ac w hs _ => ⟨_, rfl, fun w' _ => by
  have hm : (if a < b then b else a) = max a b := by omega
  simp [execOp, resolve, invoke, builtin, Builtin.max_, Builtin.max2, hs.plain hx, hs.plain hy, List.foldlM, hm]⟩
end Go.Proofs.YtejcohlpjikjpaaGreatDoor.A
/-
  The second engine: a constant's bytes: a row that was just made, marked as a text's.
-/
namespace Go.Proofs.YtejcohlpjikjpaaGreatDoor.A
open Go.RowKit

end Go.Proofs.YtejcohlpjikjpaaGreatDoor.A
/-
  The second engine: words of 32 bits; parts of an array of the call's own as an array.
-/
namespace Go.Proofs.YtejcohlpjikjpaaGreatDoor
open Go.RowKit
/-! ### Regions that draw, whose last operation comes behind all others -/
section
variable {P : Program} {ops : Array Oper}
def anyZ (P : Program) (ops : Array Oper) (D : World → Prop) (z : Nat) (Q : Act → World → Prop) : Nat → Array Bool → Act → World → Prop
  | 0, listed, a, w => Region.ready .any ops listed = [] ∧ Q a w
  | fuel + 1, listed, a, w => (Region.ready .any ops listed = [] → Q a w) ∧
      ∀ i ∈ Region.ready .any ops listed, wpOp P ops NoExit i (fun a' w' => (i = z ∨ D w') ∧ anyZ P ops D z Q fuel (listed.setIfInBounds i true) a' w') a w
theorem anyZ.wpAny {D : World → Prop} {z : Nat} {Q : Exit → Act → World → Prop} : ∀ (fuel : Nat) (listed : Array Bool) (a : Act) (w : World),
    anyZ P ops D z (Q .normal) fuel listed a w → wpAny P .any ops Q fuel listed a w
  | 0, _, _, _, h => h
  | fuel + 1, _, _, _, h => ⟨h.1, fun i hi => wpOp_of_noExit (wpOp_mono (fun a' w' h3 => anyZ.wpAny fuel _ a' w' h3.2) (h.2 i hi))⟩
theorem anyZ.mono {D D' : World → Prop} {z : Nat} {Q : Act → World → Prop} (hD : ∀ w, D' w → D w) : ∀ (fuel : Nat) (listed : Array Bool) (a : Act) (w : World),
    anyZ P ops D' z Q fuel listed a w → anyZ P ops D z Q fuel listed a w
  | 0, _, _, _, h => h
  | fuel + 1, _, _, _, h => ⟨h.1, fun i hi => wpOp_mono (fun a' w' h3 => ⟨h3.1.imp_right (hD _), anyZ.mono hD fuel _ a' w' h3.2⟩) (h.2 i hi)⟩
/-- What is listed has all that it comes behind listed. -/
def Down (ops : Array Oper) (L : Array Bool) : Prop := ∀ (k : Nat) (o : Oper), ops[k]? = some o → L.getD k false = true → ∀ e ∈ o.after, Region.binds .any e = true → L.getD e.on false = true
theorem Down.set {L : Array Bool} (h : Down ops L) {j : Nat} (hj : j ∈ Region.ready .any ops L) : Down ops (L.setIfInBounds j true) := by
  intro k o hk hl e he hb
  refine getD_set_true ?_
  by_cases hkj : k = j
  · subst hkj
    obtain ⟨_, o', ho', hall⟩ := mem_ready.1 hj
    rw [ho'] at hk
    cases hk
    exact hall e he hb
  · have : (L.setIfInBounds j true).getD k false = L.getD k false := getD_set_ne false (Ne.symm hkj)
    exact h k o hk (this ▸ hl) e he hb
/-- Each but the last comes ahead of a later one. -/
def domOk (ops : Array Oper) : Bool := (List.range (ops.size - 1)).all fun i => (List.range ops.size).any fun j => Nat.blt i j && ((ops[j]?).map fun o => o.after.any fun e => Region.binds .any e && e.on == i).getD false
theorem dom_next (hd : domOk ops = true) {i : Nat} (hi : i + 1 < ops.size) : ∃ j o, i < j ∧ j < ops.size ∧ ops[j]? = some o ∧ ∃ e ∈ o.after, Region.binds .any e = true ∧ e.on = i := by
  unfold domOk at hd
  rw [List.all_eq_true] at hd
  have h1 := hd i (by rw [List.mem_range]; omega)
  rw [List.any_eq_true] at h1
  obtain ⟨j, hj, h2⟩ := h1
  rw [List.mem_range] at hj
  simp only [Bool.and_eq_true, Nat.blt_eq] at h2
  obtain ⟨h2, h3⟩ := h2
  cases ho : ops[j]? with
  | none => rw [ho] at h3; cases h3
  | some o =>
    rw [ho] at h3
    simp only [Option.map_some, Option.getD_some, Array.any_eq_true, Bool.and_eq_true, beq_iff_eq] at h3
    obtain ⟨m, hm, hb, hon⟩ := h3
    exact ⟨j, o, h2, hj, ho, _, Array.getElem_mem hm, hb, hon⟩
theorem dom_all (hd : domOk ops = true) {L : Array Bool} (hL : Down ops L) (hz : ops.size - 1 ∈ Region.ready .any ops L) : ∀ m i, ops.size - 1 - i = m → i + 1 < ops.size → L.getD i false = true := by
  intro m
  induction m using Nat.strongRecOn with
  | _ m ih =>
    intro i hm hi
    obtain ⟨j, o, hij, hj, ho, e, he, hb, hon⟩ := dom_next hd hi
    subst hon
    by_cases hjz : j = ops.size - 1
    · subst hjz
      obtain ⟨_, o', ho', hall⟩ := mem_ready.1 hz
      rw [ho'] at ho
      cases ho
      exact hall e he hb
    · exact hL j o ho (ih _ (by omega) j rfl (by omega)) e he hb
theorem getD_ff {L : Array Bool} {i : Nat} (h : L.getD i true = false) : L.getD i false = false := by
  rw [Array.getD_eq_getD_getElem?] at h ⊢
  cases hq : L[i]? with
  | none => rfl
  | some b => rw [hq] at h; exact h
theorem anyZ_first {D : World → Prop} {Q : Act → World → Prop} {i : Nat} {oi : Oper} {v : Value} (hd : domOk ops = true) (hiz : i + 1 < ops.size) (hi : ops[i]? = some oi) (hsel : ∀ (j : Nat) (o : Oper) cs b, ops[j]? = some o → o.op ≠ .select cs b) :
    ∀ (fuel : Nat) (listed : Array Bool) (a : Act) (w : World), D w → Down ops listed →
      (∀ j oj, ops[j]? = some oj → j ≠ i → listed.getD j true = false → (∀ e ∈ oj.after, Region.binds .any e = true → e.on ≠ i) → oi.apart ops oj = true) →
      i ∈ Region.ready .any ops listed → YieldsD P ops D oi v a →
      anyZ P ops D (ops.size - 1) Q fuel (listed.setIfInBounds i true) (a.put oi.dst v) w → anyZ P ops D (ops.size - 1) Q (fuel + 1) listed a w := by
  intro fuel
  induction fuel with
  | zero =>
    intro listed a w hDw _ _ hr hy H
    refine ⟨fun h => (by rw [h] at hr; cases hr), fun j hj => ?_⟩
    by_cases hji : j = i
    · subst hji; exact hy.wpOp hi hDw ⟨.inr hDw, H⟩
    · have := ready_mono hj hji
      rw [H.1] at this
      cases this
  | succ fuel ih =>
    intro listed a w hDw hdn hfree hr hy H
    refine ⟨fun h => (by rw [h] at hr; cases hr), fun j hj => ?_⟩
    by_cases hji : j = i
    · subst hji; exact hy.wpOp hi hDw ⟨.inr hDw, H⟩
    · have hjz : j ≠ ops.size - 1 := fun h => by
        subst h
        have h1 := dom_all hd hdn hj _ i rfl hiz
        have h0 := getD_ff (mem_ready.1 hr).1
        rw [h1] at h0
        cases h0
      have h1 := H.2 j (ready_mono hj hji)
      obtain ⟨hjun, oj, hoj, hall⟩ := mem_ready.1 hj
      have hnot : ∀ e ∈ oj.after, Region.binds .any e = true → e.on ≠ i := fun e he hb heq => by
        have h1 := hall e he hb
        have h0 := (mem_ready.1 hr).1
        rw [heq] at h1
        rw [getD_ff h0] at h1
        cases h1
      have h2 := wpOp_putD hoj (hfree j oj hoj hji hjun hnot) (fun cs b => hsel i oi cs b hi) (fun cs b => hsel j oj cs b hoj) hy h1
      have hfree' : ∀ k ok, ops[k]? = some ok → k ≠ i → (listed.setIfInBounds j true).getD k true = false →
          (∀ e ∈ ok.after, Region.binds .any e = true → e.on ≠ i) → oi.apart ops ok = true := fun k ok hk hki hun hno => by
        refine hfree k ok hk hki ?_ hno
        by_cases hjk : j = k
        · subst hjk; exact hjun
        · rw [getD_set_ne true hjk] at hun; exact hun
      refine wpOp_mono (fun a' w' h3 => ?_) h2
      have hDw' : D w' := h3.2.1.resolve_left hjz
      refine ⟨.inr hDw', ih (listed.setIfInBounds j true) a' w' hDw' (hdn.set hj) hfree' (ready_mono hr (Ne.symm hji)) h3.1 ?_⟩
      rw [Array.setIfInBounds_comm _ _ hji]
      exact h3.2.2
def planOkZ (ops : Array Oper) : Nat → Array Bool → Plan → Bool
  | _ + 1, listed, .nil => (Region.ready .any ops listed == [ops.size - 1]) && (Region.ready .any ops (listed.setIfInBounds (ops.size - 1) true)).isEmpty
  | n + 1, listed, .q i k => Nat.blt (i + 1) ops.size && Region.free .any ops listed i && (Region.ready .any ops listed).contains i && planOkZ ops n (listed.setIfInBounds i true) k
  | n + 1, listed, .e i k => (Region.ready .any ops listed == [i]) && planOkZ ops n (listed.setIfInBounds i true) k
  | n + 1, listed, .two i j k h => (Region.ready .any ops listed == [i, j]) && planOkZ ops n (listed.setIfInBounds i true) k && planOkZ ops n (listed.setIfInBounds j true) h
  | 0, _, _ => false
theorem planW.anyZ {Q : Act → World → Prop} (hs : Region.noSelect ops = true) (hd : domOk ops = true) : ∀ (n : Nat) (ix : Plan) (D : World → Prop) (listed : Array Bool) (a : Act) (w : World), planOkZ ops n listed ix = true → D w → Down ops listed →
    planW P ops (fun a w => wpOp P ops NoExit (ops.size - 1) Q a w) ix D a w → Proofs.YtejcohlpjikjpaaGreatDoor.anyZ P ops D (ops.size - 1) Q n listed a w
  | 0, .nil, _, _, _, _, hok, _, _, _ => by cases hok
  | n + 1, .nil, D, listed, a, w, hok, hD, hdn, h => by
    simp only [planOkZ, Bool.and_eq_true, beq_iff_eq, List.isEmpty_iff] at hok
    refine ⟨fun h0 => (by rw [hok.1] at h0; cases h0), fun j hj => ?_⟩
    rw [hok.1] at hj
    simp only [List.mem_singleton] at hj
    subst hj
    refine wpOp_mono (fun a' w' hq => ⟨.inl rfl, ?_⟩) h
    cases n with
    | zero => exact ⟨hok.2, hq⟩
    | succ n => exact ⟨fun _ => hq, fun i hi => by rw [hok.2] at hi; cases hi⟩
  | n + 1, .q i ix, D, listed, a, w, hok, hD, hdn, ⟨o, v, hi, hy, h⟩ => by
    simp only [planOkZ, Bool.and_eq_true, Nat.blt_eq] at hok
    have hrd : i ∈ Region.ready .any ops listed := by simpa using hok.1.2
    exact anyZ_first hd hok.1.1.1 hi (Region.noSelect_spec hs) n listed a w hD hdn (Region.free_spec hi hok.1.1.2) hrd hy (planW.anyZ hs hd n ix D _ _ _ hok.2 hD (hdn.set hrd) h)
  | n + 1, .e i ix, D, listed, a, w, hok, hD, hdn, h => by
    simp only [planOkZ, Bool.and_eq_true, beq_iff_eq] at hok
    refine ⟨fun h0 => (by rw [hok.1] at h0; cases h0), fun j hj => ?_⟩
    have hj0 := hj
    rw [hok.1] at hj
    simp only [List.mem_singleton] at hj
    subst hj
    exact wpOp_mono (fun a' w' ⟨D', hD', hw', h'⟩ => ⟨.inr (hD' _ hw'), anyZ.mono hD' _ _ _ _ (planW.anyZ hs hd n ix D' _ a' w' hok.2 hw' (hdn.set hj0) h')⟩) h
  | n + 1, .two i j k m, D, listed, a, w, hok, hD, hdn, h => by
    simp only [planOkZ, Bool.and_eq_true, beq_iff_eq] at hok
    refine ⟨fun h0 => (by rw [hok.1.1] at h0; cases h0), fun r hr => ?_⟩
    have hr0 := hr
    rw [hok.1.1] at hr
    simp only [List.mem_cons, List.not_mem_nil, or_false] at hr
    rcases hr with rfl | rfl
    · exact wpOp_mono (fun a' w' ⟨D', hD', hw', h'⟩ => ⟨.inr (hD' _ hw'), anyZ.mono hD' _ _ _ _ (planW.anyZ hs hd n k D' _ a' w' hok.1.2 hw' (hdn.set hr0) h')⟩) h.1
    · exact wpOp_mono (fun a' w' ⟨D', hD', hw', h'⟩ => ⟨.inr (hD' _ hw'), anyZ.mono hD' _ _ _ _ (planW.anyZ hs hd n m D' _ a' w' hok.2 hw' (hdn.set hr0) h')⟩) h.2
theorem down_none (n : Nat) : Down ops (Array.replicate n false) := by
  intro k o _ h
  rw [Array.getD_eq_getD_getElem?, Array.getElem?_replicate] at h
  split at h <;> cases h
end
end Go.Proofs.YtejcohlpjikjpaaGreatDoor
namespace Go.Proofs.YtejcohlpjikjpaaGreatDoor.A
open Go.RowKit
section
variable {P : Program} {n : Nat} {W : Wd} {σ : Blks} {l : Slots} {o : Oper} {ops : Array Oper} {Q : Exit → Act → World → Prop}
end

abbrev Wo := BitVec 32
/-- A word's value. -/
def u32 (p : Wo) : Abs := .v (.int .u32 (p.toNat : Nat))
theorem putL_whole {L ys : List Abs} (h : ys.length = L.length) : putL L 0 ys = ys := by
  rw [putL_eq _ _ _ (Nat.zero_le _), Nat.zero_add, h]
  simp
section
variable {P : Program} {n : Nat} {W : Wd} {σ τ : Blks} {l : Slots} {X : List Nat} {x y z : Operand} {d : Option Nat} {ty t t' e : TypeId} {pos : String} {aft : Array Edge} {g : Option (Nat × Bool)} {k k' : IntKind} {b : Nat} {A B : Abs} {tab : List (Nat × TI)} {ops : Array Oper} {rest : List Oper} {Q : Exit → Act → World → Prop} {p q : Wo}
theorem wrap32 (p : Wo) : IntKind.u32.wrap (p.toNat : Nat) = (p.toNat : Nat) := by
  have := p.isLt
  simp [IntKind.wrap, IntKind.bits, IntKind.signed]
  omega
theorem ofInt32 (p : Wo) : BitVec.ofInt IntKind.u32.bits ((p.toNat : Nat) : Int) = p := by
  show BitVec.ofInt 32 ((p.toNat : Nat) : Int) = p
  rw [BitVec.ofInt_natCast, BitVec.ofNat_toNat, BitVec.setWidth_eq]
theorem Val.andW (hx : look l x = some (u32 p)) (hy : look l y = some (u32 q)) : Val P n W σ l X ⟨d, .binOp .and t x y t', ty, pos, aft, g⟩ (u32 (p &&& q)) :=
  Val.bitI hx hy (fun w => by
    simp only [Op.intBits, ofInt32]
    exact congrArg (fun r => Result.ok (Value.int .u32 r) w) (wrap32 (p &&& q))) rfl
theorem Val.shrB {m : Nat} {r : Int} (hx : look l x = some (u32 p)) (hy : look l y = some (.v (.int k' r))) (hr : r = (m : Nat)) : Val P n W σ l X ⟨d, .binOp .shr t x y t', ty, pos, aft, g⟩ (u32 (p >>> m)) :=
  Val.to (Val.shrI hx hy (by omega)) (congrArg (fun r => Abs.v (.int .u32 r)) (by
    subst hr
    have hp := p.isLt
    simp only [IntKind.bits, Int.toNat_natCast, BitVec.toNat_ushiftRight, Nat.shiftRight_eq_div_pow]
    rw [Int.fdiv_eq_ediv_of_nonneg _ (by exact Int.le_of_lt (Int.pow_pos (by decide)))]
    rcases Nat.le_total m 32 with h | h
    · rw [Nat.min_eq_left h]; simp
    · rw [Nat.min_eq_right h, Nat.div_eq_of_lt (Nat.lt_of_lt_of_le hp (Nat.pow_le_pow_right (by decide) h))]
      omega))
/-- A new block in a region that draws: what follows may change it. -/
theorem SX.alloc {ix : Plan} (hT : TabOk P tab) {i : TI} {j : Nat} (ht : ti tab t = some i) (hi : ops[j]? = some ⟨d, .alloc t, ty, pos, aft, g⟩) (hg : gd ops l ⟨d, .alloc t, ty, pos, aft, g⟩ = some true) (hd : lt? d n = true)
    (k : ∀ b, SX P ops ix (b :: X) (St n W (.blk b t (zabs i.zero) :: σ) (put? l d (.v (.pointer (some ⟨b, 0, none⟩))))) Q) : SX P ops (.e j ix) X (St n W σ l) Q := fun a w hs => by
  unfold planW wpOp
  simp only [hi, hs.wanted hg, if_true]
  refine .inl ?_
  unfold Oper.wp
  obtain ⟨zv, hz, hc⟩ := (hT t _ ht).zeroValue (w := w)
  obtain ⟨h1, h2⟩ := hs.mem.alloc t (reps_zabs i.zero)
  have hrun : (execOp a.eval ⟨d, .alloc t, ty, pos, aft, g⟩).run P w = .ok (.value (.pointer (some ⟨w.heap.size, 0, none⟩))) (w.alloc (row t i.zero)) := by
    simp [execOp, Instr.alloc, Sem.run_bind, hz, Result.andThen, newVar, newRow, newObj, Sem.run, hc, row]
  rw [hrun]
  refine ⟨fun w2 => Ext (w.heap.size :: X) (w.alloc (row t i.zero)) w2, fun w2 h3 => ((Ext.refl w).alloc _).trans (h3 : Ext (w.heap.size :: X) _ w2) fun x hx => ?_, Ext.refl _, k _ _ _ ((hs.to h1 h2).put hd (show rep _ _ (.v (.pointer (some ⟨w.heap.size, 0, none⟩))) _ from rfl))⟩
  rcases List.mem_cons.1 hx with rfl | hx
  · exact .inr (Nat.le_refl _)
  · exact .inl hx
/-- A call that takes the two pieces on top. -/
theorem After.two {ι : Type} {x1 x2 : It} {β : Blks} {τ' : ι → Blks} {y1 y2 : ι → It} {K : Blks → ι → Prop} (hr : x1.rids = [] ∧ x2.rids = []) (hτ : ∀ z, τ' z = [y1 z, y2 z]) (k : ∀ z, K (y1 z :: y2 z :: β) z) : After (x1 :: x2 :: β) [x1, x2] τ' K :=
  After.mid [] (β := β) rfl (by intro x hx; simp only [List.mem_cons, List.not_mem_nil, or_false] at hx; rcases hx with rfl | rfl; exact hr.1; exact hr.2) fun z => by rw [hτ z]; exact k z
/-- A row is never longer than may be. -/
theorem SC.rowLe {c : Code} {s i : Nat} {xs : List (List Abs)} (hs : slot l i = some (.sl s xs)) (k : xs.length ≤ maxLen → SC P c (St n W σ l) Q) : SC P c (St n W σ l) Q := fun a w h => by
  have h1 : rep (mids σ ++ W.G) w (.sl s xs) (a.eval (.tmp i)) := h.eval (x := .tmp i) hs
  obtain ⟨us, h2, _⟩ := h1
  obtain ⟨_, _, _, h3, h4, _⟩ := h2.shape
  exact k (Nat.le_trans h3 h4) a w h
theorem SE.perm {ex : Exit} (h : τ.Perm σ) (k : SE ex (St n W τ l) Q) : SE ex (St n W σ l) Q := fun a w hs => k a w (hs.perm h)
theorem SE.swap {ex : Exit} {x y : It} (k : SE ex (St n W (y :: x :: σ) l) Q) : SE ex (St n W (x :: y :: σ) l) Q := SE.perm (List.Perm.swap x y σ) k
end
section
variable {P : Program} {n : Nat} {W : Wd} {σ : Blks} {l : Slots} {X : List Nat} {x : Operand} {d : Option Nat} {ty t t' e tp : TypeId} {pos : String} {aft : Array Edge} {gq : Option (Nat × Bool)} {A : Abs} {ms : Array (String × TypeId)} {ops : Array Oper} {rest : List Oper} {Q : Exit → Act → World → Prop} {s : Nat} {xs : List (List Abs)}
/-- Is a slice nil? Then it is empty. -/
theorem SL.eqNil (ht : P.underlying t = some (.slice e)) (hx : look l x = some (.sl s xs)) (hg : gd ops l ⟨d, .binOp .eql t x (.const (.slice none 0 0)) t', ty, pos, aft, gq⟩ = some true) (hd : lt? d n = true)
    (k : ∀ b : Bool, (b = true → xs = []) → SL P ops rest (St n W σ (put? l d (.v (.bool b)))) Q) : SL P ops (⟨d, .binOp .eql t x (.const (.slice none 0 0)) t', ty, pos, aft, gq⟩ :: rest) (St n W σ l) Q := fun a w hs =>
  wpList_step fun K hK => by
    rw [if_pos (hs.wanted hg)]
    unfold Oper.wp
    obtain ⟨us, hr, h2⟩ := hs.eval hx
    obtain ⟨A', c, h1, h3, h4, h5⟩ := hr.shape
    have e1 : a.eval (.const (.slice none 0 0)) = .slice none 0 0 := rfl
    have hrun : (binOp .eql t (.slice A' xs.length c) (.slice none 0 0)).run P w = .ok (.bool A'.isNone) w := by
      have h : ∀ d : Nat, (Op.equalIn (d + 1) t (.slice A' xs.length c) (.slice none 0 0)).run P w = .ok A'.isNone w := fun d => by cases A' <;> simp [Op.equalIn, run_underlying ht]
      simp only [binOp]
      simp [Op.equal, Op.maxDepth, h 9999]
    have hrun2 : (execOp a.eval ⟨d, .binOp .eql t x (.const (.slice none 0 0)) t', ty, pos, aft, gq⟩).run P w = .ok (.value (.bool A'.isNone)) w := by simp [execOp, h1, e1, eqGuard, hrun]
    rw [hrun2]
    refine hK _ _ (k A'.isNone (fun hb => ?_) _ _ (hs.put hd (show rep _ _ (.v (.bool A'.isNone)) _ from rfl)))
    cases A' with
    | none =>
      have := h5 rfl
      exact List.length_eq_zero_iff.1 (by omega)
    | some A' => cases hb
end
end Go.Proofs.YtejcohlpjikjpaaGreatDoor.A
