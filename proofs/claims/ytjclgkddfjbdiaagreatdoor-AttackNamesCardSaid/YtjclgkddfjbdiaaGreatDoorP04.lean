/-
  Packed out of the texts: A3, A4, A5, AQk, Law, Rd, A6, A8, Open, OpenBytes, AOpen.
-/
import Derived.Test.YtjclgkddfjbdiaaGreatDoorP03
import Derived.Test.YtjclgkddfjbdiaaGreatDoorRows
import Derived.OpenShut
import Derived.SizedLaws
import Derived.Deep.Slices
set_option maxRecDepth 100000
set_option linter.unusedSimpArgs false
set_option linter.unusedVariables false
namespace Go.Proofs.YtjclgkddfjbdiaaGreatDoor.A
open Go.RowKit
theorem dY_ : ∀ (vs : List Value) (i j : Nat) (v : Value), vs[j]? = some v → Proofs.YtjclgkddfjbdiaaGreatDoor.slot (argSlots vs i) (i + j) = some v
  | [], _, _, _, h => by simp at h
  | u :: vs, i, 0, v, h => by simp at h; subst h; simp [argSlots, Proofs.YtjclgkddfjbdiaaGreatDoor.slot]
  | u :: vs, i, j + 1, v, h => by
    unfold argSlots Proofs.YtjclgkddfjbdiaaGreatDoor.slot
    rw [b5_ (by omega : ¬ i = i + (j + 1))]
    have := dY_ vs (i + 1) j v (by simpa using h)
    rw [show i + 1 + j = i + (j + 1) by omega] at this
    exact this
abbrev fullS (a : Act) : Proofs.YtjclgkddfjbdiaaGreatDoor.Slots := argSlots a.tmps.toList 0
section
variable {P : Program} {n : Nat} {W : Wd} {σ τ : Blks} {l : Slots} {X : List Nat} {x y z : Operand} {d : Option Nat} {ty t t' e : TypeId} {pos : String} {aft : Array Edge} {g : Option (Nat × Bool)} {v u : Value} {k k' : IntKind} {a b : Int} {o : Oper} {A B : Abs} {tab : List (Nat × TI)}
theorem St.fr {a : Act} {w : World} (h : St n W σ l a w) : Fr n a (fullS a) := ⟨h.defers, h.size, fun t v hv => by
  have h1 := (dZ_ _ 0 t v hv).2
  rw [Nat.sub_zero] at h1
  simpa using h1⟩
theorem St.at2 {a : Act} {w : World} (h : St n W σ l a w) (hx : look l x = some A) : Proofs.YtjclgkddfjbdiaaGreatDoor.look (fullS a) x = some (a.eval x) := by
  cases x with
  | tmp t =>
    obtain ⟨u, h1, _⟩ := h.slots t A hx
    have h2 := dY_ a.tmps.toList 0 t u (by simpa using h1)
    rw [Nat.zero_add] at h2
    simp [Proofs.YtjclgkddfjbdiaaGreatDoor.look, h2, Act.eval, h1]
  | const c => rfl
  | global g => rfl
  | func f => rfl
theorem by_ (hx : look l x = some (.v u)) (h : ∀ l2 : Proofs.YtjclgkddfjbdiaaGreatDoor.Slots, Proofs.YtjclgkddfjbdiaaGreatDoor.look l2 x = some u → Proofs.YtjclgkddfjbdiaaGreatDoor.Val P n l2 (fun _ => True) o v) : Val P n W σ l X o (.v v) := fun _ _ hs _ =>
  ⟨v, rfl, fun w' _ => h _ (by rw [hs.at2 hx, hs.plain hx]) _ w' hs.fr trivial⟩
theorem aJ_ {u2 : Value} (hx : look l x = some (.v u)) (hy : look l y = some (.v u2)) (h : ∀ l2 : Proofs.YtjclgkddfjbdiaaGreatDoor.Slots, Proofs.YtjclgkddfjbdiaaGreatDoor.look l2 x = some u → Proofs.YtjclgkddfjbdiaaGreatDoor.look l2 y = some u2 → Proofs.YtjclgkddfjbdiaaGreatDoor.Val P n l2 (fun _ => True) o v) : Val P n W σ l X o (.v v) := fun _ _ hs _ =>
  ⟨v, rfl, fun w' _ => h _ (by rw [hs.at2 hx, hs.plain hx]) (by rw [hs.at2 hy, hs.plain hy]) _ w' hs.fr trivial⟩
theorem av_ (h : ∀ a w, St n W σ l a w → (∀ k ∈ X, k ∈ mids σ ++ W.G) → ∃ v, rep (mids σ ++ W.G) w A v ∧ ∀ w', Ext X w w' → Proofs.YtjclgkddfjbdiaaGreatDoor.Val P n (fullS a) (fun w1 => w1 = w') o v) : Val P n W σ l X o A := fun a w hs hX => by
  obtain ⟨v, h1, h2⟩ := h a w hs fun k hk => List.mem_append_left _ (hX k hk)
  exact ⟨v, h1, fun w' hw' => h2 w' hw' a w' hs.fr rfl⟩
theorem i_ {C : Abs} (h : Val P n W σ l X o A) (e : A = C) : Val P n W σ l X o C := e ▸ h
theorem r_ (hx : look l x = some A) : Val P n W σ l X ⟨d, .move x, ty, pos, aft, g⟩ A := av_ fun a w hs _ => ⟨_, hs.eval hx, fun w' _ => Proofs.YtjclgkddfjbdiaaGreatDoor.r_ (hs.at2 hx)⟩
theorem l_ (hx : look l x = some A) : Val P n W σ l X ⟨d, .assign x, ty, pos, aft, g⟩ A := av_ fun a w hs _ => ⟨_, hs.eval hx, fun w' _ => Proofs.YtjclgkddfjbdiaaGreatDoor.l_ (hs.at2 hx)⟩
theorem U_ (hc : look l x = some (.v (.bool true))) (hy : look l y = some A) : Val P n W σ l X ⟨d, .pick x y z, ty, pos, aft, g⟩ A := av_ fun a w hs _ => ⟨_, hs.eval hy, fun w' _ => Proofs.YtjclgkddfjbdiaaGreatDoor.U_ (by rw [hs.at2 hc, hs.plain hc]) (hs.at2 hy)⟩
theorem aj_ (hc : look l x = some (.v (.bool false))) (hz : look l z = some A) : Val P n W σ l X ⟨d, .pick x y z, ty, pos, aft, g⟩ A := av_ fun a w hs _ => ⟨_, hs.eval hz, fun w' _ => Proofs.YtjclgkddfjbdiaaGreatDoor.aj_ (by rw [hs.at2 hc, hs.plain hc]) (hs.at2 hz)⟩
theorem E_ (hx : look l x = some (.v (.int k a))) (hy : look l y = some (.v (.int k b))) (h : InR k (a + b)) : Val P n W σ l X ⟨d, .binOp .add t x y t', ty, pos, aft, g⟩ (.v (.int k (a + b))) :=
  aJ_ hx hy fun _ ehx ehy => Proofs.YtjclgkddfjbdiaaGreatDoor.E_ ehx ehy h
theorem b0_ (hx : look l x = some (.v (.int k a))) (hy : look l y = some (.v (.int k b))) (h : InR k (a - b)) : Val P n W σ l X ⟨d, .binOp .sub t x y t', ty, pos, aft, g⟩ (.v (.int k (a - b))) :=
  aJ_ hx hy fun _ ehx ehy => Proofs.YtjclgkddfjbdiaaGreatDoor.b0_ ehx ehy h
theorem c8_ (hx : look l x = some (.v (.int k a))) (hy : look l y = some (.v (.int k b))) (h : InR k (a * b)) : Val P n W σ l X ⟨d, .binOp .mul t x y t', ty, pos, aft, g⟩ (.v (.int k (a * b))) :=
  aJ_ hx hy fun _ ehx ehy => Proofs.YtjclgkddfjbdiaaGreatDoor.c8_ ehx ehy h
theorem hK_ (hx : look l x = some (.v (.int k a))) (hy : look l y = some (.v (.int k b))) : Val P n W σ l X ⟨d, .binOp .sub t x y t', ty, pos, aft, g⟩ (.v (.int k (k.wrap (a - b)))) :=
  aJ_ hx hy fun _ ehx ehy => Proofs.YtjclgkddfjbdiaaGreatDoor.hK_ ehx ehy
theorem b1_ (hx : look l x = some (.v (.int k a))) (hy : look l y = some (.v (.int k b))) (h : 0 ≤ a ∧ 0 < b) : Val P n W σ l X ⟨d, .binOp .rem t x y t', ty, pos, aft, g⟩ (.v (.int k (a % b))) :=
  aJ_ hx hy fun _ ehx ehy => Proofs.YtjclgkddfjbdiaaGreatDoor.b1_ ehx ehy h
theorem hM_ (hx : look l x = some (.v (.int k a))) (hy : look l y = some (.v (.int k b))) (h : 0 ≤ a ∧ 0 < b) (hr : InR k (a / b)) : Val P n W σ l X ⟨d, .binOp .quo t x y t', ty, pos, aft, g⟩ (.v (.int k (a / b))) :=
  aJ_ hx hy fun _ ehx ehy => Proofs.YtjclgkddfjbdiaaGreatDoor.hM_ ehx ehy h hr
theorem aC_ {op : BinOp} {r : Int} (hx : look l x = some (.v (.int k a))) (hy : look l y = some (.v (.int k b))) (h : ∀ w, (Op.intBits op k a b).run P w = .ok (.int k r) w) (ho : (op matches .and | .or | .xor | .andNot) = true) : Val P n W σ l X ⟨d, .binOp op t x y t', ty, pos, aft, g⟩ (.v (.int k r)) :=
  aJ_ hx hy fun _ ehx ehy => Proofs.YtjclgkddfjbdiaaGreatDoor.aC_ ehx ehy h ho
theorem bp_ (hx : look l x = some (.v (.int k a))) (hy : look l y = some (.v (.int k' b))) (h : 0 ≤ b) : Val P n W σ l X ⟨d, .binOp .shl t x y t', ty, pos, aft, g⟩ (.v (.int k (k.wrap (a * 2 ^ (min b.toNat k.bits))))) :=
  aJ_ hx hy fun _ ehx ehy => Proofs.YtjclgkddfjbdiaaGreatDoor.bp_ ehx ehy h
theorem bo_ (hx : look l x = some (.v (.int k a))) (hy : look l y = some (.v (.int k' b))) (h : 0 ≤ b) : Val P n W σ l X ⟨d, .binOp .shr t x y t', ty, pos, aft, g⟩ (.v (.int k (a.fdiv (2 ^ (min b.toNat k.bits))))) :=
  aJ_ hx hy fun _ ehx ehy => Proofs.YtjclgkddfjbdiaaGreatDoor.bo_ ehx ehy h
theorem dv_ (hx : look l x = some (.v (.int k a))) (hy : look l y = some (.v (.int k b))) : Val P n W σ l X ⟨d, .binOp .eql t x y t', ty, pos, aft, g⟩ (.v (.bool (decide (a = b)))) :=
  aJ_ hx hy fun _ ehx ehy => Proofs.YtjclgkddfjbdiaaGreatDoor.dv_ ehx ehy
theorem dt_ (hx : look l x = some (.v (.int k a))) (hy : look l y = some (.v (.int k b))) : Val P n W σ l X ⟨d, .binOp .neq t x y t', ty, pos, aft, g⟩ (.v (.bool (decide (a ≠ b)))) :=
  aJ_ hx hy fun _ ehx ehy => Proofs.YtjclgkddfjbdiaaGreatDoor.dt_ ehx ehy
theorem bi_ (hx : look l x = some (.v (.int k a))) (hy : look l y = some (.v (.int k b))) : Val P n W σ l X ⟨d, .binOp .lss t x y t', ty, pos, aft, g⟩ (.v (.bool (decide (a < b)))) :=
  aJ_ hx hy fun _ ehx ehy => Proofs.YtjclgkddfjbdiaaGreatDoor.bi_ ehx ehy
theorem gR_ (hx : look l x = some (.v (.int k a))) (hy : look l y = some (.v (.int k b))) : Val P n W σ l X ⟨d, .binOp .leq t x y t', ty, pos, aft, g⟩ (.v (.bool (decide (a ≤ b)))) :=
  aJ_ hx hy fun _ ehx ehy => Proofs.YtjclgkddfjbdiaaGreatDoor.gR_ ehx ehy
theorem a1_ (hx : look l x = some (.v (.int k a))) (hy : look l y = some (.v (.int k b))) : Val P n W σ l X ⟨d, .binOp .gtr t x y t', ty, pos, aft, g⟩ (.v (.bool (decide (b < a)))) :=
  aJ_ hx hy fun _ ehx ehy => Proofs.YtjclgkddfjbdiaaGreatDoor.a1_ ehx ehy
theorem du_ (hx : look l x = some (.v (.int k a))) (hy : look l y = some (.v (.int k b))) : Val P n W σ l X ⟨d, .binOp .geq t x y t', ty, pos, aft, g⟩ (.v (.bool (decide (b ≤ a)))) :=
  aJ_ hx hy fun _ ehx ehy => Proofs.YtjclgkddfjbdiaaGreatDoor.du_ ehx ehy
theorem gS_ {s r : ByteArray} (hx : look l x = some (.v (.string s))) (hy : look l y = some (.v (.string r))) : Val P n W σ l X ⟨d, .binOp .eql t x y t', ty, pos, aft, g⟩ (.v (.bool (decide (s = r)))) :=
  aJ_ hx hy fun _ ehx ehy => Proofs.YtjclgkddfjbdiaaGreatDoor.gS_ ehx ehy
theorem jU_ {s r : ByteArray} (hx : look l x = some (.v (.string s))) (hy : look l y = some (.v (.string r))) : Val P n W σ l X ⟨d, .binOp .neq t x y t', ty, pos, aft, g⟩ (.v (.bool (decide (s ≠ r)))) :=
  aJ_ hx hy fun _ ehx ehy => Proofs.YtjclgkddfjbdiaaGreatDoor.jU_ ehx ehy
theorem ax_ {p : Option Addr} (hx : look l x = some (.v (.pointer p))) (hy : look l y = some (.v (.pointer none))) (ht : P.underlying t = some (.pointer (P.pointee t))) : Val P n W σ l X ⟨d, .binOp .eql t x y t', ty, pos, aft, g⟩ (.v (.bool p.isNone)) :=
  aJ_ hx hy fun _ ehx ehy => Proofs.YtjclgkddfjbdiaaGreatDoor.ax_ ehx ehy ht
theorem bz_ {p : Option Addr} (hx : look l x = some (.v (.pointer p))) (hy : look l y = some (.v (.pointer none))) (ht : P.underlying t = some (.pointer (P.pointee t))) : Val P n W σ l X ⟨d, .binOp .neq t x y t', ty, pos, aft, g⟩ (.v (.bool (!p.isNone))) :=
  aJ_ hx hy fun _ ehx ehy => Proofs.YtjclgkddfjbdiaaGreatDoor.bz_ ehx ehy ht
theorem jX_ {p q : Bool} (hx : look l x = some (.v (.bool p))) (hy : look l y = some (.v (.bool q))) (ht : P.underlying t = some .bool) : Val P n W σ l X ⟨d, .binOp .eql t x y t', ty, pos, aft, g⟩ (.v (.bool (p == q))) :=
  aJ_ hx hy fun _ ehx ehy => Proofs.YtjclgkddfjbdiaaGreatDoor.jX_ ehx ehy ht
theorem bG_ {p : Prop} [Decidable p] (hx : look l x = some (.v (.bool (decide p)))) : Val P n W σ l X ⟨d, .unOp .not t x, ty, pos, aft, g⟩ (.v (.bool (decide ¬p))) :=
  by_ hx fun _ ehx => Proofs.YtjclgkddfjbdiaaGreatDoor.bG_ ehx
theorem cs_ {p : Bool} (hx : look l x = some (.v (.bool p))) : Val P n W σ l X ⟨d, .unOp .not t x, ty, pos, aft, g⟩ (.v (.bool !p)) :=
  by_ hx fun _ ehx => Proofs.YtjclgkddfjbdiaaGreatDoor.cs_ ehx
theorem bb_ (hx : look l x = some (.v (.bool true))) : Val P n W σ l X ⟨d, .unOp .not t x, ty, pos, aft, g⟩ (.v (.bool false)) :=
  by_ hx fun _ ehx => Proofs.YtjclgkddfjbdiaaGreatDoor.bb_ ehx
theorem cr_ (hx : look l x = some (.v (.bool false))) : Val P n W σ l X ⟨d, .unOp .not t x, ty, pos, aft, g⟩ (.v (.bool true)) :=
  by_ hx fun _ ehx => Proofs.YtjclgkddfjbdiaaGreatDoor.cr_ ehx
theorem aa_ {k2 : IntKind} (hx : look l x = some (.v (.int k a))) (ht : P.underlying t' = some (.int k2)) (hs : (P.underlying t).isSome = true) (h : InR k2 a) : Val P n W σ l X ⟨d, .convert t t' x, ty, pos, aft, g⟩ (.v (.int k2 a)) :=
  by_ hx fun _ ehx => Proofs.YtjclgkddfjbdiaaGreatDoor.aa_ ehx ht hs h
theorem bQ_ {k2 : IntKind} (hx : look l x = some (.v (.int k a))) (ht : P.underlying t' = some (.int k2)) (hs : (P.underlying t).isSome = true) : Val P n W σ l X ⟨d, .convert t t' x, ty, pos, aft, g⟩ (.v (.int k2 (k2.wrap a))) :=
  by_ hx fun _ ehx => Proofs.YtjclgkddfjbdiaaGreatDoor.bQ_ ehx ht hs
theorem an_ {p : Addr} (hx : look l x = some (.v (.pointer (some p)))) : Val P n W σ l X ⟨d, .nilCheck x, ty, pos, aft, g⟩ (.v (.pointer (some p))) :=
  by_ hx fun _ ehx => Proofs.YtjclgkddfjbdiaaGreatDoor.an_ ehx
theorem ew_ {s : ByteArray} (hx : look l x = some (.v (.string s))) (ht : P.underlying t = some .string) : Val P n W σ l X ⟨d, .call { callee := .builtin .len, args := #[x], argTypes := #[t] }, ty, pos, aft, g⟩ (.v (.int .i64 s.size)) :=
  by_ hx fun _ ehx => Proofs.YtjclgkddfjbdiaaGreatDoor.ew_ ehx ht
theorem dO_ (hx : look l x = some (.v (.int k a))) (hy : look l y = some (.v (.int k b))) : Val P n W σ l X ⟨d, .call { callee := .builtin .min, args := #[x, y], argTypes := #[t, t'] }, ty, pos, aft, g⟩ (.v (.int k (min a b))) :=
  aJ_ hx hy fun _ ehx ehy => Proofs.YtjclgkddfjbdiaaGreatDoor.dO_ ehx ehy
theorem bA_ {k : IntKind} {a : Int} (hx : look l x = some (.v (.int k a))) (ht : P.underlying e = some (.int .u64)) (hs : (P.underlying t).isSome = true) : Val P n W σ l X ⟨d, .convert t e x, ty, pos, aft, g⟩ (.v (.int .u64 (u64 a : Nat))) :=
  by_ hx fun _ ehx => Proofs.YtjclgkddfjbdiaaGreatDoor.bA_ ehx ht hs
def plains : List Abs → Option (List Value)
  | [] => some []
  | .v u :: l => match plains l with
    | some us => some (u :: us)
    | none => none
  | _ :: _ => none
theorem bx_ {K : List Nat} {w : World} : ∀ {ys : List Abs} {us vs : List Value}, plains ys = some us → reps K w ys vs → vs = us
  | [], us, vs, h, hr => by simp [plains] at h; subst h; exact hr
  | .v u :: l, us, vs, h, ⟨u', vs', h1, h2, h3⟩ => by
    unfold plains at h
    cases h4 : plains l with
    | none => simp [h4] at h
    | some us' =>
      simp [h4] at h
      have h5 : u' = u := h2
      rw [h1, h5, bx_ h4 h3, h]
  | .sl _ _ :: _, _, _, h, _ => by simp [plains] at h
  | .agg _ :: _, _, _, h, _ => by simp [plains] at h
  | .rp _ :: _, _, _, h, _ => by simp [plains] at h
  | .tup _ :: _, _, _, h, _ => by simp [plains] at h
  | .fn _ _ _ :: _, _, _, h, _ => by simp [plains] at h
  | .ifc _ _ :: _, _, _, h, _ => by simp [plains] at h
theorem eO_ {α : Type} (f : α → Value) : ∀ l : List α, plains (l.map fun x => .v (f x)) = some (l.map f)
  | [] => rfl
  | x :: l => by simp [plains, eO_ f l]
theorem ce_ {α : Type} {f : α → List Abs} {xs : List α} {q : Nat} (h : q < xs.length) : (xs.map f)[q]? = some (f xs[q]) := by simp [h]
theorem ey_ {cx cy : List Abs} {X' Y' : List Value} (hx : look l x = some (.agg cx)) (hy : look l y = some (.agg cy)) (px : plains cx = some X') (py : plains cy = some Y') (hg : P.eqGuardType P.depth t = false) (h : ∀ w, (binOp .eql t (.agg X'.toArray) (.agg Y'.toArray)).run P w = .ok v w) : Val P n W σ l X ⟨d, .binOp .eql t x y t', ty, pos, aft, g⟩ (.v v) := av_ fun a w hs _ => by
  obtain ⟨ux, h1, h2⟩ := hs.eval hx
  obtain ⟨uy, h3, h4⟩ := hs.eval hy
  rw [bx_ px h2] at h1
  rw [bx_ py h4] at h3
  exact ⟨v, rfl, fun w' _ => Proofs.YtjclgkddfjbdiaaGreatDoor.ey_ (by rw [hs.at2 hx, h1]) (by rw [hs.at2 hy, h3]) hg h⟩
theorem jV_ {cx cy : List Abs} {X' Y' : List Value} (hx : look l x = some (.agg cx)) (hy : look l y = some (.agg cy)) (px : plains cx = some X') (py : plains cy = some Y') (hg : P.eqGuardType P.depth t = false) (h : ∀ w, (binOp .neq t (.agg X'.toArray) (.agg Y'.toArray)).run P w = .ok v w) : Val P n W σ l X ⟨d, .binOp .neq t x y t', ty, pos, aft, g⟩ (.v v) := av_ fun a w hs _ => by
  obtain ⟨ux, h1, h2⟩ := hs.eval hx
  obtain ⟨uy, h3, h4⟩ := hs.eval hy
  rw [bx_ px h2] at h1
  rw [bx_ py h4] at h3
  exact ⟨v, rfl, fun w' _ => Proofs.YtjclgkddfjbdiaaGreatDoor.jV_ (by rw [hs.at2 hx, h1]) (by rw [hs.at2 hy, h3]) hg h⟩
theorem bm_ {vs : List Abs} {i : Nat} (hx : look l x = some (.tup vs)) (hi : vs[i]? = some A) : Val P n W σ l X ⟨d, .extract x i, ty, pos, aft, g⟩ A := av_ fun a w hs _ => by
  obtain ⟨us, h1, h2⟩ := hs.eval hx
  obtain ⟨u, h3, h4⟩ := a9_ h2 hi
  exact ⟨u, h4, fun w' _ => Proofs.YtjclgkddfjbdiaaGreatDoor.bm_ (by rw [hs.at2 hx, h1]) (by simpa using h3)⟩
theorem P_ {s m : Nat} {xs : List (List Abs)} (hx : look l x = some (.sl s xs)) (ht : P.underlying t = some (.slice e)) (hm : xs.length = m) : Val P n W σ l X ⟨d, .call { callee := .builtin .len, args := #[x], argTypes := #[t] }, ty, pos, aft, g⟩ (.v (.int .i64 m)) := av_ fun a w hs _ => by
  subst hm
  obtain ⟨us, hr, _⟩ := hs.eval hx
  obtain ⟨A', c, h1, _⟩ := hr.shape
  exact ⟨_, rfl, fun w' _ => Proofs.YtjclgkddfjbdiaaGreatDoor.P_ (by rw [hs.at2 hx, h1]) ht⟩
theorem af_ {c : Nat} {A' : Option Addr} {m : Nat} (hx : look l x = some (.v (.slice A' m c))) (ht : P.underlying t = some (.slice e)) : Val P n W σ l X ⟨d, .call { callee := .builtin .len, args := #[x], argTypes := #[t] }, ty, pos, aft, g⟩ (.v (.int .i64 m)) := by_ hx fun _ h => Proofs.YtjclgkddfjbdiaaGreatDoor.P_ h ht
theorem looks2 {a : Act} {w : World} (hs : St n W σ l a w) : ∀ {xs : List Operand} {ys : List Abs}, looks l xs = some ys → Proofs.YtjclgkddfjbdiaaGreatDoor.looks (fullS a) xs = some (xs.map a.eval)
  | [], _, _ => rfl
  | x :: xs, ys, h => by
    unfold looks at h
    cases h1 : look l x with
    | none => simp [h1] at h
    | some v =>
      cases h2 : looks l xs with
      | none => simp [h1, h2] at h
      | some us => simp [Proofs.YtjclgkddfjbdiaaGreatDoor.looks, hs.at2 h1, looks2 hs h2]
theorem ag_ {fn : Fn} {fs cs : List Operand} {us vs : List Abs} (hf' : looks l fs = some us) (hc : looks l cs = some vs) : Val P n W σ l X ⟨d, .makeFunc fn fs.toArray cs.toArray, ty, pos, aft, g⟩ (.fn fn us vs) := av_ fun a w hs _ =>
  ⟨_, ⟨_, _, rfl, hs.evals hf', hs.evals hc⟩, fun w' _ => Proofs.YtjclgkddfjbdiaaGreatDoor.ag_ (looks2 hs hf') (looks2 hs hc)⟩
theorem b3_ (hx : look l x = some A) (h : ∀ u w, (Instr.makeInterface t u).run P w = .ok (.iface t u) w) : Val P n W σ l X ⟨d, .makeInterface t x, ty, pos, aft, g⟩ (.ifc t A) := av_ fun a w hs _ =>
  ⟨_, ⟨_, rfl, hs.eval hx⟩, fun w' _ => Proofs.YtjclgkddfjbdiaaGreatDoor.b3_ (hs.at2 hx) (h _)⟩
theorem bO_ {w w' : World} {b j : Nat} {u : Value} (hx : Ext X w w') (hb : b ∉ X) (h : w.cell? ⟨b, j, none⟩ = some u) : w'.cell? ⟨b, j, none⟩ = some u := hx.cell h hb
theorem fG_ {w w' : World} {b : Nat} {us : List Value} (hx : Ext X w w') (hb : b ∉ X) (h : w.heap[b]? = some (row t us)) : w'.heap[b]? = some (row t us) := (hx.block b (aN_ h) hb).trans h
def isBlk (σ : Blks) (b : Nat) (t : TypeId) (cs : List Abs) : Prop := It.blk b t cs ∈ σ ∨ It.rd b t cs ∈ σ
theorem Mem.blk {w0 w : World} {F G : List Nat} {b : Nat} {cs : List Abs} (h : Mem w0 F G σ w) (hb : isBlk σ b t cs) : ∃ us, w.heap[b]? = some (row t us) ∧ reps (mids σ ++ G) w cs us := by
  rcases hb with hb | hb
  · exact h.hold _ hb
  · exact h.hold _ hb
theorem h_ (hT : TabOk P tab) {sz b o : Nat} {zs : List Value} {cs : List Abs} (ht : ti tab t = some ⟨sz, .one, zs⟩) (hx : look l x = some (.v (.pointer (some ⟨b, o, none⟩)))) (hb : isBlk σ b t' cs) (hbX : b ∉ X) (hv : cs[o]? = some A) : Val P n W σ l X ⟨d, .load t x, ty, pos, aft, g⟩ A := av_ fun a w hs _ => by
  obtain ⟨us, h1, h2⟩ := hs.mem.blk hb
  obtain ⟨u, h3, h4⟩ := a9_ h2 hv
  exact ⟨u, h4, fun w' hw' => Proofs.YtjclgkddfjbdiaaGreatDoor.eX_ hT ht (by rw [hs.at2 hx, hs.plain hx]) fun w1 e => by subst e; rw [a2_ (fG_ hw' hbX h1)]; exact h3⟩
theorem aI_ (hT : TabOk P tab) {sz : Nat} {zs : List Value} {cs : List Abs} (ht : ti tab t = some ⟨sz, .one, zs⟩) (hx : look l x = some (.rp cs)) (hv : cs[0]? = some A) : Val P n W σ l X ⟨d, .load t x, ty, pos, aft, g⟩ A := av_ fun a w hs hX => by
  obtain ⟨b, off, us, h1, h2, h3, h4, h5⟩ := hs.eval hx
  obtain ⟨u, h6, h7⟩ := a9_ h5 hv
  exact ⟨u, h7, fun w' hw' => Proofs.YtjclgkddfjbdiaaGreatDoor.eX_ hT ht (by rw [hs.at2 hx, h1]) fun w1 e => by subst e; exact bO_ hw' (fun hm => h2 (hX b hm)) (h4 0 u h6)⟩
def part (cs : List Abs) (o s : Nat) : List Abs := (cs.drop o).take s
theorem al_ (hT : TabOk P tab) {i : TI} {b o : Nat} {cs : List Abs} (ht : ti tab t = some i) (hk : (match i.k with | .one => false | _ => true) = true) (hx : look l x = some (.v (.pointer (some ⟨b, o, none⟩)))) (hb : isBlk σ b t' cs) (hbX : b ∉ X) (hl : o + i.size ≤ cs.length) : Val P n W σ l X ⟨d, .load t x, ty, pos, aft, g⟩ (.agg (part cs o i.size)) := av_ fun a w hs _ => by
  obtain ⟨us, h1, h2⟩ := hs.mem.blk hb
  have hlen := V_ h2
  refine ⟨_, ⟨_, rfl, cc_ (cY_ h2 o) i.size⟩, fun w' hw' => Proofs.YtjclgkddfjbdiaaGreatDoor.eW_ hT ht hk (by rw [hs.at2 hx, hs.plain hx]) (by simp; omega) fun w1 e j u hu => ?_⟩
  subst e
  rw [a2_ (fG_ hw' hbX h1)]
  rw [List.getElem?_take, List.getElem?_drop] at hu
  split at hu
  · exact hu
  · cases hu
theorem y_ (hT : TabOk P tab) {i : TI} {b : Nat} {cs : List Abs} (ht : ti tab t = some i) (hk : (match i.k with | .one => false | _ => true) = true) (hx : look l x = some (.v (.pointer (some ⟨b, 0, none⟩)))) (hb : isBlk σ b t' cs) (hbX : b ∉ X) (hl : cs.length = i.size) : Val P n W σ l X ⟨d, .load t x, ty, pos, aft, g⟩ (.agg cs) :=
  i_ (al_ hT ht hk hx hb hbX (by omega)) (by simp [part, ← hl])
theorem ih_ (hT : TabOk P tab) {i : TI} {cs : List Abs} (ht : ti tab t = some i) (hk : (match i.k with | .one => false | _ => true) = true) (hx : look l x = some (.rp cs)) (hl : i.size ≤ cs.length) : Val P n W σ l X ⟨d, .load t x, ty, pos, aft, g⟩ (.agg (cs.take i.size)) := av_ fun a w hs hX => by
  obtain ⟨b, off, us, h1, h2, h3, h4, h5⟩ := hs.eval hx
  have hlen := V_ h5
  refine ⟨_, ⟨_, rfl, cc_ h5 i.size⟩, fun w' hw' => Proofs.YtjclgkddfjbdiaaGreatDoor.eW_ hT ht hk (by rw [hs.at2 hx, h1]) (by simp; omega) fun w1 e j u hu => ?_⟩
  subst e
  rw [List.getElem?_take] at hu
  split at hu
  · exact bO_ hw' (fun hm => h2 (hX b hm)) (h4 j u hu)
  · cases hu
theorem aH_ (hT : TabOk P tab) {i : TI} {cs : List Abs} (ht : ti tab t = some i) (hk : (match i.k with | .one => false | _ => true) = true) (hx : look l x = some (.rp cs)) (hl : cs.length = i.size) : Val P n W σ l X ⟨d, .load t x, ty, pos, aft, g⟩ (.agg cs) :=
  i_ (ih_ hT ht hk hx (by omega)) (by simp [← hl])
theorem G_ (hT : TabOk P tab) {sz fo ft f b o : Nat} {gs : List (Nat × Nat)} {zs : List Value} {j : TI} (ht : ti tab t = some ⟨sz, .struct gs, zs⟩) (hx : look l x = some (.v (.pointer (some ⟨b, o, none⟩)))) (hfo : gs[f]? = some (fo, ft)) (hj : ti tab ft = some j) (hs : Nat.beq j.size 0 = false) :
    Val P n W σ l X ⟨d, .fieldAddr t x f, ty, pos, aft, g⟩ (.v (.pointer (some ⟨b, o + fo, none⟩))) := by_ hx fun _ h => Proofs.YtjclgkddfjbdiaaGreatDoor.G_ hT ht h hfo hj hs
theorem aK_ (hT : TabOk P tab) {sz fo ft f : Nat} {gs : List (Nat × Nat)} {zs : List Value} {j : TI} {cs : List Abs} (ht : ti tab t = some ⟨sz, .struct gs, zs⟩) (hx : look l x = some (.rp cs)) (hfo : gs[f]? = some (fo, ft)) (hj : ti tab ft = some j) (hs0 : Nat.beq j.size 0 = false) :
    Val P n W σ l X ⟨d, .fieldAddr t x f, ty, pos, aft, g⟩ (.rp (cs.drop fo)) := av_ fun a w hs hX => by
  obtain ⟨b, off, us, h1, h2, h3, h4, h5⟩ := hs.eval hx
  refine ⟨_, ⟨b, off + fo, us.drop fo, rfl, h2, h3, fun j u hu => ?_, cY_ h5 fo⟩, fun w' _ => Proofs.YtjclgkddfjbdiaaGreatDoor.G_ hT ht (by rw [hs.at2 hx, h1]) hfo hj hs0⟩
  rw [List.getElem?_drop] at hu
  rw [Nat.add_assoc]; exact h4 _ u hu
theorem eY_ (hT : TabOk P tab) {sz fo ft f sz' : Nat} {gs : List (Nat × Nat)} {zs zs' : List Value} {cs : List Abs} (ht : ti tab t = some ⟨sz, .struct gs, zs⟩) (hx : look l x = some (.agg cs)) (hfo : gs[f]? = some (fo, ft)) (hj : ti tab ft = some ⟨sz', .one, zs'⟩) (hv : cs[fo]? = some A) :
    Val P n W σ l X ⟨d, .field t x f, ty, pos, aft, g⟩ A := av_ fun a w hs hX => by
  obtain ⟨us, h1, h2⟩ := hs.eval hx
  obtain ⟨u, h3, h4⟩ := a9_ h2 hv
  exact ⟨u, h4, fun w' _ => Proofs.YtjclgkddfjbdiaaGreatDoor.eY_ hT ht (by rw [hs.at2 hx, h1]) hfo hj h3⟩
theorem W_ (hT : TabOk P tab) {s q : Nat} {k : IntKind} {j : TI} {xs : List (List Abs)} {cs : List Abs} (hu : P.underlying t = some (.slice e)) (hj : ti tab e = some j) (hx : look l x = some (.sl s xs)) {r : Int} (hy : look l y = some (.v (.int k r))) (hr : r = (q : Nat)) (hq : xs[q]? = some cs) (hsz : Nat.beq s j.size = true) (hpos : Nat.blt 0 s = true) :
    Val P n W σ l X ⟨d, .indexAddr t x y, ty, pos, aft, g⟩ (.rp cs) := av_ fun a w hs hX => by
  subst hr
  obtain ⟨us, hr, h2⟩ := hs.eval hx
  have hsz := Nat.eq_of_beq_eq_true hsz
  have hpos : 0 < s := by simpa [Nat.blt_eq] using hpos
  obtain ⟨vs, h3, h4, h5⟩ := d3_ h2 hq
  have hlt : q < xs.length := (List.getElem?_eq_some_iff.1 hq).1
  have hlen := aE_ h2
  have hne : us ≠ [] := by
    rintro rfl
    have : xs.length * s = 0 := by simpa using hlen.symm
    rcases Nat.mul_eq_zero.1 this with h | h <;> omega
  obtain ⟨A', c, hsh, h6, h7, h8⟩ := hr.shape
  obtain ⟨b, off, n', c', hv, hb, hc⟩ := hr.cells hne
  rw [hsh] at hv
  simp at hv
  obtain ⟨rfl, rfl, rfl⟩ := hv
  have hcell : ∀ j u, vs[j]? = some u → w.cell? ⟨b, off + q * s + j, none⟩ = some u := fun j u hu => by rw [Nat.add_assoc]; exact hc _ u (h5 j u hu)
  have hbl : b < w.heap.size := by
    cases vs with
    | nil => simp at h3; omega
    | cons u vs => exact block_lt_of_cell (hcell 0 u rfl)
  refine ⟨_, ⟨b, off + q * s, vs, rfl, hb, hbl, hcell, h4⟩, fun w' _ => ?_⟩
  rw [hsz]
  exact Proofs.YtjclgkddfjbdiaaGreatDoor.f9_ hT hu hj (by rw [hs.at2 hx, hsh]) (by rw [hs.at2 hy, hs.plain hy]) hlt
/-! ### Operations that change memory -/
theorem lift_eff {a : Act} {w : World} (hs : St n W σ l a w) {R : Value → (World → Prop) → Prop} {C : World → Prop} (h : Proofs.YtjclgkddfjbdiaaGreatDoor.Eff P n (fullS a) C o R) (hC : C w) : ∃ v w' C', R v C' ∧ C' w' ∧ ((execOp a.eval o).run P w = .ok (.value v) w' ∨ (v = undef ∧ (execOp a.eval o).run P w = .ok .skip w')) := h a w hs.fr hC
def zabs (zs : List Value) : List Abs := zs.map .v
theorem bM_ {K : List Nat} {w : World} : ∀ zs : List Value, reps K w (zabs zs) zs
  | [] => rfl
  | z :: zs => ⟨z, zs, rfl, rfl, bM_ zs⟩
theorem F_ (hT : TabOk P tab) {i : TI} (ht : ti tab t = some i) : Eff P n W σ l [] ⟨d, .alloc t, ty, pos, aft, g⟩ fun v τ => ∃ b, v = .v (.pointer (some ⟨b, 0, none⟩)) ∧ τ = .blk b t (zabs i.zero) :: σ := fun a w hs => by
  obtain ⟨zv, hz, hc⟩ := (hT t _ ht).zeroValue (w := w)
  obtain ⟨h1, h2⟩ := hs.mem.alloc t (bM_ i.zero)
  refine ⟨_, _, _, _, ⟨w.heap.size, rfl, rfl⟩, (Ext.refl w).alloc _, rfl, h1, h2, .inl ?_⟩
  simp [execOp, Instr.alloc, Sem.run_bind, hz, Result.andThen, newVar, newRow, newObj, Sem.run, hc, row]
theorem z_ {cs : List Abs} (hx : look l x = some (.agg cs)) : Eff P n W σ l [] ⟨d, .box t x, ty, pos, aft, g⟩ fun v τ => ∃ b, v = .v (.pointer (some ⟨b, 0, none⟩)) ∧ τ = .blk b t cs :: σ := fun a w hs => by
  obtain ⟨us, hv, hr⟩ := hs.eval hx
  obtain ⟨h1, h2⟩ := hs.mem.alloc t hr
  refine ⟨_, _, _, _, ⟨w.heap.size, rfl, rfl⟩, (Ext.refl w).alloc _, rfl, h1, h2, .inl ?_⟩
  simp [execOp, hv, Instr.box, Result.andThen, newVar, newRow, newObj, Sem.run, Value.cells, row]
theorem jD_ (h1 : v.oneCell' = true) : v.cells = #[v] := by cases v <;> simp [Value.oneCell'] at h1 <;> rfl
theorem a3_ (hx : look l x = some A) (h1 : A.one = true) : Eff P n W σ l [] ⟨d, .box t x, ty, pos, aft, g⟩ fun v τ => ∃ b, v = .v (.pointer (some ⟨b, 0, none⟩)) ∧ τ = .blk b t [A] :: σ := fun a w hs => by
  have hr := hs.eval hx
  have hc := jD_ (Abs.one_rep hr h1)
  obtain ⟨h3, h4⟩ := hs.mem.alloc t (cs := [A]) (us := [a.eval x]) ⟨_, _, rfl, hr, rfl⟩
  refine ⟨_, _, _, _, ⟨w.heap.size, rfl, rfl⟩, (Ext.refl w).alloc _, rfl, h3, h4, .inl ?_⟩
  simp [execOp, Instr.box, Result.andThen, newVar, newRow, newObj, Sem.run, hc, row]
def putL : List Abs → Nat → List Abs → List Abs
  | L, 0, vs => vs ++ L.drop vs.length
  | x :: L, n + 1, vs => x :: putL L n vs
  | [], _ + 1, _ => []
theorem bW_ : ∀ (L : List Abs) (n : Nat) (vs : List Abs), n ≤ L.length → putL L n vs = L.take n ++ vs ++ L.drop (n + vs.length)
  | L, 0, vs, _ => by simp [putL]
  | x :: L, n + 1, vs, h => by
    have := bW_ L n vs (by simpa using h)
    simp [putL, this, Nat.add_right_comm n 1 vs.length]
  | [], n + 1, vs, h => by simp at h
theorem e6_ {K : List Nat} {w : World} {cs ys : List Abs} {us vs : List Value} {o : Nat} (h : reps K w cs us) (k : reps K w ys vs) (ho : o ≤ cs.length) : reps K w (putL cs o ys) (putAt us o vs) := by
  have h1 := V_ h
  have h2 := V_ k
  rw [bW_ _ _ _ ho, bn_ _ _ _ (by omega), h2]
  exact aR_ (aR_ (cc_ h o) k) (cY_ h _)
def cellsA : Abs → List Abs
  | .v (.agg us) => us.toList.map .v
  | .agg cs => cs
  | y => [y]
theorem cq_ {K : List Nat} {w : World} (hr : rep K w A v) : reps K w (cellsA A) (cellsL v) := by
  cases A with
  | v u =>
    have : v = u := hr
    subst this
    cases v <;> first | exact ⟨_, _, rfl, rfl, rfl⟩ | skip
    rename_i us
    exact bM_ us.toList
  | agg cs => obtain ⟨us, rfl, h⟩ := hr; simpa [cellsL, cellsA] using h
  | sl s xs => have h0 := hr; obtain ⟨us, h1, h2⟩ := hr; obtain ⟨A', c, rfl, _⟩ := h1.shape; exact ⟨_, _, rfl, h0, rfl⟩
  | rp cs => have h0 := hr; obtain ⟨b, o, us, rfl, _⟩ := hr; exact ⟨_, _, rfl, h0, rfl⟩
  | tup cs => have h0 := hr; obtain ⟨us, rfl, _⟩ := hr; exact ⟨_, _, rfl, h0, rfl⟩
  | fn f bs cs => have h0 := hr; obtain ⟨us, vs, rfl, _⟩ := hr; exact ⟨_, _, rfl, h0, rfl⟩
  | ifc t a => have h0 := hr; obtain ⟨u, rfl, _⟩ := hr; exact ⟨_, _, rfl, h0, rfl⟩
theorem p_ (hT : TabOk P tab) {i : TI} {b o : Nat} {cs L' : List Abs} (ht : ti tab t = some i) (hx : look l x = some (.v (.pointer (some ⟨b, o, none⟩)))) (hy : look l y = some A) (hu : Upd (.blk b t' cs) (.blk b t' L') σ τ) (hl : (cellsA A).length = i.size) (hn : o + i.size ≤ cs.length) (h1 : ones (cellsA A) = true) (hL : putL cs o (cellsA A) = L') :
    Eff P n W σ l [b] ⟨d, .store t x y, ty, pos, aft, g⟩ fun u τ' => u = .v undef ∧ τ' = τ := fun a w hs => by
  obtain ⟨us, hb, hr⟩ := hs.mem.hold _ hu.mem
  have hry := cq_ (hs.eval hy)
  have hlen := V_ hr
  have hlen2 := V_ hry
  have h2 := (hT t _ ht).sizeOf (w := w)
  have hone := bN_ hry h1
  have hst := run_storeCells_at (P := P) b o t' (cellsL (a.eval y)) 0 us.toArray w hb (by simp; omega) hone
  have hE : (us.toArray.toList.take (o + 0) ++ cellsL (a.eval y) ++ us.toArray.toList.drop (o + 0 + (cellsL (a.eval y)).length)).toArray = (putAt us o (cellsL (a.eval y))).toArray := by
    rw [bn_ us o _ (by omega)]; simp
  rw [hE] at hst
  have hxx : Ext [b] w (w.setRow b (putAt us o (cellsL (a.eval y))).toArray) := (Ext.refl w).setRow (.inl (by simp)) _
  have hm := hs.mem.upd hu hxx (by simp [It.mids]) (by simp [It.mids]) rfl fun hc => ⟨_, cE_ hb, ae_ hc _ _ (hL ▸ e6_ hr hry (by omega))⟩
  refine ⟨undef, _, _, _, ⟨rfl, rfl⟩, hxx, rfl, hm.1, hm.2, .inr ⟨rfl, ?_⟩⟩
  have hcs := c2_ (a.eval y)
  have hle : (cellsL (a.eval y)).length = i.size := by omega
  simp [execOp, hs.plain hx, Instr.storeAt, Instr.sureAddr, storeVar, Sem.run_bind, hcs, h2, hle, hst, Result.andThen]
/-! ### Composite values -/
def fillA (place : Nat → Option (Nat × Nat)) (cells : List Abs) : List (Nat × Abs) → Option (List Abs)
  | [] => some cells
  | (i, v) :: rest => match place i with
    | none => none
    | some (off, size) => bif Nat.beq (cellsA v).length size && Nat.ble (off + size) cells.length then fillA place (putL cells off (cellsA v)) rest else none
def evalParts (l : Slots) : List (Nat × Operand) → Option (List (Nat × Abs))
  | [] => some []
  | (i, x) :: ps => match look l x, evalParts l ps with
    | some v, some vs => some ((i, v) :: vs)
    | _, _ => none
theorem evalParts2 {a : Act} {w : World} (hs : St n W σ l a w) : ∀ {ps : List (Nat × Operand)} {vs : List (Nat × Abs)}, evalParts l ps = some vs →
    Proofs.YtjclgkddfjbdiaaGreatDoor.evalParts (fullS a) ps = some (ps.map fun p => (p.1, a.eval p.2)) ∧ vs.map (·.1) = ps.map (·.1) ∧ reps (mids σ ++ W.G) w (vs.map (·.2)) (ps.map fun p => a.eval p.2)
  | [], vs, h => by simp [evalParts] at h; subst h; exact ⟨rfl, rfl, rfl⟩
  | (i, x) :: ps, vs, h => by
    unfold evalParts at h
    cases h1 : look l x with
    | none => simp [h1] at h
    | some v =>
      cases h2 : evalParts l ps with
      | none => simp [h1, h2] at h
      | some us =>
        simp [h1, h2] at h
        subst h
        obtain ⟨h3, h4, h5⟩ := evalParts2 hs h2
        refine ⟨by simp [Proofs.YtjclgkddfjbdiaaGreatDoor.evalParts, hs.at2 h1, h3], by simpa using h4, ⟨_, _, rfl, hs.eval h1, h5⟩⟩
theorem ek_ {K : List Nat} {w : World} (place : Nat → Option (Nat × Nat)) : ∀ (vs : List (Nat × Abs)) (us : List (Nat × Value)) (cells L : List Abs) (cv : List Value), vs.map (·.1) = us.map (·.1) → reps K w (vs.map (·.2)) (us.map (·.2)) → reps K w cells cv → fillA place cells vs = some L → ∃ L', fillL place cv us = some L' ∧ reps K w L L'
  | [], us, cells, L, cv, h1, h2, h3, h4 => by
    simp [fillA] at h4
    subst h4
    cases us with
    | nil => exact ⟨cv, rfl, h3⟩
    | cons _ _ => simp at h1
  | (i, v) :: rest, us, cells, L, cv, h1, h2, h3, h4 => by
    cases us with
    | nil => simp at h1
    | cons p us =>
      obtain ⟨i', u⟩ := p
      simp only [List.map_cons, List.cons.injEq] at h1
      obtain ⟨rfl, h1⟩ := h1
      obtain ⟨u', us', h5, h6, h7⟩ := h2
      simp only [List.map_cons, List.cons.injEq] at h5
      obtain ⟨rfl, rfl⟩ := h5
      unfold fillA at h4
      unfold fillL
      cases hp : place i with
      | none => simp [hp] at h4
      | some os =>
        obtain ⟨off, size⟩ := os
        simp only [hp] at h4 ⊢
        have hc := cq_ h6
        have l1 := V_ hc
        have l2 := V_ h3
        cases hb : (Nat.beq (cellsA v).length size && Nat.ble (off + size) cells.length) with
        | false => rw [hb] at h4; simp at h4
        | true =>
          rw [hb] at h4
          rw [l1, l2, hb]
          simp only [Bool.and_eq_true] at hb
          have e1 := Nat.eq_of_beq_eq_true hb.1
          have e2 := Nat.le_of_ble_eq_true hb.2
          exact ek_ place rest us _ L _ h1 h7 (e6_ h3 hc (by omega)) h4
theorem u_ (hT : TabOk P tab) {sz : Nat} {gs : List (Nat × Nat)} {zs : List Value} {L : List Abs} {ps : List (Nat × Operand)} {vs : List (Nat × Abs)} (ht : ti tab t = some ⟨sz, .struct gs, zs⟩) (hin : allIn tab gs = true) (hps : evalParts l ps = some vs) (hL : fillA ((places tab gs)[·]?) (zabs zs) vs = some L) :
    Val P n W σ l X ⟨d, .build t ps.toArray, ty, pos, aft, g⟩ (.agg L) := av_ fun a w hs hX => by
  obtain ⟨h1, h2, h3⟩ := evalParts2 hs hps
  obtain ⟨L', h4, h5⟩ := ek_ _ vs (ps.map fun p => (p.1, a.eval p.2)) _ L zs (by rw [List.map_map]; exact h2) (by rw [List.map_map]; exact h3) (bM_ zs) hL
  exact ⟨_, ⟨L', rfl, h5⟩, fun w' _ => Proofs.YtjclgkddfjbdiaaGreatDoor.u_ hT ht hin h1 h4⟩
theorem cu_ (hT : TabOk P tab) {sz m e : Nat} {j : TI} {zs : List Value} {L : List Abs} {ps : List (Nat × Operand)} {vs : List (Nat × Abs)} (ht : ti tab t = some ⟨sz, .array m e, zs⟩) (hj : ti tab e = some j) (hps : evalParts l ps = some vs) (hL : fillA (fun i => some (i * j.size, j.size)) (zabs zs) vs = some L) :
    Val P n W σ l X ⟨d, .build t ps.toArray, ty, pos, aft, g⟩ (.agg L) := av_ fun a w hs hX => by
  obtain ⟨h1, h2, h3⟩ := evalParts2 hs hps
  obtain ⟨L', h4, h5⟩ := ek_ _ vs (ps.map fun p => (p.1, a.eval p.2)) _ L zs (by rw [List.map_map]; exact h2) (by rw [List.map_map]; exact h3) (bM_ zs) hL
  exact ⟨_, ⟨L', rfl, h5⟩, fun w' _ => Proofs.YtjclgkddfjbdiaaGreatDoor.cu_ hT ht hj h1 h4⟩
end
abbrev byt (l : List UInt8) : Abs := .sl 1 (l.map fun b => [.v (bc b)])
section
variable {K : List Nat} {w : World} {x : Value}
theorem gM_ (l : List UInt8) : (l.map fun b => [Abs.v (bc b)]) = (l.map bc).map fun u => [.v u] := by rw [List.map_map]; rfl
theorem a4_ {l : List UInt8} : rep K w (byt l) x ↔ IsRow K w x l.length (l.map bc) := by
  constructor
  · rintro ⟨us, h1, h2⟩
    rw [gM_] at h2
    have := cX_ h2
    subst this
    simpa using h1
  · intro h
    refine ⟨l.map bc, by simpa using h, ?_⟩
    rw [gM_]; exact di_
theorem cD_ {s : Nat} {x : Value} (h : rep K w (.v (.slice none 0 0)) x) : rep K w (.sl s []) x := ⟨[], IsRow.nil h, rfl⟩
end
def ownPc (e : TypeId) (s : Nat) (v : Value) (xs : List (List Abs)) : Pc where
  ids := v.ownBlock.toList
  p := fun K w => ∃ us, w.ownsRow 0 e s v xs.length us ∧ repss K w s xs us
  carry := fun K w K' w' hc hs ⟨us, h, hr⟩ => by
    refine ⟨us, ⟨h.1, ?_⟩, ai_ hc s xs us hr⟩
    rcases h.2 with h2 | ⟨g, cap, cur, rfl, hg, hh, hrest⟩
    · exact .inl h2
    · exact .inr ⟨g, cap, cur, rfl, hg, (hs g (by simp [Value.ownBlock])).trans hh, hrest⟩
  lt := fun K w ⟨us, h, _⟩ k hk => by
    have := World.ownsRow.lt h k (by simpa using hk)
    omega
abbrev own (e : TypeId) (s : Nat) (v : Value) (xs : List (List Abs)) : It := .pc (ownPc e s v xs)
theorem aM_ {e : TypeId} {s : Nat} {v : Value} {xs : List (List Abs)} : (own e s v xs).mids.Nodup := by
  simp only [It.mids, ownPc]
  cases v.ownBlock <;> simp
section
variable {P : Program} {n : Nat} {W : Wd} {σ τ : Blks} {l : Slots} {X : List Nat} {x y z : Operand} {d : Option Nat} {ty t t' e : TypeId} {pos : String} {aft : Array Edge} {g : Option (Nat × Bool)} {v u : Value} {k k' : IntKind} {a b : Int} {o : Oper} {A B : Abs} {tab : List (Nat × TI)} {ops : Array Oper} {rest : List Oper} {Q : Exit → Act → World → Prop} {ix : Plan} {xs ys : List (List Abs)} {s : Nat}
theorem Mem.own0 {w0 w : World} {F G : List Nat} (h : Mem w0 F G σ w) (e : TypeId) (s : Nat) : Mem w0 F G (own e s (.slice none 0 0) [] :: σ) w ∧ Carry (mids σ ++ G) w (mids (own e s (.slice none 0 0) [] :: σ) ++ G) w :=
  h.new (Ext.refl w) aM_ (by simp [It.mids, ownPc, Value.ownBlock]) rfl fun _ => ⟨[], ⟨by simp, .inl ⟨rfl, rfl⟩⟩, rfl⟩
theorem St.own0 {a : Act} {w : World} (h : St n W σ l a w) (e : TypeId) (s : Nat) : St n W (own e s (.slice none 0 0) [] :: σ) l a w := let ⟨h1, h2⟩ := h.mem.own0 e s; h.to h1 h2
theorem own_sl {w0 w : World} {F G : List Nat} {pre post : Blks} (h : Mem w0 F G (pre ++ own e s v xs :: post) w) : rep (mids (pre ++ post) ++ G) w (.sl s xs) v := by
  obtain ⟨us, h1, h2⟩ : (ownPc e s v xs).p _ w := h.hold (own e s v xs) (by simp)
  have hc := (h.sub (τ := pre ++ post) (List.Sublist.append (List.Sublist.refl _) (List.sublist_cons_self _ _))).2
  refine ⟨us, ownsRow.isRow h1 fun k hk hm => ?_, ai_ hc s xs us h2⟩
  have hk' : k ∈ (own e s v xs).mids := by simp [It.mids, ownPc, hk]
  have hnd := h.nodup
  simp only [L_, ad_, List.nodup_append] at hnd hm
  obtain ⟨n1, ⟨n2, n3, n4⟩, n5⟩ := hnd
  rcases List.mem_append.1 hm with hm | hm
  · rcases List.mem_append.1 hm with hm | hm
    · exact n5 k hm k (List.mem_append_left _ hk') rfl
    · exact n4 k hk' k hm rfl
  · exact h.sep k (by simp [L_, ad_, hk']) hm
theorem St.freeze {a : Act} {w : World} {pre post : Blks} {t : Nat} (h : St n W (pre ++ own e s v xs :: post) l a w) (hs : slot l t = some (.v v)) : St n W (pre ++ post) ((t, .sl s xs) :: l) a w := by
  have hsub : (pre ++ post).Sublist (pre ++ own e s v xs :: post) := List.Sublist.append (List.Sublist.refl _) (List.sublist_cons_self _ _)
  refine (h.less hsub).cast hs fun u hu => ?_
  have : u = v := hu
  subst this
  exact own_sl h.mem
theorem ge_ (pre : Blks) {post : Blks} {t : Nat} (hσ : σ = pre ++ own e s v xs :: post) (hs : slot l t = some (.v v)) (k : SL P ops rest (St n W (pre ++ post) ((t, .sl s xs) :: l)) Q) : SL P ops rest (St n W σ l) Q := by
  subst hσ; exact fun a w h => k a w (h.freeze hs)
theorem gc_ (pre : Blks) {post : Blks} {t : Nat} (hσ : σ = pre ++ own e s v xs :: post) (hs : slot l t = some (.v v)) (k : SX P ops ix X (St n W (pre ++ post) ((t, .sl s xs) :: l)) Q) : SX P ops ix X (St n W σ l) Q := by
  subst hσ; exact fun a w h => k a w (h.freeze hs)
theorem a8_ {ex : Exit} (pre : Blks) {post : Blks} {t : Nat} (hσ : σ = pre ++ own e s v xs :: post) (hs : slot l t = some (.v v)) (k : SE ex (St n W (pre ++ post) ((t, .sl s xs) :: l)) Q) : SE ex (St n W σ l) Q := by
  subst hσ; exact fun a w h => k a w (h.freeze hs)
theorem bj_ {c : Code} (pre : Blks) {post : Blks} {t : Nat} (hσ : σ = pre ++ own e s v xs :: post) (hs : slot l t = some (.v v)) (k : SC P c (St n W (pre ++ post) ((t, .sl s xs) :: l)) Q) : SC P c (St n W σ l) Q := by
  subst hσ; exact fun a w h => k a w (h.freeze hs)
theorem aO_ {c : Code} (e : TypeId) (s : Nat) (k : SC P c (St n W (own e s (.slice none 0 0) [] :: σ) l) Q) : SC P c (St n W σ l) Q := fun a w h => k a w (h.own0 e s)
theorem SL.own0 (e : TypeId) (s : Nat) (k : SL P ops rest (St n W (own e s (.slice none 0 0) [] :: σ) l) Q) : SL P ops rest (St n W σ l) Q := fun a w h => k a w (h.own0 e s)
theorem aG_ {m : Nat} (hx : look l x = some (.v v)) (hb : own e s v xs ∈ σ) (ht : P.underlying t = some (.slice e)) (hm : xs.length = m) : Val P n W σ l X ⟨d, .call { callee := .builtin .len, args := #[x], argTypes := #[t] }, ty, pos, aft, g⟩ (.v (.int .i64 m)) := av_ fun a w hs _ => by
  subst hm
  obtain ⟨us, h1, _⟩ : (ownPc e s v xs).p _ w := hs.mem.hold _ hb
  refine ⟨_, rfl, fun w' _ => ?_⟩
  rcases h1.2 with ⟨rfl, h0⟩ | ⟨g, cap, cur, rfl, _⟩
  · rw [h0]; exact Proofs.YtjclgkddfjbdiaaGreatDoor.P_ (by rw [hs.at2 hx, hs.plain hx]) ht
  · exact Proofs.YtjclgkddfjbdiaaGreatDoor.P_ (by rw [hs.at2 hx, hs.plain hx]) ht
theorem az_ (hT : TabOk P tab) {sz b o : Nat} {zs : List Value} {cs L' : List Abs} (ht : ti tab t = some ⟨sz, .one, zs⟩) (h1 : Nat.beq sz 1 = true) (hx : look l x = some (.v (.pointer (some ⟨b, o, none⟩)))) (hy : look l y = some (.v v)) (hb : own e s v xs ∈ σ) (hu : Upd (.blk b t' cs) (.blk b t' L') σ τ) (hn : Nat.blt o cs.length = true) (hL : putL cs o [.v v] = L') :
    Eff P n W σ l [b] ⟨d, .store t x y, ty, pos, aft, g⟩ fun u τ' => u = .v undef ∧ τ' = τ := fun a w hs => by
  obtain ⟨us, h2, _⟩ : (ownPc e s v xs).p _ w := hs.mem.hold _ hb
  have h1 := Nat.eq_of_beq_eq_true h1
  subst h1
  have hn : o < cs.length := by simpa [Nat.blt_eq] using hn
  have hsl : ∃ A n c, v = .slice A n c := by
    rcases h2.2 with ⟨h, _⟩ | ⟨g, cap, cur, h, _⟩
    · exact ⟨_, _, _, h⟩
    · exact ⟨_, _, _, h⟩
  obtain ⟨A', n', c', rfl⟩ := hsl
  exact p_ hT ht hx hy hu rfl (by show o + 1 ≤ _; omega) rfl hL a w hs
theorem bS_ (hT : TabOk P tab) {i : TI} (pre : Blks) {post : Blks} (hu : P.underlying t = some (.slice e)) (hi : ti tab e = some i) (hpos : Nat.blt 0 i.size = true) (hsz : Nat.beq s i.size = true)
    (hx : look l x = some (.v v)) (hy : look l y = some (.sl s ys)) (hσ : σ = pre ++ own e s v xs :: post) (h1 : ∀ c ∈ ys, ones c = true) (hm : xs.length + ys.length ≤ maxLen) (hby : (xs.length + ys.length) * P.bytesOf e ≤ 140737488355328) :
    Eff P n W σ l v.ownBlock.toList ⟨d, .call { callee := .builtin .append, args := #[x, y], argTypes := #[t, t] }, ty, pos, aft, g⟩ fun r τ => ∃ u, r = .v u ∧ τ = pre ++ own e s u (xs ++ ys) :: post := fun a w hs => by
  subst hσ
  have hsz := Nat.eq_of_beq_eq_true hsz
  subst hsz
  obtain ⟨us, own1, hr1⟩ : (ownPc e i.size v xs).p _ w := hs.mem.hold (own e i.size v xs) (by simp)
  obtain ⟨news, hrow, hr2⟩ := hs.eval hy
  obtain ⟨A', c', hsh, _⟩ := hrow.shape
  have hone : ∀ u ∈ news, u.oneCell' = true := by
    have aux : ∀ (ys : List (List Abs)) (news : List Value), (∀ c ∈ ys, ones c = true) → repss (mids (pre ++ own e i.size v xs :: post) ++ W.G) w i.size ys news → ∀ u ∈ news, u.oneCell' = true := by
      intro ys
      induction ys with
      | nil => intro news _ h u hu; have : news = [] := h; subst this; cases hu
      | cons c ys ih =>
        rintro news ho ⟨u1, u2, rfl, _, h3, h4⟩ u hu
        rcases List.mem_append.1 hu with hu | hu
        · exact bN_ h3 (ho c (by simp)) u hu
        · exact ih u2 (fun c hc => ho c (by simp [hc])) h4 u hu
    exact aux ys news h1 hr2
  have hrow' := hrow
  rw [hsh] at hrow'
  obtain ⟨v', w', hrun, h2, h3, h4⟩ := cV_ (ty := ty) hT hu hi hby hpos own1 hrow' (aE_ hr2) hone hm
  have hlt := World.ownsRow.lt own1
  have hxx : Ext v.ownBlock.toList w w' := cn_ h3 fun k hk => .inl (by simpa using hk)
  have hup : Upd (own e i.size v xs) (own e i.size v' (xs ++ ys)) (pre ++ own e i.size v xs :: post) (pre ++ own e i.size v' (xs ++ ys) :: post) := by
    clear hs own1 hr1 hrow hr2 hrow'
    induction pre with
    | nil => exact .here
    | cons p pre ih => exact .there ih
  have hm2 := hs.mem.upd hup hxx aM_ (fun k hk => ?_) rfl fun hc => ⟨_, by rw [List.length_append]; exact h2, aX_ (ai_ hc _ _ _ hr1) (ai_ hc _ _ _ hr2)⟩
  · refine ⟨v', w', _, _, ⟨v', rfl, rfl⟩, hxx, rfl, hm2.1, hm2.2, .inl ?_⟩
    simp [execOp, resolve, invoke, builtin, hs.plain hx, hsh, hrun, Result.andThen]
  · have hk' : v'.ownBlock = some k := by simpa [It.mids, ownPc] using hk
    rcases h4 with h4 | h4
    · exact .inl (by simp [It.mids, ownPc, ← h4, hk'])
    · rw [h4] at hk'; simp at hk'; exact .inr (by omega)
theorem K_ (hT : TabOk P tab) {i : TI} (pre : Blks) {post : Blks} {zs : List (List Abs)} (hz : xs ++ ys = zs) (hu : P.underlying t = some (.slice e)) (hi : ti tab e = some i) (hpos : Nat.blt 0 i.size = true) (hsz : Nat.beq s i.size = true)
    (hx : look l x = some (.v v)) (hy : look l y = some (.sl s ys)) (hσ : σ = pre ++ own e s v xs :: post) (h1 : ∀ c ∈ ys, ones c = true) (hm : xs.length + ys.length ≤ maxLen) (hby : (xs.length + ys.length) * P.bytesOf e ≤ 140737488355328) :
    Eff P n W σ l v.ownBlock.toList ⟨d, .call { callee := .builtin .append, args := #[x, y], argTypes := #[t, t] }, ty, pos, aft, g⟩ fun r τ => ∃ u, r = .v u ∧ τ = pre ++ own e s u zs :: post := hz ▸ bS_ hT pre hu hi hpos hsz hx hy hσ h1 hm hby
def inOrder : Nat → List (Nat × Abs) → Bool
  | _, [] => true
  | i, (j, _) :: l => Nat.beq i j && inOrder (i + 1) l
def elems (s : Nat) : List (Nat × Abs) → Option (List (List Abs))
  | [] => some []
  | (_, y) :: l => match elems s l with
    | some xs => bif Nat.beq (cellsA y).length s then some (cellsA y :: xs) else none
    | none => none
theorem dq_ {K : List Nat} {w : World} (s : Nat) : ∀ (vs : List (Nat × Abs)) (us : List (Nat × Value)) (i : Nat) (xs : List (List Abs)) (cv : List Value), vs.map (·.1) = us.map (·.1) → inOrder i vs = true → elems s vs = some xs → reps K w (vs.map (·.2)) (us.map (·.2)) → cv.length = (i + vs.length) * s →
    fillL (fun j => some (j * s, s)) cv us = some (cv.take (i * s) ++ us.flatMap fun p => cellsL p.2) ∧ repss K w s xs (us.flatMap fun p => cellsL p.2)
  | [], us, i, xs, cv, h1, _, h2, _, h4 => by
    simp [elems] at h2
    subst h2
    cases us with
    | nil => exact ⟨by rw [List.take_of_length_le (by simp at h4; omega)]; simp [fillL], rfl⟩
    | cons _ _ => simp at h1
  | (j, y) :: vs, us, i, xs, cv, h1, h0, h2, h3, h4 => by
    cases us with
    | nil => simp at h1
    | cons p us =>
      obtain ⟨i', u⟩ := p
      simp only [List.map_cons, List.cons.injEq] at h1
      obtain ⟨rfl, h1⟩ := h1
      obtain ⟨u', us', h5, h6, h7⟩ := h3
      simp only [List.map_cons, List.cons.injEq] at h5
      obtain ⟨rfl, rfl⟩ := h5
      simp only [inOrder, Bool.and_eq_true] at h0
      have hj := Nat.eq_of_beq_eq_true h0.1
      subst hj
      unfold elems at h2
      cases he : elems s vs with
      | none => simp [he] at h2
      | some xs' =>
        simp only [he] at h2
        cases hb : Nat.beq (cellsA y).length s with
        | false => rw [hb] at h2; simp at h2
        | true =>
          rw [hb] at h2
          simp only [cond_true, Option.some.injEq] at h2
          subst h2
          have hb := Nat.eq_of_beq_eq_true hb
          have hc := cq_ h6
          have l1 : (cellsL u).length = (cellsA y).length := V_ hc
          simp only [List.length_cons] at h4
          have e0 : (i + (vs.length + 1)) * s = i * s + s + vs.length * s := by rw [← Nat.add_assoc, Nat.succ_mul, Nat.add_mul]; omega
          have e1 : (i + 1) * s = i * s + s := Nat.succ_mul i s
          have e2 : (i + 1 + vs.length) * s = i * s + s + vs.length * s := by rw [Nat.add_mul, e1]
          have hle : i * s + s ≤ cv.length := by omega
          have hmin : min (i * s) cv.length = i * s := by omega
          have hmin2 : (List.take (i * s) cv).length = i * s := by rw [List.length_take]; exact hmin
          unfold fillL
          dsimp only
          have hbb : (Nat.beq (cellsL u).length s && Nat.ble (i * s + s) cv.length) = true := by
            rw [Bool.and_eq_true]
            exact ⟨by rw [l1, hb]; simp, Nat.ble_eq.symm ▸ hle⟩
          rw [hbb]
          simp only [cond_true]
          obtain ⟨h8, h9⟩ := dq_ s vs us (i + 1) xs' (putAt cv (i * s) (cellsL u)) h1 h0.2 he h7 (by
            rw [bn_ _ _ _ (by omega), List.length_append, List.length_append, hmin2, List.length_drop]; omega)
          refine ⟨?_, _, _, rfl, l1.trans hb, hc, h9⟩
          have h10 : List.take ((i + 1) * s) (List.take (i * s) cv ++ cellsL u ++ List.drop (i * s + (cellsL u).length) cv) = List.take (i * s) cv ++ cellsL u := by
            rw [List.take_append_of_le_length (by rw [List.length_append, hmin2]; omega), List.take_of_length_le (by rw [List.length_append, hmin2]; omega)]
          rw [h8, bn_ _ _ _ (by omega), h10, List.flatMap_cons, ← List.append_assoc]
theorem eS_ (hT : TabOk P tab) {i : TI} {len : Nat} {ps : List (Nat × Operand)} {vs : List (Nat × Abs)} (hu : P.underlying t = some (.slice e)) (hi : ti tab e = some i) (hps : evalParts l ps = some vs) (hin : inOrder 0 vs = true) (he : elems i.size vs = some xs) (hlen : Nat.beq vs.length len = true) (hsz : Nat.ble (len * i.size) 16777216 = true) (hpos : Nat.blt 0 i.size = true) {a : Act} {w : World} (hs : St n W σ l a w) :
    ∃ b w' L', Ext [] w w' ∧ w'.heap[b]? = some (row e L') ∧ w.heap.size ≤ b ∧ repss (mids σ ++ W.G) w i.size xs L' ∧ xs.length = len ∧ len ≤ maxLen ∧ (execOp a.eval ⟨d, .buildSlice t len ps.toArray, ty, pos, aft, g⟩).run P w = .ok (.value (.slice (some ⟨b, 0, none⟩) len len)) w' := by
  obtain ⟨h1, h2, h3⟩ := evalParts2 hs hps
  have hlen := Nat.eq_of_beq_eq_true hlen
  subst hlen
  have hsz' := Nat.le_of_ble_eq_true hsz
  have hpos : 0 < i.size := by simpa [Nat.blt_eq] using hpos
  have hxl : ∀ (vs : List (Nat × Abs)) (xs : List (List Abs)), elems i.size vs = some xs → xs.length = vs.length := by
    intro vs
    induction vs with
    | nil => intro xs h; simp [elems] at h; subst h; rfl
    | cons p vs ih =>
      obtain ⟨j, y⟩ := p
      intro xs h
      unfold elems at h
      cases he : elems i.size vs with
      | none => simp [he] at h
      | some xs' =>
        simp only [he] at h
        cases hb : Nat.beq (cellsA y).length i.size <;> rw [hb] at h <;> simp at h
        subst h
        simp [ih xs' he]
  generalize hLd : ((ps.map fun p => (p.1, a.eval p.2)).flatMap fun p => cellsL p.2) = L'
  have key : ∀ L0 : List Value, L0.length = vs.length * i.size → fillL (fun j => some (j * i.size, i.size)) L0 (ps.map fun p => (p.1, a.eval p.2)) = some L' := fun L0 hL0 => by
    have h8 := (dq_ (K := mids σ ++ W.G) (w := w) i.size vs (ps.map fun p => (p.1, a.eval p.2)) 0 xs L0 (by rw [List.map_map]; exact h2) hin he (by rw [List.map_map]; exact h3) (by rw [Nat.zero_add]; exact hL0)).1
    rw [Nat.zero_mul, List.take_zero, List.nil_append, hLd] at h8
    exact h8
  have hr : repss (mids σ ++ W.G) w i.size xs L' := by
    have h8 := (dq_ (K := mids σ ++ W.G) (w := w) i.size vs (ps.map fun p => (p.1, a.eval p.2)) 0 xs (List.replicate (vs.length * i.size) undef) (by rw [List.map_map]; exact h2) hin he (by rw [List.map_map]; exact h3) (by simp)).2
    rw [hLd] at h8
    exact h8
  obtain ⟨v', w', C', ⟨b, rfl, rfl⟩, hC', hrun⟩ := lift_eff (C := Proofs.YtjclgkddfjbdiaaGreatDoor.Mem [(w, [])] [] []) hs (Proofs.YtjclgkddfjbdiaaGreatDoor.Eff.buildSlice (P := P) (n := n) (S := [(w, [])]) (σ := []) (ρ := []) (d := d) (ty := ty) (pos := pos) (aft := aft) (g := g) hT hu hi h1 key hsz) (Proofs.YtjclgkddfjbdiaaGreatDoor.Mem.start w)
  have hx0 : Ext [] w w' := hC'.ext (w, []) (by simp)
  have hb : w'.heap[b]? = some (row e L') := hC'.holds (by simp)
  have hbn : w.heap.size ≤ b := by
    have := hC'.out _ (List.mem_cons_self) b (by simp [Proofs.YtjclgkddfjbdiaaGreatDoor.It.ids]) (w, []) (by simp)
    simpa using this
  have hml : vs.length ≤ maxLen := by unfold maxLen; have : vs.length ≤ vs.length * i.size := Nat.le_mul_of_pos_right _ hpos; omega
  rcases hrun with hrun | ⟨h0, _⟩
  · exact ⟨b, w', L', hx0, hb, hbn, hr, hxl vs xs he, hml, hrun⟩
  · cases h0
theorem ac_ (hT : TabOk P tab) {i : TI} {len : Nat} {ps : List (Nat × Operand)} {vs : List (Nat × Abs)} (hu : P.underlying t = some (.slice e)) (hi : ti tab e = some i) (hps : evalParts l ps = some vs) (hin : inOrder 0 vs = true) (he : elems i.size vs = some xs) (hlen : Nat.beq vs.length len = true) (hsz : Nat.ble (len * i.size) 16777216 = true) (hpos : Nat.blt 0 i.size = true) :
    Eff P n W σ l [] ⟨d, .buildSlice t len ps.toArray, ty, pos, aft, g⟩ fun r τ => r = .sl i.size xs ∧ τ = σ := fun a w hs => by
  obtain ⟨b, w', L', hx0, hb, hbn, hr, hxl, hml, hrun⟩ := eS_ (d := d) (ty := ty) (pos := pos) (aft := aft) (g := g) hT hu hi hps hin he hlen hsz hpos hs
  obtain ⟨hm, hc⟩ := hs.mem.same hx0
  refine ⟨_, w', _, _, ⟨rfl, rfl⟩, hx0, ⟨L', ⟨⟨_, len, by rw [hxl], by omega, hml, by simp⟩, fun hn => ⟨b, 0, len, len, rfl, fun hk => ?_, fun j u hj => by rw [Nat.zero_add, a2_ hb]; exact hj⟩⟩, ai_ hc _ _ _ hr⟩, hm, hc, .inl hrun⟩
  have := hs.mem.lt b hk
  omega
theorem as_ (hT : TabOk P tab) {i : TI} {len : Nat} {ps : List (Nat × Operand)} {vs : List (Nat × Abs)} (hu : P.underlying t = some (.slice e)) (hi : ti tab e = some i) (hps : evalParts l ps = some vs) (hin : inOrder 0 vs = true) (he : elems i.size vs = some xs) (hlen : Nat.beq vs.length len = true) (hsz : Nat.ble (len * i.size) 16777216 = true) (hpos : Nat.blt 0 i.size = true) :
    Eff P n W σ l [] ⟨d, .buildSlice t len ps.toArray, ty, pos, aft, g⟩ fun r τ => ∃ u, r = .v u ∧ τ = own e i.size u xs :: σ := fun a w hs => by
  obtain ⟨b, w', L', hx0, hb, hbn, hr, hxl, hml, hrun⟩ := eS_ (d := d) (ty := ty) (pos := pos) (aft := aft) (g := g) hT hu hi hps hin he hlen hsz hpos hs
  have hll := aE_ hr
  obtain ⟨hm, hc⟩ := hs.mem.new (y := own e i.size (.slice (some ⟨b, 0, none⟩) len len) xs) hx0 aM_ (by simpa [It.mids, ownPc, Value.ownBlock] using hbn) rfl fun hc => ⟨L', ⟨by rw [hll], .inr ⟨b, len, L'.toArray, by rw [hxl], Nat.zero_le _, hb, by omega, hml, by simp [hll, hxl], by rw [List.take_of_length_le (by simp [hll])]⟩⟩, ai_ hc _ _ _ hr⟩
  exact ⟨_, w', _, _, ⟨_, rfl, rfl⟩, hx0, rfl, hm, hc, .inl hrun⟩
end
section
variable {K : List Nat} {w : World} {s : Nat}
theorem dk_ {xs : List (List Abs)} {us : List Value} (h : repss K w s xs us) (q : Nat) (hq : q ≤ xs.length) : repss K w s (xs.drop q) (us.drop (q * s)) ∧ repss K w s (xs.take q) (us.take (q * s)) := by
  have h1 := h
  rw [← List.take_append_drop q xs] at h1
  obtain ⟨u1, u2, rfl, h2, h3⟩ := cB_ h1
  have hl : u1.length = q * s := by rw [aE_ h2, List.length_take, Nat.min_eq_left hq]
  rw [← hl]
  simp [h2, h3]
theorem IsRow.tailN {A : Option Addr} {m c q : Nat} {us : List Value} (h : IsRow K w (.slice A m c) m us) (hq : q ≤ m) (hl : us.length = m * s) : IsRow K w (.slice (if c = q then A else A.map (·.add (q * s))) (m - q) (c - q)) (m - q) (us.drop (q * s)) := by
  obtain ⟨A', c', hv, h1, h2, h3⟩ := h.shape
  simp at hv
  obtain ⟨rfl, rfl⟩ := hv
  refine ⟨⟨_, c - q, rfl, by omega, by omega, fun hA => ?_⟩, fun hn => ?_⟩
  · split at hA
    · have := h3 hA; omega
    · cases A with
      | none => have := h3 rfl; omega
      | some a => simp at hA
  · have hlt : q < m := by
      rcases Nat.lt_or_ge q m with h4 | h4
      · exact h4
      · have : q = m := by omega
        subst this
        exact absurd (List.drop_eq_nil_of_le (by omega)) hn
    obtain ⟨b, off, n', c2, hv, hb, hc⟩ := h.cells (by rintro rfl; simp at hn)
    simp at hv
    obtain ⟨rfl, rfl, rfl⟩ := hv
    refine ⟨b, off + q * s, m - q, c - q, by rw [if_neg (by omega)]; simp [Addr.add_none], hb, fun j u hu => ?_⟩
    rw [List.getElem?_drop] at hu
    rw [Nat.add_assoc]; exact hc _ u hu
theorem IsRow.headN {A : Option Addr} {m c q : Nat} {us : List Value} (h : IsRow K w (.slice A m c) m us) (hq : q ≤ m) (k : Nat) (hk : q ≤ k) (hkc : k ≤ c) (hkA : A = none → k = 0) : IsRow K w (.slice A q k) q (us.take (q * s)) := by
  obtain ⟨A', c', hv, h1, h2, h3⟩ := h.shape
  simp at hv
  obtain ⟨rfl, rfl⟩ := hv
  refine ⟨⟨_, k, rfl, hk, by omega, hkA⟩, fun hn => ?_⟩
  obtain ⟨b, off, n', c2, hv, hb, hc⟩ := h.cells (by rintro rfl; simp at hn)
  simp at hv
  obtain ⟨rfl, rfl, rfl⟩ := hv
  refine ⟨b, off, q, k, rfl, hb, fun j u hu => ?_⟩
  rw [List.getElem?_take] at hu
  split at hu
  · exact hc j u hu
  · cases hu
end
section
variable {P : Program} {n : Nat} {W : Wd} {σ τ : Blks} {l : Slots} {X : List Nat} {x y z : Operand} {d : Option Nat} {ty t t' e : TypeId} {pos : String} {aft : Array Edge} {g : Option (Nat × Bool)} {v u : Value} {k k' : IntKind} {a b r : Int} {o : Oper} {A B : Abs} {tab : List (Nat × TI)} {xs ys : List (List Abs)} {s q : Nat} {fn : Func}
theorem eu_ (hT : TabOk P tab) {i : TI} (hu : P.underlying t = some (.slice e)) (hi : ti tab e = some i) (hsz : Nat.beq s i.size = true) (hx : look l x = some (.sl s xs)) (hy : look l y = some (.v (.int k r))) (hr : r = (q : Nat)) (hq : q ≤ xs.length) :
    Val P n W σ l X ⟨d, .slice t x (some y) none none, ty, pos, aft, g⟩ (.sl s (xs.drop q)) := fun a w hs _ => by
  subst hr
  have hsz := Nat.eq_of_beq_eq_true hsz
  subst hsz
  obtain ⟨us, h1, h2⟩ := hs.eval hx
  obtain ⟨A', c, hsh, h3, h4, h5⟩ := h1.shape
  rw [hsh] at h1
  have h6 := IsRow.tailN h1 hq (aE_ h2)
  refine ⟨_, ⟨_, by rw [List.length_drop]; exact h6, (dk_ h2 q hq).1⟩, fun w' _ => ?_⟩
  have h7 := (hT _ _ hi).sizeOf (w := w')
  simp [execOp, Instr.sliceAt, Instr.slice, Instr.sliceBounds, Instr.sliceBound, asIntOf, hsh, hs.plain hy, run_underlying hu, Sem.run_bind, Result.andThen, h7, hq]
theorem cI_ (hT : TabOk P tab) {i : TI} (hu : P.underlying t = some (.slice e)) (hi : ti tab e = some i) (hsz : Nat.beq s i.size = true) (hx : look l x = some (.sl s xs)) (hy : look l y = some (.v (.int k r))) (hr : r = (q : Nat)) (hq : q ≤ xs.length) :
    Val P n W σ l X ⟨d, .slice t x none (some y) none, ty, pos, aft, g⟩ (.sl s (xs.take q)) := fun a w hs _ => by
  subst hr
  have hsz := Nat.eq_of_beq_eq_true hsz
  subst hsz
  obtain ⟨us, h1, h2⟩ := hs.eval hx
  obtain ⟨A', c, hsh, h3, h4, h5⟩ := h1.shape
  rw [hsh] at h1
  have h6 := IsRow.headN (s := i.size) h1 hq c (by omega) (Nat.le_refl _) h5
  refine ⟨.slice A' q c, ⟨_, by rw [List.length_take, Nat.min_eq_left hq]; exact h6, (dk_ h2 q hq).2⟩, fun w' _ => ?_⟩
  have h7 := (hT _ _ hi).sizeOf (w := w')
  have hA : (if (c : Int) = 0 then A' else A'.map (·.add (0 * i.size))) = A' := by
    cases A' <;> simp [Addr.add]
  have hqc : q ≤ c := by omega
  have hA2 : (if c = 0 then A' else A'.map fun x => x.add 0) = A' := by cases A' <;> simp [Addr.add]
  simp [execOp, Instr.sliceAt, Instr.slice, Instr.sliceBounds, Instr.sliceBound, asIntOf, hsh, hs.plain hy, run_underlying hu, Sem.run_bind, Result.andThen, h7, hqc, Addr.add]
  try (cases A' <;> simp)
/-! ### A call's begin and end -/
def args0 : List Abs → Nat → Slots
  | [], _ => []
  | v :: vs, i => (i, v) :: args0 vs (i + 1)
theorem ck_ : ∀ (vs : List Abs) (i t : Nat) (v : Abs), slot (args0 vs i) t = some v → i ≤ t ∧ vs[t - i]? = some v
  | [], i, t, v, h => by simp [args0, slot] at h
  | u :: vs, i, t, v, h => by
    unfold args0 slot at h
    by_cases hit : i = t
    · subst hit
      simp at h
      subst h
      simp
    · rw [b5_ hit] at h
      obtain ⟨h1, h2⟩ := ck_ vs (i + 1) t v h
      refine ⟨by omega, ?_⟩
      rw [show t - i = (t - (i + 1)) + 1 by omega]
      simpa using h2
section
variable {ι : Type} {τ' : ι → Blks} {res : ι → Abs} {args : List Abs}
def Post (G : List Nat) (σ : Blks) (τ' : ι → Blks) (res : ι → Abs) (w : World) (e : Ending) (w' : World) : Prop :=
  ∃ z r, e = .returned r ∧ (∀ x ∈ τ' z, x.rids = []) ∧ Mem w (mids σ) G (τ' z) w' ∧ rep (mids (τ' z) ++ G) w' (res z) r
theorem t_ {f : FuncId} {c : Code} (hf : P.funcs[f]? = some fn) (hb : fn.body = some c) (hn : fn.ntmps = n) (hle : Nat.ble args.length n = true)
    (h : ∀ G w, SC P c (St n ⟨w, mids σ, G⟩ σ (args0 args 0)) (bodyPost P fn (Post G σ τ' res w))) : Spec P f args σ τ' res := fun G w vals hm hv => by
  have hlen := V_ hv
  refine au_ vals hf hb hn (by rw [hlen]; exact hle) (fun w1 => w1 = w) rfl fun a w1 hfr hw => ?_
  subst hw
  refine h G w1 a w1 ⟨hfr.defers, hfr.size, fun t x hx => ?_, hm⟩
  have h1 := (ck_ args 0 t x hx).2
  rw [Nat.sub_zero] at h1
  obtain ⟨u, h2, h3⟩ := a9_ hv h1
  refine ⟨u, hfr.at_ t u ?_, h3⟩
  have h4 := dY_ vals 0 t u h2
  rw [Nat.zero_add] at h4
  exact h4
inductive RV (P : Program) (n : Nat) (W : Wd) (σ : Blks) (l : Slots) : List ResultVar → List Abs → Prop
  | nil : RV P n W σ l [] []
  | tmp {t : Nat} {v : Abs} {rs : List ResultVar} {vs : List Abs} (h : slot l t = some v) (k : RV P n W σ l rs vs) : RV P n W σ l (.tmp t :: rs) (v :: vs)
  | cell {p ty b : Nat} {v : Abs} {rs : List ResultVar} {vs : List Abs} (h : slot l p = some (.v (.pointer (some ⟨b, 0, none⟩)))) (hv : ∀ a w, St n W σ l a w → ∃ u, rep (mids σ ++ W.G) w v u ∧ (loadVar ty ⟨b, 0, none⟩).run P w = .ok u w) (k : RV P n W σ l rs vs) : RV P n W σ l (.cell p ty :: rs) (v :: vs)
theorem RV.run {rs : List ResultVar} {vs : List Abs} (h : RV P n W σ l rs vs) {a : Act} {w : World} (hs : St n W σ l a w) : ∃ us, reps (mids σ ++ W.G) w vs us ∧ (rs.mapM (resV a.tmps)).run P w = .ok us w := by
  induction h with
  | nil => exact ⟨[], rfl, rfl⟩
  | @tmp t v rs vs h _ ih =>
    obtain ⟨us, h3, h4⟩ := ih
    obtain ⟨u, h1, h2⟩ := hs.slots t v h
    have h5 : (resV a.tmps (.tmp t)).run P w = .ok u w := by simp [resV, h1]
    exact ⟨u :: us, ⟨u, us, rfl, h2, h3⟩, by simp only [List.mapM_cons, Sem.run_bind, h5, Result.andThen_ok, h4, Sem.run_pure]⟩
  | @cell q ty b v rs vs h hv _ ih =>
    obtain ⟨us, h3, h4⟩ := ih
    obtain ⟨u, h1, h2⟩ := hv a w hs
    obtain ⟨p, h6, h7⟩ := hs.slots q _ h
    have h8 : p = .pointer (some ⟨b, 0, none⟩) := h7
    subst h8
    have h5 : (resV a.tmps (.cell q ty)).run P w = .ok u w := by simp [resV, h6, asAddr]; exact h2
    exact ⟨u :: us, ⟨u, us, rfl, h1, h3⟩, by simp only [List.mapM_cons, Sem.run_bind, h5, Result.andThen_ok, h4, Sem.run_pure]⟩
theorem RV.cell1 (hT : TabOk P tab) {sz b : Nat} {zs : List Value} {cs : List Abs} (ht : ti tab t = some ⟨sz, .one, zs⟩) (hb : isBlk σ b t' cs) (hv : cs[0]? = some A) : ∀ a w, St n W σ l a w → ∃ u, rep (mids σ ++ W.G) w A u ∧ (loadVar t ⟨b, 0, none⟩).run P w = .ok u w := fun a w hs => by
  obtain ⟨us, h1, h2⟩ := hs.mem.blk hb
  obtain ⟨u, h3, h4⟩ := a9_ h2 hv
  have h5 := (hT t _ ht).isAgg (w := w)
  exact ⟨u, h4, by simp [loadVar, Sem.run_bind, h5, Result.andThen, load, Sem.run, a2_ h1 0, h3]⟩
theorem RV.cellA (hT : TabOk P tab) {i : TI} {b : Nat} {cs : List Abs} (ht : ti tab t = some i) (hk : (match i.k with | .one => false | _ => true) = true) (hb : isBlk σ b t' cs) (hl : cs.length = i.size) : ∀ a w, St n W σ l a w → ∃ u, rep (mids σ ++ W.G) w (.agg cs) u ∧ (loadVar t ⟨b, 0, none⟩).run P w = .ok u w := fun a w hs => by
  obtain ⟨us, h1, h2⟩ := hs.mem.blk hb
  exact ⟨_, ⟨us, rfl, h2⟩, cA_ hT ht hk (by rw [V_ h2]; exact hl) fun j u hu => by rw [Nat.zero_add, a2_ h1]; exact hu⟩
def retA : List Abs → Abs
  | [v] => v
  | vs => .tup vs
theorem iV_ {K : List Nat} {w : World} : ∀ {vs : List Abs} {us : List Value}, reps K w vs us → rep K w (retA vs) (retOf us)
  | [], us, h => by have : us = [] := h; subst this; exact ⟨[], rfl, rfl⟩
  | [v], us, ⟨u, us', h1, h2, h3⟩ => by have : us' = [] := h3; subst this h1; exact h2
  | v :: v2 :: vs, us, h => by
    obtain ⟨u, us', h1, h2, u2, us2, h3, h4, h5⟩ := id h
    subst h1 h3
    exact ⟨_, rfl, h⟩
theorem RV.results {rs : List ResultVar} {vs : List Abs} (hr : fn.results = rs.toArray) (h : RV P n W σ l rs vs) {a : Act} {w : World} (hs : St n W σ l a w) : ∃ us, reps (mids σ ++ W.G) w vs us ∧ (results fn a.tmps).run P w = .ok (retOf us) w := by
  obtain ⟨us, h1, h2⟩ := h.run hs
  refine ⟨us, h1, ?_⟩
  rw [eL_, hr, Array.mapM_eq_mapM_toList, Sem.run_bind, Sem.run_map]
  dsimp only
  rw [h2]
  match us with
  | [] => rfl
  | [v] => rfl
  | v :: u :: vs => simp [retOf, Result.andThen]
theorem j1_ {R : Ending → World → Prop} {rs : List ResultVar} {vs : List Abs} (hr : fn.results = rs.toArray) (h : RV P n W σ l rs vs) (k : ∀ a w us, St n W σ l a w → reps (mids σ ++ W.G) w vs us → R (.returned (retOf us)) w) : SE .ret (St n W σ l) (bodyPost P fn R) := fun a w hs => by
  obtain ⟨us, h1, h2⟩ := h.results hr hs
  exact ⟨hs.defers, _, h2, k a w us hs h1⟩
theorem SE.doneG {R : Ending → World → Prop} {rs : List ResultVar} {vs : List Abs} (hr : fn.results = rs.toArray) (h : RV P n W σ l rs vs) (k : ∀ a w us, St n W σ l a w → reps (mids σ ++ W.G) w vs us → R (.returned (retOf us)) w) : SE .normal (St n W σ l) (bodyPost P fn R) := fun a w hs => by
  obtain ⟨us, h1, h2⟩ := h.results hr hs
  exact ⟨hs.defers, _, h2, k a w us hs h1⟩
theorem gA_ {G : List Nat} {w0 : World} {σ0 : Blks} {vs : List Abs} (z : ι) (hsub : (τ' z).Sublist σ) (hro : ∀ x ∈ τ' z, x.rids = []) (hres : retA vs = res z) {a : Act} {w : World} {us : List Value} (hs : St n ⟨w0, mids σ0, G⟩ σ l a w) (hv : reps (mids σ ++ G) w vs us) : Post G σ0 τ' res w0 (.returned (retOf us)) w := by
  obtain ⟨h1, h2⟩ := hs.mem.sub hsub
  exact ⟨z, _, rfl, hro, h1, hres ▸ iV_ (ae_ h2 _ _ hv)⟩
theorem eZ_ {G : List Nat} {w0 : World} {σ0 : Blks} {rs : List ResultVar} {vs : List Abs} (hr : fn.results = rs.toArray) (h : RV P n ⟨w0, mids σ0, G⟩ σ l rs vs) (z : ι) (hsub : (τ' z).Sublist σ) (hro : ∀ x ∈ τ' z, x.rids = []) (hres : retA vs = res z) : SE .ret (St n ⟨w0, mids σ0, G⟩ σ l) (bodyPost P fn (Post G σ0 τ' res w0)) :=
  j1_ hr h fun _ _ _ hs hv => gA_ z hsub hro hres hs hv
theorem ci_ {G : List Nat} {w0 : World} {σ0 : Blks} {rs : List ResultVar} {vs vs2 : List Abs} (hr : fn.results = rs.toArray) (h : RV P n ⟨w0, mids σ0, G⟩ σ l rs vs) (hca : Casts vs vs2) (z : ι) (hsub : (τ' z).Sublist σ) (hro : ∀ x ∈ τ' z, x.rids = []) (hres : retA vs2 = res z) : SE .ret (St n ⟨w0, mids σ0, G⟩ σ l) (bodyPost P fn (Post G σ0 τ' res w0)) :=
  j1_ hr h fun _ _ _ hs hv => gA_ z hsub hro hres hs (hca _ _ _ hv)
theorem hB_ {cs ds : List Abs} (h : Casts cs ds) : ∀ K w u, rep K w (.agg cs) u → rep K w (.agg ds) u := fun K w _ ⟨us, h1, h2⟩ => ⟨us, h1, h K w us h2⟩
theorem Casts.nils {s : Nat} {xs ys : List Abs} (k : Casts xs ys) : Casts (.v (.slice none 0 0) :: xs) (.sl s [] :: ys) := k.cons fun _ _ _ h => cD_ h
theorem bK_ {G : List Nat} {w0 : World} {σ0 : Blks} {rs : List ResultVar} {vs : List Abs} (hr : fn.results = rs.toArray) (h : RV P n ⟨w0, mids σ0, G⟩ σ l rs vs) (z : ι) (hsub : (τ' z).Sublist σ) (hro : ∀ x ∈ τ' z, x.rids = []) (hres : retA vs = res z) : SE .normal (St n ⟨w0, mids σ0, G⟩ σ l) (bodyPost P fn (Post G σ0 τ' res w0)) :=
  SE.doneG hr h fun _ _ _ hs hv => gA_ z hsub hro hres hs hv
end
/-! ### Contracts of the first engine -/
def old2 (w : World) (K : List Nat) : Proofs.YtjclgkddfjbdiaaGreatDoor.It := .pc
  { ids := (List.range w.heap.size).filter fun k => decide (k ∈ K)
    p := fun w' => w.heap.size ≤ w'.heap.size ∧ ∀ k, k < w.heap.size → k ∈ K → w'.heap[k]? = w.heap[k]?
    st := fun F w1 w2 hx hF h => ⟨Nat.le_trans h.1 hx.size, fun k hk hm => (hx.block k (Nat.lt_of_lt_of_le hk h.1) (hF k (by simp [hk, hm]))).trans (h.2 k hk hm)⟩
    lt := fun w' h k hk => by
      have : k < w.heap.size := by have := (List.mem_filter.1 hk).1; simpa using this
      exact Nat.lt_of_lt_of_le this h.1 }
theorem ba_ {w : World} {K : List Nat} {k : Nat} : k ∈ (old2 w K).ids ↔ k < w.heap.size ∧ k ∈ K := by simp [old2, Proofs.YtjclgkddfjbdiaaGreatDoor.It.ids]
theorem enter2 (w : World) (K : List Nat) : Proofs.YtjclgkddfjbdiaaGreatDoor.Mem [(w, K)] [old2 w K] [] w := by
  refine ⟨fun s hs => ?_, fun x hx k hk s hs => ?_, ?_, fun x hx => ?_, by simp⟩
  · rw [List.mem_singleton] at hs; subst hs; exact Ext.refl w
  · rw [List.mem_singleton] at hs hx; subst hs hx; exact .inl (ba_.1 hk).2
  · simp only [List.flatMap_cons, List.flatMap_nil, List.append_nil]
    exact List.Nodup.sublist List.filter_sublist List.nodup_range
  · rw [List.mem_singleton] at hx; subst hx; exact ⟨Nat.le_refl _, fun _ _ _ => rfl⟩
theorem leave2 {w w' : World} {K : List Nat} {ρ : List Dt} {σ2 : Proofs.YtjclgkddfjbdiaaGreatDoor.Blks} (h : Proofs.YtjclgkddfjbdiaaGreatDoor.Mem [(w, K)] σ2 ρ w') (hm : old2 w K ∈ σ2) : Ext [] w w' := by
  have h1 := h.ext (w, K) (by simp)
  have h2 : _ ∧ _ := h.hold _ hm
  exact ⟨h1.os, h1.tape, h1.output, h1.size, fun k hk _ => by
    by_cases hK : k ∈ K
    · exact h2.2 k hk hK
    · exact h1.block k hk hK⟩
theorem row2 {w : World} {K : List Nat} {v : Value} {n : Nat} {cs : List Value} (h : IsRow K w v n cs) : IsRow ([old2 w K].flatMap Proofs.YtjclgkddfjbdiaaGreatDoor.It.ids) w v n cs :=
  h.grow fun k hk => .inl (by
    simp only [List.flatMap_cons, List.flatMap_nil, List.append_nil] at hk
    exact (ba_.1 hk).2)
theorem row3 {w w' : World} {K L : List Nat} {v : Value} {n : Nat} {cs : List Value} (hK : ∀ k ∈ K, k < w.heap.size) (hL : ∀ k, k < w.heap.size → k ∈ K → k ∈ L) (h : IsRow L w' v n cs) : IsRow K w' v n cs :=
  h.grow fun k hk => .inl (hL k (hK k hk) hk)
theorem Pure.of2 {f : FuncId} {args : List Abs} {res : Abs} (h : ∀ (K : List Nat) (w : World) (vals : List Value), (∀ k ∈ K, k < w.heap.size) → reps K w args vals → Calls P f vals.toArray w fun e w' => ∃ r, e = .returned r ∧ Ext [] w w' ∧ rep K w' res r) : Pure P f args res := fun G w vals hm hv =>
  (h G w vals hm.old hv).mono fun e w' ⟨r, he, hx, hr⟩ => ⟨(), r, he, by simp, ⟨hx, by simp [mids], by simp [mids], fun k hk => Nat.lt_of_lt_of_le (hm.old k hk) hx.size, by simp, by simp [mids], by simp⟩, hr⟩
end
section
variable {P : Program} {n : Nat} {W : Wd} {σ τ : Blks} {l l' : Slots} {X : List Nat} {o : Oper} {y : Abs} {tab : List (Nat × TI)} {ops : Array Oper} {rest rest' : List Oper} {Q : Exit → Act → World → Prop}
def cmpQ (f : Int → Int → Bool) (l : Slots) (x y : Operand) : Option Abs := match look l x, look l y with
  | some (.v (.int k a)), some (.v (.int k' b)) => if k = k' then some (.v (.bool (f a b))) else none
  | _, _ => none
def stepQ (tab : List (Nat × TI)) (l : Slots) : Oper → Option Abs
  | ⟨_, .move x, _, _, _, _⟩ => look l x
  | ⟨_, .assign x, _, _, _, _⟩ => look l x
  | ⟨_, .extract x i, _, _, _, _⟩ => match look l x with
    | some (.tup vs) => vs[i]?
    | _ => none
  | ⟨_, .nilCheck x, _, _, _, _⟩ => match look l x with
    | some (.v (.pointer (some p))) => some (.v (.pointer (some p)))
    | _ => none
  | ⟨_, .pick x y z, _, _, _, _⟩ => match look l x with
    | some (.v (.bool true)) => look l y
    | some (.v (.bool false)) => look l z
    | _ => none
  | ⟨_, .fieldAddr t x f, _, _, _, _⟩ => match ti tab t with
    | some ⟨_, .struct gs, _⟩ => match look l x with
      | some (.v (.pointer (some ⟨b, off, none⟩))) => match gs[f]? with
        | some (fo, ft) => match ti tab ft with
          | some j => bif Nat.beq j.size 0 then none else some (.v (.pointer (some ⟨b, off + fo, none⟩)))
          | none => none
        | none => none
      | _ => none
    | _ => none
  | ⟨_, .binOp .eql _ x y _, _, _, _, _⟩ => cmpQ (fun a b => decide (a = b)) l x y
  | ⟨_, .binOp .neq _ x y _, _, _, _, _⟩ => cmpQ (fun a b => decide (a ≠ b)) l x y
  | ⟨_, .binOp .lss _ x y _, _, _, _, _⟩ => cmpQ (fun a b => decide (a < b)) l x y
  | ⟨_, .binOp .leq _ x y _, _, _, _, _⟩ => cmpQ (fun a b => decide (a ≤ b)) l x y
  | ⟨_, .binOp .gtr _ x y _, _, _, _, _⟩ => cmpQ (fun a b => decide (b < a)) l x y
  | ⟨_, .binOp .geq _ x y _, _, _, _, _⟩ => cmpQ (fun a b => decide (b ≤ a)) l x y
  | _ => none
theorem co_ {f : Int → Int → Bool} {x z : Operand} (h : cmpQ f l x z = some y) : ∃ k a b, look l x = some (.v (.int k a)) ∧ look l z = some (.v (.int k b)) ∧ y = .v (.bool (f a b)) := by
  unfold cmpQ at h
  split at h
  · next k a k' b h1 h2 =>
    split at h
    · next hk => subst hk; cases h; exact ⟨k, a, b, h1, h2, rfl⟩
    · cases h
  · cases h
theorem fw_ (hT : TabOk P tab) (h : stepQ tab l o = some y) : Val P n W σ l X o y := by
  unfold stepQ at h
  split at h
  · exact r_ h
  · exact l_ h
  · split at h
    · exact bm_ (by assumption) h
    · cases h
  · split at h
    · cases h; exact an_ (by assumption)
    · cases h
  · split at h
    · exact U_ (by assumption) h
    · exact aj_ (by assumption) h
    · cases h
  · split at h
    · split at h
      · split at h
        · split at h
          · next j hj =>
            cases hb : Nat.beq j.size 0 with
            | true => rw [hb] at h; cases h
            | false => rw [hb] at h; cases h; exact G_ hT (by assumption) (by assumption) (by assumption) hj hb
          · cases h
        · cases h
      · cases h
    · cases h
  · obtain ⟨k, a, b, h1, h2, rfl⟩ := co_ h; exact dv_ h1 h2
  · obtain ⟨k, a, b, h1, h2, rfl⟩ := co_ h; exact dt_ h1 h2
  · obtain ⟨k, a, b, h1, h2, rfl⟩ := co_ h; exact bi_ h1 h2
  · obtain ⟨k, a, b, h1, h2, rfl⟩ := co_ h; exact gR_ h1 h2
  · obtain ⟨k, a, b, h1, h2, rfl⟩ := co_ h; exact a1_ h1 h2
  · obtain ⟨k, a, b, h1, h2, rfl⟩ := co_ h; exact du_ h1 h2
  · cases h
def autoQ (tab : List (Nat × TI)) (n : Nat) (ops : Array Oper) : Nat → List Oper → Slots → Option (List Oper × Slots)
  | 0, rest, l => some (rest, l)
  | _ + 1, [], _ => none
  | k + 1, o :: rest, l => match lt? o.dst n with
    | false => none
    | true => match gd ops l o with
      | some true => match stepQ tab l o with
        | some y => autoQ tab n ops k rest (put? l o.dst y)
        | none => none
      | some false => autoQ tab n ops k rest (put? l o.dst (.v undef))
      | none => none
theorem gU_ (hT : TabOk P tab) : ∀ (k : Nat) {rest : List Oper} {l : Slots}, autoQ tab n ops k rest l = some (rest', l') → SL P ops rest' (St n W σ l') Q → SL P ops rest (St n W σ l) Q
  | 0, _, _, h, K => by unfold autoQ at h; cases h; exact K
  | _ + 1, [], _, h, _ => by unfold autoQ at h; cases h
  | k + 1, o :: rest, l, h, K => by
    unfold autoQ at h
    cases hd : lt? o.dst n with
    | false => rw [hd] at h; cases h
    | true =>
      rw [hd] at h
      dsimp only at h
      split at h
      · next hg =>
        split at h
        · next y hy => exact d_ (fw_ hT hy) hg hd (gU_ hT k h K)
        · cases h
      · next hg => exact aD_ hg hd (gU_ hT k h K)
      · cases h
end
section
variable {n : Nat} {W : Wd} {σ : Blks} {l l' : Slots} {ops : Array Oper} {rest rest' : List Oper} {Q : Exit → Act → World → Prop}
theorem q_ (k : Nat) (h : autoQ tab n ops k rest l = some (rest', l')) (K : SL Tryz.prog ops rest' (St n W σ l') Q) : SL Tryz.prog ops rest (St n W σ l) Q := gU_ tabOk k h K
end
section
variable {x y a b c d e f g h : It} {σ τ : Blks}
theorem u0_ : Upd x y (x :: σ) (y :: σ) := Upd.here
theorem u1_ : Upd x y (a :: x :: σ) (a :: y :: σ) := Upd.there u0_
theorem u2_ : Upd x y (a :: b :: x :: σ) (a :: b :: y :: σ) := Upd.there u1_
theorem u3_ : Upd x y (a :: b :: c :: x :: σ) (a :: b :: c :: y :: σ) := Upd.there u2_
theorem u4_ : Upd x y (a :: b :: c :: d :: x :: σ) (a :: b :: c :: d :: y :: σ) := Upd.there u3_
theorem u5_ : Upd x y (a :: b :: c :: d :: e :: x :: σ) (a :: b :: c :: d :: e :: y :: σ) := Upd.there u4_
theorem u6_ : Upd x y (a :: b :: c :: d :: e :: f :: x :: σ) (a :: b :: c :: d :: e :: f :: y :: σ) := Upd.there u5_
end
section
variable {P : Program} {n : Nat} {W : Wd} {ops : Array Oper} {l : Slots} {σ σ1 τ : Blks} {X : List Nat} {Q : Exit → Act → World → Prop} {ix : Plan} {ι : Type} {τ' : ι → Blks} {K : Blks → ι → Prop} {res : ι → Abs} {fn : Func} {G : List Nat} {w0 : World} {σ0 : Blks} {rs : List ResultVar} {vs vs2 : List Abs}
theorem ap_ (k : ∀ z, K σ z) (h : Reads σ σ1 := by repeat (first | exact Reads.nil | (refine Reads.blk ?_ ?_; focus ((repeat first|assumption|exact List.mem_cons_self|apply List.mem_cons_of_mem); done)) | (refine Reads.rd ?_ ?_; focus ((repeat first|assumption|exact List.mem_cons_self|apply List.mem_cons_of_mem); done)) | (refine Reads.pc ?_ ?_; focus ((repeat first|assumption|exact List.mem_cons_self|apply List.mem_cons_of_mem); done)) | (refine Reads.rdpc ?_ ?_; focus ((repeat first|assumption|exact List.mem_cons_self|apply List.mem_cons_of_mem); done)))) (hτ : ∀ z, τ' z = [] := by exact fun _ => rfl) : After σ σ1 τ' K := dy_ h hτ k
theorem hx_ (k : (∀ k ∈ X, k ∈ mids σ) → SX P ops ix X (St n W σ l) Q) (h : ∀ k ∈ X, k ∈ mids σ := by first | (simp [mids, It.mids, ownPc]; done) | (intro k hk; simp [mids, It.mids, ownPc] at hk ⊢; grind)) : SX P ops ix X (St n W σ l) Q := k h
theorem f_ (hr : fn.results = rs.toArray) (h : RV P n ⟨w0, mids σ0, G⟩ σ l rs vs) (z : ι) (hsub : (τ' z).Sublist σ) (hres : retA vs = res z) (hro : ∀ x ∈ τ' z, x.rids = [] := by simp [It.rids]) : SE .ret (St n ⟨w0, mids σ0, G⟩ σ l) (bodyPost P fn (Post G σ0 τ' res w0)) := eZ_ hr h z hsub hro hres
theorem fC_ (hr : fn.results = rs.toArray) (h : RV P n ⟨w0, mids σ0, G⟩ σ l rs vs) (hca : Casts vs vs2) (z : ι) (hsub : (τ' z).Sublist σ) (hres : retA vs2 = res z) (hro : ∀ x ∈ τ' z, x.rids = [] := by simp [It.rids]) : SE .ret (St n ⟨w0, mids σ0, G⟩ σ l) (bodyPost P fn (Post G σ0 τ' res w0)) := ci_ hr h hca z hsub hro hres
end
section
variable {P : Program} {n : Nat} {W : Wd} {σ : Blks} {l l' : Slots} {X : List Nat} {o : Oper} {tab : List (Nat × TI)} {ops : Array Oper} {ix ix' : Plan} {rest : List Oper} {Q : Exit → Act → World → Prop} {Y : List Nat}
def autoX (tab : List (Nat × TI)) (n : Nat) (ops : Array Oper) : Nat → Plan → Slots → Option (Plan × Slots)
  | 0, ix, l => some (ix, l)
  | k + 1, .q i ix, l => match ops[i]? with
    | none => none
    | some o => match lt? o.dst n with
      | false => none
      | true => match gd ops l o with
        | some true => match stepQ tab l o with
          | some y => autoX tab n ops k ix (put? l o.dst y)
          | none => none
        | some false => autoX tab n ops k ix (put? l o.dst (.v undef))
        | none => none
  | _ + 1, _, _ => none
theorem fp_ (hT : TabOk P tab) (hX : ∀ k ∈ X, k ∈ mids σ) : ∀ (k : Nat) {ix : Plan} {l : Slots}, autoX tab n ops k ix l = some (ix', l') → SX P ops ix' X (St n W σ l') Q → SX P ops ix X (St n W σ l) Q
  | 0, _, _, h, K => by unfold autoX at h; cases h; exact K
  | k + 1, ix, l, h, K => by
    unfold autoX at h
    split at h
    · cases h; next h0 => cases h0
    · next h0 =>
      cases h0
      split at h
      · cases h
      · next o ho =>
        split at h
        · cases h
        · next hd =>
          split at h
          · next hg =>
            split at h
            · next y hy => exact j_ ho (fw_ hT hy) hX hg hd (fp_ hT hX _ h K)
            · cases h
          · next hg => exact dw_ ho hg hd (fp_ hT hX _ h K)
          · cases h
    · cases h
theorem e_ {y0 : Abs} {τ0 : Blks} (hv : Eff P n W σ l Y o fun y τ => y = y0 ∧ τ = τ0) (hg : gd ops l o = some true) (hd : lt? o.dst n = true) (k : SL P ops rest (St n W τ0 (put? l o.dst y0)) Q) : SL P ops (o :: rest) (St n W σ l) Q := aT_ hv hg hd (by rintro _ _ ⟨rfl, rfl⟩; exact k)
theorem eb_ {ι : Type} {y0 : ι → Abs} {τ0 : ι → Blks} (hv : Eff P n W σ l Y o fun y τ => ∃ b, y = y0 b ∧ τ = τ0 b) (hg : gd ops l o = some true) (hd : lt? o.dst n = true) (k : ∀ b, SL P ops rest (St n W (τ0 b) (put? l o.dst (y0 b))) Q) : SL P ops (o :: rest) (St n W σ l) Q := aT_ hv hg hd (by rintro _ _ ⟨b, rfl, rfl⟩; exact k b)
theorem ex_ {i : Nat} {y0 : Abs} {τ0 : Blks} (hi : ops[i]? = some o) (hv : Eff P n W σ l Y o fun y τ => y = y0 ∧ τ = τ0) (hY : ∀ k ∈ Y, k ∈ X) (hg : gd ops l o = some true) (hd : lt? o.dst n = true) (k : SX P ops ix X (St n W τ0 (put? l o.dst y0)) Q) : SX P ops (.e i ix) X (St n W σ l) Q := gd_ hi hv hY hg hd (by rintro _ _ ⟨rfl, rfl⟩; exact k)
theorem exb_ {i : Nat} {ι : Type} {y0 : ι → Abs} {τ0 : ι → Blks} (hi : ops[i]? = some o) (hv : Eff P n W σ l Y o fun y τ => ∃ b, y = y0 b ∧ τ = τ0 b) (hY : ∀ k ∈ Y, k ∈ X) (hg : gd ops l o = some true) (hd : lt? o.dst n = true) (k : ∀ b, SX P ops ix X (St n W (τ0 b) (put? l o.dst (y0 b))) Q) : SX P ops (.e i ix) X (St n W σ l) Q := gd_ hi hv hY hg hd (by rintro _ _ ⟨b, rfl, rfl⟩; exact k b)
end
section
variable {n : Nat} {W : Wd} {σ : Blks} {l l' : Slots} {ops : Array Oper} {X : List Nat} {ix ix' : Plan} {Q : Exit → Act → World → Prop}
theorem qx_ (k : Nat) (hX : ∀ k ∈ X, k ∈ mids σ) (h : autoX tab n ops k ix l = some (ix', l')) (K : SX Tryz.prog ops ix' X (St n W σ l') Q) : SX Tryz.prog ops ix X (St n W σ l) Q := fp_ tabOk hX k h K
theorem qs_ (k : Nat) (h : autoX tab n ops k ix l = some (ix', l')) (K : SX Tryz.prog ops ix' X (St n W σ l') Q) (hX : ∀ k ∈ X, k ∈ mids σ := by simp) : SX Tryz.prog ops ix X (St n W σ l) Q := fp_ tabOk hX k h K
end
end Go.Proofs.YtjclgkddfjbdiaaGreatDoor.A
namespace Go.Proofs.YtjclgkddfjbdiaaGreatDoor
open Go.ChangeShapes Go.WideShapes Go.ChangeAt Go.RowKit
theorem law_own : ownKnob Tryz.prog.godebug = none := by kernel_rfl
theorem gD_ : laidOutB Tryz.prog = true := by kernel_rfl
theorem cN_ {H : Type} {enc : TypeId × Value → H} {W W' : World} (hb : Below W.heap.size W W') :
    ∀ (ts : List TypeId) (vs : List Value) (ds : List (DataW H)) (p : List MemPlace), (∀ t ∈ ts, Tryz.prog.readableRec t = true ∧ t < Tryz.prog.types.size) →
      DataW.TrodAll enc Tryz.prog W 0 (fun _ => true) true ts vs ds p → ∃ q, DataW.TrodAll enc Tryz.prog W' 0 (fun b => decide (b < W.heap.size)) true ts vs ds q
  | [], [], [], p, _, h => ⟨p, h⟩
  | t :: ts, v :: vs, d :: ds, p, hr, h => by
    obtain ⟨p0, q0, h0, h1, rfl⟩ := h
    obtain ⟨q, hq⟩ := cN_ hb ts vs ds q0 (fun t ht => hr t (List.mem_cons_of_mem _ ht)) h1
    have lt0 : ∀ x ∈ p0, x.block < W.heap.size := by obtain ⟨m, hm⟩ := h0; exact DataW.trod_lt m _ _ _ hm
    exact ⟨p0 ++ q, p0, q, Below.trod gD_ (hr t List.mem_cons_self).1 (hr t List.mem_cons_self).2 h0 hb lt0, hq, rfl⟩
  | [], _ :: _, _, _, _, h => h.elim
  | [], [], _ :: _, _, _, h => h.elim
  | _ :: _, [], _, _, _, h => h.elim
  | _ :: _, _ :: _, [], _, _, h => h.elim
def Rd.as (s t : Rd) : Prop := s.l = t.l ∧ s.e = t.e
section
variable {s t : Rd}
theorem Rd.as.bad (h : s.as t) (n : Int) : s.bad n ↔ t.bad n := by unfold Rd.bad; rw [h.1]
theorem Rd.as.fixed (h : s.as t) (n : Int) : (s.fixed n).as (t.fixed n) := by
  unfold Rd.fixed Rd.as
  by_cases he : t.e = 0
  · have he' : s.e = 0 := by rw [h.2, he]
    by_cases hb : t.bad n
    · simp [he, he', hb, (h.bad n).2 hb, h.1]
    · have hb' : ¬ s.bad n := fun x => hb ((h.bad n).1 x)
      simp [he, he', hb, hb', h.1]
  · have he' : s.e ≠ 0 := by rw [h.2]; exact he
    simp [he, h.1, h.2]
theorem Rd.as.out (h : s.as t) (n : Int) : s.out n = t.out n := by
  unfold Rd.out
  rw [h.1, h.2]
  by_cases hb : t.bad n
  · simp [hb, (h.bad n).2 hb]
  · have hb' : ¬ s.bad n := fun x => hb ((h.bad n).1 x)
    simp [hb, hb']
theorem Rd.as.num (h : s.as t) (n : Int) : s.num n = t.num n := by unfold Rd.num; rw [h.out]
theorem Rd.as.row (h : s.as t) (most : Int) : (s.row most).as (t.row most) := by
  have h1 := h.fixed 4
  unfold Rd.row
  rw [h1.2, h.num 4]
  split
  · exact h1
  · split
    · exact ⟨h1.1, rfl⟩
    · exact h1.fixed _
theorem Rd.as.rowOut (h : s.as t) (most : Int) : s.rowOut most = t.rowOut most := by
  have h1 := h.fixed 4
  unfold Rd.rowOut
  rw [h1.2, h.num 4, h1.out]
theorem Rd.as.end_ (h : s.as t) : s.end_ = t.end_ := by unfold Rd.end_; rw [h.1, h.2]
end
def Rd.of (l : List UInt8) : Rd := ⟨.slice none 0 0, l, 0⟩
theorem Rd.rowOut_length (s : Rd) (most : Int) : (s.rowOut most).length ≤ s.l.length := by
  have h1 := s.fixed_length 4
  unfold Rd.rowOut
  split
  · simp
  · split
    · simp
    · unfold Rd.out
      split
      · simp
      · split
        · simp
        · simp; omega
end Go.Proofs.YtjclgkddfjbdiaaGreatDoor
namespace Go.Proofs.YtjclgkddfjbdiaaGreatDoor.A
open Go.RowKit
abbrev int (x : Int) : Abs := .v (.int .i64 x)
abbrev wrd (x : Nat) : Abs := .v (.int .u64 (x : Nat))
abbrev boo (b : Bool) : Abs := .v (.bool b)
abbrev ptr (b : Nat) : Abs := .v (.pointer (some ⟨b, 0, none⟩))
abbrev rdA (T : TypeId) (p : Nat) (s : Rd) : It := .blk p T [byt s.l, int s.e]
section
variable {P : Program} {f : FuncId}
theorem ak_ {K : List Nat} {w : World} : ∀ {us vs : List Value}, reps K w (us.map .v) vs ↔ vs = us
  | [], vs => Iff.rfl
  | u :: us, vs => by
    constructor
    · rintro ⟨u', us', h1, h2, h3⟩
      have h2 : u' = u := h2
      rw [h1, h2, ak_.1 h3]
    · rintro rfl; exact ⟨u, us, rfl, rfl, ak_.2 rfl⟩
theorem Spec.ofRdG {T p : Nat} {s t : Rd} {vals : List Value} {res : Abs} (h : ∀ (S : List (World × List Nat)) (σ2 : Proofs.YtjclgkddfjbdiaaGreatDoor.Blks) (ρ : List Dt) (w : World) (v : Value), Proofs.YtjclgkddfjbdiaaGreatDoor.Mem S (rdI T p ⟨v, s.l, s.e⟩ :: σ2) ρ w → bytesD v s.l ∈ ρ →
    Calls P f vals.toArray w fun e w' => ∃ r v' ρ', e = .returned r ∧ Proofs.YtjclgkddfjbdiaaGreatDoor.Mem S (rdI T p ⟨v', t.l, t.e⟩ :: σ2) ρ' w' ∧ bytesD v' t.l ∈ ρ' ∧ ∀ K', (∀ x n cs, rowD x n cs ∈ ρ' → IsRow K' w' x n cs) → rep K' w' res r) : Spec P f (vals.map .v) [rdA T p s] (fun _ : Unit => [rdA T p t]) (fun _ => res) := fun G w vs hm hv => by
  have := ak_.1 hv
  subst this
  obtain ⟨us, hb, v, us', h1, h2, e, us2, h3, h4, h5⟩ := hm.hold (rdA T p s) (by simp)
  have h4 : e = .int .i64 s.e := h4
  have h5 : us2 = [] := h5
  subst h5 h4 h3 h1
  have h2 := a4_.1 h2
  have hpG : p ∉ G := hm.sep p (by simp [mids, It.mids])
  have hw2 : Proofs.YtjclgkddfjbdiaaGreatDoor.Mem [(w, p :: G)] (rdI T p ⟨v, s.l, s.e⟩ :: [old2 w G]) [bytesD v s.l] w := by
    refine ⟨fun s hs => ?_, fun x hx k hk s hs => ?_, ?_, fun x hx => ?_, fun z hz => ?_⟩
    · rw [List.mem_singleton] at hs; subst hs; exact Ext.refl w
    · rw [List.mem_singleton] at hs
      subst hs
      rcases List.mem_cons.1 hx with rfl | hx
      · simp only [Proofs.YtjclgkddfjbdiaaGreatDoor.It.ids, List.mem_singleton] at hk; exact .inl (by simp [hk])
      · rw [List.mem_singleton] at hx; subst hx
        exact .inl (List.mem_cons_of_mem _ (ba_.1 hk).2)
    · simp only [List.flatMap_cons, List.flatMap_nil, List.append_nil, List.nodup_append]
      refine ⟨by simp [Proofs.YtjclgkddfjbdiaaGreatDoor.It.ids], List.Nodup.sublist List.filter_sublist List.nodup_range, fun a ha b hb he => ?_⟩
      simp only [Proofs.YtjclgkddfjbdiaaGreatDoor.It.ids, List.mem_singleton] at ha
      subst ha he
      exact hpG (ba_.1 hb).2
    · rcases List.mem_cons.1 hx with rfl | hx
      · exact hb
      · rw [List.mem_singleton] at hx; subst hx; exact ⟨Nat.le_refl _, fun _ _ _ => rfl⟩
    · rw [List.mem_singleton] at hz; subst hz
      refine h2.grow fun k hk => .inl ?_
      simp only [List.flatMap_cons, List.flatMap_nil, List.append_nil, List.mem_append] at hk
      rcases hk with hk | hk
      · simp only [Proofs.YtjclgkddfjbdiaaGreatDoor.It.ids, List.mem_singleton] at hk
        simp [mids, It.mids, hk]
      · simp [(ba_.1 hk).2]
  refine (h _ _ _ _ v hw2 (by simp)).mono fun e w' ⟨r, v', ρ', he, hm', hd, hd2⟩ => ?_
  have hx := hm'.ext (w, p :: G) (by simp)
  have ho : _ ∧ _ := hm'.hold (old2 w G) (by simp)
  have hx2 : Ext (mids [rdA T p s]) w w' := ⟨hx.os, hx.tape, hx.output, hx.size, fun k hk hn => by
    by_cases hK : k ∈ G
    · exact ho.2 k hk hK
    · exact hx.block k hk (by simp only [List.mem_cons, not_or]; exact ⟨by simpa [mids, It.mids] using hn, hK⟩)⟩
  have hb' : w'.heap[p]? = some (row T [v', .int .i64 t.e]) := hm'.holds (by simp)
  have hgrow : ∀ (x : Value) (m : Nat) (cs : List Value), rowD x m cs ∈ ρ' → IsRow (mids [rdA T p t] ++ G) w' x m cs := fun _ _ _ hd => (hm'.data hd).grow fun k hk => by
    simp only [List.mem_append] at hk
    refine .inl ?_
    simp only [List.flatMap_cons, List.flatMap_nil, List.append_nil, List.mem_append]
    rcases hk with hk | hk
    · exact .inl (by simpa [mids, It.mids, Proofs.YtjclgkddfjbdiaaGreatDoor.It.ids] using hk)
    · exact .inr (ba_.2 ⟨hm.old k hk, hk⟩)
  refine ⟨(), r, he, by simp [It.rids], ⟨hx2, fun k hk => .inl hk, fun k hk hg => hpG (by simp [mids, It.mids] at hk; subst hk; exact hg), fun k hk => Nat.lt_of_lt_of_le (hm.old k hk) hx.size, by simp [It.rids], by simp [mids, It.mids], fun x hx => ?_⟩, hd2 _ hgrow⟩
  rw [List.mem_singleton] at hx; subst hx
  exact ⟨_, hb', _, _, rfl, a4_.2 (hgrow _ _ _ hd), _, _, rfl, rfl, rfl⟩
theorem Spec.ofRd {T p : Nat} {s t : Rd} {vals : List Value} {u : Value} (h : ∀ (S : List (World × List Nat)) (σ2 : Proofs.YtjclgkddfjbdiaaGreatDoor.Blks) (ρ : List Dt) (w : World) (v : Value), Proofs.YtjclgkddfjbdiaaGreatDoor.Mem S (rdI T p ⟨v, s.l, s.e⟩ :: σ2) ρ w → bytesD v s.l ∈ ρ →
    Calls P f vals.toArray w fun e w' => ∃ v' ρ', e = .returned u ∧ Proofs.YtjclgkddfjbdiaaGreatDoor.Mem S (rdI T p ⟨v', t.l, t.e⟩ :: σ2) ρ' w' ∧ bytesD v' t.l ∈ ρ') : Spec P f (vals.map .v) [rdA T p s] (fun _ : Unit => [rdA T p t]) (fun _ => .v u) :=
  Spec.ofRdG fun S σ2 ρ w v hw hd => (h S σ2 ρ w v hw hd).mono fun _ _ ⟨v', ρ', h1, h2, h3⟩ => ⟨u, v', ρ', h1, h2, h3, fun _ _ => rfl⟩
theorem Spec.ofRdB {T p : Nat} {s t : Rd} {vals : List Value} {out : List UInt8} (h : ∀ (S : List (World × List Nat)) (σ2 : Proofs.YtjclgkddfjbdiaaGreatDoor.Blks) (ρ : List Dt) (w : World) (v : Value), Proofs.YtjclgkddfjbdiaaGreatDoor.Mem S (rdI T p ⟨v, s.l, s.e⟩ :: σ2) ρ w → bytesD v s.l ∈ ρ →
    Calls P f vals.toArray w fun e w' => ∃ r v' ρ', e = .returned r ∧ Proofs.YtjclgkddfjbdiaaGreatDoor.Mem S (rdI T p ⟨v', t.l, t.e⟩ :: σ2) ρ' w' ∧ bytesD v' t.l ∈ ρ' ∧ bytesD r out ∈ ρ') : Spec P f (vals.map .v) [rdA T p s] (fun _ : Unit => [rdA T p t]) (fun _ => byt out) :=
  Spec.ofRdG fun S σ2 ρ w v hw hd => (h S σ2 ρ w v hw hd).mono fun _ _ ⟨r, v', ρ', h1, h2, h3, h4⟩ => ⟨r, v', ρ', h1, h2, h3, fun _ hK => a4_.2 (hK _ _ _ h4)⟩
theorem Pure.ofB {l out : List UInt8} {rest : List Value} (h : ∀ (S : List (World × List Nat)) (σ2 : Proofs.YtjclgkddfjbdiaaGreatDoor.Blks) (ρ : List Dt) (w : World) (v : Value), Proofs.YtjclgkddfjbdiaaGreatDoor.Mem S σ2 ρ w → bytesD v l ∈ ρ →
    Calls P f (v :: rest).toArray w fun e w' => ∃ r ρ', e = .returned r ∧ Proofs.YtjclgkddfjbdiaaGreatDoor.Mem S σ2 ρ' w' ∧ bytesD r out ∈ ρ') : Pure P f (byt l :: rest.map .v) (byt out) := Pure.of2 fun K w vals hK hv => by
  obtain ⟨v, us', rfl, h1, h2⟩ := hv
  have := ak_.1 h2
  subst this
  refine (h _ _ _ _ v ((enter2 w K).add (z := bytesD v l) (row2 (a4_.1 h1))) (by simp)).mono fun e w' ⟨r, ρ', he, hm, hd⟩ => ⟨r, he, leave2 hm (by simp), a4_.2 (row3 hK ?_ (hm.data hd))⟩
  intro k hk hkK
  simp only [List.flatMap_cons, List.flatMap_nil, List.append_nil]
  exact ba_.2 ⟨hk, hkK⟩
theorem Pure.ofBB {l m out : List UInt8} (h : ∀ (S : List (World × List Nat)) (σ2 : Proofs.YtjclgkddfjbdiaaGreatDoor.Blks) (ρ : List Dt) (w : World) (v r : Value), Proofs.YtjclgkddfjbdiaaGreatDoor.Mem S σ2 ρ w → bytesD v l ∈ ρ → bytesD r m ∈ ρ →
    Calls P f #[v, r] w fun e w' => ∃ r ρ', e = .returned r ∧ Proofs.YtjclgkddfjbdiaaGreatDoor.Mem S σ2 ρ' w' ∧ bytesD r out ∈ ρ') : Pure P f [byt l, byt m] (byt out) := Pure.of2 fun K w vals hK hv => by
  obtain ⟨v, us', rfl, h1, r, us2, rfl, h2, h3⟩ := hv
  have h3 : us2 = [] := h3
  subst h3
  refine (h _ _ _ _ v r (((enter2 w K).add (z := bytesD v l) (row2 (a4_.1 h1))).add (z := bytesD r m) (row2 (a4_.1 h2))) (by simp) (by simp)).mono fun e w' ⟨r, ρ', he, hm, hd⟩ => ⟨r, he, leave2 hm (by simp), a4_.2 (row3 hK ?_ (hm.data hd))⟩
  intro k hk hkK
  simp only [List.flatMap_cons, List.flatMap_nil, List.append_nil]
  exact ba_.2 ⟨hk, hkK⟩
end
section
variable {l m : List UInt8} {p : Nat} {s : Rd}
theorem hZ_ {x : Nat} {n : Int} (hl : l.length ≤ lots) (hx : x < 18446744073709551616) (hn : sizeB n = true) : Pure Tryz.prog 93 [byt l, wrd x, int n] (byt (l ++ beBytes x n.toNat)) :=
  Pure.ofB (rest := [_, _]) fun _ _ _ _ _ hw hd => (gz_ hw (hw.bytes hd) hl hx hn).mono fun _ _ ⟨r, h1, h2⟩ => ⟨r, _, h1, h2, by simp⟩
theorem row_s (hl : l.length + m.length + 4 ≤ lots) (hm : m.length < 4294967296) : Pure Tryz.prog 94 [byt l, byt m] (byt (l ++ beBytes m.length 4 ++ m)) :=
  Pure.ofBB fun _ _ _ _ _ _ hw hd hd2 => (ea_ hw hd hd2 hl hm).mono fun _ _ ⟨r, h1, h2⟩ => ⟨r, _, h1, h2, by simp⟩
abbrev TR : Nat := 435
abbrev pv (p : Nat) : Value := .pointer (some ⟨p, 0, none⟩)
theorem dr_ (v : Value) (s : Rd) : (⟨v, s.l, s.e⟩ : Rd).as s := ⟨rfl, rfl⟩
theorem hd_ {T : Nat} {s t : Rd} (h : s.as t) : rdI T p s = rdI T p ⟨s.v, t.l, t.e⟩ := by rw [rdI, rdI, h.2]
theorem _root_.Go.Proofs.YtjclgkddfjbdiaaGreatDoor.Rd.as.count {s t : Rd} (h : s.as t) (most : Int) : (s.count most).as (t.count most) := by
  unfold Rd.count
  rw [(h.fixed 2).2, h.num]
  split
  · exact ⟨(h.fixed 2).1, rfl⟩
  · exact h.fixed 2
theorem _root_.Go.Proofs.YtjclgkddfjbdiaaGreatDoor.Rd.as.countN {s t : Rd} (h : s.as t) (most : Int) : s.countN most = t.countN most := by
  unfold Rd.countN
  rw [(h.fixed 2).2, h.num]
theorem hm_ {n : Int} (hl : s.l.length ≤ lots) (hn : sizeB n = true) : Spec Tryz.prog 226 [ptr p, int n] [rdA TR p s] (fun _ : Unit => [rdA TR p (s.fixed n)]) (fun _ => wrd (s.num n)) :=
  Spec.ofRd (vals := [pv p, .int .i64 n]) fun _ _ _ _ v hw hd => (cm_ hw .here hd hl hn).mono fun _ _ ⟨h1, h2⟩ => ⟨_, _, by rw [h1, (dr_ v s).num], hd_ ((dr_ v s).fixed n) ▸ h2, by rw [← ((dr_ v s).fixed n).1]; simp⟩
theorem count_s {n : Int} (hl : s.l.length ≤ lots) : Spec Tryz.prog 227 [ptr p, int n] [rdA TR p s] (fun _ : Unit => [rdA TR p (s.count n)]) (fun _ => int (s.countN n : Nat)) :=
  Spec.ofRd (vals := [pv p, .int .i64 n]) fun _ _ _ _ v hw hd => (count_c hw .here hd hl).mono fun _ _ ⟨h1, h2⟩ => ⟨_, _, by rw [h1, (dr_ v s).countN], hd_ ((dr_ v s).count n) ▸ h2, by rw [← ((dr_ v s).count n).1]; simp⟩
theorem fixed_s {n : Int} (hl : s.l.length ≤ lots) : Spec Tryz.prog 228 [ptr p, int n] [rdA TR p s] (fun _ : Unit => [rdA TR p (s.fixed n)]) (fun _ => byt (s.out n)) :=
  Spec.ofRdB (vals := [pv p, .int .i64 n]) fun _ _ _ _ v hw hd => (gG_ hw .here hd hl).mono fun _ _ ⟨r, h1, h2⟩ => ⟨r, _, _, h1, hd_ ((dr_ v s).fixed n) ▸ h2, by rw [← ((dr_ v s).fixed n).1]; simp, by rw [(dr_ v s).out]; simp⟩
theorem rowr_s {n : Int} (hl : s.l.length ≤ lots) (hn : 0 ≤ n ∧ n ≤ 9223372036854775807) : Spec Tryz.prog 308 [ptr p, int n] [rdA TR p s] (fun _ : Unit => [rdA TR p (s.row n)]) (fun _ => byt (s.rowOut n)) :=
  Spec.ofRdB (vals := [pv p, .int .i64 n]) fun _ _ _ _ v hw hd => (row_c hw .here hd hl hn).mono fun _ _ ⟨r, h1, h2⟩ => ⟨r, _, _, h1, hd_ ((dr_ v s).row n) ▸ h2, by rw [← ((dr_ v s).row n).1]; simp, by rw [(dr_ v s).rowOut]; simp⟩
theorem end_s : Spec Tryz.prog 230 [ptr p] [rdA TR p s] (fun _ : Unit => [rdA TR p s]) (fun _ => int s.end_) :=
  Spec.ofRd (vals := [pv p]) fun _ _ _ _ v hw hd => (end_c (s := ⟨v, s.l, s.e⟩) hw List.mem_cons_self hd).mono fun _ _ ⟨h1, h2⟩ => ⟨v, _, by rw [h1, (dr_ v s).end_], h2, hd⟩
theorem read_s (hl : l.length ≤ lots) : Spec Tryz.prog 225 [byt l] [] (fun p : Nat => [rdA TR p (Rd.of l)]) (fun p => ptr p) := fun G w vals hm hv => by
  obtain ⟨v, us', rfl, h1, h2⟩ := hv
  have h2 : us' = [] := h2
  subst h2
  refine (read_c ((enter2 w G).add (z := bytesD v l) (row2 (a4_.1 h1))) (by simp) hl).mono fun e w' ⟨p, z, he, hm2⟩ => ?_
  have hx := leave2 hm2 (by simp)
  have hb : w'.heap[p]? = some (row TR [z, .int .i64 0]) := hm2.holds (by simp)
  have hd := hm2.data (z := bytesD z l) (by simp)
  have hpn : w.heap.size ≤ p := by
    have h3 := hm2.out _ (List.mem_cons_self) p (by simp [Proofs.YtjclgkddfjbdiaaGreatDoor.It.ids]) (w, G) (by simp)
    rcases h3 with h3 | h3
    · have h4 := hm2.nodup
      simp only [List.flatMap_cons, List.flatMap_nil, List.append_nil, List.nodup_append] at h4
      exact absurd rfl (h4.2.2 p (by simp [Proofs.YtjclgkddfjbdiaaGreatDoor.It.ids]) p (ba_.2 ⟨hm.old p h3, h3⟩))
    · exact h3
  refine ⟨p, _, he, by simp [It.rids], ⟨hx, fun k hk => ?_, fun k hk hg => ?_, fun k hk => Nat.lt_of_lt_of_le (hm.old k hk) hx.size, by simp [It.rids], by simp [mids, It.mids], fun x hxm => ?_⟩, rfl⟩
  · simp [mids, It.mids] at hk; subst hk; exact .inr hpn
  · simp [mids, It.mids] at hk; subst hk; have := hm.old k hg; omega
  · rw [List.mem_singleton] at hxm; subst hxm
    refine ⟨_, hb, _, _, rfl, a4_.2 (hd.grow fun k hk => .inl ?_), _, _, rfl, rfl, rfl⟩
    simp only [List.flatMap_cons, List.flatMap_nil, List.append_nil, List.mem_append] at hk ⊢
    rcases hk with hk | hk
    · exact .inl (by simpa [mids, It.mids, Proofs.YtjclgkddfjbdiaaGreatDoor.It.ids] using hk)
    · exact .inr (ba_.2 ⟨hm.old k hk, hk⟩)
end
section
variable {P : Program} {n : Nat} {W : Wd} {σ τ : Blks} {l : Slots} {X : List Nat} {x y z : Operand} {d : Option Nat} {ty t t' e : TypeId} {pos : String} {aft : Array Edge} {g : Option (Nat × Bool)} {v u : Value} {k k' : IntKind} {a b : Nat} {o : Oper} {A B : Abs} {tab : List (Nat × TI)} {ops : Array Oper} {rest : List Oper} {Q : Exit → Act → World → Prop} {ix : Plan} {xs ys : List (List Abs)} {s q : Nat} {cs : List Abs}
theorem dH_ {x : It} {σ τ : Blks} (h : Upd x x σ τ) : τ = σ := by
  induction h with
  | here => rfl
  | there _ ih => rw [ih]
theorem St.freezeB {a : Act} {w : World} {pre post : Blks} {i : Nat} (h : St n W (pre ++ .blk b t cs :: post) l a w) (hs : slot l i = some (.v (.pointer (some ⟨b, 0, none⟩)))) : St n W (pre ++ post) ((i, .rp cs) :: l) a w := by
  have hsub : (pre ++ post).Sublist (pre ++ .blk b t cs :: post) := List.Sublist.append (List.Sublist.refl _) (List.sublist_cons_self _ _)
  obtain ⟨us, hb, hr⟩ := h.mem.hold (.blk b t cs) (by simp)
  have hc := (h.mem.sub hsub).2
  refine (h.less hsub).cast hs fun u hu => ?_
  have : u = .pointer (some ⟨b, 0, none⟩) := hu
  subst this
  refine ⟨b, 0, us, rfl, fun hm => ?_, aN_ hb, fun j u hu => by rw [Nat.zero_add, a2_ hb]; exact hu, ae_ hc _ _ hr⟩
  have hnd := h.mem.nodup
  simp only [L_, ad_, List.nodup_append, It.mids] at hnd hm
  obtain ⟨n1, ⟨n2, n3, n4⟩, n5⟩ := hnd
  rcases List.mem_append.1 hm with hm | hm
  · rcases List.mem_append.1 hm with hm | hm
    · exact n5 b hm b (by simp) rfl
    · exact n4 b (by simp) b hm rfl
  · exact h.mem.sep b (by simp [L_, ad_, It.mids]) hm
theorem e0_ {c : Code} (pre : Blks) {post : Blks} (i : Nat) (hσ : σ = pre ++ .blk b t cs :: post) (hs : slot l i = some (.v (.pointer (some ⟨b, 0, none⟩)))) (k : SC P c (St n W (pre ++ post) ((i, .rp cs) :: l)) Q) : SC P c (St n W σ l) Q := by
  subst hσ; exact fun a w h => k a w (h.freezeB hs)
theorem aw_ {c : Code} {p : Prop} {T : Act → World → Prop} (h : ∀ a w, T a w → p) (k : p → SC P c T Q) : SC P c T Q := fun a w ha => k (h a w ha) a w ha
theorem hb_ {K : List Nat} {w : World} {z : Abs} : ∀ {ps : List Abs} {us : List Value} {o : Nat} {u : Value}, reps K w ps us → us[o]? = some u → rep K w z u → reps K w (putL ps o [z]) us
  | [], us, o, u, h, hu, _ => by have : us = [] := h; subst this; simp at hu
  | a :: ps, _, 0, u, ⟨x, us', h1, h2, h3⟩, hu, hz => by
    subst h1
    simp at hu
    subst hu
    exact ⟨x, us', rfl, hz, h3⟩
  | a :: ps, _, o + 1, u, ⟨x, us', h1, h2, h3⟩, hu, hz => by
    subst h1
    exact ⟨x, us', rfl, h2, hb_ h3 (by simpa using hu) hz⟩
theorem St.freezeC {a : Act} {w : World} {pre post : Blks} {o : Nat} (h : St n W (pre ++ own e s v xs :: post) l a w) (hu : Upd (.blk b t cs) (.blk b t (putL cs o [.sl s xs])) (pre ++ post) τ) (hv : cs[o]? = some (.v v)) : St n W τ l a w := by
  have hsub : (pre ++ post).Sublist (pre ++ own e s v xs :: post) := List.Sublist.append (List.Sublist.refl _) (List.sublist_cons_self _ _)
  have h1 := own_sl h.mem
  have h2 := h.less hsub
  obtain ⟨us, hb, hr⟩ := h2.mem.hold _ hu.mem
  obtain ⟨u, h3, h4⟩ := a9_ hr hv
  have h4 : u = v := h4
  subst h4
  have hm := h2.mem.upd hu (Ext.refl w) (by simp [It.mids]) (by simp [It.mids]) rfl fun hc => ⟨us, hb, ae_ hc _ _ (hb_ hr h3 h1)⟩
  exact h2.to hm.1 hm.2
theorem bR_ {c : Code} (pre : Blks) {post : Blks} (o : Nat) (hσ : σ = pre ++ own e s v xs :: post) (hu : Upd (.blk b t cs) (.blk b t (putL cs o [.sl s xs])) (pre ++ post) τ) (hv : cs[o]? = some (.v v)) (k : SC P c (St n W τ l) Q) : SC P c (St n W σ l) Q := by
  subst hσ; exact fun a w h => k a w (h.freezeC hu hv)
theorem d4_ {K : List Nat} {w : World} : ∀ {ys : List Abs} {us : List Value}, reps K w ys us → repss K w 1 (ys.map fun a => [a]) us
  | [], us, h => h
  | a :: ys, _, ⟨u, us', h1, h2, h3⟩ => ⟨[u], us', h1, rfl, ⟨u, [], rfl, h2, rfl⟩, d4_ h3⟩
theorem c7_ (hT : TabOk P tab) {i : TI} {m : Nat} (hu : P.underlying t = some (.array m e)) (hi : ti tab e = some i) (_h1 : Nat.beq i.size 1 = true) (hx : look l x = some (.rp cs)) (hm : Nat.ble m maxLen = true) (hxs : (cs.take m).map (fun a => [a]) = xs) (hl : m ≤ cs.length) :
    Val P n W σ l X ⟨d, .slice t x none none none, ty, pos, aft, g⟩ (.sl 1 xs) := fun a w hs hX => by
  obtain ⟨b, off, us, h1, h2, h3, h4, h5⟩ := hs.eval hx
  have hlen := V_ h5
  subst hxs
  have hl2 : ((cs.take m).map fun a => [a]).length = m := by simp; omega
  refine ⟨.slice (some ⟨b, off, none⟩) m m, ⟨us.take m, ⟨⟨_, m, by rw [hl2], by omega, Nat.le_of_ble_eq_true hm, by simp⟩, fun hn => ⟨b, off, m, m, rfl, h2, fun j u hu => ?_⟩⟩, d4_ (cc_ h5 m)⟩, fun w' _ => ?_⟩
  · rw [List.getElem?_take] at hu
    split at hu
    · exact h4 j u hu
    · cases hu
  · have h6 := (hT _ _ hi).sizeOf (w := w')
    simp [execOp, Instr.sliceAt, Instr.sureAddr, Instr.sliceBounds, h1, run_underlying hu, Sem.run_bind, Result.andThen, h6, Addr.add]
theorem f8_ (hT : TabOk P tab) {i : TI} {m off : Nat} (hu : P.underlying t = some (.array m e)) (hi : ti tab e = some i) (hx : look l x = some (.v (.pointer (some ⟨b, off, none⟩)))) :
    Val P n W σ l X ⟨d, .slice t x none none none, ty, pos, aft, g⟩ (.v (.slice (some ⟨b, off, none⟩) m m)) := fun a w hs _ => ⟨_, rfl, fun w' _ => by
  have h6 := (hT _ _ hi).sizeOf (w := w')
  simp [execOp, Instr.sliceAt, Instr.sureAddr, Instr.sliceBounds, hs.plain hx, run_underlying hu, Sem.run_bind, Result.andThen, h6, Addr.add]⟩
theorem cg_ (hT : TabOk P tab) {i : TI} {m off : Nat} {r : Int} (hu : P.underlying t = some (.array m e)) (hi : ti tab e = some i) (hx : look l x = some (.v (.pointer (some ⟨b, off, none⟩)))) (hy : look l y = some (.v (.int k r))) (hr : r = (q : Nat)) (hq : q < m) (hm : Nat.ble m 1 = false) :
    Val P n W σ l X ⟨d, .indexAddr t x y, ty, pos, aft, g⟩ (.v (.pointer (some ⟨b, off + q * i.size, none⟩))) := fun a w hs _ => ⟨_, rfl, fun w' _ => by
  subst hr
  have h6 := (hT _ _ hi).sizeOf (w := w')
  have hq' : (q : Int) < (m : Nat) := by omega
  simp [execOp, Instr.indexAt, Instr.sureAddr, asIntOf, hs.plain hx, hs.plain hy, run_underlying hu, Sem.run_bind, Result.andThen, h6, hq, Addr.add_none]⟩
theorem Eff.copy {off m c : Nat} {L' : List Abs} (hu : P.underlying t = some (.slice e)) (hi : (P.info? e).map (·.size) = some 1) (hx : look l x = some (.v (.slice (some ⟨b, off, none⟩) m c))) (hy : look l y = some (.sl 1 xs)) (hup : Upd (.blk b t' cs) (.blk b t' L') σ τ) (hl : off + min xs.length m ≤ cs.length) (h1 : ∀ c ∈ xs, ones c = true) (hL : putL cs off (xs.take m).flatten = L') :
    Eff P n W σ l [b] ⟨d, .call { callee := .builtin .copy, args := #[x, y], argTypes := #[t, t] }, ty, pos, aft, g⟩ fun r τ' => r = .v (.int .i64 (min xs.length m : Nat)) ∧ τ' = τ := fun a w hs => by
  obtain ⟨us, hb, hr⟩ := hs.mem.hold _ hup.mem
  obtain ⟨news, hrow, hr2⟩ := hs.eval hy
  obtain ⟨A', c', hsh, _⟩ := hrow.shape
  have hlen := V_ hr
  have hlen2 := aE_ hr2
  rw [Nat.mul_one] at hlen2
  have hreps : ∀ (xs : List (List Abs)) (news : List Value), repss (mids σ ++ W.G) w 1 xs news → reps (mids σ ++ W.G) w xs.flatten news := by
    intro xs
    induction xs with
    | nil => intro news h; exact h
    | cons y ys ih =>
      rintro news ⟨u1, u2, rfl, _, h3, h4⟩
      rw [List.flatten_cons]; exact aR_ h3 (ih u2 h4)
  have htk : ∀ (m : Nat), repss (mids σ ++ W.G) w 1 (xs.take m) (news.take m) := fun m => by
    rcases Nat.le_total m xs.length with h | h
    · have := (dk_ hr2 m h).2; rwa [Nat.mul_one] at this
    · rw [List.take_of_length_le h, List.take_of_length_le (by omega)]; exact hr2
  have hone : ∀ u ∈ news.take m, u.oneCell' = true := bN_ (hreps _ _ (htk m)) (by
    rw [bC_]; intro a ha
    obtain ⟨c, hc, hac⟩ := List.mem_flatten.1 ha
    exact bC_.1 (h1 c (List.mem_of_mem_take hc)) a hac)
  have htl : (news.take m).length = Nat.min xs.length m := by rw [List.length_take, hlen2]; exact Nat.min_comm _ _
  have hmn : (news.take m).length = min xs.length m := htl
  by_cases hn : news = []
  · subst hn
    have h0 : xs.length = 0 := by simpa using hlen2.symm
    have hxn : xs = [] := List.length_eq_zero_iff.1 h0
    subst hxn
    have hLc : L' = cs := by rw [← hL, bW_ _ _ _ (by omega)]; simp
    subst hLc
    have hτ := dH_ hup
    subst hτ
    refine ⟨_, w, _, _, ⟨rfl, rfl⟩, Ext.refl w, rfl, hs.mem, Carry.refl, .inl ?_⟩
    obtain ⟨I, hI, hIs⟩ : ∃ I, P.info? e = some I ∧ I.size = 1 := by
      cases hq : P.info? e with
      | none => simp [hq] at hi
      | some i => exact ⟨i, rfl, by simpa [hq] using hi⟩
    cases A' <;> simp [execOp, resolve, invoke, builtin, Builtin.copy_, hs.plain hx, hsh, run_underlying hu, Builtin.lenOf, Builtin.firstCells, sizeOf, typeInfo, hI, hIs, storeCells, Sem.run_bind, Result.andThen, loadCells, loadCellsFrom, goInt]
  · obtain ⟨bb, o2, n2, c2, hv, hbb, hcc⟩ := hrow.cells hn
    rw [hsh] at hv
    simp at hv
    obtain ⟨rfl, rfl, rfl⟩ := hv
    have hrun := run_copy_row (P := P) w t t ty e b off m c ⟨bb, o2, none⟩ xs.length c' us.toArray t' (news.take m) hu hi hb htl (fun j u hu => by
      rw [Addr.add_none]
      rw [List.getElem?_take] at hu
      split at hu
      · exact hcc j u hu
      · cases hu) (by simp; omega) hone
    have hE : (us.toArray.toList.take off ++ news.take m ++ us.toArray.toList.drop (off + (news.take m).length)).toArray = (putAt us off (news.take m)).toArray := by
      rw [bn_ us off _ (by omega)]
    rw [hE, hmn] at hrun
    have hxx : Ext [b] w (w.setRow b (putAt us off (news.take m)).toArray) := (Ext.refl w).setRow (.inl (by simp)) _
    have hm := hs.mem.upd hup hxx (by simp [It.mids]) (by simp [It.mids]) rfl fun hc => ⟨_, cE_ hb, ae_ hc _ _ (hL ▸ e6_ hr (hreps _ _ (htk m)) (by omega))⟩
    refine ⟨_, _, _, _, ⟨rfl, rfl⟩, hxx, rfl, hm.1, hm.2, .inl ?_⟩
    simp [execOp, resolve, invoke, builtin, hs.plain hx, hsh, hrun, Result.andThen, goInt]
theorem Spec.ofOwnB {f : FuncId} {args : List Abs} {out : List UInt8} {e : TypeId} (h : ∀ (K : List Nat) (w : World) (vals : List Value), (∀ k ∈ K, k < w.heap.size) → reps K w args vals →
    Calls P f vals.toArray w fun en w' => ∃ r ρ, en = .returned r ∧ Proofs.YtjclgkddfjbdiaaGreatDoor.Mem [(w, K)] [.pc (Proofs.YtjclgkddfjbdiaaGreatDoor.ownPc e 1 r out.length (out.map bc)), old2 w K] ρ w') : Spec P f args [] (fun r : Value => [own e 1 r (out.map fun b => [.v (bc b)])]) (fun r => .v r) := fun G w vals hm hv =>
  (h G w vals hm.old hv).mono fun en w' ⟨r, ρ, he, hm2⟩ => by
    have hx := leave2 hm2 (by simp)
    have how : w'.ownsRow 0 e 1 r out.length (out.map bc) := hm2.hold (.pc (Proofs.YtjclgkddfjbdiaaGreatDoor.ownPc e 1 r out.length (out.map bc))) (by simp)
    have hnew : ∀ k ∈ r.ownBlock.toList, w.heap.size ≤ k := fun k hk => by
      have h3 := hm2.out _ (List.mem_cons_self) k (by simpa [Proofs.YtjclgkddfjbdiaaGreatDoor.It.ids, Proofs.YtjclgkddfjbdiaaGreatDoor.ownPc] using hk) (w, G) (by simp)
      rcases h3 with h3 | h3
      · have h4 := hm2.nodup
        simp only [List.flatMap_cons, List.flatMap_nil, List.append_nil, List.nodup_append] at h4
        exact absurd rfl (h4.2.2 k (by simpa [Proofs.YtjclgkddfjbdiaaGreatDoor.It.ids, Proofs.YtjclgkddfjbdiaaGreatDoor.ownPc] using hk) k (ba_.2 ⟨hm.old k h3, h3⟩))
      · exact h3
    refine ⟨r, r, he, by simp [It.rids], ⟨hx, fun k hk => .inr (hnew k ?_), fun k hk hg => ?_, fun k hk => Nat.lt_of_lt_of_le (hm.old k hk) hx.size, by simp [It.rids], ?_, fun x hxm => ?_⟩, rfl⟩
    · simpa [mids, It.mids, ownPc] using hk
    · have := hnew k (by simpa [mids, It.mids, ownPc] using hk)
      have := hm.old k hg
      omega
    · simp only [mids, List.flatMap_cons, List.flatMap_nil, List.append_nil]; exact aM_
    · rw [List.mem_singleton] at hxm; subst hxm
      refine ⟨out.map bc, by simpa using how, ?_⟩
      rw [gM_]; exact di_
end
def digA (d : List UInt8) : List Abs := d.map fun b => .v (bc b)
abbrev ints (xs : List Int) : Abs := .sl 1 (xs.map fun x => [int x])
theorem aS_ {s i : Nat} {cs : List Abs} (h : cs.length = s) : elems s [(i, .agg cs)] = some [cs] := by simp [elems, cellsA, h]
end Go.Proofs.YtjclgkddfjbdiaaGreatDoor.A
namespace Go.Proofs.YtjclgkddfjbdiaaGreatDoor
open Go.RowKit Go.ChangeShapes Go.WideShapes Go.ChangeAt
def leaves (P : Program) : Nat → TypeId → Option (List TypeId)
  | 0, _ => none
  | d + 1, t =>
    match P.underlying t with
    | some (.struct fs) => fs.toList.foldlM (fun acc f => (leaves P d f.type).bind fun l => if f.offset = acc.length ∧ l.length = P.cellsOf f.type then some (acc ++ l) else none) []
    | some (.array n e) => (leaves P d e).bind fun l => if l.length = P.cellsOf e then some (List.replicate n l).flatten else none
    | some _ => some [t]
    | none => none
section
variable {H : Type} {enc : TypeId × Value → H} {P : Program} {w : World} {base : Nat} {spare : Nat → Bool} {held : Bool}
def LeafAt (enc : TypeId × Value → H) (P : Program) (w : World) (base : Nat) (spare : Nat → Bool) (held : Bool) (u : TypeId) (v : Value) : Prop := ∃ n y, DataW.trod enc P w base spare held n u [v] = some y
theorem LeafAt.int {u : TypeId} {v : Value} {k : IntKind} (h : LeafAt enc P w base spare held u v) (hu : P.underlying u = some (.int k)) : ∃ n, v = .int k n ∧ (Lit.int k n).wf = true := by
  obtain ⟨n, y, hy⟩ := h
  obtain ⟨m, h1, _, h2⟩ := DataW.trod_int hu hy
  simp at h1
  exact ⟨m, h1, h2⟩
theorem LeafAt.string {u : TypeId} {v : Value} (h : LeafAt enc P w base spare held u v) (hu : P.underlying u = some .string) : ∃ s, v = .string s ∧ s.size ≤ maxLen := by
  obtain ⟨n, y, hy⟩ := h
  obtain ⟨m, h1, _, h2⟩ := DataW.trod_string hu hy
  simp at h1
  exact ⟨m, h1, h2⟩
theorem LeafAt.bool {u : TypeId} {v : Value} (h : LeafAt enc P w base spare held u v) (hu : P.underlying u = some .bool) : ∃ b, v = .bool b := by
  obtain ⟨n, y, hy⟩ := h
  obtain ⟨m, h1, _⟩ := DataW.trod_bool hu hy
  simp at h1
  exact ⟨m, h1⟩
end
end Go.Proofs.YtjclgkddfjbdiaaGreatDoor
namespace Go.Proofs.YtjclgkddfjbdiaaGreatDoor
open Go.RowKit Go.ChangeShapes Go.WideShapes Go.ChangeAt
end Go.Proofs.YtjclgkddfjbdiaaGreatDoor
namespace Go.Proofs.YtjclgkddfjbdiaaGreatDoor.A
open Go.RowKit Go.ChangeShapes Go.WideShapes Go.ChangeAt
section
variable {H : Type} {enc : TypeId × Value → H} {w : World} {base : Nat} {spare : Nat → Bool} {held : Bool}
theorem wfIn {a : Int} (h : (Lit.int .i64 a).wf = true) : InR .i64 a := by
  have := bounds_i64 h
  simp only [InR, lo, hi]
  omega
theorem hc_ {K : List Nat} (d : List UInt8) : reps K w (digA d) (d.map bc) := by
  have : digA d = (d.map bc).map .v := by simp [digA]
  rw [this]
  exact ak_.2 rfl
end
theorem _root_.Go.Proofs.YtjclgkddfjbdiaaGreatDoor.IsRow.bytesA {K : List Nat} {w : World} {v : Value} {m : List UInt8} (h : IsRow K w v m.length (m.map bc)) : BytesV w v m := by
  obtain ⟨A, c, rfl, h1, h2, h3⟩ := h.shape
  refine ⟨A, c, rfl, h1, h2, h3, fun hn => ?_⟩
  obtain ⟨b, off, n', c', hv, _, hc⟩ := h.cells hn
  simp at hv
  obtain ⟨rfl, _, _⟩ := hv
  exact ⟨b, off, rfl, hc⟩
theorem c6_ {n : Nat} {W : Wd} {σ : Blks} {l : Slots} {X : List Nat} {x : Operand} {d : Option Nat} {ty : TypeId} {pos : String} {aft : Array Edge} {gq : Option (Nat × Bool)} {m : List UInt8} (hx : look l x = some (byt m)) : Val Tryz.prog n W σ l X ⟨d, .convert 39 9 x, ty, pos, aft, gq⟩ (.v (.string ⟨m.toArray⟩)) := fun a w hs hX => ⟨_, rfl, fun w' hw' => by
  have h1 := a4_.1 (hs.eval hx)
  have h2 := (Carry.of_ext hw' (K := mids σ ++ W.G) (K' := mids σ ++ W.G) (fun k hk => .inl (List.mem_append_left _ (hX k hk))) (fun k hk => .inl hk)).row h1
  have := fZ_ h2.bytesA
  simp [execOp, this, Result.andThen]⟩
end Go.Proofs.YtjclgkddfjbdiaaGreatDoor.A
