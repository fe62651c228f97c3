/-
  Layer 5 over the engine: a book as a piece of memory, its calls as steps.
-/
import Derived.Test.YtdbeinbgekdnmaaBookInv
import Derived.Test.YtdbeinbgekdnmaaEngFace
set_option maxRecDepth 100000
namespace Go.Proofs.Ytdbeinbgekdnmaa
open Go.RowKit

abbrev DMap := List ((Nat × List UInt8) × Nat)
abbrev TMap := List (((Int × Int) × List UInt8) × Nat)
/-- A book as a piece of memory. -/
def bookPc (p bd bt : Nat) (D : DMap) (T : TMap) : Pc where
  ids := [p, bd, bt]
  p := fun w => BookAt w p bd bt D T
  st := fun F w w' hx hF h => h.ext hx (hF p (by simp)) (hF bd (by simp)) (hF bt (by simp))
  lt := fun w h k hk => by
    simp only [List.mem_cons, List.not_mem_nil, or_false] at hk
    rcases hk with rfl | rfl | rfl
    · exact h.blk.lt
    · exact h.md.lt
    · exact h.mt.lt
section
variable {S : List (World × List Nat)} {σ τ : Blks} {ρ : List Dt} {w : World} {p bd bt : Nat} {D : DMap} {T : TMap} {k x y : Int} {v : Value} {l : List UInt8}
theorem book_ids (h : BookAt w p bd bt D T) : (It.ids (.pc (bookPc p bd bt D T))).Nodup := by
  obtain ⟨h1, h2, h3⟩ := h.ne
  simp [It.ids, bookPc]
  omega
theorem new_c (hw : Mem S σ ρ w) : Calls Try.prog 38 #[] w fun e w' => ∃ p bd bt, e = .returned (.pointer (some ⟨p, 0, none⟩)) ∧ Mem S (.pc (bookPc p bd bt [] []) :: σ) ρ w' :=
  (book_New w).mono fun e w' ⟨h1, h2, h3⟩ => ⟨_, _, _, h1, hw.new h3 h2 (book_ids h2) (by simp [It.ids, bookPc])⟩
theorem digest_c (hw : Mem S σ ρ w) (u : Upd (.pc (bookPc p bd bt D T)) (.pc (bookPc p bd bt (pm D (k8 k, l)) T)) σ τ) (hv : BytesV w v l) (hl : l.length ≤ 1000) (hm : D.length < 1000000) (hpl : pl D (k8 k, l) < 9223372036854775808) :
    Calls Try.prog 39 #[.pointer (some ⟨p, 0, none⟩), .int .i64 k, v] w fun e w' => e = .returned (arrB (numB (k8 k) (pl D (k8 k, l)))) ∧ Mem S τ ρ w' :=
  (book_Digest w p bd bt D T k v l (hw.hold _ u.mem) hv ⟨by show k8 k < 256; unfold k8; omega, by show l.length ≤ maxLen; unfold maxLen; omega⟩ (by omega) hpl).mono fun e w' ⟨h1, h2, h3⟩ =>
    ⟨by rw [← numV_arr _ _ (by unfold k8; omega)]; exact h1, hw.upd u (h3.mono (by simp [It.ids, bookPc])) h2 (book_ids h2) (fun k hk => .inl hk)⟩
theorem tag_c (hw : Mem S σ ρ w) (u : Upd (.pc (bookPc p bd bt D T)) (.pc (bookPc p bd bt D (pm T ((x, y), l)))) σ τ) (hv : BytesV w v l) (hx : i64r x) (hy : i64r y) (hl : l.length ≤ 1000) (hm : T.length < 1000000) (hpl : pl T ((x, y), l) < 9223372036854775808) :
    Calls Try.prog 40 #[.pointer (some ⟨p, 0, none⟩), .int .i64 x, .int .i64 y, v] w fun e w' => e = .returned (arrB (numB 255 (pl T ((x, y), l)))) ∧ Mem S τ ρ w' :=
  (book_Tag w p bd bt D T x y v l (hw.hold _ u.mem) hv ⟨hx, hy, by show l.length ≤ maxLen; unfold maxLen; omega⟩ (by omega) hpl).mono fun e w' ⟨h1, h2, h3⟩ =>
    ⟨by rw [← numV_arr _ _ (by omega)]; exact h1, hw.upd u (h3.mono (by simp [It.ids, bookPc])) h2 (book_ids h2) (fun k hk => .inl hk)⟩
theorem bkcheck_c (hw : Mem S σ ρ w) (hb : It.pc (bookPc p bd bt D T) ∈ σ) (u : Upd (.pc (bookPc p bd bt D T)) (.pc (bookPc p bd bt D T)) σ σ) (hv : BytesV w v l) {M : List UInt8} (hM : M.length = 32) (hx : i64r x) (hy : i64r y) (hl : l.length ≤ 1000) (hm : T.length < 1000000) (hpl : pl T ((x, y), l) < 9223372036854775808)
    (b : Bool) (hbb : ((aget T ((x, y), l)).isSome && decide (M = numB 255 (pl T ((x, y), l)))) = b) :
    Calls Try.prog 41 #[.pointer (some ⟨p, 0, none⟩), .int .i64 x, .int .i64 y, v, arrB M] w fun e w' => e = .returned (.bool b) ∧ Mem S σ ρ w' :=
  (book_Check w p bd bt D T x y v l M (hw.hold _ hb) hv ⟨hx, hy, by show l.length ≤ maxLen; unfold maxLen; omega⟩ hM (by omega) hpl b hbb).mono fun e w' ⟨h1, h2, h3⟩ =>
    ⟨h1, hw.upd u (h3.mono (by simp [It.ids, bookPc])) h2 (book_ids h2) (fun k hk => .inl hk)⟩
theorem upd_same {x : It} : ∀ {σ : Blks}, x ∈ σ → Upd x x σ σ
  | [], h => by cases h
  | y :: σ, h => by
    rcases List.mem_cons.1 h with rfl | h
    · exact .here
    · exact .there (upd_same h)
variable {P : Program} {n : Nat} {ls : Slots} {C : World → Prop} {d : Option Nat} {ty : TypeId} {pos : String} {aft : Array Edge} {g : Option (Nat × Bool)} {z z' : Operand} {t t' : TypeId}
/-- A row of bytes as a text. -/
theorem Val.toStr (hx : look ls z = some v) (hv : ∀ w, C w → BytesV w v l) : Val Try.prog n ls C ⟨d, .convert 34 9 z, ty, pos, aft, g⟩ (.string ⟨l.toArray⟩) := fun A w hf hw => by
  have := conv_txt (hv w hw)
  simp [execOp, hf.eval hx, this, Result.andThen]
/-- Two bools, of which is known whether they are the same. -/
theorem Val.neBF {p q : Bool} (hx : look ls z = some (.bool p)) (hy : look ls z' = some (.bool q)) (ht : P.underlying t = some .bool) (h : p = q) : Val P n ls C ⟨d, .binOp .neq t z z' t', ty, pos, aft, g⟩ (.bool false) := by
  have := Val.neB (n := n) (D := C) (d := d) (ty := ty) (t' := t') (pos := pos) (aft := aft) (g := g) hx hy ht
  subst h
  simpa using this
theorem Val.neAF {X Y : List UInt8} {T : TypeId} (hu : Try.prog.underlying T = some (.array 32 5)) (hc : Try.prog.cellsOf T = 32) (hk : Try.prog.keyTypeAt 4 T = true) (hx : look ls z = some (arrB X)) (hy : look ls z' = some (arrB Y)) (hg : Try.prog.eqGuardType Try.prog.depth T = false) (hX : X.length = 32) (h : X = Y) :
    Val Try.prog n ls C ⟨d, .binOp .neq T z z' t', ty, pos, aft, g⟩ (.bool false) :=
  Val.neA hx hy hg (neqB hu hc hk X Y hX (h ▸ hX) false (by simp [h]))
theorem Val.eqAB {X Y : List UInt8} {T : TypeId} (b : Bool) (hu : Try.prog.underlying T = some (.array 32 5)) (hc : Try.prog.cellsOf T = 32) (hk : Try.prog.keyTypeAt 4 T = true) (hx : look ls z = some (arrB X)) (hy : look ls z' = some (arrB Y)) (hg : Try.prog.eqGuardType Try.prog.depth T = false) (hX : X.length = 32) (hY : Y.length = 32) (h : decide (X = Y) = b) :
    Val Try.prog n ls C ⟨d, .binOp .eql T z z' t', ty, pos, aft, g⟩ (.bool b) :=
  Val.eqA hx hy hg (eqlB hu hc hk X Y hX hY b h)
end
theorem bcs_one (l : List UInt8) : ∀ u ∈ l.map bc, u.oneCell' = true := bc_one
end Go.Proofs.Ytdbeinbgekdnmaa
