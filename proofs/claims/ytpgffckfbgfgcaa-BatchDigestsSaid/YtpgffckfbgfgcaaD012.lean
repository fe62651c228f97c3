/-
  Packed out of the texts: S4, BookPc, Batch7, BatchBack, S5.
-/
import Derived.Test.YtpgffckfbgfgcaaD011
/-
  Digests by keys, and of batches.
-/
set_option maxRecDepth 100000
set_option linter.unusedSimpArgs false
set_option linter.unusedVariables false
namespace Go.Proofs.Ytpgffckfbgfgcaa.A
open Go.RowKit

section
variable {l : List UInt8} {k : Int} {t : Nat} {es fs : List Ent}
theorem kwrap (k : Int) : Abs.v (Value.int .u8 (IntKind.u8.wrap k)) = .v (bc (UInt8.ofNat (k8 k))) := by
  refine congrArg Abs.v ?_
  simp [IntKind.wrap, IntKind.bits, IntKind.signed, k8, bc]
  omega
theorem kclone_s (hl : l.length ≤ 1000000) : Spec Try.prog 107 [byt l] [] (fun _ : Unit => []) (fun _ => byt l) := by
  refine spec_of Try.func107 rfl Try.ntmps107 rfl fun G w => ?_
  refine SC.seq (SC.region ?_)
  refine SL.val (Val.assign rfl) rfl rfl ?_
  refine SL.nil (SE.seq ?_)
  refine SC.seq ?_
  refine SC.seq (SC.region ?_)
  refine SL.val (Val.move rfl) rfl rfl ?_
  refine SL.eqNil Try.underlying34 rfl rfl rfl ?_
  intro b hb
  refine SL.nil (SE.seq ?_)
  refine SC.cond rfl ?_ ?_
  · intro hc4
    have hnil : l = [] := List.map_eq_nil_iff.1 (hb hc4)
    refine SC.seq (SC.region ?_)
    refine SL.val (Val.assign rfl) rfl rfl ?_
    refine SL.nil (SE.seq ?_)
    refine SC.ret ?_
    refine SE.then_ (by intro h; cases h) ?_
    subst hnil
    refine SE.finC (rs := [.tmp 2]) rfl (RV.tmp rfl RV.nil) (Casts.nils (s := 1) Casts.refl) () (by repeat first|exact s0 _|exact s1 _|apply s2|apply s3) (by simp [It.rids]) rfl
  intro hc4
  refine SC.skip ?_
  refine SE.seq ?_
  refine SC.seq (SC.region ?_)
  refine SL.eff (Eff.buildOwn tabOk Try.underlying34 rfl rfl rfl rfl rfl rfl rfl) rfl rfl ?_
  rintro _ _ ⟨r5, rfl, rfl⟩
  refine SL.val (Val.move rfl) rfl rfl ?_
  refine SL.eff (Eff.appendE (zs := bs l) tabOk [] (rfl) Try.underlying34 rfl rfl rfl rfl rfl rfl (bs_ones _) (by unfold maxLen; simp only [bs, List.length_map, List.length_cons, List.length_nil]; omega) (by rw [show Try.prog.bytesOf 5 = 1 by kernel_rfl]; simp only [List.length_map, List.length_cons, List.length_nil]; omega)) rfl rfl ?_
  rintro _ _ ⟨r7, rfl, rfl⟩
  refine SL.val (Val.assign rfl) rfl rfl ?_
  refine SL.nil (SE.seq ?_)
  refine SC.ret ?_
  refine SE.freeze [] (t := 2) rfl rfl ?_
  refine SE.fin (rs := [.tmp 2]) rfl (RV.tmp rfl RV.nil) (()) (by repeat first|exact s0 _|exact s1 _|apply s2|apply s3) (by simp [It.rids]) ?_
  exact rfl
theorem kdig_len (k : Nat) (l : List UInt8) : (digA (kdigest k l)).length = 32 := by
  simp only [digA, List.length_map]
  exact Sm.sum_length _
theorem kdig_len' (k : Nat) (l : List UInt8) : (kdigest k l).length = 32 := Sm.sum_length _
set_option maxHeartbeats 2000000 in
theorem kdigest_s (hl : l.length ≤ 1000000000) : Spec Try.prog 22 [ptr t, int k, byt l] [] (fun _ : Unit => []) (fun _ => .agg (digA (kdigest (k8 k) l))) := by
  refine spec_of Try.func22 rfl Try.ntmps22 rfl fun G w => ?_
  refine SC.seq (SC.region ?_)
  refine SL.eff (Eff.alloc tabOk rfl) rfl rfl ?_
  rintro _ _ ⟨b6, rfl, rfl⟩
  refine SL.nil (SE.seq ?_)
  refine SC.seq (SC.region ?_)
  refine SL.call (snew_s) Casts.refl (by kernel_rfl) rfl rfl rfl ?_
  refine After.make2 (by repeat first|exact .nil|refine .blk (by repeat first|assumption|exact m0|apply m1) ?_|refine .rd (by repeat first|assumption|exact m0|apply m1) ?_|refine .pc (by repeat first|assumption|exact m0|apply m1) ?_|refine .rdpc (by repeat first|assumption|exact m0|apply m1) ?_) (fun _ => rfl) ?_
  intro z8
  refine SL.val (Val.assign rfl) rfl rfl ?_
  refine SL.nil (SE.seq ?_)
  refine SC.seq (SC.region ?_)
  refine SL.val (Val.move rfl) rfl rfl ?_
  refine SL.val (Val.move rfl) rfl rfl ?_
  refine SL.val (Val.to (Val.convW rfl Try.underlying5 (by kernel_rfl)) (kwrap k)) rfl rfl ?_
  refine SL.eff (Eff.buildSl (xs := bs [UInt8.ofNat (k8 k)]) tabOk Try.underlying34 rfl rfl rfl rfl rfl rfl rfl) rfl rfl ?_
  rintro _ _ ⟨rfl, rfl⟩
  refine SL.call (sadd_s (h := z8) (v := .slice none 0 0) (s := Sm.new) (l := [UInt8.ofNat (k8 k)]) Sm.new_ok (by simp) (by simp [Sm.new])) Casts.refl (by kernel_rfl) rfl rfl rfl ?_
  refine After.two ⟨rfl, rfl⟩ (fun _ => rfl) ?_
  intro v1
  refine SL.nil (SE.seq ?_)
  refine SC.seq (SC.region ?_)
  refine SL.val (Val.move rfl) rfl rfl ?_
  refine SL.val (Val.move rfl) rfl rfl ?_
  refine SL.call (sadd_s (h := z8) (v := v1) (s := Sm.new.add [UInt8.ofNat (k8 k)]) (l := l) (Sm.add_ok _ _) (by omega) (by simp [Sm.add, Sm.new])) Casts.refl (by kernel_rfl) rfl rfl rfl ?_
  refine After.two ⟨rfl, rfl⟩ (fun _ => rfl) ?_
  intro v2
  refine SL.nil (SE.seq ?_)
  refine SC.seq (SC.region ?_)
  refine SL.val (Val.move rfl) rfl rfl ?_
  refine SL.call (ssum_s (h := z8) (v := v2) (s := (Sm.new.add [UInt8.ofNat (k8 k)]).add l) (Sm.add_ok _ _) (by simp only [Sm.add, Sm.new, List.length_cons, List.length_nil]; omega)) Casts.refl (by kernel_rfl) rfl rfl rfl ?_
  refine After.two0 ⟨rfl, rfl⟩ (fun _ => rfl) ?_
  intro _
  refine SL.eff (Eff.store (L' := digA (kdigest (k8 k) l)) tabOk rfl rfl rfl (by repeat first|assumption|exact Upd.here|apply Upd.there) (by exact kdig_len _ _) (Nat.le_of_ble_eq_true (by rfl)) (by exact ones_dig _) (putL_whole (by exact kdig_len _ _))) rfl rfl ?_
  rintro _ _ ⟨rfl, rfl⟩
  refine SL.nil (SE.seq ?_)
  refine SC.ret ?_
  refine SE.fin (rs := [.cell 6 30]) rfl (RV.cell rfl (RV.cellA tabOk rfl rfl (by first|(apply Or.inl;(repeat first|assumption|exact m0|apply m1);done)|(apply Or.inr;(repeat first|assumption|exact m0|apply m1);done)) (kdig_len _ _)) RV.nil) (()) (by repeat first|exact s0 _|exact s1 _|apply s2|apply s3) (by simp [It.rids]) ?_
  exact rfl
variable {bp bd bt : Nat} {Dm : DMap} {Tm : TMap}
theorem num_len (k : Nat) (n : Nat) : (digA (numB k n)).length = 32 := by simp only [digA, List.length_map]; exact numB_length _ _
set_option maxHeartbeats 2000000 in
theorem bdig_k (hn : es.length ≤ 1000000) (hf : ∀ e ∈ es, e.Few) (hl : (batchB es).length ≤ 1000000000) : Spec Try.prog 19 [.ifc 27 (ptr t), entsA es] [] (fun _ : Unit => []) (fun _ => .agg (digA (kdigest (k8 101) (batchB es)))) := by
  refine spec_of Try.func19 rfl Try.ntmps19 rfl fun G w => ?_
  refine SC.seq (SC.region ?_)
  refine SL.eff (Eff.alloc tabOk rfl) rfl rfl ?_
  rintro _ _ ⟨b4, rfl, rfl⟩
  refine SL.nil (SE.seq ?_)
  refine SC.seq ?_
  refine SC.drawZ [] (.q 0 (.q 1 (.q 3 (.q 4 (.q 5 (.e 2 (.e 6 .nil))))))) (by kernel_rfl) (by kernel_rfl) ?_
  refine SX.val rfl (Val.move rfl) (by simp) rfl rfl ?_
  refine SX.val rfl (Val.move rfl) (by simp) rfl rfl ?_
  refine SX.val rfl (Val.makeFunc rfl rfl) (by simp) rfl rfl ?_
  refine SX.val rfl (Val.nilMethod rfl (fun w => by kernel_rfl)) (by simp) rfl rfl ?_
  refine SX.val rfl (Val.move rfl) (by simp) rfl rfl ?_
  refine SX.call rfl (bbytes_s (es := es) hn hf) (by simp [mids, It.mids]) Casts.refl (by kernel_rfl) rfl rfl rfl ?_
  refine After.pure (by repeat first|exact .nil|refine .blk (by repeat first|assumption|exact m0|apply m1) ?_|refine .rd (by repeat first|assumption|exact m0|apply m1) ?_|refine .pc (by repeat first|assumption|exact m0|apply m1) ?_|refine .rdpc (by repeat first|assumption|exact m0|apply m1) ?_) (fun _ => rfl) ?_
  intro _
  refine SX.invokeR rfl (kdigest_s (t := t) (k := 101) (l := batchB es) hl) (by simp [mids, It.mids]) rfl Casts.refl (fun _ _ _ => by kernel_rfl) rfl rfl rfl ?_
  refine After.pure (by repeat first|exact .nil|refine .blk (by repeat first|assumption|exact m0|apply m1) ?_|refine .rd (by repeat first|assumption|exact m0|apply m1) ?_|refine .pc (by repeat first|assumption|exact m0|apply m1) ?_|refine .rdpc (by repeat first|assumption|exact m0|apply m1) ?_) (fun _ => rfl) ?_
  intro _
  refine SX.nil ?_
  refine SE.effZ rfl (Eff.store (L' := digA (kdigest (k8 101) (batchB es))) tabOk rfl rfl rfl (by repeat first|assumption|exact Upd.here|apply Upd.there) (kdig_len _ _) (Nat.le_of_ble_eq_true (by rfl)) (by exact ones_dig _) (putL_whole (by exact kdig_len _ _))) rfl rfl ?_
  rintro _ _ ⟨rfl, rfl⟩
  refine SE.seq ?_
  refine SC.ret ?_
  refine SE.fin (rs := [.cell 4 30]) rfl (RV.cell rfl (RV.cellA tabOk rfl rfl (by first|(apply Or.inl;(repeat first|assumption|exact m0|apply m1);done)|(apply Or.inr;(repeat first|assumption|exact m0|apply m1);done)) (kdig_len _ _)) RV.nil) (()) (by repeat first|exact s0 _|exact s1 _|apply s2|apply s3) (by simp [It.rids]) ?_
  exact rfl
set_option maxHeartbeats 2000000 in
theorem bdig_b (hn : es.length ≤ 1000000) (hf : ∀ e ∈ es, e.Few) (hl : (batchB es).length ≤ maxLen) (hm : Dm.length < 1000000) (hpl : pl Dm (k8 101, batchB es) < 9223372036854775808) : Spec Try.prog 19 [.ifc 25 (ptr bp), entsA es] [.pc (bkPc bp bd bt Dm Tm)] (fun _ : Unit => [.pc (bkPc bp bd bt (pm Dm (k8 101, batchB es)) Tm)]) (fun _ => .agg (digA (numB (k8 101) (pl Dm (k8 101, batchB es))))) := by
  refine spec_of Try.func19 rfl Try.ntmps19 rfl fun G w => ?_
  refine SC.seq (SC.region ?_)
  refine SL.eff (Eff.alloc tabOk rfl) rfl rfl ?_
  rintro _ _ ⟨b4, rfl, rfl⟩
  refine SL.nil (SE.seq ?_)
  refine SC.seq ?_
  refine SC.drawZ [bp, bd, bt] (.q 0 (.q 1 (.q 3 (.q 4 (.q 5 (.e 2 (.e 6 .nil))))))) (by kernel_rfl) (by kernel_rfl) ?_
  refine SX.val rfl (Val.move rfl) (by first | (simp [mids, It.mids, ownPc, bkPc]; done) | (intro k hk; simp [mids, It.mids, ownPc, bkPc] at hk ⊢; grind)) rfl rfl ?_
  refine SX.val rfl (Val.move rfl) (by first | (simp [mids, It.mids, ownPc, bkPc]; done) | (intro k hk; simp [mids, It.mids, ownPc, bkPc] at hk ⊢; grind)) rfl rfl ?_
  refine SX.val rfl (Val.makeFunc rfl rfl) (by first | (simp [mids, It.mids, ownPc, bkPc]; done) | (intro k hk; simp [mids, It.mids, ownPc, bkPc] at hk ⊢; grind)) rfl rfl ?_
  refine SX.val rfl (Val.nilMethod rfl (fun w => by kernel_rfl)) (by first | (simp [mids, It.mids, ownPc, bkPc]; done) | (intro k hk; simp [mids, It.mids, ownPc, bkPc] at hk ⊢; grind)) rfl rfl ?_
  refine SX.val rfl (Val.move rfl) (by first | (simp [mids, It.mids, ownPc, bkPc]; done) | (intro k hk; simp [mids, It.mids, ownPc, bkPc] at hk ⊢; grind)) rfl rfl ?_
  refine SX.call rfl (bbytes_s (es := es) hn hf) (by simp [mids, It.mids]) Casts.refl (by kernel_rfl) rfl rfl rfl ?_
  refine After.pure (by repeat first|exact .nil|refine .blk (by repeat first|assumption|exact m0|apply m1) ?_|refine .rd (by repeat first|assumption|exact m0|apply m1) ?_|refine .pc (by repeat first|assumption|exact m0|apply m1) ?_|refine .rdpc (by repeat first|assumption|exact m0|apply m1) ?_) (fun _ => rfl) ?_
  intro _
  refine SX.invokeR rfl (bkdigest_s (p := bp) (bd := bd) (bt := bt) (D := Dm) (T := Tm) (k := 101) (l := batchB es) hl hm hpl) (by simp [mids, It.mids, bkPc]) rfl Casts.refl (fun _ _ _ => by kernel_rfl) rfl rfl rfl ?_
  refine After.one rfl (by repeat first|assumption|exact m0|apply m1) (fun _ => rfl) ?_
  intro _
  refine ⟨_, (by repeat first|assumption|exact Upd.here|apply Upd.there), ?_⟩
  refine SX.nil ?_
  refine SE.effZ rfl (Eff.store (L' := digA (numB (k8 101) (pl Dm (k8 101, batchB es)))) tabOk rfl rfl rfl (by repeat first|assumption|exact Upd.here|apply Upd.there) (num_len _ _) (Nat.le_of_ble_eq_true (by rfl)) (by exact ones_dig _) (putL_whole (by exact num_len _ _))) rfl rfl ?_
  rintro _ _ ⟨rfl, rfl⟩
  refine SE.seq ?_
  refine SC.ret ?_
  refine SE.fin (rs := [.cell 4 30]) rfl (RV.cell rfl (RV.cellA tabOk rfl rfl (by first|(apply Or.inl;(repeat first|assumption|exact m0|apply m1);done)|(apply Or.inr;(repeat first|assumption|exact m0|apply m1);done)) (num_len _ _)) RV.nil) (()) (by repeat first|exact s0 _|exact s1 _|apply s2|apply s3) (by simp [It.rids]) ?_
  exact rfl
end
end Go.Proofs.Ytpgffckfbgfgcaa.A
/-
  Layer 5 over the engine: a book as a piece of memory, its calls as steps.
-/
set_option maxRecDepth 100000
namespace Go.Proofs.Ytpgffckfbgfgcaa
open Go.RowKit

abbrev DMap := List ((Nat × List UInt8) × Nat)
abbrev TMap := List (((Int × Int) × List UInt8) × Nat)
/-- A book as a piece of memory. -/
def bookPc (p bd bt : Nat) (D : DMap) (T : TMap) : Pc where
  ids := [p, bd, bt]
  p := fun w => BookAt w p bd bt D T
  st := fun F w w' hx hF h => h.ext hx (hF p (by simp)) (hF bd (by simp)) (hF bt (by simp))
  lt := fun w h k hk => by
    simp only [List.mem_cons, List.not_mem_nil, or_false] at hk
    rcases hk with rfl | rfl | rfl
    · exact h.blk.lt
    · exact h.md.lt
    · exact h.mt.lt
section
variable {S : List (World × List Nat)} {σ τ : Blks} {ρ : List Dt} {w : World} {p bd bt : Nat} {D : DMap} {T : TMap} {k x y : Int} {v : Value} {l : List UInt8}
theorem book_ids (h : BookAt w p bd bt D T) : (It.ids (.pc (bookPc p bd bt D T))).Nodup := by
  obtain ⟨h1, h2, h3⟩ := h.ne
  simp [It.ids, bookPc]
  omega
theorem new_c (hw : Mem S σ ρ w) : Calls Try.prog 17 #[] w fun e w' => ∃ p bd bt, e = .returned (.pointer (some ⟨p, 0, none⟩)) ∧ Mem S (.pc (bookPc p bd bt [] []) :: σ) ρ w' :=
  (book_New w).mono fun e w' ⟨h1, h2, h3⟩ => ⟨_, _, _, h1, hw.new h3 h2 (book_ids h2) (by simp [It.ids, bookPc])⟩
theorem digest_c (hw : Mem S σ ρ w) (u : Upd (.pc (bookPc p bd bt D T)) (.pc (bookPc p bd bt (pm D (k8 k, l)) T)) σ τ) (hv : BytesV w v l) (hl : l.length ≤ 1000) (hm : D.length < 1000000) (hpl : pl D (k8 k, l) < 9223372036854775808) :
    Calls Try.prog 161 #[.pointer (some ⟨p, 0, none⟩), .int .i64 k, v] w fun e w' => e = .returned (arrB (numB (k8 k) (pl D (k8 k, l)))) ∧ Mem S τ ρ w' :=
  (book_Digest w p bd bt D T k v l (hw.hold _ u.mem) hv ⟨by show k8 k < 256; unfold k8; omega, by show l.length ≤ maxLen; unfold maxLen; omega⟩ (by omega) hpl).mono fun e w' ⟨h1, h2, h3⟩ =>
    ⟨by rw [← numV_arr _ _ (by unfold k8; omega)]; exact h1, hw.upd u (h3.mono (by simp [It.ids, bookPc])) h2 (book_ids h2) (fun k hk => .inl hk)⟩
theorem tag_c (hw : Mem S σ ρ w) (u : Upd (.pc (bookPc p bd bt D T)) (.pc (bookPc p bd bt D (pm T ((x, y), l)))) σ τ) (hv : BytesV w v l) (hx : i64r x) (hy : i64r y) (hl : l.length ≤ 1000) (hm : T.length < 1000000) (hpl : pl T ((x, y), l) < 9223372036854775808) :
    Calls Try.prog 162 #[.pointer (some ⟨p, 0, none⟩), .int .i64 x, .int .i64 y, v] w fun e w' => e = .returned (arrB (numB 255 (pl T ((x, y), l)))) ∧ Mem S τ ρ w' :=
  (book_Tag w p bd bt D T x y v l (hw.hold _ u.mem) hv ⟨hx, hy, by show l.length ≤ maxLen; unfold maxLen; omega⟩ (by omega) hpl).mono fun e w' ⟨h1, h2, h3⟩ =>
    ⟨by rw [← numV_arr _ _ (by omega)]; exact h1, hw.upd u (h3.mono (by simp [It.ids, bookPc])) h2 (book_ids h2) (fun k hk => .inl hk)⟩
theorem bkcheck_c (hw : Mem S σ ρ w) (hb : It.pc (bookPc p bd bt D T) ∈ σ) (u : Upd (.pc (bookPc p bd bt D T)) (.pc (bookPc p bd bt D T)) σ σ) (hv : BytesV w v l) {M : List UInt8} (hM : M.length = 32) (hx : i64r x) (hy : i64r y) (hl : l.length ≤ 1000) (hm : T.length < 1000000) (hpl : pl T ((x, y), l) < 9223372036854775808)
    (b : Bool) (hbb : ((aget T ((x, y), l)).isSome && decide (M = numB 255 (pl T ((x, y), l)))) = b) :
    Calls Try.prog 163 #[.pointer (some ⟨p, 0, none⟩), .int .i64 x, .int .i64 y, v, arrB M] w fun e w' => e = .returned (.bool b) ∧ Mem S σ ρ w' :=
  (book_Check w p bd bt D T x y v l M (hw.hold _ hb) hv ⟨hx, hy, by show l.length ≤ maxLen; unfold maxLen; omega⟩ hM (by omega) hpl b hbb).mono fun e w' ⟨h1, h2, h3⟩ =>
    ⟨h1, hw.upd u (h3.mono (by simp [It.ids, bookPc])) h2 (book_ids h2) (fun k hk => .inl hk)⟩
theorem upd_same {x : It} : ∀ {σ : Blks}, x ∈ σ → Upd x x σ σ
  | [], h => by cases h
  | y :: σ, h => by
    rcases List.mem_cons.1 h with rfl | h
    · exact .here
    · exact .there (upd_same h)
variable {P : Program} {n : Nat} {ls : Slots} {C : World → Prop} {d : Option Nat} {ty : TypeId} {pos : String} {aft : Array Edge} {g : Option (Nat × Bool)} {z z' : Operand} {t t' : TypeId}
/-- A row of bytes as a text. -/
theorem Val.toStr (hx : look ls z = some v) (hv : ∀ w, C w → BytesV w v l) : Val Try.prog n ls C ⟨d, .convert 34 9 z, ty, pos, aft, g⟩ (.string ⟨l.toArray⟩) := fun A w hf hw => by
  have := conv_txt (hv w hw)
  simp [execOp, hf.eval hx, this, Result.andThen]
/-- Two bools, of which is known whether they are the same. -/
theorem Val.neBF {p q : Bool} (hx : look ls z = some (.bool p)) (hy : look ls z' = some (.bool q)) (ht : P.underlying t = some .bool) (h : p = q) : Val P n ls C ⟨d, .binOp .neq t z z' t', ty, pos, aft, g⟩ (.bool false) := by
  have := Val.neB (n := n) (D := C) (d := d) (ty := ty) (t' := t') (pos := pos) (aft := aft) (g := g) hx hy ht
  subst h
  simpa using this
theorem Val.neAF {X Y : List UInt8} {T : TypeId} (hu : Try.prog.underlying T = some (.array 32 5)) (hc : Try.prog.cellsOf T = 32) (hk : Try.prog.keyTypeAt 4 T = true) (hx : look ls z = some (arrB X)) (hy : look ls z' = some (arrB Y)) (hg : Try.prog.eqGuardType Try.prog.depth T = false) (hX : X.length = 32) (h : X = Y) :
    Val Try.prog n ls C ⟨d, .binOp .neq T z z' t', ty, pos, aft, g⟩ (.bool false) :=
  Val.neA hx hy hg (neqB hu hc hk X Y hX (h ▸ hX) false (by simp [h]))
theorem Val.eqAB {X Y : List UInt8} {T : TypeId} (b : Bool) (hu : Try.prog.underlying T = some (.array 32 5)) (hc : Try.prog.cellsOf T = 32) (hk : Try.prog.keyTypeAt 4 T = true) (hx : look ls z = some (arrB X)) (hy : look ls z' = some (arrB Y)) (hg : Try.prog.eqGuardType Try.prog.depth T = false) (hX : X.length = 32) (hY : Y.length = 32) (h : decide (X = Y) = b) :
    Val Try.prog n ls C ⟨d, .binOp .eql T z z' t', ty, pos, aft, g⟩ (.bool b) :=
  Val.eqA hx hy hg (eqlB hu hc hk X Y hX hY b h)
end
theorem bcs_one (l : List UInt8) : ∀ u ∈ l.map bc, u.oneCell' = true := bc_one
end Go.Proofs.Ytpgffckfbgfgcaa
/-
  Batches: their digest through an interface; the law's own check of the program.
-/
set_option maxRecDepth 100000
namespace Go.Proofs.Ytpgffckfbgfgcaa
open Go.RowKit

section
variable {S : List (World × List Nat)} {σ τ : Blks} {ρ : List Dt} {w : World} {p bd bt : Nat} {Dm : DMap} {Tm : TMap} {P : Program} {n : Nat} {l : Slots} {D : World → Prop} {o : Oper} {v u : Value}
theorem putAt32 (L : List UInt8) (hL : L.length = 32) : putAt (List.replicate 32 (.int .u8 0)) 0 (L.map bc) = L.map bc := by
  simp [putAt, hL]
set_option maxHeartbeats 1000000 in
theorem bdigest_c {es : List Ent} (hw : Mem S σ ρ w) (u : Upd (.pc (bookPc p bd bt Dm Tm)) (.pc (bookPc p bd bt (pm Dm (k8 101, batchB es)) Tm)) σ τ) (he : entsD v es ∈ ρ) (hl : es.length ≤ 1000000) (hf : ∀ e ∈ es, e.Few) (hb : (batchB es).length ≤ 1000) (hm : Dm.length < 1000000) (hpl : pl Dm (k8 101, batchB es) < 9223372036854775808) :
    Calls Try.prog 19 #[.iface 25 (.pointer (some ⟨p, 0, none⟩)), v] w fun e w' => e = .returned (arrB (numB (k8 101) (pl Dm (k8 101, batchB es)))) ∧ Mem S τ ρ w' := by
  refine calls_of [.iface 25 (.pointer (some ⟨p, 0, none⟩)), v] Try.func19 rfl Try.ntmps19 rfl (Mem S σ ρ) hw ?_
  refine SC.seq (SC.region ?_)
  refine SL.eff (Eff.alloc tabOk rfl) rfl rfl ?_
  rintro _ _ ⟨b4, rfl, rfl⟩
  refine SL.nil (SE.seq ?_)
  refine SC.seq ?_
  refine SC.draw (Mem S [] []) (.q 0 (.q 1 (.q 3 (.q 4 (.q 5 (.e 2 (.e 6 (.e 7 .nil)))))))) (by kernel_rfl) (by kernel_rfl) (fun _ h => (h.sub (fun _ h => h) (List.nil_sublist _)).less (by repeat (first | exact (fun _ h => (List.not_mem_nil h).elim) | refine List.forall_mem_cons.2 ⟨(by repeat (first | assumption | exact List.mem_cons_self | exact hmem _ | apply List.mem_cons_of_mem)), ?_⟩))) (fun _ h => h.drew) ?_
  refine SX.val rfl (Val.move rfl) rfl rfl ?_
  refine SX.val rfl (Val.move rfl) rfl rfl ?_
  refine SX.val rfl (Val.makeFunc rfl rfl) rfl rfl ?_
  refine SX.val rfl (Val.nilMethod rfl (fun w => by kernel_rfl)) rfl rfl ?_
  refine SX.val rfl (Val.move rfl) rfl rfl ?_
  refine SX.call rfl (by kernel_rfl) rfl rfl rfl ?_
  intro w hw
  refine (batchBytes_c (es := es) hw (by repeat (first | assumption | exact List.mem_cons_self | exact hmem _ | apply List.mem_cons_of_mem)) hl hf).mono ?_; rintro _ _ ⟨r, rfl, hm⟩; refine ⟨_, _, rfl, hm, _, fun _ h => h, fun _ h => (h.sub (fun _ h => h) (List.nil_sublist _)).less (by repeat (first | exact (fun _ h => (List.not_mem_nil h).elim) | refine List.forall_mem_cons.2 ⟨(by repeat (first | assumption | exact List.mem_cons_self | exact hmem _ | apply List.mem_cons_of_mem)), ?_⟩)), ?_⟩; clear hm hw w
  refine SX.invoke (f := 161) rfl rfl rfl (fun w => by kernel_rfl) rfl rfl ?_
  intro w hw
  refine (digest_c hw (by repeat (first | assumption | exact Upd.here | exact hrep _ _ | apply Upd.there)) (hw.bytes (v := r) (l := batchB es) (by repeat (first | assumption | exact List.mem_cons_self | exact hmem _ | apply List.mem_cons_of_mem))) hb hm hpl).mono ?_; rintro _ _ ⟨rfl, hm'⟩; refine ⟨_, _, rfl, hm', _, fun _ h => h, fun _ h => (h.sub (fun _ h => h) (List.nil_sublist _)).less (by repeat (first | exact (fun _ h => (List.not_mem_nil h).elim) | refine List.forall_mem_cons.2 ⟨(by repeat (first | assumption | exact List.mem_cons_self | exact hmem _ | apply List.mem_cons_of_mem)), ?_⟩)), ?_⟩; clear hm' hw w
  refine SX.eff rfl (Eff.storeA (L' := (numB (k8 101) (pl Dm (k8 101, batchB es))).map bc) (vs := (numB (k8 101) (pl Dm (k8 101, batchB es))).map bc) tabOk rfl rfl rfl (by repeat (first | assumption | exact Upd.here | exact hrep _ _ | apply Upd.there)) (by rw [List.length_map, numB_length]) (by decide) bc_one (putAt32 _ (numB_length _ _))) rfl rfl ?_
  rintro _ _ ⟨rfl, rfl⟩
  refine ⟨_, fun _ h => h, fun _ h => (h.sub (fun _ h => h) (List.nil_sublist _)).less (by repeat (first | exact (fun _ h => (List.not_mem_nil h).elim) | refine List.forall_mem_cons.2 ⟨(by repeat (first | assumption | exact List.mem_cons_self | exact hmem _ | apply List.mem_cons_of_mem)), ?_⟩)), ?_⟩
  refine SX.nil (SE.seq ?_)
  refine SC.ret ?_
  refine SE.retn (rs := [.cell 4 30]) rfl (RV.cell rfl (fun w hw => RV.loadA tabOk rfl rfl hw (by repeat (first | assumption | exact List.mem_cons_self | exact hmem _ | apply List.mem_cons_of_mem)) (by rfl)) RV.nil) ?_
  intro w' hw'
  exact ⟨rfl, (hw'.sub (fun _ h => h) (List.sublist_cons_self _ _)).less (fun x hx => by simp [hx])⟩

/-! ### 'fixed' -/
def e1 : Ent := ⟨⟨4, 1, 2, ⟨#[97]⟩, 0, 0, ⟨#[]⟩⟩, 3⟩
theorem e1_lits : e1.Lits := ⟨⟨by decide, by decide⟩, ⟨by decide, by decide⟩, ⟨by decide, by decide⟩, ⟨by decide, by decide⟩, ⟨by decide, by decide⟩, by decide, by decide, by decide⟩
theorem e1_parse : parseS (batchB [e1]) 4 = ([e1], 0) := by kernel_rfl
theorem e1_two : decide (chkB [e1, e1] 4 = 15) = true := by kernel_rfl
theorem e1_ne : decide (numB (k8 101) (pl [] (k8 101, batchB [e1])) ≠ numB (k8 101) (pl (pm [] (k8 101, batchB [e1])) (k8 101, batchB []))) = true := by kernel_rfl
set_option maxHeartbeats 1000000 in
theorem fixed15_c (hw : Mem S σ ρ w) : Calls Try.prog 15 #[] w fun e w' => e = .returned (.bool true) ∧ Mem S σ ρ w' := by
  refine calls_of [] Try.func15 rfl Try.ntmps15 rfl (Mem S σ ρ) hw ?_
  refine SC.seq (SC.region ?_)
  refine SL.val (Val.assign rfl) rfl rfl ?_
  refine SL.nil (SE.seq ?_)
  refine SC.seq (SC.region ?_)
  refine SL.val (Val.buildS tabOk rfl rfl rfl rfl) rfl rfl ?_
  refine SL.val (Val.buildS tabOk rfl rfl rfl rfl) rfl rfl ?_
  refine SL.eff (Eff.buildSlice (L := e1.cells) tabOk Try.underlying22 rfl rfl (fun L0 h => by match L0, h with | [_, _, _, _, _, _, _, _], _ => rfl) rfl) rfl rfl ?_
  rintro _ _ ⟨b7, rfl, rfl⟩
  refine SL.to (C' := Mem S σ (entsD (.slice (some ⟨b7, 0, none⟩) 1 1) [e1] :: ρ)) (fun _ h => h.blkData (by decide) (by decide)) ?_
  refine SL.val (Val.assign rfl) rfl rfl ?_
  refine SL.nil (SE.seq ?_)
  refine SC.seq (SC.region ?_)
  refine SL.val (Val.move rfl) rfl rfl ?_
  refine SL.call (by kernel_rfl) rfl rfl rfl ?_
  intro w hw
  refine (batchBytes_c (es := [e1]) hw (by repeat (first | assumption | exact List.mem_cons_self | exact hmem _ | apply List.mem_cons_of_mem)) (by decide) (by intro e he; rw [List.mem_singleton.1 he]; exact ⟨by decide, by decide, by decide⟩)).mono ?_; rintro _ _ ⟨r, rfl, hm⟩; refine ⟨_, _, rfl, hm, ?_⟩; clear hm hw w
  refine SL.call (by kernel_rfl) rfl rfl rfl ?_
  intro w hw
  refine (parse_own (l := batchB [e1]) hw (by repeat (first | assumption | exact List.mem_cons_self | exact hmem _ | apply List.mem_cons_of_mem)) (by decide)).mono ?_; rw [e1_parse]; rintro _ _ ⟨r2, rfl, hm⟩; obtain ⟨A2, c2, rfl, _, _, _⟩ := (hm.ownRow List.mem_cons_self).shape; refine ⟨_, _, rfl, hm, ?_⟩; clear hm hw w
  refine SL.val (Val.move rfl) rfl rfl ?_
  refine SL.val (Val.extract rfl rfl) rfl rfl ?_
  refine SL.val (Val.extract rfl rfl) rfl rfl ?_
  refine SL.val (Val.assign rfl) rfl rfl ?_
  refine SL.val (Val.assign rfl) rfl rfl ?_
  refine SL.nil (SE.seq ?_)
  refine SC.seq (SC.region ?_)
  refine SL.call (by kernel_rfl) rfl rfl rfl ?_
  intro w hw
  refine (new_c hw).mono ?_; rintro _ _ ⟨p, bd, bt, rfl, hm⟩; refine ⟨_, _, rfl, hm, ?_⟩; clear hm hw w
  refine SL.val (Val.assign rfl) rfl rfl ?_
  refine SL.nil (SE.seq ?_)
  refine SC.seq (SC.region ?_)
  refine SL.call (by kernel_rfl) rfl rfl rfl ?_
  intro w hw
  refine (batchBytes_c (es := []) (hw.add (z := entsD (.slice none 0 0) []) (IsRow.nil rfl)) List.mem_cons_self (by decide) (by simp)).mono ?_; rintro _ _ ⟨r15, rfl, hm⟩; refine ⟨_, _, rfl, hm, ?_⟩; clear hm hw w
  refine SL.val (Val.strOf rfl (by repeat (first | assumption | exact List.mem_cons_self | exact hmem _ | apply List.mem_cons_of_mem))) rfl rfl ?_
  refine SL.val (Val.to (u := .bool true) (Val.eqS rfl rfl) (by kernel_rfl)) rfl rfl ?_
  refine SL.val (Val.move rfl) rfl rfl ?_
  refine SL.val (Val.move rfl) rfl rfl ?_
  refine SL.val (Val.to (u := .bool true) (Val.eqI rfl rfl) (by rfl)) rfl rfl ?_
  refine SL.val (Val.pickT rfl rfl) rfl rfl ?_
  refine SL.val (Val.move rfl) rfl rfl ?_
  refine SL.val (Val.move rfl) rfl rfl ?_
  refine SL.val (Val.move rfl) rfl rfl ?_
  refine SL.call (by kernel_rfl) rfl rfl rfl ?_
  intro w hw
  refine (same_at (es := [e1]) (fs := [e1]) hw (hw.data (z := entsD (.slice (some ⟨b7, 0, none⟩) 1 1) [e1]) (by repeat (first | assumption | exact List.mem_cons_self | exact hmem _ | apply List.mem_cons_of_mem))) (hw.ownRow (size := 8) (by repeat (first | assumption | exact List.mem_cons_self | exact hmem _ | apply List.mem_cons_of_mem))) (by decide) (by intro e he; rw [List.mem_singleton.1 he]; exact e1_lits) (by intro e he; rw [List.mem_singleton.1 he]; exact e1_lits)).mono ?_; rintro _ _ ⟨he, hm⟩; rw [decide_eq_true rfl] at he; subst he; refine ⟨_, _, rfl, hm, ?_⟩; clear hm hw w
  refine SL.val (Val.pickT rfl rfl) rfl rfl ?_
  refine SL.val (Val.move rfl) rfl rfl ?_
  refine SL.val (Val.move rfl) rfl rfl ?_
  refine SL.val (Val.move rfl) rfl rfl ?_
  refine SL.eff (Eff.append (pre := [_]) (k := 1) (m := 1) (news := e1.cells) tabOk Try.underlying22 rfl rfl rfl rfl rfl (fun _ hw => ⟨_, hw.ownRow (size := 8) (by repeat (first | assumption | exact List.mem_cons_self | exact hmem _ | apply List.mem_cons_of_mem))⟩) rfl (Ent.one _) (by unfold maxLen; omega) (by rw [show Try.prog.bytesOf 150 = 80 by kernel_rfl]; omega)) rfl rfl ?_
  rintro r30 _ rfl
  refine SL.call (by kernel_rfl) rfl rfl rfl ?_
  intro w hw
  refine (batchCheckOwn_c (es := [e1, e1]) hw (by repeat (first | assumption | exact List.mem_cons_self | exact hmem _ | apply List.mem_cons_of_mem)) (by decide)).mono ?_; rintro _ _ ⟨rfl, hm⟩; refine ⟨_, _, rfl, hm, ?_⟩; clear hm hw w
  refine SL.val (Val.to (u := .bool true) (Val.eqI rfl rfl) (congrArg Value.bool e1_two)) rfl rfl ?_
  refine SL.val (Val.pickT rfl rfl) rfl rfl ?_
  refine SL.val (Val.move rfl) rfl rfl ?_
  refine SL.val (Val.move rfl) rfl rfl ?_
  refine SL.val (Val.makeIface rfl (fun w => by kernel_rfl)) rfl rfl ?_
  refine SL.val (Val.move rfl) rfl rfl ?_
  refine SL.call (by kernel_rfl) rfl rfl rfl ?_
  intro w hw
  refine (bdigest_c (es := [e1]) (v := .slice (some ⟨b7, 0, none⟩) 1 1) hw (by repeat (first | assumption | exact Upd.here | exact hrep _ _ | apply Upd.there)) (by repeat (first | assumption | exact List.mem_cons_self | exact hmem _ | apply List.mem_cons_of_mem)) (by decide) (by intro e he; rw [List.mem_singleton.1 he]; exact ⟨by decide, by decide, by decide⟩) (by decide) (by decide) (Nat.le_of_ble_eq_true (by kernel_rfl))).mono ?_; rintro _ _ ⟨rfl, hm⟩; refine ⟨_, _, rfl, hm, ?_⟩; clear hm hw w
  refine SL.val (Val.move rfl) rfl rfl ?_
  refine SL.val (Val.makeIface rfl (fun w => by kernel_rfl)) rfl rfl ?_
  refine SL.call (by kernel_rfl) rfl rfl rfl ?_
  intro w hw
  refine (bdigest_c (es := []) hw (by repeat (first | assumption | exact Upd.here | exact hrep _ _ | apply Upd.there)) (by repeat (first | assumption | exact List.mem_cons_self | exact hmem _ | apply List.mem_cons_of_mem)) (by decide) (by simp) (by decide) (by decide) (Nat.le_of_ble_eq_true (by kernel_rfl))).mono ?_; rintro _ _ ⟨rfl, hm⟩; refine ⟨_, _, rfl, hm, ?_⟩; clear hm hw w
  refine SL.val (Val.neA (v := .bool true) rfl rfl (by kernel_rfl) (neqB Try.underlying30 (by kernel_rfl) (by kernel_rfl) _ _ (numB_length _ _) (numB_length _ _) true e1_ne)) rfl rfl ?_
  refine SL.val (Val.pickT rfl rfl) rfl rfl ?_
  refine SL.val (Val.assign rfl) rfl rfl ?_
  refine SL.nil (SE.seq ?_)
  refine SC.ret ?_
  refine SE.ret1 rfl rfl ?_
  intro w' hw'
  exact ⟨rfl, (hw'.sub (fun _ h => h) (List.sublist_append_right [_, _] _)).less (fun x hx => by simp [hx])⟩

end
end Go.Proofs.Ytpgffckfbgfgcaa
/-
  Batches, in plain Lean: what is written reads back.
-/
set_option maxRecDepth 100000
namespace Go.Proofs.Ytpgffckfbgfgcaa
open Go.RowKit

/-- A reader that has not failed, ahead of these bytes. -/
def Rd.At (s : Rd) (l : List UInt8) : Prop := s.e = 0 ∧ s.l = l
theorem at_fixed {s : Rd} {x r : List UInt8} (h : s.At (x ++ r)) {n : Int} (hn : n = x.length) : (s.fixed n).At r ∧ s.out n = x := by
  obtain ⟨h1, h2⟩ := h
  have hb : ¬ s.bad n := by
    unfold Rd.bad
    rw [h2, List.length_append]
    omega
  have ht : n.toNat = x.length := by omega
  unfold Rd.At Rd.fixed Rd.out
  simp only [h1, ne_eq, not_true_eq_false, if_false, hb, h2, ht]
  simp
theorem at_num {s : Rd} {r : List UInt8} {v k : Nat} (h : s.At (beBytes v k ++ r)) (hv : v < 256 ^ k) {n : Int} (hn : n = k) : (s.fixed n).At r ∧ s.num n = v := by
  obtain ⟨h1, h2⟩ := at_fixed h (n := n) (by rw [beBytes_length]; exact hn)
  exact ⟨h1, by rw [Rd.num, h2, beVal_be v k hv]⟩
theorem at_row {s : Rd} {x r : List UInt8} {most : Int} (h : s.At (rowB x ++ r)) (hx : x.length ≤ most) (hx2 : x.length < 4294967296) : (s.row most).At r ∧ s.rowOut most = x := by
  unfold rowB at h
  rw [List.append_assoc] at h
  obtain ⟨h1, h2⟩ := at_num h (by omega) (n := 4) rfl
  obtain ⟨h3, h4⟩ := at_fixed h1 (n := s.num 4) (by rw [h2])
  have hm : ¬ most < s.num 4 := by rw [h2]; omega
  unfold Rd.row Rd.rowOut
  simp only [h1.1, ne_eq, not_true_eq_false, if_false, hm]
  exact ⟨h3, h4⟩
theorem sg_u64 {a : Int} (h : InR .i64 a) : sg (u64 a) = a := by
  obtain ⟨h1, h2⟩ := h
  simp only [lo, hi] at h1 h2
  unfold sg u64
  simp [IntKind.wrap, IntKind.bits, IntKind.signed]
  split <;> omega
theorem u64_nat {a : Int} (h : 0 ≤ a) (h2 : a < 18446744073709551616) : ((u64 a : Nat) : Int) = a := by
  unfold u64
  omega
theorem txtB_bytes (b : ByteArray) : txtB b.data.toList = b := by
  unfold txtB
  simp
/-- A core that may be written and read. -/
structure Core.Back (c : Core) : Prop where
  client : 0 ≤ c.client ∧ c.client < 256
  stamp : InR .i64 c.stamp
  op : 0 ≤ c.op ∧ c.op < 256
  a : InR .i64 c.a
  b : InR .i64 c.b
theorem at_core {s : Rd} {c : Core} {most : Int} (h : s.At c.bytes) (hc : c.Back) (hl : (c.bytes.length : Int) ≤ most) (hl2 : c.bytes.length < 4294967296) : (s.coreEnd most).At [] ∧ s.core most = c := by
  have e1 : c.letter.data.toList.length = c.letter.size := by simp
  have e2 : c.text.data.toList.length = c.text.size := by simp
  have hlen := Core.bytes_length c
  unfold Core.bytes at h
  simp only [List.append_assoc] at h
  have u1 := u64_nat hc.client.1 (by have := hc.client.2; omega)
  have u2 := u64_nat hc.op.1 (by have := hc.op.2; omega)
  have g1 := hc.client.2
  have g2 := hc.op.2
  obtain ⟨a1, b1⟩ := at_num h (by omega) (n := 1) rfl
  obtain ⟨a2, b2⟩ := at_num a1 (by have := u64_lt c.stamp; omega) (n := 8) rfl
  obtain ⟨a3, b3⟩ := at_num a2 (by omega) (n := 1) rfl
  obtain ⟨a4, b4⟩ := at_row (most := most) a3 (by omega) (by omega)
  obtain ⟨a5, b5⟩ := at_num a4 (by have := u64_lt c.a; omega) (n := 8) rfl
  obtain ⟨a6, b6⟩ := at_num a5 (by have := u64_lt c.b; omega) (n := 8) rfl
  rw [← List.append_nil (rowB c.text.data.toList)] at a6
  obtain ⟨a7, b7⟩ := at_row (most := most) a6 (by omega) (by omega)
  refine ⟨a7, ?_⟩
  unfold Rd.core
  unfold Rd.c6 Rd.c4 Rd.c3
  rw [b1, b2, b3, b4, b5, b6, b7, u1, u2, sg_u64 hc.stamp, sg_u64 hc.a, sg_u64 hc.b, txtB_bytes, txtB_bytes]
/-- An entry that may be written and read. -/
structure Ent.Back (e : Ent) : Prop where
  core : e.core.Back
  mask : e.mask < 256
  len : e.core.bytes.length ≤ 100000
theorem ents_back {L : Int} : ∀ (es : List Ent) (s : Rd) (acc : List Ent), (∀ e ∈ es, e.Back ∧ (e.core.bytes.length : Int) ≤ L) → s.At (es.flatMap Ent.bytes) → ∃ t : Rd, t.At [] ∧ s.ents L es.length acc = some (acc ++ es, t)
  | [], s, acc, _, h => ⟨s, h, by simp [Rd.ents]⟩
  | e :: es, s, acc, hall, h => by
    obtain ⟨he, hL⟩ := hall e List.mem_cons_self
    have hlen := he.len
    rw [List.flatMap_cons, Ent.bytes, List.append_assoc] at h
    obtain ⟨a1, b1⟩ := at_row (most := L) h hL (by omega)
    obtain ⟨a2, b2⟩ := at_num a1 (by have := he.mask; omega) (n := 1) rfl
    obtain ⟨c1, c2⟩ := at_core (s := Rd.of e.core.bytes) (c := e.core) (most := (e.core.bytes.length : Nat)) ⟨rfl, rfl⟩ he.core (Int.le_refl _) (by omega)
    have hok : okOf e.core.bytes (e.core.bytes.length : Nat) = true := by
      refine decide_eq_true ?_
      unfold Rd.end_
      rw [c1.1, c1.2]
      simp
    have hco : coreOf e.core.bytes (e.core.bytes.length : Nat) = e.core := c2
    obtain ⟨t, ht, hr⟩ := ents_back es ((s.row L).fixed 1) (acc ++ [e]) (fun x hx => hall x (List.mem_cons_of_mem _ hx)) a2
    refine ⟨t, ht, ?_⟩
    rw [List.length_cons]
    simp only [Rd.ents]
    rw [b1, hok, if_neg (by decide), hco, b2]
    rw [List.append_assoc] at hr
    exact hr
theorem of_if {b : Bool} {r : Int} (h : (if b = true then (15 : Int) else r) = 0) : r = 0 := by
  cases b with
  | false => simpa using h
  | true => simp at h
theorem chkL_all {n : Int} : ∀ (es : List Ent) (p : Option Int), chkL n p es = 0 → ∀ e ∈ es, e.core.check n = 0 ∧ e.mask < 2 ^ n.toNat
  | [], _, _ => by simp
  | e :: es, p, h => by
    simp only [chkL] at h
    split at h
    · rename_i h1; exact absurd h h1
    · rename_i h1
      split at h
      · exact absurd h (by decide)
      · rename_i h2
        intro x hx
        rcases List.mem_cons.1 hx with rfl | hx
        · exact ⟨Decidable.not_not.1 h1, by omega⟩
        · exact chkL_all es _ (of_if h) x hx
theorem check_ok {c : Core} {n : Int} (h : c.check n = 0) : 1 ≤ n ∧ n ≤ 7 ∧ n ≤ c.client ∧ c.client < n + 4 ∧ 1 ≤ c.stamp ∧ c.stamp ≤ 1099511627776 ∧ 1 ≤ c.op ∧ c.op ≤ 9 ∧ nameB c.letter = true ∧ c.text.size ≤ 200 := by
  unfold Core.check at h
  split at h
  · exact absurd h (by decide)
  · split at h
    · exact absurd h (by decide)
    · split at h
      · exact absurd h (by decide)
      · split at h
        · exact absurd h (by decide)
        · split at h
          · exact absurd h (by decide)
          · rename_i h4 _
            rw [Bool.not_eq_false] at h4
            exact ⟨by omega, by omega, by omega, by omega, by omega, by omega, by omega, by omega, h4, by omega⟩
/-- What may be a batch reads back. -/
theorem parse_back {es : List Ent} {n : Int} (hs : ∀ e ∈ es, e.Lits) (h : chkB es n = 0) : parseS (batchB es) n = (es, 0) := by
  have h0 := h
  unfold chkB at h
  split at h
  · exact absurd h (by decide)
  · rename_i hn
    split at h
    · exact absurd h (by decide)
    · rename_i hlen
      have hall := chkL_all es none h
      have hback : ∀ e ∈ es, e.Back ∧ (e.core.bytes.length : Int) ≤ ((batchB es).length : Nat) := fun e he => by
        obtain ⟨k1, k2⟩ := hall e he
        obtain ⟨g1, g2, g3, g4, g5, g6, g7, g8, g9, g10⟩ := check_ok k1
        have hl := hs e he
        have hsz : e.core.letter.size ≤ 16 := by
          unfold nameB at g9
          simp only [Bool.and_eq_true, decide_eq_true_eq] at g9
          exact g9.2
        have hm : e.mask < 128 + 1 := by
          have : 2 ^ n.toNat ≤ 2 ^ 7 := Nat.pow_le_pow_right (by decide) (by omega)
          omega
        have hlen2 := Core.bytes_length e.core
        refine ⟨⟨⟨⟨by omega, by omega⟩, hl.stamp, ⟨by omega, by omega⟩, hl.a, hl.b⟩, by omega, by omega⟩, ?_⟩
        have : e.bytes.length ≤ (es.flatMap Ent.bytes).length := by
          obtain ⟨s1, s2, rfl⟩ := List.append_of_mem he
          simp only [List.flatMap_append, List.flatMap_cons, List.length_append]
          omega
        have h7 : e.core.bytes.length ≤ e.bytes.length := by
          unfold Ent.bytes rowB
          simp only [List.length_append]
          omega
        unfold batchB
        rw [List.length_append]
        omega
      have hat : (Rd.of (batchB es)).At (beBytes es.length 2 ++ es.flatMap Ent.bytes) := ⟨rfl, rfl⟩
      obtain ⟨a1, b1⟩ := at_num hat (by omega) (n := 2) rfl
      obtain ⟨t, ht, hr⟩ := ents_back (L := ((batchB es).length : Nat)) es ((Rd.of (batchB es)).fixed 2) [] hback a1
      have hmany : manyOf (batchB es) = es.length := by
        unfold manyOf
        rw [b1]
        have : es.length ≤ (batchB es).length + 1 := by
          have : es.length ≤ (es.flatMap Ent.bytes).length := by
            clear h h0 hlen hall hback hat a1 b1 ht hr hs
            induction es with
            | nil => simp
            | cons e es ih =>
              rw [List.flatMap_cons, List.length_append, List.length_cons]
              have : 1 ≤ e.bytes.length := by
                unfold Ent.bytes
                rw [List.length_append, beBytes_length]
                omega
              omega
          unfold batchB
          rw [List.length_append]
          omega
        omega
      have hend : t.end_ = 0 := by
        unfold Rd.end_
        rw [ht.1, ht.2]
        simp
      unfold parseS
      rw [hmany, hr]
      simp only [parse2, List.nil_append]
      rw [if_neg (by simp [hend]), if_neg (by simp [h0])]
end Go.Proofs.Ytpgffckfbgfgcaa
/-
  BatchDigests: the walk.
-/
set_option maxRecDepth 100000
set_option linter.unusedSimpArgs false
set_option linter.unusedVariables false
namespace Go.Proofs.Ytpgffckfbgfgcaa.A
open Go.RowKit

def pairV (p : Nat × Nat) : Value := .agg #[.int .u16 (p.1 : Nat), .int .u16 (p.2 : Nat)]
def pairOk (p : Nat × Nat) : Prop := p.1 < 65536 ∧ p.2 < 65536
def tagV (d : List UInt8) : Value := .agg (d.map bc).toArray
def BFew (es : List Ent) : Prop := es.length ≤ 40 ∧ ∀ e ∈ es, e.core.letter.size ≤ 100 ∧ e.core.text.size ≤ 300
theorem bflat {α : Type} {f : α → List UInt8} {B : Nat} : ∀ {xs : List α}, (∀ x ∈ xs, (f x).length ≤ B) → (xs.flatMap f).length ≤ xs.length * B
  | [], _ => by simp
  | x :: xs, h => by
    have h1 := bflat (xs := xs) fun y hy => h y (List.mem_cons_of_mem _ hy)
    have h2 := h x List.mem_cons_self
    rw [List.flatMap_cons, List.length_append, List.length_cons, Nat.succ_mul]
    omega
theorem BFew.bytes {es : List Ent} (h : BFew es) : (batchB es).length ≤ 20000 := by
  have h1 := bflat (f := Ent.bytes) (B := 439) (xs := es) fun e he => by
    have h2 := Ent.bytes_length e
    have h3 := h.2 e he
    omega
  have h2 := h.1
  have h3 : es.length * 439 ≤ 40 * 439 := Nat.mul_le_mul_right _ h2
  unfold batchB
  simp only [List.length_append, beBytes_length]
  omega
theorem BFew.few {es : List Ent} (h : BFew es) (hs : ∀ e ∈ es, e.Lits) : ∀ e ∈ es, e.Few := fun e he => by
  have := h.2 e he
  exact ⟨(hs e he).mask, by omega, by omega⟩
theorem btake {α : Type} {Q : α → Prop} {xs : List α} {k : Nat} (h : ∀ a ∈ xs.take k, Q a) (hk : k < xs.length) (h1 : Q xs[k]) : ∀ a ∈ xs.take (k + 1), Q a := by
  intro a ha
  rw [List.take_succ_eq_append_getElem hk] at ha
  rcases List.mem_append.1 ha with ha | ha
  · exact h a ha
  · rw [List.mem_singleton.1 ha]; exact h1
theorem bfull {α : Type} {Q : α → Prop} {xs : List α} {k : Nat} (h : ∀ a ∈ xs.take k, Q a) (hk : xs.length ≤ k) : ∀ a ∈ xs, Q a := by
  rw [List.take_of_length_le hk] at h
  exact h
section
variable {l : List UInt8} {es fs : List Ent} {n : Int}
theorem fixed15_s : Pure Try.prog 15 [] (boo true) := Pure.of2 fun K w vals hK hv => by
  have hv : vals = [] := hv
  subst hv
  exact (fixed15_c (enter2 w K)).mono fun e w' ⟨he, hm⟩ => ⟨.bool true, he, leave2 hm (by simp), rfl⟩
theorem knew_s (hl : l.length ≤ 1000000) : Spec Try.prog 18 [byt l] [] (fun z : Nat × Nat => [.blk z.1 160 [byt l, mapV z.2], .pc (mapPc z.2 pairV tagV pairOk [])]) (fun z => ptr z.1) := by
  refine spec_of Try.func18 rfl Try.ntmps18 rfl fun G w => ?_
  refine SC.seq (SC.region ?_)
  refine SL.val (Val.assign rfl) rfl rfl ?_
  refine SL.nil (SE.seq ?_)
  refine SC.seq (SC.region ?_)
  refine SL.val (Val.move rfl) rfl rfl ?_
  refine SL.call (kclone_s hl) Casts.refl (by kernel_rfl) rfl rfl rfl ?_
  refine After.pure (by repeat first|exact .nil|refine .blk (by repeat first|assumption|exact m0|apply m1) ?_|refine .rd (by repeat first|assumption|exact m0|apply m1) ?_|refine .pc (by repeat first|assumption|exact m0|apply m1) ?_|refine .rdpc (by repeat first|assumption|exact m0|apply m1) ?_) (fun _ => rfl) ?_
  intro _
  refine SL.eff (Eff.makeMap pairV tagV pairOk (fun ac w => by simp [execOp, Instr.makeMap, newObj, Sem.run, Sem.run_bind, Result.andThen])) rfl rfl ?_
  rintro _ _ ⟨m5, rfl, rfl⟩
  refine SL.val (Val.buildS tabOk rfl rfl rfl rfl) rfl rfl ?_
  refine SL.eff (Eff.boxA rfl) rfl rfl ?_
  rintro _ _ ⟨b7, rfl, rfl⟩
  refine SL.val (Val.assign rfl) rfl rfl ?_
  refine SL.nil (SE.seq ?_)
  refine SC.ret ?_
  refine SE.fin (rs := [.tmp 2]) rfl (RV.tmp rfl RV.nil) (b7, m5) (by repeat first|exact s0 _|exact s1 _|apply s2|apply s3) (by simp [It.rids]) ?_
  exact rfl
set_option maxHeartbeats 2000000 in
theorem few15_s  : Spec Try.prog 16 [entsA es] [] (fun _ : {b : Bool // b = true → BFew es} => []) (fun z => boo z.1) := by
  refine spec_of Try.func16 rfl Try.ntmps16 rfl fun G w => ?_
  refine SC.seq (SC.region ?_)
  refine SL.val (Val.assign rfl) rfl rfl ?_
  refine SL.nil (SE.seq ?_)
  refine SC.seq ?_
  refine SC.seq (SC.region ?_)
  refine SL.val (Val.move rfl) rfl rfl ?_
  first
    | refine SL.val (Val.lenSl rfl Try.underlying22 (List.length_map _)) rfl rfl ?_
    | refine SL.val (Val.lenOwn rfl (by repeat first|assumption|exact m0|apply m1) Try.underlying22 (List.length_map _)) rfl rfl ?_
    | refine SL.val (Val.lenNil rfl Try.underlying22) rfl rfl ?_
  refine SL.val (Val.move rfl) rfl rfl ?_
  refine SL.nil (SE.seq ?_)
  refine SC.block ?_
  refine SC.rowLe (i := 0) rfl fun hrow => ?_
  rw [List.length_map] at hrow
  unfold maxLen at hrow
  refine SC.loop (ι := Nat) (fun z => []) (fun z => [(0, entsA es), (5, entsA es), (6, int (es.length : Nat)), (7, int (z : Nat))]) (fun z => z ≤ es.length ∧ ∀ e ∈ es.take z, e.core.letter.size ≤ 100 ∧ e.core.text.size ≤ 300) (fun z => es.length - z) (0) (⟨Nat.zero_le _, by simp⟩) (by exact ⟨rfl, rfl, rfl, rfl, trivial⟩) (by repeat first|exact s0 _|exact s1 _|apply s2|apply s3) ?_
  intro z hz
  refine SC.seq (SC.region ?_)
  refine SL.val (Val.ltI rfl rfl) rfl rfl ?_
  refine SL.nil (SE.seq ?_)
  refine SC.seq ?_
  refine SC.condP rfl ?_ ?_
  rotate_left
  · intro hc8
    refine SC.exit ?_
    refine SE.then_ (by intro h; cases h) ?_
    refine SE.then_ (by intro h; cases h) ?_
    refine SE.exit ?_
    refine SE.seq ?_
    refine SC.seq (SC.region ?_)
    refine SL.val (Val.move rfl) rfl rfl ?_
    first
      | refine SL.val (Val.lenSl rfl Try.underlying22 (List.length_map _)) rfl rfl ?_
      | refine SL.val (Val.lenOwn rfl (by repeat first|assumption|exact m0|apply m1) Try.underlying22 (List.length_map _)) rfl rfl ?_
      | refine SL.val (Val.lenNil rfl Try.underlying22) rfl rfl ?_
    refine SL.val (Val.leI rfl rfl) rfl rfl ?_
    refine SL.val (Val.assign rfl) rfl rfl ?_
    refine SL.nil (SE.seq ?_)
    refine SC.ret ?_
    refine SE.fin (rs := [.tmp 2]) rfl (RV.tmp rfl RV.nil) (⟨decide ((es.length : Int) ≤ 40), fun h => ⟨by have h9 := of_decide_eq_true h; omega, bfull hz.2 (by omega)⟩⟩) (by repeat first|exact s0 _|exact s1 _|apply s2|apply s3) (by simp [It.rids]) ?_
    exact rfl
  intro hc8
  have hlt : z < es.length := by omega
  refine SC.skip ?_
  refine SE.seq ?_
  refine SC.seq ?_
  refine SC.block ?_
  refine SC.seq (SC.region ?_)
  refine SL.val (Val.indexSl tabOk Try.underlying22 rfl rfl rfl rfl (at_map (by omega)) rfl rfl) rfl rfl ?_
  first
    | refine SL.val (Val.loadAR tabOk rfl rfl rfl (by rfl)) rfl rfl ?_
    | refine SL.val (Val.loadPR tabOk rfl rfl rfl (Nat.le_of_ble_eq_true (by rfl))) rfl rfl ?_
  refine SL.eff (Eff.alloc tabOk rfl) rfl rfl ?_
  rintro _ _ ⟨b4, rfl, rfl⟩
  refine SL.eff (Eff.store tabOk rfl rfl rfl (by repeat first|assumption|exact Upd.here|apply Upd.there) (by rfl) (Nat.le_of_ble_eq_true (by rfl)) (by rfl) (by rfl)) rfl rfl ?_
  rintro _ _ ⟨rfl, rfl⟩
  refine SL.nil (SE.seq ?_)
  refine SC.seq (SC.region ?_)
  refine SL.val (Val.fieldAddr tabOk rfl rfl rfl rfl rfl) rfl rfl ?_
  refine SL.val (Val.fieldAddr tabOk rfl rfl rfl rfl rfl) rfl rfl ?_
  refine SL.val (Val.load1 tabOk rfl rfl (by first|(apply Or.inl;(repeat first|assumption|exact m0|apply m1);done)|(apply Or.inr;(repeat first|assumption|exact m0|apply m1);done)) List.not_mem_nil (by rfl)) rfl rfl ?_
  refine SL.val (Val.lenSt rfl Try.underlying9) rfl rfl ?_
  refine SL.val (Val.gtI rfl rfl) rfl rfl ?_
  refine SL.val (Val.move rfl) rfl rfl ?_
  refine SL.bothP (t := 16) rfl ?_ ?_
  · intro hc16
    iterate 5 refine SL.skip rfl rfl ?_
    refine SL.val (Val.pickT rfl rfl) rfl rfl ?_
    refine SL.nil (SE.seq ?_)
    refine SC.condT rfl ?_
    refine SC.seq (SC.region ?_)
    refine SL.val (Val.assign rfl) rfl rfl ?_
    refine SL.nil (SE.seq ?_)
    refine SC.ret ?_
    refine SE.ret ?_
    refine SE.then_ (by intro h; cases h) ?_
    refine SE.then_ (by intro h; cases h) ?_
    refine SE.ret ?_
    refine SE.then_ (by intro h; cases h) ?_
    refine SE.fin (rs := [.tmp 2]) rfl (RV.tmp rfl RV.nil) (⟨false, fun h => by cases h⟩) (by repeat first|exact s0 _|exact s1 _|apply s2|apply s3) (by simp [It.rids]) ?_
    exact rfl
  intro hc16
  refine SL.val (Val.fieldAddr tabOk rfl rfl rfl rfl rfl) rfl rfl ?_
  refine SL.val (Val.fieldAddr tabOk rfl rfl rfl rfl rfl) rfl rfl ?_
  refine SL.val (Val.load1 tabOk rfl rfl (by first|(apply Or.inl;(repeat first|assumption|exact m0|apply m1);done)|(apply Or.inr;(repeat first|assumption|exact m0|apply m1);done)) List.not_mem_nil (by rfl)) rfl rfl ?_
  refine SL.val (Val.lenSt rfl Try.underlying9) rfl rfl ?_
  refine SL.val (Val.gtI rfl rfl) rfl rfl ?_
  refine SL.val (Val.pickF rfl rfl) rfl rfl ?_
  refine SL.nil (SE.seq ?_)
  refine SC.condP rfl ?_ ?_
  rotate_left
  · intro hc22
    refine SC.skip ?_
    refine SE.inBlock ?_
    refine SE.seq ?_
    refine SC.region ?_
    first
      | refine SL.val (Val.addI rfl rfl (by simp only [InR, lo, hi]; omega)) rfl rfl ?_
      | refine SL.val (Val.addW rfl rfl) rfl rfl ?_
    refine SL.val (Val.move rfl) rfl rfl ?_
    refine SL.nil ?_
    refine SE.round (z + 1) (by first | omega | (dsimp only; omega)) (⟨by omega, btake hz.2 hlt ⟨by omega, by omega⟩⟩) (by exact ⟨rfl, rfl, rfl, rfl, trivial⟩) (by repeat first|exact s0 _|exact s1 _|apply s2|apply s3)
  intro hc22
  refine SC.seq (SC.region ?_)
  refine SL.val (Val.assign rfl) rfl rfl ?_
  refine SL.nil (SE.seq ?_)
  refine SC.ret ?_
  refine SE.ret ?_
  refine SE.then_ (by intro h; cases h) ?_
  refine SE.then_ (by intro h; cases h) ?_
  refine SE.ret ?_
  refine SE.then_ (by intro h; cases h) ?_
  refine SE.fin (rs := [.tmp 2]) rfl (RV.tmp rfl RV.nil) (⟨false, fun h => by cases h⟩) (by repeat first|exact s0 _|exact s1 _|apply s2|apply s3) (by simp [It.rids]) ?_
  exact rfl
theorem bdigests {es fs : List Ent} {n : Int} (hs : ∀ e ∈ es, e.Lits) (ht : ∀ e ∈ fs, e.Lits) (h1 : chkB es n = 0) (h2 : chkB fs n = 0) (h : batchB es = batchB fs) : es = fs := by
  have e1 := parse_back hs h1
  have e2 := parse_back ht h2
  rw [h, e2] at e1
  exact (congrArg Prod.fst e1).symm
set_option maxHeartbeats 4000000 in
theorem bdigests_s (he : ∀ e ∈ es, e.Lits) (hf : ∀ e ∈ fs, e.Lits) : Spec Try.prog 3 [entsA es, entsA fs, int n] [] (fun _ : Unit => []) (fun _ => boo true) := by
  refine spec_of Try.func3 rfl Try.ntmps3 rfl fun G w => ?_
  refine SC.seq (SC.region ?_)
  refine SL.val (Val.assign rfl) rfl rfl ?_
  refine SL.nil (SE.seq ?_)
  refine SC.seq ?_
  refine SC.seq (SC.region ?_)
  refine SL.call (fixed15_s) Casts.refl (by kernel_rfl) rfl rfl rfl ?_
  refine After.pure (by repeat first|exact .nil|refine .blk (by repeat first|assumption|exact m0|apply m1) ?_|refine .rd (by repeat first|assumption|exact m0|apply m1) ?_|refine .pc (by repeat first|assumption|exact m0|apply m1) ?_|refine .rdpc (by repeat first|assumption|exact m0|apply m1) ?_) (fun _ => rfl) ?_
  intro _
  refine SL.val (Val.notT rfl) rfl rfl ?_
  refine SL.nil (SE.seq ?_)
  refine SC.condF rfl ?_
  refine SC.skip ?_
  refine SE.seq ?_
  refine SC.seq ?_
  refine SC.seq (SC.region ?_)
  refine SL.val (Val.move rfl) rfl rfl ?_
  refine SL.call (few15_s (es := es)) Casts.refl (by kernel_rfl) rfl rfl rfl ?_
  refine After.pure (by repeat first|exact .nil|refine .blk (by repeat first|assumption|exact m0|apply m1) ?_|refine .rd (by repeat first|assumption|exact m0|apply m1) ?_|refine .pc (by repeat first|assumption|exact m0|apply m1) ?_|refine .rdpc (by repeat first|assumption|exact m0|apply m1) ?_) (fun _ => rfl) ?_
  intro fa
  refine SL.val (Val.notB rfl) rfl rfl ?_
  refine SL.val (Val.move rfl) rfl rfl ?_
  refine SL.both (t := 16) rfl ?_ ?_
  · intro hc16
    iterate 3 refine SL.skip rfl rfl ?_
    refine SL.val (Val.pickT rfl rfl) rfl rfl ?_
    refine SL.nil (SE.seq ?_)
    refine SC.condT rfl ?_
    refine SC.seq (SC.region ?_)
    refine SL.val (Val.assign rfl) rfl rfl ?_
    refine SL.nil (SE.seq ?_)
    refine SC.ret ?_
    refine SE.then_ (by intro h; cases h) ?_
    refine SE.fin (rs := [.tmp 6]) rfl (RV.tmp rfl RV.nil) (()) (by repeat first|exact s0 _|exact s1 _|apply s2|apply s3) (by simp [It.rids]) ?_
    exact rfl
  intro hc16
  refine SL.val (Val.move rfl) rfl rfl ?_
  refine SL.call (few15_s (es := fs)) Casts.refl (by kernel_rfl) rfl rfl rfl ?_
  refine After.pure (by repeat first|exact .nil|refine .blk (by repeat first|assumption|exact m0|apply m1) ?_|refine .rd (by repeat first|assumption|exact m0|apply m1) ?_|refine .pc (by repeat first|assumption|exact m0|apply m1) ?_|refine .rdpc (by repeat first|assumption|exact m0|apply m1) ?_) (fun _ => rfl) ?_
  intro fb
  refine SL.val (Val.notB rfl) rfl rfl ?_
  refine SL.val (Val.pickF rfl rfl) rfl rfl ?_
  refine SL.nil (SE.seq ?_)
  refine SC.cond rfl ?_ ?_
  · intro hc20
    refine SC.seq (SC.region ?_)
    refine SL.val (Val.assign rfl) rfl rfl ?_
    refine SL.nil (SE.seq ?_)
    refine SC.ret ?_
    refine SE.then_ (by intro h; cases h) ?_
    refine SE.fin (rs := [.tmp 6]) rfl (RV.tmp rfl RV.nil) (()) (by repeat first|exact s0 _|exact s1 _|apply s2|apply s3) (by simp [It.rids]) ?_
    exact rfl
  intro hc20
  have ac := fa.2 (by simpa using hc16)
  have ad := fb.2 (by simpa using hc20)
  have lc := ac.bytes
  have ld := ad.bytes
  have nc := ac.1
  have nd := ad.1
  have fe := ac.few he
  have ff := ad.few hf
  obtain ⟨g1, g2, g3, g4⟩ := pl_new (k8 101, batchB es) (k8 101, batchB fs)
  refine SC.skip ?_
  refine SE.seq ?_
  refine SC.seq (SC.region ?_)
  refine SL.call (bknew_s) Casts.refl (by kernel_rfl) rfl rfl rfl ?_
  refine After.make (by repeat first|exact .nil|refine .blk (by repeat first|assumption|exact m0|apply m1) ?_|refine .rd (by repeat first|assumption|exact m0|apply m1) ?_|refine .pc (by repeat first|assumption|exact m0|apply m1) ?_|refine .rdpc (by repeat first|assumption|exact m0|apply m1) ?_) (fun _ => rfl) ?_
  intro z0
  refine SL.call (knew_s (l := []) (by simp)) (Casts.nils (s := 1) Casts.refl) (by kernel_rfl) rfl rfl rfl ?_
  refine After.make2 (by repeat first|exact .nil|refine .blk (by repeat first|assumption|exact m0|apply m1) ?_|refine .rd (by repeat first|assumption|exact m0|apply m1) ?_|refine .pc (by repeat first|assumption|exact m0|apply m1) ?_|refine .rdpc (by repeat first|assumption|exact m0|apply m1) ?_) (fun _ => rfl) ?_
  intro z1
  refine SL.val (Val.assign rfl) rfl rfl ?_
  refine SL.val (Val.assign rfl) rfl rfl ?_
  refine SL.nil (SE.seq ?_)
  refine SC.seq (SC.region ?_)
  refine SL.val (Val.move rfl) rfl rfl ?_
  refine SL.val (Val.makeIface rfl (fun _ _ => by kernel_rfl)) rfl rfl ?_
  refine SL.val (Val.move rfl) rfl rfl ?_
  refine SL.call (bdig_b (es := es) (bp := z0.1) (bd := z0.2.1) (bt := z0.2.2) (Dm := []) (Tm := []) (by omega) fe (by unfold maxLen; omega) (by simp) (by rw [g1]; omega)) Casts.refl (by kernel_rfl) rfl rfl rfl ?_
  refine After.one rfl (by repeat first|assumption|exact m0|apply m1) (fun _ => rfl) ?_
  intro _
  refine ⟨_, (by repeat first|assumption|exact Upd.here|apply Upd.there), ?_⟩
  refine SL.val (Val.move rfl) rfl rfl ?_
  refine SL.val (Val.makeIface rfl (fun _ _ => by kernel_rfl)) rfl rfl ?_
  refine SL.val (Val.move rfl) rfl rfl ?_
  refine SL.call (bdig_b (es := fs) (bp := z0.1) (bd := z0.2.1) (bt := z0.2.2) (Dm := pm [] (k8 101, batchB es)) (Tm := []) (by omega) ff (by unfold maxLen; omega) (by rw [g4]; omega) (by omega)) Casts.refl (by kernel_rfl) rfl rfl rfl ?_
  refine After.one rfl (by repeat first|assumption|exact m0|apply m1) (fun _ => rfl) ?_
  intro _
  refine ⟨_, (by repeat first|assumption|exact Upd.here|apply Upd.there), ?_⟩
  refine SL.eff (Eff.alloc tabOk rfl) rfl rfl ?_
  rintro _ _ ⟨b9, rfl, rfl⟩
  refine SL.eff (Eff.alloc tabOk rfl) rfl rfl ?_
  rintro _ _ ⟨b10, rfl, rfl⟩
  refine SL.eff (Eff.store (L' := digA (numB (k8 101) (pl ([] : DMap) (k8 101, batchB es)))) tabOk rfl rfl rfl (by repeat first|assumption|exact Upd.here|apply Upd.there) (by exact num_len _ _) (Nat.le_of_ble_eq_true (by rfl)) (by exact ones_dig _) (putL_whole (by exact num_len _ _))) rfl rfl ?_
  rintro _ _ ⟨rfl, rfl⟩
  refine SL.eff (Eff.store (L' := digA (numB (k8 101) (pl (pm ([] : DMap) (k8 101, batchB es)) (k8 101, batchB fs)))) tabOk rfl rfl rfl (by repeat first|assumption|exact Upd.here|apply Upd.there) (by exact num_len _ _) (Nat.le_of_ble_eq_true (by rfl)) (by exact ones_dig _) (putL_whole (by exact num_len _ _))) rfl rfl ?_
  rintro _ _ ⟨rfl, rfl⟩
  refine SL.nil (SE.seq ?_)
  refine SC.seq ?_
  refine SC.seq (SC.region ?_)
  refine SL.val (Val.move rfl) rfl rfl ?_
  refine SL.val (Val.move rfl) rfl rfl ?_
  refine SL.call (bsame_s (es := es) (fs := fs) (by omega) he hf) Casts.refl (by kernel_rfl) rfl rfl rfl ?_
  refine After.pure (by repeat first|exact .nil|refine .blk (by repeat first|assumption|exact m0|apply m1) ?_|refine .rd (by repeat first|assumption|exact m0|apply m1) ?_|refine .pc (by repeat first|assumption|exact m0|apply m1) ?_|refine .rdpc (by repeat first|assumption|exact m0|apply m1) ?_) (fun _ => rfl) ?_
  intro _
  refine SL.val (Val.move rfl) rfl rfl ?_
  refine SL.val (Val.move rfl) rfl rfl ?_
  refine SL.call (rbsame_s (es := es) (fs := fs) (by omega) he hf) Casts.refl (by kernel_rfl) rfl rfl rfl ?_
  refine After.pure (by repeat first|exact .nil|refine .blk (by repeat first|assumption|exact m0|apply m1) ?_|refine .rd (by repeat first|assumption|exact m0|apply m1) ?_|refine .pc (by repeat first|assumption|exact m0|apply m1) ?_|refine .rdpc (by repeat first|assumption|exact m0|apply m1) ?_) (fun _ => rfl) ?_
  intro _
  refine SL.val (Val.neB rfl rfl (by kernel_rfl)) rfl rfl ?_
  refine SL.val (Val.move rfl) rfl rfl ?_
  refine SL.both (t := 38) rfl (by intro hc38; exfalso; simp at hc38) ?_
  intro hc38
  refine SL.val (Val.move rfl) rfl rfl ?_
  refine SL.val (Val.makeIface rfl (fun _ _ => by kernel_rfl)) rfl rfl ?_
  refine SL.val (Val.move rfl) rfl rfl ?_
  refine SL.call (bdig_k (t := z1.1) (es := es) (by omega) fe (by omega)) Casts.refl (by kernel_rfl) rfl rfl rfl ?_
  refine After.pure (by repeat first|exact .nil|refine .blk (by repeat first|assumption|exact m0|apply m1) ?_|refine .rd (by repeat first|assumption|exact m0|apply m1) ?_|refine .pc (by repeat first|assumption|exact m0|apply m1) ?_|refine .rdpc (by repeat first|assumption|exact m0|apply m1) ?_) (fun _ => rfl) ?_
  intro _
  refine SL.val (Val.move rfl) rfl rfl ?_
  refine SL.val (Val.move rfl) rfl rfl ?_
  refine SL.call (rbbytes_s (es := es) (by omega) fe) Casts.refl (by kernel_rfl) rfl rfl rfl ?_
  refine After.pure (by repeat first|exact .nil|refine .blk (by repeat first|assumption|exact m0|apply m1) ?_|refine .rd (by repeat first|assumption|exact m0|apply m1) ?_|refine .pc (by repeat first|assumption|exact m0|apply m1) ?_|refine .rdpc (by repeat first|assumption|exact m0|apply m1) ?_) (fun _ => rfl) ?_
  intro _
  refine SL.call (kdigest_s (t := z1.1) (k := 101) (l := batchB es) (by omega)) Casts.refl (by kernel_rfl) rfl rfl rfl ?_
  refine After.pure (by repeat first|exact .nil|refine .blk (by repeat first|assumption|exact m0|apply m1) ?_|refine .rd (by repeat first|assumption|exact m0|apply m1) ?_|refine .pc (by repeat first|assumption|exact m0|apply m1) ?_|refine .rdpc (by repeat first|assumption|exact m0|apply m1) ?_) (fun _ => rfl) ?_
  intro _
  refine SL.val (Val.neA rfl rfl (plains_map bc _) (plains_map bc _) (by kernel_rfl) (neqB Try.underlying30 (by kernel_rfl) (by kernel_rfl) _ _ (kdig_len' _ _) (kdig_len' _ _) false (by simp))) rfl rfl ?_
  refine SL.val (Val.pickF rfl rfl) rfl rfl ?_
  refine SL.nil (SE.seq ?_)
  refine SC.condF rfl ?_
  refine SC.skip ?_
  refine SE.seq ?_
  refine SC.seq ?_
  refine SC.seq (SC.region ?_)
  refine SL.val (Val.move rfl) rfl rfl ?_
  refine SL.val (Val.move rfl) rfl rfl ?_
  refine SL.call (rbcheck_s (es := es) (n := n) (by omega) (fun e h => by have := (ac.2 e h).1; unfold lots; omega)) Casts.refl (by kernel_rfl) rfl rfl rfl ?_
  refine After.pure (by repeat first|exact .nil|refine .blk (by repeat first|assumption|exact m0|apply m1) ?_|refine .rd (by repeat first|assumption|exact m0|apply m1) ?_|refine .pc (by repeat first|assumption|exact m0|apply m1) ?_|refine .rdpc (by repeat first|assumption|exact m0|apply m1) ?_) (fun _ => rfl) ?_
  intro _
  refine SL.val (Val.neI rfl rfl) rfl rfl ?_
  refine SL.val (Val.move rfl) rfl rfl ?_
  refine SL.bothP (t := 53) rfl ?_ ?_
  · intro hc53
    iterate 4 refine SL.skip rfl rfl ?_
    refine SL.val (Val.pickT rfl rfl) rfl rfl ?_
    refine SL.nil (SE.seq ?_)
    refine SC.condT rfl ?_
    refine SC.seq (SC.region ?_)
    refine SL.val (Val.move rfl) rfl rfl ?_
    refine SL.val (Val.move rfl) rfl rfl ?_
    refine SL.call (rbsame_s (es := es) (fs := fs) (by omega) he hf) Casts.refl (by kernel_rfl) rfl rfl rfl ?_
    refine After.pure (by repeat first|exact .nil|refine .blk (by repeat first|assumption|exact m0|apply m1) ?_|refine .rd (by repeat first|assumption|exact m0|apply m1) ?_|refine .pc (by repeat first|assumption|exact m0|apply m1) ?_|refine .rdpc (by repeat first|assumption|exact m0|apply m1) ?_) (fun _ => rfl) ?_
    intro _
    refine SL.val (Val.notB rfl) rfl rfl ?_
    refine SL.val (Val.move rfl) rfl rfl ?_
    refine SL.both (t := 63) rfl ?_ ?_
    · intro hc63
      iterate 3 refine SL.skip rfl rfl ?_
      refine SL.val (Val.pickT rfl rfl) rfl rfl ?_
      refine SL.val (Val.assign rfl) rfl rfl ?_
      refine SL.nil (SE.seq ?_)
      refine SC.ret ?_
      refine SE.then_ (by intro h; cases h) ?_
      refine SE.fin (rs := [.tmp 6]) rfl (RV.tmp rfl RV.nil) (()) (by repeat first|exact s0 _|exact s1 _|apply s2|apply s3) (by simp [It.rids]) ?_
      first
        | rfl
        | (refine congrArg (fun b => Abs.v (Value.bool b)) (decide_eq_true ?_)
           have hcd : es = fs := by simpa using hc63
           subst hcd
           exact (two_digests (k8 101) (by decide) (batchB es) (batchB es)).2 rfl)
    intro hc63
    refine SL.val (Val.loadA tabOk rfl rfl rfl (by first|(apply Or.inl;(repeat first|assumption|exact m0|apply m1);done)|(apply Or.inr;(repeat first|assumption|exact m0|apply m1);done)) List.not_mem_nil (num_len _ _)) rfl rfl ?_
    refine SL.val (Val.loadA tabOk rfl rfl rfl (by first|(apply Or.inl;(repeat first|assumption|exact m0|apply m1);done)|(apply Or.inr;(repeat first|assumption|exact m0|apply m1);done)) List.not_mem_nil (num_len _ _)) rfl rfl ?_
    refine SL.val (Val.eqA rfl rfl (plains_map bc _) (plains_map bc _) (by kernel_rfl) (eqlB Try.underlying30 (by kernel_rfl) (by kernel_rfl) _ _ (numB_length _ _) (numB_length _ _) _ rfl)) rfl rfl ?_
    refine SL.val (Val.pickF rfl rfl) rfl rfl ?_
    refine SL.val (Val.assign rfl) rfl rfl ?_
    refine SL.nil (SE.seq ?_)
    refine SC.ret ?_
    refine SE.then_ (by intro h; cases h) ?_
    refine SE.fin (rs := [.tmp 6]) rfl (RV.tmp rfl RV.nil) (()) (by repeat first|exact s0 _|exact s1 _|apply s2|apply s3) (by simp [It.rids]) ?_
    first
      | rfl
      | (refine congrArg (fun b => Abs.v (Value.bool b)) (decide_eq_true ?_)
         have hcd : es = fs := by simpa using hc63
         subst hcd
         exact (two_digests (k8 101) (by decide) (batchB es) (batchB es)).2 rfl)
  intro hc53
  refine SL.val (Val.move rfl) rfl rfl ?_
  refine SL.val (Val.move rfl) rfl rfl ?_
  refine SL.call (rbcheck_s (es := fs) (n := n) (by omega) (fun e h => by have := (ad.2 e h).1; unfold lots; omega)) Casts.refl (by kernel_rfl) rfl rfl rfl ?_
  refine After.pure (by repeat first|exact .nil|refine .blk (by repeat first|assumption|exact m0|apply m1) ?_|refine .rd (by repeat first|assumption|exact m0|apply m1) ?_|refine .pc (by repeat first|assumption|exact m0|apply m1) ?_|refine .rdpc (by repeat first|assumption|exact m0|apply m1) ?_) (fun _ => rfl) ?_
  intro _
  refine SL.val (Val.neI rfl rfl) rfl rfl ?_
  refine SL.val (Val.pickF rfl rfl) rfl rfl ?_
  refine SL.nil (SE.seq ?_)
  refine SC.condP rfl ?_ ?_
  rotate_left
  · intro hc58
    refine SC.skip ?_
    refine SE.seq ?_
    refine SC.seq ?_
    refine SC.draw [] (.q 0 (.q 1 (.q 2 (.q 3 (.q 4 (.e 5 (.q 6 (.q 7 .nil)))))))) (by kernel_rfl) (by kernel_rfl) ?_
    refine SX.val rfl (Val.loadA tabOk rfl rfl rfl (by first|(apply Or.inl;(repeat first|assumption|exact m0|apply m1);done)|(apply Or.inr;(repeat first|assumption|exact m0|apply m1);done)) List.not_mem_nil (num_len _ _)) (by first | (simp [mids, It.mids, ownPc, bkPc]; done) | (intro k hk; simp [mids, It.mids, ownPc, bkPc] at hk ⊢; grind)) rfl rfl ?_
    refine SX.val rfl (Val.loadA tabOk rfl rfl rfl (by first|(apply Or.inl;(repeat first|assumption|exact m0|apply m1);done)|(apply Or.inr;(repeat first|assumption|exact m0|apply m1);done)) List.not_mem_nil (num_len _ _)) (by first | (simp [mids, It.mids, ownPc, bkPc]; done) | (intro k hk; simp [mids, It.mids, ownPc, bkPc] at hk ⊢; grind)) rfl rfl ?_
    refine SX.val rfl (Val.eqA rfl rfl (plains_map bc _) (plains_map bc _) (by kernel_rfl) (eqlB Try.underlying30 (by kernel_rfl) (by kernel_rfl) _ _ (numB_length _ _) (numB_length _ _) _ rfl)) (by first | (simp [mids, It.mids, ownPc, bkPc]; done) | (intro k hk; simp [mids, It.mids, ownPc, bkPc] at hk ⊢; grind)) rfl rfl ?_
    refine SX.val rfl (Val.move rfl) (by simp) rfl rfl ?_
    refine SX.val rfl (Val.move rfl) (by simp) rfl rfl ?_
    refine SX.call rfl (rbsame_s (es := es) (fs := fs) (by omega) he hf) (by simp [mids, It.mids]) Casts.refl (by kernel_rfl) rfl rfl rfl ?_
    refine After.pure (by repeat first|exact .nil|refine .blk (by repeat first|assumption|exact m0|apply m1) ?_|refine .rd (by repeat first|assumption|exact m0|apply m1) ?_|refine .pc (by repeat first|assumption|exact m0|apply m1) ?_|refine .rdpc (by repeat first|assumption|exact m0|apply m1) ?_) (fun _ => rfl) ?_
    intro _
    refine SX.val rfl (Val.eqB rfl rfl (by kernel_rfl)) (by simp) rfl rfl ?_
    refine SX.val rfl (Val.assign rfl) (by simp) rfl rfl ?_
    refine SX.nil (SE.seq ?_)
    refine SC.ret ?_
    refine SE.fin (rs := [.tmp 6]) rfl (RV.tmp rfl RV.nil) (()) (by repeat first|exact s0 _|exact s1 _|apply s2|apply s3) (by simp [It.rids]) ?_
    refine congrArg (fun b => Abs.v (Value.bool b)) ?_
    have r1 : chkB es n = 0 := by simpa using hc53
    have r2 : chkB fs n = 0 := by simpa using hc58
    have hiff := two_digests (k8 101) (by decide) (batchB es) (batchB fs)
    by_cases hcd : es = fs
    · subst hcd
      rw [decide_eq_true (hiff.2 rfl)]
      simp
    · rw [decide_eq_false (fun h => hcd (bdigests he hf r1 r2 (hiff.1 h)))]
      simp [hcd]
  intro hc58
  refine SC.seq (SC.region ?_)
  refine SL.val (Val.move rfl) rfl rfl ?_
  refine SL.val (Val.move rfl) rfl rfl ?_
  refine SL.call (rbsame_s (es := es) (fs := fs) (by omega) he hf) Casts.refl (by kernel_rfl) rfl rfl rfl ?_
  refine After.pure (by repeat first|exact .nil|refine .blk (by repeat first|assumption|exact m0|apply m1) ?_|refine .rd (by repeat first|assumption|exact m0|apply m1) ?_|refine .pc (by repeat first|assumption|exact m0|apply m1) ?_|refine .rdpc (by repeat first|assumption|exact m0|apply m1) ?_) (fun _ => rfl) ?_
  intro _
  refine SL.val (Val.notB rfl) rfl rfl ?_
  refine SL.val (Val.move rfl) rfl rfl ?_
  refine SL.both (t := 63) rfl ?_ ?_
  · intro hc63
    iterate 3 refine SL.skip rfl rfl ?_
    refine SL.val (Val.pickT rfl rfl) rfl rfl ?_
    refine SL.val (Val.assign rfl) rfl rfl ?_
    refine SL.nil (SE.seq ?_)
    refine SC.ret ?_
    refine SE.then_ (by intro h; cases h) ?_
    refine SE.fin (rs := [.tmp 6]) rfl (RV.tmp rfl RV.nil) (()) (by repeat first|exact s0 _|exact s1 _|apply s2|apply s3) (by simp [It.rids]) ?_
    first
      | rfl
      | (refine congrArg (fun b => Abs.v (Value.bool b)) (decide_eq_true ?_)
         have hcd : es = fs := by simpa using hc63
         subst hcd
         exact (two_digests (k8 101) (by decide) (batchB es) (batchB es)).2 rfl)
  intro hc63
  refine SL.val (Val.loadA tabOk rfl rfl rfl (by first|(apply Or.inl;(repeat first|assumption|exact m0|apply m1);done)|(apply Or.inr;(repeat first|assumption|exact m0|apply m1);done)) List.not_mem_nil (num_len _ _)) rfl rfl ?_
  refine SL.val (Val.loadA tabOk rfl rfl rfl (by first|(apply Or.inl;(repeat first|assumption|exact m0|apply m1);done)|(apply Or.inr;(repeat first|assumption|exact m0|apply m1);done)) List.not_mem_nil (num_len _ _)) rfl rfl ?_
  refine SL.val (Val.eqA rfl rfl (plains_map bc _) (plains_map bc _) (by kernel_rfl) (eqlB Try.underlying30 (by kernel_rfl) (by kernel_rfl) _ _ (numB_length _ _) (numB_length _ _) _ rfl)) rfl rfl ?_
  refine SL.val (Val.pickF rfl rfl) rfl rfl ?_
  refine SL.val (Val.assign rfl) rfl rfl ?_
  refine SL.nil (SE.seq ?_)
  refine SC.ret ?_
  refine SE.then_ (by intro h; cases h) ?_
  refine SE.fin (rs := [.tmp 6]) rfl (RV.tmp rfl RV.nil) (()) (by repeat first|exact s0 _|exact s1 _|apply s2|apply s3) (by simp [It.rids]) ?_
  first
    | rfl
    | (refine congrArg (fun b => Abs.v (Value.bool b)) (decide_eq_true ?_)
       have hcd : es = fs := by simpa using hc63
       subst hcd
       exact (two_digests (k8 101) (by decide) (batchB es) (batchB es)).2 rfl)
end
end Go.Proofs.Ytpgffckfbgfgcaa.A
