/-
  Packed out of the texts: ABk2, A11, V2.
-/
import Derived.Test.YtpgffckfbgfgcaaV014
/-
  The second engine: a book's other calls: Tag, Check, Sizes; the law's own check of books.
-/
set_option maxRecDepth 100000
set_option linter.unusedSimpArgs false
set_option linter.unusedVariables false
namespace Go.Proofs.Ytpgffckfbgfgcaa.A
open Go.RowKit

section
variable {from_ to_ : Int} {l M : List UInt8} {p bd bt : Nat} {D : DMap} {T : TMap}
/-! ### The program's calls -/
theorem bktag_s (hx : i64r from_) (hy : i64r to_) (hl : l.length ≤ maxLen) (hm : T.length < 1000000) (hpl : pl T ((from_, to_), l) < 9223372036854775808) :
    Spec Try.prog 162 [.v (.pointer (some ⟨p, 0, none⟩)), int from_, int to_, byt l] [.pc (bkPc p bd bt D T)] (fun _ : Unit => [.pc (bkPc p bd bt D (pm T ((from_, to_), l)))]) (fun _ => .agg (digA (numB 255 (pl T ((from_, to_), l))))) := fun G w vals hmm hv => by
  obtain ⟨_, _, rfl, h1, _, _, rfl, h2, _, _, rfl, h2', v, _, rfl, h3, h4⟩ := hv
  have h1 : _ = Value.pointer (some ⟨p, 0, none⟩) := h1
  have h2 : _ = Value.int .i64 from_ := h2
  have h2' : _ = Value.int .i64 to_ := h2'
  have h4 : _ = [] := h4
  subst h1 h2 h2' h4
  have hb : BookAt w p bd bt D T := hmm.hold (.pc (bkPc p bd bt D T)) (by simp)
  refine (book_Tag w p bd bt D T from_ to_ v l hb (rep_byt.1 h3).bytesA ⟨hx, hy, hl⟩ (by omega) hpl).mono fun e w' ⟨e1, e2, e3⟩ => ?_
  have h5 := hmm.upd (x := .pc (bkPc p bd bt D T)) (y := .pc (bkPc p bd bt D (pm T ((from_, to_), l)))) .here (e3.mono (by simp [It.mids, bkPc])) (bk_ids e2) (fun k hk => .inl hk) rfl (fun _ => e2)
  refine ⟨(), _, e1, by simp [It.rids], h5.1, ?_⟩
  rw [numV_arr _ _ (by omega)]
  exact ⟨_, rfl, reps_dig _⟩
theorem bkcheck_s (hx : i64r from_) (hy : i64r to_) (hl : l.length ≤ maxLen) (hM : M.length = 32) (hm : T.length < 1000000) (hpl : pl T ((from_, to_), l) < 9223372036854775808) :
    Spec Try.prog 163 [.v (.pointer (some ⟨p, 0, none⟩)), int from_, int to_, byt l, .agg (digA M)] [.pc (bkPc p bd bt D T)] (fun _ : Unit => [.pc (bkPc p bd bt D T)]) (fun _ => boo ((aget T ((from_, to_), l)).isSome && decide (M = numB 255 (pl T ((from_, to_), l))))) := fun G w vals hmm hv => by
  obtain ⟨_, _, rfl, h1, _, _, rfl, h2, _, _, rfl, h2', v, _, rfl, h3, _, _, rfl, ⟨us, rfl, h5⟩, h4⟩ := hv
  have h1 : _ = Value.pointer (some ⟨p, 0, none⟩) := h1
  have h2 : _ = Value.int .i64 from_ := h2
  have h2' : _ = Value.int .i64 to_ := h2'
  have h4 : _ = [] := h4
  have h5 : us = M.map bc := by
    have e : digA M = (M.map bc).map .v := by simp [digA]
    rw [e] at h5
    exact reps_plain.1 h5
  subst h1 h2 h2' h4 h5
  have hb : BookAt w p bd bt D T := hmm.hold (.pc (bkPc p bd bt D T)) (by simp)
  refine (book_Check w p bd bt D T from_ to_ v l M hb (rep_byt.1 h3).bytesA ⟨hx, hy, hl⟩ hM (by omega) hpl _ rfl).mono fun e w' ⟨e1, e2, e3⟩ => ?_
  have h6 := hmm.upd (x := .pc (bkPc p bd bt D T)) (y := .pc (bkPc p bd bt D T)) .here (e3.mono (by simp [It.mids, bkPc])) (bk_ids e2) (fun k hk => .inl hk) rfl (fun _ => e2)
  exact ⟨(), _, e1, by simp [It.rids], h6.1, rfl⟩
theorem bksizes_s : Spec Try.prog 98 [.v (.pointer (some ⟨p, 0, none⟩))] [.pc (bkPc p bd bt D T)] (fun _ : Unit => [.pc (bkPc p bd bt D T)]) (fun _ => .tup [int (D.length : Nat), int (T.length : Nat)]) := fun G w vals hmm hv => by
  obtain ⟨_, _, rfl, h1, h4⟩ := hv
  have h1 : _ = Value.pointer (some ⟨p, 0, none⟩) := h1
  have h4 : _ = [] := h4
  subst h1 h4
  have hb : BookAt w p bd bt D T := hmm.hold (.pc (bkPc p bd bt D T)) (by simp)
  refine (book_Sizes w p bd bt D T hb).mono fun e w' ⟨e1, e3⟩ => ?_
  have h6 := hmm.same e3
  refine ⟨(), _, e1, by simp [It.rids], ⟨e3.mono (by simp), h6.1.out, h6.1.sep, h6.1.old, h6.1.ro, h6.1.nodup, h6.1.hold⟩, ⟨_, rfl, _, _, rfl, rfl, _, _, rfl, rfl, rfl⟩⟩
theorem fixed05_s : Pure Try.prog 94 [] (boo true) := fun G w vals hmm hv => by
  have hv : vals = [] := hv
  subst hv
  refine (fixed05 w).mono fun e w' ⟨e1, e3⟩ => ?_
  have h6 := hmm.same e3
  exact ⟨(), _, e1, by simp [It.rids], ⟨e3.mono (by simp), h6.1.out, h6.1.sep, h6.1.old, h6.1.ro, h6.1.nodup, h6.1.hold⟩, rfl⟩
end
end Go.Proofs.Ytpgffckfbgfgcaa.A
/-
  The second engine: a constant's bytes: a row that was just made, marked as a text's.
-/
set_option maxRecDepth 100000
set_option linter.unusedSimpArgs false
set_option linter.unusedVariables false
namespace Go.Proofs.Ytpgffckfbgfgcaa.A
open Go.RowKit

theorem cells_marked {w : World} {b : Nat} {cur : Array Value} {e : TypeId} {fr fr' : Nat × Nat} (hb : w.heap[b]? = some (.cells cur e fr)) (k : Nat) (o : Nat) : ({ w with heap := w.heap.setIfInBounds b (.cells cur e fr') } : World).cell? ⟨k, o, none⟩ = w.cell? ⟨k, o, none⟩ := by
  have hlt := heap_lt hb
  unfold World.cell?
  by_cases h : b = k
  · subst h
    have h1 : (w.heap.setIfInBounds b (.cells cur e fr'))[b]? = some (.cells cur e fr') := by simp [hlt]
    show (match (w.heap.setIfInBounds b (.cells cur e fr'))[b]? with | some (.cells c _ _) => if (none : Option Nat).isSome then none else c[o]? | _ => none) = _
    rw [h1, hb]
  · simp [Array.getElem?_setIfInBounds_ne h]
theorem Eff.litBytes {P : Program} {n : Nat} {W : Wd} {σ : Blks} {l : Slots} {x : Operand} {d : Option Nat} {ty t e e' : TypeId} {pos : String} {aft : Array Edge} {g : Option (Nat × Bool)} {v : Value} {m : List UInt8} (pre : Blks) {post : Blks}
    (ht : P.underlying t = some (.slice e)) (he : P.underlying e = some (.int .u8)) (hσ : σ = pre ++ own e' 1 v (m.map fun b => [.v (bc b)]) :: post) (hx : look l x = some (.v v)) (hne : m ≠ []) :
    Eff P n W σ l v.ownBlock.toList ⟨d, .convert t t x, ty, pos, aft, g⟩ fun u τ => u = byt m ∧ τ = pre ++ post := fun a w hs => by
  subst hσ
  obtain ⟨us, h1, h2⟩ : (ownPc e' 1 v (m.map fun b => [Abs.v (bc b)])).p _ w := hs.mem.hold (own e' 1 v _) (by simp)
  have h3 := rep_byt.1 (own_sl hs.mem)
  rcases h1.2 with ⟨rfl, h0⟩ | ⟨g', cap, cur, rfl, _, hg, hle, hmx, hsz, htk⟩
  · exact absurd (List.length_eq_zero_iff.1 (by simpa using h0)) hne
  · have hlt := heap_lt hg
    have hfr : w.freeze ⟨g', cur.size, none⟩ 1 = { w with heap := w.heap.setIfInBounds g' (.cells cur e' (cur.size, cur.size + 1)) } := by
      unfold World.freeze
      rw [if_neg (by decide)]
      congr 1
      apply Array.ext_getElem?
      intro i
      rw [Array.getElem?_modify, Array.getElem?_setIfInBounds]
      by_cases h : g' = i
      · subst h
        rw [if_pos rfl, if_pos rfl, if_pos hlt, hg]
        rfl
      · rw [if_neg h, if_neg h]
    have hrun : (convert t t (.slice (some ⟨g', 0, none⟩) (m.map fun b => [Abs.v (bc b)]).length cap)).run P w = .ok (.slice (some ⟨g', 0, none⟩) (m.map fun b => [Abs.v (bc b)]).length cap) { w with heap := w.heap.setIfInBounds g' (.cells cur e' (cur.size, cur.size + 1)) } := by
      have hsh : w.shape? g' = some (e', cur.size) := by unfold World.shape?; rw [hg]
      simp [convert, run_underlying ht, run_underlying he, markStringish, hsh]
      exact hfr
    have hxx : Ext [g'] w { w with heap := w.heap.setIfInBounds g' (.cells cur e' (cur.size, cur.size + 1)) } := ⟨rfl, rfl, rfl, by simp, fun k _ hn => by
      have : g' ≠ k := fun h => hn (by simp [h])
      simp [Array.getElem?_setIfInBounds_ne this]⟩
    have hsub : (pre ++ post).Sublist (pre ++ own e' 1 (.slice (some ⟨g', 0, none⟩) (m.map fun b => [Abs.v (bc b)]).length cap) (m.map fun b => [.v (bc b)]) :: post) := List.Sublist.append (List.Sublist.refl _) (List.sublist_cons_self _ _)
    have hmid : g' ∈ mids (pre ++ own e' 1 (.slice (some ⟨g', 0, none⟩) (m.map fun b => [Abs.v (bc b)]).length cap) (m.map fun b => [.v (bc b)]) :: post) := by simp [mids_append, mids_cons, It.mids, ownPc, Value.ownBlock]
    have hnd := hs.mem.nodup
    simp only [mids_append, mids_cons, List.nodup_append] at hnd
    obtain ⟨n1, ⟨n2, n3, n4⟩, n5⟩ := hnd
    have hself : g' ∈ (own e' 1 (.slice (some ⟨g', 0, none⟩) (m.map fun b => [Abs.v (bc b)]).length cap) (m.map fun b => [.v (bc b)])).mids := by simp [It.mids, ownPc, Value.ownBlock]
    have hst := hs.mem.step (τ := pre ++ post) hxx (by intro k hk; rw [List.mem_singleton.1 hk]; exact hmid) (fun k hk => .inl ((mids_sub hsub).subset hk)) (fun x hx => hs.mem.ro x (hsub.subset hx)) (hs.mem.nodup.sublist (mids_sub hsub)) (fun hc y hy => hs.mem.keep hxx hc (hsub.subset hy) (fun k hk hkg => by
      rw [List.mem_singleton.1 hkg] at hk
      rcases List.mem_append.1 hy with hy | hy
      · exact n5 g' (mids_mem.2 ⟨y, hy, hk⟩) g' (List.mem_append_left _ hself) rfl
      · exact n4 g' hself g' (mids_mem.2 ⟨y, hy, hk⟩) rfl) (by intro k hk; rw [List.mem_singleton.1 hk]; exact hmid))
    refine ⟨_, _, _, _, ⟨rfl, rfl⟩, hxx.mono (by simp [Value.ownBlock]), rep_byt.2 ⟨h3.shape, fun hn => ?_⟩, hst.1, hst.2, .inl (by
      simp only [List.length_map] at hrun
      simp [execOp, hs.plain hx, hrun, Result.andThen])⟩
    obtain ⟨b, off, n', c', hv, hb, hc⟩ := h3.cells hn
    exact ⟨b, off, n', c', hv, hb, fun j u hu => by rw [cells_marked hg]; exact hc j u hu⟩
end Go.Proofs.Ytpgffckfbgfgcaa.A
/-
  Messages: signing, checking; VectorAll: the walk.
-/
set_option maxRecDepth 100000
set_option linter.unusedSimpArgs false
set_option linter.unusedVariables false
namespace Go.Proofs.Ytpgffckfbgfgcaa.A
open Go.RowKit

/-- A tag. -/
structure Tg where
  d : List UInt8
  len : d.length = 32
def Tg.abs (t : Tg) : List Abs := digA t.d
theorem Tg.size (t : Tg) : t.abs.length = 32 := by simp [Tg.abs, digA, t.len]
/-- A message. -/
structure Msg where
  kind : Int
  from_ : Int
  body : List UInt8
  tags : List Tg
def Msg.abs (m : Msg) : List Abs := [int m.kind, int m.from_, byt m.body, .sl 32 (m.tags.map Tg.abs)]
def chkM (T : TMap) (m : Msg) (place who : Int) : Int :=
  if place < 0 ∨ (m.tags.length : Int) ≤ place then 12 else
  if ((aget T ((m.from_, who), textV m.kind m.body)).isSome && decide (((m.tags[place.toNat]?).map Tg.d).getD [] = numB 255 (pl T ((m.from_, who), textV m.kind m.body)))) = true then 0 else 12
section
variable {m : Msg} {place who k f n : Int} {body : List UInt8} {to : List Int} {p bd bt : Nat} {Dm : DMap} {T : TMap}
set_option maxHeartbeats 2000000 in
theorem check0_s  : Spec Try.prog 102 [.v .nilIface, .agg m.abs, int place, int who] [] (fun _ : Unit => []) (fun _ => int 12) := by
  refine spec_of Try.func102 rfl Try.ntmps102 rfl fun G w => ?_
  refine SC.seq (SC.region ?_)
  refine SL.eff (Eff.boxA rfl) rfl rfl ?_
  rintro _ _ ⟨b5, rfl, rfl⟩
  refine SL.val (Val.assign rfl) rfl rfl ?_
  refine SL.nil (SE.seq ?_)
  refine SC.seq ?_
  refine SC.seq ?_
  refine SC.draw [] (.q 0 (.q 1 (.q 2 (.q 3 (.q 4 (.q 5 (.q 6 (.q 7 (.q 8 (.q 9 (.q 10 (.q 11 (.q 12 (.q 13 (.q 14 (.q 15 (.q 16 (.q 17 (.q 18 (.q 19 (.q 20 (.q 21 (.q 23 (.q 24 (.q 25 (.q 26 (.q 27 (.q 28 (.q 29 (.q 30 (.e 22 (.e 31 (.q 32 (.q 33 .nil)))))))))))))))))))))))))))))))))) (by kernel_rfl) (by kernel_rfl) ?_
  refine SX.val rfl (Val.move rfl) (by simp) rfl rfl ?_
  refine SX.val rfl (Val.nilNil Try.underlying119 rfl) (by first | (simp [mids, It.mids, ownPc, bkPc]; done) | (intro k hk; simp [mids, It.mids, ownPc, bkPc] at hk ⊢; grind)) rfl rfl ?_
  refine SX.val rfl (Val.move rfl) (by simp) rfl rfl ?_
  iterate 2 refine SX.skip rfl rfl rfl ?_
  refine SX.val rfl (Val.pickT rfl rfl) (by simp) rfl rfl ?_
  refine SX.val rfl (Val.move rfl) (by simp) rfl rfl ?_
  iterate 5 refine SX.skip rfl rfl rfl ?_
  refine SX.val rfl (Val.pickT rfl rfl) (by simp) rfl rfl ?_
  refine SX.val rfl (Val.move rfl) (by simp) rfl rfl ?_
  iterate 16 refine SX.skip rfl rfl rfl ?_
  refine SX.skip' rfl rfl rfl ?_
  refine SX.skip' rfl rfl rfl ?_
  refine SX.skip rfl rfl rfl ?_
  refine SX.val rfl (Val.pickT rfl rfl) (by simp) rfl rfl ?_
  refine SX.nil (SE.seq ?_)
  refine SC.condT rfl ?_
  refine SC.seq (SC.region ?_)
  refine SL.val (Val.assign rfl) rfl rfl ?_
  refine SL.nil (SE.seq ?_)
  refine SC.ret ?_
  refine SE.then_ (by intro h; cases h) ?_
  refine SE.fin (rs := [.tmp 8]) rfl (RV.tmp rfl RV.nil) (()) (by repeat first|exact s0 _|exact s1 _|apply s2|apply s3) (by simp [It.rids]) ?_
  exact rfl
set_option maxHeartbeats 4000000 in
theorem checkb_s (hl : m.body.length ≤ 1000) (hx : i64r m.from_) (hy : i64r who) (hm : T.length < 1000000) (hpl : pl T ((m.from_, who), textV m.kind m.body) < 9223372036854775808) : Spec Try.prog 102 [.ifc 25 (.v (.pointer (some ⟨p, 0, none⟩))), .agg m.abs, int place, int who] [.pc (bkPc p bd bt Dm T)] (fun _ : Unit => [.pc (bkPc p bd bt Dm T)]) (fun _ => int (chkM T m place who)) := by
  refine spec_of Try.func102 rfl Try.ntmps102 rfl fun G w => ?_
  refine SC.seq (SC.region ?_)
  refine SL.eff (Eff.boxA rfl) rfl rfl ?_
  rintro _ _ ⟨b5, rfl, rfl⟩
  refine SL.val (Val.assign rfl) rfl rfl ?_
  refine SL.nil (SE.seq ?_)
  refine SC.seq ?_
  refine SC.seq ?_
  refine SC.known (p := b5 ∉ [p, bd, bt]) (fun _ _ h => by
      have h1 := h.mem.nodup
      simp [mids, It.mids, bkPc, ownPc] at h1 ⊢
      grind) fun hX => ?_
  refine SC.draw [p, bd, bt] (.q 0 (.q 1 (.q 2 (.q 3 (.q 4 (.q 5 (.q 6 (.q 7 (.q 8 (.q 9 (.q 10 (.q 11 (.q 12 (.q 13 (.q 14 (.q 15 (.q 16 (.q 17 (.q 18 (.q 19 (.q 20 (.q 21 (.q 23 (.q 24 (.q 25 (.q 26 (.q 27 (.q 28 (.q 29 (.q 30 (.e 22 (.e 31 (.q 32 (.q 33 .nil)))))))))))))))))))))))))))))))))) (by kernel_rfl) (by kernel_rfl) ?_
  refine SX.val rfl (Val.move rfl) (by first | (simp [mids, It.mids, ownPc, bkPc]; done) | (intro k hk; simp [mids, It.mids, ownPc, bkPc] at hk ⊢; grind)) rfl rfl ?_
  refine SX.val rfl (Val.ifaceNil Try.underlying119 rfl) (by first | (simp [mids, It.mids, ownPc, bkPc]; done) | (intro k hk; simp [mids, It.mids, ownPc, bkPc] at hk ⊢; grind)) rfl rfl ?_
  refine SX.val rfl (Val.move rfl) (by first | (simp [mids, It.mids, ownPc, bkPc]; done) | (intro k hk; simp [mids, It.mids, ownPc, bkPc] at hk ⊢; grind)) rfl rfl ?_
  refine SX.val rfl (Val.move rfl) (by first | (simp [mids, It.mids, ownPc, bkPc]; done) | (intro k hk; simp [mids, It.mids, ownPc, bkPc] at hk ⊢; grind)) rfl rfl ?_
  refine SX.val rfl (Val.ltI rfl rfl) (by first | (simp [mids, It.mids, ownPc, bkPc]; done) | (intro k hk; simp [mids, It.mids, ownPc, bkPc] at hk ⊢; grind)) rfl rfl ?_
  refine SX.val rfl (Val.pickF rfl rfl) (by first | (simp [mids, It.mids, ownPc, bkPc]; done) | (intro k hk; simp [mids, It.mids, ownPc, bkPc] at hk ⊢; grind)) rfl rfl ?_
  refine SX.val rfl (Val.move rfl) (by first | (simp [mids, It.mids, ownPc, bkPc]; done) | (intro k hk; simp [mids, It.mids, ownPc, bkPc] at hk ⊢; grind)) rfl rfl ?_
  refine SX.bothP (t := 15) rfl ?_ ?_
  · intro hc15
    iterate 5 refine SX.skip rfl rfl rfl ?_
    refine SX.val rfl (Val.pickT rfl rfl) (by first | (simp [mids, It.mids, ownPc, bkPc]; done) | (intro k hk; simp [mids, It.mids, ownPc, bkPc] at hk ⊢; grind)) rfl rfl ?_
    refine SX.val rfl (Val.move rfl) (by first | (simp [mids, It.mids, ownPc, bkPc]; done) | (intro k hk; simp [mids, It.mids, ownPc, bkPc] at hk ⊢; grind)) rfl rfl ?_
    iterate 16 refine SX.skip rfl rfl rfl ?_
    refine SX.skip' rfl rfl rfl ?_
    refine SX.skip' rfl rfl rfl ?_
    refine SX.skip rfl rfl rfl ?_
    refine SX.val rfl (Val.pickT rfl rfl) (by first | (simp [mids, It.mids, ownPc, bkPc]; done) | (intro k hk; simp [mids, It.mids, ownPc, bkPc] at hk ⊢; grind)) rfl rfl ?_
    refine SX.nil (SE.seq ?_)
    refine SC.condT rfl ?_
    refine SC.seq (SC.region ?_)
    refine SL.val (Val.assign rfl) rfl rfl ?_
    refine SL.nil (SE.seq ?_)
    refine SC.ret ?_
    refine SE.then_ (by intro h; cases h) ?_
    refine SE.fin (rs := [.tmp 8]) rfl (RV.tmp rfl RV.nil) (()) (by repeat first|exact s0 _|exact s1 _|apply s2|apply s3) (by simp [It.rids]) ?_
    refine congrArg int ?_
    unfold chkM
    first
      | (rw [if_pos (by omega)])
      | (rw [if_neg (by omega), if_neg (by
          have h8 := hc42
          simp only [Int.toNat_natCast, List.getElem?_eq_getElem hq, Option.map_some, Option.getD_some]
          intro h9
          rw [h9] at h8
          simp at h8)])
  intro hc15
  refine SX.val rfl (Val.move rfl) (by first | (simp [mids, It.mids, ownPc, bkPc]; done) | (intro k hk; simp [mids, It.mids, ownPc, bkPc] at hk ⊢; grind)) rfl rfl ?_
  refine SX.val rfl (Val.fieldAddr tabOk rfl rfl rfl rfl rfl) (by first | (simp [mids, It.mids, ownPc, bkPc]; done) | (intro k hk; simp [mids, It.mids, ownPc, bkPc] at hk ⊢; grind)) rfl rfl ?_
  refine SX.val rfl (Val.load1 tabOk rfl rfl (by first|(apply Or.inl;(repeat first|assumption|exact m0|apply m1);done)|(apply Or.inr;(repeat first|assumption|exact m0|apply m1);done)) hX (by rfl)) (by first | (simp [mids, It.mids, ownPc, bkPc]; done) | (intro k hk; simp [mids, It.mids, ownPc, bkPc] at hk ⊢; grind)) rfl rfl ?_
  first
    | refine SX.val rfl (Val.lenSl rfl Try.underlying139 (List.length_map _)) (by first | (simp [mids, It.mids, ownPc, bkPc]; done) | (intro k hk; simp [mids, It.mids, ownPc, bkPc] at hk ⊢; grind)) rfl rfl ?_
    | refine SX.val rfl (Val.lenOwn rfl (by repeat first|assumption|exact m0|apply m1) Try.underlying139 (List.length_map _)) (by first | (simp [mids, It.mids, ownPc, bkPc]; done) | (intro k hk; simp [mids, It.mids, ownPc, bkPc] at hk ⊢; grind)) rfl rfl ?_
    | refine SX.val rfl (Val.lenNil rfl Try.underlying139) (by first | (simp [mids, It.mids, ownPc, bkPc]; done) | (intro k hk; simp [mids, It.mids, ownPc, bkPc] at hk ⊢; grind)) rfl rfl ?_
  refine SX.val rfl (Val.geI rfl rfl) (by first | (simp [mids, It.mids, ownPc, bkPc]; done) | (intro k hk; simp [mids, It.mids, ownPc, bkPc] at hk ⊢; grind)) rfl rfl ?_
  refine SX.val rfl (Val.pickF rfl rfl) (by first | (simp [mids, It.mids, ownPc, bkPc]; done) | (intro k hk; simp [mids, It.mids, ownPc, bkPc] at hk ⊢; grind)) rfl rfl ?_
  refine SX.val rfl (Val.move rfl) (by first | (simp [mids, It.mids, ownPc, bkPc]; done) | (intro k hk; simp [mids, It.mids, ownPc, bkPc] at hk ⊢; grind)) rfl rfl ?_
  refine SX.bothP (t := 22) rfl ?_ ?_
  · intro hc22
    iterate 16 refine SX.skip rfl rfl rfl ?_
    refine SX.skip' rfl rfl rfl ?_
    refine SX.skip' rfl rfl rfl ?_
    refine SX.skip rfl rfl rfl ?_
    refine SX.val rfl (Val.pickT rfl rfl) (by first | (simp [mids, It.mids, ownPc, bkPc]; done) | (intro k hk; simp [mids, It.mids, ownPc, bkPc] at hk ⊢; grind)) rfl rfl ?_
    refine SX.nil (SE.seq ?_)
    refine SC.condT rfl ?_
    refine SC.seq (SC.region ?_)
    refine SL.val (Val.assign rfl) rfl rfl ?_
    refine SL.nil (SE.seq ?_)
    refine SC.ret ?_
    refine SE.then_ (by intro h; cases h) ?_
    refine SE.fin (rs := [.tmp 8]) rfl (RV.tmp rfl RV.nil) (()) (by repeat first|exact s0 _|exact s1 _|apply s2|apply s3) (by simp [It.rids]) ?_
    refine congrArg int ?_
    unfold chkM
    first
      | (rw [if_pos (by omega)])
      | (rw [if_neg (by omega), if_neg (by
          have h8 := hc42
          simp only [Int.toNat_natCast, List.getElem?_eq_getElem hq, Option.map_some, Option.getD_some]
          intro h9
          rw [h9] at h8
          simp at h8)])
  intro hc22
  obtain ⟨q, rfl⟩ : ∃ q : Nat, place = (q : Nat) := ⟨place.toNat, by omega⟩
  have hq : q < m.tags.length := by omega
  refine SX.val rfl (Val.move rfl) (by first | (simp [mids, It.mids, ownPc, bkPc]; done) | (intro k hk; simp [mids, It.mids, ownPc, bkPc] at hk ⊢; grind)) rfl rfl ?_
  refine SX.val rfl (Val.fieldAddr tabOk rfl rfl rfl rfl rfl) (by first | (simp [mids, It.mids, ownPc, bkPc]; done) | (intro k hk; simp [mids, It.mids, ownPc, bkPc] at hk ⊢; grind)) rfl rfl ?_
  refine SX.val rfl (Val.load1 tabOk rfl rfl (by first|(apply Or.inl;(repeat first|assumption|exact m0|apply m1);done)|(apply Or.inr;(repeat first|assumption|exact m0|apply m1);done)) hX (by rfl)) (by first | (simp [mids, It.mids, ownPc, bkPc]; done) | (intro k hk; simp [mids, It.mids, ownPc, bkPc] at hk ⊢; grind)) rfl rfl ?_
  refine SX.val rfl (Val.move rfl) (by first | (simp [mids, It.mids, ownPc, bkPc]; done) | (intro k hk; simp [mids, It.mids, ownPc, bkPc] at hk ⊢; grind)) rfl rfl ?_
  refine SX.val rfl (Val.fieldAddr tabOk rfl rfl rfl rfl rfl) (by first | (simp [mids, It.mids, ownPc, bkPc]; done) | (intro k hk; simp [mids, It.mids, ownPc, bkPc] at hk ⊢; grind)) rfl rfl ?_
  refine SX.val rfl (Val.load1 tabOk rfl rfl (by first|(apply Or.inl;(repeat first|assumption|exact m0|apply m1);done)|(apply Or.inr;(repeat first|assumption|exact m0|apply m1);done)) hX (by rfl)) (by first | (simp [mids, It.mids, ownPc, bkPc]; done) | (intro k hk; simp [mids, It.mids, ownPc, bkPc] at hk ⊢; grind)) rfl rfl ?_
  refine SX.val rfl (Val.fieldAddr tabOk rfl rfl rfl rfl rfl) (by first | (simp [mids, It.mids, ownPc, bkPc]; done) | (intro k hk; simp [mids, It.mids, ownPc, bkPc] at hk ⊢; grind)) rfl rfl ?_
  refine SX.val rfl (Val.load1 tabOk rfl rfl (by first|(apply Or.inl;(repeat first|assumption|exact m0|apply m1);done)|(apply Or.inr;(repeat first|assumption|exact m0|apply m1);done)) hX (by rfl)) (by first | (simp [mids, It.mids, ownPc, bkPc]; done) | (intro k hk; simp [mids, It.mids, ownPc, bkPc] at hk ⊢; grind)) rfl rfl ?_
  refine SX.val rfl (Val.fieldAddr tabOk rfl rfl rfl rfl rfl) (by first | (simp [mids, It.mids, ownPc, bkPc]; done) | (intro k hk; simp [mids, It.mids, ownPc, bkPc] at hk ⊢; grind)) rfl rfl ?_
  refine SX.val rfl (Val.load1 tabOk rfl rfl (by first|(apply Or.inl;(repeat first|assumption|exact m0|apply m1);done)|(apply Or.inr;(repeat first|assumption|exact m0|apply m1);done)) hX (by rfl)) (by first | (simp [mids, It.mids, ownPc, bkPc]; done) | (intro k hk; simp [mids, It.mids, ownPc, bkPc] at hk ⊢; grind)) rfl rfl ?_
  refine SX.val rfl (Val.move rfl) (by first | (simp [mids, It.mids, ownPc, bkPc]; done) | (intro k hk; simp [mids, It.mids, ownPc, bkPc] at hk ⊢; grind)) rfl rfl ?_
  refine SX.val rfl (Val.indexSl tabOk Try.underlying139 rfl rfl rfl rfl (at_map (by omega)) rfl rfl) (by first | (simp [mids, It.mids, ownPc, bkPc]; done) | (intro k hk; simp [mids, It.mids, ownPc, bkPc] at hk ⊢; grind)) rfl rfl ?_
  refine SX.val rfl (Val.loadAR tabOk rfl rfl rfl (Tg.size _)) (by first | (simp [mids, It.mids, ownPc, bkPc]; done) | (intro k hk; simp [mids, It.mids, ownPc, bkPc] at hk ⊢; grind)) rfl rfl ?_
  refine SX.val rfl (Val.makeFunc rfl rfl) (by first | (simp [mids, It.mids, ownPc, bkPc]; done) | (intro k hk; simp [mids, It.mids, ownPc, bkPc] at hk ⊢; grind)) rfl rfl ?_
  refine SX.val rfl (Val.nilMethod rfl (fun w => by kernel_rfl)) (by first | (simp [mids, It.mids, ownPc, bkPc]; done) | (intro k hk; simp [mids, It.mids, ownPc, bkPc] at hk ⊢; grind)) rfl rfl ?_
  refine SX.val rfl (Val.move rfl) (by first | (simp [mids, It.mids, ownPc, bkPc]; done) | (intro k hk; simp [mids, It.mids, ownPc, bkPc] at hk ⊢; grind)) rfl rfl ?_
  refine SX.call rfl (text_s (k := m.kind) (l := m.body) (by omega)) (by simp [mids, It.mids]) Casts.refl (by kernel_rfl) rfl rfl rfl ?_
  refine After.pure (by repeat first|exact .nil|refine .blk (by repeat first|assumption|exact m0|apply m1) ?_|refine .rd (by repeat first|assumption|exact m0|apply m1) ?_|refine .pc (by repeat first|assumption|exact m0|apply m1) ?_|refine .rdpc (by repeat first|assumption|exact m0|apply m1) ?_) (fun _ => rfl) ?_
  intro _
  refine SX.invokeR rfl (bkcheck_s (p := p) (bd := bd) (bt := bt) (D := Dm) (T := T) (from_ := m.from_) (to_ := who) (l := textV m.kind m.body) (M := (m.tags[q]'hq).d) hx hy (by unfold maxLen; simp [textV]; omega) (m.tags[q]'hq).len hm hpl) (by simp [mids, It.mids, bkPc]) rfl Casts.refl (fun _ _ _ => by kernel_rfl) rfl rfl rfl ?_
  refine After.one rfl (by repeat first|assumption|exact m0|apply m1) (fun _ => rfl) ?_
  intro _
  refine ⟨_, (by repeat first|assumption|exact Upd.here|apply Upd.there), ?_⟩
  refine SX.val rfl (Val.notB rfl) (by first | (simp [mids, It.mids, ownPc, bkPc]; done) | (intro k hk; simp [mids, It.mids, ownPc, bkPc] at hk ⊢; grind)) rfl rfl ?_
  refine SX.val rfl (Val.pickF rfl rfl) (by first | (simp [mids, It.mids, ownPc, bkPc]; done) | (intro k hk; simp [mids, It.mids, ownPc, bkPc] at hk ⊢; grind)) rfl rfl ?_
  refine SX.nil (SE.seq ?_)
  refine SC.cond rfl ?_ ?_
  rotate_left
  · intro hc42
    refine SC.skip ?_
    refine SE.seq ?_
    refine SC.seq (SC.region ?_)
    refine SL.val (Val.assign rfl) rfl rfl ?_
    refine SL.nil (SE.seq ?_)
    refine SC.ret ?_
    refine SE.fin (rs := [.tmp 8]) rfl (RV.tmp rfl RV.nil) (()) (by repeat first|exact s0 _|exact s1 _|apply s2|apply s3) (by simp [It.rids]) ?_
    refine congrArg int ?_
    unfold chkM
    rw [if_neg (by omega), if_pos (by
      have h8 := hc42
      simp only [Int.toNat_natCast, List.getElem?_eq_getElem hq, Option.map_some, Option.getD_some]
      simpa using h8)]
  intro hc42
  refine SC.seq (SC.region ?_)
  refine SL.val (Val.assign rfl) rfl rfl ?_
  refine SL.nil (SE.seq ?_)
  refine SC.ret ?_
  refine SE.then_ (by intro h; cases h) ?_
  refine SE.fin (rs := [.tmp 8]) rfl (RV.tmp rfl RV.nil) (()) (by repeat first|exact s0 _|exact s1 _|apply s2|apply s3) (by simp [It.rids]) ?_
  refine congrArg int ?_
  unfold chkM
  first
    | (rw [if_pos (by omega)])
    | (rw [if_neg (by omega), if_neg (by
        have h8 := hc42
        simp only [Int.toNat_natCast, List.getElem?_eq_getElem hq, Option.map_some, Option.getD_some]
        intro h9
        rw [h9] at h8
        simp at h8)])
set_option maxHeartbeats 2000000 in
theorem sign0_s (hl : body.length ≤ 1000) : Spec Try.prog 103 [.v .nilIface, int k, int f, byt body, ints to] [] (fun _ : Unit => []) (fun _ => .agg (Msg.mk k f body []).abs) := by
  refine spec_of Try.func103 rfl Try.ntmps103 rfl fun G w => ?_
  refine SC.seq (SC.region ?_)
  refine SL.eff (Eff.alloc tabOk rfl) rfl rfl ?_
  rintro _ _ ⟨b10, rfl, rfl⟩
  refine SL.nil (SE.seq ?_)
  refine SC.seq (SC.region ?_)
  refine SL.val (Val.move rfl) rfl rfl ?_
  refine SL.val (Val.move rfl) rfl rfl ?_
  refine SL.val (Val.move rfl) rfl rfl ?_
  refine SL.call (clone_s (l := body) (by omega)) Casts.refl (by kernel_rfl) rfl rfl rfl ?_
  refine After.pure (by repeat first|exact .nil|refine .blk (by repeat first|assumption|exact m0|apply m1) ?_|refine .rd (by repeat first|assumption|exact m0|apply m1) ?_|refine .pc (by repeat first|assumption|exact m0|apply m1) ?_|refine .rdpc (by repeat first|assumption|exact m0|apply m1) ?_) (fun _ => rfl) ?_
  intro _
  refine SL.val (Val.buildS tabOk rfl rfl rfl rfl) rfl rfl ?_
  refine SL.eff (Eff.alloc tabOk rfl) rfl rfl ?_
  rintro _ _ ⟨b11, rfl, rfl⟩
  refine SL.eff (Eff.store tabOk rfl rfl rfl (by repeat first|assumption|exact Upd.here|apply Upd.there) (by rfl) (Nat.le_of_ble_eq_true (by rfl)) (by rfl) (by rfl)) rfl rfl ?_
  rintro _ _ ⟨rfl, rfl⟩
  refine SL.nil (SE.seq ?_)
  refine SC.seq ?_
  refine SC.seq (SC.region ?_)
  refine SL.val (Val.move rfl) rfl rfl ?_
  refine SL.val (Val.nilNil Try.underlying119 rfl) rfl rfl ?_
  refine SL.nil (SE.seq ?_)
  refine SC.condT rfl ?_
  refine SC.seq (SC.region ?_)
  first
    | refine SL.val (Val.loadA tabOk rfl rfl rfl (by first|(apply Or.inl;(repeat first|assumption|exact m0|apply m1);done)|(apply Or.inr;(repeat first|assumption|exact m0|apply m1);done)) List.not_mem_nil (by rfl)) rfl rfl ?_
    | refine SL.val (Val.loadP tabOk rfl rfl rfl (by first|(apply Or.inl;(repeat first|assumption|exact m0|apply m1);done)|(apply Or.inr;(repeat first|assumption|exact m0|apply m1);done)) List.not_mem_nil (Nat.le_of_ble_eq_true (by rfl))) rfl rfl ?_
  refine SL.eff (Eff.store tabOk rfl rfl rfl (by repeat first|assumption|exact Upd.here|apply Upd.there) (by rfl) (Nat.le_of_ble_eq_true (by rfl)) (by rfl) (by rfl)) rfl rfl ?_
  rintro _ _ ⟨rfl, rfl⟩
  refine SL.nil (SE.seq ?_)
  refine SC.ret ?_
  refine SE.then_ (by intro h; cases h) ?_
  refine SE.finC (rs := [.cell 10 141]) rfl (RV.cell rfl (RV.cellA tabOk rfl rfl (by first|(apply Or.inl;(repeat first|assumption|exact m0|apply m1);done)|(apply Or.inr;(repeat first|assumption|exact m0|apply m1);done)) (by rfl)) RV.nil) (Casts.cons (cast_agg (Casts.keep (Casts.keep (Casts.keep (Casts.nils (s := 32) Casts.refl))))) Casts.refl) (()) (by repeat first|exact s0 _|exact s1 _|apply s2|apply s3) (by simp [It.rids]) ?_
  exact rfl
/-- What a new book says of four messages. -/
def T4 (i : Nat) : TMap := (List.range i).map fun j => (((0, (j : Nat)), [2, 120]), j + 1)
def tg4 (i : Nat) : List Tg := (List.range i).map fun j => ⟨numB 255 (j + 1), numB_length _ _⟩
theorem T4_length (i : Nat) : (T4 i).length = i := by simp [T4]
theorem T4_none (i : Nat) : aget (T4 i) (((0, (i : Nat)), [2, 120]) : (Int × Int) × List UInt8) = none := by
  rw [aget_none]
  unfold T4
  simp only [List.map_map, List.mem_map, List.mem_range, Function.comp, not_exists, not_and]
  intro j hj h
  simp only [Prod.mk.injEq, true_and, and_true] at h
  omega
theorem T4_pl (i : Nat) : pl (T4 i) (((0, (i : Nat)), [2, 120]) : (Int × Int) × List UInt8) = i + 1 := by
  unfold pl
  rw [T4_none, T4_length]
  rfl
theorem T4_pm (i : Nat) : pm (T4 i) (((0, (i : Nat)), [2, 120]) : (Int × Int) × List UInt8) = T4 (i + 1) := by
  unfold pm aput
  rw [T4_none, if_neg (by simp), if_neg (by simp), T4_length]
  unfold T4
  rw [List.range_succ, List.map_append]
  rfl
theorem tg4_succ (i : Nat) : (tg4 i).map Tg.abs ++ [digA (numB 255 (i + 1))] = (tg4 (i + 1)).map Tg.abs := by
  unfold tg4
  rw [List.range_succ, List.map_append, List.map_append]
  rfl
def m4 : Msg := ⟨2, 0, [120], tg4 4⟩
theorem all4 : allN 4 = [0, 1, 2, 3] := by decide
theorem all4_get {i : Nat} (h : i < (allN 4).length) : (allN 4)[i] = (i : Nat) := by
  unfold allN
  simp
theorem m4_ok : chkM (T4 4) m4 3 3 = 0 := by decide +kernel
theorem m4_no : chkM (T4 4) m4 3 2 = 12 := by decide +kernel
theorem m4_out : chkM (T4 4) m4 4 4 = 12 := by decide +kernel
set_option maxHeartbeats 4000000 in
theorem sign4_s  : Spec Try.prog 103 [.ifc 25 (.v (.pointer (some ⟨p, 0, none⟩))), int 2, int 0, byt [120], ints (allN 4)] [.pc (bkPc p bd bt [] [])] (fun _ : Unit => [.pc (bkPc p bd bt [] (T4 4))]) (fun _ => .agg m4.abs) := by
  have hlen : (allN 4).length = 4 := by rw [all4]; rfl
  refine spec_of Try.func103 rfl Try.ntmps103 rfl fun G w => ?_
  refine SC.seq (SC.region ?_)
  refine SL.eff (Eff.alloc tabOk rfl) rfl rfl ?_
  rintro _ _ ⟨b10, rfl, rfl⟩
  refine SL.nil (SE.seq ?_)
  refine SC.seq (SC.region ?_)
  refine SL.val (Val.move rfl) rfl rfl ?_
  refine SL.val (Val.move rfl) rfl rfl ?_
  refine SL.val (Val.move rfl) rfl rfl ?_
  refine SL.call (clone_s (l := [120]) (by simp)) Casts.refl (by kernel_rfl) rfl rfl rfl ?_
  refine After.pure (by repeat first|exact .nil|refine .blk (by repeat first|assumption|exact m0|apply m1) ?_|refine .rd (by repeat first|assumption|exact m0|apply m1) ?_|refine .pc (by repeat first|assumption|exact m0|apply m1) ?_|refine .rdpc (by repeat first|assumption|exact m0|apply m1) ?_) (fun _ => rfl) ?_
  intro _
  refine SL.val (Val.buildS tabOk rfl rfl rfl rfl) rfl rfl ?_
  refine SL.eff (Eff.alloc tabOk rfl) rfl rfl ?_
  rintro _ _ ⟨b11, rfl, rfl⟩
  refine SL.eff (Eff.store tabOk rfl rfl rfl (by repeat first|assumption|exact Upd.here|apply Upd.there) (by rfl) (Nat.le_of_ble_eq_true (by rfl)) (by rfl) (by rfl)) rfl rfl ?_
  rintro _ _ ⟨rfl, rfl⟩
  refine SL.nil (SE.seq ?_)
  refine SC.seq ?_
  refine SC.seq (SC.region ?_)
  refine SL.val (Val.move rfl) rfl rfl ?_
  refine SL.val (Val.ifaceNil Try.underlying119 rfl) rfl rfl ?_
  refine SL.nil (SE.seq ?_)
  refine SC.condF rfl ?_
  refine SC.skip ?_
  refine SE.seq ?_
  refine SC.seq (SC.region ?_)
  refine SL.val (Val.move rfl) rfl rfl ?_
  refine SL.val (Val.move rfl) rfl rfl ?_
  refine SL.call ((text_s (k := 2) (l := [120]) (by simp) : Pure Try.prog 167 [int 2, byt [120]] (byt [2, 120]))) Casts.refl (by kernel_rfl) rfl rfl rfl ?_
  refine After.pure (by repeat first|exact .nil|refine .blk (by repeat first|assumption|exact m0|apply m1) ?_|refine .rd (by repeat first|assumption|exact m0|apply m1) ?_|refine .pc (by repeat first|assumption|exact m0|apply m1) ?_|refine .rdpc (by repeat first|assumption|exact m0|apply m1) ?_) (fun _ => rfl) ?_
  intro _
  refine SL.val (Val.assign rfl) rfl rfl ?_
  refine SL.nil (SE.seq ?_)
  refine SC.seq ?_
  refine SC.seq (SC.region ?_)
  refine SL.val (Val.move rfl) rfl rfl ?_
  first
    | refine SL.val (Val.lenSl rfl Try.underlying81 (List.length_map _)) rfl rfl ?_
    | refine SL.val (Val.lenOwn rfl (by repeat first|assumption|exact m0|apply m1) Try.underlying81 (List.length_map _)) rfl rfl ?_
    | refine SL.val (Val.lenNil rfl Try.underlying81) rfl rfl ?_
  refine SL.val (Val.move rfl) rfl rfl ?_
  refine SL.nil (SE.seq ?_)
  refine SC.block ?_
  refine SC.own0 120 32 ?_
  refine SC.loop (ι := Nat × Value) (fun z => [own 120 32 z.2 ((tg4 z.1).map Tg.abs), .blk b11 141 [int 2, int 0, byt [120], .v z.2], .blk b10 141 (zabs [.int .i64 0, .int .i64 0, .slice none 0 0, .slice none 0 0]), .pc (bkPc p bd bt [] (T4 z.1))]) (fun z => [(0, .ifc 25 (.v (.pointer (some ⟨p, 0, none⟩)))), (2, int 0), (10, ptr b10), (11, ptr b11), (12, byt [2, 120]), (26, ints (allN 4)), (27, int ((allN 4).length : Nat)), (28, int (z.1 : Nat))]) (fun z => z.1 ≤ 4) (fun z => 4 - z.1) (0, .slice none 0 0) (by decide) (by exact ⟨rfl, rfl, rfl, rfl, rfl, rfl, rfl, rfl, trivial⟩) (by repeat first|exact s0 _|exact s1 _|apply s2|apply s3) ?_
  intro z hz
  refine SC.seq (SC.region ?_)
  refine SL.val (Val.ltI rfl rfl) rfl rfl ?_
  refine SL.nil (SE.seq ?_)
  refine SC.seq ?_
  refine SC.condP rfl ?_ ?_
  rotate_left
  · intro hc29
    refine SC.exit ?_
    refine SE.then_ (by intro h; cases h) ?_
    refine SE.then_ (by intro h; cases h) ?_
    refine SE.exit ?_
    refine SE.seq ?_
    refine SC.seq ?_
    have hz4 : z.1 = 4 := by omega
    refine SC.freezeC [] 3 rfl (by repeat first|assumption|exact Upd.here|apply Upd.there) rfl ?_
    rw [hz4]
    refine SC.region ?_
    first
      | refine SL.val (Val.loadA tabOk rfl rfl rfl (by first|(apply Or.inl;(repeat first|assumption|exact m0|apply m1);done)|(apply Or.inr;(repeat first|assumption|exact m0|apply m1);done)) List.not_mem_nil (by rfl)) rfl rfl ?_
      | refine SL.val (Val.loadP tabOk rfl rfl rfl (by first|(apply Or.inl;(repeat first|assumption|exact m0|apply m1);done)|(apply Or.inr;(repeat first|assumption|exact m0|apply m1);done)) List.not_mem_nil (Nat.le_of_ble_eq_true (by rfl))) rfl rfl ?_
    refine SL.eff (Eff.store tabOk rfl rfl rfl (by repeat first|assumption|exact Upd.here|apply Upd.there) (by rfl) (Nat.le_of_ble_eq_true (by rfl)) (by rfl) (by rfl)) rfl rfl ?_
    rintro _ _ ⟨rfl, rfl⟩
    refine SL.nil (SE.seq ?_)
    refine SC.ret ?_
    refine SE.fin (rs := [.cell 10 141]) rfl (RV.cell rfl (RV.cellA tabOk rfl rfl (by first|(apply Or.inl;(repeat first|assumption|exact m0|apply m1);done)|(apply Or.inr;(repeat first|assumption|exact m0|apply m1);done)) (by rfl)) RV.nil) (()) (by repeat first|exact s0 _|exact s1 _|apply s2|apply s3) (by simp [It.rids]) ?_
    exact rfl
  intro hc29
  have hlt : z.1 < (allN 4).length := by omega
  refine SC.skip ?_
  refine SE.seq ?_
  refine SC.seq ?_
  refine SC.block ?_
  refine SC.seq (SC.region ?_)
  refine SL.val (Val.indexSl tabOk Try.underlying81 rfl rfl rfl rfl (at_map (by omega)) rfl rfl) rfl rfl ?_
  refine SL.val (Val.to (C := int (z.1 : Nat)) (Val.load1R tabOk rfl rfl rfl) (by rw [all4_get])) rfl rfl ?_
  refine SL.val (Val.assign rfl) rfl rfl ?_
  refine SL.nil (SE.seq ?_)
  refine SC.draw (z.2.ownBlock.toList ++ [b11, p, bd, bt]) (.q 0 (.q 2 (.q 3 (.q 4 (.q 5 (.two 1 6 (.e 6 (.e 7 (.e 8 (.q 9 (.e 10 .nil))))) (.two 1 7 (.e 7 (.e 8 (.q 9 (.e 10 .nil)))) (.e 1 (.e 8 (.q 9 (.e 10 .nil))))))))))) (by kernel_rfl) (by kernel_rfl) ?_
  refine SX.val rfl (Val.fieldAddr tabOk rfl rfl rfl rfl rfl) (by first | (simp [mids, It.mids, ownPc, bkPc]; done) | (intro k hk; simp [mids, It.mids, ownPc, bkPc] at hk ⊢; grind)) rfl rfl ?_
  refine SX.val rfl (Val.move rfl) (by first | (simp [mids, It.mids, ownPc, bkPc]; done) | (intro k hk; simp [mids, It.mids, ownPc, bkPc] at hk ⊢; grind)) rfl rfl ?_
  refine SX.val rfl (Val.move rfl) (by first | (simp [mids, It.mids, ownPc, bkPc]; done) | (intro k hk; simp [mids, It.mids, ownPc, bkPc] at hk ⊢; grind)) rfl rfl ?_
  refine SX.val rfl (Val.move rfl) (by first | (simp [mids, It.mids, ownPc, bkPc]; done) | (intro k hk; simp [mids, It.mids, ownPc, bkPc] at hk ⊢; grind)) rfl rfl ?_
  refine SX.val rfl (Val.move rfl) (by first | (simp [mids, It.mids, ownPc, bkPc]; done) | (intro k hk; simp [mids, It.mids, ownPc, bkPc] at hk ⊢; grind)) rfl rfl ?_
  refine SX.two ?_ ?_
  · skip
    refine SX.valE rfl (Val.load1 tabOk rfl rfl (by first|(apply Or.inl;(repeat first|assumption|exact m0|apply m1);done)|(apply Or.inr;(repeat first|assumption|exact m0|apply m1);done)) List.not_mem_nil (by rfl)) rfl rfl ?_
    refine SX.invokeR rfl ((by have h := bktag_s (p := p) (bd := bd) (bt := bt) (D := []) (T := T4 z.1) (from_ := 0) (to_ := (z.1 : Nat)) (l := [2, 120]) (by unfold i64r; omega) (by unfold i64r; omega) (by unfold maxLen; simp) (by rw [T4_length]; omega) (by rw [T4_pl]; omega); rw [T4_pl, T4_pm] at h; exact h : Spec Try.prog 162 [.v (.pointer (some ⟨p, 0, none⟩)), int 0, int (z.1 : Nat), byt [2, 120]] [.pc (bkPc p bd bt [] (T4 z.1))] (fun _ : Unit => [.pc (bkPc p bd bt [] (T4 (z.1 + 1)))]) (fun _ => .agg (digA (numB 255 (z.1 + 1)))))) (by simp [mids, It.mids, bkPc]) rfl Casts.refl (fun _ _ _ => by kernel_rfl) rfl rfl rfl ?_
    refine After.one rfl (by repeat first|assumption|exact m0|apply m1) (fun _ => rfl) ?_
    intro _
    refine ⟨_, (by repeat first|assumption|exact Upd.here|apply Upd.there), ?_⟩
    refine SX.eff rfl (Eff.buildSl tabOk Try.underlying139 rfl rfl rfl (elems_one (by simp [digA, numB_length])) rfl rfl rfl) (by simp) rfl rfl ?_
    rintro _ _ ⟨rfl, rfl⟩
    refine SX.effX [b11] rfl (Eff.appendE (zs := (tg4 (z.1 + 1)).map Tg.abs) tabOk [] (tg4_succ z.1) Try.underlying139 rfl rfl rfl rfl rfl rfl (by intro c hc; rw [List.mem_singleton] at hc; subst hc; rw [ones_iff]; intro a ha; obtain ⟨b, _, rfl⟩ := List.mem_map.1 ha; rfl) (by unfold maxLen; simp only [tg4, List.length_map, List.length_range, List.length_cons, List.length_nil]; omega) (by rw [show Try.prog.bytesOf 120 = 32 by kernel_rfl]; simp only [tg4, List.length_map, List.length_range, List.length_cons, List.length_nil]; omega)) (fun k hk => List.mem_append_left _ hk) (by simp) rfl rfl ?_
    rintro _ _ ⟨r40, rfl, rfl⟩
    refine SX.val rfl (Val.fieldAddr tabOk rfl rfl rfl rfl rfl) (by first | (simp [mids, It.mids, ownPc, bkPc]; done) | (intro k hk; simp [mids, It.mids, ownPc, bkPc] at hk ⊢; grind)) rfl rfl ?_
    first
      | refine SX.eff rfl (Eff.store tabOk rfl rfl rfl (by repeat first|assumption|exact Upd.here|apply Upd.there) (by rfl) (Nat.le_of_ble_eq_true (by rfl)) (by rfl) (by rfl)) (by simp) rfl rfl ?_
      | refine SX.eff rfl (Eff.storeOwn tabOk rfl rfl rfl rfl (by repeat first|assumption|exact m0|apply m1) (by repeat first|assumption|exact Upd.here|apply Upd.there) rfl (by rfl)) (by simp) rfl rfl ?_
    rintro _ _ ⟨rfl, rfl⟩
    refine SX.nil ?_
    refine SE.inBlock ?_
    refine SE.seq ?_
    refine SC.region ?_
    first
      | refine SL.val (Val.addI rfl rfl (by simp only [InR, lo, hi]; omega)) rfl rfl ?_
      | refine SL.val (Val.addW rfl rfl) rfl rfl ?_
    refine SL.val (Val.move rfl) rfl rfl ?_
    refine SL.nil ?_
    refine SE.round (z.1 + 1, r40) (by first | omega | (dsimp only; omega)) (by dsimp only; omega) (by exact ⟨rfl, rfl, rfl, rfl, rfl, rfl, rfl, rfl, trivial⟩) (by repeat first|exact s0 _|exact s1 _|apply s2|apply s3)
  · skip
    refine SX.invokeR rfl ((by have h := bktag_s (p := p) (bd := bd) (bt := bt) (D := []) (T := T4 z.1) (from_ := 0) (to_ := (z.1 : Nat)) (l := [2, 120]) (by unfold i64r; omega) (by unfold i64r; omega) (by unfold maxLen; simp) (by rw [T4_length]; omega) (by rw [T4_pl]; omega); rw [T4_pl, T4_pm] at h; exact h : Spec Try.prog 162 [.v (.pointer (some ⟨p, 0, none⟩)), int 0, int (z.1 : Nat), byt [2, 120]] [.pc (bkPc p bd bt [] (T4 z.1))] (fun _ : Unit => [.pc (bkPc p bd bt [] (T4 (z.1 + 1)))]) (fun _ => .agg (digA (numB 255 (z.1 + 1)))))) (by simp [mids, It.mids, bkPc]) rfl Casts.refl (fun _ _ _ => by kernel_rfl) rfl rfl rfl ?_
    refine After.one rfl (by repeat first|assumption|exact m0|apply m1) (fun _ => rfl) ?_
    intro _
    refine ⟨_, (by repeat first|assumption|exact Upd.here|apply Upd.there), ?_⟩
    refine SX.two ?_ ?_
    · skip
      refine SX.valE rfl (Val.load1 tabOk rfl rfl (by first|(apply Or.inl;(repeat first|assumption|exact m0|apply m1);done)|(apply Or.inr;(repeat first|assumption|exact m0|apply m1);done)) List.not_mem_nil (by rfl)) rfl rfl ?_
      refine SX.eff rfl (Eff.buildSl tabOk Try.underlying139 rfl rfl rfl (elems_one (by simp [digA, numB_length])) rfl rfl rfl) (by simp) rfl rfl ?_
      rintro _ _ ⟨rfl, rfl⟩
      refine SX.effX [b11] rfl (Eff.appendE (zs := (tg4 (z.1 + 1)).map Tg.abs) tabOk [] (tg4_succ z.1) Try.underlying139 rfl rfl rfl rfl rfl rfl (by intro c hc; rw [List.mem_singleton] at hc; subst hc; rw [ones_iff]; intro a ha; obtain ⟨b, _, rfl⟩ := List.mem_map.1 ha; rfl) (by unfold maxLen; simp only [tg4, List.length_map, List.length_range, List.length_cons, List.length_nil]; omega) (by rw [show Try.prog.bytesOf 120 = 32 by kernel_rfl]; simp only [tg4, List.length_map, List.length_range, List.length_cons, List.length_nil]; omega)) (fun k hk => List.mem_append_left _ hk) (by simp) rfl rfl ?_
      rintro _ _ ⟨r40, rfl, rfl⟩
      refine SX.val rfl (Val.fieldAddr tabOk rfl rfl rfl rfl rfl) (by first | (simp [mids, It.mids, ownPc, bkPc]; done) | (intro k hk; simp [mids, It.mids, ownPc, bkPc] at hk ⊢; grind)) rfl rfl ?_
      first
        | refine SX.eff rfl (Eff.store tabOk rfl rfl rfl (by repeat first|assumption|exact Upd.here|apply Upd.there) (by rfl) (Nat.le_of_ble_eq_true (by rfl)) (by rfl) (by rfl)) (by simp) rfl rfl ?_
        | refine SX.eff rfl (Eff.storeOwn tabOk rfl rfl rfl rfl (by repeat first|assumption|exact m0|apply m1) (by repeat first|assumption|exact Upd.here|apply Upd.there) rfl (by rfl)) (by simp) rfl rfl ?_
      rintro _ _ ⟨rfl, rfl⟩
      refine SX.nil ?_
      refine SE.inBlock ?_
      refine SE.seq ?_
      refine SC.region ?_
      first
        | refine SL.val (Val.addI rfl rfl (by simp only [InR, lo, hi]; omega)) rfl rfl ?_
        | refine SL.val (Val.addW rfl rfl) rfl rfl ?_
      refine SL.val (Val.move rfl) rfl rfl ?_
      refine SL.nil ?_
      refine SE.round (z.1 + 1, r40) (by first | omega | (dsimp only; omega)) (by dsimp only; omega) (by exact ⟨rfl, rfl, rfl, rfl, rfl, rfl, rfl, rfl, trivial⟩) (by repeat first|exact s0 _|exact s1 _|apply s2|apply s3)
    · skip
      refine SX.eff rfl (Eff.buildSl tabOk Try.underlying139 rfl rfl rfl (elems_one (by simp [digA, numB_length])) rfl rfl rfl) (by simp) rfl rfl ?_
      rintro _ _ ⟨rfl, rfl⟩
      refine SX.valE rfl (Val.load1 tabOk rfl rfl (by first|(apply Or.inl;(repeat first|assumption|exact m0|apply m1);done)|(apply Or.inr;(repeat first|assumption|exact m0|apply m1);done)) List.not_mem_nil (by rfl)) rfl rfl ?_
      refine SX.effX [b11] rfl (Eff.appendE (zs := (tg4 (z.1 + 1)).map Tg.abs) tabOk [] (tg4_succ z.1) Try.underlying139 rfl rfl rfl rfl rfl rfl (by intro c hc; rw [List.mem_singleton] at hc; subst hc; rw [ones_iff]; intro a ha; obtain ⟨b, _, rfl⟩ := List.mem_map.1 ha; rfl) (by unfold maxLen; simp only [tg4, List.length_map, List.length_range, List.length_cons, List.length_nil]; omega) (by rw [show Try.prog.bytesOf 120 = 32 by kernel_rfl]; simp only [tg4, List.length_map, List.length_range, List.length_cons, List.length_nil]; omega)) (fun k hk => List.mem_append_left _ hk) (by simp) rfl rfl ?_
      rintro _ _ ⟨r40, rfl, rfl⟩
      refine SX.val rfl (Val.fieldAddr tabOk rfl rfl rfl rfl rfl) (by first | (simp [mids, It.mids, ownPc, bkPc]; done) | (intro k hk; simp [mids, It.mids, ownPc, bkPc] at hk ⊢; grind)) rfl rfl ?_
      first
        | refine SX.eff rfl (Eff.store tabOk rfl rfl rfl (by repeat first|assumption|exact Upd.here|apply Upd.there) (by rfl) (Nat.le_of_ble_eq_true (by rfl)) (by rfl) (by rfl)) (by simp) rfl rfl ?_
        | refine SX.eff rfl (Eff.storeOwn tabOk rfl rfl rfl rfl (by repeat first|assumption|exact m0|apply m1) (by repeat first|assumption|exact Upd.here|apply Upd.there) rfl (by rfl)) (by simp) rfl rfl ?_
      rintro _ _ ⟨rfl, rfl⟩
      refine SX.nil ?_
      refine SE.inBlock ?_
      refine SE.seq ?_
      refine SC.region ?_
      first
        | refine SL.val (Val.addI rfl rfl (by simp only [InR, lo, hi]; omega)) rfl rfl ?_
        | refine SL.val (Val.addW rfl rfl) rfl rfl ?_
      refine SL.val (Val.move rfl) rfl rfl ?_
      refine SL.nil ?_
      refine SE.round (z.1 + 1, r40) (by first | omega | (dsimp only; omega)) (by dsimp only; omega) (by exact ⟨rfl, rfl, rfl, rfl, rfl, rfl, rfl, rfl, trivial⟩) (by repeat first|exact s0 _|exact s1 _|apply s2|apply s3)
set_option maxHeartbeats 4000000 in
theorem fixed06_s  : Spec Try.prog 99 [] [] (fun _ : Unit => []) (fun _ => boo true) := by
  refine spec_of Try.func99 rfl Try.ntmps99 rfl fun G w => ?_
  refine SC.seq (SC.region ?_)
  refine SL.val (Val.assign rfl) rfl rfl ?_
  refine SL.nil (SE.seq ?_)
  refine SC.seq (SC.region ?_)
  refine SL.call (bknew_s) Casts.refl (by kernel_rfl) rfl rfl rfl ?_
  refine After.make (by repeat first|exact .nil|refine .blk (by repeat first|assumption|exact m0|apply m1) ?_|refine .rd (by repeat first|assumption|exact m0|apply m1) ?_|refine .pc (by repeat first|assumption|exact m0|apply m1) ?_|refine .rdpc (by repeat first|assumption|exact m0|apply m1) ?_) (fun _ => rfl) ?_
  intro z0
  refine SL.val (Val.assign rfl) rfl rfl ?_
  refine SL.nil (SE.seq ?_)
  refine SC.seq (SC.region ?_)
  refine SL.val (Val.move rfl) rfl rfl ?_
  refine SL.val (Val.makeIface rfl (fun _ _ => by kernel_rfl)) rfl rfl ?_
  refine SL.eff (Eff.buildOwn tabOk Try.underlying34 rfl rfl rfl rfl rfl rfl rfl) rfl rfl ?_
  rintro _ _ ⟨r6, rfl, rfl⟩
  refine SL.eff (Eff.litBytes (m := [120]) [] Try.underlying34 Try.underlying5 rfl rfl (by simp)) rfl rfl ?_
  rintro _ _ ⟨rfl, rfl⟩
  refine SL.call (all_s (n := 4)) Casts.refl (by kernel_rfl) rfl rfl rfl ?_
  refine After.pure (by repeat first|exact .nil|refine .blk (by repeat first|assumption|exact m0|apply m1) ?_|refine .rd (by repeat first|assumption|exact m0|apply m1) ?_|refine .pc (by repeat first|assumption|exact m0|apply m1) ?_|refine .rdpc (by repeat first|assumption|exact m0|apply m1) ?_) (fun _ => rfl) ?_
  intro _
  refine SL.call (sign4_s (p := z0.1) (bd := z0.2.1) (bt := z0.2.2)) Casts.refl (by kernel_rfl) rfl rfl rfl ?_
  refine After.one rfl (by repeat first|assumption|exact m0|apply m1) (fun _ => rfl) ?_
  intro _
  refine ⟨_, (by repeat first|assumption|exact Upd.here|apply Upd.there), ?_⟩
  refine SL.eff (Eff.alloc tabOk rfl) rfl rfl ?_
  rintro _ _ ⟨b2, rfl, rfl⟩
  refine SL.eff (Eff.store tabOk rfl rfl rfl (by repeat first|assumption|exact Upd.here|apply Upd.there) (by rfl) (Nat.le_of_ble_eq_true (by rfl)) (by rfl) (by rfl)) rfl rfl ?_
  rintro _ _ ⟨rfl, rfl⟩
  refine SL.nil (SE.seq ?_)
  refine SC.seq (SC.region ?_)
  refine SL.eff (Eff.buildOwn tabOk Try.underlying34 rfl rfl rfl rfl rfl rfl rfl) rfl rfl ?_
  rintro _ _ ⟨r10, rfl, rfl⟩
  refine SL.eff (Eff.litBytes (m := [120]) [] Try.underlying34 Try.underlying5 rfl rfl (by simp)) rfl rfl ?_
  rintro _ _ ⟨rfl, rfl⟩
  refine SL.call ((text_s (k := 2) (l := [120]) (by simp) : Pure Try.prog 167 [int 2, byt [120]] (byt [2, 120]))) Casts.refl (by kernel_rfl) rfl rfl rfl ?_
  refine After.pure (by repeat first|exact .nil|refine .blk (by repeat first|assumption|exact m0|apply m1) ?_|refine .rd (by repeat first|assumption|exact m0|apply m1) ?_|refine .pc (by repeat first|assumption|exact m0|apply m1) ?_|refine .rdpc (by repeat first|assumption|exact m0|apply m1) ?_) (fun _ => rfl) ?_
  intro _
  refine SL.val (Val.strOf rfl) rfl rfl ?_
  refine SL.val (Val.to (C := boo true) (Val.eqS rfl rfl) (by rfl)) rfl rfl ?_
  refine SL.val (Val.move rfl) rfl rfl ?_
  refine SL.val (Val.fieldAddr tabOk rfl rfl rfl rfl rfl) rfl rfl ?_
  refine SL.val (Val.load1 tabOk rfl rfl (by first|(apply Or.inl;(repeat first|assumption|exact m0|apply m1);done)|(apply Or.inr;(repeat first|assumption|exact m0|apply m1);done)) List.not_mem_nil (by rfl)) rfl rfl ?_
  refine SL.val (Val.lenSl (m := 4) rfl Try.underlying139 (by rw [List.length_map]; rfl)) rfl rfl ?_
  refine SL.val (Val.eqI rfl rfl) rfl rfl ?_
  refine SL.val (Val.pickT rfl rfl) rfl rfl ?_
  refine SL.val (Val.move rfl) rfl rfl ?_
  refine SL.bothP (t := 21) rfl ?_ (by intro hc21; exfalso; omega)
  intro hc21
  refine SL.val (Val.move rfl) rfl rfl ?_
  refine SL.val (Val.makeIface rfl (fun _ _ => by kernel_rfl)) rfl rfl ?_
  first
    | refine SL.val (Val.loadA tabOk rfl rfl rfl (by first|(apply Or.inl;(repeat first|assumption|exact m0|apply m1);done)|(apply Or.inr;(repeat first|assumption|exact m0|apply m1);done)) List.not_mem_nil (by rfl)) rfl rfl ?_
    | refine SL.val (Val.loadP tabOk rfl rfl rfl (by first|(apply Or.inl;(repeat first|assumption|exact m0|apply m1);done)|(apply Or.inr;(repeat first|assumption|exact m0|apply m1);done)) List.not_mem_nil (Nat.le_of_ble_eq_true (by rfl))) rfl rfl ?_
  refine SL.call (((by have h := checkb_s (m := m4) (place := 3) (who := 3) (p := z0.1) (bd := z0.2.1) (bt := z0.2.2) (Dm := []) (T := T4 4) (by simp [m4]) (by show i64r 0; unfold i64r; omega) (by unfold i64r; omega) (by rw [T4_length]; omega) (by decide +kernel); rw [m4_ok] at h; exact h) : Spec Try.prog 102 [.ifc 25 (.v (.pointer (some ⟨z0.1, 0, none⟩))), .agg m4.abs, int 3, int 3] [.pc (bkPc z0.1 z0.2.1 z0.2.2 [] (T4 4))] (fun _ : Unit => [.pc (bkPc z0.1 z0.2.1 z0.2.2 [] (T4 4))]) (fun _ => int 0))) Casts.refl (by kernel_rfl) rfl rfl rfl ?_
  refine After.one rfl (by repeat first|assumption|exact m0|apply m1) (fun _ => rfl) ?_
  intro _
  refine ⟨_, (by repeat first|assumption|exact Upd.here|apply Upd.there), ?_⟩
  refine SL.val (Val.eqI rfl rfl) rfl rfl ?_
  refine SL.val (Val.pickT rfl rfl) rfl rfl ?_
  refine SL.val (Val.move rfl) rfl rfl ?_
  refine SL.bothP (t := 28) rfl ?_ (by intro hc28; exfalso; omega)
  intro hc28
  refine SL.val (Val.move rfl) rfl rfl ?_
  refine SL.val (Val.makeIface rfl (fun _ _ => by kernel_rfl)) rfl rfl ?_
  first
    | refine SL.val (Val.loadA tabOk rfl rfl rfl (by first|(apply Or.inl;(repeat first|assumption|exact m0|apply m1);done)|(apply Or.inr;(repeat first|assumption|exact m0|apply m1);done)) List.not_mem_nil (by rfl)) rfl rfl ?_
    | refine SL.val (Val.loadP tabOk rfl rfl rfl (by first|(apply Or.inl;(repeat first|assumption|exact m0|apply m1);done)|(apply Or.inr;(repeat first|assumption|exact m0|apply m1);done)) List.not_mem_nil (Nat.le_of_ble_eq_true (by rfl))) rfl rfl ?_
  refine SL.call (((by have h := checkb_s (m := m4) (place := 3) (who := 2) (p := z0.1) (bd := z0.2.1) (bt := z0.2.2) (Dm := []) (T := T4 4) (by simp [m4]) (by show i64r 0; unfold i64r; omega) (by unfold i64r; omega) (by rw [T4_length]; omega) (by decide +kernel); rw [m4_no] at h; exact h) : Spec Try.prog 102 [.ifc 25 (.v (.pointer (some ⟨z0.1, 0, none⟩))), .agg m4.abs, int 3, int 2] [.pc (bkPc z0.1 z0.2.1 z0.2.2 [] (T4 4))] (fun _ : Unit => [.pc (bkPc z0.1 z0.2.1 z0.2.2 [] (T4 4))]) (fun _ => int 12))) Casts.refl (by kernel_rfl) rfl rfl rfl ?_
  refine After.one rfl (by repeat first|assumption|exact m0|apply m1) (fun _ => rfl) ?_
  intro _
  refine ⟨_, (by repeat first|assumption|exact Upd.here|apply Upd.there), ?_⟩
  refine SL.val (Val.eqI rfl rfl) rfl rfl ?_
  refine SL.val (Val.pickT rfl rfl) rfl rfl ?_
  refine SL.val (Val.move rfl) rfl rfl ?_
  refine SL.bothP (t := 35) rfl ?_ (by intro hc35; exfalso; omega)
  intro hc35
  refine SL.val (Val.move rfl) rfl rfl ?_
  refine SL.val (Val.makeIface rfl (fun _ _ => by kernel_rfl)) rfl rfl ?_
  first
    | refine SL.val (Val.loadA tabOk rfl rfl rfl (by first|(apply Or.inl;(repeat first|assumption|exact m0|apply m1);done)|(apply Or.inr;(repeat first|assumption|exact m0|apply m1);done)) List.not_mem_nil (by rfl)) rfl rfl ?_
    | refine SL.val (Val.loadP tabOk rfl rfl rfl (by first|(apply Or.inl;(repeat first|assumption|exact m0|apply m1);done)|(apply Or.inr;(repeat first|assumption|exact m0|apply m1);done)) List.not_mem_nil (Nat.le_of_ble_eq_true (by rfl))) rfl rfl ?_
  refine SL.call (((by have h := checkb_s (m := m4) (place := 4) (who := 4) (p := z0.1) (bd := z0.2.1) (bt := z0.2.2) (Dm := []) (T := T4 4) (by simp [m4]) (by show i64r 0; unfold i64r; omega) (by unfold i64r; omega) (by rw [T4_length]; omega) (by decide +kernel); rw [m4_out] at h; exact h) : Spec Try.prog 102 [.ifc 25 (.v (.pointer (some ⟨z0.1, 0, none⟩))), .agg m4.abs, int 4, int 4] [.pc (bkPc z0.1 z0.2.1 z0.2.2 [] (T4 4))] (fun _ : Unit => [.pc (bkPc z0.1 z0.2.1 z0.2.2 [] (T4 4))]) (fun _ => int 12))) Casts.refl (by kernel_rfl) rfl rfl rfl ?_
  refine After.one rfl (by repeat first|assumption|exact m0|apply m1) (fun _ => rfl) ?_
  intro _
  refine ⟨_, (by repeat first|assumption|exact Upd.here|apply Upd.there), ?_⟩
  refine SL.val (Val.eqI rfl rfl) rfl rfl ?_
  refine SL.val (Val.pickT rfl rfl) rfl rfl ?_
  refine SL.val (Val.move rfl) rfl rfl ?_
  refine SL.bothP (t := 42) rfl ?_ (by intro hc42; exfalso; omega)
  intro hc42
  refine SL.call (all_s (n := 8)) Casts.refl (by kernel_rfl) rfl rfl rfl ?_
  refine After.pure (by repeat first|exact .nil|refine .blk (by repeat first|assumption|exact m0|apply m1) ?_|refine .rd (by repeat first|assumption|exact m0|apply m1) ?_|refine .pc (by repeat first|assumption|exact m0|apply m1) ?_|refine .rdpc (by repeat first|assumption|exact m0|apply m1) ?_) (fun _ => rfl) ?_
  intro _
  refine SL.val (Val.lenSl (m := 0) rfl Try.underlying81 (by rw [List.length_map]; rfl)) rfl rfl ?_
  refine SL.val (Val.eqI rfl rfl) rfl rfl ?_
  refine SL.val (Val.pickT rfl rfl) rfl rfl ?_
  refine SL.val (Val.assign rfl) rfl rfl ?_
  refine SL.nil (SE.seq ?_)
  refine SC.ret ?_
  refine SE.fin (rs := [.tmp 0]) rfl (RV.tmp rfl RV.nil) (()) (by repeat first|exact s0 _|exact s1 _|apply s2|apply s3) (by simp [It.rids]) ?_
  rfl
theorem row_any {m : Msg} : True := trivial
set_option maxHeartbeats 4000000 in
theorem vall_s  : Spec Try.prog 14 [int n, .agg m.abs, int place] [] (fun _ : Unit => []) (fun _ => boo true) := by
  have hal : (allN n).length ≤ 7 := by
    unfold allN
    split
    · simp
    · rw [List.length_map, List.length_range]; omega
  refine spec_of Try.func14 rfl Try.ntmps14 rfl fun G w => ?_
  refine SC.seq (SC.region ?_)
  refine SL.eff (Eff.boxA rfl) rfl rfl ?_
  rintro _ _ ⟨b4, rfl, rfl⟩
  refine SL.val (Val.assign rfl) rfl rfl ?_
  refine SL.nil (SE.seq ?_)
  refine SC.seq ?_
  refine SC.seq (SC.region ?_)
  refine SL.call (fixed06_s) Casts.refl (by kernel_rfl) rfl rfl rfl ?_
  refine After.pure (by repeat first|exact .nil|refine .blk (by repeat first|assumption|exact m0|apply m1) ?_|refine .rd (by repeat first|assumption|exact m0|apply m1) ?_|refine .pc (by repeat first|assumption|exact m0|apply m1) ?_|refine .rdpc (by repeat first|assumption|exact m0|apply m1) ?_) (fun _ => rfl) ?_
  intro _
  refine SL.val (Val.notT rfl) rfl rfl ?_
  refine SL.nil (SE.seq ?_)
  refine SC.condF rfl ?_
  refine SC.skip ?_
  refine SE.seq ?_
  refine SC.seq ?_
  refine SC.seq (SC.region ?_)
  refine SL.val (Val.fieldAddr tabOk rfl rfl rfl rfl rfl) rfl rfl ?_
  refine SL.val (Val.load1 tabOk rfl rfl (by first|(apply Or.inl;(repeat first|assumption|exact m0|apply m1);done)|(apply Or.inr;(repeat first|assumption|exact m0|apply m1);done)) List.not_mem_nil (by rfl)) rfl rfl ?_
  first
    | refine SL.val (Val.lenSl rfl Try.underlying34 (List.length_map _)) rfl rfl ?_
    | refine SL.val (Val.lenOwn rfl (by repeat first|assumption|exact m0|apply m1) Try.underlying34 (List.length_map _)) rfl rfl ?_
    | refine SL.val (Val.lenNil rfl Try.underlying34) rfl rfl ?_
  refine SL.val (Val.gtI rfl rfl) rfl rfl ?_
  refine SL.val (Val.move rfl) rfl rfl ?_
  refine SL.bothP (t := 16) rfl ?_ ?_
  · intro hc16
    iterate 4 refine SL.skip rfl rfl ?_
    refine SL.val (Val.pickT rfl rfl) rfl rfl ?_
    refine SL.nil (SE.seq ?_)
    refine SC.condT rfl ?_
    refine SC.seq (SC.region ?_)
    refine SL.val (Val.assign rfl) rfl rfl ?_
    refine SL.nil (SE.seq ?_)
    refine SC.ret ?_
    refine SE.then_ (by intro h; cases h) ?_
    refine SE.fin (rs := [.tmp 6]) rfl (RV.tmp rfl RV.nil) (()) (by repeat first|exact s0 _|exact s1 _|apply s2|apply s3) (by simp [It.rids]) ?_
    rfl
  intro hc16
  refine SL.val (Val.fieldAddr tabOk rfl rfl rfl rfl rfl) rfl rfl ?_
  refine SL.val (Val.load1 tabOk rfl rfl (by first|(apply Or.inl;(repeat first|assumption|exact m0|apply m1);done)|(apply Or.inr;(repeat first|assumption|exact m0|apply m1);done)) List.not_mem_nil (by rfl)) rfl rfl ?_
  first
    | refine SL.val (Val.lenSl rfl Try.underlying139 (List.length_map _)) rfl rfl ?_
    | refine SL.val (Val.lenOwn rfl (by repeat first|assumption|exact m0|apply m1) Try.underlying139 (List.length_map _)) rfl rfl ?_
    | refine SL.val (Val.lenNil rfl Try.underlying139) rfl rfl ?_
  refine SL.val (Val.gtI rfl rfl) rfl rfl ?_
  refine SL.val (Val.pickF rfl rfl) rfl rfl ?_
  refine SL.nil (SE.seq ?_)
  refine SC.condP rfl ?_ ?_
  · intro hc21
    refine SC.seq (SC.region ?_)
    refine SL.val (Val.assign rfl) rfl rfl ?_
    refine SL.nil (SE.seq ?_)
    refine SC.ret ?_
    refine SE.then_ (by intro h; cases h) ?_
    refine SE.fin (rs := [.tmp 6]) rfl (RV.tmp rfl RV.nil) (()) (by repeat first|exact s0 _|exact s1 _|apply s2|apply s3) (by simp [It.rids]) ?_
    rfl
  intro hc21
  refine SC.skip ?_
  refine SE.seq ?_
  refine SC.seq (SC.region ?_)
  refine SL.val (Val.move rfl) rfl rfl ?_
  refine SL.call (all_s (n := n)) Casts.refl (by kernel_rfl) rfl rfl rfl ?_
  refine After.pure (by repeat first|exact .nil|refine .blk (by repeat first|assumption|exact m0|apply m1) ?_|refine .rd (by repeat first|assumption|exact m0|apply m1) ?_|refine .pc (by repeat first|assumption|exact m0|apply m1) ?_|refine .rdpc (by repeat first|assumption|exact m0|apply m1) ?_) (fun _ => rfl) ?_
  intro _
  refine SL.val (Val.move rfl) rfl rfl ?_
  refine SL.call (rall_s (n := n)) Casts.refl (by kernel_rfl) rfl rfl rfl ?_
  refine After.pure (by repeat first|exact .nil|refine .blk (by repeat first|assumption|exact m0|apply m1) ?_|refine .rd (by repeat first|assumption|exact m0|apply m1) ?_|refine .pc (by repeat first|assumption|exact m0|apply m1) ?_|refine .rdpc (by repeat first|assumption|exact m0|apply m1) ?_) (fun _ => rfl) ?_
  intro _
  refine SL.val (Val.assign rfl) rfl rfl ?_
  refine SL.val (Val.assign rfl) rfl rfl ?_
  refine SL.nil (SE.seq ?_)
  refine SC.seq ?_
  refine SC.seq (SC.region ?_)
  refine SL.val (Val.move rfl) rfl rfl ?_
  first
    | refine SL.val (Val.lenSl rfl Try.underlying81 (List.length_map _)) rfl rfl ?_
    | refine SL.val (Val.lenOwn rfl (by repeat first|assumption|exact m0|apply m1) Try.underlying81 (List.length_map _)) rfl rfl ?_
    | refine SL.val (Val.lenNil rfl Try.underlying81) rfl rfl ?_
  refine SL.val (Val.move rfl) rfl rfl ?_
  first
    | refine SL.val (Val.lenSl rfl Try.underlying81 (List.length_map _)) rfl rfl ?_
    | refine SL.val (Val.lenOwn rfl (by repeat first|assumption|exact m0|apply m1) Try.underlying81 (List.length_map _)) rfl rfl ?_
    | refine SL.val (Val.lenNil rfl Try.underlying81) rfl rfl ?_
  refine SL.val (Val.neI rfl rfl) rfl rfl ?_
  refine SL.nil (SE.seq ?_)
  refine SC.condP rfl (by intro hc30; exfalso; omega) ?_
  intro hc30
  refine SC.skip ?_
  refine SE.seq ?_
  refine SC.seq ?_
  refine SC.seq (SC.region ?_)
  refine SL.val (Val.move rfl) rfl rfl ?_
  first
    | refine SL.val (Val.lenSl rfl Try.underlying81 (List.length_map _)) rfl rfl ?_
    | refine SL.val (Val.lenOwn rfl (by repeat first|assumption|exact m0|apply m1) Try.underlying81 (List.length_map _)) rfl rfl ?_
    | refine SL.val (Val.lenNil rfl Try.underlying81) rfl rfl ?_
  refine SL.val (Val.move rfl) rfl rfl ?_
  refine SL.nil (SE.seq ?_)
  refine SC.block ?_
  refine SC.loop (ι := Nat) (fun z => [.blk b4 141 m.abs]) (fun z => [(2, int place), (4, ptr b4), (7, ints (allN n)), (8, ints (allN n)), (32, int ((allN n).length : Nat)), (33, int (z : Nat))]) (fun z => z ≤ (allN n).length) (fun z => (allN n).length - z) (0) (Nat.zero_le _) (by exact ⟨rfl, rfl, rfl, rfl, rfl, rfl, trivial⟩) (by repeat first|exact s0 _|exact s1 _|apply s2|apply s3) ?_
  intro z hz
  refine SC.seq (SC.region ?_)
  refine SL.val (Val.ltI rfl rfl) rfl rfl ?_
  refine SL.nil (SE.seq ?_)
  refine SC.seq ?_
  refine SC.condP rfl ?_ ?_
  · intro hc34
    have hlt : z < (allN n).length := by omega
    refine SC.skip ?_
    refine SE.seq ?_
    refine SC.seq ?_
    refine SC.block ?_
    refine SC.seq (SC.region ?_)
    refine SL.val (Val.move rfl) rfl rfl ?_
    refine SL.val (Val.assign rfl) rfl rfl ?_
    refine SL.nil (SE.seq ?_)
    refine SC.seq ?_
    refine SC.draw [] (.q 0 (.q 1 (.q 2 (.q 3 (.q 4 (.q 5 (.q 6 (.q 7 (.q 8 .nil))))))))) (by kernel_rfl) (by kernel_rfl) ?_
    refine SX.val rfl (Val.move rfl) (by simp) rfl rfl ?_
    refine SX.val rfl (Val.move rfl) (by simp) rfl rfl ?_
    refine SX.val rfl (Val.indexSl tabOk Try.underlying81 rfl rfl rfl rfl (at_map (by omega)) rfl rfl) (by simp) rfl rfl ?_
    refine SX.val rfl (Val.to (C := int ((allN n)[z]'hlt)) (Val.load1R tabOk rfl rfl rfl) rfl) (by first | (simp [mids, It.mids, ownPc, bkPc]; done) | (intro k hk; simp [mids, It.mids, ownPc, bkPc] at hk ⊢; grind)) rfl rfl ?_
    refine SX.val rfl (Val.move rfl) (by simp) rfl rfl ?_
    refine SX.val rfl (Val.move rfl) (by simp) rfl rfl ?_
    refine SX.val rfl (Val.indexSl tabOk Try.underlying81 rfl rfl rfl rfl (at_map (by omega)) rfl rfl) (by simp) rfl rfl ?_
    refine SX.val rfl (Val.to (C := int ((allN n)[z]'hlt)) (Val.load1R tabOk rfl rfl rfl) rfl) (by first | (simp [mids, It.mids, ownPc, bkPc]; done) | (intro k hk; simp [mids, It.mids, ownPc, bkPc] at hk ⊢; grind)) rfl rfl ?_
    refine SX.val rfl (Val.neI rfl rfl) (by simp) rfl rfl ?_
    refine SX.nil (SE.seq ?_)
    refine SC.condP rfl (by intro hc44; exfalso; omega) ?_
    intro hc44
    refine SC.skip ?_
    refine SE.inBlock ?_
    refine SE.seq ?_
    refine SC.region ?_
    first
      | refine SL.val (Val.addI rfl rfl (by simp only [InR, lo, hi]; omega)) rfl rfl ?_
      | refine SL.val (Val.addW rfl rfl) rfl rfl ?_
    refine SL.val (Val.move rfl) rfl rfl ?_
    refine SL.nil ?_
    refine SE.round (z + 1) (by first | omega | (dsimp only; omega)) (by omega) (by exact ⟨rfl, rfl, rfl, rfl, rfl, rfl, trivial⟩) (by repeat first|exact s0 _|exact s1 _|apply s2|apply s3)
  intro hc34
  refine SC.exit ?_
  refine SE.then_ (by intro h; cases h) ?_
  refine SE.then_ (by intro h; cases h) ?_
  refine SE.exit ?_
  refine SE.seq ?_
  refine SC.seq (SC.region ?_)
  first
    | refine SL.val (Val.loadA tabOk rfl rfl rfl (by first|(apply Or.inl;(repeat first|assumption|exact m0|apply m1);done)|(apply Or.inr;(repeat first|assumption|exact m0|apply m1);done)) List.not_mem_nil (by rfl)) rfl rfl ?_
    | refine SL.val (Val.loadP tabOk rfl rfl rfl (by first|(apply Or.inl;(repeat first|assumption|exact m0|apply m1);done)|(apply Or.inr;(repeat first|assumption|exact m0|apply m1);done)) List.not_mem_nil (Nat.le_of_ble_eq_true (by rfl))) rfl rfl ?_
  refine SL.val (Val.move rfl) rfl rfl ?_
  refine SL.call (check0_s (m := m) (place := place) (who := 0)) Casts.refl (by kernel_rfl) rfl rfl rfl ?_
  refine After.pure (by repeat first|exact .nil|refine .blk (by repeat first|assumption|exact m0|apply m1) ?_|refine .rd (by repeat first|assumption|exact m0|apply m1) ?_|refine .pc (by repeat first|assumption|exact m0|apply m1) ?_|refine .rdpc (by repeat first|assumption|exact m0|apply m1) ?_) (fun _ => rfl) ?_
  intro _
  refine SL.val (Val.eqI rfl rfl) rfl rfl ?_
  refine SL.val (Val.move rfl) rfl rfl ?_
  refine SL.bothP (t := 50) rfl ?_ (by intro hc50; exfalso; omega)
  intro hc50
  refine SL.val (Val.fieldAddr tabOk rfl rfl rfl rfl rfl) rfl rfl ?_
  refine SL.val (Val.load1 tabOk rfl rfl (by first|(apply Or.inl;(repeat first|assumption|exact m0|apply m1);done)|(apply Or.inr;(repeat first|assumption|exact m0|apply m1);done)) List.not_mem_nil (by rfl)) rfl rfl ?_
  refine SL.val (Val.fieldAddr tabOk rfl rfl rfl rfl rfl) rfl rfl ?_
  refine SL.val (Val.load1 tabOk rfl rfl (by first|(apply Or.inl;(repeat first|assumption|exact m0|apply m1);done)|(apply Or.inr;(repeat first|assumption|exact m0|apply m1);done)) List.not_mem_nil (by rfl)) rfl rfl ?_
  refine SL.val (Val.fieldAddr tabOk rfl rfl rfl rfl rfl) rfl rfl ?_
  refine SL.val (Val.load1 tabOk rfl rfl (by first|(apply Or.inl;(repeat first|assumption|exact m0|apply m1);done)|(apply Or.inr;(repeat first|assumption|exact m0|apply m1);done)) List.not_mem_nil (by rfl)) rfl rfl ?_
  refine SL.val (Val.move rfl) rfl rfl ?_
  refine SL.call (sign0_s (k := m.kind) (f := m.from_) (body := m.body) (to := allN n) (by omega)) Casts.refl (by kernel_rfl) rfl rfl rfl ?_
  refine After.pure (by repeat first|exact .nil|refine .blk (by repeat first|assumption|exact m0|apply m1) ?_|refine .rd (by repeat first|assumption|exact m0|apply m1) ?_|refine .pc (by repeat first|assumption|exact m0|apply m1) ?_|refine .rdpc (by repeat first|assumption|exact m0|apply m1) ?_) (fun _ => rfl) ?_
  intro _
  refine SL.val (Val.field1 tabOk rfl rfl rfl rfl rfl) rfl rfl ?_
  refine SL.val (Val.lenSl (m := 0) rfl Try.underlying139 rfl) rfl rfl ?_
  refine SL.val (Val.eqI rfl rfl) rfl rfl ?_
  refine SL.val (Val.pickT rfl rfl) rfl rfl ?_
  refine SL.val (Val.assign rfl) rfl rfl ?_
  refine SL.nil (SE.seq ?_)
  refine SC.ret ?_
  refine SE.fin (rs := [.tmp 6]) rfl (RV.tmp rfl RV.nil) (()) (by repeat first|exact s0 _|exact s1 _|apply s2|apply s3) (by simp [It.rids]) ?_
  rfl
end
end Go.Proofs.Ytpgffckfbgfgcaa.A
