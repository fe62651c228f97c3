/-
  Packed out of the texts: A29, A30, A25, EX5, A26, EX6, CT1, TDoc.
-/
import Derived.Test.YtickdhjljpnlpaaGreatDoorR012
set_option maxRecDepth 100000
set_option linter.unusedSimpArgs false
set_option linter.unusedVariables false
namespace Go.Proofs.YtickdhjljpnlpaaGreatDoor.A
open Go.RowKit
section
variable {P : Program} {n : Nat} {W : Wd} {σ τ : Blks} {l : Slots} {X : List Nat} {x y : Operand} {d : Option Nat} {ty t e e' : TypeId} {pos : String} {aft : Array Edge} {g : Option (Nat × Bool)} {v : Value} {A : Abs} {tab : List (Nat × TI)} {xs : List (List Abs)} {s q jj : Nat} {cs : List Abs} {K : List Nat} {w : World}
theorem d0_ (hT : TabOk P tab) {sz fo ft f : Nat} {gs : List (Nat × Nat)} {zs : List Value} {j : TI} (ht : ti tab t = some ⟨sz, .struct gs, zs⟩) (hx : look l x = some (.v (eptr v (q * s)))) (hb : isOwn σ e' s v xs) (hpos : Nat.blt 0 s = true) (hq : xs[q]? = some cs) (hfo : gs[f]? = some (fo, ft)) (hj : ti tab ft = some j) (hs0 : Nat.beq j.size 0 = false) :
    Val P n W σ l X ⟨d, .fieldAddr t x f, ty, pos, aft, g⟩ (.v (eptr v (q * s + fo))) := a3_ fun a w hs _ => by
  obtain ⟨us, h1, h2⟩ := hs.mem.ownR hb
  obtain ⟨b, off, c, hvv, hbl, vs, h3, h4, h5⟩ := iq_ h1 h2 (by simpa [Nat.blt_eq] using hpos) hq
  refine ⟨_, rfl, fun w' _ => ?_⟩
  rw [hvv]
  show Proofs.YtickdhjljpnlpaaGreatDoor.Val _ _ _ _ _ (.pointer (some ⟨b, off + (q * s + fo), none⟩))
  rw [← Nat.add_assoc]
  exact Proofs.YtickdhjljpnlpaaGreatDoor.v_ hT ht (by rw [hs.at2 hx, hs.plain hx, hvv]; rfl) hfo hj hs0
theorem hj_ (hT : TabOk P tab) {sz : Nat} {zs : List Value} (ht : ti tab t = some ⟨sz, .one, zs⟩) (hx : look l x = some (.v (eptr v (q * s + jj)))) (hb : isOwn σ e' s v xs) (hpos : Nat.blt 0 s = true) (hq : xs[q]? = some cs) (hv : cs[jj]? = some A) : Val P n W σ l [] ⟨d, .load t x, ty, pos, aft, g⟩ A := a3_ fun a w hs hX => by
  obtain ⟨us, h1, h2⟩ := hs.mem.ownR hb
  obtain ⟨b, off, c, hvv, hbl, vs, h3, h4, h5⟩ := iq_ h1 h2 (by simpa [Nat.blt_eq] using hpos) hq
  obtain ⟨u, h6, h7⟩ := ch_ h4 hv
  refine ⟨u, h7, fun w' hw' => Proofs.YtickdhjljpnlpaaGreatDoor.dR_ (b := b) (o := off + (q * s + jj)) hT ht (by rw [hs.at2 hx, hs.plain hx, hvv]; rfl) fun w1 e => by subst e; exact cU_ hw' (by simp) (by rw [← Nat.add_assoc]; exact h5 jj u h6)⟩
theorem gB_ {u : Value} (hu : rep K w A u) : ∀ {cs : List Abs} {vs : List Value} {j : Nat}, reps K w cs vs → reps K w (cs.set j A) (vs.set j u)
  | [], _, _, h => by
    have h : _ = [] := h
    subst h
    rfl
  | c :: cs, _, 0, ⟨u1, us, h1, h2, h3⟩ => by
    subst h1
    exact ⟨u, us, rfl, hu, h3⟩
  | c :: cs, _, j + 1, ⟨u1, us, h1, h2, h3⟩ => by
    subst h1
    exact ⟨u1, _, rfl, h2, gB_ hu h3⟩
theorem fd_ {u : Value} (hu : rep K w A u) : ∀ {xs : List (List Abs)} {us : List Value} {q : Nat}, repss K w s xs us → xs[q]? = some cs → jj < s → repss K w s (xs.set q (cs.set jj A)) (us.set (q * s + jj) u)
  | [], _, _, _, h, _ => by simp at h
  | c :: xs, _, 0, ⟨u1, u2, h1, h2, h3, h4⟩, h, hj => by
    subst h1
    have h : c = cs := by simpa using h
    subst h
    refine ⟨u1.set jj u, u2, ?_, by simpa using h2, gB_ hu h3, h4⟩
    rw [Nat.zero_mul, Nat.zero_add, List.set_append_left _ _ (by omega)]
  | c :: xs, _, q + 1, ⟨u1, u2, h1, h2, h3, h4⟩, h, hj => by
    subst h1
    have h5 := fd_ hu h4 (q := q) (by simpa using h) hj
    refine ⟨u1, _, ?_, h2, h3, h5⟩
    rw [List.set_append_right _ _ (by rw [Nat.succ_mul]; omega)]
    congr 2
    rw [Nat.succ_mul]
    omega
theorem h8_ (hT : TabOk P tab) {sz : Nat} {zs : List Value} (ht : ti tab t = some ⟨sz, .one, zs⟩) (hsz : Nat.beq sz 1 = true) (hx : look l x = some (.v (eptr v (q * s + jj)))) (hy : look l y = some A) (h1 : A.one = true) (hq : xs[q]? = some cs) (hj : Nat.blt jj s = true) (hu : Upd (own e s v xs) (own e s v (xs.set q (cs.set jj A))) σ τ) :
    Eff P n W σ l v.ownBlock.toList ⟨d, .store t x y, ty, pos, aft, g⟩ fun u τ' => u = .v undef ∧ τ' = τ := fun ac w hst => by
  have hj : jj < s := by simpa [Nat.blt_eq] using hj
  have hsz := Nat.eq_of_beq_eq_true hsz
  subst hsz
  obtain ⟨us, hown, hr⟩ : (ownPc e s v xs).p _ w := hst.mem.hold _ hu.mem
  have hry := hst.eval hy
  have hone := Abs.one_rep hry h1
  have hql : q < xs.length := (List.getElem?_eq_some_iff.1 hq).1
  rcases hown.2 with ⟨h, h0⟩ | ⟨gb, cap, cur, hv, hbase, hg, hn, hcap, hsz, htk⟩
  · omega
  · subst hv
    have h2 := (hT t _ ht).isAgg (w := w)
    have h3 := (hT t _ ht).sizeOf (w := w)
    have hb1 : q * s + s ≤ xs.length * s := by rw [← Nat.succ_mul]; exact Nat.mul_le_mul_right _ hql
    have hb2 : xs.length * s ≤ cap * s := Nat.mul_le_mul_right _ hn
    have hcl1 : cellsL (ac.eval y) = [ac.eval y] := by
      cases hv9 : ac.eval y <;> first | rfl | (rw [hv9] at hone; cases hone)
    have hrun := run_storeCells_at (P := P) gb (0 + (q * s + jj)) e (cellsL (ac.eval y)) 0 cur w hg (by rw [hcl1, List.length_singleton]; omega) (by rw [hcl1]; intro u hu; rw [List.mem_singleton.1 hu]; exact hone)
    have e0 : 0 + (q * s + jj) + 0 = q * s + jj := by omega
    rw [e0] at hrun
    have hcl : cur.toList.length = cur.size := by simp
    have hle : (cellsL (ac.eval y)).length = 1 := by rw [hcl1]; rfl
    have hxx : Ext (Value.ownBlock (.slice (some ⟨gb, 0, none⟩) xs.length cap)).toList w (w.setRow gb (cur.toList.take (q * s + jj) ++ cellsL (ac.eval y) ++ cur.toList.drop (q * s + jj + (cellsL (ac.eval y)).length)).toArray) := (Ext.refl w).setRow (.inl (by simp [Value.ownBlock])) _
    have hnew : (cur.toList.take (q * s + jj) ++ cellsL (ac.eval y) ++ cur.toList.drop (q * s + jj + (cellsL (ac.eval y)).length)).take (xs.length * s) = us.set (q * s + jj) (ac.eval y) := by
      rw [← htk, hle, hcl1]
      apply List.ext_getElem?
      intro j
      simp only [List.getElem?_take, List.getElem?_append, List.length_append, List.length_take, List.getElem?_drop, List.getElem?_set, List.length_singleton, hcl]
      grind
    have hm := hst.mem.upd hu hxx bm_ (fun k hk => .inl hk) rfl fun hca => ⟨us.set (q * s + jj) (ac.eval y), ⟨?_, .inr ⟨gb, cap, _, by rw [List.length_set], hbase, setRow_heap w gb cur _ e (0, 0) hg, by rw [List.length_set]; exact hn, hcap, ?_, ?_⟩⟩, av_ hca _ _ _ (fd_ hry hr hq hj)⟩
    · refine ⟨undef, _, _, _, ⟨rfl, rfl⟩, hxx, rfl, hm.1, hm.2, .inr ⟨rfl, ?_⟩⟩
      have hcs := cy_ (ac.eval y)
      have hle2 : (cellsL (ac.eval y)).length = 1 := hle
      have hx2 : ac.eval x = .pointer (some ⟨gb, 0 + (q * s + jj), none⟩) := hst.plain hx
      simp [execOp, hx2, Instr.storeAt, Instr.sureAddr, storeVar, Sem.run_bind, hcs, h3, hle2, hrun, Result.andThen]
      (simp only [Nat.zero_add] at hrun; simp [hle2, hrun])
    · rw [List.length_set, hown.1, List.length_set]
    · simp only [List.size_toArray, List.length_append, List.length_take, List.length_drop]
      omega
    · rw [List.length_set]
      simpa using hnew
end
section
variable {P : Program} {n : Nat} {W : Wd} {σ σ0 : Blks} {l : Slots} {tab : List (Nat × TI)} {e e2 t ty : TypeId} {s : Nat} {v v2 : Value} {xs ys : List (List Abs)} {x y : Operand} {ops : Array Oper} {rest : List Oper} {Q : Exit → Act → World → Prop} {t' : TypeId} {gq : Option (Nat × Bool)} {d : Option Nat} {pos : String} {aft : Array Edge} {g : Option (Nat × Bool)}
theorem ic_ (hT : TabOk P tab) {i : TI} {post : Blks} (hu : P.underlying t = some (.slice e)) (hi : ti tab e = some i) (hpos : Nat.blt 0 i.size = true) (hsz : Nat.beq s i.size = true)
    (hx : look l x = some (.v v)) (hy : look l y = some (.v v2)) (hb : isOwn σ e2 s v2 ys) (hσ : σ = own e s v xs :: post) (h1 : ∀ c ∈ ys, ones c = true) (hm : xs.length + ys.length ≤ maxLen) (hby : (xs.length + ys.length) * P.bytesOf e ≤ 140737488355328) :
    Eff P n W σ l v.ownBlock.toList ⟨d, .call { callee := .builtin .append, args := #[x, y], argTypes := #[t, t] }, ty, pos, aft, g⟩ fun r τ => ∃ u, r = .v u ∧ τ = own e s u (xs ++ ys) :: post := fun a w hs => by
  subst hσ
  have hsz := Nat.eq_of_beq_eq_true hsz
  subst hsz
  obtain ⟨us, own1, hr1⟩ : (ownPc e i.size v xs).p _ w := hs.mem.hold (own e i.size v xs) (by simp)
  obtain ⟨news, hrow, hr2⟩ := hs.mem.ownR hb
  obtain ⟨A', c', hsh, _⟩ := hrow.shape
  have hone : ∀ u ∈ news, u.oneCell' = true := by
    have aux : ∀ (ys : List (List Abs)) (news : List Value), (∀ c ∈ ys, ones c = true) → repss (mids (own e i.size v xs :: post) ++ W.G) w i.size ys news → ∀ u ∈ news, u.oneCell' = true := by
      intro ys
      induction ys with
      | nil => intro news _ h u hu; have : news = [] := h; subst this; cases hu
      | cons c ys ih =>
        rintro news ho ⟨u1, u2, rfl, _, h3, h4⟩ u hu
        rcases List.mem_append.1 hu with hu | hu
        · exact b7_ h3 (ho c (by simp)) u hu
        · exact ih u2 (fun c hc => ho c (by simp [hc])) h4 u hu
    exact aux ys news h1 hr2
  have hrow' := hrow
  rw [hsh] at hrow'
  obtain ⟨v', w', hrun, h2, h3, h4⟩ := cg_ (ty := ty) hT hu hi hby hpos own1 hrow' (aY_ hr2) hone hm
  have hxx : Ext v.ownBlock.toList w w' := cO_ h3 fun k hk => .inl (by simpa using hk)
  have hup : Upd (own e i.size v xs) (own e i.size v' (xs ++ ys)) (own e i.size v xs :: post) (own e i.size v' (xs ++ ys) :: post) := .here
  have hm2 := hs.mem.upd hup hxx bm_ (fun k hk => ?_) rfl fun hc => ⟨_, by rw [List.length_append]; exact h2, bg_ (av_ hc _ _ _ hr1) (av_ hc _ _ _ hr2)⟩
  · refine ⟨v', w', _, _, ⟨v', rfl, rfl⟩, hxx, rfl, hm2.1, hm2.2, .inl ?_⟩
    simp [execOp, resolve, invoke, builtin, hs.plain hx, hs.plain hy, hsh, hrun, Result.andThen]
  · have hk' : v'.ownBlock = some k := by simpa [It.mids, ownPc] using hk
    rcases h4 with h4 | h4
    · exact .inl (by simp [It.mids, ownPc, ← h4, hk'])
    · rw [h4] at hk'; simp at hk'; exact .inr (by omega)
theorem h5_ (ht : P.underlying t = some (.slice e)) (hx : look l x = some (.v v)) (hb : isOwn σ e2 s v xs) (hg : gd ops l ⟨d, .binOp .eql t x (.const (.slice none 0 0)) t', ty, pos, aft, gq⟩ = some true) (hd : lt? d n = true)
    (k : ∀ b : Bool, (b = true → xs = []) → SL P ops rest (St n W σ (put? l d (.v (.bool b)))) Q) : SL P ops (⟨d, .binOp .eql t x (.const (.slice none 0 0)) t', ty, pos, aft, gq⟩ :: rest) (St n W σ l) Q := fun a w hs =>
  wpList_step fun K hK => by
    rw [if_pos (hs.wanted hg)]
    unfold Oper.wp
    obtain ⟨us, hr, h2⟩ := hs.mem.ownR hb
    have h0 := hs.plain hx
    obtain ⟨A', c, h1, h3, h4, h5⟩ := hr.shape
    have e1 : a.eval (.const (.slice none 0 0)) = .slice none 0 0 := rfl
    have hrun : (binOp .eql t (.slice A' xs.length c) (.slice none 0 0)).run P w = .ok (.bool A'.isNone) w := by
      have h : ∀ d : Nat, (Op.equalIn (d + 1) t (.slice A' xs.length c) (.slice none 0 0)).run P w = .ok A'.isNone w := fun d => by cases A' <;> simp [Op.equalIn, run_underlying ht]
      simp only [binOp]
      simp [Op.equal, Op.maxDepth, h 9999]
    have hrun2 : (execOp a.eval ⟨d, .binOp .eql t x (.const (.slice none 0 0)) t', ty, pos, aft, gq⟩).run P w = .ok (.value (.bool A'.isNone)) w := by simp [execOp, h0, h1, e1, eqGuard, hrun]
    rw [hrun2]
    refine hK _ _ (k A'.isNone (fun hb => ?_) _ _ (hs.put hd (show rep _ _ (.v (.bool A'.isNone)) _ from rfl)))
    cases A' with
    | none =>
      have := h5 rfl
      exact List.length_eq_zero_iff.1 (by omega)
    | some A' => cases hb
end
def itPc : It → Pc
  | .blk b t cs => blkP b t cs
  | .pc c => c
  | _ => bigP []
def bigI (xs : Blks) : Pc := bigP (xs.map itPc)
def isMut : It → Bool
  | .blk .. => true
  | .pc _ => true
  | _ => false
section
variable {xs ys : Blks} {x : It} {K : List Nat} {w : World}
theorem itPc_ids (h : isMut x = true) : (itPc x).ids = x.mids := by
  cases x with
  | blk b t cs => simp [itPc, It.mids, blkP]
  | pc c => rfl
  | _ => cases h
theorem itPc_p (h : isMut x = true) : (itPc x).p K w ↔ x.holds K w := by
  cases x with
  | blk b t cs => exact Iff.rfl
  | pc c => exact Iff.rfl
  | _ => cases h
theorem iu_ (h : isMut x = true) : x.rids = [] := by
  cases x with
  | blk b t cs => rfl
  | pc c => rfl
  | _ => cases h
theorem iR_ : ∀ {xs : Blks}, xs.all isMut = true → (bigI xs).ids = mids xs
  | [], _ => rfl
  | x :: xs, h => by
    rw [List.all_cons, Bool.and_eq_true] at h
    have h1 := iR_ h.2
    unfold bigI bigP at h1 ⊢
    simp only [List.map_cons, List.flatMap_cons]
    rw [itPc_ids h.1, aB_]
    exact congrArg (x.mids ++ ·) h1
theorem fB_ (h : xs.all isMut = true) : (bigI xs).p K w ↔ ∀ x ∈ xs, x.holds K w := by
  rw [List.all_eq_true] at h
  show (∀ c ∈ xs.map itPc, c.p K w) ↔ _
  constructor
  · intro h1 x hx
    exact (itPc_p (h x hx)).1 (h1 _ (List.mem_map.2 ⟨x, hx, rfl⟩))
  · intro h1 c hc
    obtain ⟨x, hx, rfl⟩ := List.mem_map.1 hc
    exact (itPc_p (h x hx)).2 (h1 x hx)
theorem cL_ (h : xs.all isMut = true) : mids [.pc (bigI xs)] = mids xs := by
  rw [aB_]
  show (bigI xs).ids ++ mids [] = _
  rw [iR_ h]
  simp [mids]
theorem all_rids (h : xs.all isMut = true) : ∀ x ∈ xs, x.rids = [] := fun x hx => iu_ (List.all_eq_true.1 h x hx)
theorem Re.bigIn (h : xs.all isMut = true) : Re xs [.pc (bigI xs)] := ⟨⟨[], by rw [cL_ h, List.append_nil]⟩, by simp [It.rids], fun K w hx y hy => by
  rw [List.mem_singleton.1 hy]
  exact (fB_ h).2 hx⟩
theorem Re.bigOut (h : xs.all isMut = true) : Re [.pc (bigI xs)] xs := ⟨⟨[], by rw [cL_ h, List.append_nil]⟩, all_rids h, fun K w hx y hy => (fB_ h).1 (hx _ List.mem_cons_self) y hy⟩
end
abbrev exA (n : Int) (x : Ex) (r : Value) : List Abs := [int n, int x.l.seq, int x.l.total, ltrsA x.l.ls, outA x.l.os, .v r]
abbrev exP (b : Nat) (n : Int) (x : Ex) (r : Value) : Pc := bigI [.blk b 71 (exA n x r), own 49 3 r (x.ds.map Dd.abs)]
theorem dds_same {ds : List Dd} {z : Nat} (h : z < ds.length) : (ds.map Dd.abs).set z ((Dd.abs ds[z]).set 1 (entsR ds[z].batch)) = ds.map Dd.abs := by
  rw [show (Dd.abs ds[z]).set 1 (entsR ds[z].batch) = Dd.abs ds[z] from rfl]
  refine List.ext_getElem (by simp) fun i h1 h2 => ?_
  rw [List.getElem_set]
  split
  · next h => subst h; simp
  · rfl
section
variable {x : Ex} {n seq k : Int} {es : List Ent} {m : List UInt8} {b : Nat} {r e1 e2 : Value} {c : Core} {xs : List Dd} {v : Value}
theorem hP_ (hn : 1 ≤ n ∧ n ≤ 7) : Spec Tryz.prog 7 [int n] [] (fun b : Nat => [.pc (exP b n Ex.zero (.slice none 0 0))]) (fun b => ptr b) := by
 refine F_ Tryz.func7 rfl Tryz.ntmps7 rfl fun G w =>d_<|a_<|q_ 1 rfl<|g_<|c_<|d_<|d_<|a_<|q_ 3 rfl<|z_ (t := 5) rfl (by intro hc5; exfalso; omega) ?_
 intro hc5
 refine q_ 3 rfl<|g_<|c_<|o_ rfl (by intro hc8; exfalso; omega) ?_
 intro hc8
 refine p_<|c_<|d_<|br_ 49 3<|a_<|q_ 1 rfl<|b_ (D_ (L := [int n, int 0, int 0, .v (.slice none 0 0), .v (.slice none 0 0), .v (.slice none 0 0)]) tabOk rfl rfl rfl rfl) rfl rfl<|eb_ (R_ (cs := [int n, int 0, int 0, .v (.slice none 0 0), .v (.slice none 0 0), .v (.slice none 0 0)]) rfl) rfl rfl fun b11=>?_
 exact q_ 1 rfl<|g_<|c_<|m_<|cm_ [] (Re.cast (ds := exA n Ex.zero (.slice none 0 0)) (Casts.keep (Casts.keep (Casts.keep (Casts.nils (s := 6) (Casts.nils (s := 3) Casts.refl)))))) rfl<|cm_ [] (Re.bigIn (xs := [_, _]) rfl) rfl<|f_ (rs := [.tmp 2]) rfl (RV.tmp rfl RV.nil) (b11) sr_<|rfl
theorem exnew_no (hn : n < 1 ∨ 7 < n) : Spec Tryz.prog 7 [int n] [] (fun _ : Unit => []) (fun _ => .v (.pointer none)) := by
 refine F_ Tryz.func7 rfl Tryz.ntmps7 rfl fun G w =>d_<|a_<|q_ 1 rfl<|g_<|c_<|d_<|d_<|a_<|q_ 3 rfl<|z_ (t := 5) rfl ?_ ?_
 ·intro hc5
  exact q_ 3 rfl<|g_<|c_<|M_ rfl<|d_<|a_<|q_ 1 rfl<|g_<|c_<|m_<|h_ nofun<|f_ (rs := [.tmp 2]) rfl (RV.tmp rfl RV.nil) (()) sn_<|rfl
 intro hc5
 refine q_ 3 rfl<|g_<|c_<|o_ rfl ?_ (by intro hc8; exfalso; omega)
 intro hc8
 exact d_<|a_<|q_ 1 rfl<|g_<|c_<|m_<|h_ nofun<|f_ (rs := [.tmp 2]) rfl (RV.tmp rfl RV.nil) (()) sn_<|rfl
theorem hQ_  : Spec Tryz.prog 10 [ptr b] [.pc (exP b n x r)] (fun _ : Unit => [.pc (exP b n x r)]) (fun _ => int x.l.seq) := by
 refine F_ Tryz.func10 rfl Tryz.ntmps10 rfl fun G w =>d_<|a_<|q_ 1 rfl<|g_<|c_<|d_<|d_<|hl_ [] (Re.bigOut rfl) rfl<|a_<|q_ 1 rfl<|b_ (bc_ rfl rfl (by kernel_rfl)) rfl rfl ?_
 exact g_<|c_<|ad_ rfl<|p_<|c_<|d_<|a_<|q_ 4 rfl<|b_ (l_ (C := int x.l.seq) (i_ tabOk rfl rfl l0_ List.not_mem_nil rfl) rfl) rfl rfl<|q_ 1 rfl<|g_<|c_<|m_<|cm_ [] (Re.bigIn (xs := [_, _]) rfl) rfl<|f_ (rs := [.tmp 2]) rfl (RV.tmp rfl RV.nil) (()) sr_<|rfl
theorem iK_  : Spec Tryz.prog 10 [.v (.pointer none)] [] (fun _ : Unit => []) (fun _ => int 0) := by
 refine F_ Tryz.func10 rfl Tryz.ntmps10 rfl fun G w =>d_<|a_<|q_ 1 rfl<|g_<|c_<|d_<|d_<|a_<|q_ 1 rfl<|b_ (bc_ rfl rfl (by kernel_rfl)) rfl rfl ?_
 exact g_<|c_<|M_ rfl<|d_<|a_<|q_ 1 rfl<|g_<|c_<|m_<|h_ nofun<|f_ (rs := [.tmp 2]) rfl (RV.tmp rfl RV.nil) (()) sn_<|rfl
set_option maxHeartbeats 1000000 in
theorem exled_s (h1 : x.l.ls.length ≤ 100000) (h2 : x.l.os.length ≤ 100000) : Spec Tryz.prog 18 [ptr b] [.pc (exP b n x r)] (fun _ : Unit => [.pc (exP b n x r)]) (fun _ => .agg x.l.abs) := by
 refine F_ Tryz.func18 rfl Tryz.ntmps18 rfl fun G w =>d_<|a_<|eb_ (H_ tabOk rfl) rfl rfl fun b2=>?_
 refine g_<|c_<|d_<|d_<|hl_ [_] (Re.bigOut rfl) rfl<|a_<|q_ 1 rfl<|b_ (bc_ rfl rfl (by kernel_rfl)) rfl rfl ?_
 refine g_<|c_<|ad_ rfl<|p_<|c_<|d_<|a_<|q_ 3 rfl<|b_ (l_ (C := .agg x.l.abs) (x_ tabOk rfl rfl rfl l1_ List.not_mem_nil (Nat.le_of_ble_eq_true rfl)) rfl) rfl rfl<|eb_ (H_ tabOk rfl) rfl rfl fun b3=>?_
 refine e_ (n_ (L' := x.l.abs) tabOk rfl rfl rfl u0_ rfl (Nat.le_of_ble_eq_true rfl) rfl (by exact t_ rfl)) rfl rfl ?_
 refine g_<|c_<|d_<|aa_ [b3] (.q 0 (.q 3 (.two 1 4 (.two 2 4 (.e 4 (.q 6 (.e 5 (.e 7 (.q 8 (.e 9 .nil)))))) (.e 2 (.q 6 (.e 5 (.e 7 (.q 8 (.e 9 .nil))))))) (.e 1 (.e 2 (.q 6 (.e 5 (.e 7 (.q 8 (.e 9 .nil)))))))))) (by kernel_rfl) (by kernel_rfl) ?_
 refine hx_ fun hx9 =>qx_ 2 hx9 rfl<|aR_ ?_ ?_
 ·skip
  refine aU_ rfl (l_ (C := .sl 6 (x.l.ls.map ltrA)) (i_ tabOk rfl rfl l0_ List.not_mem_nil (by rfl)) rfl) rfl rfl ?_
  refine aR_ ?_ ?_
  ·skip
   refine I_ rfl (bR_ (bP_ x.l.ls) (by rw [List.length_map]; omega)) (by simp [mids, It.mids]) Casts.refl (by kernel_rfl) rfl rfl rfl ?_
   refine ap_<|fun _=>aU_ rfl (l_ (C := .sl 3 (x.l.os.map Oc.abs)) (i_ tabOk rfl rfl l0_ List.not_mem_nil (by rfl)) rfl) rfl rfl ?_
   refine hx_ fun hx9 =>qx_ 1 hx9 rfl<|I_ rfl (ca_ (ci_ x.l.os) (by rw [List.length_map]; omega)) (by simp [mids, It.mids]) Casts.refl (by kernel_rfl) rfl rfl rfl ?_
   refine ap_<|fun _=>ex_ rfl (n_ (L' := x.l.abs) tabOk rfl rfl rfl u0_ rfl (Nat.le_of_ble_eq_true rfl) rfl rfl) (by simp) rfl rfl ?_
   refine hx_ fun hx9 =>qx_ 1 hx9 rfl<|ex_ rfl (n_ (L' := x.l.abs) tabOk rfl rfl rfl u0_ rfl (Nat.le_of_ble_eq_true rfl) rfl rfl) (by simp) rfl rfl ?_
   refine Q_<|c_<|d_<|a_<|b_ (l_ (C := .agg x.l.abs) (x_ tabOk rfl rfl rfl l0_ List.not_mem_nil (Nat.le_of_ble_eq_true rfl)) rfl) rfl rfl<|e_ (n_ (L' := x.l.abs) tabOk rfl rfl rfl u1_ rfl (Nat.le_of_ble_eq_true rfl) rfl (by exact t_ rfl)) rfl rfl ?_
   refine g_<|c_<|m_<|cm_ [_, _] (Re.bigIn (xs := [_, _]) rfl) rfl<|f_ (rs := [.cell 2 30]) rfl (RV.cell rfl (RV.cellA tabOk rfl rfl l1_ (by rfl)) RV.nil) (()) (sk_ (sk_ sr_)) ?_
   exact rfl
  skip
  refine aU_ rfl (l_ (C := .sl 3 (x.l.os.map Oc.abs)) (i_ tabOk rfl rfl l0_ List.not_mem_nil (by rfl)) rfl) rfl rfl ?_
  refine I_ rfl (bR_ (bP_ x.l.ls) (by rw [List.length_map]; omega)) (by simp [mids, It.mids]) Casts.refl (by kernel_rfl) rfl rfl rfl ?_
  refine ap_<|fun _=>hx_ fun hx9 =>qx_ 1 hx9 rfl<|I_ rfl (ca_ (ci_ x.l.os) (by rw [List.length_map]; omega)) (by simp [mids, It.mids]) Casts.refl (by kernel_rfl) rfl rfl rfl ?_
  refine ap_<|fun _=>ex_ rfl (n_ (L' := x.l.abs) tabOk rfl rfl rfl u0_ rfl (Nat.le_of_ble_eq_true rfl) rfl rfl) (by simp) rfl rfl ?_
  refine hx_ fun hx9 =>qx_ 1 hx9 rfl<|ex_ rfl (n_ (L' := x.l.abs) tabOk rfl rfl rfl u0_ rfl (Nat.le_of_ble_eq_true rfl) rfl rfl) (by simp) rfl rfl ?_
  refine Q_<|c_<|d_<|a_<|b_ (l_ (C := .agg x.l.abs) (x_ tabOk rfl rfl rfl l0_ List.not_mem_nil (Nat.le_of_ble_eq_true rfl)) rfl) rfl rfl<|e_ (n_ (L' := x.l.abs) tabOk rfl rfl rfl u1_ rfl (Nat.le_of_ble_eq_true rfl) rfl (by exact t_ rfl)) rfl rfl ?_
  refine g_<|c_<|m_<|cm_ [_, _] (Re.bigIn (xs := [_, _]) rfl) rfl<|f_ (rs := [.cell 2 30]) rfl (RV.cell rfl (RV.cellA tabOk rfl rfl l1_ (by rfl)) RV.nil) (()) (sk_ (sk_ sr_)) ?_
  exact rfl
 skip
 refine aU_ rfl (l_ (C := .sl 3 (x.l.os.map Oc.abs)) (i_ tabOk rfl rfl l0_ List.not_mem_nil (by rfl)) rfl) rfl rfl ?_
 refine aU_ rfl (l_ (C := .sl 6 (x.l.ls.map ltrA)) (i_ tabOk rfl rfl l0_ List.not_mem_nil (by rfl)) rfl) rfl rfl ?_
 refine I_ rfl (bR_ (bP_ x.l.ls) (by rw [List.length_map]; omega)) (by simp [mids, It.mids]) Casts.refl (by kernel_rfl) rfl rfl rfl ?_
 refine ap_<|fun _=>hx_ fun hx9 =>qx_ 1 hx9 rfl<|I_ rfl (ca_ (ci_ x.l.os) (by rw [List.length_map]; omega)) (by simp [mids, It.mids]) Casts.refl (by kernel_rfl) rfl rfl rfl ?_
 refine ap_<|fun _=>ex_ rfl (n_ (L' := x.l.abs) tabOk rfl rfl rfl u0_ rfl (Nat.le_of_ble_eq_true rfl) rfl rfl) (by simp) rfl rfl ?_
 refine hx_ fun hx9 =>qx_ 1 hx9 rfl<|ex_ rfl (n_ (L' := x.l.abs) tabOk rfl rfl rfl u0_ rfl (Nat.le_of_ble_eq_true rfl) rfl rfl) (by simp) rfl rfl ?_
 refine Q_<|c_<|d_<|a_<|b_ (l_ (C := .agg x.l.abs) (x_ tabOk rfl rfl rfl l0_ List.not_mem_nil (Nat.le_of_ble_eq_true rfl)) rfl) rfl rfl<|e_ (n_ (L' := x.l.abs) tabOk rfl rfl rfl u1_ rfl (Nat.le_of_ble_eq_true rfl) rfl (by exact t_ rfl)) rfl rfl ?_
 refine g_<|c_<|m_<|cm_ [_, _] (Re.bigIn (xs := [_, _]) rfl) rfl<|f_ (rs := [.cell 2 30]) rfl (RV.cell rfl (RV.cellA tabOk rfl rfl l1_ (by rfl)) RV.nil) (()) (sk_ (sk_ sr_)) ?_
 exact rfl
theorem iJ_  : Spec Tryz.prog 18 [.v (.pointer none)] [] (fun _ : Unit => []) (fun _ => .agg Lg.zero.abs) := by
 refine F_ Tryz.func18 rfl Tryz.ntmps18 rfl fun G w =>d_<|a_<|eb_ (H_ tabOk rfl) rfl rfl fun b2=>?_
 refine g_<|c_<|d_<|d_<|a_<|q_ 1 rfl<|b_ (bc_ rfl rfl (by kernel_rfl)) rfl rfl ?_
 refine g_<|c_<|M_ rfl<|d_<|a_<|b_ (D_ (L := [int 0, int 0, .v (.slice none 0 0), .v (.slice none 0 0)]) tabOk rfl rfl rfl rfl) rfl rfl<|e_ (n_ (L' := [int 0, int 0, .v (.slice none 0 0), .v (.slice none 0 0)]) tabOk rfl rfl rfl u0_ rfl (Nat.le_of_ble_eq_true rfl) rfl (by exact t_ rfl)) rfl rfl ?_
 refine g_<|c_<|m_<|h_ nofun<|fC_ (rs := [.cell 2 30]) rfl (RV.cell rfl (RV.cellA tabOk rfl rfl l0_ (by rfl)) RV.nil) (Casts.cons (as_ (Casts.keep (Casts.keep (Casts.nils (s := 6) (Casts.nils (s := 3) Casts.refl))))) Casts.refl) (()) sn_ ?_
 exact rfl
theorem eU_ (hl : i64ok x.l.total) : Spec Tryz.prog 12 [ptr b] [.pc (exP b n x r)] (fun _ : Unit => [.pc (exP b n x r)]) (fun _ => byt x.l.bytesR) := by
 refine F_ Tryz.func12 rfl Tryz.ntmps12 rfl fun G w =>d_<|a_<|q_ 1 rfl<|g_<|c_<|d_<|d_<|hl_ [] (Re.bigOut rfl) rfl<|a_<|q_ 1 rfl<|b_ (bc_ rfl rfl (by kernel_rfl)) rfl rfl ?_
 refine g_<|c_<|ad_ rfl<|p_<|c_<|d_<|a_<|q_ 3 rfl<|b_ (l_ (C := .agg x.l.abs) (x_ tabOk rfl rfl rfl l0_ List.not_mem_nil (Nat.le_of_ble_eq_true rfl)) rfl) rfl rfl<|s_ (lbytes_s (l := x.l) hl) Casts.refl (by kernel_rfl) rfl rfl rfl ?_
 exact ap_<|fun _=>q_ 1 rfl<|g_<|c_<|m_<|cm_ [] (Re.bigIn (xs := [_, _]) rfl) rfl<|f_ (rs := [.tmp 2]) rfl (RV.tmp rfl RV.nil) (()) sr_<|rfl
theorem fv_  : Spec Tryz.prog 12 [.v (.pointer none)] [] (fun _ : Unit => []) (fun _ => byt []) := by
 refine F_ Tryz.func12 rfl Tryz.ntmps12 rfl fun G w =>d_<|a_<|q_ 1 rfl<|g_<|c_<|d_<|d_<|a_<|q_ 1 rfl<|b_ (bc_ rfl rfl (by kernel_rfl)) rfl rfl ?_
 exact g_<|c_<|M_ rfl<|d_<|a_<|q_ 1 rfl<|g_<|c_<|m_<|h_ nofun<|fC_ (rs := [.tmp 2]) rfl (RV.tmp rfl RV.nil) (Casts.nils (s := 1) Casts.refl) (()) sn_<|rfl
theorem exlast_s (hf : x.l.Few) : Spec Tryz.prog 19 [ptr b, int k] [.pc (exP b n x r)] (fun _ : Unit => [.pc (exP b n x r)]) (fun _ => .tup [.agg (Oc.abs ((x.l.last k).getD Oc.zero)), boo (x.l.last k).isSome]) := by
 refine F_ Tryz.func19 rfl Tryz.ntmps19 rfl fun G w =>d_<|a_<|eb_ (H_ tabOk rfl) rfl rfl fun b4=>?_
 refine q_ 1 rfl<|g_<|c_<|d_<|d_<|hl_ [_] (Re.bigOut rfl) rfl<|a_<|q_ 1 rfl<|b_ (bc_ rfl rfl (by kernel_rfl)) rfl rfl ?_
 refine g_<|c_<|ad_ rfl<|p_<|c_<|d_<|a_<|q_ 3 rfl<|b_ (l_ (C := .agg x.l.abs) (x_ tabOk rfl rfl rfl l1_ List.not_mem_nil (Nat.le_of_ble_eq_true rfl)) rfl) rfl rfl<|q_ 1 rfl<|s_ (kr_ (l := x.l) (k := k) hf) Casts.refl (by kernel_rfl) rfl rfl rfl ?_
 refine ap_<|fun _=>q_ 2 rfl<|e_ (n_ (L' := Oc.abs ((x.l.last k).getD Oc.zero)) tabOk rfl rfl rfl u0_ rfl (Nat.le_of_ble_eq_true rfl) rfl (by exact t_ rfl)) rfl rfl ?_
 refine q_ 1 rfl<|g_<|c_<|m_<|cm_ [_] (Re.bigIn (xs := [_, _]) rfl) rfl<|f_ (rs := [.cell 4 40, .tmp 5]) rfl (RV.cell rfl (RV.cellA tabOk rfl rfl l0_ (by rfl)) (RV.tmp rfl RV.nil)) (()) (sk_ sr_) ?_
 exact rfl
theorem g0_  : Spec Tryz.prog 19 [.v (.pointer none), int k] [] (fun _ : Unit => []) (fun _ => .tup [.agg Oc.zero.abs, boo false]) := by
 refine F_ Tryz.func19 rfl Tryz.ntmps19 rfl fun G w =>d_<|a_<|eb_ (H_ tabOk rfl) rfl rfl fun b4=>?_
 refine q_ 1 rfl<|g_<|c_<|d_<|d_<|a_<|q_ 1 rfl<|b_ (bc_ rfl rfl (by kernel_rfl)) rfl rfl ?_
 refine g_<|c_<|M_ rfl<|d_<|a_<|b_ (D_ tabOk rfl rfl rfl rfl) rfl rfl<|e_ (n_ (L' := Oc.zero.abs) tabOk rfl rfl rfl u0_ rfl (Nat.le_of_ble_eq_true rfl) rfl (by exact t_ rfl)) rfl rfl ?_
 refine q_ 1 rfl<|g_<|c_<|m_<|h_ nofun<|f_ (rs := [.cell 4 40, .tmp 5]) rfl (RV.cell rfl (RV.cellA tabOk rfl rfl l0_ (by rfl)) (RV.tmp rfl RV.nil)) (()) sn_ ?_
 exact rfl
set_option maxHeartbeats 1000000 in
theorem kL_ (hf : x.l.Few) : Spec Tryz.prog 20 [ptr b, coreA c] [.pc (exP b n x r)] (fun _ : Unit => [.pc (exP b n x r)]) (fun _ => boo (x.l.stale c)) := by
 refine F_ Tryz.func20 rfl Tryz.ntmps20 rfl fun G w =>d_<|a_<|eb_ (R_ (cs := c.cells.map .v) rfl) rfl rfl fun b3=>?_
 refine q_ 1 rfl<|g_<|c_<|d_<|hl_ [_] (Re.bigOut rfl) rfl<|aa_ [] (.q 0 (.q 1 (.q 2 (.q 3 (.q 4 (.q 5 (.q 6 (.q 7 (.e 8 (.q 9 (.q 10 .nil))))))))))) (by kernel_rfl) (by kernel_rfl) ?_
 refine qs_ 1 rfl<|r_ rfl (gj_ rfl rfl (by kernel_rfl)) (by simp) rfl rfl ?_
 refine qs_ 4 rfl<|hx_ fun hx9 =>r_ rfl (l_ (C := .agg x.l.abs) (x_ tabOk rfl rfl rfl l1_ List.not_mem_nil (Nat.le_of_ble_eq_true rfl)) rfl) hx9 rfl rfl<|r_ rfl (l_ (C := coreA c) (x_ tabOk rfl rfl rfl l0_ List.not_mem_nil (Nat.le_of_ble_eq_true rfl)) rfl) hx9 rfl rfl<|I_ rfl (iA_ (l := x.l) (c := c) hf) (by simp [mids, It.mids]) Casts.refl (by kernel_rfl) rfl rfl rfl ?_
 exact ap_<|fun _=>qs_ 2 rfl<|Q_<|c_<|m_<|cm_ [_] (Re.bigIn (xs := [_, _]) rfl) rfl<|f_ (rs := [.tmp 4]) rfl (RV.tmp rfl RV.nil) (()) (sk_ sr_)<|rfl
theorem ft_  : Spec Tryz.prog 20 [.v (.pointer none), coreA c] [] (fun _ : Unit => []) (fun _ => boo false) := by
 refine F_ Tryz.func20 rfl Tryz.ntmps20 rfl fun G w =>d_<|a_<|eb_ (R_ (cs := c.cells.map .v) rfl) rfl rfl fun b3=>?_
 refine q_ 1 rfl<|g_<|c_<|d_<|aa_ [] (.q 0 (.q 1 (.q 2 (.q 3 (.q 4 (.q 5 (.q 6 (.q 7 (.e 8 (.q 9 (.q 10 .nil))))))))))) (by kernel_rfl) (by kernel_rfl) ?_
 refine qs_ 1 rfl<|r_ rfl (gj_ rfl rfl (by kernel_rfl)) (by simp) rfl rfl ?_
 exact qs_ 6 rfl<|cW_ rfl rfl rfl<|qs_ 2 rfl<|Q_<|c_<|m_<|f_ (rs := [.tmp 4]) rfl (RV.tmp rfl RV.nil) (()) sn_<|rfl
theorem hT_ (hn : xs.length ≤ 1000000) : Spec Tryz.prog 35 [.v v] [.rdpc (ownPc 49 3 v (xs.map Dd.abs))] (fun r : Value => [own 49 3 r (xs.map Dd.abs)]) (fun r => .v r) := by
 refine F_ Tryz.func35 rfl Tryz.ntmps35 rfl fun G w =>d_<|a_<|q_ 1 rfl<|g_<|c_<|d_<|d_<|a_<|q_ 1 rfl<|h5_ (e2 := 49) (s := 3) (xs := xs.map Dd.abs) Tryz.underlying46 rfl (.inr i0_) rfl rfl<|fun b hb=>g_<|c_<|X_ rfl ?_ ?_
 ·intro hc4
  have hnil : xs = [] := List.map_eq_nil_iff.1 (hb hc4)
  subst hnil
  exact d_<|br_ 49 3<|a_<|q_ 1 rfl<|g_<|c_<|m_<|h_ nofun<|f_ (rs := [.tmp 2]) rfl (RV.tmp rfl RV.nil) (.slice none 0 0) (sc_ sn_)<|rfl
 intro hc4
 refine p_<|c_<|d_<|a_<|eb_ (aK_ tabOk Tryz.underlying46 rfl rfl rfl rfl rfl rfl rfl) rfl rfl fun r5=>?_
 refine q_ 1 rfl<|eb_ (ic_ tabOk Tryz.underlying46 rfl rfl rfl rfl rfl (.inr i1_) rfl (dw_ xs) (by unfold maxLen; simp only [List.length_map, List.length_nil]; omega) (by rw [show Tryz.prog.bytesOf 49 = 40 by kernel_rfl]; simp only [List.length_map, List.length_nil]; omega)) rfl rfl fun r7=>?_
 exact q_ 1 rfl<|g_<|c_<|m_<|f_ (rs := [.tmp 2]) rfl (RV.tmp rfl RV.nil) (r7) (sc_ sn_)<|rfl
set_option maxHeartbeats 1000000 in
theorem eT_ (hn : x.ds.length ≤ 100000) (hb : ∀ d ∈ x.ds, d.batch.length ≤ 1000) : Spec Tryz.prog 15 [ptr b] [.pc (exP b n x r)] (fun _ : Unit => [.pc (exP b n x r)]) (fun _ => ddsA x.ds) := by
 refine F_ Tryz.func15 rfl Tryz.ntmps15 rfl fun G w =>d_<|a_<|q_ 1 rfl<|g_<|c_<|d_<|d_<|hl_ [] (Re.bigOut rfl) rfl<|a_<|q_ 1 rfl<|b_ (bc_ rfl rfl (by kernel_rfl)) rfl rfl ?_
 refine g_<|c_<|ad_ rfl<|p_<|c_<|d_<|a_<|q_ 3 rfl<|b_ (l_ (C := .v r) (i_ tabOk rfl rfl l0_ List.not_mem_nil rfl) rfl) rfl rfl<|s_ (hT_ (v := r) (xs := x.ds) (by omega)) Casts.refl (by kernel_rfl) rfl rfl rfl ?_
 refine bB_ (by repeat (first | exact Reads.nil | (refine Reads.blk ?_ ?_; focus ((repeat first|assumption|exact m0_|apply m1_); done)) | (refine Reads.rd ?_ ?_; focus ((repeat first|assumption|exact m0_|apply m1_); done)) | (refine Reads.pc ?_ ?_; focus ((repeat first|assumption|exact m0_|apply m1_); done)) | (refine Reads.rdpc ?_ ?_; focus ((repeat first|assumption|exact m0_|apply m1_); done)))) (fun _ => rfl) ?_
 intro v3
 refine q_ 1 rfl<|g_<|c_<|d_<|d_<|a_<|q_ 1 rfl<|b_ (bS_ (m := x.ds.length) rfl (.inl i0_) Tryz.underlying46 (List.length_map _)) rfl rfl<|q_ 1 rfl<|g_<|c_<|y_<|ae_ (ι := Nat) (fun z => [own 49 3 v3 (x.ds.map Dd.abs), .blk b 71 (exA n x r), own 49 3 r (x.ds.map Dd.abs)]) (fun z => [(3, .v v3), (13, int (x.ds.length : Nat)), (14, int (z : Nat))]) (fun z => z ≤ x.ds.length) (fun z => x.ds.length - z) (0) (Nat.zero_le _) (by exact ⟨rfl, rfl, rfl, trivial⟩) sr_ ?_
 intro z hz
 refine d_<|a_<|q_ 1 rfl<|g_<|c_<|d_<|o_ rfl ?_ ?_
 rotate_left
 ·intro hc15
  exact W_<|h_ nofun<|h_ nofun<|V_<|c_<|d_<|a_<|q_ 2 rfl<|g_<|c_<|m_<|bi_ [] (t := 2) rfl rfl<|cm_ [] (Re.bigIn (xs := [_, _]) rfl) rfl<|f_ (rs := [.tmp 2]) rfl (RV.tmp rfl RV.nil) (()) sr_<|rfl
 intro hc15
 have hlt : z < x.ds.length := by omega
 refine p_<|c_<|d_<|y_<|d_<|a_<|q_ 2 rfl<|g_<|c_<|a_<|q_ 4 rfl<|b_ (bh_ (q := z) tabOk Tryz.underlying46 rfl rfl (.inl i0_) rfl rfl (by rw [List.length_map]; exact hlt) rfl rfl) rfl rfl ?_
 refine b_ (d0_ (q := z) (s := 3) (cs := Dd.abs (x.ds[z]'hlt)) tabOk rfl rfl (.inl i0_) rfl (by rw [List.getElem?_map, List.getElem?_eq_getElem hlt]; rfl) rfl rfl rfl) rfl rfl ?_
 refine b_ (l_ (C := entsR (x.ds[z]'hlt).batch) (hj_ (q := z) (s := 3) (jj := 1) (cs := Dd.abs (x.ds[z]'hlt)) tabOk rfl rfl (.inl i0_) rfl (by rw [List.getElem?_map, List.getElem?_eq_getElem hlt]; rfl) rfl) rfl) rfl rfl ?_
 refine s_ (cx_ (du_ (x.ds[z]'hlt).batch) (by rw [List.length_map]; have := hb _ (List.getElem_mem hlt); omega)) Casts.refl (by kernel_rfl) rfl rfl rfl ?_
 refine ap_<|fun _=>b_ (bh_ (q := z) tabOk Tryz.underlying46 rfl rfl (.inl i0_) rfl rfl (by rw [List.length_map]; exact hlt) rfl rfl) rfl rfl ?_
 refine b_ (d0_ (q := z) (s := 3) (cs := Dd.abs (x.ds[z]'hlt)) tabOk rfl rfl (.inl i0_) rfl (by rw [List.getElem?_map, List.getElem?_eq_getElem hlt]; rfl) rfl rfl rfl) rfl rfl ?_
 refine a0_ (h8_ (q := z) (s := 3) (jj := 1) (cs := Dd.abs (x.ds[z]'hlt)) tabOk rfl rfl rfl rfl rfl (by rw [List.getElem?_map, List.getElem?_eq_getElem hlt]; rfl) rfl u0_) rfl rfl ?_
 rintro _ _ ⟨rfl, rfl⟩
 rw [dds_same hlt]
 refine g_<|u_<|c_<|a_<|b_ (C_ rfl rfl (by simp only [InR, lo, hi]; omega)) rfl rfl ?_
 refine q_ 1 rfl<|g_<|G_ (z + 1) (by omega) (by omega) (by exact ⟨rfl, rfl, rfl, trivial⟩) sr_
theorem fu_  : Spec Tryz.prog 15 [.v (.pointer none)] [] (fun _ : Unit => []) (fun _ => ddsA []) := by
 refine F_ Tryz.func15 rfl Tryz.ntmps15 rfl fun G w =>d_<|a_<|q_ 1 rfl<|g_<|c_<|d_<|d_<|a_<|q_ 1 rfl<|b_ (bc_ rfl rfl (by kernel_rfl)) rfl rfl ?_
 exact g_<|c_<|M_ rfl<|d_<|a_<|q_ 1 rfl<|g_<|c_<|m_<|h_ nofun<|fC_ (rs := [.tmp 2]) rfl (RV.tmp rfl RV.nil) (Casts.nils (s := 3) Casts.refl) (()) sn_<|rfl
end
section
variable {xs ys zs : Blks} {x : It}
theorem Re.bigPerm (hp : xs.Perm ys) (hx : xs.all isMut = true) : Re [.pc (bigI xs)] [.pc (bigI ys)] := by
  have hy : ys.all isMut = true := List.all_eq_true.2 fun y hy => List.all_eq_true.1 hx y (hp.mem_iff.2 hy)
  refine ⟨⟨[], ?_⟩, by simp [It.rids], fun K w h y hy2 => ?_⟩
  · rw [cL_ hx, cL_ hy, List.append_nil]
    exact cv_ hp
  · rw [List.mem_singleton.1 hy2]
    exact (fB_ hy).2 fun z hz => (fB_ hx).1 (h _ List.mem_cons_self) z (hp.mem_iff.2 hz)
theorem mids_two (h : xs.all isMut = true) : mids [x, .pc (bigI xs)] = mids (x :: xs) := by
  rw [aB_, cL_ h, aB_]
theorem Re.bigCons (h : (x :: xs).all isMut = true) : Re [.pc (bigI (x :: xs))] [x, .pc (bigI xs)] := by
  have h1 : isMut x = true ∧ xs.all isMut = true := by rw [List.all_cons, Bool.and_eq_true] at h; exact h
  refine ⟨⟨[], ?_⟩, fun y hy => ?_, fun K w hh y hy => ?_⟩
  · rw [cL_ h, mids_two h1.2, List.append_nil]
  · rcases List.mem_cons.1 hy with rfl | hy
    · exact iu_ h1.1
    · rw [List.mem_singleton.1 hy]; rfl
  · have h2 := (fB_ h).1 (hh _ List.mem_cons_self)
    rcases List.mem_cons.1 hy with rfl | hy
    · exact h2 _ List.mem_cons_self
    · rw [List.mem_singleton.1 hy]
      exact (fB_ h1.2).2 fun z hz => h2 z (List.mem_cons_of_mem _ hz)
end
/-! ### Maps as lists of pairs -/
section
variable {α γ : Type} [DecidableEq α] {m : List (α × γ)} {a : α} {u : γ}
theorem k9_ (hn : (m.map (·.1)).Nodup) (h : aget m a = some u) : m.Perm ((a, u) :: adel m a) := by
  induction m with
  | nil => cases h
  | cons p m ih =>
    rw [List.map_cons, List.nodup_cons] at hn
    by_cases hp : p.1 = a
    · have hu : p.2 = u := by
        unfold aget at h
        rw [List.find?_cons, decide_eq_true hp] at h
        exact Option.some.inj h
      have hd : adel (p :: m) a = m := by
        have h1 : adel (p :: m) a = adel m a := List.filter_cons_of_neg (by simpa using hp)
        rw [h1]
        exact hh_ ((e1_ m a).2 (hp ▸ hn.1))
      rw [hd, ← hp, ← hu]
    · have h1 : aget m a = some u := by
        unfold aget at h ⊢
        rw [List.find?_cons, decide_eq_false hp] at h
        exact h
      have h2 : adel (p :: m) a = p :: adel m a := List.filter_cons_of_pos (by simpa using hp)
      rw [h2]
      exact ((ih hn.2 h1).cons p).trans (List.Perm.swap _ _ _)
end
/-! ### The rows -/
section
variable {α β : Type} [DecidableEq α] {tm : List (α × (Value × β))} {a : α} {v : Value} {x z0 : β} {f : β → List (List Abs)} {T : TypeId} {s : Nat}
def rowsB {α : Type} (T : TypeId) (s : Nat) (f : β → List (List Abs)) (tm : List (α × (Value × β))) : Blks := tm.map fun e => own T s e.2.1 (f e.2.2)
abbrev rowsPc {α : Type} (T : TypeId) (s : Nat) (f : β → List (List Abs)) (tm : List (α × (Value × β))) : Pc := bigI (rowsB T s f tm)
def rowV (tm : List (α × (Value × β))) (a : α) : Value := ((aget tm a).map (·.1)).getD (.slice none 0 0)
def rowD (tm : List (α × (Value × β))) (a : α) (z0 : β) : β := ((aget tm a).map (·.2)).getD z0
omit [DecidableEq α] in
theorem gs_ : (rowsB T s f tm).all isMut = true := by
  unfold rowsB
  rw [List.all_map]
  exact List.all_eq_true.2 fun _ _ => rfl
omit [DecidableEq α] in
theorem ji_ {tm' : List (α × (Value × β))} (h : tm.Perm tm') : (rowsB T s f tm).Perm (rowsB T s f tm') := h.map _
theorem Re.rowOut (hn : (tm.map (·.1)).Nodup) (hz : f z0 = []) : Re [.pc (rowsPc T s f tm)] [own T s (rowV tm a) (f (rowD tm a z0)), .pc (rowsPc T s f (adel tm a))] := by
  cases h : aget tm a with
  | none =>
    have h1 : rowV tm a = .slice none 0 0 := by unfold rowV; rw [h]; rfl
    have h2 : f (rowD tm a z0) = [] := by unfold rowD; rw [h]; exact hz
    rw [h1, h2, hh_ h]
    refine ⟨⟨[], by simp [mids, It.mids, ownPc, Value.ownBlock]⟩, fun y hy => ?_, fun K w hh y hy => ?_⟩
    · rcases List.mem_cons.1 hy with rfl | hy
      · rfl
      · rw [List.mem_singleton.1 hy]; rfl
    · rcases List.mem_cons.1 hy with rfl | hy
      · exact ⟨[], ⟨by simp, .inl ⟨rfl, rfl⟩⟩, rfl⟩
      · rw [List.mem_singleton.1 hy]
        exact hh _ List.mem_cons_self
  | some u =>
    have h1 : rowV tm a = u.1 := by unfold rowV; rw [h]; rfl
    have h2 : rowD tm a z0 = u.2 := by unfold rowD; rw [h]; rfl
    rw [h1, h2]
    have h3 := ji_ (T := T) (s := s) (f := f) (k9_ hn h)
    exact (Re.bigPerm h3 gs_).trans (Re.bigCons (gs_ (tm := (a, u) :: adel tm a)))
variable {P : Program} {n : Nat} {W : Wd} {σ : Blks} {l : Slots} {ops : Array Oper} {rest : List Oper} {Q : Exit → Act → World → Prop} {ix : Plan} {X : List Nat}
omit [DecidableEq α] in
theorem lk_ {c : Code} (k : (mids σ).Nodup → SC P c (St n W σ l) Q) : SC P c (St n W σ l) Q := fun a w h => k h.mem.nodup a w h
end
section
variable {x : Ex} {n seq k : Int} {es : List Ent} {m : List UInt8} {b : Nat} {r e1 e2 : Value} {c : Core} {xs : List Dd} {v : Value}
set_option maxHeartbeats 4000000 in
theorem kM_ {j : Nat} (he : isIf e1) (hr : isIf e2) (hes : ∀ e ∈ es, EnIns e) (hb : es.length ≤ 10) (hk : j ≤ 45) (hx : x.Ok j) : Spec Tryz.prog 9 [ptr b, int seq, entsR es] (.pc (exP b n x r) :: (globs e1 e2)) (fun r' : Value => [.pc (exP b n (x.doX n seq es) r')]) (fun _ => .tup [outA (x.doO n seq es), int (x.doE n seq es)]) := by
 have hs0 := hx.seq
 have hl0 := hx.ls
 have ho0 := hx.os
 have hd0 := hx.few
 have hrl : ((x.l.foldF es n)).2.length = es.length := cM_ n x.l es
 refine F_ Tryz.func9 rfl Tryz.ntmps9 rfl fun G w =>d_<|a_<|q_ 2 rfl<|g_<|c_<|d_<|y_<|d_<|hl_ [] (Re.bigOut rfl) rfl<|a_<|q_ 1 rfl<|b_ (bc_ rfl rfl (by kernel_rfl)) rfl rfl ?_
 refine q_ 1 rfl<|g_<|c_<|ad_ rfl<|d_<|a_<|q_ 4 rfl<|b_ (l_ (C := int x.l.seq) (i_ tabOk rfl rfl l0_ List.not_mem_nil rfl) rfl) rfl rfl<|q_ 2 rfl<|z_ (t := 24) rfl ?_ ?_
 ·intro hc24
  refine q_ 10 rfl<|g_<|c_<|M_ rfl<|d_<|a_<|q_ 2 rfl<|g_<|c_<|m_<|E_<|h_ nofun ?_
  obtain ⟨g1, g2, g3⟩ := eV_ (x := x) (n := n) (b := es) (seq := seq) (by omega)
  rw [g1, g2, g3]
  exact cm_ [] (Re.bigIn (xs := [_, _]) rfl) rfl<|fC_ (rs := [.tmp 6, .tmp 7]) rfl (RV.tmp rfl (RV.tmp rfl RV.nil)) (Casts.nils (s := 3) Casts.refl) (r) (sc_ sn_)<|rfl
 intro hc24
 refine q_ 5 rfl<|b_ (l_ (C := int x.l.seq) (i_ tabOk rfl rfl l0_ List.not_mem_nil rfl) rfl) rfl rfl<|b_ (C_ rfl rfl (by simp only [InR, lo, hi]; omega)) rfl rfl ?_
 refine q_ 3 rfl<|g_<|c_<|o_ rfl ?_ ?_
 ·intro hc17
  refine d_<|a_<|q_ 2 rfl<|g_<|c_<|m_<|E_<|h_ nofun ?_
  obtain ⟨g1, g2, g3⟩ := eV_ (x := x) (n := n) (b := es) (seq := seq) (by omega)
  rw [g1, g2, g3]
  exact cm_ [] (Re.bigIn (xs := [_, _]) rfl) rfl<|fC_ (rs := [.tmp 6, .tmp 7]) rfl (RV.tmp rfl (RV.tmp rfl RV.nil)) (Casts.nils (s := 3) Casts.refl) (r) (sc_ sn_)<|rfl
 intro hc17
 refine p_<|u_<|c_<|d_<|d_<|a_<|q_ 4 rfl<|b_ (l_ (C := int n) (i_ tabOk rfl rfl l0_ List.not_mem_nil rfl) rfl) rfl rfl<|s_ (bcheck_s (es := es) (n := n) (by omega)) Casts.refl (by kernel_rfl) rfl rfl rfl ?_
 refine ap_<|fun _=>q_ 1 rfl<|g_<|c_<|d_<|a_<|q_ 2 rfl<|g_<|c_<|o_ rfl ?_ ?_
 ·intro hc41
  refine d_<|a_<|q_ 3 rfl<|g_<|c_<|m_<|h_ nofun ?_
  obtain ⟨g1, g2, g3⟩ := do_odd (x := x) (n := n) (b := es) (seq := seq) (by omega) hc41
  rw [g1, g2, g3]
  exact cm_ [] (Re.bigIn (xs := [_, _]) rfl) rfl<|fC_ (rs := [.tmp 6, .tmp 7]) rfl (RV.tmp rfl (RV.tmp rfl RV.nil)) (Casts.nils (s := 3) Casts.refl) (r) (sc_ sn_)<|rfl
 intro hc41
 refine p_<|c_<|a1_ (ι := Nat) (fun q9 => (.blk q9 30 (x.l.foldF es n).1.abs :: .blk b 71 (exA n x r) :: own 49 3 r (x.ds.map Dd.abs) :: [])) (fun q9 => [(0, ptr b), (1, int seq), (2, entsR es), (9, ptr q9), (10, errsR (x.l.foldF es n).2)]) (fun q9 => True) ?_ ?_
 ·skip
  refine aa_ [] (.q 0 (.q 1 (.q 2 (.q 3 (.q 4 (.q 5 (.q 6 (.q 7 (.q 8 (.two 9 13 (.q 10 (.q 11 (.q 12 (.e 13 (.e 14 (.q 15 .nil)))))) (.e 9 (.q 10 (.q 11 (.q 12 (.e 14 (.q 15 .nil)))))))))))))))) (by kernel_rfl) (by kernel_rfl) ?_
  refine qs_ 3 rfl<|hx_ fun hx9 =>r_ rfl (l_ (C := .agg x.l.abs) (x_ tabOk rfl rfl rfl l0_ List.not_mem_nil (Nat.le_of_ble_eq_true rfl)) rfl) hx9 rfl rfl<|qs_ 4 rfl<|r_ rfl (l_ (C := int n) (i_ tabOk rfl rfl l0_ List.not_mem_nil rfl) rfl) hx9 rfl rfl<|aR_ ?_ ?_
  ·skip
   refine I_ rfl (ku_ (l := x.l) (es := es) (n := n) he hr hes hx.ins.wf (by omega) (by omega) (by omega) (by omega)) (by simp [mids, It.mids]) Casts.refl (by kernel_rfl) rfl rfl rfl ?_
   refine ap_<|fun _=>qs_ 3 rfl<|aM_ tabOk rfl rfl rfl rfl fun b9 =>ex_ rfl (n_ (L' := (x.l.foldF es n).1.abs) tabOk rfl rfl rfl u0_ rfl (Nat.le_of_ble_eq_true rfl) rfl (by exact t_ rfl)) (by simp) rfl rfl ?_
   refine hx_ fun hx9 =>qx_ 1 hx9 rfl<|Q_<|ab_ (b9) (trivial) (by exact ⟨rfl, rfl, rfl, rfl, rfl, trivial⟩) (sc_ (sc_ (sc_ sn_)))
  skip
  refine aM_ tabOk rfl rfl rfl rfl fun b9 =>I_ rfl (ku_ (l := x.l) (es := es) (n := n) he hr hes hx.ins.wf (by omega) (by omega) (by omega) (by omega)) (by simp [mids, It.mids]) Casts.refl (by kernel_rfl) rfl rfl rfl ?_
  refine ap_<|fun _=>hx_ fun hx9 =>qx_ 3 hx9 rfl<|ex_ rfl (n_ (L' := (x.l.foldF es n).1.abs) tabOk rfl rfl rfl u0_ rfl (Nat.le_of_ble_eq_true rfl) rfl (by exact t_ rfl)) (by simp) rfl rfl ?_
  refine hx_ fun hx9 =>qx_ 1 hx9 rfl<|Q_<|ab_ (b9) (trivial) (by exact ⟨rfl, rfl, rfl, rfl, rfl, trivial⟩) (sc_ (sc_ (sc_ sn_)))
 intro q9 hq9
 refine d_<|a_<|q_ 1 rfl<|b_ (l_ (C := .agg (x.l.foldF es n).1.abs) (x_ tabOk rfl rfl rfl l0_ List.not_mem_nil (Nat.le_of_ble_eq_true rfl)) rfl) rfl rfl<|q_ 2 rfl<|e_ (n_ (L' := exA n (⟨(x.l.foldF es n).1, x.ds⟩ : Ex) r) tabOk rfl rfl rfl u1_ rfl (Nat.le_of_ble_eq_true rfl) rfl rfl) rfl rfl<|g_<|c_<|a1_ (ι := Value) (fun q10 => (.blk b 71 (exA n (⟨(x.l.foldF es n).1, x.ds ++ [⟨seq, es, false⟩]⟩ : Ex) q10) :: own 49 3 q10 ((⟨(x.l.foldF es n).1, x.ds ++ [⟨seq, es, false⟩]⟩ : Ex).ds.map Dd.abs) :: [])) (fun q10 => [(2, entsR es), (10, errsR (x.l.foldF es n).2)]) (fun q10 => True) ?_ ?_
 ·skip
  refine aa_ (r.ownBlock.toList ++ [b]) (.q 0 (.q 1 (.q 2 (.q 3 (.q 5 (.q 6 (.two 4 7 (.e 7 (.q 8 (.e 9 (.e 10 (.q 11 (.q 12 (.e 13 .nil))))))) (.q 8 (.two 4 9 (.e 9 (.e 10 (.q 11 (.q 12 (.e 13 .nil))))) (.e 4 (.e 10 (.q 11 (.q 12 (.e 13 .nil)))))))))))))) (by kernel_rfl) (by kernel_rfl) ?_
  refine hx_ fun hx9 =>qx_ 6 hx9 rfl<|aR_ ?_ ?_
  ·skip
   refine aU_ rfl (l_ (C := .v r) (i_ tabOk rfl rfl l1_ List.not_mem_nil (by rfl)) rfl) rfl rfl ?_
   refine I_ rfl (cx_ (du_ es) (by rw [List.length_map]; omega)) (by simp [mids, It.mids]) Casts.refl (by kernel_rfl) rfl rfl rfl ?_
   refine ap_<|fun _=>hx_ fun hx9 =>r_ rfl (D_ (L := Dd.abs ⟨seq, es, false⟩) tabOk rfl rfl rfl rfl) hx9 rfl rfl<|ex_ rfl (T_ tabOk Tryz.underlying46 rfl rfl rfl rfl rfl rfl rfl) (by simp) rfl rfl ?_
   refine bd_ [b] rfl (L_ (zs := (x.ds ++ [(⟨seq, es, false⟩ : Dd)]).map Dd.abs) tabOk [_, _] (by rw [List.map_append]; rfl) Tryz.underlying46 rfl rfl rfl rfl rfl rfl (by intro c hc; rw [List.mem_singleton] at hc; subst hc; rfl) (by unfold maxLen; simp only [List.length_map, List.length_cons, List.length_nil]; omega) (by rw [show Tryz.prog.bytesOf 49 = 40 by kernel_rfl]; simp only [List.length_map, List.length_cons, List.length_nil]; omega)) (fun k hk => List.mem_append_left _ hk) (by simp) rfl rfl ?_
   rintro _ _ ⟨r70, rfl, rfl⟩
   refine hx_ fun hx9 =>qx_ 2 hx9 rfl<|ex_ rfl (ag_ tabOk rfl rfl rfl rfl i2_ u1_ rfl rfl) (by simp) rfl rfl ?_
   refine Q_<|ab_ (r70) (trivial) (by exact ⟨rfl, rfl, trivial⟩) (sk_ sr_)
  skip
  refine I_ rfl (cx_ (du_ es) (by rw [List.length_map]; omega)) (by simp [mids, It.mids]) Casts.refl (by kernel_rfl) rfl rfl rfl ?_
  refine ap_<|fun _=>hx_ fun hx9 =>r_ rfl (D_ (L := Dd.abs ⟨seq, es, false⟩) tabOk rfl rfl rfl rfl) hx9 rfl rfl<|aR_ ?_ ?_
  ·skip
   refine aU_ rfl (l_ (C := .v r) (i_ tabOk rfl rfl l1_ List.not_mem_nil (by rfl)) rfl) rfl rfl ?_
   refine ex_ rfl (T_ tabOk Tryz.underlying46 rfl rfl rfl rfl rfl rfl rfl) (by simp) rfl rfl ?_
   refine bd_ [b] rfl (L_ (zs := (x.ds ++ [(⟨seq, es, false⟩ : Dd)]).map Dd.abs) tabOk [_, _] (by rw [List.map_append]; rfl) Tryz.underlying46 rfl rfl rfl rfl rfl rfl (by intro c hc; rw [List.mem_singleton] at hc; subst hc; rfl) (by unfold maxLen; simp only [List.length_map, List.length_cons, List.length_nil]; omega) (by rw [show Tryz.prog.bytesOf 49 = 40 by kernel_rfl]; simp only [List.length_map, List.length_cons, List.length_nil]; omega)) (fun k hk => List.mem_append_left _ hk) (by simp) rfl rfl ?_
   rintro _ _ ⟨r70, rfl, rfl⟩
   refine hx_ fun hx9 =>qx_ 2 hx9 rfl<|ex_ rfl (ag_ tabOk rfl rfl rfl rfl i2_ u1_ rfl rfl) (by simp) rfl rfl ?_
   refine Q_<|ab_ (r70) (trivial) (by exact ⟨rfl, rfl, trivial⟩) (sk_ sr_)
  skip
  refine ex_ rfl (T_ tabOk Tryz.underlying46 rfl rfl rfl rfl rfl rfl rfl) (by simp) rfl rfl ?_
  refine aU_ rfl (l_ (C := .v r) (i_ tabOk rfl rfl l1_ List.not_mem_nil (by rfl)) rfl) rfl rfl ?_
  refine bd_ [b] rfl (L_ (zs := (x.ds ++ [(⟨seq, es, false⟩ : Dd)]).map Dd.abs) tabOk [_, _] (by rw [List.map_append]; rfl) Tryz.underlying46 rfl rfl rfl rfl rfl rfl (by intro c hc; rw [List.mem_singleton] at hc; subst hc; rfl) (by unfold maxLen; simp only [List.length_map, List.length_cons, List.length_nil]; omega) (by rw [show Tryz.prog.bytesOf 49 = 40 by kernel_rfl]; simp only [List.length_map, List.length_cons, List.length_nil]; omega)) (fun k hk => List.mem_append_left _ hk) (by simp) rfl rfl ?_
  rintro _ _ ⟨r70, rfl, rfl⟩
  refine hx_ fun hx9 =>qx_ 2 hx9 rfl<|ex_ rfl (ag_ tabOk rfl rfl rfl rfl i2_ u1_ rfl rfl) (by simp) rfl rfl ?_
  refine Q_<|ab_ (r70) (trivial) (by exact ⟨rfl, rfl, trivial⟩) (sk_ sr_)
 intro q10 hq10
 refine d_<|a_<|q_ 1 rfl<|g_<|c_<|d_<|d_<|a_<|q_ 1 rfl<|b_ (B_ rfl Tryz.underlying50 (List.length_map _)) rfl rfl<|q_ 1 rfl<|g_<|c_<|y_<|br_ 40 3<|ae_ (ι := Nat × List Oc × Value) (fun z => (own 40 3 z.2.2 (z.2.1.map Oc.abs) :: .blk b 71 (exA n (⟨(x.l.foldF es n).1, x.ds ++ [⟨seq, es, false⟩]⟩ : Ex) q10) :: own 49 3 q10 ((⟨(x.l.foldF es n).1, x.ds ++ [⟨seq, es, false⟩]⟩ : Ex).ds.map Dd.abs) :: [])) (fun z => [(2, entsR es), (11, .v z.2.2), (73, errsR (x.l.foldF es n).2), (74, int ((x.l.foldF es n).2.length : Nat)), (75, int (z.1 : Nat))]) (fun z => z.1 ≤ (x.l.foldF es n).2.length ∧ z.2.1.length ≤ z.1 ∧ z.2.1 ++ outF (es.drop z.1) ((x.l.foldF es n).2.drop z.1) = outF es (x.l.foldF es n).2) (fun z => (x.l.foldF es n).2.length - z.1) (0, [], .slice none 0 0) (⟨Nat.zero_le _, Nat.le_refl _, rfl⟩) (by exact ⟨rfl, rfl, rfl, rfl, rfl, trivial⟩) sr_ ?_
 intro z hz
 refine d_<|a_<|q_ 1 rfl<|g_<|c_<|d_<|o_ rfl ?_ ?_
 rotate_left
 ·intro hc76
  refine W_<|h_ nofun<|h_ nofun<|V_<|c_<|d_<|a_<|q_ 3 rfl<|g_<|c_<|m_ ?_
  obtain ⟨g1, g2, g3⟩ := do_ok (x := x) (n := n) (b := es) (seq := seq) (by omega) hc41
  have hfe := hz.2.2
  rw [is_ (show (x.l.foldF es n).2.length ≤ z.1 by omega), List.append_nil] at hfe
  rw [g1, g2, g3, ← hfe]
  exact bi_ [] (t := 6) rfl rfl<|cm_ [] (Re.bigIn (xs := [_, _]) rfl) rfl<|f_ (rs := [.tmp 6, .tmp 7]) rfl (RV.tmp rfl (RV.tmp rfl RV.nil)) (q10) sr_<|rfl
 intro hc76
 have hrz : z.1 < (x.l.foldF es n).2.length := by omega
 have hez : z.1 < es.length := by omega
 have hst := gF_ hez hrz
 refine p_<|c_<|d_<|y_<|d_<|a_<|q_ 1 rfl<|b_ (J_ (q := z.1) (cs := [int ((x.l.foldF es n).2[z.1]'hrz)]) tabOk Tryz.underlying50 rfl rfl rfl rfl (by rw [List.getElem?_map, List.getElem?_eq_getElem hrz]; rfl) rfl rfl) rfl rfl ?_
 refine b_ (l_ (C := int ((x.l.foldF es n).2[z.1]'hrz)) (aJ_ tabOk rfl rfl rfl) rfl) rfl rfl<|q_ 2 rfl<|g_<|c_<|d_<|a_<|q_ 2 rfl<|g_<|c_<|o_ rfl ?_ ?_
 rotate_left
 ·intro hc81
  refine p_<|u_<|c_<|a_<|b_ (C_ rfl rfl (by simp only [InR, lo, hi]; omega)) rfl rfl ?_
  refine q_ 1 rfl<|g_<|G_ (z.1 + 1, z.2) (by omega) (⟨by dsimp only; omega, by dsimp only; omega, by rw [if_neg hc81] at hst; have h9 := hz.2.2; rw [hst] at h9; exact h9⟩) (by exact ⟨rfl, rfl, rfl, rfl, rfl, trivial⟩) sr_
 intro hc81
 refine aa_ z.2.2.ownBlock.toList (.q 0 (.q 1 (.q 2 (.q 3 (.q 4 (.q 5 (.q 6 (.q 7 (.q 8 (.q 9 (.q 10 (.q 11 (.q 12 (.q 13 (.q 14 (.e 15 (.e 16 (.q 17 .nil)))))))))))))))))) (by kernel_rfl) (by kernel_rfl) ?_
 refine hx_ fun hx9 =>qx_ 3 hx9 rfl<|r_ rfl (J_ (q := z.1) (cs := entA (es[z.1]'hez)) tabOk Tryz.underlying26 rfl rfl rfl rfl (by rw [List.getElem?_map, List.getElem?_eq_getElem hez]; rfl) rfl rfl) hx9 rfl rfl ?_
 refine r_ rfl (ai_ tabOk rfl rfl rfl rfl rfl) hx9 rfl rfl<|r_ rfl (ai_ tabOk rfl rfl rfl rfl rfl) hx9 rfl rfl<|r_ rfl (l_ (C := int (es[z.1]'hez).core.client) (aJ_ tabOk rfl rfl rfl) rfl) hx9 rfl rfl<|qx_ 2 hx9 rfl<|r_ rfl (J_ (q := z.1) (cs := entA (es[z.1]'hez)) tabOk Tryz.underlying26 rfl rfl rfl rfl (by rw [List.getElem?_map, List.getElem?_eq_getElem hez]; rfl) rfl rfl) hx9 rfl rfl ?_
 refine r_ rfl (ai_ tabOk rfl rfl rfl rfl rfl) hx9 rfl rfl<|r_ rfl (ai_ tabOk rfl rfl rfl rfl rfl) hx9 rfl rfl<|r_ rfl (l_ (C := int (es[z.1]'hez).core.stamp) (aJ_ tabOk rfl rfl rfl) rfl) hx9 rfl rfl<|qx_ 1 hx9 rfl<|r_ rfl (D_ (L := Oc.abs (⟨(es[z.1]'hez).core.client, (es[z.1]'hez).core.stamp, ((x.l.foldF es n).2[z.1]'hrz)⟩ : Oc)) tabOk rfl rfl rfl rfl) hx9 rfl rfl<|ex_ rfl (T_ tabOk Tryz.underlying28 rfl rfl rfl rfl rfl rfl rfl) (by simp) rfl rfl ?_
 refine bd_ [] rfl (L_ (zs := (z.2.1 ++ [(⟨(es[z.1]'hez).core.client, (es[z.1]'hez).core.stamp, ((x.l.foldF es n).2[z.1]'hrz)⟩ : Oc)]).map Oc.abs) tabOk [] (by rw [List.map_append]; rfl) Tryz.underlying28 rfl rfl rfl rfl rfl rfl (by intro c hc; rw [List.mem_singleton] at hc; subst hc; rfl) (by unfold maxLen; simp only [List.length_map, List.length_cons, List.length_nil]; omega) (by rw [show Tryz.prog.bytesOf 40 = 24 by kernel_rfl]; simp only [List.length_map, List.length_cons, List.length_nil]; omega)) (fun k hk => hk) (by simp) rfl rfl ?_
 rintro _ _ ⟨r98, rfl, rfl⟩
 refine hx_ fun hx9 =>qx_ 1 hx9 rfl<|Q_<|u_<|c_<|a_<|b_ (C_ rfl rfl (by simp only [InR, lo, hi]; omega)) rfl rfl ?_
 refine q_ 1 rfl<|g_<|G_ (z.1 + 1, z.2.1 ++ [(⟨(es[z.1]'hez).core.client, (es[z.1]'hez).core.stamp, ((x.l.foldF es n).2[z.1]'hrz)⟩ : Oc)], r98) (by omega) (⟨by dsimp only; omega, by simp only [List.length_append, List.length_singleton]; omega, by rw [if_pos hc81] at hst; have h9 := hz.2.2; rw [hst] at h9; rw [← h9]; exact (List.append_assoc _ [_] _)⟩) (by exact ⟨rfl, rfl, rfl, rfl, rfl, trivial⟩) sr_
set_option maxHeartbeats 4000000 in
theorem iL_ {j : Nat} (hm : m.length ≤ 10000000) (hk : j ≤ 45) (hx : x.Ok j) : Spec Tryz.prog 11 [ptr b, byt m] [.pc (exP b n x r)] (fun r' : Value => [.pc (exP b n (x.adX m) r')]) (fun _ => int (x.adE m)) := by
 have hd0 := hx.few
 refine F_ Tryz.func11 rfl Tryz.ntmps11 rfl fun G w =>d_<|a_<|q_ 1 rfl<|g_<|c_<|d_<|d_<|hl_ [] (Re.bigOut rfl) rfl<|a_<|q_ 1 rfl<|b_ (bc_ rfl rfl (by kernel_rfl)) rfl rfl ?_
 refine g_<|c_<|ad_ rfl<|p_<|c_<|d_<|a_<|q_ 1 rfl<|s_ (lparse_s (m := m) hm) Casts.refl (by kernel_rfl) rfl rfl rfl ?_
 refine ap_<|fun _=>q_ 3 rfl<|eb_ (H_ tabOk rfl) rfl rfl fun b5=>?_
 refine e_ (n_ (L' := (parseL m).1.abs) tabOk rfl rfl rfl u0_ rfl (Nat.le_of_ble_eq_true rfl) rfl (by exact t_ rfl)) rfl rfl ?_
 refine q_ 1 rfl<|g_<|c_<|d_<|y_<|d_<|a_<|q_ 3 rfl<|g_<|c_<|o_ rfl ?_ ?_
 ·intro hc14
  refine d_<|a_<|q_ 2 rfl<|g_<|c_<|m_<|E_<|h_ nofun ?_
  obtain ⟨g1, g2⟩ := la_ (x := x) (m := m) (by assumption)
  rw [g1, g2]
  exact cm_ [_] (Re.bigIn (xs := [_, _]) rfl) rfl<|f_ (rs := [.tmp 4]) rfl (RV.tmp rfl RV.nil) (r) (sk_ sr_)<|rfl
 intro hc14
 refine d_<|aa_ [] (.q 0 (.q 1 (.q 2 (.q 3 (.q 4 (.q 5 (.q 6 (.q 7 (.q 8 .nil))))))))) (by kernel_rfl) (by kernel_rfl) ?_
 refine qs_ 1 rfl<|hx_ fun hx9 =>r_ rfl (l_ (C := int (parseL m).1.seq) (i_ tabOk rfl rfl l0_ List.not_mem_nil rfl) rfl) hx9 rfl rfl<|qs_ 4 rfl<|r_ rfl (l_ (C := int x.l.seq) (i_ tabOk rfl rfl l1_ List.not_mem_nil rfl) rfl) hx9 rfl rfl<|qs_ 2 rfl<|Q_<|c_<|o_ rfl ?_ ?_
 ·intro hc18
  refine d_<|a_<|q_ 1 rfl<|g_<|c_<|m_<|E_<|h_ nofun ?_
  obtain ⟨g1, g2⟩ := h0_ (x := x) (m := m) (by assumption) (by assumption)
  rw [g1, g2]
  exact cm_ [_] (Re.bigIn (xs := [_, _]) rfl) rfl<|f_ (rs := [.tmp 4]) rfl (RV.tmp rfl RV.nil) (r) (sk_ sr_)<|rfl
 intro hc18
 refine p_<|u_<|c_<|d_<|a_<|q_ 1 rfl<|b_ (l_ (C := .agg (parseL m).1.abs) (x_ tabOk rfl rfl rfl l0_ List.not_mem_nil (Nat.le_of_ble_eq_true rfl)) rfl) rfl rfl<|q_ 2 rfl<|e_ (n_ (L' := exA n (⟨(parseL m).1, x.ds⟩ : Ex) r) tabOk rfl rfl rfl u1_ rfl (Nat.le_of_ble_eq_true rfl) rfl rfl) rfl rfl<|g_<|c_<|d_<|lk_ fun hnod => ?_
 have hb5 : b5 ∉ r.ownBlock.toList ++ [b] := by
  have h9 : (b5 :: b :: (r.ownBlock.toList ++ [])).Nodup := hnod
  rw [List.nodup_cons] at h9
  intro hm
  refine h9.1 ?_
  rcases List.mem_append.1 hm with hm | hm
  ·exact List.mem_cons_of_mem _ (List.mem_append_left _ hm)
  rw [List.mem_singleton.1 hm]; exact List.mem_cons_self
 refine aa_ (r.ownBlock.toList ++ [b]) (.q 0 (.q 1 (.q 2 (.q 3 (.q 5 (.q 6 (.q 7 (.two 4 8 (.e 8 (.e 9 (.q 10 (.q 11 (.e 12 .nil))))) (.e 4 (.e 9 (.q 10 (.q 11 (.e 12 .nil))))))))))))) (by kernel_rfl) (by kernel_rfl) ?_
 refine hx_ fun hx9 =>qx_ 5 hx9 rfl<|r_ rfl (l_ (C := int (parseL m).1.seq) (i_ tabOk rfl rfl l0_ hb5 rfl) rfl) hx9 rfl rfl<|r_ rfl (D_ (L := [int (parseL m).1.seq, .v (.slice none 0 0), boo true]) tabOk rfl rfl rfl rfl) hx9 rfl rfl<|lf_ (t := 38) (.agg (Dd.abs ⟨(parseL m).1.seq, [], true⟩)) rfl (as_ (Casts.keep (Casts.nils (s := 8) Casts.refl)))<|aR_ ?_ ?_
 ·skip
  refine aU_ rfl (l_ (C := .v r) (i_ tabOk rfl rfl l1_ List.not_mem_nil (by rfl)) rfl) rfl rfl ?_
  refine ex_ rfl (T_ tabOk Tryz.underlying46 rfl rfl rfl rfl rfl rfl rfl) (by simp) rfl rfl ?_
  refine bd_ [b] rfl (L_ (zs := ((⟨(parseL m).1, x.ds ++ [⟨(parseL m).1.seq, [], true⟩]⟩ : Ex).ds).map Dd.abs) tabOk [_, _] (by rw [List.map_append]; rfl) Tryz.underlying46 rfl rfl rfl rfl rfl rfl (by intro c hc; rw [List.mem_singleton] at hc; subst hc; rfl) (by unfold maxLen; simp only [List.length_map, List.length_cons, List.length_nil]; omega) (by rw [show Tryz.prog.bytesOf 49 = 40 by kernel_rfl]; simp only [List.length_map, List.length_cons, List.length_nil]; omega)) (fun k hk => List.mem_append_left _ hk) (by simp) rfl rfl ?_
  rintro _ _ ⟨r40, rfl, rfl⟩
  refine hx_ fun hx9 =>qx_ 2 hx9 rfl<|ex_ rfl (ag_ tabOk rfl rfl rfl rfl i2_ u1_ rfl rfl) (by simp) rfl rfl ?_
  refine Q_<|c_<|d_<|a_<|q_ 1 rfl<|g_<|c_<|m_ ?_
  obtain ⟨g1, g2⟩ := jF_ (x := x) (m := m) (by assumption) (by assumption)
  rw [g1, g2]
  exact cm_ [_] (Re.bigIn (xs := [_, _]) rfl) rfl<|f_ (rs := [.tmp 4]) rfl (RV.tmp rfl RV.nil) (r40) (sk_ sr_)<|rfl
 skip
 refine ex_ rfl (T_ tabOk Tryz.underlying46 rfl rfl rfl rfl rfl rfl rfl) (by simp) rfl rfl ?_
 refine aU_ rfl (l_ (C := .v r) (i_ tabOk rfl rfl l1_ List.not_mem_nil (by rfl)) rfl) rfl rfl ?_
 refine bd_ [b] rfl (L_ (zs := ((⟨(parseL m).1, x.ds ++ [⟨(parseL m).1.seq, [], true⟩]⟩ : Ex).ds).map Dd.abs) tabOk [_, _] (by rw [List.map_append]; rfl) Tryz.underlying46 rfl rfl rfl rfl rfl rfl (by intro c hc; rw [List.mem_singleton] at hc; subst hc; rfl) (by unfold maxLen; simp only [List.length_map, List.length_cons, List.length_nil]; omega) (by rw [show Tryz.prog.bytesOf 49 = 40 by kernel_rfl]; simp only [List.length_map, List.length_cons, List.length_nil]; omega)) (fun k hk => List.mem_append_left _ hk) (by simp) rfl rfl ?_
 rintro _ _ ⟨r40, rfl, rfl⟩
 refine hx_ fun hx9 =>qx_ 2 hx9 rfl<|ex_ rfl (ag_ tabOk rfl rfl rfl rfl i2_ u1_ rfl rfl) (by simp) rfl rfl ?_
 refine Q_<|c_<|d_<|a_<|q_ 1 rfl<|g_<|c_<|m_ ?_
 obtain ⟨g1, g2⟩ := jF_ (x := x) (m := m) (by assumption) (by assumption)
 rw [g1, g2]
 exact cm_ [_] (Re.bigIn (xs := [_, _]) rfl) rfl<|f_ (rs := [.tmp 4]) rfl (RV.tmp rfl RV.nil) (r40) (sk_ sr_)<|rfl
theorem kN_  : Spec Tryz.prog 9 [.v (.pointer none), int seq, entsR es] [] (fun _ : Unit => []) (fun _ => .tup [outA [], int 1]) := by
 refine F_ Tryz.func9 rfl Tryz.ntmps9 rfl fun G w =>d_<|a_<|q_ 2 rfl<|g_<|c_<|d_<|y_<|d_<|a_<|q_ 1 rfl<|b_ (bc_ rfl rfl (by kernel_rfl)) rfl rfl ?_
 exact q_ 1 rfl<|g_<|c_<|M_ rfl<|d_<|a_<|q_ 2 rfl<|g_<|c_<|m_<|E_<|h_ nofun<|fC_ (rs := [.tmp 6, .tmp 7]) rfl (RV.tmp rfl (RV.tmp rfl RV.nil)) (Casts.nils (s := 3) Casts.refl) (()) sn_<|rfl
theorem kO_  : Spec Tryz.prog 11 [.v (.pointer none), byt m] [] (fun _ : Unit => []) (fun _ => int 1) := by
 refine F_ Tryz.func11 rfl Tryz.ntmps11 rfl fun G w =>d_<|a_<|q_ 1 rfl<|g_<|c_<|d_<|d_<|a_<|q_ 1 rfl<|b_ (bc_ rfl rfl (by kernel_rfl)) rfl rfl ?_
 exact g_<|c_<|M_ rfl<|d_<|a_<|q_ 1 rfl<|g_<|c_<|m_<|h_ nofun<|f_ (rs := [.tmp 4]) rfl (RV.tmp rfl RV.nil) (()) sn_<|rfl
end
section
variable {l : Lg} {k n : Int} {s : ByteArray} {c : Core} {e : Ent} {es : List Ent} {e1 e2 : Value}
theorem ew_  : Spec Tryz.prog 24 [.agg l.abs, int k] [] (fun _ : Unit => []) (fun _ => .tup [.agg (Oc.abs ((l.last k).getD Oc.zero)), boo (l.last k).isSome]) := by
 refine F_ Tryz.func24 rfl Tryz.ntmps24 rfl fun G w =>d_<|a_<|eb_ (R_ (cs := l.abs) rfl) rfl rfl fun b2=>?_
 refine eb_ (H_ tabOk rfl) rfl rfl fun b4=>?_
 refine q_ 1 rfl<|g_<|c_<|d_<|d_<|a_<|q_ 1 rfl<|b_ (l_ (C := .sl 3 (l.os.map Oc.abs)) (i_ tabOk rfl rfl l1_ List.not_mem_nil rfl) rfl) rfl rfl<|b_ (B_ rfl Tryz.underlying28 (List.length_map _)) rfl rfl<|q_ 1 rfl<|g_<|c_<|y_<|bk_ (i := 9) rfl fun hrow => ?_
 rw [List.length_map] at hrow
 unfold maxLen at hrow
 refine ae_ (ι := Nat) (fun z => [.blk b4 40 (Oc.abs Oc.zero)]) (fun z => [(1, int k), (4, ptr b4), (9, outA l.os), (10, int (l.os.length : Nat)), (11, int (z : Nat))]) (fun z => z ≤ l.os.length ∧ ∀ j (h : j < l.os.length), j < z → ¬ l.os[j].client = k) (fun z => l.os.length - z) (0) (⟨Nat.zero_le _, fun j h h2 => by omega⟩) (by exact ⟨rfl, rfl, rfl, rfl, rfl, trivial⟩) (sc_ sn_) ?_
 intro z hz
 refine d_<|a_<|q_ 1 rfl<|g_<|c_<|d_<|o_ rfl ?_ ?_
 rotate_left
 ·intro hc12
  refine W_<|h_ nofun<|h_ nofun<|V_<|c_<|d_<|a_<|b_ (D_ tabOk rfl rfl rfl rfl) rfl rfl<|e_ (n_ (L' := Oc.abs Oc.zero) tabOk rfl rfl rfl u0_ rfl (Nat.le_of_ble_eq_true rfl) rfl (by exact t_ rfl)) rfl rfl ?_
  refine q_ 1 rfl<|g_<|c_<|m_ ?_
  have hfn : l.last k = none := by
   unfold Lg.last
   rw [List.find?_eq_none]
   intro y hy
   obtain ⟨j, hj, rfl⟩ := List.getElem_of_mem hy
   simpa using hz.2 j hj (by omega)
  refine f_ (rs := [.cell 4 40, .tmp 5]) rfl (RV.cell rfl (RV.cellA tabOk rfl rfl l0_ (by rfl)) (RV.tmp rfl RV.nil)) (()) sn_ ?_
  rw [hfn]
  rfl
 intro hc12
 have hlt : z < l.os.length := by omega
 refine p_<|c_<|d_<|y_<|d_<|a_<|b_ (J_ tabOk Tryz.underlying28 rfl rfl rfl rfl (aN_ (by omega)) rfl rfl) rfl rfl ?_
 refine b_ (Y_ tabOk rfl rfl rfl rfl) rfl rfl<|eb_ (H_ tabOk rfl) rfl rfl fun b7=>?_
 refine e_ (n_ (L' := Oc.abs (l.os[z]'hlt)) tabOk rfl rfl rfl u0_ rfl (Nat.le_of_ble_eq_true rfl) rfl (by exact t_ rfl)) rfl rfl ?_
 refine g_<|c_<|d_<|a_<|q_ 1 rfl<|b_ (l_ (C := int (l.os[z]'hlt).client) (i_ tabOk rfl rfl l0_ List.not_mem_nil rfl) rfl) rfl rfl<|q_ 2 rfl<|g_<|c_<|o_ rfl ?_ ?_
 rotate_left
 ·intro hc18
  refine p_<|u_<|c_<|a_<|b_ (C_ rfl rfl (by simp only [InR, lo, hi]; omega)) rfl rfl ?_
  refine q_ 1 rfl<|g_<|G_ (z + 1) (by omega) (⟨by omega, fun j h h2 => by rcases Nat.lt_or_ge j z with h3 | h3; exact hz.2 j h h3; obtain rfl : j = z := (by omega); exact hc18⟩) (by exact ⟨rfl, rfl, rfl, rfl, rfl, trivial⟩) (sk_ sr_)
 intro hc18
 refine d_<|a_<|b_ (U_ tabOk rfl rfl rfl l0_ List.not_mem_nil rfl) rfl rfl<|e_ (n_ (L' := Oc.abs (l.os[z]'hlt)) tabOk rfl rfl rfl u1_ rfl (Nat.le_of_ble_eq_true rfl) rfl (by exact t_ rfl)) rfl rfl ?_
 refine q_ 1 rfl<|g_<|c_<|m_<|E_<|h_ nofun<|h_ nofun<|E_<|h_ nofun ?_
 have hfs : l.last k = some (l.os[z]'hlt) := by
  unfold Lg.last
  rw [List.find?_eq_some_iff_getElem]
  exact ⟨decide_eq_true hc18, z, hlt, rfl, fun j hj => by simpa using hz.2 j (by omega) hj⟩
 refine f_ (rs := [.cell 4 40, .tmp 5]) rfl (RV.cell rfl (RV.cellA tabOk rfl rfl l1_ (by rfl)) (RV.tmp rfl RV.nil)) (()) sn_ ?_
 rw [hfs]
 rfl
end
section
variable {l : Lg} {x : Oc}
set_option maxHeartbeats 4000000 in
theorem rtold_s (hf : l.Few) : Spec Tryz.prog 60 [.agg l.abs, .agg x.abs] [] (fun _ : Unit => []) (fun _ => .agg (l.told x).abs) := by
 have hf1 := hf.ls
 have hf2 := hf.os
 refine F_ Tryz.func60 rfl Tryz.ntmps60 rfl fun G w =>d_<|a_<|eb_ (R_ (cs := l.abs) rfl) rfl rfl fun b2=>?_
 refine eb_ (R_ (cs := x.abs) rfl) rfl rfl fun b3=>?_
 refine eb_ (H_ tabOk rfl) rfl rfl fun b4=>?_
 refine g_<|c_<|d_<|a_<|q_ 1 rfl<|g_<|c_<|d_<|a_<|b_ (l_ (C := .agg l.abs) (x_ tabOk rfl rfl rfl l2_ List.not_mem_nil (Nat.le_of_ble_eq_true rfl)) rfl) rfl rfl<|q_ 1 rfl<|b_ (l_ (C := int x.client) (i_ tabOk rfl rfl l1_ List.not_mem_nil rfl) rfl) rfl rfl<|s_ (ew_ (l := l) (k := x.client)) Casts.refl (by kernel_rfl) rfl rfl rfl ?_
 refine ap_ ?_
 intro _
 rw [show (l.last x.client).isSome = l.os.any (eqO x.client) from eS_]
 refine q_ 3 rfl<|eb_ (H_ tabOk rfl) rfl rfl fun b6=>?_
 refine e_ (n_ (L' := Oc.abs ((l.last x.client).getD Oc.zero)) tabOk rfl rfl rfl u0_ rfl (Nat.le_of_ble_eq_true rfl) rfl (by exact t_ rfl)) rfl rfl ?_
 refine q_ 1 rfl<|g_<|c_<|d_<|a_<|q_ 1 rfl<|g_<|c_<|d_<|d_<|a_<|q_ 1 rfl<|b_ (l_ (C := .sl 3 (l.os.map Oc.abs)) (i_ tabOk rfl rfl l3_ List.not_mem_nil rfl) rfl) rfl rfl<|b_ (B_ rfl Tryz.underlying28 (List.length_map _)) rfl rfl<|q_ 1 rfl<|g_<|c_<|y_<|bk_ (i := 19) rfl fun hrow => ?_
 rw [List.length_map] at hrow
 unfold maxLen at hrow
 refine br_ 40 3<|ae_ (ι := Nat × Value) (fun u => (own 40 3 u.2 (((gAt (eqO x.client) (gtO x.client) (l.os.any (eqO x.client)) x l.os (u.1)).1).map Oc.abs) :: [.blk b6 40 (Oc.abs ((l.last x.client).getD Oc.zero)), .blk b4 30 (zabs [.int .i64 0, .int .i64 0, .slice none 0 0, .slice none 0 0]), .blk b3 40 x.abs, .blk b2 30 l.abs])) (fun u => [(2, ptr b2), (3, ptr b3), (4, ptr b4), (7, boo (l.os.any (eqO x.client))), (5, .v u.2), (8, boo (gAt (eqO x.client) (gtO x.client) (l.os.any (eqO x.client)) x l.os (u.1)).2), (19, .sl 3 (l.os.map Oc.abs)), (20, int (l.os.length : Nat)), (21, int (u.1 : Nat))]) (fun u => u.1 ≤ l.os.length) (fun u => l.os.length - u.1) (0, .slice none 0 0) (Nat.zero_le _) (by exact ⟨rfl, rfl, rfl, rfl, rfl, rfl, rfl, rfl, rfl, trivial⟩) sr_ ?_
 intro u hu
 refine d_<|a_<|q_ 1 rfl<|g_<|c_<|d_<|o_ rfl ?_ ?_
 rotate_left
 ·intro hc22
  have hal := f5_ (eq := eqO x.client) (gt := gtO x.client) (th := (l.os.any (eqO x.client))) (x := x) (l := l.os) u.1
  refine W_<|h_ nofun<|h_ nofun<|V_<|c_<|a1_ (ι := Value) (fun z => (own 40 3 z ((withG (eqO x.client) (gtO x.client) x l.os).map Oc.abs) :: [.blk b6 40 (Oc.abs ((l.last x.client).getD Oc.zero)), .blk b4 30 (zabs [.int .i64 0, .int .i64 0, .slice none 0 0, .slice none 0 0]), .blk b3 40 x.abs, .blk b2 30 l.abs])) (fun z => [(2, ptr b2), (3, ptr b3), (4, ptr b4), (5, .v z)]) (fun z => True) ?_ ?_
  ·skip
   refine d_<|a_<|q_ 1 rfl<|b_ (aj_ rfl) rfl rfl<|g_<|c_<|X_ rfl ?_ ?_
   rotate_left
   ·intro hc59
    refine p_ ?_
    have hge : gFin x (gAt (eqO x.client) (gtO x.client) (l.os.any (eqO x.client)) x l.os (u.1)) = _ := f6_ (by omega)
    unfold gFin at hge
    rw [if_pos (by simpa using hc59)] at hge
    refine ab_ (u.2) (trivial) (by exact ⟨rfl, rfl, rfl, rfl, trivial⟩) (by rw [← hge]; repeat (first | exact List.nil_sublist _ | exact List.Sublist.refl _ | apply List.Sublist.cons_cons | apply List.Sublist.cons))
   intro hc59
   refine a_<|q_ 1 rfl<|b_ (U_ tabOk rfl rfl rfl l3_ List.not_mem_nil rfl) rfl rfl<|e_ (T_ tabOk Tryz.underlying28 rfl rfl rfl rfl rfl rfl rfl) rfl rfl<|eb_ (L_ (zs := ((gAt (eqO x.client) (gtO x.client) (l.os.any (eqO x.client)) x l.os (u.1)).1 ++ [x]).map Oc.abs) tabOk [] (by simp only [List.map_append]; rfl) Tryz.underlying28 rfl rfl rfl rfl rfl rfl (by intro c hc; rw [List.mem_singleton] at hc; subst hc; rfl) (by unfold maxLen; simp only [List.length_map, List.length_append, List.length_cons, List.length_nil]; omega) (by rw [show Tryz.prog.bytesOf 40 = 24 by kernel_rfl]; simp only [List.length_map, List.length_append, List.length_cons, List.length_nil]; omega)) rfl rfl fun r63=>?_
   refine q_ 1 rfl<|g_ ?_
   have hge : gFin x (gAt (eqO x.client) (gtO x.client) (l.os.any (eqO x.client)) x l.os (u.1)) = _ := f6_ (by omega)
   unfold gFin at hge
   rw [if_neg (by simpa using hc59)] at hge
   refine ab_ (r63) (trivial) (by exact ⟨rfl, rfl, rfl, rfl, trivial⟩) (by rw [← hge]; repeat (first | exact List.nil_sublist _ | exact List.Sublist.refl _ | apply List.Sublist.cons_cons | apply List.Sublist.cons))
  intro z hz
  refine ce_ [] (t := 5) rfl rfl<|d_<|a_<|q_ 2 rfl<|e_ (n_ (L' := (l.told x).abs) tabOk rfl rfl rfl u3_ rfl (Nat.le_of_ble_eq_true rfl) rfl rfl) rfl rfl<|g_<|c_<|d_<|a_<|b_ (l_ (C := .agg (l.told x).abs) (x_ tabOk rfl rfl rfl l3_ List.not_mem_nil (Nat.le_of_ble_eq_true rfl)) rfl) rfl rfl<|e_ (n_ (L' := (l.told x).abs) tabOk rfl rfl rfl u1_ rfl (Nat.le_of_ble_eq_true rfl) rfl (by exact t_ rfl)) rfl rfl ?_
  refine g_<|c_<|m_<|f_ (rs := [.cell 4 30]) rfl (RV.cell rfl (RV.cellA tabOk rfl rfl l1_ (by rfl)) RV.nil) (()) sn_ ?_
  exact rfl
 intro hc22
 have hlt : u.1 < l.os.length := by omega
 have hal := f5_ (eq := eqO x.client) (gt := gtO x.client) (th := (l.os.any (eqO x.client))) (x := x) (l := l.os) u.1
 refine p_<|c_<|d_<|y_<|d_<|a_<|b_ (J_ tabOk Tryz.underlying28 rfl rfl rfl rfl (aN_ (by omega)) rfl rfl) rfl rfl ?_
 refine b_ (Y_ tabOk rfl rfl rfl rfl) rfl rfl<|eb_ (H_ tabOk rfl) rfl rfl fun b10=>?_
 refine e_ (n_ (L' := Oc.abs (l.os[u.1]'hlt)) tabOk rfl rfl rfl u0_ rfl (Nat.le_of_ble_eq_true rfl) rfl (by exact t_ rfl)) rfl rfl ?_
 refine g_<|c_<|d_<|a1_ (ι := Unit) (fun z => (.blk b10 40 (Oc.abs (l.os[u.1]'hlt)) :: own 40 3 u.2 (((gAt (eqO x.client) (gtO x.client) (l.os.any (eqO x.client)) x l.os (u.1)).1).map Oc.abs) :: [.blk b6 40 (Oc.abs ((l.last x.client).getD Oc.zero)), .blk b4 30 (zabs [.int .i64 0, .int .i64 0, .slice none 0 0, .slice none 0 0]), .blk b3 40 x.abs, .blk b2 30 l.abs])) (fun z => [(2, ptr b2), (3, ptr b3), (4, ptr b4), (7, boo (l.os.any (eqO x.client))), (5, .v u.2), (8, boo (gAt (eqO x.client) (gtO x.client) (l.os.any (eqO x.client)) x l.os (u.1)).2), (19, .sl 3 (l.os.map Oc.abs)), (20, int (l.os.length : Nat)), (21, int (u.1 : Nat)), (47, boo (!(gAt (eqO x.client) (gtO x.client) (l.os.any (eqO x.client)) x l.os (u.1)).2 && pickP (l.os.any (eqO x.client)) (eqO x.client) (gtO x.client) (l.os[u.1]'hlt))), (10, ptr b10)]) (fun z => True) ?_ ?_
 ·skip
  refine a_<|q_ 1 rfl<|b_ (aj_ rfl) rfl rfl<|q_ 1 rfl<|aL_ (t := 27) rfl ?_ ?_
  rotate_left
  ·intro hc27
   refine q_ 20 rfl<|g_<|ab_ (()) (trivial) (by exact ⟨rfl, rfl, rfl, rfl, rfl, rfl, rfl, rfl, rfl, congrArg (fun b : Bool => some (boo b)) (show _ = (!(gAt (eqO x.client) (gtO x.client) (l.os.any (eqO x.client)) x l.os (u.1)).2 && pickP (l.os.any (eqO x.client)) (eqO x.client) (gtO x.client) (l.os[u.1]'hlt)) by (obtain ⟨P, hP⟩ : ∃ P, (gAt (eqO x.client) (gtO x.client) (l.os.any (eqO x.client)) x l.os (u.1)).2 = P := ⟨_, rfl⟩; rw [hP] at hc27; rw [hP]; clear hP hal; obtain ⟨T, hT⟩ : ∃ T, (l.os.any (eqO x.client)) = T := ⟨_, rfl⟩; (try rw [hT] at hc29); (try rw [hT] at hc39); rw [hT]; clear hT; cases P <;> cases T <;> simp_all [pickP])), rfl, trivial⟩) sr_
  intro hc27
  refine q_ 2 rfl<|aL_ (t := 29) rfl ?_ ?_
  rotate_left
  ·intro hc29
   refine q_ 8 rfl<|b_ (aj_ rfl) rfl rfl<|q_ 1 rfl<|aL_ (t := 39) rfl ?_ ?_
   ·intro hc39
    refine q_ 1 rfl<|b_ (l_ (C := int (l.os[u.1]'hlt).client) (i_ tabOk rfl rfl l0_ List.not_mem_nil rfl) rfl) rfl rfl<|q_ 1 rfl<|b_ (l_ (C := int x.client) (i_ tabOk rfl rfl l4_ List.not_mem_nil rfl) rfl) rfl rfl<|q_ 4 rfl<|g_<|ab_ (()) (trivial) (by exact ⟨rfl, rfl, rfl, rfl, rfl, rfl, rfl, rfl, rfl, congrArg (fun b : Bool => some (boo b)) (show _ = (!(gAt (eqO x.client) (gtO x.client) (l.os.any (eqO x.client)) x l.os (u.1)).2 && pickP (l.os.any (eqO x.client)) (eqO x.client) (gtO x.client) (l.os[u.1]'hlt)) by (obtain ⟨P, hP⟩ : ∃ P, (gAt (eqO x.client) (gtO x.client) (l.os.any (eqO x.client)) x l.os (u.1)).2 = P := ⟨_, rfl⟩; rw [hP] at hc27; rw [hP]; clear hP hal; obtain ⟨T, hT⟩ : ∃ T, (l.os.any (eqO x.client)) = T := ⟨_, rfl⟩; (try rw [hT] at hc29); (try rw [hT] at hc39); rw [hT]; clear hT; cases P <;> cases T <;> simp_all [pickP])), rfl, trivial⟩) sr_
   intro hc39
   refine q_ 8 rfl<|g_<|ab_ (()) (trivial) (by exact ⟨rfl, rfl, rfl, rfl, rfl, rfl, rfl, rfl, rfl, congrArg (fun b : Bool => some (boo b)) (show _ = (!(gAt (eqO x.client) (gtO x.client) (l.os.any (eqO x.client)) x l.os (u.1)).2 && pickP (l.os.any (eqO x.client)) (eqO x.client) (gtO x.client) (l.os[u.1]'hlt)) by (obtain ⟨P, hP⟩ : ∃ P, (gAt (eqO x.client) (gtO x.client) (l.os.any (eqO x.client)) x l.os (u.1)).2 = P := ⟨_, rfl⟩; rw [hP] at hc27; rw [hP]; clear hP hal; obtain ⟨T, hT⟩ : ∃ T, (l.os.any (eqO x.client)) = T := ⟨_, rfl⟩; (try rw [hT] at hc29); (try rw [hT] at hc39); rw [hT]; clear hT; cases P <;> cases T <;> simp_all [pickP])), rfl, trivial⟩) sr_
  intro hc29
  refine q_ 1 rfl<|b_ (l_ (C := int (l.os[u.1]'hlt).client) (i_ tabOk rfl rfl l0_ List.not_mem_nil rfl) rfl) rfl rfl<|q_ 1 rfl<|b_ (l_ (C := int x.client) (i_ tabOk rfl rfl l4_ List.not_mem_nil rfl) rfl) rfl rfl<|q_ 3 rfl<|z_ (t := 36) rfl ?_ ?_
  ·intro hc36
   refine q_ 11 rfl<|g_<|ab_ (()) (trivial) (by exact ⟨rfl, rfl, rfl, rfl, rfl, rfl, rfl, rfl, rfl, congrArg (fun b : Bool => some (boo b)) (show _ = (!(gAt (eqO x.client) (gtO x.client) (l.os.any (eqO x.client)) x l.os (u.1)).2 && pickP (l.os.any (eqO x.client)) (eqO x.client) (gtO x.client) (l.os[u.1]'hlt)) by (obtain ⟨P, hP⟩ : ∃ P, (gAt (eqO x.client) (gtO x.client) (l.os.any (eqO x.client)) x l.os (u.1)).2 = P := ⟨_, rfl⟩; rw [hP] at hc27; rw [hP]; clear hP hal; obtain ⟨T, hT⟩ : ∃ T, (l.os.any (eqO x.client)) = T := ⟨_, rfl⟩; (try rw [hT] at hc29); (try rw [hT] at hc39); rw [hT]; clear hT; cases P <;> cases T <;> simp_all [pickP])), rfl, trivial⟩) sr_
  intro hc36
  refine q_ 1 rfl<|b_ (aj_ rfl) rfl rfl<|q_ 1 rfl<|aL_ (t := 39) rfl ?_ ?_
  ·intro hc39
   refine q_ 1 rfl<|b_ (l_ (C := int (l.os[u.1]'hlt).client) (i_ tabOk rfl rfl l0_ List.not_mem_nil rfl) rfl) rfl rfl<|q_ 1 rfl<|b_ (l_ (C := int x.client) (i_ tabOk rfl rfl l4_ List.not_mem_nil rfl) rfl) rfl rfl<|q_ 4 rfl<|g_<|ab_ (()) (trivial) (by exact ⟨rfl, rfl, rfl, rfl, rfl, rfl, rfl, rfl, rfl, congrArg (fun b : Bool => some (boo b)) (show _ = (!(gAt (eqO x.client) (gtO x.client) (l.os.any (eqO x.client)) x l.os (u.1)).2 && pickP (l.os.any (eqO x.client)) (eqO x.client) (gtO x.client) (l.os[u.1]'hlt)) by (obtain ⟨P, hP⟩ : ∃ P, (gAt (eqO x.client) (gtO x.client) (l.os.any (eqO x.client)) x l.os (u.1)).2 = P := ⟨_, rfl⟩; rw [hP] at hc27; rw [hP]; clear hP hal; obtain ⟨T, hT⟩ : ∃ T, (l.os.any (eqO x.client)) = T := ⟨_, rfl⟩; (try rw [hT] at hc29); (try rw [hT] at hc39); rw [hT]; clear hT; cases P <;> cases T <;> simp_all [pickP])), rfl, trivial⟩) sr_
  intro hc39
  refine q_ 8 rfl<|g_<|ab_ (()) (trivial) (by exact ⟨rfl, rfl, rfl, rfl, rfl, rfl, rfl, rfl, rfl, congrArg (fun b : Bool => some (boo b)) (show _ = (!(gAt (eqO x.client) (gtO x.client) (l.os.any (eqO x.client)) x l.os (u.1)).2 && pickP (l.os.any (eqO x.client)) (eqO x.client) (gtO x.client) (l.os[u.1]'hlt)) by (obtain ⟨P, hP⟩ : ∃ P, (gAt (eqO x.client) (gtO x.client) (l.os.any (eqO x.client)) x l.os (u.1)).2 = P := ⟨_, rfl⟩; rw [hP] at hc27; rw [hP]; clear hP hal; obtain ⟨T, hT⟩ : ∃ T, (l.os.any (eqO x.client)) = T := ⟨_, rfl⟩; (try rw [hT] at hc29); (try rw [hT] at hc39); rw [hT]; clear hT; cases P <;> cases T <;> simp_all [pickP])), rfl, trivial⟩) sr_
 intro z hz
 refine X_ rfl ?_ ?_
 rotate_left
 ·intro hc47
  have hg : (gAt (eqO x.client) (gtO x.client) (l.os.any (eqO x.client)) x l.os (u.1 + 1)) = _ := ec_ hlt
  unfold gStep at hg
  rw [if_neg (by rw [hc47]; decide)] at hg
  refine p_<|c_<|a_<|q_ 1 rfl<|b_ (U_ tabOk rfl rfl rfl l0_ List.not_mem_nil rfl) rfl rfl<|e_ (T_ tabOk Tryz.underlying28 rfl rfl rfl rfl rfl rfl rfl) rfl rfl<|eb_ (L_ (zs := ((gAt (eqO x.client) (gtO x.client) (l.os.any (eqO x.client)) x l.os (u.1)).1 ++ [(l.os[u.1]'hlt)]).map Oc.abs) tabOk [_] (by simp only [List.map_append]; rfl) Tryz.underlying28 rfl rfl rfl rfl rfl rfl (by intro c hc; rw [List.mem_singleton] at hc; subst hc; rfl) (by unfold maxLen; simp only [List.length_map, List.length_append, List.length_cons, List.length_nil]; omega) (by rw [show Tryz.prog.bytesOf 40 = 24 by kernel_rfl]; simp only [List.length_map, List.length_append, List.length_cons, List.length_nil]; omega)) rfl rfl fun r56=>?_
  refine q_ 1 rfl<|g_<|u_<|c_<|a_<|b_ (C_ rfl rfl (by simp only [InR, lo, hi]; omega)) rfl rfl ?_
  refine q_ 1 rfl<|g_<|G_ (u.1 + 1, r56) (by omega) (by dsimp only; omega) (by exact ⟨rfl, rfl, rfl, rfl, rfl, congrArg (fun b : Bool => some (boo b)) (by rw [hg]), rfl, rfl, rfl, trivial⟩) (by rw [hg]; repeat (first | exact List.nil_sublist _ | exact List.Sublist.refl _ | apply List.Sublist.cons_cons | apply List.Sublist.cons))
 intro hc47
 have hg : (gAt (eqO x.client) (gtO x.client) (l.os.any (eqO x.client)) x l.os (u.1 + 1)) = _ := ec_ hlt
 unfold gStep at hg
 rw [if_pos hc47] at hg
 refine d_<|a_<|q_ 1 rfl<|b_ (U_ tabOk rfl rfl rfl l4_ List.not_mem_nil rfl) rfl rfl<|e_ (T_ tabOk Tryz.underlying28 rfl rfl rfl rfl rfl rfl rfl) rfl rfl<|eb_ (L_ (zs := ((gAt (eqO x.client) (gtO x.client) (l.os.any (eqO x.client)) x l.os (u.1)).1 ++ [x]).map Oc.abs) tabOk [_] (by simp only [List.map_append]; rfl) Tryz.underlying28 rfl rfl rfl rfl rfl rfl (by intro c hc; rw [List.mem_singleton] at hc; subst hc; rfl) (by unfold maxLen; simp only [List.length_map, List.length_append, List.length_cons, List.length_nil]; omega) (by rw [show Tryz.prog.bytesOf 40 = 24 by kernel_rfl]; simp only [List.length_map, List.length_append, List.length_cons, List.length_nil]; omega)) rfl rfl fun r51=>?_
 refine q_ 1 rfl<|g_<|c_<|d_<|a_<|q_ 1 rfl<|g_<|c_<|d_<|a_<|q_ 1 rfl<|g_<|c_<|X_ rfl ?_ ?_
 ·intro hc52
  refine W_<|h_ nofun<|V_<|c_<|a_<|b_ (C_ rfl rfl (by simp only [InR, lo, hi]; omega)) rfl rfl ?_
  refine q_ 1 rfl<|g_ ?_
  rw [if_pos hc52] at hg
  refine G_ (u.1 + 1, r51) (by omega) (by dsimp only; omega) (by exact ⟨rfl, rfl, rfl, rfl, rfl, congrArg (fun b : Bool => some (boo b)) (by rw [hg]), rfl, rfl, rfl, trivial⟩) (by rw [hg]; repeat (first | exact List.nil_sublist _ | exact List.Sublist.refl _ | apply List.Sublist.cons_cons | apply List.Sublist.cons))
 intro hc52
 refine p_<|c_<|a_<|q_ 1 rfl<|b_ (U_ tabOk rfl rfl rfl l0_ List.not_mem_nil rfl) rfl rfl<|e_ (T_ tabOk Tryz.underlying28 rfl rfl rfl rfl rfl rfl rfl) rfl rfl<|eb_ (L_ (zs := ((gAt (eqO x.client) (gtO x.client) (l.os.any (eqO x.client)) x l.os (u.1)).1 ++ [x] ++ [(l.os[u.1]'hlt)]).map Oc.abs) tabOk [_] (by simp only [List.map_append]; rfl) Tryz.underlying28 rfl rfl rfl rfl rfl rfl (by intro c hc; rw [List.mem_singleton] at hc; subst hc; rfl) (by unfold maxLen; simp only [List.length_map, List.length_append, List.length_cons, List.length_nil]; omega) (by rw [show Tryz.prog.bytesOf 40 = 24 by kernel_rfl]; simp only [List.length_map, List.length_append, List.length_cons, List.length_nil]; omega)) rfl rfl fun r56=>?_
 refine q_ 1 rfl<|g_<|u_<|c_<|a_<|b_ (C_ rfl rfl (by simp only [InR, lo, hi]; omega)) rfl rfl ?_
 refine q_ 1 rfl<|g_ ?_
 rw [if_neg (by rw [hc52]; decide)] at hg
 refine G_ (u.1 + 1, r56) (by omega) (by dsimp only; omega) (by exact ⟨rfl, rfl, rfl, rfl, rfl, congrArg (fun b : Bool => some (boo b)) (by rw [hg]), rfl, rfl, rfl, trivial⟩) (by rw [hg]; repeat (first | exact List.nil_sublist _ | exact List.Sublist.refl _ | apply List.Sublist.cons_cons | apply List.Sublist.cons))
end
section
variable {l : Lg} {x : Ltr}
set_option maxHeartbeats 4000000 in
theorem rwith_s (hf : l.Few) (hs : x.name.size ≤ lots) : Spec Tryz.prog 91 [.agg l.abs, .agg (ltrA x)] [] (fun _ : Unit => []) (fun _ => .tup [.agg (l.with_ x).1.abs, int (l.with_ x).2]) := by
 have hf1 := hf.ls
 have hf2 := hf.os
 have hwl := bU_ (eq := eqL x.name) (gt := gtL x.name) (x := x) l.ls
 refine F_ Tryz.func91 rfl Tryz.ntmps91 rfl fun G w =>d_<|a_<|eb_ (R_ (cs := l.abs) rfl) rfl rfl fun b2=>?_
 refine eb_ (R_ (cs := ltrA x) rfl) rfl rfl fun b3=>?_
 refine eb_ (H_ tabOk rfl) rfl rfl fun b4=>?_
 refine q_ 1 rfl<|g_<|c_<|d_<|d_<|a_<|q_ 1 rfl<|b_ (l_ (C := st x.name) (i_ tabOk rfl rfl l1_ List.not_mem_nil rfl) rfl) rfl rfl<|s_ (jY_ (s := x.name) hs) Casts.refl (by kernel_rfl) rfl rfl rfl ?_
 refine ap_<|fun _=>b_ (aj_ rfl) rfl rfl<|g_<|c_<|X_ rfl ?_ ?_
 ·intro hc15
  have hnb : nameB x.name = false := by simpa using hc15
  refine d_<|a_<|b_ (D_ tabOk rfl rfl rfl rfl) rfl rfl<|e_ (n_ (L' := (zabs [.int .i64 0, .int .i64 0, .slice none 0 0, .slice none 0 0])) tabOk rfl rfl rfl u0_ rfl (Nat.le_of_ble_eq_true rfl) rfl (by exact t_ rfl)) rfl rfl ?_
  refine q_ 1 rfl<|g_<|c_<|m_<|h_ nofun<|fC_ (rs := [.cell 4 30, .tmp 5]) rfl (RV.cell rfl (RV.cellA tabOk rfl rfl l0_ (by rfl)) (RV.tmp rfl RV.nil)) (Casts.cons (as_ (Casts.keep (Casts.keep (Casts.nils (s := 6) (Casts.nils (s := 3) Casts.refl))))) Casts.refl) (()) sn_ ?_
  unfold Lg.with_
  rw [if_pos hnb]
  rfl
 intro hc15
 have hnb : ¬ nameB x.name = false := by simpa using hc15
 refine p_<|c_<|d_<|a_<|q_ 1 rfl<|g_<|c_<|d_<|a_<|b_ (l_ (C := .agg l.abs) (x_ tabOk rfl rfl rfl l2_ List.not_mem_nil (Nat.le_of_ble_eq_true rfl)) rfl) rfl rfl<|q_ 1 rfl<|b_ (l_ (C := st x.name) (i_ tabOk rfl rfl l1_ List.not_mem_nil rfl) rfl) rfl rfl<|s_ (j1_ (l := l) (s := x.name)) Casts.refl (by kernel_rfl) rfl rfl rfl ?_
 refine ap_ ?_
 intro _
 rw [show (l.find x.name).isSome = l.ls.any (eqL x.name) from eS_]
 refine q_ 3 rfl<|eb_ (H_ tabOk rfl) rfl rfl fun b7=>?_
 refine e_ (n_ (L' := ltrA ((l.find x.name).getD Ltr.none)) tabOk rfl rfl rfl u0_ rfl (Nat.le_of_ble_eq_true rfl) rfl (by exact t_ rfl)) rfl rfl ?_
 refine q_ 1 rfl<|g_<|c_<|d_<|a_<|q_ 1 rfl<|g_<|c_<|d_<|d_<|a_<|q_ 1 rfl<|b_ (l_ (C := .sl 6 (l.ls.map ltrA)) (i_ tabOk rfl rfl l3_ List.not_mem_nil rfl) rfl) rfl rfl<|b_ (B_ rfl Tryz.underlying27 (List.length_map _)) rfl rfl<|q_ 1 rfl<|g_<|c_<|y_<|bk_ (i := 25) rfl fun hrow => ?_
 rw [List.length_map] at hrow
 unfold maxLen at hrow
 refine br_ 81 6<|ae_ (ι := Nat × Value) (fun u => (own 81 6 u.2 (((gAt (eqL x.name) (gtL x.name) (l.ls.any (eqL x.name)) x l.ls (u.1)).1).map ltrA) :: [.blk b7 81 (ltrA ((l.find x.name).getD Ltr.none)), .blk b4 30 (zabs [.int .i64 0, .int .i64 0, .slice none 0 0, .slice none 0 0]), .blk b3 81 (ltrA x), .blk b2 30 l.abs])) (fun u => [(2, ptr b2), (3, ptr b3), (4, ptr b4), (8, boo (l.ls.any (eqL x.name))), (6, .v u.2), (9, boo (gAt (eqL x.name) (gtL x.name) (l.ls.any (eqL x.name)) x l.ls (u.1)).2), (25, .sl 6 (l.ls.map ltrA)), (26, int (l.ls.length : Nat)), (27, int (u.1 : Nat))]) (fun u => u.1 ≤ l.ls.length) (fun u => l.ls.length - u.1) (0, .slice none 0 0) (Nat.zero_le _) (by exact ⟨rfl, rfl, rfl, rfl, rfl, rfl, rfl, rfl, rfl, trivial⟩) sr_ ?_
 intro u hu
 refine d_<|a_<|q_ 1 rfl<|g_<|c_<|d_<|o_ rfl ?_ ?_
 rotate_left
 ·intro hc28
  have hal := f5_ (eq := eqL x.name) (gt := gtL x.name) (th := (l.ls.any (eqL x.name))) (x := x) (l := l.ls) u.1
  refine W_<|h_ nofun<|h_ nofun<|V_<|c_<|a1_ (ι := Value) (fun z => (own 81 6 z ((withG (eqL x.name) (gtL x.name) x l.ls).map ltrA) :: [.blk b7 81 (ltrA ((l.find x.name).getD Ltr.none)), .blk b4 30 (zabs [.int .i64 0, .int .i64 0, .slice none 0 0, .slice none 0 0]), .blk b3 81 (ltrA x), .blk b2 30 l.abs])) (fun z => [(2, ptr b2), (3, ptr b3), (4, ptr b4), (6, .v z)]) (fun z => True) ?_ ?_
  ·skip
   refine d_<|a_<|q_ 1 rfl<|b_ (aj_ rfl) rfl rfl<|g_<|c_<|X_ rfl ?_ ?_
   rotate_left
   ·intro hc65
    refine p_ ?_
    have hge : gFin x (gAt (eqL x.name) (gtL x.name) (l.ls.any (eqL x.name)) x l.ls (u.1)) = _ := f6_ (by omega)
    unfold gFin at hge
    rw [if_pos (by simpa using hc65)] at hge
    refine ab_ (u.2) (trivial) (by exact ⟨rfl, rfl, rfl, rfl, trivial⟩) (by rw [← hge]; repeat (first | exact List.nil_sublist _ | exact List.Sublist.refl _ | apply List.Sublist.cons_cons | apply List.Sublist.cons))
   intro hc65
   refine a_<|q_ 1 rfl<|b_ (U_ tabOk rfl rfl rfl l3_ List.not_mem_nil rfl) rfl rfl<|e_ (T_ tabOk Tryz.underlying27 rfl rfl rfl rfl rfl rfl rfl) rfl rfl<|eb_ (L_ (zs := ((gAt (eqL x.name) (gtL x.name) (l.ls.any (eqL x.name)) x l.ls (u.1)).1 ++ [x]).map ltrA) tabOk [] (by simp only [List.map_append]; rfl) Tryz.underlying27 rfl rfl rfl rfl rfl rfl (by intro c hc; rw [List.mem_singleton] at hc; subst hc; rfl) (by unfold maxLen; simp only [List.length_map, List.length_append, List.length_cons, List.length_nil]; omega) (by rw [show Tryz.prog.bytesOf 81 = 72 by kernel_rfl]; simp only [List.length_map, List.length_append, List.length_cons, List.length_nil]; omega)) rfl rfl fun r69=>?_
   refine q_ 1 rfl<|g_ ?_
   have hge : gFin x (gAt (eqL x.name) (gtL x.name) (l.ls.any (eqL x.name)) x l.ls (u.1)) = _ := f6_ (by omega)
   unfold gFin at hge
   rw [if_neg (by simpa using hc65)] at hge
   refine ab_ (r69) (trivial) (by exact ⟨rfl, rfl, rfl, rfl, trivial⟩) (by rw [← hge]; repeat (first | exact List.nil_sublist _ | exact List.Sublist.refl _ | apply List.Sublist.cons_cons | apply List.Sublist.cons))
  intro z hz
  refine d_<|d_<|a_<|q_ 1 rfl<|b_ (cd_ (m := (withG (eqL x.name) (gtL x.name) x l.ls).length) rfl i0_ Tryz.underlying27 (List.length_map _)) rfl rfl<|q_ 1 rfl<|g_<|c_<|o_ rfl ?_ ?_
  ·intro hc72
   have hle2 : 16 < (l.putL x).ls.length := by show 16 < (withG (eqL x.name) (gtL x.name) x l.ls).length; omega
   refine d_<|a_<|b_ (D_ tabOk rfl rfl rfl rfl) rfl rfl<|e_ (n_ (L' := (zabs [.int .i64 0, .int .i64 0, .slice none 0 0, .slice none 0 0])) tabOk rfl rfl rfl u2_ rfl (Nat.le_of_ble_eq_true rfl) rfl (by exact t_ rfl)) rfl rfl ?_
   refine q_ 1 rfl<|g_<|c_<|m_<|h_ nofun<|fC_ (rs := [.cell 4 30, .tmp 5]) rfl (RV.cell rfl (RV.cellA tabOk rfl rfl l2_ (by rfl)) (RV.tmp rfl RV.nil)) (Casts.cons (as_ (Casts.keep (Casts.keep (Casts.nils (s := 6) (Casts.nils (s := 3) Casts.refl))))) Casts.refl) (()) sn_ ?_
   unfold Lg.with_
   rw [if_neg hnb, if_pos hle2]
   rfl
  intro hc72
  have hle2 : ¬ 16 < (l.putL x).ls.length := by show ¬ 16 < (withG (eqL x.name) (gtL x.name) x l.ls).length; omega
  refine ce_ [] (t := 6) rfl rfl<|p_<|c_<|d_<|a_<|q_ 2 rfl<|e_ (n_ (L' := (l.putL x).abs) tabOk rfl rfl rfl u3_ rfl (Nat.le_of_ble_eq_true rfl) rfl rfl) rfl rfl<|g_<|c_<|d_<|a_<|b_ (l_ (C := .agg (l.putL x).abs) (x_ tabOk rfl rfl rfl l3_ List.not_mem_nil (Nat.le_of_ble_eq_true rfl)) rfl) rfl rfl<|e_ (n_ (L' := (l.putL x).abs) tabOk rfl rfl rfl u1_ rfl (Nat.le_of_ble_eq_true rfl) rfl (by exact t_ rfl)) rfl rfl ?_
  refine q_ 1 rfl<|g_<|c_<|m_<|f_ (rs := [.cell 4 30, .tmp 5]) rfl (RV.cell rfl (RV.cellA tabOk rfl rfl l1_ (by rfl)) (RV.tmp rfl RV.nil)) (()) sn_ ?_
  unfold Lg.with_
  rw [if_neg hnb, if_neg hle2]
  rfl
 intro hc28
 have hlt : u.1 < l.ls.length := by omega
 have hal := f5_ (eq := eqL x.name) (gt := gtL x.name) (th := (l.ls.any (eqL x.name))) (x := x) (l := l.ls) u.1
 refine p_<|c_<|d_<|y_<|d_<|a_<|b_ (J_ tabOk Tryz.underlying27 rfl rfl rfl rfl (aN_ (by omega)) rfl rfl) rfl rfl ?_
 refine b_ (Y_ tabOk rfl rfl rfl rfl) rfl rfl<|eb_ (H_ tabOk rfl) rfl rfl fun b11=>?_
 refine e_ (n_ (L' := ltrA (l.ls[u.1]'hlt)) tabOk rfl rfl rfl u0_ rfl (Nat.le_of_ble_eq_true rfl) rfl (by exact t_ rfl)) rfl rfl ?_
 refine g_<|c_<|d_<|a1_ (ι := Unit) (fun z => (.blk b11 81 (ltrA (l.ls[u.1]'hlt)) :: own 81 6 u.2 (((gAt (eqL x.name) (gtL x.name) (l.ls.any (eqL x.name)) x l.ls (u.1)).1).map ltrA) :: [.blk b7 81 (ltrA ((l.find x.name).getD Ltr.none)), .blk b4 30 (zabs [.int .i64 0, .int .i64 0, .slice none 0 0, .slice none 0 0]), .blk b3 81 (ltrA x), .blk b2 30 l.abs])) (fun z => [(2, ptr b2), (3, ptr b3), (4, ptr b4), (8, boo (l.ls.any (eqL x.name))), (6, .v u.2), (9, boo (gAt (eqL x.name) (gtL x.name) (l.ls.any (eqL x.name)) x l.ls (u.1)).2), (25, .sl 6 (l.ls.map ltrA)), (26, int (l.ls.length : Nat)), (27, int (u.1 : Nat)), (53, boo (!(gAt (eqL x.name) (gtL x.name) (l.ls.any (eqL x.name)) x l.ls (u.1)).2 && pickP (l.ls.any (eqL x.name)) (eqL x.name) (gtL x.name) (l.ls[u.1]'hlt))), (11, ptr b11)]) (fun z => True) ?_ ?_
 ·skip
  refine a_<|q_ 1 rfl<|b_ (aj_ rfl) rfl rfl<|q_ 1 rfl<|aL_ (t := 33) rfl ?_ ?_
  rotate_left
  ·intro hc33
   refine q_ 20 rfl<|g_<|ab_ (()) (trivial) (by exact ⟨rfl, rfl, rfl, rfl, rfl, rfl, rfl, rfl, rfl, congrArg (fun b : Bool => some (boo b)) (show _ = (!(gAt (eqL x.name) (gtL x.name) (l.ls.any (eqL x.name)) x l.ls (u.1)).2 && pickP (l.ls.any (eqL x.name)) (eqL x.name) (gtL x.name) (l.ls[u.1]'hlt)) by (obtain ⟨P, hP⟩ : ∃ P, (gAt (eqL x.name) (gtL x.name) (l.ls.any (eqL x.name)) x l.ls (u.1)).2 = P := ⟨_, rfl⟩; rw [hP] at hc33; rw [hP]; clear hP hal; obtain ⟨T, hT⟩ : ∃ T, (l.ls.any (eqL x.name)) = T := ⟨_, rfl⟩; (try rw [hT] at hc35); (try rw [hT] at hc45); rw [hT]; clear hT; cases P <;> cases T <;> simp_all [pickP])), rfl, trivial⟩) sr_
  intro hc33
  refine q_ 2 rfl<|aL_ (t := 35) rfl ?_ ?_
  rotate_left
  ·intro hc35
   refine q_ 8 rfl<|b_ (aj_ rfl) rfl rfl<|q_ 1 rfl<|aL_ (t := 45) rfl ?_ ?_
   ·intro hc45
    refine q_ 1 rfl<|b_ (l_ (C := st (l.ls[u.1]'hlt).name) (i_ tabOk rfl rfl l0_ List.not_mem_nil rfl) rfl) rfl rfl<|q_ 1 rfl<|b_ (l_ (C := st x.name) (i_ tabOk rfl rfl l4_ List.not_mem_nil rfl) rfl) rfl rfl<|b_ (h2_ rfl rfl) rfl rfl<|q_ 3 rfl<|g_<|ab_ (()) (trivial) (by exact ⟨rfl, rfl, rfl, rfl, rfl, rfl, rfl, rfl, rfl, congrArg (fun b : Bool => some (boo b)) (show _ = (!(gAt (eqL x.name) (gtL x.name) (l.ls.any (eqL x.name)) x l.ls (u.1)).2 && pickP (l.ls.any (eqL x.name)) (eqL x.name) (gtL x.name) (l.ls[u.1]'hlt)) by (obtain ⟨P, hP⟩ : ∃ P, (gAt (eqL x.name) (gtL x.name) (l.ls.any (eqL x.name)) x l.ls (u.1)).2 = P := ⟨_, rfl⟩; rw [hP] at hc33; rw [hP]; clear hP hal; obtain ⟨T, hT⟩ : ∃ T, (l.ls.any (eqL x.name)) = T := ⟨_, rfl⟩; (try rw [hT] at hc35); (try rw [hT] at hc45); rw [hT]; clear hT; cases P <;> cases T <;> simp_all [pickP])), rfl, trivial⟩) sr_
   intro hc45
   refine q_ 8 rfl<|g_<|ab_ (()) (trivial) (by exact ⟨rfl, rfl, rfl, rfl, rfl, rfl, rfl, rfl, rfl, congrArg (fun b : Bool => some (boo b)) (show _ = (!(gAt (eqL x.name) (gtL x.name) (l.ls.any (eqL x.name)) x l.ls (u.1)).2 && pickP (l.ls.any (eqL x.name)) (eqL x.name) (gtL x.name) (l.ls[u.1]'hlt)) by (obtain ⟨P, hP⟩ : ∃ P, (gAt (eqL x.name) (gtL x.name) (l.ls.any (eqL x.name)) x l.ls (u.1)).2 = P := ⟨_, rfl⟩; rw [hP] at hc33; rw [hP]; clear hP hal; obtain ⟨T, hT⟩ : ∃ T, (l.ls.any (eqL x.name)) = T := ⟨_, rfl⟩; (try rw [hT] at hc35); (try rw [hT] at hc45); rw [hT]; clear hT; cases P <;> cases T <;> simp_all [pickP])), rfl, trivial⟩) sr_
  intro hc35
  refine q_ 1 rfl<|b_ (l_ (C := st (l.ls[u.1]'hlt).name) (i_ tabOk rfl rfl l0_ List.not_mem_nil rfl) rfl) rfl rfl<|q_ 1 rfl<|b_ (l_ (C := st x.name) (i_ tabOk rfl rfl l4_ List.not_mem_nil rfl) rfl) rfl rfl<|b_ (cC_ rfl rfl) rfl rfl<|q_ 2 rfl<|z_ (t := 42) rfl ?_ ?_
  ·intro hc42
   refine q_ 11 rfl<|g_<|ab_ (()) (trivial) (by exact ⟨rfl, rfl, rfl, rfl, rfl, rfl, rfl, rfl, rfl, congrArg (fun b : Bool => some (boo b)) (show _ = (!(gAt (eqL x.name) (gtL x.name) (l.ls.any (eqL x.name)) x l.ls (u.1)).2 && pickP (l.ls.any (eqL x.name)) (eqL x.name) (gtL x.name) (l.ls[u.1]'hlt)) by (obtain ⟨P, hP⟩ : ∃ P, (gAt (eqL x.name) (gtL x.name) (l.ls.any (eqL x.name)) x l.ls (u.1)).2 = P := ⟨_, rfl⟩; rw [hP] at hc33; rw [hP]; clear hP hal; obtain ⟨T, hT⟩ : ∃ T, (l.ls.any (eqL x.name)) = T := ⟨_, rfl⟩; (try rw [hT] at hc35); (try rw [hT] at hc45); rw [hT]; clear hT; cases P <;> cases T <;> simp_all [pickP])), rfl, trivial⟩) sr_
  intro hc42
  refine q_ 1 rfl<|b_ (aj_ rfl) rfl rfl<|q_ 1 rfl<|aL_ (t := 45) rfl ?_ ?_
  ·intro hc45
   refine q_ 1 rfl<|b_ (l_ (C := st (l.ls[u.1]'hlt).name) (i_ tabOk rfl rfl l0_ List.not_mem_nil rfl) rfl) rfl rfl<|q_ 1 rfl<|b_ (l_ (C := st x.name) (i_ tabOk rfl rfl l4_ List.not_mem_nil rfl) rfl) rfl rfl<|b_ (h2_ rfl rfl) rfl rfl<|q_ 3 rfl<|g_<|ab_ (()) (trivial) (by exact ⟨rfl, rfl, rfl, rfl, rfl, rfl, rfl, rfl, rfl, congrArg (fun b : Bool => some (boo b)) (show _ = (!(gAt (eqL x.name) (gtL x.name) (l.ls.any (eqL x.name)) x l.ls (u.1)).2 && pickP (l.ls.any (eqL x.name)) (eqL x.name) (gtL x.name) (l.ls[u.1]'hlt)) by (obtain ⟨P, hP⟩ : ∃ P, (gAt (eqL x.name) (gtL x.name) (l.ls.any (eqL x.name)) x l.ls (u.1)).2 = P := ⟨_, rfl⟩; rw [hP] at hc33; rw [hP]; clear hP hal; obtain ⟨T, hT⟩ : ∃ T, (l.ls.any (eqL x.name)) = T := ⟨_, rfl⟩; (try rw [hT] at hc35); (try rw [hT] at hc45); rw [hT]; clear hT; cases P <;> cases T <;> simp_all [pickP])), rfl, trivial⟩) sr_
  intro hc45
  refine q_ 8 rfl<|g_<|ab_ (()) (trivial) (by exact ⟨rfl, rfl, rfl, rfl, rfl, rfl, rfl, rfl, rfl, congrArg (fun b : Bool => some (boo b)) (show _ = (!(gAt (eqL x.name) (gtL x.name) (l.ls.any (eqL x.name)) x l.ls (u.1)).2 && pickP (l.ls.any (eqL x.name)) (eqL x.name) (gtL x.name) (l.ls[u.1]'hlt)) by (obtain ⟨P, hP⟩ : ∃ P, (gAt (eqL x.name) (gtL x.name) (l.ls.any (eqL x.name)) x l.ls (u.1)).2 = P := ⟨_, rfl⟩; rw [hP] at hc33; rw [hP]; clear hP hal; obtain ⟨T, hT⟩ : ∃ T, (l.ls.any (eqL x.name)) = T := ⟨_, rfl⟩; (try rw [hT] at hc35); (try rw [hT] at hc45); rw [hT]; clear hT; cases P <;> cases T <;> simp_all [pickP])), rfl, trivial⟩) sr_
 intro z hz
 refine X_ rfl ?_ ?_
 rotate_left
 ·intro hc53
  have hg : (gAt (eqL x.name) (gtL x.name) (l.ls.any (eqL x.name)) x l.ls (u.1 + 1)) = _ := ec_ hlt
  unfold gStep at hg
  rw [if_neg (by rw [hc53]; decide)] at hg
  refine p_<|c_<|a_<|q_ 1 rfl<|b_ (U_ tabOk rfl rfl rfl l0_ List.not_mem_nil rfl) rfl rfl<|e_ (T_ tabOk Tryz.underlying27 rfl rfl rfl rfl rfl rfl rfl) rfl rfl<|eb_ (L_ (zs := ((gAt (eqL x.name) (gtL x.name) (l.ls.any (eqL x.name)) x l.ls (u.1)).1 ++ [(l.ls[u.1]'hlt)]).map ltrA) tabOk [_] (by simp only [List.map_append]; rfl) Tryz.underlying27 rfl rfl rfl rfl rfl rfl (by intro c hc; rw [List.mem_singleton] at hc; subst hc; rfl) (by unfold maxLen; simp only [List.length_map, List.length_append, List.length_cons, List.length_nil]; omega) (by rw [show Tryz.prog.bytesOf 81 = 72 by kernel_rfl]; simp only [List.length_map, List.length_append, List.length_cons, List.length_nil]; omega)) rfl rfl fun r62=>?_
  refine q_ 1 rfl<|g_<|u_<|c_<|a_<|b_ (C_ rfl rfl (by simp only [InR, lo, hi]; omega)) rfl rfl ?_
  refine q_ 1 rfl<|g_<|G_ (u.1 + 1, r62) (by omega) (by dsimp only; omega) (by exact ⟨rfl, rfl, rfl, rfl, rfl, congrArg (fun b : Bool => some (boo b)) (by rw [hg]), rfl, rfl, rfl, trivial⟩) (by rw [hg]; repeat (first | exact List.nil_sublist _ | exact List.Sublist.refl _ | apply List.Sublist.cons_cons | apply List.Sublist.cons))
 intro hc53
 have hg : (gAt (eqL x.name) (gtL x.name) (l.ls.any (eqL x.name)) x l.ls (u.1 + 1)) = _ := ec_ hlt
 unfold gStep at hg
 rw [if_pos hc53] at hg
 refine d_<|a_<|q_ 1 rfl<|b_ (U_ tabOk rfl rfl rfl l4_ List.not_mem_nil rfl) rfl rfl<|e_ (T_ tabOk Tryz.underlying27 rfl rfl rfl rfl rfl rfl rfl) rfl rfl<|eb_ (L_ (zs := ((gAt (eqL x.name) (gtL x.name) (l.ls.any (eqL x.name)) x l.ls (u.1)).1 ++ [x]).map ltrA) tabOk [_] (by simp only [List.map_append]; rfl) Tryz.underlying27 rfl rfl rfl rfl rfl rfl (by intro c hc; rw [List.mem_singleton] at hc; subst hc; rfl) (by unfold maxLen; simp only [List.length_map, List.length_append, List.length_cons, List.length_nil]; omega) (by rw [show Tryz.prog.bytesOf 81 = 72 by kernel_rfl]; simp only [List.length_map, List.length_append, List.length_cons, List.length_nil]; omega)) rfl rfl fun r57=>?_
 refine q_ 1 rfl<|g_<|c_<|d_<|a_<|q_ 1 rfl<|g_<|c_<|d_<|a_<|q_ 1 rfl<|g_<|c_<|X_ rfl ?_ ?_
 ·intro hc58
  refine W_<|h_ nofun<|V_<|c_<|a_<|b_ (C_ rfl rfl (by simp only [InR, lo, hi]; omega)) rfl rfl ?_
  refine q_ 1 rfl<|g_ ?_
  rw [if_pos hc58] at hg
  refine G_ (u.1 + 1, r57) (by omega) (by dsimp only; omega) (by exact ⟨rfl, rfl, rfl, rfl, rfl, congrArg (fun b : Bool => some (boo b)) (by rw [hg]), rfl, rfl, rfl, trivial⟩) (by rw [hg]; repeat (first | exact List.nil_sublist _ | exact List.Sublist.refl _ | apply List.Sublist.cons_cons | apply List.Sublist.cons))
 intro hc58
 refine p_<|c_<|a_<|q_ 1 rfl<|b_ (U_ tabOk rfl rfl rfl l0_ List.not_mem_nil rfl) rfl rfl<|e_ (T_ tabOk Tryz.underlying27 rfl rfl rfl rfl rfl rfl rfl) rfl rfl<|eb_ (L_ (zs := ((gAt (eqL x.name) (gtL x.name) (l.ls.any (eqL x.name)) x l.ls (u.1)).1 ++ [x] ++ [(l.ls[u.1]'hlt)]).map ltrA) tabOk [_] (by simp only [List.map_append]; rfl) Tryz.underlying27 rfl rfl rfl rfl rfl rfl (by intro c hc; rw [List.mem_singleton] at hc; subst hc; rfl) (by unfold maxLen; simp only [List.length_map, List.length_append, List.length_cons, List.length_nil]; omega) (by rw [show Tryz.prog.bytesOf 81 = 72 by kernel_rfl]; simp only [List.length_map, List.length_append, List.length_cons, List.length_nil]; omega)) rfl rfl fun r62=>?_
 refine q_ 1 rfl<|g_<|u_<|c_<|a_<|b_ (C_ rfl rfl (by simp only [InR, lo, hi]; omega)) rfl rfl ?_
 refine q_ 1 rfl<|g_ ?_
 rw [if_neg (by rw [hc58]; decide)] at hg
 refine G_ (u.1 + 1, r62) (by omega) (by dsimp only; omega) (by exact ⟨rfl, rfl, rfl, rfl, rfl, congrArg (fun b : Bool => some (boo b)) (by rw [hg]), rfl, rfl, rfl, trivial⟩) (by rw [hg]; repeat (first | exact List.nil_sublist _ | exact List.Sublist.refl _ | apply List.Sublist.cons_cons | apply List.Sublist.cons))
end
def numF (t : Txt) : Int × Txt × Bool := match numT t with
  | none => (0, t, false)
  | some x => (((x.1 : Nat) : Int), x.2, true)
theorem dr_ {t : Txt} (h : numT t = none) : numF t = (0, t, false) := by unfold numF; rw [h]
theorem dq_ {t : Txt} {x : Nat × Txt} (h : numT t = some x) : numF t = (((x.1 : Nat) : Int), x.2, true) := by unfold numF; rw [h]
theorem numF_no {t : Txt} (h : (numF t).2.2 = false) : numT t = none := by
  cases hq : numT t with
  | none => rfl
  | some x => rw [dq_ hq] at h; cases h
theorem hD_ {t : Txt} (h : (numF t).2.2 = true) : ∃ v : Nat, numT t = some (v, (numF t).2.1) ∧ (numF t).1 = (v : Int) ∧ (numF t).2.1.length < t.length ∧ v ≤ 9999 := by
  cases hq : numT t with
  | none => rw [dr_ hq] at h; cases h
  | some x =>
    obtain ⟨v, r⟩ := x
    rw [dq_ hq]
    exact ⟨v, rfl, rfl, cK_ hq, numT_le hq⟩
theorem decV_few {l : Txt} {z : Nat} (h : ∀ j (hj : j < l.length), j < z → isDig l[j] = true) : decV (l.take (min z 5)) < 100000 := by
  have h1 := eX_ (l.take (min z 5)) fun c hc => by
    obtain ⟨j, hj, rfl⟩ := List.getElem_of_mem hc
    rw [List.length_take] at hj
    rw [List.getElem_take]
    exact h j (by omega) (by omega)
  have h2 : 10 ^ (l.take (min z 5)).length ≤ 10 ^ 5 := Nat.pow_le_pow_right (by omega) (by rw [List.length_take]; omega)
  omega
theorem kY_ {l : Txt} {z : Nat} (hq : z < l.length) (h5 : z < 5) : decV (l.take (min (z + 1) 5)) = decV (l.take (min z 5)) * 10 + (l[z].toNat - 48) := by
  rw [Nat.min_eq_left (by omega), Nat.min_eq_left (by omega), List.take_succ_eq_append_getElem hq, g3_]
theorem jy_ {l : Txt} (h : 0 < (digs l).length) (hq : 0 < l.length) : (digs l).head? = some (l[0]'hq) := by
  cases l with
  | nil => simp at hq
  | cons c t =>
    unfold digs at h ⊢
    rw [List.takeWhile_cons] at h ⊢
    split at h
    · next hd => rw [if_pos hd]; rfl
    · simp at h
def DocP (k : Nat) (l : Txt) (z : Frm × Txt × Bool) : Prop := (polT k l = none → z.2.2 = false) ∧ ∀ x, polT k l = some x → z = (x.1, x.2, true)
def DocR (k : Nat) (l : Txt) (z : List Frm × Txt × Bool) : Prop := (rowT (polT k) l = none → z.2.2 = false) ∧ ∀ x, rowT (polT k) l = some x → z = (x.1, x.2, true)
section
variable {k : Nat} {l : Txt} {y : Frm × Txt × Bool} {w : List Frm × Txt × Bool} {z : Txt × List Frm}
theorem DocP.no (h : DocP k l y) (ho : y.2.2 = false) : polT k l = none := by
  cases hq : polT k l with
  | none => rfl
  | some x => rw [h.2 x hq] at ho; cases ho
theorem DocP.get (h : DocP k l y) (ho : y.2.2 = true) : polT k l = some (y.1, y.2.1) := by
  cases hq : polT k l with
  | none => rw [h.1 hq] at ho; cases ho
  | some x => rw [h.2 x hq]
theorem DocR.get (h : DocR k l w) (ho : w.2.2 = true) : rowT (polT k) l = some (w.1, w.2.1) := by
  cases hq : rowT (polT k) l with
  | none => rw [h.1 hq] at ho; cases ho
  | some x => rw [h.2 x hq]
theorem DocR.of_none (h : rowT (polT k) l = none) (t : Txt) : DocR k l ([], t, false) := ⟨fun _ => rfl, fun x hx => (by rw [h] at hx; cases hx)⟩
theorem DocR.of_some {a : List Frm} {b : Txt} (h : rowT (polT k) l = some (a, b)) : DocR k l (a, b, true) := ⟨fun hx => (by rw [h] at hx; cases hx), fun x hx => (by rw [h] at hx; cases hx; rfl)⟩
theorem DocP.of_none (h : polT k l = none) (hy : y.2.2 = false) : DocP k l y := ⟨fun _ => hy, fun x hx => (by rw [h] at hx; cases hx)⟩
theorem DocP.of_some {a : Frm} {b : Txt} (h : polT k l = some (a, b)) : DocP k l (a, b, true) := ⟨fun hx => (by rw [h] at hx; cases hx), fun x hx => (by rw [h] at hx; cases hx; rfl)⟩
structure DocI (k : Nat) (l : Txt) (z : Txt × List Frm) : Prop where
  pos : 1 ≤ z.1.length
  len : z.1.length ≤ l.length
  few : z.2.length + z.1.length ≤ l.length + 1
  go : ∃ F, z.1.length ≤ F ∧ rowT (polT k) l = rowL (polT k) F (z.1.drop 1) z.2
theorem DocI.start (h : begins (bare l) [40] = true) : DocI k l (bare l, []) := by
  have h1 := a5_ h
  have h2 := aS_ l
  refine ⟨h1, h2, (by simp only [List.length_nil]; omega), l.length + 1, (by simp only; omega), ?_⟩
  unfold rowT
  rw [if_pos h]
theorem DocI.more (h : DocI k l z) : ∃ m, z.1.length ≤ m + 1 ∧ rowT (polT k) l = match polT k (z.1.drop 1) with
    | none => none
    | some (f, r) => if begins (bare r) [41] = true then some (z.2 ++ [f], (bare r).drop 1) else if begins (bare r) [44] = true then rowL (polT k) m ((bare r).drop 1) (z.2 ++ [f]) else none := by
  obtain ⟨F, hF, hR⟩ := h.go
  have hp := h.pos
  obtain ⟨m, rfl⟩ : ∃ m, F = m + 1 := ⟨F - 1, (by omega)⟩
  refine ⟨m, hF, hR.trans ?_⟩
  conv => lhs; unfold rowL
  cases polT k (z.1.drop 1) with
  | none => rfl
  | some x => obtain ⟨f, r⟩ := x; rfl
theorem DocI.no (h : DocI k l z) (hy : DocP k (z.1.drop 1) y) (ho : y.2.2 = false) : rowT (polT k) l = none := by
  obtain ⟨m, _, hR⟩ := h.more
  rw [hR, hy.no ho]
theorem DocI.done (h : DocI k l z) (hy : DocP k (z.1.drop 1) y) (ho : y.2.2 = true) (hb : begins (bare y.2.1) [41] = true) : rowT (polT k) l = some (z.2 ++ [y.1], (bare y.2.1).drop 1) := by
  obtain ⟨m, _, hR⟩ := h.more
  rw [hR, hy.get ho]
  exact if_pos hb
theorem DocI.bad (h : DocI k l z) (hy : DocP k (z.1.drop 1) y) (ho : y.2.2 = true) (hb : ¬ begins (bare y.2.1) [41] = true) (hc : ¬ begins (bare y.2.1) [44] = true) : rowT (polT k) l = none := by
  obtain ⟨m, _, hR⟩ := h.more
  rw [hR, hy.get ho]
  exact (if_neg hb).trans (if_neg hc)
theorem DocI.step (h : DocI k l z) (hy : DocP k (z.1.drop 1) y) (ho : y.2.2 = true) (hb : ¬ begins (bare y.2.1) [41] = true) (hc : begins (bare y.2.1) [44] = true) : DocI k l (bare y.2.1, z.2 ++ [y.1]) ∧ (bare y.2.1).length < z.1.length := by
  obtain ⟨m, hm, hR⟩ := h.more
  have hg := hy.get ho
  have hs := b5_ k _ _ _ hg
  rw [List.length_drop] at hs
  have hbl := aS_ y.2.1
  have hp := h.pos
  have hl := h.len
  have hf := h.few
  have hcl := a5_ hc
  simp only [List.length_singleton] at hcl
  rw [hg] at hR
  refine ⟨⟨hcl, (by simp only; omega), (by simp only [List.length_append, List.length_singleton]; omega), m, (by simp only; omega), ?_⟩, (by omega)⟩
  rw [hR]
  exact (if_neg hb).trans (if_pos hc)
/-! ### Policies -/
theorem DocP.deep (hy : y.2.2 = false) : DocP 0 l y := DocP.of_none rfl hy
theorem DocP.all (hb : begins (bare l) [97, 108, 108] = true) (hw : DocR k ((bare l).drop 3) w) : DocP (k + 1) l (.mk 0 w.1.length w.1, w.2.1, w.2.2) := by
  have e : polT (k + 1) l = (rowT (polT k) ((bare l).drop 3)).map fun x => (.mk 0 x.1.length x.1, x.2) := by
    conv => lhs; unfold polT
    rw [if_pos hb]
  cases hq : rowT (polT k) ((bare l).drop 3) with
  | none => rw [hq] at e; exact DocP.of_none e (hw.1 hq)
  | some x => rw [hq] at e; rw [hw.2 x hq]; exact DocP.of_some e
theorem DocP.any (ha : ¬ begins (bare l) [97, 108, 108] = true) (hb : begins (bare l) [97, 110, 121] = true) (hw : DocR k ((bare l).drop 3) w) : DocP (k + 1) l (.mk 0 1 w.1, w.2.1, w.2.2) := by
  have e : polT (k + 1) l = (rowT (polT k) ((bare l).drop 3)).map fun x => (.mk 0 1 x.1, x.2) := by
    conv => lhs; unfold polT
    rw [if_neg ha, if_pos hb]
  cases hq : rowT (polT k) ((bare l).drop 3) with
  | none => rw [hq] at e; exact DocP.of_none e (hw.1 hq)
  | some x => rw [hq] at e; rw [hw.2 x hq]; exact DocP.of_some e
theorem DocP.bad (ha : ¬ begins (bare l) [97, 108, 108] = true) (hb : ¬ begins (bare l) [97, 110, 121] = true) (hn : (numF (bare l)).2.2 = false) (hy : y.2.2 = false) : DocP (k + 1) l y :=
  DocP.of_none (by rw [eD_ ha hb, numF_no hn]) hy
theorem DocP.org (ha : ¬ begins (bare l) [97, 108, 108] = true) (hb : ¬ begins (bare l) [97, 110, 121] = true) (hn : (numF (bare l)).2.2 = true) (hof : ¬ begins (bare (numF (bare l)).2.1) [111, 102] = true) : DocP (k + 1) l (.mk (numF (bare l)).1 0 [], (numF (bare l)).2.1, true) := by
  obtain ⟨v, h1, h2, _⟩ := hD_ hn
  refine DocP.of_some ?_
  rw [eD_ ha hb, h1, h2]
  exact if_neg hof
theorem DocP.of (ha : ¬ begins (bare l) [97, 108, 108] = true) (hb : ¬ begins (bare l) [97, 110, 121] = true) (hn : (numF (bare l)).2.2 = true) (hof : begins (bare (numF (bare l)).2.1) [111, 102] = true) (hw : DocR k ((bare (numF (bare l)).2.1).drop 2) w) {o : Bool}
    (ho : o = true ↔ w.2.2 = true ∧ 1 ≤ (numF (bare l)).1 ∧ (numF (bare l)).1 ≤ 99) : DocP (k + 1) l (.mk 0 (numF (bare l)).1 w.1, w.2.1, o) := by
  obtain ⟨v, h1, h2, _⟩ := hD_ hn
  rw [h2] at ho ⊢
  have e := eD_ (k := k) ha hb
  rw [h1] at e
  dsimp only at e
  rw [if_pos hof] at e
  by_cases hv : 1 ≤ v ∧ v ≤ 99
  · rw [if_pos hv] at e
    cases hq : rowT (polT k) ((bare (numF (bare l)).2.1).drop 2) with
    | none =>
      rw [hq] at e
      refine DocP.of_none e ?_
      have := hw.1 hq
      cases o with
      | false => rfl
      | true => rw [(ho.1 rfl).1] at this; cases this
    | some x =>
      rw [hq] at e
      have hx := hw.2 x hq
      have ho2 : o = true := ho.2 ⟨(by rw [hx]), (by omega), (by omega)⟩
      rw [ho2, hx]
      exact DocP.of_some e
  · rw [if_neg hv] at e
    refine DocP.of_none e ?_
    cases o with
    | false => rfl
    | true => have := ho.1 rfl; exact absurd ⟨(by omega), (by omega)⟩ hv
theorem kW_ {n : Int} (h : ¬ 200 < l.length) (hy : DocP 10 l y) (ho : y.2.2 = false ∨ ¬ bare y.2.1 = []) : parseF l n = (.mk 0 0 [], 2) := by
  unfold parseF
  rw [if_neg h]
  cases hq : polT 10 l with
  | none => rfl
  | some x =>
    obtain ⟨f, r⟩ := x
    rw [hy.2 _ hq] at ho
    rcases ho with ho | ho
    · cases ho
    · exact if_pos ho
theorem doc_end {n : Int} (h : ¬ 200 < l.length) (hy : DocP 10 l y) (ho : y.2.2 = true) (hb : bare y.2.1 = []) : y.1.nodes ≤ l.length ∧ parseF l n = if y.1.check n ≠ 0 then (.mk 0 0 [], y.1.check n) else (y.1, 0) := by
  have hg := hy.get ho
  have hn := b6_ 10 _ _ _ hg
  refine ⟨(by omega), ?_⟩
  unfold parseF
  rw [if_neg h, hg]
  exact if_neg (by rw [hb]; simp)
end
end Go.Proofs.YtickdhjljpnlpaaGreatDoor.A
