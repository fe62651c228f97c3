/-
  Batches: their digest through an interface; the law's own check of the program.
-/
import Derived.Test.YtdbeinbgekdnmaaBatch6
import Derived.Test.YtdbeinbgekdnmaaBookPc
set_option maxRecDepth 100000
namespace Go.Proofs.Ytdbeinbgekdnmaa
open Go.RowKit

section
variable {S : List (World × List Nat)} {σ τ : Blks} {ρ : List Dt} {w : World} {p bd bt : Nat} {Dm : DMap} {Tm : TMap} {P : Program} {n : Nat} {l : Slots} {D : World → Prop} {o : Oper} {v u : Value}
theorem Val.to (h : Val P n l D o v) (e : v = u) : Val P n l D o u := e ▸ h
theorem Mem.blkData {b k c : Nat} {e : TypeId} {L : List Value} (h : Mem S (.blk b (row e L) :: σ) ρ w) (hk : k ≤ c) (hc : c ≤ maxLen) : Mem S σ (rowD (.slice (some ⟨b, 0, none⟩) k c) k L :: ρ) w := by
  have h1 := h.blkRow (k := k) (c := c) List.mem_cons_self hk hc
  refine (h.sub (fun _ h => h) (List.sublist_cons_self _ _)).add ⟨h1.shape, fun hn => ?_⟩
  obtain ⟨b', off, n', c', hv, _, hcell⟩ := h1.cells hn
  refine ⟨b', off, n', c', hv, ?_, hcell⟩
  have h2 := h.nodup
  simp only [List.flatMap_cons, List.nodup_append] at h2
  intro hm
  simp only [Value.slice.injEq, Option.some.injEq, Addr.mk.injEq] at hv
  obtain ⟨⟨rfl, _⟩, _⟩ := hv
  exact h2.2.2 b (by simp [It.ids]) b hm rfl
/-- The same, of rows wherever they lie. -/
theorem same_at {K L : List Nat} {es fs : List Ent} (hw : Mem S σ ρ w) (he : IsRow K w v es.length (es.flatMap Ent.cells)) (hf : IsRow L w u fs.length (fs.flatMap Ent.cells)) (hl : es.length ≤ 1000000) (h1 : ∀ e ∈ es, e.Lits) (h2 : ∀ e ∈ fs, e.Lits) : Calls Try.prog 112 #[v, u] w fun e w' => e = .returned (.bool (decide (es = fs))) ∧ Mem S σ ρ w' :=
  (same_c (((Mem.start w).add (z := entsD v es) (he.grow (fun k hk => absurd hk (by simp)))).add (z := entsD u fs) (hf.grow (fun k hk => absurd hk (by simp)))) (by simp) (by simp) hl h1 h2).mono fun _ _ ⟨h3, h4⟩ => ⟨h3, hw.same (h4.ext _ List.mem_cons_self)⟩
theorem rsame_at {K L : List Nat} {es fs : List Ent} (hw : Mem S σ ρ w) (he : IsRow K w v es.length (es.flatMap Ent.cells)) (hf : IsRow L w u fs.length (fs.flatMap Ent.cells)) (hl : es.length ≤ 1000000) (h1 : ∀ e ∈ es, e.Lits) (h2 : ∀ e ∈ fs, e.Lits) : Calls Try.prog 73 #[v, u] w fun e w' => e = .returned (.bool (decide (es = fs))) ∧ Mem S σ ρ w' :=
  (rsame_c (((Mem.start w).add (z := entsD v es) (he.grow (fun k hk => absurd hk (by simp)))).add (z := entsD u fs) (hf.grow (fun k hk => absurd hk (by simp)))) (by simp) (by simp) hl h1 h2).mono fun _ _ ⟨h3, h4⟩ => ⟨h3, hw.same (h4.ext _ List.mem_cons_self)⟩
theorem Mem.ownRow {e : TypeId} {size k : Nat} {cs : List Value} (hw : Mem S σ ρ w) (ho : It.pc (ownPc e size v k cs) ∈ σ) : IsRow [] w v k cs := ownsRow.isRow (hw.hold _ ho) (by simp)
theorem putAt32 (L : List UInt8) (hL : L.length = 32) : putAt (List.replicate 32 (.int .u8 0)) 0 (L.map bc) = L.map bc := by
  simp [putAt, hL]
set_option maxHeartbeats 1000000 in
theorem bdigest_c {es : List Ent} (hw : Mem S σ ρ w) (u : Upd (.pc (bookPc p bd bt Dm Tm)) (.pc (bookPc p bd bt (pm Dm (k8 101, batchB es)) Tm)) σ τ) (he : entsD v es ∈ ρ) (hl : es.length ≤ 1000000) (hf : ∀ e ∈ es, e.Few) (hb : (batchB es).length ≤ 1000) (hm : Dm.length < 1000000) (hpl : pl Dm (k8 101, batchB es) < 9223372036854775808) :
    Calls Try.prog 113 #[.iface 43 (.pointer (some ⟨p, 0, none⟩)), v] w fun e w' => e = .returned (arrB (numB (k8 101) (pl Dm (k8 101, batchB es)))) ∧ Mem S τ ρ w' := by
  refine calls_of [.iface 43 (.pointer (some ⟨p, 0, none⟩)), v] Try.func113 rfl Try.ntmps113 rfl (Mem S σ ρ) hw ?_
  refine SC.seq ?_
  refine SC.region ?_
  refine SL.eff (Eff.alloc tabOk rfl) rfl rfl ?_
  rintro _ _ ⟨b4, rfl, rfl⟩
  refine SL.nil ?_
  refine SE.seq ?_
  refine SC.seq ?_
  refine SC.draw (Mem S [] []) (.q 0 (.q 1 (.q 3 (.q 4 (.q 5 (.e 2 (.e 6 (.e 7 .nil)))))))) (by kernel_rfl) (by kernel_rfl) (fun _ h => (h.sub (fun _ h => h) (List.nil_sublist _)).less (by repeat (first | exact (fun _ h => (List.not_mem_nil h).elim) | refine List.forall_mem_cons.2 ⟨(by repeat (first | assumption | exact List.mem_cons_self | exact hmem _ | apply List.mem_cons_of_mem)), ?_⟩))) (fun _ h => h.drew) ?_
  refine SX.val rfl (Val.move rfl) rfl rfl ?_
  refine SX.val rfl (Val.move rfl) rfl rfl ?_
  refine SX.val rfl (Val.makeFunc rfl rfl) rfl rfl ?_
  refine SX.val rfl (Val.nilMethod rfl (fun w => by kernel_rfl)) rfl rfl ?_
  refine SX.val rfl (Val.move rfl) rfl rfl ?_
  refine SX.call rfl (by kernel_rfl) rfl rfl rfl ?_
  intro w hw
  refine (batchBytes_c (es := es) hw (by repeat (first | assumption | exact List.mem_cons_self | exact hmem _ | apply List.mem_cons_of_mem)) hl hf).mono ?_; rintro _ _ ⟨r, rfl, hm⟩; refine ⟨_, _, rfl, hm, _, fun _ h => h, fun _ h => (h.sub (fun _ h => h) (List.nil_sublist _)).less (by repeat (first | exact (fun _ h => (List.not_mem_nil h).elim) | refine List.forall_mem_cons.2 ⟨(by repeat (first | assumption | exact List.mem_cons_self | exact hmem _ | apply List.mem_cons_of_mem)), ?_⟩)), ?_⟩; clear hm hw w
  refine SX.invoke (f := 39) rfl rfl rfl (fun w => by kernel_rfl) rfl rfl ?_
  intro w hw
  refine (digest_c hw (by repeat (first | assumption | exact Upd.here | exact hrep _ _ | apply Upd.there)) (hw.bytes (v := r) (l := batchB es) (by repeat (first | assumption | exact List.mem_cons_self | exact hmem _ | apply List.mem_cons_of_mem))) hb hm hpl).mono ?_; rintro _ _ ⟨rfl, hm'⟩; refine ⟨_, _, rfl, hm', _, fun _ h => h, fun _ h => (h.sub (fun _ h => h) (List.nil_sublist _)).less (by repeat (first | exact (fun _ h => (List.not_mem_nil h).elim) | refine List.forall_mem_cons.2 ⟨(by repeat (first | assumption | exact List.mem_cons_self | exact hmem _ | apply List.mem_cons_of_mem)), ?_⟩)), ?_⟩; clear hm' hw w
  refine SX.eff rfl (Eff.storeA (L' := (numB (k8 101) (pl Dm (k8 101, batchB es))).map bc) (vs := (numB (k8 101) (pl Dm (k8 101, batchB es))).map bc) tabOk rfl rfl rfl (by repeat (first | assumption | exact Upd.here | exact hrep _ _ | apply Upd.there)) (by rw [List.length_map, numB_length]) (by decide) bc_one (putAt32 _ (numB_length _ _))) rfl rfl ?_
  rintro _ _ ⟨rfl, rfl⟩
  refine ⟨_, fun _ h => h, fun _ h => (h.sub (fun _ h => h) (List.nil_sublist _)).less (by repeat (first | exact (fun _ h => (List.not_mem_nil h).elim) | refine List.forall_mem_cons.2 ⟨(by repeat (first | assumption | exact List.mem_cons_self | exact hmem _ | apply List.mem_cons_of_mem)), ?_⟩)), ?_⟩
  refine SX.nil ?_
  refine SE.seq ?_
  refine SC.ret ?_
  refine SE.retn (rs := [.cell 4 46]) rfl (RV.cell rfl (fun w hw => RV.loadA tabOk rfl rfl hw (by repeat (first | assumption | exact List.mem_cons_self | exact hmem _ | apply List.mem_cons_of_mem)) (by rfl)) RV.nil) ?_
  intro w' hw'
  exact ⟨rfl, (hw'.sub (fun _ h => h) (List.sublist_cons_self _ _)).less (fun x hx => by simp [hx])⟩

/-! ### 'fixed' -/
def e1 : Ent := ⟨⟨4, 1, 2, ⟨#[97]⟩, 0, 0, ⟨#[]⟩⟩, 3⟩
theorem e1_lits : e1.Lits := ⟨⟨by decide, by decide⟩, ⟨by decide, by decide⟩, ⟨by decide, by decide⟩, ⟨by decide, by decide⟩, ⟨by decide, by decide⟩, by decide, by decide, by decide⟩
theorem e1_parse : parseS (batchB [e1]) 4 = ([e1], 0) := by kernel_rfl
theorem e1_two : decide (chkB [e1, e1] 4 = 15) = true := by kernel_rfl
theorem e1_ne : decide (numB (k8 101) (pl [] (k8 101, batchB [e1])) ≠ numB (k8 101) (pl (pm [] (k8 101, batchB [e1])) (k8 101, batchB []))) = true := by kernel_rfl
set_option maxHeartbeats 1000000 in
theorem fixed15_c (hw : Mem S σ ρ w) : Calls Try.prog 66 #[] w fun e w' => e = .returned (.bool true) ∧ Mem S σ ρ w' := by
  refine calls_of [] Try.func66 rfl Try.ntmps66 rfl (Mem S σ ρ) hw ?_
  refine SC.seq ?_
  refine SC.region ?_
  refine SL.val (Val.assign rfl) rfl rfl ?_
  refine SL.nil ?_
  refine SE.seq ?_
  refine SC.seq ?_
  refine SC.region ?_
  refine SL.val (Val.buildS tabOk rfl rfl rfl rfl) rfl rfl ?_
  refine SL.val (Val.buildS tabOk rfl rfl rfl rfl) rfl rfl ?_
  refine SL.eff (Eff.buildSlice (L := e1.cells) tabOk Try.underlying89 rfl rfl (fun L0 h => by match L0, h with | [_, _, _, _, _, _, _, _], _ => rfl) rfl) rfl rfl ?_
  rintro _ _ ⟨b7, rfl, rfl⟩
  refine SL.to (C' := Mem S σ (entsD (.slice (some ⟨b7, 0, none⟩) 1 1) [e1] :: ρ)) (fun _ h => h.blkData (by decide) (by decide)) ?_
  refine SL.val (Val.assign rfl) rfl rfl ?_
  refine SL.nil ?_
  refine SE.seq ?_
  refine SC.seq ?_
  refine SC.region ?_
  refine SL.val (Val.move rfl) rfl rfl ?_
  refine SL.call (by kernel_rfl) rfl rfl rfl ?_
  intro w hw
  refine (batchBytes_c (es := [e1]) hw (by repeat (first | assumption | exact List.mem_cons_self | exact hmem _ | apply List.mem_cons_of_mem)) (by decide) (by intro e he; rw [List.mem_singleton.1 he]; exact ⟨by decide, by decide, by decide⟩)).mono ?_; rintro _ _ ⟨r, rfl, hm⟩; refine ⟨_, _, rfl, hm, ?_⟩; clear hm hw w
  refine SL.call (by kernel_rfl) rfl rfl rfl ?_
  intro w hw
  refine (parse_own (l := batchB [e1]) hw (by repeat (first | assumption | exact List.mem_cons_self | exact hmem _ | apply List.mem_cons_of_mem)) (by decide)).mono ?_; rw [e1_parse]; rintro _ _ ⟨r2, rfl, hm⟩; obtain ⟨A2, c2, rfl, _, _, _⟩ := (hm.ownRow List.mem_cons_self).shape; refine ⟨_, _, rfl, hm, ?_⟩; clear hm hw w
  refine SL.val (Val.move rfl) rfl rfl ?_
  refine SL.val (Val.extract rfl rfl) rfl rfl ?_
  refine SL.val (Val.extract rfl rfl) rfl rfl ?_
  refine SL.val (Val.assign rfl) rfl rfl ?_
  refine SL.val (Val.assign rfl) rfl rfl ?_
  refine SL.nil ?_
  refine SE.seq ?_
  refine SC.seq ?_
  refine SC.region ?_
  refine SL.call (by kernel_rfl) rfl rfl rfl ?_
  intro w hw
  refine (new_c hw).mono ?_; rintro _ _ ⟨p, bd, bt, rfl, hm⟩; refine ⟨_, _, rfl, hm, ?_⟩; clear hm hw w
  refine SL.val (Val.assign rfl) rfl rfl ?_
  refine SL.nil ?_
  refine SE.seq ?_
  refine SC.seq ?_
  refine SC.region ?_
  refine SL.call (by kernel_rfl) rfl rfl rfl ?_
  intro w hw
  refine (batchBytes_c (es := []) (hw.add (z := entsD (.slice none 0 0) []) (IsRow.nil rfl)) List.mem_cons_self (by decide) (by simp)).mono ?_; rintro _ _ ⟨r15, rfl, hm⟩; refine ⟨_, _, rfl, hm, ?_⟩; clear hm hw w
  refine SL.val (Val.strOf rfl (by repeat (first | assumption | exact List.mem_cons_self | exact hmem _ | apply List.mem_cons_of_mem))) rfl rfl ?_
  refine SL.val (Val.to (u := .bool true) (Val.eqS rfl rfl) (by kernel_rfl)) rfl rfl ?_
  refine SL.val (Val.move rfl) rfl rfl ?_
  refine SL.val (Val.move rfl) rfl rfl ?_
  refine SL.val (Val.to (u := .bool true) (Val.eqI rfl rfl) (by rfl)) rfl rfl ?_
  refine SL.val (Val.pickT rfl rfl) rfl rfl ?_
  refine SL.val (Val.move rfl) rfl rfl ?_
  refine SL.val (Val.move rfl) rfl rfl ?_
  refine SL.val (Val.move rfl) rfl rfl ?_
  refine SL.call (by kernel_rfl) rfl rfl rfl ?_
  intro w hw
  refine (same_at (es := [e1]) (fs := [e1]) hw (hw.data (z := entsD (.slice (some ⟨b7, 0, none⟩) 1 1) [e1]) (by repeat (first | assumption | exact List.mem_cons_self | exact hmem _ | apply List.mem_cons_of_mem))) (hw.ownRow (size := 8) (by repeat (first | assumption | exact List.mem_cons_self | exact hmem _ | apply List.mem_cons_of_mem))) (by decide) (by intro e he; rw [List.mem_singleton.1 he]; exact e1_lits) (by intro e he; rw [List.mem_singleton.1 he]; exact e1_lits)).mono ?_; rintro _ _ ⟨he, hm⟩; rw [decide_eq_true rfl] at he; subst he; refine ⟨_, _, rfl, hm, ?_⟩; clear hm hw w
  refine SL.val (Val.pickT rfl rfl) rfl rfl ?_
  refine SL.val (Val.move rfl) rfl rfl ?_
  refine SL.val (Val.move rfl) rfl rfl ?_
  refine SL.val (Val.move rfl) rfl rfl ?_
  refine SL.eff (Eff.append (pre := [_]) (k := 1) (m := 1) (news := e1.cells) tabOk Try.underlying89 rfl rfl rfl rfl rfl (fun _ hw => ⟨_, hw.ownRow (size := 8) (by repeat (first | assumption | exact List.mem_cons_self | exact hmem _ | apply List.mem_cons_of_mem))⟩) rfl (Ent.one _) (by unfold maxLen; omega) (by rw [show Try.prog.bytesOf 139 = 80 by kernel_rfl]; omega)) rfl rfl ?_
  rintro r30 _ rfl
  refine SL.call (by kernel_rfl) rfl rfl rfl ?_
  intro w hw
  refine (batchCheckOwn_c (es := [e1, e1]) hw (by repeat (first | assumption | exact List.mem_cons_self | exact hmem _ | apply List.mem_cons_of_mem)) (by decide)).mono ?_; rintro _ _ ⟨rfl, hm⟩; refine ⟨_, _, rfl, hm, ?_⟩; clear hm hw w
  refine SL.val (Val.to (u := .bool true) (Val.eqI rfl rfl) (congrArg Value.bool e1_two)) rfl rfl ?_
  refine SL.val (Val.pickT rfl rfl) rfl rfl ?_
  refine SL.val (Val.move rfl) rfl rfl ?_
  refine SL.val (Val.move rfl) rfl rfl ?_
  refine SL.val (Val.makeIface rfl (fun w => by kernel_rfl)) rfl rfl ?_
  refine SL.val (Val.move rfl) rfl rfl ?_
  refine SL.call (by kernel_rfl) rfl rfl rfl ?_
  intro w hw
  refine (bdigest_c (es := [e1]) (v := .slice (some ⟨b7, 0, none⟩) 1 1) hw (by repeat (first | assumption | exact Upd.here | exact hrep _ _ | apply Upd.there)) (by repeat (first | assumption | exact List.mem_cons_self | exact hmem _ | apply List.mem_cons_of_mem)) (by decide) (by intro e he; rw [List.mem_singleton.1 he]; exact ⟨by decide, by decide, by decide⟩) (by decide) (by decide) (Nat.le_of_ble_eq_true (by kernel_rfl))).mono ?_; rintro _ _ ⟨rfl, hm⟩; refine ⟨_, _, rfl, hm, ?_⟩; clear hm hw w
  refine SL.val (Val.move rfl) rfl rfl ?_
  refine SL.val (Val.makeIface rfl (fun w => by kernel_rfl)) rfl rfl ?_
  refine SL.call (by kernel_rfl) rfl rfl rfl ?_
  intro w hw
  refine (bdigest_c (es := []) hw (by repeat (first | assumption | exact Upd.here | exact hrep _ _ | apply Upd.there)) (by repeat (first | assumption | exact List.mem_cons_self | exact hmem _ | apply List.mem_cons_of_mem)) (by decide) (by simp) (by decide) (by decide) (Nat.le_of_ble_eq_true (by kernel_rfl))).mono ?_; rintro _ _ ⟨rfl, hm⟩; refine ⟨_, _, rfl, hm, ?_⟩; clear hm hw w
  refine SL.val (Val.neA (v := .bool true) rfl rfl (by kernel_rfl) (neqB Try.underlying46 (by kernel_rfl) (by kernel_rfl) _ _ (numB_length _ _) (numB_length _ _) true e1_ne)) rfl rfl ?_
  refine SL.val (Val.pickT rfl rfl) rfl rfl ?_
  refine SL.val (Val.assign rfl) rfl rfl ?_
  refine SL.nil ?_
  refine SE.seq ?_
  refine SC.ret ?_
  refine SE.ret1 rfl rfl ?_
  intro w' hw'
  exact ⟨rfl, (hw'.sub (fun _ h => h) (List.sublist_append_right [_, _] _)).less (fun x hx => by simp [hx])⟩

end
end Go.Proofs.Ytdbeinbgekdnmaa
