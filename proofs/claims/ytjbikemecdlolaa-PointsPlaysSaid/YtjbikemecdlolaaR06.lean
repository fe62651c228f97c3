/-
  Packed out of the texts: Lay, Iter, PT4, PT5, Bst, FQ, PT6, A34.
-/
import Derived.Test.YtjbikemecdlolaaR05
import Derived.Shelf.SlIterI.Nil
import Derived.Shelf.SlIterI.Sorted
import Derived.Shelf.SortM.Plain
import Derived.Shelf.SortM.SortNone
import Derived.Test.YtjbikemecdlolaaProg
/-
  The shelf's contracts of slices.Sorted and maps.Keys, laid at this program.
-/
set_option maxRecDepth 100000
namespace Go.Proofs.Ytjbikemecdlolaa
open Go.Shelf Go.RowKit
def sorted_int64R : Ren := ⟨fun | 6 => 40 | 8 => 51 | 9 => 52 | 11 => 56 | 13 => 58 | 12 => 57 | 23 => 69 | 24 => 70 | 14 => 60 | 15 => 61 | 16 => 62 | 17 => 63 | 18 => 64 | 19 => 65 | 20 => 66 | 21 => 67 | 22 => 68 | 25 => 71 | 26 => 72 | 27 => 73 | 28 => 74 | 29 => 75 | 30 => 46 | 31 => 76 | n => n, fun | 26 => 2 | 28 => 76 | 24 => 38 | 0 => 0 | 3 => 3 | 37 => 80 | 48 => 101 | 50 => 103 | 4 => 4 | 40 => 94 | 39 => 93 | 45 => 58 | 5 => 5 | 9 => 9 | 51 => 104 | 55 => 108 | 57 => 110 | 58 => 111 | 33 => 81 | n => n, fun n => n⟩
theorem sorted_int64L : SlLaysZI.n6 Try.prog sorted_int64R := {
  mixed := by kernel_rfl,
  f6 := ⟨Try.f40.name, by decide, Try.func40.trans (congrArg some (by kernel_rfl))⟩,
  f8 := ⟨Try.f51.name, by decide, Try.func51.trans (congrArg some (by kernel_rfl))⟩,
  f11 := ⟨Try.f56.name, by decide, Try.func56.trans (congrArg some (by kernel_rfl))⟩,
  t0 := Try.underlying0,
  a0 := Try.isAgg0,
  z0 := Try.sizeOf0,
  v0 := Try.zeroValue0,
  t24 := Try.underlying38,
  a24 := Try.isAgg38,
  z24 := Try.sizeOf38,
  v24 := Try.zeroValue38,
  t26 := Try.underlying2,
  a26 := Try.isAgg2,
  z26 := Try.sizeOf2,
  v26 := Try.zeroValue2,
  t28 := Try.underlying76,
  a28 := Try.isAgg76,
  z28 := Try.sizeOf76,
  v28 := Try.zeroValue76,
  i26 := by kernel_rfl }
def sort_int64R : Ren := ⟨fun | 5 => 52 | 8 => 58 | 7 => 57 | 19 => 69 | 20 => 70 | 10 => 60 | 11 => 61 | 12 => 62 | 13 => 63 | 14 => 64 | 15 => 65 | 16 => 66 | 17 => 67 | 18 => 68 | 30 => 71 | 31 => 72 | 32 => 73 | 33 => 74 | 34 => 75 | 35 => 46 | 40 => 76 | n => n, fun | 23 => 38 | 25 => 2 | 3 => 3 | 32 => 80 | 22 => 38 | 0 => 0 | 44 => 101 | 46 => 103 | 4 => 4 | 36 => 94 | 35 => 93 | 41 => 58 | 5 => 5 | 9 => 9 | 53 => 104 | 57 => 108 | 63 => 110 | 64 => 111 | n => n, fun n => n⟩
theorem sort_int64L : SlLaysM.n5 Try.prog sort_int64R := {
  mixed := by kernel_rfl,
  f5 := ⟨Try.f52.name, by decide, Try.func52.trans (congrArg some (by kernel_rfl))⟩,
  f7 := ⟨Try.f57.name, by decide, Try.func57.trans (congrArg some (by kernel_rfl))⟩,
  f8 := Try.func58.trans (congrArg some (by kernel_rfl)),
  f10 := ⟨Try.f60.name, by decide, Try.func60.trans (congrArg some (by kernel_rfl))⟩,
  f11 := ⟨Try.f61.name, by decide, Try.func61.trans (congrArg some (by kernel_rfl))⟩,
  f12 := ⟨Try.f62.name, by decide, Try.func62.trans (congrArg some (by kernel_rfl))⟩,
  f13 := ⟨Try.f63.name, by decide, Try.func63.trans (congrArg some (by kernel_rfl))⟩,
  f14 := ⟨Try.f64.name, by decide, Try.func64.trans (congrArg some (by kernel_rfl))⟩,
  f15 := ⟨Try.f65.name, by decide, Try.func65.trans (congrArg some (by kernel_rfl))⟩,
  f16 := ⟨Try.f66.name, by decide, Try.func66.trans (congrArg some (by kernel_rfl))⟩,
  f17 := ⟨Try.f67.name, by decide, Try.func67.trans (congrArg some (by kernel_rfl))⟩,
  f18 := ⟨Try.f68.name, by decide, Try.func68.trans (congrArg some (by kernel_rfl))⟩,
  f19 := Try.func69.trans (congrArg some (by kernel_rfl)),
  f20 := Try.func70.trans (congrArg some (by kernel_rfl)),
  f30 := ⟨Try.f71.name, by decide, Try.func71.trans (congrArg some (by kernel_rfl))⟩,
  f31 := Try.func72.trans (congrArg some (by kernel_rfl)),
  f32 := Try.func73.trans (congrArg some (by kernel_rfl)),
  f33 := ⟨Try.f74.name, by decide, Try.func74.trans (congrArg some (by kernel_rfl))⟩,
  f34 := ⟨Try.f75.name, by decide, Try.func75.trans (congrArg some (by kernel_rfl))⟩,
  f35 := ⟨Try.f46.name, by decide, Try.func46.trans (congrArg some (by kernel_rfl))⟩,
  f40 := ⟨Try.f76.name, by decide, Try.func76.trans (congrArg some (by kernel_rfl))⟩,
  t0 := Try.underlying0,
  a0 := Try.isAgg0,
  z0 := Try.sizeOf0,
  v0 := Try.zeroValue0,
  t3 := Try.underlying3,
  a3 := Try.isAgg3,
  z3 := Try.sizeOf3,
  v3 := Try.zeroValue3,
  t4 := Try.underlying4,
  a4 := Try.isAgg4,
  z4 := Try.sizeOf4,
  v4 := Try.zeroValue4,
  t5 := Try.underlying5,
  a5 := Try.isAgg5,
  z5 := Try.sizeOf5,
  v5 := Try.zeroValue5,
  t9 := Try.underlying9,
  a9 := Try.isAgg9,
  z9 := Try.sizeOf9,
  v9 := Try.zeroValue9,
  t22 := Try.underlying38,
  a22 := Try.isAgg38,
  z22 := Try.sizeOf38,
  v22 := Try.zeroValue38,
  t23 := Try.underlying38,
  a23 := Try.isAgg38,
  z23 := Try.sizeOf38,
  v23 := Try.zeroValue38,
  t25 := Try.underlying2,
  a25 := Try.isAgg2,
  z25 := Try.sizeOf2,
  v25 := Try.zeroValue2,
  t32 := Try.underlying80,
  a32 := Try.isAgg80,
  z32 := Try.sizeOf80,
  v32 := Try.zeroValue80,
  t35 := Try.underlying93,
  a35 := Try.isAgg93,
  z35 := Try.sizeOf93,
  v35 := Try.zeroValue93,
  t36 := Try.underlying94,
  a36 := Try.isAgg94,
  z36 := Try.sizeOf94,
  v36 := Try.zeroValue94,
  t41 := Try.underlying58,
  a41 := Try.isAgg58,
  z41 := Try.sizeOf58,
  v41 := Try.zeroValue58,
  t44 := Try.underlying101,
  a44 := Try.isAgg101,
  z44 := Try.sizeOf101,
  v44 := Try.zeroValue101,
  t46 := Try.underlying103,
  a46 := Try.isAgg103,
  z46 := Try.sizeOf103,
  v46 := Try.zeroValue103,
  t53 := Try.underlying104,
  a53 := Try.isAgg104,
  z53 := Try.sizeOf104,
  v53 := Try.zeroValue104,
  t57 := Try.underlying108,
  a57 := Try.isAgg108,
  z57 := Try.sizeOf108,
  v57 := Try.zeroValue108,
  t63 := Try.underlying110,
  a63 := Try.isAgg110,
  z63 := Try.sizeOf110,
  v63 := Try.zeroValue110,
  t64 := Try.underlying111,
  a64 := Try.isAgg111,
  z64 := Try.sizeOf111,
  v64 := Try.zeroValue111 }
def keys_0R : Ren := ⟨fun | 7 => 41 | 10 => 53 | n => n, fun | 23 => 55 | 26 => 2 | 3 => 67 | 28 => 76 | 0 => 0 | 27 => 75 | 33 => 81 | 4 => 4 | n => n, fun n => n⟩
theorem keys_0L : SlLaysZI.n7 Try.prog keys_0R := {
  mixed := by kernel_rfl,
  f7 := ⟨Try.f41.name, by decide, Try.func41.trans (congrArg some (by kernel_rfl))⟩,
  f10 := ⟨Try.f53.name, by decide, Try.func53.trans (congrArg some (by kernel_rfl))⟩,
  t0 := Try.underlying0,
  a0 := Try.isAgg0,
  z0 := Try.sizeOf0,
  v0 := Try.zeroValue0,
  t4 := Try.underlying4,
  a4 := Try.isAgg4,
  z4 := Try.sizeOf4,
  v4 := Try.zeroValue4,
  t23 := Try.underlying55,
  a23 := Try.isAgg55,
  z23 := Try.sizeOf55,
  v23 := Try.zeroValue55,
  t26 := Try.underlying2,
  a26 := Try.isAgg2,
  z26 := Try.sizeOf2,
  v26 := Try.zeroValue2,
  t27 := Try.underlying75,
  a27 := Try.isAgg75,
  z27 := Try.sizeOf75,
  v27 := Try.zeroValue75,
  t28 := Try.underlying76,
  a28 := Try.isAgg76,
  z28 := Try.sizeOf76,
  v28 := Try.zeroValue76,
  t33 := Try.underlying81,
  a33 := Try.isAgg81,
  z33 := Try.sizeOf81,
  v33 := Try.zeroValue81 }
theorem sorts_int64 (m : Nat) : AnyZI.SortsIn Try.prog sorted_int64R Fence.wide m :=
  ⟨fun blk off cap ss W hH hblk hsz => callsIn_wide.2 (AnyM.slices_Sort_int sort_int64L blk off cap ss W hH hblk hsz), fun p cap W => callsIn_wide.2 (AnyM.slices_Sort_int_none sort_int64L p cap W)⟩
end Go.Proofs.Ytjbikemecdlolaa
/-
  Keys of maps, rising.
-/
set_option linter.unusedSimpArgs false
set_option linter.unusedVariables false
namespace Go.Proofs.Ytjbikemecdlolaa.A
open Go.RowKit Go.Maps Go.Sort Go.Shelf

theorem repss_ints {K : List Nat} {w : World} : ∀ {xs : List Int}, repss K w 1 (xs.map fun x => [int x]) (xs.map encZ)
  | [] => rfl
  | x :: xs => ⟨[encZ x], _, rfl, rfl, ⟨_, _, rfl, rfl, rfl⟩, repss_ints⟩
def R0 : Value → Option (DataW Unit × List MemPlace) := fun _ => some (.nil, [])
theorem map_owned {β : Type} {V : β → Value} {w : World} {b : Nat} {m : List (Int × β)} (h : MapOf w b intK V intOk m) {k : TypeId} (hk : Try.prog.underlying k = some (.int .i64)) (hl : m.length ≤ maxLen) :
    ∃ D0 : DataW Unit, w.ownsMap Try.prog k R0 b m.length D0 ∧ (intKeys D0).Perm (m.map (·.1)) ∧ Maps.size D0 = m.length := by
  obtain ⟨es, clock, hb, he, hnd, hg, hborn, hbnd⟩ := h
  have hlen : es.toList.length = m.length := by
    have h3 := congrArg List.length he
    simpa using h3
  have hkeys : es.toList.map (·.key) = (m.map (·.1)).map intK := by
    have h3 := congrArg (List.map Prod.fst) he
    simpa [List.map_map, Function.comp_def] using h3
  have hrd : ∀ x ∈ es.toList, ∃ y : Int, x.key = intK y ∧ intOk y := fun x hx => by
    have h3 : x.key ∈ (m.map (·.1)).map intK := hkeys ▸ List.mem_map.2 ⟨x, hx, rfl⟩
    simp only [List.mem_map] at h3
    obtain ⟨y, ⟨p, hp, rfl⟩, h4⟩ := h3
    exact ⟨p.1, h4.symm, hg p hp⟩
  have hrg : ∀ x ∈ es.toList, ∀ y : Int, x.key = intK y → intOk y → WideElems.rd Try.prog k R0 x = some (.int .i64 y, .nil) := fun x hx y hy hok => by
    unfold WideElems.rd
    rw [hy, Maps.keyOf_int_mk hk (int_wf hok)]
    rfl
  refine ⟨_, ⟨es, clock, hb, ⟨by rw [← Array.length_toList, hlen]; exact hl, ⟨hborn, hbnd, ?_⟩, fun x hx => ?_⟩, by rw [← Array.length_toList, hlen]; exact Nat.le_refl _, rfl⟩, ?_, ?_⟩
  · rw [hkeys]
    exact List.pairwise_map.2 (hnd.imp fun h e => h (by injection e))
  · obtain ⟨y, hy, hok⟩ := hrd x hx
    exact ⟨_, hrg x hx y hy hok⟩
  · have h5 : es.toList.map (fun x => Go.intOf (WideElems.rg Try.prog k R0 x).1) = m.map (·.1) := by
      have h6 : es.toList.map (fun x => Go.intOf (WideElems.rg Try.prog k R0 x).1) = (es.toList.map (·.key)).map (fun v => match v with | .int _ n => n | _ => 0) := by
        rw [List.map_map]
        refine List.map_congr_left fun x hx => ?_
        obtain ⟨y, hy, hok⟩ := hrd x hx
        show Go.intOf ((WideElems.rd Try.prog k R0 x).getD _).1 = _
        rw [hrg x hx y hy hok]
        simp only [Function.comp, hy]
        rfl
      rw [h6, hkeys, List.map_map]
      simp [Function.comp_def]
    show (((es.toList.map (WideElems.rg Try.prog k R0)).foldr DataW.insert []).map fun p => Go.intOf p.1).Perm _
    refine ((WideShapes.sorted_perm (es.toList.map (WideElems.rg Try.prog k R0))).map _).trans ?_
    rw [List.map_map]
    exact h5 ▸ List.Perm.refl _
  · show ((es.toList.map (WideElems.rg Try.prog k R0)).foldr DataW.insert []).length = _
    rw [(WideShapes.sorted_perm (es.toList.map (WideElems.rg Try.prog k R0))).length_eq, List.length_map, hlen]
/-- A row of ints that is new. -/
theorem new_ints {w w' : World} {F G : List Nat} {σ : Blks} {e : TypeId} {v : Value} {ss ks : List Int} (hm : Mem w F G σ w) (hrow : w'.ownsRow w.heap.size e 1 v ss.length ((ss.mergeSort (fun x y => decide (x ≤ y))).map encZ)) (hp : ss.Perm ks) (hb : Below w.heap.size w w') : Mem w F G (own e 1 v ((srt ks).map fun x => [int x]) :: σ) w' := by
  have hx : Ext [] w w' := ⟨hb.os, hb.tape, hb.output, hb.size, fun k hk _ => hb.block k hk⟩
  have hss : ss.mergeSort (fun x y => decide (x ≤ y)) = srt ks := srt_congr hp
  have hlen : ss.length = (srt ks).length := by rw [srt_length, hp.length_eq]
  rw [hss, hlen] at hrow
  refine (hm.new (y := own e 1 v ((srt ks).map fun x => [int x])) hx own_nodup (fun k hk => ?_) rfl fun _ => ⟨(srt ks).map encZ, by rw [List.length_map]; exact ⟨hrow.1, hrow.2.imp id fun ⟨g, cap, cur, h1, h2, h3⟩ => ⟨g, cap, cur, h1, Nat.zero_le _, h3⟩⟩, repss_ints⟩).1
  have hk' : v.ownBlock = some k := by simpa [It.mids, ownPc] using hk
  exact (World.ownsRow.lt hrow k hk').1
section
variable {b z : Nat}
theorem keys_0_s  : Spec Try.prog 41 [mapV b] [] (fun z : Nat => [.blk z 55 [mapV b]]) (fun z => .fn (.func 53) [] [ptr z]) := by
 refine spec_of Try.func41 rfl Try.ntmps41 rfl fun G w => ?_
 refine SC.seq (SC.region ?_)
 refine SL.eff (Eff.box1 rfl rfl) rfl rfl ?_
 rintro _ _ ⟨b1, rfl, rfl⟩
 refine SL.val (Val.assign rfl) rfl rfl ?_
 refine SL.nil (SE.seq ?_)
 refine SC.seq (SC.region ?_)
 refine SL.val (Val.makeFunc rfl rfl) rfl rfl ?_
 refine SL.val (Val.assign rfl) rfl rfl ?_
 refine SL.nil (SE.seq ?_)
 refine SC.ret ?_
 refine SE.fin (rs := [.tmp 2]) rfl (RV.tmp rfl RV.nil) (b1) (by repeat first|exact s0_ _|exact s1_ _|apply s2_|apply s3_) (by simp [It.rids]) ?_
 exact rfl
end
theorem sorted_0_s {β : Type} {V : β → Value} {m : List (Int × β)} {b z : Nat} (hl : m.length ≤ 1000000) : Spec Try.prog 40 [.fn (.func 53) [] [ptr z]] [.rd z 55 [mapV b], .rdpc (mapPc b intK V intOk m)] (fun v : Value => [own 2 1 v ((srt (m.map (·.1))).map fun x => [int x])]) (fun v => .v v) := fun G w vals hm hv => by
  obtain ⟨_, _, rfl, ⟨us, vs, rfl, h1, h2⟩, h3⟩ := hv
  have h1 : us = [] := h1
  have h3 : _ = [] := h3
  obtain ⟨_, _, rfl, h4, h5⟩ := h2
  have h4 : _ = Value.pointer (some ⟨z, 0, none⟩) := h4
  have h5 : _ = [] := h5
  subst h1 h3 h4 h5
  obtain ⟨cs, hb, hr⟩ := hm.hold (.rd z 55 [mapV b]) (by simp)
  obtain ⟨_, _, rfl, h6, h7⟩ := hr
  have h6 : _ = Value.map (some b) := h6
  have h7 : _ = [] := h7
  subst h6 h7
  have hmap : MapOf w b intK V intOk m := hm.hold (.rdpc (mapPc b intK V intOk m)) (by simp)
  obtain ⟨D0, hown, hperm, hsize⟩ := map_owned hmap Try.underlying2 (by unfold maxLen; omega)
  have hcell : w.cell? ⟨z, 0, none⟩ = some (.map (some b)) := by rw [mem_cell hb]; rfl
  have hseq := AnyZI.keys_gives (ρ := keys_0R) { keys_0L with } Fence.wide 2 trivial rfl (by omega) z b m.length D0 (R := R0) w (heap_lt hb) hcell hown
  have cS := AnyZI.sorted_in sorted_int64L Fence.wide 5 trivial trivial trivial trivial rfl (by omega) (sorts_int64 _) (enters_of Try.func52 (by kernel_rfl) rfl) 53 #[.pointer (some ⟨z, 0, none⟩)] trivial (enters_of Try.func53 (by kernel_rfl) rfl) _ (Maps.size D0) (by rw [hsize]; unfold maxLen; omega) (by rw [hsize]; omega) w hseq
  refine ((callsIn_wide (n := 5)).1 cS).mono fun e w' ⟨v, ss, he, hS, hrow, hnil, hbel⟩ => ?_
  exact ⟨v, v, he, by simp [It.rids], ((new_ints hm hrow (hS.trans hperm) hbel).sub (List.Sublist.cons_cons _ (List.nil_sublist _))).1, rfl⟩
end Go.Proofs.Ytjbikemecdlolaa.A
/-
  Points: what a voter votes for.
-/
namespace Go.Proofs.Ytjbikemecdlolaa.A
open Go.RowKit

theorem keysT_s {om : List (Int × Ow)} {b z : Nat} (hl : om.length ≤ 1000000) : Spec Try.prog 40 [.fn (.func 53) [] [ptr z]] [.rd z 55 [mapV b], .rdpc (tmPc b intK intOk Ow.enc om)] (fun v : Value => [own 2 1 v ((srt (om.map (·.1))).map fun x => [int x])]) (fun v => .v v) :=
  Spec.tmRead (σ1 := [.rd z 55 [mapV b]]) fun tm htm => by
    have h := sorted_0_s (V := id) (m := rawM tm) (b := b) (z := z) (by rw [← htm] at hl; simpa [rawM, plM] using hl)
    rw [rawM_keys, ← plM_keys, htm] at h
    exact h
/-- What a voter votes for. -/
def votesI (n me : Nat) (om : List (Int × Ow)) (vs : List (List Pnt)) (who : Int) : List Pnt := if who < 0 ∨ (n : Int) ≤ who then [] else votesF me om vs who.toNat
theorem votesI_out {n me : Nat} {om : List (Int × Ow)} {vs : List (List Pnt)} {who : Int} (h : who < 0 ∨ (n : Int) ≤ who) : votesI n me om vs who = [] := if_pos h
theorem votesI_me {n me : Nat} {om : List (Int × Ow)} {vs : List (List Pnt)} (h : me < n) : votesI n me om vs (me : Nat) = ownP om := by
  unfold votesI votesF
  rw [if_neg (by omega), if_pos (by omega)]
theorem votesI_other {n me : Nat} {om : List (Int × Ow)} {vs : List (List Pnt)} {who : Int} {l : List Pnt} (h : ¬ (who < 0 ∨ (n : Int) ≤ who)) (hm : ¬ who = me) (hl : vs[who.toNat]? = some l) : votesI n me om vs who = l := by
  unfold votesI votesF
  rw [if_neg h, if_neg (by omega), hl]
  rfl
theorem votesI_in {n me : Nat} {om : List (Int × Ow)} {vs : List (List Pnt)} (h : PtsOk n me om vs) (who : Int) : (∀ x ∈ votesI n me om vs who, InR .i64 x.seq) ∧ (votesI n me om vs who).length ≤ 100000 := by
  unfold votesI
  split
  · exact ⟨fun x hx => (by cases hx), by simp⟩
  · exact ⟨votesF_in h _, votesF_len h _⟩
theorem ownP_take {om : List (Int × Ow)} {z : Nat} (hz : z < (srt (om.map (·.1))).length) : (ownP om).take (z + 1) = (ownP om).take z ++ [⟨(srt (om.map (·.1)))[z], ((aget om (srt (om.map (·.1)))[z]).getD Ow.zero).dig, ((aget om (srt (om.map (·.1)))[z]).getD Ow.zero).len⟩] := by
  have h : z < (ownP om).length := by unfold ownP; rw [List.length_map]; exact hz
  rw [List.take_succ_eq_append_getElem h]
  congr 1
  simp [ownP]
theorem pnt_fill {k : Int} {o : Ow} {place : Nat → Option (Nat × Nat)} {Z : List Abs} (hZ : Z.length = 33) (h0 : place 0 = some (0, 1)) (h1 : place 1 = some (1, 32)) : fillA place Z [(0, int k), (1, .agg (digA o.dig))] = some (Pnt.abs ⟨k, o.dig, o.len⟩) :=
  fill_two (a := 1) (b := 32) rfl (digA_len o.len) hZ h0 h1
theorem own_part (o : Ow) : Abs.agg (part o.cells 0 32) = .agg (digA o.dig) := by
  have h := digA_len o.len
  unfold part Ow.cells
  rw [List.drop_zero, List.take_append_of_le_length (by omega), List.take_of_length_le (by omega)]
theorem own_clen (o : Ow) : o.cells.length = 33 := by
  have h := digA_len o.len
  simp [Ow.cells, h]
theorem pnt_part (x : Pnt) : Abs.agg (part x.abs 1 32) = .agg (digA x.dig) := by
  have h := digA_len x.len
  unfold part Pnt.abs
  rw [List.drop_succ_cons, List.drop_zero, List.take_of_length_le (by omega)]
theorem sup_step {vs : List (List Pnt)} {x : Pnt} {z : Nat} {l : List Pnt} (hl : vs[z]? = some l) : ((vs.take (z + 1)).filter fun l => decide (x ∈ l)).length = ((vs.take z).filter fun l => decide (x ∈ l)).length + if x ∈ l then 1 else 0 := by
  rw [List.take_add_one, hl, Option.toList_some, List.filter_append, List.length_append]
  congr 1
  by_cases h : x ∈ l <;> simp [h]
section
variable {n me : Nat} {om : List (Int × Ow)} {vs : List (List Pnt)} {bp bm : Nat} {vv : Value} {x : Pnt} {who k : Int} {o : Ow} {l : List Pnt}
set_option maxHeartbeats 2000000 in
theorem pvotes_s (hok : PtsOk n me om vs) : Spec Try.prog 16 [ptr bp, int who] [.rd bp 57 [int (n : Nat), int (me : Nat), mapV bm, .v vv], .rdpc (ownPc 40 1 vv (vs.map fun l => [pntsA l])), .rdpc (tmPc bm intK intOk Ow.enc om)] (fun r : Value => [own 27 33 r (((votesI n me om vs who)).map Pnt.abs)]) (fun r => .v r) := by
 refine spec_of Try.func16 rfl Try.ntmps16 rfl fun G w => ?_
 refine SC.seq (SC.region ?_)
 refine SL.val (Val.assign rfl) rfl rfl ?_
 refine SL.nil (SE.seq ?_)
 refine SC.seq ?_
 refine SC.block ?_
 refine SC.seq (SC.region ?_)
 refine SL.val (Val.move rfl) rfl rfl ?_
 refine SL.val (Val.eqP rfl rfl (by kernel_rfl)) rfl rfl ?_
 iterate 2 refine SL.val (Val.move rfl) rfl rfl ?_
 refine SL.val (Val.ltI rfl rfl) rfl rfl ?_
 refine SL.val (Val.pickF rfl rfl) rfl rfl ?_
 refine SL.val (Val.move rfl) rfl rfl ?_
 refine SL.bothP (t := 15) rfl ?_ ?_
 ·intro hc15
  iterate 6 refine SL.skip rfl rfl ?_
  refine SL.val (Val.pickT rfl rfl) rfl rfl ?_
  refine SL.val (Val.assign rfl) rfl rfl ?_
  refine SL.nil (SE.seq ?_)
  refine SC.condT rfl ?_
  refine SC.seq ?_
  refine SC.own0 27 33 ?_
  refine SC.region ?_
  refine SL.val (Val.assign rfl) rfl rfl ?_
  refine SL.nil (SE.seq ?_)
  refine SC.ret ?_
  refine SE.ret ?_
  refine SE.then_ nofun ?_
  have e9 : (votesI n me om vs who) = [] := votesI_out (by omega)
  refine SE.fin (rs := [.tmp 4]) rfl (RV.tmp rfl RV.nil) (.slice none 0 0) (by rw [e9]; repeat (first | exact List.nil_sublist _ | exact List.Sublist.refl _ | apply List.Sublist.cons_cons | apply List.Sublist.cons)) (by simp [It.rids]) ?_
  exact rfl
 intro hc15
 iterate 2 refine SL.val (Val.move rfl) rfl rfl ?_
 refine SL.val (Val.nilCheck rfl) rfl rfl ?_
 refine SL.val (Val.fieldAddr tabOk rfl rfl rfl rfl rfl) rfl rfl ?_
 refine SL.val (Val.load1 tabOk rfl rfl (by repeat first|assumption|exact o0_|exact o1_|apply o2_) List.not_mem_nil (by rfl)) rfl rfl ?_
 refine SL.val (Val.geI rfl rfl) rfl rfl ?_
 refine SL.val (Val.pickF rfl rfl) rfl rfl ?_
 refine SL.val (Val.assign rfl) rfl rfl ?_
 refine SL.nil (SE.seq ?_)
 refine SC.condP rfl ?_ ?_
 ·intro hc8
  refine SC.seq ?_
  refine SC.own0 27 33 ?_
  refine SC.region ?_
  refine SL.val (Val.assign rfl) rfl rfl ?_
  refine SL.nil (SE.seq ?_)
  refine SC.ret ?_
  refine SE.ret ?_
  refine SE.then_ nofun ?_
  have e9 : (votesI n me om vs who) = [] := votesI_out (by omega)
  refine SE.fin (rs := [.tmp 4]) rfl (RV.tmp rfl RV.nil) (.slice none 0 0) (by rw [e9]; repeat (first | exact List.nil_sublist _ | exact List.Sublist.refl _ | apply List.Sublist.cons_cons | apply List.Sublist.cons)) (by simp [It.rids]) ?_
  exact rfl
 intro hc8
 refine SC.seq (SC.region ?_)
 iterate 2 refine SL.val (Val.move rfl) rfl rfl ?_
 refine SL.val (Val.nilCheck rfl) rfl rfl ?_
 refine SL.val (Val.fieldAddr tabOk rfl rfl rfl rfl rfl) rfl rfl ?_
 refine SL.val (Val.load1 tabOk rfl rfl (by repeat first|assumption|exact o0_|exact o1_|apply o2_) List.not_mem_nil (by rfl)) rfl rfl ?_
 refine SL.val (Val.neI rfl rfl) rfl rfl ?_
 refine SL.val (Val.assign rfl) rfl rfl ?_
 refine SL.nil (SE.seq ?_)
 refine SC.condP rfl ?_ ?_
 ·intro hc23
  obtain ⟨l, hvl⟩ : ∃ l, vs[who.toNat]? = some l := ⟨_, List.getElem?_eq_getElem (by rw [hok.len]; omega)⟩
  have hlm := List.mem_of_getElem? hvl
  have hl3 := hok.few l hlm
  refine SC.seq (SC.region ?_)
  refine SL.val (Val.move rfl) rfl rfl ?_
  refine SL.val (Val.nilCheck rfl) rfl rfl ?_
  refine SL.val (Val.fieldAddr tabOk rfl rfl rfl rfl rfl) rfl rfl ?_
  refine SL.val (Val.load1 tabOk rfl rfl (by repeat first|assumption|exact o0_|exact o1_|apply o2_) List.not_mem_nil (by rfl)) rfl rfl ?_
  refine SL.val (Val.move rfl) rfl rfl ?_
  refine SL.val (Val.indexOwn (q := who.toNat) tabOk Try.underlying50 rfl rfl (by repeat first|assumption|exact o0_|exact o1_|apply o2_) rfl (by omega) (by rw [List.length_map, hok.len]; omega) rfl rfl) rfl rfl ?_
  refine SL.val (Val.to (C := pntsA l) (Val.loadOwn1 (q := who.toNat) (s := 1) (cs := [pntsA l]) tabOk rfl rfl (by repeat first|assumption|exact o0_|exact o1_|apply o2_) rfl (by rw [List.getElem?_map, hvl]; rfl) rfl) rfl) rfl rfl ?_
  refine SL.call (clone_pnt_s (pnts_ones l) (by rw [List.length_map]; omega)) Casts.refl (by kernel_rfl) rfl rfl rfl ?_
  refine After.make (by repeat (first | exact Reads.nil | (refine Reads.blk ?_ ?_; focus ((repeat first|assumption|exact m0_|apply m1_); done)) | (refine Reads.rd ?_ ?_; focus ((repeat first|assumption|exact m0_|apply m1_); done)) | (refine Reads.pc ?_ ?_; focus ((repeat first|assumption|exact m0_|apply m1_); done)) | (refine Reads.rdpc ?_ ?_; focus ((repeat first|assumption|exact m0_|apply m1_); done)))) (fun _ => rfl) ?_
  intro z37
  refine SL.val (Val.assign rfl) rfl rfl ?_
  refine SL.nil (SE.seq ?_)
  refine SC.ret ?_
  refine SE.ret ?_
  refine SE.then_ nofun ?_
  have e9 : (votesI n me om vs who) = l := votesI_other (by omega) (by omega) hvl
  refine SE.fin (rs := [.tmp 4]) rfl (RV.tmp rfl RV.nil) (z37) (by rw [e9]; repeat (first | exact List.nil_sublist _ | exact List.Sublist.refl _ | apply List.Sublist.cons_cons | apply List.Sublist.cons)) (by simp [It.rids]) ?_
  exact rfl
 intro hc23
 refine SC.skip ?_
 refine SE.inBlock ?_
 refine SE.seq ?_
 refine SC.seq ?_
 have hkl : (srt (om.map (·.1))).length = om.length := by rw [srt_length, List.length_map]
 have hom := hok.om
 have hol := ownP_length om
 refine SC.own0 27 33 ?_
 refine SC.region ?_
 refine SL.val (Val.assign rfl) rfl rfl ?_
 refine SL.nil (SE.seq ?_)
 refine SC.seq ?_
 refine SC.seq (SC.region ?_)
 refine SL.val (Val.move rfl) rfl rfl ?_
 refine SL.val (Val.nilCheck rfl) rfl rfl ?_
 refine SL.val (Val.fieldAddr tabOk rfl rfl rfl rfl rfl) rfl rfl ?_
 refine SL.val (Val.load1 tabOk rfl rfl (by repeat first|assumption|exact o0_|exact o1_|apply o2_) List.not_mem_nil (by rfl)) rfl rfl ?_
 refine SL.call (keys_0_s (b := bm)) Casts.refl (by kernel_rfl) rfl rfl rfl ?_
 refine After.make (by repeat first|exact .nil|refine .blk (by repeat first|assumption|exact m0_|apply m1_) ?_|refine .rd (by repeat first|assumption|exact m0_|apply m1_) ?_|refine .pc (by repeat first|assumption|exact m0_|apply m1_) ?_|refine .rdpc (by repeat first|assumption|exact m0_|apply m1_) ?_) (fun _ => rfl) ?_
 intro zk
 refine SL.call (keysT_s (om := om) (b := bm) (z := zk) (by omega)) Casts.refl (by kernel_rfl) rfl rfl rfl ?_
 refine After.make (by repeat (first | exact Reads.nil | (refine Reads.blk ?_ ?_; focus ((repeat first|assumption|exact m0_|apply m1_); done)) | (refine Reads.rd ?_ ?_; focus ((repeat first|assumption|exact m0_|apply m1_); done)) | (refine Reads.pc ?_ ?_; focus ((repeat first|assumption|exact m0_|apply m1_); done)) | (refine Reads.rdpc ?_ ?_; focus ((repeat first|assumption|exact m0_|apply m1_); done)))) (fun _ => rfl) ?_
 intro r43
 refine SL.freeze [] (t := 43) rfl rfl ?_
 first
  | refine SL.val (Val.lenSl rfl Try.underlying38 (List.length_map _)) rfl rfl ?_
  | refine SL.val (Val.lenOwn rfl (by repeat first|assumption|exact m0_|apply m1_) Try.underlying38 (List.length_map _)) rfl rfl ?_
  | refine SL.val (Val.lenNil rfl Try.underlying38) rfl rfl ?_
 refine SL.val (Val.move rfl) rfl rfl ?_
 refine SL.nil (SE.seq ?_)
 refine SC.block ?_
 refine SC.loop (ι := Nat × Value) (fun z => [own 27 33 z.2 (((ownP om).take z.1).map Pnt.abs), .rd bp 57 [int (n : Nat), int (me : Nat), mapV bm, .v vv], .rdpc (ownPc 40 1 vv (vs.map fun l => [pntsA l])), .rdpc (tmPc bm intK intOk Ow.enc om)]) (fun z => [(0, ptr bp), (5, .v z.2), (43, ints (srt (om.map (·.1)))), (44, int ((srt (om.map (·.1))).length : Nat)), (45, int (z.1 : Nat))]) (fun z => z.1 ≤ (srt (om.map (·.1))).length) (fun z => (srt (om.map (·.1))).length - z.1) (0, .slice none 0 0) (Nat.zero_le _) (by exact ⟨rfl, rfl, rfl, rfl, rfl, trivial⟩) (by repeat first|exact s0_ _|exact s1_ _|apply s2_|apply s3_) ?_
 intro z hz
 refine SC.seq (SC.region ?_)
 refine SL.val (Val.ltI rfl rfl) rfl rfl ?_
 refine SL.nil (SE.seq ?_)
 refine SC.seq ?_
 refine SC.condP rfl ?_ ?_
 rotate_left
 ·intro hc46
  have hta : (ownP om).take z.1 = ownP om := List.take_of_length_le (by omega)
  refine SC.exit ?_
  refine SE.then_ nofun ?_
  refine SE.then_ nofun ?_
  refine SE.exit ?_
  refine SE.seq ?_
  refine SC.seq (SC.region ?_)
  refine SL.val (Val.move rfl) rfl rfl ?_
  refine SL.val (Val.assign rfl) rfl rfl ?_
  refine SL.nil (SE.seq ?_)
  refine SC.ret ?_
  have e9 : (votesI n me om vs who) = ownP om := by
   have := hok.slf
   rw [show who = (me : Nat) by omega]
   exact votesI_me this
  rw [hta] at *
  refine SE.fin (rs := [.tmp 4]) rfl (RV.tmp rfl RV.nil) (z.2) (by rw [e9, ← hta]; repeat (first | exact List.nil_sublist _ | exact List.Sublist.refl _ | apply List.Sublist.cons_cons | apply List.Sublist.cons)) (by simp [It.rids]) ?_
  exact rfl
 intro hc46
 have hlt : z.1 < (srt (om.map (·.1))).length := by omega
 have hki : intOk ((srt (om.map (·.1)))[z.1]'hlt) := by
  obtain ⟨e, he, h2⟩ := List.mem_map.1 (srt_mem.1 (List.getElem_mem hlt))
  rw [← h2]
  exact hok.keys e he
 refine SC.skip ?_
 refine SE.seq ?_
 refine SC.seq ?_
 refine SC.block ?_
 refine SC.seq (SC.region ?_)
 refine SL.val (Val.indexSl tabOk Try.underlying38 rfl rfl rfl rfl (at_map (by omega)) rfl rfl) rfl rfl ?_
 refine SL.val (Val.load1R tabOk rfl rfl rfl) rfl rfl ?_
 refine SL.val (Val.assign rfl) rfl rfl ?_
 refine SL.nil (SE.seq ?_)
 refine SC.region ?_
 iterate 3 refine SL.val (Val.move rfl) rfl rfl ?_
 refine SL.val (Val.nilCheck rfl) rfl rfl ?_
 refine SL.val (Val.fieldAddr tabOk rfl rfl rfl rfl rfl) rfl rfl ?_
 refine SL.val (Val.load1 tabOk rfl rfl (by repeat first|assumption|exact o0_|exact o1_|apply o2_) List.not_mem_nil (by rfl)) rfl rfl ?_
 refine SL.val (Val.move rfl) rfl rfl ?_
 refine SL.val (Val.tmGet (a := ((srt (om.map (·.1)))[z.1]'hlt)) (m := om) (enc := Ow.enc) (z0 := Ow.zero) (zv := zow) (int_fit Try.underlying2) Try.underlying55 zero_ow zow_rep rfl (by repeat first|assumption|exact o0_|exact o1_|apply o2_) List.not_mem_nil rfl is_v hki) rfl rfl ?_
 refine SL.val (Val.to (C := .agg (digA ((aget om ((srt (om.map (·.1)))[z.1]'hlt)).getD Ow.zero).dig)) (Val.fieldG tabOk rfl rfl rfl rfl rfl (by show 0 + 32 ≤ ((aget om ((srt (om.map (·.1)))[z.1]'hlt)).getD Ow.zero).cells.length; rw [own_clen]; omega)) (own_part _)) rfl rfl ?_
 refine SL.val (Val.buildS (L := (⟨(srt (om.map (·.1)))[z.1]'hlt, ((aget om ((srt (om.map (·.1)))[z.1]'hlt)).getD Ow.zero).dig, ((aget om ((srt (om.map (·.1)))[z.1]'hlt)).getD Ow.zero).len⟩ : Pnt).abs) tabOk rfl rfl rfl (pnt_fill rfl rfl rfl)) rfl rfl ?_
 refine SL.eff (Eff.buildSl tabOk Try.underlying40 rfl rfl rfl (elems_one (Pnt.size (⟨(srt (om.map (·.1)))[z.1]'hlt, ((aget om ((srt (om.map (·.1)))[z.1]'hlt)).getD Ow.zero).dig, ((aget om ((srt (om.map (·.1)))[z.1]'hlt)).getD Ow.zero).len⟩ : Pnt))) rfl rfl rfl) rfl rfl ?_
 rintro _ _ ⟨rfl, rfl⟩
 refine SL.eff (Eff.appendE (zs := ((ownP om).take (z.1 + 1)).map Pnt.abs) tabOk [] (by rw [ownP_take hlt, List.map_append]; rfl) Try.underlying40 rfl rfl rfl rfl rfl rfl (by intro c hc; rw [List.mem_singleton] at hc; subst hc; exact Pnt.ones _) (by unfold maxLen; simp only [List.length_map, List.length_take, List.length_cons, List.length_nil]; omega) (by rw [show Try.prog.bytesOf 27 = 40 by kernel_rfl]; simp only [List.length_map, List.length_take, List.length_cons, List.length_nil]; omega)) rfl rfl ?_
 rintro _ _ ⟨r60, rfl, rfl⟩
 refine SL.val (Val.assign rfl) rfl rfl ?_
 refine SL.nil ?_
 refine SE.inBlock ?_
 refine SE.seq ?_
 refine SC.region ?_
 first
  | refine SL.val (Val.addI rfl rfl (by simp only [InR, lo, hi]; omega)) rfl rfl ?_
  | refine SL.val (Val.addW rfl rfl) rfl rfl ?_
 refine SL.val (Val.move rfl) rfl rfl ?_
 refine SL.nil ?_
 refine SE.round (z.1 + 1, r60) (by first | omega | (dsimp only; omega)) ((by dsimp only; omega)) (by exact ⟨rfl, rfl, rfl, rfl, rfl, trivial⟩) (by repeat first|exact s0_ _|exact s1_ _|apply s2_|apply s3_)
end
end Go.Proofs.Ytjbikemecdlolaa.A
/-
  Points: support.
-/
namespace Go.Proofs.Ytjbikemecdlolaa.A
open Go.RowKit

theorem own_ones (o : Ow) : ones o.cells = true := by
  rw [ones_iff]; intro a ha
  rcases List.mem_append.1 ha with ha | ha
  · obtain ⟨b, _, rfl⟩ := List.mem_map.1 ha; rfl
  · rw [List.mem_singleton.1 ha]; rfl
section
variable {n me : Nat} {om : List (Int × Ow)} {vs : List (List Pnt)} {bp bm : Nat} {vv : Value} {x : Pnt} {who k : Int} {o : Ow} {l : List Pnt}
set_option maxHeartbeats 2000000 in
theorem psup_s (hok : PtsOk n me om vs) (hx : InR .i64 x.seq) : Spec Try.prog 11 [ptr bp, .agg x.abs] [.rd bp 57 [int (n : Nat), int (me : Nat), mapV bm, .v vv], .rdpc (ownPc 40 1 vv (vs.map fun l => [pntsA l])), .rdpc (tmPc bm intK intOk Ow.enc om)] (fun _ : Unit => []) (fun _ => int (supF om vs x : Nat)) := by
 refine spec_of Try.func11 rfl Try.ntmps11 rfl fun G w => ?_
 refine SC.seq (SC.region ?_)
 refine SL.eff (Eff.boxA (cs := x.abs) rfl) rfl rfl ?_
 rintro _ _ ⟨b3, rfl, rfl⟩
 refine SL.val (Val.assign rfl) rfl rfl ?_
 refine SL.nil (SE.seq ?_)
 refine SC.seq ?_
 refine SC.seq (SC.region ?_)
 refine SL.val (Val.move rfl) rfl rfl ?_
 refine SL.val (Val.eqP rfl rfl (by kernel_rfl)) rfl rfl ?_
 refine SL.nil (SE.seq ?_)
 refine SC.condF rfl ?_
 refine SC.skip ?_
 refine SE.seq ?_
 refine SC.seq (SC.region ?_)
 refine SL.val (Val.assign rfl) rfl rfl ?_
 refine SL.nil (SE.seq ?_)
 refine SC.cutS (ι := Unit) (fun z => [.blk b3 27 x.abs, .rd bp 57 [int (n : Nat), int (me : Nat), mapV bm, .v vv], .rdpc (ownPc 40 1 vv (vs.map fun l => [pntsA l])), .rdpc (tmPc bm intK intOk Ow.enc om)]) (fun z => [(0, ptr bp), (3, ptr b3), (5, int (((if ownHas om x then 1 else 0) + ((vs.take 0).filter fun l => decide (x ∈ l)).length) : Nat))]) (fun z => True) ?_ ?_
 ·skip
  refine SC.seq ?_
  refine SC.draw [] (.q 0 (.q 1 (.q 2 (.q 3 (.q 4 (.q 5 (.q 6 (.q 7 (.q 8 (.q 9 (.e 10 (.e 11 (.q 12 .nil))))))))))))) (by kernel_rfl) (by kernel_rfl) ?_
  refine SX.val rfl (Val.move rfl) (by simp) rfl rfl ?_
  refine SX.val rfl (Val.nilCheck rfl) (by simp) rfl rfl ?_
  refine SX.val rfl (Val.fieldAddr tabOk rfl rfl rfl rfl rfl) (by simp) rfl rfl ?_
  refine SX.val rfl (Val.load1 tabOk rfl rfl (by repeat first|assumption|exact o0_|exact o1_|apply o2_) List.not_mem_nil (by rfl)) (by simp) rfl rfl ?_
  refine SX.val rfl (Val.fieldAddr tabOk rfl rfl rfl rfl rfl) (by simp) rfl rfl ?_
  refine SX.hx (by first|(simp[mids,It.mids,ownPc];done)|(intro k hk;simp[mids,It.mids,ownPc] at hk ⊢;grind)) fun hx9 => ?_
  refine SX.val rfl (Val.to (C := int x.seq) (Val.load1 tabOk rfl rfl (by repeat first|assumption|exact o0_|exact o1_|apply o2_) List.not_mem_nil (by rfl)) rfl) hx9 rfl rfl ?_
  refine SX.val rfl (Val.tmGetOk (a := x.seq) (m := om) (enc := Ow.enc) (z0 := Ow.zero) (zv := zow) (int_fit Try.underlying2) Try.underlying55 zero_ow zow_rep rfl (by repeat first|assumption|exact o0_|exact o1_|apply o2_) List.not_mem_nil rfl is_v hx) hx9 rfl rfl ?_
  refine SX.val rfl (Val.move rfl) (by simp) rfl rfl ?_
  refine SX.val rfl (Val.extract rfl rfl) (by simp) rfl rfl ?_
  refine SX.val rfl (Val.extract rfl rfl) (by simp) rfl rfl ?_
  refine SX.alloc tabOk rfl rfl rfl rfl fun b6 => ?_
  refine SX.eff rfl (Eff.store (L' := ((aget om x.seq).getD Ow.zero).cells) tabOk rfl rfl rfl (by repeat first|assumption|exact Upd.here|apply Upd.there) (own_clen _) (lb_ (by rfl)) (own_ones _) (by exact putL_whole (own_clen _))) (by simp) rfl rfl ?_
  rintro _ _ ⟨rfl, rfl⟩
  refine SX.hx (by first|(simp[mids,It.mids,ownPc];done)|(intro k hk;simp[mids,It.mids,ownPc] at hk ⊢;grind)) fun hx9 => ?_
  refine SX.val rfl (Val.assign rfl) hx9 rfl rfl ?_
  refine SX.nil (SE.seq ?_)
  refine SC.seq (SC.region ?_)
  iterate 2 refine SL.val (Val.move rfl) rfl rfl ?_
  refine SL.both (t := 23) rfl ?_ ?_
  rotate_left
  ·intro hc23
   have e9 : ownHas om x = false := by unfold ownHas; simp_all
   iterate 5 refine SL.skip rfl rfl ?_
   refine SL.val (Val.pickF rfl rfl) rfl rfl ?_
   refine SL.nil (SE.seq ?_)
   refine SC.condF rfl ?_
   refine SC.skip ?_
   refine SE.meet (()) (trivial) (by refine ⟨rfl, rfl, ?_, trivial⟩; first | (rw [e9]; rfl) | (simp only [e9]; rfl)) (by repeat first|exact s0_ _|exact s1_ _|apply s2_|apply s3_)
  intro hc23
  refine SL.val (Val.fieldAddr tabOk rfl rfl rfl rfl rfl) rfl rfl ?_
  refine SL.val (Val.to (C := .agg (digA ((aget om x.seq).getD Ow.zero).dig)) (Val.loadP tabOk rfl rfl rfl (by repeat first|assumption|exact o0_|exact o1_|apply o2_) List.not_mem_nil (by show 0 + 32 ≤ ((aget om x.seq).getD Ow.zero).cells.length; rw [own_clen]; omega)) (by exact own_part _)) rfl rfl ?_
  refine SL.val (Val.fieldAddr tabOk rfl rfl rfl rfl rfl) rfl rfl ?_
  refine SL.val (Val.to (C := .agg (digA x.dig)) (Val.loadP tabOk rfl rfl rfl (by repeat first|assumption|exact o0_|exact o1_|apply o2_) List.not_mem_nil (by show 1 + 32 ≤ x.abs.length; rw [Pnt.size]; omega)) (by exact pnt_part _)) rfl rfl ?_
  refine SL.val (Val.eqA rfl rfl (plains_dig _) (plains_dig _) (by kernel_rfl) (eqlD _ _ ((aget om x.seq).getD Ow.zero).len x.len (decide (((aget om x.seq).getD Ow.zero).dig = x.dig)) rfl)) rfl rfl ?_
  refine SL.val (Val.pickT rfl rfl) rfl rfl ?_
  refine SL.nil (SE.seq ?_)
  refine SC.condP rfl ?_ ?_
  rotate_left
  ·intro hc29
   have e9 : ownHas om x = false := by unfold ownHas; simp_all
   refine SC.skip ?_
   refine SE.meet (()) (trivial) (by refine ⟨rfl, rfl, ?_, trivial⟩; first | (rw [e9]; rfl) | (simp only [e9]; rfl)) (by repeat first|exact s0_ _|exact s1_ _|apply s2_|apply s3_)
  intro hc29
  have e9 : ownHas om x = true := by unfold ownHas; simp_all
  refine SC.region ?_
  refine SL.val (Val.move rfl) rfl rfl ?_
  first
   | refine SL.val (Val.addI rfl rfl (by simp only [InR, lo, hi]; omega)) rfl rfl ?_
   | refine SL.val (Val.addW rfl rfl) rfl rfl ?_
  refine SL.val (Val.assign rfl) rfl rfl ?_
  refine SL.nil ?_
  refine SE.meet (()) (trivial) (by refine ⟨rfl, rfl, ?_, trivial⟩; first | (rw [e9]; rfl) | (simp only [e9]; rfl)) (by repeat first|exact s0_ _|exact s1_ _|apply s2_|apply s3_)
 ·intro z hz
  refine SC.seq ?_
  refine SC.seq (SC.region ?_)
  refine SL.val (Val.move rfl) rfl rfl ?_
  refine SL.val (Val.nilCheck rfl) rfl rfl ?_
  refine SL.val (Val.fieldAddr tabOk rfl rfl rfl rfl rfl) rfl rfl ?_
  refine SL.val (Val.load1 tabOk rfl rfl (by repeat first|assumption|exact o0_|exact o1_|apply o2_) List.not_mem_nil (by rfl)) rfl rfl ?_
  refine SL.val (Val.lenOwnR (m := vs.length) rfl (by repeat first|assumption|exact o0_|exact o1_|apply o2_) Try.underlying50 (List.length_map _)) rfl rfl ?_
  refine SL.val (Val.move rfl) rfl rfl ?_
  refine SL.nil (SE.seq ?_)
  refine SC.block ?_
  have hvn := hok.len
  have hn7 := hok.n7
  refine SC.loop (ι := Nat × Unit) (fun z => [.blk b3 27 x.abs, .rd bp 57 [int (n : Nat), int (me : Nat), mapV bm, .v vv], .rdpc (ownPc 40 1 vv (vs.map fun l => [pntsA l])), .rdpc (tmPc bm intK intOk Ow.enc om)]) (fun z => [(0, ptr bp), (3, ptr b3), (5, int (((if ownHas om x then 1 else 0) + ((vs.take z.1).filter fun l => decide (x ∈ l)).length) : Nat)), (35, .v vv), (36, int (vs.length : Nat)), (37, int (z.1 : Nat))]) (fun z => z.1 ≤ vs.length ∧ ((if ownHas om x then 1 else 0) + ((vs.take z.1).filter fun l => decide (x ∈ l)).length) ≤ z.1 + 1) (fun z => vs.length - z.1) (0, ()) (⟨Nat.zero_le _, by simp only [List.take_zero, List.filter_nil, List.length_nil]; split <;> omega⟩) (by exact ⟨rfl, rfl, rfl, rfl, rfl, rfl, trivial⟩) (by repeat first|exact s0_ _|exact s1_ _|apply s2_|apply s3_) ?_
  intro z hz
  refine SC.seq (SC.region ?_)
  refine SL.val (Val.ltI rfl rfl) rfl rfl ?_
  refine SL.nil (SE.seq ?_)
  refine SC.seq ?_
  refine SC.condP rfl ?_ ?_
  rotate_left
  ·intro hc38
   have hta : vs.take z.1 = vs := List.take_of_length_le (by omega)
   refine SC.exit ?_
   refine SE.then_ nofun ?_
   refine SE.then_ nofun ?_
   refine SE.exit ?_
   refine SE.seq ?_
   refine SC.seq (SC.region ?_)
   refine SL.val (Val.move rfl) rfl rfl ?_
   refine SL.val (Val.assign rfl) rfl rfl ?_
   refine SL.nil (SE.seq ?_)
   refine SC.ret ?_
   refine SE.fin (rs := [.tmp 4]) rfl (RV.tmp rfl RV.nil) (()) (by repeat first|exact s0_ _|exact s1_ _|apply s2_|apply s3_) (by simp [It.rids]) ?_
   rw [hta] at *
   exact rfl
  intro hc38
  have hlt : z.1 < vs.length := by omega
  obtain ⟨l, hvl⟩ : ∃ l, vs[z.1]? = some l := ⟨_, List.getElem?_eq_getElem hlt⟩
  have hlm := List.mem_of_getElem? hvl
  have hl3 := hok.few l hlm
  refine SC.skip ?_
  refine SE.seq ?_
  refine SC.seq ?_
  refine SC.block ?_
  refine SC.seq (SC.region ?_)
  refine SL.val (Val.indexOwn (q := z.1) tabOk Try.underlying50 rfl rfl (by repeat first|assumption|exact o0_|exact o1_|apply o2_) rfl rfl (by rw [List.length_map]; exact hlt) rfl rfl) rfl rfl ?_
  refine SL.val (Val.to (C := pntsA l) (Val.loadOwn1 (q := z.1) (s := 1) (cs := [pntsA l]) tabOk rfl rfl (by repeat first|assumption|exact o0_|exact o1_|apply o2_) rfl (by rw [List.getElem?_map, hvl]; rfl) rfl) rfl) rfl rfl ?_
  refine SL.val (Val.assign rfl) rfl rfl ?_
  refine SL.nil (SE.seq ?_)
  refine SC.seq (SC.region ?_)
  refine SL.val (Val.move rfl) rfl rfl ?_
  refine SL.val (Val.to (C := .agg x.abs) (Val.loadA tabOk rfl rfl rfl (by repeat first|assumption|exact o0_|exact o1_|apply o2_) List.not_mem_nil (Pnt.size _)) rfl) rfl rfl ?_
  refine SL.call (pcontains_s (l := l) hx (hok.ins l hlm) (by omega)) Casts.refl (by kernel_rfl) rfl rfl rfl ?_
  refine ap_ ?_
  intro _
  refine SL.nil (SE.seq ?_)
  refine SC.condP rfl ?_ ?_
  rotate_left
  ·intro hc43
   refine SC.skip ?_
   refine SE.inBlock ?_
   refine SE.seq ?_
   refine SC.region ?_
   first
    | refine SL.val (Val.addI rfl rfl (by simp only [InR, lo, hi]; omega)) rfl rfl ?_
    | refine SL.val (Val.addW rfl rfl) rfl rfl ?_
   refine SL.val (Val.move rfl) rfl rfl ?_
   refine SL.nil ?_
   refine SE.round (z.1 + 1, ()) (by first | omega | (dsimp only; omega)) (⟨by dsimp only; omega, by have h := hz.2; dsimp only; rw [sup_step hvl]; have h3 : (if x ∈ l then 1 else 0) ≤ 1 := (by split <;> omega); omega⟩) (by refine ⟨rfl, rfl, ?_, rfl, rfl, rfl, trivial⟩; dsimp only; rw [sup_step hvl, if_neg hc43]; rfl) (by repeat first|exact s0_ _|exact s1_ _|apply s2_|apply s3_)
  intro hc43
  refine SC.region ?_
  refine SL.val (Val.move rfl) rfl rfl ?_
  refine SL.val (Val.to (C := int (((if ownHas om x then 1 else 0) + ((vs.take (z.1 + 1)).filter fun l => decide (x ∈ l)).length) : Nat)) (Val.addI rfl rfl (by simp only [InR, lo, hi]; omega)) (congrArg int (by rw [sup_step hvl, if_pos hc43]; omega))) rfl rfl ?_
  refine SL.val (Val.assign rfl) rfl rfl ?_
  refine SL.nil ?_
  refine SE.inBlock ?_
  refine SE.seq ?_
  refine SC.region ?_
  first
   | refine SL.val (Val.addI rfl rfl (by simp only [InR, lo, hi]; omega)) rfl rfl ?_
   | refine SL.val (Val.addW rfl rfl) rfl rfl ?_
  refine SL.val (Val.move rfl) rfl rfl ?_
  refine SL.nil ?_
  refine SE.round (z.1 + 1, ()) (by first | omega | (dsimp only; omega)) (⟨by dsimp only; omega, by have h := hz.2; dsimp only; rw [sup_step hvl]; have h3 : (if x ∈ l then 1 else 0) ≤ 1 := (by split <;> omega); omega⟩) (by exact ⟨rfl, rfl, rfl, rfl, rfl, rfl, trivial⟩) (by repeat first|exact s0_ _|exact s1_ _|apply s2_|apply s3_)
theorem backward_s  : Spec Try.prog 49 [pntsA l] [] (fun b : Nat => [.blk b 40 [pntsA l]]) (fun b => .fn (.func 55) [] [ptr b]) := by
 refine spec_of Try.func49 rfl Try.ntmps49 rfl fun G w => ?_
 refine SC.seq (SC.region ?_)
 refine SL.eff (Eff.box1 rfl rfl) rfl rfl ?_
 rintro _ _ ⟨b1, rfl, rfl⟩
 refine SL.val (Val.assign rfl) rfl rfl ?_
 refine SL.nil (SE.seq ?_)
 refine SC.seq (SC.region ?_)
 refine SL.val (Val.makeFunc rfl rfl) rfl rfl ?_
 refine SL.val (Val.assign rfl) rfl rfl ?_
 refine SL.nil (SE.seq ?_)
 refine SC.ret ?_
 refine SE.fin (rs := [.tmp 2]) rfl (RV.tmp rfl RV.nil) (b1) (by repeat first|exact s0_ _|exact s1_ _|apply s2_|apply s3_) (by simp [It.rids]) ?_
 exact rfl
end
end Go.Proofs.Ytjbikemecdlolaa.A
/-
  Points: the greatest one that enough support (a range over slices.Backward).
-/
namespace Go.Proofs.Ytjbikemecdlolaa.A
open Go.RowKit

/-! ### Pieces looked at from here; acts with calls that are put off -/
theorem Mem.focus {w0 w : World} {F G : List Nat} {σ σ1 φ : Blks} (hm : Mem w0 F G σ w) (hp : Split σ σ1 φ) : Mem w (mids σ1) (mids φ ++ G) σ1 w ∧ Carry (mids σ ++ G) w (mids σ1 ++ (mids φ ++ G)) w := by
  have hmem : ∀ k, k ∈ mids σ ↔ k ∈ mids σ1 ∨ k ∈ mids φ := fun k => by rw [← hp.perm.mem_iff, List.mem_append]
  have hnd : (mids σ1 ++ mids φ).Nodup := hp.perm.nodup_iff.2 hm.nodup
  obtain ⟨n1, n2, n3⟩ := List.nodup_append.1 hnd
  have hc1 : Carry (mids σ ++ G) w (mids σ1 ++ (mids φ ++ G)) w := Carry.less fun k hk => by
    simp only [List.mem_append] at hk ⊢
    rw [hmem]
    rcases hk with h | h | h
    · exact .inl (.inl h)
    · exact .inl (.inr h)
    · exact .inr h
  refine ⟨⟨Ext.refl w, fun k hk => .inl hk, fun k hk hg => ?_, fun k hk => ?_, fun x hx k hk => ?_, n1, fun x hx => ?_⟩, hc1⟩
  · rcases List.mem_append.1 hg with h | h
    · exact n3 k hk k h rfl
    · exact hm.sep k ((hmem k).2 (.inl hk)) h
  · rcases List.mem_append.1 hk with h | h
    · exact hm.lt k (List.mem_append_left _ ((hmem k).2 (.inr h)))
    · exact hm.old k h
  · rcases hp.sub x hx with ⟨_, h⟩ | ⟨y, hy, rfl⟩
    · rw [h] at hk; cases hk
    · rcases List.mem_append.1 (toRd_rids y k hk) with h | h
      · exact List.mem_append_left _ (mids_mem.2 ⟨y, hy, h⟩)
      · exact List.mem_append_right _ (hm.ro y (hp.rest y hy) k h)
  · rcases hp.sub x hx with ⟨h, _⟩ | ⟨y, hy, rfl⟩
    · exact It.carry (hm.hold x h) hc1 fun _ _ => rfl
    · exact toRd_holds (It.carry (hm.hold y (hp.rest y hy)) hc1 fun _ _ => rfl)
theorem Mem.nil {w0 w : World} {F G : List Nat} (h : Ext F w0 w) (hG : ∀ k ∈ G, k < w.heap.size) : Mem w0 F G [] w := ⟨h, by simp [mids], by simp [mids], hG, by simp, by simp [mids], by simp⟩
/-- The state of a walk whose act bears calls that are put off. -/
def StD (n : Nat) (W : Wd) (σ : Blks) (l : Slots) (ds : List Deferred) (a : Act) (w : World) : Prop := ∃ a0 : Act, a = { a0 with defers := ds } ∧ St n W σ l a0 w
section
variable {P : Program} {n : Nat} {W : Wd} {σ τ : Blks} {l : Slots} {ops : Array Oper} {rest : List Oper} {Q : Exit → Act → World → Prop} {o : Oper} {ds : List Deferred} {y : Abs}
theorem SL.valD (hv : Val P n W σ l [] o y) (hg : gd ops l o = some true) (hd : lt? o.dst n = true) (k : SL P ops rest (StD n W σ (put? l o.dst y) ds) Q) : SL P ops (o :: rest) (StD n W σ l ds) Q := fun a w ⟨a0, ha, hs⟩ => by
  subst ha
  refine wpList_step fun K hK => ?_
  rw [if_pos (show Region.wanted o (yielded ops a0.tmps) = true from hs.wanted hg)]
  obtain ⟨v, hr, hrun⟩ := hv a0 w hs (by simp)
  unfold Oper.wp
  have h2 := hrun w (Ext.refl w)
  rw [show Act.eval { a0 with defers := ds } = a0.eval from rfl, h2]
  refine hK _ _ (k _ _ ⟨a0.put o.dst v, ?_, hs.put hd hr⟩)
  cases o.dst <;> rfl
theorem SL.effD {Y : List Nat} {R : Abs → Blks → Prop} (hv : Eff P n W σ l Y o R) (hg : gd ops l o = some true) (hd : lt? o.dst n = true) (k : ∀ y τ, R y τ → SL P ops rest (StD n W τ (put? l o.dst y) ds) Q) : SL P ops (o :: rest) (StD n W σ l ds) Q := fun a w ⟨a0, ha, hs⟩ => by
  subst ha
  refine wpList_step fun K hK => ?_
  rw [if_pos (show Region.wanted o (yielded ops a0.tmps) = true from hs.wanted hg)]
  unfold Oper.wp
  rw [show Act.eval { a0 with defers := ds } = a0.eval from rfl]
  obtain ⟨v, w', y, τ, hR, _, hr, hm, hc, hrun | ⟨rfl, hrun⟩⟩ := hv a0 w hs
  · rw [hrun]; refine hK _ _ (k _ _ hR _ _ ⟨_, ?_, (hs.to hm hc).put hd hr⟩); cases o.dst <;> rfl
  · rw [hrun]; refine hK _ _ (k _ _ hR _ _ ⟨_, ?_, (hs.to hm hc).put hd hr⟩); cases o.dst <;> rfl
end
theorem ext_grows {F : List Nat} {w W W' : World} {row : Option Nat} (h : Ext F w W) (hg : W.grownBy W' row) (hr : ∀ r, row = some r → w.heap.size ≤ r) : Ext F w W' := ⟨hg.os.trans h.os, hg.tape.trans h.tape, hg.output.trans h.output, Nat.le_trans h.size hg.size, fun k hk hn => (hg.block k (Nat.lt_of_lt_of_le hk h.size) fun e => by have := hr k e.symm; omega).trans (h.block k hk hn)⟩
theorem ext_keeps {F : List Nat} {B : Nat} {W W' : World} (h : Ext F W W') (hF : ∀ k ∈ F, k < B) : KeepsFrom B W W' := ⟨h.size, fun k o hB hk _ => (h.block k (heap_lt hk) fun hm => by have := hF k hm; omega).trans hk⟩
theorem ext_to_below {B : Nat} {W W' : World} (h : Ext [] W W') (hB : B ≤ W.heap.size) : Below B W W' := ⟨h.os, h.tape, h.output, h.size, fun k hk => h.block k (by omega) (by simp)⟩
/-! ### The greatest one, plain -/
theorem bwd_map {β : Type} (xs : List β) : (bwdL xs).map (·.2) = xs.reverse := by
  unfold bwdL
  rw [List.map_reverse, List.map_map]
  congr 1
  have h : ((fun x : Int × β => x.2) ∘ fun x : β × Nat => ((x.2 : Int), x.1)) = Prod.fst := rfl
  rw [h, List.zipIdx_map_fst]
def goodP (om : List (Int × Ow)) (vs : List (List Pnt)) (above at_ : Int) (x : Pnt) : Bool := decide (above < x.seq) && decide (at_ ≤ (supF om vs x : Nat))
/-- Points whose numbers the machine has. -/
abbrev PtI := { p : Pnt // InR .i64 p.seq }
section
variable {om : List (Int × Ow)} {vs : List (List Pnt)} {above at_ : Int} {xs : List PtI} {pre : List (Int × PtI)} {y : Int × PtI}
theorem best_none (h : ∀ y ∈ bwdL xs, goodP om vs above at_ y.2.1 = false) : bestF om vs (xs.map (·.1)) above at_ = none := by
  refine List.find?_eq_none.2 fun x hx => ?_
  rw [← List.map_reverse, ← bwd_map, List.map_map] at hx
  obtain ⟨z, hz, rfl⟩ := List.mem_map.1 hx
  have h2 : goodP om vs above at_ z.2.1 = false := h z hz
  unfold goodP at h2
  dsimp only [Function.comp]
  rw [h2]
  decide
theorem best_some (hp : pre ++ [y] <+: bwdL xs) (h : ∀ z ∈ pre, goodP om vs above at_ z.2.1 = false) (hy : goodP om vs above at_ y.2.1 = true) : bestF om vs (xs.map (·.1)) above at_ = some y.2.1 := by
  obtain ⟨r, hr⟩ := hp
  unfold bestF
  rw [← List.map_reverse, ← bwd_map, ← hr, List.map_append, List.map_append, List.map_append, List.map_append, List.append_assoc, List.find?_append]
  rw [List.find?_eq_none.2 (fun x hx => ?_)]
  · rw [Option.none_or, List.map_cons, List.map_nil, List.map_cons, List.map_nil, List.singleton_append, List.find?_cons]
    unfold goodP at hy
    rw [hy]
  · rw [List.map_map] at hx
    obtain ⟨z, hz, rfl⟩ := List.mem_map.1 hx
    have h2 : goodP om vs above at_ z.2.1 = false := h z hz
    unfold goodP at h2
    dsimp only [Function.comp]
    rw [h2]
    decide
end
theorem attach_in {xs : List Pnt} (h : ∀ x ∈ xs, InR .i64 x.seq) : ∃ ys : List PtI, (ys.map fun x : PtI => x.1) = xs := ⟨xs.attach.map fun x => ⟨x.1, h x.1 x.2⟩, by rw [List.map_map]; exact List.attach_map_subtype_val xs⟩
section
variable {G : List Nat} {w : World} {p : Pnt} {t : Bool} {b8 b9 D : Nat} {a : Act} {W : World}
/-- The way out: the results' cells are read, the mark is taken. -/
theorem best_out {R : Abs} (hs8 : a.tmps[8]? = some (.pointer (some ⟨b8, 0, none⟩))) (hs9 : a.tmps[9]? = some (.pointer (some ⟨b9, 0, none⟩))) (hsz : a.tmps.size = 31) (hx : Ext [] w W) (h8 : W.heap[b8]? = some (row 27 p.cells)) (h9 : W.heap[b9]? = some (row 4 [.bool t]))
    (hne : b8 ≠ b9) (hG : ∀ k ∈ G, k < w.heap.size) (h8G : w.heap.size ≤ b8) (h9G : w.heap.size ≤ b9) (hD : W.heap[D]? = some (.deferred (some []))) (hDw : w.heap.size ≤ D) (hR : Abs.tup [.agg p.abs, boo t] = R) :
    LeavesInM (RF none) 6 Try.prog Try.f32 a.tmps (Post G [] (fun _ : Unit => []) (fun _ => R) w) [{ target := .collected D, args := #[] }] .returning W := by
  refine ⟨by simp, .inl ⟨D, _, rfl, run_takeDeferred hD, ?_⟩⟩
  have hg := grownBy_putObj' W D (.deferred none)
  have hx2 : Ext [] w (W.putObj D (.deferred none)) := ext_grows hx hg fun r hr => by cases hr; exact hDw
  have n8 : b8 ≠ D := fun e => by subst e; rw [hD] at h8; cases h8
  have n9 : b9 ≠ D := fun e => by subst e; rw [hD] at h9; cases h9
  have k8 : (W.putObj D (.deferred none)).heap[b8]? = some (row 27 p.cells) := (hg.block b8 (heap_lt h8) fun e => n8 (by cases e; rfl)).trans h8
  have k9 : (W.putObj D (.deferred none)).heap[b9]? = some (row 4 [.bool t]) := (hg.block b9 (heap_lt h9) fun e => n9 (by cases e; rfl)).trans h9
  have hm : Mem (W.putObj D (.deferred none)) [b8, b9] G [.blk b8 27 p.abs, .blk b9 4 [boo t]] (W.putObj D (.deferred none)) := by
    refine ⟨Ext.refl _, fun k hk => .inl (by simpa [mids, It.mids] using hk), fun k hk hg => ?_, fun k hk => Nat.lt_of_lt_of_le (hG k hk) hx2.size, by simp [It.rids], by simp [mids, It.mids, hne], fun x hx => ?_⟩
    · have := hG k hg
      simp [mids, It.mids] at hk
      omega
    · simp only [List.mem_cons, List.not_mem_nil, or_false] at hx
      rcases hx with rfl | rfl
      · exact ⟨_, k8, by rw [Pnt.abs_cells]; exact reps_plain.2 rfl⟩
      · exact ⟨_, k9, _, _, rfl, rfl, rfl⟩
  have hs : St 31 ⟨W.putObj D (.deferred none), [b8, b9], G⟩ [.blk b8 27 p.abs, .blk b9 4 [boo t]] [(8, ptr b8), (9, ptr b9)] { a with defers := [] } (W.putObj D (.deferred none)) := by
    refine ⟨rfl, hsz, fun i x hx => ?_, hm⟩
    simp only [slot] at hx
    by_cases h1 : 8 = i
    · subst h1; simp at hx; subst hx; exact ⟨_, hs8, rfl⟩
    · rw [beq_ne h1] at hx
      by_cases h2 : 9 = i
      · subst h2; simp at hx; subst hx; exact ⟨_, hs9, rfl⟩
      · rw [beq_ne h2] at hx; cases hx
  obtain ⟨us, h1, h2⟩ := RV.results (rs := [.cell 8 27, .cell 9 4]) (vs := [.agg p.abs, boo t]) (fn := Try.f32) rfl (RV.cell rfl (RV.cellA tabOk rfl rfl (.inl List.mem_cons_self) (Pnt.size p)) (RV.cell rfl (RV.cell1 tabOk rfl (.inl (List.mem_cons_of_mem _ List.mem_cons_self)) rfl) RV.nil)) hs
  refine ⟨_, h2, ⟨(), _, rfl, by simp, Mem.nil hx2 fun k hk => Nat.lt_of_lt_of_le (hG k hk) hx2.size, ?_⟩⟩
  have hc : Carry (mids [.blk b8 27 p.abs, .blk b9 4 [boo t]] ++ G) (W.putObj D (.deferred none)) (mids ([] : Blks) ++ G) (W.putObj D (.deferred none)) := Carry.less fun k hk => List.mem_append_right _ (by simpa [mids] using hk)
  have h3 := ret_rep (reps_carry hc _ _ h1)
  rw [← hR]
  exact h3
end
def ptO (o : Option Pnt) : Pnt := o.getD Pnt.zero
section
variable {n me : Nat} {om : List (Int × Ow)} {vs : List (List Pnt)} {bp bm : Nat} {vv : Value} {who above at_ : Int}
abbrev ptR (n me : Nat) (om : List (Int × Ow)) (vs : List (List Pnt)) (bp bm : Nat) (vv : Value) : Blks := [.rd bp 57 [int (n : Nat), int (me : Nat), mapV bm, .v vv], .rdpc (ownPc 40 1 vv (vs.map fun l => [pntsA l])), .rdpc (tmPc bm intK intOk Ow.enc om)]
/-- The pieces at the loop's head. -/
abbrev bsS (n me : Nat) (om : List (Int × Ow)) (vs : List (List Pnt)) (bp bm : Nat) (vv : Value) (xs : List Pnt) (above at_ : Int) (b4 b6 b7 b8 b9 b15 : Nat) : Blks :=
  .blk b15 40 [pntsA xs] :: .blk b9 4 [boo false] :: .blk b8 27 Pnt.zero.abs :: .blk b7 3 [int at_] :: .blk b6 2 [int above] :: .blk b4 29 [ptr bp] :: ptR n me om vs bp bm vv
abbrev bsL (b4 b6 b7 b8 b9 : Nat) : Slots := [(4, ptr b4), (6, ptr b6), (7, ptr b7), (8, ptr b8), (9, ptr b9)]
theorem bsL_plain {b4 b6 b7 b8 b9 : Nat} : ∀ t x, slot (bsL b4 b6 b7 b8 b9) t = some x → ∃ u, x = .v u := by
  intro t x ht
  simp only [slot] at ht
  repeat' (cases hb9 : Nat.beq _ t <;> rw [hb9] at ht <;> simp only [cond] at ht)
  all_goals first | (cases ht; exact ⟨_, rfl⟩) | cases ht
theorem bsL_plain2 {b4 b6 b7 b8 b9 b11 : Nat} : ∀ t x, slot ((11, ptr b11) :: bsL b4 b6 b7 b8 b9) t = some x → ∃ u, x = .v u := by
  intro t x ht
  simp only [slot] at ht
  repeat' (cases hb9 : Nat.beq _ t <;> rw [hb9] at ht <;> simp only [cond] at ht)
  all_goals first | (cases ht; exact ⟨_, rfl⟩) | cases ht
set_option maxHeartbeats 4000000 in
theorem pbest_s (hok : PtsOk n me om vs) : Spec Try.prog 32 [ptr bp, int who, int above, int at_] (ptR n me om vs bp bm vv) (fun _ : Unit => []) (fun _ => .tup [.agg (ptO (bestF om vs (votesI n me om vs who) above at_)).abs, boo (bestF om vs (votesI n me om vs who) above at_).isSome]) := fun G w vals hm hv => by
  obtain ⟨xs, hxs⟩ : ∃ xs, votesI n me om vs who = xs := ⟨_, rfl⟩
  have hxi := votesI_in hok who
  rw [hxs] at hxi ⊢
  obtain ⟨ys, rfl⟩ := attach_in hxi.1
  have hyl : ys.length ≤ 100000 := by have := hxi.2; rwa [List.length_map] at this
  have hlen := reps_length hv
  refine (callsIn_wide (n := 6)).1 (callsIn_of_wp_marks (F := RF none) (R := Post G [] (fun _ : Unit => []) (fun _ => .tup [.agg (ptO (bestF om vs (ys.map fun x : PtI => x.1) above at_)).abs, boo (bestF om vs (ys.map fun x : PtI => x.1) above at_).isSome]) w) Try.func32 rfl trivial ?_ rfl)
  refine (show RC Try.prog none 6 _ (St 31 ⟨w, [], G⟩ (ptR n me om vs bp bm vv) (args0 [ptr bp, int who, int above, int at_] 0)) _ from ?_) _ w ⟨rfl, ?_, fun t x hx => ?_, hm⟩
  rotate_left
  · simp only [List.length_cons, List.length_nil] at hlen
    simp [Try.ntmps32, hlen]
  · have h1 := (slot_args0 [ptr bp, int who, int above, int at_] 0 t x hx).2
    rw [Nat.sub_zero] at h1
    obtain ⟨u, h2, h3⟩ := reps_get hv h1
    refine ⟨u, ?_, h3⟩
    have hlt : t < vals.length := (List.getElem?_eq_some_iff.1 h2).1
    simp [Array.getElem?_append, hlt]
    exact (List.getElem?_eq_some_iff.1 h2).2
  refine RC.seq (RC.region rfl ?_)
  refine SL.eff (Eff.box1 rfl rfl) rfl rfl ?_
  rintro _ _ ⟨b4, rfl, rfl⟩
  refine SL.eff (Eff.box1 rfl rfl) rfl rfl ?_
  rintro _ _ ⟨b6, rfl, rfl⟩
  refine SL.eff (Eff.box1 rfl rfl) rfl rfl ?_
  rintro _ _ ⟨b7, rfl, rfl⟩
  refine SL.eff (Eff.alloc tabOk rfl) rfl rfl ?_
  rintro _ _ ⟨b8, rfl, rfl⟩
  refine SL.eff (Eff.alloc tabOk rfl) rfl rfl ?_
  rintro _ _ ⟨b9, rfl, rfl⟩
  refine SL.nil (RE.norm (RE.seq ?_))
  refine RC.seq (RC.seq (RC.region rfl ?_))
  refine SL.val (Val.to (C := ptr bp) (Val.load1 tabOk rfl rfl (by repeat first|assumption|exact o0_|exact o1_|apply o2_) List.not_mem_nil (by rfl)) rfl) rfl rfl ?_
  refine SL.val (Val.move rfl) rfl rfl ?_
  refine SL.call (pvotes_s (bm := bm) (vv := vv) hok) Casts.refl (by kernel_rfl) rfl rfl rfl ?_
  refine After.make (by repeat (first | exact Reads.nil | (refine Reads.blk ?_ ?_; focus ((repeat first|assumption|exact m0_|apply m1_); done)) | (refine Reads.rd ?_ ?_; focus ((repeat first|assumption|exact m0_|apply m1_); done)) | (refine Reads.pc ?_ ?_; focus ((repeat first|assumption|exact m0_|apply m1_); done)) | (refine Reads.rdpc ?_ ?_; focus ((repeat first|assumption|exact m0_|apply m1_); done)))) (fun _ => rfl) ?_
  intro r14
  rw [hxs]
  refine SL.freeze [] (t := 14) rfl rfl ?_
  refine SL.call (backward_s (l := ys.map fun x : PtI => x.1)) Casts.refl (by kernel_rfl) rfl rfl rfl ?_
  refine After.make (by repeat (first | exact Reads.nil | (refine Reads.blk ?_ ?_; focus ((repeat first|assumption|exact m0_|apply m1_); done)) | (refine Reads.rd ?_ ?_; focus ((repeat first|assumption|exact m0_|apply m1_); done)) | (refine Reads.pc ?_ ?_; focus ((repeat first|assumption|exact m0_|apply m1_); done)) | (refine Reads.rdpc ?_ ?_; focus ((repeat first|assumption|exact m0_|apply m1_); done)))) (fun _ => rfl) ?_
  intro b15
  refine SL.nil (RE.norm (RE.seq ?_))
  refine RC.block ?_
  intro a1 w1 hs0
  have hs1 : St 31 ⟨w, [], G⟩ (bsS n me om vs bp bm vv (ys.map fun x : PtI => x.1) above at_ b4 b6 b7 b8 b9 b15) ((15, .fn (.func 55) [] [ptr b15]) :: bsL b4 b6 b7 b8 b9) a1 w1 := hs0.sub ⟨rfl, rfl, rfl, rfl, rfl, rfl, trivial⟩
  clear hs0
  obtain ⟨σ, hσ⟩ : ∃ σ, bsS n me om vs bp bm vv (ys.map fun x : PtI => x.1) above at_ b4 b6 b7 b8 b9 b15 = σ := ⟨_, rfl⟩
  have hmids : mids σ = [b15, b9, b8, b7, b6, b4] := by rw [← hσ]; rfl
  rw [hσ] at hs1
  have hx1 : Ext [] w w1 := hs1.mem.ext
  have hlt : ∀ k ∈ mids σ, k < w1.heap.size := fun k hk => hs1.mem.lt k (List.mem_append_left _ hk)
  have hnw : ∀ k ∈ mids σ, w.heap.size ≤ k := fun k hk => (hs1.mem.out k hk).resolve_left (by simp)
  have h8 : b8 < w1.heap.size := hlt _ (by rw [hmids]; simp)
  have h9 : b9 < w1.heap.size := hlt _ (by rw [hmids]; simp)
  have h8w : w.heap.size ≤ b8 := hnw _ (by rw [hmids]; simp)
  have h9w : w.heap.size ≤ b9 := hnw _ (by rw [hmids]; simp)
  have hne : b8 ≠ b9 := by
    have hnd := hs1.mem.nodup
    rw [hmids] at hnd
    simp only [List.nodup_cons, List.mem_cons, not_or] at hnd
    exact fun e => hnd.2.1.1 e.symm
  have hg15 : a1.eval (.tmp 15) = .func (.func 55) #[] #[.pointer (some ⟨b15, 0, none⟩)] := by
    obtain ⟨us, vs', h1, h2, u, us', h3, h4, h5⟩ := hs1.eval (x := .tmp 15) rfl
    have h2 : us = [] := h2
    have h5 : us' = [] := h5
    have h4 : u = _ := h4
    subst h2 h5 h4 h3
    exact h1
  have hrd : Mem w1 [] (mids σ ++ G) [.rd b15 40 [pntsA (ys.map fun x : PtI => x.1)]] w1 := (hs1.mem.focus (Split.rds (ys := [.blk b15 40 [pntsA (ys.map fun x : PtI => x.1)]]) (fun y hy => by rw [List.mem_singleton.1 hy, ← hσ]; exact List.mem_cons_self))).1
  have hsA := hs1.sub (r := bsL b4 b6 b7 b8 b9) ⟨rfl, rfl, rfl, rfl, rfl, trivial⟩
  have e8 : a1.tmps[8]? = some (.pointer (some ⟨b8, 0, none⟩)) := by obtain ⟨u, h1, h2⟩ := hsA.slots 8 _ rfl; rw [show u = _ from h2] at h1; exact h1
  have e9 : a1.tmps[9]? = some (.pointer (some ⟨b9, 0, none⟩)) := by obtain ⟨u, h1, h2⟩ := hsA.slots 9 _ rfl; rw [show u = _ from h2] at h1; exact h1
  refine wpIn_rangeFunc_ownH (F := RF none) (n := 6) rfl (by omega) (gf := 55) (lb := #[.pointer (some ⟨b15, 0, none⟩)]) hg15 trivial (enters_of Try.func55 (by kernel_rfl) rfl)
    (bwd_stops (fun x : PtI => x.1) hrd hyl) belowK_t (belowK_b (Nat.le_refl _)) (Below.refl _ _) (fun _ => rfl)
    (fun pre W => Ext [] w1 W ∧ ∀ y ∈ pre, goodP om vs above at_ y.2.1 = false)
    (fun c pre W => c = .ret ∧ Ext [b8, b9] w1 W ∧ ∃ init y, pre = init ++ [y] ∧ (∀ z ∈ init, goodP om vs above at_ z.2.1 = false) ∧ goodP om vs above at_ y.2.1 = true ∧ W.heap[b8]? = some (row 27 y.2.1.cells) ∧ W.heap[b9]? = some (row 4 [.bool true]))
    (fun s A B r hs hg hr => ⟨ext_grows hs.1 hg fun q hq => (hr q hq).1, hs.2⟩)
    (fun c s A B r hs hg hr => by
      obtain ⟨h1, h2, init, y, h3, h4, h5, h6, h7⟩ := hs
      have hk : ∀ b, b < w1.heap.size → B.heap[b]? = A.heap[b]? := fun b hb => hg.block b (Nat.lt_of_lt_of_le hb h2.size) fun e => by have := (hr b e.symm).1; omega
      exact ⟨h1, ext_grows h2 hg fun q hq => (hr q hq).1, init, y, h3, h4, h5, (hk b8 h8).trans h6, (hk b9 h9).trans h7⟩)
    ⟨Ext.refl _, by simp⟩
    (fun x a' W => ∃ b11, w1.heap.size ≤ b11 ∧ W.heap[b11]? = some (row 27 x.2.1.cells) ∧ a'.defers = [] ∧ a'.tmps.size = 31 ∧ ∀ t y, slot ((11, ptr b11) :: bsL b4 b6 b7 b8 b9) t = some y → ∃ u, a'.tmps[t]? = some u ∧ y = .v u)
    (fun x a' s A B r hs hg hr => by
      obtain ⟨b11, h1, h2, h3⟩ := hs
      refine ⟨b11, h1, (hg.block b11 (heap_lt h2) fun e => ?_).trans h2, h3⟩
      obtain ⟨_, o, h4, h5⟩ := hr b11 e.symm
      rw [h2] at h4
      cases h4
      cases h5)
    ?assign ?body ?done ?stop
  case assign =>
    intro l pre x W K hI hK
    obtain ⟨hxW, hbad⟩ := hI
    have hmW := hs1.mem.same hxW
    have hf := hmW.1.focus (Split.rds (ys := σ) (fun _ h => h))
    have hs2 : St 31 ⟨W, mids (σ.map It.toRd), mids σ ++ G⟩ (σ.map It.toRd) (bsL b4 b6 b7 b8 b9) a1 W := St.world (W' := ⟨W, mids (σ.map It.toRd), mids σ ++ G⟩) hsA ⟨rfl, rfl, rfl, rfl, rfl, trivial⟩ bsL_plain hf.1
    have hs3 := (hs2.put (d := some 16) (y := int x.1) (v := .int .i64 x.1) rfl rfl).put (d := some 17) (y := .agg x.2.1.abs) (v := .agg x.2.1.cells.toArray) rfl ⟨_, rfl, by rw [Pnt.abs_cells]; exact reps_plain.2 rfl⟩
    have hact : ({ tmps := ((#[16, 17] : Array Tmp).zip (encP (fun x : PtI => x.1) x)).foldl (fun t (p, v) => t.setIfInBounds p v) a1.tmps, defers := [] } : Act) = (a1.put (some 16) (.int .i64 x.1)).put (some 17) (.agg x.2.1.cells.toArray) := by
      have hd := hs1.defers
      obtain ⟨t, d⟩ := a1
      subst hd
      simp [encP, Act.put]
    rw [hact]
    refine (show RC Try.prog (some l) 4 _ (St 31 ⟨W, mids (σ.map It.toRd), mids σ ++ G⟩ (σ.map It.toRd) _) _ from ?_) _ _ hs3
    refine RC.region rfl ?_
    refine SL.eff (Eff.alloc tabOk rfl) rfl rfl ?_
    rintro _ _ ⟨b11, rfl, rfl⟩
    refine SL.eff (Eff.store (L' := x.2.1.abs) tabOk rfl rfl rfl (by repeat first|assumption|exact Upd.here|apply Upd.there) (Pnt.size _) (lb_ (by rfl)) (Pnt.ones _) (by exact putL_whole (Pnt.size _))) rfl rfl ?_
    rintro _ _ ⟨rfl, rfl⟩
    refine SL.nil (RE.norm ?_)
    intro a2 w2 hs4
    have hm0 : mids (σ.map It.toRd) = [] := by simp [mids, List.flatMap_map, toRd_mids]
    have hx2 : Ext [] W w2 := by have h := hs4.mem.ext; rw [show (Wd.mk W (mids (σ.map It.toRd)) (mids σ ++ G)).F = [] from hm0] at h; exact h
    have hs5 := hs4.sub (r := (11, ptr b11) :: bsL b4 b6 b7 b8 b9) ⟨rfl, rfl, rfl, rfl, rfl, rfl, trivial⟩
    obtain ⟨us, h5, h6⟩ := hs4.mem.hold _ List.mem_cons_self
    rw [Pnt.abs_cells] at h6
    have h6 := reps_plain.1 h6
    subst h6
    have h7 := hs4.mem.out b11 (by simp [mids_cons, It.mids])
    rw [show (Wd.mk W (mids (σ.map It.toRd)) (mids σ ++ G)).F = [] from hm0] at h7
    have h7 : W.heap.size ≤ b11 := h7.resolve_left (by simp)
    refine hK a2 w2 (ext_keeps hx2 (by simp)) (ext_to_below hx2 hxW.size) ⟨hxW.trans hx2 (by simp), hbad⟩ ⟨b11, Nat.le_trans hxW.size h7, h5, hs4.defers, hs4.size, fun t y hy => ?_⟩
    obtain ⟨u, h8', h9'⟩ := hs5.slots t y hy
    obtain ⟨v, rfl⟩ := bsL_plain2 t y hy
    exact ⟨u, h8', by rw [show u = v from h9']⟩
  case body =>
    intro l pre x a' W hl hrec hI hAx hpn
    obtain ⟨hxW, hbad⟩ := hI
    obtain ⟨b11, hb11, hh11, hd', hsz', hsl'⟩ := hAx
    have hxr := x.2.2
    have hmn := (hs1.mem.new (y := .blk b11 27 x.2.1.abs) hxW (by simp [It.mids]) (by simp [It.mids]; omega) rfl (fun hc => ⟨_, hh11, by rw [Pnt.abs_cells]; exact reps_plain.2 rfl⟩)).1
    have hf := hmn.focus (Split.rds (ys := .blk b11 27 x.2.1.abs :: σ) (fun _ h => h))
    obtain ⟨σB, hσB⟩ : ∃ σB, (It.blk b11 27 x.2.1.abs :: σ).map It.toRd = σB := ⟨_, rfl⟩
    have hm0 : mids σB = [] := by rw [← hσB]; simp [mids, List.flatMap_map, toRd_mids]
    obtain ⟨GB, hGB⟩ : ∃ GB, mids (It.blk b11 27 x.2.1.abs :: σ) ++ G = GB := ⟨_, rfl⟩
    have hfm : Mem W [] GB σB W := by have h := hf.1; rw [hσB, hm0, hGB] at h; exact h
    have hsB : St 31 ⟨W, [], GB⟩ σB ((11, ptr b11) :: bsL b4 b6 b7 b8 b9) a' W := ⟨hd', hsz', fun t y hy => by obtain ⟨u, h1, rfl⟩ := hsl' t y hy; exact ⟨u, h1, rfl⟩, hfm⟩
    clear hf hfm hm0
    rw [← hσ] at hσB
    simp only [List.map_cons, It.toRd, List.map_nil] at hσB
    subst hσB
    refine (show RC Try.prog (some l) 4 _ (St 31 ⟨W, [], GB⟩ _ _) _ from ?_) _ _ hsB
    refine RC.block (RC.seq (RC.draw [] (.q 0 (.q 1 (.q 2 (.q 3 (.q 4 (.q 5 (.q 6 (.q 8 (.e 7 (.q 9 (.q 10 .nil))))))))))) (by kernel_rfl) (by kernel_rfl) (by kernel_rfl) ?_))
    refine SX.val rfl (Val.fieldAddr tabOk rfl rfl rfl rfl rfl) (by simp) rfl rfl ?_
    refine SX.val rfl (Val.to (C := int x.2.1.seq) (Val.load1 tabOk rfl rfl (by repeat first|assumption|exact o0_|exact o1_|apply o2_) List.not_mem_nil (by rfl)) rfl) (by simp) rfl rfl ?_
    refine SX.val rfl (Val.to (C := int above) (Val.load1 tabOk rfl rfl (by repeat first|assumption|exact o0_|exact o1_|apply o2_) List.not_mem_nil (by rfl)) rfl) (by simp) rfl rfl ?_
    refine SX.val rfl (Val.gtI rfl rfl) (by simp) rfl rfl ?_
    refine SX.val rfl (Val.move rfl) (by simp) rfl rfl ?_
    have hno : goodP om vs above at_ x.2.1 = false → ∀ a2 w2, Ext [] W w2 → ownPostG w1.heap.size (Below w1.heap.size) (fun pre W => Ext [] w1 W ∧ ∀ y ∈ pre, goodP om vs above at_ y.2.1 = false) (fun c pre W => c = .ret ∧ Ext [b8, b9] w1 W ∧ ∃ init y, pre = init ++ [y] ∧ (∀ z ∈ init, goodP om vs above at_ z.2.1 = false) ∧ goodP om vs above at_ y.2.1 = true ∧ W.heap[b8]? = some (row 27 y.2.1.cells) ∧ W.heap[b9]? = some (row 4 [.bool true])) (pre ++ [x]) W .normal a2 w2 := fun hb a2 w2 hx2 =>
      ⟨ext_keeps hx2 (by simp), ext_to_below hx2 hxW.size, hxW.trans hx2 (by simp), fun y hy => by
        rcases List.mem_append.1 hy with hy | hy
        · exact hbad y hy
        · rw [List.mem_singleton.1 hy]; exact hb⟩
    refine SX.bothP (t := 22) rfl ?_ ?_
    rotate_left
    · intro hc22
      iterate 3 refine SX.skip rfl rfl rfl ?_
      refine SX.skip' rfl rfl rfl ?_
      refine SX.skip rfl rfl rfl ?_
      refine SX.val rfl (Val.pickF rfl rfl) (by simp) rfl rfl ?_
      refine SX.nil (RE.norm (RE.seq ?_))
      refine RC.cond rfl (fun h => by cases h) (fun _ => RC.skip ?_)
      intro a2 w2 hs6
      exact hno (by unfold goodP; simp only [decide_eq_false (show ¬ above < x.2.1.seq from hc22), Bool.false_and]) a2 w2 hs6.mem.ext
    intro hc22
    refine SX.val rfl (Val.to (C := ptr bp) (Val.load1 tabOk rfl rfl (by repeat first|assumption|exact o0_|exact o1_|apply o2_) List.not_mem_nil (by rfl)) rfl) (by simp) rfl rfl ?_
    refine SX.val rfl (Val.to (C := .agg x.2.1.abs) (Val.loadA tabOk rfl rfl rfl (by repeat first|assumption|exact o0_|exact o1_|apply o2_) List.not_mem_nil (Pnt.size _)) rfl) (by simp) rfl rfl ?_
    refine SX.val rfl (Val.to (C := int at_) (Val.load1 tabOk rfl rfl (by repeat first|assumption|exact o0_|exact o1_|apply o2_) List.not_mem_nil (by rfl)) rfl) (by simp) rfl rfl ?_
    refine SX.call rfl (psup_s (x := x.2.1) (bm := bm) (vv := vv) hok hxr) (by simp [mids, It.mids]) Casts.refl (by kernel_rfl) rfl rfl rfl ?_
    refine ap_ ?_
    intro _
    refine SX.val rfl (Val.geI rfl rfl) (by simp) rfl rfl ?_
    refine SX.val rfl (Val.pickT rfl rfl) (by simp) rfl rfl ?_
    refine SX.nil (RE.norm (RE.seq ?_))
    refine RC.cond rfl (fun h => ?_) (fun h => RC.skip ?_)
    · have hgd : goodP om vs above at_ x.2.1 = true := by unfold goodP; rw [decide_eq_true (show above < x.2.1.seq from hc22), Bool.true_and]; exact h
      intro a2 w2 hs6
      have hx2 : Ext [] W w2 := hs6.mem.ext
      have hs7 := hs6.sub (r := (11, ptr b11) :: bsL b4 b6 b7 b8 b9) ⟨rfl, rfl, rfl, rfl, rfl, rfl, trivial⟩
      have hm8 := (hmn.same hx2).1
      have hsp : Split (It.blk b11 27 x.2.1.abs :: σ) [.blk b9 4 [boo false], .blk b8 27 Pnt.zero.abs, .rd b11 27 x.2.1.abs] (It.blk b11 27 x.2.1.abs :: .blk b15 40 [pntsA (ys.map fun x : PtI => x.1)] :: σ.drop 3) := by
        subst hσ
        refine ⟨?_, fun y hy => ?_, fun y hy => ?_⟩
        · show ([b9, b8] ++ ([b11, b15] ++ [b7, b6, b4])).Perm ([b11, b15] ++ ([b9, b8] ++ [b7, b6, b4]))
          exact List.perm_append_comm_assoc _ _ _
        · simp only [List.mem_cons, List.not_mem_nil, or_false] at hy
          rcases hy with rfl | rfl | rfl
          · exact .inl ⟨by simp, rfl⟩
          · exact .inl ⟨by simp, rfl⟩
          · exact .inr ⟨.blk b11 27 x.2.1.abs, List.mem_cons_self, rfl⟩
        · rcases List.mem_cons.1 hy with rfl | hy
          · exact List.mem_cons_self
          · rcases List.mem_cons.1 hy with rfl | hy
            · exact List.mem_cons_of_mem _ List.mem_cons_self
            · exact List.mem_cons_of_mem _ (List.mem_of_mem_drop hy)
      have hf := (hm8.focus hsp).1
      have hs8 := St.world (W' := ⟨w2, _, _⟩) (l' := (11, ptr b11) :: bsL b4 b6 b7 b8 b9) hs7 ⟨rfl, rfl, rfl, rfl, rfl, rfl, trivial⟩ bsL_plain2 hf
      refine (show RC Try.prog (some l) 4 _ (St 31 _ _ _) _ from ?_) _ _ hs8
      refine RC.seq (RC.region rfl ?_)
      refine SL.val (Val.to (C := .agg x.2.1.abs) (Val.loadA tabOk rfl rfl rfl (by repeat first|assumption|exact o0_|exact o1_|apply o2_) List.not_mem_nil (Pnt.size _)) rfl) rfl rfl ?_
      refine SL.eff (Eff.store (L' := x.2.1.abs) tabOk rfl rfl rfl (by repeat first|assumption|exact Upd.here|apply Upd.there) (Pnt.size _) (lb_ (by rfl)) (Pnt.ones _) (by exact putL_whole (Pnt.size _))) rfl rfl ?_
      rintro _ _ ⟨rfl, rfl⟩
      refine SL.eff (Eff.store (L' := [boo true]) tabOk rfl rfl rfl (by repeat first|assumption|exact Upd.here|apply Upd.there) rfl (lb_ (by rfl)) rfl (by rfl)) rfl rfl ?_
      rintro _ _ ⟨rfl, rfl⟩
      refine SL.nil (RE.norm (RE.seq (RC.ret ?_)))
      intro a3 w3 hs9
      have hx3 : Ext [b9, b8] w2 w3 := hs9.mem.ext
      have hx2' : Ext [b8, b9] W w2 := hx2.mono (G := [b8, b9]) (by simp)
      have hx3' : Ext [b8, b9] w2 w3 := hx3.mono (G := [b8, b9]) (fun k hk => .inl (by simp at hk ⊢; rcases hk with rfl | rfl <;> simp))
      have hx4 : Ext [b8, b9] W w3 := hx2'.trans hx3' (fun k hk => .inl hk)
      have hxW' : Ext [b8, b9] w1 W := hxW.mono (G := [b8, b9]) (by simp)
      obtain ⟨us8, k8, k8'⟩ := hs9.mem.hold (.blk b8 27 x.2.1.abs) (by simp)
      obtain ⟨us9, k9, k9'⟩ := hs9.mem.hold (.blk b9 4 [boo true]) (by simp)
      rw [Pnt.abs_cells] at k8'
      have k8' := reps_plain.1 k8'
      obtain ⟨u9, us9', k10, k11, k12⟩ := k9'
      have k11 : u9 = _ := k11
      have k12 : us9' = [] := k12
      subst k8' k10 k11 k12
      exact ⟨ext_keeps hx4 (by simp; omega), rfl, hxW'.trans hx4 (fun k hk => .inl hk), pre, x, rfl, hbad, hgd, k8, k9⟩
    · intro a2 w2 hs6
      exact hno (by unfold goodP; rw [decide_eq_true (show above < x.2.1.seq from hc22), Bool.true_and]; exact h) a2 w2 hs6.mem.ext
  case done =>
    intro D xs W hD hS hI hK
    obtain ⟨hxW, hbad⟩ := hI
    subst hS
    have hmW := (hs1.mem.same hxW).1
    have hsp : Split σ [.blk b9 4 [boo false], .blk b8 27 Pnt.zero.abs] (.blk b15 40 [pntsA (ys.map fun x : PtI => x.1)] :: σ.drop 3) := by
      subst hσ
      refine ⟨?_, fun y hy => ?_, fun y hy => ?_⟩
      · show ([b9, b8] ++ ([b15] ++ [b7, b6, b4])).Perm ([b15] ++ ([b9, b8] ++ [b7, b6, b4]))
        exact List.perm_append_comm_assoc _ _ _
      · simp only [List.mem_cons, List.not_mem_nil, or_false] at hy
        rcases hy with rfl | rfl
        · exact .inl ⟨by simp, rfl⟩
        · exact .inl ⟨by simp, rfl⟩
      · rcases List.mem_cons.1 hy with rfl | hy
        · exact List.mem_cons_self
        · exact List.mem_of_mem_drop hy
    have hf := (hmW.focus hsp).1
    have hs2 := St.world (W' := ⟨W, _, _⟩) (l' := bsL b4 b6 b7 b8 b9) hsA ⟨rfl, rfl, rfl, rfl, rfl, trivial⟩ bsL_plain hf
    rw [hs1.defers]
    have hd0 : ({ a1 with defers := [{ target := .collected D, args := #[] }] } : Act) = { a1 with defers := [{ target := .collected D, args := #[] }] } := rfl
    refine wpIn_seq (Code.wpIn_mono (fun _ _ _ h => normOf_le h) (wpIn_region_lit (list_in normOf_out rfl ((show SL Try.prog _ _ (StD 31 ⟨W, _, _⟩ _ _ [{ target := .collected D, args := #[] }]) (NormOf _) from ?_) _ _ ⟨a1, rfl, hs2⟩))))
    refine SL.valD (Val.to (C := .agg Pnt.zero.abs) (Val.buildS (ps := []) tabOk rfl rfl rfl rfl) rfl) rfl rfl ?_
    refine SL.effD (Eff.store (L' := Pnt.zero.abs) tabOk rfl rfl rfl (by repeat first|assumption|exact Upd.here|apply Upd.there) (Pnt.size _) (lb_ (by rfl)) (Pnt.ones _) (by exact putL_whole (Pnt.size _))) rfl rfl ?_
    rintro _ _ ⟨rfl, rfl⟩
    refine SL.effD (Eff.store (L' := [boo false]) tabOk rfl rfl rfl (by repeat first|assumption|exact Upd.here|apply Upd.there) rfl (lb_ (by rfl)) rfl (by rfl)) rfl rfl ?_
    rintro _ _ ⟨rfl, rfl⟩
    refine SL.nil ?_
    rintro _ w3 ⟨a3, rfl, hs3⟩
    refine wpIn_ret ?_
    have hx3 : Ext [b9, b8] W w3 := hs3.mem.ext
    obtain ⟨us8, k8, k8'⟩ := hs3.mem.hold (.blk b8 27 Pnt.zero.abs) (by simp)
    obtain ⟨us9, k9, k9'⟩ := hs3.mem.hold (.blk b9 4 [boo false]) (by simp)
    rw [Pnt.abs_cells] at k8'
    have k8' := reps_plain.1 k8'
    obtain ⟨u9, us9', k10, k11, k12⟩ := k9'
    have k11 : u9 = _ := k11
    have k12 : us9' = [] := k12
    subst k8' k10 k11 k12
    have hs4 := hs3.sub (r := bsL b4 b6 b7 b8 b9) ⟨rfl, rfl, rfl, rfl, rfl, trivial⟩
    have f8 : a3.tmps[8]? = some (.pointer (some ⟨b8, 0, none⟩)) := by obtain ⟨u, h1, h2⟩ := hs4.slots 8 _ rfl; rw [show u = _ from h2] at h1; exact h1
    have f9 : a3.tmps[9]? = some (.pointer (some ⟨b9, 0, none⟩)) := by obtain ⟨u, h1, h2⟩ := hs4.slots 9 _ rfl; rw [show u = _ from h2] at h1; exact h1
    have hxa : Ext [] w w3 := (hx1.trans hxW (by simp)).trans hx3 (by intro k hk; simp at hk; rcases hk with rfl | rfl <;> first | exact .inr h9w | exact .inr h8w)
    exact best_out f8 f9 hs3.size hxa k8 k9 hne (fun k hk => Nat.lt_of_lt_of_le (hm.old k hk) (Nat.le_refl _)) h8w h9w ((hx3.block D (heap_lt hK) (by simp; omega)).trans hK) (Nat.le_trans hx1.size hD) (by rw [best_none hbad]; rfl)
  case stop =>
    intro D c pre W hD hSp hI hK
    obtain ⟨rfl, hxW, init, y, rfl, hbad, hgd, k8, k9⟩ := hI
    rw [hs1.defers]
    refine wpIn_ret ?_
    have hxa : Ext [] w W := hx1.trans hxW (by intro k hk; simp at hk; rcases hk with rfl | rfl <;> first | exact .inr h9w | exact .inr h8w)
    exact best_out (a := a1) e8 e9 hs1.size hxa k8 k9 hne (fun k hk => hm.old k hk) h8w h9w hK (Nat.le_trans hx1.size hD) (by rw [best_some hSp hbad hgd]; rfl)
end
end Go.Proofs.Ytjbikemecdlolaa.A
/-
  How many may lie; a quorum.
-/
namespace Go.Proofs.Ytjbikemecdlolaa.A
open Go.RowKit

section
variable {n : Int}
theorem faults_s (hn : n ≤ 1000) : Spec Try.prog 33 [int n] [] (fun _ : Unit => []) (fun _ => int ((max n 1 - 1) / 3)) := by
 refine spec_of Try.func33 rfl Try.ntmps33 rfl fun G w => ?_
 refine SC.seq (SC.region ?_)
 refine SL.val (Val.assign rfl) rfl rfl ?_
 refine SL.nil (SE.seq ?_)
 refine SC.seq (SC.region ?_)
 refine SL.val (Val.move rfl) rfl rfl ?_
 refine SL.val (Val.maxI rfl rfl) rfl rfl ?_
 first
  | refine SL.val (Val.subI rfl rfl (by simp only [InR, lo, hi]; omega)) rfl rfl ?_
  | refine SL.val (Val.subW rfl rfl) rfl rfl ?_
 refine SL.val (Val.quoI rfl rfl (by omega) (by simp only [InR, lo, hi]; omega)) rfl rfl ?_
 refine SL.val (Val.assign rfl) rfl rfl ?_
 refine SL.nil (SE.seq ?_)
 refine SC.ret ?_
 refine SE.fin (rs := [.tmp 2]) rfl (RV.tmp rfl RV.nil) (()) (by repeat first|exact s0_ _|exact s1_ _|apply s2_|apply s3_) (by simp [It.rids]) ?_
 exact rfl
theorem quorum_s (hn : n ≤ 1000) : Spec Try.prog 34 [int n] [] (fun _ : Unit => []) (fun _ => int (2 * ((max n 1 - 1) / 3) + 1)) := by
 refine spec_of Try.func34 rfl Try.ntmps34 rfl fun G w => ?_
 refine SC.seq (SC.region ?_)
 refine SL.val (Val.assign rfl) rfl rfl ?_
 refine SL.nil (SE.seq ?_)
 refine SC.seq (SC.region ?_)
 refine SL.val (Val.move rfl) rfl rfl ?_
 refine SL.call (faults_s hn) Casts.refl (by kernel_rfl) rfl rfl rfl ?_
 refine ap_ ?_
 intro _
 first
  | refine SL.val (Val.mulI rfl rfl (by simp only [InR, lo, hi]; omega)) rfl rfl ?_
  | refine SL.val (Val.mulW rfl rfl) rfl rfl ?_
 first
  | refine SL.val (Val.addI rfl rfl (by simp only [InR, lo, hi]; omega)) rfl rfl ?_
  | refine SL.val (Val.addW rfl rfl) rfl rfl ?_
 refine SL.val (Val.assign rfl) rfl rfl ?_
 refine SL.nil (SE.seq ?_)
 refine SC.ret ?_
 refine SE.fin (rs := [.tmp 2]) rfl (RV.tmp rfl RV.nil) (()) (by repeat first|exact s0_ _|exact s1_ _|apply s2_|apply s3_) (by simp [It.rids]) ?_
 exact rfl
theorem rfaults_s (hn : n ≤ 300) : Spec Try.prog 45 [int n] [] (fun _ : Unit => []) (fun _ => int ((max n 1 - 1) / 3)) := by
 refine spec_of Try.func45 rfl Try.ntmps45 rfl fun G w => ?_
 refine SC.seq (SC.region ?_)
 refine SL.val (Val.assign rfl) rfl rfl ?_
 refine SL.nil (SE.seq ?_)
 refine SC.seq (SC.region ?_)
 refine SL.val (Val.assign rfl) rfl rfl ?_
 refine SL.nil (SE.seq ?_)
 refine SC.seq ?_
 refine SC.block ?_
 refine SC.loop (ι := Nat) (fun z => []) (fun z => [(0, int (n - 3 * (z : Int))), (3, int (z : Nat))]) (fun z => (z : Int) ≤ 100 ∧ (0 < z → 1 ≤ n - 3 * (z : Int))) (fun z => 100 - z) (0) (⟨by decide, by omega⟩) ⟨congrArg (fun q : Int => some (int q)) (by omega : n = n - 3 * ((0 : Nat) : Int)), rfl, trivial⟩ (by repeat first|exact s0_ _|exact s1_ _|apply s2_|apply s3_) ?_
 intro z hz
 refine SC.seq ?_
 refine SC.seq (SC.region ?_)
 refine SL.val (Val.move rfl) rfl rfl ?_
 refine SL.val (Val.geI rfl rfl) rfl rfl ?_
 refine SL.nil (SE.seq ?_)
 refine SC.condP rfl ?_ ?_
 rotate_left
 ·intro hc5
  refine SC.exit ?_
  refine SE.then_ nofun ?_
  refine SE.then_ nofun ?_
  refine SE.exit ?_
  refine SE.seq ?_
  refine SC.seq (SC.region ?_)
  refine SL.val (Val.move rfl) rfl rfl ?_
  refine SL.val (Val.assign rfl) rfl rfl ?_
  refine SL.nil (SE.seq ?_)
  refine SC.ret ?_
  refine SE.fin (rs := [.tmp 2]) rfl (RV.tmp rfl RV.nil) (()) (by repeat first|exact s0_ _|exact s1_ _|apply s2_|apply s3_) (by simp [It.rids]) ?_
  refine congrArg int ?_
  omega
 intro hc5
 refine SC.skip ?_
 refine SE.seq ?_
 refine SC.block ?_
 refine SC.seq (SC.region ?_)
 refine SL.val (Val.move rfl) rfl rfl ?_
 first
  | refine SL.val (Val.subI rfl rfl (by simp only [InR, lo, hi]; omega)) rfl rfl ?_
  | refine SL.val (Val.subW rfl rfl) rfl rfl ?_
 refine SL.val (Val.assign rfl) rfl rfl ?_
 refine SL.nil (SE.seq ?_)
 refine SC.seq (SC.region ?_)
 refine SL.val (Val.move rfl) rfl rfl ?_
 first
  | refine SL.val (Val.addI rfl rfl (by simp only [InR, lo, hi]; omega)) rfl rfl ?_
  | refine SL.val (Val.addW rfl rfl) rfl rfl ?_
 refine SL.val (Val.assign rfl) rfl rfl ?_
 refine SL.nil (SE.seq ?_)
 refine SC.seq (SC.region ?_)
 refine SL.val (Val.move rfl) rfl rfl ?_
 refine SL.val (Val.gtI rfl rfl) rfl rfl ?_
 refine SL.nil (SE.seq ?_)
 refine SC.condP rfl (by intro hc11; exfalso; omega) ?_
 intro hc11
 refine SC.skip ?_
 refine SE.inBlock ?_
 refine SE.round (z + 1) (by first | omega | (dsimp only; omega)) (⟨by omega, fun _ => by omega⟩) ⟨congrArg (fun q : Int => some (int q)) (by omega : n - 3 * (z : Int) - 3 = n - 3 * ((z + 1 : Nat) : Int)), rfl, trivial⟩ (by repeat first|exact s0_ _|exact s1_ _|apply s2_|apply s3_)
end
end Go.Proofs.Ytjbikemecdlolaa.A
/-
  Points: stable, weak.
-/
namespace Go.Proofs.Ytjbikemecdlolaa.A
open Go.RowKit

/-- The greatest point that some honest replica supports: of the first q voters. -/
def weakTo (n me : Nat) (om : List (Int × Ow)) (vs : List (List Pnt)) (above at_ : Int) (q : Nat) : Option Pnt := (List.range q).foldl (fun o (w : Nat) => maxO o (bestF om vs (votesI n me om vs (w : Int)) above at_)) none
theorem weakTo_succ {n me : Nat} {om : List (Int × Ow)} {vs : List (List Pnt)} {above at_ : Int} {q : Nat} : weakTo n me om vs above at_ (q + 1) = maxO (weakTo n me om vs above at_ q) (bestF om vs (votesI n me om vs (q : Int)) above at_) := by
  unfold weakTo
  rw [List.range_succ, List.foldl_append]
  rfl
theorem maxO_yes {o p : Option Pnt} (h1 : p.isSome = true) (h2 : o.isSome = false ∨ (ptO p).seq > (ptO o).seq) : maxO o p = some (ptO p) := by
  cases p with
  | none => cases h1
  | some x =>
    cases o with
    | none => rfl
    | some y =>
      rcases h2 with h2 | h2
      · cases h2
      · exact if_pos (show y.seq < x.seq from h2)
theorem maxO_no {o p : Option Pnt} (h1 : p.isSome = false) : maxO o p = o := by
  cases p with
  | none => cases o <;> rfl
  | some x => cases h1
theorem maxO_less {o p : Option Pnt} (h1 : o.isSome = true) (h2 : ¬ (ptO p).seq > (ptO o).seq) : maxO o p = o := by
  cases p with
  | none => cases o <;> rfl
  | some x =>
    cases o with
    | none => cases h1
    | some y =>
      exact if_neg (show ¬ y.seq < x.seq from h2)
theorem pnt_le (x : Pnt) : 0 + 33 ≤ x.abs.length := by rw [Pnt.size]; omega
section
variable {n me : Nat} {om : List (Int × Ow)} {vs : List (List Pnt)} {bp bm : Nat} {vv : Value} {x : Pnt} {who k low above : Int} {o : Ow} {l : List Pnt}
theorem pstable_s (hok : PtsOk n me om vs) : Spec Try.prog 10 [ptr bp, int above] [.rd bp 57 [int (n : Nat), int (me : Nat), mapV bm, .v vv], .rdpc (ownPc 40 1 vv (vs.map fun l => [pntsA l])), .rdpc (tmPc bm intK intOk Ow.enc om)] (fun _ : Unit => []) (fun _ => .tup [.agg (ptO (bestF om vs (votesI n me om vs (me : Nat)) above (2 * ((max (n : Int) 1 - 1) / 3) + 1))).abs, boo (bestF om vs (votesI n me om vs (me : Nat)) above (2 * ((max (n : Int) 1 - 1) / 3) + 1)).isSome]) := by
 refine spec_of Try.func10 rfl Try.ntmps10 rfl fun G w => ?_
 refine SC.seq (SC.region ?_)
 refine SL.eff (Eff.alloc tabOk rfl) rfl rfl ?_
 rintro _ _ ⟨b4, rfl, rfl⟩
 refine SL.val (Val.assign rfl) rfl rfl ?_
 refine SL.nil (SE.seq ?_)
 refine SC.seq ?_
 refine SC.seq (SC.region ?_)
 refine SL.val (Val.move rfl) rfl rfl ?_
 refine SL.val (Val.eqP rfl rfl (by kernel_rfl)) rfl rfl ?_
 refine SL.nil (SE.seq ?_)
 refine SC.condF rfl ?_
 refine SC.skip ?_
 refine SE.seq ?_
 refine SC.seq ?_
 refine SC.drawS 14 [] (.q 0 (.q 1 (.q 2 (.q 3 (.q 4 (.q 5 (.q 6 (.q 7 (.q 8 (.q 9 (.e 10 (.e 11 (.q 12 (.q 13 .nil)))))))))))))) (.e 14 (.q 15 .nil)) (by kernel_rfl) (by kernel_rfl) ?_
 refine SX.val rfl (Val.move rfl) (by simp) rfl rfl ?_
 refine SX.val rfl (Val.move rfl) (by simp) rfl rfl ?_
 refine SX.val rfl (Val.nilCheck rfl) (by simp) rfl rfl ?_
 refine SX.val rfl (Val.fieldAddr tabOk rfl rfl rfl rfl rfl) (by simp) rfl rfl ?_
 refine SX.val rfl (Val.load1 tabOk rfl rfl (by repeat first|assumption|exact o0_|exact o1_|apply o2_) List.not_mem_nil (by rfl)) (by simp) rfl rfl ?_
 refine SX.val rfl (Val.move rfl) (by simp) rfl rfl ?_
 refine SX.val rfl (Val.move rfl) (by simp) rfl rfl ?_
 refine SX.val rfl (Val.nilCheck rfl) (by simp) rfl rfl ?_
 refine SX.val rfl (Val.fieldAddr tabOk rfl rfl rfl rfl rfl) (by simp) rfl rfl ?_
 refine SX.val rfl (Val.load1 tabOk rfl rfl (by repeat first|assumption|exact o0_|exact o1_|apply o2_) List.not_mem_nil (by rfl)) (by simp) rfl rfl ?_
 refine SX.call rfl (quorum_s (n := (n : Int)) (by have := hok.n7; omega)) (by simp [mids, It.mids]) Casts.refl (by kernel_rfl) rfl rfl rfl ?_
 refine ap_ ?_
 intro _
 refine SX.call rfl (pbest_s (bm := bm) (vv := vv) (who := (me : Int)) (above := above) (at_ := 2 * ((max (n : Int) 1 - 1) / 3) + 1) hok) (by simp [mids, It.mids]) Casts.refl (by kernel_rfl) rfl rfl rfl ?_
 refine ap_ ?_
 intro _
 refine SX.val rfl (Val.extract rfl rfl) (by simp) rfl rfl ?_
 refine SX.val rfl (Val.extract rfl rfl) (by simp) rfl rfl ?_
 refine SX.nil ?_
 refine SE.rest [b4] ?_
 refine SX.eff rfl (Eff.store (L' := (ptO (bestF om vs (votesI n me om vs (me : Nat)) above (2 * ((max (n : Int) 1 - 1) / 3) + 1))).abs) tabOk rfl rfl rfl (by repeat first|assumption|exact Upd.here|apply Upd.there) (Pnt.size _) (lb_ (by rfl)) (Pnt.ones _) (by exact putL_whole (Pnt.size _))) (by simp) rfl rfl ?_
 rintro _ _ ⟨rfl, rfl⟩
 refine SX.hx (by first|(simp[mids,It.mids,ownPc];done)|(intro k hk;simp[mids,It.mids,ownPc] at hk ⊢;grind)) fun hx9 => ?_
 refine SX.val rfl (Val.assign rfl) hx9 rfl rfl ?_
 refine SX.nil (SE.seq ?_)
 refine SC.ret ?_
 refine SE.fin (rs := [.cell 4 27, .tmp 5]) rfl (RV.cell rfl (RV.cellA tabOk rfl rfl (by repeat first|assumption|exact o0_|exact o1_|apply o2_) (Pnt.size _)) (RV.tmp rfl RV.nil)) (()) (by repeat first|exact s0_ _|exact s1_ _|apply s2_|apply s3_) (by simp [It.rids]) ?_
 exact rfl
set_option maxHeartbeats 2000000 in
theorem pweak_s (hok : PtsOk n me om vs) : Spec Try.prog 9 [ptr bp, int above] [.rd bp 57 [int (n : Nat), int (me : Nat), mapV bm, .v vv], .rdpc (ownPc 40 1 vv (vs.map fun l => [pntsA l])), .rdpc (tmPc bm intK intOk Ow.enc om)] (fun _ : Unit => []) (fun _ => .tup [.agg (ptO (weakTo n me om vs above ((max (n : Int) 1 - 1) / 3 + 1) n)).abs, boo (weakTo n me om vs above ((max (n : Int) 1 - 1) / 3 + 1) n).isSome]) := by
 refine spec_of Try.func9 rfl Try.ntmps9 rfl fun G w => ?_
 refine SC.seq (SC.region ?_)
 refine SL.eff (Eff.alloc tabOk rfl) rfl rfl ?_
 rintro _ _ ⟨b4, rfl, rfl⟩
 refine SL.val (Val.assign rfl) rfl rfl ?_
 refine SL.nil (SE.seq ?_)
 refine SC.seq ?_
 refine SC.seq (SC.region ?_)
 refine SL.val (Val.move rfl) rfl rfl ?_
 refine SL.val (Val.eqP rfl rfl (by kernel_rfl)) rfl rfl ?_
 refine SL.nil (SE.seq ?_)
 refine SC.condF rfl ?_
 refine SC.skip ?_
 refine SE.seq ?_
 refine SC.seq ?_
 refine SC.seq (SC.region ?_)
 refine SL.val (Val.move rfl) rfl rfl ?_
 refine SL.val (Val.nilCheck rfl) rfl rfl ?_
 refine SL.val (Val.fieldAddr tabOk rfl rfl rfl rfl rfl) rfl rfl ?_
 refine SL.val (Val.load1 tabOk rfl rfl (by repeat first|assumption|exact o0_|exact o1_|apply o2_) List.not_mem_nil (by rfl)) rfl rfl ?_
 refine SL.val (Val.move rfl) rfl rfl ?_
 refine SL.nil (SE.seq ?_)
 refine SC.block ?_
 have hn7 := hok.n7
 refine SC.loop (ι := Nat × Unit) (fun z => [.blk b4 27 (ptO (weakTo n me om vs above ((max (n : Int) 1 - 1) / 3 + 1) z.1)).abs, .rd bp 57 [int (n : Nat), int (me : Nat), mapV bm, .v vv], .rdpc (ownPc 40 1 vv (vs.map fun l => [pntsA l])), .rdpc (tmPc bm intK intOk Ow.enc om)]) (fun z => [(0, ptr bp), (1, int above), (4, ptr b4), (5, boo (weakTo n me om vs above ((max (n : Int) 1 - 1) / 3 + 1) z.1).isSome), (15, int (n : Nat)), (16, int (z.1 : Nat))]) (fun z => z.1 ≤ n) (fun z => n - z.1) (0, ()) (Nat.zero_le _) (by exact ⟨rfl, rfl, rfl, rfl, rfl, rfl, trivial⟩) (by repeat first|exact s0_ _|exact s1_ _|apply s2_|apply s3_) ?_
 intro z hz
 refine SC.seq (SC.region ?_)
 refine SL.val (Val.ltI rfl rfl) rfl rfl ?_
 refine SL.nil (SE.seq ?_)
 refine SC.seq ?_
 refine SC.condP rfl ?_ ?_
 rotate_left
 ·intro hc17
  have hze : z.1 = n := by omega
  refine SC.exit ?_
  refine SE.then_ nofun ?_
  refine SE.then_ nofun ?_
  refine SE.exit ?_
  refine SE.seq ?_
  refine SC.seq (SC.region ?_)
  refine SL.val (Val.to (C := .agg (ptO (weakTo n me om vs above ((max (n : Int) 1 - 1) / 3 + 1) z.1)).abs) (Val.loadA tabOk rfl rfl rfl (by repeat first|assumption|exact o0_|exact o1_|apply o2_) List.not_mem_nil (Pnt.size _)) rfl) rfl rfl ?_
  refine SL.val (Val.move rfl) rfl rfl ?_
  refine SL.eff (Eff.store (L' := (ptO (weakTo n me om vs above ((max (n : Int) 1 - 1) / 3 + 1) z.1)).abs) tabOk rfl rfl rfl (by repeat first|assumption|exact Upd.here|apply Upd.there) (Pnt.size _) (pnt_le _) (Pnt.ones _) (by exact putL_whole ((Pnt.size _).trans (Pnt.size _).symm))) rfl rfl ?_
  rintro _ _ ⟨rfl, rfl⟩
  refine SL.val (Val.assign rfl) rfl rfl ?_
  refine SL.nil (SE.seq ?_)
  refine SC.ret ?_
  refine SE.fin (rs := [.cell 4 27, .tmp 5]) rfl (RV.cell rfl (RV.cellA tabOk rfl rfl (by repeat first|assumption|exact o0_|exact o1_|apply o2_) (Pnt.size _)) (RV.tmp rfl RV.nil)) (()) (by repeat first|exact s0_ _|exact s1_ _|apply s2_|apply s3_) (by simp [It.rids]) ?_
  rw [hze]
  rfl
 intro hc17
 have hlt : z.1 < n := by omega
 refine SC.skip ?_
 refine SE.seq ?_
 refine SC.seq ?_
 refine SC.block ?_
 refine SC.seq (SC.region ?_)
 refine SL.val (Val.move rfl) rfl rfl ?_
 refine SL.val (Val.assign rfl) rfl rfl ?_
 refine SL.nil (SE.seq ?_)
 refine SC.seq (SC.region ?_)
 iterate 4 refine SL.val (Val.move rfl) rfl rfl ?_
 refine SL.val (Val.nilCheck rfl) rfl rfl ?_
 refine SL.val (Val.fieldAddr tabOk rfl rfl rfl rfl rfl) rfl rfl ?_
 refine SL.val (Val.load1 tabOk rfl rfl (by repeat first|assumption|exact o0_|exact o1_|apply o2_) List.not_mem_nil (by rfl)) rfl rfl ?_
 refine SL.call (faults_s (n := (n : Int)) (by have := hok.n7; omega)) Casts.refl (by kernel_rfl) rfl rfl rfl ?_
 refine ap_ ?_
 intro _
 refine SL.val (Val.addI rfl rfl (by have := hok.n7; simp only [InR, lo, hi]; omega)) rfl rfl ?_
 refine SL.call (pbest_s (bm := bm) (vv := vv) (who := (z.1 : Int)) (above := above) (at_ := (max (n : Int) 1 - 1) / 3 + 1) hok) Casts.refl (by kernel_rfl) rfl rfl rfl ?_
 refine ap_ ?_
 intro _
 refine SL.val (Val.move rfl) rfl rfl ?_
 refine SL.val (Val.extract rfl rfl) rfl rfl ?_
 refine SL.val (Val.extract rfl rfl) rfl rfl ?_
 refine SL.eff (Eff.alloc tabOk rfl) rfl rfl ?_
 rintro _ _ ⟨b7, rfl, rfl⟩
 refine SL.eff (Eff.store (L' := (ptO (bestF om vs (votesI n me om vs (z.1 : Nat)) above ((max (n : Int) 1 - 1) / 3 + 1))).abs) tabOk rfl rfl rfl (by repeat first|assumption|exact Upd.here|apply Upd.there) (Pnt.size _) (lb_ (by rfl)) (Pnt.ones _) (by exact putL_whole (Pnt.size _))) rfl rfl ?_
 rintro _ _ ⟨rfl, rfl⟩
 refine SL.val (Val.assign rfl) rfl rfl ?_
 refine SL.nil (SE.seq ?_)
 refine SC.seq (SC.region ?_)
 iterate 2 refine SL.val (Val.move rfl) rfl rfl ?_
 refine SL.both (t := 33) rfl ?_ ?_
 rotate_left
 ·intro hc33
  have e8 : (weakTo n me om vs above ((max (n : Int) 1 - 1) / 3 + 1) (z.1 + 1)) = (weakTo n me om vs above ((max (n : Int) 1 - 1) / 3 + 1) z.1) := weakTo_succ.trans (maxO_no hc33)
  iterate 9 refine SL.skip rfl rfl ?_
  refine SL.val (Val.pickF rfl rfl) rfl rfl ?_
  refine SL.nil (SE.seq ?_)
  refine SC.condF rfl ?_
  refine SC.skip ?_
  refine SE.inBlock ?_
  refine SE.seq ?_
  refine SC.region ?_
  first
   | refine SL.val (Val.addI rfl rfl (by simp only [InR, lo, hi]; omega)) rfl rfl ?_
   | refine SL.val (Val.addW rfl rfl) rfl rfl ?_
  refine SL.val (Val.move rfl) rfl rfl ?_
  refine SL.nil ?_
  refine SE.round (z.1 + 1, ()) (by first | omega | (dsimp only; omega)) ((by dsimp only; omega)) (by refine ⟨rfl, rfl, rfl, ?_, rfl, rfl, trivial⟩; dsimp only; rw [e8]; rfl) (by dsimp only; rw [e8]; repeat (first | exact List.nil_sublist _ | exact List.Sublist.refl _ | apply List.Sublist.cons_cons | apply List.Sublist.cons))
 intro hc33
 refine SL.val (Val.move rfl) rfl rfl ?_
 refine SL.val (Val.notB rfl) rfl rfl ?_
 refine SL.val (Val.move rfl) rfl rfl ?_
 refine SL.both (t := 36) rfl ?_ ?_
 ·intro hc36
  have e8 : (weakTo n me om vs above ((max (n : Int) 1 - 1) / 3 + 1) (z.1 + 1)) = some (ptO (bestF om vs (votesI n me om vs (z.1 : Nat)) above ((max (n : Int) 1 - 1) / 3 + 1))) := weakTo_succ.trans (maxO_yes hc33 (.inl (by simpa using hc36)))
  iterate 5 refine SL.skip rfl rfl ?_
  refine SL.val (Val.pickT rfl rfl) rfl rfl ?_
  refine SL.val (Val.pickT rfl rfl) rfl rfl ?_
  refine SL.nil (SE.seq ?_)
  refine SC.condT rfl ?_
  refine SC.region ?_
  refine SL.val (Val.to (C := .agg (ptO (bestF om vs (votesI n me om vs (z.1 : Nat)) above ((max (n : Int) 1 - 1) / 3 + 1))).abs) (Val.loadA tabOk rfl rfl rfl (by repeat first|assumption|exact o0_|exact o1_|apply o2_) List.not_mem_nil (Pnt.size _)) rfl) rfl rfl ?_
  refine SL.eff (Eff.store (L' := (ptO (bestF om vs (votesI n me om vs (z.1 : Nat)) above ((max (n : Int) 1 - 1) / 3 + 1))).abs) tabOk rfl rfl rfl (by repeat first|assumption|exact Upd.here|apply Upd.there) (Pnt.size _) (pnt_le _) (Pnt.ones _) (by exact putL_whole ((Pnt.size _).trans (Pnt.size _).symm))) rfl rfl ?_
  rintro _ _ ⟨rfl, rfl⟩
  refine SL.val (Val.assign rfl) rfl rfl ?_
  refine SL.nil ?_
  refine SE.inBlock ?_
  refine SE.seq ?_
  refine SC.region ?_
  first
   | refine SL.val (Val.addI rfl rfl (by simp only [InR, lo, hi]; omega)) rfl rfl ?_
   | refine SL.val (Val.addW rfl rfl) rfl rfl ?_
  refine SL.val (Val.move rfl) rfl rfl ?_
  refine SL.nil ?_
  refine SE.round (z.1 + 1, ()) (by first | omega | (dsimp only; omega)) ((by dsimp only; omega)) (by refine ⟨rfl, rfl, rfl, ?_, rfl, rfl, trivial⟩; dsimp only; rw [e8]; rfl) (by dsimp only; rw [e8]; repeat (first | exact List.nil_sublist _ | exact List.Sublist.refl _ | apply List.Sublist.cons_cons | apply List.Sublist.cons))
 intro hc36
 refine SL.val (Val.fieldAddr tabOk rfl rfl rfl rfl rfl) rfl rfl ?_
 refine SL.val (Val.to (C := int (ptO (bestF om vs (votesI n me om vs (z.1 : Nat)) above ((max (n : Int) 1 - 1) / 3 + 1))).seq) (Val.load1 tabOk rfl rfl (by repeat first|assumption|exact o0_|exact o1_|apply o2_) List.not_mem_nil (by rfl)) rfl) rfl rfl ?_
 refine SL.val (Val.fieldAddr tabOk rfl rfl rfl rfl rfl) rfl rfl ?_
 refine SL.val (Val.to (C := int (ptO (weakTo n me om vs above ((max (n : Int) 1 - 1) / 3 + 1) z.1)).seq) (Val.load1 tabOk rfl rfl (by repeat first|assumption|exact o0_|exact o1_|apply o2_) List.not_mem_nil (by rfl)) rfl) rfl rfl ?_
 refine SL.val (Val.gtI rfl rfl) rfl rfl ?_
 refine SL.val (Val.pickF rfl rfl) rfl rfl ?_
 refine SL.val (Val.pickT rfl rfl) rfl rfl ?_
 refine SL.nil (SE.seq ?_)
 refine SC.condP rfl ?_ ?_
 rotate_left
 ·intro hc43
  have e8 : (weakTo n me om vs above ((max (n : Int) 1 - 1) / 3 + 1) (z.1 + 1)) = (weakTo n me om vs above ((max (n : Int) 1 - 1) / 3 + 1) z.1) := weakTo_succ.trans (maxO_less (by simpa using hc36) hc43)
  refine SC.skip ?_
  refine SE.inBlock ?_
  refine SE.seq ?_
  refine SC.region ?_
  first
   | refine SL.val (Val.addI rfl rfl (by simp only [InR, lo, hi]; omega)) rfl rfl ?_
   | refine SL.val (Val.addW rfl rfl) rfl rfl ?_
  refine SL.val (Val.move rfl) rfl rfl ?_
  refine SL.nil ?_
  refine SE.round (z.1 + 1, ()) (by first | omega | (dsimp only; omega)) ((by dsimp only; omega)) (by refine ⟨rfl, rfl, rfl, ?_, rfl, rfl, trivial⟩; dsimp only; rw [e8]; rfl) (by dsimp only; rw [e8]; repeat (first | exact List.nil_sublist _ | exact List.Sublist.refl _ | apply List.Sublist.cons_cons | apply List.Sublist.cons))
 intro hc43
 have e8 : (weakTo n me om vs above ((max (n : Int) 1 - 1) / 3 + 1) (z.1 + 1)) = some (ptO (bestF om vs (votesI n me om vs (z.1 : Nat)) above ((max (n : Int) 1 - 1) / 3 + 1))) := weakTo_succ.trans (maxO_yes hc33 (.inr hc43))
 refine SC.region ?_
 refine SL.val (Val.to (C := .agg (ptO (bestF om vs (votesI n me om vs (z.1 : Nat)) above ((max (n : Int) 1 - 1) / 3 + 1))).abs) (Val.loadA tabOk rfl rfl rfl (by repeat first|assumption|exact o0_|exact o1_|apply o2_) List.not_mem_nil (Pnt.size _)) rfl) rfl rfl ?_
 refine SL.eff (Eff.store (L' := (ptO (bestF om vs (votesI n me om vs (z.1 : Nat)) above ((max (n : Int) 1 - 1) / 3 + 1))).abs) tabOk rfl rfl rfl (by repeat first|assumption|exact Upd.here|apply Upd.there) (Pnt.size _) (pnt_le _) (Pnt.ones _) (by exact putL_whole ((Pnt.size _).trans (Pnt.size _).symm))) rfl rfl ?_
 rintro _ _ ⟨rfl, rfl⟩
 refine SL.val (Val.assign rfl) rfl rfl ?_
 refine SL.nil ?_
 refine SE.inBlock ?_
 refine SE.seq ?_
 refine SC.region ?_
 first
  | refine SL.val (Val.addI rfl rfl (by simp only [InR, lo, hi]; omega)) rfl rfl ?_
  | refine SL.val (Val.addW rfl rfl) rfl rfl ?_
 refine SL.val (Val.move rfl) rfl rfl ?_
 refine SL.nil ?_
 refine SE.round (z.1 + 1, ()) (by first | omega | (dsimp only; omega)) ((by dsimp only; omega)) (by refine ⟨rfl, rfl, rfl, ?_, rfl, rfl, trivial⟩; dsimp only; rw [e8]; rfl) (by dsimp only; rw [e8]; repeat (first | exact List.nil_sublist _ | exact List.Sublist.refl _ | apply List.Sublist.cons_cons | apply List.Sublist.cons))
end
end Go.Proofs.Ytjbikemecdlolaa.A
/-
  What maps.DeleteFunc leaves, plain.
-/
namespace Go.Proofs.Ytjbikemecdlolaa.A
open Go.RowKit

theorem opt_some {α : Type} {o : Option α} (h : o.isSome = true) : ∃ v, o = some v := Option.isSome_iff_exists.1 h
theorem opt_none {α : Type} {o : Option α} (h : o.isSome = false) : o = none := by simpa using h
section
variable {β : Type} {tm z : List (Int × (Value × β))} {rest : List (Int × Value)} {keep : Int × β → Bool} {p : Int × Value} {x : β}
/-- What is left: what is kept, and what is still to come. -/
def leftM (keep : Int × β → Bool) (tm : List (Int × (Value × β))) (rest : List (Int × Value)) : List (Int × (Value × β)) := tm.filter fun e => keep (e.1, e.2.2) || decide (e.1 ∈ rest.map (·.1))
theorem left_start : tm = leftM keep tm (rawM tm) := by
  unfold leftM
  refine (List.filter_eq_self.2 fun e he => ?_).symm
  rw [rawM_keys]
  simp only [Bool.or_eq_true, decide_eq_true_eq]
  exact .inr (List.mem_map.2 ⟨e, he, rfl⟩)
theorem left_end : plM (leftM keep tm []) = (plM tm).filter keep := by
  unfold leftM plM
  rw [List.filter_map]
  congr 1
  refine List.filter_congr fun e _ => ?_
  simp [Function.comp]
theorem raw_in (h : p ∈ rawM tm) : ∃ x, (p.1, (p.2, x)) ∈ tm := by
  obtain ⟨e, he, rfl⟩ := List.mem_map.1 h
  exact ⟨e.2.2, he⟩
theorem keys_one (hn : (tm.map (·.1)).Nodup) {e : Int × (Value × β)} (he : e ∈ tm) (hx : (p.1, (p.2, x)) ∈ tm) (h : e.1 = p.1) : e = (p.1, (p.2, x)) := by
  induction tm with
  | nil => cases he
  | cons d tm ih =>
    rw [List.map_cons, List.nodup_cons] at hn
    rcases List.mem_cons.1 he with rfl | he
    · rcases List.mem_cons.1 hx with h2 | h2
      · exact h2.symm
      · exact absurd (List.mem_map.2 ⟨_, h2, h.symm⟩) hn.1
    · rcases List.mem_cons.1 hx with h2 | h2
      · rw [← h2] at hn
        exact absurd (List.mem_map.2 ⟨e, he, h⟩) hn.1
      · exact ih hn.2 he h2
theorem left_del (hn : (tm.map (·.1)).Nodup) (hx : (p.1, (p.2, x)) ∈ tm) (hz : z = leftM keep tm rest) (hk : keep (p.1, x) = false) : adel z p.1 = leftM keep tm (rest.filter fun q => decide (q.1 ≠ p.1)) := by
  subst hz
  unfold adel leftM
  rw [List.filter_filter]
  refine List.filter_congr fun e he => ?_
  by_cases h : e.1 = p.1
  · have h2 := keys_one hn he hx h
    subst h2
    rw [hk]
    simp
  · have h3 : (e.1 ∈ (rest.filter fun q => decide (q.1 ≠ p.1)).map (·.1)) ↔ e.1 ∈ rest.map (·.1) := by
      simp only [List.mem_map, List.mem_filter, decide_eq_true_eq]
      exact ⟨fun ⟨q, hq, h4⟩ => ⟨q, hq.1, h4⟩, fun ⟨q, hq, h4⟩ => ⟨q, ⟨hq, fun h5 => h (h4 ▸ h5)⟩, h4⟩⟩
    simp only [h3, h, ne_eq, not_false_eq_true, decide_true, Bool.true_and]
theorem left_keep (hn : (tm.map (·.1)).Nodup) (hx : (p.1, (p.2, x)) ∈ tm) (hz : z = leftM keep tm rest) (hk : keep (p.1, x) = true) : z = leftM keep tm (rest.filter fun q => decide (q.1 ≠ p.1)) := by
  subst hz
  unfold leftM
  refine List.filter_congr fun e he => ?_
  by_cases h : e.1 = p.1
  · have h2 := keys_one hn he hx h
    subst h2
    rw [hk]
    simp
  · have h3 : (e.1 ∈ (rest.filter fun q => decide (q.1 ≠ p.1)).map (·.1)) ↔ e.1 ∈ rest.map (·.1) := by
      simp only [List.mem_map, List.mem_filter, decide_eq_true_eq]
      exact ⟨fun ⟨q, hq, h4⟩ => ⟨q, hq.1, h4⟩, fun ⟨q, hq, h4⟩ => ⟨q, ⟨hq, fun h5 => h (h4 ▸ h5)⟩, h4⟩⟩
    simp only [h3]
theorem adel_twice {γ : Type} {rest : List (Int × γ)} {a : Int} : adel (rest.filter fun q => decide (q.1 ≠ a)) a = rest.filter fun q => decide (q.1 ≠ a) := by
  unfold adel
  rw [List.filter_filter]
  simp
/-- The range is over: a map of trees again. -/
theorem SE.dfEnd {n : Nat} {W : Wd} {σ : Blks} {l : Slots} {ex : Exit} {Q : Exit → Act → World → Prop} {b r : Nat} {enc : β → Abs} {m : List (Int × β)} {cur : Option (Int × Value)} (hz : z = leftM keep tm []) (htm : plM tm = m) (k : SE ex (St n W (.pc (tmPc b intK intOk enc (m.filter keep)) :: σ) l) Q) : SE ex (St n W (facts (facM enc tm) :: .pc (rngPc b r intK id intOk (rawM z) rest cur) :: σ) l) Q := fun ac w hs => by
  obtain ⟨hne, es, clock, since, seen, c0, h⟩ : (rngPc b r intK id intOk (rawM z) rest cur).p _ w := hs.mem.hold (.pc (rngPc b r intK id intOk (rawM z) rest cur)) (by simp)
  have h4 := hs.mem.upd (x := .pc (rngPc b r intK id intOk (rawM z) rest cur)) (y := .pc (mapPc b intK id intOk (rawM z))) (.there .here) (Ext.refl w) (by simp [It.mids, mapPc]) (fun k hk => .inl (by simp [It.mids, mapPc, rngPc] at hk ⊢; exact .inl hk)) rfl (fun _ => h.map)
  have h5 := hs.to h4.1 h4.2
  have hsub : ∀ y ∈ facM enc z, y ∈ facM enc tm := facM_sub fun e he => by rw [hz] at he; exact (List.mem_filter.1 he).1
  have h6 : St n W (facts (facM enc z) :: .pc (mapPc b intK id intOk (rawM z)) :: σ) l ac w := St.re (α := []) (xs := [facts (facM enc tm)]) (ys := [facts (facM enc z)]) (Re.factsLess hsub) rfl rfl h5
  have hp : plM z = m.filter keep := by rw [hz, left_end, htm]
  exact k ac w (St.re (α := []) (xs := [facts (facM enc z), .pc (mapPc b intK id intOk (rawM z))]) (ys := [.pc (tmPc b intK intOk enc (m.filter keep))]) (Re.tmIn hp) rfl rfl h6)
end
end Go.Proofs.Ytjbikemecdlolaa.A
