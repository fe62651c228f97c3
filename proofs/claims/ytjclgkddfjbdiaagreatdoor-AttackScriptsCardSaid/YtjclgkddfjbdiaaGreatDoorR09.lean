/-
  Packed out of the texts: ClB, PT2, PT3, Lay, Iter, PT4, PT5, Bst, FQ, PT6, AN12, AN13, AN14.
-/
import Derived.Test.YtjclgkddfjbdiaaGreatDoorR08
import Derived.Shelf.SlIterI.Nil
import Derived.Shelf.SlIterI.Sorted
import Derived.Shelf.SortM.Plain
import Derived.Shelf.SortM.SortNone
import Derived.Test.YtjclgkddfjbdiaaGreatDoorProg
set_option maxRecDepth 100000
set_option linter.unusedSimpArgs false
set_option linter.unusedVariables false
namespace Go.Proofs.YtjclgkddfjbdiaaGreatDoor.A
open Go.RowKit
theorem le_ {xs : List (List Abs)} (h1 : ∀ c ∈ xs, ones c = true) (hn : xs.length ≤ 1000000) : Spec Tryz.prog 74 [.sl 1 xs] [] (fun _ : Unit => []) (fun _ => .sl 1 xs) := by
 refine t_ Tryz.func74 rfl Tryz.ntmps74 rfl fun G w =>c_<|a_<|q_ 1 rfl<|d_<|b_<|c_<|c_<|a_<|q_ 1 rfl<|bW_ Tryz.underlying39 rfl rfl rfl<|fun b hb=>d_<|b_<|ar_ rfl ?_ ?_
 ·intro hc4
  have hnil : xs = [] := hb hc4
  subst hnil
  refine c_<|a_<|q_ 1 rfl<|d_<|b_<|k_<|j_ nofun<|cL_ (rs := [.tmp 2]) rfl (RV.tmp rfl RV.nil) (Casts.nils (s := 1) Casts.refl) () sn_ (by simp [It.rids]) rfl
 intro hc4
 refine o_<|b_<|c_<|a_<|eb_ (aA_ tabOk Tryz.underlying39 rfl rfl rfl rfl rfl rfl rfl) rfl rfl fun r5=>?_
 refine q_ 1 rfl<|eb_ (K_ (zs := xs) tabOk [] rfl Tryz.underlying39 rfl rfl rfl rfl rfl rfl h1 (by unfold maxLen; simp only [List.length_nil]; omega) (by rw [show Tryz.prog.bytesOf 5 = 1 by kernel_rfl]; simp only [List.length_nil]; omega)) rfl rfl fun r7=>?_
 exact q_ 1 rfl<|d_<|b_<|k_<|aT_ [] (t := 2) rfl rfl<|f_ (rs := [.tmp 2]) rfl (RV.tmp rfl RV.nil) (()) sn_<|rfl
theorem jr_ (l : List UInt8) : ∀ c ∈ l.map (fun b => [Abs.v (bc b)]), ones c = true := fun c hc => by
  obtain ⟨b, _, rfl⟩ := List.mem_map.1 hc
  rfl
theorem bclone_s {l : List UInt8} (hn : l.length ≤ 1000000) : Pure Tryz.prog 74 [byt l] (byt l) := le_ (jr_ l) (by rw [List.length_map]; exact hn)
def zow : Value := .agg ((List.replicate 32 (bc 0)) ++ [Value.slice none 0 0]).toArray
theorem jL_ (w : World) : (zeroValue 183).run Tryz.prog w = .ok zow w := by kernel_rfl
theorem dig_reps {K : List Nat} {w : World} (d : List UInt8) : reps K w (digA d) (d.map bc) := by
  have h := eF_ (K := K) (w := w) (d.map bc)
  rw [List.map_map] at h
  exact h
theorem jK_ (K : List Nat) (w : World) : rep K w Ow.zero.enc zow := by
  refine ⟨_, rfl, aW_ ?_ ⟨_, _, rfl, b3_ rfl, rfl⟩⟩
  have h := dig_reps (K := K) (w := w) (List.replicate 32 0)
  rw [List.map_replicate] at h
  exact h
theorem own_fill {o : Ow} {place : Nat → Option (Nat × Nat)} {Z : List Abs} (hZ : Z.length = 33) (h0 : place 0 = some (0, 32)) (h1 : place 1 = some (32, 1)) : fillA place Z [(0, .agg (digA o.dig)), (1, byt o.b)] = some o.cells :=
  iB_ (a := 32) (b := 1) (by show (digA o.dig).length = 32; simp [digA, o.len]) rfl hZ h0 h1
theorem dy_ {d : List UInt8} (h : d.length = 32) : (digA d).length = 32 := by simp [digA, h]
theorem jU_ {vv : Value} (n : Nat) : Re [own 199 1 vv (List.replicate n [Abs.v (Value.slice none 0 0)])] [own 199 1 vv ((List.replicate n []).map fun l : List Pnt => [pntsA l])] := by
  refine Re.ownMap (fun K w us h => ?_) (by simp)
  rw [List.map_replicate]
  exact gz_ (ds := [Abs.v (Value.slice none 0 0)]) (es := [pntsA []]) (fun us ⟨u, us', h1, h2, h3⟩ => ⟨u, us', h1, by rw [show u = _ from h2]; exact b3_ rfl, h3⟩) n us h
section
variable {n me : Nat} {om : List (Int × Ow)} {vs : List (List Pnt)} {bp bm : Nat} {vv : Value} {x : Pnt} {who k : Int} {o : Ow}
theorem pnew_s (h1 : 1 ≤ n) (h7 : n ≤ 7) (hm : me < n) : Spec Tryz.prog 41 [int (n : Nat), int (me : Nat)] [] (fun z : Nat × Nat × Value => [.blk z.1 157 [int (n : Nat), int (me : Nat), mapV z.2.1, .v z.2.2], own 199 1 z.2.2 ((List.replicate n []).map fun l => [pntsA l]), .pc (tmPc z.2.1 intK intOk Ow.enc [])]) (fun z => ptr z.1) := by
 refine t_ Tryz.func41 rfl Tryz.ntmps41 rfl fun G w =>c_<|a_<|q_ 1 rfl<|d_<|b_<|c_<|c_<|a_<|q_ 3 rfl<|A_ (t := 7) rfl (by intro hc7; exfalso; omega) ?_
 intro hc7
 refine q_ 4 rfl<|A_ (t := 11) rfl (by intro hc11; exfalso; omega) ?_
 intro hc11
 refine q_ 4 rfl<|A_ (t := 15) rfl (by intro hc15; exfalso; omega) ?_
 intro hc15
 refine q_ 4 rfl<|d_<|b_<|l_ rfl (by intro hc19; exfalso; omega) ?_
 intro hc19
 refine o_<|b_<|c_<|a_<|q_ 2 rfl<|eb_ (ak_ intK intOk Ow.enc (fun ac w => by simp [execOp, Instr.makeMap, newObj, Sem.run, Sem.run_bind, Result.andThen])) rfl rfl fun m22=>?_
 refine q_ 1 rfl<|eb_ (hZ_ (m := n) tabOk Tryz.underlying155 rfl rfl rfl rfl rfl rfl (by unfold maxLen; omega) (by rw [show Tryz.prog.bytesOf 199 = 24 by kernel_rfl]; omega)) rfl rfl fun v24=>?_
 refine hV_ (v := v24) (e := 199) (s := 1) (xs := List.replicate n [Abs.v (Value.slice none 0 0)]) i0_ ?_
 rintro A24 m24 c24 rfl
 refine slvA (z_ tabOk rfl rfl rfl rfl)<|eb_ (B_ (cs := [int (n : Nat), int (me : Nat), mapV m22, .v (.slice A24 m24 c24)]) rfl) rfl rfl fun b26=>?_
 exact q_ 1 rfl<|d_<|b_<|k_<|c2_ [_] (jU_ n) rfl<|f_ (rs := [.tmp 4]) rfl (RV.tmp rfl RV.nil) ((b26, m22, .slice A24 m24 c24)) sr_<|rfl
theorem pown_s (hk : InR .i64 k) (hb : o.b.length ≤ 1000000) : Spec Tryz.prog 48 [ptr bp, int k, .agg (digA o.dig), byt o.b] [.blk bp 157 [int (n : Nat), int (me : Nat), mapV bm, .v vv], own 199 1 vv ((vs).map fun l => [pntsA l]), .pc (tmPc bm intK intOk Ow.enc om)] (fun _ : Unit => [.blk bp 157 [int (n : Nat), int (me : Nat), mapV bm, .v vv], own 199 1 vv ((vs).map fun l => [pntsA l]), .pc (tmPc bm intK intOk Ow.enc (aput om k o))]) (fun _ => .tup []) := by
 refine t_ Tryz.func48 rfl Tryz.ntmps48 rfl fun G w =>c_<|a_<|eb_ (B_ (cs := digA o.dig) rfl) rfl rfl fun b6=>?_
 refine d_<|b_<|c_<|a_<|q_ 1 rfl<|slvA (bK_ rfl rfl (by kernel_rfl)) ?_
 refine d_<|b_<|U_ rfl<|as_ [] (.q 0 (.q 1 (.q 2 (.q 3 (.q 4 (.q 5 (.q 6 (.e 7 (.q 8 .nil))))))))) (by kernel_rfl) (by kernel_rfl) ?_
 refine qs_ 3 rfl<|sxvA rfl (g_ tabOk rfl rfl l1_ List.not_mem_nil rfl) (by simp) ?_
 refine qs_ 1 rfl<|hx_ fun hx9 =>sxvA rfl (r_ tabOk rfl rfl rfl l0_ List.not_mem_nil (dy_ o.len)) hx9<|qs_ 1 rfl<|D_ rfl (bclone_s hb) (by simp [mids, It.mids]) Casts.refl (by kernel_rfl) rfl rfl rfl ?_
 refine ap_<|fun _=>hx_ fun hx9 =>sxvA rfl (h_ (C := o.enc) (z_ tabOk rfl rfl rfl (own_fill rfl rfl rfl)) rfl) hx9<|F_<|aq_ rfl (bh_ (a := k) (v := o) (m' := aput om k o) (a0_ Tryz.underlying2) Tryz.underlying154 rfl u3_ rfl is_v hk rfl rfl) rfl rfl ?_
 rintro _ _ ⟨rfl, rfl⟩
 refine b6_ (rs := []) rfl RV.nil (()) (sk_ sr_) (by simp [It.rids]) ?_
 exact rfl
end
end Go.Proofs.YtjclgkddfjbdiaaGreatDoor.A
namespace Go.Proofs.YtjclgkddfjbdiaaGreatDoor
open Go.Shelf Go.RowKit
def ew_ : Ren := ⟨fun | 6 => 318 | 8 => 372 | 9 => 373 | 11 => 415 | 13 => 359 | 12 => 416 | 23 => 404 | 24 => 405 | 14 => 442 | 15 => 443 | 16 => 444 | 17 => 445 | 18 => 446 | 19 => 447 | 20 => 448 | 21 => 449 | 22 => 450 | 25 => 475 | 26 => 426 | 27 => 427 | 28 => 476 | 29 => 477 | 30 => 478 | 31 => 493 | n => n, fun | 26 => 3 | 28 => 454 | 24 => 22 | 0 => 0 | 3 => 3 | 37 => 127 | 48 => 38 | 50 => 27 | 4 => 4 | 40 => 525 | 39 => 524 | 45 => 461 | 5 => 5 | 9 => 9 | 51 => 554 | 55 => 558 | 57 => 583 | 58 => 584 | 33 => 50 | n => n, fun n => n⟩
theorem ht_ : SlLaysZI.n6 Tryz.prog ew_ := {
  mixed := by kernel_rfl,
  f6 := ⟨Tryz.f318.name, by decide, Tryz.func318.trans (congrArg some (by kernel_rfl))⟩,
  f8 := ⟨Tryz.f372.name, by decide, Tryz.func372.trans (congrArg some (by kernel_rfl))⟩,
  f11 := ⟨Tryz.f415.name, by decide, Tryz.func415.trans (congrArg some (by kernel_rfl))⟩,
  t0 := Tryz.underlying0,
  a0 := Tryz.isAgg0,
  z0 := Tryz.sizeOf0,
  v0 := Tryz.zeroValue0,
  t24 := Tryz.underlying22,
  a24 := Tryz.isAgg22,
  z24 := Tryz.sizeOf22,
  v24 := Tryz.zeroValue22,
  t26 := Tryz.underlying3,
  a26 := Tryz.isAgg3,
  z26 := Tryz.sizeOf3,
  v26 := Tryz.zeroValue3,
  t28 := Tryz.underlying454,
  a28 := Tryz.isAgg454,
  z28 := Tryz.sizeOf454,
  v28 := Tryz.zeroValue454,
  i26 := by kernel_rfl }
def kf_ : Ren := ⟨fun | 5 => 373 | 8 => 359 | 7 => 416 | 19 => 404 | 20 => 405 | 10 => 442 | 11 => 443 | 12 => 444 | 13 => 445 | 14 => 446 | 15 => 447 | 16 => 448 | 17 => 449 | 18 => 450 | 30 => 475 | 31 => 426 | 32 => 427 | 33 => 476 | 34 => 477 | 35 => 478 | 40 => 493 | n => n, fun | 23 => 22 | 25 => 3 | 3 => 3 | 32 => 127 | 22 => 22 | 0 => 0 | 44 => 38 | 46 => 27 | 4 => 4 | 36 => 525 | 35 => 524 | 41 => 461 | 5 => 5 | 9 => 9 | 53 => 554 | 57 => 558 | 63 => 583 | 64 => 584 | n => n, fun n => n⟩
theorem gm_ : SlLaysM.n5 Tryz.prog kf_ := {
  mixed := by kernel_rfl,
  f5 := ⟨Tryz.f373.name, by decide, Tryz.func373.trans (congrArg some (by kernel_rfl))⟩,
  f7 := ⟨Tryz.f416.name, by decide, Tryz.func416.trans (congrArg some (by kernel_rfl))⟩,
  f8 := Tryz.func359.trans (congrArg some (by kernel_rfl)),
  f10 := ⟨Tryz.f442.name, by decide, Tryz.func442.trans (congrArg some (by kernel_rfl))⟩,
  f11 := ⟨Tryz.f443.name, by decide, Tryz.func443.trans (congrArg some (by kernel_rfl))⟩,
  f12 := ⟨Tryz.f444.name, by decide, Tryz.func444.trans (congrArg some (by kernel_rfl))⟩,
  f13 := ⟨Tryz.f445.name, by decide, Tryz.func445.trans (congrArg some (by kernel_rfl))⟩,
  f14 := ⟨Tryz.f446.name, by decide, Tryz.func446.trans (congrArg some (by kernel_rfl))⟩,
  f15 := ⟨Tryz.f447.name, by decide, Tryz.func447.trans (congrArg some (by kernel_rfl))⟩,
  f16 := ⟨Tryz.f448.name, by decide, Tryz.func448.trans (congrArg some (by kernel_rfl))⟩,
  f17 := ⟨Tryz.f449.name, by decide, Tryz.func449.trans (congrArg some (by kernel_rfl))⟩,
  f18 := ⟨Tryz.f450.name, by decide, Tryz.func450.trans (congrArg some (by kernel_rfl))⟩,
  f19 := Tryz.func404.trans (congrArg some (by kernel_rfl)),
  f20 := Tryz.func405.trans (congrArg some (by kernel_rfl)),
  f30 := ⟨Tryz.f475.name, by decide, Tryz.func475.trans (congrArg some (by kernel_rfl))⟩,
  f31 := Tryz.func426.trans (congrArg some (by kernel_rfl)),
  f32 := Tryz.func427.trans (congrArg some (by kernel_rfl)),
  f33 := ⟨Tryz.f476.name, by decide, Tryz.func476.trans (congrArg some (by kernel_rfl))⟩,
  f34 := ⟨Tryz.f477.name, by decide, Tryz.func477.trans (congrArg some (by kernel_rfl))⟩,
  f35 := ⟨Tryz.f478.name, by decide, Tryz.func478.trans (congrArg some (by kernel_rfl))⟩,
  f40 := ⟨Tryz.f493.name, by decide, Tryz.func493.trans (congrArg some (by kernel_rfl))⟩,
  t0 := Tryz.underlying0,
  a0 := Tryz.isAgg0,
  z0 := Tryz.sizeOf0,
  v0 := Tryz.zeroValue0,
  t3 := Tryz.underlying3,
  a3 := Tryz.isAgg3,
  z3 := Tryz.sizeOf3,
  v3 := Tryz.zeroValue3,
  t4 := Tryz.underlying4,
  a4 := Tryz.isAgg4,
  z4 := Tryz.sizeOf4,
  v4 := Tryz.zeroValue4,
  t5 := Tryz.underlying5,
  a5 := Tryz.isAgg5,
  z5 := Tryz.sizeOf5,
  v5 := Tryz.zeroValue5,
  t9 := Tryz.underlying9,
  a9 := Tryz.isAgg9,
  z9 := Tryz.sizeOf9,
  v9 := Tryz.zeroValue9,
  t22 := Tryz.underlying22,
  a22 := Tryz.isAgg22,
  z22 := Tryz.sizeOf22,
  v22 := Tryz.zeroValue22,
  t23 := Tryz.underlying22,
  a23 := Tryz.isAgg22,
  z23 := Tryz.sizeOf22,
  v23 := Tryz.zeroValue22,
  t25 := Tryz.underlying3,
  a25 := Tryz.isAgg3,
  z25 := Tryz.sizeOf3,
  v25 := Tryz.zeroValue3,
  t32 := Tryz.underlying127,
  a32 := Tryz.isAgg127,
  z32 := Tryz.sizeOf127,
  v32 := Tryz.zeroValue127,
  t35 := Tryz.underlying524,
  a35 := Tryz.isAgg524,
  z35 := Tryz.sizeOf524,
  v35 := Tryz.zeroValue524,
  t36 := Tryz.underlying525,
  a36 := Tryz.isAgg525,
  z36 := Tryz.sizeOf525,
  v36 := Tryz.zeroValue525,
  t41 := Tryz.underlying461,
  a41 := Tryz.isAgg461,
  z41 := Tryz.sizeOf461,
  v41 := Tryz.zeroValue461,
  t44 := Tryz.underlying38,
  a44 := Tryz.isAgg38,
  z44 := Tryz.sizeOf38,
  v44 := Tryz.zeroValue38,
  t46 := Tryz.underlying27,
  a46 := Tryz.isAgg27,
  z46 := Tryz.sizeOf27,
  v46 := Tryz.zeroValue27,
  t53 := Tryz.underlying554,
  a53 := Tryz.isAgg554,
  z53 := Tryz.sizeOf554,
  v53 := Tryz.zeroValue554,
  t57 := Tryz.underlying558,
  a57 := Tryz.isAgg558,
  z57 := Tryz.sizeOf558,
  v57 := Tryz.zeroValue558,
  t63 := Tryz.underlying583,
  a63 := Tryz.isAgg583,
  z63 := Tryz.sizeOf583,
  v63 := Tryz.zeroValue583,
  t64 := Tryz.underlying584,
  a64 := Tryz.isAgg584,
  z64 := Tryz.sizeOf584,
  v64 := Tryz.zeroValue584 }
def dn_ : Ren := ⟨fun | 6 => 213 | 8 => 293 | 9 => 294 | 11 => 357 | 13 => 359 | 12 => 358 | 23 => 404 | 24 => 405 | 14 => 395 | 15 => 396 | 16 => 397 | 17 => 398 | 18 => 399 | 19 => 400 | 20 => 401 | 21 => 402 | 22 => 403 | 25 => 425 | 26 => 426 | 27 => 427 | 28 => 428 | 29 => 429 | 30 => 297 | 31 => 456 | n => n, fun | 26 => 2 | 28 => 341 | 24 => 282 | 0 => 0 | 3 => 3 | 37 => 127 | 48 => 38 | 50 => 27 | 4 => 4 | 40 => 525 | 39 => 524 | 45 => 461 | 5 => 5 | 9 => 9 | 51 => 554 | 55 => 558 | 57 => 583 | 58 => 584 | 33 => 277 | n => n, fun n => n⟩
theorem do_ : SlLaysZI.n6 Tryz.prog dn_ := {
  mixed := by kernel_rfl,
  f6 := ⟨Tryz.f213.name, by decide, Tryz.func213.trans (congrArg some (by kernel_rfl))⟩,
  f8 := ⟨Tryz.f293.name, by decide, Tryz.func293.trans (congrArg some (by kernel_rfl))⟩,
  f11 := ⟨Tryz.f357.name, by decide, Tryz.func357.trans (congrArg some (by kernel_rfl))⟩,
  t0 := Tryz.underlying0,
  a0 := Tryz.isAgg0,
  z0 := Tryz.sizeOf0,
  v0 := Tryz.zeroValue0,
  t24 := Tryz.underlying282,
  a24 := Tryz.isAgg282,
  z24 := Tryz.sizeOf282,
  v24 := Tryz.zeroValue282,
  t26 := Tryz.underlying2,
  a26 := Tryz.isAgg2,
  z26 := Tryz.sizeOf2,
  v26 := Tryz.zeroValue2,
  t28 := Tryz.underlying341,
  a28 := Tryz.isAgg341,
  z28 := Tryz.sizeOf341,
  v28 := Tryz.zeroValue341,
  i26 := by kernel_rfl }
def hu_ : Ren := ⟨fun | 5 => 294 | 8 => 359 | 7 => 358 | 19 => 404 | 20 => 405 | 10 => 395 | 11 => 396 | 12 => 397 | 13 => 398 | 14 => 399 | 15 => 400 | 16 => 401 | 17 => 402 | 18 => 403 | 30 => 425 | 31 => 426 | 32 => 427 | 33 => 428 | 34 => 429 | 35 => 297 | 40 => 456 | n => n, fun | 23 => 282 | 25 => 2 | 3 => 3 | 32 => 127 | 22 => 282 | 0 => 0 | 44 => 38 | 46 => 27 | 4 => 4 | 36 => 525 | 35 => 524 | 41 => 461 | 5 => 5 | 9 => 9 | 53 => 554 | 57 => 558 | 63 => 583 | 64 => 584 | n => n, fun n => n⟩
theorem ch_ : SlLaysM.n5 Tryz.prog hu_ := {
  mixed := by kernel_rfl,
  f5 := ⟨Tryz.f294.name, by decide, Tryz.func294.trans (congrArg some (by kernel_rfl))⟩,
  f7 := ⟨Tryz.f358.name, by decide, Tryz.func358.trans (congrArg some (by kernel_rfl))⟩,
  f8 := Tryz.func359.trans (congrArg some (by kernel_rfl)),
  f10 := ⟨Tryz.f395.name, by decide, Tryz.func395.trans (congrArg some (by kernel_rfl))⟩,
  f11 := ⟨Tryz.f396.name, by decide, Tryz.func396.trans (congrArg some (by kernel_rfl))⟩,
  f12 := ⟨Tryz.f397.name, by decide, Tryz.func397.trans (congrArg some (by kernel_rfl))⟩,
  f13 := ⟨Tryz.f398.name, by decide, Tryz.func398.trans (congrArg some (by kernel_rfl))⟩,
  f14 := ⟨Tryz.f399.name, by decide, Tryz.func399.trans (congrArg some (by kernel_rfl))⟩,
  f15 := ⟨Tryz.f400.name, by decide, Tryz.func400.trans (congrArg some (by kernel_rfl))⟩,
  f16 := ⟨Tryz.f401.name, by decide, Tryz.func401.trans (congrArg some (by kernel_rfl))⟩,
  f17 := ⟨Tryz.f402.name, by decide, Tryz.func402.trans (congrArg some (by kernel_rfl))⟩,
  f18 := ⟨Tryz.f403.name, by decide, Tryz.func403.trans (congrArg some (by kernel_rfl))⟩,
  f19 := Tryz.func404.trans (congrArg some (by kernel_rfl)),
  f20 := Tryz.func405.trans (congrArg some (by kernel_rfl)),
  f30 := ⟨Tryz.f425.name, by decide, Tryz.func425.trans (congrArg some (by kernel_rfl))⟩,
  f31 := Tryz.func426.trans (congrArg some (by kernel_rfl)),
  f32 := Tryz.func427.trans (congrArg some (by kernel_rfl)),
  f33 := ⟨Tryz.f428.name, by decide, Tryz.func428.trans (congrArg some (by kernel_rfl))⟩,
  f34 := ⟨Tryz.f429.name, by decide, Tryz.func429.trans (congrArg some (by kernel_rfl))⟩,
  f35 := ⟨Tryz.f297.name, by decide, Tryz.func297.trans (congrArg some (by kernel_rfl))⟩,
  f40 := ⟨Tryz.f456.name, by decide, Tryz.func456.trans (congrArg some (by kernel_rfl))⟩,
  t0 := Tryz.underlying0,
  a0 := Tryz.isAgg0,
  z0 := Tryz.sizeOf0,
  v0 := Tryz.zeroValue0,
  t3 := Tryz.underlying3,
  a3 := Tryz.isAgg3,
  z3 := Tryz.sizeOf3,
  v3 := Tryz.zeroValue3,
  t4 := Tryz.underlying4,
  a4 := Tryz.isAgg4,
  z4 := Tryz.sizeOf4,
  v4 := Tryz.zeroValue4,
  t5 := Tryz.underlying5,
  a5 := Tryz.isAgg5,
  z5 := Tryz.sizeOf5,
  v5 := Tryz.zeroValue5,
  t9 := Tryz.underlying9,
  a9 := Tryz.isAgg9,
  z9 := Tryz.sizeOf9,
  v9 := Tryz.zeroValue9,
  t22 := Tryz.underlying282,
  a22 := Tryz.isAgg282,
  z22 := Tryz.sizeOf282,
  v22 := Tryz.zeroValue282,
  t23 := Tryz.underlying282,
  a23 := Tryz.isAgg282,
  z23 := Tryz.sizeOf282,
  v23 := Tryz.zeroValue282,
  t25 := Tryz.underlying2,
  a25 := Tryz.isAgg2,
  z25 := Tryz.sizeOf2,
  v25 := Tryz.zeroValue2,
  t32 := Tryz.underlying127,
  a32 := Tryz.isAgg127,
  z32 := Tryz.sizeOf127,
  v32 := Tryz.zeroValue127,
  t35 := Tryz.underlying524,
  a35 := Tryz.isAgg524,
  z35 := Tryz.sizeOf524,
  v35 := Tryz.zeroValue524,
  t36 := Tryz.underlying525,
  a36 := Tryz.isAgg525,
  z36 := Tryz.sizeOf525,
  v36 := Tryz.zeroValue525,
  t41 := Tryz.underlying461,
  a41 := Tryz.isAgg461,
  z41 := Tryz.sizeOf461,
  v41 := Tryz.zeroValue461,
  t44 := Tryz.underlying38,
  a44 := Tryz.isAgg38,
  z44 := Tryz.sizeOf38,
  v44 := Tryz.zeroValue38,
  t46 := Tryz.underlying27,
  a46 := Tryz.isAgg27,
  z46 := Tryz.sizeOf27,
  v46 := Tryz.zeroValue27,
  t53 := Tryz.underlying554,
  a53 := Tryz.isAgg554,
  z53 := Tryz.sizeOf554,
  v53 := Tryz.zeroValue554,
  t57 := Tryz.underlying558,
  a57 := Tryz.isAgg558,
  z57 := Tryz.sizeOf558,
  v57 := Tryz.zeroValue558,
  t63 := Tryz.underlying583,
  a63 := Tryz.isAgg583,
  z63 := Tryz.sizeOf583,
  v63 := Tryz.zeroValue583,
  t64 := Tryz.underlying584,
  a64 := Tryz.isAgg584,
  z64 := Tryz.sizeOf584,
  v64 := Tryz.zeroValue584 }
def kJ_ : Ren := ⟨fun | 7 => 265 | 10 => 333 | n => n, fun | 23 => 151 | 26 => 2 | 3 => 304 | 28 => 341 | 0 => 0 | 27 => 340 | 33 => 277 | 4 => 4 | n => n, fun n => n⟩
theorem keys_0L : SlLaysZI.n7 Tryz.prog kJ_ := {
  mixed := by kernel_rfl,
  f7 := ⟨Tryz.f265.name, by decide, Tryz.func265.trans (congrArg some (by kernel_rfl))⟩,
  f10 := ⟨Tryz.f333.name, by decide, Tryz.func333.trans (congrArg some (by kernel_rfl))⟩,
  t0 := Tryz.underlying0,
  a0 := Tryz.isAgg0,
  z0 := Tryz.sizeOf0,
  v0 := Tryz.zeroValue0,
  t4 := Tryz.underlying4,
  a4 := Tryz.isAgg4,
  z4 := Tryz.sizeOf4,
  v4 := Tryz.zeroValue4,
  t23 := Tryz.underlying151,
  a23 := Tryz.isAgg151,
  z23 := Tryz.sizeOf151,
  v23 := Tryz.zeroValue151,
  t26 := Tryz.underlying2,
  a26 := Tryz.isAgg2,
  z26 := Tryz.sizeOf2,
  v26 := Tryz.zeroValue2,
  t27 := Tryz.underlying340,
  a27 := Tryz.isAgg340,
  z27 := Tryz.sizeOf340,
  v27 := Tryz.zeroValue340,
  t28 := Tryz.underlying341,
  a28 := Tryz.isAgg341,
  z28 := Tryz.sizeOf341,
  v28 := Tryz.zeroValue341,
  t33 := Tryz.underlying277,
  a33 := Tryz.isAgg277,
  z33 := Tryz.sizeOf277,
  v33 := Tryz.zeroValue277 }
def kI_ : Ren := ⟨fun | 7 => 214 | 10 => 295 | n => n, fun | 23 => 154 | 26 => 2 | 3 => 183 | 28 => 341 | 0 => 0 | 27 => 340 | 33 => 277 | 4 => 4 | n => n, fun n => n⟩
theorem keys_1L : SlLaysZI.n7 Tryz.prog kI_ := {
  mixed := by kernel_rfl,
  f7 := ⟨Tryz.f214.name, by decide, Tryz.func214.trans (congrArg some (by kernel_rfl))⟩,
  f10 := ⟨Tryz.f295.name, by decide, Tryz.func295.trans (congrArg some (by kernel_rfl))⟩,
  t0 := Tryz.underlying0,
  a0 := Tryz.isAgg0,
  z0 := Tryz.sizeOf0,
  v0 := Tryz.zeroValue0,
  t4 := Tryz.underlying4,
  a4 := Tryz.isAgg4,
  z4 := Tryz.sizeOf4,
  v4 := Tryz.zeroValue4,
  t23 := Tryz.underlying154,
  a23 := Tryz.isAgg154,
  z23 := Tryz.sizeOf154,
  v23 := Tryz.zeroValue154,
  t26 := Tryz.underlying2,
  a26 := Tryz.isAgg2,
  z26 := Tryz.sizeOf2,
  v26 := Tryz.zeroValue2,
  t27 := Tryz.underlying340,
  a27 := Tryz.isAgg340,
  z27 := Tryz.sizeOf340,
  v27 := Tryz.zeroValue340,
  t28 := Tryz.underlying341,
  a28 := Tryz.isAgg341,
  z28 := Tryz.sizeOf341,
  v28 := Tryz.zeroValue341,
  t33 := Tryz.underlying277,
  a33 := Tryz.isAgg277,
  z33 := Tryz.sizeOf277,
  v33 := Tryz.zeroValue277 }
def kH_ : Ren := ⟨fun | 7 => 319 | 10 => 374 | n => n, fun | 23 => 113 | 26 => 3 | 3 => 26 | 28 => 454 | 0 => 0 | 27 => 453 | 33 => 50 | 4 => 4 | n => n, fun n => n⟩
theorem keys_2L : SlLaysZI.n7 Tryz.prog kH_ := {
  mixed := by kernel_rfl,
  f7 := ⟨Tryz.f319.name, by decide, Tryz.func319.trans (congrArg some (by kernel_rfl))⟩,
  f10 := ⟨Tryz.f374.name, by decide, Tryz.func374.trans (congrArg some (by kernel_rfl))⟩,
  t0 := Tryz.underlying0,
  a0 := Tryz.isAgg0,
  z0 := Tryz.sizeOf0,
  v0 := Tryz.zeroValue0,
  t4 := Tryz.underlying4,
  a4 := Tryz.isAgg4,
  z4 := Tryz.sizeOf4,
  v4 := Tryz.zeroValue4,
  t23 := Tryz.underlying113,
  a23 := Tryz.isAgg113,
  z23 := Tryz.sizeOf113,
  v23 := Tryz.zeroValue113,
  t26 := Tryz.underlying3,
  a26 := Tryz.isAgg3,
  z26 := Tryz.sizeOf3,
  v26 := Tryz.zeroValue3,
  t27 := Tryz.underlying453,
  a27 := Tryz.isAgg453,
  z27 := Tryz.sizeOf453,
  v27 := Tryz.zeroValue453,
  t28 := Tryz.underlying454,
  a28 := Tryz.isAgg454,
  z28 := Tryz.sizeOf454,
  v28 := Tryz.zeroValue454,
  t33 := Tryz.underlying50,
  a33 := Tryz.isAgg50,
  z33 := Tryz.sizeOf50,
  v33 := Tryz.zeroValue50 }
theorem ke_ (m : Nat) : AnyZI.SortsIn Tryz.prog ew_ Fence.wide m :=
  ⟨fun blk off cap ss W hH hblk hsz => callsIn_wide.2 (AnyM.slices_Sort_int gm_ blk off cap ss W hH hblk hsz), fun p cap W => callsIn_wide.2 (AnyM.slices_Sort_int_none gm_ p cap W)⟩
theorem ev_ (m : Nat) : AnyZI.SortsIn Tryz.prog dn_ Fence.wide m :=
  ⟨fun blk off cap ss W hH hblk hsz => callsIn_wide.2 (AnyM.slices_Sort_int ch_ blk off cap ss W hH hblk hsz), fun p cap W => callsIn_wide.2 (AnyM.slices_Sort_int_none ch_ p cap W)⟩
end Go.Proofs.YtjclgkddfjbdiaaGreatDoor
namespace Go.Proofs.YtjclgkddfjbdiaaGreatDoor.A
open Go.RowKit Go.Maps Go.Sort Go.Shelf
theorem dM_ {K : List Nat} {w : World} : ∀ {xs : List Int}, repss K w 1 (xs.map fun x => [int x]) (xs.map encZ)
  | [] => rfl
  | x :: xs => ⟨[encZ x], _, rfl, rfl, ⟨_, _, rfl, rfl, rfl⟩, dM_⟩
def R0 : Value → Option (DataW Unit × List MemPlace) := fun _ => some (.nil, [])
theorem eP_ {β : Type} {V : β → Value} {w : World} {b : Nat} {m : List (Int × β)} (h : MapOf w b intK V intOk m) {k : TypeId} (hk : Tryz.prog.underlying k = some (.int .i64)) (hl : m.length ≤ maxLen) :
    ∃ D0 : DataW Unit, w.ownsMap Tryz.prog k R0 b m.length D0 ∧ (intKeys D0).Perm (m.map (·.1)) ∧ Maps.size D0 = m.length := by
  obtain ⟨es, clock, hb, he, hnd, hg, hborn, hbnd⟩ := h
  have hlen : es.toList.length = m.length := by
    have h3 := congrArg List.length he
    simpa using h3
  have hkeys : es.toList.map (·.key) = (m.map (·.1)).map intK := by
    have h3 := congrArg (List.map Prod.fst) he
    simpa [List.map_map, Function.comp_def] using h3
  have hrd : ∀ x ∈ es.toList, ∃ y : Int, x.key = intK y ∧ intOk y := fun x hx => by
    have h3 : x.key ∈ (m.map (·.1)).map intK := hkeys ▸ List.mem_map.2 ⟨x, hx, rfl⟩
    simp only [List.mem_map] at h3
    obtain ⟨y, ⟨p, hp, rfl⟩, h4⟩ := h3
    exact ⟨p.1, h4.symm, hg p hp⟩
  have hrg : ∀ x ∈ es.toList, ∀ y : Int, x.key = intK y → intOk y → WideElems.rd Tryz.prog k R0 x = some (.int .i64 y, .nil) := fun x hx y hy hok => by
    unfold WideElems.rd
    rw [hy, Maps.keyOf_int_mk hk (ix_ hok)]
    rfl
  refine ⟨_, ⟨es, clock, hb, ⟨by rw [← Array.length_toList, hlen]; exact hl, ⟨hborn, hbnd, ?_⟩, fun x hx => ?_⟩, by rw [← Array.length_toList, hlen]; exact Nat.le_refl _, rfl⟩, ?_, ?_⟩
  · rw [hkeys]
    exact List.pairwise_map.2 (hnd.imp fun h e => h (by injection e))
  · obtain ⟨y, hy, hok⟩ := hrd x hx
    exact ⟨_, hrg x hx y hy hok⟩
  · have h5 : es.toList.map (fun x => Go.intOf (WideElems.rg Tryz.prog k R0 x).1) = m.map (·.1) := by
      have h6 : es.toList.map (fun x => Go.intOf (WideElems.rg Tryz.prog k R0 x).1) = (es.toList.map (·.key)).map (fun v => match v with | .int _ n => n | _ => 0) := by
        rw [List.map_map]
        refine List.map_congr_left fun x hx => ?_
        obtain ⟨y, hy, hok⟩ := hrd x hx
        show Go.intOf ((WideElems.rd Tryz.prog k R0 x).getD _).1 = _
        rw [hrg x hx y hy hok]
        simp only [Function.comp, hy]
        rfl
      rw [h6, hkeys, List.map_map]
      simp [Function.comp_def]
    show (((es.toList.map (WideElems.rg Tryz.prog k R0)).foldr DataW.insert []).map fun p => Go.intOf p.1).Perm _
    refine ((WideShapes.sorted_perm (es.toList.map (WideElems.rg Tryz.prog k R0))).map _).trans ?_
    rw [List.map_map]
    exact h5 ▸ List.Perm.refl _
  · show ((es.toList.map (WideElems.rg Tryz.prog k R0)).foldr DataW.insert []).length = _
    rw [(WideShapes.sorted_perm (es.toList.map (WideElems.rg Tryz.prog k R0))).length_eq, List.length_map, hlen]
theorem fT_ {w w' : World} {F G : List Nat} {σ : Blks} {e : TypeId} {v : Value} {ss ks : List Int} (hm : Mem w F G σ w) (hrow : w'.ownsRow w.heap.size e 1 v ss.length ((ss.mergeSort (fun x y => decide (x ≤ y))).map encZ)) (hp : ss.Perm ks) (hb : Below w.heap.size w w') : Mem w F G (own e 1 v ((srt ks).map fun x => [int x]) :: σ) w' := by
  have hx : Ext [] w w' := ⟨hb.os, hb.tape, hb.output, hb.size, fun k hk _ => hb.block k hk⟩
  have hss : ss.mergeSort (fun x y => decide (x ≤ y)) = srt ks := kc_ hp
  have hlen : ss.length = (srt ks).length := by rw [b7_, hp.length_eq]
  rw [hss, hlen] at hrow
  refine (hm.new (y := own e 1 v ((srt ks).map fun x => [int x])) hx aQ_ (fun k hk => ?_) rfl fun _ => ⟨(srt ks).map encZ, by rw [List.length_map]; exact ⟨hrow.1, hrow.2.imp id fun ⟨g, cap, cur, h1, h2, h3⟩ => ⟨g, cap, cur, h1, Nat.zero_le _, h3⟩⟩, dM_⟩).1
  have hk' : v.ownBlock = some k := by simpa [It.mids, ownPc] using hk
  exact (World.ownsRow.lt hrow k hk').1
section
variable {b z : Nat}
theorem keys_0_s  : Spec Tryz.prog 265 [mapV b] [] (fun z : Nat => [.blk z 151 [mapV b]]) (fun z => .fn (.func 333) [] [ptr z]) := by
 refine t_ Tryz.func265 rfl Tryz.ntmps265 rfl fun G w =>c_<|a_<|eb_ (be_ rfl rfl) rfl rfl fun b1=>?_
 exact q_ 1 rfl<|d_<|b_<|c_<|a_<|slvA (V_ rfl rfl)<|q_ 1 rfl<|d_<|b_<|k_<|f_ (rs := [.tmp 2]) rfl (RV.tmp rfl RV.nil) (b1) sr_<|rfl
end
theorem jc_ {β : Type} {V : β → Value} {m : List (Int × β)} {b z : Nat} (hl : m.length ≤ 1000000) : Spec Tryz.prog 213 [.fn (.func 333) [] [ptr z]] [.rd z 151 [mapV b], .rdpc (mapPc b intK V intOk m)] (fun v : Value => [own 2 1 v ((srt (m.map (·.1))).map fun x => [int x])]) (fun v => .v v) := fun G w vals hm hv => by
  obtain ⟨_, _, rfl, ⟨us, vs, rfl, h1, h2⟩, h3⟩ := hv
  have h1 : us = [] := h1
  have h3 : _ = [] := h3
  obtain ⟨_, _, rfl, h4, h5⟩ := h2
  have h4 : _ = Value.pointer (some ⟨z, 0, none⟩) := h4
  have h5 : _ = [] := h5
  subst h1 h3 h4 h5
  obtain ⟨cs, hb, hr⟩ := hm.hold (.rd z 151 [mapV b]) (by simp)
  obtain ⟨_, _, rfl, h6, h7⟩ := hr
  have h6 : _ = Value.map (some b) := h6
  have h7 : _ = [] := h7
  subst h6 h7
  have hmap : MapOf w b intK V intOk m := hm.hold (.rdpc (mapPc b intK V intOk m)) (by simp)
  obtain ⟨D0, hown, hperm, hsize⟩ := eP_ hmap Tryz.underlying2 (by unfold maxLen; omega)
  have hcell : w.cell? ⟨z, 0, none⟩ = some (.map (some b)) := by rw [a3_ hb]; rfl
  have hseq := AnyZI.keys_gives (ρ := kJ_) { keys_0L with } Fence.wide 2 trivial rfl (by omega) z b m.length D0 (R := R0) w (aR_ hb) hcell hown
  have cS := AnyZI.sorted_in do_ Fence.wide 5 trivial trivial trivial trivial rfl (by omega) (ev_ _) (enters_of Tryz.func294 (by kernel_rfl) rfl) 333 #[.pointer (some ⟨z, 0, none⟩)] trivial (enters_of Tryz.func333 (by kernel_rfl) rfl) _ (Maps.size D0) (by rw [hsize]; unfold maxLen; omega) (by rw [hsize]; omega) w hseq
  refine ((callsIn_wide (n := 5)).1 cS).mono fun e w' ⟨v, ss, he, hS, hrow, hnil, hbel⟩ => ?_
  exact ⟨v, v, he, by simp [It.rids], ((fT_ hm hrow (hS.trans hperm) hbel).sub (List.Sublist.cons_cons _ (List.nil_sublist _))).1, rfl⟩
section
variable {b z : Nat}
theorem keys_1_s  : Spec Tryz.prog 214 [mapV b] [] (fun z : Nat => [.blk z 154 [mapV b]]) (fun z => .fn (.func 295) [] [ptr z]) := by
 refine t_ Tryz.func214 rfl Tryz.ntmps214 rfl fun G w =>c_<|a_<|eb_ (be_ rfl rfl) rfl rfl fun b1=>?_
 exact q_ 1 rfl<|d_<|b_<|c_<|a_<|slvA (V_ rfl rfl)<|q_ 1 rfl<|d_<|b_<|k_<|f_ (rs := [.tmp 2]) rfl (RV.tmp rfl RV.nil) (b1) sr_<|rfl
end
theorem jb_ {β : Type} {V : β → Value} {m : List (Int × β)} {b z : Nat} (hl : m.length ≤ 1000000) : Spec Tryz.prog 213 [.fn (.func 295) [] [ptr z]] [.rd z 154 [mapV b], .rdpc (mapPc b intK V intOk m)] (fun v : Value => [own 2 1 v ((srt (m.map (·.1))).map fun x => [int x])]) (fun v => .v v) := fun G w vals hm hv => by
  obtain ⟨_, _, rfl, ⟨us, vs, rfl, h1, h2⟩, h3⟩ := hv
  have h1 : us = [] := h1
  have h3 : _ = [] := h3
  obtain ⟨_, _, rfl, h4, h5⟩ := h2
  have h4 : _ = Value.pointer (some ⟨z, 0, none⟩) := h4
  have h5 : _ = [] := h5
  subst h1 h3 h4 h5
  obtain ⟨cs, hb, hr⟩ := hm.hold (.rd z 154 [mapV b]) (by simp)
  obtain ⟨_, _, rfl, h6, h7⟩ := hr
  have h6 : _ = Value.map (some b) := h6
  have h7 : _ = [] := h7
  subst h6 h7
  have hmap : MapOf w b intK V intOk m := hm.hold (.rdpc (mapPc b intK V intOk m)) (by simp)
  obtain ⟨D0, hown, hperm, hsize⟩ := eP_ hmap Tryz.underlying2 (by unfold maxLen; omega)
  have hcell : w.cell? ⟨z, 0, none⟩ = some (.map (some b)) := by rw [a3_ hb]; rfl
  have hseq := AnyZI.keys_gives (ρ := kI_) { keys_1L with } Fence.wide 2 trivial rfl (by omega) z b m.length D0 (R := R0) w (aR_ hb) hcell hown
  have cS := AnyZI.sorted_in do_ Fence.wide 5 trivial trivial trivial trivial rfl (by omega) (ev_ _) (enters_of Tryz.func294 (by kernel_rfl) rfl) 295 #[.pointer (some ⟨z, 0, none⟩)] trivial (enters_of Tryz.func295 (by kernel_rfl) rfl) _ (Maps.size D0) (by rw [hsize]; unfold maxLen; omega) (by rw [hsize]; omega) w hseq
  refine ((callsIn_wide (n := 5)).1 cS).mono fun e w' ⟨v, ss, he, hS, hrow, hnil, hbel⟩ => ?_
  exact ⟨v, v, he, by simp [It.rids], ((fT_ hm hrow (hS.trans hperm) hbel).sub (List.Sublist.cons_cons _ (List.nil_sublist _))).1, rfl⟩
section
variable {b z : Nat}
theorem keys_2_s  : Spec Tryz.prog 319 [mapV b] [] (fun z : Nat => [.blk z 113 [mapV b]]) (fun z => .fn (.func 374) [] [ptr z]) := by
 refine t_ Tryz.func319 rfl Tryz.ntmps319 rfl fun G w =>c_<|a_<|eb_ (be_ rfl rfl) rfl rfl fun b1=>?_
 exact q_ 1 rfl<|d_<|b_<|c_<|a_<|slvA (V_ rfl rfl)<|q_ 1 rfl<|d_<|b_<|k_<|f_ (rs := [.tmp 2]) rfl (RV.tmp rfl RV.nil) (b1) sr_<|rfl
end
theorem ja_ {β : Type} {V : β → Value} {m : List (Int × β)} {b z : Nat} (hl : m.length ≤ 1000000) : Spec Tryz.prog 318 [.fn (.func 374) [] [ptr z]] [.rd z 113 [mapV b], .rdpc (mapPc b intK V intOk m)] (fun v : Value => [own 3 1 v ((srt (m.map (·.1))).map fun x => [int x])]) (fun v => .v v) := fun G w vals hm hv => by
  obtain ⟨_, _, rfl, ⟨us, vs, rfl, h1, h2⟩, h3⟩ := hv
  have h1 : us = [] := h1
  have h3 : _ = [] := h3
  obtain ⟨_, _, rfl, h4, h5⟩ := h2
  have h4 : _ = Value.pointer (some ⟨z, 0, none⟩) := h4
  have h5 : _ = [] := h5
  subst h1 h3 h4 h5
  obtain ⟨cs, hb, hr⟩ := hm.hold (.rd z 113 [mapV b]) (by simp)
  obtain ⟨_, _, rfl, h6, h7⟩ := hr
  have h6 : _ = Value.map (some b) := h6
  have h7 : _ = [] := h7
  subst h6 h7
  have hmap : MapOf w b intK V intOk m := hm.hold (.rdpc (mapPc b intK V intOk m)) (by simp)
  obtain ⟨D0, hown, hperm, hsize⟩ := eP_ hmap Tryz.underlying3 (by unfold maxLen; omega)
  have hcell : w.cell? ⟨z, 0, none⟩ = some (.map (some b)) := by rw [a3_ hb]; rfl
  have hseq := AnyZI.keys_gives (ρ := kH_) { keys_2L with } Fence.wide 2 trivial rfl (by omega) z b m.length D0 (R := R0) w (aR_ hb) hcell hown
  have cS := AnyZI.sorted_in ht_ Fence.wide 5 trivial trivial trivial trivial rfl (by omega) (ke_ _) (enters_of Tryz.func373 (by kernel_rfl) rfl) 374 #[.pointer (some ⟨z, 0, none⟩)] trivial (enters_of Tryz.func374 (by kernel_rfl) rfl) _ (Maps.size D0) (by rw [hsize]; unfold maxLen; omega) (by rw [hsize]; omega) w hseq
  refine ((callsIn_wide (n := 5)).1 cS).mono fun e w' ⟨v, ss, he, hS, hrow, hnil, hbel⟩ => ?_
  exact ⟨v, v, he, by simp [It.rids], ((fT_ hm hrow (hS.trans hperm) hbel).sub (List.Sublist.cons_cons _ (List.nil_sublist _))).1, rfl⟩
theorem keysT_s {om : List (Int × Ow)} {b z : Nat} (hl : om.length ≤ 1000000) : Spec Tryz.prog 213 [.fn (.func 295) [] [ptr z]] [.rd z 154 [mapV b], .rdpc (tmPc b intK intOk Ow.enc om)] (fun v : Value => [own 2 1 v ((srt (om.map (·.1))).map fun x => [int x])]) (fun v => .v v) :=
  Spec.tmRead (σ1 := [.rd z 154 [mapV b]]) fun tm htm => by
    have h := jb_ (V := id) (m := rawM tm) (b := b) (z := z) (by rw [← htm] at hl; simpa [rawM, plM] using hl)
    rw [eG_, ← fP_, htm] at h
    exact h
def votesI (n me : Nat) (om : List (Int × Ow)) (vs : List (List Pnt)) (who : Int) : List Pnt := if who < 0 ∨ (n : Int) ≤ who then [] else votesF me om vs who.toNat
theorem fi_ {n me : Nat} {om : List (Int × Ow)} {vs : List (List Pnt)} {who : Int} (h : who < 0 ∨ (n : Int) ≤ who) : votesI n me om vs who = [] := if_pos h
theorem gi_ {n me : Nat} {om : List (Int × Ow)} {vs : List (List Pnt)} (h : me < n) : votesI n me om vs (me : Nat) = ownP om := by
  unfold votesI votesF
  rw [if_neg (by omega), if_pos (by omega)]
theorem gh_ {n me : Nat} {om : List (Int × Ow)} {vs : List (List Pnt)} {who : Int} {l : List Pnt} (h : ¬ (who < 0 ∨ (n : Int) ≤ who)) (hm : ¬ who = me) (hl : vs[who.toNat]? = some l) : votesI n me om vs who = l := by
  unfold votesI votesF
  rw [if_neg h, if_neg (by omega), hl]
  rfl
theorem jV_ {n me : Nat} {om : List (Int × Ow)} {vs : List (List Pnt)} (h : PtsOk n me om vs) (who : Int) : (∀ x ∈ votesI n me om vs who, InR .i64 x.seq) ∧ (votesI n me om vs who).length ≤ 100000 := by
  unfold votesI
  split
  · exact ⟨fun x hx => (by cases hx), by simp⟩
  · exact ⟨jW_ h _, iX_ h _⟩
theorem kw_ {om : List (Int × Ow)} {z : Nat} (hz : z < (srt (om.map (·.1))).length) : (ownP om).take (z + 1) = (ownP om).take z ++ [⟨(srt (om.map (·.1)))[z], ((aget om (srt (om.map (·.1)))[z]).getD Ow.zero).dig, ((aget om (srt (om.map (·.1)))[z]).getD Ow.zero).len⟩] := by
  have h : z < (ownP om).length := by unfold ownP; rw [List.length_map]; exact hz
  rw [List.take_succ_eq_append_getElem h]
  congr 1
  simp [ownP]
theorem pnt_fill {k : Int} {o : Ow} {place : Nat → Option (Nat × Nat)} {Z : List Abs} (hZ : Z.length = 33) (h0 : place 0 = some (0, 1)) (h1 : place 1 = some (1, 32)) : fillA place Z [(0, int k), (1, .agg (digA o.dig))] = some (Pnt.abs ⟨k, o.dig, o.len⟩) :=
  iB_ (a := 1) (b := 32) rfl (dy_ o.len) hZ h0 h1
theorem ir_ (o : Ow) : Abs.agg (part o.cells 0 32) = .agg (digA o.dig) := by
  have h := dy_ o.len
  unfold part Ow.cells
  rw [List.drop_zero, List.take_append_of_le_length (by omega), List.take_of_length_le (by omega)]
theorem em_ (o : Ow) : o.cells.length = 33 := by
  have h := dy_ o.len
  simp [Ow.cells, h]
theorem pnt_part (x : Pnt) : Abs.agg (part x.abs 1 32) = .agg (digA x.dig) := by
  have h := dy_ x.len
  unfold part Pnt.abs
  rw [List.drop_succ_cons, List.drop_zero, List.take_of_length_le (by omega)]
theorem ei_ {vs : List (List Pnt)} {x : Pnt} {z : Nat} {l : List Pnt} (hl : vs[z]? = some l) : ((vs.take (z + 1)).filter fun l => decide (x ∈ l)).length = ((vs.take z).filter fun l => decide (x ∈ l)).length + if x ∈ l then 1 else 0 := by
  rw [List.take_add_one, hl, Option.toList_some, List.filter_append, List.length_append]
  congr 1
  by_cases h : x ∈ l <;> simp [h]
section
variable {n me : Nat} {om : List (Int × Ow)} {vs : List (List Pnt)} {bp bm : Nat} {vv : Value} {x : Pnt} {who k : Int} {o : Ow} {l : List Pnt}
set_option maxHeartbeats 2000000 in
theorem pvotes_s (hok : PtsOk n me om vs) : Spec Tryz.prog 157 [ptr bp, int who] [.rd bp 157 [int (n : Nat), int (me : Nat), mapV bm, .v vv], .rdpc (ownPc 199 1 vv (vs.map fun l => [pntsA l])), .rdpc (tmPc bm intK intOk Ow.enc om)] (fun r : Value => [own 203 33 r (((votesI n me om vs who)).map Pnt.abs)]) (fun r => .v r) := by
 refine t_ Tryz.func157 rfl Tryz.ntmps157 rfl fun G w =>c_<|a_<|q_ 1 rfl<|d_<|b_<|c_<|u_<|c_<|a_<|q_ 1 rfl<|slvA (aD_ rfl rfl (by kernel_rfl)) ?_
 refine q_ 5 rfl<|A_ (t := 15) rfl ?_ ?_
 ·intro hc15
  refine q_ 8 rfl<|d_<|b_<|U_ rfl<|c_<|aF_ 203 33<|a_<|q_ 1 rfl<|d_<|b_<|k_<|S_<|j_ nofun ?_
  have e9 : (votesI n me om vs who) = [] := fi_ (by omega)
  refine f_ (rs := [.tmp 4]) rfl (RV.tmp rfl RV.nil) (.slice none 0 0) (by rw [e9]; repeat (first | exact List.nil_sublist _ | exact List.Sublist.refl _ | apply List.Sublist.cons_cons | apply List.Sublist.cons)) ?_
  exact rfl
 intro hc15
 refine q_ 4 rfl<|slvA (g_ tabOk rfl rfl r0_ List.not_mem_nil rfl)<|q_ 3 rfl<|d_<|b_<|l_ rfl ?_ ?_
 ·intro hc8
  refine c_<|aF_ 203 33<|a_<|q_ 1 rfl<|d_<|b_<|k_<|S_<|j_ nofun ?_
  have e9 : (votesI n me om vs who) = [] := fi_ (by omega)
  refine f_ (rs := [.tmp 4]) rfl (RV.tmp rfl RV.nil) (.slice none 0 0) (by rw [e9]; repeat (first | exact List.nil_sublist _ | exact List.Sublist.refl _ | apply List.Sublist.cons_cons | apply List.Sublist.cons)) ?_
  exact rfl
 intro hc8
 refine c_<|a_<|q_ 4 rfl<|slvA (g_ tabOk rfl rfl r0_ List.not_mem_nil rfl)<|q_ 2 rfl<|d_<|b_<|l_ rfl ?_ ?_
 ·intro hc23
  obtain ⟨l, hvl⟩ : ∃ l, vs[who.toNat]? = some l := ⟨_, List.getElem?_eq_getElem (by rw [hok.len]; omega)⟩
  have hlm := List.mem_of_getElem? hvl
  have hl3 := hok.few l hlm
  refine c_<|a_<|q_ 3 rfl<|slvA (g_ tabOk rfl rfl r0_ List.not_mem_nil rfl)<|q_ 1 rfl<|slvA (aU_ (q := who.toNat) tabOk Tryz.underlying155 rfl rfl r1_ rfl (by omega) (by rw [List.length_map, hok.len]; omega) rfl rfl) ?_
  refine slvA (h_ (C := pntsA l) (ec_ (q := who.toNat) (s := 1) (cs := [pntsA l]) tabOk rfl rfl r1_ rfl (by rw [List.getElem?_map, hvl]; rfl) rfl) rfl) ?_
  refine slcA (hL_ (ku_ l) (by rw [List.length_map]; omega)) ?_
  refine aftM ?_
  intro z37
  refine q_ 1 rfl<|d_<|b_<|k_<|S_<|j_ nofun ?_
  have e9 : (votesI n me om vs who) = l := gh_ (by omega) (by omega) hvl
  refine f_ (rs := [.tmp 4]) rfl (RV.tmp rfl RV.nil) (z37) (by rw [e9]; repeat (first | exact List.nil_sublist _ | exact List.Sublist.refl _ | apply List.Sublist.cons_cons | apply List.Sublist.cons)) ?_
  exact rfl
 intro hc23
 refine o_<|w_<|b_<|c_ ?_
 have hkl : (srt (om.map (·.1))).length = om.length := by rw [b7_, List.length_map]
 have hom := hok.om
 have hol := eI_ om
 refine aF_ 203 33<|a_<|q_ 1 rfl<|d_<|b_<|c_<|c_<|a_<|q_ 3 rfl<|slvA (g_ tabOk rfl rfl r1_ List.not_mem_nil rfl)<|slcA (keys_1_s (b := bm)) ?_
 refine aftM ?_
 intro zk
 refine slcA (keysT_s (om := om) (b := bm) (z := zk) (by omega)) ?_
 refine aftM ?_
 intro r43
 refine hb_ [] (t := 43) rfl rfl<|slvA (H_ rfl Tryz.underlying282 (List.length_map _))<|q_ 1 rfl<|d_<|b_<|u_<|P_ (ι := Nat × Value) (fun z => [own 203 33 z.2 (((ownP om).take z.1).map Pnt.abs), .rd bp 157 [int (n : Nat), int (me : Nat), mapV bm, .v vv], .rdpc (ownPc 199 1 vv (vs.map fun l => [pntsA l])), .rdpc (tmPc bm intK intOk Ow.enc om)]) (fun z => [(0, ptr bp), (5, .v z.2), (43, ints (srt (om.map (·.1)))), (44, int ((srt (om.map (·.1))).length : Nat)), (45, int (z.1 : Nat))]) (fun z => z.1 ≤ (srt (om.map (·.1))).length) (fun z => (srt (om.map (·.1))).length - z.1) (0, .slice none 0 0) (Nat.zero_le _) (by exact ⟨rfl, rfl, rfl, rfl, rfl, trivial⟩) (sk_ sr_) ?_
 intro z hz
 refine c_<|a_<|q_ 1 rfl<|d_<|b_<|c_<|l_ rfl ?_ ?_
 rotate_left
 ·intro hc46
  have hta : (ownP om).take z.1 = ownP om := List.take_of_length_le (by omega)
  refine N_<|j_ nofun<|j_ nofun<|M_<|b_<|c_<|a_<|q_ 2 rfl<|d_<|b_<|k_ ?_
  have e9 : (votesI n me om vs who) = ownP om := by
   have := hok.slf
   rw [show who = (me : Nat) by omega]
   exact gi_ this
  rw [hta] at *
  refine f_ (rs := [.tmp 4]) rfl (RV.tmp rfl RV.nil) (z.2) (by rw [e9, ← hta]; repeat (first | exact List.nil_sublist _ | exact List.Sublist.refl _ | apply List.Sublist.cons_cons | apply List.Sublist.cons)) ?_
  exact rfl
 intro hc46
 have hlt : z.1 < (srt (om.map (·.1))).length := by omega
 have hki : intOk ((srt (om.map (·.1)))[z.1]'hlt) := by
  obtain ⟨e, he, h2⟩ := List.mem_map.1 (kb_.1 (List.getElem_mem hlt))
  rw [← h2]
  exact hok.keys e he
 refine o_<|b_<|c_<|u_<|c_<|a_<|slvA (L_ tabOk Tryz.underlying282 rfl rfl rfl rfl (a8_ (by omega)) rfl rfl) ?_
 refine slvA (aa_ tabOk rfl rfl rfl)<|q_ 1 rfl<|d_<|b_<|a_<|q_ 5 rfl<|slvA (g_ tabOk rfl rfl r1_ List.not_mem_nil rfl)<|q_ 1 rfl<|slvA (aX_ (a := ((srt (om.map (·.1)))[z.1]'hlt)) (m := om) (enc := Ow.enc) (z0 := Ow.zero) (zv := zow) (a0_ Tryz.underlying2) Tryz.underlying154 jL_ jK_ rfl r3_ List.not_mem_nil rfl is_v hki)<|slvA (h_ (C := .agg (digA ((aget om ((srt (om.map (·.1)))[z.1]'hlt)).getD Ow.zero).dig)) (jC_ tabOk rfl rfl rfl rfl rfl (by show 0 + 32 ≤ ((aget om ((srt (om.map (·.1)))[z.1]'hlt)).getD Ow.zero).cells.length; rw [em_]; omega)) (ir_ _)) ?_
 refine slvA (z_ (L := (⟨(srt (om.map (·.1)))[z.1]'hlt, ((aget om ((srt (om.map (·.1)))[z.1]'hlt)).getD Ow.zero).dig, ((aget om ((srt (om.map (·.1)))[z.1]'hlt)).getD Ow.zero).len⟩ : Pnt).abs) tabOk rfl rfl rfl (pnt_fill rfl rfl rfl))<|e_ (G_ tabOk Tryz.underlying199 rfl rfl rfl (ah_ (Pnt.size (⟨(srt (om.map (·.1)))[z.1]'hlt, ((aget om ((srt (om.map (·.1)))[z.1]'hlt)).getD Ow.zero).dig, ((aget om ((srt (om.map (·.1)))[z.1]'hlt)).getD Ow.zero).len⟩ : Pnt))) rfl rfl rfl) rfl rfl<|eb_ (K_ (zs := ((ownP om).take (z.1 + 1)).map Pnt.abs) tabOk [] (by rw [kw_ hlt, List.map_append]; rfl) Tryz.underlying199 rfl rfl rfl rfl rfl rfl (by intro c hc; rw [List.mem_singleton] at hc; subst hc; exact Pnt.ones _) (by unfold maxLen; simp only [List.length_map, List.length_take, List.length_cons, List.length_nil]; omega) (by rw [show Tryz.prog.bytesOf 203 = 40 by kernel_rfl]; simp only [List.length_map, List.length_take, List.length_cons, List.length_nil]; omega)) rfl rfl fun r60=>?_
 refine q_ 1 rfl<|d_<|w_<|b_<|a_<|slvA (y_ rfl rfl (by simp only [InR, lo, hi]; omega)) ?_
 refine q_ 1 rfl<|d_<|I_ (z.1 + 1, r60) (by omega) ((by dsimp only; omega)) (by exact ⟨rfl, rfl, rfl, rfl, rfl, trivial⟩) sr_
end
theorem own_ones (o : Ow) : ones o.cells = true := by
  rw [bN_]; intro a ha
  rcases List.mem_append.1 ha with ha | ha
  · obtain ⟨b, _, rfl⟩ := List.mem_map.1 ha; rfl
  · rw [List.mem_singleton.1 ha]; rfl
section
variable {n me : Nat} {om : List (Int × Ow)} {vs : List (List Pnt)} {bp bm : Nat} {vv : Value} {x : Pnt} {who k : Int} {o : Ow} {l : List Pnt}
set_option maxHeartbeats 2000000 in
theorem psup_s (hok : PtsOk n me om vs) (hx : InR .i64 x.seq) : Spec Tryz.prog 268 [ptr bp, .agg x.abs] [.rd bp 157 [int (n : Nat), int (me : Nat), mapV bm, .v vv], .rdpc (ownPc 199 1 vv (vs.map fun l => [pntsA l])), .rdpc (tmPc bm intK intOk Ow.enc om)] (fun _ : Unit => []) (fun _ => int (supF om vs x : Nat)) := by
 refine t_ Tryz.func268 rfl Tryz.ntmps268 rfl fun G w =>c_<|a_<|eb_ (B_ (cs := x.abs) rfl) rfl rfl fun b3=>?_
 refine q_ 1 rfl<|d_<|b_<|c_<|c_<|a_<|q_ 1 rfl<|slvA (aD_ rfl rfl (by kernel_rfl)) ?_
 refine d_<|b_<|O_ rfl<|o_<|b_<|c_<|a_<|q_ 1 rfl<|d_<|b_<|bL_ (ι := Unit) (fun z => [.blk b3 203 x.abs, .rd bp 157 [int (n : Nat), int (me : Nat), mapV bm, .v vv], .rdpc (ownPc 199 1 vv (vs.map fun l => [pntsA l])), .rdpc (tmPc bm intK intOk Ow.enc om)]) (fun z => [(0, ptr bp), (3, ptr b3), (5, int (((if ownHas om x then 1 else 0) + ((vs.take 0).filter fun l => decide (x ∈ l)).length) : Nat))]) (fun z => True) ?_ ?_
 ·skip
  refine c_<|Q_ [] (.q 0 (.q 1 (.q 2 (.q 3 (.q 4 (.q 5 (.q 6 (.q 7 (.q 8 (.q 9 (.e 10 (.e 11 (.q 12 .nil))))))))))))) (by kernel_rfl) (by kernel_rfl) ?_
  refine qs_ 3 rfl<|sxvA rfl (g_ tabOk rfl rfl r1_ List.not_mem_nil rfl) (by simp) ?_
  refine qs_ 1 rfl<|hx_ fun hx9 =>sxvA rfl (h_ (C := int x.seq) (g_ tabOk rfl rfl l0_ List.not_mem_nil rfl) rfl) hx9<|sxvA rfl (e4_ (a := x.seq) (m := om) (enc := Ow.enc) (z0 := Ow.zero) (zv := zow) (a0_ Tryz.underlying2) Tryz.underlying154 jL_ jK_ rfl r3_ List.not_mem_nil rfl is_v hx) hx9<|qs_ 3 rfl<|aO_ tabOk rfl rfl rfl rfl fun b6 =>ex_ rfl (m_ (L' := ((aget om x.seq).getD Ow.zero).cells) tabOk rfl rfl rfl u0_ (em_ _) (Nat.le_of_ble_eq_true rfl) (own_ones _) (by exact p_ (em_ _))) (by simp) rfl rfl ?_
  refine hx_ fun hx9 =>qx_ 1 hx9 rfl<|F_<|b_<|c_<|a_<|q_ 2 rfl<|b5_ (t := 23) rfl ?_ ?_
  rotate_left
  ·intro hc23
   have e9 : ownHas om x = false := by unfold ownHas; simp_all
   refine q_ 6 rfl<|d_<|b_<|O_ rfl<|o_<|aw_ (()) (trivial) (by refine ⟨rfl, rfl, ?_, trivial⟩; (rw [e9]; rfl)) (sk_ sr_)
  intro hc23
  refine q_ 1 rfl<|slvA (h_ (C := .agg (digA ((aget om x.seq).getD Ow.zero).dig)) (ad_ tabOk rfl rfl rfl l0_ List.not_mem_nil (by show 0 + 32 ≤ ((aget om x.seq).getD Ow.zero).cells.length; rw [em_]; omega)) (by exact ir_ _)) ?_
  refine q_ 1 rfl<|slvA (h_ (C := .agg (digA x.dig)) (ad_ tabOk rfl rfl rfl l1_ List.not_mem_nil (by show 1 + 32 ≤ x.abs.length; rw [Pnt.size]; omega)) (by exact pnt_part _)) ?_
  refine slvA (e7_ rfl rfl (bp_ _) (bp_ _) (by kernel_rfl) (eqlD _ _ ((aget om x.seq).getD Ow.zero).len x.len (decide (((aget om x.seq).getD Ow.zero).dig = x.dig)) rfl)) ?_
  refine q_ 1 rfl<|d_<|b_<|l_ rfl ?_ ?_
  rotate_left
  ·intro hc29
   have e9 : ownHas om x = false := by unfold ownHas; simp_all
   refine o_<|aw_ (()) (trivial) (by refine ⟨rfl, rfl, ?_, trivial⟩; (rw [e9]; rfl)) (sk_ sr_)
  intro hc29
  have e9 : ownHas om x = true := by unfold ownHas; simp_all
  refine a_<|q_ 1 rfl<|slvA (y_ rfl rfl (by simp only [InR, lo, hi]; omega)) ?_
  refine q_ 1 rfl<|d_<|aw_ (()) (trivial) (by refine ⟨rfl, rfl, ?_, trivial⟩; (rw [e9]; rfl)) (sk_ sr_)
 intro z hz
 refine c_<|c_<|a_<|q_ 3 rfl<|slvA (g_ tabOk rfl rfl r1_ List.not_mem_nil rfl)<|slvA (df_ (m := vs.length) rfl r2_ Tryz.underlying155 (List.length_map _))<|q_ 1 rfl<|d_<|b_<|u_ ?_
 have hvn := hok.len
 have hn7 := hok.n7
 refine P_ (ι := Nat × Unit) (fun z => [.blk b3 203 x.abs, .rd bp 157 [int (n : Nat), int (me : Nat), mapV bm, .v vv], .rdpc (ownPc 199 1 vv (vs.map fun l => [pntsA l])), .rdpc (tmPc bm intK intOk Ow.enc om)]) (fun z => [(0, ptr bp), (3, ptr b3), (5, int (((if ownHas om x then 1 else 0) + ((vs.take z.1).filter fun l => decide (x ∈ l)).length) : Nat)), (35, .v vv), (36, int (vs.length : Nat)), (37, int (z.1 : Nat))]) (fun z => z.1 ≤ vs.length ∧ ((if ownHas om x then 1 else 0) + ((vs.take z.1).filter fun l => decide (x ∈ l)).length) ≤ z.1 + 1) (fun z => vs.length - z.1) (0, ()) (⟨Nat.zero_le _, by simp only [List.take_zero, List.filter_nil, List.length_nil]; split <;> omega⟩) (by exact ⟨rfl, rfl, rfl, rfl, rfl, rfl, trivial⟩) sr_ ?_
 intro z hz
 refine c_<|a_<|q_ 1 rfl<|d_<|b_<|c_<|l_ rfl ?_ ?_
 rotate_left
 ·intro hc38
  have hta : vs.take z.1 = vs := List.take_of_length_le (by omega)
  refine N_<|j_ nofun<|j_ nofun<|M_<|b_<|c_<|a_<|q_ 2 rfl<|d_<|b_<|k_<|f_ (rs := [.tmp 4]) rfl (RV.tmp rfl RV.nil) (()) sn_ ?_
  rw [hta] at *
  exact rfl
 intro hc38
 have hlt : z.1 < vs.length := by omega
 obtain ⟨l, hvl⟩ : ∃ l, vs[z.1]? = some l := ⟨_, List.getElem?_eq_getElem hlt⟩
 have hlm := List.mem_of_getElem? hvl
 have hl3 := hok.few l hlm
 refine o_<|b_<|c_<|u_<|c_<|a_<|slvA (aU_ (q := z.1) tabOk Tryz.underlying155 rfl rfl r2_ rfl rfl (by rw [List.length_map]; exact hlt) rfl rfl) ?_
 refine slvA (h_ (C := pntsA l) (ec_ (q := z.1) (s := 1) (cs := [pntsA l]) tabOk rfl rfl r2_ rfl (by rw [List.getElem?_map, hvl]; rfl) rfl) rfl) ?_
 refine q_ 1 rfl<|d_<|b_<|c_<|a_<|q_ 1 rfl<|slvA (h_ (C := .agg x.abs) (r_ tabOk rfl rfl rfl l0_ List.not_mem_nil (Pnt.size _)) rfl)<|slcA (hB_ (l := l) hx (hok.ins l hlm) (by omega)) ?_
 refine ap_<|fun _=>d_<|b_<|l_ rfl ?_ ?_
 rotate_left
 ·intro hc43
  refine o_<|w_<|b_<|a_<|slvA (y_ rfl rfl (by simp only [InR, lo, hi]; omega)) ?_
  refine q_ 1 rfl<|d_<|I_ (z.1 + 1, ()) (by omega) (⟨by dsimp only; omega, by have h := hz.2; dsimp only; rw [ei_ hvl]; have h3 : (if x ∈ l then 1 else 0) ≤ 1 := (by split <;> omega); omega⟩) (by refine ⟨rfl, rfl, ?_, rfl, rfl, rfl, trivial⟩; dsimp only; rw [ei_ hvl, if_neg hc43]; rfl) sr_
 intro hc43
 refine a_<|q_ 1 rfl<|slvA (h_ (C := int (((if ownHas om x then 1 else 0) + ((vs.take (z.1 + 1)).filter fun l => decide (x ∈ l)).length) : Nat)) (y_ rfl rfl (by simp only [InR, lo, hi]; omega)) (congrArg int (by rw [ei_ hvl, if_pos hc43]; omega))) ?_
 refine q_ 1 rfl<|d_<|w_<|b_<|a_<|slvA (y_ rfl rfl (by simp only [InR, lo, hi]; omega)) ?_
 refine q_ 1 rfl<|d_<|I_ (z.1 + 1, ()) (by omega) (⟨by dsimp only; omega, by have h := hz.2; dsimp only; rw [ei_ hvl]; have h3 : (if x ∈ l then 1 else 0) ≤ 1 := (by split <;> omega); omega⟩) (by exact ⟨rfl, rfl, rfl, rfl, rfl, rfl, trivial⟩) sr_
theorem jw_  : Spec Tryz.prog 267 [pntsA l] [] (fun b : Nat => [.blk b 199 [pntsA l]]) (fun b => .fn (.func 335) [] [ptr b]) := by
 refine t_ Tryz.func267 rfl Tryz.ntmps267 rfl fun G w =>c_<|a_<|eb_ (be_ rfl rfl) rfl rfl fun b1=>?_
 exact q_ 1 rfl<|d_<|b_<|c_<|a_<|slvA (V_ rfl rfl)<|q_ 1 rfl<|d_<|b_<|k_<|f_ (rs := [.tmp 2]) rfl (RV.tmp rfl RV.nil) (b1) sr_<|rfl
end
/-! ### Pieces looked at from here; acts with calls that are put off -/
theorem Mem.focus {w0 w : World} {F G : List Nat} {σ σ1 φ : Blks} (hm : Mem w0 F G σ w) (hp : Split σ σ1 φ) : Mem w (mids σ1) (mids φ ++ G) σ1 w ∧ Carry (mids σ ++ G) w (mids σ1 ++ (mids φ ++ G)) w := by
  have hmem : ∀ k, k ∈ mids σ ↔ k ∈ mids σ1 ∨ k ∈ mids φ := fun k => by rw [← hp.perm.mem_iff, List.mem_append]
  have hnd : (mids σ1 ++ mids φ).Nodup := hp.perm.nodup_iff.2 hm.nodup
  obtain ⟨n1, n2, n3⟩ := List.nodup_append.1 hnd
  have hc1 : Carry (mids σ ++ G) w (mids σ1 ++ (mids φ ++ G)) w := Carry.less fun k hk => by
    simp only [List.mem_append] at hk ⊢
    rw [hmem]
    rcases hk with h | h | h
    · exact .inl (.inl h)
    · exact .inl (.inr h)
    · exact .inr h
  refine ⟨⟨Ext.refl w, fun k hk => .inl hk, fun k hk hg => ?_, fun k hk => ?_, fun x hx k hk => ?_, n1, fun x hx => ?_⟩, hc1⟩
  · rcases List.mem_append.1 hg with h | h
    · exact n3 k hk k h rfl
    · exact hm.sep k ((hmem k).2 (.inl hk)) h
  · rcases List.mem_append.1 hk with h | h
    · exact hm.lt k (List.mem_append_left _ ((hmem k).2 (.inr h)))
    · exact hm.old k h
  · rcases hp.sub x hx with ⟨_, h⟩ | ⟨y, hy, rfl⟩
    · rw [h] at hk; cases hk
    · rcases List.mem_append.1 (gj_ y k hk) with h | h
      · exact List.mem_append_left _ (bP_.2 ⟨y, hy, h⟩)
      · exact List.mem_append_right _ (hm.ro y (hp.rest y hy) k h)
  · rcases hp.sub x hx with ⟨h, _⟩ | ⟨y, hy, rfl⟩
    · exact It.carry (hm.hold x h) hc1 fun _ _ => rfl
    · exact fj_ (It.carry (hm.hold y (hp.rest y hy)) hc1 fun _ _ => rfl)
theorem Mem.nil {w0 w : World} {F G : List Nat} (h : Ext F w0 w) (hG : ∀ k ∈ G, k < w.heap.size) : Mem w0 F G [] w := ⟨h, by simp [mids], by simp [mids], hG, by simp, by simp [mids], by simp⟩
def StD (n : Nat) (W : Wd) (σ : Blks) (l : Slots) (ds : List Deferred) (a : Act) (w : World) : Prop := ∃ a0 : Act, a = { a0 with defers := ds } ∧ St n W σ l a0 w
section
variable {P : Program} {n : Nat} {W : Wd} {σ τ : Blks} {l : Slots} {ops : Array Oper} {rest : List Oper} {Q : Exit → Act → World → Prop} {o : Oper} {ds : List Deferred} {y : Abs}
theorem SL.valD (hv : Val P n W σ l [] o y) (hg : gd ops l o = some true) (hd : lt? o.dst n = true) (k : SL P ops rest (StD n W σ (put? l o.dst y) ds) Q) : SL P ops (o :: rest) (StD n W σ l ds) Q := fun a w ⟨a0, ha, hs⟩ => by
  subst ha
  refine wpList_step fun K hK => ?_
  rw [if_pos (show Region.wanted o (yielded ops a0.tmps) = true from hs.wanted hg)]
  obtain ⟨v, hr, hrun⟩ := hv a0 w hs (by simp)
  unfold Oper.wp
  have h2 := hrun w (Ext.refl w)
  rw [show Act.eval { a0 with defers := ds } = a0.eval from rfl, h2]
  refine hK _ _ (k _ _ ⟨a0.put o.dst v, ?_, hs.put hd hr⟩)
  cases o.dst <;> rfl
theorem ls_ {Y : List Nat} {R : Abs → Blks → Prop} (hv : Eff P n W σ l Y o R) (hg : gd ops l o = some true) (hd : lt? o.dst n = true) (k : ∀ y τ, R y τ → SL P ops rest (StD n W τ (put? l o.dst y) ds) Q) : SL P ops (o :: rest) (StD n W σ l ds) Q := fun a w ⟨a0, ha, hs⟩ => by
  subst ha
  refine wpList_step fun K hK => ?_
  rw [if_pos (show Region.wanted o (yielded ops a0.tmps) = true from hs.wanted hg)]
  unfold Oper.wp
  rw [show Act.eval { a0 with defers := ds } = a0.eval from rfl]
  obtain ⟨v, w', y, τ, hR, _, hr, hm, hc, hrun | ⟨rfl, hrun⟩⟩ := hv a0 w hs
  · rw [hrun]; refine hK _ _ (k _ _ hR _ _ ⟨_, ?_, (hs.to hm hc).put hd hr⟩); cases o.dst <;> rfl
  · rw [hrun]; refine hK _ _ (k _ _ hR _ _ ⟨_, ?_, (hs.to hm hc).put hd hr⟩); cases o.dst <;> rfl
end
theorem eW_ {F : List Nat} {w W W' : World} {row : Option Nat} (h : Ext F w W) (hg : W.grownBy W' row) (hr : ∀ r, row = some r → w.heap.size ≤ r) : Ext F w W' := ⟨hg.os.trans h.os, hg.tape.trans h.tape, hg.output.trans h.output, Nat.le_trans h.size hg.size, fun k hk hn => (hg.block k (Nat.lt_of_lt_of_le hk h.size) fun e => by have := hr k e.symm; omega).trans (h.block k hk hn)⟩
theorem eV_ {F : List Nat} {B : Nat} {W W' : World} (h : Ext F W W') (hF : ∀ k ∈ F, k < B) : KeepsFrom B W W' := ⟨h.size, fun k o hB hk _ => (h.block k (aR_ hk) fun hm => by have := hF k hm; omega).trans hk⟩
theorem d9_ {B : Nat} {W W' : World} (h : Ext [] W W') (hB : B ≤ W.heap.size) : Below B W W' := ⟨h.os, h.tape, h.output, h.size, fun k hk => h.block k (by omega) (by simp)⟩
/-! ### The greatest one, plain -/
theorem k8_ {β : Type} (xs : List β) : (bwdL xs).map (·.2) = xs.reverse := by
  unfold bwdL
  rw [List.map_reverse, List.map_map]
  congr 1
  have h : ((fun x : Int × β => x.2) ∘ fun x : β × Nat => ((x.2 : Int), x.1)) = Prod.fst := rfl
  rw [h, List.zipIdx_map_fst]
def goodP (om : List (Int × Ow)) (vs : List (List Pnt)) (above at_ : Int) (x : Pnt) : Bool := decide (above < x.seq) && decide (at_ ≤ (supF om vs x : Nat))
abbrev PtI := { p : Pnt // InR .i64 p.seq }
section
variable {om : List (Int × Ow)} {vs : List (List Pnt)} {above at_ : Int} {xs : List PtI} {pre : List (Int × PtI)} {y : Int × PtI}
theorem ld_ (h : ∀ y ∈ bwdL xs, goodP om vs above at_ y.2.1 = false) : bestF om vs (xs.map (·.1)) above at_ = none := by
  refine List.find?_eq_none.2 fun x hx => ?_
  rw [← List.map_reverse, ← k8_, List.map_map] at hx
  obtain ⟨z, hz, rfl⟩ := List.mem_map.1 hx
  have h2 : goodP om vs above at_ z.2.1 = false := h z hz
  unfold goodP at h2
  dsimp only [Function.comp]
  rw [h2]
  decide
theorem lc_ (hp : pre ++ [y] <+: bwdL xs) (h : ∀ z ∈ pre, goodP om vs above at_ z.2.1 = false) (hy : goodP om vs above at_ y.2.1 = true) : bestF om vs (xs.map (·.1)) above at_ = some y.2.1 := by
  obtain ⟨r, hr⟩ := hp
  unfold bestF
  rw [← List.map_reverse, ← k8_, ← hr, List.map_append, List.map_append, List.map_append, List.map_append, List.append_assoc, List.find?_append]
  rw [List.find?_eq_none.2 (fun x hx => ?_)]
  · rw [Option.none_or, List.map_cons, List.map_nil, List.map_cons, List.map_nil, List.singleton_append, List.find?_cons]
    unfold goodP at hy
    rw [hy]
  · rw [List.map_map] at hx
    obtain ⟨z, hz, rfl⟩ := List.mem_map.1 hx
    have h2 : goodP om vs above at_ z.2.1 = false := h z hz
    unfold goodP at h2
    dsimp only [Function.comp]
    rw [h2]
    decide
end
theorem lf_ {xs : List Pnt} (h : ∀ x ∈ xs, InR .i64 x.seq) : ∃ ys : List PtI, (ys.map fun x : PtI => x.1) = xs := ⟨xs.attach.map fun x => ⟨x.1, h x.1 x.2⟩, by rw [List.map_map]; exact List.attach_map_subtype_val xs⟩
section
variable {G : List Nat} {w : World} {p : Pnt} {t : Bool} {b8 b9 D : Nat} {a : Act} {W : World}
theorem iO_ {R : Abs} (hs8 : a.tmps[8]? = some (.pointer (some ⟨b8, 0, none⟩))) (hs9 : a.tmps[9]? = some (.pointer (some ⟨b9, 0, none⟩))) (hsz : a.tmps.size = 31) (hx : Ext [] w W) (h8 : W.heap[b8]? = some (row 203 p.cells)) (h9 : W.heap[b9]? = some (row 4 [.bool t]))
    (hne : b8 ≠ b9) (hG : ∀ k ∈ G, k < w.heap.size) (h8G : w.heap.size ≤ b8) (h9G : w.heap.size ≤ b9) (hD : W.heap[D]? = some (.deferred (some []))) (hDw : w.heap.size ≤ D) (hR : Abs.tup [.agg p.abs, boo t] = R) :
    LeavesInM (RF none) 6 Tryz.prog Tryz.f204 a.tmps (Post G [] (fun _ : Unit => []) (fun _ => R) w) [{ target := .collected D, args := #[] }] .returning W := by
  refine ⟨by simp, .inl ⟨D, _, rfl, run_takeDeferred hD, ?_⟩⟩
  have hg := grownBy_putObj' W D (.deferred none)
  have hx2 : Ext [] w (W.putObj D (.deferred none)) := eW_ hx hg fun r hr => by cases hr; exact hDw
  have n8 : b8 ≠ D := fun e => by subst e; rw [hD] at h8; cases h8
  have n9 : b9 ≠ D := fun e => by subst e; rw [hD] at h9; cases h9
  have k8 : (W.putObj D (.deferred none)).heap[b8]? = some (row 203 p.cells) := (hg.block b8 (aR_ h8) fun e => n8 (by cases e; rfl)).trans h8
  have k9 : (W.putObj D (.deferred none)).heap[b9]? = some (row 4 [.bool t]) := (hg.block b9 (aR_ h9) fun e => n9 (by cases e; rfl)).trans h9
  have hm : Mem (W.putObj D (.deferred none)) [b8, b9] G [.blk b8 203 p.abs, .blk b9 4 [boo t]] (W.putObj D (.deferred none)) := by
    refine ⟨Ext.refl _, fun k hk => .inl (by simpa [mids, It.mids] using hk), fun k hk hg => ?_, fun k hk => Nat.lt_of_lt_of_le (hG k hk) hx2.size, by simp [It.rids], by simp [mids, It.mids, hne], fun x hx => ?_⟩
    · have := hG k hg
      simp [mids, It.mids] at hk
      omega
    · simp only [List.mem_cons, List.not_mem_nil, or_false] at hx
      rcases hx with rfl | rfl
      · exact ⟨_, k8, by rw [Pnt.abs_cells]; exact ai_.2 rfl⟩
      · exact ⟨_, k9, _, _, rfl, rfl, rfl⟩
  have hs : St 31 ⟨W.putObj D (.deferred none), [b8, b9], G⟩ [.blk b8 203 p.abs, .blk b9 4 [boo t]] [(8, ptr b8), (9, ptr b9)] { a with defers := [] } (W.putObj D (.deferred none)) := by
    refine ⟨rfl, hsz, fun i x hx => ?_, hm⟩
    simp only [slot] at hx
    by_cases h1 : 8 = i
    · subst h1; simp at hx; subst hx; exact ⟨_, hs8, rfl⟩
    · rw [cy_ h1] at hx
      by_cases h2 : 9 = i
      · subst h2; simp at hx; subst hx; exact ⟨_, hs9, rfl⟩
      · rw [cy_ h2] at hx; cases hx
  obtain ⟨us, h1, h2⟩ := RV.results (rs := [.cell 8 203, .cell 9 4]) (vs := [.agg p.abs, boo t]) (fn := Tryz.f204) rfl (RV.cell rfl (RV.cellA tabOk rfl rfl (.inl List.mem_cons_self) (Pnt.size p)) (RV.cell rfl (RV.cell1 tabOk rfl (.inl (List.mem_cons_of_mem _ List.mem_cons_self)) rfl) RV.nil)) hs
  refine ⟨_, h2, ⟨(), _, rfl, by simp, Mem.nil hx2 fun k hk => Nat.lt_of_lt_of_le (hG k hk) hx2.size, ?_⟩⟩
  have hc : Carry (mids [.blk b8 203 p.abs, .blk b9 4 [boo t]] ++ G) (W.putObj D (.deferred none)) (mids ([] : Blks) ++ G) (W.putObj D (.deferred none)) := Carry.less fun k hk => List.mem_append_right _ (by simpa [mids] using hk)
  have h3 := kp_ (aj_ hc _ _ h1)
  rw [← hR]
  exact h3
end
def ptO (o : Option Pnt) : Pnt := o.getD Pnt.zero
section
variable {n me : Nat} {om : List (Int × Ow)} {vs : List (List Pnt)} {bp bm : Nat} {vv : Value} {who above at_ : Int}
abbrev ptR (n me : Nat) (om : List (Int × Ow)) (vs : List (List Pnt)) (bp bm : Nat) (vv : Value) : Blks := [.rd bp 157 [int (n : Nat), int (me : Nat), mapV bm, .v vv], .rdpc (ownPc 199 1 vv (vs.map fun l => [pntsA l])), .rdpc (tmPc bm intK intOk Ow.enc om)]
abbrev bsS (n me : Nat) (om : List (Int × Ow)) (vs : List (List Pnt)) (bp bm : Nat) (vv : Value) (xs : List Pnt) (above at_ : Int) (b4 b6 b7 b8 b9 b15 : Nat) : Blks :=
  .blk b15 199 [pntsA xs] :: .blk b9 4 [boo false] :: .blk b8 203 Pnt.zero.abs :: .blk b7 3 [int at_] :: .blk b6 2 [int above] :: .blk b4 101 [ptr bp] :: ptR n me om vs bp bm vv
abbrev bsL (b4 b6 b7 b8 b9 : Nat) : Slots := [(4, ptr b4), (6, ptr b6), (7, ptr b7), (8, ptr b8), (9, ptr b9)]
theorem gX_ {b4 b6 b7 b8 b9 : Nat} : ∀ t x, slot (bsL b4 b6 b7 b8 b9) t = some x → ∃ u, x = .v u := by
  intro t x ht
  simp only [slot] at ht
  repeat' (cases hb9 : Nat.beq _ t <;> rw [hb9] at ht <;> simp only [cond] at ht)
  all_goals first | (cases ht; exact ⟨_, rfl⟩) | cases ht
theorem fw_ {b4 b6 b7 b8 b9 b11 : Nat} : ∀ t x, slot ((11, ptr b11) :: bsL b4 b6 b7 b8 b9) t = some x → ∃ u, x = .v u := by
  intro t x ht
  simp only [slot] at ht
  repeat' (cases hb9 : Nat.beq _ t <;> rw [hb9] at ht <;> simp only [cond] at ht)
  all_goals first | (cases ht; exact ⟨_, rfl⟩) | cases ht
set_option maxHeartbeats 4000000 in
theorem pbest_s (hok : PtsOk n me om vs) : Spec Tryz.prog 204 [ptr bp, int who, int above, int at_] (ptR n me om vs bp bm vv) (fun _ : Unit => []) (fun _ => .tup [.agg (ptO (bestF om vs (votesI n me om vs who) above at_)).abs, boo (bestF om vs (votesI n me om vs who) above at_).isSome]) := fun G w vals hm hv => by
  obtain ⟨xs, hxs⟩ : ∃ xs, votesI n me om vs who = xs := ⟨_, rfl⟩
  have hxi := jV_ hok who
  rw [hxs] at hxi ⊢
  obtain ⟨ys, rfl⟩ := lf_ hxi.1
  have hyl : ys.length ≤ 100000 := by have := hxi.2; rwa [List.length_map] at this
  have hlen := ac_ hv
  refine (callsIn_wide (n := 6)).1 (callsIn_of_wp_marks (F := RF none) (R := Post G [] (fun _ : Unit => []) (fun _ => .tup [.agg (ptO (bestF om vs (ys.map fun x : PtI => x.1) above at_)).abs, boo (bestF om vs (ys.map fun x : PtI => x.1) above at_).isSome]) w) Tryz.func204 rfl trivial ?_ rfl)
  refine (show RC Tryz.prog none 6 _ (St 31 ⟨w, [], G⟩ (ptR n me om vs bp bm vv) (args0 [ptr bp, int who, int above, int at_] 0)) _ from ?_) _ w ⟨rfl, ?_, fun t x hx => ?_, hm⟩
  rotate_left
  · simp only [List.length_cons, List.length_nil] at hlen
    simp [Tryz.ntmps204, hlen]
  · have h1 := (cN_ [ptr bp, int who, int above, int at_] 0 t x hx).2
    rw [Nat.sub_zero] at h1
    obtain ⟨u, h2, h3⟩ := a2_ hv h1
    refine ⟨u, ?_, h3⟩
    have hlt : t < vals.length := (List.getElem?_eq_some_iff.1 h2).1
    simp [Array.getElem?_append, hlt]
    exact (List.getElem?_eq_some_iff.1 h2).2
  refine RC.seq (RC.region rfl ?_)
  refine sleA (be_ rfl rfl) ?_
  rintro _ _ ⟨b4, rfl, rfl⟩
  refine sleA (be_ rfl rfl) ?_
  rintro _ _ ⟨b6, rfl, rfl⟩
  refine sleA (be_ rfl rfl) ?_
  rintro _ _ ⟨b7, rfl, rfl⟩
  refine sleA (C_ tabOk rfl) ?_
  rintro _ _ ⟨b8, rfl, rfl⟩
  refine sleA (C_ tabOk rfl) ?_
  rintro _ _ ⟨b9, rfl, rfl⟩
  refine d_ (RE.norm (RE.seq ?_))
  refine RC.seq (RC.seq (RC.region rfl ?_))
  refine slvA (h_ (C := ptr bp) (g_ tabOk rfl rfl l4_ List.not_mem_nil (by rfl)) rfl) ?_
  refine slvA (s_ rfl) ?_
  refine slcA (pvotes_s (bm := bm) (vv := vv) hok) ?_
  refine aftM ?_
  intro r14
  rw [hxs]
  refine hb_ [] (t := 14) rfl rfl ?_
  refine slcA (jw_ (l := ys.map fun x : PtI => x.1)) ?_
  refine aftM ?_
  intro b15
  refine d_ (RE.norm (RE.seq ?_))
  refine RC.block ?_
  intro a1 w1 hs0
  have hs1 : St 31 ⟨w, [], G⟩ (bsS n me om vs bp bm vv (ys.map fun x : PtI => x.1) above at_ b4 b6 b7 b8 b9 b15) ((15, .fn (.func 335) [] [ptr b15]) :: bsL b4 b6 b7 b8 b9) a1 w1 := hs0.sub ⟨rfl, rfl, rfl, rfl, rfl, rfl, trivial⟩
  clear hs0
  obtain ⟨σ, hσ⟩ : ∃ σ, bsS n me om vs bp bm vv (ys.map fun x : PtI => x.1) above at_ b4 b6 b7 b8 b9 b15 = σ := ⟨_, rfl⟩
  have hmids : mids σ = [b15, b9, b8, b7, b6, b4] := by rw [← hσ]; rfl
  rw [hσ] at hs1
  have hx1 : Ext [] w w1 := hs1.mem.ext
  have hlt : ∀ k ∈ mids σ, k < w1.heap.size := fun k hk => hs1.mem.lt k (List.mem_append_left _ hk)
  have hnw : ∀ k ∈ mids σ, w.heap.size ≤ k := fun k hk => (hs1.mem.out k hk).resolve_left (by simp)
  have h8 : b8 < w1.heap.size := hlt _ (by rw [hmids]; simp)
  have h9 : b9 < w1.heap.size := hlt _ (by rw [hmids]; simp)
  have h8w : w.heap.size ≤ b8 := hnw _ (by rw [hmids]; simp)
  have h9w : w.heap.size ≤ b9 := hnw _ (by rw [hmids]; simp)
  have hne : b8 ≠ b9 := by
    have hnd := hs1.mem.nodup
    rw [hmids] at hnd
    simp only [List.nodup_cons, List.mem_cons, not_or] at hnd
    exact fun e => hnd.2.1.1 e.symm
  have hg15 : a1.eval (.tmp 15) = .func (.func 335) #[] #[.pointer (some ⟨b15, 0, none⟩)] := by
    obtain ⟨us, vs', h1, h2, u, us', h3, h4, h5⟩ := hs1.eval (x := .tmp 15) rfl
    have h2 : us = [] := h2
    have h5 : us' = [] := h5
    have h4 : u = _ := h4
    subst h2 h5 h4 h3
    exact h1
  have hrd : Mem w1 [] (mids σ ++ G) [.rd b15 199 [pntsA (ys.map fun x : PtI => x.1)]] w1 := (hs1.mem.focus (Split.rds (ys := [.blk b15 199 [pntsA (ys.map fun x : PtI => x.1)]]) (fun y hy => by rw [List.mem_singleton.1 hy, ← hσ]; exact List.mem_cons_self))).1
  have hsA := hs1.sub (r := bsL b4 b6 b7 b8 b9) ⟨rfl, rfl, rfl, rfl, rfl, trivial⟩
  have e8 : a1.tmps[8]? = some (.pointer (some ⟨b8, 0, none⟩)) := by obtain ⟨u, h1, h2⟩ := hsA.slots 8 _ rfl; rw [show u = _ from h2] at h1; exact h1
  have e9 : a1.tmps[9]? = some (.pointer (some ⟨b9, 0, none⟩)) := by obtain ⟨u, h1, h2⟩ := hsA.slots 9 _ rfl; rw [show u = _ from h2] at h1; exact h1
  refine wpIn_rangeFunc_ownH (F := RF none) (n := 6) rfl (by omega) (gf := 335) (lb := #[.pointer (some ⟨b15, 0, none⟩)]) hg15 trivial (enters_of Tryz.func335 (by kernel_rfl) rfl)
    (k7_ (fun x : PtI => x.1) hrd hyl) belowK_t (belowK_b (Nat.le_refl _)) (Below.refl _ _) (fun _ => rfl)
    (fun pre W => Ext [] w1 W ∧ ∀ y ∈ pre, goodP om vs above at_ y.2.1 = false)
    (fun c pre W => c = .ret ∧ Ext [b8, b9] w1 W ∧ ∃ init y, pre = init ++ [y] ∧ (∀ z ∈ init, goodP om vs above at_ z.2.1 = false) ∧ goodP om vs above at_ y.2.1 = true ∧ W.heap[b8]? = some (row 203 y.2.1.cells) ∧ W.heap[b9]? = some (row 4 [.bool true]))
    (fun s A B r hs hg hr => ⟨eW_ hs.1 hg fun q hq => (hr q hq).1, hs.2⟩)
    (fun c s A B r hs hg hr => by
      obtain ⟨h1, h2, init, y, h3, h4, h5, h6, h7⟩ := hs
      have hk : ∀ b, b < w1.heap.size → B.heap[b]? = A.heap[b]? := fun b hb => hg.block b (Nat.lt_of_lt_of_le hb h2.size) fun e => by have := (hr b e.symm).1; omega
      exact ⟨h1, eW_ h2 hg fun q hq => (hr q hq).1, init, y, h3, h4, h5, (hk b8 h8).trans h6, (hk b9 h9).trans h7⟩)
    ⟨Ext.refl _, by simp⟩
    (fun x a' W => ∃ b11, w1.heap.size ≤ b11 ∧ W.heap[b11]? = some (row 203 x.2.1.cells) ∧ a'.defers = [] ∧ a'.tmps.size = 31 ∧ ∀ t y, slot ((11, ptr b11) :: bsL b4 b6 b7 b8 b9) t = some y → ∃ u, a'.tmps[t]? = some u ∧ y = .v u)
    (fun x a' s A B r hs hg hr => by
      obtain ⟨b11, h1, h2, h3⟩ := hs
      refine ⟨b11, h1, (hg.block b11 (aR_ h2) fun e => ?_).trans h2, h3⟩
      obtain ⟨_, o, h4, h5⟩ := hr b11 e.symm
      rw [h2] at h4
      cases h4
      cases h5)
    ?assign ?body ?done ?stop
  case assign =>
    intro l pre x W K hI hK
    obtain ⟨hxW, hbad⟩ := hI
    have hmW := hs1.mem.same hxW
    have hf := hmW.1.focus (Split.rds (ys := σ) (fun _ h => h))
    have hs2 : St 31 ⟨W, mids (σ.map It.toRd), mids σ ++ G⟩ (σ.map It.toRd) (bsL b4 b6 b7 b8 b9) a1 W := St.world (W' := ⟨W, mids (σ.map It.toRd), mids σ ++ G⟩) hsA ⟨rfl, rfl, rfl, rfl, rfl, trivial⟩ gX_ hf.1
    have hs3 := (hs2.put (d := some 16) (y := int x.1) (v := .int .i64 x.1) rfl rfl).put (d := some 17) (y := .agg x.2.1.abs) (v := .agg x.2.1.cells.toArray) rfl ⟨_, rfl, by rw [Pnt.abs_cells]; exact ai_.2 rfl⟩
    have hact : ({ tmps := ((#[16, 17] : Array Tmp).zip (encP (fun x : PtI => x.1) x)).foldl (fun t (p, v) => t.setIfInBounds p v) a1.tmps, defers := [] } : Act) = (a1.put (some 16) (.int .i64 x.1)).put (some 17) (.agg x.2.1.cells.toArray) := by
      have hd := hs1.defers
      obtain ⟨t, d⟩ := a1
      subst hd
      simp [encP, Act.put]
    rw [hact]
    refine (show RC Tryz.prog (some l) 4 _ (St 31 ⟨W, mids (σ.map It.toRd), mids σ ++ G⟩ (σ.map It.toRd) _) _ from ?_) _ _ hs3
    refine RC.region rfl ?_
    refine sleA (C_ tabOk rfl) ?_
    rintro _ _ ⟨b11, rfl, rfl⟩
    refine sleA (m_ (L' := x.2.1.abs) tabOk rfl rfl rfl u0_ (Pnt.size _) (lb_ (by rfl)) (Pnt.ones _) (by exact p_ (Pnt.size _))) ?_
    rintro _ _ ⟨rfl, rfl⟩
    refine d_ (RE.norm ?_)
    intro a2 w2 hs4
    have hm0 : mids (σ.map It.toRd) = [] := by simp [mids, List.flatMap_map, dl_]
    have hx2 : Ext [] W w2 := by have h := hs4.mem.ext; rw [show (Wd.mk W (mids (σ.map It.toRd)) (mids σ ++ G)).F = [] from hm0] at h; exact h
    have hs5 := hs4.sub (r := (11, ptr b11) :: bsL b4 b6 b7 b8 b9) ⟨rfl, rfl, rfl, rfl, rfl, rfl, trivial⟩
    obtain ⟨us, h5, h6⟩ := hs4.mem.hold _ List.mem_cons_self
    rw [Pnt.abs_cells] at h6
    have h6 := ai_.1 h6
    subst h6
    have h7 := hs4.mem.out b11 (by simp [af_, It.mids])
    rw [show (Wd.mk W (mids (σ.map It.toRd)) (mids σ ++ G)).F = [] from hm0] at h7
    have h7 : W.heap.size ≤ b11 := h7.resolve_left (by simp)
    refine hK a2 w2 (eV_ hx2 (by simp)) (d9_ hx2 hxW.size) ⟨hxW.trans hx2 (by simp), hbad⟩ ⟨b11, Nat.le_trans hxW.size h7, h5, hs4.defers, hs4.size, fun t y hy => ?_⟩
    obtain ⟨u, h8', h9'⟩ := hs5.slots t y hy
    obtain ⟨v, rfl⟩ := fw_ t y hy
    exact ⟨u, h8', by rw [show u = v from h9']⟩
  case body =>
    intro l pre x a' W hl hrec hI hAx hpn
    obtain ⟨hxW, hbad⟩ := hI
    obtain ⟨b11, hb11, hh11, hd', hsz', hsl'⟩ := hAx
    have hxr := x.2.2
    have hmn := (hs1.mem.new (y := .blk b11 203 x.2.1.abs) hxW (by simp [It.mids]) (by simp [It.mids]; omega) rfl (fun hc => ⟨_, hh11, by rw [Pnt.abs_cells]; exact ai_.2 rfl⟩)).1
    have hf := hmn.focus (Split.rds (ys := .blk b11 203 x.2.1.abs :: σ) (fun _ h => h))
    obtain ⟨σB, hσB⟩ : ∃ σB, (It.blk b11 203 x.2.1.abs :: σ).map It.toRd = σB := ⟨_, rfl⟩
    have hm0 : mids σB = [] := by rw [← hσB]; simp [mids, List.flatMap_map, dl_]
    obtain ⟨GB, hGB⟩ : ∃ GB, mids (It.blk b11 203 x.2.1.abs :: σ) ++ G = GB := ⟨_, rfl⟩
    have hfm : Mem W [] GB σB W := by have h := hf.1; rw [hσB, hm0, hGB] at h; exact h
    have hsB : St 31 ⟨W, [], GB⟩ σB ((11, ptr b11) :: bsL b4 b6 b7 b8 b9) a' W := ⟨hd', hsz', fun t y hy => by obtain ⟨u, h1, rfl⟩ := hsl' t y hy; exact ⟨u, h1, rfl⟩, hfm⟩
    clear hf hfm hm0
    rw [← hσ] at hσB
    simp only [List.map_cons, It.toRd, List.map_nil] at hσB
    subst hσB
    refine (show RC Tryz.prog (some l) 4 _ (St 31 ⟨W, [], GB⟩ _ _) _ from ?_) _ _ hsB
    refine RC.block (RC.seq (RC.draw [] (.q 0 (.q 1 (.q 2 (.q 3 (.q 4 (.q 5 (.q 6 (.q 8 (.e 7 (.q 9 (.q 10 .nil))))))))))) (by kernel_rfl) (by kernel_rfl) (by kernel_rfl) ?_))
    refine sxvA rfl (E_ tabOk rfl rfl rfl rfl rfl) (by simp) ?_
    refine sxvA rfl (h_ (C := int x.2.1.seq) (g_ tabOk rfl rfl r0_ List.not_mem_nil (by rfl)) rfl) (by simp) ?_
    refine sxvA rfl (h_ (C := int above) (g_ tabOk rfl rfl r5_ List.not_mem_nil (by rfl)) rfl) (by simp) ?_
    refine sxvA rfl (ba_ rfl rfl) (by simp) ?_
    refine sxvA rfl (s_ rfl) (by simp) ?_
    have hno : goodP om vs above at_ x.2.1 = false → ∀ a2 w2, Ext [] W w2 → ownPostG w1.heap.size (Below w1.heap.size) (fun pre W => Ext [] w1 W ∧ ∀ y ∈ pre, goodP om vs above at_ y.2.1 = false) (fun c pre W => c = .ret ∧ Ext [b8, b9] w1 W ∧ ∃ init y, pre = init ++ [y] ∧ (∀ z ∈ init, goodP om vs above at_ z.2.1 = false) ∧ goodP om vs above at_ y.2.1 = true ∧ W.heap[b8]? = some (row 203 y.2.1.cells) ∧ W.heap[b9]? = some (row 4 [.bool true])) (pre ++ [x]) W .normal a2 w2 := fun hb a2 w2 hx2 =>
      ⟨eV_ hx2 (by simp), d9_ hx2 hxW.size, hxW.trans hx2 (by simp), fun y hy => by
        rcases List.mem_append.1 hy with hy | hy
        · exact hbad y hy
        · rw [List.mem_singleton.1 hy]; exact hb⟩
    refine aK_ (t := 22) rfl ?_ ?_
    rotate_left
    · intro hc22
      iterate 3 refine d3_ rfl rfl rfl ?_
      refine bi_ rfl rfl rfl ?_
      refine d3_ rfl rfl rfl ?_
      refine sxvA rfl (an_ rfl rfl) (by simp) ?_
      refine F_ (RE.norm (RE.seq ?_))
      refine RC.cond rfl (fun h => by cases h) (fun _ => RC.skip ?_)
      intro a2 w2 hs6
      exact hno (by unfold goodP; simp only [decide_eq_false (show ¬ above < x.2.1.seq from hc22), Bool.false_and]) a2 w2 hs6.mem.ext
    intro hc22
    refine sxvA rfl (h_ (C := ptr bp) (g_ tabOk rfl rfl r6_ List.not_mem_nil (by rfl)) rfl) (by simp) ?_
    refine sxvA rfl (h_ (C := .agg x.2.1.abs) (r_ tabOk rfl rfl rfl r0_ List.not_mem_nil (Pnt.size _)) rfl) (by simp) ?_
    refine sxvA rfl (h_ (C := int at_) (g_ tabOk rfl rfl r4_ List.not_mem_nil (by rfl)) rfl) (by simp) ?_
    refine D_ rfl (psup_s (x := x.2.1) (bm := bm) (vv := vv) hok hxr) (by simp [mids, It.mids]) Casts.refl (by kernel_rfl) rfl rfl rfl ?_
    refine ap_ ?_
    intro _
    refine sxvA rfl (d1_ rfl rfl) (by simp) ?_
    refine sxvA rfl (ab_ rfl rfl) (by simp) ?_
    refine F_ (RE.norm (RE.seq ?_))
    refine RC.cond rfl (fun h => ?_) (fun h => RC.skip ?_)
    · have hgd : goodP om vs above at_ x.2.1 = true := by unfold goodP; rw [decide_eq_true (show above < x.2.1.seq from hc22), Bool.true_and]; exact h
      intro a2 w2 hs6
      have hx2 : Ext [] W w2 := hs6.mem.ext
      have hs7 := hs6.sub (r := (11, ptr b11) :: bsL b4 b6 b7 b8 b9) ⟨rfl, rfl, rfl, rfl, rfl, rfl, trivial⟩
      have hm8 := (hmn.same hx2).1
      have hsp : Split (It.blk b11 203 x.2.1.abs :: σ) [.blk b9 4 [boo false], .blk b8 203 Pnt.zero.abs, .rd b11 203 x.2.1.abs] (It.blk b11 203 x.2.1.abs :: .blk b15 199 [pntsA (ys.map fun x : PtI => x.1)] :: σ.drop 3) := by
        subst hσ
        refine ⟨?_, fun y hy => ?_, fun y hy => ?_⟩
        · show ([b9, b8] ++ ([b11, b15] ++ [b7, b6, b4])).Perm ([b11, b15] ++ ([b9, b8] ++ [b7, b6, b4]))
          exact List.perm_append_comm_assoc _ _ _
        · simp only [List.mem_cons, List.not_mem_nil, or_false] at hy
          rcases hy with rfl | rfl | rfl
          · exact .inl ⟨by simp, rfl⟩
          · exact .inl ⟨by simp, rfl⟩
          · exact .inr ⟨.blk b11 203 x.2.1.abs, List.mem_cons_self, rfl⟩
        · rcases List.mem_cons.1 hy with rfl | hy
          · exact List.mem_cons_self
          · rcases List.mem_cons.1 hy with rfl | hy
            · exact List.mem_cons_of_mem _ List.mem_cons_self
            · exact List.mem_cons_of_mem _ (List.mem_of_mem_drop hy)
      have hf := (hm8.focus hsp).1
      have hs8 := St.world (W' := ⟨w2, _, _⟩) (l' := (11, ptr b11) :: bsL b4 b6 b7 b8 b9) hs7 ⟨rfl, rfl, rfl, rfl, rfl, rfl, trivial⟩ fw_ hf
      refine (show RC Tryz.prog (some l) 4 _ (St 31 _ _ _) _ from ?_) _ _ hs8
      refine RC.seq (RC.region rfl ?_)
      refine slvA (h_ (C := .agg x.2.1.abs) (r_ tabOk rfl rfl rfl r2_ List.not_mem_nil (Pnt.size _)) rfl) ?_
      refine sleA (m_ (L' := x.2.1.abs) tabOk rfl rfl rfl u1_ (Pnt.size _) (lb_ (by rfl)) (Pnt.ones _) (by exact p_ (Pnt.size _))) ?_
      rintro _ _ ⟨rfl, rfl⟩
      refine sleA (m_ (L' := [boo true]) tabOk rfl rfl rfl u0_ rfl (lb_ (by rfl)) rfl (by rfl)) ?_
      rintro _ _ ⟨rfl, rfl⟩
      refine d_ (RE.norm (RE.seq (RC.ret ?_)))
      intro a3 w3 hs9
      have hx3 : Ext [b9, b8] w2 w3 := hs9.mem.ext
      have hx2' : Ext [b8, b9] W w2 := hx2.mono (G := [b8, b9]) (by simp)
      have hx3' : Ext [b8, b9] w2 w3 := hx3.mono (G := [b8, b9]) (fun k hk => .inl (by simp at hk ⊢; rcases hk with rfl | rfl <;> simp))
      have hx4 : Ext [b8, b9] W w3 := hx2'.trans hx3' (fun k hk => .inl hk)
      have hxW' : Ext [b8, b9] w1 W := hxW.mono (G := [b8, b9]) (by simp)
      obtain ⟨us8, k8, k8'⟩ := hs9.mem.hold (.blk b8 203 x.2.1.abs) (by simp)
      obtain ⟨us9, k9, k9'⟩ := hs9.mem.hold (.blk b9 4 [boo true]) (by simp)
      rw [Pnt.abs_cells] at k8'
      have k8' := ai_.1 k8'
      obtain ⟨u9, us9', k10, k11, k12⟩ := k9'
      have k11 : u9 = _ := k11
      have k12 : us9' = [] := k12
      subst k8' k10 k11 k12
      exact ⟨eV_ hx4 (by simp; omega), rfl, hxW'.trans hx4 (fun k hk => .inl hk), pre, x, rfl, hbad, hgd, k8, k9⟩
    · intro a2 w2 hs6
      exact hno (by unfold goodP; rw [decide_eq_true (show above < x.2.1.seq from hc22), Bool.true_and]; exact h) a2 w2 hs6.mem.ext
  case done =>
    intro D xs W hD hS hI hK
    obtain ⟨hxW, hbad⟩ := hI
    subst hS
    have hmW := (hs1.mem.same hxW).1
    have hsp : Split σ [.blk b9 4 [boo false], .blk b8 203 Pnt.zero.abs] (.blk b15 199 [pntsA (ys.map fun x : PtI => x.1)] :: σ.drop 3) := by
      subst hσ
      refine ⟨?_, fun y hy => ?_, fun y hy => ?_⟩
      · show ([b9, b8] ++ ([b15] ++ [b7, b6, b4])).Perm ([b15] ++ ([b9, b8] ++ [b7, b6, b4]))
        exact List.perm_append_comm_assoc _ _ _
      · simp only [List.mem_cons, List.not_mem_nil, or_false] at hy
        rcases hy with rfl | rfl
        · exact .inl ⟨by simp, rfl⟩
        · exact .inl ⟨by simp, rfl⟩
      · rcases List.mem_cons.1 hy with rfl | hy
        · exact List.mem_cons_self
        · exact List.mem_of_mem_drop hy
    have hf := (hmW.focus hsp).1
    have hs2 := St.world (W' := ⟨W, _, _⟩) (l' := bsL b4 b6 b7 b8 b9) hsA ⟨rfl, rfl, rfl, rfl, rfl, trivial⟩ gX_ hf
    rw [hs1.defers]
    have hd0 : ({ a1 with defers := [{ target := .collected D, args := #[] }] } : Act) = { a1 with defers := [{ target := .collected D, args := #[] }] } := rfl
    refine wpIn_seq (Code.wpIn_mono (fun _ _ _ h => eM_ h) (wpIn_region_lit (fW_ dR_ rfl ((show SL Tryz.prog _ _ (StD 31 ⟨W, _, _⟩ _ _ [{ target := .collected D, args := #[] }]) (NormOf _) from ?_) _ _ ⟨a1, rfl, hs2⟩))))
    refine SL.valD (h_ (C := .agg Pnt.zero.abs) (z_ (ps := []) tabOk rfl rfl rfl rfl) rfl) rfl rfl ?_
    refine ls_ (m_ (L' := Pnt.zero.abs) tabOk rfl rfl rfl u1_ (Pnt.size _) (lb_ (by rfl)) (Pnt.ones _) (by exact p_ (Pnt.size _))) rfl rfl ?_
    rintro _ _ ⟨rfl, rfl⟩
    refine ls_ (m_ (L' := [boo false]) tabOk rfl rfl rfl u0_ rfl (lb_ (by rfl)) rfl (by rfl)) rfl rfl ?_
    rintro _ _ ⟨rfl, rfl⟩
    refine d_ ?_
    rintro _ w3 ⟨a3, rfl, hs3⟩
    refine wpIn_ret ?_
    have hx3 : Ext [b9, b8] W w3 := hs3.mem.ext
    obtain ⟨us8, k8, k8'⟩ := hs3.mem.hold (.blk b8 203 Pnt.zero.abs) (by simp)
    obtain ⟨us9, k9, k9'⟩ := hs3.mem.hold (.blk b9 4 [boo false]) (by simp)
    rw [Pnt.abs_cells] at k8'
    have k8' := ai_.1 k8'
    obtain ⟨u9, us9', k10, k11, k12⟩ := k9'
    have k11 : u9 = _ := k11
    have k12 : us9' = [] := k12
    subst k8' k10 k11 k12
    have hs4 := hs3.sub (r := bsL b4 b6 b7 b8 b9) ⟨rfl, rfl, rfl, rfl, rfl, trivial⟩
    have f8 : a3.tmps[8]? = some (.pointer (some ⟨b8, 0, none⟩)) := by obtain ⟨u, h1, h2⟩ := hs4.slots 8 _ rfl; rw [show u = _ from h2] at h1; exact h1
    have f9 : a3.tmps[9]? = some (.pointer (some ⟨b9, 0, none⟩)) := by obtain ⟨u, h1, h2⟩ := hs4.slots 9 _ rfl; rw [show u = _ from h2] at h1; exact h1
    have hxa : Ext [] w w3 := (hx1.trans hxW (by simp)).trans hx3 (by intro k hk; simp at hk; rcases hk with rfl | rfl <;> first | exact .inr h9w | exact .inr h8w)
    exact iO_ f8 f9 hs3.size hxa k8 k9 hne (fun k hk => Nat.lt_of_lt_of_le (hm.old k hk) (Nat.le_refl _)) h8w h9w ((hx3.block D (aR_ hK) (by simp; omega)).trans hK) (Nat.le_trans hx1.size hD) (by rw [ld_ hbad]; rfl)
  case stop =>
    intro D c pre W hD hSp hI hK
    obtain ⟨rfl, hxW, init, y, rfl, hbad, hgd, k8, k9⟩ := hI
    rw [hs1.defers]
    refine wpIn_ret ?_
    have hxa : Ext [] w W := hx1.trans hxW (by intro k hk; simp at hk; rcases hk with rfl | rfl <;> first | exact .inr h9w | exact .inr h8w)
    exact iO_ (a := a1) e8 e9 hs1.size hxa k8 k9 hne (fun k hk => hm.old k hk) h8w h9w hK (Nat.le_trans hx1.size hD) (by rw [lc_ hSp hbad hgd]; rfl)
end
section
variable {n : Int}
theorem iC_ (hn : n ≤ 1000) : Spec Tryz.prog 144 [int n] [] (fun _ : Unit => []) (fun _ => int ((max n 1 - 1) / 3)) := by
 refine t_ Tryz.func144 rfl Tryz.ntmps144 rfl fun G w =>c_<|a_<|q_ 1 rfl<|d_<|b_<|c_<|a_<|q_ 1 rfl<|slvA (ga_ rfl rfl)<|slvA (cp_ rfl rfl (by simp only [InR, lo, hi]; omega)) ?_
 refine slvA (en_ rfl rfl (by omega) (by simp only [InR, lo, hi]; omega)) ?_
 exact q_ 1 rfl<|d_<|b_<|k_<|f_ (rs := [.tmp 2]) rfl (RV.tmp rfl RV.nil) (()) sn_<|rfl
theorem ik_ (hn : n ≤ 1000) : Spec Tryz.prog 236 [int n] [] (fun _ : Unit => []) (fun _ => int (2 * ((max n 1 - 1) / 3) + 1)) := by
 refine t_ Tryz.func236 rfl Tryz.ntmps236 rfl fun G w =>c_<|a_<|q_ 1 rfl<|d_<|b_<|c_<|a_<|q_ 1 rfl<|slcA (iC_ hn) ?_
 refine ap_<|fun _=>slvA (bm_ rfl rfl (by simp only [InR, lo, hi]; omega)) ?_
 refine slvA (y_ rfl rfl (by simp only [InR, lo, hi]; omega)) ?_
 exact q_ 1 rfl<|d_<|b_<|k_<|f_ (rs := [.tmp 2]) rfl (RV.tmp rfl RV.nil) (()) sn_<|rfl
end
section
variable {n me : Nat} {om : List (Int × Ow)} {vs : List (List Pnt)} {bp bm : Nat} {vv : Value} {x : Pnt} {who k low above : Int} {o : Ow} {l : List Pnt}
theorem kr_ (hok : PtsOk n me om vs) : Spec Tryz.prog 167 [ptr bp, int above] [.rd bp 157 [int (n : Nat), int (me : Nat), mapV bm, .v vv], .rdpc (ownPc 199 1 vv (vs.map fun l => [pntsA l])), .rdpc (tmPc bm intK intOk Ow.enc om)] (fun _ : Unit => []) (fun _ => .tup [.agg (ptO (bestF om vs (votesI n me om vs (me : Nat)) above (2 * ((max (n : Int) 1 - 1) / 3) + 1))).abs, boo (bestF om vs (votesI n me om vs (me : Nat)) above (2 * ((max (n : Int) 1 - 1) / 3) + 1)).isSome]) := by
 refine t_ Tryz.func167 rfl Tryz.ntmps167 rfl fun G w =>c_<|a_<|eb_ (C_ tabOk rfl) rfl rfl fun b4=>?_
 refine q_ 1 rfl<|d_<|b_<|c_<|c_<|a_<|q_ 1 rfl<|slvA (aD_ rfl rfl (by kernel_rfl)) ?_
 refine d_<|b_<|O_ rfl<|o_<|b_<|c_<|SC.drawS 14 [] (.q 0 (.q 1 (.q 2 (.q 3 (.q 4 (.q 5 (.q 6 (.q 7 (.q 8 (.q 9 (.e 10 (.e 11 (.q 12 (.q 13 .nil)))))))))))))) (.e 14 (.q 15 .nil)) (by kernel_rfl) (by kernel_rfl) ?_
 refine qs_ 4 rfl<|sxvA rfl (g_ tabOk rfl rfl r1_ List.not_mem_nil rfl) (by simp) ?_
 refine qs_ 4 rfl<|sxvA rfl (g_ tabOk rfl rfl r1_ List.not_mem_nil rfl) (by simp) ?_
 refine D_ rfl (ik_ (n := (n : Int)) (by have := hok.n7; omega)) (by simp [mids, It.mids]) Casts.refl (by kernel_rfl) rfl rfl rfl ?_
 refine ap_<|fun _=>D_ rfl (pbest_s (bm := bm) (vv := vv) (who := (me : Int)) (above := above) (at_ := 2 * ((max (n : Int) 1 - 1) / 3) + 1) hok) (by simp [mids, It.mids]) Casts.refl (by kernel_rfl) rfl rfl rfl ?_
 refine ap_<|fun _=>qs_ 2 rfl<|F_<|SE.rest [b4]<|ex_ rfl (m_ (L' := (ptO (bestF om vs (votesI n me om vs (me : Nat)) above (2 * ((max (n : Int) 1 - 1) / 3) + 1))).abs) tabOk rfl rfl rfl u0_ (Pnt.size _) (Nat.le_of_ble_eq_true rfl) (Pnt.ones _) (by exact p_ (Pnt.size _))) (by simp) rfl rfl ?_
 exact hx_ fun hx9 =>qx_ 1 hx9 rfl<|F_<|b_<|k_<|f_ (rs := [.cell 4 203, .tmp 5]) rfl (RV.cell rfl (RV.cellA tabOk rfl rfl l0_ (Pnt.size _)) (RV.tmp rfl RV.nil)) (()) sn_<|rfl
end
section
variable {k1 k2 x p me : Nat} {l : List UInt8}
theorem risl_s  : Spec Tryz.prog 149 [.v (.slice none 0 0), .fn (.func k1) [] [], .fn (.func k2) [] []] [] (fun _ : Unit => []) (fun _ => boo true) := by
 refine t_ Tryz.func149 rfl Tryz.ntmps149 rfl fun G w =>c_<|a_<|q_ 1 rfl<|d_<|b_<|c_<|c_<|a_<|q_ 1 rfl<|slvA (ae_ (m := 0) rfl Tryz.underlying174)<|q_ 1 rfl<|d_<|b_<|u_<|P_ (ι := Unit) (fun z => []) (fun z => [(10, int (0 : Nat)), (11, int 0)]) (fun z => True) (fun z => 0) (()) (trivial) (by exact ⟨rfl, rfl, trivial⟩) sn_ ?_
 intro z hz
 refine c_<|a_<|q_ 1 rfl<|d_<|b_<|c_<|l_ rfl (by intro hc12; exfalso; omega) ?_
 intro hc12
 exact N_<|j_ nofun<|j_ nofun<|M_<|b_<|c_<|a_<|q_ 1 rfl<|d_<|b_<|k_<|f_ (rs := [.tmp 6]) rfl (RV.tmp rfl RV.nil) (()) sn_<|rfl
theorem riso_s  : Spec Tryz.prog 151 [.v (.slice none 0 0), .fn (.func k1) [] [], .fn (.func k2) [] []] [] (fun _ : Unit => []) (fun _ => boo true) := by
 refine t_ Tryz.func151 rfl Tryz.ntmps151 rfl fun G w =>c_<|a_<|q_ 1 rfl<|d_<|b_<|c_<|c_<|a_<|q_ 1 rfl<|slvA (ae_ (m := 0) rfl Tryz.underlying124)<|q_ 1 rfl<|d_<|b_<|u_<|P_ (ι := Unit) (fun z => []) (fun z => [(10, int (0 : Nat)), (11, int 0)]) (fun z => True) (fun z => 0) (()) (trivial) (by exact ⟨rfl, rfl, trivial⟩) sn_ ?_
 intro z hz
 refine c_<|a_<|q_ 1 rfl<|d_<|b_<|c_<|l_ rfl (by intro hc12; exfalso; omega) ?_
 intro hc12
 exact N_<|j_ nofun<|j_ nofun<|M_<|b_<|c_<|a_<|q_ 1 rfl<|d_<|b_<|k_<|f_ (rs := [.tmp 6]) rfl (RV.tmp rfl RV.nil) (()) sn_<|rfl
theorem lwith_s  : Spec Tryz.prog 147 [int 0, int 0, int 1048576] [] (fun _ : Unit => []) (fun _ => boo true) := by
 refine t_ Tryz.func147 rfl Tryz.ntmps147 rfl fun G w =>c_<|a_<|q_ 1 rfl<|d_<|b_<|c_<|a_<|q_ 4 rfl<|A_ (t := 10) rfl ?_ (by intro hc10; exfalso; omega)
 intro hc10
 exact q_ 5 rfl<|d_<|b_<|k_<|f_ (rs := [.tmp 6]) rfl (RV.tmp rfl RV.nil) (()) sn_<|congrArg (fun b => Abs.v (Value.bool b)) (by decide)
theorem mis_s  : Spec Tryz.prog 148 [int 0] [] (fun _ : Unit => []) (fun _ => boo true) := by
 refine t_ Tryz.func148 rfl Tryz.ntmps148 rfl fun G w =>c_<|a_<|q_ 1 rfl<|d_<|b_<|c_<|a_<|q_ 1 rfl<|slvA (R_ rfl Tryz.underlying27 (by kernel_rfl) (by simp only [InR, lo, hi]; omega)) ?_
 exact q_ 2 rfl<|d_<|b_<|k_<|f_ (rs := [.tmp 2]) rfl (RV.tmp rfl RV.nil) (()) sn_<|congrArg (fun b => Abs.v (Value.bool b)) (by decide)
theorem lchk0_s  : Spec Tryz.prog 99 [.agg [int 0, int 0, .v (.slice none 0 0), .v (.slice none 0 0)]] [] (fun _ : Int => []) (fun e => int e) := by
 refine t_ Tryz.func99 rfl Tryz.ntmps99 rfl fun G w =>c_<|a_<|eb_ (B_ (cs := [int 0, int 0, .v (.slice none 0 0), .v (.slice none 0 0)]) rfl) rfl rfl fun b1=>?_
 refine q_ 1 rfl<|d_<|b_<|c_<|a_<|q_ 1 rfl<|d_<|b_<|c_<|a_<|q_ 1 rfl<|d_<|b_<|c_<|c_<|a_<|q_ 1 rfl<|slvA (h_ (C := int 0) (g_ tabOk rfl rfl l0_ List.not_mem_nil rfl) rfl)<|slcA (lwith_s) ?_
 refine ap_<|fun _=>slvA (a4_ rfl)<|q_ 2 rfl<|slvA (h_ (C := int 0) (g_ tabOk rfl rfl l0_ List.not_mem_nil rfl) rfl)<|slcA (mis_s) ?_
 refine ap_<|fun _=>slvA (a4_ rfl)<|q_ 3 rfl<|slvA (h_ (C := .v (.slice none 0 0)) (g_ tabOk rfl rfl l0_ List.not_mem_nil rfl) rfl)<|slvA (ae_ (m := 0) rfl Tryz.underlying174)<|q_ 3 rfl<|A_ (t := 21) rfl (by intro hc21; exfalso; omega) ?_
 intro hc21
 refine q_ 1 rfl<|slvA (h_ (C := .v (.slice none 0 0)) (g_ tabOk rfl rfl l0_ List.not_mem_nil rfl) rfl)<|slvA (ae_ (m := 0) rfl Tryz.underlying124)<|q_ 3 rfl<|A_ (t := 27) rfl (by intro hc27; exfalso; omega) ?_
 intro hc27
 refine q_ 1 rfl<|slvA (h_ (C := .v (.slice none 0 0)) (g_ tabOk rfl rfl l0_ List.not_mem_nil rfl) rfl)<|q_ 1 rfl<|slcA (risl_s) ?_
 refine ap_<|fun _=>slvA (a4_ rfl)<|q_ 3 rfl<|slvA (h_ (C := .v (.slice none 0 0)) (g_ tabOk rfl rfl l0_ List.not_mem_nil rfl) rfl)<|q_ 1 rfl<|slcA (riso_s) ?_
 exact ap_<|fun _=>slvA (a4_ rfl)<|q_ 1 rfl<|d_<|b_<|O_ rfl<|o_<|b_<|c_<|a_<|q_ 1 rfl<|d_<|b_<|k_<|f_ (rs := [.tmp 2]) rfl (RV.tmp rfl RV.nil) (0) sn_<|rfl
theorem lb1_s (hl : l.length ≤ 100) : Spec Tryz.prog 100 [byt l, int 0] [] (fun _ : Unit => []) (fun _ => byt (l ++ beBytes 0 (8 : Int).toNat)) := by
 refine t_ Tryz.func100 rfl Tryz.ntmps100 rfl fun G w =>c_<|a_<|q_ 1 rfl<|d_<|b_<|c_<|a_<|q_ 2 rfl<|slvA (R_ rfl Tryz.underlying27 (by kernel_rfl) (by simp only [InR, lo, hi]; omega)) ?_
 refine slcA (fa_ (l := l) (x := 0) (n := 8) (by unfold lots; omega) (by omega) rfl) ?_
 exact ap_<|fun _=>q_ 1 rfl<|d_<|b_<|k_<|f_ (rs := [.tmp 4]) rfl (RV.tmp rfl RV.nil) (()) sn_<|rfl
theorem lby0_s  : Spec Tryz.prog 73 [.agg [int 0, int 0, .v (.slice none 0 0), .v (.slice none 0 0)]] [] (fun _ : {l : List UInt8 // l.length ≤ 50} => []) (fun l => byt l.1) := by
 refine t_ Tryz.func73 rfl Tryz.ntmps73 rfl fun G w =>c_<|a_<|eb_ (B_ (cs := [int 0, int 0, .v (.slice none 0 0), .v (.slice none 0 0)]) rfl) rfl rfl fun b1=>?_
 refine q_ 1 rfl<|d_<|b_<|c_<|c_<|a_<|slvA (h_ (C := .agg [int 0, int 0, .v (.slice none 0 0), .v (.slice none 0 0)]) (r_ tabOk rfl rfl rfl l0_ List.not_mem_nil rfl) rfl)<|slcA (lchk0_s) ?_
 refine ap_<|fun z10=>q_ 1 rfl<|d_<|b_<|l_ rfl ?_ ?_
 ·intro hc11
  refine c_<|a_<|q_ 1 rfl<|d_<|b_<|k_<|j_ nofun<|fC_ (rs := [.tmp 2]) rfl (RV.tmp rfl RV.nil) (Casts.nils (s := 1) Casts.refl) (⟨[], by decide⟩) sn_ ?_
  exact rfl
 intro hc11
 refine o_<|b_<|c_<|a_<|q_ 1 rfl<|d_<|b_<|c_<|Q_ [] (.q 0 (.q 1 (.q 2 (.q 3 (.q 5 (.q 6 (.q 8 (.q 9 (.q 10 (.q 11 (.e 4 (.e 7 (.e 12 (.q 13 .nil)))))))))))))) (by kernel_rfl) (by kernel_rfl) ?_
 refine qs_ 3 rfl<|hx_ fun hx9 =>sxvA rfl (h_ (C := int 0) (g_ tabOk rfl rfl l0_ List.not_mem_nil rfl) rfl) hx9<|qs_ 1 rfl<|sxvA rfl (h_ (C := int 0) (g_ tabOk rfl rfl l0_ List.not_mem_nil rfl) rfl) hx9<|qs_ 1 rfl<|sxvA rfl (h_ (C := .v (.slice none 0 0)) (g_ tabOk rfl rfl l0_ List.not_mem_nil rfl) rfl) hx9<|sxvA rfl (ae_ (m := 0) rfl Tryz.underlying174) hx9<|sxvA rfl (h_ (C := wrd 0) (R_ rfl Tryz.underlying27 (by kernel_rfl) (by simp only [InR, lo, hi]; omega)) rfl) hx9 ?_
 refine gc_ rfl (lb1_s (l := []) (by simp)) (by simp [mids, It.mids]) rfl (Casts.cons (fun _ _ _ h => b3_ h) Casts.refl) (by kernel_rfl) rfl rfl rfl ?_
 refine ap_<|fun _=>gc_ rfl (lb1_s (l := [] ++ beBytes 0 (8 : Int).toNat) (by simp only [List.length_append, v_, List.length_nil]; decide)) (by simp [mids, It.mids]) rfl Casts.refl (by kernel_rfl) rfl rfl rfl ?_
 refine ap_<|fun _=>D_ rfl (fa_ (l := [] ++ beBytes 0 (8 : Int).toNat ++ beBytes 0 (8 : Int).toNat) (x := 0) (n := 2) (by unfold lots; simp only [List.length_append, v_, List.length_nil]; decide) (by omega) rfl) (by simp [mids, It.mids]) Casts.refl (by kernel_rfl) rfl rfl rfl ?_
 refine ap_<|fun _=>qs_ 1 rfl<|F_<|b_<|c_<|c_<|a_<|q_ 1 rfl<|slvA (h_ (C := .v (.slice none 0 0)) (g_ tabOk rfl rfl l0_ List.not_mem_nil rfl) rfl)<|slvA (ae_ (m := 0) rfl Tryz.underlying174)<|q_ 1 rfl<|d_<|b_<|u_<|P_ (ι := Unit) (fun z => [.blk b1 176 [int 0, int 0, .v (.slice none 0 0), .v (.slice none 0 0)]]) (fun z => [(1, ptr b1), (4, byt ([] ++ beBytes 0 (8 : Int).toNat ++ beBytes 0 (8 : Int).toNat ++ beBytes 0 (2 : Int).toNat)), (27, int (0 : Nat)), (28, int 0)]) (fun z => True) (fun z => 0) (()) (trivial) (by exact ⟨rfl, rfl, rfl, rfl, trivial⟩) sr_ ?_
 intro z hz
 refine c_<|a_<|q_ 1 rfl<|d_<|b_<|c_<|l_ rfl (by intro hc29; exfalso; omega) ?_
 intro hc29
 refine N_<|j_ nofun<|j_ nofun<|M_<|b_<|c_<|a_<|q_ 2 rfl<|slvA (h_ (C := .v (.slice none 0 0)) (g_ tabOk rfl rfl l0_ List.not_mem_nil rfl) rfl)<|slvA (ae_ (m := 0) rfl Tryz.underlying124)<|slvA (h_ (C := wrd 0) (R_ rfl Tryz.underlying27 (by kernel_rfl) (by simp only [InR, lo, hi]; omega)) rfl) ?_
 refine slcA (fa_ (l := [] ++ beBytes 0 (8 : Int).toNat ++ beBytes 0 (8 : Int).toNat ++ beBytes 0 (2 : Int).toNat) (x := 0) (n := 2) (by unfold lots; simp only [List.length_append, v_, List.length_nil]; decide) (by omega) rfl) ?_
 refine ap_<|fun _=>q_ 1 rfl<|d_<|b_<|c_<|c_<|a_<|q_ 1 rfl<|slvA (h_ (C := .v (.slice none 0 0)) (g_ tabOk rfl rfl l0_ List.not_mem_nil rfl) rfl)<|slvA (ae_ (m := 0) rfl Tryz.underlying124)<|q_ 1 rfl<|d_<|b_<|u_<|P_ (ι := Unit) (fun z => [.blk b1 176 [int 0, int 0, .v (.slice none 0 0), .v (.slice none 0 0)]]) (fun z => [(1, ptr b1), (4, byt ([] ++ beBytes 0 (8 : Int).toNat ++ beBytes 0 (8 : Int).toNat ++ beBytes 0 (2 : Int).toNat ++ beBytes 0 (2 : Int).toNat)), (68, int (0 : Nat)), (69, int 0)]) (fun z => True) (fun z => 0) (()) (trivial) (by exact ⟨rfl, rfl, rfl, rfl, trivial⟩) sr_ ?_
 intro z hz
 refine c_<|a_<|q_ 1 rfl<|d_<|b_<|c_<|l_ rfl (by intro hc70; exfalso; omega) ?_
 intro hc70
 refine N_<|j_ nofun<|j_ nofun<|M_<|b_<|c_<|a_<|q_ 2 rfl<|d_<|b_<|k_<|f_ (rs := [.tmp 2]) rfl (RV.tmp rfl RV.nil) (⟨[] ++ beBytes 0 (8 : Int).toNat ++ beBytes 0 (8 : Int).toNat ++ beBytes 0 (2 : Int).toNat ++ beBytes 0 (2 : Int).toNat, (by simp only [List.length_append, v_, List.length_nil]; decide)⟩) sn_ ?_
 exact rfl
theorem xby0_s  : Spec Tryz.prog 47 [ptr x] [.rd x 179 [int 4, int 0, int 0, .v (.slice none 0 0), .v (.slice none 0 0), .v (.slice none 0 0)]] (fun _ : {l : List UInt8 // l.length ≤ 50} => []) (fun l => byt l.1) := by
 refine t_ Tryz.func47 rfl Tryz.ntmps47 rfl fun G w =>c_<|a_<|q_ 1 rfl<|d_<|b_<|c_<|c_<|a_<|q_ 1 rfl<|slvA (aD_ rfl rfl (by kernel_rfl)) ?_
 refine d_<|b_<|O_ rfl<|o_<|b_<|c_<|a_<|q_ 3 rfl<|slvA (h_ (C := .agg [int 0, int 0, .v (.slice none 0 0), .v (.slice none 0 0)]) (ad_ tabOk rfl rfl rfl r0_ List.not_mem_nil (Nat.le_of_ble_eq_true rfl)) rfl)<|slcA (lby0_s) ?_
 exact ap_<|fun z9=>q_ 1 rfl<|d_<|b_<|k_<|f_ (rs := [.tmp 2]) rfl (RV.tmp rfl RV.nil) (z9) sn_<|rfl
theorem lgnew_s  : Spec Tryz.prog 40 [int 4] [] (fun z : Nat × Nat => [.blk z.1 153 [int 4, int 0, mapV z.2], .pc (tmPc z.2 intK intOk pE [])]) (fun z => ptr z.1) := by
 refine t_ Tryz.func40 rfl Tryz.ntmps40 rfl fun G w =>c_<|a_<|q_ 1 rfl<|d_<|b_<|c_<|c_<|a_<|q_ 3 rfl<|A_ (t := 5) rfl (by intro hc5; exfalso; omega) ?_
 intro hc5
 refine q_ 3 rfl<|d_<|b_<|l_ rfl (by intro hc8; exfalso; omega) ?_
 intro hc8
 refine o_<|b_<|c_<|a_<|q_ 1 rfl<|eb_ (ak_ intK intOk pE (fun ac w => by simp [execOp, Instr.makeMap, newObj, Sem.run, Sem.run_bind, Result.andThen])) rfl rfl fun m10=>?_
 refine slvA (h_ (C := .agg [int 4, int 0, mapV m10]) (z_ tabOk rfl rfl rfl rfl) rfl)<|eb_ (B_ (cs := [int 4, int 0, mapV m10]) rfl) rfl rfl fun b12=>?_
 exact q_ 1 rfl<|d_<|b_<|k_<|f_ (rs := [.tmp 2]) rfl (RV.tmp rfl RV.nil) ((b12, m10)) sr_<|rfl
theorem kv_  : Spec Tryz.prog 43 [] [] (fun _ : Nat => []) (fun b => ptr b) := by
 refine t_ Tryz.func43 rfl Tryz.ntmps43 rfl fun G w =>c_<|a_<|q_ 1 rfl<|d_<|b_<|c_<|a_<|slvA (h_ (C := .agg [.v (.slice none 0 0), .v (.slice none 0 0)]) (z_ tabOk rfl rfl rfl rfl) rfl)<|eb_ (B_ (cs := [.v (.slice none 0 0), .v (.slice none 0 0)]) rfl) rfl rfl fun b2=>?_
 exact q_ 1 rfl<|d_<|b_<|k_<|f_ (rs := [.tmp 0]) rfl (RV.tmp rfl RV.nil) (b2) sn_<|rfl
theorem j5_  : Spec Tryz.prog 45 [] [] (fun b : Nat => [.blk b 173 [int 32, int 0]]) (fun b => ptr b) := by
 refine t_ Tryz.func45 rfl Tryz.ntmps45 rfl fun G w =>c_<|a_<|q_ 1 rfl<|d_<|b_<|c_<|a_<|slvA (h_ (C := .agg [int 32, int 0]) (z_ tabOk rfl rfl rfl rfl) rfl)<|eb_ (B_ (cs := [int 32, int 0]) rfl) rfl rfl fun b2=>?_
 exact q_ 1 rfl<|d_<|b_<|k_<|f_ (rs := [.tmp 0]) rfl (RV.tmp rfl RV.nil) (b2) sr_<|rfl
theorem exnew_s  : Spec Tryz.prog 46 [int 4] [] (fun b : Nat => [.blk b 179 [int 4, int 0, int 0, .v (.slice none 0 0), .v (.slice none 0 0), .v (.slice none 0 0)]]) (fun b => ptr b) := by
 refine t_ Tryz.func46 rfl Tryz.ntmps46 rfl fun G w =>c_<|a_<|q_ 1 rfl<|d_<|b_<|c_<|c_<|a_<|q_ 3 rfl<|A_ (t := 5) rfl (by intro hc5; exfalso; omega) ?_
 intro hc5
 refine q_ 3 rfl<|d_<|b_<|l_ rfl (by intro hc8; exfalso; omega) ?_
 intro hc8
 refine o_<|b_<|c_<|a_<|q_ 1 rfl<|slvA (h_ (C := .agg [int 4, int 0, int 0, .v (.slice none 0 0), .v (.slice none 0 0), .v (.slice none 0 0)]) (z_ tabOk rfl rfl rfl rfl) rfl)<|eb_ (B_ (cs := [int 4, int 0, int 0, .v (.slice none 0 0), .v (.slice none 0 0), .v (.slice none 0 0)]) rfl) rfl rfl fun b11=>?_
 exact q_ 1 rfl<|d_<|b_<|k_<|f_ (rs := [.tmp 2]) rfl (RV.tmp rfl RV.nil) (b11) sr_<|rfl
theorem j4_  : Spec Tryz.prog 72 [] [] (fun _ : Nat => []) (fun t => ptr t) := by
 refine t_ Tryz.func72 rfl Tryz.ntmps72 rfl fun G w =>c_<|a_<|q_ 1 rfl<|d_<|b_<|c_<|a_<|eb_ (ak_ intK intOk pE (fun ac w => by simp [execOp, Instr.makeMap, newObj, Sem.run, Sem.run_bind, Result.andThen])) rfl rfl fun m1=>?_
 refine eb_ (ak_ intK intOk pE (fun ac w => by simp [execOp, Instr.makeMap, newObj, Sem.run, Sem.run_bind, Result.andThen])) rfl rfl fun m2=>?_
 refine slvA (h_ (C := .agg [mapV m1, mapV m2]) (z_ tabOk rfl rfl rfl rfl) rfl)<|eb_ (B_ (cs := [mapV m1, mapV m2]) rfl) rfl rfl fun b4=>?_
 exact q_ 1 rfl<|d_<|b_<|k_<|f_ (rs := [.tmp 0]) rfl (RV.tmp rfl RV.nil) (b4) sn_<|rfl
set_option maxHeartbeats 1000000 in
theorem hlnew_s  : Spec Tryz.prog 44 [bkI p, int 4] [] (fun z : Nat × Nat × Value => [.blk z.1 167 [bkI p, int 4, mapV z.2.1, .v z.2.2], .pc (tmPc z.2.1 intK intOk pE [])]) (fun z => ptr z.1) := by
 refine t_ Tryz.func44 rfl Tryz.ntmps44 rfl fun G w =>c_<|a_<|q_ 1 rfl<|d_<|b_<|c_<|c_<|a_<|q_ 1 rfl<|slvA (aE_ Tryz.underlying68 rfl)<|q_ 5 rfl<|A_ (t := 12) rfl (by intro hc12; exfalso; omega) ?_
 intro hc12
 refine q_ 3 rfl<|d_<|b_<|l_ rfl (by intro hc15; exfalso; omega) ?_
 intro hc15
 refine o_<|b_<|c_<|a_<|q_ 2 rfl<|eb_ (ak_ intK intOk pE (fun ac w => by simp [execOp, Instr.makeMap, newObj, Sem.run, Sem.run_bind, Result.andThen])) rfl rfl fun m18=>?_
 refine slvA (h_ (C := .agg [bkI p, int 4, mapV m18, .v (.slice none 0 0)]) (z_ tabOk rfl rfl rfl rfl) rfl)<|eb_ (B_ (cs := [bkI p, int 4, mapV m18, .v (.slice none 0 0)]) rfl) rfl rfl fun b20=>?_
 refine q_ 1 rfl<|d_<|b_<|c_<|c_<|a_<|q_ 2 rfl<|d_<|b_<|u_<|aF_ 168 1<|P_ (ι := Nat × Value × List Nat) (fun z => [own 168 1 z.2.1 (z.2.2.map fun t : Nat => [ptr t]), .blk b20 167 [bkI p, int 4, mapV m18, .v z.2.1], .pc (tmPc m18 intK intOk pE [])]) (fun z => [(5, ptr b20), (21, int 4), (22, int (z.1 : Nat))]) (fun z => z.1 ≤ 4 ∧ z.2.2.length = z.1) (fun z => 4 - z.1) (0, .slice none 0 0, []) (⟨Nat.zero_le _, rfl⟩) (by exact ⟨rfl, rfl, rfl, trivial⟩) sr_ ?_
 intro z hz
 refine c_<|a_<|q_ 1 rfl<|d_<|b_<|c_<|l_ rfl ?_ ?_
 rotate_left
 ·intro hc23
  exact N_<|j_ nofun<|j_ nofun<|M_<|b_<|c_<|a_<|q_ 2 rfl<|d_<|b_<|k_<|f_ (rs := [.tmp 4]) rfl (RV.tmp rfl RV.nil) ((b20, m18, z.2.1)) (sk_ sr_)<|rfl
 intro hc23
 refine o_<|b_<|c_<|u_<|hc_ fun hnod => ?_
 have hbx : b20 ∉ mids [own 168 1 z.2.1 (z.2.2.map fun t : Nat => [ptr t])] ++ [] := by
  intro hm
  have h9 : (z.2.1.ownBlock.toList ++ (b20 :: [m18])).Nodup := hnod
  exact (List.nodup_append.1 h9).2.2 b20 (by simpa [mids, It.mids, ownPc] using hm) b20 (by simp) rfl
 refine as_ (mids [own 168 1 z.2.1 (z.2.2.map fun t : Nat => [ptr t])] ++ []) (.q 0 (.q 1 (.q 2 (.q 3 (.q 4 (.e 5 (.e 6 (.e 7 (.q 8 (.q 9 .nil)))))))))) (by kernel_rfl) (by kernel_rfl) ?_
 refine hx_ fun hx9 =>qx_ 4 hx9 rfl<|sxvA rfl (h_ (C := .v z.2.1) (g_ tabOk rfl rfl l1_ hbx rfl) rfl) hx9<|D_ rfl (j4_) (by simp [mids, It.mids]) Casts.refl (by kernel_rfl) rfl rfl rfl ?_
 refine ap_<|fun zt=>ex_ rfl (G_ tabOk Tryz.underlying165 rfl rfl rfl rfl rfl rfl rfl) (by simp) rfl rfl ?_
 refine cs_ [own 168 1 z.2.1 (z.2.2.map fun t : Nat => [ptr t])] [] rfl (K_ (zs := (z.2.2 ++ [zt]).map fun t : Nat => [ptr t]) tabOk [] (by rw [List.map_append]; rfl) Tryz.underlying165 rfl rfl rfl rfl rfl rfl (by intro c hc; rw [List.mem_singleton] at hc; subst hc; rfl) (by unfold maxLen; simp only [List.length_map, List.length_cons, List.length_nil]; omega) (by rw [show Tryz.prog.bytesOf 168 = 8 by kernel_rfl]; simp only [List.length_map, List.length_cons, List.length_nil]; omega)) rfl (by intro k hk; simp [mids, It.mids, ownPc] at hk ⊢; simp [hk]) rfl rfl ?_
 rintro _ _ ⟨r31, rfl, rfl⟩
 refine ⟨[own 168 1 r31 ((z.2.2 ++ [zt]).map fun t : Nat => [ptr t])], rfl, hx_ fun hx9 =>qx_ 2 hx9 rfl<|F_<|aq_ rfl (az_ (L' := [bkI p, int 4, mapV m18, .v r31]) tabOk rfl rfl rfl rfl i0_ u1_ rfl (by rfl)) rfl rfl ?_⟩
 rintro _ _ ⟨rfl, rfl⟩
 refine w_<|b_<|a_<|slvA (y_ rfl rfl (by simp only [InR, lo, hi]; omega)) ?_
 refine q_ 1 rfl<|d_<|I_ (z.1 + 1, r31, z.2.2 ++ [zt]) (by omega) ((⟨by dsimp only; omega, by dsimp only; rw [List.length_append, List.length_singleton]; omega⟩)) (by exact ⟨rfl, rfl, rfl, trivial⟩) sr_
end
structure RI where
  r : Nat
  lg : Nat
  lm : Nat
  pp : Nat
  om : Nat
  vv : Nat
  vm : Nat
  h : Nat
  hm : Nat
  t : Nat
  x : Nat
  pd : Nat
  pf : Nat
  pv : Value
  hv : Value
  ow : Ow
def RI.cells (p me : Nat) (dr : Int) (out : Abs) (R : RI) : List Abs := [bkI p, int 4, int (me : Nat), int 0, boo true, int 0, .v (.slice none 0 0), .v (.slice none 0 0), int 0, ptr R.lg, ptr R.pp, ptr R.vv, ptr R.pf, ptr R.h, ptr R.t, ptr R.x, mapV R.pd, int dr, out]
def coE (c : Core) : Abs := coreA c
section
variable {p bd bt N me : Nat} {R : RI}
set_option maxHeartbeats 4000000 in
theorem rpnew_s (hm : me < 4) (hN : N ≤ 10000) : Spec Tryz.prog 26 [bkI p, int 4, int (me : Nat)] [wb p bd bt N] (fun R : RI => [.blk R.r 118 (R.cells p me 0 (.v (.slice none 0 0))), .pc (tmPc R.pd intK intOk coE []), .blk R.x 179 [int 4, int 0, int 0, .v (.slice none 0 0), .v (.slice none 0 0), .v (.slice none 0 0)], .blk R.t 173 [int 32, int 0], .blk R.h 167 [bkI p, int 4, mapV R.hm, .v R.hv], .pc (tmPc R.hm intK intOk pE []), .blk R.vv 160 [int 4, mapV R.vm], .pc (tmPc R.vm paV paOk voE []), .blk R.pp 157 [int ((4 : Nat) : Int), int (me : Nat), mapV R.om, .v R.pv], own 199 1 R.pv ((List.replicate 4 []).map fun l => [pntsA l]), .pc (tmPc R.om intK intOk Ow.enc [(0, R.ow)]), .blk R.lg 153 [int 4, int 0, mapV R.lm], .pc (tmPc R.lm intK intOk pE []), wb p bd bt (N + 1)]) (fun R => ptr R.r) := by
 refine t_ Tryz.func26 rfl Tryz.ntmps26 rfl fun G w =>c_<|a_<|q_ 1 rfl<|d_<|b_<|c_<|c_<|a_<|q_ 1 rfl<|slvA (aE_ Tryz.underlying68 rfl)<|q_ 5 rfl<|A_ (t := 15) rfl (by intro hc15; exfalso; omega) ?_
 intro hc15
 refine q_ 4 rfl<|A_ (t := 19) rfl (by intro hc19; exfalso; omega) ?_
 intro hc19
 refine q_ 4 rfl<|A_ (t := 23) rfl (by intro hc23; exfalso; omega) ?_
 intro hc23
 refine q_ 4 rfl<|d_<|b_<|l_ rfl (by intro hc27; exfalso; omega) ?_
 intro hc27
 refine o_<|b_<|c_<|a_<|q_ 4 rfl<|slcA (lgnew_s) ?_
 refine bb_ (by repeat (first | exact Reads.nil | (refine Reads.blk ?_ ?_; focus ((repeat first|assumption|exact m0_|apply m1_); done)) | (refine Reads.rd ?_ ?_; focus ((repeat first|assumption|exact m0_|apply m1_); done)) | (refine Reads.pc ?_ ?_; focus ((repeat first|assumption|exact m0_|apply m1_); done)) | (refine Reads.rdpc ?_ ?_; focus ((repeat first|assumption|exact m0_|apply m1_); done)))) ?_
 intro z32
 refine q_ 2 rfl<|slcA (pnew_s (n := 4) (me := me) (by omega) (by omega) hm) ?_
 refine bb_ (by repeat (first | exact Reads.nil | (refine Reads.blk ?_ ?_; focus ((repeat first|assumption|exact m0_|apply m1_); done)) | (refine Reads.rd ?_ ?_; focus ((repeat first|assumption|exact m0_|apply m1_); done)) | (refine Reads.pc ?_ ?_; focus ((repeat first|assumption|exact m0_|apply m1_); done)) | (refine Reads.rdpc ?_ ?_; focus ((repeat first|assumption|exact m0_|apply m1_); done)))) ?_
 intro z35
 refine q_ 1 rfl<|slcA (vonew_s) ?_
 refine bb_ (by repeat (first | exact Reads.nil | (refine Reads.blk ?_ ?_; focus ((repeat first|assumption|exact m0_|apply m1_); done)) | (refine Reads.rd ?_ ?_; focus ((repeat first|assumption|exact m0_|apply m1_); done)) | (refine Reads.pc ?_ ?_; focus ((repeat first|assumption|exact m0_|apply m1_); done)) | (refine Reads.rdpc ?_ ?_; focus ((repeat first|assumption|exact m0_|apply m1_); done)))) ?_
 intro z37
 refine slcA (kv_) ?_
 refine ap_<|fun z38=>q_ 2 rfl<|slcA (hlnew_s (p := p)) ?_
 refine bb_ (by repeat (first | exact Reads.nil | (refine Reads.blk ?_ ?_; focus ((repeat first|assumption|exact m0_|apply m1_); done)) | (refine Reads.rd ?_ ?_; focus ((repeat first|assumption|exact m0_|apply m1_); done)) | (refine Reads.pc ?_ ?_; focus ((repeat first|assumption|exact m0_|apply m1_); done)) | (refine Reads.rdpc ?_ ?_; focus ((repeat first|assumption|exact m0_|apply m1_); done)))) ?_
 intro z41
 refine slcA (j5_) ?_
 refine bb_ (by repeat (first | exact Reads.nil | (refine Reads.blk ?_ ?_; focus ((repeat first|assumption|exact m0_|apply m1_); done)) | (refine Reads.rd ?_ ?_; focus ((repeat first|assumption|exact m0_|apply m1_); done)) | (refine Reads.pc ?_ ?_; focus ((repeat first|assumption|exact m0_|apply m1_); done)) | (refine Reads.rdpc ?_ ?_; focus ((repeat first|assumption|exact m0_|apply m1_); done)))) ?_
 intro z42
 refine q_ 1 rfl<|slcA (exnew_s) ?_
 refine bb_ (by repeat (first | exact Reads.nil | (refine Reads.blk ?_ ?_; focus ((repeat first|assumption|exact m0_|apply m1_); done)) | (refine Reads.rd ?_ ?_; focus ((repeat first|assumption|exact m0_|apply m1_); done)) | (refine Reads.pc ?_ ?_; focus ((repeat first|assumption|exact m0_|apply m1_); done)) | (refine Reads.rdpc ?_ ?_; focus ((repeat first|assumption|exact m0_|apply m1_); done)))) ?_
 intro z44
 refine eb_ (ak_ intK intOk coE (fun ac w => by simp [execOp, Instr.makeMap, newObj, Sem.run, Sem.run_bind, Result.andThen])) rfl rfl fun m45=>?_
 refine slvA (h_ (C := .agg [bkI p, int 4, int (me : Nat), int 0, boo true, int 0, .v (.slice none 0 0), .v (.slice none 0 0), int 0, ptr z32.1, ptr z35.1, ptr z37.1, ptr z38, ptr z41.1, ptr z42, ptr z44, mapV m45, int 0, .v (.slice none 0 0)]) (z_ tabOk rfl rfl rfl rfl) rfl)<|eb_ (B_ (cs := [bkI p, int 4, int (me : Nat), int 0, boo true, int 0, .v (.slice none 0 0), .v (.slice none 0 0), int 0, ptr z32.1, ptr z35.1, ptr z37.1, ptr z38, ptr z41.1, ptr z42, ptr z44, mapV m45, int 0, .v (.slice none 0 0)]) rfl) rfl rfl fun b47=>?_
 refine q_ 1 rfl<|d_<|b_<|c_<|a_<|q_ 3 rfl<|slvA (h_ (C := ptr z44) (g_ tabOk rfl rfl l0_ List.not_mem_nil rfl) rfl)<|slcA (xby0_s (x := z44)) ?_
 refine ap_<|fun z52=>q_ 1 rfl<|d_<|b_<|c_<|ao_ (p := b47 ∉ (mids [wb p bd bt N] ++ mids [.blk z35.1 157 [int ((4 : Nat) : Int), int (me : Nat), mapV z35.2.1, .v z35.2.2], own 199 1 z35.2.2 ((List.replicate 4 []).map fun l => [pntsA l]), .pc (tmPc z35.2.1 intK intOk Ow.enc [])])) (fun _ _ h => by
   have h1 := h.mem.nodup
   simp [mids, It.mids, ownPc, mapPc, tmPc, wbP, exP] at h1 ⊢
   grind) fun hX => ?_
 refine Q_ (mids [wb p bd bt N] ++ mids [.blk z35.1 157 [int ((4 : Nat) : Int), int (me : Nat), mapV z35.2.1, .v z35.2.2], own 199 1 z35.2.2 ((List.replicate 4 []).map fun l => [pntsA l]), .pc (tmPc z35.2.1 intK intOk Ow.enc [])]) (.q 0 (.q 1 (.q 2 (.q 3 (.q 4 (.q 5 (.q 7 (.e 6 (.e 8 .nil))))))))) (by kernel_rfl) (by kernel_rfl) ?_
 refine hxA fun hx9 => ?_
 refine qx_ 3 hx9 rfl<|sxvA rfl (h_ (C := ptr z35.1) (g_ tabOk rfl rfl l0_ hX rfl) rfl) hx9<|qx_ 3 hx9 rfl<|bs_ rfl (jS_ (p := p) (bd := bd) (bt := bt) (N := N) (k := 104) (l := z52.1) (by omega) (by have := z52.2; unfold maxLen; omega)) (by intro k hk; exact List.mem_append_left _ hk) rfl Casts.refl (fun _ _ _ => by kernel_rfl) rfl rfl rfl ?_
 refine x_ rfl (by repeat first|assumption|exact m0_|apply m1_) (fun _ => rfl) ?_
 intro z59
 refine ⟨_, (by repeat first|assumption|exact Upd.here|apply Upd.there), ?_⟩
 refine bV_ ([]) rfl (pown_s (n := 4) (me := me) (bp := z35.1) (bm := z35.2.1) (vv := z35.2.2) (vs := List.replicate 4 []) (om := []) (k := 0) (o := ⟨z59.d, z52.1, z59.len⟩) (by simp only [InR, lo, hi]; omega) (by have := z52.2; show z52.1.length ≤ _; omega)) (by intro k hk; exact List.mem_append_right _ hk) (by intro k hk; cases hk) Casts.refl (by kernel_rfl) rfl rfl rfl ?_
 refine W_ [_, _, _, _, _, _, _, _] (β := [_, _, _]) rfl (J_ rfl) ?_
 intro _
 exact F_<|b_<|c_<|a_<|q_ 2 rfl<|d_<|b_<|k_<|f_ (rs := [.tmp 6]) rfl (RV.tmp rfl RV.nil) ((RI.mk b47 z32.1 z32.2 z35.1 z35.2.1 z37.1 z37.2 z41.1 z41.2.1 z42 z44 m45 z38 z35.2.2 z41.2.2 ⟨z59.d, z52.1, z59.len⟩)) sr_<|rfl
end
theorem vo_row (st : Int) (t : Tg) (m : Wo) : (((voL st t m).drop 2).take 32).map (fun a => [a]) = bysW t.d := by
  rw [show ((voL st t m).drop 2).take 32 = t.abs from jZ_ st t m]
  have h := Tg.row t
  rwa [List.take_of_length_le (by rw [Tg.size]; exact Nat.le_refl _)] at h
section
variable {p bd bt N me : Nat} {R : RI} {c : Core} {dr st x : Int} {o : Abs} {l : List UInt8} {v : Value} {t : Tg} {mk : Wo} {k : Int}
theorem rcd_s (h1 : c.letter.size ≤ 1000) (h2 : c.text.size ≤ 1000) (hN : N ≤ 100000) : Spec Tryz.prog 264 [ptr R.r, coreA c] [wb p bd bt N, .rd R.r 118 (R.cells p me dr o)] (fun _ : Tg => [wb p bd bt (N + 1)]) (fun t => .agg t.abs) := by
 have hcl := dz_ c
 refine t_ Tryz.func264 rfl Tryz.ntmps264 rfl fun G w =>c_<|a_<|eb_ (B_ (cs := c.cells.map .v) rfl) rfl rfl fun b3=>?_
 refine eb_ (C_ tabOk rfl) rfl rfl fun b4=>?_
 refine d_<|b_<|c_<|ao_ (p := R.r ∉ [p, bd, bt]) (fun _ _ h => by
   intro hm
   have h2 := h.mem.ro (.rd R.r _ _) (by repeat first | exact List.mem_cons_self | apply List.mem_cons_of_mem) R.r (by simp [It.rids])
   exact h.mem.sep R.r (by simp [mids, It.mids, wbP, exP, tmPc, ownPc] at hm ⊢; grind) h2) fun hR => ?_
 refine ao_ (p := b3 ∉ [p, bd, bt]) (fun _ _ h => by
   have h1 := h.mem.nodup
   simp [mids, It.mids, ownPc, mapPc, tmPc, wbP, exP] at h1 ⊢
   grind) fun hB => ?_
 refine as_ [p, bd, bt] (.q 0 (.q 1 (.q 2 (.q 3 (.q 4 (.q 6 (.q 7 (.e 5 (.e 8 .nil))))))))) (by kernel_rfl) (by kernel_rfl) ?_
 refine hxA fun hx9 => ?_
 refine qx_ 3 hx9 rfl<|sxvA rfl (h_ (C := bkI p) (g_ tabOk rfl rfl r3_ (by exact hR) rfl) rfl) hx9 ?_
 refine sxvA rfl (h_ (C := coreA c) (r_ tabOk rfl rfl rfl l1_ (by exact hB) rfl) rfl) hx9 ?_
 refine sxvA rfl (f8_ rfl) hx9<|qx_ 1 hx9 rfl<|D_ rfl (dB_ (c := c) (by omega) (by omega)) (by simp [mids, It.mids]) Casts.refl (by kernel_rfl) rfl rfl rfl ?_
 refine ap_<|fun _=>bs_ rfl (jS_ (p := p) (bd := bd) (bt := bt) (N := N) (k := 103) (l := c.bytes) (by omega) (by unfold maxLen; omega)) (by simp [mids, It.mids, wbP, exP]) rfl Casts.refl (fun _ _ _ => by kernel_rfl) rfl rfl rfl ?_
 refine x_ rfl i2_ (fun _ => rfl)<|fun z13=>⟨_, u2_, F_<|aq_ rfl (m_ (L' := z13.abs) tabOk rfl rfl rfl u0_ (Tg.size _) (lb_ (by rfl)) (bO_ _) (by exact p_ (Tg.size _))) rfl rfl ?_⟩
 rintro _ _ ⟨rfl, rfl⟩
 exact b_<|k_<|f_ (rs := [.cell 4 121]) rfl (RV.cell rfl (RV.cellA tabOk rfl rfl l0_ (Tg.size _)) RV.nil) (z13) (sk_ (sk_ (sc_ sn_)))<|rfl
theorem j1_ (hl : l.length ≤ 100) : Spec Tryz.prog 101 [.v v, ints [x]] [own 5 1 v (bysW l)] (fun z : {z : Value × List UInt8 // z.2.length ≤ 108} => [own 5 1 z.1.1 (bysW z.1.2)]) (fun z => .v z.1.1) := by
 have hL : lots = 100000000000 := rfl
 refine t_ Tryz.func101 rfl Tryz.ntmps101 rfl fun G w =>c_<|a_<|q_ 1 rfl<|d_<|b_<|c_<|c_<|a_<|q_ 1 rfl<|slvA (H_ (m := 1) rfl Tryz.underlying282 rfl)<|q_ 1 rfl<|d_<|b_<|u_<|P_ (ι := Nat × Value × List UInt8) (fun z => [own 5 1 z.2.1 (bysW z.2.2)]) (fun z => [(0, .v z.2.1), (7, ints [x]), (8, int (1 : Nat)), (9, int (z.1 : Nat))]) (fun z => z.1 ≤ 1 ∧ z.2.2.length ≤ 100 + 8 * z.1) (fun z => 1 - z.1) (0, v, l) (⟨Nat.zero_le _, by omega⟩) (by exact ⟨rfl, rfl, rfl, rfl, trivial⟩) sr_ ?_
 intro z hz
 refine c_<|a_<|q_ 1 rfl<|d_<|b_<|c_<|l_ rfl ?_ ?_
 rotate_left
 ·intro hc10
  refine N_<|j_ nofun<|j_ nofun<|M_<|b_<|c_<|a_<|q_ 2 rfl<|d_<|b_<|k_<|f_ (rs := [.tmp 4]) rfl (RV.tmp rfl RV.nil) (⟨z.2, by have := hz.2; omega⟩) sr_ ?_
  exact rfl
 intro hc10
 have hz0 : ((z.1 : Nat) : Int) = ((0 : Nat) : Int) := by omega
 refine o_<|b_<|c_<|u_<|c_<|a_<|slvA (L_ (q := 0) (xs := [[int x]]) tabOk Tryz.underlying282 rfl rfl rfl hz0 rfl rfl rfl)<|slvA (aa_ tabOk rfl rfl rfl)<|q_ 1 rfl<|d_<|b_<|aC_ [] (t := 0) rfl rfl<|a_<|q_ 2 rfl<|slvA (h_ (C := wrd (u64 x)) (aY_ rfl Tryz.underlying27 (by kernel_rfl)) rfl) ?_
 refine slcA (dv_ (l := z.2.2) (x := u64 x) (n := 8) (by omega) (cw_ x) rfl) ?_
 refine aftM ?_
 intro r16
 refine q_ 1 rfl<|d_<|w_<|b_<|a_<|slvA (y_ rfl rfl (by simp only [InR, lo, hi]; omega)) ?_
 refine q_ 1 rfl<|d_<|I_ (z.1 + 1, r16, z.2.2 ++ beBytes (u64 x) (8 : Int).toNat) (by omega) ((⟨by dsimp only; omega, by dsimp only; rw [List.length_append, v_]; have := hz.2; omega⟩)) (by exact ⟨rfl, rfl, rfl, rfl, trivial⟩) sr_
end
end Go.Proofs.YtjclgkddfjbdiaaGreatDoor.A
