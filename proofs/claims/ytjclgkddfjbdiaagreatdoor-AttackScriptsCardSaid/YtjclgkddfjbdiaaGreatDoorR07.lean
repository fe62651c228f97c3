/-
  Packed out of the texts: Cores, ACor, Pnt, PntEq, AN6, Rds, Req, E1, Id, V1, CryS, Frm, FrmS, Idx, E2, E3.
-/
import Derived.Test.YtjclgkddfjbdiaaGreatDoorR06
import Derived.DataShut
set_option maxRecDepth 100000
set_option linter.unusedSimpArgs false
set_option linter.unusedVariables false
namespace Go.Proofs.YtjclgkddfjbdiaaGreatDoor
open Go.RowKit
structure Core where
  client : Int
  stamp : Int
  op : Int
  letter : ByteArray
  a : Int
  b : Int
  text : ByteArray
def Core.cells (c : Core) : List Value := [.int .i64 c.client, .int .i64 c.stamp, .int .i64 c.op, .string c.letter, .int .i64 c.a, .int .i64 c.b, .string c.text]
def Core.check (c : Core) (n : Int) : Int :=
  if n < 1 ∨ 7 < n then 1 else if c.client < n ∨ n + 4 ≤ c.client then 17 else if c.stamp < 1 ∨ 1099511627776 < c.stamp ∨ c.op < 1 ∨ 9 < c.op then 5 else if nameB c.letter = false then 7 else if 200 < c.text.size then 3 else 0
def rowB (m : List UInt8) : List UInt8 := beBytes m.length 4 ++ m
def Core.bytes (c : Core) : List UInt8 :=
  beBytes (u64 c.client) 1 ++ beBytes (u64 c.stamp) 8 ++ beBytes (u64 c.op) 1 ++ rowB c.letter.data.toList ++ beBytes (u64 c.a) 8 ++ beBytes (u64 c.b) 8 ++ rowB c.text.data.toList
theorem cw_ (x : Int) : u64 x < 18446744073709551616 := by unfold u64; omega
section
variable {S : List (World × List Nat)} {σ τ : Blks} {ρ : List Dt} {w : World} {P : Program} {n : Nat} {l : Slots} {D : World → Prop} {x y : Operand} {d : Option Nat} {ty t : TypeId} {pos : String} {aft : Array Edge} {g : Option (Nat × Bool)} {v : Value}
theorem ed_ {tab : List (Nat × TI)} (hT : TabOk P tab) {sz m e sz' : Nat} {zs zs' L : List Value} {k : IntKind} {r : Int} {q : Nat} (ht : ti tab t = some ⟨sz, .array m e, zs⟩) (hj : ti tab e = some ⟨sz', .one, zs'⟩) (hs : Nat.beq sz' 1 = true) (hx : look l x = some (.agg L.toArray)) (hy : look l y = some (.int k r)) (hr : r = (q : Nat)) (hq : q < m) (hv : L[q]? = some v) :
    Val P n l D ⟨d, .index t x y, ty, pos, aft, g⟩ v := fun A w hf hD => by
  obtain ⟨dd, hu, hk⟩ := (hT t _ ht).und
  cases dd <;> simp [kindOk] at hk
  obtain ⟨rfl, rfl⟩ := hk
  have h1 := (hT _ _ hj).sizeOf (w := w)
  have h2 := (hT _ _ hj).isAgg (w := w)
  rw [show sz' = 1 from Nat.eq_of_beq_eq_true hs] at h1
  subst hr
  simp [execOp, Instr.index, asIntOf, hf.eval hx, hf.eval hy, run_underlying hu, Sem.run_bind, Result.andThen, hq, h1, part, h2, hv]
set_option maxHeartbeats 400000 in
theorem check_c {c : Core} {n : Int} (hw : Mem S σ ρ w) : Calls Tryz.prog 82 #[.agg c.cells.toArray, .int .i64 n] w fun e w' => e = .returned (.int .i64 (c.check n)) ∧ Mem S σ ρ w' := by
  refine au_ [.agg c.cells.toArray, .int .i64 n] Tryz.func82 rfl Tryz.ntmps82 rfl (Mem S σ ρ) hw ?_
  refine c_ (a_ ?_)
  refine by_ (B_ rfl) rfl rfl ?_
  rintro _ _ ⟨b2, rfl, rfl⟩
  refine i_ (n_ rfl) rfl rfl ?_
  refine d_ (b_ ?_)
  refine c_ ?_
  refine u_ ?_
  refine c_ (a_ ?_)
  refine i_ (s_ rfl) rfl rfl ?_
  refine i_ (a9_ rfl rfl) rfl rfl ?_
  refine i_ (s_ rfl) rfl rfl ?_
  refine A_ (t := 8) rfl ?_ ?_
  · intro hc8
    iterate 2 refine aH_ rfl rfl ?_
    refine i_ (ab_ rfl rfl) rfl rfl ?_
    refine i_ (n_ rfl) rfl rfl ?_
    refine d_ (b_ ?_)
    refine U_ rfl ?_
    refine c_ (a_ ?_)
    refine i_ (n_ rfl) rfl rfl ?_
    refine d_ (b_ ?_)
    refine k_ ?_
    refine S_ ?_
    refine j_ (by intro h; cases h) ?_
    refine Z_ rfl rfl ?_
    intro w' hw'
    refine ⟨?_, hw'.sub (fun _ h => h) (List.sublist_cons_self _ _)⟩
    congr 2
    unfold Core.check
    repeat' split
    all_goals first | rfl | omega | simp_all
  intro hc8
  refine i_ (s_ rfl) rfl rfl ?_
  refine i_ (ba_ rfl rfl) rfl rfl ?_
  refine i_ (an_ rfl rfl) rfl rfl ?_
  refine i_ (n_ rfl) rfl rfl ?_
  refine d_ (b_ ?_)
  refine l_ rfl ?_ ?_
  · intro hc5
    refine c_ (a_ ?_)
    refine i_ (n_ rfl) rfl rfl ?_
    refine d_ (b_ ?_)
    refine k_ ?_
    refine S_ ?_
    refine j_ (by intro h; cases h) ?_
    refine Z_ rfl rfl ?_
    intro w' hw'
    refine ⟨?_, hw'.sub (fun _ h => h) (List.sublist_cons_self _ _)⟩
    congr 2
    unfold Core.check
    repeat' split
    all_goals first | rfl | omega | simp_all
  intro hc5
  refine c_ (a_ ?_)
  refine i_ (E_ tabOk rfl rfl rfl rfl rfl) rfl rfl ?_
  refine i_ (g_ tabOk rfl rfl (by repeat (first | assumption | exact List.mem_cons_self | exact hmem _ | apply List.mem_cons_of_mem)) (by rfl)) rfl rfl ?_
  refine i_ (s_ rfl) rfl rfl ?_
  refine i_ (a9_ rfl rfl) rfl rfl ?_
  refine i_ (s_ rfl) rfl rfl ?_
  refine A_ (t := 17) rfl ?_ ?_
  · intro hc17
    iterate 5 refine aH_ rfl rfl ?_
    refine i_ (ab_ rfl rfl) rfl rfl ?_
    refine i_ (n_ rfl) rfl rfl ?_
    refine d_ (b_ ?_)
    refine U_ rfl ?_
    refine c_ (a_ ?_)
    refine i_ (n_ rfl) rfl rfl ?_
    refine d_ (b_ ?_)
    refine k_ ?_
    refine S_ ?_
    refine j_ (by intro h; cases h) ?_
    refine Z_ rfl rfl ?_
    intro w' hw'
    refine ⟨?_, hw'.sub (fun _ h => h) (List.sublist_cons_self _ _)⟩
    congr 2
    unfold Core.check
    repeat' split
    all_goals first | rfl | omega | simp_all
  intro hc17
  refine i_ (E_ tabOk rfl rfl rfl rfl rfl) rfl rfl ?_
  refine i_ (g_ tabOk rfl rfl (by repeat (first | assumption | exact List.mem_cons_self | exact hmem _ | apply List.mem_cons_of_mem)) (by rfl)) rfl rfl ?_
  refine i_ (s_ rfl) rfl rfl ?_
  refine i_ (y_ rfl rfl (by simp only [InR, lo, hi]; omega)) rfl rfl ?_
  refine i_ (d1_ rfl rfl) rfl rfl ?_
  refine i_ (an_ rfl rfl) rfl rfl ?_
  refine i_ (n_ rfl) rfl rfl ?_
  refine d_ (b_ ?_)
  refine l_ rfl ?_ ?_
  · intro hc12
    refine c_ (a_ ?_)
    refine i_ (n_ rfl) rfl rfl ?_
    refine d_ (b_ ?_)
    refine k_ ?_
    refine S_ ?_
    refine j_ (by intro h; cases h) ?_
    refine Z_ rfl rfl ?_
    intro w' hw'
    refine ⟨?_, hw'.sub (fun _ h => h) (List.sublist_cons_self _ _)⟩
    congr 2
    unfold Core.check
    repeat' split
    all_goals first | rfl | omega | simp_all
  intro hc12
  refine c_ (a_ ?_)
  refine i_ (E_ tabOk rfl rfl rfl rfl rfl) rfl rfl ?_
  refine i_ (g_ tabOk rfl rfl (by repeat (first | assumption | exact List.mem_cons_self | exact hmem _ | apply List.mem_cons_of_mem)) (by rfl)) rfl rfl ?_
  refine i_ (a9_ rfl rfl) rfl rfl ?_
  refine i_ (s_ rfl) rfl rfl ?_
  refine A_ (t := 28) rfl ?_ ?_
  · intro hc28
    iterate 3 refine aH_ rfl rfl ?_
    refine i_ (ab_ rfl rfl) rfl rfl ?_
    refine i_ (s_ rfl) rfl rfl ?_
    iterate 3 refine aH_ rfl rfl ?_
    refine i_ (ab_ rfl rfl) rfl rfl ?_
    refine i_ (s_ rfl) rfl rfl ?_
    iterate 3 refine aH_ rfl rfl ?_
    refine i_ (ab_ rfl rfl) rfl rfl ?_
    refine i_ (n_ rfl) rfl rfl ?_
    refine d_ (b_ ?_)
    refine U_ rfl ?_
    refine c_ (a_ ?_)
    refine i_ (n_ rfl) rfl rfl ?_
    refine d_ (b_ ?_)
    refine k_ ?_
    refine S_ ?_
    refine j_ (by intro h; cases h) ?_
    refine Z_ rfl rfl ?_
    intro w' hw'
    refine ⟨?_, hw'.sub (fun _ h => h) (List.sublist_cons_self _ _)⟩
    congr 2
    unfold Core.check
    repeat' split
    all_goals first | rfl | omega | simp_all
  intro hc28
  refine i_ (E_ tabOk rfl rfl rfl rfl rfl) rfl rfl ?_
  refine i_ (g_ tabOk rfl rfl (by repeat (first | assumption | exact List.mem_cons_self | exact hmem _ | apply List.mem_cons_of_mem)) (by rfl)) rfl rfl ?_
  refine i_ (ba_ rfl rfl) rfl rfl ?_
  refine i_ (an_ rfl rfl) rfl rfl ?_
  refine i_ (s_ rfl) rfl rfl ?_
  refine A_ (t := 33) rfl ?_ ?_
  · intro hc33
    iterate 3 refine aH_ rfl rfl ?_
    refine i_ (ab_ rfl rfl) rfl rfl ?_
    refine i_ (s_ rfl) rfl rfl ?_
    iterate 3 refine aH_ rfl rfl ?_
    refine i_ (ab_ rfl rfl) rfl rfl ?_
    refine i_ (n_ rfl) rfl rfl ?_
    refine d_ (b_ ?_)
    refine U_ rfl ?_
    refine c_ (a_ ?_)
    refine i_ (n_ rfl) rfl rfl ?_
    refine d_ (b_ ?_)
    refine k_ ?_
    refine S_ ?_
    refine j_ (by intro h; cases h) ?_
    refine Z_ rfl rfl ?_
    intro w' hw'
    refine ⟨?_, hw'.sub (fun _ h => h) (List.sublist_cons_self _ _)⟩
    congr 2
    unfold Core.check
    repeat' split
    all_goals first | rfl | omega | simp_all
  intro hc33
  refine i_ (E_ tabOk rfl rfl rfl rfl rfl) rfl rfl ?_
  refine i_ (g_ tabOk rfl rfl (by repeat (first | assumption | exact List.mem_cons_self | exact hmem _ | apply List.mem_cons_of_mem)) (by rfl)) rfl rfl ?_
  refine i_ (a9_ rfl rfl) rfl rfl ?_
  refine i_ (an_ rfl rfl) rfl rfl ?_
  refine i_ (s_ rfl) rfl rfl ?_
  refine A_ (t := 38) rfl ?_ ?_
  · intro hc38
    iterate 3 refine aH_ rfl rfl ?_
    refine i_ (ab_ rfl rfl) rfl rfl ?_
    refine i_ (n_ rfl) rfl rfl ?_
    refine d_ (b_ ?_)
    refine U_ rfl ?_
    refine c_ (a_ ?_)
    refine i_ (n_ rfl) rfl rfl ?_
    refine d_ (b_ ?_)
    refine k_ ?_
    refine S_ ?_
    refine j_ (by intro h; cases h) ?_
    refine Z_ rfl rfl ?_
    intro w' hw'
    refine ⟨?_, hw'.sub (fun _ h => h) (List.sublist_cons_self _ _)⟩
    congr 2
    unfold Core.check
    repeat' split
    all_goals first | rfl | omega | simp_all
  intro hc38
  refine i_ (E_ tabOk rfl rfl rfl rfl rfl) rfl rfl ?_
  refine i_ (g_ tabOk rfl rfl (by repeat (first | assumption | exact List.mem_cons_self | exact hmem _ | apply List.mem_cons_of_mem)) (by rfl)) rfl rfl ?_
  refine i_ (ba_ rfl rfl) rfl rfl ?_
  refine i_ (an_ rfl rfl) rfl rfl ?_
  refine i_ (n_ rfl) rfl rfl ?_
  refine d_ (b_ ?_)
  refine l_ rfl ?_ ?_
  · intro hc24
    refine c_ (a_ ?_)
    refine i_ (n_ rfl) rfl rfl ?_
    refine d_ (b_ ?_)
    refine k_ ?_
    refine S_ ?_
    refine j_ (by intro h; cases h) ?_
    refine Z_ rfl rfl ?_
    intro w' hw'
    refine ⟨?_, hw'.sub (fun _ h => h) (List.sublist_cons_self _ _)⟩
    congr 2
    unfold Core.check
    repeat' split
    all_goals first | rfl | omega | simp_all
  intro hc24
  refine c_ (a_ ?_)
  refine i_ (E_ tabOk rfl rfl rfl rfl rfl) rfl rfl ?_
  refine i_ (g_ tabOk rfl rfl (by repeat (first | assumption | exact List.mem_cons_self | exact hmem _ | apply List.mem_cons_of_mem)) (by rfl)) rfl rfl ?_
  refine Y_ (by kernel_rfl) rfl rfl rfl ?_
  intro w hw
  refine (isName_c hw).mono ?_; rintro _ _ ⟨rfl, hm⟩; refine ⟨_, _, rfl, hm, ?_⟩; clear hm hw w
  refine i_ (aL_ rfl) rfl rfl ?_
  refine i_ (n_ rfl) rfl rfl ?_
  refine d_ (b_ ?_)
  refine ar_ rfl ?_ ?_
  · intro hc43
    refine c_ (a_ ?_)
    refine i_ (n_ rfl) rfl rfl ?_
    refine d_ (b_ ?_)
    refine k_ ?_
    refine S_ ?_
    refine j_ (by intro h; cases h) ?_
    refine Z_ rfl rfl ?_
    intro w' hw'
    refine ⟨?_, hw'.sub (fun _ h => h) (List.sublist_cons_self _ _)⟩
    congr 2
    unfold Core.check
    repeat' split
    all_goals first | rfl | omega | simp_all
  intro hc43
  refine c_ (a_ ?_)
  refine i_ (E_ tabOk rfl rfl rfl rfl rfl) rfl rfl ?_
  refine i_ (g_ tabOk rfl rfl (by repeat (first | assumption | exact List.mem_cons_self | exact hmem _ | apply List.mem_cons_of_mem)) (by rfl)) rfl rfl ?_
  refine i_ (cJ_ rfl Tryz.underlying9) rfl rfl ?_
  refine i_ (ba_ rfl rfl) rfl rfl ?_
  refine i_ (n_ rfl) rfl rfl ?_
  refine d_ (b_ ?_)
  refine l_ rfl ?_ ?_
  · intro hc48
    refine c_ (a_ ?_)
    refine i_ (n_ rfl) rfl rfl ?_
    refine d_ (b_ ?_)
    refine k_ ?_
    refine S_ ?_
    refine j_ (by intro h; cases h) ?_
    refine Z_ rfl rfl ?_
    intro w' hw'
    refine ⟨?_, hw'.sub (fun _ h => h) (List.sublist_cons_self _ _)⟩
    congr 2
    unfold Core.check
    repeat' split
    all_goals first | rfl | omega | simp_all
  intro hc48
  refine o_ ?_
  refine w_ ?_
  refine b_ ?_
  refine c_ (a_ ?_)
  refine i_ (n_ rfl) rfl rfl ?_
  refine d_ (b_ ?_)
  refine k_ ?_
  refine Z_ rfl rfl ?_
  intro w' hw'
  refine ⟨?_, hw'.sub (fun _ h => h) (List.sublist_cons_self _ _)⟩
  congr 2
  unfold Core.check
  repeat' split
  all_goals first | rfl | omega | simp_all
set_option maxHeartbeats 1000000 in
theorem e0_ {c : Core} (hw : Mem S σ ρ w) (h1 : c.letter.size ≤ 1000000) (h2 : c.text.size ≤ 1000000) : Calls Tryz.prog 95 #[.agg c.cells.toArray] w fun e w' => ∃ r, e = .returned r ∧ Mem S σ (bytesD r c.bytes :: ρ) w' := by
  have h3 : c.letter.size ≤ lots := by unfold lots; omega
  have h4 : c.text.size ≤ lots := by unfold lots; omega
  have hL : c.letter.data.toList.length ≤ 1000000 := h1
  have hT : c.text.data.toList.length ≤ 1000000 := h2
  refine au_ [.agg c.cells.toArray] Tryz.func95 rfl Tryz.ntmps95 rfl (Mem S σ ρ) hw ?_
  refine c_ (a_ ?_)
  refine by_ (B_ rfl) rfl rfl ?_
  rintro _ _ ⟨b1, rfl, rfl⟩
  refine i_ (n_ rfl) rfl rfl ?_
  refine d_ (b_ ?_)
  refine c_ (a_ ?_)
  refine i_ (E_ tabOk rfl rfl rfl rfl rfl) rfl rfl ?_
  refine i_ (g_ tabOk rfl rfl (by repeat (first | assumption | exact List.mem_cons_self | exact hmem _ | apply List.mem_cons_of_mem)) (by rfl)) rfl rfl ?_
  refine i_ (aY_ rfl Tryz.underlying27 (by kernel_rfl)) rfl rfl ?_
  refine Y_ (by kernel_rfl) rfl rfl rfl ?_
  intro w hw
  refine (fb_ (l := []) (x := u64 c.client) (n := 1) hw (BytesV.nil _) (by exact Nat.zero_le _) (cw_ _) rfl).mono ?_; rintro _ _ ⟨r, rfl, hm⟩; refine ⟨_, _, rfl, hm, ?_⟩; clear hm hw w
  refine i_ (n_ rfl) rfl rfl ?_
  refine d_ (b_ ?_)
  refine c_ (a_ ?_)
  refine i_ (s_ rfl) rfl rfl ?_
  refine i_ (E_ tabOk rfl rfl rfl rfl rfl) rfl rfl ?_
  refine i_ (g_ tabOk rfl rfl (by repeat (first | assumption | exact List.mem_cons_self | exact hmem _ | apply List.mem_cons_of_mem)) (by rfl)) rfl rfl ?_
  refine i_ (aY_ rfl Tryz.underlying27 (by kernel_rfl)) rfl rfl ?_
  refine Y_ (by kernel_rfl) rfl rfl rfl ?_
  intro w hw
  refine (fb_ (l := ([] ++ beBytes (u64 c.client) (Int.toNat 1))) (x := u64 c.stamp) (n := 8) hw (hw.bytes (by repeat (first | assumption | exact List.mem_cons_self | exact hmem _ | apply List.mem_cons_of_mem))) (by (simp only [List.length_append, v_, List.length_nil]; unfold lots; omega)) (cw_ _) rfl).mono ?_; rintro _ _ ⟨r, rfl, hm⟩; refine ⟨_, _, rfl, hm, ?_⟩; clear hm hw w
  refine i_ (n_ rfl) rfl rfl ?_
  refine d_ (b_ ?_)
  refine c_ ?_
  refine Q_ _ (.q 0 (.q 1 (.q 2 (.q 3 (.q 5 (.q 6 (.two 4 7 (.e 7 (.e 8 (.q 9 .nil))) (.e 4 (.e 8 (.q 9 .nil)))))))))) (by kernel_rfl) (by kernel_rfl) (fun _ h => h) (fun _ h => h.drew) ?_
  refine bo_ rfl (s_ rfl) rfl rfl ?_
  refine bo_ rfl (E_ tabOk rfl rfl rfl rfl rfl) rfl rfl ?_
  refine bo_ rfl (g_ tabOk rfl rfl (by repeat (first | assumption | exact List.mem_cons_self | exact hmem _ | apply List.mem_cons_of_mem)) (by rfl)) rfl rfl ?_
  refine bo_ rfl (aY_ rfl Tryz.underlying27 (by kernel_rfl)) rfl rfl ?_
  refine bo_ rfl (E_ tabOk rfl rfl rfl rfl rfl) rfl rfl ?_
  refine bo_ rfl (g_ tabOk rfl rfl (by repeat (first | assumption | exact List.mem_cons_self | exact hmem _ | apply List.mem_cons_of_mem)) (by rfl)) rfl rfl ?_
  refine aV_ ?_ ?_
  · skip
    refine D_ rfl (by kernel_rfl) rfl rfl rfl ?_
    intro w hw
    refine (fb_ (l := (([] ++ beBytes (u64 c.client) (Int.toNat 1)) ++ beBytes (u64 c.stamp) (Int.toNat 8))) (x := u64 c.op) (n := 1) hw (hw.bytes (by repeat (first | assumption | exact List.mem_cons_self | exact hmem _ | apply List.mem_cons_of_mem))) (by (simp only [List.length_append, v_, List.length_nil]; unfold lots; omega)) (cw_ _) rfl).mono ?_; rintro _ _ ⟨r, rfl, hm⟩; refine ⟨_, _, rfl, hm, _, fun _ h => h.less (fun _ hx => List.mem_cons_of_mem _ hx), fun _ h => h, ?_⟩; clear hm hw w
    refine ha_ rfl (bY_ rfl Tryz.underlying9 Tryz.underlying39 (by assumption)) rfl rfl ?_
    rintro sb22 _ rfl
    refine ⟨_, fun _ h => h.less (fun _ hx => List.mem_cons_of_mem _ hx), fun _ h => h, ?_⟩
    refine D_ rfl (by kernel_rfl) rfl rfl rfl ?_
    intro w hw
    refine (dQ_ (l := ((([] ++ beBytes (u64 c.client) (Int.toNat 1)) ++ beBytes (u64 c.stamp) (Int.toNat 8)) ++ beBytes (u64 c.op) (Int.toNat 1))) (m := c.letter.data.toList) hw (by repeat (first | assumption | exact List.mem_cons_self | exact hmem _ | apply List.mem_cons_of_mem)) (by repeat (first | assumption | exact List.mem_cons_self | exact hmem _ | apply List.mem_cons_of_mem)) (by simp only [List.length_append, v_, List.length_nil]; unfold lots; omega) (by omega)).mono ?_; rintro _ _ ⟨r, rfl, hm⟩; refine ⟨_, _, rfl, hm, _, fun _ h => h.less (fun _ hx => List.mem_cons_of_mem _ hx), fun _ h => h, ?_⟩; clear hm hw w
    refine bo_ rfl (n_ rfl) rfl rfl ?_
    refine F_ (b_ ?_)
    refine c_ ?_
    refine c_ (a_ ?_)
    refine i_ (E_ tabOk rfl rfl rfl rfl rfl) rfl rfl ?_
    refine i_ (g_ tabOk rfl rfl (by repeat (first | assumption | exact List.mem_cons_self | exact hmem _ | apply List.mem_cons_of_mem)) (by rfl)) rfl rfl ?_
    refine i_ (E_ tabOk rfl rfl rfl rfl rfl) rfl rfl ?_
    refine i_ (g_ tabOk rfl rfl (by repeat (first | assumption | exact List.mem_cons_self | exact hmem _ | apply List.mem_cons_of_mem)) (by rfl)) rfl rfl ?_
    refine i_ (bC_ tabOk rfl rfl rfl rfl) rfl rfl ?_
    refine i_ (s_ rfl) rfl rfl ?_
    refine d_ (b_ ?_)
    refine u_ ?_
    refine P_ (ι := Nat × Value) (fun z => [(1, .pointer (some ⟨b1, 0, none⟩)), (3, z.2), (28, .agg [.int .i64 c.a, .int .i64 c.b].toArray), (29, .int .i64 (z.1 : Nat))]) (fun z w' => z.1 ≤ 2 ∧ Mem S (.blk b1 (row 26 c.cells) :: σ) (bytesD z.2 ((((([] ++ beBytes (u64 c.client) (Int.toNat 1)) ++ beBytes (u64 c.stamp) (Int.toNat 8)) ++ beBytes (u64 c.op) (Int.toNat 1)) ++ beBytes c.letter.data.toList.length 4 ++ c.letter.data.toList) ++ (([c.a, c.b].take z.1).flatMap fun x => beBytes (u64 x) (Int.toNat 8))) :: ρ) w') (fun z => 2 - z.1) (0, _) (by exact ⟨rfl, rfl, rfl, rfl, trivial⟩) (fun w' hw' => ⟨by omega, hw'.less (by intro x hx; simp only [List.take_zero, List.flatMap_nil, List.append_nil] at hx; rcases List.mem_cons.1 hx with rfl | hx <;> simp [*])⟩) ?_
    intro z
    refine cu_ ?_
    intro hz
    have hlen : ((((([] ++ beBytes (u64 c.client) (Int.toNat 1)) ++ beBytes (u64 c.stamp) (Int.toNat 8)) ++ beBytes (u64 c.op) (Int.toNat 1)) ++ beBytes c.letter.data.toList.length 4 ++ c.letter.data.toList) ++ (([c.a, c.b].take z.1).flatMap fun x => beBytes (u64 x) (Int.toNat 8))).length ≤ 10 + (4 + c.letter.data.toList.length) + 16 := by
      simp only [List.length_append, v_, List.length_nil]
      have : ((([c.a, c.b].take z.1).flatMap fun x => beBytes (u64 x) (Int.toNat 8))).length ≤ 16 := by
        rcases (by omega : z.1 = 0 ∨ z.1 = 1 ∨ z.1 = 2) with h | h | h <;> rw [h] <;> simp [v_]
      omega
    refine c_ (a_ ?_)
    refine i_ (a9_ rfl rfl) rfl rfl ?_
    refine d_ (b_ ?_)
    refine c_ ?_
    refine l_ rfl ?_ ?_
    rotate_left
    · intro hc30
      have e2 : ((((([] ++ beBytes (u64 c.client) (Int.toNat 1)) ++ beBytes (u64 c.stamp) (Int.toNat 8)) ++ beBytes (u64 c.op) (Int.toNat 1)) ++ beBytes c.letter.data.toList.length 4 ++ c.letter.data.toList) ++ (([c.a, c.b].take z.1).flatMap fun x => beBytes (u64 x) (Int.toNat 8))) = (((([] ++ beBytes (u64 c.client) (Int.toNat 1)) ++ beBytes (u64 c.stamp) (Int.toNat 8)) ++ beBytes (u64 c.op) (Int.toNat 1)) ++ beBytes c.letter.data.toList.length 4 ++ c.letter.data.toList) ++ (beBytes (u64 c.a) (Int.toNat 8) ++ beBytes (u64 c.b) (Int.toNat 8)) := by
        have h : z.1 = 2 := by omega
        rw [h]
        simp
      rw [e2] at *
      refine N_ ?_
      refine j_ (by intro h; cases h) ?_
      refine j_ (by intro h; cases h) ?_
      refine M_ ?_
      refine b_ ?_
      refine c_ (a_ ?_)
      refine i_ (s_ rfl) rfl rfl ?_
      refine i_ (E_ tabOk rfl rfl rfl rfl rfl) rfl rfl ?_
      refine i_ (g_ tabOk rfl rfl (by repeat (first | assumption | exact List.mem_cons_self | exact hmem _ | apply List.mem_cons_of_mem)) (by rfl)) rfl rfl ?_
      refine by_ (bY_ rfl Tryz.underlying9 Tryz.underlying39 (by assumption)) rfl rfl ?_
      rintro sb40 _ rfl
      refine Y_ (by kernel_rfl) rfl rfl rfl ?_
      intro w hw
      refine (dQ_ (l := ((((([] ++ beBytes (u64 c.client) (Int.toNat 1)) ++ beBytes (u64 c.stamp) (Int.toNat 8)) ++ beBytes (u64 c.op) (Int.toNat 1)) ++ beBytes c.letter.data.toList.length 4 ++ c.letter.data.toList) ++ (beBytes (u64 c.a) (Int.toNat 8) ++ beBytes (u64 c.b) (Int.toNat 8)))) (m := c.text.data.toList) hw (by repeat (first | assumption | exact List.mem_cons_self | exact hmem _ | apply List.mem_cons_of_mem)) (by repeat (first | assumption | exact List.mem_cons_self | exact hmem _ | apply List.mem_cons_of_mem)) (by simp only [List.length_append, v_, List.length_nil]; unfold lots; omega) (by omega)).mono ?_; rintro _ _ ⟨r, rfl, hm⟩; refine ⟨_, _, rfl, hm, ?_⟩; clear hm hw w
      refine i_ (n_ rfl) rfl rfl ?_
      refine d_ (b_ ?_)
      refine k_ ?_
      refine Z_ rfl rfl ?_
      intro w' hw'
      refine ⟨_, rfl, (hw'.sub (fun _ h => h) (List.sublist_cons_self _ _)).less (fun x hx => ?_)⟩
      rcases List.mem_cons.1 hx with rfl | hx
      · have e3 : c.bytes = (((([] ++ beBytes (u64 c.client) (Int.toNat 1)) ++ beBytes (u64 c.stamp) (Int.toNat 8)) ++ beBytes (u64 c.op) (Int.toNat 1)) ++ beBytes c.letter.data.toList.length 4 ++ c.letter.data.toList) ++ (beBytes (u64 c.a) (Int.toNat 8) ++ beBytes (u64 c.b) (Int.toNat 8)) ++ beBytes c.text.data.toList.length 4 ++ c.text.data.toList := by simp [Core.bytes, rowB]
        rw [e3]; simp
      · simp [*]
    intro hc30
    have hlt : z.1 < [c.a, c.b].length := by show z.1 < 2; omega
    have helt : [Value.int .i64 c.a, Value.int .i64 c.b][z.1]? = some (.int .i64 ([c.a, c.b][z.1]'hlt)) := by
      rcases (by omega : z.1 = 0 ∨ z.1 = 1) with h | h <;> simp only [h] <;> rfl
    refine o_ ?_
    refine b_ ?_
    refine c_ ?_
    refine u_ ?_
    refine c_ (a_ ?_)
    refine i_ (ed_ (L := [.int .i64 c.a, .int .i64 c.b]) (v := .int .i64 ([c.a, c.b][z.1]'hlt)) (q := z.1) tabOk rfl rfl rfl rfl rfl rfl hlt helt) rfl rfl ?_
    refine i_ (n_ rfl) rfl rfl ?_
    refine d_ (b_ ?_)
    refine a_ ?_
    iterate 2 refine i_ (s_ rfl) rfl rfl ?_
    refine i_ (aY_ rfl Tryz.underlying27 (by kernel_rfl)) rfl rfl ?_
    refine Y_ (by kernel_rfl) rfl rfl rfl ?_
    intro w hw
    refine (fb_ (l := ((((([] ++ beBytes (u64 c.client) (Int.toNat 1)) ++ beBytes (u64 c.stamp) (Int.toNat 8)) ++ beBytes (u64 c.op) (Int.toNat 1)) ++ beBytes c.letter.data.toList.length 4 ++ c.letter.data.toList) ++ (([c.a, c.b].take z.1).flatMap fun x => beBytes (u64 x) (Int.toNat 8)))) (x := u64 ([c.a, c.b][z.1]'hlt)) (n := 8) hw (hw.bytes (by repeat (first | assumption | exact List.mem_cons_self | exact hmem _ | apply List.mem_cons_of_mem))) (by unfold lots; omega) (cw_ _) rfl).mono ?_; rintro _ _ ⟨r, rfl, hm⟩; refine ⟨_, _, rfl, hm, ?_⟩; clear hm hw w
    refine i_ (n_ rfl) rfl rfl ?_
    refine d_ ?_
    refine w_ ?_
    refine b_ ?_
    refine a_ ?_
    refine i_ (y_ rfl rfl (by simp only [InR, lo, hi]; omega)) rfl rfl ?_
    refine i_ (s_ rfl) rfl rfl ?_
    refine d_ ?_
    refine I_ (z.1 + 1, r) (by show 2 - (z.1 + 1) < 2 - z.1; omega) (by exact ⟨rfl, rfl, rfl, rfl, trivial⟩) (fun w' hw' => ⟨by show z.1 + 1 ≤ 2; omega, ?_⟩)
    have e1 : ((((([] ++ beBytes (u64 c.client) (Int.toNat 1)) ++ beBytes (u64 c.stamp) (Int.toNat 8)) ++ beBytes (u64 c.op) (Int.toNat 1)) ++ beBytes c.letter.data.toList.length 4 ++ c.letter.data.toList) ++ (([c.a, c.b].take (z.1 + 1)).flatMap fun x => beBytes (u64 x) (Int.toNat 8))) = ((((([] ++ beBytes (u64 c.client) (Int.toNat 1)) ++ beBytes (u64 c.stamp) (Int.toNat 8)) ++ beBytes (u64 c.op) (Int.toNat 1)) ++ beBytes c.letter.data.toList.length 4 ++ c.letter.data.toList) ++ (([c.a, c.b].take z.1).flatMap fun x => beBytes (u64 x) (Int.toNat 8))) ++ beBytes (u64 ([c.a, c.b][z.1]'hlt)) (Int.toNat 8) := by
      rw [List.take_succ_eq_append_getElem hlt, List.flatMap_append, ← List.append_assoc]
      simp
    show Mem S _ (bytesD r ((((([] ++ beBytes (u64 c.client) (Int.toNat 1)) ++ beBytes (u64 c.stamp) (Int.toNat 8)) ++ beBytes (u64 c.op) (Int.toNat 1)) ++ beBytes c.letter.data.toList.length 4 ++ c.letter.data.toList) ++ (([c.a, c.b].take (z.1 + 1)).flatMap fun x => beBytes (u64 x) (Int.toNat 8))) :: ρ) w'
    rw [e1]
    exact hw'.less (fun x hx => by rcases List.mem_cons.1 hx with rfl | hx <;> simp [*])
  · skip
    refine ha_ rfl (bY_ rfl Tryz.underlying9 Tryz.underlying39 (by assumption)) rfl rfl ?_
    rintro sb22 _ rfl
    refine ⟨_, fun _ h => h.less (fun _ hx => List.mem_cons_of_mem _ hx), fun _ h => h, ?_⟩
    refine D_ rfl (by kernel_rfl) rfl rfl rfl ?_
    intro w hw
    refine (fb_ (l := (([] ++ beBytes (u64 c.client) (Int.toNat 1)) ++ beBytes (u64 c.stamp) (Int.toNat 8))) (x := u64 c.op) (n := 1) hw (hw.bytes (by repeat (first | assumption | exact List.mem_cons_self | exact hmem _ | apply List.mem_cons_of_mem))) (by (simp only [List.length_append, v_, List.length_nil]; unfold lots; omega)) (cw_ _) rfl).mono ?_; rintro _ _ ⟨r, rfl, hm⟩; refine ⟨_, _, rfl, hm, _, fun _ h => h.less (fun _ hx => List.mem_cons_of_mem _ hx), fun _ h => h, ?_⟩; clear hm hw w
    refine D_ rfl (by kernel_rfl) rfl rfl rfl ?_
    intro w hw
    refine (dQ_ (l := ((([] ++ beBytes (u64 c.client) (Int.toNat 1)) ++ beBytes (u64 c.stamp) (Int.toNat 8)) ++ beBytes (u64 c.op) (Int.toNat 1))) (m := c.letter.data.toList) hw (by repeat (first | assumption | exact List.mem_cons_self | exact hmem _ | apply List.mem_cons_of_mem)) (by repeat (first | assumption | exact List.mem_cons_self | exact hmem _ | apply List.mem_cons_of_mem)) (by simp only [List.length_append, v_, List.length_nil]; unfold lots; omega) (by omega)).mono ?_; rintro _ _ ⟨r, rfl, hm⟩; refine ⟨_, _, rfl, hm, _, fun _ h => h.less (fun _ hx => List.mem_cons_of_mem _ hx), fun _ h => h, ?_⟩; clear hm hw w
    refine bo_ rfl (n_ rfl) rfl rfl ?_
    refine F_ (b_ ?_)
    refine c_ ?_
    refine c_ (a_ ?_)
    refine i_ (E_ tabOk rfl rfl rfl rfl rfl) rfl rfl ?_
    refine i_ (g_ tabOk rfl rfl (by repeat (first | assumption | exact List.mem_cons_self | exact hmem _ | apply List.mem_cons_of_mem)) (by rfl)) rfl rfl ?_
    refine i_ (E_ tabOk rfl rfl rfl rfl rfl) rfl rfl ?_
    refine i_ (g_ tabOk rfl rfl (by repeat (first | assumption | exact List.mem_cons_self | exact hmem _ | apply List.mem_cons_of_mem)) (by rfl)) rfl rfl ?_
    refine i_ (bC_ tabOk rfl rfl rfl rfl) rfl rfl ?_
    refine i_ (s_ rfl) rfl rfl ?_
    refine d_ (b_ ?_)
    refine u_ ?_
    refine P_ (ι := Nat × Value) (fun z => [(1, .pointer (some ⟨b1, 0, none⟩)), (3, z.2), (28, .agg [.int .i64 c.a, .int .i64 c.b].toArray), (29, .int .i64 (z.1 : Nat))]) (fun z w' => z.1 ≤ 2 ∧ Mem S (.blk b1 (row 26 c.cells) :: σ) (bytesD z.2 ((((([] ++ beBytes (u64 c.client) (Int.toNat 1)) ++ beBytes (u64 c.stamp) (Int.toNat 8)) ++ beBytes (u64 c.op) (Int.toNat 1)) ++ beBytes c.letter.data.toList.length 4 ++ c.letter.data.toList) ++ (([c.a, c.b].take z.1).flatMap fun x => beBytes (u64 x) (Int.toNat 8))) :: ρ) w') (fun z => 2 - z.1) (0, _) (by exact ⟨rfl, rfl, rfl, rfl, trivial⟩) (fun w' hw' => ⟨by omega, hw'.less (by intro x hx; simp only [List.take_zero, List.flatMap_nil, List.append_nil] at hx; rcases List.mem_cons.1 hx with rfl | hx <;> simp [*])⟩) ?_
    intro z
    refine cu_ ?_
    intro hz
    have hlen : ((((([] ++ beBytes (u64 c.client) (Int.toNat 1)) ++ beBytes (u64 c.stamp) (Int.toNat 8)) ++ beBytes (u64 c.op) (Int.toNat 1)) ++ beBytes c.letter.data.toList.length 4 ++ c.letter.data.toList) ++ (([c.a, c.b].take z.1).flatMap fun x => beBytes (u64 x) (Int.toNat 8))).length ≤ 10 + (4 + c.letter.data.toList.length) + 16 := by
      simp only [List.length_append, v_, List.length_nil]
      have : ((([c.a, c.b].take z.1).flatMap fun x => beBytes (u64 x) (Int.toNat 8))).length ≤ 16 := by
        rcases (by omega : z.1 = 0 ∨ z.1 = 1 ∨ z.1 = 2) with h | h | h <;> rw [h] <;> simp [v_]
      omega
    refine c_ (a_ ?_)
    refine i_ (a9_ rfl rfl) rfl rfl ?_
    refine d_ (b_ ?_)
    refine c_ ?_
    refine l_ rfl ?_ ?_
    rotate_left
    · intro hc30
      have e2 : ((((([] ++ beBytes (u64 c.client) (Int.toNat 1)) ++ beBytes (u64 c.stamp) (Int.toNat 8)) ++ beBytes (u64 c.op) (Int.toNat 1)) ++ beBytes c.letter.data.toList.length 4 ++ c.letter.data.toList) ++ (([c.a, c.b].take z.1).flatMap fun x => beBytes (u64 x) (Int.toNat 8))) = (((([] ++ beBytes (u64 c.client) (Int.toNat 1)) ++ beBytes (u64 c.stamp) (Int.toNat 8)) ++ beBytes (u64 c.op) (Int.toNat 1)) ++ beBytes c.letter.data.toList.length 4 ++ c.letter.data.toList) ++ (beBytes (u64 c.a) (Int.toNat 8) ++ beBytes (u64 c.b) (Int.toNat 8)) := by
        have h : z.1 = 2 := by omega
        rw [h]
        simp
      rw [e2] at *
      refine N_ ?_
      refine j_ (by intro h; cases h) ?_
      refine j_ (by intro h; cases h) ?_
      refine M_ ?_
      refine b_ ?_
      refine c_ (a_ ?_)
      refine i_ (s_ rfl) rfl rfl ?_
      refine i_ (E_ tabOk rfl rfl rfl rfl rfl) rfl rfl ?_
      refine i_ (g_ tabOk rfl rfl (by repeat (first | assumption | exact List.mem_cons_self | exact hmem _ | apply List.mem_cons_of_mem)) (by rfl)) rfl rfl ?_
      refine by_ (bY_ rfl Tryz.underlying9 Tryz.underlying39 (by assumption)) rfl rfl ?_
      rintro sb40 _ rfl
      refine Y_ (by kernel_rfl) rfl rfl rfl ?_
      intro w hw
      refine (dQ_ (l := ((((([] ++ beBytes (u64 c.client) (Int.toNat 1)) ++ beBytes (u64 c.stamp) (Int.toNat 8)) ++ beBytes (u64 c.op) (Int.toNat 1)) ++ beBytes c.letter.data.toList.length 4 ++ c.letter.data.toList) ++ (beBytes (u64 c.a) (Int.toNat 8) ++ beBytes (u64 c.b) (Int.toNat 8)))) (m := c.text.data.toList) hw (by repeat (first | assumption | exact List.mem_cons_self | exact hmem _ | apply List.mem_cons_of_mem)) (by repeat (first | assumption | exact List.mem_cons_self | exact hmem _ | apply List.mem_cons_of_mem)) (by simp only [List.length_append, v_, List.length_nil]; unfold lots; omega) (by omega)).mono ?_; rintro _ _ ⟨r, rfl, hm⟩; refine ⟨_, _, rfl, hm, ?_⟩; clear hm hw w
      refine i_ (n_ rfl) rfl rfl ?_
      refine d_ (b_ ?_)
      refine k_ ?_
      refine Z_ rfl rfl ?_
      intro w' hw'
      refine ⟨_, rfl, (hw'.sub (fun _ h => h) (List.sublist_cons_self _ _)).less (fun x hx => ?_)⟩
      rcases List.mem_cons.1 hx with rfl | hx
      · have e3 : c.bytes = (((([] ++ beBytes (u64 c.client) (Int.toNat 1)) ++ beBytes (u64 c.stamp) (Int.toNat 8)) ++ beBytes (u64 c.op) (Int.toNat 1)) ++ beBytes c.letter.data.toList.length 4 ++ c.letter.data.toList) ++ (beBytes (u64 c.a) (Int.toNat 8) ++ beBytes (u64 c.b) (Int.toNat 8)) ++ beBytes c.text.data.toList.length 4 ++ c.text.data.toList := by simp [Core.bytes, rowB]
        rw [e3]; simp
      · simp [*]
    intro hc30
    have hlt : z.1 < [c.a, c.b].length := by show z.1 < 2; omega
    have helt : [Value.int .i64 c.a, Value.int .i64 c.b][z.1]? = some (.int .i64 ([c.a, c.b][z.1]'hlt)) := by
      rcases (by omega : z.1 = 0 ∨ z.1 = 1) with h | h <;> simp only [h] <;> rfl
    refine o_ ?_
    refine b_ ?_
    refine c_ ?_
    refine u_ ?_
    refine c_ (a_ ?_)
    refine i_ (ed_ (L := [.int .i64 c.a, .int .i64 c.b]) (v := .int .i64 ([c.a, c.b][z.1]'hlt)) (q := z.1) tabOk rfl rfl rfl rfl rfl rfl hlt helt) rfl rfl ?_
    refine i_ (n_ rfl) rfl rfl ?_
    refine d_ (b_ ?_)
    refine a_ ?_
    iterate 2 refine i_ (s_ rfl) rfl rfl ?_
    refine i_ (aY_ rfl Tryz.underlying27 (by kernel_rfl)) rfl rfl ?_
    refine Y_ (by kernel_rfl) rfl rfl rfl ?_
    intro w hw
    refine (fb_ (l := ((((([] ++ beBytes (u64 c.client) (Int.toNat 1)) ++ beBytes (u64 c.stamp) (Int.toNat 8)) ++ beBytes (u64 c.op) (Int.toNat 1)) ++ beBytes c.letter.data.toList.length 4 ++ c.letter.data.toList) ++ (([c.a, c.b].take z.1).flatMap fun x => beBytes (u64 x) (Int.toNat 8)))) (x := u64 ([c.a, c.b][z.1]'hlt)) (n := 8) hw (hw.bytes (by repeat (first | assumption | exact List.mem_cons_self | exact hmem _ | apply List.mem_cons_of_mem))) (by unfold lots; omega) (cw_ _) rfl).mono ?_; rintro _ _ ⟨r, rfl, hm⟩; refine ⟨_, _, rfl, hm, ?_⟩; clear hm hw w
    refine i_ (n_ rfl) rfl rfl ?_
    refine d_ ?_
    refine w_ ?_
    refine b_ ?_
    refine a_ ?_
    refine i_ (y_ rfl rfl (by simp only [InR, lo, hi]; omega)) rfl rfl ?_
    refine i_ (s_ rfl) rfl rfl ?_
    refine d_ ?_
    refine I_ (z.1 + 1, r) (by show 2 - (z.1 + 1) < 2 - z.1; omega) (by exact ⟨rfl, rfl, rfl, rfl, trivial⟩) (fun w' hw' => ⟨by show z.1 + 1 ≤ 2; omega, ?_⟩)
    have e1 : ((((([] ++ beBytes (u64 c.client) (Int.toNat 1)) ++ beBytes (u64 c.stamp) (Int.toNat 8)) ++ beBytes (u64 c.op) (Int.toNat 1)) ++ beBytes c.letter.data.toList.length 4 ++ c.letter.data.toList) ++ (([c.a, c.b].take (z.1 + 1)).flatMap fun x => beBytes (u64 x) (Int.toNat 8))) = ((((([] ++ beBytes (u64 c.client) (Int.toNat 1)) ++ beBytes (u64 c.stamp) (Int.toNat 8)) ++ beBytes (u64 c.op) (Int.toNat 1)) ++ beBytes c.letter.data.toList.length 4 ++ c.letter.data.toList) ++ (([c.a, c.b].take z.1).flatMap fun x => beBytes (u64 x) (Int.toNat 8))) ++ beBytes (u64 ([c.a, c.b][z.1]'hlt)) (Int.toNat 8) := by
      rw [List.take_succ_eq_append_getElem hlt, List.flatMap_append, ← List.append_assoc]
      simp
    show Mem S _ (bytesD r ((((([] ++ beBytes (u64 c.client) (Int.toNat 1)) ++ beBytes (u64 c.stamp) (Int.toNat 8)) ++ beBytes (u64 c.op) (Int.toNat 1)) ++ beBytes c.letter.data.toList.length 4 ++ c.letter.data.toList) ++ (([c.a, c.b].take (z.1 + 1)).flatMap fun x => beBytes (u64 x) (Int.toNat 8))) :: ρ) w'
    rw [e1]
    exact hw'.less (fun x hx => by rcases List.mem_cons.1 hx with rfl | hx <;> simp [*])
end
end Go.Proofs.YtjclgkddfjbdiaaGreatDoor
namespace Go.Proofs.YtjclgkddfjbdiaaGreatDoor.A
open Go.RowKit
abbrev coreA (c : Core) : Abs := .agg (c.cells.map .v)
section
variable {c : Core} {n : Int}
theorem kQ_ {K : List Nat} {w w' : World} {ρ : List Dt} (h : Proofs.YtjclgkddfjbdiaaGreatDoor.Mem [(w, K)] [old2 w K] ρ w') : ∀ k, k < w.heap.size → k ∈ K → k ∈ [old2 w K].flatMap Proofs.YtjclgkddfjbdiaaGreatDoor.It.ids := fun k hk hm => by
  simp only [List.flatMap_cons, List.flatMap_nil, List.append_nil]
  exact bc_.2 ⟨hk, hm⟩
theorem core_val {K : List Nat} {w : World} {vals : List Value} (hv : reps K w [coreA c] vals) : vals = [.agg c.cells.toArray] := by
  obtain ⟨v, us', rfl, ⟨us, rfl, h1⟩, h2⟩ := hv
  have h2 : us' = [] := h2
  have h1 := (ai_ (us := c.cells)).1 h1
  rw [h2, h1]
theorem kY_ {K : List Nat} {w : World} {vals : List Value} (hv : reps K w [coreA c, int n] vals) : vals = [.agg c.cells.toArray, .int .i64 n] := by
  obtain ⟨v, us', rfl, ⟨us, rfl, h1⟩, h2⟩ := hv
  have h1 := (ai_ (us := c.cells)).1 h1
  have h2 := (ai_ (us := [.int .i64 n])).1 h2
  rw [h2, h1]
theorem dB_ (h1 : c.letter.size ≤ 1000000) (h2 : c.text.size ≤ 1000000) : Pure Tryz.prog 95 [coreA c] (byt c.bytes) := Pure.of2 fun K w vals hK hv => by
  rw [core_val hv]
  exact (e0_ (enter2 w K) h1 h2).mono fun e w' ⟨r, he, hm⟩ => ⟨r, he, leave2 hm (by simp), aP_.2 (row3 hK (kQ_ hm) (hm.data (z := bytesD r _) (by simp)))⟩
theorem iI_ : Pure Tryz.prog 82 [coreA c, int n] (int (c.check n)) := Pure.of2 fun K w vals hK hv => by
  rw [kY_ hv]
  exact (check_c (enter2 w K)).mono fun e w' ⟨he, hm⟩ => ⟨_, he, leave2 hm (by simp), rfl⟩
end
structure Pnt where
  seq : Int
  dig : List UInt8
  len : dig.length = 32
def Pnt.abs (p : Pnt) : List Abs := int p.seq :: digA p.dig
theorem Pnt.size (p : Pnt) : p.abs.length = 33 := by simp [Pnt.abs, digA, p.len]
theorem Pnt.ones (p : Pnt) : ones p.abs = true := by
  rw [bN_]; intro a ha
  rcases List.mem_cons.1 ha with rfl | ha
  · rfl
  · obtain ⟨b, _, rfl⟩ := List.mem_map.1 ha; rfl
abbrev pntsA (ps : List Pnt) : Abs := .sl 33 (ps.map Pnt.abs)
def Pnt.cells (p : Pnt) : List Value := .int .i64 p.seq :: p.dig.map bc
theorem Pnt.abs_cells (p : Pnt) : p.abs = p.cells.map .v := by simp [Pnt.abs, Pnt.cells, digA, Function.comp_def]
theorem Pnt.same {p q : Pnt} (h1 : p.seq = q.seq) (h2 : p.dig = q.dig) : p = q := by
  obtain ⟨a, b, c⟩ := p
  obtain ⟨d, e, f⟩ := q
  dsimp only at h1 h2
  subst h1 h2
  rfl
instance : DecidableEq Pnt := fun p q => decidable_of_iff (p.seq = q.seq ∧ p.dig = q.dig) ⟨fun h => Pnt.same h.1 h.2, fun h => h ▸ ⟨rfl, rfl⟩⟩
theorem ip_ {m : Nat} (p : Pnt) (h : InR .i64 p.seq) : Tryz.prog.keyLits (m + 3) 203 (.int .i64 p.seq :: p.dig.map bc) = some (.int .i64 p.seq :: p.dig.map litB) := by
  have h1 : (Lit.int .i64 p.seq).wf = true := by
    simp only [InR, lo, hi] at h
    simp only [Lit.wf, Bool.and_eq_true, decide_eq_true_eq]
    exact ⟨by show (-9223372036854775808 : Int) ≤ _; omega, by show _ ≤ (9223372036854775807 : Int); omega⟩
  have c1 : Tryz.prog.cellsOf 203 = 33 := by kernel_rfl
  have c2 : Tryz.prog.cellsOf 121 = 32 := by kernel_rfl
  have c3 : Tryz.prog.cellsOf 2 = 1 := by kernel_rfl
  have h2 := dS_ (m := m) Tryz.underlying121 c2 p.dig p.len
  have h3 : Tryz.prog.keyLits (m + 2) 2 [.int .i64 p.seq] = some [.int .i64 p.seq] := by
    simp [Program.keyLits, Tryz.underlying2, h1]
  have hl : (p.dig.map bc).length = 32 := by simp [p.len]
  have h5 : (p.dig.map bc).take 32 = p.dig.map bc := List.take_of_length_le (by omega)
  unfold Program.keyLits
  rw [Tryz.underlying203]
  simp [c1, c2, c3, h2, h3, h5, p.len]
theorem fo_ (p : Pnt) : (Value.agg (.int .i64 p.seq :: p.dig.map bc).toArray).formed Tryz.prog 203 = true := by
  have c1 : Tryz.prog.cellsOf 203 = 33 := by kernel_rfl
  simp [Value.formed, Tryz.underlying203, c1, p.len]
theorem eqP {p q : Pnt} (hp : InR .i64 p.seq) (hq : InR .i64 q.seq) (w : World) : (binOp .eql 203 (.agg (Value.int .i64 p.seq :: p.dig.map bc).toArray) (.agg (Value.int .i64 q.seq :: q.dig.map bc).toArray)).run Tryz.prog w = .ok (.bool (decide (p = q))) w :=
  d7_ (m := 10) (by decide) (by kernel_rfl) (fo_ p) (fo_ q) (ip_ (m := 0) p hp) (ip_ (m := 0) q hq) _ (by
    rw [decide_eq_true_eq]
    constructor
    · intro h
      rw [h]
    · intro h2
      simp only [List.cons.injEq, Lit.int.injEq, true_and] at h2
      exact Pnt.same h2.1 (iw_ h2.2)) w
theorem bp_ (d : List UInt8) : plains (digA d) = some (d.map bc) := by
  induction d with
  | nil => rfl
  | cons b d ih =>
    show (match plains (digA d) with | some us => some (bc b :: us) | none => none) = _
    rw [ih]; rfl
theorem fn_ (p : Pnt) : plains p.abs = some (.int .i64 p.seq :: p.dig.map bc) := by
  show (match plains (digA p.dig) with | some us => some (Value.int .i64 p.seq :: us) | none => none) = _
  rw [bp_]
abbrev Pai := Int × Int
def paU (p : Pai) : List Value := [.int .i64 p.1, .int .i64 p.2]
def paV (p : Pai) : Value := .agg (paU p).toArray
def paOk (p : Pai) : Prop := intOk p.1 ∧ intOk p.2
theorem pa_is (p : Pai) : (Abs.agg [int p.1, int p.2]).is (paV p) := is_agg (us := paU p)
theorem pa_lit (p : Pai) (h : paOk p) : ∃ l, keyOf Tryz.prog 323 (paV p) = some l := by
  have h1 := ix_ h.1
  have h2 := ix_ h.2
  have c1 : Tryz.prog.cellsOf 323 = 2 := by kernel_rfl
  have c3 : Tryz.prog.cellsOf 3 = 1 := by kernel_rfl
  have h4 : ∀ (m : Nat) (x : Int), (Lit.int .i64 x).wf = true → Tryz.prog.keyLits (m + 2) 3 [.int .i64 x] = some [.int .i64 x] := fun m x hx => by
    simp [Program.keyLits, Tryz.underlying3, hx]
  have hk : Tryz.prog.keyType 323 = true := by kernel_rfl
  have hf : (paV p).formed Tryz.prog 323 = true := by
    simp [Value.formed, paV, paU, Tryz.underlying323, c1]
  obtain ⟨k, hd⟩ : ∃ k, Tryz.prog.types.size + 1 = k + 3 := ⟨_, (rfl : Tryz.prog.types.size + 1 = (Tryz.prog.types.size - 2) + 3)⟩
  have hl : Tryz.prog.keyLits (k + 3) 323 (paU p) = some [.int .i64 p.1, .int .i64 p.2] := by
    unfold Program.keyLits paU
    rw [Tryz.underlying323]
    simp [c1, c3, h4 _ _ h1, h4 _ _ h2]
  unfold keyOf
  simp only [Tryz.underlying323, hk, hf, Bool.and_self, if_true, hd]
  rw [show (paV p).cells.toList = paU p from rfl, hl]
  exact ⟨_, rfl⟩
theorem iq_ : KeyFit Tryz.prog 323 paV paOk where
  keyed := Maps.Keyed.of_law (deep_law_laid laid (m := 4) (by decide) (of_decide_eq_true (by kernel_rfl)) (by kernel_rfl) (by kernel_rfl))
  lit a h := pa_lit a h
  inj a b _ _ h := by
    unfold paV paU at h
    injection h with h
    have h := congrArg Array.toList h
    simp only [List.cons.injEq, Value.int.injEq, true_and, and_true] at h
    exact Prod.ext h.1 h.2
def voE : List (List Abs) → Abs
  | [] => .v (.slice none 0 0)
  | x :: l => .sl 35 (x :: l)
theorem voE_sl {l : List (List Abs)} (h : 0 < l.length) : voE l = .sl 35 l := by
  match l, h with
  | x :: l, _ => rfl
theorem hf_ (w : World) : (zeroValue 257).run Tryz.prog w = .ok (.slice none 0 0) w := by kernel_rfl
theorem he_ (K : List Nat) (w : World) : rep K w (voE []) (.slice none 0 0) := rfl
def voL (st : Int) (t : Tg) (m : Wo) : List Abs := [int 4, int st] ++ t.abs ++ [u32 m]
theorem bf_ (st : Int) (t : Tg) (m : Wo) : (voL st t m).length = 35 := by simp [voL, Tg.size]
theorem cg_ (st : Int) (t : Tg) (m : Wo) : ones (voL st t m) = true := by
  rw [bN_]
  intro x hx
  simp only [voL, List.mem_append, List.mem_cons, List.not_mem_nil, or_false] at hx
  rcases hx with ((rfl | rfl) | hx) | rfl
  · rfl
  · rfl
  · obtain ⟨b, _, rfl⟩ := List.mem_map.1 hx
    rfl
  · rfl
theorem jZ_ (st : Int) (t : Tg) (m : Wo) : part (voL st t m) 2 32 = t.abs := by
  show (t.abs ++ [u32 m]).take 32 = t.abs
  rw [List.take_append_of_le_length (by rw [Tg.size]; exact Nat.le_refl _), List.take_of_length_le (by rw [Tg.size]; exact Nat.le_refl _)]
theorem hp_ (st : Int) (t : Tg) (m : Wo) : (voL st t m)[34]? = some (u32 m) := by
  show (t.abs ++ [u32 m])[32]? = _
  rw [List.getElem?_append_right (by rw [Tg.size]; exact Nat.le_refl _), Tg.size]
  rfl
section
variable {v m : Nat} {who st st' self_ : Int} {t t' : Tg} {mk : Wo}
abbrev vm1 (self_ st : Int) (t : Tg) (mk : Wo) : List (Pai × List (List Abs)) := [((self_, 4), [voL st t mk])]
theorem j0_ : (aget (vm1 self_ st t mk) (who, 4)).getD [] = if who = self_ then [voL st t mk] else [] := by
  by_cases h : who = self_
  · subst h
    simp [aget]
  · have h2 : ¬ ((self_, (4 : Int)) = (who, 4)) := fun h3 => h (congrArg Prod.fst h3).symm
    simp [aget, h, h2]
theorem lo_ {n : Nat} {W : Wd} {σ : Blks} {l : List (Nat × Abs)} {X : List Nat} {x : Operand} {e : TypeId} {tt : TypeId} {d ty pos aft g} {L : List (List Abs)} (hx : look l x = some (voE L)) (ht : Tryz.prog.underlying tt = some (.slice e)) : Val Tryz.prog n W σ l X ⟨d, .call { callee := .builtin .len, args := #[x], argTypes := #[tt] }, ty, pos, aft, g⟩ (.v (.int .i64 (L.length : Nat))) := by
  match L with
  | [] => exact ae_ hx ht
  | y :: L => exact H_ hx ht rfl
theorem vonew_s  : Spec Tryz.prog 42 [int 4] [] (fun z : Nat × Nat => [.blk z.1 160 [int 4, mapV z.2], .pc (tmPc z.2 paV paOk voE [])]) (fun z => ptr z.1) := by
 refine t_ Tryz.func42 rfl Tryz.ntmps42 rfl fun G w =>c_<|a_<|q_ 1 rfl<|d_<|b_<|c_<|c_<|a_<|q_ 3 rfl<|A_ (t := 5) rfl (by intro hc5; exfalso; omega) ?_
 intro hc5
 refine q_ 3 rfl<|d_<|b_<|l_ rfl (by intro hc8; exfalso; omega) ?_
 intro hc8
 refine o_<|b_<|c_<|a_<|q_ 1 rfl<|eb_ (ak_ paV paOk voE (fun ac w => by simp [execOp, Instr.makeMap, newObj, Sem.run, Sem.run_bind, Result.andThen])) rfl rfl fun m10=>?_
 refine slvA (h_ (C := .agg [int 4, mapV m10]) (z_ tabOk rfl rfl rfl rfl) rfl)<|eb_ (B_ (cs := [int 4, mapV m10]) rfl) rfl rfl fun b12=>?_
 exact q_ 1 rfl<|d_<|b_<|k_<|f_ (rs := [.tmp 2]) rfl (RV.tmp rfl RV.nil) ((b12, m10)) sr_<|rfl
theorem bs0_s {k : Nat} : Spec Tryz.prog 341 [.v (.slice none 0 0), int st, .fn (.func k) [] []] [] (fun _ : Unit => []) (fun _ => .tup [int 0, boo false]) := by
 refine t_ Tryz.func341 rfl Tryz.ntmps341 rfl fun G w =>c_<|a_<|q_ 2 rfl<|d_<|b_<|c_<|a_<|q_ 1 rfl<|slvA (ae_ (m := 0) rfl Tryz.underlying257)<|q_ 1 rfl<|d_<|b_<|c_<|a_<|q_ 3 rfl<|d_<|b_<|c_<|u_<|P_ (ι := Unit) (fun z => []) (fun z => [(8, int (0 : Nat)), (9, int 0), (10, int (0 : Nat))]) (fun z => True) (fun z => 0) (()) (trivial) (by exact ⟨rfl, rfl, rfl, trivial⟩) sn_ ?_
 intro z hz
 refine c_<|c_<|a_<|q_ 3 rfl<|d_<|b_<|l_ rfl (by intro hc17; exfalso; omega) ?_
 intro hc17
 refine N_<|j_ nofun<|j_ nofun<|M_<|b_<|c_<|a_<|q_ 5 rfl<|A_ (t := 39) rfl (by intro hc39; exfalso; omega) ?_
 intro hc39
 exact q_ 11 rfl<|d_<|b_<|k_<|f_ (rs := [.tmp 6, .tmp 7]) rfl (RV.tmp rfl (RV.tmp rfl RV.nil)) (()) sn_<|rfl
theorem ins0_s {u : Value} {y : List Abs} (hy : ones y = true) : Spec Tryz.prog 343 [.v (.slice none 0 0), int 0, .v u] [own 198 35 u [y]] (fun r : Value => [own 198 35 r [y]]) (fun r => .v r) := by
 refine t_ Tryz.func343 rfl Tryz.ntmps343 rfl fun G w =>c_<|a_<|q_ 1 rfl<|d_<|b_<|c_<|aF_ 198 35<|a_<|q_ 2 rfl<|slvA (bg_ (s := 35) (q := 0) tabOk Tryz.underlying257 rfl rfl rfl i0_ rfl (by omega) (by exact Nat.le_refl _)) ?_
 refine d_<|b_<|c_<|a_<|q_ 1 rfl<|slvA (aJ_ (m := 1) rfl i1_ Tryz.underlying257 rfl)<|q_ 1 rfl<|d_<|b_<|c_<|c_<|a_<|q_ 2 rfl<|d_<|b_<|l_ rfl (by intro hc16; exfalso; omega) ?_
 intro hc16
 refine o_<|b_<|c_<|a_<|q_ 1 rfl<|slvA (ae_ (m := 0) rfl Tryz.underlying257)<|q_ 1 rfl<|d_<|b_<|c_<|c_<|a_<|q_ 3 rfl<|d_<|b_<|l_ rfl ?_ (by intro hc22; exfalso; omega)
 intro hc22
 refine c_<|aC_ [own 198 35 (.slice none 0 0) []] (t := 2) rfl rfl<|a_<|q_ 2 rfl<|eb_ (bD_ tabOk [] Tryz.underlying257 rfl rfl rfl rfl rfl rfl (by intro c hc; rw [List.mem_singleton] at hc; subst hc; exact hy) (by unfold maxLen; simp) (by rw [show Tryz.prog.bytesOf 198 = 56 by kernel_rfl]; simp)) rfl rfl fun r25=>?_
 exact q_ 1 rfl<|d_<|b_<|k_<|j_ nofun<|f_ (rs := [.tmp 6]) rfl (RV.tmp rfl RV.nil) (r25) sr_<|rfl
theorem clv_s {xs : List (List Abs)} (h1 : ∀ c ∈ xs, ones c = true) (hn : xs.length ≤ 1000000) : Spec Tryz.prog 199 [.sl 35 xs] [] (fun _ : Unit => []) (fun _ => .sl 35 xs) := by
 refine t_ Tryz.func199 rfl Tryz.ntmps199 rfl fun G w =>c_<|a_<|q_ 1 rfl<|d_<|b_<|c_<|c_<|a_<|q_ 1 rfl<|bW_ Tryz.underlying257 rfl rfl rfl<|fun b hb=>d_<|b_<|ar_ rfl ?_ ?_
 ·intro hc4
  have hnil : xs = [] := hb hc4
  subst hnil
  refine c_<|a_<|q_ 1 rfl<|d_<|b_<|k_<|j_ nofun<|cL_ (rs := [.tmp 2]) rfl (RV.tmp rfl RV.nil) (Casts.nils (s := 35) Casts.refl) () sn_ (by simp [It.rids]) rfl
 intro hc4
 refine o_<|b_<|c_<|a_<|eb_ (aA_ tabOk Tryz.underlying257 rfl rfl rfl rfl rfl rfl rfl) rfl rfl fun r5=>?_
 refine q_ 1 rfl<|eb_ (K_ (zs := xs) tabOk [] rfl Tryz.underlying257 rfl rfl rfl rfl rfl rfl h1 (by unfold maxLen; simp only [List.length_nil]; omega) (by rw [show Tryz.prog.bytesOf 198 = 56 by kernel_rfl]; simp only [List.length_nil]; omega)) rfl rfl fun r7=>?_
 exact q_ 1 rfl<|d_<|b_<|k_<|aT_ [] (t := 2) rfl rfl<|f_ (rs := [.tmp 2]) rfl (RV.tmp rfl RV.nil) (()) sn_<|rfl
theorem voadd_s (h0 : 0 ≤ self_) (h1 : self_ < 4) : Spec Tryz.prog 273 [ptr v, int self_, .agg (voL st t mk)] [.blk v 160 [int 4, mapV m], .pc (tmPc m paV paOk voE [])] (fun _ : Unit => [.blk v 160 [int 4, mapV m], .pc (tmPc m paV paOk voE (vm1 self_ st t mk))]) (fun _ => boo true) := by
 refine t_ Tryz.func273 rfl Tryz.ntmps273 rfl fun G w =>c_<|a_<|eb_ (B_ (cs := (voL st t mk)) rfl) rfl rfl fun b5=>?_
 refine q_ 1 rfl<|d_<|b_<|c_<|c_<|Q_ [] (.q 0 (.q 1 (.q 2 (.q 3 (.q 4 (.q 5 (.q 6 (.q 7 (.q 8 (.q 9 (.q 10 (.q 11 (.q 12 (.q 13 (.q 14 (.q 15 (.q 16 (.q 17 (.q 18 (.q 19 (.q 20 (.q 21 (.q 22 (.q 23 (.q 24 (.q 25 (.q 26 (.q 27 (.q 28 (.q 29 (.q 30 (.q 31 (.q 32 .nil))))))))))))))))))))))))))))))))) (by kernel_rfl) (by kernel_rfl) ?_
 refine qs_ 1 rfl<|sxvA rfl (aD_ rfl rfl (by kernel_rfl)) (by simp) ?_
 refine qs_ 5 rfl<|aK_ (t := 18) rfl (by intro hc18; exfalso; omega) ?_
 intro hc18
 refine qs_ 4 rfl<|hx_ fun hx9 =>sxvA rfl (h_ (C := int 4) (g_ tabOk rfl rfl l1_ List.not_mem_nil rfl) rfl) hx9<|qs_ 3 rfl<|aK_ (t := 26) rfl (by intro hc26; exfalso; omega) ?_
 intro hc26
 refine qs_ 1 rfl<|sxvA rfl (h_ (C := int 4) (g_ tabOk rfl rfl l0_ List.not_mem_nil rfl) rfl) hx9<|qs_ 3 rfl<|sxvA rfl (h_ (C := int 4) (g_ tabOk rfl rfl l1_ List.not_mem_nil rfl) rfl) hx9<|qs_ 3 rfl<|aK_ (t := 35) rfl (by intro hc35; exfalso; omega) ?_
 intro hc35
 refine qs_ 1 rfl<|sxvA rfl (h_ (C := int 4) (g_ tabOk rfl rfl l0_ List.not_mem_nil rfl) rfl) hx9<|qs_ 3 rfl<|sxvA rfl (h_ (C := int 4) (g_ tabOk rfl rfl l1_ List.not_mem_nil rfl) rfl) hx9<|sxvA rfl (y_ rfl rfl (by simp only [InR, lo, hi]; omega)) (by simp) ?_
 refine qs_ 2 rfl<|F_<|b_<|l_ rfl (by intro hc44; exfalso; omega) ?_
 intro hc44
 refine o_<|b_<|c_<|a_<|q_ 2 rfl<|slvA (h_ (C := int 4) (g_ tabOk rfl rfl l0_ List.not_mem_nil rfl) rfl)<|slvA (h_ (C := .agg [int self_, int 4]) (z_ tabOk rfl rfl rfl rfl) rfl)<|eb_ (C_ tabOk rfl) rfl rfl fun b7=>?_
 refine e_ (m_ (L' := [int self_, int 4]) tabOk rfl rfl rfl u0_ rfl (Nat.le_of_ble_eq_true rfl) rfl (by exact p_ rfl)) rfl rfl ?_
 refine d_<|b_<|c_<|Q_ [] (.q 0 (.q 1 (.q 2 (.q 3 (.q 4 (.q 5 (.q 6 .nil))))))) (by kernel_rfl) (by kernel_rfl) ?_
 refine qs_ 3 rfl<|hx_ fun hx9 =>sxvA rfl (h_ (C := mapV m) (g_ tabOk rfl rfl l2_ List.not_mem_nil rfl) rfl) hx9<|sxvA rfl (h_ (C := .agg [int self_, int 4]) (ad_ tabOk rfl rfl rfl l0_ List.not_mem_nil (Nat.le_of_ble_eq_true rfl)) rfl) hx9<|sxvA rfl (h_ (C := .v (.slice none 0 0)) (aX_ (a := ((self_, 4) : Pai)) (m := []) (enc := voE) (z0 := []) (zv := .slice none 0 0) iq_ Tryz.underlying158 hf_ he_ rfl l3_ List.not_mem_nil rfl (pa_is (self_, 4)) ⟨by unfold intOk; simp only [InR, lo, hi]; omega, by unfold intOk; simp only [InR, lo, hi]; omega⟩) rfl) hx9 ?_
 refine qs_ 1 rfl<|F_<|b_<|c_<|a_<|q_ 2 rfl<|slvA (h_ (C := int st) (g_ tabOk rfl rfl l1_ List.not_mem_nil rfl) rfl)<|slcA (bs0_s (st := st)) ?_
 refine ap_<|fun _=>q_ 5 rfl<|d_<|b_<|c_<|a_<|q_ 1 rfl<|slvA (ae_ (m := 0) rfl Tryz.underlying257)<|q_ 2 rfl<|d_<|b_<|c_<|u_<|c_<|Q_ [] (.q 0 (.q 1 (.q 2 (.q 3 (.q 4 (.q 5 (.q 6 (.q 7 (.q 8 (.q 9 (.q 10 (.q 11 (.q 12 (.q 13 (.q 14 (.q 15 (.q 16 (.q 17 (.q 18 (.q 19 (.q 20 (.q 21 (.q 22 (.q 23 (.q 24 (.q 25 (.q 26 (.q 27 .nil)))))))))))))))))))))))))))) (by kernel_rfl) (by kernel_rfl) ?_
 refine qs_ 28 rfl<|F_<|b_<|O_ rfl<|c_<|a_<|q_ 2 rfl<|d_<|b_<|O_ rfl<|c_<|a_<|q_ 2 rfl<|A_ (t := 107) rfl (by intro hc107; exfalso; omega) ?_
 intro hc107
 refine q_ 4 rfl<|d_<|b_<|O_ rfl<|o_<|w_<|b_<|c_<|a_<|q_ 2 rfl<|slvA (h_ (C := .agg (voL st t mk)) (r_ tabOk rfl rfl rfl l1_ List.not_mem_nil (bf_ _ _ _)) rfl)<|eb_ (aA_ tabOk Tryz.underlying257 rfl rfl rfl (ah_ (bf_ _ _ _)) rfl rfl rfl) rfl rfl fun r114=>?_
 refine slcA (ins0_s (y := voL st t mk) (cg_ _ _ _)) ?_
 refine W_ [] (β := _) rfl (J_ rfl) ?_
 intro r115
 refine q_ 1 rfl<|d_<|b_<|c_<|c_<|aC_ [] (t := 8) rfl rfl<|a_<|q_ 1 rfl<|d_<|b_<|l_ rfl (by intro hc116; exfalso; omega) ?_
 intro hc116
 refine o_<|b_<|c_<|as_ [] (.q 0 (.q 1 (.q 2 (.q 3 (.q 4 (.q 5 (.e 6 .nil))))))) (by kernel_rfl) (by kernel_rfl) ?_
 refine qs_ 3 rfl<|hx_ fun hx9 =>sxvA rfl (h_ (C := mapV m) (g_ tabOk rfl rfl l2_ List.not_mem_nil rfl) rfl) hx9<|sxvA rfl (h_ (C := .agg [int self_, int 4]) (ad_ tabOk rfl rfl rfl l0_ List.not_mem_nil (Nat.le_of_ble_eq_true rfl)) rfl) hx9<|qs_ 1 rfl<|D_ rfl (clv_s (xs := [(voL st t mk)]) (by intro c hc; rw [List.mem_singleton] at hc; subst hc; exact cg_ _ _ _) (by simp)) (by simp [mids, It.mids]) Casts.refl (by kernel_rfl) rfl rfl rfl ?_
 refine ap_<|fun _=>F_<|aq_ rfl (bh_ (enc := voE) (m := []) (a := ((self_, 4) : Pai)) (v := [(voL st t mk)]) (m' := (vm1 self_ st t mk)) iq_ Tryz.underlying158 rfl u3_ rfl (pa_is (self_, 4)) ⟨by unfold intOk; simp only [InR, lo, hi]; omega, by unfold intOk; simp only [InR, lo, hi]; omega⟩ rfl rfl) rfl rfl ?_
 rintro _ _ ⟨rfl, rfl⟩
 exact b_<|c_<|a_<|q_ 1 rfl<|d_<|b_<|k_<|f_ (rs := [.tmp 6]) rfl (RV.tmp rfl RV.nil) (()) (sk_ (sk_ sr_))<|rfl
theorem zr_len {c : Prop} [Decidable c] {x : List Abs} : (if c then [x] else []).length = (if c then 1 else 0 : Nat) := by split <;> rfl
theorem zr_get {c : Prop} [Decidable c] {x : List Abs} {i : Nat} (h : i < (if c then [x] else []).length) : (if c then [x] else [])[i] = x := by
  by_cases hc : c
  · simp only [hc, if_true, List.length_singleton] at h ⊢
    obtain rfl : i = 0 := by omega
    rfl
  · simp [hc] at h
set_option maxHeartbeats 1000000 in
theorem jX_ (h0 : 0 ≤ self_) (h1 : self_ < 4) : Spec Tryz.prog 332 [ptr v, int 4, int st', .agg t'.abs] [.rd v 160 [int 4, mapV m], .rdpc (tmPc m paV paOk voE (vm1 self_ st t mk))] (fun z : {z : Value × List (List Abs) // z.2.length ≤ 1} => [own 38 1 z.1.1 z.1.2]) (fun z => .v z.1.1) := by
 refine t_ Tryz.func332 rfl Tryz.ntmps332 rfl fun G w =>c_<|a_<|eb_ (B_ (cs := t'.abs) rfl) rfl rfl fun b7=>?_
 refine q_ 1 rfl<|d_<|b_<|c_<|c_<|a_<|q_ 1 rfl<|slvA (aD_ rfl rfl (by kernel_rfl)) ?_
 refine d_<|b_<|O_ rfl<|o_<|b_<|c_<|a_<|q_ 1 rfl<|d_<|b_<|c_<|c_<|a_<|q_ 3 rfl<|slvA (h_ (C := int 4) (g_ tabOk rfl rfl r1_ List.not_mem_nil rfl) rfl)<|q_ 1 rfl<|d_<|b_<|u_<|aF_ 38 1<|P_ (ι := Nat × Value × List (List Abs)) (fun z => [own 38 1 z.2.1 z.2.2, .blk b7 121 t'.abs, .rd v 160 [int 4, mapV m], .rdpc (tmPc m paV paOk voE (vm1 self_ st t mk))]) (fun z => [(0, ptr v), (1, int 4), (2, int st'), (7, ptr b7), (9, .v z.2.1), (18, int 4), (19, int (z.1 : Nat))]) (fun z => z.1 ≤ 4 ∧ z.2.2.length ≤ (if self_ < ((z.1 : Nat) : Int) then 1 else 0 : Nat)) (fun z => 4 - z.1) (0, .slice none 0 0, []) (⟨Nat.zero_le _, Nat.zero_le _⟩) (by exact ⟨rfl, rfl, rfl, rfl, rfl, rfl, rfl, trivial⟩) sr_ ?_
 intro z hz
 refine c_<|a_<|q_ 1 rfl<|d_<|b_<|c_<|l_ rfl ?_ ?_
 rotate_left
 ·intro hc20
  refine N_<|j_ nofun<|j_ nofun<|M_<|b_<|c_<|a_<|q_ 2 rfl<|d_<|b_<|k_<|f_ (rs := [.tmp 8]) rfl (RV.tmp rfl RV.nil) (⟨z.2, by have h8 := hz.2; split at h8 <;> omega⟩) (sc_ sn_) ?_
  exact rfl
 intro hc20
 refine o_<|b_<|c_<|u_<|c_<|a_<|q_ 2 rfl<|d_<|b_<|c_<|a_<|q_ 3 rfl<|slvA (h_ (C := mapV m) (g_ tabOk rfl rfl r2_ List.not_mem_nil rfl) rfl)<|q_ 2 rfl<|slvA (h_ (C := .agg [int ((z.1 : Nat) : Int), int 4]) (z_ tabOk rfl rfl rfl rfl) rfl)<|slvA (h_ (C := voE (if ((z.1 : Nat) : Int) = self_ then [voL st t mk] else [])) (aX_ (a := ((((z.1 : Nat) : Int), 4) : Pai)) (m := (vm1 self_ st t mk)) (enc := voE) (z0 := []) (zv := .slice none 0 0) iq_ Tryz.underlying158 hf_ he_ rfl r3_ List.not_mem_nil rfl (pa_is ((((z.1 : Nat) : Int), 4) : Pai)) ⟨by unfold intOk; simp only [InR, lo, hi]; omega, by unfold intOk; simp only [InR, lo, hi]; omega⟩) (by rw [j0_])) ?_
 refine slvA (lo_ rfl Tryz.underlying257)<|q_ 1 rfl<|d_<|b_<|u_<|P_ (ι := Nat × Value × List (List Abs)) (fun y => [own 38 1 y.2.1 y.2.2, .blk b7 121 t'.abs, .rd v 160 [int 4, mapV m], .rdpc (tmPc m paV paOk voE (vm1 self_ st t mk))]) (fun y => [(0, ptr v), (1, int 4), (2, int st'), (7, ptr b7), (9, .v y.2.1), (18, int 4), (19, int (z.1 : Nat)), (29, voE (if ((z.1 : Nat) : Int) = self_ then [voL st t mk] else [])), (30, int ((if ((z.1 : Nat) : Int) = self_ then [voL st t mk] else []).length : Nat)), (31, int (y.1 : Nat))]) (fun y => y.1 ≤ (if ((z.1 : Nat) : Int) = self_ then [voL st t mk] else []).length ∧ y.2.2.length ≤ (if self_ < ((z.1 : Nat) : Int) then 1 else 0 : Nat) + y.1) (fun y => (if ((z.1 : Nat) : Int) = self_ then [voL st t mk] else []).length - y.1) (0, z.2.1, z.2.2) (⟨Nat.zero_le _, by have := hz.2; omega⟩) (by exact ⟨rfl, rfl, rfl, rfl, rfl, rfl, rfl, rfl, rfl, rfl, trivial⟩) sr_ ?_
 intro y hy
 refine c_<|a_<|q_ 1 rfl<|d_<|b_<|c_<|l_ rfl ?_ ?_
 rotate_left
 ·intro hc32
  refine N_<|j_ nofun<|j_ nofun<|M_<|w_<|b_<|a_<|slvA (y_ rfl rfl (by simp only [InR, lo, hi]; omega)) ?_
  refine q_ 1 rfl<|d_<|I_ (z.1 + 1, y.2.1, y.2.2) (by omega) ((by have h7 := hy.1; have h9 := hy.2; rw [zr_len] at h7; refine ⟨by dsimp only; omega, ?_⟩; dsimp only; split at h7 <;> split at h9 <;> split <;> omega)) (by exact ⟨rfl, rfl, rfl, rfl, rfl, rfl, rfl, trivial⟩) sr_
 intro hc32
 have hlt2 : y.1 < (if ((z.1 : Nat) : Int) = self_ then [voL st t mk] else []).length := by omega
 have hl1 : (if ((z.1 : Nat) : Int) = self_ then [voL st t mk] else []).length ≤ 1 := by rw [zr_len]; split <;> omega
 have hl3 : y.2.2.length ≤ 2 := by have h9 := hy.2; split at h9 <;> omega
 refine o_<|b_<|c_<|u_<|c_<|a_<|slvA (L_ (q := y.1) (xs := (if ((z.1 : Nat) : Int) = self_ then [voL st t mk] else [])) tabOk Tryz.underlying257 rfl (congrArg some (voE_sl (Nat.lt_of_le_of_lt (Nat.zero_le _) hlt2))) rfl rfl (List.getElem?_eq_getElem hlt2) rfl rfl) ?_
 refine slvA (h_ (C := .agg (voL st t mk)) (av_ tabOk rfl rfl rfl (by rw [zr_get hlt2]; exact bf_ _ _ _)) (congrArg Abs.agg (zr_get hlt2))) ?_
 refine eb_ (C_ tabOk rfl) rfl rfl fun b12=>?_
 refine e_ (m_ (L' := voL st t mk) tabOk rfl rfl rfl u0_ (bf_ _ _ _) (Nat.le_of_ble_eq_true rfl) (cg_ _ _ _) (by exact p_ (bf_ _ _ _))) rfl rfl ?_
 refine d_<|b_<|c_<|a_<|q_ 1 rfl<|slvA (h_ (C := int st) (g_ tabOk rfl rfl l0_ List.not_mem_nil rfl) rfl)<|q_ 3 rfl<|A_ (t := 39) rfl ?_ ?_
 rotate_left
 ·intro hc39
  refine q_ 5 rfl<|d_<|b_<|O_ rfl<|o_<|w_<|b_<|a_<|slvA (y_ rfl rfl (by simp only [InR, lo, hi]; omega)) ?_
  refine q_ 1 rfl<|d_<|I_ (y.1 + 1, y.2.1, y.2.2) (by omega) ((⟨by dsimp only; omega, by dsimp only; omega⟩)) (by exact ⟨rfl, rfl, rfl, rfl, rfl, rfl, rfl, rfl, rfl, rfl, trivial⟩) (sk_ sr_)
 intro hc39
 refine q_ 1 rfl<|slvA (h_ (C := .agg t.abs) (ad_ tabOk rfl rfl rfl l0_ List.not_mem_nil (by rw [bf_]; exact Nat.le_of_ble_eq_true rfl)) (congrArg Abs.agg (jZ_ _ _ _))) ?_
 refine slvA (h_ (C := .agg t'.abs) (r_ tabOk rfl rfl rfl l2_ List.not_mem_nil (Tg.size _)) rfl)<|slvA (e7_ rfl rfl (bp_ _) (bp_ _) (by kernel_rfl) (eqlB Tryz.underlying121 (by kernel_rfl) (by kernel_rfl) _ _ t.len t'.len _ rfl)) ?_
 refine q_ 1 rfl<|d_<|b_<|l_ rfl ?_ ?_
 rotate_left
 ·intro hc44
  refine o_<|w_<|b_<|a_<|slvA (y_ rfl rfl (by simp only [InR, lo, hi]; omega)) ?_
  refine q_ 1 rfl<|d_<|I_ (y.1 + 1, y.2.1, y.2.2) (by omega) ((⟨by dsimp only; omega, by dsimp only; omega⟩)) (by exact ⟨rfl, rfl, rfl, rfl, rfl, rfl, rfl, rfl, rfl, rfl, trivial⟩) (sk_ sr_)
 intro hc44
 refine a_<|q_ 2 rfl<|slvA (h_ (C := u32 mk) (g_ tabOk rfl rfl l0_ List.not_mem_nil (hp_ _ _ _)) rfl)<|e_ (G_ tabOk Tryz.underlying466 rfl rfl rfl rfl rfl rfl rfl) rfl rfl<|eb_ (K_ (zs := y.2.2 ++ [[u32 mk]]) tabOk [.blk b12 198 (voL st t mk)] rfl Tryz.underlying466 rfl rfl rfl rfl rfl rfl (by intro c hc; rw [List.mem_singleton] at hc; subst hc; rfl) (by unfold maxLen; simp only [List.length_cons, List.length_nil]; omega) (by rw [show Tryz.prog.bytesOf 38 = 4 by kernel_rfl]; simp only [List.length_cons, List.length_nil]; omega)) rfl rfl fun r49=>?_
 refine q_ 1 rfl<|d_<|w_<|b_<|a_<|slvA (y_ rfl rfl (by simp only [InR, lo, hi]; omega)) ?_
 refine q_ 1 rfl<|d_<|I_ (y.1 + 1, r49, y.2.2 ++ [[u32 mk]]) (by omega) ((⟨by dsimp only; omega, by dsimp only; rw [List.length_append, List.length_singleton]; omega⟩)) (by exact ⟨rfl, rfl, rfl, rfl, rfl, rfl, rfl, rfl, rfl, rfl, trivial⟩) (sk_ sr_)
theorem jY_ (h0 : 0 ≤ self_) (h1 : self_ < 4) : Spec Tryz.prog 331 [ptr v, int 4, int st', .agg t'.abs] [.rd v 160 [int 4, mapV m], .rdpc (tmPc m paV paOk voE (vm1 self_ st t mk))] (fun _ : {k : Nat // k ≤ 1} => []) (fun k => int (k.1 : Nat)) := by
 refine t_ Tryz.func331 rfl Tryz.ntmps331 rfl fun G w =>c_<|a_<|eb_ (B_ (cs := t'.abs) rfl) rfl rfl fun b7=>?_
 refine q_ 1 rfl<|d_<|b_<|c_<|a_<|q_ 3 rfl<|slvA (h_ (C := .agg t'.abs) (r_ tabOk rfl rfl rfl l0_ List.not_mem_nil (Tg.size _)) rfl)<|slcA (jX_ (st := st) (t := t) (mk := mk) (m := m) h0 h1) ?_
 refine aftM ?_
 intro z0
 exact slvA (aJ_ (m := z0.1.2.length) rfl i0_ Tryz.underlying466 rfl)<|q_ 1 rfl<|d_<|b_<|k_<|f_ (rs := [.tmp 8]) rfl (RV.tmp rfl RV.nil) (⟨z0.1.2.length, z0.2⟩) sn_<|rfl
theorem voof_s (h0 : 0 ≤ self_) (h1 : self_ < 4) : Spec Tryz.prog 130 [ptr v, int self_, int 4] [.rd v 160 [int 4, mapV m], .rdpc (tmPc m paV paOk voE (vm1 self_ st t mk))] (fun _ : Unit => []) (fun _ => .sl 35 [voL st t mk]) := by
 refine t_ Tryz.func130 rfl Tryz.ntmps130 rfl fun G w =>c_<|a_<|q_ 1 rfl<|d_<|b_<|c_<|c_<|a_<|q_ 1 rfl<|slvA (aD_ rfl rfl (by kernel_rfl)) ?_
 refine d_<|b_<|O_ rfl<|o_<|b_<|c_<|a_<|q_ 3 rfl<|slvA (h_ (C := mapV m) (g_ tabOk rfl rfl r0_ List.not_mem_nil rfl) rfl)<|q_ 2 rfl<|slvA (h_ (C := .agg [int self_, int 4]) (z_ tabOk rfl rfl rfl rfl) rfl)<|slvA (h_ (C := .sl 35 [voL st t mk]) (aX_ (a := ((self_, 4) : Pai)) (m := (vm1 self_ st t mk)) (enc := voE) (z0 := []) (zv := .slice none 0 0) iq_ Tryz.underlying158 hf_ he_ rfl r1_ List.not_mem_nil rfl (pa_is (self_, 4)) ⟨by unfold intOk; simp only [InR, lo, hi]; omega, by unfold intOk; simp only [InR, lo, hi]; omega⟩) (by rw [j0_, if_pos rfl]; rfl)) ?_
 refine slcA (clv_s (xs := [voL st t mk]) (by intro c hc; rw [List.mem_singleton] at hc; subst hc; exact cg_ _ _ _) (by simp)) ?_
 exact ap_<|fun _=>q_ 1 rfl<|d_<|b_<|k_<|f_ (rs := [.tmp 6]) rfl (RV.tmp rfl RV.nil) (()) sn_<|rfl
end
def Rds (σ : Blks) : Prop := ∀ x ∈ σ, (∃ b t cs, x = .rd b t cs) ∨ ∃ c, x = .rdpc c
theorem Rds.reads {σ τ : Blks} (h : Rds τ) (hs : ∀ x ∈ τ, x ∈ σ) : Reads σ τ := by
  induction τ with
  | nil => exact .nil
  | cons x τ ih =>
    have h1 := ih (fun y hy => h y (List.mem_cons_of_mem _ hy)) (fun y hy => hs y (List.mem_cons_of_mem _ hy))
    have hx := hs x List.mem_cons_self
    rcases h x List.mem_cons_self with ⟨b, t, cs, rfl⟩ | ⟨c, rfl⟩
    · exact .rd hx h1
    · exact .rdpc hx h1
structure En where
  org : Int
  tags : List Tg
def En.abs (e : En) : List Abs := [int e.org, .sl 32 (e.tags.map Tg.abs)]
structure Rq where
  core : Core
  ends : List En
abbrev endsA (es : List En) : Abs := .sl 2 (es.map En.abs)
def Rq.abs (q : Rq) : List Abs := q.core.cells.map .v ++ [endsA q.ends]
theorem Rq.part (q : Rq) : A.part q.abs 0 7 = q.core.cells.map .v := rfl
theorem eY_ (es : List En) : ∀ c ∈ es.map En.abs, ones c = true := fun c hc => by
  obtain ⟨e, _, rfl⟩ := List.mem_map.1 hc
  rfl
theorem j9_ (ts : List Tg) : ∀ c ∈ ts.map Tg.abs, ones c = true := fun c hc => by
  obtain ⟨t, _, rfl⟩ := List.mem_map.1 hc
  exact bN_.2 fun a ha => by
    obtain ⟨b, _, rfl⟩ := List.mem_map.1 ha
    rfl
theorem dz_ (c : Core) : c.bytes.length = 34 + c.letter.size + c.text.size := by
  have h1 : c.letter.data.toList.length = c.letter.size := rfl
  have h2 : c.text.data.toList.length = c.text.size := rfl
  simp only [Core.bytes, rowB, List.length_append, v_, h1, h2]
  omega
def putE (th : Bool) (e : En) : List En → List En
  | [] => [e]
  | x :: l => if th && decide (x.org = e.org) then e :: l else if !th && decide (e.org < x.org) then e :: x :: l else x :: putE th e l
def hasE (es : List En) (o : Int) : Bool := es.any fun x => decide (x.org = o)
def withL (es : List En) (e : En) : List En := putE (hasE es e.org) e es
theorem il_ {e : En} : ∀ {es : List En} {i : Nat}, (hi : i < es.length) → es[i].org = e.org → (∀ j (hj : j < i), ¬ (es[j]'(by omega)).org = e.org) → putE true e es = es.set i e
  | [], i, hi, _, _ => by simp at hi
  | x :: es, 0, _, h, _ => by
    have h : x.org = e.org := h
    simp [putE, h]
  | x :: es, i + 1, hi, h, hn => by
    have h0 : ¬ x.org = e.org := hn 0 (by omega)
    have h1 := il_ (es := es) (i := i) (by simpa using hi) (by simpa using h) fun j hj => by simpa using hn (j + 1) (by omega)
    simp [putE, h0, h1]
theorem im_ {e : En} : ∀ {es : List En} {i : Nat}, (hi : i < es.length) → e.org < es[i].org → (∀ j (hj : j < i), ¬ e.org < (es[j]'(by omega)).org) → putE false e es = es.take i ++ e :: es.drop i
  | [], i, hi, _, _ => by simp at hi
  | x :: es, 0, _, h, _ => by
    have h : e.org < x.org := h
    simp [putE, h]
  | x :: es, i + 1, hi, h, hn => by
    have h0 : ¬ e.org < x.org := hn 0 (by omega)
    have h1 := im_ (es := es) (i := i) (by simpa using hi) (by simpa using h) fun j hj => by simpa using hn (j + 1) (by omega)
    simp [putE, h0, h1]
theorem in_ {e : En} : ∀ {es : List En}, (∀ x ∈ es, ¬ e.org < x.org) → putE false e es = es.take es.length ++ e :: es.drop es.length
  | [], _ => rfl
  | x :: es, h => by
    have h0 := h x List.mem_cons_self
    have h1 := in_ (es := es) fun y hy => h y (List.mem_cons_of_mem _ hy)
    simp only [List.take_length, List.drop_length] at h1 ⊢
    simp [putE, h0, h1]
def bitsW : Nat → (Nat → Bool) → Wo
  | 0, _ => 0#32
  | n + 1, P => bitsW n P ||| (if P n then 1#32 <<< n else 0#32)
theorem eJ_ {m i : Nat} (hm : m < 32) : (1#32 <<< m).getLsbD i = decide (i = m) := by
  simp only [BitVec.getLsbD_shiftLeft, BitVec.getLsbD_one]
  rcases Nat.lt_trichotomy i m with h | h | h
  · simp [h, Nat.ne_of_lt h]
  · subst h; simp [hm]
  · have h1 : ¬ i < m := by omega
    have h2 : ¬ i = m := by omega
    have h3 : ¬ i - m = 0 := by omega
    simp [h1, h2, h3]
theorem cb_ : ∀ (n : Nat) (P : Nat → Bool) (i : Nat), n ≤ 32 → (bitsW n P).getLsbD i = (decide (i < n) && P i)
  | 0, P, i, _ => by simp [bitsW]
  | n + 1, P, i, h => by
    rw [bitsW, BitVec.getLsbD_or, cb_ n P i (by omega)]
    have hb : (if P n = true then 1#32 <<< n else 0#32).getLsbD i = (decide (i = n) && P n) := by
      split
      · next hp => rw [eJ_ (by omega), hp, Bool.and_true]
      · next hp =>
        have hp : P n = false := by simpa using hp
        rw [hp]
        simp
    rw [hb]
    rcases Nat.lt_trichotomy i n with h1 | h1 | h1
    · have h2 : i < n + 1 := by omega
      have h3 : ¬ i = n := by omega
      simp [h1, h2, h3]
    · subst h1
      simp
    · have h2 : ¬ i < n := by omega
      have h3 : ¬ i < n + 1 := by omega
      have h4 : ¬ i = n := by omega
      simp [h2, h3, h4]
theorem bu_ {n : Nat} (hn : n ≤ 32) {P Q : Nat → Bool} (h : ∀ i, i < n → P i = Q i) : bitsW n P = bitsW n Q := by
  apply BitVec.eq_of_getLsbD_eq
  intro i _
  rw [cb_ n P i hn, cb_ n Q i hn]
  by_cases hi : i < n
  · rw [h i hi]
  · simp [hi]
theorem iM_ {n m : Nat} (hn : n ≤ 32) (hm : m < n) (P : Nat → Bool) : bitsW n P ||| 1#32 <<< m = bitsW n fun o => P o || decide (o = m) := by
  apply BitVec.eq_of_getLsbD_eq
  intro i _
  rw [BitVec.getLsbD_or, cb_ n P i hn, cb_ n _ i hn, eJ_ (by omega)]
  by_cases hi : i = m
  · subst hi; simp [hm]
  · simp [hi]
def firstOk (ok : En → Bool) (es : List En) (o : Nat) : Bool := match es.find? fun x => decide (x.org = (o : Int)) with
  | some e => ok e
  | none => false
def seenW (n : Nat) (es : List En) : Wo := bitsW n fun o => hasE es (o : Int)
def maskW (n : Nat) (ok : En → Bool) (es : List En) : Wo := bitsW n fun o => firstOk ok es o
theorem fZ_ (es : List En) (e : En) (o : Int) : hasE (es ++ [e]) o = (hasE es o || decide (e.org = o)) := by simp [hasE]
theorem dd_ (ok : En → Bool) (es : List En) (e : En) (o : Nat) : firstOk ok (es ++ [e]) o = if hasE es (o : Int) then firstOk ok es o else decide (e.org = (o : Int)) && ok e := by
  unfold firstOk
  rw [List.find?_append]
  cases hf : es.find? fun x => decide (x.org = (o : Int)) with
  | some x =>
    have h1 := List.find?_some hf
    have h2 := List.mem_of_find?_eq_some hf
    have : hasE es (o : Int) = true := List.any_eq_true.2 ⟨x, h2, h1⟩
    rw [this]
    rfl
  | none =>
    rw [List.find?_eq_none] at hf
    have : hasE es (o : Int) = false := by
      unfold hasE
      rw [Bool.eq_false_iff]
      intro h
      obtain ⟨x, hx, h⟩ := List.any_eq_true.1 h
      exact hf x hx h
    rw [this]
    by_cases h : e.org = (o : Int)
    · simp [h]
    · simp [h]
theorem gp_ {n : Nat} (hn : n ≤ 32) {es : List En} {e : En} (h : ∀ o : Nat, o < n → ¬ e.org = (o : Int)) : seenW n (es ++ [e]) = seenW n es := bu_ hn fun i hi => by
  rw [fZ_, decide_eq_false (h i hi), Bool.or_false]
theorem dw_ {es : List En} {o : Nat} (h : hasE es (o : Int) = false) (ok : En → Bool) : firstOk ok es o = false := by
  unfold firstOk
  cases hf : es.find? fun x => decide (x.org = (o : Int)) with
  | some x =>
    have h1 := List.find?_some hf
    have h2 := List.mem_of_find?_eq_some hf
    have : hasE es (o : Int) = true := List.any_eq_true.2 ⟨x, h2, h1⟩
    rw [this] at h
    cases h
  | none => rfl
theorem gG_ {n : Nat} (hn : n ≤ 32) {ok : En → Bool} {es : List En} {e : En} (h : ∀ o : Nat, o < n → ¬ e.org = (o : Int)) : maskW n ok (es ++ [e]) = maskW n ok es := bu_ hn fun i hi => by
  rw [dd_, decide_eq_false (h i hi), Bool.false_and]
  cases hh : hasE es (i : Int) with
  | true => rfl
  | false => exact (dw_ hh ok).symm
theorem ki_ {n m : Nat} (hn : n ≤ 32) {es : List En} {e : En} (hm : e.org = (m : Int)) (hs : hasE es (m : Int) = true) : seenW n (es ++ [e]) = seenW n es := bu_ hn fun i hi => by
  rw [fZ_]
  by_cases h : i = m
  · subst h; rw [hs, Bool.true_or]
  · rw [hm, decide_eq_false (by omega), Bool.or_false]
theorem kC_ {n m : Nat} (hn : n ≤ 32) {ok : En → Bool} {es : List En} {e : En} (hm : e.org = (m : Int)) (hs : hasE es (m : Int) = true) : maskW n ok (es ++ [e]) = maskW n ok es := bu_ hn fun i hi => by
  rw [dd_]
  by_cases h : i = m
  · subst h; rw [hs, if_pos rfl]
  · rw [hm, decide_eq_false (by omega), Bool.false_and]
    cases hh : hasE es (i : Int) with
    | true => rfl
    | false => exact (dw_ hh ok).symm
theorem gq_ {n m : Nat} (hn : n ≤ 32) (hl : m < n) {es : List En} {e : En} (hm : e.org = (m : Int)) : seenW n (es ++ [e]) = seenW n es ||| 1#32 <<< m := by
  unfold seenW
  rw [iM_ hn hl]
  exact bu_ hn fun i hi => by
    rw [fZ_, hm]
    congr 1
    rw [decide_eq_decide]
    omega
theorem gH_ {n m : Nat} (hn : n ≤ 32) (hl : m < n) {ok : En → Bool} {es : List En} {e : En} (hm : e.org = (m : Int)) (hs : hasE es (m : Int) = false) : maskW n ok (es ++ [e]) = if ok e then maskW n ok es ||| 1#32 <<< m else maskW n ok es := by
  have h1 : maskW n ok (es ++ [e]) = bitsW n fun o => firstOk ok es o || (decide (o = m) && ok e) := bu_ hn fun i hi => by
    rw [dd_]
    by_cases h : i = m
    · subst h
      rw [hs, if_neg (by decide), hm, dw_ hs]
      simp
    · rw [hm, decide_eq_false (by omega), decide_eq_false h, Bool.false_and, Bool.or_false]
      cases hh : hasE es (i : Int) with
      | true => rfl
      | false => exact (dw_ hh ok).symm
  rw [h1]
  cases ok e with
  | true =>
    rw [if_pos rfl]
    unfold maskW
    rw [iM_ hn hl]
    exact bu_ hn fun i _ => by rw [Bool.and_true]
  | false =>
    rw [if_neg (by decide)]
    exact bu_ hn fun i _ => by rw [Bool.and_false, Bool.or_false]
theorem seen_bit {n m : Nat} (hn : n ≤ 32) (hl : m < n) (es : List En) : decide (((seenW n es >>> m) &&& 1#32).toNat = 1) = hasE es (m : Int) := by
  have h1 : decide (((seenW n es >>> m) &&& 1#32).toNat = 1) = (seenW n es).getLsbD m := by
    rw [BitVec.toNat_and]
    show decide ((seenW n es >>> m).toNat &&& 1 = 1) = _
    rw [Nat.and_one_is_mod, BitVec.toNat_ushiftRight]
    show _ = (seenW n es).toNat.testBit m
    rw [Nat.testBit_eq_decide_div_mod_eq, Nat.shiftRight_eq_div_pow]
  rw [h1]
  unfold seenW
  rw [cb_ n _ m hn, decide_eq_true hl, Bool.true_and]
def okE (chk : Int → List UInt8 → Bool) (who : Int) (e : En) : Bool := decide (0 ≤ who) && match e.tags[who.toNat]? with
  | some t => chk e.org t.d
  | none => false
theorem okE_yes {chk : Int → List UInt8 → Bool} {e : En} {m : Nat} (h : m < e.tags.length) : okE chk (m : Nat) e = chk e.org (e.tags[m]).d := by
  unfold okE
  rw [decide_eq_true (by omega), Int.toNat_natCast, List.getElem?_eq_getElem h, Bool.true_and]
theorem okE_neg {chk : Int → List UInt8 → Bool} {e : En} {who : Int} (h : who < 0) : okE chk who e = false := by
  unfold okE
  rw [decide_eq_false (by omega), Bool.false_and]
theorem okE_far {chk : Int → List UInt8 → Bool} {e : En} {who : Int} (h : (e.tags.length : Int) ≤ who) : okE chk who e = false := by
  unfold okE
  rw [List.getElem?_eq_none (by omega), Bool.and_false]
def maskN (n : Int) (ok : En → Bool) (es : List En) : Wo := if 1 ≤ n ∧ n ≤ 7 then maskW n.toNat ok es else 0#32
theorem kM_ {v u : Value} {xs : List (List Abs)} {y : List Abs} {i : Nat} (hil : i ≤ xs.length) (h1 : ∀ c ∈ xs, ones c = true) (hy : ones y = true) (hn : xs.length ≤ 1000000) : Spec Tryz.prog 111 [.v v, int (i : Nat), .v u] [own 213 2 u [y], own 213 2 v xs] (fun r : Value => [own 213 2 r (xs.take i ++ y :: xs.drop i)]) (fun r => .v r) := by
 refine t_ Tryz.func111 rfl Tryz.ntmps111 rfl fun G w =>c_<|a_<|q_ 1 rfl<|d_<|b_<|c_<|a_<|q_ 2 rfl<|slvA (bg_ (s := 2) (q := i) tabOk Tryz.underlying132 rfl rfl rfl i1_ rfl (by omega) (by omega)) ?_
 refine d_<|b_<|c_<|a_<|q_ 1 rfl<|slvA (aJ_ (m := 1) rfl i0_ Tryz.underlying132 rfl)<|q_ 1 rfl<|d_<|b_<|c_<|c_<|a_<|q_ 2 rfl<|d_<|b_<|l_ rfl (by intro hc16; exfalso; omega) ?_
 intro hc16
 refine o_<|b_<|c_<|a_<|q_ 1 rfl<|slvA (aJ_ (m := xs.length) rfl i1_ Tryz.underlying132 rfl)<|q_ 1 rfl<|d_<|b_<|c_<|c_<|a_<|q_ 3 rfl<|d_<|b_<|l_ rfl ?_ ?_
 ·intro hc22
  refine c_<|aC_ [] (t := 2) rfl rfl<|a_<|q_ 2 rfl<|eb_ (bD_ tabOk [] Tryz.underlying132 rfl rfl rfl rfl rfl rfl (by intro c hc; rw [List.mem_singleton] at hc; subst hc; exact hy) (by unfold maxLen; simp; omega) (by rw [show Tryz.prog.bytesOf 213 = 32 by kernel_rfl]; simp; omega)) rfl rfl fun r25=>?_
  refine q_ 1 rfl<|d_<|b_<|k_<|j_ nofun<|f_ (rs := [.tmp 6]) rfl (RV.tmp rfl RV.nil) (r25) (by rw [← ins_all (y := y) (by omega : i = xs.length)]; exact List.Sublist.refl _) ?_
  exact rfl
 intro hc22
 have hlt : i < xs.length := by omega
 refine o_<|b_<|c_<|c_<|a_<|q_ 2 rfl<|slvA (y_ rfl rfl (by simp only [InR, lo, hi]; omega)) ?_
 refine q_ 1 rfl<|slvA (jD_ rfl i1_ Tryz.underlying132)<|q_ 1 rfl<|d_<|b_<|l_ rfl ?_ ?_
 ·intro hc31
  refine c_<|a_<|q_ 2 rfl<|slvA (ff_ (s := 2) (q := i) tabOk Tryz.underlying132 rfl rfl (.inl i1_) rfl rfl (by omega)) ?_
  refine q_ 2 rfl<|slvA (y_ rfl rfl (by simp only [InR, lo, hi]; omega)) ?_
  refine q_ 1 rfl<|slvA (h_ (C := int ((xs.length + 1 - i : Nat) : Int)) (cp_ rfl rfl (by simp only [InR, lo, hi]; omega)) (congrArg int (by omega))) ?_
  refine sleA (e9_ (s := 2) (q := i) (m := xs.length + 1 - i) tabOk Tryz.underlying132 Tryz.underlying3 rfl rfl rfl rfl i1_ rfl rfl (by omega) (by omega) (by omega) (by unfold maxLen; omega) (by rw [show Tryz.prog.bytesOf 213 = 32 by kernel_rfl]; omega)) ?_
  rintro _ _ ⟨r40, js, rfl, hjs, rfl⟩
  refine q_ 1 rfl<|d_<|b_<|c_<|a_<|q_ 2 rfl<|slvA (bg_ (s := 2) (q := i) tabOk Tryz.underlying132 rfl rfl rfl i0_ rfl (by omega) (by (simp only [List.length_append, List.length_take, List.length_drop, List.length_cons, List.length_nil]; omega))) ?_
  refine q_ 1 rfl<|e_ (cv_ (s := 2) (q := i) (ys := [y]) (zs := xs.take i ++ y :: js.drop 1) tabOk Tryz.underlying132 rfl rfl rfl (by (simp only [List.length_append, List.length_take, List.length_drop, List.length_cons, List.length_nil]; omega)) (Src.ofAll rfl i1_ (by simp) (by (simp only [List.length_append, List.length_take, List.length_drop, List.length_cons, List.length_nil]; omega))) (by (intro c hc; rw [List.mem_singleton] at hc; subst hc; exact hy)) (ins_a hlt hjs) u0_) rfl rfl ?_
  refine d_<|b_<|c_<|Q_ r40.ownBlock.toList (.q 0 (.q 1 (.q 2 (.q 3 (.q 4 (.q 5 (.q 6 (.q 7 (.e 8 .nil))))))))) (by kernel_rfl) (by kernel_rfl) ?_
  refine cr_ (by (intro k hk; simp [mids, It.mids, ownPc, mapPc] at hk ⊢; grind)) fun hx9 => ?_
  refine qx_ 3 hx9 rfl<|sxvA rfl (y_ rfl rfl (by simp only [InR, lo, hi]; omega)) hx9 ?_
  refine sxvA rfl (bg_ (s := 2) (q := i + 1) tabOk Tryz.underlying132 rfl rfl rfl i0_ rfl (by omega) (by (simp only [List.length_append, List.length_take, List.length_drop, List.length_cons, List.length_nil]; omega))) hx9 ?_
  refine qx_ 2 hx9 rfl<|sxvA rfl (bg_ (s := 2) (q := i) tabOk Tryz.underlying132 rfl rfl rfl i2_ rfl (by omega) (by omega)) hx9 ?_
  refine ex_ rfl (cv_ (s := 2) (q := i + 1) (ys := (xs.drop i)) (zs := (xs.take i ++ y :: xs.drop i)) tabOk Tryz.underlying132 rfl rfl rfl (by (simp only [List.length_append, List.length_take, List.length_drop, List.length_cons, List.length_nil]; omega)) (Src.ofOwn (xs := xs) (q := i) rfl i2_ hlt (by (simp only [List.length_append, List.length_take, List.length_drop, List.length_cons, List.length_nil]; omega)) (by rw [List.take_of_length_le (Nat.le_refl _)])) (by exact iy_ h1 _) (ins_b hlt hjs) u0_) (by simp) rfl rfl ?_
  exact F_<|b_<|c_<|a_<|q_ 2 rfl<|d_<|b_<|k_<|j_ nofun<|f_ (rs := [.tmp 6]) rfl (RV.tmp rfl RV.nil) (r40) (sc_ sn_)<|rfl
 intro hc31
 refine o_<|b_<|c_<|a_<|q_ 3 rfl<|slvA (y_ rfl rfl (by simp only [InR, lo, hi]; omega)) ?_
 refine slvA (g8_ (s := 2) (q := xs.length + 1) tabOk Tryz.underlying132 rfl rfl i1_ rfl (by omega) (by omega)) ?_
 refine q_ 1 rfl<|d_<|b_<|c_<|c_<|jF_ (v := v) (xs := xs) (q := xs.length + 1) i1_ (by omega) (by omega) fun js hjs => ⟨_, u1_, ?_⟩
 refine a_<|q_ 4 rfl<|slvA (y_ rfl rfl (by simp only [InR, lo, hi]; omega)) ?_
 refine slvA (bg_ (s := 2) (q := i + 1) tabOk Tryz.underlying132 rfl rfl rfl i1_ rfl (by omega) (by (simp only [List.length_append, List.length_take, List.length_drop, List.length_cons, List.length_nil]; omega))) ?_
 refine slvA (e6_ (tr := 4) (s := 2) (q := i + 1) (α := [_]) (ys := [y]) Tryz.func155 (by kernel_rfl) (by kernel_rfl) (by kernel_rfl) (by kernel_rfl) tabOk Tryz.underlying132 rfl rfl rfl rfl rfl rfl i0_ (by simp) (by (simp only [List.length_append, List.length_take, List.length_drop, List.length_cons, List.length_nil]; omega))) ?_
 refine slvA (eo_ rfl)<|d_<|b_<|U_ rfl<|c_<|Q_ (cutTo v (xs.length + 1)).ownBlock.toList (.q 0 (.q 1 (.q 2 (.q 3 (.q 4 (.q 5 (.q 6 (.q 7 (.e 8 .nil))))))))) (by kernel_rfl) (by kernel_rfl) ?_
 refine cr_ (by (intro k hk; simp [mids, It.mids, ownPc, mapPc] at hk ⊢; grind)) fun hx9 => ?_
 refine qx_ 3 hx9 rfl<|sxvA rfl (y_ rfl rfl (by simp only [InR, lo, hi]; omega)) hx9 ?_
 refine sxvA rfl (bg_ (s := 2) (q := i + 1) tabOk Tryz.underlying132 rfl rfl rfl i1_ rfl (by omega) (by (simp only [List.length_append, List.length_take, List.length_drop, List.length_cons, List.length_nil]; omega))) hx9 ?_
 refine qx_ 2 hx9 rfl<|sxvA rfl (bg_ (s := 2) (q := i) tabOk Tryz.underlying132 rfl rfl rfl i1_ rfl (by omega) (by (simp only [List.length_append, List.length_take, List.length_drop, List.length_cons, List.length_nil]; omega))) hx9 ?_
 refine ex_ rfl (cv_ (s := 2) (q := i + 1) (ys := (xs.drop i)) (zs := (xs ++ js).take (i + 1) ++ xs.drop i) tabOk Tryz.underlying132 rfl rfl rfl (by (simp only [List.length_append, List.length_take, List.length_drop, List.length_cons, List.length_nil]; omega)) (Src.ofOwn (xs := xs ++ js) (q := i) rfl i1_ (by (simp only [List.length_append, List.length_take, List.length_drop, List.length_cons, List.length_nil]; omega)) (by (simp only [List.length_append, List.length_take, List.length_drop, List.length_cons, List.length_nil]; omega)) (ins_src hlt)) (by exact iy_ h1 _) (ins_c hlt hjs) u1_) (by simp) rfl rfl ?_
 refine F_<|b_<|c_<|a_<|q_ 2 rfl<|slvA (bg_ (s := 2) (q := i) tabOk Tryz.underlying132 rfl rfl rfl i1_ rfl (by omega) (by (simp only [List.length_append, List.length_take, List.length_drop, List.length_cons, List.length_nil]; omega))) ?_
 refine q_ 1 rfl<|e_ (cv_ (s := 2) (q := i) (ys := [y]) (zs := (xs.take i ++ y :: xs.drop i)) tabOk Tryz.underlying132 rfl rfl rfl (by (simp only [List.length_append, List.length_take, List.length_drop, List.length_cons, List.length_nil]; omega)) (Src.ofAll rfl i0_ (by simp) (by rw [ins_len hlt hjs]; simp only [List.length_cons, List.length_nil]; omega)) (by (intro c hc; rw [List.mem_singleton] at hc; subst hc; exact hy)) (ins_d hlt hjs) u1_) rfl rfl ?_
 exact d_<|b_<|c_<|a_<|q_ 2 rfl<|d_<|b_<|k_<|j_ nofun<|f_ (rs := [.tmp 6]) rfl (RV.tmp rfl RV.nil) ((cutTo v (xs.length + 1))) (sk_ sr_)<|rfl
section
variable {l : List UInt8} {n : Int} {k f place who : Int} {to : List Int} {p bd bt : Nat} {Dm : DMap} {T : TMap}
theorem hk_ (k : Int) : (Value.int .u8 (IntKind.u8.wrap k)) = .int .u8 (k8 k : Nat) := by
  simp [IntKind.wrap, IntKind.bits, IntKind.signed, k8]
  omega
theorem wrap_bc (k : Int) : (Value.int .u8 (IntKind.u8.wrap k)) = bc (UInt8.ofNat (k8 k)) := by
  rw [hk_]
  simp [bc, k8]
  omega
def textV (k : Int) (l : List UInt8) : List UInt8 := UInt8.ofNat (k8 k) :: l
def allN (n : Int) : List Int := if 7 < n then [] else (List.range n.toNat).map fun i => (i : Nat)
theorem clone_s (hl : l.length ≤ 1000000) : Spec Tryz.prog 74 [byt l] [] (fun _ : Unit => []) (fun _ => byt l) := by
 refine t_ Tryz.func74 rfl Tryz.ntmps74 rfl fun G w =>c_<|a_<|q_ 1 rfl<|d_<|b_<|c_<|c_<|a_<|q_ 1 rfl<|bW_ Tryz.underlying39 rfl rfl rfl<|fun b hb=>d_<|b_<|ar_ rfl ?_ ?_
 ·intro hc4
  have hnil : l = [] := List.map_eq_nil_iff.1 (hb hc4)
  refine c_<|a_<|q_ 1 rfl<|d_<|b_<|k_<|j_ nofun ?_
  subst hnil
  refine cL_ (rs := [.tmp 2]) rfl (RV.tmp rfl RV.nil) (Casts.nils (s := 1) Casts.refl) () sn_ (by simp [It.rids]) rfl
 intro hc4
 refine o_<|b_<|c_<|a_<|eb_ (aA_ tabOk Tryz.underlying39 rfl rfl rfl rfl rfl rfl rfl) rfl rfl fun r5=>?_
 refine q_ 1 rfl<|eb_ (K_ (zs := bs l) tabOk [] (rfl) Tryz.underlying39 rfl rfl rfl rfl rfl rfl (k9_ _) (by unfold maxLen; simp only [bs, List.length_map, List.length_cons, List.length_nil]; omega) (by rw [show Tryz.prog.bytesOf 5 = 1 by kernel_rfl]; simp only [List.length_map, List.length_cons, List.length_nil]; omega)) rfl rfl fun r7=>?_
 exact q_ 1 rfl<|d_<|b_<|k_<|aT_ [] (t := 2) rfl rfl<|f_ (rs := [.tmp 2]) rfl (RV.tmp rfl RV.nil) (()) sn_<|rfl
theorem j8_ (hl : l.length ≤ 1000000) : Spec Tryz.prog 98 [int k, byt l] [] (fun _ : Unit => []) (fun _ => byt (textV k l)) := by
 refine t_ Tryz.func98 rfl Tryz.ntmps98 rfl fun G w =>c_<|a_<|q_ 1 rfl<|d_<|b_<|c_<|a_<|q_ 1 rfl<|slvA (h_ (C := .v (.int .u8 (k8 k : Nat))) (cc_ rfl Tryz.underlying5 (by kernel_rfl)) (congrArg Abs.v (hk_ k))) ?_
 refine eb_ (aA_ tabOk Tryz.underlying39 rfl rfl rfl rfl rfl rfl rfl) rfl rfl fun r7=>?_
 refine q_ 1 rfl<|sleA (K_ (zs := bs (textV k l)) tabOk [] (by
   show [[Abs.v (Value.int .u8 (k8 k : Nat))]] ++ bs l = _
   rw [← hk_, wrap_bc]
   rfl) Tryz.underlying39 rfl rfl rfl rfl rfl rfl (k9_ _) (by unfold maxLen; simp only [bs, List.length_map, List.length_cons, List.length_nil]; omega) (by rw [show Tryz.prog.bytesOf 5 = 1 by kernel_rfl]; simp only [List.length_map, List.length_cons, List.length_nil]; omega)) ?_
 rintro _ _ ⟨r9, rfl, rfl⟩
 exact q_ 1 rfl<|d_<|b_<|k_<|aT_ [] (t := 4) rfl rfl<|f_ (rs := [.tmp 4]) rfl (RV.tmp rfl RV.nil) (()) sn_<|rfl
theorem ints_all (n : Int) (h : ¬ 7 < n) : (Abs.sl 1 ((List.range n.toNat).map fun i : Nat => [int (i : Nat)])) = ints (allN n) := by
  unfold allN
  rw [if_neg h]
  show _ = Abs.sl 1 (((List.range n.toNat).map fun i : Nat => (i : Int)).map fun x => [int x])
  rw [List.map_map]
  rfl
theorem kL_ (n : Int) (h : 7 < n) : (Abs.sl 1 []) = ints (allN n) := by
  unfold allN
  rw [if_pos h]
  rfl
theorem ji_ (k : Nat) : (List.range k).map (fun i : Nat => [int (i : Nat)]) ++ [[int (k : Nat)]] = (List.range (k + 1)).map fun i : Nat => [int (i : Nat)] := by
  rw [List.range_succ, List.map_append]
  rfl
set_option maxHeartbeats 2000000 in
theorem lg_  : Spec Tryz.prog 68 [int n] [] (fun _ : Unit => []) (fun _ => ints (allN n)) := by
 refine t_ Tryz.func68 rfl Tryz.ntmps68 rfl fun G w =>c_<|a_<|q_ 1 rfl<|d_<|b_<|c_<|c_<|a_<|q_ 2 rfl<|d_<|b_<|l_ rfl ?_ ?_
 ·intro hc6
  refine c_<|a_<|q_ 1 rfl<|d_<|b_<|k_<|j_ nofun<|cL_ (rs := [.tmp 2]) rfl (RV.tmp rfl RV.nil) (Casts.nils (s := 1) Casts.refl) () sn_ (by simp [It.rids]) (kL_ n (by omega))
 intro hc6
 refine o_<|b_<|c_<|a_<|q_ 1 rfl<|d_<|b_<|c_<|c_<|a_<|q_ 1 rfl<|slvA (ga_ rfl rfl)<|q_ 1 rfl<|d_<|b_<|u_<|aF_ 3 1<|P_ (ι := Nat × Value) (fun z => [own 3 1 z.2 ((List.range z.1).map fun i : Nat => [int (i : Nat)])]) (fun z => [(3, .v z.2), (8, int (max n 0)), (9, int (z.1 : Nat))]) (fun z => z.1 ≤ n.toNat) (fun z => n.toNat - z.1) (0, .slice none 0 0) (Nat.zero_le _) (by exact ⟨rfl, rfl, rfl, trivial⟩) sr_ ?_
 intro z hz
 refine c_<|a_<|q_ 1 rfl<|d_<|b_<|c_<|l_ rfl ?_ ?_
 rotate_left
 ·intro hc10
  refine N_<|j_ nofun<|j_ nofun<|M_<|b_<|c_<|a_<|q_ 2 rfl<|d_<|b_<|k_ ?_
  have hz1 : z.1 = n.toNat := by omega
  refine aT_ [] (t := 2) rfl rfl ?_
  rw [hz1]
  exact f_ (rs := [.tmp 2]) rfl (RV.tmp rfl RV.nil) (()) sn_<|ints_all n (by omega)
 intro hc10
 refine o_<|b_<|c_<|u_<|c_<|a_<|q_ 2 rfl<|d_<|b_<|a_<|q_ 2 rfl<|e_ (G_ tabOk Tryz.underlying22 rfl rfl rfl rfl rfl rfl rfl) rfl rfl<|eb_ (K_ (zs := ((List.range (z.1 + 1)).map fun i : Nat => [int (i : Nat)])) tabOk [] (ji_ z.1) Tryz.underlying22 rfl rfl rfl rfl rfl rfl (by intro c hc; rw [List.mem_singleton] at hc; subst hc; rfl) (by unfold maxLen; simp only [List.length_map, List.length_range, List.length_cons, List.length_nil]; omega) (by rw [show Tryz.prog.bytesOf 3 = 8 by kernel_rfl]; simp only [List.length_map, List.length_range, List.length_cons, List.length_nil]; omega)) rfl rfl fun r15=>?_
 refine q_ 1 rfl<|d_<|w_<|b_<|a_<|slvA (y_ rfl rfl (by simp only [InR, lo, hi]; omega)) ?_
 refine q_ 1 rfl<|d_<|I_ (z.1 + 1, r15) (by omega) (by dsimp only; omega) (by exact ⟨rfl, rfl, rfl, trivial⟩) sr_
end
theorem bB_ {l : List Int} {z : Nat} (h : z < l.length) : l.take (z + 1) = l.take z ++ [l[z]] := List.take_succ_eq_append_getElem h
theorem dig32 {l : List UInt8} (h : l.length = 32) : (digA l).length = 32 := by simp only [digA, List.length_map]; exact h
abbrev gB (f : Int) (t : List UInt8) (w : Int) : (Int × Int) × List UInt8 := ((f, w), t)
section
variable {k f n : Int} {body : List UInt8} {to : List Int} {p bd bt q : Nat} {Dm : DMap} {Tb : TMap} {T : List (ByteArray × Nat)}
set_option maxHeartbeats 4000000 in
theorem h9_ (hb : body.length ≤ 999000) (hn : Num1 Tb) (hT : Tb.length ≤ 900000) (hl : to.length ≤ 1000) (hf : i64r f) (hto : ∀ w ∈ to, i64r w) : Spec Tryz.prog 70 [.ifc 54 (.v (.pointer (some ⟨p, 0, none⟩))), int k, int f, byt body, ints to] [.pc (bkPc p bd bt Dm (Tb))] (fun _ : Unit => [.pc (bkPc p bd bt Dm (tmG (gB f (textV k body)) Tb to))]) (fun _ => .agg (Msg.mk k f body (tagsG (gB f (textV k body)) Tb to)).abs) := by
 refine t_ Tryz.func70 rfl Tryz.ntmps70 rfl fun G w =>c_<|a_<|eb_ (C_ tabOk rfl) rfl rfl fun b10=>?_
 refine d_<|b_<|c_<|a_<|q_ 3 rfl<|slcA (clone_s (l := body) (by omega)) ?_
 refine ap_<|fun _=>slvA (z_ tabOk rfl rfl rfl rfl)<|eb_ (C_ tabOk rfl) rfl rfl fun b11=>?_
 refine e_ (m_ tabOk rfl rfl rfl u0_ rfl (Nat.le_of_ble_eq_true rfl) rfl rfl) rfl rfl<|d_<|b_<|c_<|c_<|a_<|q_ 1 rfl<|slvA (aE_ Tryz.underlying68 rfl)<|d_<|b_<|O_ rfl<|o_<|b_<|c_<|a_<|q_ 2 rfl<|slcA (j8_ (k := k) (l := body) (by omega)) ?_
 refine ap_<|fun _=>q_ 1 rfl<|d_<|b_<|c_<|c_<|a_<|q_ 1 rfl<|slvA (H_ rfl Tryz.underlying22 (List.length_map _))<|q_ 1 rfl<|d_<|b_<|u_<|aF_ 64 32<|P_ (ι := Nat × Value × Unit) (fun z => [own 64 32 z.2.1 ((tagsG (gB f (textV k body)) Tb (to.take z.1)).map Tg.abs), .blk b11 42 [int k, int f, byt body, .v z.2.1], .blk b10 42 (zabs [.int .i64 0, .int .i64 0, .slice none 0 0, .slice none 0 0]), .pc (bkPc p bd bt Dm (tmG (gB f (textV k body)) Tb (to.take z.1)))]) (fun z => [(0, .ifc 54 (.v (.pointer (some ⟨p, 0, none⟩)))), (2, int f), (10, ptr b10), (11, ptr b11), (12, byt (textV k body)), (26, ints to), (27, int (to.length : Nat)), (28, int (z.1 : Nat))]) (fun z => z.1 ≤ to.length) (fun z => to.length - z.1) (0, .slice none 0 0, ()) (Nat.zero_le _) (by exact ⟨rfl, rfl, rfl, rfl, rfl, rfl, rfl, rfl, trivial⟩) sr_ ?_
 intro z hz
 refine c_<|a_<|q_ 1 rfl<|d_<|b_<|c_<|l_ rfl ?_ ?_
 rotate_left
 ·intro hc29
  refine N_<|j_ nofun<|j_ nofun<|M_<|b_<|c_ ?_
  have hz4 : z.1 = to.length := by omega
  refine cd_ [] 3 rfl u0_ rfl ?_
  rw [hz4, List.take_of_length_le (Nat.le_refl _)]
  refine a_<|slvA (r_ tabOk rfl rfl rfl l0_ List.not_mem_nil rfl)<|e_ (m_ tabOk rfl rfl rfl u1_ rfl (Nat.le_of_ble_eq_true rfl) rfl rfl) rfl rfl<|d_<|b_<|k_<|f_ (rs := [.cell 10 42]) rfl (RV.cell rfl (RV.cellA tabOk rfl rfl l1_ (by rfl)) RV.nil) (()) (sk_ (sk_ sr_)) ?_
  exact rfl
 intro hc29
 have hlt : z.1 < to.length := by omega
 have hT2 := j7_ (gB f (textV k body)) Tb (to.take z.1)
 have hTn := j6_ hn (gB f (textV k body)) (to.take z.1)
 have hTp := hTn.pl_le (gB f (textV k body) (to[z.1]'hlt))
 have hlen9 : (to.take z.1).length = z.1 := by rw [List.length_take]; omega
 refine o_<|b_<|c_<|u_<|c_<|a_<|slvA (L_ tabOk Tryz.underlying22 rfl rfl rfl rfl (a8_ (by omega)) rfl rfl) ?_
 refine slvA (h_ (C := int (to[z.1]'hlt)) (aa_ tabOk rfl rfl rfl) rfl)<|q_ 1 rfl<|d_<|b_<|Q_ (z.2.1.ownBlock.toList ++ [b11, p, bd, bt]) (.q 0 (.q 2 (.q 3 (.q 4 (.q 5 (.two 1 6 (.e 6 (.e 7 (.e 8 (.q 9 (.e 10 .nil))))) (.two 1 7 (.e 7 (.e 8 (.q 9 (.e 10 .nil)))) (.e 1 (.e 8 (.q 9 (.e 10 .nil))))))))))) (by kernel_rfl) (by kernel_rfl) ?_
 refine cr_ (by (intro k hk; simp [mids, It.mids, ownPc, bkPc, mapPc] at hk ⊢; grind)) fun hx9 => ?_
 refine qx_ 5 hx9 rfl<|aV_ ?_ ?_
 ·skip
  refine bn_ rfl (g_ tabOk rfl rfl l1_ List.not_mem_nil (by rfl)) rfl rfl ?_
  refine bs_ rfl (la_ (p := p) (bd := bd) (bt := bt) (D := Dm) (T := (tmG (gB f (textV k body)) Tb (to.take z.1))) (from_ := f) (to_ := to[z.1]) (l := (textV k body)) hf (hto _ (List.getElem_mem hlt)) (by unfold maxLen; simp [textV]; omega) (by omega) (Nat.lt_of_le_of_lt hTp (by omega))) (by simp [mids, It.mids, bkPc]) rfl Casts.refl (fun _ _ _ => by kernel_rfl) rfl rfl rfl ?_
  refine x_ rfl i3_ (fun _ => rfl)<|fun _=>⟨_, u3_, ex_ rfl (G_ tabOk Tryz.underlying40 rfl rfl rfl (ah_ (dig32 (bq_ _ _))) rfl rfl rfl) (by simp) rfl rfl ?_⟩
  refine d4_ [b11] rfl (K_ (zs := (tagsG (gB f (textV k body)) Tb (to.take (z.1 + 1))).map Tg.abs) tabOk [] (by rw [bB_ hlt]; exact dI_ _ _ _ _) Tryz.underlying40 rfl rfl rfl rfl rfl rfl (by intro c hc; rw [List.mem_singleton] at hc; subst hc; exact bO_ _) (by unfold maxLen; simp only [tagsG, List.length_map, List.length_take, List.length_cons, List.length_nil]; omega) (by rw [show Tryz.prog.bytesOf 64 = 32 by kernel_rfl]; simp only [tagsG, List.length_map, List.length_take, List.length_cons, List.length_nil]; omega)) (fun k hk => List.mem_append_left _ hk) (by simp) rfl rfl ?_
  rintro _ _ ⟨r40, rfl, rfl⟩
  refine cr_ (by (simp [mids, It.mids, ownPc, bkPc, mapPc]; done)) fun hx9 => ?_
  refine qx_ 1 hx9 rfl<|ex_ rfl (az_ tabOk rfl rfl rfl rfl i0_ u1_ rfl rfl) (by simp) rfl rfl ?_
  refine F_<|w_<|b_<|a_<|slvA (y_ rfl rfl (by simp only [InR, lo, hi]; omega)) ?_
  refine q_ 1 rfl<|d_<|I_ (z.1 + 1, r40, ()) (by omega) (by dsimp only; omega) (by exact ⟨rfl, rfl, rfl, rfl, rfl, rfl, rfl, rfl, trivial⟩) (by rw [bB_ hlt, eg_]; exact List.Sublist.refl _)
 skip
 refine bs_ rfl (la_ (p := p) (bd := bd) (bt := bt) (D := Dm) (T := (tmG (gB f (textV k body)) Tb (to.take z.1))) (from_ := f) (to_ := to[z.1]) (l := (textV k body)) hf (hto _ (List.getElem_mem hlt)) (by unfold maxLen; simp [textV]; omega) (by omega) (Nat.lt_of_le_of_lt hTp (by omega))) (by simp [mids, It.mids, bkPc]) rfl Casts.refl (fun _ _ _ => by kernel_rfl) rfl rfl rfl ?_
 refine x_ rfl i3_ (fun _ => rfl)<|fun _=>⟨_, u3_, aV_ ?_ ?_⟩
 ·skip
  refine bn_ rfl (g_ tabOk rfl rfl l1_ List.not_mem_nil (by rfl)) rfl rfl ?_
  refine ex_ rfl (G_ tabOk Tryz.underlying40 rfl rfl rfl (ah_ (dig32 (bq_ _ _))) rfl rfl rfl) (by simp) rfl rfl ?_
  refine d4_ [b11] rfl (K_ (zs := (tagsG (gB f (textV k body)) Tb (to.take (z.1 + 1))).map Tg.abs) tabOk [] (by rw [bB_ hlt]; exact dI_ _ _ _ _) Tryz.underlying40 rfl rfl rfl rfl rfl rfl (by intro c hc; rw [List.mem_singleton] at hc; subst hc; exact bO_ _) (by unfold maxLen; simp only [tagsG, List.length_map, List.length_take, List.length_cons, List.length_nil]; omega) (by rw [show Tryz.prog.bytesOf 64 = 32 by kernel_rfl]; simp only [tagsG, List.length_map, List.length_take, List.length_cons, List.length_nil]; omega)) (fun k hk => List.mem_append_left _ hk) (by simp) rfl rfl ?_
  rintro _ _ ⟨r40, rfl, rfl⟩
  refine cr_ (by (simp [mids, It.mids, ownPc, bkPc, mapPc]; done)) fun hx9 => ?_
  refine qx_ 1 hx9 rfl<|ex_ rfl (az_ tabOk rfl rfl rfl rfl i0_ u1_ rfl rfl) (by simp) rfl rfl ?_
  refine F_<|w_<|b_<|a_<|slvA (y_ rfl rfl (by simp only [InR, lo, hi]; omega)) ?_
  refine q_ 1 rfl<|d_<|I_ (z.1 + 1, r40, ()) (by omega) (by dsimp only; omega) (by exact ⟨rfl, rfl, rfl, rfl, rfl, rfl, rfl, rfl, trivial⟩) (by rw [bB_ hlt, eg_]; exact List.Sublist.refl _)
 skip
 refine ex_ rfl (G_ tabOk Tryz.underlying40 rfl rfl rfl (ah_ (dig32 (bq_ _ _))) rfl rfl rfl) (by simp) rfl rfl ?_
 refine bn_ rfl (g_ tabOk rfl rfl l1_ List.not_mem_nil (by rfl)) rfl rfl ?_
 refine d4_ [b11] rfl (K_ (zs := (tagsG (gB f (textV k body)) Tb (to.take (z.1 + 1))).map Tg.abs) tabOk [] (by rw [bB_ hlt]; exact dI_ _ _ _ _) Tryz.underlying40 rfl rfl rfl rfl rfl rfl (by intro c hc; rw [List.mem_singleton] at hc; subst hc; exact bO_ _) (by unfold maxLen; simp only [tagsG, List.length_map, List.length_take, List.length_cons, List.length_nil]; omega) (by rw [show Tryz.prog.bytesOf 64 = 32 by kernel_rfl]; simp only [tagsG, List.length_map, List.length_take, List.length_cons, List.length_nil]; omega)) (fun k hk => List.mem_append_left _ hk) (by simp) rfl rfl ?_
 rintro _ _ ⟨r40, rfl, rfl⟩
 refine cr_ (by (simp [mids, It.mids, ownPc, bkPc, mapPc]; done)) fun hx9 => ?_
 refine qx_ 1 hx9 rfl<|ex_ rfl (az_ tabOk rfl rfl rfl rfl i0_ u1_ rfl rfl) (by simp) rfl rfl ?_
 refine F_<|w_<|b_<|a_<|slvA (y_ rfl rfl (by simp only [InR, lo, hi]; omega)) ?_
 refine q_ 1 rfl<|d_<|I_ (z.1 + 1, r40, ()) (by omega) (by dsimp only; omega) (by exact ⟨rfl, rfl, rfl, rfl, rfl, rfl, rfl, rfl, trivial⟩) (by rw [bB_ hlt, eg_]; exact List.Sublist.refl _)
end
inductive Frm where
  | mk (org at_ : Int) (kids : List Frm)
mutual
def Frm.nodes : Frm → Nat
  | .mk _ _ ks => 1 + Frm.nodess ks
def Frm.nodess : List Frm → Nat
  | [] => 0
  | k :: ks => k.nodes + Frm.nodess ks
end
mutual
def Frm.depth : Frm → Nat
  | .mk _ _ ks => 1 + Frm.depths ks
def Frm.depths : List Frm → Nat
  | [] => 0
  | k :: ks => max k.depth (Frm.depths ks)
end
mutual
def Frm.ranges (n : Int) : Frm → Bool
  | .mk o a ks => match ks with
    | [] => decide (0 ≤ o ∧ o < n ∧ a = 0)
    | k :: ks => (k.ranges n && Frm.rangess n ks) && decide (1 ≤ a ∧ a ≤ ((ks.length + 1 : Nat) : Int) ∧ o = 0)
def Frm.rangess (n : Int) : List Frm → Bool
  | [] => true
  | k :: ks => k.ranges n && Frm.rangess n ks
end
mutual
def Frm.holds (s : Wo) : Frm → Bool
  | .mk o a ks => match ks with
    | [] => s.getLsbD o.toNat
    | k :: ks => decide (a ≤ (((if k.holds s then 1 else 0) + Frm.holdss s ks : Nat) : Int))
def Frm.holdss (s : Wo) : List Frm → Nat
  | [] => 0
  | k :: ks => (if k.holds s then 1 else 0) + Frm.holdss s ks
end
def Frm.check (f : Frm) (n : Int) : Int := if n < 1 ∨ 7 < n then 1 else if 32 < f.nodes then 4 else if 5 < f.depth then 3 else if f.ranges n = true then 0 else 5
def IdxOf {α : Type} (p : α → Bool) (xs : List α) (r : Int) : Prop := (r = -1 ∧ ∀ x ∈ xs, p x = false) ∨ ∃ i, ∃ h : i < xs.length, r = (i : Nat) ∧ p xs[i] = true ∧ ∀ j (hj : j < i), p (xs[j]'(by omega)) = false
section
variable {c : Core} {q q2 : Rq} {e : En} {es : List En} {n who : Int}
theorem etext_s (h1 : c.letter.size ≤ 1000) (h2 : c.text.size ≤ 1000) : Spec Tryz.prog 339 [coreA c] [] (fun _ : Unit => []) (fun _ => byt (textV 100 c.bytes)) := by
 refine t_ Tryz.func339 rfl Tryz.ntmps339 rfl fun G w =>c_<|a_<|eb_ (B_ (cs := c.cells.map .v) rfl) rfl rfl fun b1=>?_
 refine q_ 1 rfl<|d_<|b_<|c_<|a_<|slvA (r_ tabOk rfl rfl rfl l0_ List.not_mem_nil rfl)<|Y_ (dB_ (by omega) (by omega)) Casts.refl (by kernel_rfl) rfl rfl rfl ?_
 refine ap_<|fun _=>Y_ (j8_ (k := 100) (l := c.bytes) (by rw [dz_]; omega)) Casts.refl (by kernel_rfl) rfl rfl rfl ?_
 exact ap_<|fun _=>q_ 1 rfl<|d_<|b_<|k_<|f_ (rs := [.tmp 2]) rfl (RV.tmp rfl RV.nil) (()) sn_<|rfl
theorem gV_ {xs : List (List Abs)} (h1 : ∀ c ∈ xs, ones c = true) (hn : xs.length ≤ 1000000) : Spec Tryz.prog 106 [.sl 2 xs] [] (fun r : Value => [own 213 2 r xs]) (fun r => .v r) := by
 refine t_ Tryz.func106 rfl Tryz.ntmps106 rfl fun G w =>c_<|a_<|q_ 1 rfl<|d_<|b_<|c_<|c_<|a_<|q_ 1 rfl<|bW_ Tryz.underlying132 rfl rfl rfl<|fun b hb=>d_<|b_<|ar_ rfl ?_ ?_
 ·intro hc4
  have hnil : xs = [] := hb hc4
  subst hnil
  exact c_<|aF_ 213 2<|a_<|q_ 1 rfl<|d_<|b_<|k_<|j_ nofun<|f_ (rs := [.tmp 2]) rfl (RV.tmp rfl RV.nil) (.slice none 0 0) sr_<|rfl
 intro hc4
 refine o_<|b_<|c_<|a_<|eb_ (aA_ tabOk Tryz.underlying132 rfl rfl rfl rfl rfl rfl rfl) rfl rfl fun r5=>?_
 refine q_ 1 rfl<|eb_ (K_ (zs := xs) tabOk [] rfl Tryz.underlying132 rfl rfl rfl rfl rfl rfl h1 (by unfold maxLen; simp only [List.length_nil]; omega) (by rw [show Tryz.prog.bytesOf 213 = 32 by kernel_rfl]; simp only [List.length_nil]; omega)) rfl rfl fun r7=>?_
 exact q_ 1 rfl<|d_<|b_<|k_<|f_ (rs := [.tmp 2]) rfl (RV.tmp rfl RV.nil) (r7) sr_<|rfl
theorem gU_ {xs : List (List Abs)} (h1 : ∀ c ∈ xs, ones c = true) (hn : xs.length ≤ 1000000) : Spec Tryz.prog 107 [.sl 32 xs] [] (fun _ : Unit => []) (fun _ => .sl 32 xs) := by
 refine t_ Tryz.func107 rfl Tryz.ntmps107 rfl fun G w =>c_<|a_<|q_ 1 rfl<|d_<|b_<|c_<|c_<|a_<|q_ 1 rfl<|bW_ Tryz.underlying40 rfl rfl rfl<|fun b hb=>d_<|b_<|ar_ rfl ?_ ?_
 ·intro hc4
  have hnil : xs = [] := hb hc4
  subst hnil
  refine c_<|a_<|q_ 1 rfl<|d_<|b_<|k_<|j_ nofun<|cL_ (rs := [.tmp 2]) rfl (RV.tmp rfl RV.nil) (Casts.nils (s := 32) Casts.refl) () sn_ (by simp [It.rids]) rfl
 intro hc4
 refine o_<|b_<|c_<|a_<|eb_ (aA_ tabOk Tryz.underlying40 rfl rfl rfl rfl rfl rfl rfl) rfl rfl fun r5=>?_
 refine q_ 1 rfl<|eb_ (K_ (zs := xs) tabOk [] rfl Tryz.underlying40 rfl rfl rfl rfl rfl rfl h1 (by unfold maxLen; simp only [List.length_nil]; omega) (by rw [show Tryz.prog.bytesOf 64 = 32 by kernel_rfl]; simp only [List.length_nil]; omega)) rfl rfl fun r7=>?_
 exact q_ 1 rfl<|d_<|b_<|k_<|aT_ [] (t := 2) rfl rfl<|f_ (rs := [.tmp 2]) rfl (RV.tmp rfl RV.nil) (()) sn_<|rfl
theorem ft_ {v : Value} {xs : List En} {p : En → Bool} {k : Nat} {caps : List Abs} {σ : Blks} (hb : goesIn Tryz.prog k = true) (hr : Rds σ) (hn : xs.length < 9223372036854775807) (h : ∀ x ∈ xs, Spec Tryz.prog k (.agg (En.abs x) :: caps) σ (fun _ : Unit => []) (fun _ => boo (p x))) : Spec Tryz.prog 108 [.v v, .fn (.func k) [] caps] (.rdpc (ownPc 213 2 v (xs.map En.abs)) :: σ) (fun _ : {r : Int // IdxOf p xs r} => []) (fun z => int z.1) := by
 refine t_ Tryz.func108 rfl Tryz.ntmps108 rfl fun G w =>c_<|a_<|q_ 1 rfl<|d_<|b_<|c_<|c_<|a_<|q_ 1 rfl<|slvA (df_ (m := xs.length) rfl (.inr i0_) Tryz.underlying132 (List.length_map _))<|q_ 1 rfl<|d_<|b_<|u_<|P_ (ι := Nat) (fun z => (.rdpc (ownPc 213 2 v (xs.map En.abs)) :: σ)) (fun z => [(0, .v v), (1, .fn (.func k) [] caps), (7, int (xs.length : Nat)), (8, int (z : Nat))]) (fun z => z ≤ xs.length ∧ ∀ j (hj : j < xs.length), j < z → p xs[j] = false) (fun z => xs.length - z) (0) (⟨Nat.zero_le _, by omega⟩) (by exact ⟨rfl, rfl, rfl, rfl, trivial⟩) sr_ ?_
 intro z hz
 refine c_<|a_<|q_ 1 rfl<|d_<|b_<|c_<|l_ rfl ?_ ?_
 rotate_left
 ·intro hc9
  refine N_<|j_ nofun<|j_ nofun<|M_<|b_<|c_<|a_<|q_ 1 rfl<|d_<|b_<|k_<|f_ (rs := [.tmp 4]) rfl (RV.tmp rfl RV.nil) (⟨-1, .inl ⟨rfl, fun x hx => by obtain ⟨j, hj, rfl⟩ := List.getElem_of_mem hx; exact hz.2 j hj (by omega)⟩⟩) sn_ ?_
  exact rfl
 intro hc9
 have hlt : z < xs.length := by omega
 refine o_<|b_<|c_<|u_<|c_<|a_<|q_ 2 rfl<|d_<|b_<|c_<|a_<|q_ 3 rfl<|slvA (aU_ (q := z) tabOk Tryz.underlying132 rfl rfl (.inr i0_) rfl rfl (by rw [List.length_map]; exact hlt) rfl rfl) ?_
 refine slvA (ea_ tabOk rfl rfl rfl (.inr i0_) rfl (a8_ hlt) rfl)<|bX_ (h _ (List.getElem_mem hlt)) rfl Casts.refl hb rfl rfl rfl<|c1_ (Rds.reads hr (fun x hx => by repeat (first | exact hx | apply List.mem_cons_of_mem))) (fun _ => rfl) ?_
 intro _
 refine d_<|b_<|ar_ rfl ?_ ?_
 rotate_left
 ·intro hc16
  refine o_<|w_<|b_<|a_<|slvA (y_ rfl rfl (by simp only [InR, lo, hi]; omega)) ?_
  refine q_ 1 rfl<|d_<|I_ (z + 1) (by omega) (⟨by omega, fun j hj hjz => by rcases Nat.lt_or_ge j z with h1 | h1; exact hz.2 j hj h1; obtain rfl : j = z := (by omega); exact hc16⟩) (by exact ⟨rfl, rfl, rfl, rfl, trivial⟩) sr_
 intro hc16
 refine c_<|a_<|q_ 2 rfl<|d_<|b_<|k_<|S_<|j_ nofun<|j_ nofun<|S_<|j_ nofun<|f_ (rs := [.tmp 4]) rfl (RV.tmp rfl RV.nil) (⟨(z : Nat), .inr ⟨z, hlt, rfl, hc16, fun j hj => hz.2 j (by omega) hj⟩⟩) sn_ ?_
 exact rfl
theorem with1_s {x : En} {p : Nat} : Spec Tryz.prog 109 [.agg x.abs, ptr p] [.rd p 213 e.abs] (fun _ : Unit => []) (fun _ => boo (decide (x.org = e.org))) := by
 refine t_ Tryz.func109 rfl Tryz.ntmps109 rfl fun G w =>c_<|a_<|eb_ (B_ (cs := x.abs) rfl) rfl rfl fun b2=>?_
 exact q_ 1 rfl<|d_<|b_<|c_<|a_<|q_ 1 rfl<|slvA (g_ tabOk rfl rfl l0_ List.not_mem_nil rfl)<|q_ 1 rfl<|slvA (g_ tabOk rfl rfl r1_ List.not_mem_nil rfl)<|q_ 2 rfl<|d_<|b_<|k_<|f_ (rs := [.tmp 3]) rfl (RV.tmp rfl RV.nil) (()) sn_<|rfl
theorem with2_s {x : En} {p : Nat} : Spec Tryz.prog 110 [.agg x.abs, ptr p] [.rd p 213 e.abs] (fun _ : Unit => []) (fun _ => boo (decide (e.org < x.org))) := by
 refine t_ Tryz.func110 rfl Tryz.ntmps110 rfl fun G w =>c_<|a_<|eb_ (B_ (cs := x.abs) rfl) rfl rfl fun b2=>?_
 exact q_ 1 rfl<|d_<|b_<|c_<|a_<|q_ 1 rfl<|slvA (g_ tabOk rfl rfl l0_ List.not_mem_nil rfl)<|q_ 1 rfl<|slvA (g_ tabOk rfl rfl r1_ List.not_mem_nil rfl)<|q_ 2 rfl<|d_<|b_<|k_<|f_ (rs := [.tmp 3]) rfl (RV.tmp rfl RV.nil) (()) sn_<|rfl
set_option maxHeartbeats 2000000 in
theorem with_s (hn : q.ends.length ≤ 100000) (ht : e.tags.length ≤ 100000) : Spec Tryz.prog 86 [.agg q.abs, .agg e.abs] [] (fun _ : Unit => []) (fun _ => .agg (Rq.mk q.core (withL q.ends e)).abs) := by
 refine t_ Tryz.func86 rfl Tryz.ntmps86 rfl fun G w =>c_<|a_<|eb_ (B_ (cs := q.abs) rfl) rfl rfl fun b2=>?_
 refine eb_ (B_ (cs := e.abs) rfl) rfl rfl fun b3=>?_
 refine eb_ (C_ tabOk rfl) rfl rfl fun b4=>?_
 refine d_<|b_<|c_<|a_<|q_ 1 rfl<|slvA (g_ tabOk rfl rfl l2_ List.not_mem_nil rfl)<|Y_ (gV_ (eY_ q.ends) (by rw [List.length_map]; omega)) Casts.refl (by kernel_rfl) rfl rfl rfl ?_
 refine aftM ?_
 intro z5
 refine q_ 1 rfl<|d_<|b_<|c_<|a_<|q_ 1 rfl<|slvA (g_ tabOk rfl rfl l2_ List.not_mem_nil rfl)<|Y_ (gU_ (j9_ e.tags) (by rw [List.length_map]; omega)) Casts.refl (by kernel_rfl) rfl rfl rfl ?_
 refine ap_<|fun _=>q_ 1 rfl<|e_ (m_ (L' := e.abs) tabOk rfl rfl rfl u2_ rfl (Nat.le_of_ble_eq_true rfl) rfl rfl) rfl rfl<|d_<|b_<|c_<|c_<|a_<|q_ 1 rfl<|slvA (V_ rfl rfl)<|Y_ (ft_ (v := z5) (xs := q.ends) (k := 109) (caps := [ptr b3]) (σ := [.rd b3 213 e.abs]) (p := fun x : En => decide (x.org = e.org)) (by kernel_rfl) (by intro x hx; simp only [List.mem_cons, List.not_mem_nil, or_false] at hx; rcases hx with rfl; exact .inl ⟨_, _, _, rfl⟩) (by omega) (fun x _ => with1_s (e := e))) Casts.refl (by kernel_rfl) rfl rfl rfl ?_
 refine ap_<|fun z1=>q_ 1 rfl<|d_<|b_<|c_<|a_<|q_ 2 rfl<|d_<|b_<|l_ rfl ?_ ?_
 ·intro hc19
  obtain ⟨i1, hi1, he1, hp1, hn1⟩ : ∃ i, ∃ h : i < q.ends.length, z1.1 = (i : Nat) ∧ q.ends[i].org = e.org ∧ ∀ j (hj : j < i), ¬ (q.ends[j]'(by omega)).org = e.org := by
   rcases z1.2 with ⟨h, _⟩ | ⟨i, hi, h1, h2, h3⟩
   ·omega
   exact ⟨i, hi, h1, of_decide_eq_true h2, fun j hj => of_decide_eq_false (h3 j hj)⟩
  have hw : withL q.ends e = q.ends.set i1 e := by
   unfold withL
   rw [show hasE q.ends e.org = true from List.any_eq_true.2 ⟨_, List.getElem_mem hi1, decide_eq_true hp1⟩]
   exact il_ hi1 hp1 hn1
  refine c_<|a_<|q_ 2 rfl<|slvA (r_ tabOk rfl rfl rfl l2_ List.not_mem_nil rfl)<|slvA (aU_ (q := i1) tabOk Tryz.underlying132 rfl rfl (.inl i0_) rfl he1 (by rw [List.length_map]; exact hi1) rfl rfl) ?_
  refine e_ (jH_ (q := i1) (ys := e.abs) tabOk rfl rfl rfl u0_ rfl rfl rfl (by rw [List.length_map]; exact hi1) rfl) rfl rfl ?_
  refine d_<|b_<|c_<|aC_ [] (t := 5) rfl rfl ?_
  rw [show List.set (List.map En.abs q.ends) i1 e.abs = (withL q.ends e).map En.abs by rw [hw, List.map_set]]
  refine a_<|q_ 1 rfl<|slvA (h_ (C := coreA q.core) (ad_ tabOk rfl rfl rfl l2_ List.not_mem_nil (Nat.le_of_ble_eq_true rfl)) (congrArg Abs.agg (Rq.part _)))<|q_ 1 rfl<|slvA (z_ (L := (Rq.mk q.core (withL q.ends e)).abs) tabOk rfl rfl rfl rfl)<|e_ (m_ (L' := (Rq.mk q.core (withL q.ends e)).abs) tabOk rfl rfl rfl u0_ rfl (Nat.le_of_ble_eq_true rfl) rfl (by exact p_ rfl)) rfl rfl ?_
  refine d_<|b_<|k_<|j_ nofun<|f_ (rs := [.cell 4 134]) rfl (RV.cell rfl (RV.cellA tabOk rfl rfl l0_ (by rfl)) RV.nil) (()) sn_ ?_
  exact rfl
 intro hc19
 have hno : hasE q.ends e.org = false := by
  rcases z1.2 with ⟨_, h⟩ | ⟨i, hi, h1, _⟩
  ·unfold hasE
   rw [Bool.eq_false_iff]
   intro h2
   obtain ⟨x, hx, h3⟩ := List.any_eq_true.1 h2
   have h4 : decide (x.org = e.org) = false := h x hx
   rw [h4] at h3
   cases h3
  omega
 refine o_<|b_<|c_<|a_<|q_ 1 rfl<|slvA (V_ rfl rfl)<|Y_ (ft_ (v := z5) (xs := q.ends) (k := 110) (caps := [ptr b3]) (σ := [.rd b3 213 e.abs]) (p := fun x : En => decide (e.org < x.org)) (by kernel_rfl) (by intro x hx; simp only [List.mem_cons, List.not_mem_nil, or_false] at hx; rcases hx with rfl; exact .inl ⟨_, _, _, rfl⟩) (by omega) (fun x _ => with2_s (e := e))) Casts.refl (by kernel_rfl) rfl rfl rfl ?_
 refine ap_<|fun z2=>q_ 1 rfl<|d_<|b_<|c_<|c_<|a_<|q_ 2 rfl<|d_<|b_<|l_ rfl ?_ ?_
 rotate_left
 ·intro hc32
  obtain ⟨i2, hi2, he2, hw⟩ : ∃ i : Nat, i ≤ q.ends.length ∧ z2.1 = (i : Nat) ∧ withL q.ends e = q.ends.take i ++ e :: q.ends.drop i := by
   unfold withL
   rw [hno]
   rcases z2.2 with ⟨h, h1⟩ | ⟨i, hi, h1, h2, h3⟩
   ·omega
   exact ⟨i, by omega, h1, im_ hi (of_decide_eq_true h2) fun j hj => of_decide_eq_false (h3 j hj)⟩
  refine o_<|b_<|c_ ?_
  have hX : True := trivial
  refine ao_ (p := b2 ∉ (mids ([] : Blks) ++ z5.ownBlock.toList) ∧ b3 ∉ (mids ([] : Blks) ++ z5.ownBlock.toList)) (fun _ _ h => by
    have h1 := h.mem.nodup
    simp [mids, It.mids, ownPc] at h1 ⊢
    grind) fun hX => ?_
  refine as_ (mids ([] : Blks) ++ z5.ownBlock.toList) (.q 0 (.q 1 (.q 2 (.q 3 (.q 4 (.e 5 (.e 6 (.q 7 .nil)))))))) (by kernel_rfl) (by kernel_rfl) ?_
  refine cr_ (by (intro k hk; simp [mids, It.mids, ownPc, bkPc, mapPc] at hk ⊢; grind)) fun hx9 => ?_
  refine qx_ 1 hx9 rfl<|sxvA rfl (h_ (C := coreA q.core) (ad_ tabOk rfl rfl rfl l3_ (by exact hX.1) (Nat.le_of_ble_eq_true rfl)) (congrArg Abs.agg (Rq.part _))) hx9 ?_
  refine qx_ 2 hx9 rfl<|sxvA rfl (r_ tabOk rfl rfl rfl l2_ (by exact hX.2) rfl) hx9 ?_
  refine cs_ [] z5.ownBlock.toList rfl (aA_ tabOk Tryz.underlying132 rfl rfl rfl rfl rfl rfl rfl) rfl (by simp) rfl rfl ?_
  rintro _ _ ⟨r40, rfl, rfl⟩
  refine ⟨[own 213 2 r40 ([e.abs])], rfl, bV_ ([]) rfl (kM_ (u := r40) (v := z5) (xs := q.ends.map En.abs) (y := e.abs) (i := i2) (by rw [List.length_map]; exact hi2) (eY_ q.ends) rfl (by rw [List.length_map]; omega)) (by simp [mids, It.mids, ownPc]) (by simp) (Casts.of_eq (by rw [he2])) (by kernel_rfl) rfl rfl rfl ?_⟩
  refine W_ [] (β := [_, _, _]) rfl (J_ rfl) ?_
  intro z41
  refine g9_ [] (t := 41) rfl rfl ?_
  rw [show List.take i2 (List.map En.abs q.ends) ++ e.abs :: List.drop i2 (List.map En.abs q.ends) = (withL q.ends e).map En.abs by rw [hw, List.map_append, List.map_cons, List.map_take, List.map_drop]]
  refine cr_ (by (simp [mids, It.mids, ownPc, bkPc, mapPc]; done)) fun hx9 => ?_
  refine sxvA rfl (z_ (L := (Rq.mk q.core (withL q.ends e)).abs) tabOk rfl rfl rfl rfl) hx9<|F_<|aq_ rfl (m_ (L' := (Rq.mk q.core (withL q.ends e)).abs) tabOk rfl rfl rfl u0_ rfl (lb_ (by rfl)) rfl (by exact p_ rfl)) rfl rfl ?_
  rintro _ _ ⟨rfl, rfl⟩
  refine b_<|k_<|f_ (rs := [.cell 4 134]) rfl (RV.cell rfl (RV.cellA tabOk rfl rfl l0_ (by rfl)) RV.nil) (()) sn_ ?_
  exact rfl
 intro hc32
 obtain ⟨i2, hi2, he2, hw⟩ : ∃ i : Nat, i ≤ q.ends.length ∧ ((q.ends.length : Nat) : Int) = (i : Nat) ∧ withL q.ends e = q.ends.take i ++ e :: q.ends.drop i := by
  unfold withL
  rw [hno]
  rcases z2.2 with ⟨h, h1⟩ | ⟨i, hi, h1, h2, h3⟩
  ·exact ⟨q.ends.length, Nat.le_refl _, rfl, in_ fun x hx => of_decide_eq_false (h1 x hx)⟩
  omega
 refine a_<|q_ 1 rfl<|slvA (aJ_ rfl i0_ Tryz.underlying132 (List.length_map _))<|q_ 1 rfl<|d_<|b_<|c_ ?_
 have hX : True := trivial
 refine ao_ (p := b2 ∉ (mids ([] : Blks) ++ z5.ownBlock.toList) ∧ b3 ∉ (mids ([] : Blks) ++ z5.ownBlock.toList)) (fun _ _ h => by
   have h1 := h.mem.nodup
   simp [mids, It.mids, ownPc] at h1 ⊢
   grind) fun hX => ?_
 refine as_ (mids ([] : Blks) ++ z5.ownBlock.toList) (.q 0 (.q 1 (.q 2 (.q 3 (.q 4 (.e 5 (.e 6 (.q 7 .nil)))))))) (by kernel_rfl) (by kernel_rfl) ?_
 refine cr_ (by (intro k hk; simp [mids, It.mids, ownPc, bkPc, mapPc] at hk ⊢; grind)) fun hx9 => ?_
 refine qx_ 1 hx9 rfl<|sxvA rfl (h_ (C := coreA q.core) (ad_ tabOk rfl rfl rfl l3_ (by exact hX.1) (Nat.le_of_ble_eq_true rfl)) (congrArg Abs.agg (Rq.part _))) hx9 ?_
 refine qx_ 2 hx9 rfl<|sxvA rfl (r_ tabOk rfl rfl rfl l2_ (by exact hX.2) rfl) hx9 ?_
 refine cs_ [] z5.ownBlock.toList rfl (aA_ tabOk Tryz.underlying132 rfl rfl rfl rfl rfl rfl rfl) rfl (by simp) rfl rfl ?_
 rintro _ _ ⟨r40, rfl, rfl⟩
 refine ⟨[own 213 2 r40 ([e.abs])], rfl, bV_ ([]) rfl (kM_ (u := r40) (v := z5) (xs := q.ends.map En.abs) (y := e.abs) (i := i2) (by rw [List.length_map]; exact hi2) (eY_ q.ends) rfl (by rw [List.length_map]; omega)) (by simp [mids, It.mids, ownPc]) (by simp) (Casts.of_eq (by rw [he2])) (by kernel_rfl) rfl rfl rfl ?_⟩
 refine W_ [] (β := [_, _, _]) rfl (J_ rfl) ?_
 intro z41
 refine g9_ [] (t := 41) rfl rfl ?_
 rw [show List.take i2 (List.map En.abs q.ends) ++ e.abs :: List.drop i2 (List.map En.abs q.ends) = (withL q.ends e).map En.abs by rw [hw, List.map_append, List.map_cons, List.map_take, List.map_drop]]
 refine cr_ (by (simp [mids, It.mids, ownPc, bkPc, mapPc]; done)) fun hx9 => ?_
 refine sxvA rfl (z_ (L := (Rq.mk q.core (withL q.ends e)).abs) tabOk rfl rfl rfl rfl) hx9<|F_<|aq_ rfl (m_ (L' := (Rq.mk q.core (withL q.ends e)).abs) tabOk rfl rfl rfl u0_ rfl (lb_ (by rfl)) rfl (by exact p_ rfl)) rfl rfl ?_
 rintro _ _ ⟨rfl, rfl⟩
 refine b_<|k_<|f_ (rs := [.cell 4 134]) rfl (RV.cell rfl (RV.cellA tabOk rfl rfl l0_ (by rfl)) RV.nil) (()) sn_ ?_
 exact rfl
end
theorem aZ_ {es : List En} {z : Nat} (h : z < es.length) : es.take (z + 1) = es.take z ++ [es[z]] := List.take_succ_eq_append_getElem h
section
variable {q q2 : Rq} {e : En} {n who : Int}
set_option maxHeartbeats 4000000 in
def Rq.few (q : Rq) : Bool := (q.ends.all fun e => decide ((e.tags.length : Int) ≤ 20)) && (decide ((q.core.letter.size : Int) ≤ 100) && (decide ((q.core.text.size : Int) ≤ 300) && decide ((q.ends.length : Int) ≤ 20)))
end
end Go.Proofs.YtjclgkddfjbdiaaGreatDoor.A
