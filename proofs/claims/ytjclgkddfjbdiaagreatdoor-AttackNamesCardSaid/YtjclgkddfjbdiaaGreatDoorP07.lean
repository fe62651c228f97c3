/-
  Packed out of the texts: Cores, ACor, Pnt, Arr32, PntEq, Tg, AN6, Book, BookDo, BookSee, BookCheck, BookLaw, BookInv, AFace, ABook, ABk2, StrK, Cry.
-/
import Derived.Test.YtjclgkddfjbdiaaGreatDoorP06
import Derived.DataShut
import Derived.DeepKeys4
import Derived.Laws.BytesArg
import Derived.Laws.CopyOwn
import Derived.Lib.SlBytesConst
set_option maxRecDepth 100000
set_option linter.unusedSimpArgs false
set_option linter.unusedVariables false
namespace Go.Proofs.YtjclgkddfjbdiaaGreatDoor
open Go.RowKit
structure Core where
  client : Int
  stamp : Int
  op : Int
  letter : ByteArray
  a : Int
  b : Int
  text : ByteArray
def Core.cells (c : Core) : List Value := [.int .i64 c.client, .int .i64 c.stamp, .int .i64 c.op, .string c.letter, .int .i64 c.a, .int .i64 c.b, .string c.text]
def Core.check (c : Core) (n : Int) : Int :=
  if n < 1 ∨ 7 < n then 1 else if c.client < n ∨ n + 4 ≤ c.client then 17 else if c.stamp < 1 ∨ 1099511627776 < c.stamp ∨ c.op < 1 ∨ 9 < c.op then 5 else if nameB c.letter = false then 7 else if 200 < c.text.size then 3 else 0
def rowB (m : List UInt8) : List UInt8 := beBytes m.length 4 ++ m
def Core.bytes (c : Core) : List UInt8 :=
  beBytes (u64 c.client) 1 ++ beBytes (u64 c.stamp) 8 ++ beBytes (u64 c.op) 1 ++ rowB c.letter.data.toList ++ beBytes (u64 c.a) 8 ++ beBytes (u64 c.b) 8 ++ rowB c.text.data.toList
theorem dU_ (x : Int) : u64 x < 18446744073709551616 := by unfold u64; omega
section
variable {S : List (World × List Nat)} {σ τ : Blks} {ρ : List Dt} {w : World} {P : Program} {n : Nat} {l : Slots} {D : World → Prop} {x y : Operand} {d : Option Nat} {ty t : TypeId} {pos : String} {aft : Array Edge} {g : Option (Nat × Bool)} {v : Value}
theorem dE_ {tab : List (Nat × TI)} (hT : TabOk P tab) {sz m e sz' : Nat} {zs zs' L : List Value} {k : IntKind} {r : Int} {q : Nat} (ht : ti tab t = some ⟨sz, .array m e, zs⟩) (hj : ti tab e = some ⟨sz', .one, zs'⟩) (hs : Nat.beq sz' 1 = true) (hx : look l x = some (.agg L.toArray)) (hy : look l y = some (.int k r)) (hr : r = (q : Nat)) (hq : q < m) (hv : L[q]? = some v) :
    Val P n l D ⟨d, .index t x y, ty, pos, aft, g⟩ v := fun A w hf hD => by
  obtain ⟨dd, hu, hk⟩ := (hT t _ ht).und
  cases dd <;> simp [kindOk] at hk
  obtain ⟨rfl, rfl⟩ := hk
  have h1 := (hT _ _ hj).sizeOf (w := w)
  have h2 := (hT _ _ hj).isAgg (w := w)
  rw [show sz' = 1 from Nat.eq_of_beq_eq_true hs] at h1
  subst hr
  simp [execOp, Instr.index, asIntOf, hf.eval hx, hf.eval hy, run_underlying hu, Sem.run_bind, Result.andThen, hq, h1, part, h2, hv]
set_option maxHeartbeats 400000 in
theorem check_c {c : Core} {n : Int} (hw : Mem S σ ρ w) : Calls Tryz.prog 82 #[.agg c.cells.toArray, .int .i64 n] w fun e w' => e = .returned (.int .i64 (c.check n)) ∧ Mem S σ ρ w' := by
  refine au_ [.agg c.cells.toArray, .int .i64 n] Tryz.func82 rfl Tryz.ntmps82 rfl (Mem S σ ρ) hw ?_
  refine c_ (a_ ?_)
  refine aT_ (z_ rfl) rfl rfl ?_
  rintro _ _ ⟨b2, rfl, rfl⟩
  refine d_ (l_ rfl) rfl rfl ?_
  refine g_ (b_ ?_)
  refine c_ ?_
  refine w_ ?_
  refine c_ (a_ ?_)
  refine d_ (r_ rfl) rfl rfl ?_
  refine d_ (bi_ rfl rfl) rfl rfl ?_
  refine d_ (r_ rfl) rfl rfl ?_
  refine D_ (t := 8) rfl ?_ ?_
  · intro hc8
    iterate 2 refine aD_ rfl rfl ?_
    refine d_ (U_ rfl rfl) rfl rfl ?_
    refine d_ (l_ rfl) rfl rfl ?_
    refine g_ (b_ ?_)
    refine ab_ rfl ?_
    refine c_ (a_ ?_)
    refine d_ (l_ rfl) rfl rfl ?_
    refine g_ (b_ ?_)
    refine o_ ?_
    refine aF_ ?_
    refine k_ (by intro h; cases h) ?_
    refine Z_ rfl rfl ?_
    intro w' hw'
    refine ⟨?_, hw'.sub (fun _ h => h) (List.sublist_cons_self _ _)⟩
    congr 2
    unfold Core.check
    repeat' split
    all_goals first | rfl | omega | simp_all
  intro hc8
  refine d_ (r_ rfl) rfl rfl ?_
  refine d_ (a1_ rfl rfl) rfl rfl ?_
  refine d_ (aj_ rfl rfl) rfl rfl ?_
  refine d_ (l_ rfl) rfl rfl ?_
  refine g_ (b_ ?_)
  refine n_ rfl ?_ ?_
  · intro hc5
    refine c_ (a_ ?_)
    refine d_ (l_ rfl) rfl rfl ?_
    refine g_ (b_ ?_)
    refine o_ ?_
    refine aF_ ?_
    refine k_ (by intro h; cases h) ?_
    refine Z_ rfl rfl ?_
    intro w' hw'
    refine ⟨?_, hw'.sub (fun _ h => h) (List.sublist_cons_self _ _)⟩
    congr 2
    unfold Core.check
    repeat' split
    all_goals first | rfl | omega | simp_all
  intro hc5
  refine c_ (a_ ?_)
  refine d_ (G_ tabOk rfl rfl rfl rfl rfl) rfl rfl ?_
  refine d_ (h_ tabOk rfl rfl (by repeat (first | assumption | exact List.mem_cons_self | exact hmem _ | apply List.mem_cons_of_mem)) (by rfl)) rfl rfl ?_
  refine d_ (r_ rfl) rfl rfl ?_
  refine d_ (bi_ rfl rfl) rfl rfl ?_
  refine d_ (r_ rfl) rfl rfl ?_
  refine D_ (t := 17) rfl ?_ ?_
  · intro hc17
    iterate 5 refine aD_ rfl rfl ?_
    refine d_ (U_ rfl rfl) rfl rfl ?_
    refine d_ (l_ rfl) rfl rfl ?_
    refine g_ (b_ ?_)
    refine ab_ rfl ?_
    refine c_ (a_ ?_)
    refine d_ (l_ rfl) rfl rfl ?_
    refine g_ (b_ ?_)
    refine o_ ?_
    refine aF_ ?_
    refine k_ (by intro h; cases h) ?_
    refine Z_ rfl rfl ?_
    intro w' hw'
    refine ⟨?_, hw'.sub (fun _ h => h) (List.sublist_cons_self _ _)⟩
    congr 2
    unfold Core.check
    repeat' split
    all_goals first | rfl | omega | simp_all
  intro hc17
  refine d_ (G_ tabOk rfl rfl rfl rfl rfl) rfl rfl ?_
  refine d_ (h_ tabOk rfl rfl (by repeat (first | assumption | exact List.mem_cons_self | exact hmem _ | apply List.mem_cons_of_mem)) (by rfl)) rfl rfl ?_
  refine d_ (r_ rfl) rfl rfl ?_
  refine d_ (E_ rfl rfl (by simp only [InR, lo, hi]; omega)) rfl rfl ?_
  refine d_ (du_ rfl rfl) rfl rfl ?_
  refine d_ (aj_ rfl rfl) rfl rfl ?_
  refine d_ (l_ rfl) rfl rfl ?_
  refine g_ (b_ ?_)
  refine n_ rfl ?_ ?_
  · intro hc12
    refine c_ (a_ ?_)
    refine d_ (l_ rfl) rfl rfl ?_
    refine g_ (b_ ?_)
    refine o_ ?_
    refine aF_ ?_
    refine k_ (by intro h; cases h) ?_
    refine Z_ rfl rfl ?_
    intro w' hw'
    refine ⟨?_, hw'.sub (fun _ h => h) (List.sublist_cons_self _ _)⟩
    congr 2
    unfold Core.check
    repeat' split
    all_goals first | rfl | omega | simp_all
  intro hc12
  refine c_ (a_ ?_)
  refine d_ (G_ tabOk rfl rfl rfl rfl rfl) rfl rfl ?_
  refine d_ (h_ tabOk rfl rfl (by repeat (first | assumption | exact List.mem_cons_self | exact hmem _ | apply List.mem_cons_of_mem)) (by rfl)) rfl rfl ?_
  refine d_ (bi_ rfl rfl) rfl rfl ?_
  refine d_ (r_ rfl) rfl rfl ?_
  refine D_ (t := 28) rfl ?_ ?_
  · intro hc28
    iterate 3 refine aD_ rfl rfl ?_
    refine d_ (U_ rfl rfl) rfl rfl ?_
    refine d_ (r_ rfl) rfl rfl ?_
    iterate 3 refine aD_ rfl rfl ?_
    refine d_ (U_ rfl rfl) rfl rfl ?_
    refine d_ (r_ rfl) rfl rfl ?_
    iterate 3 refine aD_ rfl rfl ?_
    refine d_ (U_ rfl rfl) rfl rfl ?_
    refine d_ (l_ rfl) rfl rfl ?_
    refine g_ (b_ ?_)
    refine ab_ rfl ?_
    refine c_ (a_ ?_)
    refine d_ (l_ rfl) rfl rfl ?_
    refine g_ (b_ ?_)
    refine o_ ?_
    refine aF_ ?_
    refine k_ (by intro h; cases h) ?_
    refine Z_ rfl rfl ?_
    intro w' hw'
    refine ⟨?_, hw'.sub (fun _ h => h) (List.sublist_cons_self _ _)⟩
    congr 2
    unfold Core.check
    repeat' split
    all_goals first | rfl | omega | simp_all
  intro hc28
  refine d_ (G_ tabOk rfl rfl rfl rfl rfl) rfl rfl ?_
  refine d_ (h_ tabOk rfl rfl (by repeat (first | assumption | exact List.mem_cons_self | exact hmem _ | apply List.mem_cons_of_mem)) (by rfl)) rfl rfl ?_
  refine d_ (a1_ rfl rfl) rfl rfl ?_
  refine d_ (aj_ rfl rfl) rfl rfl ?_
  refine d_ (r_ rfl) rfl rfl ?_
  refine D_ (t := 33) rfl ?_ ?_
  · intro hc33
    iterate 3 refine aD_ rfl rfl ?_
    refine d_ (U_ rfl rfl) rfl rfl ?_
    refine d_ (r_ rfl) rfl rfl ?_
    iterate 3 refine aD_ rfl rfl ?_
    refine d_ (U_ rfl rfl) rfl rfl ?_
    refine d_ (l_ rfl) rfl rfl ?_
    refine g_ (b_ ?_)
    refine ab_ rfl ?_
    refine c_ (a_ ?_)
    refine d_ (l_ rfl) rfl rfl ?_
    refine g_ (b_ ?_)
    refine o_ ?_
    refine aF_ ?_
    refine k_ (by intro h; cases h) ?_
    refine Z_ rfl rfl ?_
    intro w' hw'
    refine ⟨?_, hw'.sub (fun _ h => h) (List.sublist_cons_self _ _)⟩
    congr 2
    unfold Core.check
    repeat' split
    all_goals first | rfl | omega | simp_all
  intro hc33
  refine d_ (G_ tabOk rfl rfl rfl rfl rfl) rfl rfl ?_
  refine d_ (h_ tabOk rfl rfl (by repeat (first | assumption | exact List.mem_cons_self | exact hmem _ | apply List.mem_cons_of_mem)) (by rfl)) rfl rfl ?_
  refine d_ (bi_ rfl rfl) rfl rfl ?_
  refine d_ (aj_ rfl rfl) rfl rfl ?_
  refine d_ (r_ rfl) rfl rfl ?_
  refine D_ (t := 38) rfl ?_ ?_
  · intro hc38
    iterate 3 refine aD_ rfl rfl ?_
    refine d_ (U_ rfl rfl) rfl rfl ?_
    refine d_ (l_ rfl) rfl rfl ?_
    refine g_ (b_ ?_)
    refine ab_ rfl ?_
    refine c_ (a_ ?_)
    refine d_ (l_ rfl) rfl rfl ?_
    refine g_ (b_ ?_)
    refine o_ ?_
    refine aF_ ?_
    refine k_ (by intro h; cases h) ?_
    refine Z_ rfl rfl ?_
    intro w' hw'
    refine ⟨?_, hw'.sub (fun _ h => h) (List.sublist_cons_self _ _)⟩
    congr 2
    unfold Core.check
    repeat' split
    all_goals first | rfl | omega | simp_all
  intro hc38
  refine d_ (G_ tabOk rfl rfl rfl rfl rfl) rfl rfl ?_
  refine d_ (h_ tabOk rfl rfl (by repeat (first | assumption | exact List.mem_cons_self | exact hmem _ | apply List.mem_cons_of_mem)) (by rfl)) rfl rfl ?_
  refine d_ (a1_ rfl rfl) rfl rfl ?_
  refine d_ (aj_ rfl rfl) rfl rfl ?_
  refine d_ (l_ rfl) rfl rfl ?_
  refine g_ (b_ ?_)
  refine n_ rfl ?_ ?_
  · intro hc24
    refine c_ (a_ ?_)
    refine d_ (l_ rfl) rfl rfl ?_
    refine g_ (b_ ?_)
    refine o_ ?_
    refine aF_ ?_
    refine k_ (by intro h; cases h) ?_
    refine Z_ rfl rfl ?_
    intro w' hw'
    refine ⟨?_, hw'.sub (fun _ h => h) (List.sublist_cons_self _ _)⟩
    congr 2
    unfold Core.check
    repeat' split
    all_goals first | rfl | omega | simp_all
  intro hc24
  refine c_ (a_ ?_)
  refine d_ (G_ tabOk rfl rfl rfl rfl rfl) rfl rfl ?_
  refine d_ (h_ tabOk rfl rfl (by repeat (first | assumption | exact List.mem_cons_self | exact hmem _ | apply List.mem_cons_of_mem)) (by rfl)) rfl rfl ?_
  refine m_ (by kernel_rfl) rfl rfl rfl ?_
  intro w hw
  refine (isName_c hw).mono ?_; rintro _ _ ⟨rfl, hm⟩; refine ⟨_, _, rfl, hm, ?_⟩; clear hm hw w
  refine d_ (cs_ rfl) rfl rfl ?_
  refine d_ (l_ rfl) rfl rfl ?_
  refine g_ (b_ ?_)
  refine ay_ rfl ?_ ?_
  · intro hc43
    refine c_ (a_ ?_)
    refine d_ (l_ rfl) rfl rfl ?_
    refine g_ (b_ ?_)
    refine o_ ?_
    refine aF_ ?_
    refine k_ (by intro h; cases h) ?_
    refine Z_ rfl rfl ?_
    intro w' hw'
    refine ⟨?_, hw'.sub (fun _ h => h) (List.sublist_cons_self _ _)⟩
    congr 2
    unfold Core.check
    repeat' split
    all_goals first | rfl | omega | simp_all
  intro hc43
  refine c_ (a_ ?_)
  refine d_ (G_ tabOk rfl rfl rfl rfl rfl) rfl rfl ?_
  refine d_ (h_ tabOk rfl rfl (by repeat (first | assumption | exact List.mem_cons_self | exact hmem _ | apply List.mem_cons_of_mem)) (by rfl)) rfl rfl ?_
  refine d_ (ew_ rfl Tryz.underlying9) rfl rfl ?_
  refine d_ (a1_ rfl rfl) rfl rfl ?_
  refine d_ (l_ rfl) rfl rfl ?_
  refine g_ (b_ ?_)
  refine n_ rfl ?_ ?_
  · intro hc48
    refine c_ (a_ ?_)
    refine d_ (l_ rfl) rfl rfl ?_
    refine g_ (b_ ?_)
    refine o_ ?_
    refine aF_ ?_
    refine k_ (by intro h; cases h) ?_
    refine Z_ rfl rfl ?_
    intro w' hw'
    refine ⟨?_, hw'.sub (fun _ h => h) (List.sublist_cons_self _ _)⟩
    congr 2
    unfold Core.check
    repeat' split
    all_goals first | rfl | omega | simp_all
  intro hc48
  refine s_ ?_
  refine A_ ?_
  refine b_ ?_
  refine c_ (a_ ?_)
  refine d_ (l_ rfl) rfl rfl ?_
  refine g_ (b_ ?_)
  refine o_ ?_
  refine Z_ rfl rfl ?_
  intro w' hw'
  refine ⟨?_, hw'.sub (fun _ h => h) (List.sublist_cons_self _ _)⟩
  congr 2
  unfold Core.check
  repeat' split
  all_goals first | rfl | omega | simp_all
set_option maxHeartbeats 1000000 in
theorem gJ_ {c : Core} (hw : Mem S σ ρ w) (h1 : c.letter.size ≤ 1000000) (h2 : c.text.size ≤ 1000000) : Calls Tryz.prog 95 #[.agg c.cells.toArray] w fun e w' => ∃ r, e = .returned r ∧ Mem S σ (bytesD r c.bytes :: ρ) w' := by
  have h3 : c.letter.size ≤ lots := by unfold lots; omega
  have h4 : c.text.size ≤ lots := by unfold lots; omega
  have hL : c.letter.data.toList.length ≤ 1000000 := h1
  have hT : c.text.data.toList.length ≤ 1000000 := h2
  refine au_ [.agg c.cells.toArray] Tryz.func95 rfl Tryz.ntmps95 rfl (Mem S σ ρ) hw ?_
  refine c_ (a_ ?_)
  refine aT_ (z_ rfl) rfl rfl ?_
  rintro _ _ ⟨b1, rfl, rfl⟩
  refine d_ (l_ rfl) rfl rfl ?_
  refine g_ (b_ ?_)
  refine c_ (a_ ?_)
  refine d_ (G_ tabOk rfl rfl rfl rfl rfl) rfl rfl ?_
  refine d_ (h_ tabOk rfl rfl (by repeat (first | assumption | exact List.mem_cons_self | exact hmem _ | apply List.mem_cons_of_mem)) (by rfl)) rfl rfl ?_
  refine d_ (bA_ rfl Tryz.underlying27 (by kernel_rfl)) rfl rfl ?_
  refine m_ (by kernel_rfl) rfl rfl rfl ?_
  intro w hw
  refine (gz_ (l := []) (x := u64 c.client) (n := 1) hw (BytesV.nil _) (by exact Nat.zero_le _) (dU_ _) rfl).mono ?_; rintro _ _ ⟨r, rfl, hm⟩; refine ⟨_, _, rfl, hm, ?_⟩; clear hm hw w
  refine d_ (l_ rfl) rfl rfl ?_
  refine g_ (b_ ?_)
  refine c_ (a_ ?_)
  refine d_ (r_ rfl) rfl rfl ?_
  refine d_ (G_ tabOk rfl rfl rfl rfl rfl) rfl rfl ?_
  refine d_ (h_ tabOk rfl rfl (by repeat (first | assumption | exact List.mem_cons_self | exact hmem _ | apply List.mem_cons_of_mem)) (by rfl)) rfl rfl ?_
  refine d_ (bA_ rfl Tryz.underlying27 (by kernel_rfl)) rfl rfl ?_
  refine m_ (by kernel_rfl) rfl rfl rfl ?_
  intro w hw
  refine (gz_ (l := ([] ++ beBytes (u64 c.client) (Int.toNat 1))) (x := u64 c.stamp) (n := 8) hw (hw.bytes (by repeat (first | assumption | exact List.mem_cons_self | exact hmem _ | apply List.mem_cons_of_mem))) (by (simp only [List.length_append, v_, List.length_nil]; unfold lots; omega)) (dU_ _) rfl).mono ?_; rintro _ _ ⟨r, rfl, hm⟩; refine ⟨_, _, rfl, hm, ?_⟩; clear hm hw w
  refine d_ (l_ rfl) rfl rfl ?_
  refine g_ (b_ ?_)
  refine c_ ?_
  refine T_ _ (.q 0 (.q 1 (.q 2 (.q 3 (.q 5 (.q 6 (.two 4 7 (.e 7 (.e 8 (.q 9 .nil))) (.e 4 (.e 8 (.q 9 .nil)))))))))) (by kernel_rfl) (by kernel_rfl) (fun _ h => h) (fun _ h => h.drew) ?_
  refine j_ rfl (r_ rfl) rfl rfl ?_
  refine j_ rfl (G_ tabOk rfl rfl rfl rfl rfl) rfl rfl ?_
  refine j_ rfl (h_ tabOk rfl rfl (by repeat (first | assumption | exact List.mem_cons_self | exact hmem _ | apply List.mem_cons_of_mem)) (by rfl)) rfl rfl ?_
  refine j_ rfl (bA_ rfl Tryz.underlying27 (by kernel_rfl)) rfl rfl ?_
  refine j_ rfl (G_ tabOk rfl rfl rfl rfl rfl) rfl rfl ?_
  refine j_ rfl (h_ tabOk rfl rfl (by repeat (first | assumption | exact List.mem_cons_self | exact hmem _ | apply List.mem_cons_of_mem)) (by rfl)) rfl rfl ?_
  refine aQ_ ?_ ?_
  · skip
    refine H_ rfl (by kernel_rfl) rfl rfl rfl ?_
    intro w hw
    refine (gz_ (l := (([] ++ beBytes (u64 c.client) (Int.toNat 1)) ++ beBytes (u64 c.stamp) (Int.toNat 8))) (x := u64 c.op) (n := 1) hw (hw.bytes (by repeat (first | assumption | exact List.mem_cons_self | exact hmem _ | apply List.mem_cons_of_mem))) (by (simp only [List.length_append, v_, List.length_nil]; unfold lots; omega)) (dU_ _) rfl).mono ?_; rintro _ _ ⟨r, rfl, hm⟩; refine ⟨_, _, rfl, hm, _, fun _ h => h.less (fun _ hx => List.mem_cons_of_mem _ hx), fun _ h => h, ?_⟩; clear hm hw w
    refine gd_ rfl (bI_ rfl Tryz.underlying9 Tryz.underlying39 (by assumption)) rfl rfl ?_
    rintro sb22 _ rfl
    refine ⟨_, fun _ h => h.less (fun _ hx => List.mem_cons_of_mem _ hx), fun _ h => h, ?_⟩
    refine H_ rfl (by kernel_rfl) rfl rfl rfl ?_
    intro w hw
    refine (ea_ (l := ((([] ++ beBytes (u64 c.client) (Int.toNat 1)) ++ beBytes (u64 c.stamp) (Int.toNat 8)) ++ beBytes (u64 c.op) (Int.toNat 1))) (m := c.letter.data.toList) hw (by repeat (first | assumption | exact List.mem_cons_self | exact hmem _ | apply List.mem_cons_of_mem)) (by repeat (first | assumption | exact List.mem_cons_self | exact hmem _ | apply List.mem_cons_of_mem)) (by simp only [List.length_append, v_, List.length_nil]; unfold lots; omega) (by omega)).mono ?_; rintro _ _ ⟨r, rfl, hm⟩; refine ⟨_, _, rfl, hm, _, fun _ h => h.less (fun _ hx => List.mem_cons_of_mem _ hx), fun _ h => h, ?_⟩; clear hm hw w
    refine j_ rfl (l_ rfl) rfl rfl ?_
    refine C_ (b_ ?_)
    refine c_ ?_
    refine c_ (a_ ?_)
    refine d_ (G_ tabOk rfl rfl rfl rfl rfl) rfl rfl ?_
    refine d_ (h_ tabOk rfl rfl (by repeat (first | assumption | exact List.mem_cons_self | exact hmem _ | apply List.mem_cons_of_mem)) (by rfl)) rfl rfl ?_
    refine d_ (G_ tabOk rfl rfl rfl rfl rfl) rfl rfl ?_
    refine d_ (h_ tabOk rfl rfl (by repeat (first | assumption | exact List.mem_cons_self | exact hmem _ | apply List.mem_cons_of_mem)) (by rfl)) rfl rfl ?_
    refine d_ (cu_ tabOk rfl rfl rfl rfl) rfl rfl ?_
    refine d_ (r_ rfl) rfl rfl ?_
    refine g_ (b_ ?_)
    refine w_ ?_
    refine S_ (ι := Nat × Value) (fun z => [(1, .pointer (some ⟨b1, 0, none⟩)), (3, z.2), (28, .agg [.int .i64 c.a, .int .i64 c.b].toArray), (29, .int .i64 (z.1 : Nat))]) (fun z w' => z.1 ≤ 2 ∧ Mem S (.blk b1 (row 26 c.cells) :: σ) (bytesD z.2 ((((([] ++ beBytes (u64 c.client) (Int.toNat 1)) ++ beBytes (u64 c.stamp) (Int.toNat 8)) ++ beBytes (u64 c.op) (Int.toNat 1)) ++ beBytes c.letter.data.toList.length 4 ++ c.letter.data.toList) ++ (([c.a, c.b].take z.1).flatMap fun x => beBytes (u64 x) (Int.toNat 8))) :: ρ) w') (fun z => 2 - z.1) (0, _) (by exact ⟨rfl, rfl, rfl, rfl, trivial⟩) (fun w' hw' => ⟨by omega, hw'.less (by intro x hx; simp only [List.take_zero, List.flatMap_nil, List.append_nil] at hx; rcases List.mem_cons.1 hx with rfl | hx <;> simp [*])⟩) ?_
    intro z
    refine dQ_ ?_
    intro hz
    have hlen : ((((([] ++ beBytes (u64 c.client) (Int.toNat 1)) ++ beBytes (u64 c.stamp) (Int.toNat 8)) ++ beBytes (u64 c.op) (Int.toNat 1)) ++ beBytes c.letter.data.toList.length 4 ++ c.letter.data.toList) ++ (([c.a, c.b].take z.1).flatMap fun x => beBytes (u64 x) (Int.toNat 8))).length ≤ 10 + (4 + c.letter.data.toList.length) + 16 := by
      simp only [List.length_append, v_, List.length_nil]
      have : ((([c.a, c.b].take z.1).flatMap fun x => beBytes (u64 x) (Int.toNat 8))).length ≤ 16 := by
        rcases (by omega : z.1 = 0 ∨ z.1 = 1 ∨ z.1 = 2) with h | h | h <;> rw [h] <;> simp [v_]
      omega
    refine c_ (a_ ?_)
    refine d_ (bi_ rfl rfl) rfl rfl ?_
    refine g_ (b_ ?_)
    refine c_ ?_
    refine n_ rfl ?_ ?_
    rotate_left
    · intro hc30
      have e2 : ((((([] ++ beBytes (u64 c.client) (Int.toNat 1)) ++ beBytes (u64 c.stamp) (Int.toNat 8)) ++ beBytes (u64 c.op) (Int.toNat 1)) ++ beBytes c.letter.data.toList.length 4 ++ c.letter.data.toList) ++ (([c.a, c.b].take z.1).flatMap fun x => beBytes (u64 x) (Int.toNat 8))) = (((([] ++ beBytes (u64 c.client) (Int.toNat 1)) ++ beBytes (u64 c.stamp) (Int.toNat 8)) ++ beBytes (u64 c.op) (Int.toNat 1)) ++ beBytes c.letter.data.toList.length 4 ++ c.letter.data.toList) ++ (beBytes (u64 c.a) (Int.toNat 8) ++ beBytes (u64 c.b) (Int.toNat 8)) := by
        have h : z.1 = 2 := by omega
        rw [h]
        simp
      rw [e2] at *
      refine O_ ?_
      refine k_ (by intro h; cases h) ?_
      refine k_ (by intro h; cases h) ?_
      refine N_ ?_
      refine b_ ?_
      refine c_ (a_ ?_)
      refine d_ (r_ rfl) rfl rfl ?_
      refine d_ (G_ tabOk rfl rfl rfl rfl rfl) rfl rfl ?_
      refine d_ (h_ tabOk rfl rfl (by repeat (first | assumption | exact List.mem_cons_self | exact hmem _ | apply List.mem_cons_of_mem)) (by rfl)) rfl rfl ?_
      refine aT_ (bI_ rfl Tryz.underlying9 Tryz.underlying39 (by assumption)) rfl rfl ?_
      rintro sb40 _ rfl
      refine m_ (by kernel_rfl) rfl rfl rfl ?_
      intro w hw
      refine (ea_ (l := ((((([] ++ beBytes (u64 c.client) (Int.toNat 1)) ++ beBytes (u64 c.stamp) (Int.toNat 8)) ++ beBytes (u64 c.op) (Int.toNat 1)) ++ beBytes c.letter.data.toList.length 4 ++ c.letter.data.toList) ++ (beBytes (u64 c.a) (Int.toNat 8) ++ beBytes (u64 c.b) (Int.toNat 8)))) (m := c.text.data.toList) hw (by repeat (first | assumption | exact List.mem_cons_self | exact hmem _ | apply List.mem_cons_of_mem)) (by repeat (first | assumption | exact List.mem_cons_self | exact hmem _ | apply List.mem_cons_of_mem)) (by simp only [List.length_append, v_, List.length_nil]; unfold lots; omega) (by omega)).mono ?_; rintro _ _ ⟨r, rfl, hm⟩; refine ⟨_, _, rfl, hm, ?_⟩; clear hm hw w
      refine d_ (l_ rfl) rfl rfl ?_
      refine g_ (b_ ?_)
      refine o_ ?_
      refine Z_ rfl rfl ?_
      intro w' hw'
      refine ⟨_, rfl, (hw'.sub (fun _ h => h) (List.sublist_cons_self _ _)).less (fun x hx => ?_)⟩
      rcases List.mem_cons.1 hx with rfl | hx
      · have e3 : c.bytes = (((([] ++ beBytes (u64 c.client) (Int.toNat 1)) ++ beBytes (u64 c.stamp) (Int.toNat 8)) ++ beBytes (u64 c.op) (Int.toNat 1)) ++ beBytes c.letter.data.toList.length 4 ++ c.letter.data.toList) ++ (beBytes (u64 c.a) (Int.toNat 8) ++ beBytes (u64 c.b) (Int.toNat 8)) ++ beBytes c.text.data.toList.length 4 ++ c.text.data.toList := by simp [Core.bytes, rowB]
        rw [e3]; simp
      · simp [*]
    intro hc30
    have hlt : z.1 < [c.a, c.b].length := by show z.1 < 2; omega
    have helt : [Value.int .i64 c.a, Value.int .i64 c.b][z.1]? = some (.int .i64 ([c.a, c.b][z.1]'hlt)) := by
      rcases (by omega : z.1 = 0 ∨ z.1 = 1) with h | h <;> simp only [h] <;> rfl
    refine s_ ?_
    refine b_ ?_
    refine c_ ?_
    refine w_ ?_
    refine c_ (a_ ?_)
    refine d_ (dE_ (L := [.int .i64 c.a, .int .i64 c.b]) (v := .int .i64 ([c.a, c.b][z.1]'hlt)) (q := z.1) tabOk rfl rfl rfl rfl rfl rfl hlt helt) rfl rfl ?_
    refine d_ (l_ rfl) rfl rfl ?_
    refine g_ (b_ ?_)
    refine a_ ?_
    iterate 2 refine d_ (r_ rfl) rfl rfl ?_
    refine d_ (bA_ rfl Tryz.underlying27 (by kernel_rfl)) rfl rfl ?_
    refine m_ (by kernel_rfl) rfl rfl rfl ?_
    intro w hw
    refine (gz_ (l := ((((([] ++ beBytes (u64 c.client) (Int.toNat 1)) ++ beBytes (u64 c.stamp) (Int.toNat 8)) ++ beBytes (u64 c.op) (Int.toNat 1)) ++ beBytes c.letter.data.toList.length 4 ++ c.letter.data.toList) ++ (([c.a, c.b].take z.1).flatMap fun x => beBytes (u64 x) (Int.toNat 8)))) (x := u64 ([c.a, c.b][z.1]'hlt)) (n := 8) hw (hw.bytes (by repeat (first | assumption | exact List.mem_cons_self | exact hmem _ | apply List.mem_cons_of_mem))) (by unfold lots; omega) (dU_ _) rfl).mono ?_; rintro _ _ ⟨r, rfl, hm⟩; refine ⟨_, _, rfl, hm, ?_⟩; clear hm hw w
    refine d_ (l_ rfl) rfl rfl ?_
    refine g_ ?_
    refine A_ ?_
    refine b_ ?_
    refine a_ ?_
    refine d_ (E_ rfl rfl (by simp only [InR, lo, hi]; omega)) rfl rfl ?_
    refine d_ (r_ rfl) rfl rfl ?_
    refine g_ ?_
    refine J_ (z.1 + 1, r) (by show 2 - (z.1 + 1) < 2 - z.1; omega) (by exact ⟨rfl, rfl, rfl, rfl, trivial⟩) (fun w' hw' => ⟨by show z.1 + 1 ≤ 2; omega, ?_⟩)
    have e1 : ((((([] ++ beBytes (u64 c.client) (Int.toNat 1)) ++ beBytes (u64 c.stamp) (Int.toNat 8)) ++ beBytes (u64 c.op) (Int.toNat 1)) ++ beBytes c.letter.data.toList.length 4 ++ c.letter.data.toList) ++ (([c.a, c.b].take (z.1 + 1)).flatMap fun x => beBytes (u64 x) (Int.toNat 8))) = ((((([] ++ beBytes (u64 c.client) (Int.toNat 1)) ++ beBytes (u64 c.stamp) (Int.toNat 8)) ++ beBytes (u64 c.op) (Int.toNat 1)) ++ beBytes c.letter.data.toList.length 4 ++ c.letter.data.toList) ++ (([c.a, c.b].take z.1).flatMap fun x => beBytes (u64 x) (Int.toNat 8))) ++ beBytes (u64 ([c.a, c.b][z.1]'hlt)) (Int.toNat 8) := by
      rw [List.take_succ_eq_append_getElem hlt, List.flatMap_append, ← List.append_assoc]
      simp
    show Mem S _ (bytesD r ((((([] ++ beBytes (u64 c.client) (Int.toNat 1)) ++ beBytes (u64 c.stamp) (Int.toNat 8)) ++ beBytes (u64 c.op) (Int.toNat 1)) ++ beBytes c.letter.data.toList.length 4 ++ c.letter.data.toList) ++ (([c.a, c.b].take (z.1 + 1)).flatMap fun x => beBytes (u64 x) (Int.toNat 8))) :: ρ) w'
    rw [e1]
    exact hw'.less (fun x hx => by rcases List.mem_cons.1 hx with rfl | hx <;> simp [*])
  · skip
    refine gd_ rfl (bI_ rfl Tryz.underlying9 Tryz.underlying39 (by assumption)) rfl rfl ?_
    rintro sb22 _ rfl
    refine ⟨_, fun _ h => h.less (fun _ hx => List.mem_cons_of_mem _ hx), fun _ h => h, ?_⟩
    refine H_ rfl (by kernel_rfl) rfl rfl rfl ?_
    intro w hw
    refine (gz_ (l := (([] ++ beBytes (u64 c.client) (Int.toNat 1)) ++ beBytes (u64 c.stamp) (Int.toNat 8))) (x := u64 c.op) (n := 1) hw (hw.bytes (by repeat (first | assumption | exact List.mem_cons_self | exact hmem _ | apply List.mem_cons_of_mem))) (by (simp only [List.length_append, v_, List.length_nil]; unfold lots; omega)) (dU_ _) rfl).mono ?_; rintro _ _ ⟨r, rfl, hm⟩; refine ⟨_, _, rfl, hm, _, fun _ h => h.less (fun _ hx => List.mem_cons_of_mem _ hx), fun _ h => h, ?_⟩; clear hm hw w
    refine H_ rfl (by kernel_rfl) rfl rfl rfl ?_
    intro w hw
    refine (ea_ (l := ((([] ++ beBytes (u64 c.client) (Int.toNat 1)) ++ beBytes (u64 c.stamp) (Int.toNat 8)) ++ beBytes (u64 c.op) (Int.toNat 1))) (m := c.letter.data.toList) hw (by repeat (first | assumption | exact List.mem_cons_self | exact hmem _ | apply List.mem_cons_of_mem)) (by repeat (first | assumption | exact List.mem_cons_self | exact hmem _ | apply List.mem_cons_of_mem)) (by simp only [List.length_append, v_, List.length_nil]; unfold lots; omega) (by omega)).mono ?_; rintro _ _ ⟨r, rfl, hm⟩; refine ⟨_, _, rfl, hm, _, fun _ h => h.less (fun _ hx => List.mem_cons_of_mem _ hx), fun _ h => h, ?_⟩; clear hm hw w
    refine j_ rfl (l_ rfl) rfl rfl ?_
    refine C_ (b_ ?_)
    refine c_ ?_
    refine c_ (a_ ?_)
    refine d_ (G_ tabOk rfl rfl rfl rfl rfl) rfl rfl ?_
    refine d_ (h_ tabOk rfl rfl (by repeat (first | assumption | exact List.mem_cons_self | exact hmem _ | apply List.mem_cons_of_mem)) (by rfl)) rfl rfl ?_
    refine d_ (G_ tabOk rfl rfl rfl rfl rfl) rfl rfl ?_
    refine d_ (h_ tabOk rfl rfl (by repeat (first | assumption | exact List.mem_cons_self | exact hmem _ | apply List.mem_cons_of_mem)) (by rfl)) rfl rfl ?_
    refine d_ (cu_ tabOk rfl rfl rfl rfl) rfl rfl ?_
    refine d_ (r_ rfl) rfl rfl ?_
    refine g_ (b_ ?_)
    refine w_ ?_
    refine S_ (ι := Nat × Value) (fun z => [(1, .pointer (some ⟨b1, 0, none⟩)), (3, z.2), (28, .agg [.int .i64 c.a, .int .i64 c.b].toArray), (29, .int .i64 (z.1 : Nat))]) (fun z w' => z.1 ≤ 2 ∧ Mem S (.blk b1 (row 26 c.cells) :: σ) (bytesD z.2 ((((([] ++ beBytes (u64 c.client) (Int.toNat 1)) ++ beBytes (u64 c.stamp) (Int.toNat 8)) ++ beBytes (u64 c.op) (Int.toNat 1)) ++ beBytes c.letter.data.toList.length 4 ++ c.letter.data.toList) ++ (([c.a, c.b].take z.1).flatMap fun x => beBytes (u64 x) (Int.toNat 8))) :: ρ) w') (fun z => 2 - z.1) (0, _) (by exact ⟨rfl, rfl, rfl, rfl, trivial⟩) (fun w' hw' => ⟨by omega, hw'.less (by intro x hx; simp only [List.take_zero, List.flatMap_nil, List.append_nil] at hx; rcases List.mem_cons.1 hx with rfl | hx <;> simp [*])⟩) ?_
    intro z
    refine dQ_ ?_
    intro hz
    have hlen : ((((([] ++ beBytes (u64 c.client) (Int.toNat 1)) ++ beBytes (u64 c.stamp) (Int.toNat 8)) ++ beBytes (u64 c.op) (Int.toNat 1)) ++ beBytes c.letter.data.toList.length 4 ++ c.letter.data.toList) ++ (([c.a, c.b].take z.1).flatMap fun x => beBytes (u64 x) (Int.toNat 8))).length ≤ 10 + (4 + c.letter.data.toList.length) + 16 := by
      simp only [List.length_append, v_, List.length_nil]
      have : ((([c.a, c.b].take z.1).flatMap fun x => beBytes (u64 x) (Int.toNat 8))).length ≤ 16 := by
        rcases (by omega : z.1 = 0 ∨ z.1 = 1 ∨ z.1 = 2) with h | h | h <;> rw [h] <;> simp [v_]
      omega
    refine c_ (a_ ?_)
    refine d_ (bi_ rfl rfl) rfl rfl ?_
    refine g_ (b_ ?_)
    refine c_ ?_
    refine n_ rfl ?_ ?_
    rotate_left
    · intro hc30
      have e2 : ((((([] ++ beBytes (u64 c.client) (Int.toNat 1)) ++ beBytes (u64 c.stamp) (Int.toNat 8)) ++ beBytes (u64 c.op) (Int.toNat 1)) ++ beBytes c.letter.data.toList.length 4 ++ c.letter.data.toList) ++ (([c.a, c.b].take z.1).flatMap fun x => beBytes (u64 x) (Int.toNat 8))) = (((([] ++ beBytes (u64 c.client) (Int.toNat 1)) ++ beBytes (u64 c.stamp) (Int.toNat 8)) ++ beBytes (u64 c.op) (Int.toNat 1)) ++ beBytes c.letter.data.toList.length 4 ++ c.letter.data.toList) ++ (beBytes (u64 c.a) (Int.toNat 8) ++ beBytes (u64 c.b) (Int.toNat 8)) := by
        have h : z.1 = 2 := by omega
        rw [h]
        simp
      rw [e2] at *
      refine O_ ?_
      refine k_ (by intro h; cases h) ?_
      refine k_ (by intro h; cases h) ?_
      refine N_ ?_
      refine b_ ?_
      refine c_ (a_ ?_)
      refine d_ (r_ rfl) rfl rfl ?_
      refine d_ (G_ tabOk rfl rfl rfl rfl rfl) rfl rfl ?_
      refine d_ (h_ tabOk rfl rfl (by repeat (first | assumption | exact List.mem_cons_self | exact hmem _ | apply List.mem_cons_of_mem)) (by rfl)) rfl rfl ?_
      refine aT_ (bI_ rfl Tryz.underlying9 Tryz.underlying39 (by assumption)) rfl rfl ?_
      rintro sb40 _ rfl
      refine m_ (by kernel_rfl) rfl rfl rfl ?_
      intro w hw
      refine (ea_ (l := ((((([] ++ beBytes (u64 c.client) (Int.toNat 1)) ++ beBytes (u64 c.stamp) (Int.toNat 8)) ++ beBytes (u64 c.op) (Int.toNat 1)) ++ beBytes c.letter.data.toList.length 4 ++ c.letter.data.toList) ++ (beBytes (u64 c.a) (Int.toNat 8) ++ beBytes (u64 c.b) (Int.toNat 8)))) (m := c.text.data.toList) hw (by repeat (first | assumption | exact List.mem_cons_self | exact hmem _ | apply List.mem_cons_of_mem)) (by repeat (first | assumption | exact List.mem_cons_self | exact hmem _ | apply List.mem_cons_of_mem)) (by simp only [List.length_append, v_, List.length_nil]; unfold lots; omega) (by omega)).mono ?_; rintro _ _ ⟨r, rfl, hm⟩; refine ⟨_, _, rfl, hm, ?_⟩; clear hm hw w
      refine d_ (l_ rfl) rfl rfl ?_
      refine g_ (b_ ?_)
      refine o_ ?_
      refine Z_ rfl rfl ?_
      intro w' hw'
      refine ⟨_, rfl, (hw'.sub (fun _ h => h) (List.sublist_cons_self _ _)).less (fun x hx => ?_)⟩
      rcases List.mem_cons.1 hx with rfl | hx
      · have e3 : c.bytes = (((([] ++ beBytes (u64 c.client) (Int.toNat 1)) ++ beBytes (u64 c.stamp) (Int.toNat 8)) ++ beBytes (u64 c.op) (Int.toNat 1)) ++ beBytes c.letter.data.toList.length 4 ++ c.letter.data.toList) ++ (beBytes (u64 c.a) (Int.toNat 8) ++ beBytes (u64 c.b) (Int.toNat 8)) ++ beBytes c.text.data.toList.length 4 ++ c.text.data.toList := by simp [Core.bytes, rowB]
        rw [e3]; simp
      · simp [*]
    intro hc30
    have hlt : z.1 < [c.a, c.b].length := by show z.1 < 2; omega
    have helt : [Value.int .i64 c.a, Value.int .i64 c.b][z.1]? = some (.int .i64 ([c.a, c.b][z.1]'hlt)) := by
      rcases (by omega : z.1 = 0 ∨ z.1 = 1) with h | h <;> simp only [h] <;> rfl
    refine s_ ?_
    refine b_ ?_
    refine c_ ?_
    refine w_ ?_
    refine c_ (a_ ?_)
    refine d_ (dE_ (L := [.int .i64 c.a, .int .i64 c.b]) (v := .int .i64 ([c.a, c.b][z.1]'hlt)) (q := z.1) tabOk rfl rfl rfl rfl rfl rfl hlt helt) rfl rfl ?_
    refine d_ (l_ rfl) rfl rfl ?_
    refine g_ (b_ ?_)
    refine a_ ?_
    iterate 2 refine d_ (r_ rfl) rfl rfl ?_
    refine d_ (bA_ rfl Tryz.underlying27 (by kernel_rfl)) rfl rfl ?_
    refine m_ (by kernel_rfl) rfl rfl rfl ?_
    intro w hw
    refine (gz_ (l := ((((([] ++ beBytes (u64 c.client) (Int.toNat 1)) ++ beBytes (u64 c.stamp) (Int.toNat 8)) ++ beBytes (u64 c.op) (Int.toNat 1)) ++ beBytes c.letter.data.toList.length 4 ++ c.letter.data.toList) ++ (([c.a, c.b].take z.1).flatMap fun x => beBytes (u64 x) (Int.toNat 8)))) (x := u64 ([c.a, c.b][z.1]'hlt)) (n := 8) hw (hw.bytes (by repeat (first | assumption | exact List.mem_cons_self | exact hmem _ | apply List.mem_cons_of_mem))) (by unfold lots; omega) (dU_ _) rfl).mono ?_; rintro _ _ ⟨r, rfl, hm⟩; refine ⟨_, _, rfl, hm, ?_⟩; clear hm hw w
    refine d_ (l_ rfl) rfl rfl ?_
    refine g_ ?_
    refine A_ ?_
    refine b_ ?_
    refine a_ ?_
    refine d_ (E_ rfl rfl (by simp only [InR, lo, hi]; omega)) rfl rfl ?_
    refine d_ (r_ rfl) rfl rfl ?_
    refine g_ ?_
    refine J_ (z.1 + 1, r) (by show 2 - (z.1 + 1) < 2 - z.1; omega) (by exact ⟨rfl, rfl, rfl, rfl, trivial⟩) (fun w' hw' => ⟨by show z.1 + 1 ≤ 2; omega, ?_⟩)
    have e1 : ((((([] ++ beBytes (u64 c.client) (Int.toNat 1)) ++ beBytes (u64 c.stamp) (Int.toNat 8)) ++ beBytes (u64 c.op) (Int.toNat 1)) ++ beBytes c.letter.data.toList.length 4 ++ c.letter.data.toList) ++ (([c.a, c.b].take (z.1 + 1)).flatMap fun x => beBytes (u64 x) (Int.toNat 8))) = ((((([] ++ beBytes (u64 c.client) (Int.toNat 1)) ++ beBytes (u64 c.stamp) (Int.toNat 8)) ++ beBytes (u64 c.op) (Int.toNat 1)) ++ beBytes c.letter.data.toList.length 4 ++ c.letter.data.toList) ++ (([c.a, c.b].take z.1).flatMap fun x => beBytes (u64 x) (Int.toNat 8))) ++ beBytes (u64 ([c.a, c.b][z.1]'hlt)) (Int.toNat 8) := by
      rw [List.take_succ_eq_append_getElem hlt, List.flatMap_append, ← List.append_assoc]
      simp
    show Mem S _ (bytesD r ((((([] ++ beBytes (u64 c.client) (Int.toNat 1)) ++ beBytes (u64 c.stamp) (Int.toNat 8)) ++ beBytes (u64 c.op) (Int.toNat 1)) ++ beBytes c.letter.data.toList.length 4 ++ c.letter.data.toList) ++ (([c.a, c.b].take (z.1 + 1)).flatMap fun x => beBytes (u64 x) (Int.toNat 8))) :: ρ) w'
    rw [e1]
    exact hw'.less (fun x hx => by rcases List.mem_cons.1 hx with rfl | hx <;> simp [*])
end
end Go.Proofs.YtjclgkddfjbdiaaGreatDoor
namespace Go.Proofs.YtjclgkddfjbdiaaGreatDoor.A
open Go.RowKit
abbrev coreA (c : Core) : Abs := .agg (c.cells.map .v)
section
variable {c : Core} {n : Int}
theorem js_ {K : List Nat} {w w' : World} {ρ : List Dt} (h : Proofs.YtjclgkddfjbdiaaGreatDoor.Mem [(w, K)] [old2 w K] ρ w') : ∀ k, k < w.heap.size → k ∈ K → k ∈ [old2 w K].flatMap Proofs.YtjclgkddfjbdiaaGreatDoor.It.ids := fun k hk hm => by
  simp only [List.flatMap_cons, List.flatMap_nil, List.append_nil]
  exact ba_.2 ⟨hk, hm⟩
theorem core_val {K : List Nat} {w : World} {vals : List Value} (hv : reps K w [coreA c] vals) : vals = [.agg c.cells.toArray] := by
  obtain ⟨v, us', rfl, ⟨us, rfl, h1⟩, h2⟩ := hv
  have h2 : us' = [] := h2
  have h1 := (ak_ (us := c.cells)).1 h1
  rw [h2, h1]
theorem jy_ {K : List Nat} {w : World} {vals : List Value} (hv : reps K w [coreA c, int n] vals) : vals = [.agg c.cells.toArray, .int .i64 n] := by
  obtain ⟨v, us', rfl, ⟨us, rfl, h1⟩, h2⟩ := hv
  have h1 := (ak_ (us := c.cells)).1 h1
  have h2 := (ak_ (us := [.int .i64 n])).1 h2
  rw [h2, h1]
theorem c3_ (h1 : c.letter.size ≤ 1000000) (h2 : c.text.size ≤ 1000000) : Pure Tryz.prog 95 [coreA c] (byt c.bytes) := Pure.of2 fun K w vals hK hv => by
  rw [core_val hv]
  exact (gJ_ (enter2 w K) h1 h2).mono fun e w' ⟨r, he, hm⟩ => ⟨r, he, leave2 hm (by simp), a4_.2 (row3 hK (js_ hm) (hm.data (z := bytesD r _) (by simp)))⟩
theorem hA_ : Pure Tryz.prog 82 [coreA c, int n] (int (c.check n)) := Pure.of2 fun K w vals hK hv => by
  rw [jy_ hv]
  exact (check_c (enter2 w K)).mono fun e w' ⟨he, hm⟩ => ⟨_, he, leave2 hm (by simp), rfl⟩
end
structure Pnt where
  seq : Int
  dig : List UInt8
  len : dig.length = 32
def Pnt.abs (p : Pnt) : List Abs := int p.seq :: digA p.dig
theorem Pnt.size (p : Pnt) : p.abs.length = 33 := by simp [Pnt.abs, digA, p.len]
theorem Pnt.ones (p : Pnt) : ones p.abs = true := by
  rw [bC_]; intro a ha
  rcases List.mem_cons.1 ha with rfl | ha
  · rfl
  · obtain ⟨b, _, rfl⟩ := List.mem_map.1 ha; rfl
abbrev pntsA (ps : List Pnt) : Abs := .sl 33 (ps.map Pnt.abs)
def Pnt.cells (p : Pnt) : List Value := .int .i64 p.seq :: p.dig.map bc
theorem Pnt.abs_cells (p : Pnt) : p.abs = p.cells.map .v := by simp [Pnt.abs, Pnt.cells, digA, Function.comp_def]
theorem Pnt.same {p q : Pnt} (h1 : p.seq = q.seq) (h2 : p.dig = q.dig) : p = q := by
  obtain ⟨a, b, c⟩ := p
  obtain ⟨d, e, f⟩ := q
  dsimp only at h1 h2
  subst h1 h2
  rfl
instance : DecidableEq Pnt := fun p q => decidable_of_iff (p.seq = q.seq ∧ p.dig = q.dig) ⟨fun h => Pnt.same h.1 h.2, fun h => h ▸ ⟨rfl, rfl⟩⟩
end Go.Proofs.YtjclgkddfjbdiaaGreatDoor.A
namespace Go.Proofs.YtjclgkddfjbdiaaGreatDoor
open Go.RowKit
def litB (c : UInt8) : Lit := .int .u8 (c.toNat : Int)
theorem hr_ {L M : List UInt8} (h : L.map litB = M.map litB) : L = M := by
  have hi : ∀ a b : UInt8, litB a = litB b → a = b := by
    intro a b hab
    unfold litB at hab
    injection hab with _ hab
    exact UInt8.toNat.inj (by omega)
  induction L generalizing M with
  | nil => cases M with
    | nil => rfl
    | cons _ _ => simp at h
  | cons a L ih => cases M with
    | nil => simp at h
    | cons b M =>
      simp only [List.map_cons, List.cons.injEq] at h
      rw [hi _ _ h.1, ih h.2]
theorem do_ {m : Nat} {T : TypeId} (hu : Tryz.prog.underlying T = some (.array 32 5)) (hc : Tryz.prog.cellsOf T = 32) (L : List UInt8) (hL : L.length = 32) :
    Tryz.prog.keyLits (m + 2) T (L.map bc) = some (L.map litB) := by
  have h5 : Tryz.prog.cellsOf 5 = 1 := by kernel_rfl
  have hone : ∀ c : UInt8, Tryz.prog.keyLits (m + 1) 5 [bc c] = some [litB c] := by
    intro c
    have hb : c.toNat < 256 := c.toNat_lt
    have e1 : (Lit.int .u8 (c.toNat : Int)).wf = true := by
      simp only [Lit.wf, Bool.and_eq_true, decide_eq_true_eq]
      exact ⟨by show (0 : Int) ≤ _; omega, by show _ ≤ (255 : Int); omega⟩
    simp [Program.keyLits, Tryz.underlying5, bc, litB, e1]
  have hm : (List.range 32).mapM (fun i => Tryz.prog.keyLits (m + 1) 5 (((L.map bc).drop (i * 1)).take 1)) = some (L.map fun c => [litB c]) := by
    refine mapM_some_of_get _ _ (by simp [hL]) ?_
    intro i x hx
    have hi : i < 32 := by
      have := (List.getElem?_eq_some_iff.1 hx).1
      simpa using this
    have hxi : x = i := by
      have := (List.getElem?_eq_some_iff.1 hx).2
      simpa using this.symm
    subst hxi
    have hl : x < L.length := by omega
    have hd : ((L.map bc).drop (x * 1)).take 1 = [bc L[x]] := by
      rw [Nat.mul_one, List.drop_eq_getElem_cons (by simpa using hl)]
      simp
    rw [hd, hone]
    simp [hl]
  have hfl : (L.map fun c => [litB c]).flatten = L.map litB := by
    clear hm hL
    induction L with
    | nil => rfl
    | cons c L ih => simp [ih]
  have hlen : (L.map bc).length = Tryz.prog.cellsOf T := by simp [hL, hc]
  have hcell : (L.map bc).length = 32 := by simp [hL]
  unfold Program.keyLits
  rw [hu]
  split
  · simp_all
  · simp_all
  · simp_all
  · rename_i h1
    injection h1 with h1
    injection h1 with h1 h2
    subst h1
    subst h2
    rw [if_pos hlen, h5, hm, Option.map_some, hfl]
  · simp_all
  · simp_all
def arrB (L : List UInt8) : Value := .agg (L.map bc).toArray
theorem formedB {T : TypeId} (hu : Tryz.prog.underlying T = some (.array 32 5)) (hc : Tryz.prog.cellsOf T = 32) (L : List UInt8) (hL : L.length = 32) : (arrB L).formed Tryz.prog T = true := by
  simp [arrB, Value.formed, hu, hc, hL]
theorem eqlB {T : TypeId} (hu : Tryz.prog.underlying T = some (.array 32 5)) (hc : Tryz.prog.cellsOf T = 32) (hk : Tryz.prog.keyTypeAt 4 T = true) (L M : List UInt8) (hL : L.length = 32) (hM : M.length = 32) (b : Bool) (hb : decide (L = M) = b) (w : World) :
    (binOp .eql T (arrB L) (arrB M)).run Tryz.prog w = .ok (.bool b) w :=
  dA_ (m := 4) (by decide) hk (formedB hu hc L hL) (formedB hu hc M hM) (do_ (m := 0) hu hc L hL) (do_ (m := 0) hu hc M hM) b (by
    rw [← hb, decide_eq_true_eq]
    exact ⟨fun h => by rw [h], hr_⟩) w
theorem eqlD (L M : List UInt8) (hL : L.length = 32) (hM : M.length = 32) (b : Bool) (hb : decide (L = M) = b) (w : World) : (binOp .eql 121 (arrB L) (arrB M)).run Tryz.prog w = .ok (.bool b) w :=
  eqlB Tryz.underlying121 (by kernel_rfl) (by kernel_rfl) L M hL hM b hb w
theorem eqlT (L M : List UInt8) (hL : L.length = 32) (hM : M.length = 32) (b : Bool) (hb : decide (L = M) = b) (w : World) : (binOp .eql 64 (arrB L) (arrB M)).run Tryz.prog w = .ok (.bool b) w :=
  eqlB Tryz.underlying64 (by kernel_rfl) (by kernel_rfl) L M hL hM b hb w
end Go.Proofs.YtjclgkddfjbdiaaGreatDoor
namespace Go.Proofs.YtjclgkddfjbdiaaGreatDoor.A
open Go.RowKit
theorem hj_ {m : Nat} (p : Pnt) (h : InR .i64 p.seq) : Tryz.prog.keyLits (m + 3) 203 (.int .i64 p.seq :: p.dig.map bc) = some (.int .i64 p.seq :: p.dig.map litB) := by
  have h1 : (Lit.int .i64 p.seq).wf = true := by
    simp only [InR, lo, hi] at h
    simp only [Lit.wf, Bool.and_eq_true, decide_eq_true_eq]
    exact ⟨by show (-9223372036854775808 : Int) ≤ _; omega, by show _ ≤ (9223372036854775807 : Int); omega⟩
  have c1 : Tryz.prog.cellsOf 203 = 33 := by kernel_rfl
  have c2 : Tryz.prog.cellsOf 121 = 32 := by kernel_rfl
  have c3 : Tryz.prog.cellsOf 2 = 1 := by kernel_rfl
  have h2 := do_ (m := m) Tryz.underlying121 c2 p.dig p.len
  have h3 : Tryz.prog.keyLits (m + 2) 2 [.int .i64 p.seq] = some [.int .i64 p.seq] := by
    simp [Program.keyLits, Tryz.underlying2, h1]
  have hl : (p.dig.map bc).length = 32 := by simp [p.len]
  have h5 : (p.dig.map bc).take 32 = p.dig.map bc := List.take_of_length_le (by omega)
  unfold Program.keyLits
  rw [Tryz.underlying203]
  simp [c1, c2, c3, h2, h3, h5, p.len]
theorem eN_ (p : Pnt) : (Value.agg (.int .i64 p.seq :: p.dig.map bc).toArray).formed Tryz.prog 203 = true := by
  have c1 : Tryz.prog.cellsOf 203 = 33 := by kernel_rfl
  simp [Value.formed, Tryz.underlying203, c1, p.len]
theorem eqP {p q : Pnt} (hp : InR .i64 p.seq) (hq : InR .i64 q.seq) (w : World) : (binOp .eql 203 (.agg (Value.int .i64 p.seq :: p.dig.map bc).toArray) (.agg (Value.int .i64 q.seq :: q.dig.map bc).toArray)).run Tryz.prog w = .ok (.bool (decide (p = q))) w :=
  dA_ (m := 10) (by decide) (by kernel_rfl) (eN_ p) (eN_ q) (hj_ (m := 0) p hp) (hj_ (m := 0) q hq) _ (by
    rw [decide_eq_true_eq]
    constructor
    · intro h
      rw [h]
    · intro h2
      simp only [List.cons.injEq, Lit.int.injEq, true_and] at h2
      exact Pnt.same h2.1 (hr_ h2.2)) w
theorem bk_ (d : List UInt8) : plains (digA d) = some (d.map bc) := by
  induction d with
  | nil => rfl
  | cons b d ih =>
    show (match plains (digA d) with | some us => some (bc b :: us) | none => none) = _
    rw [ih]; rfl
theorem eM_ (p : Pnt) : plains p.abs = some (.int .i64 p.seq :: p.dig.map bc) := by
  show (match plains (digA p.dig) with | some us => some (Value.int .i64 p.seq :: us) | none => none) = _
  rw [bk_]
structure Tg where
  d : List UInt8
  len : d.length = 32
def Tg.abs (t : Tg) : List Abs := digA t.d
theorem Tg.size (t : Tg) : t.abs.length = 32 := by simp [Tg.abs, digA, t.len]
structure Msg where
  kind : Int
  from_ : Int
  body : List UInt8
  tags : List Tg
def Msg.abs (m : Msg) : List Abs := [int m.kind, int m.from_, byt m.body, .sl 32 (m.tags.map Tg.abs)]
abbrev Pai := Int × Int
def paU (p : Pai) : List Value := [.int .i64 p.1, .int .i64 p.2]
def paV (p : Pai) : Value := .agg (paU p).toArray
def paOk (p : Pai) : Prop := intOk p.1 ∧ intOk p.2
theorem pa_is (p : Pai) : (Abs.agg [int p.1, int p.2]).is (paV p) := is_agg (us := paU p)
theorem pa_lit (p : Pai) (h : paOk p) : ∃ l, keyOf Tryz.prog 323 (paV p) = some l := by
  have h1 := hs_ h.1
  have h2 := hs_ h.2
  have c1 : Tryz.prog.cellsOf 323 = 2 := by kernel_rfl
  have c3 : Tryz.prog.cellsOf 3 = 1 := by kernel_rfl
  have h4 : ∀ (m : Nat) (x : Int), (Lit.int .i64 x).wf = true → Tryz.prog.keyLits (m + 2) 3 [.int .i64 x] = some [.int .i64 x] := fun m x hx => by
    simp [Program.keyLits, Tryz.underlying3, hx]
  have hk : Tryz.prog.keyType 323 = true := by kernel_rfl
  have hf : (paV p).formed Tryz.prog 323 = true := by
    simp [Value.formed, paV, paU, Tryz.underlying323, c1]
  obtain ⟨k, hd⟩ : ∃ k, Tryz.prog.types.size + 1 = k + 3 := ⟨_, (rfl : Tryz.prog.types.size + 1 = (Tryz.prog.types.size - 2) + 3)⟩
  have hl : Tryz.prog.keyLits (k + 3) 323 (paU p) = some [.int .i64 p.1, .int .i64 p.2] := by
    unfold Program.keyLits paU
    rw [Tryz.underlying323]
    simp [c1, c3, h4 _ _ h1, h4 _ _ h2]
  unfold keyOf
  simp only [Tryz.underlying323, hk, hf, Bool.and_self, if_true, hd]
  rw [show (paV p).cells.toList = paU p from rfl, hl]
  exact ⟨_, rfl⟩
theorem hk_ : KeyFit Tryz.prog 323 paV paOk where
  keyed := Maps.Keyed.of_law (deep_law_laid laid (m := 4) (by decide) (of_decide_eq_true (by kernel_rfl)) (by kernel_rfl) (by kernel_rfl))
  lit a h := pa_lit a h
  inj a b _ _ h := by
    unfold paV paU at h
    injection h with h
    have h := congrArg Array.toList h
    simp only [List.cons.injEq, Value.int.injEq, true_and, and_true] at h
    exact Prod.ext h.1 h.2
def voE : List (List Abs) → Abs
  | [] => .v (.slice none 0 0)
  | x :: l => .sl 35 (x :: l)
theorem voE_sl {l : List (List Abs)} (h : 0 < l.length) : voE l = .sl 35 l := by
  match l, h with
  | x :: l, _ => rfl
theorem gh_ (w : World) : (zeroValue 257).run Tryz.prog w = .ok (.slice none 0 0) w := by kernel_rfl
theorem gg_ (K : List Nat) (w : World) : rep K w (voE []) (.slice none 0 0) := rfl
def voL (st : Int) (t : Tg) (m : Wo) : List Abs := [int 4, int st] ++ t.abs ++ [u32 m]
theorem a6_ (st : Int) (t : Tg) (m : Wo) : (voL st t m).length = 35 := by simp [voL, Tg.size]
theorem bU_ (st : Int) (t : Tg) (m : Wo) : ones (voL st t m) = true := by
  rw [bC_]
  intro x hx
  simp only [voL, List.mem_append, List.mem_cons, List.not_mem_nil, or_false] at hx
  rcases hx with ((rfl | rfl) | hx) | rfl
  · rfl
  · rfl
  · obtain ⟨b, _, rfl⟩ := List.mem_map.1 hx
    rfl
  · rfl
theorem iB_ (st : Int) (t : Tg) (m : Wo) : part (voL st t m) 2 32 = t.abs := by
  show (t.abs ++ [u32 m]).take 32 = t.abs
  rw [List.take_append_of_le_length (by rw [Tg.size]; exact Nat.le_refl _), List.take_of_length_le (by rw [Tg.size]; exact Nat.le_refl _)]
theorem gp_ (st : Int) (t : Tg) (m : Wo) : (voL st t m)[34]? = some (u32 m) := by
  show (t.abs ++ [u32 m])[32]? = _
  rw [List.getElem?_append_right (by rw [Tg.size]; exact Nat.le_refl _), Tg.size]
  rfl
section
variable {v m : Nat} {who st st' self_ : Int} {t t' : Tg} {mk : Wo}
abbrev vm1 (self_ st : Int) (t : Tg) (mk : Wo) : List (Pai × List (List Abs)) := [((self_, 4), [voL st t mk])]
theorem iC_ : (aget (vm1 self_ st t mk) (who, 4)).getD [] = if who = self_ then [voL st t mk] else [] := by
  by_cases h : who = self_
  · subst h
    simp [aget]
  · have h2 : ¬ ((self_, (4 : Int)) = (who, 4)) := fun h3 => h (congrArg Prod.fst h3).symm
    simp [aget, h, h2]
theorem jW_ {n : Nat} {W : Wd} {σ : Blks} {l : List (Nat × Abs)} {X : List Nat} {x : Operand} {e : TypeId} {tt : TypeId} {d ty pos aft g} {L : List (List Abs)} (hx : look l x = some (voE L)) (ht : Tryz.prog.underlying tt = some (.slice e)) : Val Tryz.prog n W σ l X ⟨d, .call { callee := .builtin .len, args := #[x], argTypes := #[tt] }, ty, pos, aft, g⟩ (.v (.int .i64 (L.length : Nat))) := by
  match L with
  | [] => exact af_ hx ht
  | y :: L => exact P_ hx ht rfl
theorem vonew_s  : Spec Tryz.prog 42 [int 4] [] (fun z : Nat × Nat => [.blk z.1 160 [int 4, mapV z.2], .pc (tmPc z.2 paV paOk voE [])]) (fun z => ptr z.1) := by
 refine t_ Tryz.func42 rfl Tryz.ntmps42 rfl fun G w =>c_<|a_<|q_ 1 rfl<|g_<|b_<|c_<|c_<|a_<|q_ 3 rfl<|D_ (t := 5) rfl (by intro hc5; exfalso; omega) ?_
 intro hc5
 refine q_ 3 rfl<|g_<|b_<|n_ rfl (by intro hc8; exfalso; omega) ?_
 intro hc8
 refine s_<|b_<|c_<|a_<|q_ 1 rfl<|eb_ (B_ paV paOk voE (fun ac w => by simp [execOp, Instr.makeMap, newObj, Sem.run, Sem.run_bind, Result.andThen])) rfl rfl fun m10=>?_
 refine d_ (i_ (C := .agg [int 4, mapV m10]) (u_ tabOk rfl rfl rfl rfl) rfl) rfl rfl<|eb_ (z_ (cs := [int 4, mapV m10]) rfl) rfl rfl fun b12=>?_
 exact q_ 1 rfl<|g_<|b_<|o_<|f_ (rs := [.tmp 2]) rfl (RV.tmp rfl RV.nil) ((b12, m10)) sr_<|rfl
theorem bs0_s {k : Nat} : Spec Tryz.prog 341 [.v (.slice none 0 0), int st, .fn (.func k) [] []] [] (fun _ : Unit => []) (fun _ => .tup [int 0, boo false]) := by
 refine t_ Tryz.func341 rfl Tryz.ntmps341 rfl fun G w =>c_<|a_<|q_ 2 rfl<|g_<|b_<|c_<|a_<|q_ 1 rfl<|d_ (af_ (m := 0) rfl Tryz.underlying257) rfl rfl<|q_ 1 rfl<|g_<|b_<|c_<|a_<|q_ 3 rfl<|g_<|b_<|c_<|w_<|S_ (ι := Unit) (fun z => []) (fun z => [(8, int (0 : Nat)), (9, int 0), (10, int (0 : Nat))]) (fun z => True) (fun z => 0) (()) (trivial) (by exact ⟨rfl, rfl, rfl, trivial⟩) sn_ ?_
 intro z hz
 refine c_<|c_<|a_<|q_ 3 rfl<|g_<|b_<|n_ rfl (by intro hc17; exfalso; omega) ?_
 intro hc17
 refine O_<|k_ nofun<|k_ nofun<|N_<|b_<|c_<|a_<|q_ 5 rfl<|D_ (t := 39) rfl (by intro hc39; exfalso; omega) ?_
 intro hc39
 exact q_ 11 rfl<|g_<|b_<|o_<|f_ (rs := [.tmp 6, .tmp 7]) rfl (RV.tmp rfl (RV.tmp rfl RV.nil)) (()) sn_<|rfl
theorem ins0_s {u : Value} {y : List Abs} (hy : ones y = true) : Spec Tryz.prog 343 [.v (.slice none 0 0), int 0, .v u] [own 198 35 u [y]] (fun r : Value => [own 198 35 r [y]]) (fun r => .v r) := by
 refine t_ Tryz.func343 rfl Tryz.ntmps343 rfl fun G w =>c_<|a_<|q_ 1 rfl<|g_<|b_<|c_<|aO_ 198 35<|a_<|q_ 2 rfl<|d_ (a7_ (s := 35) (q := 0) tabOk Tryz.underlying257 rfl rfl rfl i0_ rfl (by omega) (by exact Nat.le_refl _)) rfl rfl ?_
 refine g_<|b_<|c_<|a_<|q_ 1 rfl<|d_ (aG_ (m := 1) rfl i1_ Tryz.underlying257 rfl) rfl rfl<|q_ 1 rfl<|g_<|b_<|c_<|c_<|a_<|q_ 2 rfl<|g_<|b_<|n_ rfl (by intro hc16; exfalso; omega) ?_
 intro hc16
 refine s_<|b_<|c_<|a_<|q_ 1 rfl<|d_ (af_ (m := 0) rfl Tryz.underlying257) rfl rfl<|q_ 1 rfl<|g_<|b_<|c_<|c_<|a_<|q_ 3 rfl<|g_<|b_<|n_ rfl ?_ (by intro hc22; exfalso; omega)
 intro hc22
 refine c_<|bj_ [own 198 35 (.slice none 0 0) []] (t := 2) rfl rfl<|a_<|q_ 2 rfl<|eb_ (bS_ tabOk [] Tryz.underlying257 rfl rfl rfl rfl rfl rfl (by intro c hc; rw [List.mem_singleton] at hc; subst hc; exact hy) (by unfold maxLen; simp) (by rw [show Tryz.prog.bytesOf 198 = 56 by kernel_rfl]; simp)) rfl rfl fun r25=>?_
 exact q_ 1 rfl<|g_<|b_<|o_<|k_ nofun<|f_ (rs := [.tmp 6]) rfl (RV.tmp rfl RV.nil) (r25) sr_<|rfl
theorem clv_s {xs : List (List Abs)} (h1 : ∀ c ∈ xs, ones c = true) (hn : xs.length ≤ 1000000) : Spec Tryz.prog 199 [.sl 35 xs] [] (fun _ : Unit => []) (fun _ => .sl 35 xs) := by
 refine t_ Tryz.func199 rfl Tryz.ntmps199 rfl fun G w =>c_<|a_<|q_ 1 rfl<|g_<|b_<|c_<|c_<|a_<|q_ 1 rfl<|bH_ Tryz.underlying257 rfl rfl rfl<|fun b hb=>g_<|b_<|ay_ rfl ?_ ?_
 ·intro hc4
  have hnil : xs = [] := hb hc4
  subst hnil
  refine c_<|a_<|q_ 1 rfl<|g_<|b_<|o_<|k_ nofun<|ci_ (rs := [.tmp 2]) rfl (RV.tmp rfl RV.nil) (Casts.nils (s := 35) Casts.refl) () sn_ (by simp [It.rids]) rfl
 intro hc4
 refine s_<|b_<|c_<|a_<|eb_ (as_ tabOk Tryz.underlying257 rfl rfl rfl rfl rfl rfl rfl) rfl rfl fun r5=>?_
 refine q_ 1 rfl<|eb_ (K_ (zs := xs) tabOk [] rfl Tryz.underlying257 rfl rfl rfl rfl rfl rfl h1 (by unfold maxLen; simp only [List.length_nil]; omega) (by rw [show Tryz.prog.bytesOf 198 = 56 by kernel_rfl]; simp only [List.length_nil]; omega)) rfl rfl fun r7=>?_
 exact q_ 1 rfl<|g_<|b_<|o_<|a8_ [] (t := 2) rfl rfl<|f_ (rs := [.tmp 2]) rfl (RV.tmp rfl RV.nil) (()) sn_<|rfl
theorem voadd_s (h0 : 0 ≤ self_) (h1 : self_ < 4) : Spec Tryz.prog 273 [ptr v, int self_, .agg (voL st t mk)] [.blk v 160 [int 4, mapV m], .pc (tmPc m paV paOk voE [])] (fun _ : Unit => [.blk v 160 [int 4, mapV m], .pc (tmPc m paV paOk voE (vm1 self_ st t mk))]) (fun _ => boo true) := by
 refine t_ Tryz.func273 rfl Tryz.ntmps273 rfl fun G w =>c_<|a_<|eb_ (z_ (cs := (voL st t mk)) rfl) rfl rfl fun b5=>?_
 refine q_ 1 rfl<|g_<|b_<|c_<|c_<|T_ [] (.q 0 (.q 1 (.q 2 (.q 3 (.q 4 (.q 5 (.q 6 (.q 7 (.q 8 (.q 9 (.q 10 (.q 11 (.q 12 (.q 13 (.q 14 (.q 15 (.q 16 (.q 17 (.q 18 (.q 19 (.q 20 (.q 21 (.q 22 (.q 23 (.q 24 (.q 25 (.q 26 (.q 27 (.q 28 (.q 29 (.q 30 (.q 31 (.q 32 .nil))))))))))))))))))))))))))))))))) (by kernel_rfl) (by kernel_rfl) ?_
 refine qs_ 1 rfl<|j_ rfl (ax_ rfl rfl (by kernel_rfl)) (by simp) rfl rfl ?_
 refine qs_ 5 rfl<|bd_ (t := 18) rfl (by intro hc18; exfalso; omega) ?_
 intro hc18
 refine qs_ 4 rfl<|hx_ fun hx9 =>j_ rfl (i_ (C := int 4) (h_ tabOk rfl rfl l1_ List.not_mem_nil rfl) rfl) hx9 rfl rfl<|qs_ 3 rfl<|bd_ (t := 26) rfl (by intro hc26; exfalso; omega) ?_
 intro hc26
 refine qs_ 1 rfl<|j_ rfl (i_ (C := int 4) (h_ tabOk rfl rfl l0_ List.not_mem_nil rfl) rfl) hx9 rfl rfl<|qs_ 3 rfl<|j_ rfl (i_ (C := int 4) (h_ tabOk rfl rfl l1_ List.not_mem_nil rfl) rfl) hx9 rfl rfl<|qs_ 3 rfl<|bd_ (t := 35) rfl (by intro hc35; exfalso; omega) ?_
 intro hc35
 refine qs_ 1 rfl<|j_ rfl (i_ (C := int 4) (h_ tabOk rfl rfl l0_ List.not_mem_nil rfl) rfl) hx9 rfl rfl<|qs_ 3 rfl<|j_ rfl (i_ (C := int 4) (h_ tabOk rfl rfl l1_ List.not_mem_nil rfl) rfl) hx9 rfl rfl<|j_ rfl (E_ rfl rfl (by simp only [InR, lo, hi]; omega)) (by simp) rfl rfl ?_
 refine qs_ 2 rfl<|C_<|b_<|n_ rfl (by intro hc44; exfalso; omega) ?_
 intro hc44
 refine s_<|b_<|c_<|a_<|q_ 2 rfl<|d_ (i_ (C := int 4) (h_ tabOk rfl rfl l0_ List.not_mem_nil rfl) rfl) rfl rfl<|d_ (i_ (C := .agg [int self_, int 4]) (u_ tabOk rfl rfl rfl rfl) rfl) rfl rfl<|eb_ (F_ tabOk rfl) rfl rfl fun b7=>?_
 refine e_ (p_ (L' := [int self_, int 4]) tabOk rfl rfl rfl u0_ rfl (Nat.le_of_ble_eq_true rfl) rfl (by exact x_ rfl)) rfl rfl ?_
 refine g_<|b_<|c_<|T_ [] (.q 0 (.q 1 (.q 2 (.q 3 (.q 4 (.q 5 (.q 6 .nil))))))) (by kernel_rfl) (by kernel_rfl) ?_
 refine qs_ 3 rfl<|hx_ fun hx9 =>j_ rfl (i_ (C := mapV m) (h_ tabOk rfl rfl l2_ List.not_mem_nil rfl) rfl) hx9 rfl rfl<|j_ rfl (i_ (C := .agg [int self_, int 4]) (al_ tabOk rfl rfl rfl l0_ List.not_mem_nil (Nat.le_of_ble_eq_true rfl)) rfl) hx9 rfl rfl<|j_ rfl (i_ (C := .v (.slice none 0 0)) (aZ_ (a := ((self_, 4) : Pai)) (m := []) (enc := voE) (z0 := []) (zv := .slice none 0 0) hk_ Tryz.underlying158 gh_ gg_ rfl l3_ List.not_mem_nil rfl (pa_is (self_, 4)) ⟨by unfold intOk; simp only [InR, lo, hi]; omega, by unfold intOk; simp only [InR, lo, hi]; omega⟩) rfl) hx9 rfl rfl ?_
 refine qs_ 1 rfl<|C_<|b_<|c_<|a_<|q_ 2 rfl<|d_ (i_ (C := int st) (h_ tabOk rfl rfl l1_ List.not_mem_nil rfl) rfl) rfl rfl<|m_ (bs0_s (st := st)) Casts.refl (by kernel_rfl) rfl rfl rfl ?_
 refine ap_<|fun _=>q_ 5 rfl<|g_<|b_<|c_<|a_<|q_ 1 rfl<|d_ (af_ (m := 0) rfl Tryz.underlying257) rfl rfl<|q_ 2 rfl<|g_<|b_<|c_<|w_<|c_<|T_ [] (.q 0 (.q 1 (.q 2 (.q 3 (.q 4 (.q 5 (.q 6 (.q 7 (.q 8 (.q 9 (.q 10 (.q 11 (.q 12 (.q 13 (.q 14 (.q 15 (.q 16 (.q 17 (.q 18 (.q 19 (.q 20 (.q 21 (.q 22 (.q 23 (.q 24 (.q 25 (.q 26 (.q 27 .nil)))))))))))))))))))))))))))) (by kernel_rfl) (by kernel_rfl) ?_
 refine qs_ 28 rfl<|C_<|b_<|I_ rfl<|c_<|a_<|q_ 2 rfl<|g_<|b_<|I_ rfl<|c_<|a_<|q_ 2 rfl<|D_ (t := 107) rfl (by intro hc107; exfalso; omega) ?_
 intro hc107
 refine q_ 4 rfl<|g_<|b_<|I_ rfl<|s_<|A_<|b_<|c_<|a_<|q_ 2 rfl<|d_ (i_ (C := .agg (voL st t mk)) (y_ tabOk rfl rfl rfl l1_ List.not_mem_nil (a6_ _ _ _)) rfl) rfl rfl<|eb_ (as_ tabOk Tryz.underlying257 rfl rfl rfl (aS_ (a6_ _ _ _)) rfl rfl rfl) rfl rfl fun r114=>?_
 refine m_ (ins0_s (y := voL st t mk) (bU_ _ _ _)) Casts.refl (by kernel_rfl) rfl rfl rfl ?_
 refine M_ [] (β := _) rfl (by intro x hx; simp only [List.mem_cons, List.not_mem_nil, or_false] at hx; rcases hx with rfl; rfl) ?_
 intro r115
 refine q_ 1 rfl<|g_<|b_<|c_<|c_<|bj_ [] (t := 8) rfl rfl<|a_<|q_ 1 rfl<|g_<|b_<|n_ rfl (by intro hc116; exfalso; omega) ?_
 intro hc116
 refine s_<|b_<|c_<|ah_ [] (.q 0 (.q 1 (.q 2 (.q 3 (.q 4 (.q 5 (.e 6 .nil))))))) (by kernel_rfl) (by kernel_rfl) ?_
 refine qs_ 3 rfl<|hx_ fun hx9 =>j_ rfl (i_ (C := mapV m) (h_ tabOk rfl rfl l2_ List.not_mem_nil rfl) rfl) hx9 rfl rfl<|j_ rfl (i_ (C := .agg [int self_, int 4]) (al_ tabOk rfl rfl rfl l0_ List.not_mem_nil (Nat.le_of_ble_eq_true rfl)) rfl) hx9 rfl rfl<|qs_ 1 rfl<|H_ rfl (clv_s (xs := [(voL st t mk)]) (by intro c hc; rw [List.mem_singleton] at hc; subst hc; exact bU_ _ _ _) (by simp)) (by simp [mids, It.mids]) Casts.refl (by kernel_rfl) rfl rfl rfl ?_
 refine ap_<|fun _=>C_<|ao_ rfl (bB_ (enc := voE) (m := []) (a := ((self_, 4) : Pai)) (v := [(voL st t mk)]) (m' := (vm1 self_ st t mk)) hk_ Tryz.underlying158 rfl u3_ rfl (pa_is (self_, 4)) ⟨by unfold intOk; simp only [InR, lo, hi]; omega, by unfold intOk; simp only [InR, lo, hi]; omega⟩ rfl rfl) rfl rfl ?_
 rintro _ _ ⟨rfl, rfl⟩
 exact b_<|c_<|a_<|q_ 1 rfl<|g_<|b_<|o_<|f_ (rs := [.tmp 6]) rfl (RV.tmp rfl RV.nil) (()) (sk_ (sk_ sr_))<|rfl
theorem zr_len {c : Prop} [Decidable c] {x : List Abs} : (if c then [x] else []).length = (if c then 1 else 0 : Nat) := by split <;> rfl
theorem zr_get {c : Prop} [Decidable c] {x : List Abs} {i : Nat} (h : i < (if c then [x] else []).length) : (if c then [x] else [])[i] = x := by
  by_cases hc : c
  · simp only [hc, if_true, List.length_singleton] at h ⊢
    obtain rfl : i = 0 := by omega
    rfl
  · simp [hc] at h
set_option maxHeartbeats 1000000 in
theorem iz_ (h0 : 0 ≤ self_) (h1 : self_ < 4) : Spec Tryz.prog 332 [ptr v, int 4, int st', .agg t'.abs] [.rd v 160 [int 4, mapV m], .rdpc (tmPc m paV paOk voE (vm1 self_ st t mk))] (fun z : {z : Value × List (List Abs) // z.2.length ≤ 1} => [own 38 1 z.1.1 z.1.2]) (fun z => .v z.1.1) := by
 refine t_ Tryz.func332 rfl Tryz.ntmps332 rfl fun G w =>c_<|a_<|eb_ (z_ (cs := t'.abs) rfl) rfl rfl fun b7=>?_
 refine q_ 1 rfl<|g_<|b_<|c_<|c_<|a_<|q_ 1 rfl<|d_ (ax_ rfl rfl (by kernel_rfl)) rfl rfl ?_
 refine g_<|b_<|I_ rfl<|s_<|b_<|c_<|a_<|q_ 1 rfl<|g_<|b_<|c_<|c_<|a_<|q_ 3 rfl<|d_ (i_ (C := int 4) (h_ tabOk rfl rfl r1_ List.not_mem_nil rfl) rfl) rfl rfl<|q_ 1 rfl<|g_<|b_<|w_<|aO_ 38 1<|S_ (ι := Nat × Value × List (List Abs)) (fun z => [own 38 1 z.2.1 z.2.2, .blk b7 121 t'.abs, .rd v 160 [int 4, mapV m], .rdpc (tmPc m paV paOk voE (vm1 self_ st t mk))]) (fun z => [(0, ptr v), (1, int 4), (2, int st'), (7, ptr b7), (9, .v z.2.1), (18, int 4), (19, int (z.1 : Nat))]) (fun z => z.1 ≤ 4 ∧ z.2.2.length ≤ (if self_ < ((z.1 : Nat) : Int) then 1 else 0 : Nat)) (fun z => 4 - z.1) (0, .slice none 0 0, []) (⟨Nat.zero_le _, Nat.zero_le _⟩) (by exact ⟨rfl, rfl, rfl, rfl, rfl, rfl, rfl, trivial⟩) sr_ ?_
 intro z hz
 refine c_<|a_<|q_ 1 rfl<|g_<|b_<|c_<|n_ rfl ?_ ?_
 rotate_left
 ·intro hc20
  refine O_<|k_ nofun<|k_ nofun<|N_<|b_<|c_<|a_<|q_ 2 rfl<|g_<|b_<|o_<|f_ (rs := [.tmp 8]) rfl (RV.tmp rfl RV.nil) (⟨z.2, by have h8 := hz.2; split at h8 <;> omega⟩) (sc_ sn_) ?_
  exact rfl
 intro hc20
 refine s_<|b_<|c_<|w_<|c_<|a_<|q_ 2 rfl<|g_<|b_<|c_<|a_<|q_ 3 rfl<|d_ (i_ (C := mapV m) (h_ tabOk rfl rfl r2_ List.not_mem_nil rfl) rfl) rfl rfl<|q_ 2 rfl<|d_ (i_ (C := .agg [int ((z.1 : Nat) : Int), int 4]) (u_ tabOk rfl rfl rfl rfl) rfl) rfl rfl<|d_ (i_ (C := voE (if ((z.1 : Nat) : Int) = self_ then [voL st t mk] else [])) (aZ_ (a := ((((z.1 : Nat) : Int), 4) : Pai)) (m := (vm1 self_ st t mk)) (enc := voE) (z0 := []) (zv := .slice none 0 0) hk_ Tryz.underlying158 gh_ gg_ rfl r3_ List.not_mem_nil rfl (pa_is ((((z.1 : Nat) : Int), 4) : Pai)) ⟨by unfold intOk; simp only [InR, lo, hi]; omega, by unfold intOk; simp only [InR, lo, hi]; omega⟩) (by rw [iC_])) rfl rfl ?_
 refine d_ (jW_ rfl Tryz.underlying257) rfl rfl<|q_ 1 rfl<|g_<|b_<|w_<|S_ (ι := Nat × Value × List (List Abs)) (fun y => [own 38 1 y.2.1 y.2.2, .blk b7 121 t'.abs, .rd v 160 [int 4, mapV m], .rdpc (tmPc m paV paOk voE (vm1 self_ st t mk))]) (fun y => [(0, ptr v), (1, int 4), (2, int st'), (7, ptr b7), (9, .v y.2.1), (18, int 4), (19, int (z.1 : Nat)), (29, voE (if ((z.1 : Nat) : Int) = self_ then [voL st t mk] else [])), (30, int ((if ((z.1 : Nat) : Int) = self_ then [voL st t mk] else []).length : Nat)), (31, int (y.1 : Nat))]) (fun y => y.1 ≤ (if ((z.1 : Nat) : Int) = self_ then [voL st t mk] else []).length ∧ y.2.2.length ≤ (if self_ < ((z.1 : Nat) : Int) then 1 else 0 : Nat) + y.1) (fun y => (if ((z.1 : Nat) : Int) = self_ then [voL st t mk] else []).length - y.1) (0, z.2.1, z.2.2) (⟨Nat.zero_le _, by have := hz.2; omega⟩) (by exact ⟨rfl, rfl, rfl, rfl, rfl, rfl, rfl, rfl, rfl, rfl, trivial⟩) sr_ ?_
 intro y hy
 refine c_<|a_<|q_ 1 rfl<|g_<|b_<|c_<|n_ rfl ?_ ?_
 rotate_left
 ·intro hc32
  refine O_<|k_ nofun<|k_ nofun<|N_<|A_<|b_<|a_<|d_ (E_ rfl rfl (by simp only [InR, lo, hi]; omega)) rfl rfl ?_
  refine q_ 1 rfl<|g_<|J_ (z.1 + 1, y.2.1, y.2.2) (by omega) ((by have h7 := hy.1; have h9 := hy.2; rw [zr_len] at h7; refine ⟨by dsimp only; omega, ?_⟩; dsimp only; split at h7 <;> split at h9 <;> split <;> omega)) (by exact ⟨rfl, rfl, rfl, rfl, rfl, rfl, rfl, trivial⟩) sr_
 intro hc32
 have hlt2 : y.1 < (if ((z.1 : Nat) : Int) = self_ then [voL st t mk] else []).length := by omega
 have hl1 : (if ((z.1 : Nat) : Int) = self_ then [voL st t mk] else []).length ≤ 1 := by rw [zr_len]; split <;> omega
 have hl3 : y.2.2.length ≤ 2 := by have h9 := hy.2; split at h9 <;> omega
 refine s_<|b_<|c_<|w_<|c_<|a_<|d_ (W_ (q := y.1) (xs := (if ((z.1 : Nat) : Int) = self_ then [voL st t mk] else [])) tabOk Tryz.underlying257 rfl (congrArg some (voE_sl (Nat.lt_of_le_of_lt (Nat.zero_le _) hlt2))) rfl rfl (List.getElem?_eq_getElem hlt2) rfl rfl) rfl rfl ?_
 refine d_ (i_ (C := .agg (voL st t mk)) (aH_ tabOk rfl rfl rfl (by rw [zr_get hlt2]; exact a6_ _ _ _)) (congrArg Abs.agg (zr_get hlt2))) rfl rfl ?_
 refine eb_ (F_ tabOk rfl) rfl rfl fun b12=>?_
 refine e_ (p_ (L' := voL st t mk) tabOk rfl rfl rfl u0_ (a6_ _ _ _) (Nat.le_of_ble_eq_true rfl) (bU_ _ _ _) (by exact x_ (a6_ _ _ _))) rfl rfl ?_
 refine g_<|b_<|c_<|a_<|q_ 1 rfl<|d_ (i_ (C := int st) (h_ tabOk rfl rfl l0_ List.not_mem_nil rfl) rfl) rfl rfl<|q_ 3 rfl<|D_ (t := 39) rfl ?_ ?_
 rotate_left
 ·intro hc39
  refine q_ 5 rfl<|g_<|b_<|I_ rfl<|s_<|A_<|b_<|a_<|d_ (E_ rfl rfl (by simp only [InR, lo, hi]; omega)) rfl rfl ?_
  refine q_ 1 rfl<|g_<|J_ (y.1 + 1, y.2.1, y.2.2) (by omega) ((⟨by dsimp only; omega, by dsimp only; omega⟩)) (by exact ⟨rfl, rfl, rfl, rfl, rfl, rfl, rfl, rfl, rfl, rfl, trivial⟩) (sk_ sr_)
 intro hc39
 refine q_ 1 rfl<|d_ (i_ (C := .agg t.abs) (al_ tabOk rfl rfl rfl l0_ List.not_mem_nil (by rw [a6_]; exact Nat.le_of_ble_eq_true rfl)) (congrArg Abs.agg (iB_ _ _ _))) rfl rfl ?_
 refine d_ (i_ (C := .agg t'.abs) (y_ tabOk rfl rfl rfl l2_ List.not_mem_nil (Tg.size _)) rfl) rfl rfl<|d_ (ey_ rfl rfl (bk_ _) (bk_ _) (by kernel_rfl) (eqlB Tryz.underlying121 (by kernel_rfl) (by kernel_rfl) _ _ t.len t'.len _ rfl)) rfl rfl ?_
 refine q_ 1 rfl<|g_<|b_<|n_ rfl ?_ ?_
 rotate_left
 ·intro hc44
  refine s_<|A_<|b_<|a_<|d_ (E_ rfl rfl (by simp only [InR, lo, hi]; omega)) rfl rfl ?_
  refine q_ 1 rfl<|g_<|J_ (y.1 + 1, y.2.1, y.2.2) (by omega) ((⟨by dsimp only; omega, by dsimp only; omega⟩)) (by exact ⟨rfl, rfl, rfl, rfl, rfl, rfl, rfl, rfl, rfl, rfl, trivial⟩) (sk_ sr_)
 intro hc44
 refine a_<|q_ 2 rfl<|d_ (i_ (C := u32 mk) (h_ tabOk rfl rfl l0_ List.not_mem_nil (gp_ _ _ _)) rfl) rfl rfl<|e_ (ac_ tabOk Tryz.underlying466 rfl rfl rfl rfl rfl rfl rfl) rfl rfl<|eb_ (K_ (zs := y.2.2 ++ [[u32 mk]]) tabOk [.blk b12 198 (voL st t mk)] rfl Tryz.underlying466 rfl rfl rfl rfl rfl rfl (by intro c hc; rw [List.mem_singleton] at hc; subst hc; rfl) (by unfold maxLen; simp only [List.length_cons, List.length_nil]; omega) (by rw [show Tryz.prog.bytesOf 38 = 4 by kernel_rfl]; simp only [List.length_cons, List.length_nil]; omega)) rfl rfl fun r49=>?_
 refine q_ 1 rfl<|g_<|A_<|b_<|a_<|d_ (E_ rfl rfl (by simp only [InR, lo, hi]; omega)) rfl rfl ?_
 refine q_ 1 rfl<|g_<|J_ (y.1 + 1, r49, y.2.2 ++ [[u32 mk]]) (by omega) ((⟨by dsimp only; omega, by dsimp only; rw [List.length_append, List.length_singleton]; omega⟩)) (by exact ⟨rfl, rfl, rfl, rfl, rfl, rfl, rfl, rfl, rfl, rfl, trivial⟩) (sk_ sr_)
theorem iA_ (h0 : 0 ≤ self_) (h1 : self_ < 4) : Spec Tryz.prog 331 [ptr v, int 4, int st', .agg t'.abs] [.rd v 160 [int 4, mapV m], .rdpc (tmPc m paV paOk voE (vm1 self_ st t mk))] (fun _ : {k : Nat // k ≤ 1} => []) (fun k => int (k.1 : Nat)) := by
 refine t_ Tryz.func331 rfl Tryz.ntmps331 rfl fun G w =>c_<|a_<|eb_ (z_ (cs := t'.abs) rfl) rfl rfl fun b7=>?_
 refine q_ 1 rfl<|g_<|b_<|c_<|a_<|q_ 3 rfl<|d_ (i_ (C := .agg t'.abs) (y_ tabOk rfl rfl rfl l0_ List.not_mem_nil (Tg.size _)) rfl) rfl rfl<|m_ (iz_ (st := st) (t := t) (mk := mk) (m := m) h0 h1) Casts.refl (by kernel_rfl) rfl rfl rfl ?_
 refine Y_ (by repeat (first | exact Reads.nil | (refine Reads.blk ?_ ?_; focus ((repeat first|assumption|exact m0_|apply m1_); done)) | (refine Reads.rd ?_ ?_; focus ((repeat first|assumption|exact m0_|apply m1_); done)) | (refine Reads.pc ?_ ?_; focus ((repeat first|assumption|exact m0_|apply m1_); done)) | (refine Reads.rdpc ?_ ?_; focus ((repeat first|assumption|exact m0_|apply m1_); done)))) (fun _ => rfl) ?_
 intro z0
 exact d_ (aG_ (m := z0.1.2.length) rfl i0_ Tryz.underlying466 rfl) rfl rfl<|q_ 1 rfl<|g_<|b_<|o_<|f_ (rs := [.tmp 8]) rfl (RV.tmp rfl RV.nil) (⟨z0.1.2.length, z0.2⟩) sn_<|rfl
theorem voof_s (h0 : 0 ≤ self_) (h1 : self_ < 4) : Spec Tryz.prog 130 [ptr v, int self_, int 4] [.rd v 160 [int 4, mapV m], .rdpc (tmPc m paV paOk voE (vm1 self_ st t mk))] (fun _ : Unit => []) (fun _ => .sl 35 [voL st t mk]) := by
 refine t_ Tryz.func130 rfl Tryz.ntmps130 rfl fun G w =>c_<|a_<|q_ 1 rfl<|g_<|b_<|c_<|c_<|a_<|q_ 1 rfl<|d_ (ax_ rfl rfl (by kernel_rfl)) rfl rfl ?_
 refine g_<|b_<|I_ rfl<|s_<|b_<|c_<|a_<|q_ 3 rfl<|d_ (i_ (C := mapV m) (h_ tabOk rfl rfl r0_ List.not_mem_nil rfl) rfl) rfl rfl<|q_ 2 rfl<|d_ (i_ (C := .agg [int self_, int 4]) (u_ tabOk rfl rfl rfl rfl) rfl) rfl rfl<|d_ (i_ (C := .sl 35 [voL st t mk]) (aZ_ (a := ((self_, 4) : Pai)) (m := (vm1 self_ st t mk)) (enc := voE) (z0 := []) (zv := .slice none 0 0) hk_ Tryz.underlying158 gh_ gg_ rfl r1_ List.not_mem_nil rfl (pa_is (self_, 4)) ⟨by unfold intOk; simp only [InR, lo, hi]; omega, by unfold intOk; simp only [InR, lo, hi]; omega⟩) (by rw [iC_, if_pos rfl]; rfl)) rfl rfl ?_
 refine m_ (clv_s (xs := [voL st t mk]) (by intro c hc; rw [List.mem_singleton] at hc; subst hc; exact bU_ _ _ _) (by simp)) Casts.refl (by kernel_rfl) rfl rfl rfl ?_
 exact ap_<|fun _=>q_ 1 rfl<|g_<|b_<|o_<|f_ (rs := [.tmp 6]) rfl (RV.tmp rfl RV.nil) (()) sn_<|rfl
end
end Go.Proofs.YtjclgkddfjbdiaaGreatDoor.A
namespace Go.Proofs.YtjclgkddfjbdiaaGreatDoor
open Go.RowKit
def txt (l : List UInt8) : Value := .string ⟨l.toArray⟩
def hashedV (p : Nat × List UInt8) : Value := .agg #[.int .u8 p.1, txt p.2]
def hashedOk (p : Nat × List UInt8) : Prop := p.1 < 256 ∧ p.2.length ≤ maxLen
def saidV (p : (Int × Int) × List UInt8) : Value := .agg #[.int .i64 p.1.1, .int .i64 p.1.2, txt p.2]
def i64r (n : Int) : Prop := -9223372036854775808 ≤ n ∧ n < 9223372036854775808
def saidOk (p : (Int × Int) × List UInt8) : Prop := i64r p.1.1 ∧ i64r p.1.2 ∧ p.2.length ≤ maxLen
theorem gr_ {a b : List UInt8} (h : txt a = txt b) : a = b := by
  unfold txt at h
  injection h with h
  injection h with h
  simpa using congrArg Array.toList h
theorem h6_ (p : Nat × List UInt8) (h : hashedOk p) : ∃ l, keyOf Tryz.prog 679 (hashedV p) = some l := by
  obtain ⟨h1, h2⟩ := h
  have hk : (Tryz.prog.keyType 679 && (hashedV p).formed Tryz.prog 679) = true := by kernel_rfl
  have hn : Tryz.prog.cellsOf 679 = 2 := by kernel_rfl
  have hn5 : Tryz.prog.cellsOf 5 = 1 := by kernel_rfl
  have hn9 : Tryz.prog.cellsOf 9 = 1 := by kernel_rfl
  obtain ⟨m, hm⟩ := dV_
  unfold keyOf
  simp only [Tryz.underlying679, if_pos hk, hm]
  simp [Program.keyLits, Tryz.underlying679, Tryz.underlying5, Tryz.underlying9, hn, hn5, hn9, hashedV, Value.cells, txt, Lit.wf]
  have e1 : IntKind.u8.min ≤ (p.1 : Int) ∧ (p.1 : Int) ≤ IntKind.u8.max := ⟨by show (0 : Int) ≤ _; omega, by show _ ≤ (255 : Int); omega⟩
  have e2 : (⟨p.2.toArray⟩ : ByteArray).size ≤ maxLen := by simpa [ByteArray.size] using h2
  simp [e1, e2]
theorem said_lit (p : (Int × Int) × List UInt8) (h : saidOk p) : ∃ l, keyOf Tryz.prog 682 (saidV p) = some l := by
  obtain ⟨h1, h2, h3⟩ := h
  have hk : (Tryz.prog.keyType 682 && (saidV p).formed Tryz.prog 682) = true := by kernel_rfl
  have hn : Tryz.prog.cellsOf 682 = 3 := by kernel_rfl
  have hn5 : Tryz.prog.cellsOf 3 = 1 := by kernel_rfl
  have hn9 : Tryz.prog.cellsOf 9 = 1 := by kernel_rfl
  obtain ⟨m, hm⟩ := dV_
  unfold keyOf
  simp only [Tryz.underlying682, if_pos hk, hm]
  simp [Program.keyLits, Tryz.underlying682, Tryz.underlying3, Tryz.underlying9, hn, hn5, hn9, saidV, Value.cells, txt, Lit.wf]
  obtain ⟨h1a, h1b⟩ := h1
  obtain ⟨h2a, h2b⟩ := h2
  have e1 : IntKind.i64.min ≤ p.1.1 ∧ p.1.1 ≤ 9223372036854775807 := ⟨by show (-9223372036854775808 : Int) ≤ _; omega, by omega⟩
  have e3 : IntKind.i64.min ≤ p.1.2 ∧ p.1.2 ≤ 9223372036854775807 := ⟨by show (-9223372036854775808 : Int) ≤ _; omega, by omega⟩
  have e2 : (⟨p.2.toArray⟩ : ByteArray).size ≤ maxLen := by simpa [ByteArray.size] using h3
  simp [e1, e2, e3]
theorem dp_ : KeyFit Tryz.prog 679 hashedV hashedOk where
  keyed := Maps.Keyed.of_law (deep_law_laid laid (m := 4) (by decide) (of_decide_eq_true (by kernel_rfl)) (by kernel_rfl) (by kernel_rfl))
  lit := h6_
  inj a b _ _ h := by
    unfold hashedV at h
    injection h with h
    simp at h
    obtain ⟨a1, a2⟩ := a
    obtain ⟨b1, b2⟩ := b
    have := gr_ h.2
    simp only at this
    subst this
    have h1 : a1 = b1 := by have := h.1; omega
    subst h1
    rfl
theorem dL_ : KeyFit Tryz.prog 682 saidV saidOk where
  keyed := Maps.Keyed.of_law (deep_law_laid laid (m := 4) (by decide) (of_decide_eq_true (by kernel_rfl)) (by kernel_rfl) (by kernel_rfl))
  lit := said_lit
  inj a b _ _ h := by
    unfold saidV at h
    injection h with h
    simp at h
    obtain ⟨⟨a0, a1⟩, a2⟩ := a
    obtain ⟨⟨b0, b1⟩, b2⟩ := b
    have := gr_ h.2.2
    simp only at this h
    obtain ⟨rfl, rfl, _⟩ := h
    subst this
    rfl
theorem dg_ {P : Program} {ops : Array Oper} {o : Oper} {a : Act} {w : World} {K : Act → World → Prop} {Q : Exit → Act → World → Prop} {E : Prop} (hgd : o.guard = none) (f : FuncId) (xs : Array Operand) (ats : Array TypeId)
    (ho : o.op = .call { callee := .value (.func f), args := xs, argTypes := ats }) {R : Ending → World → Prop} (vals : Array Value) (hv : xs.map a.eval = vals) (hcall : (callFunc f (#[] ++ vals ++ #[])).run P w = .ok (.enter f vals) w) (hc : Calls P f vals w R) (h : ∀ e w', R e w' → ∃ v, e = .returned v ∧ K (a.put o.dst v) w') :
    if Region.wanted o (yielded ops a.tmps) = true then Oper.wp P o a w K Q else E := by
  have hw : Region.wanted o (yielded ops a.tmps) = true := by simp [Region.wanted, hgd]
  rw [if_pos hw]
  unfold Oper.wp
  subst hv
  have hr : (execOp a.eval o).run P w = .ok (.enter f (xs.map a.eval)) w := by
    obtain ⟨dst, op, ty, pos, after, guard⟩ := o
    dsimp only at ho
    subst ho
    rw [execOp_call_go]
    exact hcall
  rw [hr, Oper.upon_enter]
  refine hc.mono fun e w' hR => ?_
  obtain ⟨v, rfl, hk⟩ := h e w' hR
  exact hk
/-! ### A number as a digest -/
def numCells (f n : Nat) : List Value := .int .u8 f :: (List.replicate 23 (.int .u8 0) ++ (beBytes n 8).map bc)
def numV (f n : Nat) : Value := .agg (numCells f n).toArray
theorem slice32 (q : Nat) (w : World) : (Instr.sliceAt 63 (.pointer (some ⟨q, 0, none⟩)) (some (.int .i64 24)) none none).run Tryz.prog w = .ok (.slice (some ⟨q, 24, none⟩) 8 8) w := by
  have ha : Tryz.prog.arrayLen 63 = 32 := by kernel_rfl
  have hs : ((sizeOf (Tryz.prog.elem 63)).run Tryz.prog w) = .ok 1 w := by kernel_rfl
  rw [run_sliceAt_array_l (P := Tryz.prog) w 63 ⟨q, 0, none⟩ Tryz.underlying63 .i64 24 (by omega) (by rw [ha]; omega), hs, ha]
  rfl
attribute [local go_sem] slice32
def preCells (f : Nat) : List Value := .int .u8 f :: List.replicate 31 (.int .u8 0)
def zero32 : Array Value := (List.replicate 32 (.int .u8 0)).toArray
theorem d2_ {tmps : Operand → Value} {dst pos after guard ty} {w : World} : (execOp tmps ⟨dst, .alloc 63, ty, pos, after, guard⟩).run Tryz.prog w = .ok (.value (.pointer (some ⟨w.heap.size, 0, none⟩))) (w.alloc (.cells zero32 63)) := by kernel_rfl
theorem own8 {w : World} {base n : Nat} {r : Value} (h : OwnB w base r ([] ++ beBytes n (Int.toNat 8))) : ∃ b off c, r = .slice (some ⟨b, off, none⟩) 8 c ∧ ∀ j u, ((beBytes n 8).map bc)[j]? = some u → w.cell? ((⟨b, off, none⟩ : Addr).add j) = some u := by
  obtain ⟨A, c, h1, _, _, _, h5⟩ := h.bytes
  obtain ⟨b, off, rfl, hc⟩ := h5 (by simp [beBytes])
  refine ⟨b, off, c, by rw [h1]; simp [v_], fun j u hu => ?_⟩
  have hadd : (⟨b, off, none⟩ : Addr).add j = ⟨b, off + j, none⟩ := by
    unfold Addr.add
    split
    · rename_i h0; subst h0; rfl
    · rfl
  rw [hadd]
  exact hc j u hu
theorem hQ_ (f n : Nat) : splice (preCells f) 24 ((beBytes n 8).map bc) = numCells f n := by
  simp [splice, preCells, numCells, v_]
theorem jb_ (f n : Nat) : (numCells f n).toArray.all (·.oneCell') = true := by
  rw [List.all_toArray, List.all_eq_true]
  intro v hv
  simp only [numCells, List.mem_cons, List.mem_append, List.mem_replicate, List.mem_map] at hv
  rcases hv with rfl | ⟨_, rfl⟩ | ⟨a, _, rfl⟩ <;> rfl
set_option maxHeartbeats 2000000 in
theorem eq_ (w : World) (f n : Nat) (hn : n < 9223372036854775808) :
    Calls Tryz.prog 557 #[.int .u8 f, .int .i64 n] w fun e w' => e = .returned (numV f n) ∧ Ext [] w w' := by
  go_enter Tryz.func557, Tryz.ntmps557
  go_wp2_with (first
    | ((with_reducible refine b7_ ⟨some 4, _, _, _, _, _⟩ ?_); refine aW_ rfl _ _ d2_ ?_)
    | ((with_reducible refine b7_ ⟨some 5, _, _, _, _, _⟩ ?_); refine aW_ rfl _ _ d2_ ?_)
    | ((with_reducible refine b7_ ⟨some 7, _, _, _, _, _⟩ ?_); refine aW_ rfl (.agg (preCells f).toArray) (w.alloc (.cells zero32 63)) (by kernel_rfl) ?_)
    | ((with_reducible refine b7_ ⟨none, .store _ (.tmp 5) (.tmp 7), _, _, _, _⟩ ?_); refine dF_ rfl _ _ _ rfl (w.alloc (.cells zero32 63)) _ _ (preCells f).toArray rfl rfl rfl (by kernel_rfl) (by kernel_rfl) (by kernel_rfl) ?_))
  have hput := fun (W : World) => eP_ W (.slice none 0 0) [] n (by omega) 8 (BytesV.nil W) (by simp) (by decide)
  have hcl := fun (W : World) => (by kernel_rfl : (callFunc 93 (#[] ++ #[.slice none 0 0, .int .u64 n, .int .i64 8] ++ #[])).run Tryz.prog W = .ok (.enter 93 #[.slice none 0 0, .int .u64 n, .int .i64 8]) W)
  have hwr : IntKind.u64.wrap (n : Int) = n := by rw [IntKind.wrap_u64]; omega
  have hx0 : Ext [] w ((w.alloc (.cells zero32 63)).alloc (.cells (preCells f).toArray 63)).drew := (((Ext.refl w).alloc _).alloc _).trans (G := []) (Still.ext (Still.drewN _ 1)) (by simp)
  have hb5 : Blk ((w.alloc (.cells zero32 63)).alloc (.cells (preCells f).toArray 63)).drew (w.heap.size + 1) 63 (preCells f).toArray := by
    have hsz : (w.alloc (.cells zero32 63)).heap.size = w.heap.size + 1 := Array.size_push _
    rw [← hsz]
    exact heap_alloc_new (w.alloc (.cells zero32 63)) (.cells (preCells f).toArray 63)
  have hb4 : Blk ((w.alloc (.cells zero32 63)).alloc (.cells (preCells f).toArray 63)).drew w.heap.size 63 zero32 :=
    (((Blk.new w 63 zero32).ext ((Ext.refl (F := []) _).alloc _) (by simp)).ext (F := []) (Still.ext (Still.drewN _ 1)) (by simp))
  go_region_law (first
    | (refine step_copy_splice rfl _ _ _ _ rfl 5 Tryz.underlying39 (by kernel_rfl) (some ⟨w.heap.size + 1, 24, none⟩) (some ⟨b, off, none⟩) 8 8 8 c (by simp [Act.eval]) (by simp [Act.eval]) (w.heap.size + 1) 24 (preCells f) 63 hb52 ((beBytes n 8).map bc) (by simp [v_]) (fun _ => ⟨rfl, _, rfl, hsrc⟩) (by simp [v_, preCells]) hJ_ (w.heap.size + 1) w2 (RowKit.Below.refl _ _) (Nat.le_refl _) ?_; intro w3 hb53 hbel)
    | (refine dg_ rfl 93 _ _ rfl _ (by simp [Act.eval, Act.put]) (hcl _) (hput _) ?_; rintro e w2 ⟨r, rfl, hr2, hx2⟩; obtain ⟨b, off, c, rfl, hsrc⟩ := own8 hr2; have hb52 := hb5.ext hx2 (by simp); have hb42 := hb4.ext hx2 (by simp); refine ⟨_, rfl, ?_⟩))
  have hb43 : Blk w3 w.heap.size 63 zero32 := (hbel.block _ (by omega)).trans hb42
  have hb53' : Blk w3 (w.heap.size + 1) 63 (numCells f n).toArray := by
    have := hb53.out
    rw [hQ_] at this
    exact this
  have HX := Lib.hid (show Ext [] w w3 from ⟨hbel.os.trans (hx0.trans hx2 (by simp)).os, hbel.tape.trans (hx0.trans hx2 (by simp)).tape, hbel.output.trans (hx0.trans hx2 (by simp)).output, Nat.le_trans (hx0.trans hx2 (by simp)).size hbel.size, fun k hk hn => (hbel.block k (by omega)).trans ((hx0.trans hx2 (by simp)).block k hk hn)⟩)
  have H4 := Lib.hid hb43
  have H5 := Lib.hid hb53'
  clear hb43 hb53' hb53 hbel hb4 hb5 hb42 hb52 hx0 hx2 hr2 hsrc hput hcl
  go_wp2_with (first
    | ((with_reducible refine b7_ ⟨some 13, _, _, _, _, _⟩ ?_); refine wpList_load_row rfl _ _ rfl (w.heap.size + 1) rfl _ _ _ _ H5.out Tryz.underlying63 rfl (by kernel_rfl) ?_)
    | ((with_reducible refine b7_ ⟨none, .store _ (.tmp 4) (.tmp 13), _, _, _, _⟩ ?_); refine wpList_store_row rfl _ _ _ rfl w.heap.size (numCells f n).toArray rfl rfl _ _ H4.out (by kernel_rfl) (by kernel_rfl) (jb_ f n) ?_))
  exact bodyPost_ret (v := numV f n) (results_cell_row rfl _ _ w.heap.size _ _ _ _ rfl (H4.out.setRow _) Tryz.underlying63 rfl (by kernel_rfl)) rfl ⟨rfl, HX.out.setRow (Or.inr (Nat.le_refl _)) _⟩
/-! ### A key's number -/
section
variable {α : Type} [DecidableEq α]
def pl (m : List (α × Nat)) (k : α) : Nat := (aget m k).getD (m.length + 1)
def pm (m : List (α × Nat)) (k : α) : List (α × Nat) := if (aget m k).isSome then m else aput m k (m.length + 1)
end
def natV (n : Nat) : Value := .int .i64 n
theorem fL_ (w : World) (b : Nat) (m : List ((Nat × List UInt8) × Nat)) (k : Nat) (l : List UInt8) (h : MapOf w b hashedV natV hashedOk m) (hk : hashedOk (k, l)) (hm : m.length < 4611686018427387904) :
    Calls Tryz.prog 558 #[.map (some b), .agg #[.int .u8 k, .string ⟨l.toArray⟩]] w fun e w' => e = .returned (natV (pl m (k, l))) ∧ MapOf w' b hashedV natV hashedOk (pm m (k, l)) ∧ Ext [b] w w' := by
  have H := Lib.hid h; clear h
  have HK := Lib.hid hk; clear hk
  have hz : ∀ W : World, (zeroValue 3).run Tryz.prog W = .ok (.int .i64 0) W := fun W => by kernel_rfl
  have HZ := Lib.hid hz; clear hz
  have hl1 : (m.length : Int) + 1 < 9223372036854775808 := by omega
  have hl0 : (0 : Int) ≤ m.length := by omega
  rcases hg : aget m (k, l) with _ | v
  · have G := Lib.hid hg; clear hg
    go_enter Tryz.func558, Tryz.ntmps558
    go_wp2_with (first
      | ((with_reducible refine b7_ ⟨some 10, _, _, _, _, _⟩ ?_); refine bg_ (H.out.alloc _) dp_ _ Tryz.underlying82 _ (HZ.out _) (k, l) HK.out rfl _ _ rfl rfl rfl ?_; rw [G.out]; dsimp only [Option.map_none, Option.getD_none, Option.isSome_none])
      | ((with_reducible refine b7_ ⟨some 16, _, _, _, _, _⟩ ?_); refine cM_ (H.out.alloc _) _ Tryz.underlying82 rfl _ rfl rfl ?_)
      | ((with_reducible refine b7_ ⟨none, .mapUpdate _ _ _ _, _, _, _, _⟩ ?_); refine cL_ (H.out.alloc _) dp_ _ Tryz.underlying82 (k, l) HK.out (m.length + 1) rfl _ _ _ rfl rfl rfl rfl ?_; intro w1 h1 hx1))
    go_ret
    refine ⟨by simp [pl, natV, G.out], ?_, ?_⟩
    · simpa [pm, G.out] using h1
    · exact ((Ext.refl (F := [b]) w).alloc _).trans hx1 (by simp)
  · have G := Lib.hid hg; clear hg
    go_enter Tryz.func558, Tryz.ntmps558
    go_wp2_with ((with_reducible refine b7_ ⟨some 10, _, _, _, _, _⟩ ?_); refine bg_ (H.out.alloc _) dp_ _ Tryz.underlying82 _ (HZ.out _) (k, l) HK.out rfl _ _ rfl rfl rfl ?_; rw [G.out]; dsimp only [Option.map_some, Option.getD_some, Option.isSome_some])
    go_ret
    refine ⟨by simp [pl, natV, G.out], ?_, ?_⟩
    · have := H.out.alloc (.cells #[.int .u8 k, .string ⟨l.toArray⟩] 679)
      simpa [pm, G.out] using this
    · exact (Ext.refl (F := [b]) _).alloc _
theorem h0_ (w : World) (b : Nat) (m : List (((Int × Int) × List UInt8) × Nat)) (x y : Int) (l : List UInt8) (h : MapOf w b saidV natV saidOk m) (hk : saidOk ((x, y), l)) (hm : m.length < 4611686018427387904) :
    Calls Tryz.prog 559 #[.map (some b), .agg #[.int .i64 x, .int .i64 y, .string ⟨l.toArray⟩]] w fun e w' => e = .returned (natV (pl m ((x, y), l))) ∧ MapOf w' b saidV natV saidOk (pm m ((x, y), l)) ∧ Ext [b] w w' := by
  have H := Lib.hid h; clear h
  have HK := Lib.hid hk; clear hk
  have hz : ∀ W : World, (zeroValue 3).run Tryz.prog W = .ok (.int .i64 0) W := fun W => by kernel_rfl
  have HZ := Lib.hid hz; clear hz
  have hl1 : (m.length : Int) + 1 < 9223372036854775808 := by omega
  have hl0 : (0 : Int) ≤ m.length := by omega
  rcases hg : aget m ((x, y), l) with _ | v
  · have G := Lib.hid hg; clear hg
    go_enter Tryz.func559, Tryz.ntmps559
    go_wp2_with (first
      | ((with_reducible refine b7_ ⟨some 10, _, _, _, _, _⟩ ?_); refine bg_ (H.out.alloc _) dL_ _ Tryz.underlying83 _ (HZ.out _) ((x, y), l) HK.out rfl _ _ rfl rfl rfl ?_; rw [G.out]; dsimp only [Option.map_none, Option.getD_none, Option.isSome_none])
      | ((with_reducible refine b7_ ⟨some 16, _, _, _, _, _⟩ ?_); refine cM_ (H.out.alloc _) _ Tryz.underlying83 rfl _ rfl rfl ?_)
      | ((with_reducible refine b7_ ⟨none, .mapUpdate _ _ _ _, _, _, _, _⟩ ?_); refine cL_ (H.out.alloc _) dL_ _ Tryz.underlying83 ((x, y), l) HK.out (m.length + 1) rfl _ _ _ rfl rfl rfl rfl ?_; intro w1 h1 hx1))
    go_ret
    refine ⟨by simp [pl, natV, G.out], ?_, ?_⟩
    · simpa [pm, G.out] using h1
    · exact ((Ext.refl (F := [b]) w).alloc _).trans hx1 (by simp)
  · have G := Lib.hid hg; clear hg
    go_enter Tryz.func559, Tryz.ntmps559
    go_wp2_with ((with_reducible refine b7_ ⟨some 10, _, _, _, _, _⟩ ?_); refine bg_ (H.out.alloc _) dL_ _ Tryz.underlying83 _ (HZ.out _) ((x, y), l) HK.out rfl _ _ rfl rfl rfl ?_; rw [G.out]; dsimp only [Option.map_some, Option.getD_some, Option.isSome_some])
    go_ret
    refine ⟨by simp [pl, natV, G.out], ?_, ?_⟩
    · have := H.out.alloc (.cells #[.int .i64 x, .int .i64 y, .string ⟨l.toArray⟩] 682)
      simpa [pm, G.out] using this
    · exact (Ext.refl (F := [b]) _).alloc _
structure BookAt (w : World) (p bd bt : Nat) (D : List ((Nat × List UInt8) × Nat)) (T : List (((Int × Int) × List UInt8) × Nat)) : Prop where
  blk : Blk w p 85 #[.map (some bd), .map (some bt)]
  md : MapOf w bd hashedV natV hashedOk D
  mt : MapOf w bt saidV natV saidOk T
  ne : bd ≠ bt ∧ p ≠ bd ∧ p ≠ bt
theorem BookAt.ext {w w' : World} {p bd bt : Nat} {D T} {F : List Nat} (h : BookAt w p bd bt D T) (hx : Ext F w w') (h1 : p ∉ F) (h2 : bd ∉ F) (h3 : bt ∉ F) : BookAt w' p bd bt D T :=
  ⟨h.blk.ext hx h1, h.md.ext hx h2, h.mt.ext hx h3, h.ne⟩
theorem BookAt.ext0 {w w' : World} {p bd bt : Nat} {D T} (h : BookAt w p bd bt D T) (hx : Ext [] w w') : BookAt w' p bd bt D T := h.ext hx (by simp) (by simp) (by simp)
theorem fi_ {w : World} {v : Value} {l : List UInt8} (h : BytesV w v l) : (convert 39 9 v).run Tryz.prog w = .ok (.string ⟨l.toArray⟩) w := by
  obtain ⟨A, c, rfl, _, _, h4, h5⟩ := h
  rcases A with _ | a
  · have := run_convert_bytes_nil (P := Tryz.prog) (w := w) 39 5 Tryz.underlying39 Tryz.underlying5 l.length c 9 Tryz.underlying9
    have hl : l = [] := by
      rcases l with _ | ⟨x, l⟩
      · rfl
      · obtain ⟨b, off, h0, _⟩ := h5 (by simp)
        cases h0
    subst hl
    exact this
  · refine run_convert_bytes_back (P := Tryz.prog) w 39 9 5 a c l Tryz.underlying39 Tryz.underlying5 Tryz.underlying9 (fun j hj => ?_)
    obtain ⟨b, off, h0, hc⟩ := h5 (by intro h0; have := congrArg List.length h0; simp at this; subst this; simp at hj)
    cases h0
    have hadd : (⟨b, off, none⟩ : Addr).add j = ⟨b, off + j, none⟩ := by
      unfold Addr.add
      split
      · rename_i h0; subst h0; rfl
      · rfl
    rw [hadd]
    exact hc j _ (by simp [bc, hj])
theorem cS_ {w : World} {g f n : Nat} {t : TypeId} {cs : Array Value} (h : Blk w g t cs) (hs : cs.size = 32) : (storeCells ⟨g, 0, none⟩ (numCells f n)).run Tryz.prog w = .ok () (w.setRow g (numCells f n).toArray) := by
  have := run_storeCells_from (P := Tryz.prog) g t (numCells f n) 0 cs w h (by rw [hs]; simp [numCells, v_]) (fun v hv => by
    have := jb_ f n
    rw [List.all_toArray, List.all_eq_true] at this
    exact this v hv)
  simpa using this
theorem ec_ (f n : Nat) : (numCells f n).length = 32 := by simp [numCells, v_]
attribute [local go_sem] ec_
theorem hX_ {tmps : Operand → Value} {dst pos after guard ty} {w : World} : (execOp tmps ⟨dst, .alloc 121, ty, pos, after, guard⟩).run Tryz.prog w = .ok (.value (.pointer (some ⟨w.heap.size, 0, none⟩))) (w.alloc (.cells zero32 121)) := by kernel_rfl
theorem hW_ {tmps : Operand → Value} {dst pos after guard ty} {w : World} : (execOp tmps ⟨dst, .alloc 64, ty, pos, after, guard⟩).run Tryz.prog w = .ok (.value (.pointer (some ⟨w.heap.size, 0, none⟩))) (w.alloc (.cells zero32 64)) := by kernel_rfl
set_option maxHeartbeats 2000000 in
theorem gN_ (w : World) (p bd bt : Nat) (D : List ((Nat × List UInt8) × Nat)) (T : List (((Int × Int) × List UInt8) × Nat)) (k : Int) (v : Value) (l : List UInt8) (h : BookAt w p bd bt D T) (hv : BytesV w v l) (hk : hashedOk (k8 k, l)) (hm : D.length < 4611686018427387904) (hpl : pl D (k8 k, l) < 9223372036854775808) :
    Calls Tryz.prog 553 #[.pointer (some ⟨p, 0, none⟩), .int .i64 k, v] w fun e w' => e = .returned (numV (k8 k) (pl D (k8 k, l))) ∧ BookAt w' p bd bt (pm D (k8 k, l)) T ∧ Ext [bd] w w' := by
  have H := Lib.hid h; clear h
  have HK := Lib.hid hk; clear hk
  have HV := Lib.hid hv; clear hv
  go_enter Tryz.func553, Tryz.ntmps553
  go_wp2_with ((with_reducible refine b7_ ⟨some 6, _, _, _, _, _⟩ ?_); refine aW_ rfl _ _ hX_ ?_)
  have hx1 : Ext [] w (w.alloc (.cells zero32 121)).drew := ((Ext.refl w).alloc _).drew
  have hb0 : Blk (w.alloc (.cells zero32 121)).drew w.heap.size 121 zero32 := (Blk.new w 121 zero32).drew
  generalize (w.alloc (.cells zero32 121)) = W at *
  have H1 := H.out.ext0 hx1
  have hlt := H.out.md.lt
  have hc := Blk.cell H1.blk 0
  have hcv := fi_ (HV.out.ext0 hx1)
  have hw8 : IntKind.u8.wrap k = (k8 k : Int) := by rw [IntKind.wrap_u8]; unfold k8; omega
  have hcl := fun (W : World) => (by kernel_rfl : (callFunc 558 (#[] ++ #[.map (some bd), .agg #[.int .u8 (k8 k), .string ⟨l.toArray⟩]] ++ #[])).run Tryz.prog W = .ok (.enter 558 #[.map (some bd), .agg #[.int .u8 (k8 k), .string ⟨l.toArray⟩]]) W)
  have hcl2 := fun (W : World) => (by kernel_rfl : (callFunc 557 (#[] ++ #[.int .u8 (k8 k), natV (pl D (k8 k, l))] ++ #[])).run Tryz.prog W = .ok (.enter 557 #[.int .u8 (k8 k), natV (pl D (k8 k, l))]) W)
  have hp := fun (W : World) (h : MapOf W bd hashedV natV hashedOk D) => fL_ W bd D (k8 k) l h HK.out hm
  have hn := fun (W : World) => eq_ W (k8 k) (pl D (k8 k, l)) hpl
  have HB0 := Lib.hid hb0; have HX1 := Lib.hid hx1; have HH1 := Lib.hid H1
  have HP := Lib.hid hp; have HN := Lib.hid hn; have HC := Lib.hid hcl; have HC2 := Lib.hid hcl2
  clear hb0 hx1 H1 hp hn hcl hcl2
  go_region_law (first
    | (refine dg_ rfl 558 _ _ rfl #[.map (some bd), .agg #[.int .u8 (k8 k), .string ⟨l.toArray⟩]] (by simp [Act.eval, Act.put]) (HC.out _) (HP.out _ (HH1.out.md)) ?_; rintro e w2 ⟨rfl, hm2, hx2⟩; refine ⟨_, rfl, ?_⟩)
    | (refine dg_ rfl 557 _ _ rfl #[.int .u8 (k8 k), natV (pl D (k8 k, l))] (by simp [Act.eval]) (HC2.out _) (HN.out _) ?_; rintro e w3 ⟨rfl, hx3⟩; have hst := cS_ (f := (k8 k)) (n := pl D (k8 k, l)) ((HB0.out.ext hx2 (by simp; omega)).ext hx3 (by simp)) rfl; refine ⟨.agg (numCells (k8 k) (pl D (k8 k, l))).toArray, rfl, ?_⟩))
  all_goals
    have H2 := HH1.out
    have hb3 := (HB0.out.ext hx2 (by simp; omega)).ext hx3 (by simp)
    have hbk : BookAt w2 p bd bt (pm D (k8 k, l)) T := ⟨H2.blk.ext hx2 (by simpa using H2.ne.2.1), hm2, H2.mt.ext hx2 (by simpa using fun e => H2.ne.1 e.symm), H2.ne⟩
    have hp1 := H.out.blk.lt
    have hp2 := H.out.md.lt
    have hp3 := H.out.mt.lt
    have HK3 := Lib.hid ((hbk.ext0 hx3).ext ((Ext.refl (F := [w.heap.size]) w3).setRow (g := w.heap.size) (by simp) (numCells (k8 k) (pl D (k8 k, l))).toArray) (by simp; omega) (by simp; omega) (by simp; omega))
    have HX3 := Lib.hid ((((HX1.out.mono (G := [bd]) (by simp)).trans hx2 (by simp)).trans hx3 (by simp)).setRow (g := w.heap.size) (Or.inr (Nat.le_refl _)) (numCells (k8 k) (pl D (k8 k, l))).toArray)
    have HB3 := Lib.hid hb3
    clear hb3 hbk hp1 hp2 hp3 hx2 hx3 hm2 hst H2
    go_wp2
    exact bodyPost_ret (v := numV (k8 k) (pl D (k8 k, l))) (results_cell_row rfl _ _ w.heap.size _ _ _ _ rfl (HB3.out.setRow _) Tryz.underlying121 rfl (by kernel_rfl)) rfl ⟨rfl, HK3.out, HX3.out⟩
set_option maxHeartbeats 2000000 in
theorem hD_ (w : World) (p bd bt : Nat) (D : List ((Nat × List UInt8) × Nat)) (T : List (((Int × Int) × List UInt8) × Nat)) (x y : Int) (v : Value) (l : List UInt8) (h : BookAt w p bd bt D T) (hv : BytesV w v l) (hk : saidOk ((x, y), l)) (hm : T.length < 4611686018427387904) (hpl : pl T ((x, y), l) < 9223372036854775808) :
    Calls Tryz.prog 555 #[.pointer (some ⟨p, 0, none⟩), .int .i64 x, .int .i64 y, v] w fun e w' => e = .returned (numV 255 (pl T ((x, y), l))) ∧ BookAt w' p bd bt D (pm T ((x, y), l)) ∧ Ext [bt] w w' := by
  have H := Lib.hid h; clear h
  have HK := Lib.hid hk; clear hk
  have HV := Lib.hid hv; clear hv
  go_enter Tryz.func555, Tryz.ntmps555
  go_wp2_with ((with_reducible refine b7_ ⟨some 8, _, _, _, _, _⟩ ?_); refine aW_ rfl _ _ hW_ ?_)
  have hx1 : Ext [] w (w.alloc (.cells zero32 64)).drew := ((Ext.refl w).alloc _).drew
  have hb0 : Blk (w.alloc (.cells zero32 64)).drew w.heap.size 64 zero32 := (Blk.new w 64 zero32).drew
  generalize (w.alloc (.cells zero32 64)) = W at *
  have H1 := H.out.ext0 hx1
  have hlt := H.out.mt.lt
  have hc := Blk.cell H1.blk 1
  have hcv := fi_ (HV.out.ext0 hx1)
  have hcl := fun (W : World) => (by kernel_rfl : (callFunc 559 (#[] ++ #[.map (some bt), .agg #[.int .i64 x, .int .i64 y, .string ⟨l.toArray⟩]] ++ #[])).run Tryz.prog W = .ok (.enter 559 #[.map (some bt), .agg #[.int .i64 x, .int .i64 y, .string ⟨l.toArray⟩]]) W)
  have hcl2 := fun (W : World) => (by kernel_rfl : (callFunc 557 (#[] ++ #[.int .u8 255, natV (pl T ((x, y), l))] ++ #[])).run Tryz.prog W = .ok (.enter 557 #[.int .u8 255, natV (pl T ((x, y), l))]) W)
  have hp := fun (W : World) (h : MapOf W bt saidV natV saidOk T) => h0_ W bt T x y l h HK.out hm
  have hn := fun (W : World) => eq_ W 255 (pl T ((x, y), l)) hpl
  have HB0 := Lib.hid hb0; have HX1 := Lib.hid hx1; have HH1 := Lib.hid H1
  have HP := Lib.hid hp; have HN := Lib.hid hn; have HC := Lib.hid hcl; have HC2 := Lib.hid hcl2
  clear hb0 hx1 H1 hp hn hcl hcl2
  go_region_law (first
    | (refine dg_ rfl 559 _ _ rfl #[.map (some bt), .agg #[.int .i64 x, .int .i64 y, .string ⟨l.toArray⟩]] (by simp [Act.eval, Act.put]) (HC.out _) (HP.out _ (HH1.out.mt)) ?_; rintro e w2 ⟨rfl, hm2, hx2⟩; refine ⟨_, rfl, ?_⟩)
    | (refine dg_ rfl 557 _ _ rfl #[.int .u8 255, natV (pl T ((x, y), l))] (by simp [Act.eval]) (HC2.out _) (HN.out _) ?_; rintro e w3 ⟨rfl, hx3⟩; have hst := cS_ (f := 255) (n := pl T ((x, y), l)) ((HB0.out.ext hx2 (by simp; omega)).ext hx3 (by simp)) rfl; refine ⟨.agg (numCells 255 (pl T ((x, y), l))).toArray, rfl, ?_⟩))
  all_goals
    have H2 := HH1.out
    have hb3 := (HB0.out.ext hx2 (by simp; omega)).ext hx3 (by simp)
    have hbk : BookAt w2 p bd bt D (pm T ((x, y), l)) := ⟨H2.blk.ext hx2 (by simpa using H2.ne.2.2), H2.md.ext hx2 (by simpa using H2.ne.1), hm2, H2.ne⟩
    have hp1 := H.out.blk.lt
    have hp2 := H.out.md.lt
    have hp3 := H.out.mt.lt
    have HK3 := Lib.hid ((hbk.ext0 hx3).ext ((Ext.refl (F := [w.heap.size]) w3).setRow (g := w.heap.size) (by simp) (numCells 255 (pl T ((x, y), l))).toArray) (by simp; omega) (by simp; omega) (by simp; omega))
    have HX3 := Lib.hid ((((HX1.out.mono (G := [bt]) (by simp)).trans hx2 (by simp)).trans hx3 (by simp)).setRow (g := w.heap.size) (Or.inr (Nat.le_refl _)) (numCells 255 (pl T ((x, y), l))).toArray)
    have HB3 := Lib.hid hb3
    clear hb3 hbk hp1 hp2 hp3 hx2 hx3 hm2 hst H2
    go_wp2
    exact bodyPost_ret (v := numV 255 (pl T ((x, y), l))) (results_cell_row rfl _ _ w.heap.size _ _ _ _ rfl (HB3.out.setRow _) Tryz.underlying64 rfl (by kernel_rfl)) rfl ⟨rfl, HK3.out, HX3.out⟩
section
variable {P : Program} {ops : Array Oper} {rest : List Oper} {o : Oper} {a : Act} {Q : Act → Prop} {C : World → Prop}
theorem at_opq (o : Oper) (h : wpQuiet P ops C Q (o :: rest) a) : wpQuiet P ops C Q (o :: rest) a := h
theorem e3_ (hg : o.guard = none) (v : Value) (h : ∀ w, C w → (execOp a.eval o).run P w = .ok (.value v) w) (k : wpQuiet P ops C Q rest (a.put o.dst v)) : wpQuiet P ops C Q (o :: rest) a := by
  refine BigFrame.wpQuiet_want (by simp [Region.wanted, hg]) fun K hK => ?_
  exact ⟨v, fun w hw => by unfold Oper.quietAt; rw [h w hw]; exact ⟨rfl, rfl⟩, hK _ k⟩
end
section
variable {α β : Type} [DecidableEq α] {P : Program} {w : World} {b : Nat} {k e : TypeId} {K : α → Value} {V : β → Value} {Good : α → Prop} {m : List (α × β)} {o : Oper} {a : Act}
theorem fE_ (h : MapOf w b K V Good m) (kf : KeyFit P k K Good) (t : TypeId) (ht : P.underlying t = some (.map k e)) (z : Value) (hz : (zeroValue e).run P w = .ok z w) (c : α) (hc : Good c)
    (x y : Operand) (ho : o.op = .lookup t x y true) (hx : a.eval x = .map (some b)) (hy : a.eval y = K c) :
    (execOp a.eval o).run P w = .ok (.value (.tuple #[((aget m c).map V).getD z, .bool (aget m c).isSome])) w := by
  simp only [execOp, ho, hx, hy, Sem.run_bind, h.look_run kf ht hz hc true, if_true, Result.andThen_ok, Sem.run_pure]
end
theorem eV_ (w : World) (o : Obj) : (w.alloc o).heap.size = w.heap.size + 1 := Array.size_push _
set_option maxHeartbeats 2000000 in
theorem book_New (w : World) : Calls Tryz.prog 15 #[] w fun e w' => e = .returned (.pointer (some ⟨w.heap.size + 2, 0, none⟩)) ∧ BookAt w' (w.heap.size + 2) w.heap.size (w.heap.size + 1) [] [] ∧ Ext [] w w' := by
  have h1 := (Ext.refl (F := []) w).alloc (.map #[] 0)
  have m1 := MapOf.new (K := hashedV) (V := natV) (Good := hashedOk) w
  have s1 := eV_ w (.map #[] 0)
  obtain ⟨W1, hW1⟩ : ∃ W1, W1 = w.alloc (.map #[] 0) := ⟨_, rfl⟩
  rw [← hW1] at h1 m1 s1
  have h2 := h1.alloc (.map #[] 0)
  have m2 := m1.alloc (.map #[] 0)
  have m3 := MapOf.new (K := saidV) (V := natV) (Good := saidOk) W1
  have s2 := eV_ W1 (.map #[] 0)
  have r1 : ∀ (tmps : Operand → Value) dst pos after guard ty, (execOp tmps ⟨dst, .makeMap 82 none, ty, pos, after, guard⟩).run Tryz.prog w = .ok (.value (.map (some w.heap.size))) W1 := by intros; rw [hW1]; rfl
  obtain ⟨W2, hW2⟩ : ∃ W2, W2 = W1.alloc (.map #[] 0) := ⟨_, rfl⟩
  rw [← hW2] at h2 m2 m3 s2
  have r2 : ∀ (tmps : Operand → Value) dst pos after guard ty, (execOp tmps ⟨dst, .makeMap 83 none, ty, pos, after, guard⟩).run Tryz.prog W1 = .ok (.value (.map (some (w.heap.size + 1)))) W2 := by intros; rw [hW2, ← s1]; rfl
  have hb := Blk.new W2 85 #[.map (some w.heap.size), .map (some (w.heap.size + 1))]
  rw [s2, s1] at hb
  rw [s1] at m3
  have R1 := Lib.hid r1
  have R2 := Lib.hid r2
  have hs : W2.heap.size = w.heap.size + 2 := by omega
  have HM := Lib.hid (And.intro (m2.alloc (.cells #[.map (some w.heap.size), .map (some (w.heap.size + 1))] 85)) (And.intro (m3.alloc (.cells #[.map (some w.heap.size), .map (some (w.heap.size + 1))] 85)) (And.intro hb (h2.alloc (.cells #[.map (some w.heap.size), .map (some (w.heap.size + 1))] 85)))))
  clear hb m1 m2 m3 s1 s2 h1 h2 r1 r2 hW1 hW2
  go_enter Tryz.func15, Tryz.ntmps15
  go_wp2_with (first
    | ((with_reducible refine b7_ ⟨some 1, _, _, _, _, _⟩ ?_); refine aW_ rfl _ _ (R1.out _ _ _ _ _ _) ?_)
    | ((with_reducible refine b7_ ⟨some 2, _, _, _, _, _⟩ ?_); refine aW_ rfl _ _ (R2.out _ _ _ _ _ _) ?_))
  go_ret
  exact ⟨rfl, ⟨HM.out.2.2.1, HM.out.1, HM.out.2.1, by omega, by omega, by omega⟩, HM.out.2.2.2⟩
theorem f4_ (w : World) (p bd bt : Nat) (D : List ((Nat × List UInt8) × Nat)) (T : List (((Int × Int) × List UInt8) × Nat)) (x y : Int) (v : Value) (l : List UInt8) (h : BookAt w p bd bt D T) (hv : BytesV w v l) (hk : saidOk ((x, y), l)) (b : Bool) (hb : (aget T ((x, y), l)).isSome = b) :
    Calls Tryz.prog 556 #[.pointer (some ⟨p, 0, none⟩), .int .i64 x, .int .i64 y, v] w fun e w' => e = .returned (.bool b) ∧ Ext [] w w' := by
  have H := Lib.hid h
  have HK := Lib.hid hk; clear hk
  have hc := fun (x : Later w) => Blk.cell (Later.blk x h.blk) 1
  have hcv := fun (x : Later w) => fi_ (hv.ext0 x.ext)
  have HB := Lib.hid hb
  clear h hv hb
  go_enter Tryz.func556, Tryz.ntmps556
  go_wp2
  refine bv_ (by kernel_rfl) (by kernel_rfl) ?_
  repeat (first
    | ((with_reducible refine at_opq ⟨some 23, _, _, _, _, _⟩ ?_); refine e3_ rfl _ (by rintro _ ⟨xq, rfl⟩; exact fE_ (H.out.ext0 xq.ext).mt dL_ _ Tryz.underlying83 (.int .i64 0) (by kernel_rfl) ((x, y), l) HK.out _ _ rfl rfl rfl) ?_; go_simp)
    | go_big_quiet_step (fail))
  refine wpQuiet_nil ?_
  intro xq
  have hx := xq.ext
  go_wp2
  go_ret
  exact ⟨ha_ HB.out, hx⟩
/-! ### Rows of 32 bytes -/
def numB (f n : Nat) : List UInt8 := UInt8.ofNat f :: (List.replicate 23 0 ++ beBytes n 8)
theorem bl_ (f n : Nat) : (numB f n).length = 32 := by simp [numB, v_]
theorem eC_ (f n : Nat) (hf : f < 256) : numCells f n = (numB f n).map bc := by
  simp [numCells, numB, bc]
  omega
theorem fa_ (f n : Nat) (hf : f < 256) : numV f n = arrB (numB f n) := by
  unfold numV arrB
  rw [eC_ f n hf]
theorem step_gog {P : Program} {ops : Array Oper} {o : Oper} {a : Act} {w : World} {K : Act → World → Prop} {Q : Exit → Act → World → Prop} {E : Prop} (hw : Region.wanted o (yielded ops a.tmps) = true) (f : FuncId) (xs : Array Operand) (ats : Array TypeId)
    (ho : o.op = .call { callee := .value (.func f), args := xs, argTypes := ats }) {R : Ending → World → Prop} (vals : Array Value) (hv : xs.map a.eval = vals) (hcall : (callFunc f (#[] ++ vals ++ #[])).run P w = .ok (.enter f vals) w) (hc : Calls P f vals w R) (h : ∀ e w', R e w' → ∃ v, e = .returned v ∧ K (a.put o.dst v) w') :
    if Region.wanted o (yielded ops a.tmps) = true then Oper.wp P o a w K Q else E := by
  rw [if_pos hw]
  subst hv
  unfold Oper.wp
  have hr : (execOp a.eval o).run P w = .ok (.enter f (xs.map a.eval)) w := by
    obtain ⟨dst, op, ty, pos, after, guard⟩ := o
    dsimp only at ho
    subst ho
    rw [execOp_call_go]
    exact hcall
  rw [hr, Oper.upon_enter]
  refine hc.mono fun e w' hR => ?_
  obtain ⟨v, rfl, hk⟩ := h e w' hR
  exact hk
def loadArr (t : TypeId) (v : Value) : Sem Next := execOp (fun _ => v) ⟨none, .load t (.tmp 0), 0, "", #[], none⟩
theorem jg_ (a : Act) (dst x ty pos after guard) : execOp a.eval ⟨dst, .load 64 x, ty, pos, after, guard⟩ = loadArr 64 (a.eval x) := rfl
theorem cT_ {w : World} {g : Nat} {L : List UInt8} (h : Blk w g 64 (L.map bc).toArray) (hL : L.length = 32) : (loadArr 64 (.pointer (some ⟨g, 0, none⟩))).run Tryz.prog w = .ok (.value (.agg (L.map bc).toArray)) w := by
  have h1 : (Tryz.prog.info? 64).map (·.size) = some 32 := by kernel_rfl
  unfold loadArr execOp
  simp only [Instr.loadAt, Instr.sureAddr, Sem.run_bind, Sem.run_pure, Result.andThen_ok, run_loadVar_row w g 64 64 (L.map bc).toArray (0, 0) _ h Tryz.underlying64 rfl (by rw [h1]; simp [hL])]
attribute [local go_sem ↓] jg_
theorem pm_some {α : Type} [DecidableEq α] {m : List (α × Nat)} {k : α} (h : (aget m k).isSome = true) : pm m k = m := if_pos h
set_option maxHeartbeats 2000000 in
theorem h9_ (w : World) (p bd bt : Nat) (D : List ((Nat × List UInt8) × Nat)) (T : List (((Int × Int) × List UInt8) × Nat)) (x y : Int) (v : Value) (l : List UInt8) (M : List UInt8) (h : BookAt w p bd bt D T) (hv : BytesV w v l) (hk : saidOk ((x, y), l)) (hM : M.length = 32) (hm : T.length < 4611686018427387904) (hpl : pl T ((x, y), l) < 9223372036854775808) (b : Bool) (hb : ((aget T ((x, y), l)).isSome && decide (M = numB 255 (pl T ((x, y), l)))) = b) :
    Calls Tryz.prog 552 #[.pointer (some ⟨p, 0, none⟩), .int .i64 x, .int .i64 y, v, arrB M] w fun e w' => e = .returned (.bool b) ∧ BookAt w' p bd bt D T ∧ Ext [bt] w w' := by
  have H := Lib.hid h; clear h
  have HV := Lib.hid hv; clear hv
  change Calls _ _ #[_, _, _, _, .agg (M.map bc).toArray] _ _
  have hx1 : Ext [] w (w.alloc (.cells (M.map bc).toArray 64)).drew := ((Ext.refl w).alloc _).drew
  have hb9 : Blk (w.alloc (.cells (M.map bc).toArray 64)).drew w.heap.size 64 (M.map bc).toArray := (Blk.new w 64 (M.map bc).toArray).drew
  have hcs := fun (W : World) => (by kernel_rfl : (callFunc 556 (#[] ++ #[.pointer (some ⟨p, 0, none⟩), .int .i64 x, .int .i64 y, v] ++ #[])).run Tryz.prog W = .ok (.enter 556 #[.pointer (some ⟨p, 0, none⟩), .int .i64 x, .int .i64 y, v]) W)
  have HX1 := Lib.hid hx1
  have HX0 := Lib.hid (Ext.new w (.cells (M.map bc).toArray 64))
  have HB9 := Lib.hid hb9
  have HCS := Lib.hid hcs
  clear hx1 hb9 hcs
  have HM := Lib.hid hM
  have HBT := Lib.hid H.out.mt.lt
  by_cases hs : (aget T ((x, y), l)).isSome = true
  · have hsaid := fun (W : World) (h : BookAt W p bd bt D T) (hv : BytesV W v l) => f4_ W p bd bt D T x y v l h hv hk true hs
    have htag := fun (W : World) (h : BookAt W p bd bt D T) (hv : BytesV W v l) => hD_ W p bd bt D T x y v l h hv hk hm hpl
    rw [pm_some hs, fa_ _ _ (by decide), arrB] at htag
    have heq : ∀ W : World, (binOp .eql 64 (.agg (M.map bc).toArray) (.agg ((numB 255 (pl T ((x, y), l))).map bc).toArray)).run Tryz.prog W = .ok (.bool b) W := fun W => eqlT M (numB 255 (pl T ((x, y), l))) hM (bl_ _ _) b (by rw [← hb, hs]; rfl) W
    have hct := fun (W : World) => (by kernel_rfl : (callFunc 555 (#[] ++ #[.pointer (some ⟨p, 0, none⟩), .int .i64 x, .int .i64 y, v] ++ #[])).run Tryz.prog W = .ok (.enter 555 #[.pointer (some ⟨p, 0, none⟩), .int .i64 x, .int .i64 y, v]) W)
    have HS := Lib.hid hsaid
    have HT := Lib.hid htag
    have HCT := Lib.hid hct
    clear hs hsaid htag hct hb hk
    go_enter Tryz.func552, Tryz.ntmps552
    go_wp2
    first | go_region_law (first
      | (refine dg_ rfl 556 _ _ rfl #[.pointer (some ⟨p, 0, none⟩), .int .i64 x, .int .i64 y, v] (by simp [Act.eval, Act.put]) (HCS.out _) (HS.out _ (H.out.ext0 HX1.out) (HV.out.ext0 HX1.out)) ?_; rintro e w2 ⟨rfl, hx2⟩; have hld := cT_ (HB9.out.ext hx2 (by simp)) HM.out; refine ⟨_, rfl, ?_⟩)
      | (refine step_gog rfl 555 _ _ rfl #[.pointer (some ⟨p, 0, none⟩), .int .i64 x, .int .i64 y, v] (by simp [Act.eval, Act.put]) (HCT.out _) (HT.out _ ((H.out.ext0 HX1.out).ext0 hx2) ((HV.out.ext0 HX1.out).ext0 hx2)) ?_; rintro e w3 ⟨rfl, hbk3, hx3⟩; have hld3 := cT_ ((HB9.out.ext hx2 (by simp)).ext hx3 (by have := HBT.out; simp; omega)) HM.out; refine ⟨_, rfl, ?_⟩))
    all_goals
      have HX := Lib.hid ((((HX1.out.mono (G := [bt]) (by simp)).trans hx2 (by simp)).trans hx3 (by simp)))
      have HK := Lib.hid hbk3
      clear hx2 hx3 hbk3 hld hld3
      go_wp2
      go_ret
      exact ⟨rfl, HK.out, HX.out⟩
  · have hs' : (aget T ((x, y), l)).isSome = false := by simpa using hs
    have hsaid := fun (W : World) (h : BookAt W p bd bt D T) (hv : BytesV W v l) => f4_ W p bd bt D T x y v l h hv hk false hs'
    obtain rfl : false = b := by rw [← hb, hs']; rfl
    have HS := Lib.hid hsaid
    clear hs hs' hsaid hb
    go_enter Tryz.func552, Tryz.ntmps552
    go_wp2
    refine bv_ (by kernel_rfl) (by kernel_rfl) ?_
    repeat (go_big_quiet_step ((go_at_call 556; exact Later.call (HS.out _ (H.out.ext0 (HX0.out.tr (Later.ext _))) (HV.out.ext0 (HX0.out.tr (Later.ext _)))))))
    refine wpQuiet_nil ?_
    rintro _ ⟨xq, rfl⟩
    have HX := Lib.hid (HX0.out.trans xq.ext (by simp))
    go_wp2
    go_ret
    exact ⟨rfl, H.out.ext0 HX.out, HX.out.mono (by simp)⟩
section
variable {α : Type} [DecidableEq α] {m : List (α × Nat)} {k c : α}
structure Inv1 (m : List (α × Nat)) (k : α) : Prop where
  one : aget m k = some 1
  only : ∀ c, aget m c = some 1 → c = k
  pos : 1 ≤ m.length
theorem fK_ (m : List (α × Nat)) (c : α) : (pm m c).length ≤ m.length + 1 := by
  unfold pm
  split
  · omega
  · rename_i hn; rw [er_, if_neg hn]; omega
end
end Go.Proofs.YtjclgkddfjbdiaaGreatDoor
namespace Go.Proofs.YtjclgkddfjbdiaaGreatDoor.A
open Go.RowKit
theorem bt_ {P : Program} {n : Nat} {W : Wd} {ops : Array Oper} {l : Slots} {σ : Blks} {X : List Nat} {Q : Exit → Act → World → Prop} {ix : Plan} {f : FuncId} {args args' : List Abs} {σ1 : Blks} {ι : Type} {τ' : ι → Blks} {res : ι → Abs} {xs : List Operand} {ats : Array TypeId} {d : Option Nat} {ty : TypeId} {pos : String} {aft : Array Edge} {g : Option (Nat × Bool)} {i : Nat} {x : Operand} {m : String} {t : TypeId} {y : Abs}
    (hi : ops[i]? = some ⟨d, .call { callee := .invoke x m, args := xs.toArray, argTypes := ats }, ty, pos, aft, g⟩) (hs : Spec P f args' σ1 τ' res) (hX : ∀ k ∈ mids σ1, k ∈ X) (hx : look l x = some (.ifc t y)) (hca : Casts (y :: args) args')
    (hmm : ∀ (u : Value) (ρ : Operand → Value) w, (Go.invoke (.fn (.method m) #[]) (#[.iface t u] ++ (xs.map ρ).toArray)).run P w = .ok (.enter f (#[u] ++ (xs.map ρ).toArray)) w) (hv : looks l xs = some args)
    (hg : gd ops l ⟨d, .call { callee := .invoke x m, args := xs.toArray, argTypes := ats }, ty, pos, aft, g⟩ = some true) (hd : lt? d n = true)
    (k : After σ σ1 τ' fun ν z => SX P ops ix X (St n W ν (put? l d (res z))) Q) : SX P ops (.e i ix) X (St n W σ l) Q := fun a w h => by
  unfold planW wpOp
  simp only [hi, h.wanted hg, if_true]
  refine .inl ?_
  unfold Oper.wp
  obtain ⟨u, h1, h2⟩ := h.eval hx
  rw [hU_ rfl h1 (hmm u a.eval), Oper.upon_enter]
  have : reps (mids σ ++ W.G) w (y :: args) (u :: xs.map a.eval) := ⟨u, _, rfl, h2, h.evals hv⟩
  rw [show #[u] ++ (xs.map a.eval).toArray = (u :: xs.map a.eval).toArray by simp]
  refine (hs.after h.mem (hca _ _ _ this) k).mono fun e w' ⟨z, r, ν, he, hx, _, hm, hc, hr, hk⟩ => ?_
  subst he
  exact ⟨fun w2 => Ext X w' w2, fun w2 h2 => (hx.mono (fun k hk => .inl (hX k hk))).trans h2 fun k hk => .inl hk, Ext.refl w', hk _ _ ((h.to hm hc).put hd hr)⟩
theorem b2_ {P : Program} {n : Nat} {W : Wd} {σ : Blks} {l : Slots} {X : List Nat} {x : Operand} {d : Option Nat} {ty : TypeId} {pos : String} {aft : Array Edge} {g : Option (Nat × Bool)} {m : String} {t : TypeId} {u : Value}
    (hx : look l x = some (.fn (.method m) [.ifc t (.v u)] [])) (h : ∀ w, (nilAhead (P.types.size + Made.depth) t u m).run P w = .ok (some false) w) : Val P n W σ l X ⟨d, .nilCheck x, ty, pos, aft, g⟩ (.fn (.method m) [.ifc t (.v u)] []) := fun a w hs _ => by
  have hr := hs.eval hx
  obtain ⟨us, vs, h1, ⟨_, _, rfl, ⟨_, rfl, h2⟩, h3⟩, h4⟩ := hr
  have h2 : _ = u := h2
  have h3 : _ = [] := h3
  have h4 : vs = [] := h4
  subst h2 h3 h4
  refine ⟨_, hs.eval hx, fun w' _ => ?_⟩
  simp [execOp, h1, Sem.run_bind, program, Sem.run, h w', Result.andThen]
abbrev DMap := List ((Nat × List UInt8) × Nat)
abbrev TMap := List (((Int × Int) × List UInt8) × Nat)
theorem fR_ {α β : Type} {w w' : World} {b : Nat} {K : α → Value} {V : β → Value} {Good : α → Prop} {m : List (α × β)} (h : MapOf w b K V Good m) (hb : w'.heap[b]? = w.heap[b]?) : MapOf w' b K V Good m := by
  obtain ⟨es, clock, h1, h2⟩ := h
  exact ⟨es, clock, hb.trans h1, h2⟩
def bkPc (p bd bt : Nat) (D : DMap) (T : TMap) : Pc where
  ids := [p, bd, bt]
  p := fun _ w => BookAt w p bd bt D T
  carry := fun K w K' w' _ hs h => ⟨(hs p (by simp)).trans h.blk, fR_ h.md (hs bd (by simp)), fR_ h.mt (hs bt (by simp)), h.ne⟩
  lt := fun K w h k hk => by
    simp only [List.mem_cons, List.not_mem_nil, or_false] at hk
    rcases hk with rfl | rfl | rfl
    · exact h.blk.lt
    · exact h.md.lt
    · exact h.mt.lt
theorem hE_ {w : World} {p bd bt : Nat} {D D' : DMap} {T T' : TMap} (h : BookAt w p bd bt D T) : (It.mids (.pc (bkPc p bd bt D' T'))).Nodup := by
  obtain ⟨h1, h2, h3⟩ := h.ne
  simp [It.mids, bkPc]
  omega
section
variable {p bd bt : Nat} {D : DMap} {T : TMap} {k x y : Int} {l : List UInt8}
theorem bknew_s : Spec Tryz.prog 15 [] [] (fun z : Nat × Nat × Nat => [.pc (bkPc z.1 z.2.1 z.2.2 [] [])]) (fun z => .v (.pointer (some ⟨z.1, 0, none⟩))) := fun G w vals hm hv => by
  have hv : vals = [] := hv
  subst hv
  refine (book_New w).mono fun e w' ⟨h1, h2, h3⟩ => ?_
  have h4 := hm.new (y := .pc (bkPc (w.heap.size + 2) w.heap.size (w.heap.size + 1) [] [])) h3 (hE_ h2) (by
    intro k hk
    simp only [It.mids, bkPc, List.mem_cons, List.not_mem_nil, or_false] at hk
    omega) rfl (fun _ => h2)
  exact ⟨(w.heap.size + 2, w.heap.size, w.heap.size + 1), _, h1, by simp [It.rids], h4.1, rfl⟩
theorem ia_ (hl : l.length ≤ maxLen) (hm : D.length < 1000000) (hpl : pl D (k8 k, l) < 9223372036854775808) :
    Spec Tryz.prog 553 [.v (.pointer (some ⟨p, 0, none⟩)), .v (.int .i64 k), byt l] [.pc (bkPc p bd bt D T)] (fun _ : Unit => [.pc (bkPc p bd bt (pm D (k8 k, l)) T)]) (fun _ => .agg (digA (numB (k8 k) (pl D (k8 k, l))))) := fun G w vals hmm hv => by
  obtain ⟨_, _, rfl, h1, _, _, rfl, h2, v, _, rfl, h3, h4⟩ := hv
  have h1 : _ = Value.pointer (some ⟨p, 0, none⟩) := h1
  have h2 : _ = Value.int .i64 k := h2
  have h4 : _ = [] := h4
  subst h1 h2 h4
  have hb : BookAt w p bd bt D T := hmm.hold (.pc (bkPc p bd bt D T)) (by simp)
  refine (gN_ w p bd bt D T k v l hb (a4_.1 h3).bytesA ⟨by show k8 k < 256; unfold k8; omega, hl⟩ (by omega) hpl).mono fun e w' ⟨e1, e2, e3⟩ => ?_
  have h5 := hmm.upd (x := .pc (bkPc p bd bt D T)) (y := .pc (bkPc p bd bt (pm D (k8 k, l)) T)) .here (e3.mono (by simp [It.mids, bkPc])) (hE_ e2) (fun k hk => .inl hk) rfl (fun _ => e2)
  refine ⟨(), _, e1, by simp [It.rids], h5.1, ?_⟩
  rw [fa_ _ _ (by unfold k8; omega)]
  exact ⟨_, rfl, hc_ _⟩
end
section
variable {from_ to_ : Int} {l M : List UInt8} {p bd bt : Nat} {D : DMap} {T : TMap}
/-! ### The program's calls -/
theorem jI_ (hx : i64r from_) (hy : i64r to_) (hl : l.length ≤ maxLen) (hm : T.length < 1000000) (hpl : pl T ((from_, to_), l) < 9223372036854775808) :
    Spec Tryz.prog 555 [.v (.pointer (some ⟨p, 0, none⟩)), int from_, int to_, byt l] [.pc (bkPc p bd bt D T)] (fun _ : Unit => [.pc (bkPc p bd bt D (pm T ((from_, to_), l)))]) (fun _ => .agg (digA (numB 255 (pl T ((from_, to_), l))))) := fun G w vals hmm hv => by
  obtain ⟨_, _, rfl, h1, _, _, rfl, h2, _, _, rfl, h2', v, _, rfl, h3, h4⟩ := hv
  have h1 : _ = Value.pointer (some ⟨p, 0, none⟩) := h1
  have h2 : _ = Value.int .i64 from_ := h2
  have h2' : _ = Value.int .i64 to_ := h2'
  have h4 : _ = [] := h4
  subst h1 h2 h2' h4
  have hb : BookAt w p bd bt D T := hmm.hold (.pc (bkPc p bd bt D T)) (by simp)
  refine (hD_ w p bd bt D T from_ to_ v l hb (a4_.1 h3).bytesA ⟨hx, hy, hl⟩ (by omega) hpl).mono fun e w' ⟨e1, e2, e3⟩ => ?_
  have h5 := hmm.upd (x := .pc (bkPc p bd bt D T)) (y := .pc (bkPc p bd bt D (pm T ((from_, to_), l)))) .here (e3.mono (by simp [It.mids, bkPc])) (hE_ e2) (fun k hk => .inl hk) rfl (fun _ => e2)
  refine ⟨(), _, e1, by simp [It.rids], h5.1, ?_⟩
  rw [fa_ _ _ (by omega)]
  exact ⟨_, rfl, hc_ _⟩
theorem f5_ (hx : i64r from_) (hy : i64r to_) (hl : l.length ≤ maxLen) (hM : M.length = 32) (hm : T.length < 1000000) (hpl : pl T ((from_, to_), l) < 9223372036854775808) :
    Spec Tryz.prog 552 [.v (.pointer (some ⟨p, 0, none⟩)), int from_, int to_, byt l, .agg (digA M)] [.pc (bkPc p bd bt D T)] (fun _ : Unit => [.pc (bkPc p bd bt D T)]) (fun _ => boo ((aget T ((from_, to_), l)).isSome && decide (M = numB 255 (pl T ((from_, to_), l))))) := fun G w vals hmm hv => by
  obtain ⟨_, _, rfl, h1, _, _, rfl, h2, _, _, rfl, h2', v, _, rfl, h3, _, _, rfl, ⟨us, rfl, h5⟩, h4⟩ := hv
  have h1 : _ = Value.pointer (some ⟨p, 0, none⟩) := h1
  have h2 : _ = Value.int .i64 from_ := h2
  have h2' : _ = Value.int .i64 to_ := h2'
  have h4 : _ = [] := h4
  have h5 : us = M.map bc := by
    have e : digA M = (M.map bc).map .v := by simp [digA]
    rw [e] at h5
    exact ak_.1 h5
  subst h1 h2 h2' h4 h5
  have hb : BookAt w p bd bt D T := hmm.hold (.pc (bkPc p bd bt D T)) (by simp)
  refine (h9_ w p bd bt D T from_ to_ v l M hb (a4_.1 h3).bytesA ⟨hx, hy, hl⟩ hM (by omega) hpl _ rfl).mono fun e w' ⟨e1, e2, e3⟩ => ?_
  have h6 := hmm.upd (x := .pc (bkPc p bd bt D T)) (y := .pc (bkPc p bd bt D T)) .here (e3.mono (by simp [It.mids, bkPc])) (hE_ e2) (fun k hk => .inl hk) rfl (fun _ => e2)
  exact ⟨(), _, e1, by simp [It.rids], h6.1, rfl⟩
end
section
variable {α : Type} [DecidableEq α] {T : List (α × Nat)} {k k' : α} {v : Nat}
structure Num1 (T : List (α × Nat)) : Prop where
  pos : ∀ k v, aget T k = some v → 1 ≤ v ∧ v ≤ T.length
  inj : ∀ k k' v, aget T k = some v → aget T k' = some v → k = k'
theorem Num1.nil : Num1 ([] : List (α × Nat)) := ⟨fun k v h => by simp [aget] at h, fun k k' v h => by simp [aget] at h⟩
theorem Num1.put (h : Num1 T) (k : α) : Num1 (pm T k) := by
  unfold pm
  split
  · exact h
  · rename_i hn
    refine ⟨fun c v hc => ?_, fun c c' v hc hc' => ?_⟩
    · rw [er_, if_neg hn]
      rw [es_] at hc
      split at hc
      · have := Option.some.inj hc
        omega
      · have := h.pos c v hc
        omega
    · rw [es_] at hc hc'
      split at hc
      · next e =>
        split at hc'
        · next e' => exact e.trans e'.symm
        · have h1 := Option.some.inj hc
          have := h.pos c' v hc'
          omega
      · split at hc'
        · have h1 := Option.some.inj hc'
          have := h.pos c v hc
          omega
        · exact h.inj c c' v hc hc'
theorem Num1.zero (h : Num1 T) (k : α) : cget T k = 0 ↔ aget T k = none := by
  unfold cget
  cases hk : aget T k with
  | none => simp
  | some v =>
    have := h.pos k v hk
    simp
    omega
theorem Num1.pl_le (h : Num1 T) (k : α) : pl T k ≤ T.length + 1 := by
  unfold pl
  cases hk : aget T k with
  | none => exact Nat.le_refl _
  | some v =>
    have := h.pos k v hk
    show v ≤ _
    omega
theorem pm_new (hk : aget T k = none) : pm T k = aput T k (T.length + 1) := by
  unfold pm
  rw [if_neg (by rw [hk]; decide)]
theorem pm_old (hk : ¬ aget T k = none) : pm T k = T := by
  unfold pm
  rw [if_pos (by cases h : aget T k with | none => exact absurd h hk | some v => rfl)]
theorem gP_ (c : α) : aget (pm T k) c = if c = k then some (pl T k) else aget T c := by
  by_cases hk : aget T k = none
  · rw [pm_new hk, es_]
    unfold pl
    rw [hk]
    rfl
  · rw [pm_old hk]
    split
    · next e =>
      rw [e]
      unfold pl
      cases h : aget T k with
      | none => exact absurd h hk
      | some v => rfl
    · rfl
end
section
variable {α : Type} [DecidableEq α] {T : List (α × Nat)} {k : α} {g : Int → α} {l : List Int}
def hasK (T : List (α × Nat)) (k : α) : Bool := (aget T k).isSome
theorem hasK_iff : hasK T k = true ↔ ¬ aget T k = none := by
  unfold hasK
  cases aget T k <;> simp
theorem hasK_pm (c : α) : hasK (pm T k) c = (decide (c = k) || hasK T c) := by
  unfold hasK
  rw [gP_]
  by_cases h : c = k <;> simp [h]
theorem pl_keep {c : α} (h : hasK T c = true) : pl (pm T k) c = pl T c := by
  rw [hasK_iff] at h
  unfold pl
  rw [gP_]
  split
  · next e =>
    subst e
    unfold pl
    cases hc : aget T c with
    | none => exact absurd hc h
    | some v => rfl
  · cases hc : aget T c with
    | none => exact absurd hc h
    | some v => rfl
theorem pl_self : pl (pm T k) k = pl T k := by
  show (aget (pm T k) k).getD _ = _
  rw [gP_, if_pos rfl]
  rfl
def tmG (g : Int → α) (T : List (α × Nat)) (l : List Int) : List (α × Nat) := l.foldl (fun T w => pm T (g w)) T
theorem dI_ (g : Int → α) (T : List (α × Nat)) (l : List Int) (w : Int) : tmG g T (l ++ [w]) = pm (tmG g T l) (g w) := by
  unfold tmG
  rw [List.foldl_append]
  rfl
theorem iF_ (h : Num1 T) (g : Int → α) : ∀ l : List Int, Num1 (tmG g T l) := fun l => by
  induction l generalizing T with
  | nil => exact h
  | cons w l ih => exact ih (h.put (g w))
theorem iG_ (g : Int → α) (T : List (α × Nat)) (l : List Int) : (tmG g T l).length ≤ T.length + l.length := by
  induction l generalizing T with
  | nil => exact Nat.le_refl _
  | cons w l ih =>
    have h1 := ih (T := pm T (g w))
    have h2 := fK_ T (g w)
    show (tmG g (pm T (g w)) l).length ≤ _
    rw [List.length_cons]
    omega
theorem tmG_has (g : Int → α) (T : List (α × Nat)) (c : α) : ∀ l : List Int, hasK (tmG g T l) c = (hasK T c || l.any fun w => decide (c = g w)) := fun l => by
  induction l generalizing T with
  | nil => simp [tmG]
  | cons w l ih =>
    show hasK (tmG g (pm T (g w)) l) c = _
    rw [ih, hasK_pm, List.any_cons]
    cases decide (c = g w) <;> cases hasK T c <;> rfl
def tagN (T : List (α × Nat)) (k : α) : Tg := ⟨numB 255 (pl T k), bl_ _ _⟩
def tagsG (g : Int → α) (T : List (α × Nat)) (l : List Int) : List Tg := l.map fun w => tagN (tmG g T l) (g w)
theorem dz_ (g : Int → α) (T : List (α × Nat)) (l : List Int) : (tagsG g T l).length = l.length := by simp [tagsG]
theorem df_ (g : Int → α) (T : List (α × Nat)) (l : List Int) (w : Int) : (tagsG g T l).map Tg.abs ++ [digA (numB 255 (pl (tmG g T l) (g w)))] = (tagsG g T (l ++ [w])).map Tg.abs := by
  unfold tagsG
  rw [dI_, List.map_append, List.map_append]
  congr 1
  · rw [List.map_map, List.map_map]
    refine List.map_congr_left fun v hv => ?_
    have hh : hasK (tmG g T l) (g v) = true := by
      rw [tmG_has, Bool.or_eq_true]
      exact .inr (List.any_eq_true.2 ⟨v, hv, by simp⟩)
    show digA (numB 255 _) = digA (numB 255 _)
    rw [pl_keep hh]
  · show _ = [digA (numB 255 _)]
    rw [pl_self]
def chkG (T : List (α × Nat)) (k : α) (M : List UInt8) : Bool := hasK T k && decide (M = numB 255 (pl T k))
end
end Go.Proofs.YtjclgkddfjbdiaaGreatDoor.A
