/-
  Packed out of the texts: Cores, Batch1, Batch2.
-/
import Derived.Test.YtpgffckfbgfgcaaD05
/-
  Cores: whether they may be, and their bytes: the program's and the document's, over the engine.
-/
set_option maxRecDepth 100000
namespace Go.Proofs.Ytpgffckfbgfgcaa
open Go.RowKit

structure Core where
  client : Int
  stamp : Int
  op : Int
  letter : ByteArray
  a : Int
  b : Int
  text : ByteArray
def Core.cells (c : Core) : List Value := [.int .i64 c.client, .int .i64 c.stamp, .int .i64 c.op, .string c.letter, .int .i64 c.a, .int .i64 c.b, .string c.text]
def Core.check (c : Core) (n : Int) : Int :=
  if n < 1 ∨ 7 < n then 1 else if c.client < n ∨ n + 4 ≤ c.client then 17 else if c.stamp < 1 ∨ 1099511627776 < c.stamp ∨ c.op < 1 ∨ 9 < c.op then 5 else if nameB c.letter = false then 7 else if 200 < c.text.size then 3 else 0
def rowB (m : List UInt8) : List UInt8 := beBytes m.length 4 ++ m
def Core.bytes (c : Core) : List UInt8 :=
  beBytes (u64 c.client) 1 ++ beBytes (u64 c.stamp) 8 ++ beBytes (u64 c.op) 1 ++ rowB c.letter.data.toList ++ beBytes (u64 c.a) 8 ++ beBytes (u64 c.b) 8 ++ rowB c.text.data.toList
theorem u64_lt (x : Int) : u64 x < 18446744073709551616 := by unfold u64; omega
section
variable {S : List (World × List Nat)} {σ τ : Blks} {ρ : List Dt} {w : World} {P : Program} {n : Nat} {l : Slots} {D : World → Prop} {x y : Operand} {d : Option Nat} {ty t : TypeId} {pos : String} {aft : Array Edge} {g : Option (Nat × Bool)} {v : Value}
/-- An element of an array's value. -/
theorem Val.indexAr1 {tab : List (Nat × TI)} (hT : TabOk P tab) {sz m e sz' : Nat} {zs zs' L : List Value} {k : IntKind} {r : Int} {q : Nat} (ht : ti tab t = some ⟨sz, .array m e, zs⟩) (hj : ti tab e = some ⟨sz', .one, zs'⟩) (hs : Nat.beq sz' 1 = true) (hx : look l x = some (.agg L.toArray)) (hy : look l y = some (.int k r)) (hr : r = (q : Nat)) (hq : q < m) (hv : L[q]? = some v) :
    Val P n l D ⟨d, .index t x y, ty, pos, aft, g⟩ v := fun A w hf hD => by
  obtain ⟨dd, hu, hk⟩ := (hT t _ ht).und
  cases dd <;> simp [kindOk] at hk
  obtain ⟨rfl, rfl⟩ := hk
  have h1 := (hT _ _ hj).sizeOf (w := w)
  have h2 := (hT _ _ hj).isAgg (w := w)
  rw [show sz' = 1 from Nat.eq_of_beq_eq_true hs] at h1
  subst hr
  simp [execOp, Instr.index, asIntOf, hf.eval hx, hf.eval hy, run_underlying hu, Sem.run_bind, Result.andThen, hq, h1, part, h2, hv]

set_option maxHeartbeats 400000 in
theorem check_c {c : Core} {n : Int} (hw : Mem S σ ρ w) : Calls Try.prog 170 #[.agg c.cells.toArray, .int .i64 n] w fun e w' => e = .returned (.int .i64 (c.check n)) ∧ Mem S σ ρ w' := by
  refine calls_of [.agg c.cells.toArray, .int .i64 n] Try.func170 rfl Try.ntmps170 rfl (Mem S σ ρ) hw ?_
  refine SC.seq (SC.region ?_)
  refine SL.eff (Eff.boxA rfl) rfl rfl ?_
  rintro _ _ ⟨b2, rfl, rfl⟩
  refine SL.val (Val.assign rfl) rfl rfl ?_
  refine SL.nil (SE.seq ?_)
  refine SC.seq ?_
  refine SC.block ?_
  refine SC.seq (SC.region ?_)
  refine SL.val (Val.move rfl) rfl rfl ?_
  refine SL.val (Val.ltI rfl rfl) rfl rfl ?_
  refine SL.val (Val.move rfl) rfl rfl ?_
  refine SL.bothP (t := 8) rfl ?_ ?_
  · intro hc8
    iterate 2 refine SL.skip rfl rfl ?_
    refine SL.val (Val.pickT rfl rfl) rfl rfl ?_
    refine SL.val (Val.assign rfl) rfl rfl ?_
    refine SL.nil (SE.seq ?_)
    refine SC.condT rfl ?_
    refine SC.seq (SC.region ?_)
    refine SL.val (Val.assign rfl) rfl rfl ?_
    refine SL.nil (SE.seq ?_)
    refine SC.ret ?_
    refine SE.ret ?_
    refine SE.then_ (by intro h; cases h) ?_
    refine SE.ret1 rfl rfl ?_
    intro w' hw'
    refine ⟨?_, hw'.sub (fun _ h => h) (List.sublist_cons_self _ _)⟩
    congr 2
    unfold Core.check
    repeat' split
    all_goals first | rfl | omega | simp_all
  intro hc8
  refine SL.val (Val.move rfl) rfl rfl ?_
  refine SL.val (Val.gtI rfl rfl) rfl rfl ?_
  refine SL.val (Val.pickF rfl rfl) rfl rfl ?_
  refine SL.val (Val.assign rfl) rfl rfl ?_
  refine SL.nil (SE.seq ?_)
  refine SC.condP rfl ?_ ?_
  · intro hc5
    refine SC.seq (SC.region ?_)
    refine SL.val (Val.assign rfl) rfl rfl ?_
    refine SL.nil (SE.seq ?_)
    refine SC.ret ?_
    refine SE.ret ?_
    refine SE.then_ (by intro h; cases h) ?_
    refine SE.ret1 rfl rfl ?_
    intro w' hw'
    refine ⟨?_, hw'.sub (fun _ h => h) (List.sublist_cons_self _ _)⟩
    congr 2
    unfold Core.check
    repeat' split
    all_goals first | rfl | omega | simp_all
  intro hc5
  refine SC.seq (SC.region ?_)
  refine SL.val (Val.fieldAddr tabOk rfl rfl rfl rfl rfl) rfl rfl ?_
  first
    | refine SL.val (Val.load1 tabOk rfl rfl (by repeat (first | assumption | exact List.mem_cons_self | exact hmem _ | apply List.mem_cons_of_mem)) (by rfl)) rfl rfl ?_
    | refine SL.val (Val.load1C tabOk rfl rfl (by assumption)) rfl rfl ?_
  refine SL.val (Val.move rfl) rfl rfl ?_
  refine SL.val (Val.ltI rfl rfl) rfl rfl ?_
  refine SL.val (Val.move rfl) rfl rfl ?_
  refine SL.bothP (t := 17) rfl ?_ ?_
  · intro hc17
    iterate 5 refine SL.skip rfl rfl ?_
    refine SL.val (Val.pickT rfl rfl) rfl rfl ?_
    refine SL.val (Val.assign rfl) rfl rfl ?_
    refine SL.nil (SE.seq ?_)
    refine SC.condT rfl ?_
    refine SC.seq (SC.region ?_)
    refine SL.val (Val.assign rfl) rfl rfl ?_
    refine SL.nil (SE.seq ?_)
    refine SC.ret ?_
    refine SE.ret ?_
    refine SE.then_ (by intro h; cases h) ?_
    refine SE.ret1 rfl rfl ?_
    intro w' hw'
    refine ⟨?_, hw'.sub (fun _ h => h) (List.sublist_cons_self _ _)⟩
    congr 2
    unfold Core.check
    repeat' split
    all_goals first | rfl | omega | simp_all
  intro hc17
  refine SL.val (Val.fieldAddr tabOk rfl rfl rfl rfl rfl) rfl rfl ?_
  first
    | refine SL.val (Val.load1 tabOk rfl rfl (by repeat (first | assumption | exact List.mem_cons_self | exact hmem _ | apply List.mem_cons_of_mem)) (by rfl)) rfl rfl ?_
    | refine SL.val (Val.load1C tabOk rfl rfl (by assumption)) rfl rfl ?_
  refine SL.val (Val.move rfl) rfl rfl ?_
  first
    | refine SL.val (Val.addI rfl rfl (by simp only [InR, lo, hi]; omega)) rfl rfl ?_
    | refine SL.val (Val.addW rfl rfl) rfl rfl ?_
  refine SL.val (Val.geI rfl rfl) rfl rfl ?_
  refine SL.val (Val.pickF rfl rfl) rfl rfl ?_
  refine SL.val (Val.assign rfl) rfl rfl ?_
  refine SL.nil (SE.seq ?_)
  refine SC.condP rfl ?_ ?_
  · intro hc12
    refine SC.seq (SC.region ?_)
    refine SL.val (Val.assign rfl) rfl rfl ?_
    refine SL.nil (SE.seq ?_)
    refine SC.ret ?_
    refine SE.ret ?_
    refine SE.then_ (by intro h; cases h) ?_
    refine SE.ret1 rfl rfl ?_
    intro w' hw'
    refine ⟨?_, hw'.sub (fun _ h => h) (List.sublist_cons_self _ _)⟩
    congr 2
    unfold Core.check
    repeat' split
    all_goals first | rfl | omega | simp_all
  intro hc12
  refine SC.seq (SC.region ?_)
  refine SL.val (Val.fieldAddr tabOk rfl rfl rfl rfl rfl) rfl rfl ?_
  first
    | refine SL.val (Val.load1 tabOk rfl rfl (by repeat (first | assumption | exact List.mem_cons_self | exact hmem _ | apply List.mem_cons_of_mem)) (by rfl)) rfl rfl ?_
    | refine SL.val (Val.load1C tabOk rfl rfl (by assumption)) rfl rfl ?_
  refine SL.val (Val.ltI rfl rfl) rfl rfl ?_
  refine SL.val (Val.move rfl) rfl rfl ?_
  refine SL.bothP (t := 28) rfl ?_ ?_
  · intro hc28
    iterate 3 refine SL.skip rfl rfl ?_
    refine SL.val (Val.pickT rfl rfl) rfl rfl ?_
    refine SL.val (Val.move rfl) rfl rfl ?_
    iterate 3 refine SL.skip rfl rfl ?_
    refine SL.val (Val.pickT rfl rfl) rfl rfl ?_
    refine SL.val (Val.move rfl) rfl rfl ?_
    iterate 3 refine SL.skip rfl rfl ?_
    refine SL.val (Val.pickT rfl rfl) rfl rfl ?_
    refine SL.val (Val.assign rfl) rfl rfl ?_
    refine SL.nil (SE.seq ?_)
    refine SC.condT rfl ?_
    refine SC.seq (SC.region ?_)
    refine SL.val (Val.assign rfl) rfl rfl ?_
    refine SL.nil (SE.seq ?_)
    refine SC.ret ?_
    refine SE.ret ?_
    refine SE.then_ (by intro h; cases h) ?_
    refine SE.ret1 rfl rfl ?_
    intro w' hw'
    refine ⟨?_, hw'.sub (fun _ h => h) (List.sublist_cons_self _ _)⟩
    congr 2
    unfold Core.check
    repeat' split
    all_goals first | rfl | omega | simp_all
  intro hc28
  refine SL.val (Val.fieldAddr tabOk rfl rfl rfl rfl rfl) rfl rfl ?_
  first
    | refine SL.val (Val.load1 tabOk rfl rfl (by repeat (first | assumption | exact List.mem_cons_self | exact hmem _ | apply List.mem_cons_of_mem)) (by rfl)) rfl rfl ?_
    | refine SL.val (Val.load1C tabOk rfl rfl (by assumption)) rfl rfl ?_
  refine SL.val (Val.gtI rfl rfl) rfl rfl ?_
  refine SL.val (Val.pickF rfl rfl) rfl rfl ?_
  refine SL.val (Val.move rfl) rfl rfl ?_
  refine SL.bothP (t := 33) rfl ?_ ?_
  · intro hc33
    iterate 3 refine SL.skip rfl rfl ?_
    refine SL.val (Val.pickT rfl rfl) rfl rfl ?_
    refine SL.val (Val.move rfl) rfl rfl ?_
    iterate 3 refine SL.skip rfl rfl ?_
    refine SL.val (Val.pickT rfl rfl) rfl rfl ?_
    refine SL.val (Val.assign rfl) rfl rfl ?_
    refine SL.nil (SE.seq ?_)
    refine SC.condT rfl ?_
    refine SC.seq (SC.region ?_)
    refine SL.val (Val.assign rfl) rfl rfl ?_
    refine SL.nil (SE.seq ?_)
    refine SC.ret ?_
    refine SE.ret ?_
    refine SE.then_ (by intro h; cases h) ?_
    refine SE.ret1 rfl rfl ?_
    intro w' hw'
    refine ⟨?_, hw'.sub (fun _ h => h) (List.sublist_cons_self _ _)⟩
    congr 2
    unfold Core.check
    repeat' split
    all_goals first | rfl | omega | simp_all
  intro hc33
  refine SL.val (Val.fieldAddr tabOk rfl rfl rfl rfl rfl) rfl rfl ?_
  first
    | refine SL.val (Val.load1 tabOk rfl rfl (by repeat (first | assumption | exact List.mem_cons_self | exact hmem _ | apply List.mem_cons_of_mem)) (by rfl)) rfl rfl ?_
    | refine SL.val (Val.load1C tabOk rfl rfl (by assumption)) rfl rfl ?_
  refine SL.val (Val.ltI rfl rfl) rfl rfl ?_
  refine SL.val (Val.pickF rfl rfl) rfl rfl ?_
  refine SL.val (Val.move rfl) rfl rfl ?_
  refine SL.bothP (t := 38) rfl ?_ ?_
  · intro hc38
    iterate 3 refine SL.skip rfl rfl ?_
    refine SL.val (Val.pickT rfl rfl) rfl rfl ?_
    refine SL.val (Val.assign rfl) rfl rfl ?_
    refine SL.nil (SE.seq ?_)
    refine SC.condT rfl ?_
    refine SC.seq (SC.region ?_)
    refine SL.val (Val.assign rfl) rfl rfl ?_
    refine SL.nil (SE.seq ?_)
    refine SC.ret ?_
    refine SE.ret ?_
    refine SE.then_ (by intro h; cases h) ?_
    refine SE.ret1 rfl rfl ?_
    intro w' hw'
    refine ⟨?_, hw'.sub (fun _ h => h) (List.sublist_cons_self _ _)⟩
    congr 2
    unfold Core.check
    repeat' split
    all_goals first | rfl | omega | simp_all
  intro hc38
  refine SL.val (Val.fieldAddr tabOk rfl rfl rfl rfl rfl) rfl rfl ?_
  first
    | refine SL.val (Val.load1 tabOk rfl rfl (by repeat (first | assumption | exact List.mem_cons_self | exact hmem _ | apply List.mem_cons_of_mem)) (by rfl)) rfl rfl ?_
    | refine SL.val (Val.load1C tabOk rfl rfl (by assumption)) rfl rfl ?_
  refine SL.val (Val.gtI rfl rfl) rfl rfl ?_
  refine SL.val (Val.pickF rfl rfl) rfl rfl ?_
  refine SL.val (Val.assign rfl) rfl rfl ?_
  refine SL.nil (SE.seq ?_)
  refine SC.condP rfl ?_ ?_
  · intro hc24
    refine SC.seq (SC.region ?_)
    refine SL.val (Val.assign rfl) rfl rfl ?_
    refine SL.nil (SE.seq ?_)
    refine SC.ret ?_
    refine SE.ret ?_
    refine SE.then_ (by intro h; cases h) ?_
    refine SE.ret1 rfl rfl ?_
    intro w' hw'
    refine ⟨?_, hw'.sub (fun _ h => h) (List.sublist_cons_self _ _)⟩
    congr 2
    unfold Core.check
    repeat' split
    all_goals first | rfl | omega | simp_all
  intro hc24
  refine SC.seq (SC.region ?_)
  refine SL.val (Val.fieldAddr tabOk rfl rfl rfl rfl rfl) rfl rfl ?_
  first
    | refine SL.val (Val.load1 tabOk rfl rfl (by repeat (first | assumption | exact List.mem_cons_self | exact hmem _ | apply List.mem_cons_of_mem)) (by rfl)) rfl rfl ?_
    | refine SL.val (Val.load1C tabOk rfl rfl (by assumption)) rfl rfl ?_
  refine SL.call (by kernel_rfl) rfl rfl rfl ?_
  intro w hw
  refine (isName_c hw).mono ?_; rintro _ _ ⟨rfl, hm⟩; refine ⟨_, _, rfl, hm, ?_⟩; clear hm hw w
  refine SL.val (Val.notB rfl) rfl rfl ?_
  refine SL.val (Val.assign rfl) rfl rfl ?_
  refine SL.nil (SE.seq ?_)
  refine SC.cond rfl ?_ ?_
  · intro hc43
    refine SC.seq (SC.region ?_)
    refine SL.val (Val.assign rfl) rfl rfl ?_
    refine SL.nil (SE.seq ?_)
    refine SC.ret ?_
    refine SE.ret ?_
    refine SE.then_ (by intro h; cases h) ?_
    refine SE.ret1 rfl rfl ?_
    intro w' hw'
    refine ⟨?_, hw'.sub (fun _ h => h) (List.sublist_cons_self _ _)⟩
    congr 2
    unfold Core.check
    repeat' split
    all_goals first | rfl | omega | simp_all
  intro hc43
  refine SC.seq (SC.region ?_)
  refine SL.val (Val.fieldAddr tabOk rfl rfl rfl rfl rfl) rfl rfl ?_
  first
    | refine SL.val (Val.load1 tabOk rfl rfl (by repeat (first | assumption | exact List.mem_cons_self | exact hmem _ | apply List.mem_cons_of_mem)) (by rfl)) rfl rfl ?_
    | refine SL.val (Val.load1C tabOk rfl rfl (by assumption)) rfl rfl ?_
  refine SL.val (Val.lenSt rfl Try.underlying9) rfl rfl ?_
  refine SL.val (Val.gtI rfl rfl) rfl rfl ?_
  refine SL.val (Val.assign rfl) rfl rfl ?_
  refine SL.nil (SE.seq ?_)
  refine SC.condP rfl ?_ ?_
  · intro hc48
    refine SC.seq (SC.region ?_)
    refine SL.val (Val.assign rfl) rfl rfl ?_
    refine SL.nil (SE.seq ?_)
    refine SC.ret ?_
    refine SE.ret ?_
    refine SE.then_ (by intro h; cases h) ?_
    refine SE.ret1 rfl rfl ?_
    intro w' hw'
    refine ⟨?_, hw'.sub (fun _ h => h) (List.sublist_cons_self _ _)⟩
    congr 2
    unfold Core.check
    repeat' split
    all_goals first | rfl | omega | simp_all
  intro hc48
  refine SC.skip ?_
  refine SE.inBlock ?_
  refine SE.seq ?_
  refine SC.seq (SC.region ?_)
  refine SL.val (Val.assign rfl) rfl rfl ?_
  refine SL.nil (SE.seq ?_)
  refine SC.ret ?_
  refine SE.ret1 rfl rfl ?_
  intro w' hw'
  refine ⟨?_, hw'.sub (fun _ h => h) (List.sublist_cons_self _ _)⟩
  congr 2
  unfold Core.check
  repeat' split
  all_goals first | rfl | omega | simp_all

set_option maxHeartbeats 400000 in
theorem rcheck_c {c : Core} {n : Int} (hw : Mem S σ ρ w) (hs : c.letter.size ≤ lots) : Calls Try.prog 115 #[.agg c.cells.toArray, .int .i64 n] w fun e w' => e = .returned (.int .i64 (c.check n)) ∧ Mem S σ ρ w' := by
  refine calls_of [.agg c.cells.toArray, .int .i64 n] Try.func115 rfl Try.ntmps115 rfl (Mem S σ ρ) hw ?_
  refine SC.seq (SC.region ?_)
  refine SL.eff (Eff.boxA rfl) rfl rfl ?_
  rintro _ _ ⟨b2, rfl, rfl⟩
  refine SL.val (Val.assign rfl) rfl rfl ?_
  refine SL.nil (SE.seq ?_)
  refine SC.seq ?_
  refine SC.block ?_
  refine SC.seq (SC.region ?_)
  refine SL.val (Val.move rfl) rfl rfl ?_
  refine SL.val (Val.ltI rfl rfl) rfl rfl ?_
  refine SL.val (Val.move rfl) rfl rfl ?_
  refine SL.bothP (t := 8) rfl ?_ ?_
  · intro hc8
    iterate 2 refine SL.skip rfl rfl ?_
    refine SL.val (Val.pickT rfl rfl) rfl rfl ?_
    refine SL.val (Val.assign rfl) rfl rfl ?_
    refine SL.nil (SE.seq ?_)
    refine SC.condT rfl ?_
    refine SC.seq (SC.region ?_)
    refine SL.val (Val.assign rfl) rfl rfl ?_
    refine SL.nil (SE.seq ?_)
    refine SC.ret ?_
    refine SE.ret ?_
    refine SE.then_ (by intro h; cases h) ?_
    refine SE.ret1 rfl rfl ?_
    intro w' hw'
    refine ⟨?_, hw'.sub (fun _ h => h) (List.sublist_cons_self _ _)⟩
    congr 2
    unfold Core.check
    repeat' split
    all_goals first | rfl | omega | simp_all
  intro hc8
  refine SL.val (Val.move rfl) rfl rfl ?_
  refine SL.val (Val.gtI rfl rfl) rfl rfl ?_
  refine SL.val (Val.pickF rfl rfl) rfl rfl ?_
  refine SL.val (Val.assign rfl) rfl rfl ?_
  refine SL.nil (SE.seq ?_)
  refine SC.condP rfl ?_ ?_
  · intro hc5
    refine SC.seq (SC.region ?_)
    refine SL.val (Val.assign rfl) rfl rfl ?_
    refine SL.nil (SE.seq ?_)
    refine SC.ret ?_
    refine SE.ret ?_
    refine SE.then_ (by intro h; cases h) ?_
    refine SE.ret1 rfl rfl ?_
    intro w' hw'
    refine ⟨?_, hw'.sub (fun _ h => h) (List.sublist_cons_self _ _)⟩
    congr 2
    unfold Core.check
    repeat' split
    all_goals first | rfl | omega | simp_all
  intro hc5
  refine SC.seq (SC.region ?_)
  refine SL.val (Val.fieldAddr tabOk rfl rfl rfl rfl rfl) rfl rfl ?_
  first
    | refine SL.val (Val.load1 tabOk rfl rfl (by repeat (first | assumption | exact List.mem_cons_self | exact hmem _ | apply List.mem_cons_of_mem)) (by rfl)) rfl rfl ?_
    | refine SL.val (Val.load1C tabOk rfl rfl (by assumption)) rfl rfl ?_
  refine SL.val (Val.move rfl) rfl rfl ?_
  refine SL.val (Val.ltI rfl rfl) rfl rfl ?_
  refine SL.val (Val.move rfl) rfl rfl ?_
  refine SL.bothP (t := 17) rfl ?_ ?_
  · intro hc17
    iterate 5 refine SL.skip rfl rfl ?_
    refine SL.val (Val.pickT rfl rfl) rfl rfl ?_
    refine SL.val (Val.assign rfl) rfl rfl ?_
    refine SL.nil (SE.seq ?_)
    refine SC.condT rfl ?_
    refine SC.seq (SC.region ?_)
    refine SL.val (Val.assign rfl) rfl rfl ?_
    refine SL.nil (SE.seq ?_)
    refine SC.ret ?_
    refine SE.ret ?_
    refine SE.then_ (by intro h; cases h) ?_
    refine SE.ret1 rfl rfl ?_
    intro w' hw'
    refine ⟨?_, hw'.sub (fun _ h => h) (List.sublist_cons_self _ _)⟩
    congr 2
    unfold Core.check
    repeat' split
    all_goals first | rfl | omega | simp_all
  intro hc17
  refine SL.val (Val.fieldAddr tabOk rfl rfl rfl rfl rfl) rfl rfl ?_
  first
    | refine SL.val (Val.load1 tabOk rfl rfl (by repeat (first | assumption | exact List.mem_cons_self | exact hmem _ | apply List.mem_cons_of_mem)) (by rfl)) rfl rfl ?_
    | refine SL.val (Val.load1C tabOk rfl rfl (by assumption)) rfl rfl ?_
  refine SL.val (Val.move rfl) rfl rfl ?_
  first
    | refine SL.val (Val.addI rfl rfl (by simp only [InR, lo, hi]; omega)) rfl rfl ?_
    | refine SL.val (Val.addW rfl rfl) rfl rfl ?_
  refine SL.val (Val.gtI rfl rfl) rfl rfl ?_
  refine SL.val (Val.pickF rfl rfl) rfl rfl ?_
  refine SL.val (Val.assign rfl) rfl rfl ?_
  refine SL.nil (SE.seq ?_)
  refine SC.condP rfl ?_ ?_
  · intro hc12
    refine SC.seq (SC.region ?_)
    refine SL.val (Val.assign rfl) rfl rfl ?_
    refine SL.nil (SE.seq ?_)
    refine SC.ret ?_
    refine SE.ret ?_
    refine SE.then_ (by intro h; cases h) ?_
    refine SE.ret1 rfl rfl ?_
    intro w' hw'
    refine ⟨?_, hw'.sub (fun _ h => h) (List.sublist_cons_self _ _)⟩
    congr 2
    unfold Core.check
    repeat' split
    all_goals first | rfl | omega | simp_all
  intro hc12
  refine SC.seq (SC.region ?_)
  refine SL.val (Val.fieldAddr tabOk rfl rfl rfl rfl rfl) rfl rfl ?_
  first
    | refine SL.val (Val.load1 tabOk rfl rfl (by repeat (first | assumption | exact List.mem_cons_self | exact hmem _ | apply List.mem_cons_of_mem)) (by rfl)) rfl rfl ?_
    | refine SL.val (Val.load1C tabOk rfl rfl (by assumption)) rfl rfl ?_
  refine SL.val (Val.ltI rfl rfl) rfl rfl ?_
  refine SL.val (Val.move rfl) rfl rfl ?_
  refine SL.bothP (t := 28) rfl ?_ ?_
  · intro hc28
    iterate 3 refine SL.skip rfl rfl ?_
    refine SL.val (Val.pickT rfl rfl) rfl rfl ?_
    refine SL.val (Val.move rfl) rfl rfl ?_
    iterate 3 refine SL.skip rfl rfl ?_
    refine SL.val (Val.pickT rfl rfl) rfl rfl ?_
    refine SL.val (Val.move rfl) rfl rfl ?_
    iterate 3 refine SL.skip rfl rfl ?_
    refine SL.val (Val.pickT rfl rfl) rfl rfl ?_
    refine SL.val (Val.assign rfl) rfl rfl ?_
    refine SL.nil (SE.seq ?_)
    refine SC.condT rfl ?_
    refine SC.seq (SC.region ?_)
    refine SL.val (Val.assign rfl) rfl rfl ?_
    refine SL.nil (SE.seq ?_)
    refine SC.ret ?_
    refine SE.ret ?_
    refine SE.then_ (by intro h; cases h) ?_
    refine SE.ret1 rfl rfl ?_
    intro w' hw'
    refine ⟨?_, hw'.sub (fun _ h => h) (List.sublist_cons_self _ _)⟩
    congr 2
    unfold Core.check
    repeat' split
    all_goals first | rfl | omega | simp_all
  intro hc28
  refine SL.val (Val.fieldAddr tabOk rfl rfl rfl rfl rfl) rfl rfl ?_
  first
    | refine SL.val (Val.load1 tabOk rfl rfl (by repeat (first | assumption | exact List.mem_cons_self | exact hmem _ | apply List.mem_cons_of_mem)) (by rfl)) rfl rfl ?_
    | refine SL.val (Val.load1C tabOk rfl rfl (by assumption)) rfl rfl ?_
  refine SL.val (Val.gtI rfl rfl) rfl rfl ?_
  refine SL.val (Val.pickF rfl rfl) rfl rfl ?_
  refine SL.val (Val.move rfl) rfl rfl ?_
  refine SL.bothP (t := 33) rfl ?_ ?_
  · intro hc33
    iterate 3 refine SL.skip rfl rfl ?_
    refine SL.val (Val.pickT rfl rfl) rfl rfl ?_
    refine SL.val (Val.move rfl) rfl rfl ?_
    iterate 3 refine SL.skip rfl rfl ?_
    refine SL.val (Val.pickT rfl rfl) rfl rfl ?_
    refine SL.val (Val.assign rfl) rfl rfl ?_
    refine SL.nil (SE.seq ?_)
    refine SC.condT rfl ?_
    refine SC.seq (SC.region ?_)
    refine SL.val (Val.assign rfl) rfl rfl ?_
    refine SL.nil (SE.seq ?_)
    refine SC.ret ?_
    refine SE.ret ?_
    refine SE.then_ (by intro h; cases h) ?_
    refine SE.ret1 rfl rfl ?_
    intro w' hw'
    refine ⟨?_, hw'.sub (fun _ h => h) (List.sublist_cons_self _ _)⟩
    congr 2
    unfold Core.check
    repeat' split
    all_goals first | rfl | omega | simp_all
  intro hc33
  refine SL.val (Val.fieldAddr tabOk rfl rfl rfl rfl rfl) rfl rfl ?_
  first
    | refine SL.val (Val.load1 tabOk rfl rfl (by repeat (first | assumption | exact List.mem_cons_self | exact hmem _ | apply List.mem_cons_of_mem)) (by rfl)) rfl rfl ?_
    | refine SL.val (Val.load1C tabOk rfl rfl (by assumption)) rfl rfl ?_
  refine SL.val (Val.ltI rfl rfl) rfl rfl ?_
  refine SL.val (Val.pickF rfl rfl) rfl rfl ?_
  refine SL.val (Val.move rfl) rfl rfl ?_
  refine SL.bothP (t := 38) rfl ?_ ?_
  · intro hc38
    iterate 3 refine SL.skip rfl rfl ?_
    refine SL.val (Val.pickT rfl rfl) rfl rfl ?_
    refine SL.val (Val.assign rfl) rfl rfl ?_
    refine SL.nil (SE.seq ?_)
    refine SC.condT rfl ?_
    refine SC.seq (SC.region ?_)
    refine SL.val (Val.assign rfl) rfl rfl ?_
    refine SL.nil (SE.seq ?_)
    refine SC.ret ?_
    refine SE.ret ?_
    refine SE.then_ (by intro h; cases h) ?_
    refine SE.ret1 rfl rfl ?_
    intro w' hw'
    refine ⟨?_, hw'.sub (fun _ h => h) (List.sublist_cons_self _ _)⟩
    congr 2
    unfold Core.check
    repeat' split
    all_goals first | rfl | omega | simp_all
  intro hc38
  refine SL.val (Val.fieldAddr tabOk rfl rfl rfl rfl rfl) rfl rfl ?_
  first
    | refine SL.val (Val.load1 tabOk rfl rfl (by repeat (first | assumption | exact List.mem_cons_self | exact hmem _ | apply List.mem_cons_of_mem)) (by rfl)) rfl rfl ?_
    | refine SL.val (Val.load1C tabOk rfl rfl (by assumption)) rfl rfl ?_
  refine SL.val (Val.gtI rfl rfl) rfl rfl ?_
  refine SL.val (Val.pickF rfl rfl) rfl rfl ?_
  refine SL.val (Val.assign rfl) rfl rfl ?_
  refine SL.nil (SE.seq ?_)
  refine SC.condP rfl ?_ ?_
  · intro hc24
    refine SC.seq (SC.region ?_)
    refine SL.val (Val.assign rfl) rfl rfl ?_
    refine SL.nil (SE.seq ?_)
    refine SC.ret ?_
    refine SE.ret ?_
    refine SE.then_ (by intro h; cases h) ?_
    refine SE.ret1 rfl rfl ?_
    intro w' hw'
    refine ⟨?_, hw'.sub (fun _ h => h) (List.sublist_cons_self _ _)⟩
    congr 2
    unfold Core.check
    repeat' split
    all_goals first | rfl | omega | simp_all
  intro hc24
  refine SC.seq (SC.region ?_)
  refine SL.val (Val.fieldAddr tabOk rfl rfl rfl rfl rfl) rfl rfl ?_
  first
    | refine SL.val (Val.load1 tabOk rfl rfl (by repeat (first | assumption | exact List.mem_cons_self | exact hmem _ | apply List.mem_cons_of_mem)) (by rfl)) rfl rfl ?_
    | refine SL.val (Val.load1C tabOk rfl rfl (by assumption)) rfl rfl ?_
  refine SL.call (by kernel_rfl) rfl rfl rfl ?_
  intro w hw
  refine (risName_c hw hs).mono ?_; rintro _ _ ⟨rfl, hm⟩; refine ⟨_, _, rfl, hm, ?_⟩; clear hm hw w
  refine SL.val (Val.notB rfl) rfl rfl ?_
  refine SL.val (Val.assign rfl) rfl rfl ?_
  refine SL.nil (SE.seq ?_)
  refine SC.cond rfl ?_ ?_
  · intro hc43
    refine SC.seq (SC.region ?_)
    refine SL.val (Val.assign rfl) rfl rfl ?_
    refine SL.nil (SE.seq ?_)
    refine SC.ret ?_
    refine SE.ret ?_
    refine SE.then_ (by intro h; cases h) ?_
    refine SE.ret1 rfl rfl ?_
    intro w' hw'
    refine ⟨?_, hw'.sub (fun _ h => h) (List.sublist_cons_self _ _)⟩
    congr 2
    unfold Core.check
    repeat' split
    all_goals first | rfl | omega | simp_all
  intro hc43
  refine SC.seq (SC.region ?_)
  refine SL.val (Val.fieldAddr tabOk rfl rfl rfl rfl rfl) rfl rfl ?_
  first
    | refine SL.val (Val.load1 tabOk rfl rfl (by repeat (first | assumption | exact List.mem_cons_self | exact hmem _ | apply List.mem_cons_of_mem)) (by rfl)) rfl rfl ?_
    | refine SL.val (Val.load1C tabOk rfl rfl (by assumption)) rfl rfl ?_
  refine SL.val (Val.lenSt rfl Try.underlying9) rfl rfl ?_
  refine SL.val (Val.gtI rfl rfl) rfl rfl ?_
  refine SL.val (Val.assign rfl) rfl rfl ?_
  refine SL.nil (SE.seq ?_)
  refine SC.condP rfl ?_ ?_
  · intro hc48
    refine SC.seq (SC.region ?_)
    refine SL.val (Val.assign rfl) rfl rfl ?_
    refine SL.nil (SE.seq ?_)
    refine SC.ret ?_
    refine SE.ret ?_
    refine SE.then_ (by intro h; cases h) ?_
    refine SE.ret1 rfl rfl ?_
    intro w' hw'
    refine ⟨?_, hw'.sub (fun _ h => h) (List.sublist_cons_self _ _)⟩
    congr 2
    unfold Core.check
    repeat' split
    all_goals first | rfl | omega | simp_all
  intro hc48
  refine SC.skip ?_
  refine SE.inBlock ?_
  refine SE.seq ?_
  refine SC.seq (SC.region ?_)
  refine SL.val (Val.assign rfl) rfl rfl ?_
  refine SL.nil (SE.seq ?_)
  refine SC.ret ?_
  refine SE.ret1 rfl rfl ?_
  intro w' hw'
  refine ⟨?_, hw'.sub (fun _ h => h) (List.sublist_cons_self _ _)⟩
  congr 2
  unfold Core.check
  repeat' split
  all_goals first | rfl | omega | simp_all

set_option maxHeartbeats 1000000 in
theorem coreBytes_c {c : Core} (hw : Mem S σ ρ w) (h1 : c.letter.size ≤ 1000000) (h2 : c.text.size ≤ 1000000) : Calls Try.prog 169 #[.agg c.cells.toArray] w fun e w' => ∃ r, e = .returned r ∧ Mem S σ (bytesD r c.bytes :: ρ) w' := by
  have h3 : c.letter.size ≤ lots := by unfold lots; omega
  have h4 : c.text.size ≤ lots := by unfold lots; omega
  have hL : c.letter.data.toList.length ≤ 1000000 := h1
  have hT : c.text.data.toList.length ≤ 1000000 := h2
  refine calls_of [.agg c.cells.toArray] Try.func169 rfl Try.ntmps169 rfl (Mem S σ ρ) hw ?_
  refine SC.seq (SC.region ?_)
  refine SL.eff (Eff.boxA rfl) rfl rfl ?_
  rintro _ _ ⟨b1, rfl, rfl⟩
  refine SL.val (Val.assign rfl) rfl rfl ?_
  refine SL.nil (SE.seq ?_)
  refine SC.seq (SC.region ?_)
  refine SL.val (Val.fieldAddr tabOk rfl rfl rfl rfl rfl) rfl rfl ?_
  first
    | refine SL.val (Val.load1 tabOk rfl rfl (by repeat (first | assumption | exact List.mem_cons_self | exact hmem _ | apply List.mem_cons_of_mem)) (by rfl)) rfl rfl ?_
    | refine SL.val (Val.load1C tabOk rfl rfl (by assumption)) rfl rfl ?_
  first
    | refine SL.val (Val.convI rfl Try.underlying166 (by kernel_rfl) (by simp only [InR, lo, hi]; omega)) rfl rfl ?_
    | refine SL.val (Val.convU rfl Try.underlying166 (by kernel_rfl)) rfl rfl ?_
  refine SL.call (by kernel_rfl) rfl rfl rfl ?_
  intro w hw
  refine (put_c (l := []) (x := u64 c.client) (n := 1) hw (BytesV.nil _) (by first | exact Nat.zero_le _ | (simp only [List.length_append, beBytes_length, List.length_nil]; unfold lots; omega)) (u64_lt _) rfl).mono ?_; rintro _ _ ⟨r, rfl, hm⟩; refine ⟨_, _, rfl, hm, ?_⟩; clear hm hw w
  refine SL.val (Val.assign rfl) rfl rfl ?_
  refine SL.nil (SE.seq ?_)
  refine SC.seq (SC.region ?_)
  refine SL.val (Val.move rfl) rfl rfl ?_
  refine SL.val (Val.fieldAddr tabOk rfl rfl rfl rfl rfl) rfl rfl ?_
  first
    | refine SL.val (Val.load1 tabOk rfl rfl (by repeat (first | assumption | exact List.mem_cons_self | exact hmem _ | apply List.mem_cons_of_mem)) (by rfl)) rfl rfl ?_
    | refine SL.val (Val.load1C tabOk rfl rfl (by assumption)) rfl rfl ?_
  first
    | refine SL.val (Val.convI rfl Try.underlying166 (by kernel_rfl) (by simp only [InR, lo, hi]; omega)) rfl rfl ?_
    | refine SL.val (Val.convU rfl Try.underlying166 (by kernel_rfl)) rfl rfl ?_
  refine SL.call (by kernel_rfl) rfl rfl rfl ?_
  intro w hw
  refine (put_c (l := ([] ++ beBytes (u64 c.client) (Int.toNat 1))) (x := u64 c.stamp) (n := 8) hw (hw.bytes (by repeat (first | assumption | exact List.mem_cons_self | exact hmem _ | apply List.mem_cons_of_mem))) (by first | exact Nat.zero_le _ | (simp only [List.length_append, beBytes_length, List.length_nil]; unfold lots; omega)) (u64_lt _) rfl).mono ?_; rintro _ _ ⟨r, rfl, hm⟩; refine ⟨_, _, rfl, hm, ?_⟩; clear hm hw w
  refine SL.val (Val.assign rfl) rfl rfl ?_
  refine SL.nil (SE.seq ?_)
  refine SC.seq ?_
  refine SC.draw _ (.q 0 (.q 1 (.q 2 (.q 3 (.q 5 (.q 6 (.two 4 7 (.e 7 (.e 8 (.q 9 .nil))) (.e 4 (.e 8 (.q 9 .nil)))))))))) (by kernel_rfl) (by kernel_rfl) (fun _ h => h) (fun _ h => h.drew) ?_
  refine SX.val rfl (Val.move rfl) rfl rfl ?_
  refine SX.val rfl (Val.fieldAddr tabOk rfl rfl rfl rfl rfl) rfl rfl ?_
  first
    | refine SX.val rfl (Val.load1 tabOk rfl rfl (by repeat (first | assumption | exact List.mem_cons_self | exact hmem _ | apply List.mem_cons_of_mem)) (by rfl)) rfl rfl ?_
    | refine SX.val rfl (Val.load1C tabOk rfl rfl (by assumption)) rfl rfl ?_
  first
    | refine SX.val rfl (Val.convI rfl Try.underlying166 (by kernel_rfl) (by simp only [InR, lo, hi]; omega)) rfl rfl ?_
    | refine SX.val rfl (Val.convU rfl Try.underlying166 (by kernel_rfl)) rfl rfl ?_
  refine SX.val rfl (Val.fieldAddr tabOk rfl rfl rfl rfl rfl) rfl rfl ?_
  first
    | refine SX.val rfl (Val.load1 tabOk rfl rfl (by repeat (first | assumption | exact List.mem_cons_self | exact hmem _ | apply List.mem_cons_of_mem)) (by rfl)) rfl rfl ?_
    | refine SX.val rfl (Val.load1C tabOk rfl rfl (by assumption)) rfl rfl ?_
  refine SX.two ?_ ?_
  · skip
    refine SX.call rfl (by kernel_rfl) rfl rfl rfl ?_
    intro w hw
    refine (put_c (l := (([] ++ beBytes (u64 c.client) (Int.toNat 1)) ++ beBytes (u64 c.stamp) (Int.toNat 8))) (x := u64 c.op) (n := 1) hw (hw.bytes (by repeat (first | assumption | exact List.mem_cons_self | exact hmem _ | apply List.mem_cons_of_mem))) (by first | exact Nat.zero_le _ | (simp only [List.length_append, beBytes_length, List.length_nil]; unfold lots; omega)) (u64_lt _) rfl).mono ?_; rintro _ _ ⟨r, rfl, hm⟩; refine ⟨_, _, rfl, hm, _, fun _ h => h.less (fun _ hx => List.mem_cons_of_mem _ hx), fun _ h => h, ?_⟩; clear hm hw w
    refine SX.eff rfl (Eff.strBytes rfl Try.underlying9 Try.underlying34 (by first | assumption | omega)) rfl rfl ?_
    rintro sb22 _ rfl
    refine ⟨_, fun _ h => h.less (fun _ hx => List.mem_cons_of_mem _ hx), fun _ h => h, ?_⟩
    refine SX.call rfl (by kernel_rfl) rfl rfl rfl ?_
    intro w hw
    refine (oct_Row (l := ((([] ++ beBytes (u64 c.client) (Int.toNat 1)) ++ beBytes (u64 c.stamp) (Int.toNat 8)) ++ beBytes (u64 c.op) (Int.toNat 1))) (m := c.letter.data.toList) hw (by repeat (first | assumption | exact List.mem_cons_self | exact hmem _ | apply List.mem_cons_of_mem)) (by repeat (first | assumption | exact List.mem_cons_self | exact hmem _ | apply List.mem_cons_of_mem)) (by simp only [List.length_append, beBytes_length, List.length_nil]; unfold lots; omega) (by omega)).mono ?_; rintro _ _ ⟨r, rfl, hm⟩; refine ⟨_, _, rfl, hm, _, fun _ h => h.less (fun _ hx => List.mem_cons_of_mem _ hx), fun _ h => h, ?_⟩; clear hm hw w
    refine SX.val rfl (Val.assign rfl) rfl rfl ?_
    refine SX.nil (SE.seq ?_)
    refine SC.seq ?_
    refine SC.seq (SC.region ?_)
    refine SL.val (Val.fieldAddr tabOk rfl rfl rfl rfl rfl) rfl rfl ?_
    first
      | refine SL.val (Val.load1 tabOk rfl rfl (by repeat (first | assumption | exact List.mem_cons_self | exact hmem _ | apply List.mem_cons_of_mem)) (by rfl)) rfl rfl ?_
      | refine SL.val (Val.load1C tabOk rfl rfl (by assumption)) rfl rfl ?_
    refine SL.val (Val.fieldAddr tabOk rfl rfl rfl rfl rfl) rfl rfl ?_
    first
      | refine SL.val (Val.load1 tabOk rfl rfl (by repeat (first | assumption | exact List.mem_cons_self | exact hmem _ | apply List.mem_cons_of_mem)) (by rfl)) rfl rfl ?_
      | refine SL.val (Val.load1C tabOk rfl rfl (by assumption)) rfl rfl ?_
    refine SL.val (Val.buildA tabOk rfl rfl rfl rfl) rfl rfl ?_
    refine SL.val (Val.move rfl) rfl rfl ?_
    refine SL.nil (SE.seq ?_)
    refine SC.block ?_
    refine SC.loop (ι := Nat × Value) (fun z => [(1, .pointer (some ⟨b1, 0, none⟩)), (3, z.2), (28, .agg [.int .i64 c.a, .int .i64 c.b].toArray), (29, .int .i64 (z.1 : Nat))]) (fun z w' => z.1 ≤ 2 ∧ Mem S (.blk b1 (row 147 c.cells) :: σ) (bytesD z.2 ((((([] ++ beBytes (u64 c.client) (Int.toNat 1)) ++ beBytes (u64 c.stamp) (Int.toNat 8)) ++ beBytes (u64 c.op) (Int.toNat 1)) ++ beBytes c.letter.data.toList.length 4 ++ c.letter.data.toList) ++ (([c.a, c.b].take z.1).flatMap fun x => beBytes (u64 x) (Int.toNat 8))) :: ρ) w') (fun z => 2 - z.1) (0, _) (by exact ⟨rfl, rfl, rfl, rfl, trivial⟩) (fun w' hw' => ⟨by omega, hw'.less (by intro x hx; simp only [List.take_zero, List.flatMap_nil, List.append_nil] at hx; rcases List.mem_cons.1 hx with rfl | hx <;> simp [*])⟩) ?_
    intro z
    refine SC.facts ?_
    intro hz
    have hlen : ((((([] ++ beBytes (u64 c.client) (Int.toNat 1)) ++ beBytes (u64 c.stamp) (Int.toNat 8)) ++ beBytes (u64 c.op) (Int.toNat 1)) ++ beBytes c.letter.data.toList.length 4 ++ c.letter.data.toList) ++ (([c.a, c.b].take z.1).flatMap fun x => beBytes (u64 x) (Int.toNat 8))).length ≤ 10 + (4 + c.letter.data.toList.length) + 16 := by
      simp only [List.length_append, beBytes_length, List.length_nil]
      have : ((([c.a, c.b].take z.1).flatMap fun x => beBytes (u64 x) (Int.toNat 8))).length ≤ 16 := by
        rcases (by omega : z.1 = 0 ∨ z.1 = 1 ∨ z.1 = 2) with h | h | h <;> rw [h] <;> simp [beBytes_length]
      omega
    refine SC.seq (SC.region ?_)
    refine SL.val (Val.ltI rfl rfl) rfl rfl ?_
    refine SL.nil (SE.seq ?_)
    refine SC.seq ?_
    refine SC.condP rfl ?_ ?_
    rotate_left
    · intro hc30
      have e2 : ((((([] ++ beBytes (u64 c.client) (Int.toNat 1)) ++ beBytes (u64 c.stamp) (Int.toNat 8)) ++ beBytes (u64 c.op) (Int.toNat 1)) ++ beBytes c.letter.data.toList.length 4 ++ c.letter.data.toList) ++ (([c.a, c.b].take z.1).flatMap fun x => beBytes (u64 x) (Int.toNat 8))) = (((([] ++ beBytes (u64 c.client) (Int.toNat 1)) ++ beBytes (u64 c.stamp) (Int.toNat 8)) ++ beBytes (u64 c.op) (Int.toNat 1)) ++ beBytes c.letter.data.toList.length 4 ++ c.letter.data.toList) ++ (beBytes (u64 c.a) (Int.toNat 8) ++ beBytes (u64 c.b) (Int.toNat 8)) := by
        have h : z.1 = 2 := by omega
        rw [h]
        simp
      rw [e2] at *
      refine SC.exit ?_
      refine SE.then_ (by intro h; cases h) ?_
      refine SE.then_ (by intro h; cases h) ?_
      refine SE.exit ?_
      refine SE.seq ?_
      refine SC.seq (SC.region ?_)
      refine SL.val (Val.move rfl) rfl rfl ?_
      refine SL.val (Val.fieldAddr tabOk rfl rfl rfl rfl rfl) rfl rfl ?_
      first
        | refine SL.val (Val.load1 tabOk rfl rfl (by repeat (first | assumption | exact List.mem_cons_self | exact hmem _ | apply List.mem_cons_of_mem)) (by rfl)) rfl rfl ?_
        | refine SL.val (Val.load1C tabOk rfl rfl (by assumption)) rfl rfl ?_
      refine SL.eff (Eff.strBytes rfl Try.underlying9 Try.underlying34 (by first | assumption | omega)) rfl rfl ?_
      rintro sb40 _ rfl
      refine SL.call (by kernel_rfl) rfl rfl rfl ?_
      intro w hw
      refine (oct_Row (l := ((((([] ++ beBytes (u64 c.client) (Int.toNat 1)) ++ beBytes (u64 c.stamp) (Int.toNat 8)) ++ beBytes (u64 c.op) (Int.toNat 1)) ++ beBytes c.letter.data.toList.length 4 ++ c.letter.data.toList) ++ (beBytes (u64 c.a) (Int.toNat 8) ++ beBytes (u64 c.b) (Int.toNat 8)))) (m := c.text.data.toList) hw (by repeat (first | assumption | exact List.mem_cons_self | exact hmem _ | apply List.mem_cons_of_mem)) (by repeat (first | assumption | exact List.mem_cons_self | exact hmem _ | apply List.mem_cons_of_mem)) (by simp only [List.length_append, beBytes_length, List.length_nil]; unfold lots; omega) (by omega)).mono ?_; rintro _ _ ⟨r, rfl, hm⟩; refine ⟨_, _, rfl, hm, ?_⟩; clear hm hw w
      refine SL.val (Val.assign rfl) rfl rfl ?_
      refine SL.nil (SE.seq ?_)
      refine SC.ret ?_
      refine SE.ret1 rfl rfl ?_
      intro w' hw'
      refine ⟨_, rfl, (hw'.sub (fun _ h => h) (List.sublist_cons_self _ _)).less (fun x hx => ?_)⟩
      rcases List.mem_cons.1 hx with rfl | hx
      · have e3 : c.bytes = (((([] ++ beBytes (u64 c.client) (Int.toNat 1)) ++ beBytes (u64 c.stamp) (Int.toNat 8)) ++ beBytes (u64 c.op) (Int.toNat 1)) ++ beBytes c.letter.data.toList.length 4 ++ c.letter.data.toList) ++ (beBytes (u64 c.a) (Int.toNat 8) ++ beBytes (u64 c.b) (Int.toNat 8)) ++ beBytes c.text.data.toList.length 4 ++ c.text.data.toList := by simp [Core.bytes, rowB]
        rw [e3]; simp
      · simp [*]
    intro hc30
    have hlt : z.1 < [c.a, c.b].length := by show z.1 < 2; omega
    have helt : [Value.int .i64 c.a, Value.int .i64 c.b][z.1]? = some (.int .i64 ([c.a, c.b][z.1]'hlt)) := by
      rcases (by omega : z.1 = 0 ∨ z.1 = 1) with h | h <;> simp only [h] <;> rfl
    refine SC.skip ?_
    refine SE.seq ?_
    refine SC.seq ?_
    refine SC.block ?_
    refine SC.seq (SC.region ?_)
    refine SL.val (Val.indexAr1 (L := [.int .i64 c.a, .int .i64 c.b]) (v := .int .i64 ([c.a, c.b][z.1]'hlt)) (q := z.1) tabOk rfl rfl rfl rfl rfl rfl hlt helt) rfl rfl ?_
    refine SL.val (Val.assign rfl) rfl rfl ?_
    refine SL.nil (SE.seq ?_)
    refine SC.region ?_
    refine SL.val (Val.move rfl) rfl rfl ?_
    refine SL.val (Val.move rfl) rfl rfl ?_
    first
      | refine SL.val (Val.convI rfl Try.underlying166 (by kernel_rfl) (by simp only [InR, lo, hi]; omega)) rfl rfl ?_
      | refine SL.val (Val.convU rfl Try.underlying166 (by kernel_rfl)) rfl rfl ?_
    refine SL.call (by kernel_rfl) rfl rfl rfl ?_
    intro w hw
    refine (put_c (l := ((((([] ++ beBytes (u64 c.client) (Int.toNat 1)) ++ beBytes (u64 c.stamp) (Int.toNat 8)) ++ beBytes (u64 c.op) (Int.toNat 1)) ++ beBytes c.letter.data.toList.length 4 ++ c.letter.data.toList) ++ (([c.a, c.b].take z.1).flatMap fun x => beBytes (u64 x) (Int.toNat 8)))) (x := u64 ([c.a, c.b][z.1]'hlt)) (n := 8) hw (hw.bytes (by repeat (first | assumption | exact List.mem_cons_self | exact hmem _ | apply List.mem_cons_of_mem))) (by unfold lots; omega) (u64_lt _) rfl).mono ?_; rintro _ _ ⟨r, rfl, hm⟩; refine ⟨_, _, rfl, hm, ?_⟩; clear hm hw w
    refine SL.val (Val.assign rfl) rfl rfl ?_
    refine SL.nil ?_
    refine SE.inBlock ?_
    refine SE.seq ?_
    refine SC.region ?_
    first
      | refine SL.val (Val.addI rfl rfl (by simp only [InR, lo, hi]; omega)) rfl rfl ?_
      | refine SL.val (Val.addW rfl rfl) rfl rfl ?_
    refine SL.val (Val.move rfl) rfl rfl ?_
    refine SL.nil ?_
    refine SE.round (z.1 + 1, r) (by show 2 - (z.1 + 1) < 2 - z.1; omega) (by exact ⟨rfl, rfl, rfl, rfl, trivial⟩) (fun w' hw' => ⟨by show z.1 + 1 ≤ 2; omega, ?_⟩)
    have e1 : ((((([] ++ beBytes (u64 c.client) (Int.toNat 1)) ++ beBytes (u64 c.stamp) (Int.toNat 8)) ++ beBytes (u64 c.op) (Int.toNat 1)) ++ beBytes c.letter.data.toList.length 4 ++ c.letter.data.toList) ++ (([c.a, c.b].take (z.1 + 1)).flatMap fun x => beBytes (u64 x) (Int.toNat 8))) = ((((([] ++ beBytes (u64 c.client) (Int.toNat 1)) ++ beBytes (u64 c.stamp) (Int.toNat 8)) ++ beBytes (u64 c.op) (Int.toNat 1)) ++ beBytes c.letter.data.toList.length 4 ++ c.letter.data.toList) ++ (([c.a, c.b].take z.1).flatMap fun x => beBytes (u64 x) (Int.toNat 8))) ++ beBytes (u64 ([c.a, c.b][z.1]'hlt)) (Int.toNat 8) := by
      rw [List.take_succ_eq_append_getElem hlt, List.flatMap_append, ← List.append_assoc]
      simp
    show Mem S _ (bytesD r ((((([] ++ beBytes (u64 c.client) (Int.toNat 1)) ++ beBytes (u64 c.stamp) (Int.toNat 8)) ++ beBytes (u64 c.op) (Int.toNat 1)) ++ beBytes c.letter.data.toList.length 4 ++ c.letter.data.toList) ++ (([c.a, c.b].take (z.1 + 1)).flatMap fun x => beBytes (u64 x) (Int.toNat 8))) :: ρ) w'
    rw [e1]
    exact hw'.less (fun x hx => by rcases List.mem_cons.1 hx with rfl | hx <;> simp [*])
  · skip
    refine SX.eff rfl (Eff.strBytes rfl Try.underlying9 Try.underlying34 (by first | assumption | omega)) rfl rfl ?_
    rintro sb22 _ rfl
    refine ⟨_, fun _ h => h.less (fun _ hx => List.mem_cons_of_mem _ hx), fun _ h => h, ?_⟩
    refine SX.call rfl (by kernel_rfl) rfl rfl rfl ?_
    intro w hw
    refine (put_c (l := (([] ++ beBytes (u64 c.client) (Int.toNat 1)) ++ beBytes (u64 c.stamp) (Int.toNat 8))) (x := u64 c.op) (n := 1) hw (hw.bytes (by repeat (first | assumption | exact List.mem_cons_self | exact hmem _ | apply List.mem_cons_of_mem))) (by first | exact Nat.zero_le _ | (simp only [List.length_append, beBytes_length, List.length_nil]; unfold lots; omega)) (u64_lt _) rfl).mono ?_; rintro _ _ ⟨r, rfl, hm⟩; refine ⟨_, _, rfl, hm, _, fun _ h => h.less (fun _ hx => List.mem_cons_of_mem _ hx), fun _ h => h, ?_⟩; clear hm hw w
    refine SX.call rfl (by kernel_rfl) rfl rfl rfl ?_
    intro w hw
    refine (oct_Row (l := ((([] ++ beBytes (u64 c.client) (Int.toNat 1)) ++ beBytes (u64 c.stamp) (Int.toNat 8)) ++ beBytes (u64 c.op) (Int.toNat 1))) (m := c.letter.data.toList) hw (by repeat (first | assumption | exact List.mem_cons_self | exact hmem _ | apply List.mem_cons_of_mem)) (by repeat (first | assumption | exact List.mem_cons_self | exact hmem _ | apply List.mem_cons_of_mem)) (by simp only [List.length_append, beBytes_length, List.length_nil]; unfold lots; omega) (by omega)).mono ?_; rintro _ _ ⟨r, rfl, hm⟩; refine ⟨_, _, rfl, hm, _, fun _ h => h.less (fun _ hx => List.mem_cons_of_mem _ hx), fun _ h => h, ?_⟩; clear hm hw w
    refine SX.val rfl (Val.assign rfl) rfl rfl ?_
    refine SX.nil (SE.seq ?_)
    refine SC.seq ?_
    refine SC.seq (SC.region ?_)
    refine SL.val (Val.fieldAddr tabOk rfl rfl rfl rfl rfl) rfl rfl ?_
    first
      | refine SL.val (Val.load1 tabOk rfl rfl (by repeat (first | assumption | exact List.mem_cons_self | exact hmem _ | apply List.mem_cons_of_mem)) (by rfl)) rfl rfl ?_
      | refine SL.val (Val.load1C tabOk rfl rfl (by assumption)) rfl rfl ?_
    refine SL.val (Val.fieldAddr tabOk rfl rfl rfl rfl rfl) rfl rfl ?_
    first
      | refine SL.val (Val.load1 tabOk rfl rfl (by repeat (first | assumption | exact List.mem_cons_self | exact hmem _ | apply List.mem_cons_of_mem)) (by rfl)) rfl rfl ?_
      | refine SL.val (Val.load1C tabOk rfl rfl (by assumption)) rfl rfl ?_
    refine SL.val (Val.buildA tabOk rfl rfl rfl rfl) rfl rfl ?_
    refine SL.val (Val.move rfl) rfl rfl ?_
    refine SL.nil (SE.seq ?_)
    refine SC.block ?_
    refine SC.loop (ι := Nat × Value) (fun z => [(1, .pointer (some ⟨b1, 0, none⟩)), (3, z.2), (28, .agg [.int .i64 c.a, .int .i64 c.b].toArray), (29, .int .i64 (z.1 : Nat))]) (fun z w' => z.1 ≤ 2 ∧ Mem S (.blk b1 (row 147 c.cells) :: σ) (bytesD z.2 ((((([] ++ beBytes (u64 c.client) (Int.toNat 1)) ++ beBytes (u64 c.stamp) (Int.toNat 8)) ++ beBytes (u64 c.op) (Int.toNat 1)) ++ beBytes c.letter.data.toList.length 4 ++ c.letter.data.toList) ++ (([c.a, c.b].take z.1).flatMap fun x => beBytes (u64 x) (Int.toNat 8))) :: ρ) w') (fun z => 2 - z.1) (0, _) (by exact ⟨rfl, rfl, rfl, rfl, trivial⟩) (fun w' hw' => ⟨by omega, hw'.less (by intro x hx; simp only [List.take_zero, List.flatMap_nil, List.append_nil] at hx; rcases List.mem_cons.1 hx with rfl | hx <;> simp [*])⟩) ?_
    intro z
    refine SC.facts ?_
    intro hz
    have hlen : ((((([] ++ beBytes (u64 c.client) (Int.toNat 1)) ++ beBytes (u64 c.stamp) (Int.toNat 8)) ++ beBytes (u64 c.op) (Int.toNat 1)) ++ beBytes c.letter.data.toList.length 4 ++ c.letter.data.toList) ++ (([c.a, c.b].take z.1).flatMap fun x => beBytes (u64 x) (Int.toNat 8))).length ≤ 10 + (4 + c.letter.data.toList.length) + 16 := by
      simp only [List.length_append, beBytes_length, List.length_nil]
      have : ((([c.a, c.b].take z.1).flatMap fun x => beBytes (u64 x) (Int.toNat 8))).length ≤ 16 := by
        rcases (by omega : z.1 = 0 ∨ z.1 = 1 ∨ z.1 = 2) with h | h | h <;> rw [h] <;> simp [beBytes_length]
      omega
    refine SC.seq (SC.region ?_)
    refine SL.val (Val.ltI rfl rfl) rfl rfl ?_
    refine SL.nil (SE.seq ?_)
    refine SC.seq ?_
    refine SC.condP rfl ?_ ?_
    rotate_left
    · intro hc30
      have e2 : ((((([] ++ beBytes (u64 c.client) (Int.toNat 1)) ++ beBytes (u64 c.stamp) (Int.toNat 8)) ++ beBytes (u64 c.op) (Int.toNat 1)) ++ beBytes c.letter.data.toList.length 4 ++ c.letter.data.toList) ++ (([c.a, c.b].take z.1).flatMap fun x => beBytes (u64 x) (Int.toNat 8))) = (((([] ++ beBytes (u64 c.client) (Int.toNat 1)) ++ beBytes (u64 c.stamp) (Int.toNat 8)) ++ beBytes (u64 c.op) (Int.toNat 1)) ++ beBytes c.letter.data.toList.length 4 ++ c.letter.data.toList) ++ (beBytes (u64 c.a) (Int.toNat 8) ++ beBytes (u64 c.b) (Int.toNat 8)) := by
        have h : z.1 = 2 := by omega
        rw [h]
        simp
      rw [e2] at *
      refine SC.exit ?_
      refine SE.then_ (by intro h; cases h) ?_
      refine SE.then_ (by intro h; cases h) ?_
      refine SE.exit ?_
      refine SE.seq ?_
      refine SC.seq (SC.region ?_)
      refine SL.val (Val.move rfl) rfl rfl ?_
      refine SL.val (Val.fieldAddr tabOk rfl rfl rfl rfl rfl) rfl rfl ?_
      first
        | refine SL.val (Val.load1 tabOk rfl rfl (by repeat (first | assumption | exact List.mem_cons_self | exact hmem _ | apply List.mem_cons_of_mem)) (by rfl)) rfl rfl ?_
        | refine SL.val (Val.load1C tabOk rfl rfl (by assumption)) rfl rfl ?_
      refine SL.eff (Eff.strBytes rfl Try.underlying9 Try.underlying34 (by first | assumption | omega)) rfl rfl ?_
      rintro sb40 _ rfl
      refine SL.call (by kernel_rfl) rfl rfl rfl ?_
      intro w hw
      refine (oct_Row (l := ((((([] ++ beBytes (u64 c.client) (Int.toNat 1)) ++ beBytes (u64 c.stamp) (Int.toNat 8)) ++ beBytes (u64 c.op) (Int.toNat 1)) ++ beBytes c.letter.data.toList.length 4 ++ c.letter.data.toList) ++ (beBytes (u64 c.a) (Int.toNat 8) ++ beBytes (u64 c.b) (Int.toNat 8)))) (m := c.text.data.toList) hw (by repeat (first | assumption | exact List.mem_cons_self | exact hmem _ | apply List.mem_cons_of_mem)) (by repeat (first | assumption | exact List.mem_cons_self | exact hmem _ | apply List.mem_cons_of_mem)) (by simp only [List.length_append, beBytes_length, List.length_nil]; unfold lots; omega) (by omega)).mono ?_; rintro _ _ ⟨r, rfl, hm⟩; refine ⟨_, _, rfl, hm, ?_⟩; clear hm hw w
      refine SL.val (Val.assign rfl) rfl rfl ?_
      refine SL.nil (SE.seq ?_)
      refine SC.ret ?_
      refine SE.ret1 rfl rfl ?_
      intro w' hw'
      refine ⟨_, rfl, (hw'.sub (fun _ h => h) (List.sublist_cons_self _ _)).less (fun x hx => ?_)⟩
      rcases List.mem_cons.1 hx with rfl | hx
      · have e3 : c.bytes = (((([] ++ beBytes (u64 c.client) (Int.toNat 1)) ++ beBytes (u64 c.stamp) (Int.toNat 8)) ++ beBytes (u64 c.op) (Int.toNat 1)) ++ beBytes c.letter.data.toList.length 4 ++ c.letter.data.toList) ++ (beBytes (u64 c.a) (Int.toNat 8) ++ beBytes (u64 c.b) (Int.toNat 8)) ++ beBytes c.text.data.toList.length 4 ++ c.text.data.toList := by simp [Core.bytes, rowB]
        rw [e3]; simp
      · simp [*]
    intro hc30
    have hlt : z.1 < [c.a, c.b].length := by show z.1 < 2; omega
    have helt : [Value.int .i64 c.a, Value.int .i64 c.b][z.1]? = some (.int .i64 ([c.a, c.b][z.1]'hlt)) := by
      rcases (by omega : z.1 = 0 ∨ z.1 = 1) with h | h <;> simp only [h] <;> rfl
    refine SC.skip ?_
    refine SE.seq ?_
    refine SC.seq ?_
    refine SC.block ?_
    refine SC.seq (SC.region ?_)
    refine SL.val (Val.indexAr1 (L := [.int .i64 c.a, .int .i64 c.b]) (v := .int .i64 ([c.a, c.b][z.1]'hlt)) (q := z.1) tabOk rfl rfl rfl rfl rfl rfl hlt helt) rfl rfl ?_
    refine SL.val (Val.assign rfl) rfl rfl ?_
    refine SL.nil (SE.seq ?_)
    refine SC.region ?_
    refine SL.val (Val.move rfl) rfl rfl ?_
    refine SL.val (Val.move rfl) rfl rfl ?_
    first
      | refine SL.val (Val.convI rfl Try.underlying166 (by kernel_rfl) (by simp only [InR, lo, hi]; omega)) rfl rfl ?_
      | refine SL.val (Val.convU rfl Try.underlying166 (by kernel_rfl)) rfl rfl ?_
    refine SL.call (by kernel_rfl) rfl rfl rfl ?_
    intro w hw
    refine (put_c (l := ((((([] ++ beBytes (u64 c.client) (Int.toNat 1)) ++ beBytes (u64 c.stamp) (Int.toNat 8)) ++ beBytes (u64 c.op) (Int.toNat 1)) ++ beBytes c.letter.data.toList.length 4 ++ c.letter.data.toList) ++ (([c.a, c.b].take z.1).flatMap fun x => beBytes (u64 x) (Int.toNat 8)))) (x := u64 ([c.a, c.b][z.1]'hlt)) (n := 8) hw (hw.bytes (by repeat (first | assumption | exact List.mem_cons_self | exact hmem _ | apply List.mem_cons_of_mem))) (by unfold lots; omega) (u64_lt _) rfl).mono ?_; rintro _ _ ⟨r, rfl, hm⟩; refine ⟨_, _, rfl, hm, ?_⟩; clear hm hw w
    refine SL.val (Val.assign rfl) rfl rfl ?_
    refine SL.nil ?_
    refine SE.inBlock ?_
    refine SE.seq ?_
    refine SC.region ?_
    first
      | refine SL.val (Val.addI rfl rfl (by simp only [InR, lo, hi]; omega)) rfl rfl ?_
      | refine SL.val (Val.addW rfl rfl) rfl rfl ?_
    refine SL.val (Val.move rfl) rfl rfl ?_
    refine SL.nil ?_
    refine SE.round (z.1 + 1, r) (by show 2 - (z.1 + 1) < 2 - z.1; omega) (by exact ⟨rfl, rfl, rfl, rfl, trivial⟩) (fun w' hw' => ⟨by show z.1 + 1 ≤ 2; omega, ?_⟩)
    have e1 : ((((([] ++ beBytes (u64 c.client) (Int.toNat 1)) ++ beBytes (u64 c.stamp) (Int.toNat 8)) ++ beBytes (u64 c.op) (Int.toNat 1)) ++ beBytes c.letter.data.toList.length 4 ++ c.letter.data.toList) ++ (([c.a, c.b].take (z.1 + 1)).flatMap fun x => beBytes (u64 x) (Int.toNat 8))) = ((((([] ++ beBytes (u64 c.client) (Int.toNat 1)) ++ beBytes (u64 c.stamp) (Int.toNat 8)) ++ beBytes (u64 c.op) (Int.toNat 1)) ++ beBytes c.letter.data.toList.length 4 ++ c.letter.data.toList) ++ (([c.a, c.b].take z.1).flatMap fun x => beBytes (u64 x) (Int.toNat 8))) ++ beBytes (u64 ([c.a, c.b][z.1]'hlt)) (Int.toNat 8) := by
      rw [List.take_succ_eq_append_getElem hlt, List.flatMap_append, ← List.append_assoc]
      simp
    show Mem S _ (bytesD r ((((([] ++ beBytes (u64 c.client) (Int.toNat 1)) ++ beBytes (u64 c.stamp) (Int.toNat 8)) ++ beBytes (u64 c.op) (Int.toNat 1)) ++ beBytes c.letter.data.toList.length 4 ++ c.letter.data.toList) ++ (([c.a, c.b].take (z.1 + 1)).flatMap fun x => beBytes (u64 x) (Int.toNat 8))) :: ρ) w'
    rw [e1]
    exact hw'.less (fun x hx => by rcases List.mem_cons.1 hx with rfl | hx <;> simp [*])

theorem rput0_c {x n : Nat} (hw : Mem S σ ρ w) (hn : sizeB n = true) : Calls Try.prog 112 #[.slice none 0 0, .int .u64 x, .int .i64 n] w fun e w' => ∃ r, e = .returned r ∧ Mem S σ (bytesD r ([] ++ beBytes x n) :: ρ) w' :=
  (rput_c (hw.add (z := bytesD (.slice none 0 0) []) (IsRow.nil rfl)) List.mem_cons_self (by decide) hn).mono fun _ _ ⟨r, h1, h2⟩ => ⟨r, h1, h2.less (fun x hx => by rcases List.mem_cons.1 hx with h | h <;> simp [h])⟩
set_option maxHeartbeats 1000000 in
theorem rcoreBytes_c {c : Core} (hw : Mem S σ ρ w) (h1 : c.letter.size ≤ 1000000) (h2 : c.text.size ≤ 1000000) : Calls Try.prog 114 #[.agg c.cells.toArray] w fun e w' => ∃ r, e = .returned r ∧ Mem S σ (bytesD r c.bytes :: ρ) w' := by
  have h3 : c.letter.size ≤ lots := by unfold lots; omega
  have h4 : c.text.size ≤ lots := by unfold lots; omega
  have hL : c.letter.data.toList.length ≤ 1000000 := h1
  have hT : c.text.data.toList.length ≤ 1000000 := h2
  refine calls_of [.agg c.cells.toArray] Try.func114 rfl Try.ntmps114 rfl (Mem S σ ρ) hw ?_
  refine SC.seq (SC.region ?_)
  refine SL.eff (Eff.boxA rfl) rfl rfl ?_
  rintro _ _ ⟨b1, rfl, rfl⟩
  refine SL.val (Val.assign rfl) rfl rfl ?_
  refine SL.nil (SE.seq ?_)
  refine SC.seq ?_
  refine SC.draw _ (.q 0 (.q 1 (.q 2 (.q 4 (.q 5 (.q 6 (.q 8 (.q 9 (.q 10 (.e 3 (.e 7 (.e 11 (.q 12 .nil))))))))))))) (by kernel_rfl) (by kernel_rfl) (fun _ h => h) (fun _ h => h.drew) ?_
  refine SX.val rfl (Val.fieldAddr tabOk rfl rfl rfl rfl rfl) rfl rfl ?_
  first
    | refine SX.val rfl (Val.load1 tabOk rfl rfl (by repeat (first | assumption | exact List.mem_cons_self | exact hmem _ | apply List.mem_cons_of_mem)) (by rfl)) rfl rfl ?_
    | refine SX.val rfl (Val.load1C tabOk rfl rfl (by assumption)) rfl rfl ?_
  first
    | refine SX.val rfl (Val.convI rfl Try.underlying166 (by kernel_rfl) (by simp only [InR, lo, hi]; omega)) rfl rfl ?_
    | refine SX.val rfl (Val.convU rfl Try.underlying166 (by kernel_rfl)) rfl rfl ?_
  refine SX.val rfl (Val.fieldAddr tabOk rfl rfl rfl rfl rfl) rfl rfl ?_
  first
    | refine SX.val rfl (Val.load1 tabOk rfl rfl (by repeat (first | assumption | exact List.mem_cons_self | exact hmem _ | apply List.mem_cons_of_mem)) (by rfl)) rfl rfl ?_
    | refine SX.val rfl (Val.load1C tabOk rfl rfl (by assumption)) rfl rfl ?_
  first
    | refine SX.val rfl (Val.convI rfl Try.underlying166 (by kernel_rfl) (by simp only [InR, lo, hi]; omega)) rfl rfl ?_
    | refine SX.val rfl (Val.convU rfl Try.underlying166 (by kernel_rfl)) rfl rfl ?_
  refine SX.val rfl (Val.fieldAddr tabOk rfl rfl rfl rfl rfl) rfl rfl ?_
  first
    | refine SX.val rfl (Val.load1 tabOk rfl rfl (by repeat (first | assumption | exact List.mem_cons_self | exact hmem _ | apply List.mem_cons_of_mem)) (by rfl)) rfl rfl ?_
    | refine SX.val rfl (Val.load1C tabOk rfl rfl (by assumption)) rfl rfl ?_
  first
    | refine SX.val rfl (Val.convI rfl Try.underlying166 (by kernel_rfl) (by simp only [InR, lo, hi]; omega)) rfl rfl ?_
    | refine SX.val rfl (Val.convU rfl Try.underlying166 (by kernel_rfl)) rfl rfl ?_
  refine SX.call rfl (by kernel_rfl) rfl rfl rfl ?_
  intro w hw
  refine (rput0_c (x := u64 c.client) (n := 1) hw rfl).mono ?_; rintro _ _ ⟨r, rfl, hm⟩; refine ⟨_, _, rfl, hm, _, fun _ h => h.less (fun _ hx => List.mem_cons_of_mem _ hx), fun _ h => h, ?_⟩; clear hm hw w
  refine SX.call rfl (by kernel_rfl) rfl rfl rfl ?_
  intro w hw
  refine (rput_c (l := ([] ++ beBytes (u64 c.client) 1)) (x := u64 c.stamp) (n := 8) hw (by repeat (first | assumption | exact List.mem_cons_self | exact hmem _ | apply List.mem_cons_of_mem)) (by simp only [List.length_append, beBytes_length, List.length_nil]; unfold lots; omega) rfl).mono ?_; rintro _ _ ⟨r, rfl, hm⟩; refine ⟨_, _, rfl, hm, _, fun _ h => h.less (fun _ hx => List.mem_cons_of_mem _ hx), fun _ h => h, ?_⟩; clear hm hw w
  refine SX.call rfl (by kernel_rfl) rfl rfl rfl ?_
  intro w hw
  refine (rput_c (l := (([] ++ beBytes (u64 c.client) 1) ++ beBytes (u64 c.stamp) 8)) (x := u64 c.op) (n := 1) hw (by repeat (first | assumption | exact List.mem_cons_self | exact hmem _ | apply List.mem_cons_of_mem)) (by simp only [List.length_append, beBytes_length, List.length_nil]; unfold lots; omega) rfl).mono ?_; rintro _ _ ⟨r, rfl, hm⟩; refine ⟨_, _, rfl, hm, _, fun _ h => h.less (fun _ hx => List.mem_cons_of_mem _ hx), fun _ h => h, ?_⟩; clear hm hw w
  refine SX.val rfl (Val.assign rfl) rfl rfl ?_
  refine SX.nil (SE.seq ?_)
  refine SC.seq (SC.region ?_)
  refine SL.val (Val.move rfl) rfl rfl ?_
  refine SL.val (Val.fieldAddr tabOk rfl rfl rfl rfl rfl) rfl rfl ?_
  first
    | refine SL.val (Val.load1 tabOk rfl rfl (by repeat (first | assumption | exact List.mem_cons_self | exact hmem _ | apply List.mem_cons_of_mem)) (by rfl)) rfl rfl ?_
    | refine SL.val (Val.load1C tabOk rfl rfl (by assumption)) rfl rfl ?_
  refine SL.eff (Eff.strBytes rfl Try.underlying9 Try.underlying34 (by first | assumption | omega)) rfl rfl ?_
  rintro sb19 _ rfl
  refine SL.call (by kernel_rfl) rfl rfl rfl ?_
  intro w hw
  refine (roct_Row (l := ((([] ++ beBytes (u64 c.client) 1) ++ beBytes (u64 c.stamp) 8) ++ beBytes (u64 c.op) 1)) (m := c.letter.data.toList) hw (by repeat (first | assumption | exact List.mem_cons_self | exact hmem _ | apply List.mem_cons_of_mem)) (by repeat (first | assumption | exact List.mem_cons_self | exact hmem _ | apply List.mem_cons_of_mem)) (by simp only [List.length_append, beBytes_length, List.length_nil]; unfold lots; omega) (by omega)).mono ?_; rintro _ _ ⟨r, rfl, hm⟩; refine ⟨_, _, rfl, hm, ?_⟩; clear hm hw w
  refine SL.val (Val.assign rfl) rfl rfl ?_
  refine SL.nil (SE.seq ?_)
  refine SC.seq ?_
  refine SC.draw _ (.q 0 (.q 1 (.q 2 (.q 3 (.q 5 (.q 6 (.q 7 (.e 4 (.e 8 (.q 9 .nil)))))))))) (by kernel_rfl) (by kernel_rfl) (fun _ h => h) (fun _ h => h.drew) ?_
  refine SX.val rfl (Val.move rfl) rfl rfl ?_
  refine SX.val rfl (Val.fieldAddr tabOk rfl rfl rfl rfl rfl) rfl rfl ?_
  first
    | refine SX.val rfl (Val.load1 tabOk rfl rfl (by repeat (first | assumption | exact List.mem_cons_self | exact hmem _ | apply List.mem_cons_of_mem)) (by rfl)) rfl rfl ?_
    | refine SX.val rfl (Val.load1C tabOk rfl rfl (by assumption)) rfl rfl ?_
  first
    | refine SX.val rfl (Val.convI rfl Try.underlying166 (by kernel_rfl) (by simp only [InR, lo, hi]; omega)) rfl rfl ?_
    | refine SX.val rfl (Val.convU rfl Try.underlying166 (by kernel_rfl)) rfl rfl ?_
  refine SX.val rfl (Val.fieldAddr tabOk rfl rfl rfl rfl rfl) rfl rfl ?_
  first
    | refine SX.val rfl (Val.load1 tabOk rfl rfl (by repeat (first | assumption | exact List.mem_cons_self | exact hmem _ | apply List.mem_cons_of_mem)) (by rfl)) rfl rfl ?_
    | refine SX.val rfl (Val.load1C tabOk rfl rfl (by assumption)) rfl rfl ?_
  first
    | refine SX.val rfl (Val.convI rfl Try.underlying166 (by kernel_rfl) (by simp only [InR, lo, hi]; omega)) rfl rfl ?_
    | refine SX.val rfl (Val.convU rfl Try.underlying166 (by kernel_rfl)) rfl rfl ?_
  refine SX.call rfl (by kernel_rfl) rfl rfl rfl ?_
  intro w hw
  refine (rput_c (l := (((([] ++ beBytes (u64 c.client) 1) ++ beBytes (u64 c.stamp) 8) ++ beBytes (u64 c.op) 1) ++ beBytes c.letter.data.toList.length 4 ++ c.letter.data.toList)) (x := u64 c.a) (n := 8) hw (by repeat (first | assumption | exact List.mem_cons_self | exact hmem _ | apply List.mem_cons_of_mem)) (by simp only [List.length_append, beBytes_length, List.length_nil]; unfold lots; omega) rfl).mono ?_; rintro _ _ ⟨r, rfl, hm⟩; refine ⟨_, _, rfl, hm, _, fun _ h => h.less (fun _ hx => List.mem_cons_of_mem _ hx), fun _ h => h, ?_⟩; clear hm hw w
  refine SX.call rfl (by kernel_rfl) rfl rfl rfl ?_
  intro w hw
  refine (rput_c (l := ((((([] ++ beBytes (u64 c.client) 1) ++ beBytes (u64 c.stamp) 8) ++ beBytes (u64 c.op) 1) ++ beBytes c.letter.data.toList.length 4 ++ c.letter.data.toList) ++ beBytes (u64 c.a) 8)) (x := u64 c.b) (n := 8) hw (by repeat (first | assumption | exact List.mem_cons_self | exact hmem _ | apply List.mem_cons_of_mem)) (by simp only [List.length_append, beBytes_length, List.length_nil]; unfold lots; omega) rfl).mono ?_; rintro _ _ ⟨r, rfl, hm⟩; refine ⟨_, _, rfl, hm, _, fun _ h => h.less (fun _ hx => List.mem_cons_of_mem _ hx), fun _ h => h, ?_⟩; clear hm hw w
  refine SX.val rfl (Val.assign rfl) rfl rfl ?_
  refine SX.nil (SE.seq ?_)
  refine SC.seq (SC.region ?_)
  refine SL.val (Val.move rfl) rfl rfl ?_
  refine SL.val (Val.fieldAddr tabOk rfl rfl rfl rfl rfl) rfl rfl ?_
  first
    | refine SL.val (Val.load1 tabOk rfl rfl (by repeat (first | assumption | exact List.mem_cons_self | exact hmem _ | apply List.mem_cons_of_mem)) (by rfl)) rfl rfl ?_
    | refine SL.val (Val.load1C tabOk rfl rfl (by assumption)) rfl rfl ?_
  refine SL.eff (Eff.strBytes rfl Try.underlying9 Try.underlying34 (by first | assumption | omega)) rfl rfl ?_
  rintro sb33 _ rfl
  refine SL.call (by kernel_rfl) rfl rfl rfl ?_
  intro w hw
  refine (roct_Row (l := (((((([] ++ beBytes (u64 c.client) 1) ++ beBytes (u64 c.stamp) 8) ++ beBytes (u64 c.op) 1) ++ beBytes c.letter.data.toList.length 4 ++ c.letter.data.toList) ++ beBytes (u64 c.a) 8) ++ beBytes (u64 c.b) 8)) (m := c.text.data.toList) hw (by repeat (first | assumption | exact List.mem_cons_self | exact hmem _ | apply List.mem_cons_of_mem)) (by repeat (first | assumption | exact List.mem_cons_self | exact hmem _ | apply List.mem_cons_of_mem)) (by simp only [List.length_append, beBytes_length, List.length_nil]; unfold lots; omega) (by omega)).mono ?_; rintro _ _ ⟨r, rfl, hm⟩; refine ⟨_, _, rfl, hm, ?_⟩; clear hm hw w
  refine SL.val (Val.assign rfl) rfl rfl ?_
  refine SL.nil (SE.seq ?_)
  refine SC.ret ?_
  refine SE.ret1 rfl rfl ?_
  intro w' hw'
  refine ⟨_, rfl, (hw'.sub (fun _ h => h) (List.sublist_cons_self _ _)).less (fun x hx => ?_)⟩
  rcases List.mem_cons.1 hx with rfl | hx
  · have e3 : c.bytes = (((((([] ++ beBytes (u64 c.client) 1) ++ beBytes (u64 c.stamp) 8) ++ beBytes (u64 c.op) 1) ++ beBytes c.letter.data.toList.length 4 ++ c.letter.data.toList) ++ beBytes (u64 c.a) 8) ++ beBytes (u64 c.b) 8) ++ beBytes c.text.data.toList.length 4 ++ c.text.data.toList := by simp [Core.bytes, rowB]
    rw [e3]; simp
  · simp [*]
end
end Go.Proofs.Ytpgffckfbgfgcaa
/-
  Batches: whether they may be: the program's and the document's, over the engine.
-/
set_option maxRecDepth 100000
namespace Go.Proofs.Ytpgffckfbgfgcaa
open Go.RowKit

structure Ent where
  core : Core
  mask : Nat
def Ent.cells (e : Ent) : List Value := [.int .i64 e.core.client, .int .i64 e.core.stamp, .int .i64 e.core.op, .string e.core.letter, .int .i64 e.core.a, .int .i64 e.core.b, .string e.core.text, .int .u32 e.mask]
theorem Ent.one (e : Ent) : ∀ u ∈ e.cells, u.oneCell' = true := by
  intro u hu
  simp only [Ent.cells, List.mem_cons, List.not_mem_nil, or_false] at hu
  rcases hu with rfl | rfl | rfl | rfl | rfl | rfl | rfl | rfl <;> rfl
/-- A row of entries that is read. -/
abbrev entsD (v : Value) (es : List Ent) : Dt := rowD v es.length (es.flatMap Ent.cells)
/-- Whether entries may be, behind a client. -/
def chkL (n : Int) : Option Int → List Ent → Int
  | _, [] => 0
  | p, e :: es => if e.core.check n ≠ 0 then e.core.check n else if 2 ^ n.toNat ≤ e.mask then 5 else if (match p with | some c => decide (e.core.client ≤ c) | none => false) = true then 15 else chkL n (some e.core.client) es
def chkB (es : List Ent) (n : Int) : Int := if n < 1 ∨ 7 < n then 1 else if 4 < es.length then 4 else chkL n none es
/-- The client ahead. -/
def ahead (es : List Ent) (k : Nat) : Option Int := if k = 0 then none else (es[k - 1]?).map (·.core.client)
theorem chkL_at {n : Int} {es : List Ent} {k : Nat} (h : k < es.length) : chkL n (ahead es k) (es.drop k) = if es[k].core.check n ≠ 0 then es[k].core.check n else if 2 ^ n.toNat ≤ es[k].mask then 5 else if 0 < k ∧ es[k].core.client ≤ (es[k - 1]'(by omega)).core.client then 15 else chkL n (ahead es (k + 1)) (es.drop (k + 1)) := by
  rw [List.drop_eq_getElem_cons h]
  simp only [chkL]
  have e1 : ahead es (k + 1) = some es[k].core.client := by simp [ahead, h]
  rw [e1]
  congr 2
  by_cases hk : k = 0
  · subst hk; simp [ahead]
  · have h0 : 0 < k := by omega
    have e2 : ahead es k = some (es[k - 1]'(by omega)).core.client := by
      simp only [ahead, if_neg hk]
      rw [List.getElem?_eq_getElem (by omega)]
      rfl
    rw [e2]
    simp [h0]
theorem shr_mask {m : Nat} {n : Int} (h1 : 1 ≤ n) (h7 : n ≤ 7) : ((m : Int).fdiv (2 ^ (min n.toNat 32)) ≠ 0) ↔ 2 ^ n.toNat ≤ m := by
  obtain ⟨k, rfl⟩ : ∃ k : Nat, n = k := ⟨n.toNat, by omega⟩
  rw [Int.toNat_natCast, Nat.min_eq_left (by omega), Int.fdiv_eq_ediv_of_nonneg _ (Int.pow_nonneg (by decide))]
  rw [show (2 : Int) ^ k = ((2 ^ k : Nat) : Int) by simp, ← Int.natCast_ediv]
  have h0 : 0 < 2 ^ k := Nat.pow_pos (by omega)
  have h2 : m / 2 ^ k = 0 ↔ m < 2 ^ k := by rw [Nat.div_eq_zero_iff]; omega
  omega
/-- A power of 2. -/
def pw (q : Nat) : Nat := 2 ^ q
theorem pw_succ (q : Nat) : ((pw (q + 1) : Nat) : Int) = ((pw q : Nat) : Int) * 2 := by unfold pw; rw [Nat.pow_succ]; simp
theorem pw_le {q : Nat} (h : q ≤ 6) : pw q ≤ 64 := by
  unfold pw
  rcases (by omega : q = 0 ∨ q = 1 ∨ q = 2 ∨ q = 3 ∨ q = 4 ∨ q = 5 ∨ q = 6) with h | h | h | h | h | h | h <;> rw [h] <;> decide
section
variable {S : List (World × List Nat)} {σ τ : Blks} {ρ : List Dt} {w : World}

set_option maxHeartbeats 1000000 in
theorem batchCheck_c {v : Value} {es : List Ent} {n : Int} (hw : Mem S σ ρ w) (he : entsD v es ∈ ρ) (hl : es.length ≤ 1000000) : Calls Try.prog 106 #[v, .int .i64 n] w fun e w' => e = .returned (.int .i64 (chkB es n)) ∧ Mem S σ ρ w' := by
  obtain ⟨A, c, rfl, hs1, hs2, hs3⟩ := (hw.data he).shape
  have hA : es ≠ [] → ∃ b off, A = some ⟨b, off, none⟩ := fun h => row_at (hw.data he) (by cases es with | nil => exact absurd rfl h | cons e es => simp [Ent.cells])
  refine calls_of [.slice A es.length c, .int .i64 n] Try.func106 rfl Try.ntmps106 rfl (Mem S σ ρ) hw ?_
  refine SC.seq (SC.region ?_)
  refine SL.val (Val.assign rfl) rfl rfl ?_
  refine SL.nil (SE.seq ?_)
  refine SC.seq ?_
  refine SC.block ?_
  refine SC.seq (SC.region ?_)
  refine SL.val (Val.move rfl) rfl rfl ?_
  refine SL.val (Val.ltI rfl rfl) rfl rfl ?_
  refine SL.val (Val.move rfl) rfl rfl ?_
  refine SL.bothP (t := 11) rfl ?_ ?_
  · intro hc11
    iterate 2 refine SL.skip rfl rfl ?_
    refine SL.val (Val.pickT rfl rfl) rfl rfl ?_
    refine SL.val (Val.assign rfl) rfl rfl ?_
    refine SL.nil (SE.seq ?_)
    refine SC.condT rfl ?_
    refine SC.seq (SC.region ?_)
    refine SL.val (Val.assign rfl) rfl rfl ?_
    refine SL.nil (SE.seq ?_)
    refine SC.ret ?_
    refine SE.ret ?_
    refine SE.then_ (by intro h; cases h) ?_
    refine SE.ret1 rfl rfl ?_
    intro w' hw'
    refine ⟨?_, hw'⟩; congr 2; unfold chkB; rw [if_pos (by omega)]
  intro hc11
  refine SL.val (Val.move rfl) rfl rfl ?_
  refine SL.val (Val.gtI rfl rfl) rfl rfl ?_
  refine SL.val (Val.pickF rfl rfl) rfl rfl ?_
  refine SL.val (Val.assign rfl) rfl rfl ?_
  refine SL.nil (SE.seq ?_)
  refine SC.condP rfl ?_ ?_
  · intro hc8
    refine SC.seq (SC.region ?_)
    refine SL.val (Val.assign rfl) rfl rfl ?_
    refine SL.nil (SE.seq ?_)
    refine SC.ret ?_
    refine SE.ret ?_
    refine SE.then_ (by intro h; cases h) ?_
    refine SE.ret1 rfl rfl ?_
    intro w' hw'
    refine ⟨?_, hw'⟩; congr 2; unfold chkB; rw [if_pos (by omega)]
  intro hc8
  refine SC.seq (SC.region ?_)
  refine SL.val (Val.move rfl) rfl rfl ?_
  refine SL.val (Val.lenSl rfl Try.underlying22) rfl rfl ?_
  refine SL.val (Val.gtI rfl rfl) rfl rfl ?_
  refine SL.val (Val.assign rfl) rfl rfl ?_
  refine SL.nil (SE.seq ?_)
  refine SC.condP rfl ?_ ?_
  · intro hc15
    refine SC.seq (SC.region ?_)
    refine SL.val (Val.assign rfl) rfl rfl ?_
    refine SL.nil (SE.seq ?_)
    refine SC.ret ?_
    refine SE.ret ?_
    refine SE.then_ (by intro h; cases h) ?_
    refine SE.ret1 rfl rfl ?_
    intro w' hw'
    refine ⟨?_, hw'⟩; congr 2; unfold chkB; rw [if_neg (by omega), if_pos (by omega)]
  intro hc15
  refine SC.skip ?_
  refine SE.inBlock ?_
  refine SE.seq ?_
  refine SC.seq ?_
  refine SC.seq (SC.region ?_)
  refine SL.val (Val.move rfl) rfl rfl ?_
  refine SL.val (Val.lenSl rfl Try.underlying22) rfl rfl ?_
  refine SL.val (Val.move rfl) rfl rfl ?_
  refine SL.nil (SE.seq ?_)
  refine SC.block ?_
  refine SC.loop (ι := Nat) (fun k => [(0, .slice A es.length c), (1, .int .i64 n), (19, .slice A es.length c), (20, .int .i64 (es.length : Nat)), (21, .int .i64 (k : Nat))]) (fun k w' => (k ≤ es.length ∧ chkL n none es = chkL n (ahead es k) (es.drop k)) ∧ Mem S σ ρ w') (fun k => es.length - k) 0 (by exact ⟨rfl, rfl, rfl, rfl, rfl, trivial⟩) (fun w' hw' => ⟨⟨Nat.zero_le _, rfl⟩, hw'⟩) ?_
  intro k
  refine SC.facts ?_
  rintro ⟨hk, hk2⟩
  refine SC.seq (SC.region ?_)
  refine SL.val (Val.ltI rfl rfl) rfl rfl ?_
  refine SL.nil (SE.seq ?_)
  refine SC.seq ?_
  refine SC.condP rfl ?_ ?_
  rotate_left
  · intro hc22
    refine SC.exit ?_
    refine SE.then_ (by intro h; cases h) ?_
    refine SE.then_ (by intro h; cases h) ?_
    refine SE.exit ?_
    refine SE.seq ?_
    refine SC.seq (SC.region ?_)
    refine SL.val (Val.assign rfl) rfl rfl ?_
    refine SL.nil (SE.seq ?_)
    refine SC.ret ?_
    refine SE.ret1 rfl rfl ?_
    intro w' hw'
    refine ⟨?_, hw'⟩; congr 2; unfold chkB; rw [if_neg (by omega), if_neg (by omega), hk2, List.drop_eq_nil_of_le (by omega)]; rfl
  intro hc22
  have hlt : k < es.length := by omega
  have hat := chkL_at (n := n) hlt
  obtain ⟨bb, off, rfl⟩ := hA (by intro h0; rw [h0] at hlt; simp at hlt)
  refine SC.skip ?_
  refine SE.seq ?_
  refine SC.seq ?_
  refine SC.block ?_
  refine SC.seq (SC.region ?_)
  refine SL.val (Val.move rfl) rfl rfl ?_
  first
    | refine SL.val (Val.indexSlN tabOk Try.underlying22 rfl rfl rfl (by omega)) rfl rfl ?_
    | refine SL.val (Val.indexSl tabOk Try.underlying22 rfl rfl rfl (by omega)) rfl rfl ?_
  refine SL.val (Val.loadAD (f := Ent.cells) tabOk rfl rfl rfl (by repeat (first | assumption | exact List.mem_cons_self | exact hmem _ | apply List.mem_cons_of_mem)) (fun _ => rfl) hlt) rfl rfl ?_
  refine SL.eff (Eff.alloc tabOk rfl) rfl rfl ?_
  rintro _ _ ⟨b6, rfl, rfl⟩
  refine SL.val (Val.assign rfl) rfl rfl ?_
  refine SL.eff (Eff.storeA (L' := (es[k]'hlt).cells) (vs := (es[k]'hlt).cells) tabOk rfl rfl rfl (by repeat (first | assumption | exact Upd.here | exact hrep _ _ | apply Upd.there)) (by rfl) (Nat.le_of_ble_eq_true (by rfl)) (Ent.one _) (by rfl)) rfl rfl ?_; rintro _ _ ⟨rfl, rfl⟩
  refine SL.nil (SE.seq ?_)
  refine SC.seq ?_
  refine SC.seq (SC.region ?_)
  refine SL.val (Val.fieldAddr tabOk rfl rfl rfl rfl rfl) rfl rfl ?_
  first
    | refine SL.val (Val.loadA tabOk rfl rfl rfl (by repeat (first | assumption | exact List.mem_cons_self | exact hmem _ | apply List.mem_cons_of_mem)) (by rfl)) rfl rfl ?_
    | refine SL.val (Val.loadAC tabOk rfl rfl rfl (by assumption) (by assumption)) rfl rfl ?_
    | refine SL.val (Val.loadP tabOk rfl rfl rfl (by repeat (first | assumption | exact List.mem_cons_self | exact hmem _ | apply List.mem_cons_of_mem)) (Nat.le_of_ble_eq_true (by rfl))) rfl rfl ?_
  refine SL.val (Val.move rfl) rfl rfl ?_
  refine SL.call (by kernel_rfl) rfl rfl rfl ?_
  intro w hw
  refine (check_c (c := (es[k]'hlt).core) hw).mono ?_; rintro _ _ ⟨rfl, hm⟩; refine ⟨_, _, rfl, hm, ?_⟩; clear hm hw w
  refine SL.val (Val.assign rfl) rfl rfl ?_
  refine SL.nil (SE.seq ?_)
  refine SC.seq (SC.region ?_)
  refine SL.val (Val.move rfl) rfl rfl ?_
  refine SL.val (Val.neI rfl rfl) rfl rfl ?_
  refine SL.nil (SE.seq ?_)
  refine SC.condP rfl ?_ ?_
  · intro hc31
    refine SC.seq (SC.region ?_)
    refine SL.val (Val.move rfl) rfl rfl ?_
    refine SL.val (Val.assign rfl) rfl rfl ?_
    refine SL.nil (SE.seq ?_)
    refine SC.ret ?_
    refine SE.then_ (by intro h; cases h) ?_
    refine SE.ret ?_
    refine SE.then_ (by intro h; cases h) ?_
    refine SE.then_ (by intro h; cases h) ?_
    refine SE.ret ?_
    refine SE.then_ (by intro h; cases h) ?_
    refine SE.ret1 rfl rfl ?_
    intro w' hw'
    refine ⟨?_, hw'.sub (fun _ h => h) (List.sublist_cons_self _ _)⟩; congr 2; unfold chkB; rw [if_neg (by omega), if_neg (by omega), hk2, hat, if_pos hc31]
  intro hc31
  refine SC.skip ?_
  refine SE.seq ?_
  refine SC.block ?_
  refine SC.seq (SC.region ?_)
  refine SL.val (Val.fieldAddr tabOk rfl rfl rfl rfl rfl) rfl rfl ?_
  first
    | refine SL.val (Val.load1 tabOk rfl rfl (by repeat (first | assumption | exact List.mem_cons_self | exact hmem _ | apply List.mem_cons_of_mem)) (by rfl)) rfl rfl ?_
    | refine SL.val (Val.load1C tabOk rfl rfl (by assumption)) rfl rfl ?_
  refine SL.val (Val.move rfl) rfl rfl ?_
  first
    | refine SL.val (Val.convI rfl Try.underlying256 (by kernel_rfl) (by simp only [InR, lo, hi]; omega)) rfl rfl ?_
    | refine SL.val (Val.convU rfl Try.underlying256 (by kernel_rfl)) rfl rfl ?_
  refine SL.val (Val.shrI rfl rfl (by omega)) rfl rfl ?_
  refine SL.val (Val.neI rfl rfl) rfl rfl ?_
  refine SL.val (Val.assign rfl) rfl rfl ?_
  refine SL.nil (SE.seq ?_)
  refine SC.condP rfl ?_ ?_
  · intro hc33
    refine SC.seq (SC.region ?_)
    refine SL.val (Val.assign rfl) rfl rfl ?_
    refine SL.nil (SE.seq ?_)
    refine SC.ret ?_
    refine SE.ret ?_
    refine SE.ret ?_
    refine SE.then_ (by intro h; cases h) ?_
    refine SE.then_ (by intro h; cases h) ?_
    refine SE.ret ?_
    refine SE.then_ (by intro h; cases h) ?_
    refine SE.ret1 rfl rfl ?_
    intro w' hw'
    refine ⟨?_, hw'.sub (fun _ h => h) (List.sublist_cons_self _ _)⟩; congr 2; unfold chkB; rw [if_neg (by omega), if_neg (by omega), hk2, hat, if_neg hc31, if_pos ((shr_mask (by omega) (by omega)).1 hc33)]
  intro hc33
  refine SC.seq ?_
  refine SC.draw _ (.q 0 (.q 1 (.q 2 (.q 3 (.q 4 (.q 5 (.q 6 (.q 7 (.q 8 (.q 9 (.q 10 (.q 11 (.q 12 (.q 13 (.q 14 (.q 15 .nil)))))))))))))))) (by kernel_rfl) (by kernel_rfl) (fun _ h => h) (fun _ h => h.drew) ?_
  refine SX.val rfl (Val.move rfl) rfl rfl ?_
  refine SX.val rfl (Val.gtI rfl rfl) rfl rfl ?_
  refine SX.val rfl (Val.move rfl) rfl rfl ?_
  refine SX.bothP (t := 43) rfl ?_ ?_
  rotate_left
  · intro hc43
    iterate 11 refine SX.skip rfl rfl rfl ?_
    refine SX.val rfl (Val.pickF rfl rfl) rfl rfl ?_
    refine SX.val rfl (Val.assign rfl) rfl rfl ?_
    refine SX.nil (SE.seq ?_)
    refine SC.condF rfl ?_
    refine SC.skip ?_
    refine SE.inBlock ?_
    refine SE.inBlock ?_
    refine SE.seq ?_
    refine SC.region ?_
    first
      | refine SL.val (Val.addI rfl rfl (by simp only [InR, lo, hi]; omega)) rfl rfl ?_
      | refine SL.val (Val.addW rfl rfl) rfl rfl ?_
    refine SL.val (Val.move rfl) rfl rfl ?_
    refine SL.nil ?_
    have hnext : chkL n none es = chkL n (ahead es (k + 1)) (es.drop (k + 1)) := by
      rw [hk2, hat, if_neg hc31, if_neg (fun h => hc33 ((shr_mask (by omega) (by omega)).2 h)), if_neg (fun h => hc43 (by omega))]
    exact SE.round (k + 1) (by omega) (by exact ⟨rfl, rfl, rfl, rfl, rfl, trivial⟩) (fun w' hw' => ⟨⟨hlt, hnext⟩, hw'.sub (fun _ h => h) (List.sublist_cons_self _ _)⟩)
  intro hc43
  refine SX.val rfl (Val.move rfl) rfl rfl ?_
  refine SX.val rfl (Val.move rfl) rfl rfl ?_
  refine SX.val rfl (Val.subNat (i := k) (j := 1) rfl rfl rfl (by omega) (by simp only [InR, lo, hi]; omega)) rfl rfl ?_
  first
    | refine SX.val rfl (Val.indexSlN tabOk Try.underlying22 rfl rfl rfl (by omega)) rfl rfl ?_
    | refine SX.val rfl (Val.indexSl tabOk Try.underlying22 rfl rfl rfl (by omega)) rfl rfl ?_
  refine SX.val rfl (Val.fieldAddr tabOk rfl rfl rfl rfl rfl) rfl rfl ?_
  refine SX.val rfl (Val.fieldAddr tabOk rfl rfl rfl rfl rfl) rfl rfl ?_
  refine SX.val rfl (Val.load1F (f := Ent.cells) (s := 8) (q := k - 1) (fo := 0) tabOk rfl rfl (by repeat (first | assumption | exact List.mem_cons_self | exact hmem _ | apply List.mem_cons_of_mem)) (fun _ => rfl) (by omega) (by rfl)) rfl rfl ?_
  refine SX.val rfl (Val.fieldAddr tabOk rfl rfl rfl rfl rfl) rfl rfl ?_
  refine SX.val rfl (Val.fieldAddr tabOk rfl rfl rfl rfl rfl) rfl rfl ?_
  first
    | refine SX.val rfl (Val.load1 tabOk rfl rfl (by repeat (first | assumption | exact List.mem_cons_self | exact hmem _ | apply List.mem_cons_of_mem)) (by rfl)) rfl rfl ?_
    | refine SX.val rfl (Val.load1C tabOk rfl rfl (by assumption)) rfl rfl ?_
  refine SX.val rfl (Val.geI rfl rfl) rfl rfl ?_
  refine SX.val rfl (Val.pickT rfl rfl) rfl rfl ?_
  refine SX.val rfl (Val.assign rfl) rfl rfl ?_
  refine SX.nil (SE.seq ?_)
  refine SC.condP rfl ?_ ?_
  rotate_left
  · intro hc40
    refine SC.skip ?_
    refine SE.inBlock ?_
    refine SE.inBlock ?_
    refine SE.seq ?_
    refine SC.region ?_
    first
      | refine SL.val (Val.addI rfl rfl (by simp only [InR, lo, hi]; omega)) rfl rfl ?_
      | refine SL.val (Val.addW rfl rfl) rfl rfl ?_
    refine SL.val (Val.move rfl) rfl rfl ?_
    refine SL.nil ?_
    have hnext : chkL n none es = chkL n (ahead es (k + 1)) (es.drop (k + 1)) := by
      rw [hk2, hat, if_neg hc31, if_neg (fun h => hc33 ((shr_mask (by omega) (by omega)).2 h)), if_neg (fun h => hc40 h.2)]
    exact SE.round (k + 1) (by omega) (by exact ⟨rfl, rfl, rfl, rfl, rfl, trivial⟩) (fun w' hw' => ⟨⟨hlt, hnext⟩, hw'.sub (fun _ h => h) (List.sublist_cons_self _ _)⟩)
  intro hc40
  refine SC.seq (SC.region ?_)
  refine SL.val (Val.assign rfl) rfl rfl ?_
  refine SL.nil (SE.seq ?_)
  refine SC.ret ?_
  refine SE.ret ?_
  refine SE.ret ?_
  refine SE.then_ (by intro h; cases h) ?_
  refine SE.then_ (by intro h; cases h) ?_
  refine SE.ret ?_
  refine SE.then_ (by intro h; cases h) ?_
  refine SE.ret1 rfl rfl ?_
  intro w' hw'
  refine ⟨?_, hw'.sub (fun _ h => h) (List.sublist_cons_self _ _)⟩; congr 2; unfold chkB; rw [if_neg (by omega), if_neg (by omega), hk2, hat, if_neg hc31, if_neg (fun h => hc33 ((shr_mask (by omega) (by omega)).2 h)), if_pos ⟨by omega, hc40⟩]

set_option maxHeartbeats 1000000 in
theorem rbatchCheck_c {v : Value} {es : List Ent} {n : Int} (hw : Mem S σ ρ w) (he : entsD v es ∈ ρ) (hl : es.length ≤ 1000000) (hs : ∀ e ∈ es, e.core.letter.size ≤ lots) : Calls Try.prog 24 #[v, .int .i64 n] w fun e w' => e = .returned (.int .i64 (chkB es n)) ∧ Mem S σ ρ w' := by
  obtain ⟨A, c, rfl, hs1, hs2, hs3⟩ := (hw.data he).shape
  have hA : es ≠ [] → ∃ b off, A = some ⟨b, off, none⟩ := fun h => row_at (hw.data he) (by cases es with | nil => exact absurd rfl h | cons e es => simp [Ent.cells])
  refine calls_of [.slice A es.length c, .int .i64 n] Try.func24 rfl Try.ntmps24 rfl (Mem S σ ρ) hw ?_
  refine SC.seq (SC.region ?_)
  refine SL.val (Val.assign rfl) rfl rfl ?_
  refine SL.nil (SE.seq ?_)
  refine SC.seq ?_
  refine SC.seq (SC.region ?_)
  refine SL.val (Val.move rfl) rfl rfl ?_
  refine SL.val (Val.ltI rfl rfl) rfl rfl ?_
  refine SL.val (Val.move rfl) rfl rfl ?_
  refine SL.bothP (t := 12) rfl ?_ ?_
  · intro hc12
    iterate 2 refine SL.skip rfl rfl ?_
    refine SL.val (Val.pickT rfl rfl) rfl rfl ?_
    refine SL.nil (SE.seq ?_)
    refine SC.condT rfl ?_
    refine SC.seq (SC.region ?_)
    refine SL.val (Val.assign rfl) rfl rfl ?_
    refine SL.nil (SE.seq ?_)
    refine SC.ret ?_
    refine SE.then_ (by intro h; cases h) ?_
    refine SE.ret1 rfl rfl ?_
    intro w' hw'
    refine ⟨?_, hw'⟩; congr 2; unfold chkB; rw [if_pos (by omega)]
  intro hc12
  refine SL.val (Val.move rfl) rfl rfl ?_
  refine SL.val (Val.gtI rfl rfl) rfl rfl ?_
  refine SL.val (Val.pickF rfl rfl) rfl rfl ?_
  refine SL.nil (SE.seq ?_)
  refine SC.condP rfl ?_ ?_
  · intro hc15
    refine SC.seq (SC.region ?_)
    refine SL.val (Val.assign rfl) rfl rfl ?_
    refine SL.nil (SE.seq ?_)
    refine SC.ret ?_
    refine SE.then_ (by intro h; cases h) ?_
    refine SE.ret1 rfl rfl ?_
    intro w' hw'
    refine ⟨?_, hw'⟩; congr 2; unfold chkB; rw [if_pos (by omega)]
  intro hc15
  refine SC.skip ?_
  refine SE.seq ?_
  refine SC.seq ?_
  refine SC.seq (SC.region ?_)
  refine SL.val (Val.move rfl) rfl rfl ?_
  refine SL.val (Val.lenSl rfl Try.underlying22) rfl rfl ?_
  refine SL.val (Val.gtI rfl rfl) rfl rfl ?_
  refine SL.nil (SE.seq ?_)
  refine SC.condP rfl ?_ ?_
  · intro hc18
    refine SC.seq (SC.region ?_)
    refine SL.val (Val.assign rfl) rfl rfl ?_
    refine SL.nil (SE.seq ?_)
    refine SC.ret ?_
    refine SE.then_ (by intro h; cases h) ?_
    refine SE.ret1 rfl rfl ?_
    intro w' hw'
    refine ⟨?_, hw'⟩; congr 2; unfold chkB; rw [if_neg (by omega), if_pos (by omega)]
  intro hc18
  refine SC.skip ?_
  refine SE.seq ?_
  refine SC.seq (SC.region ?_)
  refine SL.val (Val.assign rfl) rfl rfl ?_
  refine SL.nil (SE.seq ?_)
  refine SC.seq ?_
  refine SC.seq (SC.region ?_)
  refine SL.val (Val.assign rfl) rfl rfl ?_
  refine SL.nil (SE.seq ?_)
  refine SC.block ?_
  refine SC.loop (ι := Nat) (fun q => [(0, .slice A es.length c), (1, .int .i64 n), (5, .int .u32 (pw q : Nat)), (6, .int .i64 (q : Nat))]) (fun q w' => (q : Int) ≤ n ∧ Mem S σ ρ w') (fun q => n.toNat - q) 0 (by exact ⟨rfl, rfl, rfl, rfl, trivial⟩) (fun w' hw' => ⟨by omega, hw'⟩) ?_
  intro q
  refine SC.facts ?_
  intro hq
  refine SC.seq ?_
  refine SC.seq (SC.region ?_)
  refine SL.val (Val.move rfl) rfl rfl ?_
  refine SL.val (Val.move rfl) rfl rfl ?_
  refine SL.val (Val.ltI rfl rfl) rfl rfl ?_
  refine SL.nil (SE.seq ?_)
  refine SC.condP rfl ?_ ?_
  · intro hc21
    have h7 : q ≤ 6 := by omega
    have hq1 := pw_le h7
    refine SC.skip ?_
    refine SE.seq ?_
    refine SC.seq ?_
    refine SC.block ?_
    refine SC.region ?_
    refine SL.val (Val.move rfl) rfl rfl ?_
    first
      | refine SL.val (Val.mulI rfl rfl (by simp only [InR, lo, hi]; omega)) rfl rfl ?_
      | refine SL.val (Val.mulW rfl rfl) rfl rfl ?_
    refine SL.val (Val.assign rfl) rfl rfl ?_
    refine SL.nil ?_
    refine SE.inBlock ?_
    refine SE.seq ?_
    refine SC.region ?_
    refine SL.val (Val.move rfl) rfl rfl ?_
    first
      | refine SL.val (Val.addI rfl rfl (by simp only [InR, lo, hi]; omega)) rfl rfl ?_
      | refine SL.val (Val.addW rfl rfl) rfl rfl ?_
    refine SL.val (Val.assign rfl) rfl rfl ?_
    refine SL.nil ?_
    exact SE.round (q + 1) (by omega) (by exact ⟨rfl, rfl, by show some (Value.int _ _) = some (Value.int _ _); rw [pw_succ], rfl, trivial⟩) (fun w' hw' => ⟨by omega, hw'⟩)
  intro hc21
  have hqn : q = n.toNat := by omega
  subst hqn
  refine SC.exit ?_
  refine SE.then_ (by intro h; cases h) ?_
  refine SE.then_ (by intro h; cases h) ?_
  refine SE.exit ?_
  refine SE.seq ?_
  refine SC.seq ?_
  refine SC.seq (SC.region ?_)
  refine SL.val (Val.move rfl) rfl rfl ?_
  refine SL.val (Val.lenSl rfl Try.underlying22) rfl rfl ?_
  refine SL.val (Val.move rfl) rfl rfl ?_
  refine SL.nil (SE.seq ?_)
  refine SC.block ?_
  refine SC.loop (ι := Nat) (fun k => [(0, .slice A es.length c), (1, .int .i64 n), (5, .int .u32 (pw n.toNat : Nat)), (26, .slice A es.length c), (27, .int .i64 (es.length : Nat)), (28, .int .i64 (k : Nat))]) (fun k w' => (k ≤ es.length ∧ chkL n none es = chkL n (ahead es k) (es.drop k)) ∧ Mem S σ ρ w') (fun k => es.length - k) 0 (by exact ⟨rfl, rfl, rfl, rfl, rfl, rfl, trivial⟩) (fun w' hw' => ⟨⟨Nat.zero_le _, rfl⟩, hw'⟩) ?_
  intro k
  refine SC.facts ?_
  rintro ⟨hk, hk2⟩
  refine SC.seq (SC.region ?_)
  refine SL.val (Val.ltI rfl rfl) rfl rfl ?_
  refine SL.nil (SE.seq ?_)
  refine SC.seq ?_
  refine SC.condP rfl ?_ ?_
  rotate_left
  · intro hc29
    refine SC.exit ?_
    refine SE.then_ (by intro h; cases h) ?_
    refine SE.then_ (by intro h; cases h) ?_
    refine SE.exit ?_
    refine SE.seq ?_
    refine SC.seq (SC.region ?_)
    refine SL.val (Val.assign rfl) rfl rfl ?_
    refine SL.nil (SE.seq ?_)
    refine SC.ret ?_
    refine SE.ret1 rfl rfl ?_
    intro w' hw'
    refine ⟨?_, hw'⟩; congr 2; unfold chkB; rw [if_neg (by omega), if_neg (by omega), hk2, List.drop_eq_nil_of_le (by omega)]; rfl
  intro hc29
  have hlt : k < es.length := by omega
  have hat := chkL_at (n := n) hlt
  obtain ⟨bb, off, rfl⟩ := hA (by intro h0; rw [h0] at hlt; simp at hlt)
  refine SC.skip ?_
  refine SE.seq ?_
  refine SC.seq ?_
  refine SC.block ?_
  refine SC.seq (SC.region ?_)
  refine SL.val (Val.move rfl) rfl rfl ?_
  first
    | refine SL.val (Val.indexSlN tabOk Try.underlying22 rfl rfl rfl (by omega)) rfl rfl ?_
    | refine SL.val (Val.indexSl tabOk Try.underlying22 rfl rfl rfl (by omega)) rfl rfl ?_
  refine SL.val (Val.loadAD (f := Ent.cells) tabOk rfl rfl rfl (by repeat (first | assumption | exact List.mem_cons_self | exact hmem _ | apply List.mem_cons_of_mem)) (fun _ => rfl) hlt) rfl rfl ?_
  refine SL.eff (Eff.alloc tabOk rfl) rfl rfl ?_
  rintro _ _ ⟨b8, rfl, rfl⟩
  refine SL.val (Val.assign rfl) rfl rfl ?_
  refine SL.eff (Eff.storeA (L' := (es[k]'hlt).cells) (vs := (es[k]'hlt).cells) tabOk rfl rfl rfl (by repeat (first | assumption | exact Upd.here | exact hrep _ _ | apply Upd.there)) (by rfl) (Nat.le_of_ble_eq_true (by rfl)) (Ent.one _) (by rfl)) rfl rfl ?_; rintro _ _ ⟨rfl, rfl⟩
  refine SL.nil (SE.seq ?_)
  refine SC.seq ?_
  refine SC.seq (SC.region ?_)
  refine SL.val (Val.fieldAddr tabOk rfl rfl rfl rfl rfl) rfl rfl ?_
  first
    | refine SL.val (Val.loadA tabOk rfl rfl rfl (by repeat (first | assumption | exact List.mem_cons_self | exact hmem _ | apply List.mem_cons_of_mem)) (by rfl)) rfl rfl ?_
    | refine SL.val (Val.loadAC tabOk rfl rfl rfl (by assumption) (by assumption)) rfl rfl ?_
    | refine SL.val (Val.loadP tabOk rfl rfl rfl (by repeat (first | assumption | exact List.mem_cons_self | exact hmem _ | apply List.mem_cons_of_mem)) (Nat.le_of_ble_eq_true (by rfl))) rfl rfl ?_
  refine SL.val (Val.move rfl) rfl rfl ?_
  refine SL.call (by kernel_rfl) rfl rfl rfl ?_
  intro w hw
  refine (rcheck_c (c := (es[k]'hlt).core) hw (hs _ (List.getElem_mem hlt))).mono ?_; rintro _ _ ⟨rfl, hm⟩; refine ⟨_, _, rfl, hm, ?_⟩; clear hm hw w
  refine SL.val (Val.assign rfl) rfl rfl ?_
  refine SL.nil (SE.seq ?_)
  refine SC.seq (SC.region ?_)
  refine SL.val (Val.move rfl) rfl rfl ?_
  refine SL.val (Val.neI rfl rfl) rfl rfl ?_
  refine SL.nil (SE.seq ?_)
  refine SC.condP rfl ?_ ?_
  · intro hc38
    refine SC.seq (SC.region ?_)
    refine SL.val (Val.move rfl) rfl rfl ?_
    refine SL.val (Val.assign rfl) rfl rfl ?_
    refine SL.nil (SE.seq ?_)
    refine SC.ret ?_
    refine SE.then_ (by intro h; cases h) ?_
    refine SE.ret ?_
    refine SE.then_ (by intro h; cases h) ?_
    refine SE.then_ (by intro h; cases h) ?_
    refine SE.ret ?_
    refine SE.then_ (by intro h; cases h) ?_
    refine SE.ret1 rfl rfl ?_
    intro w' hw'
    refine ⟨?_, hw'.sub (fun _ h => h) (List.sublist_cons_self _ _)⟩; congr 2; unfold chkB; rw [if_neg (by omega), if_neg (by omega), hk2, hat, if_pos hc38]
  intro hc38
  refine SC.skip ?_
  refine SE.seq ?_
  refine SC.seq ?_
  refine SC.seq (SC.region ?_)
  refine SL.val (Val.fieldAddr tabOk rfl rfl rfl rfl rfl) rfl rfl ?_
  first
    | refine SL.val (Val.load1 tabOk rfl rfl (by repeat (first | assumption | exact List.mem_cons_self | exact hmem _ | apply List.mem_cons_of_mem)) (by rfl)) rfl rfl ?_
    | refine SL.val (Val.load1C tabOk rfl rfl (by assumption)) rfl rfl ?_
  refine SL.val (Val.move rfl) rfl rfl ?_
  refine SL.val (Val.geI rfl rfl) rfl rfl ?_
  refine SL.nil (SE.seq ?_)
  refine SC.condP rfl ?_ ?_
  · intro hc43
    refine SC.seq (SC.region ?_)
    refine SL.val (Val.assign rfl) rfl rfl ?_
    refine SL.nil (SE.seq ?_)
    refine SC.ret ?_
    refine SE.then_ (by intro h; cases h) ?_
    refine SE.ret ?_
    refine SE.then_ (by intro h; cases h) ?_
    refine SE.then_ (by intro h; cases h) ?_
    refine SE.ret ?_
    refine SE.then_ (by intro h; cases h) ?_
    refine SE.ret1 rfl rfl ?_
    intro w' hw'
    refine ⟨?_, hw'.sub (fun _ h => h) (List.sublist_cons_self _ _)⟩; congr 2; unfold chkB; rw [if_neg (by omega), if_neg (by omega), hk2, hat, if_neg hc38, if_pos (by unfold pw at hc43; omega)]
  intro hc43
  refine SC.skip ?_
  refine SE.seq ?_
  refine SC.seq ?_
  refine SC.draw _ (.q 0 (.q 1 (.q 2 (.q 3 (.q 4 (.q 5 (.q 6 (.q 7 (.q 8 (.q 9 (.q 10 (.q 11 (.q 12 (.q 13 (.q 14 .nil))))))))))))))) (by kernel_rfl) (by kernel_rfl) (fun _ h => h) (fun _ h => h.drew) ?_
  refine SX.val rfl (Val.move rfl) rfl rfl ?_
  refine SX.val rfl (Val.gtI rfl rfl) rfl rfl ?_
  refine SX.val rfl (Val.move rfl) rfl rfl ?_
  refine SX.bothP (t := 46) rfl ?_ ?_
  rotate_left
  · intro hc46
    iterate 11 refine SX.skip rfl rfl rfl ?_
    refine SX.val rfl (Val.pickF rfl rfl) rfl rfl ?_
    refine SX.nil (SE.seq ?_)
    refine SC.condF rfl ?_
    refine SC.skip ?_
    refine SE.inBlock ?_
    refine SE.seq ?_
    refine SC.region ?_
    first
      | refine SL.val (Val.addI rfl rfl (by simp only [InR, lo, hi]; omega)) rfl rfl ?_
      | refine SL.val (Val.addW rfl rfl) rfl rfl ?_
    refine SL.val (Val.move rfl) rfl rfl ?_
    refine SL.nil ?_
    have hnext : chkL n none es = chkL n (ahead es (k + 1)) (es.drop (k + 1)) := by
      rw [hk2, hat, if_neg hc38, if_neg (by unfold pw at hc43; omega), if_neg (fun h => hc46 (by omega))]
    exact SE.round (k + 1) (by omega) (by exact ⟨rfl, rfl, rfl, rfl, rfl, rfl, trivial⟩) (fun w' hw' => ⟨⟨hlt, hnext⟩, hw'.sub (fun _ h => h) (List.sublist_cons_self _ _)⟩)
  intro hc46
  refine SX.val rfl (Val.move rfl) rfl rfl ?_
  refine SX.val rfl (Val.move rfl) rfl rfl ?_
  refine SX.val rfl (Val.subNat (i := k) (j := 1) rfl rfl rfl (by omega) (by simp only [InR, lo, hi]; omega)) rfl rfl ?_
  first
    | refine SX.val rfl (Val.indexSlN tabOk Try.underlying22 rfl rfl rfl (by omega)) rfl rfl ?_
    | refine SX.val rfl (Val.indexSl tabOk Try.underlying22 rfl rfl rfl (by omega)) rfl rfl ?_
  refine SX.val rfl (Val.fieldAddr tabOk rfl rfl rfl rfl rfl) rfl rfl ?_
  refine SX.val rfl (Val.fieldAddr tabOk rfl rfl rfl rfl rfl) rfl rfl ?_
  refine SX.val rfl (Val.load1F (f := Ent.cells) (s := 8) (q := k - 1) (fo := 0) tabOk rfl rfl (by repeat (first | assumption | exact List.mem_cons_self | exact hmem _ | apply List.mem_cons_of_mem)) (fun _ => rfl) (by omega) (by rfl)) rfl rfl ?_
  refine SX.val rfl (Val.fieldAddr tabOk rfl rfl rfl rfl rfl) rfl rfl ?_
  refine SX.val rfl (Val.fieldAddr tabOk rfl rfl rfl rfl rfl) rfl rfl ?_
  first
    | refine SX.val rfl (Val.load1 tabOk rfl rfl (by repeat (first | assumption | exact List.mem_cons_self | exact hmem _ | apply List.mem_cons_of_mem)) (by rfl)) rfl rfl ?_
    | refine SX.val rfl (Val.load1C tabOk rfl rfl (by assumption)) rfl rfl ?_
  refine SX.val rfl (Val.geI rfl rfl) rfl rfl ?_
  refine SX.val rfl (Val.pickT rfl rfl) rfl rfl ?_
  refine SX.nil (SE.seq ?_)
  refine SC.condP rfl ?_ ?_
  rotate_left
  · intro hc58
    refine SC.skip ?_
    refine SE.inBlock ?_
    refine SE.seq ?_
    refine SC.region ?_
    first
      | refine SL.val (Val.addI rfl rfl (by simp only [InR, lo, hi]; omega)) rfl rfl ?_
      | refine SL.val (Val.addW rfl rfl) rfl rfl ?_
    refine SL.val (Val.move rfl) rfl rfl ?_
    refine SL.nil ?_
    have hnext : chkL n none es = chkL n (ahead es (k + 1)) (es.drop (k + 1)) := by
      rw [hk2, hat, if_neg hc38, if_neg (by unfold pw at hc43; omega), if_neg (fun h => hc58 h.2)]
    exact SE.round (k + 1) (by omega) (by exact ⟨rfl, rfl, rfl, rfl, rfl, rfl, trivial⟩) (fun w' hw' => ⟨⟨hlt, hnext⟩, hw'.sub (fun _ h => h) (List.sublist_cons_self _ _)⟩)
  intro hc58
  refine SC.seq (SC.region ?_)
  refine SL.val (Val.assign rfl) rfl rfl ?_
  refine SL.nil (SE.seq ?_)
  refine SC.ret ?_
  refine SE.ret ?_
  refine SE.then_ (by intro h; cases h) ?_
  refine SE.then_ (by intro h; cases h) ?_
  refine SE.ret ?_
  refine SE.then_ (by intro h; cases h) ?_
  refine SE.ret1 rfl rfl ?_
  intro w' hw'
  refine ⟨?_, hw'.sub (fun _ h => h) (List.sublist_cons_self _ _)⟩; congr 2; unfold chkB; rw [if_neg (by omega), if_neg (by omega), hk2, hat, if_neg hc38, if_neg (by unfold pw at hc43; omega), if_pos ⟨by omega, hc58⟩]
end
end Go.Proofs.Ytpgffckfbgfgcaa
/-
  Batches: their bytes: the program's and the document's, over the engine.
-/
set_option maxRecDepth 100000
namespace Go.Proofs.Ytpgffckfbgfgcaa
open Go.RowKit

def Ent.bytes (e : Ent) : List UInt8 := rowB e.core.bytes ++ beBytes e.mask 1
def batchB (es : List Ent) : List UInt8 := beBytes es.length 2 ++ es.flatMap Ent.bytes
/-- An entry that isn't too great. -/
structure Ent.Few (e : Ent) : Prop where
  mask : e.mask < 4294967296
  letter : e.core.letter.size ≤ 1000
  text : e.core.text.size ≤ 1000
theorem Core.bytes_length (c : Core) : c.bytes.length = 34 + c.letter.size + c.text.size := by
  have h1 : c.letter.data.toList.length = c.letter.size := by simp
  have h2 : c.text.data.toList.length = c.text.size := by simp
  simp only [Core.bytes, rowB, List.length_append, beBytes_length, h1, h2]
  omega
theorem Ent.bytes_length (e : Ent) : e.bytes.length = 39 + e.core.letter.size + e.core.text.size := by
  simp only [Ent.bytes, rowB, List.length_append, beBytes_length, Core.bytes_length]
  omega
theorem ents_length {es : List Ent} (h : ∀ e ∈ es, e.Few) : (es.flatMap Ent.bytes).length ≤ es.length * 2100 := by
  induction es with
  | nil => simp
  | cons e es ih =>
    have h1 := h e (by simp)
    have h2 := ih (fun x hx => h x (by simp [hx]))
    have := h1.letter
    have := h1.text
    rw [List.flatMap_cons, List.length_append, Ent.bytes_length, List.length_cons, Nat.succ_mul]
    omega
section
variable {S : List (World × List Nat)} {σ τ : Blks} {ρ : List Dt} {w : World}

set_option maxHeartbeats 1000000 in
theorem batchBytes_c {v : Value} {es : List Ent} (hw : Mem S σ ρ w) (he : entsD v es ∈ ρ) (hl : es.length ≤ 1000000) (hf : ∀ e ∈ es, e.Few) : Calls Try.prog 105 #[v] w fun e w' => ∃ r, e = .returned r ∧ Mem S σ (bytesD r (batchB es) :: ρ) w' := by
  obtain ⟨A, c, rfl, hs1, hs2, hs3⟩ := (hw.data he).shape
  have hA : es ≠ [] → ∃ b off, A = some ⟨b, off, none⟩ := fun h => row_at (hw.data he) (by cases es with | nil => exact absurd rfl h | cons e es => simp [Ent.cells])
  refine calls_of [.slice A es.length c] Try.func105 rfl Try.ntmps105 rfl (Mem S σ ρ) hw ?_
  refine SC.seq (SC.region ?_)
  refine SL.val (Val.assign rfl) rfl rfl ?_
  refine SL.nil (SE.seq ?_)
  refine SC.seq (SC.region ?_)
  refine SL.val (Val.move rfl) rfl rfl ?_
  refine SL.val (Val.lenSl rfl Try.underlying22) rfl rfl ?_
  first
    | refine SL.val (Val.convI rfl Try.underlying166 (by kernel_rfl) (by simp only [InR, lo, hi]; omega)) rfl rfl ?_
    | refine SL.val (Val.convU rfl Try.underlying166 (by kernel_rfl)) rfl rfl ?_
  refine SL.call (by kernel_rfl) rfl rfl rfl ?_
  intro w hw
  refine (put_c (l := []) (x := es.length) (n := 2) hw (BytesV.nil _) (Nat.zero_le _) (by omega) rfl).mono ?_; rintro _ _ ⟨r, rfl, hm⟩; refine ⟨_, _, rfl, hm, ?_⟩; clear hm hw w
  refine SL.val (Val.assign rfl) rfl rfl ?_
  refine SL.nil (SE.seq ?_)
  refine SC.seq ?_
  refine SC.seq (SC.region ?_)
  refine SL.val (Val.move rfl) rfl rfl ?_
  refine SL.val (Val.lenSl rfl Try.underlying22) rfl rfl ?_
  refine SL.val (Val.move rfl) rfl rfl ?_
  refine SL.nil (SE.seq ?_)
  refine SC.block ?_
  refine SC.loop (ι := Nat × Value) (fun z => [(10, .slice A es.length c), (11, .int .i64 (es.length : Nat)), (12, .int .i64 (z.1 : Nat)), (3, z.2)]) (fun z w' => z.1 ≤ es.length ∧ Mem S σ (bytesD z.2 (([] ++ beBytes es.length (Int.toNat 2)) ++ (es.take z.1).flatMap Ent.bytes) :: ρ) w') (fun z => es.length - z.1) (0, _) (by exact ⟨rfl, rfl, rfl, rfl, trivial⟩) (fun w' hw' => ⟨Nat.zero_le _, hw'.less (by intro x hx; simp only [List.take_zero, List.flatMap_nil, List.append_nil] at hx; rcases List.mem_cons.1 hx with rfl | hx <;> simp [*])⟩) ?_
  intro z
  refine SC.facts ?_
  intro hz
  have hlen : (([] ++ beBytes es.length (Int.toNat 2)) ++ (es.take z.1).flatMap Ent.bytes).length ≤ 2 + 1000000 * 2100 := by
    have h0 := ents_length (es := es.take z.1) (fun e he' => hf e (List.mem_of_mem_take he'))
    have h9 : (es.take z.1).length ≤ es.length := by simp; omega
    have h8 : (es.take z.1).length * 2100 ≤ 1000000 * 2100 := Nat.mul_le_mul_right _ (by omega)
    simp only [List.length_append, beBytes_length, List.length_nil]
    simp only [show Int.toNat 2 = 2 from rfl]
    omega
  refine SC.seq (SC.region ?_)
  refine SL.val (Val.ltI rfl rfl) rfl rfl ?_
  refine SL.nil (SE.seq ?_)
  refine SC.seq ?_
  refine SC.condP rfl ?_ ?_
  rotate_left
  · intro hc13
    refine SC.exit ?_
    refine SE.then_ (by intro h; cases h) ?_
    refine SE.then_ (by intro h; cases h) ?_
    refine SE.exit ?_
    refine SE.seq ?_
    refine SC.seq (SC.region ?_)
    refine SL.val (Val.move rfl) rfl rfl ?_
    refine SL.val (Val.assign rfl) rfl rfl ?_
    refine SL.nil (SE.seq ?_)
    refine SC.ret ?_
    refine SE.ret1 rfl rfl ?_
    intro w' hw'
    have e2 : (([] ++ beBytes es.length (Int.toNat 2)) ++ (es.take z.1).flatMap Ent.bytes) = batchB es := by
      rw [List.take_of_length_le (by omega)]
      simp [batchB]
    rw [e2] at hw'
    exact ⟨_, rfl, hw'⟩
  intro hc13
  have hlt : z.1 < es.length := by omega
  have hfew := hf _ (List.getElem_mem hlt)
  have hmask := hfew.mask
  have hlet := hfew.letter
  have htex := hfew.text
  obtain ⟨bb, off, rfl⟩ := hA (by intro h0; rw [h0] at hlt; simp at hlt)
  refine SC.skip ?_
  refine SE.seq ?_
  refine SC.seq ?_
  refine SC.block ?_
  refine SC.seq (SC.region ?_)
  first
    | refine SL.val (Val.indexSlN tabOk Try.underlying22 rfl rfl rfl (by omega)) rfl rfl ?_
    | refine SL.val (Val.indexSl tabOk Try.underlying22 rfl rfl rfl (by omega)) rfl rfl ?_
  refine SL.val (Val.loadAD (f := Ent.cells) tabOk rfl rfl rfl (by repeat (first | assumption | exact List.mem_cons_self | exact hmem _ | apply List.mem_cons_of_mem)) (fun _ => rfl) hlt) rfl rfl ?_
  refine SL.eff (Eff.alloc tabOk rfl) rfl rfl ?_
  rintro _ _ ⟨b5, rfl, rfl⟩
  refine SL.eff (Eff.storeA (L' := (es[z.1]'hlt).cells) (vs := (es[z.1]'hlt).cells) tabOk rfl rfl rfl (by repeat (first | assumption | exact Upd.here | exact hrep _ _ | apply Upd.there)) (by rfl) (Nat.le_of_ble_eq_true (by rfl)) (Ent.one _) (by rfl)) rfl rfl ?_; rintro _ _ ⟨rfl, rfl⟩
  refine SL.nil (SE.seq ?_)
  refine SC.draw _ (.q 0 (.q 1 (.q 2 (.q 5 (.q 6 (.q 7 (.e 3 (.e 4 (.e 8 (.q 9 .nil)))))))))) (by kernel_rfl) (by kernel_rfl) (fun _ h => h) (fun _ h => h.drew) ?_
  refine SX.val rfl (Val.move rfl) rfl rfl ?_
  refine SX.val rfl (Val.fieldAddr tabOk rfl rfl rfl rfl rfl) rfl rfl ?_
  first
    | refine SX.val rfl (Val.loadA tabOk rfl rfl rfl (by repeat (first | assumption | exact List.mem_cons_self | exact hmem _ | apply List.mem_cons_of_mem)) (by rfl)) rfl rfl ?_
    | refine SX.val rfl (Val.loadAC tabOk rfl rfl rfl (by assumption) (by assumption)) rfl rfl ?_
    | refine SX.val rfl (Val.loadP tabOk rfl rfl rfl (by repeat (first | assumption | exact List.mem_cons_self | exact hmem _ | apply List.mem_cons_of_mem)) (Nat.le_of_ble_eq_true (by rfl))) rfl rfl ?_
  refine SX.val rfl (Val.fieldAddr tabOk rfl rfl rfl rfl rfl) rfl rfl ?_
  first
    | refine SX.val rfl (Val.load1 tabOk rfl rfl (by repeat (first | assumption | exact List.mem_cons_self | exact hmem _ | apply List.mem_cons_of_mem)) (by rfl)) rfl rfl ?_
    | refine SX.val rfl (Val.load1C tabOk rfl rfl (by assumption)) rfl rfl ?_
  first
    | refine SX.val rfl (Val.convI rfl Try.underlying166 (by kernel_rfl) (by simp only [InR, lo, hi]; omega)) rfl rfl ?_
    | refine SX.val rfl (Val.convU rfl Try.underlying166 (by kernel_rfl)) rfl rfl ?_
  refine SX.call rfl (by kernel_rfl) rfl rfl rfl ?_
  intro w hw
  refine (coreBytes_c (c := (es[z.1]'hlt).core) hw (by have := hfew.letter; omega) (by have := hfew.text; omega)).mono ?_; rintro _ _ ⟨r, rfl, hm⟩; refine ⟨_, _, rfl, hm, _, fun _ h => h.less (fun _ hx => List.mem_cons_of_mem _ hx), fun _ h => h, ?_⟩; clear hm hw w
  refine SX.call rfl (by kernel_rfl) rfl rfl rfl ?_
  intro w hw
  refine (oct_Row (l := (([] ++ beBytes es.length (Int.toNat 2)) ++ (es.take z.1).flatMap Ent.bytes)) (m := (es[z.1]'hlt).core.bytes) hw (by repeat (first | assumption | exact List.mem_cons_self | exact hmem _ | apply List.mem_cons_of_mem)) (by repeat (first | assumption | exact List.mem_cons_self | exact hmem _ | apply List.mem_cons_of_mem)) (by have := hlen; simp only [List.length_append, beBytes_length, Core.bytes_length] at *; unfold lots; omega) (by rw [Core.bytes_length]; have := hfew.letter; have := hfew.text; omega)).mono ?_; rintro _ _ ⟨r, rfl, hm⟩; refine ⟨_, _, rfl, hm, _, fun _ h => h.less (fun _ hx => List.mem_cons_of_mem _ hx), fun _ h => h, ?_⟩; clear hm hw w
  refine SX.call rfl (by kernel_rfl) rfl rfl rfl ?_
  intro w hw
  refine (put_c (l := (([] ++ beBytes es.length (Int.toNat 2)) ++ (es.take z.1).flatMap Ent.bytes) ++ beBytes (es[z.1]'hlt).core.bytes.length 4 ++ (es[z.1]'hlt).core.bytes) (x := (es[z.1]'hlt).mask) (n := 1) hw (hw.bytes (by repeat (first | assumption | exact List.mem_cons_self | exact hmem _ | apply List.mem_cons_of_mem))) (by have := hlen; simp only [List.length_append, beBytes_length, Core.bytes_length] at *; unfold lots; omega) (by omega) rfl).mono ?_; rintro _ _ ⟨r, rfl, hm⟩; refine ⟨_, _, rfl, hm, _, fun _ h => h.less (fun _ hx => List.mem_cons_of_mem _ hx), fun _ h => h, ?_⟩; clear hm hw w
  refine SX.val rfl (Val.assign rfl) rfl rfl ?_
  refine SX.nil ?_
  refine SE.inBlock ?_
  refine SE.seq ?_
  refine SC.region ?_
  first
    | refine SL.val (Val.addI rfl rfl (by simp only [InR, lo, hi]; omega)) rfl rfl ?_
    | refine SL.val (Val.addW rfl rfl) rfl rfl ?_
  refine SL.val (Val.move rfl) rfl rfl ?_
  refine SL.nil ?_
  refine SE.round (z.1 + 1, r) (by show es.length - (z.1 + 1) < es.length - z.1; omega) (by exact ⟨rfl, rfl, rfl, rfl, trivial⟩) (fun w' hw' => ⟨hlt, ?_⟩)
  have e1 : (([] ++ beBytes es.length (Int.toNat 2)) ++ (es.take (z.1 + 1)).flatMap Ent.bytes) = (([] ++ beBytes es.length (Int.toNat 2)) ++ (es.take z.1).flatMap Ent.bytes) ++ beBytes (es[z.1]'hlt).core.bytes.length 4 ++ (es[z.1]'hlt).core.bytes ++ beBytes (es[z.1]'hlt).mask (Int.toNat 1) := by
    rw [List.take_succ_eq_append_getElem hlt, List.flatMap_append]
    simp [Ent.bytes, rowB]
  show Mem S σ (bytesD r (([] ++ beBytes es.length (Int.toNat 2)) ++ (es.take (z.1 + 1)).flatMap Ent.bytes) :: ρ) w'
  rw [e1]
  exact (hw'.sub (fun _ h => h) (List.sublist_cons_self _ _)).less (fun x hx => by rcases List.mem_cons.1 hx with rfl | hx <;> simp [*])

set_option maxHeartbeats 1000000 in
theorem rbatchBytes_c {v : Value} {es : List Ent} (hw : Mem S σ ρ w) (he : entsD v es ∈ ρ) (hl : es.length ≤ 1000000) (hf : ∀ e ∈ es, e.Few) : Calls Try.prog 23 #[v] w fun e w' => ∃ r, e = .returned r ∧ Mem S σ (bytesD r (batchB es) :: ρ) w' := by
  obtain ⟨A, c, rfl, hs1, hs2, hs3⟩ := (hw.data he).shape
  have hA : es ≠ [] → ∃ b off, A = some ⟨b, off, none⟩ := fun h => row_at (hw.data he) (by cases es with | nil => exact absurd rfl h | cons e es => simp [Ent.cells])
  refine calls_of [.slice A es.length c] Try.func23 rfl Try.ntmps23 rfl (Mem S σ ρ) hw ?_
  refine SC.seq (SC.region ?_)
  refine SL.val (Val.assign rfl) rfl rfl ?_
  refine SL.nil (SE.seq ?_)
  refine SC.seq (SC.region ?_)
  refine SL.val (Val.move rfl) rfl rfl ?_
  refine SL.val (Val.lenSl rfl Try.underlying22) rfl rfl ?_
  first
    | refine SL.val (Val.convI rfl Try.underlying166 (by kernel_rfl) (by simp only [InR, lo, hi]; omega)) rfl rfl ?_
    | refine SL.val (Val.convU rfl Try.underlying166 (by kernel_rfl)) rfl rfl ?_
  refine SL.call (by kernel_rfl) rfl rfl rfl ?_
  intro w hw
  refine (rput0_c (x := es.length) (n := 2) hw rfl).mono ?_; rintro _ _ ⟨r, rfl, hm⟩; refine ⟨_, _, rfl, hm, ?_⟩; clear hm hw w
  refine SL.val (Val.assign rfl) rfl rfl ?_
  refine SL.nil (SE.seq ?_)
  refine SC.seq ?_
  refine SC.seq (SC.region ?_)
  refine SL.val (Val.move rfl) rfl rfl ?_
  refine SL.val (Val.lenSl rfl Try.underlying22) rfl rfl ?_
  refine SL.val (Val.move rfl) rfl rfl ?_
  refine SL.nil (SE.seq ?_)
  refine SC.block ?_
  refine SC.loop (ι := Nat × Value) (fun z => [(10, .slice A es.length c), (11, .int .i64 (es.length : Nat)), (12, .int .i64 (z.1 : Nat)), (3, z.2)]) (fun z w' => z.1 ≤ es.length ∧ Mem S σ (bytesD z.2 (([] ++ beBytes es.length 2) ++ (es.take z.1).flatMap Ent.bytes) :: ρ) w') (fun z => es.length - z.1) (0, _) (by exact ⟨rfl, rfl, rfl, rfl, trivial⟩) (fun w' hw' => ⟨Nat.zero_le _, hw'.less (by intro x hx; simp only [List.take_zero, List.flatMap_nil, List.append_nil] at hx; rcases List.mem_cons.1 hx with rfl | hx <;> simp [*])⟩) ?_
  intro z
  refine SC.facts ?_
  intro hz
  have hlen : (([] ++ beBytes es.length 2) ++ (es.take z.1).flatMap Ent.bytes).length ≤ 2 + 1000000 * 2100 := by
    have h0 := ents_length (es := es.take z.1) (fun e he' => hf e (List.mem_of_mem_take he'))
    have h9 : (es.take z.1).length ≤ es.length := by simp; omega
    have h8 : (es.take z.1).length * 2100 ≤ 1000000 * 2100 := Nat.mul_le_mul_right _ (by omega)
    simp only [List.length_append, beBytes_length, List.length_nil]
    omega
  refine SC.seq (SC.region ?_)
  refine SL.val (Val.ltI rfl rfl) rfl rfl ?_
  refine SL.nil (SE.seq ?_)
  refine SC.seq ?_
  refine SC.condP rfl ?_ ?_
  rotate_left
  · intro hc13
    refine SC.exit ?_
    refine SE.then_ (by intro h; cases h) ?_
    refine SE.then_ (by intro h; cases h) ?_
    refine SE.exit ?_
    refine SE.seq ?_
    refine SC.seq (SC.region ?_)
    refine SL.val (Val.move rfl) rfl rfl ?_
    refine SL.val (Val.assign rfl) rfl rfl ?_
    refine SL.nil (SE.seq ?_)
    refine SC.ret ?_
    refine SE.ret1 rfl rfl ?_
    intro w' hw'
    have e2 : (([] ++ beBytes es.length 2) ++ (es.take z.1).flatMap Ent.bytes) = batchB es := by
      rw [List.take_of_length_le (by omega)]
      simp [batchB]
    rw [e2] at hw'
    exact ⟨_, rfl, hw'⟩
  intro hc13
  have hlt : z.1 < es.length := by omega
  have hfew := hf _ (List.getElem_mem hlt)
  have hmask := hfew.mask
  have hlet := hfew.letter
  have htex := hfew.text
  obtain ⟨bb, off, rfl⟩ := hA (by intro h0; rw [h0] at hlt; simp at hlt)
  refine SC.skip ?_
  refine SE.seq ?_
  refine SC.seq ?_
  refine SC.block ?_
  refine SC.seq (SC.region ?_)
  first
    | refine SL.val (Val.indexSlN tabOk Try.underlying22 rfl rfl rfl (by omega)) rfl rfl ?_
    | refine SL.val (Val.indexSl tabOk Try.underlying22 rfl rfl rfl (by omega)) rfl rfl ?_
  refine SL.val (Val.loadAD (f := Ent.cells) tabOk rfl rfl rfl (by repeat (first | assumption | exact List.mem_cons_self | exact hmem _ | apply List.mem_cons_of_mem)) (fun _ => rfl) hlt) rfl rfl ?_
  refine SL.eff (Eff.alloc tabOk rfl) rfl rfl ?_
  rintro _ _ ⟨b5, rfl, rfl⟩
  refine SL.eff (Eff.storeA (L' := (es[z.1]'hlt).cells) (vs := (es[z.1]'hlt).cells) tabOk rfl rfl rfl (by repeat (first | assumption | exact Upd.here | exact hrep _ _ | apply Upd.there)) (by rfl) (Nat.le_of_ble_eq_true (by rfl)) (Ent.one _) (by rfl)) rfl rfl ?_; rintro _ _ ⟨rfl, rfl⟩
  refine SL.nil (SE.seq ?_)
  refine SC.draw _ (.q 0 (.q 1 (.q 2 (.q 5 (.q 6 (.q 7 (.e 3 (.e 4 (.e 8 (.q 9 .nil)))))))))) (by kernel_rfl) (by kernel_rfl) (fun _ h => h) (fun _ h => h.drew) ?_
  refine SX.val rfl (Val.move rfl) rfl rfl ?_
  refine SX.val rfl (Val.fieldAddr tabOk rfl rfl rfl rfl rfl) rfl rfl ?_
  first
    | refine SX.val rfl (Val.loadA tabOk rfl rfl rfl (by repeat (first | assumption | exact List.mem_cons_self | exact hmem _ | apply List.mem_cons_of_mem)) (by rfl)) rfl rfl ?_
    | refine SX.val rfl (Val.loadAC tabOk rfl rfl rfl (by assumption) (by assumption)) rfl rfl ?_
    | refine SX.val rfl (Val.loadP tabOk rfl rfl rfl (by repeat (first | assumption | exact List.mem_cons_self | exact hmem _ | apply List.mem_cons_of_mem)) (Nat.le_of_ble_eq_true (by rfl))) rfl rfl ?_
  refine SX.val rfl (Val.fieldAddr tabOk rfl rfl rfl rfl rfl) rfl rfl ?_
  first
    | refine SX.val rfl (Val.load1 tabOk rfl rfl (by repeat (first | assumption | exact List.mem_cons_self | exact hmem _ | apply List.mem_cons_of_mem)) (by rfl)) rfl rfl ?_
    | refine SX.val rfl (Val.load1C tabOk rfl rfl (by assumption)) rfl rfl ?_
  first
    | refine SX.val rfl (Val.convI rfl Try.underlying166 (by kernel_rfl) (by simp only [InR, lo, hi]; omega)) rfl rfl ?_
    | refine SX.val rfl (Val.convU rfl Try.underlying166 (by kernel_rfl)) rfl rfl ?_
  refine SX.call rfl (by kernel_rfl) rfl rfl rfl ?_
  intro w hw
  refine (rcoreBytes_c (c := (es[z.1]'hlt).core) hw (by have := hfew.letter; omega) (by have := hfew.text; omega)).mono ?_; rintro _ _ ⟨r, rfl, hm⟩; refine ⟨_, _, rfl, hm, _, fun _ h => h.less (fun _ hx => List.mem_cons_of_mem _ hx), fun _ h => h, ?_⟩; clear hm hw w
  refine SX.call rfl (by kernel_rfl) rfl rfl rfl ?_
  intro w hw
  refine (roct_Row (l := (([] ++ beBytes es.length 2) ++ (es.take z.1).flatMap Ent.bytes)) (m := (es[z.1]'hlt).core.bytes) hw (by repeat (first | assumption | exact List.mem_cons_self | exact hmem _ | apply List.mem_cons_of_mem)) (by repeat (first | assumption | exact List.mem_cons_self | exact hmem _ | apply List.mem_cons_of_mem)) (by have := hlen; simp only [List.length_append, beBytes_length, Core.bytes_length] at *; unfold lots; omega) (by rw [Core.bytes_length]; have := hfew.letter; have := hfew.text; omega)).mono ?_; rintro _ _ ⟨r, rfl, hm⟩; refine ⟨_, _, rfl, hm, _, fun _ h => h.less (fun _ hx => List.mem_cons_of_mem _ hx), fun _ h => h, ?_⟩; clear hm hw w
  refine SX.call rfl (by kernel_rfl) rfl rfl rfl ?_
  intro w hw
  refine (rput_c (l := (([] ++ beBytes es.length 2) ++ (es.take z.1).flatMap Ent.bytes) ++ beBytes (es[z.1]'hlt).core.bytes.length 4 ++ (es[z.1]'hlt).core.bytes) (x := (es[z.1]'hlt).mask) (n := 1) hw (by repeat (first | assumption | exact List.mem_cons_self | exact hmem _ | apply List.mem_cons_of_mem)) (by have := hlen; simp only [List.length_append, beBytes_length, Core.bytes_length] at *; unfold lots; omega) rfl).mono ?_; rintro _ _ ⟨r, rfl, hm⟩; refine ⟨_, _, rfl, hm, _, fun _ h => h.less (fun _ hx => List.mem_cons_of_mem _ hx), fun _ h => h, ?_⟩; clear hm hw w
  refine SX.val rfl (Val.assign rfl) rfl rfl ?_
  refine SX.nil ?_
  refine SE.inBlock ?_
  refine SE.seq ?_
  refine SC.region ?_
  first
    | refine SL.val (Val.addI rfl rfl (by simp only [InR, lo, hi]; omega)) rfl rfl ?_
    | refine SL.val (Val.addW rfl rfl) rfl rfl ?_
  refine SL.val (Val.move rfl) rfl rfl ?_
  refine SL.nil ?_
  refine SE.round (z.1 + 1, r) (by show es.length - (z.1 + 1) < es.length - z.1; omega) (by exact ⟨rfl, rfl, rfl, rfl, trivial⟩) (fun w' hw' => ⟨hlt, ?_⟩)
  have e1 : (([] ++ beBytes es.length 2) ++ (es.take (z.1 + 1)).flatMap Ent.bytes) = (([] ++ beBytes es.length 2) ++ (es.take z.1).flatMap Ent.bytes) ++ beBytes (es[z.1]'hlt).core.bytes.length 4 ++ (es[z.1]'hlt).core.bytes ++ beBytes (es[z.1]'hlt).mask 1 := by
    rw [List.take_succ_eq_append_getElem hlt, List.flatMap_append]
    simp [Ent.bytes, rowB]
  show Mem S σ (bytesD r (([] ++ beBytes es.length 2) ++ (es.take (z.1 + 1)).flatMap Ent.bytes) :: ρ) w'
  rw [e1]
  exact (hw'.sub (fun _ h => h) (List.sublist_cons_self _ _)).less (fun x hx => by rcases List.mem_cons.1 hx with rfl | hx <;> simp [*])
end
end Go.Proofs.Ytpgffckfbgfgcaa
