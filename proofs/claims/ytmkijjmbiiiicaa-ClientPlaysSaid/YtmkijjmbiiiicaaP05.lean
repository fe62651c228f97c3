/-
  Packed out of the texts: Cores, ACor, A10, A11, A12, Rep, Tg, Maps, A9, A15.
-/
import Derived.Test.YtmkijjmbiiiicaaP04
import Derived.Maps.Keyed
import Derived.Maps.OwnSet
/-
  Cores: whether they may be, and their bytes: the program's and the document's, over the engine.
-/
set_option maxRecDepth 100000
namespace Go.Proofs.Ytmkijjmbiiiicaa
open Go.RowKit

structure Core where
  client : Int
  stamp : Int
  op : Int
  letter : ByteArray
  a : Int
  b : Int
  text : ByteArray
def Core.cells (c : Core) : List Value := [.int .i64 c.client, .int .i64 c.stamp, .int .i64 c.op, .string c.letter, .int .i64 c.a, .int .i64 c.b, .string c.text]
def Core.check (c : Core) (n : Int) : Int :=
  if n < 1 ∨ 7 < n then 1 else if c.client < n ∨ n + 4 ≤ c.client then 17 else if c.stamp < 1 ∨ 1099511627776 < c.stamp ∨ c.op < 1 ∨ 9 < c.op then 5 else if nameB c.letter = false then 7 else if 200 < c.text.size then 3 else 0
def rowB (m : List UInt8) : List UInt8 := beBytes m.length 4 ++ m
def Core.bytes (c : Core) : List UInt8 :=
  beBytes (u64 c.client) 1 ++ beBytes (u64 c.stamp) 8 ++ beBytes (u64 c.op) 1 ++ rowB c.letter.data.toList ++ beBytes (u64 c.a) 8 ++ beBytes (u64 c.b) 8 ++ rowB c.text.data.toList
theorem u64_lt (x : Int) : u64 x < 18446744073709551616 := by unfold u64; omega
section
variable {S : List (World × List Nat)} {σ τ : Blks} {ρ : List Dt} {w : World} {P : Program} {n : Nat} {l : Slots} {D : World → Prop} {x y : Operand} {d : Option Nat} {ty t : TypeId} {pos : String} {aft : Array Edge} {g : Option (Nat × Bool)} {v : Value}
/-- An element of an array's value. -/
theorem Val.indexAr1 {tab : List (Nat × TI)} (hT : TabOk P tab) {sz m e sz' : Nat} {zs zs' L : List Value} {k : IntKind} {r : Int} {q : Nat} (ht : ti tab t = some ⟨sz, .array m e, zs⟩) (hj : ti tab e = some ⟨sz', .one, zs'⟩) (hs : Nat.beq sz' 1 = true) (hx : look l x = some (.agg L.toArray)) (hy : look l y = some (.int k r)) (hr : r = (q : Nat)) (hq : q < m) (hv : L[q]? = some v) :
    Val P n l D ⟨d, .index t x y, ty, pos, aft, g⟩ v := fun A w hf hD => by
  obtain ⟨dd, hu, hk⟩ := (hT t _ ht).und
  cases dd <;> simp [kindOk] at hk
  obtain ⟨rfl, rfl⟩ := hk
  have h1 := (hT _ _ hj).sizeOf (w := w)
  have h2 := (hT _ _ hj).isAgg (w := w)
  rw [show sz' = 1 from Nat.eq_of_beq_eq_true hs] at h1
  subst hr
  simp [execOp, Instr.index, asIntOf, hf.eval hx, hf.eval hy, run_underlying hu, Sem.run_bind, Result.andThen, hq, h1, part, h2, hv]

set_option maxHeartbeats 400000 in
theorem check_c {c : Core} {n : Int} (hw : Mem S σ ρ w) : Calls Try.prog 22 #[.agg c.cells.toArray, .int .i64 n] w fun e w' => e = .returned (.int .i64 (c.check n)) ∧ Mem S σ ρ w' := by
  refine calls_of [.agg c.cells.toArray, .int .i64 n] Try.func22 rfl Try.ntmps22 rfl (Mem S σ ρ) hw ?_
  refine SC.seq (SC.region ?_)
  refine SL.eff (Eff.boxA rfl) rfl rfl ?_
  rintro _ _ ⟨b2, rfl, rfl⟩
  refine SL.val (Val.assign rfl) rfl rfl ?_
  refine SL.nil (SE.seq ?_)
  refine SC.seq ?_
  refine SC.block ?_
  refine SC.seq (SC.region ?_)
  refine SL.val (Val.move rfl) rfl rfl ?_
  refine SL.val (Val.ltI rfl rfl) rfl rfl ?_
  refine SL.val (Val.move rfl) rfl rfl ?_
  refine SL.bothP (t := 8) rfl ?_ ?_
  · intro hc8
    iterate 2 refine SL.skip rfl rfl ?_
    refine SL.val (Val.pickT rfl rfl) rfl rfl ?_
    refine SL.val (Val.assign rfl) rfl rfl ?_
    refine SL.nil (SE.seq ?_)
    refine SC.condT rfl ?_
    refine SC.seq (SC.region ?_)
    refine SL.val (Val.assign rfl) rfl rfl ?_
    refine SL.nil (SE.seq ?_)
    refine SC.ret ?_
    refine SE.ret ?_
    refine SE.then_ (by intro h; cases h) ?_
    refine SE.ret1 rfl rfl ?_
    intro w' hw'
    refine ⟨?_, hw'.sub (fun _ h => h) (List.sublist_cons_self _ _)⟩
    congr 2
    unfold Core.check
    repeat' split
    all_goals first | rfl | omega | simp_all
  intro hc8
  refine SL.val (Val.move rfl) rfl rfl ?_
  refine SL.val (Val.gtI rfl rfl) rfl rfl ?_
  refine SL.val (Val.pickF rfl rfl) rfl rfl ?_
  refine SL.val (Val.assign rfl) rfl rfl ?_
  refine SL.nil (SE.seq ?_)
  refine SC.condP rfl ?_ ?_
  · intro hc5
    refine SC.seq (SC.region ?_)
    refine SL.val (Val.assign rfl) rfl rfl ?_
    refine SL.nil (SE.seq ?_)
    refine SC.ret ?_
    refine SE.ret ?_
    refine SE.then_ (by intro h; cases h) ?_
    refine SE.ret1 rfl rfl ?_
    intro w' hw'
    refine ⟨?_, hw'.sub (fun _ h => h) (List.sublist_cons_self _ _)⟩
    congr 2
    unfold Core.check
    repeat' split
    all_goals first | rfl | omega | simp_all
  intro hc5
  refine SC.seq (SC.region ?_)
  refine SL.val (Val.fieldAddr tabOk rfl rfl rfl rfl rfl) rfl rfl ?_
  first
    | refine SL.val (Val.load1 tabOk rfl rfl (by repeat (first | assumption | exact List.mem_cons_self | exact hmem _ | apply List.mem_cons_of_mem)) (by rfl)) rfl rfl ?_
    | refine SL.val (Val.load1C tabOk rfl rfl (by assumption)) rfl rfl ?_
  refine SL.val (Val.move rfl) rfl rfl ?_
  refine SL.val (Val.ltI rfl rfl) rfl rfl ?_
  refine SL.val (Val.move rfl) rfl rfl ?_
  refine SL.bothP (t := 17) rfl ?_ ?_
  · intro hc17
    iterate 5 refine SL.skip rfl rfl ?_
    refine SL.val (Val.pickT rfl rfl) rfl rfl ?_
    refine SL.val (Val.assign rfl) rfl rfl ?_
    refine SL.nil (SE.seq ?_)
    refine SC.condT rfl ?_
    refine SC.seq (SC.region ?_)
    refine SL.val (Val.assign rfl) rfl rfl ?_
    refine SL.nil (SE.seq ?_)
    refine SC.ret ?_
    refine SE.ret ?_
    refine SE.then_ (by intro h; cases h) ?_
    refine SE.ret1 rfl rfl ?_
    intro w' hw'
    refine ⟨?_, hw'.sub (fun _ h => h) (List.sublist_cons_self _ _)⟩
    congr 2
    unfold Core.check
    repeat' split
    all_goals first | rfl | omega | simp_all
  intro hc17
  refine SL.val (Val.fieldAddr tabOk rfl rfl rfl rfl rfl) rfl rfl ?_
  first
    | refine SL.val (Val.load1 tabOk rfl rfl (by repeat (first | assumption | exact List.mem_cons_self | exact hmem _ | apply List.mem_cons_of_mem)) (by rfl)) rfl rfl ?_
    | refine SL.val (Val.load1C tabOk rfl rfl (by assumption)) rfl rfl ?_
  refine SL.val (Val.move rfl) rfl rfl ?_
  first
    | refine SL.val (Val.addI rfl rfl (by simp only [InR, lo, hi]; omega)) rfl rfl ?_
    | refine SL.val (Val.addW rfl rfl) rfl rfl ?_
  refine SL.val (Val.geI rfl rfl) rfl rfl ?_
  refine SL.val (Val.pickF rfl rfl) rfl rfl ?_
  refine SL.val (Val.assign rfl) rfl rfl ?_
  refine SL.nil (SE.seq ?_)
  refine SC.condP rfl ?_ ?_
  · intro hc12
    refine SC.seq (SC.region ?_)
    refine SL.val (Val.assign rfl) rfl rfl ?_
    refine SL.nil (SE.seq ?_)
    refine SC.ret ?_
    refine SE.ret ?_
    refine SE.then_ (by intro h; cases h) ?_
    refine SE.ret1 rfl rfl ?_
    intro w' hw'
    refine ⟨?_, hw'.sub (fun _ h => h) (List.sublist_cons_self _ _)⟩
    congr 2
    unfold Core.check
    repeat' split
    all_goals first | rfl | omega | simp_all
  intro hc12
  refine SC.seq (SC.region ?_)
  refine SL.val (Val.fieldAddr tabOk rfl rfl rfl rfl rfl) rfl rfl ?_
  first
    | refine SL.val (Val.load1 tabOk rfl rfl (by repeat (first | assumption | exact List.mem_cons_self | exact hmem _ | apply List.mem_cons_of_mem)) (by rfl)) rfl rfl ?_
    | refine SL.val (Val.load1C tabOk rfl rfl (by assumption)) rfl rfl ?_
  refine SL.val (Val.ltI rfl rfl) rfl rfl ?_
  refine SL.val (Val.move rfl) rfl rfl ?_
  refine SL.bothP (t := 28) rfl ?_ ?_
  · intro hc28
    iterate 3 refine SL.skip rfl rfl ?_
    refine SL.val (Val.pickT rfl rfl) rfl rfl ?_
    refine SL.val (Val.move rfl) rfl rfl ?_
    iterate 3 refine SL.skip rfl rfl ?_
    refine SL.val (Val.pickT rfl rfl) rfl rfl ?_
    refine SL.val (Val.move rfl) rfl rfl ?_
    iterate 3 refine SL.skip rfl rfl ?_
    refine SL.val (Val.pickT rfl rfl) rfl rfl ?_
    refine SL.val (Val.assign rfl) rfl rfl ?_
    refine SL.nil (SE.seq ?_)
    refine SC.condT rfl ?_
    refine SC.seq (SC.region ?_)
    refine SL.val (Val.assign rfl) rfl rfl ?_
    refine SL.nil (SE.seq ?_)
    refine SC.ret ?_
    refine SE.ret ?_
    refine SE.then_ (by intro h; cases h) ?_
    refine SE.ret1 rfl rfl ?_
    intro w' hw'
    refine ⟨?_, hw'.sub (fun _ h => h) (List.sublist_cons_self _ _)⟩
    congr 2
    unfold Core.check
    repeat' split
    all_goals first | rfl | omega | simp_all
  intro hc28
  refine SL.val (Val.fieldAddr tabOk rfl rfl rfl rfl rfl) rfl rfl ?_
  first
    | refine SL.val (Val.load1 tabOk rfl rfl (by repeat (first | assumption | exact List.mem_cons_self | exact hmem _ | apply List.mem_cons_of_mem)) (by rfl)) rfl rfl ?_
    | refine SL.val (Val.load1C tabOk rfl rfl (by assumption)) rfl rfl ?_
  refine SL.val (Val.gtI rfl rfl) rfl rfl ?_
  refine SL.val (Val.pickF rfl rfl) rfl rfl ?_
  refine SL.val (Val.move rfl) rfl rfl ?_
  refine SL.bothP (t := 33) rfl ?_ ?_
  · intro hc33
    iterate 3 refine SL.skip rfl rfl ?_
    refine SL.val (Val.pickT rfl rfl) rfl rfl ?_
    refine SL.val (Val.move rfl) rfl rfl ?_
    iterate 3 refine SL.skip rfl rfl ?_
    refine SL.val (Val.pickT rfl rfl) rfl rfl ?_
    refine SL.val (Val.assign rfl) rfl rfl ?_
    refine SL.nil (SE.seq ?_)
    refine SC.condT rfl ?_
    refine SC.seq (SC.region ?_)
    refine SL.val (Val.assign rfl) rfl rfl ?_
    refine SL.nil (SE.seq ?_)
    refine SC.ret ?_
    refine SE.ret ?_
    refine SE.then_ (by intro h; cases h) ?_
    refine SE.ret1 rfl rfl ?_
    intro w' hw'
    refine ⟨?_, hw'.sub (fun _ h => h) (List.sublist_cons_self _ _)⟩
    congr 2
    unfold Core.check
    repeat' split
    all_goals first | rfl | omega | simp_all
  intro hc33
  refine SL.val (Val.fieldAddr tabOk rfl rfl rfl rfl rfl) rfl rfl ?_
  first
    | refine SL.val (Val.load1 tabOk rfl rfl (by repeat (first | assumption | exact List.mem_cons_self | exact hmem _ | apply List.mem_cons_of_mem)) (by rfl)) rfl rfl ?_
    | refine SL.val (Val.load1C tabOk rfl rfl (by assumption)) rfl rfl ?_
  refine SL.val (Val.ltI rfl rfl) rfl rfl ?_
  refine SL.val (Val.pickF rfl rfl) rfl rfl ?_
  refine SL.val (Val.move rfl) rfl rfl ?_
  refine SL.bothP (t := 38) rfl ?_ ?_
  · intro hc38
    iterate 3 refine SL.skip rfl rfl ?_
    refine SL.val (Val.pickT rfl rfl) rfl rfl ?_
    refine SL.val (Val.assign rfl) rfl rfl ?_
    refine SL.nil (SE.seq ?_)
    refine SC.condT rfl ?_
    refine SC.seq (SC.region ?_)
    refine SL.val (Val.assign rfl) rfl rfl ?_
    refine SL.nil (SE.seq ?_)
    refine SC.ret ?_
    refine SE.ret ?_
    refine SE.then_ (by intro h; cases h) ?_
    refine SE.ret1 rfl rfl ?_
    intro w' hw'
    refine ⟨?_, hw'.sub (fun _ h => h) (List.sublist_cons_self _ _)⟩
    congr 2
    unfold Core.check
    repeat' split
    all_goals first | rfl | omega | simp_all
  intro hc38
  refine SL.val (Val.fieldAddr tabOk rfl rfl rfl rfl rfl) rfl rfl ?_
  first
    | refine SL.val (Val.load1 tabOk rfl rfl (by repeat (first | assumption | exact List.mem_cons_self | exact hmem _ | apply List.mem_cons_of_mem)) (by rfl)) rfl rfl ?_
    | refine SL.val (Val.load1C tabOk rfl rfl (by assumption)) rfl rfl ?_
  refine SL.val (Val.gtI rfl rfl) rfl rfl ?_
  refine SL.val (Val.pickF rfl rfl) rfl rfl ?_
  refine SL.val (Val.assign rfl) rfl rfl ?_
  refine SL.nil (SE.seq ?_)
  refine SC.condP rfl ?_ ?_
  · intro hc24
    refine SC.seq (SC.region ?_)
    refine SL.val (Val.assign rfl) rfl rfl ?_
    refine SL.nil (SE.seq ?_)
    refine SC.ret ?_
    refine SE.ret ?_
    refine SE.then_ (by intro h; cases h) ?_
    refine SE.ret1 rfl rfl ?_
    intro w' hw'
    refine ⟨?_, hw'.sub (fun _ h => h) (List.sublist_cons_self _ _)⟩
    congr 2
    unfold Core.check
    repeat' split
    all_goals first | rfl | omega | simp_all
  intro hc24
  refine SC.seq (SC.region ?_)
  refine SL.val (Val.fieldAddr tabOk rfl rfl rfl rfl rfl) rfl rfl ?_
  first
    | refine SL.val (Val.load1 tabOk rfl rfl (by repeat (first | assumption | exact List.mem_cons_self | exact hmem _ | apply List.mem_cons_of_mem)) (by rfl)) rfl rfl ?_
    | refine SL.val (Val.load1C tabOk rfl rfl (by assumption)) rfl rfl ?_
  refine SL.call (by kernel_rfl) rfl rfl rfl ?_
  intro w hw
  refine (isName_c hw).mono ?_; rintro _ _ ⟨rfl, hm⟩; refine ⟨_, _, rfl, hm, ?_⟩; clear hm hw w
  refine SL.val (Val.notB rfl) rfl rfl ?_
  refine SL.val (Val.assign rfl) rfl rfl ?_
  refine SL.nil (SE.seq ?_)
  refine SC.cond rfl ?_ ?_
  · intro hc43
    refine SC.seq (SC.region ?_)
    refine SL.val (Val.assign rfl) rfl rfl ?_
    refine SL.nil (SE.seq ?_)
    refine SC.ret ?_
    refine SE.ret ?_
    refine SE.then_ (by intro h; cases h) ?_
    refine SE.ret1 rfl rfl ?_
    intro w' hw'
    refine ⟨?_, hw'.sub (fun _ h => h) (List.sublist_cons_self _ _)⟩
    congr 2
    unfold Core.check
    repeat' split
    all_goals first | rfl | omega | simp_all
  intro hc43
  refine SC.seq (SC.region ?_)
  refine SL.val (Val.fieldAddr tabOk rfl rfl rfl rfl rfl) rfl rfl ?_
  first
    | refine SL.val (Val.load1 tabOk rfl rfl (by repeat (first | assumption | exact List.mem_cons_self | exact hmem _ | apply List.mem_cons_of_mem)) (by rfl)) rfl rfl ?_
    | refine SL.val (Val.load1C tabOk rfl rfl (by assumption)) rfl rfl ?_
  refine SL.val (Val.lenSt rfl Try.underlying9) rfl rfl ?_
  refine SL.val (Val.gtI rfl rfl) rfl rfl ?_
  refine SL.val (Val.assign rfl) rfl rfl ?_
  refine SL.nil (SE.seq ?_)
  refine SC.condP rfl ?_ ?_
  · intro hc48
    refine SC.seq (SC.region ?_)
    refine SL.val (Val.assign rfl) rfl rfl ?_
    refine SL.nil (SE.seq ?_)
    refine SC.ret ?_
    refine SE.ret ?_
    refine SE.then_ (by intro h; cases h) ?_
    refine SE.ret1 rfl rfl ?_
    intro w' hw'
    refine ⟨?_, hw'.sub (fun _ h => h) (List.sublist_cons_self _ _)⟩
    congr 2
    unfold Core.check
    repeat' split
    all_goals first | rfl | omega | simp_all
  intro hc48
  refine SC.skip ?_
  refine SE.inBlock ?_
  refine SE.seq ?_
  refine SC.seq (SC.region ?_)
  refine SL.val (Val.assign rfl) rfl rfl ?_
  refine SL.nil (SE.seq ?_)
  refine SC.ret ?_
  refine SE.ret1 rfl rfl ?_
  intro w' hw'
  refine ⟨?_, hw'.sub (fun _ h => h) (List.sublist_cons_self _ _)⟩
  congr 2
  unfold Core.check
  repeat' split
  all_goals first | rfl | omega | simp_all

set_option maxHeartbeats 400000 in
theorem rcheck_c {c : Core} {n : Int} (hw : Mem S σ ρ w) (hs : c.letter.size ≤ lots) : Calls Try.prog 33 #[.agg c.cells.toArray, .int .i64 n] w fun e w' => e = .returned (.int .i64 (c.check n)) ∧ Mem S σ ρ w' := by
  refine calls_of [.agg c.cells.toArray, .int .i64 n] Try.func33 rfl Try.ntmps33 rfl (Mem S σ ρ) hw ?_
  refine SC.seq (SC.region ?_)
  refine SL.eff (Eff.boxA rfl) rfl rfl ?_
  rintro _ _ ⟨b2, rfl, rfl⟩
  refine SL.val (Val.assign rfl) rfl rfl ?_
  refine SL.nil (SE.seq ?_)
  refine SC.seq ?_
  refine SC.block ?_
  refine SC.seq (SC.region ?_)
  refine SL.val (Val.move rfl) rfl rfl ?_
  refine SL.val (Val.ltI rfl rfl) rfl rfl ?_
  refine SL.val (Val.move rfl) rfl rfl ?_
  refine SL.bothP (t := 8) rfl ?_ ?_
  · intro hc8
    iterate 2 refine SL.skip rfl rfl ?_
    refine SL.val (Val.pickT rfl rfl) rfl rfl ?_
    refine SL.val (Val.assign rfl) rfl rfl ?_
    refine SL.nil (SE.seq ?_)
    refine SC.condT rfl ?_
    refine SC.seq (SC.region ?_)
    refine SL.val (Val.assign rfl) rfl rfl ?_
    refine SL.nil (SE.seq ?_)
    refine SC.ret ?_
    refine SE.ret ?_
    refine SE.then_ (by intro h; cases h) ?_
    refine SE.ret1 rfl rfl ?_
    intro w' hw'
    refine ⟨?_, hw'.sub (fun _ h => h) (List.sublist_cons_self _ _)⟩
    congr 2
    unfold Core.check
    repeat' split
    all_goals first | rfl | omega | simp_all
  intro hc8
  refine SL.val (Val.move rfl) rfl rfl ?_
  refine SL.val (Val.gtI rfl rfl) rfl rfl ?_
  refine SL.val (Val.pickF rfl rfl) rfl rfl ?_
  refine SL.val (Val.assign rfl) rfl rfl ?_
  refine SL.nil (SE.seq ?_)
  refine SC.condP rfl ?_ ?_
  · intro hc5
    refine SC.seq (SC.region ?_)
    refine SL.val (Val.assign rfl) rfl rfl ?_
    refine SL.nil (SE.seq ?_)
    refine SC.ret ?_
    refine SE.ret ?_
    refine SE.then_ (by intro h; cases h) ?_
    refine SE.ret1 rfl rfl ?_
    intro w' hw'
    refine ⟨?_, hw'.sub (fun _ h => h) (List.sublist_cons_self _ _)⟩
    congr 2
    unfold Core.check
    repeat' split
    all_goals first | rfl | omega | simp_all
  intro hc5
  refine SC.seq (SC.region ?_)
  refine SL.val (Val.fieldAddr tabOk rfl rfl rfl rfl rfl) rfl rfl ?_
  first
    | refine SL.val (Val.load1 tabOk rfl rfl (by repeat (first | assumption | exact List.mem_cons_self | exact hmem _ | apply List.mem_cons_of_mem)) (by rfl)) rfl rfl ?_
    | refine SL.val (Val.load1C tabOk rfl rfl (by assumption)) rfl rfl ?_
  refine SL.val (Val.move rfl) rfl rfl ?_
  refine SL.val (Val.ltI rfl rfl) rfl rfl ?_
  refine SL.val (Val.move rfl) rfl rfl ?_
  refine SL.bothP (t := 17) rfl ?_ ?_
  · intro hc17
    iterate 5 refine SL.skip rfl rfl ?_
    refine SL.val (Val.pickT rfl rfl) rfl rfl ?_
    refine SL.val (Val.assign rfl) rfl rfl ?_
    refine SL.nil (SE.seq ?_)
    refine SC.condT rfl ?_
    refine SC.seq (SC.region ?_)
    refine SL.val (Val.assign rfl) rfl rfl ?_
    refine SL.nil (SE.seq ?_)
    refine SC.ret ?_
    refine SE.ret ?_
    refine SE.then_ (by intro h; cases h) ?_
    refine SE.ret1 rfl rfl ?_
    intro w' hw'
    refine ⟨?_, hw'.sub (fun _ h => h) (List.sublist_cons_self _ _)⟩
    congr 2
    unfold Core.check
    repeat' split
    all_goals first | rfl | omega | simp_all
  intro hc17
  refine SL.val (Val.fieldAddr tabOk rfl rfl rfl rfl rfl) rfl rfl ?_
  first
    | refine SL.val (Val.load1 tabOk rfl rfl (by repeat (first | assumption | exact List.mem_cons_self | exact hmem _ | apply List.mem_cons_of_mem)) (by rfl)) rfl rfl ?_
    | refine SL.val (Val.load1C tabOk rfl rfl (by assumption)) rfl rfl ?_
  refine SL.val (Val.move rfl) rfl rfl ?_
  first
    | refine SL.val (Val.addI rfl rfl (by simp only [InR, lo, hi]; omega)) rfl rfl ?_
    | refine SL.val (Val.addW rfl rfl) rfl rfl ?_
  refine SL.val (Val.gtI rfl rfl) rfl rfl ?_
  refine SL.val (Val.pickF rfl rfl) rfl rfl ?_
  refine SL.val (Val.assign rfl) rfl rfl ?_
  refine SL.nil (SE.seq ?_)
  refine SC.condP rfl ?_ ?_
  · intro hc12
    refine SC.seq (SC.region ?_)
    refine SL.val (Val.assign rfl) rfl rfl ?_
    refine SL.nil (SE.seq ?_)
    refine SC.ret ?_
    refine SE.ret ?_
    refine SE.then_ (by intro h; cases h) ?_
    refine SE.ret1 rfl rfl ?_
    intro w' hw'
    refine ⟨?_, hw'.sub (fun _ h => h) (List.sublist_cons_self _ _)⟩
    congr 2
    unfold Core.check
    repeat' split
    all_goals first | rfl | omega | simp_all
  intro hc12
  refine SC.seq (SC.region ?_)
  refine SL.val (Val.fieldAddr tabOk rfl rfl rfl rfl rfl) rfl rfl ?_
  first
    | refine SL.val (Val.load1 tabOk rfl rfl (by repeat (first | assumption | exact List.mem_cons_self | exact hmem _ | apply List.mem_cons_of_mem)) (by rfl)) rfl rfl ?_
    | refine SL.val (Val.load1C tabOk rfl rfl (by assumption)) rfl rfl ?_
  refine SL.val (Val.ltI rfl rfl) rfl rfl ?_
  refine SL.val (Val.move rfl) rfl rfl ?_
  refine SL.bothP (t := 28) rfl ?_ ?_
  · intro hc28
    iterate 3 refine SL.skip rfl rfl ?_
    refine SL.val (Val.pickT rfl rfl) rfl rfl ?_
    refine SL.val (Val.move rfl) rfl rfl ?_
    iterate 3 refine SL.skip rfl rfl ?_
    refine SL.val (Val.pickT rfl rfl) rfl rfl ?_
    refine SL.val (Val.move rfl) rfl rfl ?_
    iterate 3 refine SL.skip rfl rfl ?_
    refine SL.val (Val.pickT rfl rfl) rfl rfl ?_
    refine SL.val (Val.assign rfl) rfl rfl ?_
    refine SL.nil (SE.seq ?_)
    refine SC.condT rfl ?_
    refine SC.seq (SC.region ?_)
    refine SL.val (Val.assign rfl) rfl rfl ?_
    refine SL.nil (SE.seq ?_)
    refine SC.ret ?_
    refine SE.ret ?_
    refine SE.then_ (by intro h; cases h) ?_
    refine SE.ret1 rfl rfl ?_
    intro w' hw'
    refine ⟨?_, hw'.sub (fun _ h => h) (List.sublist_cons_self _ _)⟩
    congr 2
    unfold Core.check
    repeat' split
    all_goals first | rfl | omega | simp_all
  intro hc28
  refine SL.val (Val.fieldAddr tabOk rfl rfl rfl rfl rfl) rfl rfl ?_
  first
    | refine SL.val (Val.load1 tabOk rfl rfl (by repeat (first | assumption | exact List.mem_cons_self | exact hmem _ | apply List.mem_cons_of_mem)) (by rfl)) rfl rfl ?_
    | refine SL.val (Val.load1C tabOk rfl rfl (by assumption)) rfl rfl ?_
  refine SL.val (Val.gtI rfl rfl) rfl rfl ?_
  refine SL.val (Val.pickF rfl rfl) rfl rfl ?_
  refine SL.val (Val.move rfl) rfl rfl ?_
  refine SL.bothP (t := 33) rfl ?_ ?_
  · intro hc33
    iterate 3 refine SL.skip rfl rfl ?_
    refine SL.val (Val.pickT rfl rfl) rfl rfl ?_
    refine SL.val (Val.move rfl) rfl rfl ?_
    iterate 3 refine SL.skip rfl rfl ?_
    refine SL.val (Val.pickT rfl rfl) rfl rfl ?_
    refine SL.val (Val.assign rfl) rfl rfl ?_
    refine SL.nil (SE.seq ?_)
    refine SC.condT rfl ?_
    refine SC.seq (SC.region ?_)
    refine SL.val (Val.assign rfl) rfl rfl ?_
    refine SL.nil (SE.seq ?_)
    refine SC.ret ?_
    refine SE.ret ?_
    refine SE.then_ (by intro h; cases h) ?_
    refine SE.ret1 rfl rfl ?_
    intro w' hw'
    refine ⟨?_, hw'.sub (fun _ h => h) (List.sublist_cons_self _ _)⟩
    congr 2
    unfold Core.check
    repeat' split
    all_goals first | rfl | omega | simp_all
  intro hc33
  refine SL.val (Val.fieldAddr tabOk rfl rfl rfl rfl rfl) rfl rfl ?_
  first
    | refine SL.val (Val.load1 tabOk rfl rfl (by repeat (first | assumption | exact List.mem_cons_self | exact hmem _ | apply List.mem_cons_of_mem)) (by rfl)) rfl rfl ?_
    | refine SL.val (Val.load1C tabOk rfl rfl (by assumption)) rfl rfl ?_
  refine SL.val (Val.ltI rfl rfl) rfl rfl ?_
  refine SL.val (Val.pickF rfl rfl) rfl rfl ?_
  refine SL.val (Val.move rfl) rfl rfl ?_
  refine SL.bothP (t := 38) rfl ?_ ?_
  · intro hc38
    iterate 3 refine SL.skip rfl rfl ?_
    refine SL.val (Val.pickT rfl rfl) rfl rfl ?_
    refine SL.val (Val.assign rfl) rfl rfl ?_
    refine SL.nil (SE.seq ?_)
    refine SC.condT rfl ?_
    refine SC.seq (SC.region ?_)
    refine SL.val (Val.assign rfl) rfl rfl ?_
    refine SL.nil (SE.seq ?_)
    refine SC.ret ?_
    refine SE.ret ?_
    refine SE.then_ (by intro h; cases h) ?_
    refine SE.ret1 rfl rfl ?_
    intro w' hw'
    refine ⟨?_, hw'.sub (fun _ h => h) (List.sublist_cons_self _ _)⟩
    congr 2
    unfold Core.check
    repeat' split
    all_goals first | rfl | omega | simp_all
  intro hc38
  refine SL.val (Val.fieldAddr tabOk rfl rfl rfl rfl rfl) rfl rfl ?_
  first
    | refine SL.val (Val.load1 tabOk rfl rfl (by repeat (first | assumption | exact List.mem_cons_self | exact hmem _ | apply List.mem_cons_of_mem)) (by rfl)) rfl rfl ?_
    | refine SL.val (Val.load1C tabOk rfl rfl (by assumption)) rfl rfl ?_
  refine SL.val (Val.gtI rfl rfl) rfl rfl ?_
  refine SL.val (Val.pickF rfl rfl) rfl rfl ?_
  refine SL.val (Val.assign rfl) rfl rfl ?_
  refine SL.nil (SE.seq ?_)
  refine SC.condP rfl ?_ ?_
  · intro hc24
    refine SC.seq (SC.region ?_)
    refine SL.val (Val.assign rfl) rfl rfl ?_
    refine SL.nil (SE.seq ?_)
    refine SC.ret ?_
    refine SE.ret ?_
    refine SE.then_ (by intro h; cases h) ?_
    refine SE.ret1 rfl rfl ?_
    intro w' hw'
    refine ⟨?_, hw'.sub (fun _ h => h) (List.sublist_cons_self _ _)⟩
    congr 2
    unfold Core.check
    repeat' split
    all_goals first | rfl | omega | simp_all
  intro hc24
  refine SC.seq (SC.region ?_)
  refine SL.val (Val.fieldAddr tabOk rfl rfl rfl rfl rfl) rfl rfl ?_
  first
    | refine SL.val (Val.load1 tabOk rfl rfl (by repeat (first | assumption | exact List.mem_cons_self | exact hmem _ | apply List.mem_cons_of_mem)) (by rfl)) rfl rfl ?_
    | refine SL.val (Val.load1C tabOk rfl rfl (by assumption)) rfl rfl ?_
  refine SL.call (by kernel_rfl) rfl rfl rfl ?_
  intro w hw
  refine (risName_c hw hs).mono ?_; rintro _ _ ⟨rfl, hm⟩; refine ⟨_, _, rfl, hm, ?_⟩; clear hm hw w
  refine SL.val (Val.notB rfl) rfl rfl ?_
  refine SL.val (Val.assign rfl) rfl rfl ?_
  refine SL.nil (SE.seq ?_)
  refine SC.cond rfl ?_ ?_
  · intro hc43
    refine SC.seq (SC.region ?_)
    refine SL.val (Val.assign rfl) rfl rfl ?_
    refine SL.nil (SE.seq ?_)
    refine SC.ret ?_
    refine SE.ret ?_
    refine SE.then_ (by intro h; cases h) ?_
    refine SE.ret1 rfl rfl ?_
    intro w' hw'
    refine ⟨?_, hw'.sub (fun _ h => h) (List.sublist_cons_self _ _)⟩
    congr 2
    unfold Core.check
    repeat' split
    all_goals first | rfl | omega | simp_all
  intro hc43
  refine SC.seq (SC.region ?_)
  refine SL.val (Val.fieldAddr tabOk rfl rfl rfl rfl rfl) rfl rfl ?_
  first
    | refine SL.val (Val.load1 tabOk rfl rfl (by repeat (first | assumption | exact List.mem_cons_self | exact hmem _ | apply List.mem_cons_of_mem)) (by rfl)) rfl rfl ?_
    | refine SL.val (Val.load1C tabOk rfl rfl (by assumption)) rfl rfl ?_
  refine SL.val (Val.lenSt rfl Try.underlying9) rfl rfl ?_
  refine SL.val (Val.gtI rfl rfl) rfl rfl ?_
  refine SL.val (Val.assign rfl) rfl rfl ?_
  refine SL.nil (SE.seq ?_)
  refine SC.condP rfl ?_ ?_
  · intro hc48
    refine SC.seq (SC.region ?_)
    refine SL.val (Val.assign rfl) rfl rfl ?_
    refine SL.nil (SE.seq ?_)
    refine SC.ret ?_
    refine SE.ret ?_
    refine SE.then_ (by intro h; cases h) ?_
    refine SE.ret1 rfl rfl ?_
    intro w' hw'
    refine ⟨?_, hw'.sub (fun _ h => h) (List.sublist_cons_self _ _)⟩
    congr 2
    unfold Core.check
    repeat' split
    all_goals first | rfl | omega | simp_all
  intro hc48
  refine SC.skip ?_
  refine SE.inBlock ?_
  refine SE.seq ?_
  refine SC.seq (SC.region ?_)
  refine SL.val (Val.assign rfl) rfl rfl ?_
  refine SL.nil (SE.seq ?_)
  refine SC.ret ?_
  refine SE.ret1 rfl rfl ?_
  intro w' hw'
  refine ⟨?_, hw'.sub (fun _ h => h) (List.sublist_cons_self _ _)⟩
  congr 2
  unfold Core.check
  repeat' split
  all_goals first | rfl | omega | simp_all

set_option maxHeartbeats 1000000 in
theorem coreBytes_c {c : Core} (hw : Mem S σ ρ w) (h1 : c.letter.size ≤ 1000000) (h2 : c.text.size ≤ 1000000) : Calls Try.prog 44 #[.agg c.cells.toArray] w fun e w' => ∃ r, e = .returned r ∧ Mem S σ (bytesD r c.bytes :: ρ) w' := by
  have h3 : c.letter.size ≤ lots := by unfold lots; omega
  have h4 : c.text.size ≤ lots := by unfold lots; omega
  have hL : c.letter.data.toList.length ≤ 1000000 := h1
  have hT : c.text.data.toList.length ≤ 1000000 := h2
  refine calls_of [.agg c.cells.toArray] Try.func44 rfl Try.ntmps44 rfl (Mem S σ ρ) hw ?_
  refine SC.seq (SC.region ?_)
  refine SL.eff (Eff.boxA rfl) rfl rfl ?_
  rintro _ _ ⟨b1, rfl, rfl⟩
  refine SL.val (Val.assign rfl) rfl rfl ?_
  refine SL.nil (SE.seq ?_)
  refine SC.seq (SC.region ?_)
  refine SL.val (Val.fieldAddr tabOk rfl rfl rfl rfl rfl) rfl rfl ?_
  first
    | refine SL.val (Val.load1 tabOk rfl rfl (by repeat (first | assumption | exact List.mem_cons_self | exact hmem _ | apply List.mem_cons_of_mem)) (by rfl)) rfl rfl ?_
    | refine SL.val (Val.load1C tabOk rfl rfl (by assumption)) rfl rfl ?_
  first
    | refine SL.val (Val.convI rfl Try.underlying105 (by kernel_rfl) (by simp only [InR, lo, hi]; omega)) rfl rfl ?_
    | refine SL.val (Val.convU rfl Try.underlying105 (by kernel_rfl)) rfl rfl ?_
  refine SL.call (by kernel_rfl) rfl rfl rfl ?_
  intro w hw
  refine (put_c (l := []) (x := u64 c.client) (n := 1) hw (BytesV.nil _) (by first | exact Nat.zero_le _ | (simp only [List.length_append, beBytes_length, List.length_nil]; unfold lots; omega)) (u64_lt _) rfl).mono ?_; rintro _ _ ⟨r, rfl, hm⟩; refine ⟨_, _, rfl, hm, ?_⟩; clear hm hw w
  refine SL.val (Val.assign rfl) rfl rfl ?_
  refine SL.nil (SE.seq ?_)
  refine SC.seq (SC.region ?_)
  refine SL.val (Val.move rfl) rfl rfl ?_
  refine SL.val (Val.fieldAddr tabOk rfl rfl rfl rfl rfl) rfl rfl ?_
  first
    | refine SL.val (Val.load1 tabOk rfl rfl (by repeat (first | assumption | exact List.mem_cons_self | exact hmem _ | apply List.mem_cons_of_mem)) (by rfl)) rfl rfl ?_
    | refine SL.val (Val.load1C tabOk rfl rfl (by assumption)) rfl rfl ?_
  first
    | refine SL.val (Val.convI rfl Try.underlying105 (by kernel_rfl) (by simp only [InR, lo, hi]; omega)) rfl rfl ?_
    | refine SL.val (Val.convU rfl Try.underlying105 (by kernel_rfl)) rfl rfl ?_
  refine SL.call (by kernel_rfl) rfl rfl rfl ?_
  intro w hw
  refine (put_c (l := ([] ++ beBytes (u64 c.client) (Int.toNat 1))) (x := u64 c.stamp) (n := 8) hw (hw.bytes (by repeat (first | assumption | exact List.mem_cons_self | exact hmem _ | apply List.mem_cons_of_mem))) (by first | exact Nat.zero_le _ | (simp only [List.length_append, beBytes_length, List.length_nil]; unfold lots; omega)) (u64_lt _) rfl).mono ?_; rintro _ _ ⟨r, rfl, hm⟩; refine ⟨_, _, rfl, hm, ?_⟩; clear hm hw w
  refine SL.val (Val.assign rfl) rfl rfl ?_
  refine SL.nil (SE.seq ?_)
  refine SC.seq ?_
  refine SC.draw _ (.q 0 (.q 1 (.q 2 (.q 3 (.q 5 (.q 6 (.two 4 7 (.e 7 (.e 8 (.q 9 .nil))) (.e 4 (.e 8 (.q 9 .nil)))))))))) (by kernel_rfl) (by kernel_rfl) (fun _ h => h) (fun _ h => h.drew) ?_
  refine SX.val rfl (Val.move rfl) rfl rfl ?_
  refine SX.val rfl (Val.fieldAddr tabOk rfl rfl rfl rfl rfl) rfl rfl ?_
  first
    | refine SX.val rfl (Val.load1 tabOk rfl rfl (by repeat (first | assumption | exact List.mem_cons_self | exact hmem _ | apply List.mem_cons_of_mem)) (by rfl)) rfl rfl ?_
    | refine SX.val rfl (Val.load1C tabOk rfl rfl (by assumption)) rfl rfl ?_
  first
    | refine SX.val rfl (Val.convI rfl Try.underlying105 (by kernel_rfl) (by simp only [InR, lo, hi]; omega)) rfl rfl ?_
    | refine SX.val rfl (Val.convU rfl Try.underlying105 (by kernel_rfl)) rfl rfl ?_
  refine SX.val rfl (Val.fieldAddr tabOk rfl rfl rfl rfl rfl) rfl rfl ?_
  first
    | refine SX.val rfl (Val.load1 tabOk rfl rfl (by repeat (first | assumption | exact List.mem_cons_self | exact hmem _ | apply List.mem_cons_of_mem)) (by rfl)) rfl rfl ?_
    | refine SX.val rfl (Val.load1C tabOk rfl rfl (by assumption)) rfl rfl ?_
  refine SX.two ?_ ?_
  · skip
    refine SX.call rfl (by kernel_rfl) rfl rfl rfl ?_
    intro w hw
    refine (put_c (l := (([] ++ beBytes (u64 c.client) (Int.toNat 1)) ++ beBytes (u64 c.stamp) (Int.toNat 8))) (x := u64 c.op) (n := 1) hw (hw.bytes (by repeat (first | assumption | exact List.mem_cons_self | exact hmem _ | apply List.mem_cons_of_mem))) (by first | exact Nat.zero_le _ | (simp only [List.length_append, beBytes_length, List.length_nil]; unfold lots; omega)) (u64_lt _) rfl).mono ?_; rintro _ _ ⟨r, rfl, hm⟩; refine ⟨_, _, rfl, hm, _, fun _ h => h.less (fun _ hx => List.mem_cons_of_mem _ hx), fun _ h => h, ?_⟩; clear hm hw w
    refine SX.eff rfl (Eff.strBytes rfl Try.underlying9 Try.underlying37 (by first | assumption | omega)) rfl rfl ?_
    rintro sb22 _ rfl
    refine ⟨_, fun _ h => h.less (fun _ hx => List.mem_cons_of_mem _ hx), fun _ h => h, ?_⟩
    refine SX.call rfl (by kernel_rfl) rfl rfl rfl ?_
    intro w hw
    refine (oct_Row (l := ((([] ++ beBytes (u64 c.client) (Int.toNat 1)) ++ beBytes (u64 c.stamp) (Int.toNat 8)) ++ beBytes (u64 c.op) (Int.toNat 1))) (m := c.letter.data.toList) hw (by repeat (first | assumption | exact List.mem_cons_self | exact hmem _ | apply List.mem_cons_of_mem)) (by repeat (first | assumption | exact List.mem_cons_self | exact hmem _ | apply List.mem_cons_of_mem)) (by simp only [List.length_append, beBytes_length, List.length_nil]; unfold lots; omega) (by omega)).mono ?_; rintro _ _ ⟨r, rfl, hm⟩; refine ⟨_, _, rfl, hm, _, fun _ h => h.less (fun _ hx => List.mem_cons_of_mem _ hx), fun _ h => h, ?_⟩; clear hm hw w
    refine SX.val rfl (Val.assign rfl) rfl rfl ?_
    refine SX.nil (SE.seq ?_)
    refine SC.seq ?_
    refine SC.seq (SC.region ?_)
    refine SL.val (Val.fieldAddr tabOk rfl rfl rfl rfl rfl) rfl rfl ?_
    first
      | refine SL.val (Val.load1 tabOk rfl rfl (by repeat (first | assumption | exact List.mem_cons_self | exact hmem _ | apply List.mem_cons_of_mem)) (by rfl)) rfl rfl ?_
      | refine SL.val (Val.load1C tabOk rfl rfl (by assumption)) rfl rfl ?_
    refine SL.val (Val.fieldAddr tabOk rfl rfl rfl rfl rfl) rfl rfl ?_
    first
      | refine SL.val (Val.load1 tabOk rfl rfl (by repeat (first | assumption | exact List.mem_cons_self | exact hmem _ | apply List.mem_cons_of_mem)) (by rfl)) rfl rfl ?_
      | refine SL.val (Val.load1C tabOk rfl rfl (by assumption)) rfl rfl ?_
    refine SL.val (Val.buildA tabOk rfl rfl rfl rfl) rfl rfl ?_
    refine SL.val (Val.move rfl) rfl rfl ?_
    refine SL.nil (SE.seq ?_)
    refine SC.block ?_
    refine SC.loop (ι := Nat × Value) (fun z => [(1, .pointer (some ⟨b1, 0, none⟩)), (3, z.2), (28, .agg [.int .i64 c.a, .int .i64 c.b].toArray), (29, .int .i64 (z.1 : Nat))]) (fun z w' => z.1 ≤ 2 ∧ Mem S (.blk b1 (row 33 c.cells) :: σ) (bytesD z.2 ((((([] ++ beBytes (u64 c.client) (Int.toNat 1)) ++ beBytes (u64 c.stamp) (Int.toNat 8)) ++ beBytes (u64 c.op) (Int.toNat 1)) ++ beBytes c.letter.data.toList.length 4 ++ c.letter.data.toList) ++ (([c.a, c.b].take z.1).flatMap fun x => beBytes (u64 x) (Int.toNat 8))) :: ρ) w') (fun z => 2 - z.1) (0, _) (by exact ⟨rfl, rfl, rfl, rfl, trivial⟩) (fun w' hw' => ⟨by omega, hw'.less (by intro x hx; simp only [List.take_zero, List.flatMap_nil, List.append_nil] at hx; rcases List.mem_cons.1 hx with rfl | hx <;> simp [*])⟩) ?_
    intro z
    refine SC.facts ?_
    intro hz
    have hlen : ((((([] ++ beBytes (u64 c.client) (Int.toNat 1)) ++ beBytes (u64 c.stamp) (Int.toNat 8)) ++ beBytes (u64 c.op) (Int.toNat 1)) ++ beBytes c.letter.data.toList.length 4 ++ c.letter.data.toList) ++ (([c.a, c.b].take z.1).flatMap fun x => beBytes (u64 x) (Int.toNat 8))).length ≤ 10 + (4 + c.letter.data.toList.length) + 16 := by
      simp only [List.length_append, beBytes_length, List.length_nil]
      have : ((([c.a, c.b].take z.1).flatMap fun x => beBytes (u64 x) (Int.toNat 8))).length ≤ 16 := by
        rcases (by omega : z.1 = 0 ∨ z.1 = 1 ∨ z.1 = 2) with h | h | h <;> rw [h] <;> simp [beBytes_length]
      omega
    refine SC.seq (SC.region ?_)
    refine SL.val (Val.ltI rfl rfl) rfl rfl ?_
    refine SL.nil (SE.seq ?_)
    refine SC.seq ?_
    refine SC.condP rfl ?_ ?_
    rotate_left
    · intro hc30
      have e2 : ((((([] ++ beBytes (u64 c.client) (Int.toNat 1)) ++ beBytes (u64 c.stamp) (Int.toNat 8)) ++ beBytes (u64 c.op) (Int.toNat 1)) ++ beBytes c.letter.data.toList.length 4 ++ c.letter.data.toList) ++ (([c.a, c.b].take z.1).flatMap fun x => beBytes (u64 x) (Int.toNat 8))) = (((([] ++ beBytes (u64 c.client) (Int.toNat 1)) ++ beBytes (u64 c.stamp) (Int.toNat 8)) ++ beBytes (u64 c.op) (Int.toNat 1)) ++ beBytes c.letter.data.toList.length 4 ++ c.letter.data.toList) ++ (beBytes (u64 c.a) (Int.toNat 8) ++ beBytes (u64 c.b) (Int.toNat 8)) := by
        have h : z.1 = 2 := by omega
        rw [h]
        simp
      rw [e2] at *
      refine SC.exit ?_
      refine SE.then_ (by intro h; cases h) ?_
      refine SE.then_ (by intro h; cases h) ?_
      refine SE.exit ?_
      refine SE.seq ?_
      refine SC.seq (SC.region ?_)
      refine SL.val (Val.move rfl) rfl rfl ?_
      refine SL.val (Val.fieldAddr tabOk rfl rfl rfl rfl rfl) rfl rfl ?_
      first
        | refine SL.val (Val.load1 tabOk rfl rfl (by repeat (first | assumption | exact List.mem_cons_self | exact hmem _ | apply List.mem_cons_of_mem)) (by rfl)) rfl rfl ?_
        | refine SL.val (Val.load1C tabOk rfl rfl (by assumption)) rfl rfl ?_
      refine SL.eff (Eff.strBytes rfl Try.underlying9 Try.underlying37 (by first | assumption | omega)) rfl rfl ?_
      rintro sb40 _ rfl
      refine SL.call (by kernel_rfl) rfl rfl rfl ?_
      intro w hw
      refine (oct_Row (l := ((((([] ++ beBytes (u64 c.client) (Int.toNat 1)) ++ beBytes (u64 c.stamp) (Int.toNat 8)) ++ beBytes (u64 c.op) (Int.toNat 1)) ++ beBytes c.letter.data.toList.length 4 ++ c.letter.data.toList) ++ (beBytes (u64 c.a) (Int.toNat 8) ++ beBytes (u64 c.b) (Int.toNat 8)))) (m := c.text.data.toList) hw (by repeat (first | assumption | exact List.mem_cons_self | exact hmem _ | apply List.mem_cons_of_mem)) (by repeat (first | assumption | exact List.mem_cons_self | exact hmem _ | apply List.mem_cons_of_mem)) (by simp only [List.length_append, beBytes_length, List.length_nil]; unfold lots; omega) (by omega)).mono ?_; rintro _ _ ⟨r, rfl, hm⟩; refine ⟨_, _, rfl, hm, ?_⟩; clear hm hw w
      refine SL.val (Val.assign rfl) rfl rfl ?_
      refine SL.nil (SE.seq ?_)
      refine SC.ret ?_
      refine SE.ret1 rfl rfl ?_
      intro w' hw'
      refine ⟨_, rfl, (hw'.sub (fun _ h => h) (List.sublist_cons_self _ _)).less (fun x hx => ?_)⟩
      rcases List.mem_cons.1 hx with rfl | hx
      · have e3 : c.bytes = (((([] ++ beBytes (u64 c.client) (Int.toNat 1)) ++ beBytes (u64 c.stamp) (Int.toNat 8)) ++ beBytes (u64 c.op) (Int.toNat 1)) ++ beBytes c.letter.data.toList.length 4 ++ c.letter.data.toList) ++ (beBytes (u64 c.a) (Int.toNat 8) ++ beBytes (u64 c.b) (Int.toNat 8)) ++ beBytes c.text.data.toList.length 4 ++ c.text.data.toList := by simp [Core.bytes, rowB]
        rw [e3]; simp
      · simp [*]
    intro hc30
    have hlt : z.1 < [c.a, c.b].length := by show z.1 < 2; omega
    have helt : [Value.int .i64 c.a, Value.int .i64 c.b][z.1]? = some (.int .i64 ([c.a, c.b][z.1]'hlt)) := by
      rcases (by omega : z.1 = 0 ∨ z.1 = 1) with h | h <;> simp only [h] <;> rfl
    refine SC.skip ?_
    refine SE.seq ?_
    refine SC.seq ?_
    refine SC.block ?_
    refine SC.seq (SC.region ?_)
    refine SL.val (Val.indexAr1 (L := [.int .i64 c.a, .int .i64 c.b]) (v := .int .i64 ([c.a, c.b][z.1]'hlt)) (q := z.1) tabOk rfl rfl rfl rfl rfl rfl hlt helt) rfl rfl ?_
    refine SL.val (Val.assign rfl) rfl rfl ?_
    refine SL.nil (SE.seq ?_)
    refine SC.region ?_
    refine SL.val (Val.move rfl) rfl rfl ?_
    refine SL.val (Val.move rfl) rfl rfl ?_
    first
      | refine SL.val (Val.convI rfl Try.underlying105 (by kernel_rfl) (by simp only [InR, lo, hi]; omega)) rfl rfl ?_
      | refine SL.val (Val.convU rfl Try.underlying105 (by kernel_rfl)) rfl rfl ?_
    refine SL.call (by kernel_rfl) rfl rfl rfl ?_
    intro w hw
    refine (put_c (l := ((((([] ++ beBytes (u64 c.client) (Int.toNat 1)) ++ beBytes (u64 c.stamp) (Int.toNat 8)) ++ beBytes (u64 c.op) (Int.toNat 1)) ++ beBytes c.letter.data.toList.length 4 ++ c.letter.data.toList) ++ (([c.a, c.b].take z.1).flatMap fun x => beBytes (u64 x) (Int.toNat 8)))) (x := u64 ([c.a, c.b][z.1]'hlt)) (n := 8) hw (hw.bytes (by repeat (first | assumption | exact List.mem_cons_self | exact hmem _ | apply List.mem_cons_of_mem))) (by unfold lots; omega) (u64_lt _) rfl).mono ?_; rintro _ _ ⟨r, rfl, hm⟩; refine ⟨_, _, rfl, hm, ?_⟩; clear hm hw w
    refine SL.val (Val.assign rfl) rfl rfl ?_
    refine SL.nil ?_
    refine SE.inBlock ?_
    refine SE.seq ?_
    refine SC.region ?_
    first
      | refine SL.val (Val.addI rfl rfl (by simp only [InR, lo, hi]; omega)) rfl rfl ?_
      | refine SL.val (Val.addW rfl rfl) rfl rfl ?_
    refine SL.val (Val.move rfl) rfl rfl ?_
    refine SL.nil ?_
    refine SE.round (z.1 + 1, r) (by show 2 - (z.1 + 1) < 2 - z.1; omega) (by exact ⟨rfl, rfl, rfl, rfl, trivial⟩) (fun w' hw' => ⟨by show z.1 + 1 ≤ 2; omega, ?_⟩)
    have e1 : ((((([] ++ beBytes (u64 c.client) (Int.toNat 1)) ++ beBytes (u64 c.stamp) (Int.toNat 8)) ++ beBytes (u64 c.op) (Int.toNat 1)) ++ beBytes c.letter.data.toList.length 4 ++ c.letter.data.toList) ++ (([c.a, c.b].take (z.1 + 1)).flatMap fun x => beBytes (u64 x) (Int.toNat 8))) = ((((([] ++ beBytes (u64 c.client) (Int.toNat 1)) ++ beBytes (u64 c.stamp) (Int.toNat 8)) ++ beBytes (u64 c.op) (Int.toNat 1)) ++ beBytes c.letter.data.toList.length 4 ++ c.letter.data.toList) ++ (([c.a, c.b].take z.1).flatMap fun x => beBytes (u64 x) (Int.toNat 8))) ++ beBytes (u64 ([c.a, c.b][z.1]'hlt)) (Int.toNat 8) := by
      rw [List.take_succ_eq_append_getElem hlt, List.flatMap_append, ← List.append_assoc]
      simp
    show Mem S _ (bytesD r ((((([] ++ beBytes (u64 c.client) (Int.toNat 1)) ++ beBytes (u64 c.stamp) (Int.toNat 8)) ++ beBytes (u64 c.op) (Int.toNat 1)) ++ beBytes c.letter.data.toList.length 4 ++ c.letter.data.toList) ++ (([c.a, c.b].take (z.1 + 1)).flatMap fun x => beBytes (u64 x) (Int.toNat 8))) :: ρ) w'
    rw [e1]
    exact hw'.less (fun x hx => by rcases List.mem_cons.1 hx with rfl | hx <;> simp [*])
  · skip
    refine SX.eff rfl (Eff.strBytes rfl Try.underlying9 Try.underlying37 (by first | assumption | omega)) rfl rfl ?_
    rintro sb22 _ rfl
    refine ⟨_, fun _ h => h.less (fun _ hx => List.mem_cons_of_mem _ hx), fun _ h => h, ?_⟩
    refine SX.call rfl (by kernel_rfl) rfl rfl rfl ?_
    intro w hw
    refine (put_c (l := (([] ++ beBytes (u64 c.client) (Int.toNat 1)) ++ beBytes (u64 c.stamp) (Int.toNat 8))) (x := u64 c.op) (n := 1) hw (hw.bytes (by repeat (first | assumption | exact List.mem_cons_self | exact hmem _ | apply List.mem_cons_of_mem))) (by first | exact Nat.zero_le _ | (simp only [List.length_append, beBytes_length, List.length_nil]; unfold lots; omega)) (u64_lt _) rfl).mono ?_; rintro _ _ ⟨r, rfl, hm⟩; refine ⟨_, _, rfl, hm, _, fun _ h => h.less (fun _ hx => List.mem_cons_of_mem _ hx), fun _ h => h, ?_⟩; clear hm hw w
    refine SX.call rfl (by kernel_rfl) rfl rfl rfl ?_
    intro w hw
    refine (oct_Row (l := ((([] ++ beBytes (u64 c.client) (Int.toNat 1)) ++ beBytes (u64 c.stamp) (Int.toNat 8)) ++ beBytes (u64 c.op) (Int.toNat 1))) (m := c.letter.data.toList) hw (by repeat (first | assumption | exact List.mem_cons_self | exact hmem _ | apply List.mem_cons_of_mem)) (by repeat (first | assumption | exact List.mem_cons_self | exact hmem _ | apply List.mem_cons_of_mem)) (by simp only [List.length_append, beBytes_length, List.length_nil]; unfold lots; omega) (by omega)).mono ?_; rintro _ _ ⟨r, rfl, hm⟩; refine ⟨_, _, rfl, hm, _, fun _ h => h.less (fun _ hx => List.mem_cons_of_mem _ hx), fun _ h => h, ?_⟩; clear hm hw w
    refine SX.val rfl (Val.assign rfl) rfl rfl ?_
    refine SX.nil (SE.seq ?_)
    refine SC.seq ?_
    refine SC.seq (SC.region ?_)
    refine SL.val (Val.fieldAddr tabOk rfl rfl rfl rfl rfl) rfl rfl ?_
    first
      | refine SL.val (Val.load1 tabOk rfl rfl (by repeat (first | assumption | exact List.mem_cons_self | exact hmem _ | apply List.mem_cons_of_mem)) (by rfl)) rfl rfl ?_
      | refine SL.val (Val.load1C tabOk rfl rfl (by assumption)) rfl rfl ?_
    refine SL.val (Val.fieldAddr tabOk rfl rfl rfl rfl rfl) rfl rfl ?_
    first
      | refine SL.val (Val.load1 tabOk rfl rfl (by repeat (first | assumption | exact List.mem_cons_self | exact hmem _ | apply List.mem_cons_of_mem)) (by rfl)) rfl rfl ?_
      | refine SL.val (Val.load1C tabOk rfl rfl (by assumption)) rfl rfl ?_
    refine SL.val (Val.buildA tabOk rfl rfl rfl rfl) rfl rfl ?_
    refine SL.val (Val.move rfl) rfl rfl ?_
    refine SL.nil (SE.seq ?_)
    refine SC.block ?_
    refine SC.loop (ι := Nat × Value) (fun z => [(1, .pointer (some ⟨b1, 0, none⟩)), (3, z.2), (28, .agg [.int .i64 c.a, .int .i64 c.b].toArray), (29, .int .i64 (z.1 : Nat))]) (fun z w' => z.1 ≤ 2 ∧ Mem S (.blk b1 (row 33 c.cells) :: σ) (bytesD z.2 ((((([] ++ beBytes (u64 c.client) (Int.toNat 1)) ++ beBytes (u64 c.stamp) (Int.toNat 8)) ++ beBytes (u64 c.op) (Int.toNat 1)) ++ beBytes c.letter.data.toList.length 4 ++ c.letter.data.toList) ++ (([c.a, c.b].take z.1).flatMap fun x => beBytes (u64 x) (Int.toNat 8))) :: ρ) w') (fun z => 2 - z.1) (0, _) (by exact ⟨rfl, rfl, rfl, rfl, trivial⟩) (fun w' hw' => ⟨by omega, hw'.less (by intro x hx; simp only [List.take_zero, List.flatMap_nil, List.append_nil] at hx; rcases List.mem_cons.1 hx with rfl | hx <;> simp [*])⟩) ?_
    intro z
    refine SC.facts ?_
    intro hz
    have hlen : ((((([] ++ beBytes (u64 c.client) (Int.toNat 1)) ++ beBytes (u64 c.stamp) (Int.toNat 8)) ++ beBytes (u64 c.op) (Int.toNat 1)) ++ beBytes c.letter.data.toList.length 4 ++ c.letter.data.toList) ++ (([c.a, c.b].take z.1).flatMap fun x => beBytes (u64 x) (Int.toNat 8))).length ≤ 10 + (4 + c.letter.data.toList.length) + 16 := by
      simp only [List.length_append, beBytes_length, List.length_nil]
      have : ((([c.a, c.b].take z.1).flatMap fun x => beBytes (u64 x) (Int.toNat 8))).length ≤ 16 := by
        rcases (by omega : z.1 = 0 ∨ z.1 = 1 ∨ z.1 = 2) with h | h | h <;> rw [h] <;> simp [beBytes_length]
      omega
    refine SC.seq (SC.region ?_)
    refine SL.val (Val.ltI rfl rfl) rfl rfl ?_
    refine SL.nil (SE.seq ?_)
    refine SC.seq ?_
    refine SC.condP rfl ?_ ?_
    rotate_left
    · intro hc30
      have e2 : ((((([] ++ beBytes (u64 c.client) (Int.toNat 1)) ++ beBytes (u64 c.stamp) (Int.toNat 8)) ++ beBytes (u64 c.op) (Int.toNat 1)) ++ beBytes c.letter.data.toList.length 4 ++ c.letter.data.toList) ++ (([c.a, c.b].take z.1).flatMap fun x => beBytes (u64 x) (Int.toNat 8))) = (((([] ++ beBytes (u64 c.client) (Int.toNat 1)) ++ beBytes (u64 c.stamp) (Int.toNat 8)) ++ beBytes (u64 c.op) (Int.toNat 1)) ++ beBytes c.letter.data.toList.length 4 ++ c.letter.data.toList) ++ (beBytes (u64 c.a) (Int.toNat 8) ++ beBytes (u64 c.b) (Int.toNat 8)) := by
        have h : z.1 = 2 := by omega
        rw [h]
        simp
      rw [e2] at *
      refine SC.exit ?_
      refine SE.then_ (by intro h; cases h) ?_
      refine SE.then_ (by intro h; cases h) ?_
      refine SE.exit ?_
      refine SE.seq ?_
      refine SC.seq (SC.region ?_)
      refine SL.val (Val.move rfl) rfl rfl ?_
      refine SL.val (Val.fieldAddr tabOk rfl rfl rfl rfl rfl) rfl rfl ?_
      first
        | refine SL.val (Val.load1 tabOk rfl rfl (by repeat (first | assumption | exact List.mem_cons_self | exact hmem _ | apply List.mem_cons_of_mem)) (by rfl)) rfl rfl ?_
        | refine SL.val (Val.load1C tabOk rfl rfl (by assumption)) rfl rfl ?_
      refine SL.eff (Eff.strBytes rfl Try.underlying9 Try.underlying37 (by first | assumption | omega)) rfl rfl ?_
      rintro sb40 _ rfl
      refine SL.call (by kernel_rfl) rfl rfl rfl ?_
      intro w hw
      refine (oct_Row (l := ((((([] ++ beBytes (u64 c.client) (Int.toNat 1)) ++ beBytes (u64 c.stamp) (Int.toNat 8)) ++ beBytes (u64 c.op) (Int.toNat 1)) ++ beBytes c.letter.data.toList.length 4 ++ c.letter.data.toList) ++ (beBytes (u64 c.a) (Int.toNat 8) ++ beBytes (u64 c.b) (Int.toNat 8)))) (m := c.text.data.toList) hw (by repeat (first | assumption | exact List.mem_cons_self | exact hmem _ | apply List.mem_cons_of_mem)) (by repeat (first | assumption | exact List.mem_cons_self | exact hmem _ | apply List.mem_cons_of_mem)) (by simp only [List.length_append, beBytes_length, List.length_nil]; unfold lots; omega) (by omega)).mono ?_; rintro _ _ ⟨r, rfl, hm⟩; refine ⟨_, _, rfl, hm, ?_⟩; clear hm hw w
      refine SL.val (Val.assign rfl) rfl rfl ?_
      refine SL.nil (SE.seq ?_)
      refine SC.ret ?_
      refine SE.ret1 rfl rfl ?_
      intro w' hw'
      refine ⟨_, rfl, (hw'.sub (fun _ h => h) (List.sublist_cons_self _ _)).less (fun x hx => ?_)⟩
      rcases List.mem_cons.1 hx with rfl | hx
      · have e3 : c.bytes = (((([] ++ beBytes (u64 c.client) (Int.toNat 1)) ++ beBytes (u64 c.stamp) (Int.toNat 8)) ++ beBytes (u64 c.op) (Int.toNat 1)) ++ beBytes c.letter.data.toList.length 4 ++ c.letter.data.toList) ++ (beBytes (u64 c.a) (Int.toNat 8) ++ beBytes (u64 c.b) (Int.toNat 8)) ++ beBytes c.text.data.toList.length 4 ++ c.text.data.toList := by simp [Core.bytes, rowB]
        rw [e3]; simp
      · simp [*]
    intro hc30
    have hlt : z.1 < [c.a, c.b].length := by show z.1 < 2; omega
    have helt : [Value.int .i64 c.a, Value.int .i64 c.b][z.1]? = some (.int .i64 ([c.a, c.b][z.1]'hlt)) := by
      rcases (by omega : z.1 = 0 ∨ z.1 = 1) with h | h <;> simp only [h] <;> rfl
    refine SC.skip ?_
    refine SE.seq ?_
    refine SC.seq ?_
    refine SC.block ?_
    refine SC.seq (SC.region ?_)
    refine SL.val (Val.indexAr1 (L := [.int .i64 c.a, .int .i64 c.b]) (v := .int .i64 ([c.a, c.b][z.1]'hlt)) (q := z.1) tabOk rfl rfl rfl rfl rfl rfl hlt helt) rfl rfl ?_
    refine SL.val (Val.assign rfl) rfl rfl ?_
    refine SL.nil (SE.seq ?_)
    refine SC.region ?_
    refine SL.val (Val.move rfl) rfl rfl ?_
    refine SL.val (Val.move rfl) rfl rfl ?_
    first
      | refine SL.val (Val.convI rfl Try.underlying105 (by kernel_rfl) (by simp only [InR, lo, hi]; omega)) rfl rfl ?_
      | refine SL.val (Val.convU rfl Try.underlying105 (by kernel_rfl)) rfl rfl ?_
    refine SL.call (by kernel_rfl) rfl rfl rfl ?_
    intro w hw
    refine (put_c (l := ((((([] ++ beBytes (u64 c.client) (Int.toNat 1)) ++ beBytes (u64 c.stamp) (Int.toNat 8)) ++ beBytes (u64 c.op) (Int.toNat 1)) ++ beBytes c.letter.data.toList.length 4 ++ c.letter.data.toList) ++ (([c.a, c.b].take z.1).flatMap fun x => beBytes (u64 x) (Int.toNat 8)))) (x := u64 ([c.a, c.b][z.1]'hlt)) (n := 8) hw (hw.bytes (by repeat (first | assumption | exact List.mem_cons_self | exact hmem _ | apply List.mem_cons_of_mem))) (by unfold lots; omega) (u64_lt _) rfl).mono ?_; rintro _ _ ⟨r, rfl, hm⟩; refine ⟨_, _, rfl, hm, ?_⟩; clear hm hw w
    refine SL.val (Val.assign rfl) rfl rfl ?_
    refine SL.nil ?_
    refine SE.inBlock ?_
    refine SE.seq ?_
    refine SC.region ?_
    first
      | refine SL.val (Val.addI rfl rfl (by simp only [InR, lo, hi]; omega)) rfl rfl ?_
      | refine SL.val (Val.addW rfl rfl) rfl rfl ?_
    refine SL.val (Val.move rfl) rfl rfl ?_
    refine SL.nil ?_
    refine SE.round (z.1 + 1, r) (by show 2 - (z.1 + 1) < 2 - z.1; omega) (by exact ⟨rfl, rfl, rfl, rfl, trivial⟩) (fun w' hw' => ⟨by show z.1 + 1 ≤ 2; omega, ?_⟩)
    have e1 : ((((([] ++ beBytes (u64 c.client) (Int.toNat 1)) ++ beBytes (u64 c.stamp) (Int.toNat 8)) ++ beBytes (u64 c.op) (Int.toNat 1)) ++ beBytes c.letter.data.toList.length 4 ++ c.letter.data.toList) ++ (([c.a, c.b].take (z.1 + 1)).flatMap fun x => beBytes (u64 x) (Int.toNat 8))) = ((((([] ++ beBytes (u64 c.client) (Int.toNat 1)) ++ beBytes (u64 c.stamp) (Int.toNat 8)) ++ beBytes (u64 c.op) (Int.toNat 1)) ++ beBytes c.letter.data.toList.length 4 ++ c.letter.data.toList) ++ (([c.a, c.b].take z.1).flatMap fun x => beBytes (u64 x) (Int.toNat 8))) ++ beBytes (u64 ([c.a, c.b][z.1]'hlt)) (Int.toNat 8) := by
      rw [List.take_succ_eq_append_getElem hlt, List.flatMap_append, ← List.append_assoc]
      simp
    show Mem S _ (bytesD r ((((([] ++ beBytes (u64 c.client) (Int.toNat 1)) ++ beBytes (u64 c.stamp) (Int.toNat 8)) ++ beBytes (u64 c.op) (Int.toNat 1)) ++ beBytes c.letter.data.toList.length 4 ++ c.letter.data.toList) ++ (([c.a, c.b].take (z.1 + 1)).flatMap fun x => beBytes (u64 x) (Int.toNat 8))) :: ρ) w'
    rw [e1]
    exact hw'.less (fun x hx => by rcases List.mem_cons.1 hx with rfl | hx <;> simp [*])

theorem rput0_c {x n : Nat} (hw : Mem S σ ρ w) (hn : sizeB n = true) : Calls Try.prog 54 #[.slice none 0 0, .int .u64 x, .int .i64 n] w fun e w' => ∃ r, e = .returned r ∧ Mem S σ (bytesD r ([] ++ beBytes x n) :: ρ) w' :=
  (rput_c (hw.add (z := bytesD (.slice none 0 0) []) (IsRow.nil rfl)) List.mem_cons_self (by decide) hn).mono fun _ _ ⟨r, h1, h2⟩ => ⟨r, h1, h2.less (fun x hx => by rcases List.mem_cons.1 hx with h | h <;> simp [h])⟩
set_option maxHeartbeats 1000000 in
theorem rcoreBytes_c {c : Core} (hw : Mem S σ ρ w) (h1 : c.letter.size ≤ 1000000) (h2 : c.text.size ≤ 1000000) : Calls Try.prog 53 #[.agg c.cells.toArray] w fun e w' => ∃ r, e = .returned r ∧ Mem S σ (bytesD r c.bytes :: ρ) w' := by
  have h3 : c.letter.size ≤ lots := by unfold lots; omega
  have h4 : c.text.size ≤ lots := by unfold lots; omega
  have hL : c.letter.data.toList.length ≤ 1000000 := h1
  have hT : c.text.data.toList.length ≤ 1000000 := h2
  refine calls_of [.agg c.cells.toArray] Try.func53 rfl Try.ntmps53 rfl (Mem S σ ρ) hw ?_
  refine SC.seq (SC.region ?_)
  refine SL.eff (Eff.boxA rfl) rfl rfl ?_
  rintro _ _ ⟨b1, rfl, rfl⟩
  refine SL.val (Val.assign rfl) rfl rfl ?_
  refine SL.nil (SE.seq ?_)
  refine SC.seq ?_
  refine SC.draw _ (.q 0 (.q 1 (.q 2 (.q 4 (.q 5 (.q 6 (.q 8 (.q 9 (.q 10 (.e 3 (.e 7 (.e 11 (.q 12 .nil))))))))))))) (by kernel_rfl) (by kernel_rfl) (fun _ h => h) (fun _ h => h.drew) ?_
  refine SX.val rfl (Val.fieldAddr tabOk rfl rfl rfl rfl rfl) rfl rfl ?_
  first
    | refine SX.val rfl (Val.load1 tabOk rfl rfl (by repeat (first | assumption | exact List.mem_cons_self | exact hmem _ | apply List.mem_cons_of_mem)) (by rfl)) rfl rfl ?_
    | refine SX.val rfl (Val.load1C tabOk rfl rfl (by assumption)) rfl rfl ?_
  first
    | refine SX.val rfl (Val.convI rfl Try.underlying105 (by kernel_rfl) (by simp only [InR, lo, hi]; omega)) rfl rfl ?_
    | refine SX.val rfl (Val.convU rfl Try.underlying105 (by kernel_rfl)) rfl rfl ?_
  refine SX.val rfl (Val.fieldAddr tabOk rfl rfl rfl rfl rfl) rfl rfl ?_
  first
    | refine SX.val rfl (Val.load1 tabOk rfl rfl (by repeat (first | assumption | exact List.mem_cons_self | exact hmem _ | apply List.mem_cons_of_mem)) (by rfl)) rfl rfl ?_
    | refine SX.val rfl (Val.load1C tabOk rfl rfl (by assumption)) rfl rfl ?_
  first
    | refine SX.val rfl (Val.convI rfl Try.underlying105 (by kernel_rfl) (by simp only [InR, lo, hi]; omega)) rfl rfl ?_
    | refine SX.val rfl (Val.convU rfl Try.underlying105 (by kernel_rfl)) rfl rfl ?_
  refine SX.val rfl (Val.fieldAddr tabOk rfl rfl rfl rfl rfl) rfl rfl ?_
  first
    | refine SX.val rfl (Val.load1 tabOk rfl rfl (by repeat (first | assumption | exact List.mem_cons_self | exact hmem _ | apply List.mem_cons_of_mem)) (by rfl)) rfl rfl ?_
    | refine SX.val rfl (Val.load1C tabOk rfl rfl (by assumption)) rfl rfl ?_
  first
    | refine SX.val rfl (Val.convI rfl Try.underlying105 (by kernel_rfl) (by simp only [InR, lo, hi]; omega)) rfl rfl ?_
    | refine SX.val rfl (Val.convU rfl Try.underlying105 (by kernel_rfl)) rfl rfl ?_
  refine SX.call rfl (by kernel_rfl) rfl rfl rfl ?_
  intro w hw
  refine (rput0_c (x := u64 c.client) (n := 1) hw rfl).mono ?_; rintro _ _ ⟨r, rfl, hm⟩; refine ⟨_, _, rfl, hm, _, fun _ h => h.less (fun _ hx => List.mem_cons_of_mem _ hx), fun _ h => h, ?_⟩; clear hm hw w
  refine SX.call rfl (by kernel_rfl) rfl rfl rfl ?_
  intro w hw
  refine (rput_c (l := ([] ++ beBytes (u64 c.client) 1)) (x := u64 c.stamp) (n := 8) hw (by repeat (first | assumption | exact List.mem_cons_self | exact hmem _ | apply List.mem_cons_of_mem)) (by simp only [List.length_append, beBytes_length, List.length_nil]; unfold lots; omega) rfl).mono ?_; rintro _ _ ⟨r, rfl, hm⟩; refine ⟨_, _, rfl, hm, _, fun _ h => h.less (fun _ hx => List.mem_cons_of_mem _ hx), fun _ h => h, ?_⟩; clear hm hw w
  refine SX.call rfl (by kernel_rfl) rfl rfl rfl ?_
  intro w hw
  refine (rput_c (l := (([] ++ beBytes (u64 c.client) 1) ++ beBytes (u64 c.stamp) 8)) (x := u64 c.op) (n := 1) hw (by repeat (first | assumption | exact List.mem_cons_self | exact hmem _ | apply List.mem_cons_of_mem)) (by simp only [List.length_append, beBytes_length, List.length_nil]; unfold lots; omega) rfl).mono ?_; rintro _ _ ⟨r, rfl, hm⟩; refine ⟨_, _, rfl, hm, _, fun _ h => h.less (fun _ hx => List.mem_cons_of_mem _ hx), fun _ h => h, ?_⟩; clear hm hw w
  refine SX.val rfl (Val.assign rfl) rfl rfl ?_
  refine SX.nil (SE.seq ?_)
  refine SC.seq (SC.region ?_)
  refine SL.val (Val.move rfl) rfl rfl ?_
  refine SL.val (Val.fieldAddr tabOk rfl rfl rfl rfl rfl) rfl rfl ?_
  first
    | refine SL.val (Val.load1 tabOk rfl rfl (by repeat (first | assumption | exact List.mem_cons_self | exact hmem _ | apply List.mem_cons_of_mem)) (by rfl)) rfl rfl ?_
    | refine SL.val (Val.load1C tabOk rfl rfl (by assumption)) rfl rfl ?_
  refine SL.eff (Eff.strBytes rfl Try.underlying9 Try.underlying37 (by first | assumption | omega)) rfl rfl ?_
  rintro sb19 _ rfl
  refine SL.call (by kernel_rfl) rfl rfl rfl ?_
  intro w hw
  refine (roct_Row (l := ((([] ++ beBytes (u64 c.client) 1) ++ beBytes (u64 c.stamp) 8) ++ beBytes (u64 c.op) 1)) (m := c.letter.data.toList) hw (by repeat (first | assumption | exact List.mem_cons_self | exact hmem _ | apply List.mem_cons_of_mem)) (by repeat (first | assumption | exact List.mem_cons_self | exact hmem _ | apply List.mem_cons_of_mem)) (by simp only [List.length_append, beBytes_length, List.length_nil]; unfold lots; omega) (by omega)).mono ?_; rintro _ _ ⟨r, rfl, hm⟩; refine ⟨_, _, rfl, hm, ?_⟩; clear hm hw w
  refine SL.val (Val.assign rfl) rfl rfl ?_
  refine SL.nil (SE.seq ?_)
  refine SC.seq ?_
  refine SC.draw _ (.q 0 (.q 1 (.q 2 (.q 3 (.q 5 (.q 6 (.q 7 (.e 4 (.e 8 (.q 9 .nil)))))))))) (by kernel_rfl) (by kernel_rfl) (fun _ h => h) (fun _ h => h.drew) ?_
  refine SX.val rfl (Val.move rfl) rfl rfl ?_
  refine SX.val rfl (Val.fieldAddr tabOk rfl rfl rfl rfl rfl) rfl rfl ?_
  first
    | refine SX.val rfl (Val.load1 tabOk rfl rfl (by repeat (first | assumption | exact List.mem_cons_self | exact hmem _ | apply List.mem_cons_of_mem)) (by rfl)) rfl rfl ?_
    | refine SX.val rfl (Val.load1C tabOk rfl rfl (by assumption)) rfl rfl ?_
  first
    | refine SX.val rfl (Val.convI rfl Try.underlying105 (by kernel_rfl) (by simp only [InR, lo, hi]; omega)) rfl rfl ?_
    | refine SX.val rfl (Val.convU rfl Try.underlying105 (by kernel_rfl)) rfl rfl ?_
  refine SX.val rfl (Val.fieldAddr tabOk rfl rfl rfl rfl rfl) rfl rfl ?_
  first
    | refine SX.val rfl (Val.load1 tabOk rfl rfl (by repeat (first | assumption | exact List.mem_cons_self | exact hmem _ | apply List.mem_cons_of_mem)) (by rfl)) rfl rfl ?_
    | refine SX.val rfl (Val.load1C tabOk rfl rfl (by assumption)) rfl rfl ?_
  first
    | refine SX.val rfl (Val.convI rfl Try.underlying105 (by kernel_rfl) (by simp only [InR, lo, hi]; omega)) rfl rfl ?_
    | refine SX.val rfl (Val.convU rfl Try.underlying105 (by kernel_rfl)) rfl rfl ?_
  refine SX.call rfl (by kernel_rfl) rfl rfl rfl ?_
  intro w hw
  refine (rput_c (l := (((([] ++ beBytes (u64 c.client) 1) ++ beBytes (u64 c.stamp) 8) ++ beBytes (u64 c.op) 1) ++ beBytes c.letter.data.toList.length 4 ++ c.letter.data.toList)) (x := u64 c.a) (n := 8) hw (by repeat (first | assumption | exact List.mem_cons_self | exact hmem _ | apply List.mem_cons_of_mem)) (by simp only [List.length_append, beBytes_length, List.length_nil]; unfold lots; omega) rfl).mono ?_; rintro _ _ ⟨r, rfl, hm⟩; refine ⟨_, _, rfl, hm, _, fun _ h => h.less (fun _ hx => List.mem_cons_of_mem _ hx), fun _ h => h, ?_⟩; clear hm hw w
  refine SX.call rfl (by kernel_rfl) rfl rfl rfl ?_
  intro w hw
  refine (rput_c (l := ((((([] ++ beBytes (u64 c.client) 1) ++ beBytes (u64 c.stamp) 8) ++ beBytes (u64 c.op) 1) ++ beBytes c.letter.data.toList.length 4 ++ c.letter.data.toList) ++ beBytes (u64 c.a) 8)) (x := u64 c.b) (n := 8) hw (by repeat (first | assumption | exact List.mem_cons_self | exact hmem _ | apply List.mem_cons_of_mem)) (by simp only [List.length_append, beBytes_length, List.length_nil]; unfold lots; omega) rfl).mono ?_; rintro _ _ ⟨r, rfl, hm⟩; refine ⟨_, _, rfl, hm, _, fun _ h => h.less (fun _ hx => List.mem_cons_of_mem _ hx), fun _ h => h, ?_⟩; clear hm hw w
  refine SX.val rfl (Val.assign rfl) rfl rfl ?_
  refine SX.nil (SE.seq ?_)
  refine SC.seq (SC.region ?_)
  refine SL.val (Val.move rfl) rfl rfl ?_
  refine SL.val (Val.fieldAddr tabOk rfl rfl rfl rfl rfl) rfl rfl ?_
  first
    | refine SL.val (Val.load1 tabOk rfl rfl (by repeat (first | assumption | exact List.mem_cons_self | exact hmem _ | apply List.mem_cons_of_mem)) (by rfl)) rfl rfl ?_
    | refine SL.val (Val.load1C tabOk rfl rfl (by assumption)) rfl rfl ?_
  refine SL.eff (Eff.strBytes rfl Try.underlying9 Try.underlying37 (by first | assumption | omega)) rfl rfl ?_
  rintro sb33 _ rfl
  refine SL.call (by kernel_rfl) rfl rfl rfl ?_
  intro w hw
  refine (roct_Row (l := (((((([] ++ beBytes (u64 c.client) 1) ++ beBytes (u64 c.stamp) 8) ++ beBytes (u64 c.op) 1) ++ beBytes c.letter.data.toList.length 4 ++ c.letter.data.toList) ++ beBytes (u64 c.a) 8) ++ beBytes (u64 c.b) 8)) (m := c.text.data.toList) hw (by repeat (first | assumption | exact List.mem_cons_self | exact hmem _ | apply List.mem_cons_of_mem)) (by repeat (first | assumption | exact List.mem_cons_self | exact hmem _ | apply List.mem_cons_of_mem)) (by simp only [List.length_append, beBytes_length, List.length_nil]; unfold lots; omega) (by omega)).mono ?_; rintro _ _ ⟨r, rfl, hm⟩; refine ⟨_, _, rfl, hm, ?_⟩; clear hm hw w
  refine SL.val (Val.assign rfl) rfl rfl ?_
  refine SL.nil (SE.seq ?_)
  refine SC.ret ?_
  refine SE.ret1 rfl rfl ?_
  intro w' hw'
  refine ⟨_, rfl, (hw'.sub (fun _ h => h) (List.sublist_cons_self _ _)).less (fun x hx => ?_)⟩
  rcases List.mem_cons.1 hx with rfl | hx
  · have e3 : c.bytes = (((((([] ++ beBytes (u64 c.client) 1) ++ beBytes (u64 c.stamp) 8) ++ beBytes (u64 c.op) 1) ++ beBytes c.letter.data.toList.length 4 ++ c.letter.data.toList) ++ beBytes (u64 c.a) 8) ++ beBytes (u64 c.b) 8) ++ beBytes c.text.data.toList.length 4 ++ c.text.data.toList := by simp [Core.bytes, rowB]
    rw [e3]; simp
  · simp [*]
end
end Go.Proofs.Ytmkijjmbiiiicaa
/-
  The second engine: the bytes of cores.
-/
set_option maxRecDepth 100000
set_option linter.unusedSimpArgs false
set_option linter.unusedVariables false
namespace Go.Proofs.Ytmkijjmbiiiicaa.A
open Go.RowKit

abbrev coreA (c : Core) : Abs := .agg (c.cells.map .v)
section
variable {c : Core} {n : Int}
theorem enter_ids {K : List Nat} {w w' : World} {ρ : List Dt} (h : Proofs.Ytmkijjmbiiiicaa.Mem [(w, K)] [old2 w K] ρ w') : ∀ k, k < w.heap.size → k ∈ K → k ∈ [old2 w K].flatMap Proofs.Ytmkijjmbiiiicaa.It.ids := fun k hk hm => by
  simp only [List.flatMap_cons, List.flatMap_nil, List.append_nil]
  exact old2_ids.2 ⟨hk, hm⟩
theorem core_val {K : List Nat} {w : World} {vals : List Value} (hv : reps K w [coreA c] vals) : vals = [.agg c.cells.toArray] := by
  obtain ⟨v, us', rfl, ⟨us, rfl, h1⟩, h2⟩ := hv
  have h2 : us' = [] := h2
  have h1 := (reps_plain (us := c.cells)).1 h1
  rw [h2, h1]
theorem core_val2 {K : List Nat} {w : World} {vals : List Value} (hv : reps K w [coreA c, int n] vals) : vals = [.agg c.cells.toArray, .int .i64 n] := by
  obtain ⟨v, us', rfl, ⟨us, rfl, h1⟩, h2⟩ := hv
  have h1 := (reps_plain (us := c.cells)).1 h1
  have h2 := (reps_plain (us := [.int .i64 n])).1 h2
  rw [h2, h1]
theorem cbytes_s (h1 : c.letter.size ≤ 1000000) (h2 : c.text.size ≤ 1000000) : Pure Try.prog 44 [coreA c] (byt c.bytes) := Pure.of2 fun K w vals hK hv => by
  rw [core_val hv]
  exact (coreBytes_c (enter2 w K) h1 h2).mono fun e w' ⟨r, he, hm⟩ => ⟨r, he, leave2 hm (by simp), rep_byt.2 (row3 hK (enter_ids hm) (hm.data (z := bytesD r _) (by simp)))⟩
theorem rcbytes_s (h1 : c.letter.size ≤ 1000000) (h2 : c.text.size ≤ 1000000) : Pure Try.prog 53 [coreA c] (byt c.bytes) := Pure.of2 fun K w vals hK hv => by
  rw [core_val hv]
  exact (rcoreBytes_c (enter2 w K) h1 h2).mono fun e w' ⟨r, he, hm⟩ => ⟨r, he, leave2 hm (by simp), rep_byt.2 (row3 hK (enter_ids hm) (hm.data (z := bytesD r _) (by simp)))⟩
theorem ccheck_s : Pure Try.prog 22 [coreA c, int n] (int (c.check n)) := Pure.of2 fun K w vals hK hv => by
  rw [core_val2 hv]
  exact (check_c (enter2 w K)).mono fun e w' ⟨he, hm⟩ => ⟨_, he, leave2 hm (by simp), rfl⟩
theorem rccheck_s (hs : c.letter.size ≤ lots) : Pure Try.prog 33 [coreA c, int n] (int (c.check n)) := Pure.of2 fun K w vals hK hv => by
  rw [core_val2 hv]
  exact (rcheck_c (enter2 w K) hs).mono fun e w' ⟨he, hm⟩ => ⟨_, he, leave2 hm (by simp), rfl⟩
end
end Go.Proofs.Ytmkijjmbiiiicaa.A
/-
  The second engine: rows of one's own, read; calls that change several pieces.
-/
set_option maxRecDepth 100000
set_option linter.unusedSimpArgs false
set_option linter.unusedVariables false
namespace Go.Proofs.Ytmkijjmbiiiicaa.A
open Go.RowKit

def isOwn (σ : Blks) (e : TypeId) (s : Nat) (v : Value) (xs : List (List Abs)) : Prop := own e s v xs ∈ σ ∨ It.rdpc (ownPc e s v xs) ∈ σ
section
variable {P : Program} {n : Nat} {W : Wd} {σ τ : Blks} {l : Slots} {X : List Nat} {x y z : Operand} {d : Option Nat} {ty t e e' : TypeId} {pos : String} {aft : Array Edge} {g : Option (Nat × Bool)} {v : Value} {k : IntKind} {A : Abs} {tab : List (Nat × TI)} {xs : List (List Abs)} {s q : Nat} {cs : List Abs}
theorem Mem.ownR {w0 w : World} {F G : List Nat} (h : Mem w0 F G σ w) (hb : isOwn σ e s v xs) : ∃ us, IsRow [] w v xs.length us ∧ repss (mids σ ++ G) w s xs us := by
  have hp : (ownPc e s v xs).p (mids σ ++ G) w := by
    rcases hb with hb | hb
    · exact h.hold _ hb
    · exact h.hold _ hb
  obtain ⟨us, h1, h2⟩ := hp
  exact ⟨us, ownsRow.isRow h1 (by simp), h2⟩
/-- It changes pieces that lie side by side. -/
theorem After.mid {ι : Type} {σ1 : Blks} {τ' : ι → Blks} {K : Blks → ι → Prop} (α : Blks) {β : Blks} (hσ : σ = α ++ (σ1 ++ β)) (hr : ∀ x ∈ σ1, x.rids = []) (k : ∀ z, K (α ++ (τ' z ++ β)) z) : After σ σ1 τ' K := by
  subst hσ
  refine ⟨α ++ β, ⟨?_, fun x hx => .inl ⟨by simp [hx], hr x hx⟩, fun x hx => ?_⟩, fun z => ⟨_, ?_, k z⟩⟩
  · simp only [mids_append]
    exact List.perm_append_comm_assoc _ _ _
  · rcases List.mem_append.1 hx with h | h <;> simp [h]
  · exact List.perm_append_comm_assoc _ _ _
end
/-- A cut, from a known state. -/
theorem SC.cutS {P : Program} {n : Nat} {W : Wd} {σ : Blks} {l : Slots} {Q : Exit → Act → World → Prop} {x y : Code} {ι : Type} (H : ι → Blks) (L : ι → Slots) (Φ : ι → Prop) (h : SC P x (St n W σ l) (Exit.then (fun a w => ∃ z, Head n W H L Φ z a w) Q)) (k : ∀ z, Φ z → SC P y (St n W (H z) (L z)) Q) : SC P (.seq x y) (St n W σ l) Q := SC.cut H L Φ h k
section
variable {P : Program} {n : Nat} {W : Wd} {ops : Array Oper} {l : Slots} {σ : Blks} {X : List Nat} {Q : Exit → Act → World → Prop} {ix : Plan} {f : FuncId} {args args' : List Abs} {σ1 : Blks} {ι : Type} {τ' : ι → Blks} {res : ι → Abs} {xs : List Operand} {ats : Array TypeId} {d : Option Nat} {ty : TypeId} {pos : String} {aft : Array Edge} {g : Option (Nat × Bool)} {i : Nat}
/-- A call; from then on only the blocks X' may be changed. -/
theorem SX.callX (X' : List Nat) (hi : ops[i]? = some ⟨d, .call { callee := .value (.func f), args := xs.toArray, argTypes := ats }, ty, pos, aft, g⟩) (hs : Spec P f args' σ1 τ' res) (hX : ∀ k ∈ mids σ1, k ∈ X) (hX' : ∀ k ∈ X', k ∈ X) (hca : Casts args args') (hb : goesIn P f = true) (hv : looks l xs = some args)
    (hg : gd ops l ⟨d, .call { callee := .value (.func f), args := xs.toArray, argTypes := ats }, ty, pos, aft, g⟩ = some true) (hd : lt? d n = true)
    (k : After σ σ1 τ' fun ν z => SX P ops ix X' (St n W ν (put? l d (res z))) Q) : SX P ops (.e i ix) X (St n W σ l) Q := fun a w h => by
  unfold planW wpOp
  simp only [hi, h.wanted hg, if_true]
  refine .inl ?_
  unfold Oper.wp
  rw [run_call hb rfl, Oper.upon_enter]
  refine (hs.after h.mem (hca _ _ _ (h.evals hv)) k).mono fun e w' ⟨z, r, ν, he, hx, _, hm, hc, hr, hk⟩ => ?_
  subst he
  exact ⟨fun w2 => Ext X' w' w2, fun w2 h2 => (hx.mono (fun k hk => .inl (hX k hk))).trans h2 fun k hk => .inl (hX' k hk), Ext.refl w', hk _ _ ((h.to hm hc).put hd hr)⟩
end
/-- 'max' of two numbers. -/
theorem Val.maxI {P : Program} {n : Nat} {W : Wd} {σ : Blks} {l : Slots} {X : List Nat} {x y : Operand} {d : Option Nat} {ty t t' : TypeId} {pos : String} {aft : Array Edge} {gq : Option (Nat × Bool)} {k : IntKind} {a b : Int} (hx : look l x = some (.v (.int k a))) (hy : look l y = some (.v (.int k b))) :
    Val P n W σ l X ⟨d, .call { callee := .builtin .max, args := #[x, y], argTypes := #[t, t'] }, ty, pos, aft, gq⟩ (.v (.int k (max a b))) := fun ac w hs _ => ⟨_, rfl, fun w' _ => by
  have hm : (if a < b then b else a) = max a b := by omega
  simp [execOp, resolve, invoke, builtin, Builtin.max_, Builtin.max2, hs.plain hx, hs.plain hy, List.foldlM, hm]⟩
end Go.Proofs.Ytmkijjmbiiiicaa.A
/-
  The second engine: a constant's bytes: a row that was just made, marked as a text's.
-/
set_option maxRecDepth 100000
set_option linter.unusedSimpArgs false
set_option linter.unusedVariables false
namespace Go.Proofs.Ytmkijjmbiiiicaa.A
open Go.RowKit

end Go.Proofs.Ytmkijjmbiiiicaa.A
/-
  The second engine: words of 32 bits; parts of an array of the call's own as an array.
-/
set_option maxRecDepth 100000
set_option linter.unusedSimpArgs false
set_option linter.unusedVariables false
namespace Go.Proofs.Ytmkijjmbiiiicaa
open Go.RowKit
/-! ### Regions that draw, whose last operation comes behind all others -/
section
variable {P : Program} {ops : Array Oper}
def anyZ (P : Program) (ops : Array Oper) (D : World → Prop) (z : Nat) (Q : Act → World → Prop) : Nat → Array Bool → Act → World → Prop
  | 0, listed, a, w => Region.ready .any ops listed = [] ∧ Q a w
  | fuel + 1, listed, a, w => (Region.ready .any ops listed = [] → Q a w) ∧
      ∀ i ∈ Region.ready .any ops listed, wpOp P ops NoExit i (fun a' w' => (i = z ∨ D w') ∧ anyZ P ops D z Q fuel (listed.setIfInBounds i true) a' w') a w
theorem anyZ.wpAny {D : World → Prop} {z : Nat} {Q : Exit → Act → World → Prop} : ∀ (fuel : Nat) (listed : Array Bool) (a : Act) (w : World),
    anyZ P ops D z (Q .normal) fuel listed a w → wpAny P .any ops Q fuel listed a w
  | 0, _, _, _, h => h
  | fuel + 1, _, _, _, h => ⟨h.1, fun i hi => wpOp_of_noExit (wpOp_mono (fun a' w' h3 => anyZ.wpAny fuel _ a' w' h3.2) (h.2 i hi))⟩
theorem anyZ.mono {D D' : World → Prop} {z : Nat} {Q : Act → World → Prop} (hD : ∀ w, D' w → D w) : ∀ (fuel : Nat) (listed : Array Bool) (a : Act) (w : World),
    anyZ P ops D' z Q fuel listed a w → anyZ P ops D z Q fuel listed a w
  | 0, _, _, _, h => h
  | fuel + 1, _, _, _, h => ⟨h.1, fun i hi => wpOp_mono (fun a' w' h3 => ⟨h3.1.imp_right (hD _), anyZ.mono hD fuel _ a' w' h3.2⟩) (h.2 i hi)⟩
/-- What is listed has all that it comes behind listed. -/
def Down (ops : Array Oper) (L : Array Bool) : Prop := ∀ (k : Nat) (o : Oper), ops[k]? = some o → L.getD k false = true → ∀ e ∈ o.after, Region.binds .any e = true → L.getD e.on false = true
theorem Down.set {L : Array Bool} (h : Down ops L) {j : Nat} (hj : j ∈ Region.ready .any ops L) : Down ops (L.setIfInBounds j true) := by
  intro k o hk hl e he hb
  refine getD_set_true ?_
  by_cases hkj : k = j
  · subst hkj
    obtain ⟨_, o', ho', hall⟩ := mem_ready.1 hj
    rw [ho'] at hk
    cases hk
    exact hall e he hb
  · have : (L.setIfInBounds j true).getD k false = L.getD k false := getD_set_ne false (Ne.symm hkj)
    exact h k o hk (this ▸ hl) e he hb
/-- Each but the last comes ahead of a later one. -/
def domOk (ops : Array Oper) : Bool := (List.range (ops.size - 1)).all fun i => (List.range ops.size).any fun j => Nat.blt i j && ((ops[j]?).map fun o => o.after.any fun e => Region.binds .any e && e.on == i).getD false
theorem dom_next (hd : domOk ops = true) {i : Nat} (hi : i + 1 < ops.size) : ∃ j o, i < j ∧ j < ops.size ∧ ops[j]? = some o ∧ ∃ e ∈ o.after, Region.binds .any e = true ∧ e.on = i := by
  unfold domOk at hd
  rw [List.all_eq_true] at hd
  have h1 := hd i (by rw [List.mem_range]; omega)
  rw [List.any_eq_true] at h1
  obtain ⟨j, hj, h2⟩ := h1
  rw [List.mem_range] at hj
  simp only [Bool.and_eq_true, Nat.blt_eq] at h2
  obtain ⟨h2, h3⟩ := h2
  cases ho : ops[j]? with
  | none => rw [ho] at h3; cases h3
  | some o =>
    rw [ho] at h3
    simp only [Option.map_some, Option.getD_some, Array.any_eq_true, Bool.and_eq_true, beq_iff_eq] at h3
    obtain ⟨m, hm, hb, hon⟩ := h3
    exact ⟨j, o, h2, hj, ho, _, Array.getElem_mem hm, hb, hon⟩
theorem dom_all (hd : domOk ops = true) {L : Array Bool} (hL : Down ops L) (hz : ops.size - 1 ∈ Region.ready .any ops L) : ∀ m i, ops.size - 1 - i = m → i + 1 < ops.size → L.getD i false = true := by
  intro m
  induction m using Nat.strongRecOn with
  | _ m ih =>
    intro i hm hi
    obtain ⟨j, o, hij, hj, ho, e, he, hb, hon⟩ := dom_next hd hi
    subst hon
    by_cases hjz : j = ops.size - 1
    · subst hjz
      obtain ⟨_, o', ho', hall⟩ := mem_ready.1 hz
      rw [ho'] at ho
      cases ho
      exact hall e he hb
    · exact hL j o ho (ih _ (by omega) j rfl (by omega)) e he hb
theorem getD_ff {L : Array Bool} {i : Nat} (h : L.getD i true = false) : L.getD i false = false := by
  rw [Array.getD_eq_getD_getElem?] at h ⊢
  cases hq : L[i]? with
  | none => rfl
  | some b => rw [hq] at h; exact h
theorem anyZ_first {D : World → Prop} {Q : Act → World → Prop} {i : Nat} {oi : Oper} {v : Value} (hd : domOk ops = true) (hiz : i + 1 < ops.size) (hi : ops[i]? = some oi) (hsel : ∀ (j : Nat) (o : Oper) cs b, ops[j]? = some o → o.op ≠ .select cs b) :
    ∀ (fuel : Nat) (listed : Array Bool) (a : Act) (w : World), D w → Down ops listed →
      (∀ j oj, ops[j]? = some oj → j ≠ i → listed.getD j true = false → (∀ e ∈ oj.after, Region.binds .any e = true → e.on ≠ i) → oi.apart ops oj = true) →
      i ∈ Region.ready .any ops listed → YieldsD P ops D oi v a →
      anyZ P ops D (ops.size - 1) Q fuel (listed.setIfInBounds i true) (a.put oi.dst v) w → anyZ P ops D (ops.size - 1) Q (fuel + 1) listed a w := by
  intro fuel
  induction fuel with
  | zero =>
    intro listed a w hDw _ _ hr hy H
    refine ⟨fun h => (by rw [h] at hr; cases hr), fun j hj => ?_⟩
    by_cases hji : j = i
    · subst hji; exact hy.wpOp hi hDw ⟨.inr hDw, H⟩
    · have := ready_mono hj hji
      rw [H.1] at this
      cases this
  | succ fuel ih =>
    intro listed a w hDw hdn hfree hr hy H
    refine ⟨fun h => (by rw [h] at hr; cases hr), fun j hj => ?_⟩
    by_cases hji : j = i
    · subst hji; exact hy.wpOp hi hDw ⟨.inr hDw, H⟩
    · have hjz : j ≠ ops.size - 1 := fun h => by
        subst h
        have h1 := dom_all hd hdn hj _ i rfl hiz
        have h0 := getD_ff (mem_ready.1 hr).1
        rw [h1] at h0
        cases h0
      have h1 := H.2 j (ready_mono hj hji)
      obtain ⟨hjun, oj, hoj, hall⟩ := mem_ready.1 hj
      have hnot : ∀ e ∈ oj.after, Region.binds .any e = true → e.on ≠ i := fun e he hb heq => by
        have h1 := hall e he hb
        have h0 := (mem_ready.1 hr).1
        rw [heq] at h1
        rw [getD_ff h0] at h1
        cases h1
      have h2 := wpOp_putD hoj (hfree j oj hoj hji hjun hnot) (fun cs b => hsel i oi cs b hi) (fun cs b => hsel j oj cs b hoj) hy h1
      have hfree' : ∀ k ok, ops[k]? = some ok → k ≠ i → (listed.setIfInBounds j true).getD k true = false →
          (∀ e ∈ ok.after, Region.binds .any e = true → e.on ≠ i) → oi.apart ops ok = true := fun k ok hk hki hun hno => by
        refine hfree k ok hk hki ?_ hno
        by_cases hjk : j = k
        · subst hjk; exact hjun
        · rw [getD_set_ne true hjk] at hun; exact hun
      refine wpOp_mono (fun a' w' h3 => ?_) h2
      have hDw' : D w' := h3.2.1.resolve_left hjz
      refine ⟨.inr hDw', ih (listed.setIfInBounds j true) a' w' hDw' (hdn.set hj) hfree' (ready_mono hr (Ne.symm hji)) h3.1 ?_⟩
      rw [Array.setIfInBounds_comm _ _ hji]
      exact h3.2.2
def planOkZ (ops : Array Oper) : Nat → Array Bool → Plan → Bool
  | _ + 1, listed, .nil => (Region.ready .any ops listed == [ops.size - 1]) && (Region.ready .any ops (listed.setIfInBounds (ops.size - 1) true)).isEmpty
  | n + 1, listed, .q i k => Nat.blt (i + 1) ops.size && Region.free .any ops listed i && (Region.ready .any ops listed).contains i && planOkZ ops n (listed.setIfInBounds i true) k
  | n + 1, listed, .e i k => (Region.ready .any ops listed == [i]) && planOkZ ops n (listed.setIfInBounds i true) k
  | n + 1, listed, .two i j k h => (Region.ready .any ops listed == [i, j]) && planOkZ ops n (listed.setIfInBounds i true) k && planOkZ ops n (listed.setIfInBounds j true) h
  | 0, _, _ => false
theorem planW.anyZ {Q : Act → World → Prop} (hs : Region.noSelect ops = true) (hd : domOk ops = true) : ∀ (n : Nat) (ix : Plan) (D : World → Prop) (listed : Array Bool) (a : Act) (w : World), planOkZ ops n listed ix = true → D w → Down ops listed →
    planW P ops (fun a w => wpOp P ops NoExit (ops.size - 1) Q a w) ix D a w → Proofs.Ytmkijjmbiiiicaa.anyZ P ops D (ops.size - 1) Q n listed a w
  | 0, .nil, _, _, _, _, hok, _, _, _ => by cases hok
  | n + 1, .nil, D, listed, a, w, hok, hD, hdn, h => by
    simp only [planOkZ, Bool.and_eq_true, beq_iff_eq, List.isEmpty_iff] at hok
    refine ⟨fun h0 => (by rw [hok.1] at h0; cases h0), fun j hj => ?_⟩
    rw [hok.1] at hj
    simp only [List.mem_singleton] at hj
    subst hj
    refine wpOp_mono (fun a' w' hq => ⟨.inl rfl, ?_⟩) h
    cases n with
    | zero => exact ⟨hok.2, hq⟩
    | succ n => exact ⟨fun _ => hq, fun i hi => by rw [hok.2] at hi; cases hi⟩
  | n + 1, .q i ix, D, listed, a, w, hok, hD, hdn, ⟨o, v, hi, hy, h⟩ => by
    simp only [planOkZ, Bool.and_eq_true, Nat.blt_eq] at hok
    have hrd : i ∈ Region.ready .any ops listed := by simpa using hok.1.2
    exact anyZ_first hd hok.1.1.1 hi (Region.noSelect_spec hs) n listed a w hD hdn (Region.free_spec hi hok.1.1.2) hrd hy (planW.anyZ hs hd n ix D _ _ _ hok.2 hD (hdn.set hrd) h)
  | n + 1, .e i ix, D, listed, a, w, hok, hD, hdn, h => by
    simp only [planOkZ, Bool.and_eq_true, beq_iff_eq] at hok
    refine ⟨fun h0 => (by rw [hok.1] at h0; cases h0), fun j hj => ?_⟩
    have hj0 := hj
    rw [hok.1] at hj
    simp only [List.mem_singleton] at hj
    subst hj
    exact wpOp_mono (fun a' w' ⟨D', hD', hw', h'⟩ => ⟨.inr (hD' _ hw'), anyZ.mono hD' _ _ _ _ (planW.anyZ hs hd n ix D' _ a' w' hok.2 hw' (hdn.set hj0) h')⟩) h
  | n + 1, .two i j k m, D, listed, a, w, hok, hD, hdn, h => by
    simp only [planOkZ, Bool.and_eq_true, beq_iff_eq] at hok
    refine ⟨fun h0 => (by rw [hok.1.1] at h0; cases h0), fun r hr => ?_⟩
    have hr0 := hr
    rw [hok.1.1] at hr
    simp only [List.mem_cons, List.not_mem_nil, or_false] at hr
    rcases hr with rfl | rfl
    · exact wpOp_mono (fun a' w' ⟨D', hD', hw', h'⟩ => ⟨.inr (hD' _ hw'), anyZ.mono hD' _ _ _ _ (planW.anyZ hs hd n k D' _ a' w' hok.1.2 hw' (hdn.set hr0) h')⟩) h.1
    · exact wpOp_mono (fun a' w' ⟨D', hD', hw', h'⟩ => ⟨.inr (hD' _ hw'), anyZ.mono hD' _ _ _ _ (planW.anyZ hs hd n m D' _ a' w' hok.2 hw' (hdn.set hr0) h')⟩) h.2
theorem down_none (n : Nat) : Down ops (Array.replicate n false) := by
  intro k o _ h
  rw [Array.getD_eq_getD_getElem?, Array.getElem?_replicate] at h
  split at h <;> cases h
theorem wp_region_planZ {id : Nat} {a : Act} {w : World} {Q : Exit → Act → World → Prop} (D : World → Prop) (ix : Plan) (hm : P.follows .mixedOrders = true)
    (hok : (Region.noSelect ops && domOk ops && planOkZ ops ops.size (Array.replicate ops.size false) ix) = true) (hD : D w.drew)
    (h : planW P ops (fun a w => wpOp P ops NoExit (ops.size - 1) (Q .normal) a w) ix D a w.drew) : (Code.region id ops true).wp P Q a w := by
  simp only [Bool.and_eq_true] at hok
  refine wp_region_any hm ?_
  exact anyZ.wpAny _ _ _ _ (planW.anyZ hok.1.1 hok.1.2 _ ix D _ a _ hok.2 hD (down_none _) h)
end
end Go.Proofs.Ytmkijjmbiiiicaa
namespace Go.Proofs.Ytmkijjmbiiiicaa.A
open Go.RowKit
section
variable {P : Program} {n : Nat} {W : Wd} {σ : Blks} {l : Slots} {o : Oper} {ops : Array Oper} {Q : Exit → Act → World → Prop}
/-- What is to be shown ahead of a region's last operation. -/
def LastOp (P : Program) (ops : Array Oper) (Q : Exit → Act → World → Prop) : Exit → Act → World → Prop := fun _ a w => wpOp P ops NoExit (ops.size - 1) (Q .normal) a w
theorem SC.drawZ {id : Nat} (X : List Nat) (ix : Plan) (hm : P.follows .mixedOrders = true)
    (hok : (Region.noSelect ops && domOk ops && planOkZ ops ops.size (Array.replicate ops.size false) ix) = true) (h : SX P ops ix X (St n W σ l) (LastOp P ops Q)) : SC P (.region id ops true) (St n W σ l) Q := fun a w hs =>
  wp_region_planZ (fun w' => Ext X w.drew w') ix hm hok (Ext.refl _) (h a _ hs.drew)
theorem SE.effZ {Y : List Nat} {R : Abs → Blks → Prop} (hi : ops[ops.size - 1]? = some o) (hv : Eff P n W σ l Y o R) (hg : gd ops l o = some true) (hd : lt? o.dst n = true)
    (k : ∀ y τ, R y τ → SE .normal (St n W τ (put? l o.dst y)) Q) : SE .normal (St n W σ l) (LastOp P ops Q) := fun a w hs => by
  unfold LastOp wpOp
  simp only [hi, hs.wanted hg, if_true]
  refine .inl ?_
  unfold Oper.wp
  obtain ⟨v, w', y, τ, hR, hx, hr, hm, hc, hrun | ⟨rfl, hrun⟩⟩ := hv a w hs
  · rw [hrun]; exact k _ _ hR _ _ ((hs.to hm hc).put hd hr)
  · rw [hrun]; exact k _ _ hR _ _ ((hs.to hm hc).put hd hr)
end

abbrev Wo := BitVec 32
/-- A word's value. -/
def u32 (p : Wo) : Abs := .v (.int .u32 (p.toNat : Nat))
theorem putL_whole {L ys : List Abs} (h : ys.length = L.length) : putL L 0 ys = ys := by
  rw [putL_eq _ _ _ (Nat.zero_le _), Nat.zero_add, h]
  simp
section
variable {P : Program} {n : Nat} {W : Wd} {σ τ : Blks} {l : Slots} {X : List Nat} {x y z : Operand} {d : Option Nat} {ty t t' e : TypeId} {pos : String} {aft : Array Edge} {g : Option (Nat × Bool)} {k k' : IntKind} {b : Nat} {A B : Abs} {tab : List (Nat × TI)} {ops : Array Oper} {rest : List Oper} {Q : Exit → Act → World → Prop} {p q : Wo}
/-- A new block in a region that draws: what follows may change it. -/
theorem SX.alloc {ix : Plan} (hT : TabOk P tab) {i : TI} {j : Nat} (ht : ti tab t = some i) (hi : ops[j]? = some ⟨d, .alloc t, ty, pos, aft, g⟩) (hg : gd ops l ⟨d, .alloc t, ty, pos, aft, g⟩ = some true) (hd : lt? d n = true)
    (k : ∀ b, SX P ops ix (b :: X) (St n W (.blk b t (zabs i.zero) :: σ) (put? l d (.v (.pointer (some ⟨b, 0, none⟩))))) Q) : SX P ops (.e j ix) X (St n W σ l) Q := fun a w hs => by
  unfold planW wpOp
  simp only [hi, hs.wanted hg, if_true]
  refine .inl ?_
  unfold Oper.wp
  obtain ⟨zv, hz, hc⟩ := (hT t _ ht).zeroValue (w := w)
  obtain ⟨h1, h2⟩ := hs.mem.alloc t (reps_zabs i.zero)
  have hrun : (execOp a.eval ⟨d, .alloc t, ty, pos, aft, g⟩).run P w = .ok (.value (.pointer (some ⟨w.heap.size, 0, none⟩))) (w.alloc (row t i.zero)) := by
    simp [execOp, Instr.alloc, Sem.run_bind, hz, Result.andThen, newVar, newRow, newObj, Sem.run, hc, row]
  rw [hrun]
  refine ⟨fun w2 => Ext (w.heap.size :: X) (w.alloc (row t i.zero)) w2, fun w2 h3 => ((Ext.refl w).alloc _).trans (h3 : Ext (w.heap.size :: X) _ w2) fun x hx => ?_, Ext.refl _, k _ _ _ ((hs.to h1 h2).put hd (show rep _ _ (.v (.pointer (some ⟨w.heap.size, 0, none⟩))) _ from rfl))⟩
  rcases List.mem_cons.1 hx with rfl | hx
  · exact .inr (Nat.le_refl _)
  · exact .inl hx
/-- A call that takes the two pieces on top. -/
theorem After.two {ι : Type} {x1 x2 : It} {β : Blks} {τ' : ι → Blks} {y1 y2 : ι → It} {K : Blks → ι → Prop} (hr : x1.rids = [] ∧ x2.rids = []) (hτ : ∀ z, τ' z = [y1 z, y2 z]) (k : ∀ z, K (y1 z :: y2 z :: β) z) : After (x1 :: x2 :: β) [x1, x2] τ' K :=
  After.mid [] (β := β) rfl (by intro x hx; simp only [List.mem_cons, List.not_mem_nil, or_false] at hx; rcases hx with rfl | rfl; exact hr.1; exact hr.2) fun z => by rw [hτ z]; exact k z
theorem SE.perm {ex : Exit} (h : τ.Perm σ) (k : SE ex (St n W τ l) Q) : SE ex (St n W σ l) Q := fun a w hs => k a w (hs.perm h)
theorem SE.swap {ex : Exit} {x y : It} (k : SE ex (St n W (y :: x :: σ) l) Q) : SE ex (St n W (x :: y :: σ) l) Q := SE.perm (List.Perm.swap x y σ) k
end
section
variable {P : Program} {n : Nat} {W : Wd} {σ : Blks} {l : Slots} {X : List Nat} {x : Operand} {d : Option Nat} {ty t t' e tp : TypeId} {pos : String} {aft : Array Edge} {gq : Option (Nat × Bool)} {A : Abs} {ms : Array (String × TypeId)} {ops : Array Oper} {rest : List Oper} {Q : Exit → Act → World → Prop} {s : Nat} {xs : List (List Abs)}
/-- Is an interface's value nil? -/
theorem Val.ifaceNil (hi : P.underlying t = some (.interface ms)) (hx : look l x = some (.ifc tp A)) : Val P n W σ l X ⟨d, .binOp .eql t x (.const .nilIface) t', ty, pos, aft, gq⟩ (.v (.bool false)) := fun a w hs _ => by
  obtain ⟨u, h1, h2⟩ := hs.eval hx
  refine ⟨_, rfl, fun w' _ => ?_⟩
  have h : ∀ d : Nat, (Op.equalIn (d + 1) t (.iface tp u) .nilIface).run P w' = .ok false w' := fun d => by simp [Op.equalIn, run_underlying hi]
  have h3 : (binOp .eql t (.iface tp u) .nilIface).run P w' = .ok (.bool false) w' := by
    simp only [binOp]
    simp [Op.equal, Op.maxDepth, h 9999]
  have e : a.eval (.const .nilIface) = .nilIface := rfl
  simp [execOp, h1, e, eqGuard, h3]
/-- Is a slice nil? Then it is empty. -/
theorem SL.eqNil (ht : P.underlying t = some (.slice e)) (hx : look l x = some (.sl s xs)) (hg : gd ops l ⟨d, .binOp .eql t x (.const (.slice none 0 0)) t', ty, pos, aft, gq⟩ = some true) (hd : lt? d n = true)
    (k : ∀ b : Bool, (b = true → xs = []) → SL P ops rest (St n W σ (put? l d (.v (.bool b)))) Q) : SL P ops (⟨d, .binOp .eql t x (.const (.slice none 0 0)) t', ty, pos, aft, gq⟩ :: rest) (St n W σ l) Q := fun a w hs =>
  wpList_step fun K hK => by
    rw [if_pos (hs.wanted hg)]
    unfold Oper.wp
    obtain ⟨us, hr, h2⟩ := hs.eval hx
    obtain ⟨A', c, h1, h3, h4, h5⟩ := hr.shape
    have e1 : a.eval (.const (.slice none 0 0)) = .slice none 0 0 := rfl
    have hrun : (binOp .eql t (.slice A' xs.length c) (.slice none 0 0)).run P w = .ok (.bool A'.isNone) w := by
      have h : ∀ d : Nat, (Op.equalIn (d + 1) t (.slice A' xs.length c) (.slice none 0 0)).run P w = .ok A'.isNone w := fun d => by cases A' <;> simp [Op.equalIn, run_underlying ht]
      simp only [binOp]
      simp [Op.equal, Op.maxDepth, h 9999]
    have hrun2 : (execOp a.eval ⟨d, .binOp .eql t x (.const (.slice none 0 0)) t', ty, pos, aft, gq⟩).run P w = .ok (.value (.bool A'.isNone)) w := by simp [execOp, h1, e1, eqGuard, hrun]
    rw [hrun2]
    refine hK _ _ (k A'.isNone (fun hb => ?_) _ _ (hs.put hd (show rep _ _ (.v (.bool A'.isNone)) _ from rfl)))
    cases A' with
    | none =>
      have := h5 rfl
      exact List.length_eq_zero_iff.1 (by omega)
    | some A' => cases hb
end
end Go.Proofs.Ytmkijjmbiiiicaa.A
/-
  Replies, plain: what they are as bytes, and read out of bytes.
-/
set_option maxRecDepth 100000
set_option linter.unusedSimpArgs false
set_option linter.unusedVariables false
namespace Go.Proofs.Ytmkijjmbiiiicaa.A
open Go.RowKit

structure Rp where
  view : Int
  client : Int
  stamp : Int
  result : Int
def Rp.abs (r : Rp) : List Abs := [int r.view, int r.client, int r.stamp, int r.result]
def Rp.zero : Rp := ⟨0, 0, 0, 0⟩
def Rp.bytes (r : Rp) : List UInt8 := beBytes (u64 r.view) 8 ++ beBytes (u64 r.client) 1 ++ beBytes (u64 r.stamp) 8 ++ beBytes (u64 r.result) 1
theorem Rp.bytes_length (r : Rp) : r.bytes.length = 18 := by
  unfold Rp.bytes
  simp only [List.length_append, beBytes_length]
def Rp.fits (r : Rp) (n : Int) : Bool := decide (((0 ≤ r.view ∧ r.view ≤ 1048576) ∧ (n ≤ r.client ∧ r.client ≤ n + 3)) ∧ ((1 ≤ r.stamp ∧ r.stamp ≤ 1099511627776) ∧ r.result ≤ 99))
/-- What is read, whatever it is. -/
def Rp.of (l : List UInt8) : Rp := ⟨IntKind.i64.wrap ((Rd.of l).num 8 : Nat), (((Rd.of l).fixed 8).num 1 : Nat), IntKind.i64.wrap ((((Rd.of l).fixed 8).fixed 1).num 8 : Nat), (((((Rd.of l).fixed 8).fixed 1).fixed 8).num 1 : Nat)⟩
def Rd.last (l : List UInt8) : Rd := ((((Rd.of l).fixed 8).fixed 1).fixed 8).fixed 1
def parseR (l : List UInt8) (n : Int) : Rp × Int :=
  if n < 1 ∨ 7 < n then (Rp.zero, 1) else if (Rd.last l).end_ ≠ 0 then (Rp.zero, 2) else if (Rp.of l).fits n = true then (Rp.of l, 0) else (Rp.zero, 5)
theorem parseR_out {l : List UInt8} {n : Int} (h : n < 1 ∨ 7 < n) : parseR l n = (Rp.zero, 1) := if_pos h
theorem parseR_form {l : List UInt8} {n : Int} (h : ¬ (n < 1 ∨ 7 < n)) (h2 : (Rd.last l).end_ ≠ 0) : parseR l n = (Rp.zero, 2) := by
  unfold parseR
  rw [if_neg h, if_pos h2]
theorem parseR_odd {l : List UInt8} {n : Int} (h : ¬ (n < 1 ∨ 7 < n)) (h2 : ¬ (Rd.last l).end_ ≠ 0) (h3 : (Rp.of l).fits n = false) : parseR l n = (Rp.zero, 5) := by
  unfold parseR
  rw [if_neg h, if_neg h2, if_neg (by rw [h3]; decide)]
theorem parseR_ok {l : List UInt8} {n : Int} (h : ¬ (n < 1 ∨ 7 < n)) (h2 : ¬ (Rd.last l).end_ ≠ 0) (h3 : (Rp.of l).fits n = true) : parseR l n = (Rp.of l, 0) := by
  unfold parseR
  rw [if_neg h, if_neg h2, if_pos h3]
/-- A request without endorsements, as bytes. -/
def askB (c : Core) : List UInt8 := beBytes c.bytes.length 4 ++ c.bytes ++ beBytes 0 2
theorem askB_length (c : Core) : (askB c).length = c.bytes.length + 6 := by
  unfold askB
  simp only [List.length_append, beBytes_length]
  omega
end Go.Proofs.Ytmkijjmbiiiicaa.A
/-
  Tags and messages, as trees.
-/
set_option maxRecDepth 100000
set_option linter.unusedSimpArgs false
set_option linter.unusedVariables false
namespace Go.Proofs.Ytmkijjmbiiiicaa.A
open Go.RowKit

/-- A tag. -/
structure Tg where
  d : List UInt8
  len : d.length = 32
def Tg.abs (t : Tg) : List Abs := digA t.d
theorem Tg.size (t : Tg) : t.abs.length = 32 := by simp [Tg.abs, digA, t.len]
theorem Tg.same {s t : Tg} (h : s.d = t.d) : s = t := by
  obtain ⟨a, _⟩ := s
  obtain ⟨b, _⟩ := t
  dsimp only at h
  subst h
  rfl
/-- A message. -/
structure Msg where
  kind : Int
  from_ : Int
  body : List UInt8
  tags : List Tg
def Msg.abs (m : Msg) : List Abs := [int m.kind, int m.from_, byt m.body, .sl 32 (m.tags.map Tg.abs)]
end Go.Proofs.Ytmkijjmbiiiicaa.A
/-
  Maps of the program's own, as lists of pairs: look up, store, delete, length.
-/
set_option maxRecDepth 100000
namespace Go.Proofs.Ytmkijjmbiiiicaa
open Go.RowKit

section
variable {α β : Type} [DecidableEq α]
def aget (m : List (α × β)) (a : α) : Option β := (m.find? fun p => decide (p.1 = a)).map (·.2)
def aput (m : List (α × β)) (a : α) (b : β) : List (α × β) := if (aget m a).isSome then m.map fun p => if p.1 = a then (a, b) else p else m ++ [(a, b)]
def adel (m : List (α × β)) (a : α) : List (α × β) := m.filter fun p => decide (p.1 ≠ a)
theorem aget_isSome (m : List (α × β)) (a : α) : (aget m a).isSome = true ↔ a ∈ m.map (·.1) := by
  unfold aget
  rw [Option.isSome_map, List.find?_isSome]
  simp
theorem aget_none (m : List (α × β)) (a : α) : aget m a = none ↔ a ∉ m.map (·.1) := by
  rw [← aget_isSome]
  cases aget m a <;> simp
theorem aput_keys (m : List (α × β)) (a : α) (b : β) : (aput m a b).map (·.1) = if a ∈ m.map (·.1) then m.map (·.1) else m.map (·.1) ++ [a] := by
  unfold aput
  by_cases h : a ∈ m.map (·.1)
  · rw [if_pos ((aget_isSome m a).2 h), if_pos h, List.map_map]
    apply List.map_congr_left
    intro p _
    simp only [Function.comp]
    split
    · rename_i h1; exact h1.symm
    · rfl
  · rw [if_neg (fun hc => h ((aget_isSome m a).1 hc)), if_neg h]
    simp
theorem aput_nodup {m : List (α × β)} (hm : (m.map (·.1)).Nodup) (a : α) (b : β) : ((aput m a b).map (·.1)).Nodup := by
  rw [aput_keys]
  split
  · exact hm
  · rename_i h
    rw [List.nodup_append]
    exact ⟨hm, by simp, by intro x hx y hy; simp at hy; subst hy; rintro rfl; exact h hx⟩
theorem aget_aput (m : List (α × β)) (a c : α) (b : β) : aget (aput m a b) c = if c = a then some b else aget m c := by
  unfold aput
  by_cases h : (aget m a).isSome = true
  · rw [if_pos h]
    have hmap : ∀ (m : List (α × β)), ((m.map fun p => if p.1 = a then (a, b) else p).find? fun p => decide (p.1 = c)).map (·.2) = if c = a then (if a ∈ m.map (·.1) then some b else none) else aget m c := by
      intro m
      induction m with
      | nil => simp [aget]
      | cons p m ih =>
        simp only [List.map_cons, List.find?_cons]
        by_cases hp : p.1 = a
        · rw [if_pos hp]
          by_cases hc : c = a
          · subst hc; simp [hp]
          · have hac : ¬ a = c := fun h => hc h.symm
            simp only [hac, decide_false, if_neg hc]
            rw [ih, if_neg hc]
            unfold aget
            simp [hp, hac]
        · rw [if_neg hp]
          by_cases hpc : p.1 = c
          · have hca : ¬ c = a := fun h => hp (hpc.trans h)
            simp [hpc, hca, aget]
          · simp only [hpc, decide_false]
            rw [ih]
            by_cases hca : c = a
            · subst hca
              rw [if_pos rfl, if_pos rfl]
              have : (c ∈ p.1 :: m.map (·.1)) ↔ c ∈ m.map (·.1) := by
                simp only [List.mem_cons]
                constructor
                · rintro (h1 | h1)
                  · exact absurd h1.symm hp
                  · exact h1
                · exact Or.inr
              by_cases hin : c ∈ m.map (·.1)
              · rw [if_pos hin, if_pos (this.2 hin)]
              · rw [if_neg hin, if_neg (fun hh => hin (this.1 hh))]
            · rw [if_neg hca, if_neg hca]
              unfold aget
              simp [hpc]
    have h0 := hmap m
    rw [if_pos ((aget_isSome m a).1 h)] at h0
    exact h0
  · rw [if_neg h]
    unfold aget
    rw [List.find?_append]
    by_cases hc : c = a
    · subst hc
      have hn : aget m c = none := by cases hg : aget m c <;> simp_all
      have hf : (m.find? fun p => decide (p.1 = c)) = none := by
        unfold aget at hn
        simpa using hn
      rw [hf]
      simp
    · have hac : ¬ a = c := fun h => hc h.symm
      simp [hac, hc]
theorem aput_length (m : List (α × β)) (a : α) (b : β) : (aput m a b).length = if (aget m a).isSome then m.length else m.length + 1 := by
  unfold aput
  split <;> simp
theorem adel_nodup {m : List (α × β)} (hm : (m.map (·.1)).Nodup) (a : α) : ((adel m a).map (·.1)).Nodup :=
  hm.sublist ((List.filter_sublist).map _)
theorem aget_adel (m : List (α × β)) (a c : α) : aget (adel m a) c = if c = a then none else aget m c := by
  unfold aget adel
  induction m with
  | nil => simp
  | cons p m ih =>
    rw [List.filter_cons]
    by_cases hp : p.1 = a
    · simp only [hp, ne_eq, not_true_eq_false, decide_false, Bool.false_eq_true, if_false]
      rw [ih]
      by_cases hc : c = a
      · simp [hc]
      · rw [if_neg hc, if_neg hc]
        have : ¬ p.1 = c := fun h => hc (h.symm.trans hp)
        simp [this]
    · simp only [hp, ne_eq, not_false_eq_true, decide_true, if_true]
      rw [List.find?_cons, List.find?_cons]
      by_cases hpc : p.1 = c
      · have : ¬ c = a := fun h => hp (hpc.trans h)
        simp [hpc, this]
      · simp only [hpc, decide_false]
        exact ih
end

/-- What the laws ask of a key type and of how keys stand in it. -/
structure KeyFit {α : Type} (P : Program) (k : TypeId) (K : α → Value) (Good : α → Prop) : Prop where
  keyed : Maps.Keyed P k
  lit : ∀ a, Good a → ∃ l, keyOf P k (K a) = some l
  inj : ∀ a b, Good a → Good b → K a = K b → a = b

/-- Block b is a map that holds the pairs m. -/
def MapOf {α β : Type} (w : World) (b : Nat) (K : α → Value) (V : β → Value) (Good : α → Prop) (m : List (α × β)) : Prop :=
  ∃ es clock, w.heap[b]? = some (.map es clock) ∧ es.toList.map (fun e => (e.key, e.val)) = m.map (fun p => (K p.1, V p.2)) ∧ (m.map (·.1)).Nodup ∧ (∀ p ∈ m, Good p.1) ∧
    (∀ e ∈ es.toList, e.born < clock) ∧ (es.toList.map (·.born)).Nodup

section
variable {α β : Type} {P : Program} {w w' : World} {b : Nat} {k e t : TypeId} {K : α → Value} {V : β → Value} {Good : α → Prop} {m : List (α × β)}

theorem MapOf.lt (h : MapOf w b K V Good m) : b < w.heap.size := by
  obtain ⟨es, clock, hb, _⟩ := h
  rcases Nat.lt_or_ge b w.heap.size with hlt | hge
  · exact hlt
  · rw [Array.getElem?_eq_none hge] at hb; cases hb
theorem MapOf.ext {F : List Nat} (h : MapOf w b K V Good m) (hx : Ext F w w') (hb : b ∉ F) : MapOf w' b K V Good m := by
  have hl := h.lt
  obtain ⟨es, clock, h1, h2⟩ := h
  exact ⟨es, clock, (hx.block b hl hb).trans h1, h2⟩
theorem MapOf.new (w : World) : MapOf (w.alloc (.map #[] 0)) w.heap.size K V Good [] :=
  ⟨#[], 0, heap_alloc_new w _, rfl, by simp, by simp, by simp, by simp⟩
theorem MapOf.alloc (h : MapOf w b K V Good m) (o : Obj) : MapOf (w.alloc o) b K V Good m := h.ext ((Ext.refl (F := []) _).alloc _) (by simp)
theorem MapOf.nodup (h : MapOf w b K V Good m) : (m.map (·.1)).Nodup := by obtain ⟨_, _, _, _, h, _⟩ := h; exact h
theorem map_entry {es : List MapEntry} (he : es.map (fun e => (e.key, e.val)) = m.map (fun p => (K p.1, V p.2))) {j : Nat} {x : MapEntry} (hx : es[j]? = some x) : ∃ p, m[j]? = some p ∧ x.key = K p.1 ∧ x.val = V p.2 := by
  have h1 : (es.map (fun e => (e.key, e.val)))[j]? = some (x.key, x.val) := by rw [List.getElem?_map, hx]; rfl
  rw [he, List.getElem?_map] at h1
  cases hm : m[j]? with
  | none => rw [hm] at h1; cases h1
  | some p =>
    rw [hm] at h1
    simp at h1
    exact ⟨p, rfl, h1.1.symm, h1.2.symm⟩

variable [DecidableEq α]
/-- Where the key is found. -/
theorem find_run (kf : KeyFit P k K Good) {es : List MapEntry} (he : es.map (fun e => (e.key, e.val)) = m.map (fun p => (K p.1, V p.2))) (hg : ∀ p ∈ m, Good p.1) (hnd : (m.map (·.1)).Nodup) {a : α} (ha : Good a) (w : World) :
    (aget m a = none ∧ (Instr.findKey k (K a) es).run P w = .ok none w) ∨
    ∃ j v, m[j]? = some (a, v) ∧ aget m a = some v ∧ (Instr.findKey k (K a) es).run P w = .ok (some (j, V v)) w := by
  obtain ⟨l, hl⟩ := kf.lit a ha
  have hall : ∀ x ∈ es, ∃ l, keyOf P k x.key = some l := by
    intro x hx
    obtain ⟨j, hj⟩ := List.getElem?_of_mem hx
    obtain ⟨p, hp, hk, _⟩ := map_entry he hj
    rw [hk]
    exact kf.lit _ (hg p (List.mem_of_getElem? hp))
  rcases kf.keyed.find w hl es hall with ⟨hrun, hne⟩ | ⟨j, x, hrun, hj, hk⟩
  · refine .inl ⟨?_, hrun⟩
    rw [aget_none]
    intro hin
    simp only [List.mem_map] at hin
    obtain ⟨p, hp, rfl⟩ := hin
    obtain ⟨j, hj⟩ := List.getElem?_of_mem hp
    have h1 : (m.map (fun p => (K p.1, V p.2)))[j]? = some (K p.1, V p.2) := by rw [List.getElem?_map, hj]; rfl
    rw [← he, List.getElem?_map] at h1
    cases hx : es[j]? with
    | none => rw [hx] at h1; cases h1
    | some x =>
      rw [hx] at h1
      simp at h1
      exact hne x (List.mem_of_getElem? hx) h1.1
  · obtain ⟨p, hp, hk2, hv⟩ := map_entry he hj
    have hpa : p.1 = a := kf.inj _ _ (hg p (List.mem_of_getElem? hp)) ha (hk2.symm.trans hk)
    obtain ⟨pa, pv⟩ := p
    dsimp only at hpa hv
    subst hpa
    refine .inr ⟨j, pv, hp, ?_, by rw [← hv]; exact hrun⟩
    unfold aget
    have hfind : m.find? (fun p => decide (p.1 = pa)) = some (pa, pv) := by
      rw [List.find?_eq_some_iff_append]
      refine ⟨by simp, ?_⟩
      have hjl := (List.getElem?_eq_some_iff.1 hp)
      obtain ⟨hjl, hje⟩ := hjl
      refine ⟨m.take j, m.drop (j + 1), ?_, ?_⟩
      · rw [← hje, List.getElem_cons_drop, List.take_append_drop]
      · intro q hq
        simp only [Bool.not_eq_true', decide_eq_false_iff_not]
        intro hqa
        obtain ⟨i, hi⟩ := List.getElem?_of_mem hq
        rw [List.getElem?_take] at hi
        split at hi
        · rename_i hij
          have h1 : (m.map (·.1))[i]? = some pa := by rw [List.getElem?_map, hi]; simp [hqa]
          have h2 : (m.map (·.1))[j]? = some pa := by rw [List.getElem?_map, hp]; rfl
          have hil : i < (m.map (·.1)).length := (List.getElem?_eq_some_iff.1 h1).1
          have := (List.getElem?_inj hil hnd).1 (h1.trans h2.symm)
          omega
        · cases hi
    rw [hfind]
    rfl

theorem MapOf.look_run (h : MapOf w b K V Good m) (kf : KeyFit P k K Good) (ht : P.underlying t = some (.map k e)) {z : Value} (hz : (zeroValue e).run P w = .ok z w) {a : α} (ha : Good a) (c : Bool) :
    (Instr.lookup t (.map (some b)) (K a) c).run P w = .ok (if c then .tuple #[((aget m a).map V).getD z, .bool (aget m a).isSome] else ((aget m a).map V).getD z) w := by
  obtain ⟨es, clock, hb, he, hnd, hg, _⟩ := h
  obtain ⟨l, hl⟩ := kf.lit a ha
  have hgo : (getObj b).run P w = .ok (.map es clock) w := by simp [getObj, Sem.run, hb]
  simp only [Instr.lookup, Sem.run_bind, run_underlying ht, Result.andThen_ok, Sem.run_pure, hgo, kf.keyed.check w es.isEmpty hl]
  rcases find_run kf he hg hnd ha w with ⟨h1, h2⟩ | ⟨j, v, _, h1, h2⟩
  · rw [h1, h2]
    cases c <;> simp [hz]
  · rw [h1, h2]
    cases c <;> simp

theorem Ext.setMap {b : Nat} {es es' : Array MapEntry} {clock clock' : Nat} (_hb : w.heap[b]? = some (.map es clock)) : Ext [b] w { w with heap := w.heap.setIfInBounds b (.map es' clock') } :=
  ⟨rfl, rfl, rfl, by simp, fun k _ hn => by
    have : b ≠ k := fun h => hn (by simp [h])
    simp [this]⟩
theorem heap_setMap {b : Nat} {es es' : Array MapEntry} {clock clock' : Nat} (hb : w.heap[b]? = some (.map es clock)) : ({ w with heap := w.heap.setIfInBounds b (.map es' clock') } : World).heap[b]? = some (.map es' clock') := by
  have hlt : b < w.heap.size := by
    rcases Nat.lt_or_ge b w.heap.size with hlt | hge
    · exact hlt
    · rw [Array.getElem?_eq_none hge] at hb; cases hb
  simp [hlt]
theorem run_getMap {b : Nat} {es : Array MapEntry} {clock : Nat} (hb : w.heap[b]? = some (.map es clock)) : (getObj b).run P w = .ok (.map es clock) w := by simp [getObj, Sem.run, hb]
theorem run_setMap {b : Nat} {es es' : Array MapEntry} {clock clock' : Nat} (hb : w.heap[b]? = some (.map es clock)) : (setObj b (.map es' clock')).run P w = .ok () { w with heap := w.heap.setIfInBounds b (.map es' clock') } := by simp [setObj, Sem.run, hb]

theorem aput_at {m : List (α × β)} (hnd : (m.map (·.1)).Nodup) {j : Nat} {a : α} {v v' : β} (hj : m[j]? = some (a, v)) : aput m a v' = m.set j (a, v') := by
  have hin : (aget m a).isSome = true := (aget_isSome m a).2 (List.mem_map.2 ⟨_, List.mem_of_getElem? hj, rfl⟩)
  unfold aput
  rw [if_pos hin]
  apply List.ext_getElem?
  intro i
  rw [List.getElem?_map, List.getElem?_set]
  have hjl : j < m.length := (List.getElem?_eq_some_iff.1 hj).1
  by_cases hij : j = i
  · subst hij
    rw [if_pos rfl, if_pos hjl, hj]
    simp
  · rw [if_neg hij]
    cases hi : m[i]? with
    | none => rfl
    | some p =>
      simp only [Option.map_some, Option.some.injEq]
      rw [if_neg]
      intro hpa
      have h1 : (m.map (·.1))[i]? = some a := by rw [List.getElem?_map, hi]; simp [hpa]
      have h2 : (m.map (·.1))[j]? = some a := by rw [List.getElem?_map, hj]; rfl
      have hil : i < (m.map (·.1)).length := (List.getElem?_eq_some_iff.1 h1).1
      exact hij ((List.getElem?_inj hil hnd).1 (h1.trans h2.symm)).symm

theorem MapOf.put_run (h : MapOf w b K V Good m) (kf : KeyFit P k K Good) (ht : P.underlying t = some (.map k e)) {a : α} (ha : Good a) (v : β) :
    ∃ w', (Instr.mapUpdate t (.map (some b)) (K a) (V v)).run P w = .ok () w' ∧ MapOf w' b K V Good (aput m a v) ∧ Ext [b] w w' := by
  obtain ⟨es, clock, hb, he, hnd, hg, hborn, hbnd⟩ := h
  obtain ⟨l, hl⟩ := kf.lit a ha
  rcases find_run kf he hg hnd ha w with ⟨h1, h2⟩ | ⟨j, u, hj, h1, h2⟩
  · refine ⟨{ w with heap := w.heap.setIfInBounds b (.map (es.push { key := K a, val := V v, born := clock }) (clock + 1)) }, ?_, ⟨_, _, heap_setMap hb, ?_, aput_nodup hnd a v, ?_, ?_, ?_⟩, Ext.setMap hb⟩
    · simp only [Instr.mapUpdate, Sem.run_bind, run_underlying ht, Result.andThen_ok, run_getMap hb, kf.keyed.check w false hl, h2, run_setMap hb]
    · rw [Array.toList_push, List.map_append, he]
      unfold aput
      rw [if_neg (by rw [h1]; simp)]
      simp
    · intro p hp
      unfold aput at hp
      rw [if_neg (by rw [h1]; simp)] at hp
      simp only [List.mem_append, List.mem_singleton] at hp
      rcases hp with hp | rfl
      · exact hg p hp
      · exact ha
    · intro x hx
      rw [Array.toList_push, List.mem_append, List.mem_singleton] at hx
      rcases hx with hx | rfl
      · have := hborn x hx; omega
      · exact Nat.lt_succ_self _
    · rw [Array.toList_push, List.map_append, List.nodup_append]
      refine ⟨hbnd, by simp, ?_⟩
      intro x hx y hy
      simp at hy
      subst hy
      simp only [List.mem_map] at hx
      obtain ⟨z, hz, rfl⟩ := hx
      have := hborn z hz
      omega
  · have hjl : j < es.toList.length := by
      have h3 := congrArg List.length he
      simp only [List.length_map] at h3
      rw [h3]
      exact (List.getElem?_eq_some_iff.1 hj).1
    have hk : (es[j]?).map (·.key) = some (K a) := by
      rw [← Array.getElem?_toList]
      have h3 : (es.toList.map (fun e => (e.key, e.val)))[j]? = some (K a, V u) := by rw [he, List.getElem?_map, hj]; rfl
      rw [List.getElem?_map] at h3
      cases hx : es.toList[j]? with
      | none => rw [hx] at h3; cases h3
      | some x => rw [hx] at h3; simp at h3; simp [h3.1]
    have hmod : (es.modify j fun e => { e with key := K a, val := V v }).toList = es.toList.modify j fun e => { e with key := K a, val := V v } := by simp
    refine ⟨{ w with heap := w.heap.setIfInBounds b (.map (es.modify j fun e => { e with key := K a, val := V v }) clock) }, ?_, ⟨_, _, heap_setMap hb, ?_, aput_nodup hnd a v, ?_, ?_, ?_⟩, Ext.setMap hb⟩
    · simp only [Instr.mapUpdate, Sem.run_bind, run_underlying ht, Result.andThen_ok, run_getMap hb, kf.keyed.check w false hl, h2, hk, Option.getD_some, kf.keyed.stays w hl, run_setMap hb]
    · rw [hmod, aput_at hnd hj]
      apply List.ext_getElem?
      intro i
      have hei : (es.toList.map (fun e => (e.key, e.val)))[i]? = (m.map (fun p => (K p.1, V p.2)))[i]? := by rw [he]
      rw [List.getElem?_map, List.getElem?_map] at hei
      rw [List.getElem?_map, List.getElem?_map, List.getElem?_modify, List.getElem?_set]
      have hml : j < m.length := (List.getElem?_eq_some_iff.1 hj).1
      by_cases hij : j = i
      · subst hij
        rw [if_pos rfl, if_pos hml, List.getElem?_eq_getElem hjl]
        simp
      · rw [if_neg hij]
        simp only [if_neg hij]
        rw [← hei]
        cases es.toList[i]? <;> rfl
    · intro p hp
      have h4 : p.1 ∈ (aput m a v).map (·.1) := List.mem_map.2 ⟨p, hp, rfl⟩
      rw [aput_keys, if_pos (by rw [← aget_isSome, h1]; rfl)] at h4
      simp only [List.mem_map] at h4
      obtain ⟨q, hq, hqe⟩ := h4
      rw [← hqe]
      exact hg q hq
    · intro x hx
      rw [hmod] at hx
      obtain ⟨i, hi⟩ := List.getElem?_of_mem hx
      rw [List.getElem?_modify] at hi
      cases hx2 : es.toList[i]? with
      | none => rw [hx2] at hi; simp at hi
      | some y =>
        rw [hx2] at hi
        have := hborn y (List.mem_of_getElem? hx2)
        simp at hi
        rw [← hi]
        split <;> exact this
    · have hb2 : (es.toList.modify j fun e => { e with key := K a, val := V v }).map (·.born) = es.toList.map (·.born) := by
        apply List.ext_getElem?
        intro i
        rw [List.getElem?_map, List.getElem?_modify, List.getElem?_map]
        cases es.toList[i]? with
        | none => simp
        | some y => simp only [Option.map_eq_map, Option.map_some]; split <;> rfl
      rw [hmod, hb2]
      exact hbnd

omit [DecidableEq α] in
theorem MapOf.len_run (h : MapOf w b K V Good m) (ht : P.underlying t = some (.map k e)) (ty : TypeId) : (Builtin.len_ #[t] ty #[.map (some b)]).run P w = .ok (.int .i64 m.length) w := by
  obtain ⟨es, clock, hb, he, _⟩ := h
  have h3 := congrArg List.length he
  simp only [List.length_map, Array.length_toList] at h3
  simp [Builtin.len_, Sem.run_bind, run_underlying ht, Result.andThen_ok, run_getMap hb, goInt, h3]
end

section
variable {α β : Type} [DecidableEq α] {P : Program} {w : World} {b : Nat} {k e : TypeId} {K : α → Value} {V : β → Value} {Good : α → Prop} {m : List (α × β)}
variable {ops : Array Oper} {rest : List Oper} {o : Oper} {a : Act} {Q : Exit → Act → World → Prop}
end
def k8 (k : Int) : Nat := (k % 256).toNat
end Go.Proofs.Ytmkijjmbiiiicaa
/-
  The second engine: maps of plain keys and values as pieces of memory.
-/
set_option maxRecDepth 100000
set_option linter.unusedSimpArgs false
set_option linter.unusedVariables false
namespace Go.Proofs.Ytmkijjmbiiiicaa.A
open Go.RowKit

theorem map_same {α β : Type} {w w' : World} {b : Nat} {K : α → Value} {V : β → Value} {Good : α → Prop} {m : List (α × β)} (h : MapOf w b K V Good m) (hb : w'.heap[b]? = w.heap[b]?) : MapOf w' b K V Good m := by
  obtain ⟨es, clock, h1, h2⟩ := h
  exact ⟨es, clock, hb.trans h1, h2⟩
/-- A map as a piece of memory. -/
def mapPc {α β : Type} (b : Nat) (K : α → Value) (V : β → Value) (Good : α → Prop) (m : List (α × β)) : Pc where
  ids := [b]
  p := fun _ w => MapOf w b K V Good m
  carry := fun _ _ _ _ _ hs h => map_same h (hs b (by simp))
  lt := fun _ _ h k hk => by simp at hk; subst hk; exact h.lt
abbrev mapV (b : Nat) : Abs := .v (.map (some b))
section
variable {P : Program} {n : Nat} {W : Wd} {σ τ : Blks} {l : Slots} {X : List Nat} {x y z : Operand} {d : Option Nat} {ty t k e : TypeId} {pos : String} {aft : Array Edge} {g : Option (Nat × Bool)} {b : Nat} {A B C : Abs}
variable {α β : Type} [DecidableEq α] {K : α → Value} {V : β → Value} {Good : α → Prop} {m : List (α × β)} {a : α} {v : β} {zv : Value}
/-- The tree stands for just this value. -/
def Abs.is (A : Abs) (u : Value) : Prop := (∀ K w x, rep K w A x → x = u) ∧ ∀ K w, rep K w A u
theorem is_v {u : Value} : (Abs.v u).is u := ⟨fun _ _ _ h => h, fun _ _ => rfl⟩
omit [DecidableEq α] in
theorem mem_map {w0 w : World} {F G : List Nat} {σ : Blks} (h : Mem w0 F G σ w) (hb : It.pc (mapPc b K V Good m) ∈ σ ∨ It.rdpc (mapPc b K V Good m) ∈ σ) : MapOf w b K V Good m := by
  rcases hb with hb | hb
  · exact h.hold _ hb
  · exact h.hold _ hb
/-- 'v, ok := m[k]'. -/
theorem Val.mapGetOk (kf : KeyFit P k K Good) (ht : P.underlying t = some (.map k e)) (hz : ∀ w, (zeroValue e).run P w = .ok zv w) (hx : look l x = some (mapV b)) (hb : It.pc (mapPc b K V Good m) ∈ σ ∨ It.rdpc (mapPc b K V Good m) ∈ σ) (hbX : b ∉ X)
    (hy : look l y = some A) (hA : A.is (K a)) (ha : Good a) (hC : C.is (((aget m a).map V).getD zv)) : Val P n W σ l X ⟨d, .lookup t x y true, ty, pos, aft, g⟩ (.tup [C, .v (.bool (aget m a).isSome)]) := fun ac w hs _ => by
  have h1 := mem_map hs.mem hb
  have e1 := hs.plain hx
  have e2 := hA.1 _ _ _ (hs.eval hy)
  refine ⟨.tuple #[((aget m a).map V).getD zv, .bool (aget m a).isSome], ⟨_, rfl, _, _, rfl, hC.2 _ _, _, _, rfl, rfl, rfl⟩, fun w' hw' => ?_⟩
  simp only [execOp, e1, e2, Sem.run_bind, (h1.ext hw' hbX).look_run kf ht (hz w') ha true, if_true, Result.andThen_ok, Sem.run_pure]
/-- 'm[k]'. -/
theorem Val.mapGet (kf : KeyFit P k K Good) (ht : P.underlying t = some (.map k e)) (hz : ∀ w, (zeroValue e).run P w = .ok zv w) (hx : look l x = some (mapV b)) (hb : It.pc (mapPc b K V Good m) ∈ σ ∨ It.rdpc (mapPc b K V Good m) ∈ σ) (hbX : b ∉ X)
    (hy : look l y = some A) (hA : A.is (K a)) (ha : Good a) (hC : C.is (((aget m a).map V).getD zv)) : Val P n W σ l X ⟨d, .lookup t x y false, ty, pos, aft, g⟩ C := fun ac w hs _ => by
  have h1 := mem_map hs.mem hb
  have e1 := hs.plain hx
  have e2 := hA.1 _ _ _ (hs.eval hy)
  refine ⟨((aget m a).map V).getD zv, hC.2 _ _, fun w' hw' => ?_⟩
  simp only [execOp, e1, e2, Sem.run_bind, (h1.ext hw' hbX).look_run kf ht (hz w') ha false, Bool.false_eq_true, if_false, Result.andThen_ok, Sem.run_pure]
omit [DecidableEq α] in
theorem Val.lenMap (ht : P.underlying t = some (.map k e)) (hx : look l x = some (mapV b)) (hb : It.pc (mapPc b K V Good m) ∈ σ ∨ It.rdpc (mapPc b K V Good m) ∈ σ) (hbX : b ∉ X) : Val P n W σ l X ⟨d, .call { callee := .builtin .len, args := #[x], argTypes := #[t] }, ty, pos, aft, g⟩ (.v (.int .i64 m.length)) := fun ac w hs _ => by
  have h1 : MapOf w b K V Good m := by
    rcases hb with hb | hb
    · exact hs.mem.hold _ hb
    · exact hs.mem.hold _ hb
  refine ⟨_, rfl, fun w' hw' => ?_⟩
  simp [execOp, resolve, invoke, builtin, hs.plain hx, (h1.ext hw' hbX).len_run ht ty, Result.andThen]
/-- 'm[k] = v'. -/
theorem Eff.mapPut {m' : List (α × β)} (kf : KeyFit P k K Good) (ht : P.underlying t = some (.map k e)) (hx : look l x = some (mapV b)) (hu : Upd (.pc (mapPc b K V Good m)) (.pc (mapPc b K V Good m')) σ τ) (hy : look l y = some A) (hA : A.is (K a)) (ha : Good a) (hz : look l z = some B) (hB : B.is (V v)) (hm : aput m a v = m') :
    Eff P n W σ l [b] ⟨d, .mapUpdate t x y z, ty, pos, aft, g⟩ fun u τ' => u = .v undef ∧ τ' = τ := fun ac w hs => by
  subst hm
  have h1 : MapOf w b K V Good m := hs.mem.hold _ hu.mem
  obtain ⟨w', hr, h2, h3⟩ := h1.put_run kf ht ha v
  have h4 := hs.mem.upd hu (h3.mono (by simp [It.mids, mapPc])) (by simp [It.mids, mapPc]) (fun k hk => .inl hk) rfl (fun _ => h2)
  refine ⟨_, w', _, _, ⟨rfl, rfl⟩, h3, rfl, h4.1, h4.2, .inr ⟨rfl, ?_⟩⟩
  simp only [execOp, hs.plain hx, hA.1 _ _ _ (hs.eval hy), hB.1 _ _ _ (hs.eval hz), Sem.run_bind, hr, Result.andThen_ok, Sem.run_pure]
omit [DecidableEq α] in
/-- 'map[K]V{}', 'make(map[K]V)'. -/
theorem Eff.makeMap {o : Op} (K : α → Value) (V : β → Value) (Good : α → Prop) (hrun : ∀ (ac : Act) (w : World), (execOp ac.eval ⟨d, o, ty, pos, aft, g⟩).run P w = .ok (.value (.map (some w.heap.size))) (w.alloc (.map #[] 0))) :
    Eff P n W σ l [] ⟨d, o, ty, pos, aft, g⟩ fun u τ' => ∃ b, u = mapV b ∧ τ' = .pc (mapPc b K V Good []) :: σ := fun ac w hs => by
  have hx : Ext [] w (w.alloc (.map #[] 0)) := (Ext.refl w).alloc _
  have h4 := hs.mem.new (y := .pc (mapPc w.heap.size K V Good [])) hx (by simp [It.mids, mapPc]) (by simp [It.mids, mapPc]) rfl (fun _ => MapOf.new w)
  exact ⟨_, _, _, _, ⟨w.heap.size, rfl, rfl⟩, hx, rfl, h4.1, h4.2, .inl (hrun ac w)⟩
end
end Go.Proofs.Ytmkijjmbiiiicaa.A
/-
  Maps of the program's own: an entry struck; an entry found or made, and then stored into; as pieces of memory.
-/
set_option maxRecDepth 100000
set_option linter.unusedSimpArgs false
set_option linter.unusedVariables false
namespace Go.Proofs.Ytmkijjmbiiiicaa
open Go.RowKit
section
variable {α β : Type} [DecidableEq α] {P : Program} {w w' : World} {b : Nat} {k e t : TypeId} {K : α → Value} {V : β → Value} {Good : α → Prop} {m : List (α × β)}
theorem erase_map {γ δ : Type} (f : γ → δ) : ∀ (l : List γ) (j : Nat), (l.eraseIdx j).map f = (l.map f).eraseIdx j
  | [], _ => rfl
  | _ :: _, 0 => rfl
  | x :: l, j + 1 => by simp [erase_map f l j]
theorem erase_adel : ∀ {m : List (α × β)} {j : Nat} {a : α} {v : β}, (m.map (·.1)).Nodup → m[j]? = some (a, v) → m.eraseIdx j = adel m a
  | [], j, a, v, _, h => by simp at h
  | p :: m, 0, a, v, hn, h => by
    simp only [List.getElem?_cons_zero, Option.some.injEq] at h
    subst h
    rw [List.map_cons, List.nodup_cons] at hn
    unfold adel
    rw [List.eraseIdx_cons_zero, List.filter_cons, if_neg (by simp)]
    symm
    rw [List.filter_eq_self]
    intro q hq
    simp only [decide_eq_true_eq]
    intro e
    exact hn.1 (e ▸ List.mem_map.2 ⟨q, hq, rfl⟩)
  | p :: m, j + 1, a, v, hn, h => by
    rw [List.map_cons, List.nodup_cons] at hn
    simp only [List.getElem?_cons_succ] at h
    have h1 := erase_adel hn.2 h
    have hne : p.1 ≠ a := fun e => hn.1 (by rw [e]; exact List.mem_map.2 ⟨_, List.mem_of_getElem? h, rfl⟩)
    unfold adel at h1 ⊢
    rw [List.eraseIdx_cons_succ, h1, List.filter_cons, if_pos (by simpa using hne)]
theorem adel_none {m : List (α × β)} {a : α} (h : aget m a = none) : adel m a = m := by
  unfold adel
  rw [List.filter_eq_self]
  intro q hq
  simp only [decide_eq_true_eq]
  intro e
  rw [aget_none] at h
  exact h (e ▸ List.mem_map.2 ⟨q, hq, rfl⟩)
omit [DecidableEq α] in
theorem setMap_same {b : Nat} {es : Array MapEntry} {clock : Nat} (hb : w.heap[b]? = some (.map es clock)) : MapOf w b K V Good m → MapOf ({ w with heap := w.heap.setIfInBounds b (.map es clock) } : World) b K V Good m := fun ⟨es', clock', h1, h2⟩ => by
  rw [hb] at h1
  obtain ⟨rfl, rfl⟩ : es = es' ∧ clock = clock' := by simpa using h1
  exact ⟨_, _, heap_setMap hb, h2⟩
/-- 'delete(m, a)'. -/
theorem MapOf.del_run (h : MapOf w b K V Good m) (kf : KeyFit P k K Good) (ht : P.underlying t = some (.map k e)) {a : α} (ha : Good a) (ty : TypeId) :
    ∃ w', (Builtin.delete_ #[t, k] ty #[.map (some b), K a]).run P w = .ok (.tuple #[]) w' ∧ MapOf w' b K V Good (adel m a) ∧ Ext [b] w w' := by
  have hh := h
  obtain ⟨es, clock, hb, he, hnd, hg, hborn, hbnd⟩ := h
  obtain ⟨l, hl⟩ := kf.lit a ha
  rcases find_run kf he hg hnd ha w with ⟨h1, h2⟩ | ⟨j, u, hj, h1, h2⟩
  · refine ⟨{ w with heap := w.heap.setIfInBounds b (.map es clock) }, ?_, ?_, Ext.setMap hb⟩
    · simp [Builtin.delete_, Sem.run_bind, run_underlying ht, Result.andThen, run_getMap hb, kf.keyed.check w _ hl, h2, run_setMap hb]
    · rw [adel_none h1]
      exact setMap_same hb hh
  · refine ⟨{ w with heap := w.heap.setIfInBounds b (.map (es.eraseIdxIfInBounds j) clock) }, ?_, ⟨_, _, heap_setMap hb, ?_, adel_nodup hnd a, ?_, ?_, ?_⟩, Ext.setMap hb⟩
    · simp [Builtin.delete_, Sem.run_bind, run_underlying ht, Result.andThen, run_getMap hb, kf.keyed.check w _ hl, h2, run_setMap hb]
    · have e1 : (es.eraseIdxIfInBounds j).toList = es.toList.eraseIdx j := by simp
      rw [e1, erase_map, he, ← erase_map, erase_adel hnd hj]
    · exact fun p hp => hg p ((List.mem_filter.1 hp).1)
    · intro x hx
      have e1 : (es.eraseIdxIfInBounds j).toList = es.toList.eraseIdx j := by simp
      rw [e1] at hx
      exact hborn x (List.mem_of_mem_eraseIdx hx)
    · have e1 : (es.eraseIdxIfInBounds j).toList = es.toList.eraseIdx j := by simp
      rw [e1, erase_map]
      exact hbnd.sublist (List.eraseIdx_sublist _ _)
end
end Go.Proofs.Ytmkijjmbiiiicaa
namespace Go.Proofs.Ytmkijjmbiiiicaa.A
open Go.RowKit
section
variable {P : Program} {n : Nat} {W : Wd} {σ τ : Blks} {l : Slots} {X : List Nat} {x y z : Operand} {d : Option Nat} {ty t k e : TypeId} {pos : String} {aft : Array Edge} {g : Option (Nat × Bool)} {b s : Nat} {A B C : Abs}
variable {α β : Type} [DecidableEq α] {K : α → Value} {V : β → Value} {Good : α → Prop} {m : List (α × β)} {a : α} {v zv : β}
/-- 'delete(m, k)'. -/
theorem Eff.mapDel {m' : List (α × β)} (kf : KeyFit P k K Good) (ht : P.underlying t = some (.map k e)) (hx : look l x = some (mapV b)) (hu : Upd (.pc (mapPc b K V Good m)) (.pc (mapPc b K V Good m')) σ τ) (hy : look l y = some A) (hA : A.is (K a)) (ha : Good a) (hm : adel m a = m') :
    Eff P n W σ l [b] ⟨d, .call { callee := .builtin .delete, args := #[x, y], argTypes := #[t, k] }, ty, pos, aft, g⟩ fun u τ' => u = .tup [] ∧ τ' = τ := fun ac w hs => by
  subst hm
  have h1 : MapOf w b K V Good m := hs.mem.hold _ hu.mem
  obtain ⟨w', hr, h2, h3⟩ := h1.del_run kf ht ha ty
  have h4 := hs.mem.upd hu (h3.mono (by simp [It.mids, mapPc])) (by simp [It.mids, mapPc]) (fun k hk => .inl hk) rfl (fun _ => h2)
  refine ⟨.tuple #[], w', _, _, ⟨rfl, rfl⟩, h3, ⟨[], rfl, rfl⟩, h4.1, h4.2, .inl ?_⟩
  simp [execOp, resolve, invoke, builtin, hs.plain hx, hA.1 _ _ _ (hs.eval hy), hr, Result.andThen]
end
/-! ### Keys that are ints -/
abbrev intK (x : Int) : Value := .int .i64 x
abbrev intOk (x : Int) : Prop := InR .i64 x
theorem int_wf {x : Int} (h : intOk x) : (Lit.int .i64 x).wf = true := by
  simp only [InR, lo, hi] at h
  simp only [Lit.wf, Bool.and_eq_true, decide_eq_true_eq]
  exact ⟨by show (-9223372036854775808 : Int) ≤ _; omega, by show _ ≤ (9223372036854775807 : Int); omega⟩
theorem int_fit {P : Program} {k : TypeId} (hk : P.underlying k = some (.int .i64)) : KeyFit P k intK intOk where
  keyed := Maps.int_keyed hk
  lit a h := ⟨_, Maps.keyOf_int_mk hk (int_wf h)⟩
  inj a b _ _ h := by
    injection h
abbrev cntV (x : Nat) : Value := .int .i64 (x : Nat)
end Go.Proofs.Ytmkijjmbiiiicaa.A
