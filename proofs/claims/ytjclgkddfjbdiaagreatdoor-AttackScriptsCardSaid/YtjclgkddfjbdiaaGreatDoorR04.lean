/-
  Packed out of the texts: AQk, Maps, Book, BookDo, BookSee, Arr32, BookCheck, BookLaw, BookInv, Rd, A6, A8, Law.
-/
import Derived.Test.YtjclgkddfjbdiaaGreatDoorR03
import Derived.Maps.Keyed
import Derived.Maps.OwnSet
import Derived.DeepKeys4
import Derived.Laws.BytesArg
import Derived.Laws.CopyOwn
import Derived.DataShut
import Derived.Lib.SlBytesConst
import Derived.Test.YtjclgkddfjbdiaaGreatDoorRows
import Derived.OpenShut
import Derived.SizedLaws
set_option maxRecDepth 100000
set_option linter.unusedSimpArgs false
set_option linter.unusedVariables false
namespace Go.Proofs.YtjclgkddfjbdiaaGreatDoor.A
open Go.RowKit
section
variable {P : Program} {n : Nat} {W : Wd} {σ τ : Blks} {l l' : Slots} {X : List Nat} {o : Oper} {y : Abs} {tab : List (Nat × TI)} {ops : Array Oper} {rest rest' : List Oper} {Q : Exit → Act → World → Prop}
def cmpQ (f : Int → Int → Bool) (l : Slots) (x y : Operand) : Option Abs := match look l x, look l y with
  | some (.v (.int k a)), some (.v (.int k' b)) => if k = k' then some (.v (.bool (f a b))) else none
  | _, _ => none
def stepQ (tab : List (Nat × TI)) (l : Slots) : Oper → Option Abs
  | ⟨_, .move x, _, _, _, _⟩ => look l x
  | ⟨_, .assign x, _, _, _, _⟩ => look l x
  | ⟨_, .extract x i, _, _, _, _⟩ => match look l x with
    | some (.tup vs) => vs[i]?
    | _ => none
  | ⟨_, .nilCheck x, _, _, _, _⟩ => match look l x with
    | some (.v (.pointer (some p))) => some (.v (.pointer (some p)))
    | _ => none
  | ⟨_, .pick x y z, _, _, _, _⟩ => match look l x with
    | some (.v (.bool true)) => look l y
    | some (.v (.bool false)) => look l z
    | _ => none
  | ⟨_, .fieldAddr t x f, _, _, _, _⟩ => match ti tab t with
    | some ⟨_, .struct gs, _⟩ => match look l x with
      | some (.v (.pointer (some ⟨b, off, none⟩))) => match gs[f]? with
        | some (fo, ft) => match ti tab ft with
          | some j => bif Nat.beq j.size 0 then none else some (.v (.pointer (some ⟨b, off + fo, none⟩)))
          | none => none
        | none => none
      | _ => none
    | _ => none
  | ⟨_, .binOp .eql _ x y _, _, _, _, _⟩ => cmpQ (fun a b => decide (a = b)) l x y
  | ⟨_, .binOp .neq _ x y _, _, _, _, _⟩ => cmpQ (fun a b => decide (a ≠ b)) l x y
  | ⟨_, .binOp .lss _ x y _, _, _, _, _⟩ => cmpQ (fun a b => decide (a < b)) l x y
  | ⟨_, .binOp .leq _ x y _, _, _, _, _⟩ => cmpQ (fun a b => decide (a ≤ b)) l x y
  | ⟨_, .binOp .gtr _ x y _, _, _, _, _⟩ => cmpQ (fun a b => decide (b < a)) l x y
  | ⟨_, .binOp .geq _ x y _, _, _, _, _⟩ => cmpQ (fun a b => decide (b ≤ a)) l x y
  | _ => none
theorem cV_ {f : Int → Int → Bool} {x z : Operand} (h : cmpQ f l x z = some y) : ∃ k a b, look l x = some (.v (.int k a)) ∧ look l z = some (.v (.int k b)) ∧ y = .v (.bool (f a b)) := by
  unfold cmpQ at h
  split at h
  · next k a k' b h1 h2 =>
    split at h
    · next hk => subst hk; cases h; exact ⟨k, a, b, h1, h2, rfl⟩
    · cases h
  · cases h
theorem gl_ (hT : TabOk P tab) (h : stepQ tab l o = some y) : Val P n W σ l X o y := by
  unfold stepQ at h
  split at h
  · exact s_ h
  · exact n_ h
  · split at h
    · exact br_ (by assumption) h
    · cases h
  · split at h
    · cases h; exact ag_ (by assumption)
    · cases h
  · split at h
    · exact ab_ (by assumption) h
    · exact an_ (by assumption) h
    · cases h
  · split at h
    · split at h
      · split at h
        · split at h
          · next j hj =>
            cases hb : Nat.beq j.size 0 with
            | true => rw [hb] at h; cases h
            | false => rw [hb] at h; cases h; exact E_ hT (by assumption) (by assumption) (by assumption) hj hb
          · cases h
        · cases h
      · cases h
    · cases h
  · obtain ⟨k, a, b, h1, h2, rfl⟩ := cV_ h; exact d2_ h1 h2
  · obtain ⟨k, a, b, h1, h2, rfl⟩ := cV_ h; exact dY_ h1 h2
  · obtain ⟨k, a, b, h1, h2, rfl⟩ := cV_ h; exact a9_ h1 h2
  · obtain ⟨k, a, b, h1, h2, rfl⟩ := cV_ h; exact hU_ h1 h2
  · obtain ⟨k, a, b, h1, h2, rfl⟩ := cV_ h; exact ba_ h1 h2
  · obtain ⟨k, a, b, h1, h2, rfl⟩ := cV_ h; exact d1_ h1 h2
  · cases h
def autoQ (tab : List (Nat × TI)) (n : Nat) (ops : Array Oper) : Nat → List Oper → Slots → Option (List Oper × Slots)
  | 0, rest, l => some (rest, l)
  | _ + 1, [], _ => none
  | k + 1, o :: rest, l => match lt? o.dst n with
    | false => none
    | true => match gd ops l o with
      | some true => match stepQ tab l o with
        | some y => autoQ tab n ops k rest (put? l o.dst y)
        | none => none
      | some false => autoQ tab n ops k rest (put? l o.dst (.v undef))
      | none => none
theorem hW_ (hT : TabOk P tab) : ∀ (k : Nat) {rest : List Oper} {l : Slots}, autoQ tab n ops k rest l = some (rest', l') → SL P ops rest' (St n W σ l') Q → SL P ops rest (St n W σ l) Q
  | 0, _, _, h, K => by unfold autoQ at h; cases h; exact K
  | _ + 1, [], _, h, _ => by unfold autoQ at h; cases h
  | k + 1, o :: rest, l, h, K => by
    unfold autoQ at h
    cases hd : lt? o.dst n with
    | false => rw [hd] at h; cases h
    | true =>
      rw [hd] at h
      dsimp only at h
      split at h
      · next hg =>
        split at h
        · next y hy => exact i_ (gl_ hT hy) hg hd (hW_ hT k h K)
        · cases h
      · next hg => exact aH_ hg hd (hW_ hT k h K)
      · cases h
end
section
variable {n : Nat} {W : Wd} {σ : Blks} {l l' : Slots} {ops : Array Oper} {rest rest' : List Oper} {Q : Exit → Act → World → Prop}
theorem q_ (k : Nat) (h : autoQ tab n ops k rest l = some (rest', l')) (K : SL Tryz.prog ops rest' (St n W σ l') Q) : SL Tryz.prog ops rest (St n W σ l) Q := hW_ tabOk k h K
end
section
variable {x y a b c d e f g h : It} {σ τ : Blks}
theorem u0_ : Upd x y (x :: σ) (y :: σ) := Upd.here
theorem u1_ : Upd x y (a :: x :: σ) (a :: y :: σ) := Upd.there u0_
theorem u2_ : Upd x y (a :: b :: x :: σ) (a :: b :: y :: σ) := Upd.there u1_
theorem u3_ : Upd x y (a :: b :: c :: x :: σ) (a :: b :: c :: y :: σ) := Upd.there u2_
theorem u4_ : Upd x y (a :: b :: c :: d :: x :: σ) (a :: b :: c :: d :: y :: σ) := Upd.there u3_
theorem u5_ : Upd x y (a :: b :: c :: d :: e :: x :: σ) (a :: b :: c :: d :: e :: y :: σ) := Upd.there u4_
theorem u6_ : Upd x y (a :: b :: c :: d :: e :: f :: x :: σ) (a :: b :: c :: d :: e :: f :: y :: σ) := Upd.there u5_
theorem u7_ : Upd x y (a :: b :: c :: d :: e :: f :: g :: x :: σ) (a :: b :: c :: d :: e :: f :: g :: y :: σ) := Upd.there u6_
end
section
variable {P : Program} {n : Nat} {W : Wd} {ops : Array Oper} {l : Slots} {σ σ1 τ : Blks} {X : List Nat} {Q : Exit → Act → World → Prop} {ix : Plan} {ι : Type} {τ' : ι → Blks} {K : Blks → ι → Prop} {res : ι → Abs} {fn : Func} {G : List Nat} {w0 : World} {σ0 : Blks} {rs : List ResultVar} {vs vs2 : List Abs}
theorem ap_ (k : ∀ z, K σ z) (h : Reads σ σ1 := by repeat (first | exact Reads.nil | (refine Reads.blk ?_ ?_; focus ((repeat first|assumption|exact List.mem_cons_self|apply List.mem_cons_of_mem); done)) | (refine Reads.rd ?_ ?_; focus ((repeat first|assumption|exact List.mem_cons_self|apply List.mem_cons_of_mem); done)) | (refine Reads.pc ?_ ?_; focus ((repeat first|assumption|exact List.mem_cons_self|apply List.mem_cons_of_mem); done)) | (refine Reads.rdpc ?_ ?_; focus ((repeat first|assumption|exact List.mem_cons_self|apply List.mem_cons_of_mem); done)))) (hτ : ∀ z, τ' z = [] := by exact fun _ => rfl) : After σ σ1 τ' K := c1_ h hτ k
theorem hx_ (k : (∀ k ∈ X, k ∈ mids σ) → SX P ops ix X (St n W σ l) Q) (h : ∀ k ∈ X, k ∈ mids σ := by first | (simp [mids, It.mids, ownPc]; done) | (intro k hk; simp [mids, It.mids, ownPc] at hk ⊢; grind)) : SX P ops ix X (St n W σ l) Q := k h
theorem f_ (hr : fn.results = rs.toArray) (h : RV P n ⟨w0, mids σ0, G⟩ σ l rs vs) (z : ι) (hsub : (τ' z).Sublist σ) (hres : retA vs = res z) (hro : ∀ x ∈ τ' z, x.rids = [] := by simp [It.rids]) : SE .ret (St n ⟨w0, mids σ0, G⟩ σ l) (bodyPost P fn (Post G σ0 τ' res w0)) := fD_ hr h z hsub hro hres
theorem fC_ (hr : fn.results = rs.toArray) (h : RV P n ⟨w0, mids σ0, G⟩ σ l rs vs) (hca : Casts vs vs2) (z : ι) (hsub : (τ' z).Sublist σ) (hres : retA vs2 = res z) (hro : ∀ x ∈ τ' z, x.rids = [] := by simp [It.rids]) : SE .ret (St n ⟨w0, mids σ0, G⟩ σ l) (bodyPost P fn (Post G σ0 τ' res w0)) := cL_ hr h hca z hsub hro hres
end
section
variable {P : Program} {n : Nat} {W : Wd} {σ : Blks} {l l' : Slots} {X : List Nat} {o : Oper} {tab : List (Nat × TI)} {ops : Array Oper} {ix ix' : Plan} {rest : List Oper} {Q : Exit → Act → World → Prop} {Y : List Nat}
def autoX (tab : List (Nat × TI)) (n : Nat) (ops : Array Oper) : Nat → Plan → Slots → Option (Plan × Slots)
  | 0, ix, l => some (ix, l)
  | k + 1, .q i ix, l => match ops[i]? with
    | none => none
    | some o => match lt? o.dst n with
      | false => none
      | true => match gd ops l o with
        | some true => match stepQ tab l o with
          | some y => autoX tab n ops k ix (put? l o.dst y)
          | none => none
        | some false => autoX tab n ops k ix (put? l o.dst (.v undef))
        | none => none
  | _ + 1, _, _ => none
theorem ge_ (hT : TabOk P tab) (hX : ∀ k ∈ X, k ∈ mids σ) : ∀ (k : Nat) {ix : Plan} {l : Slots}, autoX tab n ops k ix l = some (ix', l') → SX P ops ix' X (St n W σ l') Q → SX P ops ix X (St n W σ l) Q
  | 0, _, _, h, K => by unfold autoX at h; cases h; exact K
  | k + 1, ix, l, h, K => by
    unfold autoX at h
    split at h
    · cases h; next h0 => cases h0
    · next h0 =>
      cases h0
      split at h
      · cases h
      · next o ho =>
        split at h
        · cases h
        · next hd =>
          split at h
          · next hg =>
            split at h
            · next y hy => exact bo_ ho (gl_ hT hy) hX hg hd (ge_ hT hX _ h K)
            · cases h
          · next hg => exact d3_ ho hg hd (ge_ hT hX _ h K)
          · cases h
    · cases h
theorem e_ {y0 : Abs} {τ0 : Blks} (hv : Eff P n W σ l Y o fun y τ => y = y0 ∧ τ = τ0) (hg : gd ops l o = some true) (hd : lt? o.dst n = true) (k : SL P ops rest (St n W τ0 (put? l o.dst y0)) Q) : SL P ops (o :: rest) (St n W σ l) Q := by_ hv hg hd (by rintro _ _ ⟨rfl, rfl⟩; exact k)
theorem eb_ {ι : Type} {y0 : ι → Abs} {τ0 : ι → Blks} (hv : Eff P n W σ l Y o fun y τ => ∃ b, y = y0 b ∧ τ = τ0 b) (hg : gd ops l o = some true) (hd : lt? o.dst n = true) (k : ∀ b, SL P ops rest (St n W (τ0 b) (put? l o.dst (y0 b))) Q) : SL P ops (o :: rest) (St n W σ l) Q := by_ hv hg hd (by rintro _ _ ⟨b, rfl, rfl⟩; exact k b)
theorem ex_ {i : Nat} {y0 : Abs} {τ0 : Blks} (hi : ops[i]? = some o) (hv : Eff P n W σ l Y o fun y τ => y = y0 ∧ τ = τ0) (hY : ∀ k ∈ Y, k ∈ X) (hg : gd ops l o = some true) (hd : lt? o.dst n = true) (k : SX P ops ix X (St n W τ0 (put? l o.dst y0)) Q) : SX P ops (.e i ix) X (St n W σ l) Q := ha_ hi hv hY hg hd (by rintro _ _ ⟨rfl, rfl⟩; exact k)
theorem exb_ {i : Nat} {ι : Type} {y0 : ι → Abs} {τ0 : ι → Blks} (hi : ops[i]? = some o) (hv : Eff P n W σ l Y o fun y τ => ∃ b, y = y0 b ∧ τ = τ0 b) (hY : ∀ k ∈ Y, k ∈ X) (hg : gd ops l o = some true) (hd : lt? o.dst n = true) (k : ∀ b, SX P ops ix X (St n W (τ0 b) (put? l o.dst (y0 b))) Q) : SX P ops (.e i ix) X (St n W σ l) Q := ha_ hi hv hY hg hd (by rintro _ _ ⟨b, rfl, rfl⟩; exact k b)
end
section
variable {n : Nat} {W : Wd} {σ : Blks} {l l' : Slots} {ops : Array Oper} {X : List Nat} {ix ix' : Plan} {Q : Exit → Act → World → Prop}
theorem qx_ (k : Nat) (hX : ∀ k ∈ X, k ∈ mids σ) (h : autoX tab n ops k ix l = some (ix', l')) (K : SX Tryz.prog ops ix' X (St n W σ l') Q) : SX Tryz.prog ops ix X (St n W σ l) Q := ge_ tabOk hX k h K
theorem qs_ (k : Nat) (h : autoX tab n ops k ix l = some (ix', l')) (K : SX Tryz.prog ops ix' X (St n W σ l') Q) (hX : ∀ k ∈ X, k ∈ mids σ := by simp) : SX Tryz.prog ops ix X (St n W σ l) Q := ge_ tabOk hX k h K
end
theorem aftP {ι : Type} {σ σ1 : Blks} {τ' : ι → Blks} {K : Blks → ι → Prop} (k : ∀ z, K σ z) (hτ : ∀ z, τ' z = [] := by exact fun _ => rfl) (h : Reads σ σ1 := by repeat (first | exact Reads.nil | (refine Reads.blk ?_ ?_; focus ((repeat first|assumption|exact m0_|apply m1_); done)) | (refine Reads.rd ?_ ?_; focus ((repeat first|assumption|exact m0_|apply m1_); done)) | (refine Reads.pc ?_ ?_; focus ((repeat first|assumption|exact m0_|apply m1_); done)) | (refine Reads.rdpc ?_ ?_; focus ((repeat first|assumption|exact m0_|apply m1_); done)))) : After σ σ1 τ' K := c1_ h hτ k
theorem aftM {ι : Type} {σ σ1 : Blks} {τ' : ι → Blks} {K : Blks → ι → Prop} {uy : ι → It} (k : ∀ z, K (uy z :: σ) z) (hτ : ∀ z, τ' z = [uy z] := by exact fun _ => rfl) (h : Reads σ σ1 := by repeat (first | exact Reads.nil | (refine Reads.blk ?_ ?_; focus ((repeat first|assumption|exact m0_|apply m1_); done)) | (refine Reads.rd ?_ ?_; focus ((repeat first|assumption|exact m0_|apply m1_); done)) | (refine Reads.pc ?_ ?_; focus ((repeat first|assumption|exact m0_|apply m1_); done)) | (refine Reads.rdpc ?_ ?_; focus ((repeat first|assumption|exact m0_|apply m1_); done)))) : After σ σ1 τ' K := jJ_ h hτ k
section
variable {P : Program} {n : Nat} {W : Wd} {ops : Array Oper} {l : Slots} {σ : Blks} {X : List Nat} {Q : Exit → Act → World → Prop} {o : Oper} {rest : List Oper} {ix : Plan} {i : Nat} {y : Abs} {f : FuncId} {args : List Abs} {σ1 : Blks} {ι : Type} {τ' : ι → Blks} {res : ι → Abs} {xs : List Operand} {ats : Array TypeId} {d : Option Nat} {ty : TypeId} {pos : String} {aft : Array Edge} {g : Option (Nat × Bool)}
theorem slvA (hv : Val P n W σ l [] o y) (k : SL P ops rest (St n W σ (put? l o.dst y)) Q) (hg : gd ops l o = some true := by rfl) (hd : lt? o.dst n = true := by rfl) : SL P ops (o :: rest) (St n W σ l) Q := i_ hv hg hd k
theorem sxvA (hi : ops[i]? = some o) (hv : Val P n W σ l X o y) (hX : ∀ k ∈ X, k ∈ mids σ) (k : SX P ops ix X (St n W σ (put? l o.dst y)) Q) (hg : gd ops l o = some true := by rfl) (hd : lt? o.dst n = true := by rfl) : SX P ops (.q i ix) X (St n W σ l) Q := bo_ hi hv hX hg hd k
theorem sleA {Y : List Nat} {R : Abs → Blks → Prop} (hv : Eff P n W σ l Y o R) (k : ∀ y τ, R y τ → SL P ops rest (St n W τ (put? l o.dst y)) Q) (hg : gd ops l o = some true := by rfl) (hd : lt? o.dst n = true := by rfl) : SL P ops (o :: rest) (St n W σ l) Q := by_ hv hg hd k
theorem slcA (hs : Spec P f args σ1 τ' res) (k : After σ σ1 τ' fun ν z => SL P ops rest (St n W ν (put? l d (res z))) Q) (hb : goesIn P f = true := by kernel_rfl) (hv : looks l xs = some args := by rfl) (hg : gd ops l ⟨d, .call { callee := .value (.func f), args := xs.toArray, argTypes := ats }, ty, pos, aft, g⟩ = some true := by rfl) (hd : lt? d n = true := by rfl) :
    SL P ops (⟨d, .call { callee := .value (.func f), args := xs.toArray, argTypes := ats }, ty, pos, aft, g⟩ :: rest) (St n W σ l) Q := Y_ hs Casts.refl hb hv hg hd k
end
end Go.Proofs.YtjclgkddfjbdiaaGreatDoor.A
namespace Go.Proofs.YtjclgkddfjbdiaaGreatDoor
open Go.RowKit
section
variable {α β : Type} [DecidableEq α]
def aget (m : List (α × β)) (a : α) : Option β := (m.find? fun p => decide (p.1 = a)).map (·.2)
def aput (m : List (α × β)) (a : α) (b : β) : List (α × β) := if (aget m a).isSome then m.map fun p => if p.1 = a then (a, b) else p else m ++ [(a, b)]
def adel (m : List (α × β)) (a : α) : List (α × β) := m.filter fun p => decide (p.1 ≠ a)
theorem bj_ (m : List (α × β)) (a : α) : (aget m a).isSome = true ↔ a ∈ m.map (·.1) := by
  unfold aget
  rw [Option.isSome_map, List.find?_isSome]
  simp
theorem e3_ (m : List (α × β)) (a : α) : aget m a = none ↔ a ∉ m.map (·.1) := by
  rw [← bj_]
  cases aget m a <;> simp
theorem g2_ (m : List (α × β)) (a : α) (b : β) : (aput m a b).map (·.1) = if a ∈ m.map (·.1) then m.map (·.1) else m.map (·.1) ++ [a] := by
  unfold aput
  by_cases h : a ∈ m.map (·.1)
  · rw [if_pos ((bj_ m a).2 h), if_pos h, List.map_map]
    apply List.map_congr_left
    intro p _
    simp only [Function.comp]
    split
    · rename_i h1; exact h1.symm
    · rfl
  · rw [if_neg (fun hc => h ((bj_ m a).1 hc)), if_neg h]
    simp
theorem dX_ {m : List (α × β)} (hm : (m.map (·.1)).Nodup) (a : α) (b : β) : ((aput m a b).map (·.1)).Nodup := by
  rw [g2_]
  split
  · exact hm
  · rename_i h
    rw [List.nodup_append]
    exact ⟨hm, by simp, by intro x hx y hy; simp at hy; subst hy; rintro rfl; exact h hx⟩
theorem dD_ (m : List (α × β)) (a c : α) (b : β) : aget (aput m a b) c = if c = a then some b else aget m c := by
  unfold aput
  by_cases h : (aget m a).isSome = true
  · rw [if_pos h]
    have hmap : ∀ (m : List (α × β)), ((m.map fun p => if p.1 = a then (a, b) else p).find? fun p => decide (p.1 = c)).map (·.2) = if c = a then (if a ∈ m.map (·.1) then some b else none) else aget m c := by
      intro m
      induction m with
      | nil => simp [aget]
      | cons p m ih =>
        simp only [List.map_cons, List.find?_cons]
        by_cases hp : p.1 = a
        · rw [if_pos hp]
          by_cases hc : c = a
          · subst hc; simp [hp]
          · have hac : ¬ a = c := fun h => hc h.symm
            simp only [hac, decide_false, if_neg hc]
            rw [ih, if_neg hc]
            unfold aget
            simp [hp, hac]
        · rw [if_neg hp]
          by_cases hpc : p.1 = c
          · have hca : ¬ c = a := fun h => hp (hpc.trans h)
            simp [hpc, hca, aget]
          · simp only [hpc, decide_false]
            rw [ih]
            by_cases hca : c = a
            · subst hca
              rw [if_pos rfl, if_pos rfl]
              have : (c ∈ p.1 :: m.map (·.1)) ↔ c ∈ m.map (·.1) := by
                simp only [List.mem_cons]
                constructor
                · rintro (h1 | h1)
                  · exact absurd h1.symm hp
                  · exact h1
                · exact Or.inr
              by_cases hin : c ∈ m.map (·.1)
              · rw [if_pos hin, if_pos (this.2 hin)]
              · rw [if_neg hin, if_neg (fun hh => hin (this.1 hh))]
            · rw [if_neg hca, if_neg hca]
              unfold aget
              simp [hpc]
    have h0 := hmap m
    rw [if_pos ((bj_ m a).1 h)] at h0
    exact h0
  · rw [if_neg h]
    unfold aget
    rw [List.find?_append]
    by_cases hc : c = a
    · subst hc
      have hn : aget m c = none := by cases hg : aget m c <;> simp_all
      have hf : (m.find? fun p => decide (p.1 = c)) = none := by
        unfold aget at hn
        simpa using hn
      rw [hf]
      simp
    · have hac : ¬ a = c := fun h => hc h.symm
      simp [hac, hc]
theorem e2_ (m : List (α × β)) (a : α) (b : β) : (aput m a b).length = if (aget m a).isSome then m.length else m.length + 1 := by
  unfold aput
  split <;> simp
end
structure KeyFit {α : Type} (P : Program) (k : TypeId) (K : α → Value) (Good : α → Prop) : Prop where
  keyed : Maps.Keyed P k
  lit : ∀ a, Good a → ∃ l, keyOf P k (K a) = some l
  inj : ∀ a b, Good a → Good b → K a = K b → a = b
def MapOf {α β : Type} (w : World) (b : Nat) (K : α → Value) (V : β → Value) (Good : α → Prop) (m : List (α × β)) : Prop :=
  ∃ es clock, w.heap[b]? = some (.map es clock) ∧ es.toList.map (fun e => (e.key, e.val)) = m.map (fun p => (K p.1, V p.2)) ∧ (m.map (·.1)).Nodup ∧ (∀ p ∈ m, Good p.1) ∧
    (∀ e ∈ es.toList, e.born < clock) ∧ (es.toList.map (·.born)).Nodup
section
variable {α β : Type} {P : Program} {w w' : World} {b : Nat} {k e t : TypeId} {K : α → Value} {V : β → Value} {Good : α → Prop} {m : List (α × β)}
theorem MapOf.lt (h : MapOf w b K V Good m) : b < w.heap.size := by
  obtain ⟨es, clock, hb, _⟩ := h
  rcases Nat.lt_or_ge b w.heap.size with hlt | hge
  · exact hlt
  · rw [Array.getElem?_eq_none hge] at hb; cases hb
theorem MapOf.ext {F : List Nat} (h : MapOf w b K V Good m) (hx : Ext F w w') (hb : b ∉ F) : MapOf w' b K V Good m := by
  have hl := h.lt
  obtain ⟨es, clock, h1, h2⟩ := h
  exact ⟨es, clock, (hx.block b hl hb).trans h1, h2⟩
theorem MapOf.new (w : World) : MapOf (w.alloc (.map #[] 0)) w.heap.size K V Good [] :=
  ⟨#[], 0, heap_alloc_new w _, rfl, by simp, by simp, by simp, by simp⟩
theorem MapOf.alloc (h : MapOf w b K V Good m) (o : Obj) : MapOf (w.alloc o) b K V Good m := h.ext ((Ext.refl (F := []) _).alloc _) (by simp)
theorem MapOf.nodup (h : MapOf w b K V Good m) : (m.map (·.1)).Nodup := by obtain ⟨_, _, _, _, h, _⟩ := h; exact h
theorem gI_ {es : List MapEntry} (he : es.map (fun e => (e.key, e.val)) = m.map (fun p => (K p.1, V p.2))) {j : Nat} {x : MapEntry} (hx : es[j]? = some x) : ∃ p, m[j]? = some p ∧ x.key = K p.1 ∧ x.val = V p.2 := by
  have h1 : (es.map (fun e => (e.key, e.val)))[j]? = some (x.key, x.val) := by rw [List.getElem?_map, hx]; rfl
  rw [he, List.getElem?_map] at h1
  cases hm : m[j]? with
  | none => rw [hm] at h1; cases h1
  | some p =>
    rw [hm] at h1
    simp at h1
    exact ⟨p, rfl, h1.1.symm, h1.2.symm⟩
variable [DecidableEq α]
theorem iA_ (kf : KeyFit P k K Good) {es : List MapEntry} (he : es.map (fun e => (e.key, e.val)) = m.map (fun p => (K p.1, V p.2))) (hg : ∀ p ∈ m, Good p.1) (hnd : (m.map (·.1)).Nodup) {a : α} (ha : Good a) (w : World) :
    (aget m a = none ∧ (Instr.findKey k (K a) es).run P w = .ok none w) ∨
    ∃ j v, m[j]? = some (a, v) ∧ aget m a = some v ∧ (Instr.findKey k (K a) es).run P w = .ok (some (j, V v)) w := by
  obtain ⟨l, hl⟩ := kf.lit a ha
  have hall : ∀ x ∈ es, ∃ l, keyOf P k x.key = some l := by
    intro x hx
    obtain ⟨j, hj⟩ := List.getElem?_of_mem hx
    obtain ⟨p, hp, hk, _⟩ := gI_ he hj
    rw [hk]
    exact kf.lit _ (hg p (List.mem_of_getElem? hp))
  rcases kf.keyed.find w hl es hall with ⟨hrun, hne⟩ | ⟨j, x, hrun, hj, hk⟩
  · refine .inl ⟨?_, hrun⟩
    rw [e3_]
    intro hin
    simp only [List.mem_map] at hin
    obtain ⟨p, hp, rfl⟩ := hin
    obtain ⟨j, hj⟩ := List.getElem?_of_mem hp
    have h1 : (m.map (fun p => (K p.1, V p.2)))[j]? = some (K p.1, V p.2) := by rw [List.getElem?_map, hj]; rfl
    rw [← he, List.getElem?_map] at h1
    cases hx : es[j]? with
    | none => rw [hx] at h1; cases h1
    | some x =>
      rw [hx] at h1
      simp at h1
      exact hne x (List.mem_of_getElem? hx) h1.1
  · obtain ⟨p, hp, hk2, hv⟩ := gI_ he hj
    have hpa : p.1 = a := kf.inj _ _ (hg p (List.mem_of_getElem? hp)) ha (hk2.symm.trans hk)
    obtain ⟨pa, pv⟩ := p
    dsimp only at hpa hv
    subst hpa
    refine .inr ⟨j, pv, hp, ?_, by rw [← hv]; exact hrun⟩
    unfold aget
    have hfind : m.find? (fun p => decide (p.1 = pa)) = some (pa, pv) := by
      rw [List.find?_eq_some_iff_append]
      refine ⟨by simp, ?_⟩
      have hjl := (List.getElem?_eq_some_iff.1 hp)
      obtain ⟨hjl, hje⟩ := hjl
      refine ⟨m.take j, m.drop (j + 1), ?_, ?_⟩
      · rw [← hje, List.getElem_cons_drop, List.take_append_drop]
      · intro q hq
        simp only [Bool.not_eq_true', decide_eq_false_iff_not]
        intro hqa
        obtain ⟨i, hi⟩ := List.getElem?_of_mem hq
        rw [List.getElem?_take] at hi
        split at hi
        · rename_i hij
          have h1 : (m.map (·.1))[i]? = some pa := by rw [List.getElem?_map, hi]; simp [hqa]
          have h2 : (m.map (·.1))[j]? = some pa := by rw [List.getElem?_map, hp]; rfl
          have hil : i < (m.map (·.1)).length := (List.getElem?_eq_some_iff.1 h1).1
          have := (List.getElem?_inj hil hnd).1 (h1.trans h2.symm)
          omega
        · cases hi
    rw [hfind]
    rfl
theorem MapOf.look_run (h : MapOf w b K V Good m) (kf : KeyFit P k K Good) (ht : P.underlying t = some (.map k e)) {z : Value} (hz : (zeroValue e).run P w = .ok z w) {a : α} (ha : Good a) (c : Bool) :
    (Instr.lookup t (.map (some b)) (K a) c).run P w = .ok (if c then .tuple #[((aget m a).map V).getD z, .bool (aget m a).isSome] else ((aget m a).map V).getD z) w := by
  obtain ⟨es, clock, hb, he, hnd, hg, _⟩ := h
  obtain ⟨l, hl⟩ := kf.lit a ha
  have hgo : (getObj b).run P w = .ok (.map es clock) w := by simp [getObj, Sem.run, hb]
  simp only [Instr.lookup, Sem.run_bind, run_underlying ht, Result.andThen_ok, Sem.run_pure, hgo, kf.keyed.check w es.isEmpty hl]
  rcases iA_ kf he hg hnd ha w with ⟨h1, h2⟩ | ⟨j, v, _, h1, h2⟩
  · rw [h1, h2]
    cases c <;> simp [hz]
  · rw [h1, h2]
    cases c <;> simp
theorem Ext.setMap {b : Nat} {es es' : Array MapEntry} {clock clock' : Nat} (_hb : w.heap[b]? = some (.map es clock)) : Ext [b] w { w with heap := w.heap.setIfInBounds b (.map es' clock') } :=
  ⟨rfl, rfl, rfl, by simp, fun k _ hn => by
    have : b ≠ k := fun h => hn (by simp [h])
    simp [this]⟩
theorem eR_ {b : Nat} {es es' : Array MapEntry} {clock clock' : Nat} (hb : w.heap[b]? = some (.map es clock)) : ({ w with heap := w.heap.setIfInBounds b (.map es' clock') } : World).heap[b]? = some (.map es' clock') := by
  have hlt : b < w.heap.size := by
    rcases Nat.lt_or_ge b w.heap.size with hlt | hge
    · exact hlt
    · rw [Array.getElem?_eq_none hge] at hb; cases hb
  simp [hlt]
theorem dL_ {b : Nat} {es : Array MapEntry} {clock : Nat} (hb : w.heap[b]? = some (.map es clock)) : (getObj b).run P w = .ok (.map es clock) w := by simp [getObj, Sem.run, hb]
theorem fl_ {b : Nat} {es es' : Array MapEntry} {clock clock' : Nat} (hb : w.heap[b]? = some (.map es clock)) : (setObj b (.map es' clock')).run P w = .ok () { w with heap := w.heap.setIfInBounds b (.map es' clock') } := by simp [setObj, Sem.run, hb]
theorem aput_at {m : List (α × β)} (hnd : (m.map (·.1)).Nodup) {j : Nat} {a : α} {v v' : β} (hj : m[j]? = some (a, v)) : aput m a v' = m.set j (a, v') := by
  have hin : (aget m a).isSome = true := (bj_ m a).2 (List.mem_map.2 ⟨_, List.mem_of_getElem? hj, rfl⟩)
  unfold aput
  rw [if_pos hin]
  apply List.ext_getElem?
  intro i
  rw [List.getElem?_map, List.getElem?_set]
  have hjl : j < m.length := (List.getElem?_eq_some_iff.1 hj).1
  by_cases hij : j = i
  · subst hij
    rw [if_pos rfl, if_pos hjl, hj]
    simp
  · rw [if_neg hij]
    cases hi : m[i]? with
    | none => rfl
    | some p =>
      simp only [Option.map_some, Option.some.injEq]
      rw [if_neg]
      intro hpa
      have h1 : (m.map (·.1))[i]? = some a := by rw [List.getElem?_map, hi]; simp [hpa]
      have h2 : (m.map (·.1))[j]? = some a := by rw [List.getElem?_map, hj]; rfl
      have hil : i < (m.map (·.1)).length := (List.getElem?_eq_some_iff.1 h1).1
      exact hij ((List.getElem?_inj hil hnd).1 (h1.trans h2.symm)).symm
theorem MapOf.put_run (h : MapOf w b K V Good m) (kf : KeyFit P k K Good) (ht : P.underlying t = some (.map k e)) {a : α} (ha : Good a) (v : β) :
    ∃ w', (Instr.mapUpdate t (.map (some b)) (K a) (V v)).run P w = .ok () w' ∧ MapOf w' b K V Good (aput m a v) ∧ Ext [b] w w' := by
  obtain ⟨es, clock, hb, he, hnd, hg, hborn, hbnd⟩ := h
  obtain ⟨l, hl⟩ := kf.lit a ha
  rcases iA_ kf he hg hnd ha w with ⟨h1, h2⟩ | ⟨j, u, hj, h1, h2⟩
  · refine ⟨{ w with heap := w.heap.setIfInBounds b (.map (es.push { key := K a, val := V v, born := clock }) (clock + 1)) }, ?_, ⟨_, _, eR_ hb, ?_, dX_ hnd a v, ?_, ?_, ?_⟩, Ext.setMap hb⟩
    · simp only [Instr.mapUpdate, Sem.run_bind, run_underlying ht, Result.andThen_ok, dL_ hb, kf.keyed.check w false hl, h2, fl_ hb]
    · rw [Array.toList_push, List.map_append, he]
      unfold aput
      rw [if_neg (by rw [h1]; simp)]
      simp
    · intro p hp
      unfold aput at hp
      rw [if_neg (by rw [h1]; simp)] at hp
      simp only [List.mem_append, List.mem_singleton] at hp
      rcases hp with hp | rfl
      · exact hg p hp
      · exact ha
    · intro x hx
      rw [Array.toList_push, List.mem_append, List.mem_singleton] at hx
      rcases hx with hx | rfl
      · have := hborn x hx; omega
      · exact Nat.lt_succ_self _
    · rw [Array.toList_push, List.map_append, List.nodup_append]
      refine ⟨hbnd, by simp, ?_⟩
      intro x hx y hy
      simp at hy
      subst hy
      simp only [List.mem_map] at hx
      obtain ⟨z, hz, rfl⟩ := hx
      have := hborn z hz
      omega
  · have hjl : j < es.toList.length := by
      have h3 := congrArg List.length he
      simp only [List.length_map] at h3
      rw [h3]
      exact (List.getElem?_eq_some_iff.1 hj).1
    have hk : (es[j]?).map (·.key) = some (K a) := by
      rw [← Array.getElem?_toList]
      have h3 : (es.toList.map (fun e => (e.key, e.val)))[j]? = some (K a, V u) := by rw [he, List.getElem?_map, hj]; rfl
      rw [List.getElem?_map] at h3
      cases hx : es.toList[j]? with
      | none => rw [hx] at h3; cases h3
      | some x => rw [hx] at h3; simp at h3; simp [h3.1]
    have hmod : (es.modify j fun e => { e with key := K a, val := V v }).toList = es.toList.modify j fun e => { e with key := K a, val := V v } := by simp
    refine ⟨{ w with heap := w.heap.setIfInBounds b (.map (es.modify j fun e => { e with key := K a, val := V v }) clock) }, ?_, ⟨_, _, eR_ hb, ?_, dX_ hnd a v, ?_, ?_, ?_⟩, Ext.setMap hb⟩
    · simp only [Instr.mapUpdate, Sem.run_bind, run_underlying ht, Result.andThen_ok, dL_ hb, kf.keyed.check w false hl, h2, hk, Option.getD_some, kf.keyed.stays w hl, fl_ hb]
    · rw [hmod, aput_at hnd hj]
      apply List.ext_getElem?
      intro i
      have hei : (es.toList.map (fun e => (e.key, e.val)))[i]? = (m.map (fun p => (K p.1, V p.2)))[i]? := by rw [he]
      rw [List.getElem?_map, List.getElem?_map] at hei
      rw [List.getElem?_map, List.getElem?_map, List.getElem?_modify, List.getElem?_set]
      have hml : j < m.length := (List.getElem?_eq_some_iff.1 hj).1
      by_cases hij : j = i
      · subst hij
        rw [if_pos rfl, if_pos hml, List.getElem?_eq_getElem hjl]
        simp
      · rw [if_neg hij]
        simp only [if_neg hij]
        rw [← hei]
        cases es.toList[i]? <;> rfl
    · intro p hp
      have h4 : p.1 ∈ (aput m a v).map (·.1) := List.mem_map.2 ⟨p, hp, rfl⟩
      rw [g2_, if_pos (by rw [← bj_, h1]; rfl)] at h4
      simp only [List.mem_map] at h4
      obtain ⟨q, hq, hqe⟩ := h4
      rw [← hqe]
      exact hg q hq
    · intro x hx
      rw [hmod] at hx
      obtain ⟨i, hi⟩ := List.getElem?_of_mem hx
      rw [List.getElem?_modify] at hi
      cases hx2 : es.toList[i]? with
      | none => rw [hx2] at hi; simp at hi
      | some y =>
        rw [hx2] at hi
        have := hborn y (List.mem_of_getElem? hx2)
        simp at hi
        rw [← hi]
        split <;> exact this
    · have hb2 : (es.toList.modify j fun e => { e with key := K a, val := V v }).map (·.born) = es.toList.map (·.born) := by
        apply List.ext_getElem?
        intro i
        rw [List.getElem?_map, List.getElem?_modify, List.getElem?_map]
        cases es.toList[i]? with
        | none => simp
        | some y => simp only [Option.map_eq_map, Option.map_some]; split <;> rfl
      rw [hmod, hb2]
      exact hbnd
omit [DecidableEq α] in
theorem MapOf.len_run (h : MapOf w b K V Good m) (ht : P.underlying t = some (.map k e)) (ty : TypeId) : (Builtin.len_ #[t] ty #[.map (some b)]).run P w = .ok (.int .i64 m.length) w := by
  obtain ⟨es, clock, hb, he, _⟩ := h
  have h3 := congrArg List.length he
  simp only [List.length_map, Array.length_toList] at h3
  simp [Builtin.len_, Sem.run_bind, run_underlying ht, Result.andThen_ok, dL_ hb, goInt, h3]
end
section
variable {α β : Type} [DecidableEq α] {P : Program} {w : World} {b : Nat} {k e : TypeId} {K : α → Value} {V : β → Value} {Good : α → Prop} {m : List (α × β)}
variable {ops : Array Oper} {rest : List Oper} {o : Oper} {a : Act} {Q : Exit → Act → World → Prop}
theorem bk_ (h : MapOf w b K V Good m) (kf : KeyFit P k K Good) (t : TypeId) (ht : P.underlying t = some (.map k e)) (z : Value) (hz : (zeroValue e).run P w = .ok z w) (c : α) (hc : Good c)
    (hg : o.guard = none) (x y : Operand) (ho : o.op = .lookup t x y true) (hx : a.eval x = .map (some b)) (hy : a.eval y = K c)
    (hk : wpList P ops Q rest (a.put o.dst (.tuple #[((aget m c).map V).getD z, .bool (aget m c).isSome])) w) : wpList P ops Q (o :: rest) a w := by
  refine wpList_plain hg fun K' hK' => ?_
  unfold Oper.wp
  simp only [execOp, ho, hx, hy, Sem.run_bind, h.look_run kf ht hz hc true, if_true, Result.andThen_ok, Sem.run_pure]
  exact hK' _ _ hk
theorem di_ (h : MapOf w b K V Good m) (kf : KeyFit P k K Good) (t : TypeId) (ht : P.underlying t = some (.map k e)) (c : α) (hc : Good c) (v : β)
    (hg : o.guard = none) (x y z : Operand) (ho : o.op = .mapUpdate t x y z) (hx : a.eval x = .map (some b)) (hy : a.eval y = K c) (hz : a.eval z = V v)
    (hk : ∀ w', MapOf w' b K V Good (aput m c v) → Ext [b] w w' → wpList P ops Q rest (a.put o.dst undef) w') : wpList P ops Q (o :: rest) a w := by
  refine wpList_plain hg fun K' hK' => ?_
  obtain ⟨w', hr, h1, h2⟩ := h.put_run kf ht hc v
  unfold Oper.wp
  simp only [execOp, ho, hx, hy, hz, Sem.run_bind, hr, Result.andThen_ok, Sem.run_pure]
  exact hK' _ _ (hk w' h1 h2)
omit [DecidableEq α] in
theorem dj_ (h : MapOf w b K V Good m) (t : TypeId) (ht : P.underlying t = some (.map k e))
    (hg : o.guard = none) (x : Operand) (ho : o.op = .call { callee := .builtin .len, args := #[x], argTypes := #[t] }) (hx : a.eval x = .map (some b))
    (hk : wpList P ops Q rest (a.put o.dst (.int .i64 m.length)) w) : wpList P ops Q (o :: rest) a w := by
  refine wpList_plain hg fun K' hK' => ?_
  unfold Oper.wp
  simp [execOp, ho, resolve, invoke, builtin, hx, h.len_run ht o.type, Result.andThen]
  exact hK' _ _ hk
end
theorem laid : laidOutB Tryz.prog = true := by kernel_rfl
theorem et_ : ∃ m, Tryz.prog.types.size = m + 1 := by
  exact Nat.exists_eq_succ_of_ne_zero (by simp)
def k8 (k : Int) : Nat := (k % 256).toNat
def txt (l : List UInt8) : Value := .string ⟨l.toArray⟩
def hashedV (p : Nat × List UInt8) : Value := .agg #[.int .u8 p.1, txt p.2]
def hashedOk (p : Nat × List UInt8) : Prop := p.1 < 256 ∧ p.2.length ≤ maxLen
def saidV (p : (Int × Int) × List UInt8) : Value := .agg #[.int .i64 p.1.1, .int .i64 p.1.2, txt p.2]
def i64r (n : Int) : Prop := -9223372036854775808 ≤ n ∧ n < 9223372036854775808
def saidOk (p : (Int × Int) × List UInt8) : Prop := i64r p.1.1 ∧ i64r p.1.2 ∧ p.2.length ≤ maxLen
theorem hr_ {a b : List UInt8} (h : txt a = txt b) : a = b := by
  unfold txt at h
  injection h with h
  injection h with h
  simpa using congrArg Array.toList h
theorem jp_ (p : Nat × List UInt8) (h : hashedOk p) : ∃ l, keyOf Tryz.prog 679 (hashedV p) = some l := by
  obtain ⟨h1, h2⟩ := h
  have hk : (Tryz.prog.keyType 679 && (hashedV p).formed Tryz.prog 679) = true := by kernel_rfl
  have hn : Tryz.prog.cellsOf 679 = 2 := by kernel_rfl
  have hn5 : Tryz.prog.cellsOf 5 = 1 := by kernel_rfl
  have hn9 : Tryz.prog.cellsOf 9 = 1 := by kernel_rfl
  obtain ⟨m, hm⟩ := et_
  unfold keyOf
  simp only [Tryz.underlying679, if_pos hk, hm]
  simp [Program.keyLits, Tryz.underlying679, Tryz.underlying5, Tryz.underlying9, hn, hn5, hn9, hashedV, Value.cells, txt, Lit.wf]
  have e1 : IntKind.u8.min ≤ (p.1 : Int) ∧ (p.1 : Int) ≤ IntKind.u8.max := ⟨by show (0 : Int) ≤ _; omega, by show _ ≤ (255 : Int); omega⟩
  have e2 : (⟨p.2.toArray⟩ : ByteArray).size ≤ maxLen := by simpa [ByteArray.size] using h2
  simp [e1, e2]
theorem said_lit (p : (Int × Int) × List UInt8) (h : saidOk p) : ∃ l, keyOf Tryz.prog 682 (saidV p) = some l := by
  obtain ⟨h1, h2, h3⟩ := h
  have hk : (Tryz.prog.keyType 682 && (saidV p).formed Tryz.prog 682) = true := by kernel_rfl
  have hn : Tryz.prog.cellsOf 682 = 3 := by kernel_rfl
  have hn5 : Tryz.prog.cellsOf 3 = 1 := by kernel_rfl
  have hn9 : Tryz.prog.cellsOf 9 = 1 := by kernel_rfl
  obtain ⟨m, hm⟩ := et_
  unfold keyOf
  simp only [Tryz.underlying682, if_pos hk, hm]
  simp [Program.keyLits, Tryz.underlying682, Tryz.underlying3, Tryz.underlying9, hn, hn5, hn9, saidV, Value.cells, txt, Lit.wf]
  obtain ⟨h1a, h1b⟩ := h1
  obtain ⟨h2a, h2b⟩ := h2
  have e1 : IntKind.i64.min ≤ p.1.1 ∧ p.1.1 ≤ 9223372036854775807 := ⟨by show (-9223372036854775808 : Int) ≤ _; omega, by omega⟩
  have e3 : IntKind.i64.min ≤ p.1.2 ∧ p.1.2 ≤ 9223372036854775807 := ⟨by show (-9223372036854775808 : Int) ≤ _; omega, by omega⟩
  have e2 : (⟨p.2.toArray⟩ : ByteArray).size ≤ maxLen := by simpa [ByteArray.size] using h3
  simp [e1, e2, e3]
theorem dT_ : KeyFit Tryz.prog 679 hashedV hashedOk where
  keyed := Maps.Keyed.of_law (deep_law_laid laid (m := 4) (by decide) (of_decide_eq_true (by kernel_rfl)) (by kernel_rfl) (by kernel_rfl))
  lit := jp_
  inj a b _ _ h := by
    unfold hashedV at h
    injection h with h
    simp at h
    obtain ⟨a1, a2⟩ := a
    obtain ⟨b1, b2⟩ := b
    have := hr_ h.2
    simp only at this
    subst this
    have h1 : a1 = b1 := by have := h.1; omega
    subst h1
    rfl
theorem ek_ : KeyFit Tryz.prog 682 saidV saidOk where
  keyed := Maps.Keyed.of_law (deep_law_laid laid (m := 4) (by decide) (of_decide_eq_true (by kernel_rfl)) (by kernel_rfl) (by kernel_rfl))
  lit := said_lit
  inj a b _ _ h := by
    unfold saidV at h
    injection h with h
    simp at h
    obtain ⟨⟨a0, a1⟩, a2⟩ := a
    obtain ⟨⟨b0, b1⟩, b2⟩ := b
    have := hr_ h.2.2
    simp only at this h
    obtain ⟨rfl, rfl, _⟩ := h
    subst this
    rfl
theorem dJ_ {P : Program} {ops : Array Oper} {o : Oper} {a : Act} {w : World} {K : Act → World → Prop} {Q : Exit → Act → World → Prop} {E : Prop} (hgd : o.guard = none) (f : FuncId) (xs : Array Operand) (ats : Array TypeId)
    (ho : o.op = .call { callee := .value (.func f), args := xs, argTypes := ats }) {R : Ending → World → Prop} (vals : Array Value) (hv : xs.map a.eval = vals) (hcall : (callFunc f (#[] ++ vals ++ #[])).run P w = .ok (.enter f vals) w) (hc : Calls P f vals w R) (h : ∀ e w', R e w' → ∃ v, e = .returned v ∧ K (a.put o.dst v) w') :
    if Region.wanted o (yielded ops a.tmps) = true then Oper.wp P o a w K Q else E := by
  have hw : Region.wanted o (yielded ops a.tmps) = true := by simp [Region.wanted, hgd]
  rw [if_pos hw]
  unfold Oper.wp
  subst hv
  have hr : (execOp a.eval o).run P w = .ok (.enter f (xs.map a.eval)) w := by
    obtain ⟨dst, op, ty, pos, after, guard⟩ := o
    dsimp only at ho
    subst ho
    rw [execOp_call_go]
    exact hcall
  rw [hr, Oper.upon_enter]
  refine hc.mono fun e w' hR => ?_
  obtain ⟨v, rfl, hk⟩ := h e w' hR
  exact hk
/-! ### A number as a digest -/
def numCells (f n : Nat) : List Value := .int .u8 f :: (List.replicate 23 (.int .u8 0) ++ (beBytes n 8).map bc)
def numV (f n : Nat) : Value := .agg (numCells f n).toArray
theorem slice32 (q : Nat) (w : World) : (Instr.sliceAt 63 (.pointer (some ⟨q, 0, none⟩)) (some (.int .i64 24)) none none).run Tryz.prog w = .ok (.slice (some ⟨q, 24, none⟩) 8 8) w := by
  have ha : Tryz.prog.arrayLen 63 = 32 := by kernel_rfl
  have hs : ((sizeOf (Tryz.prog.elem 63)).run Tryz.prog w) = .ok 1 w := by kernel_rfl
  rw [run_sliceAt_array_l (P := Tryz.prog) w 63 ⟨q, 0, none⟩ Tryz.underlying63 .i64 24 (by omega) (by rw [ha]; omega), hs, ha]
  rfl
attribute [local go_sem] slice32
def preCells (f : Nat) : List Value := .int .u8 f :: List.replicate 31 (.int .u8 0)
def zero32 : Array Value := (List.replicate 32 (.int .u8 0)).toArray
theorem eC_ {tmps : Operand → Value} {dst pos after guard ty} {w : World} : (execOp tmps ⟨dst, .alloc 63, ty, pos, after, guard⟩).run Tryz.prog w = .ok (.value (.pointer (some ⟨w.heap.size, 0, none⟩))) (w.alloc (.cells zero32 63)) := by kernel_rfl
theorem own8 {w : World} {base n : Nat} {r : Value} (h : OwnB w base r ([] ++ beBytes n (Int.toNat 8))) : ∃ b off c, r = .slice (some ⟨b, off, none⟩) 8 c ∧ ∀ j u, ((beBytes n 8).map bc)[j]? = some u → w.cell? ((⟨b, off, none⟩ : Addr).add j) = some u := by
  obtain ⟨A, c, h1, _, _, _, h5⟩ := h.bytes
  obtain ⟨b, off, rfl, hc⟩ := h5 (by simp [beBytes])
  refine ⟨b, off, c, by rw [h1]; simp [v_], fun j u hu => ?_⟩
  have hadd : (⟨b, off, none⟩ : Addr).add j = ⟨b, off + j, none⟩ := by
    unfold Addr.add
    split
    · rename_i h0; subst h0; rfl
    · rfl
  rw [hadd]
  exact hc j u hu
theorem iZ_ (f n : Nat) : splice (preCells f) 24 ((beBytes n 8).map bc) = numCells f n := by
  simp [splice, preCells, numCells, v_]
theorem kz_ (f n : Nat) : (numCells f n).toArray.all (·.oneCell') = true := by
  rw [List.all_toArray, List.all_eq_true]
  intro v hv
  simp only [numCells, List.mem_cons, List.mem_append, List.mem_replicate, List.mem_map] at hv
  rcases hv with rfl | ⟨_, rfl⟩ | ⟨a, _, rfl⟩ <;> rfl
set_option maxHeartbeats 2000000 in
theorem e1_ (w : World) (f n : Nat) (hn : n < 9223372036854775808) :
    Calls Tryz.prog 557 #[.int .u8 f, .int .i64 n] w fun e w' => e = .returned (numV f n) ∧ Ext [] w w' := by
  go_enter Tryz.func557, Tryz.ntmps557
  go_wp2_with (first
    | ((with_reducible refine cB_ ⟨some 4, _, _, _, _, _⟩ ?_); refine a5_ rfl _ _ eC_ ?_)
    | ((with_reducible refine cB_ ⟨some 5, _, _, _, _, _⟩ ?_); refine a5_ rfl _ _ eC_ ?_)
    | ((with_reducible refine cB_ ⟨some 7, _, _, _, _, _⟩ ?_); refine a5_ rfl (.agg (preCells f).toArray) (w.alloc (.cells zero32 63)) (by kernel_rfl) ?_)
    | ((with_reducible refine cB_ ⟨none, .store _ (.tmp 5) (.tmp 7), _, _, _, _⟩ ?_); refine ee_ rfl _ _ _ rfl (w.alloc (.cells zero32 63)) _ _ (preCells f).toArray rfl rfl rfl (by kernel_rfl) (by kernel_rfl) (by kernel_rfl) ?_))
  have hput := fun (W : World) => fq_ W (.slice none 0 0) [] n (by omega) 8 (BytesV.nil W) (by simp) (by decide)
  have hcl := fun (W : World) => (by kernel_rfl : (callFunc 93 (#[] ++ #[.slice none 0 0, .int .u64 n, .int .i64 8] ++ #[])).run Tryz.prog W = .ok (.enter 93 #[.slice none 0 0, .int .u64 n, .int .i64 8]) W)
  have hwr : IntKind.u64.wrap (n : Int) = n := by rw [IntKind.wrap_u64]; omega
  have hx0 : Ext [] w ((w.alloc (.cells zero32 63)).alloc (.cells (preCells f).toArray 63)).drew := (((Ext.refl w).alloc _).alloc _).trans (G := []) (Still.ext (Still.drewN _ 1)) (by simp)
  have hb5 : Blk ((w.alloc (.cells zero32 63)).alloc (.cells (preCells f).toArray 63)).drew (w.heap.size + 1) 63 (preCells f).toArray := by
    have hsz : (w.alloc (.cells zero32 63)).heap.size = w.heap.size + 1 := Array.size_push _
    rw [← hsz]
    exact heap_alloc_new (w.alloc (.cells zero32 63)) (.cells (preCells f).toArray 63)
  have hb4 : Blk ((w.alloc (.cells zero32 63)).alloc (.cells (preCells f).toArray 63)).drew w.heap.size 63 zero32 :=
    (((Blk.new w 63 zero32).ext ((Ext.refl (F := []) _).alloc _) (by simp)).ext (F := []) (Still.ext (Still.drewN _ 1)) (by simp))
  go_region_law (first
    | (refine step_copy_splice rfl _ _ _ _ rfl 5 Tryz.underlying39 (by kernel_rfl) (some ⟨w.heap.size + 1, 24, none⟩) (some ⟨b, off, none⟩) 8 8 8 c (by simp [Act.eval]) (by simp [Act.eval]) (w.heap.size + 1) 24 (preCells f) 63 hb52 ((beBytes n 8).map bc) (by simp [v_]) (fun _ => ⟨rfl, _, rfl, hsrc⟩) (by simp [v_, preCells]) iQ_ (w.heap.size + 1) w2 (RowKit.Below.refl _ _) (Nat.le_refl _) ?_; intro w3 hb53 hbel)
    | (refine dJ_ rfl 93 _ _ rfl _ (by simp [Act.eval, Act.put]) (hcl _) (hput _) ?_; rintro e w2 ⟨r, rfl, hr2, hx2⟩; obtain ⟨b, off, c, rfl, hsrc⟩ := own8 hr2; have hb52 := hb5.ext hx2 (by simp); have hb42 := hb4.ext hx2 (by simp); refine ⟨_, rfl, ?_⟩))
  have hb43 : Blk w3 w.heap.size 63 zero32 := (hbel.block _ (by omega)).trans hb42
  have hb53' : Blk w3 (w.heap.size + 1) 63 (numCells f n).toArray := by
    have := hb53.out
    rw [iZ_] at this
    exact this
  have HX := Lib.hid (show Ext [] w w3 from ⟨hbel.os.trans (hx0.trans hx2 (by simp)).os, hbel.tape.trans (hx0.trans hx2 (by simp)).tape, hbel.output.trans (hx0.trans hx2 (by simp)).output, Nat.le_trans (hx0.trans hx2 (by simp)).size hbel.size, fun k hk hn => (hbel.block k (by omega)).trans ((hx0.trans hx2 (by simp)).block k hk hn)⟩)
  have H4 := Lib.hid hb43
  have H5 := Lib.hid hb53'
  clear hb43 hb53' hb53 hbel hb4 hb5 hb42 hb52 hx0 hx2 hr2 hsrc hput hcl
  go_wp2_with (first
    | ((with_reducible refine cB_ ⟨some 13, _, _, _, _, _⟩ ?_); refine wpList_load_row rfl _ _ rfl (w.heap.size + 1) rfl _ _ _ _ H5.out Tryz.underlying63 rfl (by kernel_rfl) ?_)
    | ((with_reducible refine cB_ ⟨none, .store _ (.tmp 4) (.tmp 13), _, _, _, _⟩ ?_); refine wpList_store_row rfl _ _ _ rfl w.heap.size (numCells f n).toArray rfl rfl _ _ H4.out (by kernel_rfl) (by kernel_rfl) (kz_ f n) ?_))
  exact bodyPost_ret (v := numV f n) (results_cell_row rfl _ _ w.heap.size _ _ _ _ rfl (H4.out.setRow _) Tryz.underlying63 rfl (by kernel_rfl)) rfl ⟨rfl, HX.out.setRow (Or.inr (Nat.le_refl _)) _⟩
/-! ### A key's number -/
section
variable {α : Type} [DecidableEq α]
def pl (m : List (α × Nat)) (k : α) : Nat := (aget m k).getD (m.length + 1)
def pm (m : List (α × Nat)) (k : α) : List (α × Nat) := if (aget m k).isSome then m else aput m k (m.length + 1)
end
def natV (n : Nat) : Value := .int .i64 n
theorem gC_ (w : World) (b : Nat) (m : List ((Nat × List UInt8) × Nat)) (k : Nat) (l : List UInt8) (h : MapOf w b hashedV natV hashedOk m) (hk : hashedOk (k, l)) (hm : m.length < 4611686018427387904) :
    Calls Tryz.prog 558 #[.map (some b), .agg #[.int .u8 k, .string ⟨l.toArray⟩]] w fun e w' => e = .returned (natV (pl m (k, l))) ∧ MapOf w' b hashedV natV hashedOk (pm m (k, l)) ∧ Ext [b] w w' := by
  have H := Lib.hid h; clear h
  have HK := Lib.hid hk; clear hk
  have hz : ∀ W : World, (zeroValue 3).run Tryz.prog W = .ok (.int .i64 0) W := fun W => by kernel_rfl
  have HZ := Lib.hid hz; clear hz
  have hl1 : (m.length : Int) + 1 < 9223372036854775808 := by omega
  have hl0 : (0 : Int) ≤ m.length := by omega
  rcases hg : aget m (k, l) with _ | v
  · have G := Lib.hid hg; clear hg
    go_enter Tryz.func558, Tryz.ntmps558
    go_wp2_with (first
      | ((with_reducible refine cB_ ⟨some 10, _, _, _, _, _⟩ ?_); refine bk_ (H.out.alloc _) dT_ _ Tryz.underlying82 _ (HZ.out _) (k, l) HK.out rfl _ _ rfl rfl rfl ?_; rw [G.out]; dsimp only [Option.map_none, Option.getD_none, Option.isSome_none])
      | ((with_reducible refine cB_ ⟨some 16, _, _, _, _, _⟩ ?_); refine dj_ (H.out.alloc _) _ Tryz.underlying82 rfl _ rfl rfl ?_)
      | ((with_reducible refine cB_ ⟨none, .mapUpdate _ _ _ _, _, _, _, _⟩ ?_); refine di_ (H.out.alloc _) dT_ _ Tryz.underlying82 (k, l) HK.out (m.length + 1) rfl _ _ _ rfl rfl rfl rfl ?_; intro w1 h1 hx1))
    go_ret
    refine ⟨by simp [pl, natV, G.out], ?_, ?_⟩
    · simpa [pm, G.out] using h1
    · exact ((Ext.refl (F := [b]) w).alloc _).trans hx1 (by simp)
  · have G := Lib.hid hg; clear hg
    go_enter Tryz.func558, Tryz.ntmps558
    go_wp2_with ((with_reducible refine cB_ ⟨some 10, _, _, _, _, _⟩ ?_); refine bk_ (H.out.alloc _) dT_ _ Tryz.underlying82 _ (HZ.out _) (k, l) HK.out rfl _ _ rfl rfl rfl ?_; rw [G.out]; dsimp only [Option.map_some, Option.getD_some, Option.isSome_some])
    go_ret
    refine ⟨by simp [pl, natV, G.out], ?_, ?_⟩
    · have := H.out.alloc (.cells #[.int .u8 k, .string ⟨l.toArray⟩] 679)
      simpa [pm, G.out] using this
    · exact (Ext.refl (F := [b]) _).alloc _
theorem jj_ (w : World) (b : Nat) (m : List (((Int × Int) × List UInt8) × Nat)) (x y : Int) (l : List UInt8) (h : MapOf w b saidV natV saidOk m) (hk : saidOk ((x, y), l)) (hm : m.length < 4611686018427387904) :
    Calls Tryz.prog 559 #[.map (some b), .agg #[.int .i64 x, .int .i64 y, .string ⟨l.toArray⟩]] w fun e w' => e = .returned (natV (pl m ((x, y), l))) ∧ MapOf w' b saidV natV saidOk (pm m ((x, y), l)) ∧ Ext [b] w w' := by
  have H := Lib.hid h; clear h
  have HK := Lib.hid hk; clear hk
  have hz : ∀ W : World, (zeroValue 3).run Tryz.prog W = .ok (.int .i64 0) W := fun W => by kernel_rfl
  have HZ := Lib.hid hz; clear hz
  have hl1 : (m.length : Int) + 1 < 9223372036854775808 := by omega
  have hl0 : (0 : Int) ≤ m.length := by omega
  rcases hg : aget m ((x, y), l) with _ | v
  · have G := Lib.hid hg; clear hg
    go_enter Tryz.func559, Tryz.ntmps559
    go_wp2_with (first
      | ((with_reducible refine cB_ ⟨some 10, _, _, _, _, _⟩ ?_); refine bk_ (H.out.alloc _) ek_ _ Tryz.underlying83 _ (HZ.out _) ((x, y), l) HK.out rfl _ _ rfl rfl rfl ?_; rw [G.out]; dsimp only [Option.map_none, Option.getD_none, Option.isSome_none])
      | ((with_reducible refine cB_ ⟨some 16, _, _, _, _, _⟩ ?_); refine dj_ (H.out.alloc _) _ Tryz.underlying83 rfl _ rfl rfl ?_)
      | ((with_reducible refine cB_ ⟨none, .mapUpdate _ _ _ _, _, _, _, _⟩ ?_); refine di_ (H.out.alloc _) ek_ _ Tryz.underlying83 ((x, y), l) HK.out (m.length + 1) rfl _ _ _ rfl rfl rfl rfl ?_; intro w1 h1 hx1))
    go_ret
    refine ⟨by simp [pl, natV, G.out], ?_, ?_⟩
    · simpa [pm, G.out] using h1
    · exact ((Ext.refl (F := [b]) w).alloc _).trans hx1 (by simp)
  · have G := Lib.hid hg; clear hg
    go_enter Tryz.func559, Tryz.ntmps559
    go_wp2_with ((with_reducible refine cB_ ⟨some 10, _, _, _, _, _⟩ ?_); refine bk_ (H.out.alloc _) ek_ _ Tryz.underlying83 _ (HZ.out _) ((x, y), l) HK.out rfl _ _ rfl rfl rfl ?_; rw [G.out]; dsimp only [Option.map_some, Option.getD_some, Option.isSome_some])
    go_ret
    refine ⟨by simp [pl, natV, G.out], ?_, ?_⟩
    · have := H.out.alloc (.cells #[.int .i64 x, .int .i64 y, .string ⟨l.toArray⟩] 682)
      simpa [pm, G.out] using this
    · exact (Ext.refl (F := [b]) _).alloc _
structure BookAt (w : World) (p bd bt : Nat) (D : List ((Nat × List UInt8) × Nat)) (T : List (((Int × Int) × List UInt8) × Nat)) : Prop where
  blk : Blk w p 85 #[.map (some bd), .map (some bt)]
  md : MapOf w bd hashedV natV hashedOk D
  mt : MapOf w bt saidV natV saidOk T
  ne : bd ≠ bt ∧ p ≠ bd ∧ p ≠ bt
theorem BookAt.ext {w w' : World} {p bd bt : Nat} {D T} {F : List Nat} (h : BookAt w p bd bt D T) (hx : Ext F w w') (h1 : p ∉ F) (h2 : bd ∉ F) (h3 : bt ∉ F) : BookAt w' p bd bt D T :=
  ⟨h.blk.ext hx h1, h.md.ext hx h2, h.mt.ext hx h3, h.ne⟩
theorem BookAt.ext0 {w w' : World} {p bd bt : Nat} {D T} (h : BookAt w p bd bt D T) (hx : Ext [] w w') : BookAt w' p bd bt D T := h.ext hx (by simp) (by simp) (by simp)
theorem f3_ {w : World} {v : Value} {l : List UInt8} (h : BytesV w v l) : (convert 39 9 v).run Tryz.prog w = .ok (.string ⟨l.toArray⟩) w := by
  obtain ⟨A, c, rfl, _, _, h4, h5⟩ := h
  rcases A with _ | a
  · have := run_convert_bytes_nil (P := Tryz.prog) (w := w) 39 5 Tryz.underlying39 Tryz.underlying5 l.length c 9 Tryz.underlying9
    have hl : l = [] := by
      rcases l with _ | ⟨x, l⟩
      · rfl
      · obtain ⟨b, off, h0, _⟩ := h5 (by simp)
        cases h0
    subst hl
    exact this
  · refine run_convert_bytes_back (P := Tryz.prog) w 39 9 5 a c l Tryz.underlying39 Tryz.underlying5 Tryz.underlying9 (fun j hj => ?_)
    obtain ⟨b, off, h0, hc⟩ := h5 (by intro h0; have := congrArg List.length h0; simp at this; subst this; simp at hj)
    cases h0
    have hadd : (⟨b, off, none⟩ : Addr).add j = ⟨b, off + j, none⟩ := by
      unfold Addr.add
      split
      · rename_i h0; subst h0; rfl
      · rfl
    rw [hadd]
    exact hc j _ (by simp [bc, hj])
theorem dp_ {w : World} {g f n : Nat} {t : TypeId} {cs : Array Value} (h : Blk w g t cs) (hs : cs.size = 32) : (storeCells ⟨g, 0, none⟩ (numCells f n)).run Tryz.prog w = .ok () (w.setRow g (numCells f n).toArray) := by
  have := run_storeCells_from (P := Tryz.prog) g t (numCells f n) 0 cs w h (by rw [hs]; simp [numCells, v_]) (fun v hv => by
    have := kz_ f n
    rw [List.all_toArray, List.all_eq_true] at this
    exact this v hv)
  simpa using this
theorem eL_ (f n : Nat) : (numCells f n).length = 32 := by simp [numCells, v_]
attribute [local go_sem] eL_
theorem jg_ {tmps : Operand → Value} {dst pos after guard ty} {w : World} : (execOp tmps ⟨dst, .alloc 121, ty, pos, after, guard⟩).run Tryz.prog w = .ok (.value (.pointer (some ⟨w.heap.size, 0, none⟩))) (w.alloc (.cells zero32 121)) := by kernel_rfl
theorem jf_ {tmps : Operand → Value} {dst pos after guard ty} {w : World} : (execOp tmps ⟨dst, .alloc 64, ty, pos, after, guard⟩).run Tryz.prog w = .ok (.value (.pointer (some ⟨w.heap.size, 0, none⟩))) (w.alloc (.cells zero32 64)) := by kernel_rfl
set_option maxHeartbeats 2000000 in
theorem hO_ (w : World) (p bd bt : Nat) (D : List ((Nat × List UInt8) × Nat)) (T : List (((Int × Int) × List UInt8) × Nat)) (k : Int) (v : Value) (l : List UInt8) (h : BookAt w p bd bt D T) (hv : BytesV w v l) (hk : hashedOk (k8 k, l)) (hm : D.length < 4611686018427387904) (hpl : pl D (k8 k, l) < 9223372036854775808) :
    Calls Tryz.prog 553 #[.pointer (some ⟨p, 0, none⟩), .int .i64 k, v] w fun e w' => e = .returned (numV (k8 k) (pl D (k8 k, l))) ∧ BookAt w' p bd bt (pm D (k8 k, l)) T ∧ Ext [bd] w w' := by
  have H := Lib.hid h; clear h
  have HK := Lib.hid hk; clear hk
  have HV := Lib.hid hv; clear hv
  go_enter Tryz.func553, Tryz.ntmps553
  go_wp2_with ((with_reducible refine cB_ ⟨some 6, _, _, _, _, _⟩ ?_); refine a5_ rfl _ _ jg_ ?_)
  have hx1 : Ext [] w (w.alloc (.cells zero32 121)).drew := ((Ext.refl w).alloc _).drew
  have hb0 : Blk (w.alloc (.cells zero32 121)).drew w.heap.size 121 zero32 := (Blk.new w 121 zero32).drew
  generalize (w.alloc (.cells zero32 121)) = W at *
  have H1 := H.out.ext0 hx1
  have hlt := H.out.md.lt
  have hc := Blk.cell H1.blk 0
  have hcv := f3_ (HV.out.ext0 hx1)
  have hw8 : IntKind.u8.wrap k = (k8 k : Int) := by rw [IntKind.wrap_u8]; unfold k8; omega
  have hcl := fun (W : World) => (by kernel_rfl : (callFunc 558 (#[] ++ #[.map (some bd), .agg #[.int .u8 (k8 k), .string ⟨l.toArray⟩]] ++ #[])).run Tryz.prog W = .ok (.enter 558 #[.map (some bd), .agg #[.int .u8 (k8 k), .string ⟨l.toArray⟩]]) W)
  have hcl2 := fun (W : World) => (by kernel_rfl : (callFunc 557 (#[] ++ #[.int .u8 (k8 k), natV (pl D (k8 k, l))] ++ #[])).run Tryz.prog W = .ok (.enter 557 #[.int .u8 (k8 k), natV (pl D (k8 k, l))]) W)
  have hp := fun (W : World) (h : MapOf W bd hashedV natV hashedOk D) => gC_ W bd D (k8 k) l h HK.out hm
  have hn := fun (W : World) => e1_ W (k8 k) (pl D (k8 k, l)) hpl
  have HB0 := Lib.hid hb0; have HX1 := Lib.hid hx1; have HH1 := Lib.hid H1
  have HP := Lib.hid hp; have HN := Lib.hid hn; have HC := Lib.hid hcl; have HC2 := Lib.hid hcl2
  clear hb0 hx1 H1 hp hn hcl hcl2
  go_region_law (first
    | (refine dJ_ rfl 558 _ _ rfl #[.map (some bd), .agg #[.int .u8 (k8 k), .string ⟨l.toArray⟩]] (by simp [Act.eval, Act.put]) (HC.out _) (HP.out _ (HH1.out.md)) ?_; rintro e w2 ⟨rfl, hm2, hx2⟩; refine ⟨_, rfl, ?_⟩)
    | (refine dJ_ rfl 557 _ _ rfl #[.int .u8 (k8 k), natV (pl D (k8 k, l))] (by simp [Act.eval]) (HC2.out _) (HN.out _) ?_; rintro e w3 ⟨rfl, hx3⟩; have hst := dp_ (f := (k8 k)) (n := pl D (k8 k, l)) ((HB0.out.ext hx2 (by simp; omega)).ext hx3 (by simp)) rfl; refine ⟨.agg (numCells (k8 k) (pl D (k8 k, l))).toArray, rfl, ?_⟩))
  all_goals
    have H2 := HH1.out
    have hb3 := (HB0.out.ext hx2 (by simp; omega)).ext hx3 (by simp)
    have hbk : BookAt w2 p bd bt (pm D (k8 k, l)) T := ⟨H2.blk.ext hx2 (by simpa using H2.ne.2.1), hm2, H2.mt.ext hx2 (by simpa using fun e => H2.ne.1 e.symm), H2.ne⟩
    have hp1 := H.out.blk.lt
    have hp2 := H.out.md.lt
    have hp3 := H.out.mt.lt
    have HK3 := Lib.hid ((hbk.ext0 hx3).ext ((Ext.refl (F := [w.heap.size]) w3).setRow (g := w.heap.size) (by simp) (numCells (k8 k) (pl D (k8 k, l))).toArray) (by simp; omega) (by simp; omega) (by simp; omega))
    have HX3 := Lib.hid ((((HX1.out.mono (G := [bd]) (by simp)).trans hx2 (by simp)).trans hx3 (by simp)).setRow (g := w.heap.size) (Or.inr (Nat.le_refl _)) (numCells (k8 k) (pl D (k8 k, l))).toArray)
    have HB3 := Lib.hid hb3
    clear hb3 hbk hp1 hp2 hp3 hx2 hx3 hm2 hst H2
    go_wp2
    exact bodyPost_ret (v := numV (k8 k) (pl D (k8 k, l))) (results_cell_row rfl _ _ w.heap.size _ _ _ _ rfl (HB3.out.setRow _) Tryz.underlying121 rfl (by kernel_rfl)) rfl ⟨rfl, HK3.out, HX3.out⟩
set_option maxHeartbeats 2000000 in
theorem iK_ (w : World) (p bd bt : Nat) (D : List ((Nat × List UInt8) × Nat)) (T : List (((Int × Int) × List UInt8) × Nat)) (x y : Int) (v : Value) (l : List UInt8) (h : BookAt w p bd bt D T) (hv : BytesV w v l) (hk : saidOk ((x, y), l)) (hm : T.length < 4611686018427387904) (hpl : pl T ((x, y), l) < 9223372036854775808) :
    Calls Tryz.prog 555 #[.pointer (some ⟨p, 0, none⟩), .int .i64 x, .int .i64 y, v] w fun e w' => e = .returned (numV 255 (pl T ((x, y), l))) ∧ BookAt w' p bd bt D (pm T ((x, y), l)) ∧ Ext [bt] w w' := by
  have H := Lib.hid h; clear h
  have HK := Lib.hid hk; clear hk
  have HV := Lib.hid hv; clear hv
  go_enter Tryz.func555, Tryz.ntmps555
  go_wp2_with ((with_reducible refine cB_ ⟨some 8, _, _, _, _, _⟩ ?_); refine a5_ rfl _ _ jf_ ?_)
  have hx1 : Ext [] w (w.alloc (.cells zero32 64)).drew := ((Ext.refl w).alloc _).drew
  have hb0 : Blk (w.alloc (.cells zero32 64)).drew w.heap.size 64 zero32 := (Blk.new w 64 zero32).drew
  generalize (w.alloc (.cells zero32 64)) = W at *
  have H1 := H.out.ext0 hx1
  have hlt := H.out.mt.lt
  have hc := Blk.cell H1.blk 1
  have hcv := f3_ (HV.out.ext0 hx1)
  have hcl := fun (W : World) => (by kernel_rfl : (callFunc 559 (#[] ++ #[.map (some bt), .agg #[.int .i64 x, .int .i64 y, .string ⟨l.toArray⟩]] ++ #[])).run Tryz.prog W = .ok (.enter 559 #[.map (some bt), .agg #[.int .i64 x, .int .i64 y, .string ⟨l.toArray⟩]]) W)
  have hcl2 := fun (W : World) => (by kernel_rfl : (callFunc 557 (#[] ++ #[.int .u8 255, natV (pl T ((x, y), l))] ++ #[])).run Tryz.prog W = .ok (.enter 557 #[.int .u8 255, natV (pl T ((x, y), l))]) W)
  have hp := fun (W : World) (h : MapOf W bt saidV natV saidOk T) => jj_ W bt T x y l h HK.out hm
  have hn := fun (W : World) => e1_ W 255 (pl T ((x, y), l)) hpl
  have HB0 := Lib.hid hb0; have HX1 := Lib.hid hx1; have HH1 := Lib.hid H1
  have HP := Lib.hid hp; have HN := Lib.hid hn; have HC := Lib.hid hcl; have HC2 := Lib.hid hcl2
  clear hb0 hx1 H1 hp hn hcl hcl2
  go_region_law (first
    | (refine dJ_ rfl 559 _ _ rfl #[.map (some bt), .agg #[.int .i64 x, .int .i64 y, .string ⟨l.toArray⟩]] (by simp [Act.eval, Act.put]) (HC.out _) (HP.out _ (HH1.out.mt)) ?_; rintro e w2 ⟨rfl, hm2, hx2⟩; refine ⟨_, rfl, ?_⟩)
    | (refine dJ_ rfl 557 _ _ rfl #[.int .u8 255, natV (pl T ((x, y), l))] (by simp [Act.eval]) (HC2.out _) (HN.out _) ?_; rintro e w3 ⟨rfl, hx3⟩; have hst := dp_ (f := 255) (n := pl T ((x, y), l)) ((HB0.out.ext hx2 (by simp; omega)).ext hx3 (by simp)) rfl; refine ⟨.agg (numCells 255 (pl T ((x, y), l))).toArray, rfl, ?_⟩))
  all_goals
    have H2 := HH1.out
    have hb3 := (HB0.out.ext hx2 (by simp; omega)).ext hx3 (by simp)
    have hbk : BookAt w2 p bd bt D (pm T ((x, y), l)) := ⟨H2.blk.ext hx2 (by simpa using H2.ne.2.2), H2.md.ext hx2 (by simpa using H2.ne.1), hm2, H2.ne⟩
    have hp1 := H.out.blk.lt
    have hp2 := H.out.md.lt
    have hp3 := H.out.mt.lt
    have HK3 := Lib.hid ((hbk.ext0 hx3).ext ((Ext.refl (F := [w.heap.size]) w3).setRow (g := w.heap.size) (by simp) (numCells 255 (pl T ((x, y), l))).toArray) (by simp; omega) (by simp; omega) (by simp; omega))
    have HX3 := Lib.hid ((((HX1.out.mono (G := [bt]) (by simp)).trans hx2 (by simp)).trans hx3 (by simp)).setRow (g := w.heap.size) (Or.inr (Nat.le_refl _)) (numCells 255 (pl T ((x, y), l))).toArray)
    have HB3 := Lib.hid hb3
    clear hb3 hbk hp1 hp2 hp3 hx2 hx3 hm2 hst H2
    go_wp2
    exact bodyPost_ret (v := numV 255 (pl T ((x, y), l))) (results_cell_row rfl _ _ w.heap.size _ _ _ _ rfl (HB3.out.setRow _) Tryz.underlying64 rfl (by kernel_rfl)) rfl ⟨rfl, HK3.out, HX3.out⟩
section
variable {P : Program} {ops : Array Oper} {rest : List Oper} {o : Oper} {a : Act} {Q : Act → Prop} {C : World → Prop}
theorem at_opq (o : Oper) (h : wpQuiet P ops C Q (o :: rest) a) : wpQuiet P ops C Q (o :: rest) a := h
theorem fH_ (hg : o.guard = none) (v : Value) (h : ∀ w, C w → (execOp a.eval o).run P w = .ok (.value v) w) (k : wpQuiet P ops C Q rest (a.put o.dst v)) : wpQuiet P ops C Q (o :: rest) a := by
  refine BigFrame.wpQuiet_want (by simp [Region.wanted, hg]) fun K hK => ?_
  exact ⟨v, fun w hw => by unfold Oper.quietAt; rw [h w hw]; exact ⟨rfl, rfl⟩, hK _ k⟩
end
section
variable {α β : Type} [DecidableEq α] {P : Program} {w : World} {b : Nat} {k e : TypeId} {K : α → Value} {V : β → Value} {Good : α → Prop} {m : List (α × β)} {o : Oper} {a : Act}
theorem gs_ (h : MapOf w b K V Good m) (kf : KeyFit P k K Good) (t : TypeId) (ht : P.underlying t = some (.map k e)) (z : Value) (hz : (zeroValue e).run P w = .ok z w) (c : α) (hc : Good c)
    (x y : Operand) (ho : o.op = .lookup t x y true) (hx : a.eval x = .map (some b)) (hy : a.eval y = K c) :
    (execOp a.eval o).run P w = .ok (.value (.tuple #[((aget m c).map V).getD z, .bool (aget m c).isSome])) w := by
  simp only [execOp, ho, hx, hy, Sem.run_bind, h.look_run kf ht hz hc true, if_true, Result.andThen_ok, Sem.run_pure]
end
theorem fz_ (w : World) (o : Obj) : (w.alloc o).heap.size = w.heap.size + 1 := Array.size_push _
set_option maxHeartbeats 2000000 in
theorem book_New (w : World) : Calls Tryz.prog 15 #[] w fun e w' => e = .returned (.pointer (some ⟨w.heap.size + 2, 0, none⟩)) ∧ BookAt w' (w.heap.size + 2) w.heap.size (w.heap.size + 1) [] [] ∧ Ext [] w w' := by
  have h1 := (Ext.refl (F := []) w).alloc (.map #[] 0)
  have m1 := MapOf.new (K := hashedV) (V := natV) (Good := hashedOk) w
  have s1 := fz_ w (.map #[] 0)
  obtain ⟨W1, hW1⟩ : ∃ W1, W1 = w.alloc (.map #[] 0) := ⟨_, rfl⟩
  rw [← hW1] at h1 m1 s1
  have h2 := h1.alloc (.map #[] 0)
  have m2 := m1.alloc (.map #[] 0)
  have m3 := MapOf.new (K := saidV) (V := natV) (Good := saidOk) W1
  have s2 := fz_ W1 (.map #[] 0)
  have r1 : ∀ (tmps : Operand → Value) dst pos after guard ty, (execOp tmps ⟨dst, .makeMap 82 none, ty, pos, after, guard⟩).run Tryz.prog w = .ok (.value (.map (some w.heap.size))) W1 := by intros; rw [hW1]; rfl
  obtain ⟨W2, hW2⟩ : ∃ W2, W2 = W1.alloc (.map #[] 0) := ⟨_, rfl⟩
  rw [← hW2] at h2 m2 m3 s2
  have r2 : ∀ (tmps : Operand → Value) dst pos after guard ty, (execOp tmps ⟨dst, .makeMap 83 none, ty, pos, after, guard⟩).run Tryz.prog W1 = .ok (.value (.map (some (w.heap.size + 1)))) W2 := by intros; rw [hW2, ← s1]; rfl
  have hb := Blk.new W2 85 #[.map (some w.heap.size), .map (some (w.heap.size + 1))]
  rw [s2, s1] at hb
  rw [s1] at m3
  have R1 := Lib.hid r1
  have R2 := Lib.hid r2
  have hs : W2.heap.size = w.heap.size + 2 := by omega
  have HM := Lib.hid (And.intro (m2.alloc (.cells #[.map (some w.heap.size), .map (some (w.heap.size + 1))] 85)) (And.intro (m3.alloc (.cells #[.map (some w.heap.size), .map (some (w.heap.size + 1))] 85)) (And.intro hb (h2.alloc (.cells #[.map (some w.heap.size), .map (some (w.heap.size + 1))] 85)))))
  clear hb m1 m2 m3 s1 s2 h1 h2 r1 r2 hW1 hW2
  go_enter Tryz.func15, Tryz.ntmps15
  go_wp2_with (first
    | ((with_reducible refine cB_ ⟨some 1, _, _, _, _, _⟩ ?_); refine a5_ rfl _ _ (R1.out _ _ _ _ _ _) ?_)
    | ((with_reducible refine cB_ ⟨some 2, _, _, _, _, _⟩ ?_); refine a5_ rfl _ _ (R2.out _ _ _ _ _ _) ?_))
  go_ret
  exact ⟨rfl, ⟨HM.out.2.2.1, HM.out.1, HM.out.2.1, by omega, by omega, by omega⟩, HM.out.2.2.2⟩
theorem gY_ (w : World) (p bd bt : Nat) (D : List ((Nat × List UInt8) × Nat)) (T : List (((Int × Int) × List UInt8) × Nat)) (x y : Int) (v : Value) (l : List UInt8) (h : BookAt w p bd bt D T) (hv : BytesV w v l) (hk : saidOk ((x, y), l)) (b : Bool) (hb : (aget T ((x, y), l)).isSome = b) :
    Calls Tryz.prog 556 #[.pointer (some ⟨p, 0, none⟩), .int .i64 x, .int .i64 y, v] w fun e w' => e = .returned (.bool b) ∧ Ext [] w w' := by
  have H := Lib.hid h
  have HK := Lib.hid hk; clear hk
  have hc := fun (x : Later w) => Blk.cell (Later.blk x h.blk) 1
  have hcv := fun (x : Later w) => f3_ (hv.ext0 x.ext)
  have HB := Lib.hid hb
  clear h hv hb
  go_enter Tryz.func556, Tryz.ntmps556
  go_wp2
  refine bF_ (by kernel_rfl) (by kernel_rfl) ?_
  repeat (first
    | ((with_reducible refine at_opq ⟨some 23, _, _, _, _, _⟩ ?_); refine fH_ rfl _ (by rintro _ ⟨xq, rfl⟩; exact gs_ (H.out.ext0 xq.ext).mt ek_ _ Tryz.underlying83 (.int .i64 0) (by kernel_rfl) ((x, y), l) HK.out _ _ rfl rfl rfl) ?_; go_simp)
    | go_big_quiet_step (fail))
  refine wpQuiet_nil ?_
  intro xq
  have hx := xq.ext
  go_wp2
  go_ret
  exact ⟨if_ HB.out, hx⟩
def litB (c : UInt8) : Lit := .int .u8 (c.toNat : Int)
theorem iw_ {L M : List UInt8} (h : L.map litB = M.map litB) : L = M := by
  have hi : ∀ a b : UInt8, litB a = litB b → a = b := by
    intro a b hab
    unfold litB at hab
    injection hab with _ hab
    exact UInt8.toNat.inj (by omega)
  induction L generalizing M with
  | nil => cases M with
    | nil => rfl
    | cons _ _ => simp at h
  | cons a L ih => cases M with
    | nil => simp at h
    | cons b M =>
      simp only [List.map_cons, List.cons.injEq] at h
      rw [hi _ _ h.1, ih h.2]
theorem dS_ {m : Nat} {T : TypeId} (hu : Tryz.prog.underlying T = some (.array 32 5)) (hc : Tryz.prog.cellsOf T = 32) (L : List UInt8) (hL : L.length = 32) :
    Tryz.prog.keyLits (m + 2) T (L.map bc) = some (L.map litB) := by
  have h5 : Tryz.prog.cellsOf 5 = 1 := by kernel_rfl
  have hone : ∀ c : UInt8, Tryz.prog.keyLits (m + 1) 5 [bc c] = some [litB c] := by
    intro c
    have hb : c.toNat < 256 := c.toNat_lt
    have e1 : (Lit.int .u8 (c.toNat : Int)).wf = true := by
      simp only [Lit.wf, Bool.and_eq_true, decide_eq_true_eq]
      exact ⟨by show (0 : Int) ≤ _; omega, by show _ ≤ (255 : Int); omega⟩
    simp [Program.keyLits, Tryz.underlying5, bc, litB, e1]
  have hm : (List.range 32).mapM (fun i => Tryz.prog.keyLits (m + 1) 5 (((L.map bc).drop (i * 1)).take 1)) = some (L.map fun c => [litB c]) := by
    refine mapM_some_of_get _ _ (by simp [hL]) ?_
    intro i x hx
    have hi : i < 32 := by
      have := (List.getElem?_eq_some_iff.1 hx).1
      simpa using this
    have hxi : x = i := by
      have := (List.getElem?_eq_some_iff.1 hx).2
      simpa using this.symm
    subst hxi
    have hl : x < L.length := by omega
    have hd : ((L.map bc).drop (x * 1)).take 1 = [bc L[x]] := by
      rw [Nat.mul_one, List.drop_eq_getElem_cons (by simpa using hl)]
      simp
    rw [hd, hone]
    simp [hl]
  have hfl : (L.map fun c => [litB c]).flatten = L.map litB := by
    clear hm hL
    induction L with
    | nil => rfl
    | cons c L ih => simp [ih]
  have hlen : (L.map bc).length = Tryz.prog.cellsOf T := by simp [hL, hc]
  have hcell : (L.map bc).length = 32 := by simp [hL]
  unfold Program.keyLits
  rw [hu]
  split
  · simp_all
  · simp_all
  · simp_all
  · rename_i h1
    injection h1 with h1
    injection h1 with h1 h2
    subst h1
    subst h2
    rw [if_pos hlen, h5, hm, Option.map_some, hfl]
  · simp_all
  · simp_all
def arrB (L : List UInt8) : Value := .agg (L.map bc).toArray
theorem formedB {T : TypeId} (hu : Tryz.prog.underlying T = some (.array 32 5)) (hc : Tryz.prog.cellsOf T = 32) (L : List UInt8) (hL : L.length = 32) : (arrB L).formed Tryz.prog T = true := by
  simp [arrB, Value.formed, hu, hc, hL]
theorem eqlB {T : TypeId} (hu : Tryz.prog.underlying T = some (.array 32 5)) (hc : Tryz.prog.cellsOf T = 32) (hk : Tryz.prog.keyTypeAt 4 T = true) (L M : List UInt8) (hL : L.length = 32) (hM : M.length = 32) (b : Bool) (hb : decide (L = M) = b) (w : World) :
    (binOp .eql T (arrB L) (arrB M)).run Tryz.prog w = .ok (.bool b) w :=
  d7_ (m := 4) (by decide) hk (formedB hu hc L hL) (formedB hu hc M hM) (dS_ (m := 0) hu hc L hL) (dS_ (m := 0) hu hc M hM) b (by
    rw [← hb, decide_eq_true_eq]
    exact ⟨fun h => by rw [h], iw_⟩) w
theorem eqlD (L M : List UInt8) (hL : L.length = 32) (hM : M.length = 32) (b : Bool) (hb : decide (L = M) = b) (w : World) : (binOp .eql 121 (arrB L) (arrB M)).run Tryz.prog w = .ok (.bool b) w :=
  eqlB Tryz.underlying121 (by kernel_rfl) (by kernel_rfl) L M hL hM b hb w
theorem eqlT (L M : List UInt8) (hL : L.length = 32) (hM : M.length = 32) (b : Bool) (hb : decide (L = M) = b) (w : World) : (binOp .eql 64 (arrB L) (arrB M)).run Tryz.prog w = .ok (.bool b) w :=
  eqlB Tryz.underlying64 (by kernel_rfl) (by kernel_rfl) L M hL hM b hb w
/-! ### Rows of 32 bytes -/
def numB (f n : Nat) : List UInt8 := UInt8.ofNat f :: (List.replicate 23 0 ++ beBytes n 8)
theorem bq_ (f n : Nat) : (numB f n).length = 32 := by simp [numB, v_]
theorem fc_ (f n : Nat) (hf : f < 256) : numCells f n = (numB f n).map bc := by
  simp [numCells, numB, bc]
  omega
theorem fS_ (f n : Nat) (hf : f < 256) : numV f n = arrB (numB f n) := by
  unfold numV arrB
  rw [fc_ f n hf]
theorem step_gog {P : Program} {ops : Array Oper} {o : Oper} {a : Act} {w : World} {K : Act → World → Prop} {Q : Exit → Act → World → Prop} {E : Prop} (hw : Region.wanted o (yielded ops a.tmps) = true) (f : FuncId) (xs : Array Operand) (ats : Array TypeId)
    (ho : o.op = .call { callee := .value (.func f), args := xs, argTypes := ats }) {R : Ending → World → Prop} (vals : Array Value) (hv : xs.map a.eval = vals) (hcall : (callFunc f (#[] ++ vals ++ #[])).run P w = .ok (.enter f vals) w) (hc : Calls P f vals w R) (h : ∀ e w', R e w' → ∃ v, e = .returned v ∧ K (a.put o.dst v) w') :
    if Region.wanted o (yielded ops a.tmps) = true then Oper.wp P o a w K Q else E := by
  rw [if_pos hw]
  subst hv
  unfold Oper.wp
  have hr : (execOp a.eval o).run P w = .ok (.enter f (xs.map a.eval)) w := by
    obtain ⟨dst, op, ty, pos, after, guard⟩ := o
    dsimp only at ho
    subst ho
    rw [execOp_call_go]
    exact hcall
  rw [hr, Oper.upon_enter]
  refine hc.mono fun e w' hR => ?_
  obtain ⟨v, rfl, hk⟩ := h e w' hR
  exact hk
def loadArr (t : TypeId) (v : Value) : Sem Next := execOp (fun _ => v) ⟨none, .load t (.tmp 0), 0, "", #[], none⟩
theorem kE_ (a : Act) (dst x ty pos after guard) : execOp a.eval ⟨dst, .load 64 x, ty, pos, after, guard⟩ = loadArr 64 (a.eval x) := rfl
theorem dq_ {w : World} {g : Nat} {L : List UInt8} (h : Blk w g 64 (L.map bc).toArray) (hL : L.length = 32) : (loadArr 64 (.pointer (some ⟨g, 0, none⟩))).run Tryz.prog w = .ok (.value (.agg (L.map bc).toArray)) w := by
  have h1 : (Tryz.prog.info? 64).map (·.size) = some 32 := by kernel_rfl
  unfold loadArr execOp
  simp only [Instr.loadAt, Instr.sureAddr, Sem.run_bind, Sem.run_pure, Result.andThen_ok, run_loadVar_row w g 64 64 (L.map bc).toArray (0, 0) _ h Tryz.underlying64 rfl (by rw [h1]; simp [hL])]
attribute [local go_sem ↓] kE_
theorem pm_some {α : Type} [DecidableEq α] {m : List (α × Nat)} {k : α} (h : (aget m k).isSome = true) : pm m k = m := if_pos h
set_option maxHeartbeats 2000000 in
theorem js_ (w : World) (p bd bt : Nat) (D : List ((Nat × List UInt8) × Nat)) (T : List (((Int × Int) × List UInt8) × Nat)) (x y : Int) (v : Value) (l : List UInt8) (M : List UInt8) (h : BookAt w p bd bt D T) (hv : BytesV w v l) (hk : saidOk ((x, y), l)) (hM : M.length = 32) (hm : T.length < 4611686018427387904) (hpl : pl T ((x, y), l) < 9223372036854775808) (b : Bool) (hb : ((aget T ((x, y), l)).isSome && decide (M = numB 255 (pl T ((x, y), l)))) = b) :
    Calls Tryz.prog 552 #[.pointer (some ⟨p, 0, none⟩), .int .i64 x, .int .i64 y, v, arrB M] w fun e w' => e = .returned (.bool b) ∧ BookAt w' p bd bt D T ∧ Ext [bt] w w' := by
  have H := Lib.hid h; clear h
  have HV := Lib.hid hv; clear hv
  change Calls _ _ #[_, _, _, _, .agg (M.map bc).toArray] _ _
  have hx1 : Ext [] w (w.alloc (.cells (M.map bc).toArray 64)).drew := ((Ext.refl w).alloc _).drew
  have hb9 : Blk (w.alloc (.cells (M.map bc).toArray 64)).drew w.heap.size 64 (M.map bc).toArray := (Blk.new w 64 (M.map bc).toArray).drew
  have hcs := fun (W : World) => (by kernel_rfl : (callFunc 556 (#[] ++ #[.pointer (some ⟨p, 0, none⟩), .int .i64 x, .int .i64 y, v] ++ #[])).run Tryz.prog W = .ok (.enter 556 #[.pointer (some ⟨p, 0, none⟩), .int .i64 x, .int .i64 y, v]) W)
  have HX1 := Lib.hid hx1
  have HX0 := Lib.hid (Ext.new w (.cells (M.map bc).toArray 64))
  have HB9 := Lib.hid hb9
  have HCS := Lib.hid hcs
  clear hx1 hb9 hcs
  have HM := Lib.hid hM
  have HBT := Lib.hid H.out.mt.lt
  by_cases hs : (aget T ((x, y), l)).isSome = true
  · have hsaid := fun (W : World) (h : BookAt W p bd bt D T) (hv : BytesV W v l) => gY_ W p bd bt D T x y v l h hv hk true hs
    have htag := fun (W : World) (h : BookAt W p bd bt D T) (hv : BytesV W v l) => iK_ W p bd bt D T x y v l h hv hk hm hpl
    rw [pm_some hs, fS_ _ _ (by decide), arrB] at htag
    have heq : ∀ W : World, (binOp .eql 64 (.agg (M.map bc).toArray) (.agg ((numB 255 (pl T ((x, y), l))).map bc).toArray)).run Tryz.prog W = .ok (.bool b) W := fun W => eqlT M (numB 255 (pl T ((x, y), l))) hM (bq_ _ _) b (by rw [← hb, hs]; rfl) W
    have hct := fun (W : World) => (by kernel_rfl : (callFunc 555 (#[] ++ #[.pointer (some ⟨p, 0, none⟩), .int .i64 x, .int .i64 y, v] ++ #[])).run Tryz.prog W = .ok (.enter 555 #[.pointer (some ⟨p, 0, none⟩), .int .i64 x, .int .i64 y, v]) W)
    have HS := Lib.hid hsaid
    have HT := Lib.hid htag
    have HCT := Lib.hid hct
    clear hs hsaid htag hct hb hk
    go_enter Tryz.func552, Tryz.ntmps552
    go_wp2
    first | go_region_law (first
      | (refine dJ_ rfl 556 _ _ rfl #[.pointer (some ⟨p, 0, none⟩), .int .i64 x, .int .i64 y, v] (by simp [Act.eval, Act.put]) (HCS.out _) (HS.out _ (H.out.ext0 HX1.out) (HV.out.ext0 HX1.out)) ?_; rintro e w2 ⟨rfl, hx2⟩; have hld := dq_ (HB9.out.ext hx2 (by simp)) HM.out; refine ⟨_, rfl, ?_⟩)
      | (refine step_gog rfl 555 _ _ rfl #[.pointer (some ⟨p, 0, none⟩), .int .i64 x, .int .i64 y, v] (by simp [Act.eval, Act.put]) (HCT.out _) (HT.out _ ((H.out.ext0 HX1.out).ext0 hx2) ((HV.out.ext0 HX1.out).ext0 hx2)) ?_; rintro e w3 ⟨rfl, hbk3, hx3⟩; have hld3 := dq_ ((HB9.out.ext hx2 (by simp)).ext hx3 (by have := HBT.out; simp; omega)) HM.out; refine ⟨_, rfl, ?_⟩))
    all_goals
      have HX := Lib.hid ((((HX1.out.mono (G := [bt]) (by simp)).trans hx2 (by simp)).trans hx3 (by simp)))
      have HK := Lib.hid hbk3
      clear hx2 hx3 hbk3 hld hld3
      go_wp2
      go_ret
      exact ⟨rfl, HK.out, HX.out⟩
  · have hs' : (aget T ((x, y), l)).isSome = false := by simpa using hs
    have hsaid := fun (W : World) (h : BookAt W p bd bt D T) (hv : BytesV W v l) => gY_ W p bd bt D T x y v l h hv hk false hs'
    obtain rfl : false = b := by rw [← hb, hs']; rfl
    have HS := Lib.hid hsaid
    clear hs hs' hsaid hb
    go_enter Tryz.func552, Tryz.ntmps552
    go_wp2
    refine bF_ (by kernel_rfl) (by kernel_rfl) ?_
    repeat (go_big_quiet_step ((go_at_call 556; exact Later.call (HS.out _ (H.out.ext0 (HX0.out.tr (Later.ext _))) (HV.out.ext0 (HX0.out.tr (Later.ext _)))))))
    refine wpQuiet_nil ?_
    rintro _ ⟨xq, rfl⟩
    have HX := Lib.hid (HX0.out.trans xq.ext (by simp))
    go_wp2
    go_ret
    exact ⟨rfl, H.out.ext0 HX.out, HX.out.mono (by simp)⟩
section
variable {α : Type} [DecidableEq α] {m : List (α × Nat)} {k c : α}
structure Inv1 (m : List (α × Nat)) (k : α) : Prop where
  one : aget m k = some 1
  only : ∀ c, aget m c = some 1 → c = k
  pos : 1 ≤ m.length
theorem gB_ (m : List (α × Nat)) (c : α) : (pm m c).length ≤ m.length + 1 := by
  unfold pm
  split
  · omega
  · rename_i hn; rw [e2_, if_neg hn]; omega
end
def Rd.as (s t : Rd) : Prop := s.l = t.l ∧ s.e = t.e
section
variable {s t : Rd}
theorem Rd.as.bad (h : s.as t) (n : Int) : s.bad n ↔ t.bad n := by unfold Rd.bad; rw [h.1]
theorem Rd.as.fixed (h : s.as t) (n : Int) : (s.fixed n).as (t.fixed n) := by
  unfold Rd.fixed Rd.as
  by_cases he : t.e = 0
  · have he' : s.e = 0 := by rw [h.2, he]
    by_cases hb : t.bad n
    · simp [he, he', hb, (h.bad n).2 hb, h.1]
    · have hb' : ¬ s.bad n := fun x => hb ((h.bad n).1 x)
      simp [he, he', hb, hb', h.1]
  · have he' : s.e ≠ 0 := by rw [h.2]; exact he
    simp [he, h.1, h.2]
theorem Rd.as.out (h : s.as t) (n : Int) : s.out n = t.out n := by
  unfold Rd.out
  rw [h.1, h.2]
  by_cases hb : t.bad n
  · simp [hb, (h.bad n).2 hb]
  · have hb' : ¬ s.bad n := fun x => hb ((h.bad n).1 x)
    simp [hb, hb']
theorem Rd.as.num (h : s.as t) (n : Int) : s.num n = t.num n := by unfold Rd.num; rw [h.out]
theorem Rd.as.row (h : s.as t) (most : Int) : (s.row most).as (t.row most) := by
  have h1 := h.fixed 4
  unfold Rd.row
  rw [h1.2, h.num 4]
  split
  · exact h1
  · split
    · exact ⟨h1.1, rfl⟩
    · exact h1.fixed _
theorem Rd.as.rowOut (h : s.as t) (most : Int) : s.rowOut most = t.rowOut most := by
  have h1 := h.fixed 4
  unfold Rd.rowOut
  rw [h1.2, h.num 4, h1.out]
theorem Rd.as.end_ (h : s.as t) : s.end_ = t.end_ := by unfold Rd.end_; rw [h.1, h.2]
end
def Rd.of (l : List UInt8) : Rd := ⟨.slice none 0 0, l, 0⟩
theorem Rd.rowOut_length (s : Rd) (most : Int) : (s.rowOut most).length ≤ s.l.length := by
  have h1 := s.fixed_length 4
  unfold Rd.rowOut
  split
  · simp
  · split
    · simp
    · unfold Rd.out
      split
      · simp
      · split
        · simp
        · simp; omega
end Go.Proofs.YtjclgkddfjbdiaaGreatDoor
namespace Go.Proofs.YtjclgkddfjbdiaaGreatDoor.A
open Go.RowKit
abbrev int (x : Int) : Abs := .v (.int .i64 x)
abbrev wrd (x : Nat) : Abs := .v (.int .u64 (x : Nat))
abbrev boo (b : Bool) : Abs := .v (.bool b)
abbrev ptr (b : Nat) : Abs := .v (.pointer (some ⟨b, 0, none⟩))
abbrev rdA (T : TypeId) (p : Nat) (s : Rd) : It := .blk p T [byt s.l, int s.e]
section
variable {P : Program} {f : FuncId}
abbrev flat {α : Type} (s : Nat) (c : α → List Value) (xs : List α) : Abs := .sl s (xs.map fun a => (c a).map .v)
theorem ai_ {K : List Nat} {w : World} : ∀ {us vs : List Value}, reps K w (us.map .v) vs ↔ vs = us
  | [], vs => Iff.rfl
  | u :: us, vs => by
    constructor
    · rintro ⟨u', us', h1, h2, h3⟩
      have h2 : u' = u := h2
      rw [h1, h2, ai_.1 h3]
    · rintro rfl; exact ⟨u, us, rfl, rfl, ai_.2 rfl⟩
theorem cP_ {K : List Nat} {w : World} {α : Type} {s : Nat} {c : α → List Value} (hc : ∀ a, (c a).length = s) : ∀ {xs : List α} {us : List Value}, repss K w s (xs.map fun a => (c a).map .v) us ↔ us = xs.flatMap c
  | [], us => Iff.rfl
  | x :: xs, us => by
    constructor
    · rintro ⟨u1, u2, h1, h2, h3, h4⟩
      rw [h1, ai_.1 h3, (cP_ hc).1 h4, List.flatMap_cons]
    · rintro rfl
      exact ⟨c x, _, rfl, hc x, ai_.2 rfl, (cP_ hc).2 rfl⟩
theorem rep_flat {K : List Nat} {w : World} {α : Type} {s : Nat} {c : α → List Value} (hc : ∀ a, (c a).length = s) {xs : List α} {x : Value} : rep K w (flat s c xs) x ↔ IsRow K w x xs.length (xs.flatMap c) := by
  constructor
  · rintro ⟨us, h1, h2⟩
    have := (cP_ hc).1 h2
    subst this
    simpa using h1
  · intro h
    exact ⟨_, by simpa using h, (cP_ hc).2 rfl⟩
theorem Spec.ofRdG {T p : Nat} {s t : Rd} {vals : List Value} {res : Abs} (h : ∀ (S : List (World × List Nat)) (σ2 : Proofs.YtjclgkddfjbdiaaGreatDoor.Blks) (ρ : List Dt) (w : World) (v : Value), Proofs.YtjclgkddfjbdiaaGreatDoor.Mem S (rdI T p ⟨v, s.l, s.e⟩ :: σ2) ρ w → bytesD v s.l ∈ ρ →
    Calls P f vals.toArray w fun e w' => ∃ r v' ρ', e = .returned r ∧ Proofs.YtjclgkddfjbdiaaGreatDoor.Mem S (rdI T p ⟨v', t.l, t.e⟩ :: σ2) ρ' w' ∧ bytesD v' t.l ∈ ρ' ∧ ∀ K', (∀ x n cs, rowD x n cs ∈ ρ' → IsRow K' w' x n cs) → rep K' w' res r) : Spec P f (vals.map .v) [rdA T p s] (fun _ : Unit => [rdA T p t]) (fun _ => res) := fun G w vs hm hv => by
  have := ai_.1 hv
  subst this
  obtain ⟨us, hb, v, us', h1, h2, e, us2, h3, h4, h5⟩ := hm.hold (rdA T p s) (by simp)
  have h4 : e = .int .i64 s.e := h4
  have h5 : us2 = [] := h5
  subst h5 h4 h3 h1
  have h2 := aP_.1 h2
  have hpG : p ∉ G := hm.sep p (by simp [mids, It.mids])
  have hw2 : Proofs.YtjclgkddfjbdiaaGreatDoor.Mem [(w, p :: G)] (rdI T p ⟨v, s.l, s.e⟩ :: [old2 w G]) [bytesD v s.l] w := by
    refine ⟨fun s hs => ?_, fun x hx k hk s hs => ?_, ?_, fun x hx => ?_, fun z hz => ?_⟩
    · rw [List.mem_singleton] at hs; subst hs; exact Ext.refl w
    · rw [List.mem_singleton] at hs
      subst hs
      rcases List.mem_cons.1 hx with rfl | hx
      · simp only [Proofs.YtjclgkddfjbdiaaGreatDoor.It.ids, List.mem_singleton] at hk; exact .inl (by simp [hk])
      · rw [List.mem_singleton] at hx; subst hx
        exact .inl (List.mem_cons_of_mem _ (bc_.1 hk).2)
    · simp only [List.flatMap_cons, List.flatMap_nil, List.append_nil, List.nodup_append]
      refine ⟨by simp [Proofs.YtjclgkddfjbdiaaGreatDoor.It.ids], List.Nodup.sublist List.filter_sublist List.nodup_range, fun a ha b hb he => ?_⟩
      simp only [Proofs.YtjclgkddfjbdiaaGreatDoor.It.ids, List.mem_singleton] at ha
      subst ha he
      exact hpG (bc_.1 hb).2
    · rcases List.mem_cons.1 hx with rfl | hx
      · exact hb
      · rw [List.mem_singleton] at hx; subst hx; exact ⟨Nat.le_refl _, fun _ _ _ => rfl⟩
    · rw [List.mem_singleton] at hz; subst hz
      refine h2.grow fun k hk => .inl ?_
      simp only [List.flatMap_cons, List.flatMap_nil, List.append_nil, List.mem_append] at hk
      rcases hk with hk | hk
      · simp only [Proofs.YtjclgkddfjbdiaaGreatDoor.It.ids, List.mem_singleton] at hk
        simp [mids, It.mids, hk]
      · simp [(bc_.1 hk).2]
  refine (h _ _ _ _ v hw2 (by simp)).mono fun e w' ⟨r, v', ρ', he, hm', hd, hd2⟩ => ?_
  have hx := hm'.ext (w, p :: G) (by simp)
  have ho : _ ∧ _ := hm'.hold (old2 w G) (by simp)
  have hx2 : Ext (mids [rdA T p s]) w w' := ⟨hx.os, hx.tape, hx.output, hx.size, fun k hk hn => by
    by_cases hK : k ∈ G
    · exact ho.2 k hk hK
    · exact hx.block k hk (by simp only [List.mem_cons, not_or]; exact ⟨by simpa [mids, It.mids] using hn, hK⟩)⟩
  have hb' : w'.heap[p]? = some (row T [v', .int .i64 t.e]) := hm'.holds (by simp)
  have hgrow : ∀ (x : Value) (m : Nat) (cs : List Value), rowD x m cs ∈ ρ' → IsRow (mids [rdA T p t] ++ G) w' x m cs := fun _ _ _ hd => (hm'.data hd).grow fun k hk => by
    simp only [List.mem_append] at hk
    refine .inl ?_
    simp only [List.flatMap_cons, List.flatMap_nil, List.append_nil, List.mem_append]
    rcases hk with hk | hk
    · exact .inl (by simpa [mids, It.mids, Proofs.YtjclgkddfjbdiaaGreatDoor.It.ids] using hk)
    · exact .inr (bc_.2 ⟨hm.old k hk, hk⟩)
  refine ⟨(), r, he, by simp [It.rids], ⟨hx2, fun k hk => .inl hk, fun k hk hg => hpG (by simp [mids, It.mids] at hk; subst hk; exact hg), fun k hk => Nat.lt_of_lt_of_le (hm.old k hk) hx.size, by simp [It.rids], by simp [mids, It.mids], fun x hx => ?_⟩, hd2 _ hgrow⟩
  rw [List.mem_singleton] at hx; subst hx
  exact ⟨_, hb', _, _, rfl, aP_.2 (hgrow _ _ _ hd), _, _, rfl, rfl, rfl⟩
theorem Spec.ofRd {T p : Nat} {s t : Rd} {vals : List Value} {u : Value} (h : ∀ (S : List (World × List Nat)) (σ2 : Proofs.YtjclgkddfjbdiaaGreatDoor.Blks) (ρ : List Dt) (w : World) (v : Value), Proofs.YtjclgkddfjbdiaaGreatDoor.Mem S (rdI T p ⟨v, s.l, s.e⟩ :: σ2) ρ w → bytesD v s.l ∈ ρ →
    Calls P f vals.toArray w fun e w' => ∃ v' ρ', e = .returned u ∧ Proofs.YtjclgkddfjbdiaaGreatDoor.Mem S (rdI T p ⟨v', t.l, t.e⟩ :: σ2) ρ' w' ∧ bytesD v' t.l ∈ ρ') : Spec P f (vals.map .v) [rdA T p s] (fun _ : Unit => [rdA T p t]) (fun _ => .v u) :=
  Spec.ofRdG fun S σ2 ρ w v hw hd => (h S σ2 ρ w v hw hd).mono fun _ _ ⟨v', ρ', h1, h2, h3⟩ => ⟨u, v', ρ', h1, h2, h3, fun _ _ => rfl⟩
theorem Spec.ofRdB {T p : Nat} {s t : Rd} {vals : List Value} {out : List UInt8} (h : ∀ (S : List (World × List Nat)) (σ2 : Proofs.YtjclgkddfjbdiaaGreatDoor.Blks) (ρ : List Dt) (w : World) (v : Value), Proofs.YtjclgkddfjbdiaaGreatDoor.Mem S (rdI T p ⟨v, s.l, s.e⟩ :: σ2) ρ w → bytesD v s.l ∈ ρ →
    Calls P f vals.toArray w fun e w' => ∃ r v' ρ', e = .returned r ∧ Proofs.YtjclgkddfjbdiaaGreatDoor.Mem S (rdI T p ⟨v', t.l, t.e⟩ :: σ2) ρ' w' ∧ bytesD v' t.l ∈ ρ' ∧ bytesD r out ∈ ρ') : Spec P f (vals.map .v) [rdA T p s] (fun _ : Unit => [rdA T p t]) (fun _ => byt out) :=
  Spec.ofRdG fun S σ2 ρ w v hw hd => (h S σ2 ρ w v hw hd).mono fun _ _ ⟨r, v', ρ', h1, h2, h3, h4⟩ => ⟨r, v', ρ', h1, h2, h3, fun _ hK => aP_.2 (hK _ _ _ h4)⟩
theorem Pure.ofB {l out : List UInt8} {rest : List Value} (h : ∀ (S : List (World × List Nat)) (σ2 : Proofs.YtjclgkddfjbdiaaGreatDoor.Blks) (ρ : List Dt) (w : World) (v : Value), Proofs.YtjclgkddfjbdiaaGreatDoor.Mem S σ2 ρ w → bytesD v l ∈ ρ →
    Calls P f (v :: rest).toArray w fun e w' => ∃ r ρ', e = .returned r ∧ Proofs.YtjclgkddfjbdiaaGreatDoor.Mem S σ2 ρ' w' ∧ bytesD r out ∈ ρ') : Pure P f (byt l :: rest.map .v) (byt out) := Pure.of2 fun K w vals hK hv => by
  obtain ⟨v, us', rfl, h1, h2⟩ := hv
  have := ai_.1 h2
  subst this
  refine (h _ _ _ _ v ((enter2 w K).add (z := bytesD v l) (row2 (aP_.1 h1))) (by simp)).mono fun e w' ⟨r, ρ', he, hm, hd⟩ => ⟨r, he, leave2 hm (by simp), aP_.2 (row3 hK ?_ (hm.data hd))⟩
  intro k hk hkK
  simp only [List.flatMap_cons, List.flatMap_nil, List.append_nil]
  exact bc_.2 ⟨hk, hkK⟩
theorem Pure.ofBB {l m out : List UInt8} (h : ∀ (S : List (World × List Nat)) (σ2 : Proofs.YtjclgkddfjbdiaaGreatDoor.Blks) (ρ : List Dt) (w : World) (v r : Value), Proofs.YtjclgkddfjbdiaaGreatDoor.Mem S σ2 ρ w → bytesD v l ∈ ρ → bytesD r m ∈ ρ →
    Calls P f #[v, r] w fun e w' => ∃ r ρ', e = .returned r ∧ Proofs.YtjclgkddfjbdiaaGreatDoor.Mem S σ2 ρ' w' ∧ bytesD r out ∈ ρ') : Pure P f [byt l, byt m] (byt out) := Pure.of2 fun K w vals hK hv => by
  obtain ⟨v, us', rfl, h1, r, us2, rfl, h2, h3⟩ := hv
  have h3 : us2 = [] := h3
  subst h3
  refine (h _ _ _ _ v r (((enter2 w K).add (z := bytesD v l) (row2 (aP_.1 h1))).add (z := bytesD r m) (row2 (aP_.1 h2))) (by simp) (by simp)).mono fun e w' ⟨r, ρ', he, hm, hd⟩ => ⟨r, he, leave2 hm (by simp), aP_.2 (row3 hK ?_ (hm.data hd))⟩
  intro k hk hkK
  simp only [List.flatMap_cons, List.flatMap_nil, List.append_nil]
  exact bc_.2 ⟨hk, hkK⟩
end
section
variable {l m : List UInt8} {p : Nat} {s : Rd}
theorem fa_ {x : Nat} {n : Int} (hl : l.length ≤ lots) (hx : x < 18446744073709551616) (hn : sizeB n = true) : Pure Tryz.prog 93 [byt l, wrd x, int n] (byt (l ++ beBytes x n.toNat)) :=
  Pure.ofB (rest := [_, _]) fun _ _ _ _ _ hw hd => (fb_ hw (hw.bytes hd) hl hx hn).mono fun _ _ ⟨r, h1, h2⟩ => ⟨r, _, h1, h2, by simp⟩
theorem row_s (hl : l.length + m.length + 4 ≤ lots) (hm : m.length < 4294967296) : Pure Tryz.prog 94 [byt l, byt m] (byt (l ++ beBytes m.length 4 ++ m)) :=
  Pure.ofBB fun _ _ _ _ _ _ hw hd hd2 => (dQ_ hw hd hd2 hl hm).mono fun _ _ ⟨r, h1, h2⟩ => ⟨r, _, h1, h2, by simp⟩
abbrev TR : Nat := 435
abbrev pv (p : Nat) : Value := .pointer (some ⟨p, 0, none⟩)
theorem dW_ (v : Value) (s : Rd) : (⟨v, s.l, s.e⟩ : Rd).as s := ⟨rfl, rfl⟩
theorem ij_ {T : Nat} {s t : Rd} (h : s.as t) : rdI T p s = rdI T p ⟨s.v, t.l, t.e⟩ := by rw [rdI, rdI, h.2]
theorem _root_.Go.Proofs.YtjclgkddfjbdiaaGreatDoor.Rd.as.count {s t : Rd} (h : s.as t) (most : Int) : (s.count most).as (t.count most) := by
  unfold Rd.count
  rw [(h.fixed 2).2, h.num]
  split
  · exact ⟨(h.fixed 2).1, rfl⟩
  · exact h.fixed 2
theorem _root_.Go.Proofs.YtjclgkddfjbdiaaGreatDoor.Rd.as.countN {s t : Rd} (h : s.as t) (most : Int) : s.countN most = t.countN most := by
  unfold Rd.countN
  rw [(h.fixed 2).2, h.num]
theorem is_ {n : Int} (hl : s.l.length ≤ lots) (hn : sizeB n = true) : Spec Tryz.prog 226 [ptr p, int n] [rdA TR p s] (fun _ : Unit => [rdA TR p (s.fixed n)]) (fun _ => wrd (s.num n)) :=
  Spec.ofRd (vals := [pv p, .int .i64 n]) fun _ _ _ _ v hw hd => (cQ_ hw .here hd hl hn).mono fun _ _ ⟨h1, h2⟩ => ⟨_, _, by rw [h1, (dW_ v s).num], ij_ ((dW_ v s).fixed n) ▸ h2, by rw [← ((dW_ v s).fixed n).1]; simp⟩
theorem count_s {n : Int} (hl : s.l.length ≤ lots) : Spec Tryz.prog 227 [ptr p, int n] [rdA TR p s] (fun _ : Unit => [rdA TR p (s.count n)]) (fun _ => int (s.countN n : Nat)) :=
  Spec.ofRd (vals := [pv p, .int .i64 n]) fun _ _ _ _ v hw hd => (count_c hw .here hd hl).mono fun _ _ ⟨h1, h2⟩ => ⟨_, _, by rw [h1, (dW_ v s).countN], ij_ ((dW_ v s).count n) ▸ h2, by rw [← ((dW_ v s).count n).1]; simp⟩
theorem fixed_s {n : Int} (hl : s.l.length ≤ lots) : Spec Tryz.prog 228 [ptr p, int n] [rdA TR p s] (fun _ : Unit => [rdA TR p (s.fixed n)]) (fun _ => byt (s.out n)) :=
  Spec.ofRdB (vals := [pv p, .int .i64 n]) fun _ _ _ _ v hw hd => (hG_ hw .here hd hl).mono fun _ _ ⟨r, h1, h2⟩ => ⟨r, _, _, h1, ij_ ((dW_ v s).fixed n) ▸ h2, by rw [← ((dW_ v s).fixed n).1]; simp, by rw [(dW_ v s).out]; simp⟩
theorem rowr_s {n : Int} (hl : s.l.length ≤ lots) (hn : 0 ≤ n ∧ n ≤ 9223372036854775807) : Spec Tryz.prog 308 [ptr p, int n] [rdA TR p s] (fun _ : Unit => [rdA TR p (s.row n)]) (fun _ => byt (s.rowOut n)) :=
  Spec.ofRdB (vals := [pv p, .int .i64 n]) fun _ _ _ _ v hw hd => (row_c hw .here hd hl hn).mono fun _ _ ⟨r, h1, h2⟩ => ⟨r, _, _, h1, ij_ ((dW_ v s).row n) ▸ h2, by rw [← ((dW_ v s).row n).1]; simp, by rw [(dW_ v s).rowOut]; simp⟩
theorem end_s : Spec Tryz.prog 230 [ptr p] [rdA TR p s] (fun _ : Unit => [rdA TR p s]) (fun _ => int s.end_) :=
  Spec.ofRd (vals := [pv p]) fun _ _ _ _ v hw hd => (end_c (s := ⟨v, s.l, s.e⟩) hw List.mem_cons_self hd).mono fun _ _ ⟨h1, h2⟩ => ⟨v, _, by rw [h1, (dW_ v s).end_], h2, hd⟩
theorem read_s (hl : l.length ≤ lots) : Spec Tryz.prog 225 [byt l] [] (fun p : Nat => [rdA TR p (Rd.of l)]) (fun p => ptr p) := fun G w vals hm hv => by
  obtain ⟨v, us', rfl, h1, h2⟩ := hv
  have h2 : us' = [] := h2
  subst h2
  refine (read_c ((enter2 w G).add (z := bytesD v l) (row2 (aP_.1 h1))) (by simp) hl).mono fun e w' ⟨p, z, he, hm2⟩ => ?_
  have hx := leave2 hm2 (by simp)
  have hb : w'.heap[p]? = some (row TR [z, .int .i64 0]) := hm2.holds (by simp)
  have hd := hm2.data (z := bytesD z l) (by simp)
  have hpn : w.heap.size ≤ p := by
    have h3 := hm2.out _ (List.mem_cons_self) p (by simp [Proofs.YtjclgkddfjbdiaaGreatDoor.It.ids]) (w, G) (by simp)
    rcases h3 with h3 | h3
    · have h4 := hm2.nodup
      simp only [List.flatMap_cons, List.flatMap_nil, List.append_nil, List.nodup_append] at h4
      exact absurd rfl (h4.2.2 p (by simp [Proofs.YtjclgkddfjbdiaaGreatDoor.It.ids]) p (bc_.2 ⟨hm.old p h3, h3⟩))
    · exact h3
  refine ⟨p, _, he, by simp [It.rids], ⟨hx, fun k hk => ?_, fun k hk hg => ?_, fun k hk => Nat.lt_of_lt_of_le (hm.old k hk) hx.size, by simp [It.rids], by simp [mids, It.mids], fun x hxm => ?_⟩, rfl⟩
  · simp [mids, It.mids] at hk; subst hk; exact .inr hpn
  · simp [mids, It.mids] at hk; subst hk; have := hm.old k hg; omega
  · rw [List.mem_singleton] at hxm; subst hxm
    refine ⟨_, hb, _, _, rfl, aP_.2 (hd.grow fun k hk => .inl ?_), _, _, rfl, rfl, rfl⟩
    simp only [List.flatMap_cons, List.flatMap_nil, List.append_nil, List.mem_append] at hk ⊢
    rcases hk with hk | hk
    · exact .inl (by simpa [mids, It.mids, Proofs.YtjclgkddfjbdiaaGreatDoor.It.ids] using hk)
    · exact .inr (bc_.2 ⟨hm.old k hk, hk⟩)
end
section
variable {P : Program} {n : Nat} {W : Wd} {σ τ : Blks} {l : Slots} {X : List Nat} {x y z : Operand} {d : Option Nat} {ty t t' e : TypeId} {pos : String} {aft : Array Edge} {g : Option (Nat × Bool)} {v u : Value} {k k' : IntKind} {a b : Nat} {o : Oper} {A B : Abs} {tab : List (Nat × TI)} {ops : Array Oper} {rest : List Oper} {Q : Exit → Act → World → Prop} {ix : Plan} {xs ys : List (List Abs)} {s q : Nat} {cs : List Abs}
theorem ef_ {x : It} {σ τ : Blks} (h : Upd x x σ τ) : τ = σ := by
  induction h with
  | here => rfl
  | there _ ih => rw [ih]
theorem St.freezeB {a : Act} {w : World} {pre post : Blks} {i : Nat} (h : St n W (pre ++ .blk b t cs :: post) l a w) (hs : slot l i = some (.v (.pointer (some ⟨b, 0, none⟩)))) : St n W (pre ++ post) ((i, .rp cs) :: l) a w := by
  have hsub : (pre ++ post).Sublist (pre ++ .blk b t cs :: post) := List.Sublist.append (List.Sublist.refl _) (List.sublist_cons_self _ _)
  obtain ⟨us, hb, hr⟩ := h.mem.hold (.blk b t cs) (by simp)
  have hc := (h.mem.sub hsub).2
  refine (h.less hsub).cast hs fun u hu => ?_
  have : u = .pointer (some ⟨b, 0, none⟩) := hu
  subst this
  refine ⟨b, 0, us, rfl, fun hm => ?_, aR_ hb, fun j u hu => by rw [Nat.zero_add, a3_ hb]; exact hu, aj_ hc _ _ hr⟩
  have hnd := h.mem.nodup
  simp only [T_, af_, List.nodup_append, It.mids] at hnd hm
  obtain ⟨n1, ⟨n2, n3, n4⟩, n5⟩ := hnd
  rcases List.mem_append.1 hm with hm | hm
  · rcases List.mem_append.1 hm with hm | hm
    · exact n5 b hm b (by simp) rfl
    · exact n4 b (by simp) b hm rfl
  · exact h.mem.sep b (by simp [T_, af_, It.mids]) hm
theorem ce_ {c : Code} (pre : Blks) {post : Blks} (i : Nat) (hσ : σ = pre ++ .blk b t cs :: post) (hs : slot l i = some (.v (.pointer (some ⟨b, 0, none⟩)))) (k : SC P c (St n W (pre ++ post) ((i, .rp cs) :: l)) Q) : SC P c (St n W σ l) Q := by
  subst hσ; exact fun a w h => k a w (h.freezeB hs)
theorem ao_ {c : Code} {p : Prop} {T : Act → World → Prop} (h : ∀ a w, T a w → p) (k : p → SC P c T Q) : SC P c T Q := fun a w ha => k (h a w ha) a w ha
theorem ig_ {K : List Nat} {w : World} {z : Abs} : ∀ {ps : List Abs} {us : List Value} {o : Nat} {u : Value}, reps K w ps us → us[o]? = some u → rep K w z u → reps K w (putL ps o [z]) us
  | [], us, o, u, h, hu, _ => by have : us = [] := h; subst this; simp at hu
  | a :: ps, _, 0, u, ⟨x, us', h1, h2, h3⟩, hu, hz => by
    subst h1
    simp at hu
    subst hu
    exact ⟨x, us', rfl, hz, h3⟩
  | a :: ps, _, o + 1, u, ⟨x, us', h1, h2, h3⟩, hu, hz => by
    subst h1
    exact ⟨x, us', rfl, h2, ig_ h3 (by simpa using hu) hz⟩
theorem St.freezeC {a : Act} {w : World} {pre post : Blks} {o : Nat} (h : St n W (pre ++ own e s v xs :: post) l a w) (hu : Upd (.blk b t cs) (.blk b t (putL cs o [.sl s xs])) (pre ++ post) τ) (hv : cs[o]? = some (.v v)) : St n W τ l a w := by
  have hsub : (pre ++ post).Sublist (pre ++ own e s v xs :: post) := List.Sublist.append (List.Sublist.refl _) (List.sublist_cons_self _ _)
  have h1 := own_sl h.mem
  have h2 := h.less hsub
  obtain ⟨us, hb, hr⟩ := h2.mem.hold _ hu.mem
  obtain ⟨u, h3, h4⟩ := a2_ hr hv
  have h4 : u = v := h4
  subst h4
  have hm := h2.mem.upd hu (Ext.refl w) (by simp [It.mids]) (by simp [It.mids]) rfl fun hc => ⟨us, hb, aj_ hc _ _ (ig_ hr h3 h1)⟩
  exact h2.to hm.1 hm.2
theorem cd_ {c : Code} (pre : Blks) {post : Blks} (o : Nat) (hσ : σ = pre ++ own e s v xs :: post) (hu : Upd (.blk b t cs) (.blk b t (putL cs o [.sl s xs])) (pre ++ post) τ) (hv : cs[o]? = some (.v v)) (k : SC P c (St n W τ l) Q) : SC P c (St n W σ l) Q := by
  subst hσ; exact fun a w h => k a w (h.freezeC hu hv)
theorem eE_ {K : List Nat} {w : World} : ∀ {ys : List Abs} {us : List Value}, reps K w ys us → repss K w 1 (ys.map fun a => [a]) us
  | [], us, h => h
  | a :: ys, _, ⟨u, us', h1, h2, h3⟩ => ⟨[u], us', h1, rfl, ⟨u, [], rfl, h2, rfl⟩, eE_ h3⟩
theorem bl_ (hT : TabOk P tab) {i : TI} {m : Nat} (hu : P.underlying t = some (.array m e)) (hi : ti tab e = some i) (_h1 : Nat.beq i.size 1 = true) (hx : look l x = some (.rp cs)) (hm : Nat.ble m maxLen = true) (hxs : (cs.take m).map (fun a => [a]) = xs) (hl : m ≤ cs.length) :
    Val P n W σ l X ⟨d, .slice t x none none none, ty, pos, aft, g⟩ (.sl 1 xs) := fun a w hs hX => by
  obtain ⟨b, off, us, h1, h2, h3, h4, h5⟩ := hs.eval hx
  have hlen := ac_ h5
  subst hxs
  have hl2 : ((cs.take m).map fun a => [a]).length = m := by simp; omega
  refine ⟨.slice (some ⟨b, off, none⟩) m m, ⟨us.take m, ⟨⟨_, m, by rw [hl2], by omega, Nat.le_of_ble_eq_true hm, by simp⟩, fun hn => ⟨b, off, m, m, rfl, h2, fun j u hu => ?_⟩⟩, eE_ (cF_ h5 m)⟩, fun w' _ => ?_⟩
  · rw [List.getElem?_take] at hu
    split at hu
    · exact h4 j u hu
    · cases hu
  · have h6 := (hT _ _ hi).sizeOf (w := w')
    simp [execOp, Instr.sliceAt, Instr.sureAddr, Instr.sliceBounds, h1, run_underlying hu, Sem.run_bind, Result.andThen, h6, Addr.add]
theorem g4_ (hT : TabOk P tab) {i : TI} {m off : Nat} (hu : P.underlying t = some (.array m e)) (hi : ti tab e = some i) (hx : look l x = some (.v (.pointer (some ⟨b, off, none⟩)))) :
    Val P n W σ l X ⟨d, .slice t x none none none, ty, pos, aft, g⟩ (.v (.slice (some ⟨b, off, none⟩) m m)) := fun a w hs _ => ⟨_, rfl, fun w' _ => by
  have h6 := (hT _ _ hi).sizeOf (w := w')
  simp [execOp, Instr.sliceAt, Instr.sureAddr, Instr.sliceBounds, hs.plain hx, run_underlying hu, Sem.run_bind, Result.andThen, h6, Addr.add]⟩
theorem cK_ (hT : TabOk P tab) {i : TI} {m off : Nat} {r : Int} (hu : P.underlying t = some (.array m e)) (hi : ti tab e = some i) (hx : look l x = some (.v (.pointer (some ⟨b, off, none⟩)))) (hy : look l y = some (.v (.int k r))) (hr : r = (q : Nat)) (hq : q < m) (hm : Nat.ble m 1 = false) :
    Val P n W σ l X ⟨d, .indexAddr t x y, ty, pos, aft, g⟩ (.v (.pointer (some ⟨b, off + q * i.size, none⟩))) := fun a w hs _ => ⟨_, rfl, fun w' _ => by
  subst hr
  have h6 := (hT _ _ hi).sizeOf (w := w')
  have hq' : (q : Int) < (m : Nat) := by omega
  simp [execOp, Instr.indexAt, Instr.sureAddr, asIntOf, hs.plain hx, hs.plain hy, run_underlying hu, Sem.run_bind, Result.andThen, h6, hq, Addr.add_none]⟩
theorem dg_ (hT : TabOk P tab) {sz m : Nat} {zs : List Value} {r : Int} (hu : P.underlying t = some (.array m e)) (hj : ti tab e = some ⟨sz, .one, zs⟩) (hs1 : Nat.beq sz 1 = true) (hx : look l x = some (.agg cs)) (hy : look l y = some (.v (.int k r))) (hr : r = (q : Nat)) (hq : q < m) (hv : cs[q]? = some A) :
    Val P n W σ l X ⟨d, .index t x y, ty, pos, aft, g⟩ A := aB_ fun a w hs _ => by
  subst hr
  obtain ⟨us, h1, h2⟩ := hs.eval hx
  obtain ⟨u, h3, h4⟩ := a2_ h2 hv
  refine ⟨u, h4, fun w' _ => fun A2 w2 hf e => ?_⟩
  subst e
  have h5 := (hT _ _ hj).sizeOf (w := w2)
  have h6 := (hT _ _ hj).isAgg (w := w2)
  have hs1 := Nat.eq_of_beq_eq_true hs1
  subst hs1
  have hq' : (q : Int) < (m : Nat) := by omega
  have e1 : A2.eval x = .agg us.toArray := by rw [hf.eval (hs.at2 hx), h1]
  have e2 : A2.eval y = .int k (q : Nat) := by rw [hf.eval (hs.at2 hy), hs.plain hy]
  simp [execOp, Instr.index, asIntOf, e1, e2, run_underlying hu, Sem.run_bind, Result.andThen, h5, Go.part, h6, h3, hq]
theorem Eff.copy {off m c : Nat} {L' : List Abs} (hu : P.underlying t = some (.slice e)) (hi : (P.info? e).map (·.size) = some 1) (hx : look l x = some (.v (.slice (some ⟨b, off, none⟩) m c))) (hy : look l y = some (.sl 1 xs)) (hup : Upd (.blk b t' cs) (.blk b t' L') σ τ) (hl : off + min xs.length m ≤ cs.length) (h1 : ∀ c ∈ xs, ones c = true) (hL : putL cs off (xs.take m).flatten = L') :
    Eff P n W σ l [b] ⟨d, .call { callee := .builtin .copy, args := #[x, y], argTypes := #[t, t] }, ty, pos, aft, g⟩ fun r τ' => r = .v (.int .i64 (min xs.length m : Nat)) ∧ τ' = τ := fun a w hs => by
  obtain ⟨us, hb, hr⟩ := hs.mem.hold _ hup.mem
  obtain ⟨news, hrow, hr2⟩ := hs.eval hy
  obtain ⟨A', c', hsh, _⟩ := hrow.shape
  have hlen := ac_ hr
  have hlen2 := aI_ hr2
  rw [Nat.mul_one] at hlen2
  have hreps : ∀ (xs : List (List Abs)) (news : List Value), repss (mids σ ++ W.G) w 1 xs news → reps (mids σ ++ W.G) w xs.flatten news := by
    intro xs
    induction xs with
    | nil => intro news h; exact h
    | cons y ys ih =>
      rintro news ⟨u1, u2, rfl, _, h3, h4⟩
      rw [List.flatten_cons]; exact aW_ h3 (ih u2 h4)
  have htk : ∀ (m : Nat), repss (mids σ ++ W.G) w 1 (xs.take m) (news.take m) := fun m => by
    rcases Nat.le_total m xs.length with h | h
    · have := (dN_ hr2 m h).2; rwa [Nat.mul_one] at this
    · rw [List.take_of_length_le h, List.take_of_length_le (by omega)]; exact hr2
  have hone : ∀ u ∈ news.take m, u.oneCell' = true := b9_ (hreps _ _ (htk m)) (by
    rw [bN_]; intro a ha
    obtain ⟨c, hc, hac⟩ := List.mem_flatten.1 ha
    exact bN_.1 (h1 c (List.mem_of_mem_take hc)) a hac)
  have htl : (news.take m).length = Nat.min xs.length m := by rw [List.length_take, hlen2]; exact Nat.min_comm _ _
  have hmn : (news.take m).length = min xs.length m := htl
  by_cases hn : news = []
  · subst hn
    have h0 : xs.length = 0 := by simpa using hlen2.symm
    have hxn : xs = [] := List.length_eq_zero_iff.1 h0
    subst hxn
    have hLc : L' = cs := by rw [← hL, ck_ _ _ _ (by omega)]; simp
    subst hLc
    have hτ := ef_ hup
    subst hτ
    refine ⟨_, w, _, _, ⟨rfl, rfl⟩, Ext.refl w, rfl, hs.mem, Carry.refl, .inl ?_⟩
    obtain ⟨I, hI, hIs⟩ : ∃ I, P.info? e = some I ∧ I.size = 1 := by
      cases hq : P.info? e with
      | none => simp [hq] at hi
      | some i => exact ⟨i, rfl, by simpa [hq] using hi⟩
    cases A' <;> simp [execOp, resolve, invoke, builtin, Builtin.copy_, hs.plain hx, hsh, run_underlying hu, Builtin.lenOf, Builtin.firstCells, sizeOf, typeInfo, hI, hIs, storeCells, Sem.run_bind, Result.andThen, loadCells, loadCellsFrom, goInt]
  · obtain ⟨bb, o2, n2, c2, hv, hbb, hcc⟩ := hrow.cells hn
    rw [hsh] at hv
    simp at hv
    obtain ⟨rfl, rfl, rfl⟩ := hv
    have hrun := run_copy_row (P := P) w t t ty e b off m c ⟨bb, o2, none⟩ xs.length c' us.toArray t' (news.take m) hu hi hb htl (fun j u hu => by
      rw [Addr.add_none]
      rw [List.getElem?_take] at hu
      split at hu
      · exact hcc j u hu
      · cases hu) (by simp; omega) hone
    have hE : (us.toArray.toList.take off ++ news.take m ++ us.toArray.toList.drop (off + (news.take m).length)).toArray = (putAt us off (news.take m)).toArray := by
      rw [bt_ us off _ (by omega)]
    rw [hE, hmn] at hrun
    have hxx : Ext [b] w (w.setRow b (putAt us off (news.take m)).toArray) := (Ext.refl w).setRow (.inl (by simp)) _
    have hm := hs.mem.upd hup hxx (by simp [It.mids]) (by simp [It.mids]) rfl fun hc => ⟨_, dc_ hb, aj_ hc _ _ (hL ▸ fL_ hr (hreps _ _ (htk m)) (by omega))⟩
    refine ⟨_, _, _, _, ⟨rfl, rfl⟩, hxx, rfl, hm.1, hm.2, .inl ?_⟩
    simp [execOp, resolve, invoke, builtin, hs.plain hx, hsh, hrun, Result.andThen, goInt]
theorem Spec.ofOwnB {f : FuncId} {args : List Abs} {out : List UInt8} {e : TypeId} (h : ∀ (K : List Nat) (w : World) (vals : List Value), (∀ k ∈ K, k < w.heap.size) → reps K w args vals →
    Calls P f vals.toArray w fun en w' => ∃ r ρ, en = .returned r ∧ Proofs.YtjclgkddfjbdiaaGreatDoor.Mem [(w, K)] [.pc (Proofs.YtjclgkddfjbdiaaGreatDoor.ownPc e 1 r out.length (out.map bc)), old2 w K] ρ w') : Spec P f args [] (fun r : Value => [own e 1 r (out.map fun b => [.v (bc b)])]) (fun r => .v r) := fun G w vals hm hv =>
  (h G w vals hm.old hv).mono fun en w' ⟨r, ρ, he, hm2⟩ => by
    have hx := leave2 hm2 (by simp)
    have how : w'.ownsRow 0 e 1 r out.length (out.map bc) := hm2.hold (.pc (Proofs.YtjclgkddfjbdiaaGreatDoor.ownPc e 1 r out.length (out.map bc))) (by simp)
    have hnew : ∀ k ∈ r.ownBlock.toList, w.heap.size ≤ k := fun k hk => by
      have h3 := hm2.out _ (List.mem_cons_self) k (by simpa [Proofs.YtjclgkddfjbdiaaGreatDoor.It.ids, Proofs.YtjclgkddfjbdiaaGreatDoor.ownPc] using hk) (w, G) (by simp)
      rcases h3 with h3 | h3
      · have h4 := hm2.nodup
        simp only [List.flatMap_cons, List.flatMap_nil, List.append_nil, List.nodup_append] at h4
        exact absurd rfl (h4.2.2 k (by simpa [Proofs.YtjclgkddfjbdiaaGreatDoor.It.ids, Proofs.YtjclgkddfjbdiaaGreatDoor.ownPc] using hk) k (bc_.2 ⟨hm.old k h3, h3⟩))
      · exact h3
    refine ⟨r, r, he, by simp [It.rids], ⟨hx, fun k hk => .inr (hnew k ?_), fun k hk hg => ?_, fun k hk => Nat.lt_of_lt_of_le (hm.old k hk) hx.size, by simp [It.rids], ?_, fun x hxm => ?_⟩, rfl⟩
    · simpa [mids, It.mids, ownPc] using hk
    · have := hnew k (by simpa [mids, It.mids, ownPc] using hk)
      have := hm.old k hg
      omega
    · simp only [mids, List.flatMap_cons, List.flatMap_nil, List.append_nil]; exact aQ_
    · rw [List.mem_singleton] at hxm; subst hxm
      refine ⟨out.map bc, by simpa using how, ?_⟩
      rw [hN_]; exact cO_
end
def digA (d : List UInt8) : List Abs := d.map fun b => .v (bc b)
abbrev ints (xs : List Int) : Abs := .sl 1 (xs.map fun x => [int x])
theorem ah_ {s i : Nat} {cs : List Abs} (h : cs.length = s) : elems s [(i, .agg cs)] = some [cs] := by simp [elems, cellsA, h]
end Go.Proofs.YtjclgkddfjbdiaaGreatDoor.A
namespace Go.Proofs.YtjclgkddfjbdiaaGreatDoor
open Go.ChangeShapes Go.WideShapes Go.ChangeAt Go.RowKit
theorem law_own : ownKnob Tryz.prog.godebug = none := by kernel_rfl
theorem hD_ : laidOutB Tryz.prog = true := by kernel_rfl
theorem dk_ {H : Type} {enc : TypeId × Value → H} {W W' : World} (hb : Below W.heap.size W W') :
    ∀ (ts : List TypeId) (vs : List Value) (ds : List (DataW H)) (p : List MemPlace), (∀ t ∈ ts, Tryz.prog.readableRec t = true ∧ t < Tryz.prog.types.size) →
      DataW.TrodAll enc Tryz.prog W 0 (fun _ => true) true ts vs ds p → ∃ q, DataW.TrodAll enc Tryz.prog W' 0 (fun b => decide (b < W.heap.size)) true ts vs ds q
  | [], [], [], p, _, h => ⟨p, h⟩
  | t :: ts, v :: vs, d :: ds, p, hr, h => by
    obtain ⟨p0, q0, h0, h1, rfl⟩ := h
    obtain ⟨q, hq⟩ := dk_ hb ts vs ds q0 (fun t ht => hr t (List.mem_cons_of_mem _ ht)) h1
    have lt0 : ∀ x ∈ p0, x.block < W.heap.size := by obtain ⟨m, hm⟩ := h0; exact DataW.trod_lt m _ _ _ hm
    exact ⟨p0 ++ q, p0, q, Below.trod hD_ (hr t List.mem_cons_self).1 (hr t List.mem_cons_self).2 h0 hb lt0, hq, rfl⟩
  | [], _ :: _, _, _, _, h => h.elim
  | [], [], _ :: _, _, _, h => h.elim
  | _ :: _, [], _, _, _, h => h.elim
  | _ :: _, _ :: _, [], _, _, h => h.elim
theorem kd_ {w : World} {b o : Nat} {s : Option Nat} {v : Value} (h : w.cell? ⟨b, o, s⟩ = some v) : s = none := by
  have := World.cell?_spot h
  simpa using this
end Go.Proofs.YtjclgkddfjbdiaaGreatDoor
