/-
  Packed out of the texts: LayS, TGlob, TLaw, Money, Letter, LetterDo, LetterStep, Oc, Idx, Names.
-/
import Derived.Test.YtejcohlpjikjpaaGreatDoorU04
import Derived.Shelf.Strconv.ErrVarAll
import Derived.Shelf.Strconv.Itoa3
import Derived.Test.YtejcohlpjikjpaaGreatDoorProg
import Derived.Lib.AtoiTie
import Derived.Test.YtejcohlpjikjpaaGreatDoorTie
import Derived.Lay
import Derived.LaidMore
import Derived.Stop.LaidErr
import Derived.Stop.Joined
import Derived.SevenTiedAt
/-
  The shelf's contracts of strconv, laid at this program.
-/
set_option maxRecDepth 100000
namespace Go.Proofs.YtejcohlpjikjpaaGreatDoor
open Go.Shelf Go.RowKit
def atoiR : Ren := ⟨fun | 172 => 129 | 244 => 143 | 245 => 144 | 247 => 154 | 279 => 155 | 280 => 156 | 281 => 157 | 282 => 158 | 287 => 163 | 316 => 164 | 171 => 130 | 205 => 165 | 321 => 174 | 322 => 175 | 243 => 145 | 246 => 159 | 283 => 166 | 284 => 167 | 285 => 168 | 286 => 169 | 129 => 177 | 317 => 176 | 318 => 178 | 319 => 179 | 320 => 180 | 337 => 182 | 338 => 183 | n => n, fun | 9 => 9 | 3 => 3 | 75 => 164 | 76 => 165 | 4 => 4 | 5 => 5 | 167 => 186 | 37 => 187 | 0 => 0 | 85 => 188 | 2 => 2 | 168 => 190 | 53 => 151 | 175 => 196 | 46 => 176 | 210 => 199 | 127 => 214 | 145 => 217 | 143 => 215 | 21 => 21 | 171 => 201 | 173 => 204 | 212 => 219 | 51 => 49 | 20 => 20 | 213 => 220 | 232 => 224 | 233 => 225 | 80 => 226 | n => n, fun | 15 => 0 | 16 => 1 | 17 => 4 | 18 => 6 | 19 => 7 | n => n⟩
theorem atoiL : LaysC.n172 Tryz.prog atoiR := {
  mixed := by kernel_rfl,
  f129 := Tryz.func177.trans (congrArg some (by kernel_rfl)),
  f171 := Tryz.func130.trans (congrArg some (by kernel_rfl)),
  f172 := Tryz.func129.trans (congrArg some (by kernel_rfl)),
  f205 := Tryz.func165.trans (congrArg some (by kernel_rfl)),
  f243 := Tryz.func145.trans (congrArg some (by kernel_rfl)),
  f244 := Tryz.func143.trans (congrArg some (by kernel_rfl)),
  f245 := Tryz.func144.trans (congrArg some (by kernel_rfl)),
  f246 := Tryz.func159.trans (congrArg some (by kernel_rfl)),
  f247 := Tryz.func154.trans (congrArg some (by kernel_rfl)),
  f279 := Tryz.func155.trans (congrArg some (by kernel_rfl)),
  f280 := Tryz.func156.trans (congrArg some (by kernel_rfl)),
  f281 := Tryz.func157.trans (congrArg some (by kernel_rfl)),
  f282 := Tryz.func158.trans (congrArg some (by kernel_rfl)),
  f283 := Tryz.func166.trans (congrArg some (by kernel_rfl)),
  f284 := Tryz.func167.trans (congrArg some (by kernel_rfl)),
  f285 := Tryz.func168.trans (congrArg some (by kernel_rfl)),
  f286 := Tryz.func169.trans (congrArg some (by kernel_rfl)),
  f287 := Tryz.func163.trans (congrArg some (by kernel_rfl)),
  f316 := Tryz.func164.trans (congrArg some (by kernel_rfl)),
  f317 := Tryz.func176.trans (congrArg some (by kernel_rfl)),
  f318 := Tryz.func178.trans (congrArg some (by kernel_rfl)),
  f319 := Tryz.func179.trans (congrArg some (by kernel_rfl)),
  f320 := Tryz.func180.trans (congrArg some (by kernel_rfl)),
  f321 := Tryz.func174.trans (congrArg some (by kernel_rfl)),
  f322 := Tryz.func175.trans (congrArg some (by kernel_rfl)),
  f337 := Tryz.func182.trans (congrArg some (by kernel_rfl)),
  f338 := Tryz.func183.trans (congrArg some (by kernel_rfl)),
  t0 := Tryz.underlying0,
  a0 := Tryz.isAgg0,
  z0 := Tryz.sizeOf0,
  v0 := Tryz.zeroValue0,
  t2 := Tryz.underlying2,
  a2 := Tryz.isAgg2,
  z2 := Tryz.sizeOf2,
  v2 := Tryz.zeroValue2,
  t3 := Tryz.underlying3,
  a3 := Tryz.isAgg3,
  z3 := Tryz.sizeOf3,
  v3 := Tryz.zeroValue3,
  t4 := Tryz.underlying4,
  a4 := Tryz.isAgg4,
  z4 := Tryz.sizeOf4,
  v4 := Tryz.zeroValue4,
  t5 := Tryz.underlying5,
  a5 := Tryz.isAgg5,
  z5 := Tryz.sizeOf5,
  v5 := Tryz.zeroValue5,
  t9 := Tryz.underlying9,
  a9 := Tryz.isAgg9,
  z9 := Tryz.sizeOf9,
  v9 := Tryz.zeroValue9,
  t20 := Tryz.underlying20,
  a20 := Tryz.isAgg20,
  z20 := Tryz.sizeOf20,
  v20 := Tryz.zeroValue20,
  t21 := Tryz.underlying21,
  a21 := Tryz.isAgg21,
  z21 := Tryz.sizeOf21,
  v21 := Tryz.zeroValue21,
  t37 := Tryz.underlying187,
  a37 := Tryz.isAgg187,
  z37 := Tryz.sizeOf187,
  v37 := Tryz.zeroValue187,
  t46 := Tryz.underlying176,
  a46 := Tryz.isAgg176,
  z46 := Tryz.sizeOf176,
  v46 := Tryz.zeroValue176,
  t51 := Tryz.underlying49,
  a51 := Tryz.isAgg49,
  z51 := Tryz.sizeOf49,
  v51 := Tryz.zeroValue49,
  t53 := Tryz.underlying151,
  a53 := Tryz.isAgg151,
  z53 := Tryz.sizeOf151,
  v53 := Tryz.zeroValue151,
  t75 := Tryz.underlying164,
  a75 := Tryz.isAgg164,
  z75 := Tryz.sizeOf164,
  v75 := Tryz.zeroValue164,
  t76 := Tryz.underlying165,
  a76 := Tryz.isAgg165,
  z76 := Tryz.sizeOf165,
  v76 := Tryz.zeroValue165,
  t85 := Tryz.underlying188,
  a85 := Tryz.isAgg188,
  z85 := Tryz.sizeOf188,
  v85 := Tryz.zeroValue188,
  t127 := Tryz.underlying214,
  a127 := Tryz.isAgg214,
  z127 := Tryz.sizeOf214,
  v127 := Tryz.zeroValue214,
  t143 := Tryz.underlying215,
  a143 := Tryz.isAgg215,
  z143 := Tryz.sizeOf215,
  v143 := Tryz.zeroValue215,
  t145 := Tryz.underlying217,
  a145 := Tryz.isAgg217,
  z145 := Tryz.sizeOf217,
  v145 := Tryz.zeroValue217,
  t167 := Tryz.underlying186,
  a167 := Tryz.isAgg186,
  z167 := Tryz.sizeOf186,
  v167 := Tryz.zeroValue186,
  t168 := Tryz.underlying190,
  a168 := Tryz.isAgg190,
  z168 := Tryz.sizeOf190,
  v168 := Tryz.zeroValue190,
  t171 := Tryz.underlying201,
  a171 := Tryz.isAgg201,
  z171 := Tryz.sizeOf201,
  v171 := Tryz.zeroValue201,
  t173 := Tryz.underlying204,
  a173 := Tryz.isAgg204,
  z173 := Tryz.sizeOf204,
  v173 := Tryz.zeroValue204,
  t175 := Tryz.underlying196,
  a175 := Tryz.isAgg196,
  z175 := Tryz.sizeOf196,
  v175 := Tryz.zeroValue196,
  t210 := Tryz.underlying199,
  a210 := Tryz.isAgg199,
  z210 := Tryz.sizeOf199,
  v210 := Tryz.zeroValue199,
  t212 := Tryz.underlying219,
  a212 := Tryz.isAgg219,
  z212 := Tryz.sizeOf219,
  v212 := Tryz.zeroValue219,
  t213 := Tryz.underlying220,
  a213 := Tryz.isAgg220,
  z213 := Tryz.sizeOf220,
  t232 := Tryz.underlying224,
  a232 := Tryz.isAgg224,
  z232 := Tryz.sizeOf224,
  v232 := Tryz.zeroValue224,
  t233 := Tryz.underlying225,
  a233 := Tryz.isAgg225,
  z233 := Tryz.sizeOf225,
  v233 := Tryz.zeroValue225,
  g15 := by kernel_rfl,
  g16 := by kernel_rfl,
  g17 := by kernel_rfl,
  g18 := by kernel_rfl,
  g19 := by kernel_rfl,
  t80 := Tryz.underlying226,
  a80 := Tryz.isAgg226,
  z80 := Tryz.sizeOf226,
  v80 := Tryz.zeroValue226,
  i0 := by kernel_rfl,
  i2 := by kernel_rfl,
  i3 := by kernel_rfl,
  i4 := by kernel_rfl,
  i5 := by kernel_rfl,
  i9 := by kernel_rfl,
  i20 := by kernel_rfl,
  i21 := by kernel_rfl,
  i37 := by kernel_rfl,
  i46 := by kernel_rfl,
  i51 := by kernel_rfl,
  i53 := by kernel_rfl,
  i75 := by kernel_rfl,
  i76 := by kernel_rfl,
  i80 := by kernel_rfl,
  i85 := by kernel_rfl,
  i127 := by kernel_rfl,
  i143 := by kernel_rfl,
  i145 := by kernel_rfl,
  i167 := by kernel_rfl,
  i168 := by kernel_rfl,
  i171 := by kernel_rfl,
  i173 := by kernel_rfl,
  i175 := by kernel_rfl,
  i210 := by kernel_rfl,
  i212 := by kernel_rfl,
  i232 := by kernel_rfl,
  i233 := by kernel_rfl,
  m15 := by kernel_rfl,
  m16 := by kernel_rfl,
  m17 := by kernel_rfl,
  m18 := by kernel_rfl,
  m19 := by kernel_rfl,
  c0 := by kernel_rfl,
  c2 := by kernel_rfl,
  c3 := by kernel_rfl,
  c4 := by kernel_rfl,
  c5 := by kernel_rfl,
  c9 := by kernel_rfl,
  c20 := by kernel_rfl,
  c21 := by kernel_rfl,
  c37 := by kernel_rfl,
  c46 := by kernel_rfl,
  c51 := by kernel_rfl,
  c53 := by kernel_rfl,
  c75 := by kernel_rfl,
  c76 := by kernel_rfl,
  c80 := by kernel_rfl,
  c85 := by kernel_rfl,
  c127 := by kernel_rfl,
  c143 := by kernel_rfl,
  c145 := by kernel_rfl,
  c167 := by kernel_rfl,
  c168 := by kernel_rfl,
  c171 := by kernel_rfl,
  c173 := by kernel_rfl,
  c175 := by kernel_rfl,
  c210 := by kernel_rfl,
  c212 := by kernel_rfl,
  c213 := by kernel_rfl,
  c232 := by kernel_rfl,
  c233 := by kernel_rfl }
def itoaR : Ren := ⟨fun | 171 => 130 | 243 => 145 | 246 => 159 | 283 => 166 | 284 => 167 | 285 => 168 | 286 => 169 | 129 => 177 | 317 => 176 | 318 => 178 | 319 => 179 | 320 => 180 | 337 => 182 | 338 => 183 | n => n, fun | 3 => 3 | 9 => 9 | 2 => 2 | 4 => 4 | 171 => 201 | 0 => 0 | 53 => 151 | 37 => 187 | 5 => 5 | 173 => 204 | 212 => 219 | 51 => 49 | 20 => 20 | 213 => 220 | 46 => 176 | 232 => 224 | 233 => 225 | n => n, fun | 17 => 4 | 18 => 6 | 19 => 7 | n => n⟩
theorem itoaL : LaysM.n171 Tryz.prog itoaR := {
  mixed := by kernel_rfl,
  f129 := Tryz.func177.trans (congrArg some (by kernel_rfl)),
  f171 := Tryz.func130.trans (congrArg some (by kernel_rfl)),
  f243 := Tryz.func145.trans (congrArg some (by kernel_rfl)),
  f246 := Tryz.func159.trans (congrArg some (by kernel_rfl)),
  f283 := Tryz.func166.trans (congrArg some (by kernel_rfl)),
  f284 := Tryz.func167.trans (congrArg some (by kernel_rfl)),
  f285 := Tryz.func168.trans (congrArg some (by kernel_rfl)),
  f286 := Tryz.func169.trans (congrArg some (by kernel_rfl)),
  f317 := Tryz.func176.trans (congrArg some (by kernel_rfl)),
  f318 := Tryz.func178.trans (congrArg some (by kernel_rfl)),
  f319 := Tryz.func179.trans (congrArg some (by kernel_rfl)),
  f320 := Tryz.func180.trans (congrArg some (by kernel_rfl)),
  f337 := Tryz.func182.trans (congrArg some (by kernel_rfl)),
  f338 := Tryz.func183.trans (congrArg some (by kernel_rfl)),
  t0 := Tryz.underlying0,
  a0 := Tryz.isAgg0,
  z0 := Tryz.sizeOf0,
  v0 := Tryz.zeroValue0,
  t2 := Tryz.underlying2,
  a2 := Tryz.isAgg2,
  z2 := Tryz.sizeOf2,
  v2 := Tryz.zeroValue2,
  t3 := Tryz.underlying3,
  a3 := Tryz.isAgg3,
  z3 := Tryz.sizeOf3,
  v3 := Tryz.zeroValue3,
  t4 := Tryz.underlying4,
  a4 := Tryz.isAgg4,
  z4 := Tryz.sizeOf4,
  v4 := Tryz.zeroValue4,
  t5 := Tryz.underlying5,
  a5 := Tryz.isAgg5,
  z5 := Tryz.sizeOf5,
  v5 := Tryz.zeroValue5,
  t9 := Tryz.underlying9,
  a9 := Tryz.isAgg9,
  z9 := Tryz.sizeOf9,
  v9 := Tryz.zeroValue9,
  t20 := Tryz.underlying20,
  a20 := Tryz.isAgg20,
  z20 := Tryz.sizeOf20,
  v20 := Tryz.zeroValue20,
  t37 := Tryz.underlying187,
  a37 := Tryz.isAgg187,
  z37 := Tryz.sizeOf187,
  v37 := Tryz.zeroValue187,
  t46 := Tryz.underlying176,
  a46 := Tryz.isAgg176,
  z46 := Tryz.sizeOf176,
  v46 := Tryz.zeroValue176,
  t51 := Tryz.underlying49,
  a51 := Tryz.isAgg49,
  z51 := Tryz.sizeOf49,
  v51 := Tryz.zeroValue49,
  t53 := Tryz.underlying151,
  a53 := Tryz.isAgg151,
  z53 := Tryz.sizeOf151,
  v53 := Tryz.zeroValue151,
  t171 := Tryz.underlying201,
  a171 := Tryz.isAgg201,
  z171 := Tryz.sizeOf201,
  v171 := Tryz.zeroValue201,
  t173 := Tryz.underlying204,
  a173 := Tryz.isAgg204,
  z173 := Tryz.sizeOf204,
  v173 := Tryz.zeroValue204,
  t212 := Tryz.underlying219,
  a212 := Tryz.isAgg219,
  z212 := Tryz.sizeOf219,
  v212 := Tryz.zeroValue219,
  t213 := Tryz.underlying220,
  a213 := Tryz.isAgg220,
  z213 := Tryz.sizeOf220,
  t232 := Tryz.underlying224,
  a232 := Tryz.isAgg224,
  z232 := Tryz.sizeOf224,
  v232 := Tryz.zeroValue224,
  t233 := Tryz.underlying225,
  a233 := Tryz.isAgg225,
  z233 := Tryz.sizeOf225,
  v233 := Tryz.zeroValue225,
  g17 := by kernel_rfl,
  g18 := by kernel_rfl,
  g19 := by kernel_rfl,
  i0 := by kernel_rfl,
  i2 := by kernel_rfl,
  i3 := by kernel_rfl,
  i4 := by kernel_rfl,
  i5 := by kernel_rfl,
  i9 := by kernel_rfl,
  i20 := by kernel_rfl,
  i37 := by kernel_rfl,
  i46 := by kernel_rfl,
  i51 := by kernel_rfl,
  i53 := by kernel_rfl,
  i171 := by kernel_rfl,
  i173 := by kernel_rfl,
  i212 := by kernel_rfl,
  i232 := by kernel_rfl,
  i233 := by kernel_rfl,
  m17 := by kernel_rfl,
  m18 := by kernel_rfl,
  m19 := by kernel_rfl }
end Go.Proofs.YtejcohlpjikjpaaGreatDoor
/-
  Package variables as pieces that are read; strconv.Atoi and Itoa by the shelf's contracts; which digits are a number's own.
-/
set_option linter.unusedSimpArgs false
set_option linter.unusedVariables false
namespace Go.Proofs.YtejcohlpjikjpaaGreatDoor.A
open Go.RowKit

/-- A package variable's cells. -/
noncomputable def gvPc (name : String) (cs : Array Value) : Pc where
  ids := [(Tryz.prog.globalNamed name).getD 0]
  p := fun _ w => w.var? Tryz.prog name = some cs
  carry := fun K w K' w' hc hs h => by
    have h1 := hs _ List.mem_cons_self
    unfold World.var? at h ⊢
    cases hg : Tryz.prog.globalNamed name with
    | none => rw [hg] at h; cases h
    | some g =>
      rw [hg] at h h1
      simp only [Option.bind_some, Option.getD_some] at h h1 ⊢
      rw [h1]
      exact h
  lt := fun K w h k hk => by
    rw [List.mem_singleton] at hk
    subst hk
    unfold World.var? at h
    cases hg : Tryz.prog.globalNamed name with
    | none => rw [hg] at h; cases h
    | some g =>
      rw [hg] at h
      simp only [Option.bind_some, Option.getD_some] at h ⊢
      cases hb : w.heap[g]? with
      | none => rw [hb] at h; cases h
      | some o => exact heap_lt hb
noncomputable def pow10C : Array Value := (Lib.pow10Tab.map fun z => Value.int .u64 z).toArray
/-- The three that strconv reads. -/
noncomputable abbrev globs (es er : Value) : Blks := [.rdpc (gvPc "strconv.ErrSyntax" #[es]), .rdpc (gvPc "strconv.ErrRange" #[er]), .rdpc (gvPc "internal/strconv.uint64pow10" pow10C)]
def isIf (v : Value) : Prop := ∃ t u, v = .iface t u
section
variable {es er : Value} {l : Txt}
theorem mem_rds {w w' : World} {G : List Nat} (hm : Mem w (mids (globs es er)) G (globs es er) w) (hx : Ext [] w w') : Mem w (mids (globs es er)) G [] w' := ((hm.same hx).1.sub (List.nil_sublist _)).1
/-- How strconv.Atoi ends: a number and no error, or an error. -/
def AtoiR (l : Txt) (z : Int × Value) : Prop := match Lib.atoiAll l with
  | .ok v => z = (v, .nilIface)
  | _ => isIf z.2
theorem atoi_s (he : isIf es) (hr : isIf er) (hl : l.length ≤ 100000) : Spec Tryz.prog 129 [stA l] (globs es er) (fun _ : {z : Int × Value // AtoiR l z} => []) (fun z => .tup [int z.1.1, .v z.1.2]) := fun G w vals hm hv => by
  obtain ⟨_, _, rfl, h1, h2⟩ := hv
  have h1 : _ = Value.string ⟨l.toArray⟩ := h1
  have h2 : _ = [] := h2
  subst h1 h2
  have hsz : (ByteArray.mk l.toArray).size = l.length := tx_size l
  have hg1 : w.var? Tryz.prog "strconv.ErrSyntax" = some #[es] := hm.hold (.rdpc (gvPc "strconv.ErrSyntax" #[es])) (by simp)
  have hg2 : w.var? Tryz.prog "strconv.ErrRange" = some #[er] := hm.hold (.rdpc (gvPc "strconv.ErrRange" #[er])) (by simp)
  have htx : (ByteArray.mk l.toArray).data.toList = l := tx_mk l
  obtain ⟨t1, u1, rfl⟩ := he
  obtain ⟨t2, u2, rfl⟩ := hr
  cases h : Lib.atoiAll l with
  | ok v =>
    refine (Any.strconv_Atoi_ok atoiL ⟨l.toArray⟩ (by rw [hsz]; omega) v (by rw [htx]; exact h) w).mono ?_
    rintro e w' ⟨rfl, hw⟩
    have hx : Ext [] w w' := by
      rcases hw with rfl | ⟨t, rfl⟩
      · exact Ext.refl _
      · exact Ext.of_below (Lib.bytesWorld_below _ _ _)
    exact ⟨⟨(v, .nilIface), by unfold AtoiR; rw [h]⟩, _, rfl, by simp, mem_rds hm hx, ⟨[_, _], rfl, _, _, rfl, rfl, _, _, rfl, rfl, rfl⟩⟩
  | range =>
    refine (Any.strconv_Atoi_range_var atoiL ⟨l.toArray⟩ (by rw [hsz]; omega) (by rw [htx]; exact h) t2 u2 w hg2).mono ?_
    rintro e w' ⟨N, rfl, _, _, hb⟩
    exact ⟨⟨(_, _), by unfold AtoiR; rw [h]; exact ⟨_, _, rfl⟩⟩, _, rfl, by simp, mem_rds hm (Ext.of_below hb), ⟨[_, _], rfl, _, _, rfl, rfl, _, _, rfl, rfl, rfl⟩⟩
  | _ =>
    refine (Any.strconv_Atoi_syntax_var atoiL ⟨l.toArray⟩ (by rw [hsz]; omega) (by rw [htx]; exact h) t1 u1 w hg1).mono ?_
    rintro e w' ⟨N, rfl, _, _, hb⟩
    exact ⟨⟨(0, _), by unfold AtoiR; rw [h]; exact ⟨_, _, rfl⟩⟩, _, rfl, by simp, mem_rds hm (Ext.of_below hb), ⟨[_, _], rfl, _, _, rfl, rfl, _, _, rfl, rfl, rfl⟩⟩
theorem itoa_s {v : Int} (hv0 : InR .i64 v) : Spec Tryz.prog 130 [int v] (globs es er) (fun _ : Unit => []) (fun _ => stA (Lib.itoa v)) := fun G w vals hm hv => by
  obtain ⟨_, _, rfl, h1, h2⟩ := hv
  have h1 : _ = Value.int .i64 v := h1
  have h2 : _ = [] := h2
  subst h1 h2
  have hg3 : w.var? Tryz.prog "internal/strconv.uint64pow10" = some pow10C := hm.hold (.rdpc (gvPc "internal/strconv.uint64pow10" pow10C)) (by simp)
  obtain ⟨b1, b2⟩ := hv0
  simp only [lo, hi] at b1 b2
  refine (Any.strconv_Itoa itoaL v b1 b2 w hg3).mono ?_
  rintro e w' ⟨rfl, k, os, rfl⟩
  have hx : Ext [] w (Sort.grow (w.drewN k) os) := by
    refine ⟨rfl, rfl, rfl, ?_, fun j hj _ => ?_⟩
    · simp [Sort.grow, World.drewN]
    · simp only [Sort.grow, World.drewN]
      rw [Array.getElem?_append_left hj]
  exact ⟨(), _, rfl, by simp, mem_rds hm hx, rfl⟩
end
/-! ### Digits -/
theorem decD_step {u : Nat} (h : ¬ u < 10) : Lib.decDigits u = Lib.decDigits (u / 10) ++ [UInt8.ofNat (48 + u % 10)] := by
  rw [Lib.decDigits, dif_neg h]
theorem decD_one {u : Nat} (h : u < 10) : Lib.decDigits u = [UInt8.ofNat (48 + u)] := by
  rw [Lib.decDigits, dif_pos h]
theorem decD_len : ∀ (m u : Nat), 1 ≤ m → u < 10 ^ m → (Lib.decDigits u).length ≤ m
  | 0, _, h, _ => by omega
  | m + 1, u, _, h => by
    by_cases hu : u < 10
    · rw [decD_one hu]; simp
    · rw [decD_step hu, List.length_append]
      rw [Nat.pow_succ] at h
      have hm : 1 ≤ m := by
        rcases m with _ | m
        · simp at h; omega
        · omega
      have := decD_len m (u / 10) hm (by omega)
      simp only [List.length_singleton]
      omega
theorem dig_back {c : UInt8} (h : isDig c = true) : UInt8.ofNat (48 + (c.toNat - 48)) = c := by
  have h1 := of_decide_eq_true h
  rw [show 48 + (c.toNat - 48) = c.toNat by omega]
  simp
/-- A number's own digits. -/
theorem decD_own : ∀ (l : Txt), l ≠ [] → (∀ c ∈ l, isDig c = true) → ¬ (1 < l.length ∧ l.head? = some 48) → Lib.decDigits (decV l) = l := fun l => by
  induction hn : l.length generalizing l with
  | zero => intro h; exact absurd (List.length_eq_zero_iff.1 hn) h
  | succ n ih =>
    intro _ hd hz
    rcases List.eq_nil_or_concat l with rfl | ⟨l', c, rfl⟩
    · simp at hn
    · rw [List.concat_eq_append] at hn hd hz ⊢
      have hc : isDig c = true := hd c (by simp)
      have hc1 := of_decide_eq_true hc
      rw [decV_snoc]
      by_cases hl : l' = []
      · subst hl
        rw [show decV [] = 0 from rfl, Nat.zero_mul, Nat.zero_add, decD_one (by omega), dig_back hc]
        rfl
      · have hlen : l'.length = n := by rw [List.length_append] at hn; simpa using hn
        have hpos : 0 < l'.length := List.length_pos_iff.2 hl
        have hh : (l' ++ [c]).head? = l'.head? := by
          cases l' with
          | nil => exact absurd rfl hl
          | cons a r => rfl
        have hz2 : ¬ l'.head? = some 48 := fun e => hz ⟨by omega, by rw [hh]; exact e⟩
        have h1 := ih l' hlen hl (fun d hd' => hd d (by simp [hd'])) (fun e => hz2 e.2)
        have hge : 1 ≤ decV l' := by
          rcases Nat.eq_zero_or_pos (decV l') with h0 | h0
          · rw [h0, decD_one (by omega)] at h1
            rw [← h1] at hz2
            exact absurd rfl hz2
          · exact h0
        rw [decD_step (by omega), show (decV l' * 10 + (c.toNat - 48)) / 10 = decV l' by omega, show (decV l' * 10 + (c.toNat - 48)) % 10 = c.toNat - 48 by omega, h1, dig_back hc]
theorem decV_zero {l : Txt} (hd : ∀ c ∈ l, isDig c = true) (h : l.head? = some 48) : decV l < 10 ^ (l.length - 1) := by
  cases l with
  | nil => cases h
  | cons a r =>
    have ha : a = 48 := by simpa using h
    subst ha
    have h1 := decV_lt r (fun c hc => hd c (List.mem_cons_of_mem _ hc))
    have e : decV (48 :: r) = decV r := rfl
    rw [e, List.length_cons, Nat.add_sub_cancel]
    exact h1
theorem itoa_iff {l : Txt} (hd : ∀ c ∈ l, isDig c = true) (hn : l ≠ []) : Lib.itoa (decV l : Nat) = l ↔ ¬ (1 < l.length ∧ l.head? = some 48) := by
  have e : Lib.itoa (decV l : Nat) = Lib.decDigits (decV l) := by
    unfold Lib.itoa
    rw [if_neg (by omega)]
    rfl
  rw [e]
  constructor
  · rintro h ⟨h1, h2⟩
    have h3 := decD_len (l.length - 1) _ (by omega) (decV_zero hd h2)
    rw [h] at h3
    omega
  · exact decD_own l hn hd
theorem parse_digs : ∀ (l : Txt) (a : Nat), (∀ c ∈ l, isDig c = true) → (a + 1) * 10 ^ l.length ≤ 1000000 → Lib.parseUint10 a l = .ok (l.foldl (fun a c => a * 10 + (c.toNat - 48)) a)
  | [], a, _, _ => rfl
  | c :: l, a, h, hb => by
    have hc := of_decide_eq_true (h c List.mem_cons_self : isDig c = true)
    rw [List.length_cons, Nat.pow_succ] at hb
    have hpos : 0 < 10 ^ l.length := Nat.pow_pos (by omega)
    have hb2 : (a * 10 + (c.toNat - 48) + 1) * 10 ^ l.length ≤ 1000000 := by
      refine Nat.le_trans (Nat.mul_le_mul_right _ (show a * 10 + (c.toNat - 48) + 1 ≤ (a + 1) * 10 by omega)) ?_
      rw [Nat.mul_assoc, Nat.mul_comm 10]
      exact hb
    have hb3 : a * 10 + (c.toNat - 48) + 1 ≤ 1000000 := Nat.le_trans (Nat.le_mul_of_pos_right _ hpos) hb2
    rw [List.foldl_cons]
    show (if 48 ≤ c.toNat ∧ c.toNat ≤ 57 then _ else _) = _
    rw [if_pos hc, if_neg (by omega), if_neg (by omega)]
    exact parse_digs l _ (fun d hd => h d (List.mem_cons_of_mem _ hd)) hb2
theorem atoi_digs {l : Txt} (hd : ∀ c ∈ l, isDig c = true) (hn : l ≠ []) (h4 : l.length ≤ 4) : Lib.atoiAll l = .ok (decV l : Nat) := by
  cases l with
  | nil => exact absurd rfl hn
  | cons c r =>
    have hc := of_decide_eq_true (hd c List.mem_cons_self : isDig c = true)
    have hp : Lib.parseMag (c :: r) = .ok (decV (c :: r)) := by
      unfold Lib.parseMag
      rw [if_neg (by simp)]
      refine parse_digs (c :: r) 0 hd ?_
      have h10 : 10 ^ (c :: r).length ≤ 10 ^ 4 := Nat.pow_le_pow_right (by omega) h4
      omega
    have hlt := decV_lt (c :: r) hd
    have h10 : 10 ^ (c :: r).length ≤ 10 ^ 4 := Nat.pow_le_pow_right (by omega) h4
    unfold Lib.atoiAll
    simp only [show ¬ (c.toNat = 43 ∨ c.toNat = 45) by omega, if_false, hp]
    rw [if_neg (by omega), if_neg (by omega), if_neg (by omega)]
def atoiBad (l : Txt) : Bool := match Lib.atoiAll l with
  | .ok _ => false
  | _ => true
theorem atoi_bad {l : Txt} {z : Int × Value} (h : AtoiR l z) : (atoiBad l = false ∧ z.2 = .nilIface) ∨ (atoiBad l = true ∧ ∃ t u, z.2 = .iface t u) := by
  unfold AtoiR at h
  unfold atoiBad
  cases ha : Lib.atoiAll l with
  | ok v => rw [ha] at h; exact .inl ⟨rfl, by rw [h]⟩
  | range => rw [ha] at h; exact .inr ⟨rfl, h⟩
  | _ => rw [ha] at h; exact .inr ⟨rfl, h⟩
theorem digs_ne {t : Txt} (h : (digs t).length ≠ 0) : digs t ≠ [] := fun e => h (by rw [e]; rfl)
theorem bad_nil : atoiBad [] = true := by decide
theorem good_val {t : Txt} {z : Int × Value} (h : AtoiR (digs t) z) (hb : atoiBad (digs t) = false) (h4 : (digs t).length ≤ 4) : (digs t).length ≠ 0 ∧ z.1 = (decV (digs t) : Nat) := by
  have hn : (digs t).length ≠ 0 := fun h0 => by
    rw [List.length_eq_zero_iff.1 h0, bad_nil] at hb
    cases hb
  refine ⟨hn, ?_⟩
  have h1 := atoi_digs (digs_dig t) (digs_ne hn) h4
  unfold AtoiR at h
  rw [h1] at h
  rw [h]
theorem numT_bad {t : Txt} (hb : atoiBad (digs t) = true) : numT t = none := by
  unfold numT
  refine if_pos ?_
  by_cases h : (digs t).length = 0 ∨ 4 < (digs t).length
  · rcases h with h | h
    · exact .inl h
    · exact .inr (.inl h)
  · have h1 := atoi_digs (digs_dig t) (digs_ne (by omega)) (by omega)
    unfold atoiBad at hb
    rw [h1] at hb
    cases hb
theorem numT_long {t : Txt} (h : 4 < (digs t).length) : numT t = none := if_pos (.inr (.inl h))
theorem numT_own {t : Txt} (h0 : (digs t).length ≠ 0) (h4 : (digs t).length ≤ 4) (h : Lib.itoa (decV (digs t) : Nat) = digs t) : numT t = some (decV (digs t), t.drop (digs t).length) := by
  have h1 := (itoa_iff (digs_dig t) (digs_ne h0)).1 h
  refine if_neg ?_
  rintro (h2 | h2 | h2)
  · exact h0 h2
  · omega
  · exact h1 h2
theorem numT_other {t : Txt} (h0 : (digs t).length ≠ 0) (h : ¬ Lib.itoa (decV (digs t) : Nat) = digs t) : numT t = none := by
  refine if_pos (.inr (.inr ?_))
  exact Classical.byContradiction fun h2 => h ((itoa_iff (digs_dig t) (digs_ne h0)).2 h2)
/-- How many digits: up to the first that is none. -/
theorem digs_stop : ∀ {t : Txt} {k : Nat} (hk : k < t.length), (∀ j (hj : j < t.length), j < k → isDig t[j] = true) → ¬ isDig t[k] = true → (digs t).length = k
  | [], k, hk, _, _ => by simp at hk
  | c :: t, 0, _, _, h => by
    unfold digs
    rw [List.takeWhile_cons, if_neg (show ¬ isDig c = true from h)]
    rfl
  | c :: t, k + 1, hk, h, hn => by
    have hc : isDig c = true := h 0 (by simp) (by omega)
    unfold digs
    rw [List.takeWhile_cons, if_pos hc, List.length_cons]
    have := digs_stop (t := t) (k := k) (by simpa using hk) (fun j hj hjk => h (j + 1) (by simpa using hj) (by omega)) hn
    unfold digs at this
    omega
theorem digs_all : ∀ {t : Txt}, (∀ j (hj : j < t.length), isDig t[j] = true) → (digs t).length = t.length
  | [], _ => rfl
  | c :: t, h => by
    have hc : isDig c = true := h 0 (by simp)
    unfold digs
    rw [List.takeWhile_cons, if_pos hc, List.length_cons, List.length_cons]
    have := digs_all (t := t) (fun j hj => h (j + 1) (by simpa using hj))
    unfold digs at this
    omega
theorem take_digs (t : Txt) : t.take (digs t).length = digs t := by
  unfold digs
  induction t with
  | nil => rfl
  | cons c t ih =>
    rw [List.takeWhile_cons]
    split
    · rw [List.length_cons, List.take_succ_cons, ih]
    · rfl
/-- What a number's reading leaves, whether it is odd then, and its value. -/
def numL (l : Txt) : Txt := match numT (bare l) with
  | none => bare l
  | some x => x.2
def numO (l : Txt) (odd : Bool) : Bool := match numT (bare l) with
  | none => true
  | some _ => odd
def numV (l : Txt) : Int := match numT (bare l) with
  | none => 0
  | some x => (x.1 : Nat)
theorem num_none {l : Txt} (h : numT (bare l) = none) (odd : Bool) : numL l = bare l ∧ numO l odd = true ∧ numV l = 0 := by
  unfold numL numO numV
  rw [h]
  exact ⟨rfl, rfl, rfl⟩
theorem num_some {l : Txt} {v : Nat} {r : Txt} (h : numT (bare l) = some (v, r)) (odd : Bool) : numL l = r ∧ numO l odd = odd ∧ numV l = (v : Nat) := by
  unfold numL numO numV
  rw [h]
  exact ⟨rfl, rfl, rfl⟩
end Go.Proofs.YtejcohlpjikjpaaGreatDoor.A
/-
  From a walk that reads the program's own tables to the given statement: what the row's list of package variables gives a walk; a world in which it holds; the lift.
-/
namespace Go.Proofs.YtejcohlpjikjpaaGreatDoor
open Go.ChangeShapes Go.WideShapes Go.ChangeAt Go.RowKit

abbrev laidL : List (String × DataW Unit) := [("math/bits.deBruijn32tab", Rows.laid_math_bits_deBruijn32tab), ("math/bits.deBruijn64tab", Rows.laid_math_bits_deBruijn64tab), ("internal/strconv.uint64pow10", Rows.laid_internal_strconv_uint64pow10), ("unicode/utf8.acceptRanges", Rows.laid_unicode_utf8_acceptRanges), ("strconv.ErrRange", Rows.laid_strconv_ErrRange), ("strconv.ErrSyntax", Rows.laid_strconv_ErrSyntax), ("unicode/utf8.first", Rows.laid_unicode_utf8_first)]
/-! ### What the list gives a walk -/
theorem arr_ints {H : Type} {enc : TypeId × Value → H} {w : World} {base : Nat} {sp : Nat → Bool} {held : Bool} {k : IntKind} {t e : TypeId} {n fuel : Nat} {cs : List Value} {zs : List Int} {p : List MemPlace}
    (ht : Tryz.prog.underlying t = some (.array n e)) (he : Tryz.prog.underlying e = some (.int k)) (hc : Tryz.prog.cellsOf e = 1) (hct : Tryz.prog.cellsOf t = n)
    (h : DataW.trod enc Tryz.prog w base sp held fuel t cs = some (.agg (zs.map fun z => .lit (.int k z)), p)) : cs = zs.map (Value.int k) := by
  obtain ⟨xs, m, rfl, hx, hlen, hn, hel⟩ := DataW.trod_array ht h
  rw [hct] at hlen
  rw [hc] at hel
  simp only [Prod.mk.injEq, DataW.agg.injEq] at hx
  have hz : zs.length = n := by have := congrArg List.length hx.1; simpa [hn] using this
  refine List.ext_getElem (by rw [hlen, List.length_map, hz]) fun i h1 h2 => ?_
  have hi : i < n := by rw [← hlen]; exact h1
  have hxi : i < xs.length := by rw [hn]; exact hi
  have h3 := hel i hi
  rw [List.getElem?_eq_getElem hxi, Nat.mul_one, List.drop_eq_getElem_cons h1, List.take_succ_cons, List.take_zero] at h3
  obtain ⟨z, e1, e2, _⟩ := DataW.trod_int he h3
  have h4 : (zs.map fun z => (DataW.lit (.int k z) : DataW H))[i]? = (xs.map (·.1))[i]? := by rw [hx.1]
  rw [List.getElem?_map, List.getElem?_map, List.getElem?_eq_getElem hxi, List.getElem?_eq_getElem (by rw [hz]; exact hi)] at h4
  simp only [Option.map_some, Option.some.injEq] at h4
  rw [e2] at h4
  have h5 : zs[i]'(by rw [hz]; exact hi) = z := by injection h4 with h4; injection h4
  rw [List.getElem_map, h5]
  exact (List.cons.inj e1).1
theorem es_star : "*" ++ "errors.errorString" = "*errors.errorString" := by decide
theorem es_row (u : TypeId) (h : Tryz.prog.typeName? 3 u = some "*errors.errorString") : u = 215 :=
  typeName_ptr_named (P := Tryz.prog) (nm := "errors.errorString") (by rw [es_star]; kernel_rfl) (by kernel_rfl) (by decide) u (by rw [es_star]; exact h)
theorem pow_sum : ∀ (x : DataW Unit), x = Rows.laid_internal_strconv_uint64pow10 → x = .agg (Lib.pow10Tab.map fun z => .lit (.int .u64 z)) := by
  rintro _ rfl
  kernel_rfl
theorem of_laid {W : World} (h : laidMetH Tryz.prog laidL W) : ∃ es er : Value, A.isIf es ∧ A.isIf er ∧ W.var? Tryz.prog "strconv.ErrSyntax" = some #[es] ∧ W.var? Tryz.prog "strconv.ErrRange" = some #[er] ∧ W.var? Tryz.prog "internal/strconv.uint64pow10" = some A.pow10C := by
  rw [MakeChecks.laidMetH_plain _ _ _ (by kernel_rfl)] at h
  have h2 := h.tail.tail
  have h4 := h2.tail.tail
  obtain ⟨a0, _, hv0, _⟩ := laid_sentinel (g := (Tryz.prog.globalNamed "strconv.ErrRange").getD 0) (ti := 164) (tp := 215) (te := 217) (ts := 9) h4 (by kernel_rfl) (by kernel_rfl) Tryz.underlying164 es_row Tryz.underlying215 Tryz.underlying217 rfl rfl Tryz.underlying9 (by kernel_rfl) (by kernel_rfl)
  obtain ⟨a1, _, hv1, _⟩ := laid_sentinel (g := (Tryz.prog.globalNamed "strconv.ErrSyntax").getD 0) (ti := 164) (tp := 215) (te := 217) (ts := 9) h4.tail (by kernel_rfl) (by kernel_rfl) Tryz.underlying164 es_row Tryz.underlying215 Tryz.underlying217 rfl rfl Tryz.underlying9 (by kernel_rfl) (by kernel_rfl)
  refine ⟨_, _, ⟨_, _, rfl⟩, ⟨_, _, rfl⟩, hv1, hv0, ?_⟩
  obtain ⟨ps, ⟨g, t, cs, f, p, q, hg, ht, hv, hd, _, _⟩, _, _⟩ := h2
  obtain rfl := Option.some.inj ((show Tryz.prog.globalNamed "internal/strconv.uint64pow10" = some ((Tryz.prog.globalNamed "internal/strconv.uint64pow10").getD 0) by kernel_rfl).symm.trans hg)
  obtain rfl := Option.some.inj ((show (Tryz.prog.globals[(Tryz.prog.globalNamed "internal/strconv.uint64pow10").getD 0]?).map (·.type) = some 219 by kernel_rfl).symm.trans ht)
  rw [pow_sum _ rfl] at hd
  have := arr_ints Tryz.underlying219 Tryz.underlying151 (by kernel_rfl) (by kernel_rfl) hd
  rw [hv]
  refine congrArg some (Array.toList_inj.1 ?_)
  rw [this]
  show _ = (List.map _ _).toArray.toList
  rw [List.toList_toArray]
/-! ### A world in which it holds -/
theorem laid_met (os : Os) (args : Array Value) : laidMetH Tryz.prog laidL ((World.laidAll Tryz.prog os laidL).forCall (fun _ _ => 0) ⟨#[], args, []⟩).memory := by
  rw [MakeChecks.laidMetH_plain _ _ _ (by kernel_rfl)]
  exact laidMet_laidAll args (by kernel_rfl) (by kernel_rfl)
/-! ### The walk, as a call -/
namespace A
theorem var_lt {w : World} {n : String} {cs : Array Value} (h : w.var? Tryz.prog n = some cs) : (Tryz.prog.globalNamed n).getD 0 < w.heap.size := by
  unfold World.var? at h
  cases hg : Tryz.prog.globalNamed n with
  | none => rw [hg] at h; cases h
  | some g =>
    rw [hg] at h
    simp only [Option.bind_some, Option.getD_some] at h ⊢
    rcases Nat.lt_or_ge g w.heap.size with h1 | h1
    · exact h1
    · rw [Array.getElem?_eq_none h1] at h; cases h
theorem law_ofG {f : FuncId} {args : List Abs} {es er : Value} (h : Spec Tryz.prog f args (globs es er) (fun _ : Unit => []) (fun _ => boo true)) {w : World} {vals : List Value} (hv : reps (mids (globs es er) ++ [(Tryz.prog.globalNamed "strconv.ErrSyntax").getD 0, (Tryz.prog.globalNamed "strconv.ErrRange").getD 0, (Tryz.prog.globalNamed "internal/strconv.uint64pow10").getD 0]) w args vals)
    (h1 : w.var? Tryz.prog "strconv.ErrSyntax" = some #[es]) (h2 : w.var? Tryz.prog "strconv.ErrRange" = some #[er]) (h3 : w.var? Tryz.prog "internal/strconv.uint64pow10" = some pow10C) : Calls Tryz.prog f vals.toArray w fun e w' => e = .returned (.bool true) ∧ Ext [] w w' := by
  have hm : Mem w (mids (globs es er)) [(Tryz.prog.globalNamed "strconv.ErrSyntax").getD 0, (Tryz.prog.globalNamed "strconv.ErrRange").getD 0, (Tryz.prog.globalNamed "internal/strconv.uint64pow10").getD 0] (globs es er) w := by
    refine ⟨Ext.refl w, by simp [mids, It.mids], by simp [mids, It.mids], ?_, ?_, by simp [mids, It.mids], ?_⟩
    · intro k hk
      simp only [List.mem_cons, List.not_mem_nil, or_false] at hk
      rcases hk with rfl | rfl | rfl
      · exact var_lt h1
      · exact var_lt h2
      · exact var_lt h3
    · intro x hx k hk
      simp only [globs, List.mem_cons, List.not_mem_nil, or_false] at hx
      rcases hx with rfl | rfl | rfl <;> (simp only [It.rids, gvPc, List.mem_singleton] at hk; simp [hk])
    · intro x hx
      simp only [globs, List.mem_cons, List.not_mem_nil, or_false] at hx
      rcases hx with rfl | rfl | rfl
      · exact h1
      · exact h2
      · exact h3
  refine (h _ w vals hm hv).mono fun e w' ⟨z, r, he, _, h1, h2⟩ => ⟨?_, h1.ext⟩
  have h2 : r = .bool true := h2
  rw [he, h2]
end A
/-! ### The lift -/
theorem law_liftDS {H : Type} {enc : TypeId × Value → H} {os : Os} (started : os.Started) {f : FuncId} {fn : Func} {s : ChangeSpec}
    (noInit : Tryz.prog.inits.idxOf? f = none) (hfn : Tryz.prog.funcs[f]? = some fn) (hvars : s.vars = []) (hres : fn.resultTypes = #[4])
    (hparB : (fn.params.toList.all fun t => Tryz.prog.readableRec t && decide (t < Tryz.prog.types.size)) = true)
    (hspec : ∀ ds : List (DataW H), ds.length = fn.params.size → s.fn H (ds ++ []) = { results := [.lit (.bool true)], args := ds })
    (wit : ∃ (w : World) (tape : Tape) (i : Input), w.os = os ∧ (w.forCall tape i).Shaped Tryz.prog ∧ i.vars = [] ∧ Input.okWide Tryz.prog (w.forCall tape i) .any w.heap.size f i ∧
      ((s.pre enc Tryz.prog fn [] false (w.forCall tape i).memory i.args ∧ laidMetH Tryz.prog laidL (w.forCall tape i).memory) ∧ sizedMet enc Tryz.prog fn (OpenSpec.ofChange s) false (w.forCall tape i).memory i.args) ∧ Assume.holds {} Tryz.prog (lone (Frame.enter Tryz.prog f i.args .normal) [] (w.forCall tape i)))
    (walk : ∀ (W : World) (base : Nat) (args : Array Value) (ds : List (DataW H)) (p : List MemPlace),
      (∀ (j : Nat) t v, fn.params[j]? = some t → args[j]? = some v → Value.okWide Tryz.prog W .any base t v) →
      DataW.TrodAll enc Tryz.prog W 0 (fun _ => true) true fn.params.toList args.toList ds p →
      laidMetH Tryz.prog laidL W →
      (DataW.weightsEach Tryz.prog fn.params.toList ds).all (· ≤ reachBytes) = true →
      Calls Tryz.prog f args W fun e W' => e = .returned (.bool true) ∧ Ext [] W W') :
    ReturnsInHanded {} Tryz.checked os f .any (fun w args => (s.pre enc Tryz.prog fn [] false w args ∧ laidMetH Tryz.prog laidL w) ∧ sizedMet enc Tryz.prog fn (OpenSpec.ofChange s) false w args) (s.post enc Tryz.prog fn false true false false) := by
  have hpar : ∀ t ∈ fn.params.toList, Tryz.prog.readableRec t = true ∧ t < Tryz.prog.types.size := by
    simpa only [List.all_eq_true, Bool.and_eq_true, decide_eq_true_eq] using hparB
  refine returnsInHanded_of_change_and (C := Tryz.checked) (X := fun w _ => laidMetH Tryz.prog laidL w) (fun _ _ _ hh h => h.of_heap hh) law_own started noInit hfn wit ?_
  intro W base args ds gs before hval0 hW hcnd hsz hL _
  have hval : ∀ (j : Nat) t v, fn.params[j]? = some t → args[j]? = some v → Value.okWide Tryz.prog W .any base t v := hval0
  have hW' := hW
  obtain ⟨p, q, hA0, hV, rfl, hfz, hnd⟩ := hW
  have hA : DataW.TrodAll enc Tryz.prog W 0 (fun _ => true) true fn.params.toList args.toList ds p := hA0
  rw [hvars] at hV
  obtain ⟨rfl, rfl⟩ := trodVars_none hV
  have hsz' : (DataW.weightsEach Tryz.prog fn.params.toList ds).all (· ≤ reachBytes) = true := by
    have h2 := hsz
    simp only [OpenSpec.bare, OpenSpec.ofChange, ChangeSpec.plain, DataSpec.varTypes, hvars, List.filterMap_nil, List.append_nil] at h2
    exact h2
  refine (walk W base args ds p hval hA hL hsz').mono fun e W' ⟨he, bel⟩ => ?_
  subst he
  have hlen : ds.length = fn.params.size := by
    have : ∀ (ts : List TypeId) (vs : List Value) (ds : List (DataW H)) (p : List MemPlace), DataW.TrodAll enc Tryz.prog W 0 (fun _ => true) true ts vs ds p → ds.length = ts.length := by
      intro ts
      induction ts with
      | nil => intro vs ds p h; cases vs <;> cases ds <;> first | rfl | exact h.elim
      | cons t ts ih =>
        intro vs ds p h
        cases vs with
        | nil => exact h.elim
        | cons v vs =>
          cases ds with
          | nil => exact h.elim
          | cons d ds => obtain ⟨p0, q0, _, h1, _⟩ := h; simp [ih vs ds q0 h1]
    simpa using this _ _ _ _ hA
  obtain ⟨pa, hpa⟩ := trodAll_below (enc := enc) bel.below fn.params.toList args.toList ds p hpar hA
  refine ⟨_, rfl, ds, [], p ++ [], [], pa, [], hW', ?_, ?_, ?_, bel.below.frame _, fun h => by cases h⟩
  · rw [hspec ds hlen, hres]
    exact trodAll_mk1 (shut_bool Tryz.underlying4 _)
  · rw [hspec ds hlen]; exact hpa
  · rw [hspec ds hlen, hvars]; rfl
end Go.Proofs.YtejcohlpjikjpaaGreatDoor
/-
  Money: what the program's amounts and the document's come to.
-/
namespace Go.Proofs.YtejcohlpjikjpaaGreatDoor
open Go.RowKit

/-- Is a number an amount? -/
def isAmt (a : Int) : Bool := decide (0 ≤ a ∧ a ≤ 1099511627776)
theorem isAmt_true {a : Int} (h : isAmt a = true) : 0 ≤ a ∧ a ≤ 1099511627776 := by simpa [isAmt] using h
theorem isAmt_mk {a : Int} (h0 : 0 ≤ a) (h1 : a ≤ 1099511627776) : isAmt a = true := by simp [isAmt]; omega
/-- A sum, or a difference: the number and the error. -/
def amtAdd (a b : Int) : Int × Int := if !isAmt a || !isAmt b then (0, 5) else if isAmt (a + b) then (a + b, 0) else (0, 6)
def amtSub (a b : Int) : Int × Int := if !isAmt a || !isAmt b then (0, 5) else if isAmt (a - b) then (a - b, 0) else (0, 6)
def amtChange (a b : Int) : Int × Int := if b < 0 ∧ -1099511627776 ≤ b then amtSub a (-b) else amtAdd a b
theorem u64_neg {a : Int} (h0 : -9223372036854775808 ≤ a) (h1 : a < 0) : IntKind.u64.wrap a = a + 18446744073709551616 := by
  simp [IntKind.wrap, IntKind.signed, IntKind.bits]; omega

theorem money_Is (a : Int) (b : Bool) (hb : isAmt a = b) (w : World) (h0 : -9223372036854775808 ≤ a) (h1 : a ≤ 9223372036854775807) :
    Calls Tryz.prog 87 #[.int .i64 a] w fun e w' => e = .returned (.bool b) ∧ w = w' := by
  by_cases h : 0 ≤ a
  · go_enter Tryz.func87, Tryz.ntmps87
    go_wp2
    go_ret
    refine ⟨ret_bool ?_, rfl⟩
    rw [← hb, isAmt]; simp [h]
  · go_enter Tryz.func87, Tryz.ntmps87
    go_wp2
    go_ret
    refine ⟨ret_bool ?_, rfl⟩
    rw [← hb, isAmt, u64_neg h0 (by omega), decide_eq_decide]; omega

theorem ref07_Is (a : Int) (b : Bool) (hb : isAmt a = b) (w : World) :
    Calls Tryz.prog 98 #[.int .i64 a] w fun e w' => e = .returned (.bool b) ∧ w = w' := by
  by_cases h : 0 ≤ a
  · by_cases h2 : a ≤ 1099511627776
    · obtain rfl : true = b := by rw [← hb, isAmt_mk h h2]
      go_enter Tryz.func98, Tryz.ntmps98
      go_wp2
      go_ret
      exact ⟨rfl, rfl⟩
    · obtain rfl : false = b := by rw [← hb]; simp [isAmt]; omega
      go_enter Tryz.func98, Tryz.ntmps98
      go_wp2
      go_ret
      exact ⟨rfl, rfl⟩
  · obtain rfl : false = b := by rw [← hb]; simp [isAmt]; omega
    go_enter Tryz.func98, Tryz.ntmps98
    go_wp2
    go_ret
    exact ⟨rfl, rfl⟩

theorem money_kept (a : Int) (w : World) (h0 : -9223372036854775808 ≤ a) (h1 : a ≤ 9223372036854775807) :
    Calls Tryz.prog 88 #[.int .i64 a] w fun e w' => e = .returned (.tuple #[.int .i64 (if isAmt a then a else 0), .int .i64 (if isAmt a then 0 else 6)]) ∧ w = w' := by
  cases h : isAmt a
  all_goals
    have H := Lib.hid h; clear h
    go_enter Tryz.func88, Tryz.ntmps88
    go_wp2_with (go_at_call 87; refine (money_Is _ _ H.out _ h0 h1).mono ?_; rintro e _ ⟨rfl, rfl⟩)
    go_ret2
    exact ⟨rfl, rfl⟩

theorem money_Add (a b : Int) (w : World) (a0 : -9223372036854775808 ≤ a) (a1 : a ≤ 9223372036854775807) (b0 : -9223372036854775808 ≤ b) (b1 : b ≤ 9223372036854775807) :
    Calls Tryz.prog 63 #[.int .i64 a, .int .i64 b] w fun e w' => e = .returned (.tuple #[.int .i64 (amtAdd a b).1, .int .i64 (amtAdd a b).2]) ∧ w = w' := by
  cases ha : isAmt a
  · have fin : amtAdd a b = (0, 5) := by simp [amtAdd, ha]
    rw [fin]
    have HA := Lib.hid ha; clear ha fin
    go_enter Tryz.func63, Tryz.ntmps63
    go_wp2_with (go_at_call 87; refine (money_Is _ _ HA.out _ a0 a1).mono ?_; rintro e _ ⟨rfl, rfl⟩)
    go_ret2
    exact ⟨rfl, rfl⟩
  · cases hb : isAmt b
    · have fin : amtAdd a b = (0, 5) := by simp [amtAdd, ha, hb]
      rw [fin]
      have HA := Lib.hid ha; clear ha fin
      have HB := Lib.hid hb; clear hb
      go_enter Tryz.func63, Tryz.ntmps63
      go_wp2_with (first
        | (go_at_call 87; with_reducible refine (money_Is a _ HA.out _ a0 a1).mono ?_; rintro e _ ⟨rfl, rfl⟩)
        | (go_at_call 87; with_reducible refine (money_Is b _ HB.out _ b0 b1).mono ?_; rintro e _ ⟨rfl, rfl⟩))
      go_ret2
      exact ⟨rfl, rfl⟩
    · have xa := isAmt_true ha
      have xb := isAmt_true hb
      obtain ⟨xa0, xa1⟩ := xa
      obtain ⟨xb0, xb1⟩ := xb
      have fin : amtAdd a b = (if isAmt (a + b) then a + b else 0, if isAmt (a + b) then 0 else 6) := by
        cases hc : isAmt (a + b) <;> simp [amtAdd, ha, hb, hc]
      rw [fin]
      have HA := Lib.hid ha; clear ha fin
      have HB := Lib.hid hb; clear hb
      have KK := money_kept (a + b) w (by omega) (by omega)
      have HK := Lib.hid KK; clear KK
      go_enter Tryz.func63, Tryz.ntmps63
      go_wp2_with (first
        | (go_at_call 87; with_reducible refine (money_Is a _ HA.out _ a0 a1).mono ?_; rintro e _ ⟨rfl, rfl⟩)
        | (go_at_call 87; with_reducible refine (money_Is b _ HB.out _ b0 b1).mono ?_; rintro e _ ⟨rfl, rfl⟩)
        | (go_at_call 88; refine HK.out.mono ?_; rintro e _ ⟨rfl, rfl⟩))
      all_goals
        go_ret2
        exact ⟨rfl, rfl⟩

theorem money_Sub (a b : Int) (w : World) (a0 : -9223372036854775808 ≤ a) (a1 : a ≤ 9223372036854775807) (b0 : -9223372036854775808 ≤ b) (b1 : b ≤ 9223372036854775807) :
    Calls Tryz.prog 150 #[.int .i64 a, .int .i64 b] w fun e w' => e = .returned (.tuple #[.int .i64 (amtSub a b).1, .int .i64 (amtSub a b).2]) ∧ w = w' := by
  cases ha : isAmt a
  · have fin : amtSub a b = (0, 5) := by simp [amtSub, ha]
    rw [fin]
    have HA := Lib.hid ha; clear ha fin
    go_enter Tryz.func150, Tryz.ntmps150
    go_wp2_with (go_at_call 87; refine (money_Is _ _ HA.out _ a0 a1).mono ?_; rintro e _ ⟨rfl, rfl⟩)
    go_ret2
    exact ⟨rfl, rfl⟩
  · cases hb : isAmt b
    · have fin : amtSub a b = (0, 5) := by simp [amtSub, ha, hb]
      rw [fin]
      have HA := Lib.hid ha; clear ha fin
      have HB := Lib.hid hb; clear hb
      go_enter Tryz.func150, Tryz.ntmps150
      go_wp2_with (first
        | (go_at_call 87; with_reducible refine (money_Is a _ HA.out _ a0 a1).mono ?_; rintro e _ ⟨rfl, rfl⟩)
        | (go_at_call 87; with_reducible refine (money_Is b _ HB.out _ b0 b1).mono ?_; rintro e _ ⟨rfl, rfl⟩))
      go_ret2
      exact ⟨rfl, rfl⟩
    · have xa := isAmt_true ha
      have xb := isAmt_true hb
      obtain ⟨xa0, xa1⟩ := xa
      obtain ⟨xb0, xb1⟩ := xb
      have fin : amtSub a b = (if isAmt (a - b) then a - b else 0, if isAmt (a - b) then 0 else 6) := by
        cases hc : isAmt (a - b) <;> simp [amtSub, ha, hb, hc]
      rw [fin]
      have HA := Lib.hid ha; clear ha fin
      have HB := Lib.hid hb; clear hb
      have KK := money_kept (a - b) w (by omega) (by omega)
      have HK := Lib.hid KK; clear KK
      go_enter Tryz.func150, Tryz.ntmps150
      go_wp2_with (first
        | (go_at_call 87; with_reducible refine (money_Is a _ HA.out _ a0 a1).mono ?_; rintro e _ ⟨rfl, rfl⟩)
        | (go_at_call 87; with_reducible refine (money_Is b _ HB.out _ b0 b1).mono ?_; rintro e _ ⟨rfl, rfl⟩)
        | (go_at_call 88; refine HK.out.mono ?_; rintro e _ ⟨rfl, rfl⟩))
      all_goals
        go_ret2
        exact ⟨rfl, rfl⟩

theorem money_Change (a b : Int) (w : World) (a0 : -9223372036854775808 ≤ a) (a1 : a ≤ 9223372036854775807) (b0 : -9223372036854775808 ≤ b) (b1 : b ≤ 9223372036854775807) :
    Calls Tryz.prog 138 #[.int .i64 a, .int .i64 b] w fun e w' => e = .returned (.tuple #[.int .i64 (amtChange a b).1, .int .i64 (amtChange a b).2]) ∧ w = w' := by
  by_cases h0 : b < 0
  · by_cases h1 : -1099511627776 ≤ b
    · have fin : amtChange a b = amtSub a (-b) := by simp [amtChange, h0, h1]
      rw [fin]; clear fin
      go_enter Tryz.func138, Tryz.ntmps138
      go_wp2_with (go_at_call 150; refine (money_Sub _ _ _ (by omega) (by omega) (by omega) (by omega)).mono ?_; rintro e _ ⟨rfl, rfl⟩)
      go_ret2
      exact ⟨rfl, rfl⟩
    · have fin : amtChange a b = amtAdd a b := by simp [amtChange, h1]
      rw [fin]; clear fin
      go_enter Tryz.func138, Tryz.ntmps138
      go_wp2_with (go_at_call 63; refine (money_Add _ _ _ a0 a1 b0 b1).mono ?_; rintro e _ ⟨rfl, rfl⟩)
      go_ret2
      exact ⟨rfl, rfl⟩
  · have fin : amtChange a b = amtAdd a b := by simp [amtChange, h0]
    rw [fin]; clear fin
    go_enter Tryz.func138, Tryz.ntmps138
    go_wp2_with (go_at_call 63; refine (money_Add _ _ _ a0 a1 b0 b1).mono ?_; rintro e _ ⟨rfl, rfl⟩)
    go_ret2
    exact ⟨rfl, rfl⟩

/-- The document's change of an amount. -/
def refChange (a b : Int) : Int × Int := if !isAmt a || decide (b < -1099511627776) || decide (1099511627776 < b) then (0, 5) else if isAmt (a + b) then (a + b, 0) else (0, 6)
theorem refChange_add (a b : Int) (h : isAmt b = true) : refChange a b = amtAdd a b := by
  have hb := isAmt_true h
  have h1 : decide (b < -1099511627776) = false := by simp; omega
  have h2 : decide (1099511627776 < b) = false := by simp; omega
  simp [refChange, amtAdd, h, h1, h2]
theorem refChange_sub (a b : Int) (h : isAmt b = true) : refChange a (0 - b) = amtSub a b := by
  have hb := isAmt_true h
  have h1 : decide (0 - b < -1099511627776) = false := by simp; omega
  have h2 : decide (1099511627776 < 0 - b) = false := by simp; omega
  have h3 : a + (0 - b) = a - b := by omega
  simp only [refChange, amtSub, h, h1, h2, h3, Bool.or_false, Bool.not_true]
theorem refChange_change (a b : Int) : amtChange a b = refChange a b := by
  unfold amtChange
  by_cases h0 : b < 0
  · by_cases h1 : -1099511627776 ≤ b
    · rw [if_pos ⟨h0, h1⟩, ← refChange_sub a (-b) (isAmt_mk (by omega) (by omega))]
      congr 1; omega
    · rw [if_neg (by omega)]
      have h2 : isAmt b = false := by simp [isAmt]; omega
      have h3 : decide (b < -1099511627776) = true := by simp; omega
      simp [amtAdd, refChange, h2, h3]
  · rw [if_neg (by omega)]
    by_cases h1 : b ≤ 1099511627776
    · exact (refChange_add a b (isAmt_mk (by omega) h1)).symm
    · have h2 : isAmt b = false := by simp [isAmt]; omega
      have h3 : decide (1099511627776 < b) = true := by simp; omega
      simp [amtAdd, refChange, h2, h3]

theorem ref07_Change (a b : Int) (w : World) (a0 : -9223372036854775808 ≤ a) (a1 : a ≤ 9223372036854775807) (b0 : -9223372036854775808 ≤ b) (b1 : b ≤ 9223372036854775807) :
    Calls Tryz.prog 99 #[.int .i64 a, .int .i64 b] w fun e w' => e = .returned (.tuple #[.int .i64 (refChange a b).1, .int .i64 (refChange a b).2]) ∧ w = w' := by
  cases ha : isAmt a
  · have fin : refChange a b = (0, 5) := by simp [refChange, ha]
    rw [fin]
    have HA := Lib.hid ha; clear ha fin
    go_enter Tryz.func99, Tryz.ntmps99
    go_wp2_with (go_at_call 98; with_reducible refine (ref07_Is a _ HA.out _).mono ?_; rintro e _ ⟨rfl, rfl⟩)
    go_ret2
    exact ⟨rfl, rfl⟩
  · have xa := isAmt_true ha
    obtain ⟨xa0, xa1⟩ := xa
    have HA := Lib.hid ha
    by_cases h1 : b < -1099511627776
    · have fin : refChange a b = (0, 5) := by simp [refChange, h1]
      rw [fin]
      clear ha fin
      go_enter Tryz.func99, Tryz.ntmps99
      go_wp2_with (go_at_call 98; with_reducible refine (ref07_Is a _ HA.out _).mono ?_; rintro e _ ⟨rfl, rfl⟩)
      go_ret2
      exact ⟨rfl, rfl⟩
    · by_cases h2 : 1099511627776 < b
      · have fin : refChange a b = (0, 5) := by simp [refChange, h2]
        rw [fin]
        clear ha fin
        go_enter Tryz.func99, Tryz.ntmps99
        go_wp2_with (go_at_call 98; with_reducible refine (ref07_Is a _ HA.out _).mono ?_; rintro e _ ⟨rfl, rfl⟩)
        go_ret2
        exact ⟨rfl, rfl⟩
      · cases hc : isAmt (a + b)
        · have fin : refChange a b = (0, 6) := by simp [refChange, ha, h1, h2, hc]
          rw [fin]
          have HC := Lib.hid hc
          clear ha fin hc
          go_enter Tryz.func99, Tryz.ntmps99
          go_wp2_with (first
            | (go_at_call 98; with_reducible refine (ref07_Is a _ HA.out _).mono ?_; rintro e _ ⟨rfl, rfl⟩)
            | (go_at_call 98; with_reducible refine (ref07_Is (a + b) _ HC.out _).mono ?_; rintro e _ ⟨rfl, rfl⟩))
          go_ret2
          exact ⟨rfl, rfl⟩
        · have fin : refChange a b = (a + b, 0) := by simp [refChange, ha, h1, h2, hc]
          rw [fin]
          have HC := Lib.hid hc
          clear ha fin hc
          go_enter Tryz.func99, Tryz.ntmps99
          go_wp2_with (first
            | (go_at_call 98; with_reducible refine (ref07_Is a _ HA.out _).mono ?_; rintro e _ ⟨rfl, rfl⟩)
            | (go_at_call 98; with_reducible refine (ref07_Is (a + b) _ HC.out _).mono ?_; rintro e _ ⟨rfl, rfl⟩))
          go_ret2
          exact ⟨rfl, rfl⟩

theorem ref07_Add (a b : Int) (w : World) (a0 : -9223372036854775808 ≤ a) (a1 : a ≤ 9223372036854775807) (b0 : -9223372036854775808 ≤ b) (b1 : b ≤ 9223372036854775807) :
    Calls Tryz.prog 74 #[.int .i64 a, .int .i64 b] w fun e w' => e = .returned (.tuple #[.int .i64 (amtAdd a b).1, .int .i64 (amtAdd a b).2]) ∧ w = w' := by
  cases hb : isAmt b
  · have fin : amtAdd a b = (0, 5) := by simp [amtAdd, hb]
    rw [fin]
    have HB := Lib.hid hb; clear hb fin
    go_enter Tryz.func74, Tryz.ntmps74
    go_wp2_with (go_at_call 98; with_reducible refine (ref07_Is b _ HB.out _).mono ?_; rintro e _ ⟨rfl, rfl⟩)
    go_ret2
    exact ⟨rfl, rfl⟩
  · have xb := isAmt_true hb
    obtain ⟨xb0, xb1⟩ := xb
    have HC := ref07_Change a b w a0 a1 (by omega) (by omega)
    rw [refChange_add a b hb] at HC
    have HB := Lib.hid hb; clear hb
    have HD := Lib.hid HC; clear HC
    go_enter Tryz.func74, Tryz.ntmps74
    go_wp2_with (first
      | (go_at_call 98; with_reducible refine (ref07_Is b _ HB.out _).mono ?_; rintro e _ ⟨rfl, rfl⟩)
      | (go_at_call 99; refine HD.out.mono ?_; rintro e _ ⟨rfl, rfl⟩))
    go_ret2
    exact ⟨rfl, rfl⟩

theorem amtAdd_is (a b : Int) : isAmt (amtAdd a b).1 = true := by
  unfold amtAdd; split
  · exact isAmt_mk (by decide) (by decide)
  · split
    · assumption
    · exact isAmt_mk (by decide) (by decide)
theorem amtSub_is (a b : Int) : isAmt (amtSub a b).1 = true := by
  unfold amtSub; split
  · exact isAmt_mk (by decide) (by decide)
  · split
    · assumption
    · exact isAmt_mk (by decide) (by decide)
theorem amtChange_is (a b : Int) : isAmt (amtChange a b).1 = true := by
  unfold amtChange; split
  · exact amtSub_is _ _
  · exact amtAdd_is _ _
theorem ref07_Change' (a b : Int) (w : World) (a0 : -9223372036854775808 ≤ a) (a1 : a ≤ 9223372036854775807) (b0 : -9223372036854775808 ≤ b) (b1 : b ≤ 9223372036854775807) :
    Calls Tryz.prog 99 #[.int .i64 a, .int .i64 b] w fun e w' => e = .returned (.tuple #[.int .i64 (amtChange a b).1, .int .i64 (amtChange a b).2]) ∧ w = w' := by
  rw [refChange_change]; exact ref07_Change a b w a0 a1 b0 b1

end Go.Proofs.YtejcohlpjikjpaaGreatDoor
/-
  Layer 10: a letter, step by step: the program and the document.
-/
namespace Go.Proofs.YtejcohlpjikjpaaGreatDoor
open Go.RowKit

/-- A letter, as a Lean value. -/
structure Ltr where
  name : ByteArray
  state : Int
  amount : Int
  due : Int
  policy : ByteArray
  papers : ByteArray
def Ltr.cells (l : Ltr) : Array Value := #[.string l.name, .int .i64 l.state, .int .i64 l.amount, .int .i64 l.due, .string l.policy, .string l.papers]
def Ltr.none : Ltr := ⟨ByteArray.empty, 0, 0, 0, ByteArray.empty, ByteArray.empty⟩

/-- Where a step leads; 0: nowhere. -/
def ltrRow (op : Int) : List Int :=
   if op = 1 then [1, 0, 0, 0, 0, 0, 0, 0]
  else if op = 2 then [0, 2, 0, 0, 0, 0, 0, 0]
  else if op = 3 then [0, 0, 2, 0, 0, 0, 0, 0]
  else if op = 4 then [0, 0, 3, 0, 0, 0, 0, 0]
  else if op = 5 then [0, 0, 0, 4, 0, 0, 0, 0]
  else if op = 6 then [0, 0, 0, 2, 0, 0, 0, 0]
  else if op = 7 then [0, 0, 0, 0, 5, 0, 0, 0]
  else if op = 8 then [0, 6, 6, 6, 0, 0, 0, 0]
  else if op = 9 then [0, 7, 7, 0, 0, 0, 0, 0]
  else [0, 0, 0, 0, 0, 0, 0, 0]
def ltrNext (state op : Int) : Int := if state < 0 then 0 else (ltrRow op).getD state.toNat 0
def tableCells : Array Value := #[.int .i64 0, .int .i64 0, .int .i64 0, .int .i64 0, .int .i64 0, .int .i64 0, .int .i64 0, .int .i64 0, .int .i64 1, .int .i64 0, .int .i64 0, .int .i64 0, .int .i64 0, .int .i64 0, .int .i64 0, .int .i64 0, .int .i64 0, .int .i64 2, .int .i64 0, .int .i64 0, .int .i64 0, .int .i64 0, .int .i64 0, .int .i64 0, .int .i64 0, .int .i64 0, .int .i64 2, .int .i64 0, .int .i64 0, .int .i64 0, .int .i64 0, .int .i64 0, .int .i64 0, .int .i64 0, .int .i64 3, .int .i64 0, .int .i64 0, .int .i64 0, .int .i64 0, .int .i64 0, .int .i64 0, .int .i64 0, .int .i64 0, .int .i64 4, .int .i64 0, .int .i64 0, .int .i64 0, .int .i64 0, .int .i64 0, .int .i64 0, .int .i64 0, .int .i64 2, .int .i64 0, .int .i64 0, .int .i64 0, .int .i64 0, .int .i64 0, .int .i64 0, .int .i64 0, .int .i64 0, .int .i64 5, .int .i64 0, .int .i64 0, .int .i64 0, .int .i64 0, .int .i64 6, .int .i64 6, .int .i64 6, .int .i64 0, .int .i64 0, .int .i64 0, .int .i64 0, .int .i64 0, .int .i64 7, .int .i64 7, .int .i64 0, .int .i64 0, .int .i64 0, .int .i64 0, .int .i64 0]

set_option maxRecDepth 100000 in
theorem letter_table (w : World) : Calls Tryz.prog 115 #[] w fun e w' => e = .returned (.agg tableCells) ∧ Ext [] w w' := by
  go_enter Tryz.func115, Tryz.ntmps115
  go_wp2_with (first
    | (refine wpList_store_new (o := ⟨none, .store 145 _ _, _, _, _, _⟩) rfl _ _ _ rfl w _ _ tableCells rfl rfl rfl (by kernel_rfl) (by kernel_rfl) (by kernel_rfl) ?_))
  exact bodyPost_ret (v := .agg tableCells) (results_cell_row rfl _ _ w.heap.size _ _ _ _ rfl (heap_alloc_new _ _) Tryz.underlying145 rfl (by kernel_rfl)) rfl ⟨rfl, (Ext.refl _).alloc _⟩

theorem index_row (op : Int) (h1 : 1 ≤ op) (h9 : op ≤ 9) (w : World) : (Instr.index 145 (.agg tableCells) (.int .i64 op)).run Tryz.prog w = .ok (.agg ((ltrRow op).map (Value.int .i64)).toArray) w := by
  have : op = 1 ∨ op = 2 ∨ op = 3 ∨ op = 4 ∨ op = 5 ∨ op = 6 ∨ op = 7 ∨ op = 8 ∨ op = 9 := by omega
  rcases this with rfl | rfl | rfl | rfl | rfl | rfl | rfl | rfl | rfl <;> (show _ = _; kernel_rfl)
theorem index_state (op : Int) (h1 : 1 ≤ op) (h9 : op ≤ 9) (s : Int) (hs0 : 0 ≤ s) (hs7 : s ≤ 7) (w : World) :
    (Instr.index 144 (.agg ((ltrRow op).map (Value.int .i64)).toArray) (.int .i64 s)).run Tryz.prog w = .ok (.int .i64 (ltrNext s op)) w := by
  have h : op = 1 ∨ op = 2 ∨ op = 3 ∨ op = 4 ∨ op = 5 ∨ op = 6 ∨ op = 7 ∨ op = 8 ∨ op = 9 := by omega
  have h2 : s = 0 ∨ s = 1 ∨ s = 2 ∨ s = 3 ∨ s = 4 ∨ s = 5 ∨ s = 6 ∨ s = 7 := by omega
  rcases h with rfl | rfl | rfl | rfl | rfl | rfl | rfl | rfl | rfl <;> rcases h2 with rfl | rfl | rfl | rfl | rfl | rfl | rfl | rfl <;> (show _ = _; kernel_rfl)
theorem ltrNext_none (s op : Int) (h : op < 1 ∨ 9 < op ∨ s < 0 ∨ 8 ≤ s) : ltrNext s op = 0 := by
  unfold ltrNext
  split
  · rfl
  · have h' : op < 1 ∨ 9 < op ∨ 8 ≤ s := by omega
    rcases h' with h' | h' | h'
    · simp only [ltrRow, if_neg (show ¬ op = 1 by omega), if_neg (show ¬ op = 2 by omega), if_neg (show ¬ op = 3 by omega), if_neg (show ¬ op = 4 by omega), if_neg (show ¬ op = 5 by omega), if_neg (show ¬ op = 6 by omega), if_neg (show ¬ op = 7 by omega), if_neg (show ¬ op = 8 by omega), if_neg (show ¬ op = 9 by omega)]
      rcases hs : s.toNat with _ | _ | _ | _ | _ | _ | _ | _ | n <;> simp
    · simp only [ltrRow, if_neg (show ¬ op = 1 by omega), if_neg (show ¬ op = 2 by omega), if_neg (show ¬ op = 3 by omega), if_neg (show ¬ op = 4 by omega), if_neg (show ¬ op = 5 by omega), if_neg (show ¬ op = 6 by omega), if_neg (show ¬ op = 7 by omega), if_neg (show ¬ op = 8 by omega), if_neg (show ¬ op = 9 by omega)]
      rcases hs : s.toNat with _ | _ | _ | _ | _ | _ | _ | _ | n <;> simp
    · have hl : (ltrRow op).length = 8 := by unfold ltrRow; repeat' split
                                             all_goals rfl
      rw [List.getD_eq_getElem?_getD, List.getElem?_eq_none (by omega)]; rfl

theorem letter_Next (s op : Int) (w : World) :
    Calls Tryz.prog 84 #[.int .i64 s, .int .i64 op] w fun e w' => e = .returned (.int .i64 (ltrNext s op)) ∧ Ext [] w w' := by
  by_cases h1 : op < 1
  · rw [ltrNext_none s op (by omega)]
    go_enter Tryz.func84, Tryz.ntmps84
    go_wp2
    go_ret
    exact ⟨rfl, Ext.refl _⟩
  by_cases h2 : 9 < op
  · rw [ltrNext_none s op (by omega)]
    go_enter Tryz.func84, Tryz.ntmps84
    go_wp2
    go_ret
    exact ⟨rfl, Ext.refl _⟩
  by_cases h3 : s < 0
  · rw [ltrNext_none s op (by omega)]
    go_enter Tryz.func84, Tryz.ntmps84
    go_wp2
    go_ret
    exact ⟨rfl, Ext.refl _⟩
  by_cases h4 : 8 ≤ s
  · rw [ltrNext_none s op (by omega)]
    go_enter Tryz.func84, Tryz.ntmps84
    go_wp2
    go_ret
    exact ⟨rfl, Ext.refl _⟩
  have i1 := index_row op (by omega) (by omega)
  have i2 := index_state op (by omega) (by omega) s (by omega) (by omega)
  go_enter Tryz.func84, Tryz.ntmps84
  go_wp2_with (go_at_call 115; refine (letter_table _).mono ?_; rintro e w1 ⟨rfl, e1⟩)
  go_ret
  exact ⟨rfl, e1⟩

/-- Which states a step leads from. -/
def ltrFrom (op : Int) : List Int := if op = 1 then [0] else if op = 2 then [1] else if op = 3 then [2] else if op = 4 then [2] else if op = 5 then [3] else if op = 6 then [3] else if op = 7 then [4] else if op = 8 then [1, 2, 3] else if op = 9 then [1, 2] else []
theorem ltrNext_other (s op : Int) (h : s ∉ ltrFrom op) : ltrNext s op = 0 := by
  by_cases h1 : op < 1 ∨ 9 < op ∨ s < 0 ∨ 8 ≤ s
  · exact ltrNext_none s op h1
  · have h3 : op = 1 ∨ op = 2 ∨ op = 3 ∨ op = 4 ∨ op = 5 ∨ op = 6 ∨ op = 7 ∨ op = 8 ∨ op = 9 := by omega
    have h2 : s = 0 ∨ s = 1 ∨ s = 2 ∨ s = 3 ∨ s = 4 ∨ s = 5 ∨ s = 6 ∨ s = 7 := by omega
    rcases h3 with rfl | rfl | rfl | rfl | rfl | rfl | rfl | rfl | rfl <;> rcases h2 with rfl | rfl | rfl | rfl | rfl | rfl | rfl | rfl <;> first | rfl | exact absurd (by decide) h
theorem ref10_Next (s op : Int) (w : World) :
    Calls Tryz.prog 94 #[.int .i64 s, .int .i64 op] w fun e w' => e = .returned (.int .i64 (ltrNext s op)) ∧ w = w' := by
  by_cases h1 : op < 1 ∨ 9 < op
  · rw [ltrNext_none s op (by omega)]
    have k1 : (op == 1) = false := by simp; omega
    have k2 : (op == 2) = false := by simp; omega
    have k3 : (op == 3) = false := by simp; omega
    have k4 : (op == 4) = false := by simp; omega
    have k5 : (op == 5) = false := by simp; omega
    have k6 : (op == 6) = false := by simp; omega
    have k7 : (op == 7) = false := by simp; omega
    have k8 : (op == 8) = false := by simp; omega
    have k9 : (op == 9) = false := by simp; omega
    clear h1
    go_enter Tryz.func94, Tryz.ntmps94
    go_wp2
    go_ret
    exact ⟨rfl, rfl⟩
  have : op = 1 ∨ op = 2 ∨ op = 3 ∨ op = 4 ∨ op = 5 ∨ op = 6 ∨ op = 7 ∨ op = 8 ∨ op = 9 := by omega
  clear h1
  rcases this with rfl | rfl | rfl | rfl | rfl | rfl | rfl | rfl | rfl
  ·
    by_cases s0 : s = 0
    · subst s0
      rw [show ltrNext 0 1 = 1 from by decide]
      go_enter Tryz.func94, Tryz.ntmps94
      go_wp2
      go_ret
      exact ⟨rfl, rfl⟩
    have b0 : (s == 0) = false := by simpa using s0
    rw [show ltrNext s 1 = 0 from ltrNext_other s 1 (by simp [ltrFrom]; omega)]
    go_enter Tryz.func94, Tryz.ntmps94
    go_wp2
    go_ret
    exact ⟨rfl, rfl⟩
  ·
    by_cases s1 : s = 1
    · subst s1
      rw [show ltrNext 1 2 = 2 from by decide]
      go_enter Tryz.func94, Tryz.ntmps94
      go_wp2
      go_ret
      exact ⟨rfl, rfl⟩
    have b1 : (s == 1) = false := by simpa using s1
    rw [show ltrNext s 2 = 0 from ltrNext_other s 2 (by simp [ltrFrom]; omega)]
    go_enter Tryz.func94, Tryz.ntmps94
    go_wp2
    go_ret
    exact ⟨rfl, rfl⟩
  ·
    by_cases s2 : s = 2
    · subst s2
      rw [show ltrNext 2 3 = 2 from by decide]
      go_enter Tryz.func94, Tryz.ntmps94
      go_wp2
      go_ret
      exact ⟨rfl, rfl⟩
    have b2 : (s == 2) = false := by simpa using s2
    rw [show ltrNext s 3 = 0 from ltrNext_other s 3 (by simp [ltrFrom]; omega)]
    go_enter Tryz.func94, Tryz.ntmps94
    go_wp2
    go_ret
    exact ⟨rfl, rfl⟩
  ·
    by_cases s2 : s = 2
    · subst s2
      rw [show ltrNext 2 4 = 3 from by decide]
      go_enter Tryz.func94, Tryz.ntmps94
      go_wp2
      go_ret
      exact ⟨rfl, rfl⟩
    have b2 : (s == 2) = false := by simpa using s2
    rw [show ltrNext s 4 = 0 from ltrNext_other s 4 (by simp [ltrFrom]; omega)]
    go_enter Tryz.func94, Tryz.ntmps94
    go_wp2
    go_ret
    exact ⟨rfl, rfl⟩
  ·
    by_cases s3 : s = 3
    · subst s3
      rw [show ltrNext 3 5 = 4 from by decide]
      go_enter Tryz.func94, Tryz.ntmps94
      go_wp2
      go_ret
      exact ⟨rfl, rfl⟩
    have b3 : (s == 3) = false := by simpa using s3
    rw [show ltrNext s 5 = 0 from ltrNext_other s 5 (by simp [ltrFrom]; omega)]
    go_enter Tryz.func94, Tryz.ntmps94
    go_wp2
    go_ret
    exact ⟨rfl, rfl⟩
  ·
    by_cases s3 : s = 3
    · subst s3
      rw [show ltrNext 3 6 = 2 from by decide]
      go_enter Tryz.func94, Tryz.ntmps94
      go_wp2
      go_ret
      exact ⟨rfl, rfl⟩
    have b3 : (s == 3) = false := by simpa using s3
    rw [show ltrNext s 6 = 0 from ltrNext_other s 6 (by simp [ltrFrom]; omega)]
    go_enter Tryz.func94, Tryz.ntmps94
    go_wp2
    go_ret
    exact ⟨rfl, rfl⟩
  ·
    by_cases s4 : s = 4
    · subst s4
      rw [show ltrNext 4 7 = 5 from by decide]
      go_enter Tryz.func94, Tryz.ntmps94
      go_wp2
      go_ret
      exact ⟨rfl, rfl⟩
    have b4 : (s == 4) = false := by simpa using s4
    rw [show ltrNext s 7 = 0 from ltrNext_other s 7 (by simp [ltrFrom]; omega)]
    go_enter Tryz.func94, Tryz.ntmps94
    go_wp2
    go_ret
    exact ⟨rfl, rfl⟩
  ·
    by_cases s1 : s = 1
    · subst s1
      rw [show ltrNext 1 8 = 6 from by decide]
      go_enter Tryz.func94, Tryz.ntmps94
      go_wp2
      go_ret
      exact ⟨rfl, rfl⟩
    by_cases s2 : s = 2
    · subst s2
      rw [show ltrNext 2 8 = 6 from by decide]
      go_enter Tryz.func94, Tryz.ntmps94
      go_wp2
      go_ret
      exact ⟨rfl, rfl⟩
    by_cases s3 : s = 3
    · subst s3
      rw [show ltrNext 3 8 = 6 from by decide]
      go_enter Tryz.func94, Tryz.ntmps94
      go_wp2
      go_ret
      exact ⟨rfl, rfl⟩
    have b1 : (s == 1) = false := by simpa using s1
    have b2 : (s == 2) = false := by simpa using s2
    have b3 : (s == 3) = false := by simpa using s3
    rw [show ltrNext s 8 = 0 from ltrNext_other s 8 (by simp [ltrFrom]; omega)]
    go_enter Tryz.func94, Tryz.ntmps94
    go_wp2
    go_ret
    exact ⟨rfl, rfl⟩
  ·
    by_cases s1 : s = 1
    · subst s1
      rw [show ltrNext 1 9 = 7 from by decide]
      go_enter Tryz.func94, Tryz.ntmps94
      go_wp2
      go_ret
      exact ⟨rfl, rfl⟩
    by_cases s2 : s = 2
    · subst s2
      rw [show ltrNext 2 9 = 7 from by decide]
      go_enter Tryz.func94, Tryz.ntmps94
      go_wp2
      go_ret
      exact ⟨rfl, rfl⟩
    have b1 : (s == 1) = false := by simpa using s1
    have b2 : (s == 2) = false := by simpa using s2
    rw [show ltrNext s 9 = 0 from ltrNext_other s 9 (by simp [ltrFrom]; omega)]
    go_enter Tryz.func94, Tryz.ntmps94
    go_wp2
    go_ret
    exact ⟨rfl, rfl⟩

end Go.Proofs.YtejcohlpjikjpaaGreatDoor
/-
  Layer 10: what a step of a letter does: the program and the document.
-/
namespace Go.Proofs.YtejcohlpjikjpaaGreatDoor
open Go.RowKit

/-! ### What a step does beside the state -/
def Ltr.apply (l : Ltr) (a b : Int) (text : ByteArray) : Ltr × Int :=
  if a < 1 then (l, 5) else if isAmt a = false then (l, 6) else if isAmt b = false then (l, 5) else (⟨l.name, 0, a, b, text, ByteArray.empty⟩, 0)
def Ltr.amend (l : Ltr) (a b : Int) : Ltr × Int :=
  if (amtChange l.amount a).2 ≠ 0 then (l, (amtChange l.amount a).2)
  else if (amtChange l.amount a).1 = 0 ∨ isAmt b = false then (l, 5)
  else ({ l with amount := (amtChange l.amount a).1, due := if b ≠ 0 then b else l.due }, 0)
def Ltr.expire (l : Ltr) (a : Int) : Int := if isAmt a = false then 5 else if a < l.due then 8 else 0
def Ltr.does (l : Ltr) (op a b : Int) (text : ByteArray) : Ltr × Int :=
  if (op = 1 ∨ op = 4) ∧ 200 < text.size then (l, 3)
  else if op = 1 then l.apply a b text
  else if op = 3 then l.amend a b
  else if op = 4 then ({ l with papers := text }, 0)
  else if op = 6 then ({ l with papers := ByteArray.empty }, 0)
  else if op = 8 then (l, l.expire a)
  else (l, 0)
def Ltr.step (l : Ltr) (op a b : Int) (text : ByteArray) : Ltr × Int :=
  if op < 1 ∨ 9 < op then (Ltr.none, 1)
  else if ltrNext l.state op = 0 then (Ltr.none, 8)
  else if (l.does op a b text).2 ≠ 0 then (Ltr.none, (l.does op a b text).2)
  else ({ (l.does op a b text).1 with state := ltrNext l.state op }, 0)
def i64ok (a : Int) : Prop := -9223372036854775808 ≤ a ∧ a ≤ 9223372036854775807
structure Ltr.Wf (l : Ltr) : Prop where
  state : i64ok l.state
  amount : i64ok l.amount
  due : i64ok l.due

theorem letter_day (a : Int) (b : Bool) (hb : isAmt a = b) (w : World) :
    Calls Tryz.prog 137 #[.int .i64 a] w fun e w' => e = .returned (.bool b) ∧ w = w' := by
  by_cases h : 0 ≤ a
  · by_cases h2 : a ≤ 1099511627776
    · obtain rfl : true = b := by rw [← hb, isAmt_mk h h2]
      go_enter Tryz.func137, Tryz.ntmps137
      go_wp2
      go_ret
      exact ⟨rfl, rfl⟩
    · obtain rfl : false = b := by rw [← hb]; simp [isAmt]; omega
      go_enter Tryz.func137, Tryz.ntmps137
      go_wp2
      go_ret
      exact ⟨rfl, rfl⟩
  · obtain rfl : false = b := by rw [← hb]; simp [isAmt]; omega
    go_enter Tryz.func137, Tryz.ntmps137
    go_wp2
    go_ret
    exact ⟨rfl, rfl⟩

theorem ref10_Day (a : Int) (b : Bool) (hb : isAmt a = b) (w : World) :
    Calls Tryz.prog 97 #[.int .i64 a] w fun e w' => e = .returned (.bool b) ∧ w = w' := by
  by_cases h : 0 ≤ a
  · by_cases h2 : a ≤ 1099511627776
    · obtain rfl : true = b := by rw [← hb, isAmt_mk h h2]
      go_enter Tryz.func97, Tryz.ntmps97
      go_wp2
      go_ret
      exact ⟨rfl, rfl⟩
    · obtain rfl : false = b := by rw [← hb]; simp [isAmt]; omega
      go_enter Tryz.func97, Tryz.ntmps97
      go_wp2
      go_ret
      exact ⟨rfl, rfl⟩
  · obtain rfl : false = b := by rw [← hb]; simp [isAmt]; omega
    go_enter Tryz.func97, Tryz.ntmps97
    go_wp2
    go_ret
    exact ⟨rfl, rfl⟩

/-- The letter in a block. -/
def LtrAt (w : World) (p : Nat) (l : Ltr) : Prop := Blk w p 74 l.cells
section
variable {w : World} {p : Nat} {l : Ltr}
theorem LtrAt.setState (h : LtrAt w p l) (s : Int) : LtrAt (w.setCell ⟨p, 1, none⟩ (.int .i64 s)) p { l with state := s } := Blk.set_ h 1 _
theorem Ltr.one (l : Ltr) : l.cells.all (·.oneCell') = true := Array.all_eq_true_iff_forall_mem.2 (fun v hv => by
  simp [Ltr.cells] at hv
  rcases hv with rfl | rfl | rfl | rfl | rfl | rfl <;> rfl)
theorem wpList_store_ltr {ops : Array Oper} {rest : List Oper} {o : Oper} {a : Act} {Q : Exit → Act → World → Prop} (h : LtrAt w p l) (l' : Ltr) (hg : o.guard = none) (x y : Operand) (ho : o.op = .store 74 x y)
    (hx : a.eval x = .pointer (some ⟨p, 0, none⟩)) (hy : a.eval y = .agg l'.cells) (k : ∀ w', LtrAt w' p l' → Ext [p] w w' → wpList Tryz.prog ops Q rest (a.put o.dst undef) w') : wpList Tryz.prog ops Q (o :: rest) a w :=
  wpList_store_row hg 74 x y ho p l'.cells hx hy 74 l.cells h (by kernel_rfl) rfl (Ltr.one l') (k _ (Blk.setRow h _) ((Ext.refl _).setRow (by simp) _))
theorem LtrAt.c0 (h : LtrAt w p l) : w.cell? ⟨p, 0, none⟩ = some (.string l.name) := by have := Blk.cell h 0; simpa [Ltr.cells] using this
theorem LtrAt.c1 (h : LtrAt w p l) : w.cell? ⟨p, 1, none⟩ = some (.int .i64 l.state) := by have := Blk.cell h 1; simpa [Ltr.cells] using this
theorem LtrAt.c2 (h : LtrAt w p l) : w.cell? ⟨p, 2, none⟩ = some (.int .i64 l.amount) := by have := Blk.cell h 2; simpa [Ltr.cells] using this
theorem LtrAt.c3 (h : LtrAt w p l) : w.cell? ⟨p, 3, none⟩ = some (.int .i64 l.due) := by have := Blk.cell h 3; simpa [Ltr.cells] using this
theorem LtrAt.c4 (h : LtrAt w p l) : w.cell? ⟨p, 4, none⟩ = some (.string l.policy) := by have := Blk.cell h 4; simpa [Ltr.cells] using this
theorem LtrAt.c5 (h : LtrAt w p l) : w.cell? ⟨p, 5, none⟩ = some (.string l.papers) := by have := Blk.cell h 5; simpa [Ltr.cells] using this
end

theorem letter_apply (w : World) (p : Nat) (l : Ltr) (a b : Int) (text : ByteArray) (h : LtrAt w p l) (ha : i64ok a) :
    Calls Tryz.prog 116 #[.pointer (some ⟨p, 0, none⟩), .int .i64 a, .int .i64 b, .string text] w fun e w' => e = .returned (.int .i64 (l.apply a b text).2) ∧ LtrAt w' p (l.apply a b text).1 ∧ Ext [p] w w' := by
  obtain ⟨a0, a1⟩ := ha
  have c0 := h.c0
  have H := Lib.hid h; clear h
  by_cases h1 : a < 1
  · rw [show l.apply a b text = (l, 5) by simp [Ltr.apply, h1]]
    go_enter Tryz.func116, Tryz.ntmps116
    go_wp2
    go_ret
    exact ⟨rfl, H.out, Ext.refl _⟩
  cases h2 : isAmt a
  · rw [show l.apply a b text = (l, 6) by simp [Ltr.apply, h1, h2]]
    have H2 := Lib.hid h2; clear h2
    go_enter Tryz.func116, Tryz.ntmps116
    go_wp2_with (go_at_call 87; with_reducible refine (money_Is a _ H2.out _ (by omega) (by omega)).mono ?_; rintro e _ ⟨rfl, rfl⟩)
    go_ret
    exact ⟨rfl, H.out, Ext.refl _⟩
  have H2 := Lib.hid h2
  cases h3 : isAmt b
  · rw [show l.apply a b text = (l, 5) by simp [Ltr.apply, h2, h3]]
    have H3 := Lib.hid h3; clear h3 h2
    go_enter Tryz.func116, Tryz.ntmps116
    go_wp2_with (first
      | (go_at_call 87; with_reducible refine (money_Is a _ H2.out _ (by omega) (by omega)).mono ?_; rintro e _ ⟨rfl, rfl⟩)
      | (go_at_call 137; with_reducible refine (letter_day b _ H3.out _).mono ?_; rintro e _ ⟨rfl, rfl⟩))
    go_ret
    exact ⟨rfl, H.out, Ext.refl _⟩
  rw [show l.apply a b text = (⟨l.name, 0, a, b, text, ByteArray.empty⟩, 0) by simp [Ltr.apply, h1, h2, h3]]
  have H3 := Lib.hid h3; clear h3 h2
  go_enter Tryz.func116, Tryz.ntmps116
  go_wp2_with (first
    | (go_at_call 87; with_reducible refine (money_Is a _ H2.out _ (by omega) (by omega)).mono ?_; rintro e _ ⟨rfl, rfl⟩)
    | (go_at_call 137; with_reducible refine (letter_day b _ H3.out _).mono ?_; rintro e _ ⟨rfl, rfl⟩)
    | ((with_reducible refine at_op ⟨none, _, _, _, _, _⟩ ?_); refine wpList_store_ltr H.out ⟨l.name, 0, a, b, text, ByteArray.empty⟩ rfl _ _ rfl rfl rfl ?_; intro w1 hw1 x1))
  go_ret
  exact ⟨rfl, hw1, x1⟩


theorem letter_amend (w : World) (p : Nat) (l : Ltr) (a b : Int) (h : LtrAt w p l) (hl : i64ok l.amount) (ha : i64ok a) :
    Calls Tryz.prog 117 #[.pointer (some ⟨p, 0, none⟩), .int .i64 a, .int .i64 b] w fun e w' => e = .returned (.int .i64 (l.amend a b).2) ∧ LtrAt w' p (l.amend a b).1 ∧ Ext [p] w w' := by
  obtain ⟨a0, a1⟩ := ha
  obtain ⟨l0, l1⟩ := hl
  have c2 := h.c2
  have c3 := h.c3
  have f2 := h.frozen 2
  have f3 := h.frozen 3
  have H := Lib.hid h; clear h
  by_cases he : (amtChange l.amount a).2 = 0
  · have hb : ((amtChange l.amount a).2 != 0) = false := by simp [he]
    by_cases hv : (amtChange l.amount a).1 = 0
    · rw [show l.amend a b = (l, 5) by simp [Ltr.amend, he, hv]]
      have hvb : ((amtChange l.amount a).1 == 0) = true := by simp [hv]
      clear he hv
      go_enter Tryz.func117, Tryz.ntmps117
      go_wp2_with (go_at_call 138; refine (money_Change _ _ _ l0 l1 a0 a1).mono ?_; rintro e _ ⟨rfl, rfl⟩)
      go_ret
      exact ⟨rfl, H.out, Ext.refl _⟩
    · have hvb : ((amtChange l.amount a).1 == 0) = false := by simpa using hv
      cases hd : isAmt b
      · rw [show l.amend a b = (l, 5) by simp [Ltr.amend, he, hd]]
        have HD := Lib.hid hd
        clear he hv hd
        go_enter Tryz.func117, Tryz.ntmps117
        go_wp2_with (first
          | (go_at_call 138; refine (money_Change _ _ _ l0 l1 a0 a1).mono ?_; rintro e _ ⟨rfl, rfl⟩)
          | (go_at_call 137; with_reducible refine (letter_day b _ HD.out _).mono ?_; rintro e _ ⟨rfl, rfl⟩))
        go_ret
        exact ⟨rfl, H.out, Ext.refl _⟩
      · by_cases h0 : b = 0
        · subst h0
          rw [show l.amend a 0 = ({ l with amount := (amtChange l.amount a).1 }, 0) by simp [Ltr.amend, he, hd, hv]]
          have HD := Lib.hid hd
          clear he hv hd
          go_enter Tryz.func117, Tryz.ntmps117
          go_wp2_with (first
            | (go_at_call 138; refine (money_Change _ _ _ l0 l1 a0 a1).mono ?_; rintro e _ ⟨rfl, rfl⟩)
            | (go_at_call 137; with_reducible refine (letter_day 0 _ HD.out _).mono ?_; rintro e _ ⟨rfl, rfl⟩))
          go_ret
          exact ⟨rfl, Blk.set_ H.out 2 _, (Ext.refl _).setCell (by simp) _⟩
        · have h0b : (b != 0) = true := by simpa using h0
          rw [show l.amend a b = ({ l with amount := (amtChange l.amount a).1, due := b }, 0) by simp [Ltr.amend, he, hd, hv, h0]]
          have HD := Lib.hid hd
          clear he hv hd h0
          go_enter Tryz.func117, Tryz.ntmps117
          go_wp2_with (first
            | (go_at_call 138; refine (money_Change _ _ _ l0 l1 a0 a1).mono ?_; rintro e _ ⟨rfl, rfl⟩)
            | (go_at_call 137; with_reducible refine (letter_day b _ HD.out _).mono ?_; rintro e _ ⟨rfl, rfl⟩))
          go_ret
          exact ⟨rfl, Blk.set_ (Blk.set_ H.out 3 (.int .i64 b)) 2 _, ((Ext.refl _).setCell (by simp) _).setCell (by simp) _⟩
  · have hb : ((amtChange l.amount a).2 != 0) = true := by simpa using he
    rw [show l.amend a b = (l, (amtChange l.amount a).2) by simp [Ltr.amend, he]]
    clear he
    go_enter Tryz.func117, Tryz.ntmps117
    go_wp2_with (go_at_call 138; refine (money_Change _ _ _ l0 l1 a0 a1).mono ?_; rintro e _ ⟨rfl, rfl⟩)
    go_ret
    exact ⟨rfl, H.out, Ext.refl _⟩


theorem letter_expire (w : World) (p : Nat) (l : Ltr) (a : Int) (h : LtrAt w p l) :
    Calls Tryz.prog 118 #[.pointer (some ⟨p, 0, none⟩), .int .i64 a] w fun e w' => e = .returned (.int .i64 (l.expire a)) ∧ w = w' := by
  have c3 := h.c3
  have H := Lib.hid h; clear h
  cases hd : isAmt a
  · rw [show l.expire a = 5 by simp [Ltr.expire, hd]]
    have HD := Lib.hid hd; clear hd
    go_enter Tryz.func118, Tryz.ntmps118
    go_wp2_with (go_at_call 137; with_reducible refine (letter_day a _ HD.out _).mono ?_; rintro e _ ⟨rfl, rfl⟩)
    go_ret
    exact ⟨rfl, rfl⟩
  · by_cases hlt : a < l.due
    · rw [show l.expire a = 8 by simp [Ltr.expire, hd, hlt]]
      have HD := Lib.hid hd; clear hd
      go_enter Tryz.func118, Tryz.ntmps118
      go_wp2_with (go_at_call 137; with_reducible refine (letter_day a _ HD.out _).mono ?_; rintro e _ ⟨rfl, rfl⟩)
      go_ret
      exact ⟨rfl, rfl⟩
    · rw [show l.expire a = 0 by simp [Ltr.expire, hd, hlt]]
      have HD := Lib.hid hd; clear hd
      go_enter Tryz.func118, Tryz.ntmps118
      go_wp2_with (go_at_call 137; with_reducible refine (letter_day a _ HD.out _).mono ?_; rintro e _ ⟨rfl, rfl⟩)
      go_ret
      exact ⟨rfl, rfl⟩


theorem letter_does (w : World) (p : Nat) (l : Ltr) (op a b : Int) (text : ByteArray) (h : LtrAt w p l) (hl : i64ok l.amount) (ha : i64ok a) (hop : 1 ≤ op) (hop9 : op ≤ 9) (ht : text.size ≤ 9223372036854775807) :
    Calls Tryz.prog 85 #[.pointer (some ⟨p, 0, none⟩), .int .i64 op, .int .i64 a, .int .i64 b, .string text] w fun e w' => e = .returned (.int .i64 (l.does op a b text).2) ∧ LtrAt w' p (l.does op a b text).1 ∧ Ext [p] w w' := by
  have c5 := h.c5
  have f5 := h.frozen 5
  have H := Lib.hid h; clear h
  have : op = 1 ∨ op = 2 ∨ op = 3 ∨ op = 4 ∨ op = 5 ∨ op = 6 ∨ op = 7 ∨ op = 8 ∨ op = 9 := by omega
  clear hop hop9
  rcases this with rfl | rfl | rfl | rfl | rfl | rfl | rfl | rfl | rfl
  · by_cases hs : 200 < text.size
    · rw [show l.does 1 a b text = (l, 3) by simp [Ltr.does, hs]]
      go_enter Tryz.func85, Tryz.ntmps85
      go_wp2
      go_ret
      exact ⟨rfl, H.out, Ext.refl _⟩
    · rw [show l.does 1 a b text = l.apply a b text by simp [Ltr.does, hs]]
      go_enter Tryz.func85, Tryz.ntmps85
      go_wp2_with (go_at_call 116; refine (letter_apply _ _ _ _ _ _ H.out ha).mono ?_; rintro e w1 ⟨rfl, h1, x1⟩)
      go_ret
      exact ⟨rfl, h1, x1⟩
  · rw [show l.does 2 a b text = (l, 0) by simp [Ltr.does]]
    go_enter Tryz.func85, Tryz.ntmps85
    go_wp2
    go_ret
    exact ⟨rfl, H.out, Ext.refl _⟩
  · rw [show l.does 3 a b text = l.amend a b by simp [Ltr.does]]
    go_enter Tryz.func85, Tryz.ntmps85
    go_wp2_with (go_at_call 117; refine (letter_amend _ _ _ _ _ H.out hl ha).mono ?_; rintro e w1 ⟨rfl, h1, x1⟩)
    go_ret
    exact ⟨rfl, h1, x1⟩
  · by_cases hs : 200 < text.size
    · rw [show l.does 4 a b text = (l, 3) by simp [Ltr.does, hs]]
      go_enter Tryz.func85, Tryz.ntmps85
      go_wp2
      go_ret
      exact ⟨rfl, H.out, Ext.refl _⟩
    · rw [show l.does 4 a b text = ({ l with papers := text }, 0) by simp [Ltr.does, hs]]
      go_enter Tryz.func85, Tryz.ntmps85
      go_wp2
      go_ret
      exact ⟨rfl, Blk.set_ H.out 5 _, (Ext.refl _).setCell (by simp) _⟩
  · rw [show l.does 5 a b text = (l, 0) by simp [Ltr.does]]
    go_enter Tryz.func85, Tryz.ntmps85
    go_wp2
    go_ret
    exact ⟨rfl, H.out, Ext.refl _⟩
  · rw [show l.does 6 a b text = ({ l with papers := ByteArray.empty }, 0) by simp [Ltr.does]]
    go_enter Tryz.func85, Tryz.ntmps85
    go_wp2
    go_ret
    exact ⟨rfl, Blk.set_ H.out 5 _, (Ext.refl _).setCell (by simp) _⟩
  · rw [show l.does 7 a b text = (l, 0) by simp [Ltr.does]]
    go_enter Tryz.func85, Tryz.ntmps85
    go_wp2
    go_ret
    exact ⟨rfl, H.out, Ext.refl _⟩
  · rw [show l.does 8 a b text = (l, l.expire a) by simp [Ltr.does]]
    go_enter Tryz.func85, Tryz.ntmps85
    go_wp2_with (go_at_call 118; refine (letter_expire _ _ _ _ H.out).mono ?_; rintro e _ ⟨rfl, rfl⟩)
    go_ret
    exact ⟨rfl, H.out, Ext.refl _⟩
  · rw [show l.does 9 a b text = (l, 0) by simp [Ltr.does]]
    go_enter Tryz.func85, Tryz.ntmps85
    go_wp2
    go_ret
    exact ⟨rfl, H.out, Ext.refl _⟩
end Go.Proofs.YtejcohlpjikjpaaGreatDoor
/-
  Layer 10: a step of a letter: the program.
-/
namespace Go.Proofs.YtejcohlpjikjpaaGreatDoor
open Go.RowKit

theorem letter_Step (w : World) (l : Ltr) (op a b : Int) (text : ByteArray) (hl : l.Wf) (ha : i64ok a) (ht : text.size ≤ 9223372036854775807) :
    Calls Tryz.prog 61 #[.agg l.cells, .int .i64 op, .int .i64 a, .int .i64 b, .string text] w fun e w' => e = .returned (.tuple #[.agg (l.step op a b text).1.cells, .int .i64 (l.step op a b text).2]) ∧ Ext [] w w' := by
  have hbox : LtrAt ((w.alloc (.cells l.cells 74)).alloc (.cells Ltr.none.cells 74)) w.heap.size l := Blk.alloc (Blk.new _ _ _) _
  have hres : LtrAt ((w.alloc (.cells l.cells 74)).alloc (.cells Ltr.none.cells 74)) (w.heap.size + 1) Ltr.none := by
    have := Blk.new (w.alloc (.cells l.cells 74)) 74 Ltr.none.cells
    rw [World.size_alloc] at this
    exact this
  have hx : Ext [] w ((w.alloc (.cells l.cells 74)).alloc (.cells Ltr.none.cells 74)) := ((Ext.refl _).alloc _).alloc _
  have k1 : l.cells[1]? = some (.int .i64 l.state) := rfl
  have HB := Lib.hid hbox
  have HR := Lib.hid hres
  clear hbox hres
  by_cases h1 : op < 1
  · rw [show l.step op a b text = (Ltr.none, 1) by simp [Ltr.step, h1]]
    go_enter Tryz.func61, Tryz.ntmps61
    go_wp2
    exact bodyPost_ret (results_row_tmp rfl _ _ (w.heap.size + 1) _ _ _ _ rfl HR.out Tryz.underlying74 rfl (by kernel_rfl)) rfl ⟨rfl, hx⟩
  by_cases h2 : 9 < op
  · rw [show l.step op a b text = (Ltr.none, 1) by simp [Ltr.step, h2]]
    go_enter Tryz.func61, Tryz.ntmps61
    go_wp2
    exact bodyPost_ret (results_row_tmp rfl _ _ (w.heap.size + 1) _ _ _ _ rfl HR.out Tryz.underlying74 rfl (by kernel_rfl)) rfl ⟨rfl, hx⟩
  have h3 : ¬ (op < 1 ∨ 9 < op) := by omega
  by_cases hn : ltrNext l.state op = 0
  · rw [show l.step op a b text = (Ltr.none, 8) by simp only [Ltr.step, if_neg h3, if_pos hn]]
    have hnb : (ltrNext l.state op == 0) = true := by simp [hn]
    clear hn h3
    go_enter Tryz.func61, Tryz.ntmps61
    go_wp2_with (first
      | (go_at_call 84; refine (letter_Next _ _ _).mono ?_; rintro e w2 ⟨rfl, x2⟩)
      | ((with_reducible refine at_op ⟨none, .store _ (.tmp 10) _, _, _, _, _⟩ ?_); refine wpList_store_ltr (Blk.ext HR.out x2 (by simp)) Ltr.none rfl _ _ rfl rfl rfl ?_; intro w3 hw3 x3))
    exact bodyPost_ret (results_row_tmp rfl _ _ (w.heap.size + 1) _ _ _ _ rfl hw3 Tryz.underlying74 rfl (by kernel_rfl)) rfl ⟨rfl, hx.trans (x2.app x3) (by simp)⟩
  have hnb : (ltrNext l.state op == 0) = false := by simpa using hn
  have hd := fun w2 (hb : LtrAt w2 w.heap.size l) => letter_does w2 w.heap.size l op a b text hb hl.amount ha (by omega) (by omega) ht
  by_cases he : (l.does op a b text).2 = 0
  · rw [show l.step op a b text = ({ (l.does op a b text).1 with state := ltrNext l.state op }, 0) by simp only [Ltr.step, if_neg h3, if_neg hn, he, ne_eq, not_true_eq_false, if_false]]
    have heb : ((l.does op a b text).2 != 0) = false := by simp [he]
    clear hn h3 he
    generalize l.does op a b text = r at *
    obtain ⟨l2, e2⟩ := r
    dsimp only at *
    have HD := Lib.hid hd
    clear hd
    go_enter Tryz.func61, Tryz.ntmps61
    go_wp2_with (first
      | (go_at_call 84; refine (letter_Next _ _ _).mono ?_; rintro e w2 ⟨rfl, x2⟩)
      | (go_at_call 85; refine (HD.out _ (Blk.ext HB.out x2 (by simp))).mono ?_; rintro e w3 ⟨rfl, h3, x3⟩; have g1 := h3.c1; have f1 := h3.frozen 1; have h4 := Lib.hid (h3.setState (ltrNext l.state op)); have h5 := Lib.hid (Blk.far (Blk.ext (Blk.ext HR.out x2 (by simp)) x3 (by simp)) (p := ⟨w.heap.size, 1, none⟩) (by simp) (.int .i64 (ltrNext l.state op))))
      | ((with_reducible refine at_op ⟨some 39, _, _, _, _, _⟩ ?_); refine wpList_load_row rfl _ _ rfl w.heap.size rfl _ _ _ _ h4.out Tryz.underlying74 rfl (by kernel_rfl) ?_)
      | ((with_reducible refine at_op ⟨none, .store _ (.tmp 10) (.tmp 39), _, _, _, _⟩ ?_); refine wpList_store_ltr (p := w.heap.size + 1) (l := Ltr.none) h5.out { l2 with state := ltrNext l.state op } rfl _ _ rfl rfl rfl ?_; intro w5 hw5 x5))
    exact bodyPost_ret (results_row_tmp rfl _ _ (w.heap.size + 1) _ _ _ _ rfl hw5 Tryz.underlying74 rfl (by kernel_rfl)) rfl ⟨rfl, hx.trans (((x2.app x3).setCell (by simp) _).app x5) (by simp <;> omega)⟩
  · rw [show l.step op a b text = (Ltr.none, (l.does op a b text).2) by simp only [Ltr.step, if_neg h3, if_neg hn, he, ne_eq, not_false_eq_true, if_true]]
    have heb : ((l.does op a b text).2 != 0) = true := by simpa using he
    clear hn h3 he
    generalize l.does op a b text = r at *
    obtain ⟨l2, e2⟩ := r
    dsimp only at *
    have HD := Lib.hid hd
    clear hd
    go_enter Tryz.func61, Tryz.ntmps61
    go_wp2_with (first
      | (go_at_call 84; refine (letter_Next _ _ _).mono ?_; rintro e w2 ⟨rfl, x2⟩)
      | (go_at_call 85; refine (HD.out _ (Blk.ext HB.out x2 (by simp))).mono ?_; rintro e w3 ⟨rfl, h3, x3⟩)
      | ((with_reducible refine at_op ⟨none, .store _ (.tmp 10) _, _, _, _, _⟩ ?_); refine wpList_store_ltr (Blk.ext (Blk.ext HR.out x2 (by simp)) x3 (by simp)) Ltr.none rfl _ _ rfl rfl rfl ?_; intro w4 hw4 x4))
    exact bodyPost_ret (results_row_tmp rfl _ _ (w.heap.size + 1) _ _ _ _ rfl hw4 Tryz.underlying74 rfl (by kernel_rfl)) rfl ⟨rfl, hx.trans ((x2.app x3).app x4) (by simp <;> omega)⟩
end Go.Proofs.YtejcohlpjikjpaaGreatDoor
/-
  Outcomes, plain.
-/
namespace Go.Proofs.YtejcohlpjikjpaaGreatDoor.A
open Go.RowKit

/-- An outcome. -/
structure Oc where
  client : Int
  stamp : Int
  result : Int
def Oc.abs (o : Oc) : List Abs := [int o.client, int o.stamp, int o.result]
def outA (l : List Oc) : Abs := .sl 3 (l.map Oc.abs)
theorem ocs_ones (l : List Oc) : ∀ c ∈ l.map Oc.abs, ones c = true := by
  intro c hc
  obtain ⟨o, _, rfl⟩ := List.mem_map.1 hc
  rfl
end Go.Proofs.YtejcohlpjikjpaaGreatDoor.A
/-
  Places in rows, plain.
-/
namespace Go.Proofs.YtejcohlpjikjpaaGreatDoor.A
open Go.RowKit

/-- The place of the first one, or -1. -/
def IdxOf {α : Type} (p : α → Bool) (xs : List α) (r : Int) : Prop := (r = -1 ∧ ∀ x ∈ xs, p x = false) ∨ ∃ i, ∃ h : i < xs.length, r = (i : Nat) ∧ p xs[i] = true ∧ ∀ j (hj : j < i), p (xs[j]'(by omega)) = false
/-- The same, as a number. -/
theorem IdxOf.eq {α : Type} {p : α → Bool} : ∀ {xs : List α} {r : Int}, IdxOf p xs r → r = if xs.any p then ((xs.findIdx p : Nat) : Int) else -1 := fun {xs r} h => by
  rcases h with ⟨rfl, h⟩ | ⟨i, hi, rfl, h1, h2⟩
  · rw [if_neg]
    rw [Bool.not_eq_true, List.any_eq_false]
    intro x hx
    rw [h x hx]; decide
  · rw [if_pos (List.any_eq_true.2 ⟨_, List.getElem_mem hi, h1⟩)]
    refine congrArg Int.ofNat (Eq.symm ?_)
    rw [List.findIdx_eq hi]
    exact ⟨h1, fun j hj => h2 j hj⟩
end Go.Proofs.YtejcohlpjikjpaaGreatDoor.A
/-
  Names of letters, and cores that may be: the program's and the document's, over the engine.
-/
namespace Go.Proofs.YtejcohlpjikjpaaGreatDoor
open Go.RowKit

/-- A letter of a name. -/
def nameC (c : Nat) : Bool := (decide (97 ≤ c) && decide (c ≤ 122)) || (decide (48 ≤ c) && decide (c ≤ 57)) || decide (c = 45)
def nameB (s : ByteArray) : Bool := s.data.toList.all (fun c => nameC c.toNat) && decide (1 ≤ s.size) && decide (s.size ≤ 16)
section
variable {S : List (World × List Nat)} {σ τ : Blks} {ρ : List Dt} {w : World}
theorem all_at {s : ByteArray} {k : Nat} (h : k < s.size) (hb : nameC (s[k]'h).toNat = false) : s.data.toList.all (fun c => nameC c.toNat) = false := by
  rw [List.all_eq_false]
  refine ⟨s[k]'h, ?_, by rw [hb]; decide⟩
  have : s[k]'h = s.data.toList[k]'(by simpa using h) := rfl
  rw [this]
  exact List.getElem_mem _
theorem all_all {s : ByteArray} (hp : ∀ j (hj : j < s.size), nameC (s[j]'hj).toNat = true) : s.data.toList.all (fun c => nameC c.toNat) = true := by
  rw [List.all_eq_true]
  intro c hc
  obtain ⟨j, hj, rfl⟩ := List.getElem_of_mem hc
  exact hp j (by simpa using hj)

theorem odd_c {r : Nat} (hw : Mem S σ ρ w) : Calls Tryz.prog 76 #[.int .i32 r] w fun e w' => e = .returned (.bool (!nameC r)) ∧ Mem S σ ρ w' := by
  refine calls_of [.int .i32 r] Tryz.func76 rfl Tryz.ntmps76 rfl (Mem S σ ρ) hw ?_
  refine SC.seq (SC.region ?_)
  refine SL.val (Val.assign rfl) rfl rfl ?_
  refine SL.nil (SE.seq ?_)
  refine SC.seq (SC.region ?_)
  refine SL.val (Val.move rfl) rfl rfl ?_
  refine SL.val (Val.ltI rfl rfl) rfl rfl ?_
  refine SL.val (Val.move rfl) rfl rfl ?_
  refine SL.bothP (t := 5) rfl ?_ ?_
  · intro hc5
    iterate 2 refine SL.skip rfl rfl ?_
    refine SL.val (Val.pickT rfl rfl) rfl rfl ?_
    iterate 2 refine SL.val (Val.move rfl) rfl rfl ?_
    refine SL.val (Val.ltI rfl rfl) rfl rfl ?_
    refine SL.val (Val.move rfl) rfl rfl ?_
    refine SL.bothP (t := 12) rfl ?_ ?_
    · intro hc12
      iterate 2 refine SL.skip rfl rfl ?_
      refine SL.val (Val.pickT rfl rfl) rfl rfl ?_
      refine SL.val (Val.pickT rfl rfl) rfl rfl ?_
      iterate 2 refine SL.val (Val.move rfl) rfl rfl ?_
      refine SL.val (Val.neI rfl rfl) rfl rfl ?_
      refine SL.val (Val.pickT rfl rfl) rfl rfl ?_
      refine SL.val (Val.assign rfl) rfl rfl ?_
      refine SL.nil (SE.seq ?_)
      refine SC.ret ?_
      refine SE.ret1 rfl rfl ?_
      intro w' hw'
      refine ⟨?_, hw'⟩
      congr 2
      rw [Bool.eq_iff_iff]
      simp [nameC]
      omega
    intro hc12
    refine SL.val (Val.move rfl) rfl rfl ?_
    refine SL.val (Val.gtI rfl rfl) rfl rfl ?_
    refine SL.val (Val.pickF rfl rfl) rfl rfl ?_
    refine SL.val (Val.pickT rfl rfl) rfl rfl ?_
    refine SL.val (Val.move rfl) rfl rfl ?_
    refine SL.bothP (t := 17) rfl ?_ ?_
    · intro hc17
      refine SL.val (Val.move rfl) rfl rfl ?_
      refine SL.val (Val.neI rfl rfl) rfl rfl ?_
      refine SL.val (Val.pickT rfl rfl) rfl rfl ?_
      refine SL.val (Val.assign rfl) rfl rfl ?_
      refine SL.nil (SE.seq ?_)
      refine SC.ret ?_
      refine SE.ret1 rfl rfl ?_
      intro w' hw'
      refine ⟨?_, hw'⟩
      congr 2
      rw [Bool.eq_iff_iff]
      simp [nameC]
      omega
    intro hc17
    iterate 2 refine SL.skip rfl rfl ?_
    refine SL.val (Val.pickF rfl rfl) rfl rfl ?_
    refine SL.val (Val.assign rfl) rfl rfl ?_
    refine SL.nil (SE.seq ?_)
    refine SC.ret ?_
    refine SE.ret1 rfl rfl ?_
    intro w' hw'
    refine ⟨?_, hw'⟩
    congr 2
    rw [Bool.eq_iff_iff]
    simp [nameC]
    omega
  intro hc5
  refine SL.val (Val.move rfl) rfl rfl ?_
  refine SL.val (Val.gtI rfl rfl) rfl rfl ?_
  refine SL.val (Val.pickF rfl rfl) rfl rfl ?_
  refine SL.val (Val.move rfl) rfl rfl ?_
  refine SL.bothP (t := 9) rfl ?_ ?_
  rotate_left
  · intro hc9
    iterate 6 refine SL.skip rfl rfl ?_
    refine SL.val (Val.pickF rfl rfl) rfl rfl ?_
    refine SL.val (Val.move rfl) rfl rfl ?_
    iterate 2 refine SL.skip rfl rfl ?_
    refine SL.val (Val.pickF rfl rfl) rfl rfl ?_
    refine SL.val (Val.assign rfl) rfl rfl ?_
    refine SL.nil (SE.seq ?_)
    refine SC.ret ?_
    refine SE.ret1 rfl rfl ?_
    intro w' hw'
    refine ⟨?_, hw'⟩
    congr 2
    rw [Bool.eq_iff_iff]
    simp [nameC]
    omega
  intro hc9
  refine SL.val (Val.move rfl) rfl rfl ?_
  refine SL.val (Val.ltI rfl rfl) rfl rfl ?_
  refine SL.val (Val.move rfl) rfl rfl ?_
  refine SL.bothP (t := 12) rfl ?_ ?_
  · intro hc12
    iterate 2 refine SL.skip rfl rfl ?_
    refine SL.val (Val.pickT rfl rfl) rfl rfl ?_
    refine SL.val (Val.pickT rfl rfl) rfl rfl ?_
    iterate 2 refine SL.val (Val.move rfl) rfl rfl ?_
    refine SL.val (Val.neI rfl rfl) rfl rfl ?_
    refine SL.val (Val.pickT rfl rfl) rfl rfl ?_
    refine SL.val (Val.assign rfl) rfl rfl ?_
    refine SL.nil (SE.seq ?_)
    refine SC.ret ?_
    refine SE.ret1 rfl rfl ?_
    intro w' hw'
    refine ⟨?_, hw'⟩
    congr 2
    rw [Bool.eq_iff_iff]
    simp [nameC]
    omega
  intro hc12
  refine SL.val (Val.move rfl) rfl rfl ?_
  refine SL.val (Val.gtI rfl rfl) rfl rfl ?_
  refine SL.val (Val.pickF rfl rfl) rfl rfl ?_
  refine SL.val (Val.pickT rfl rfl) rfl rfl ?_
  refine SL.val (Val.move rfl) rfl rfl ?_
  refine SL.bothP (t := 17) rfl ?_ ?_
  · intro hc17
    refine SL.val (Val.move rfl) rfl rfl ?_
    refine SL.val (Val.neI rfl rfl) rfl rfl ?_
    refine SL.val (Val.pickT rfl rfl) rfl rfl ?_
    refine SL.val (Val.assign rfl) rfl rfl ?_
    refine SL.nil (SE.seq ?_)
    refine SC.ret ?_
    refine SE.ret1 rfl rfl ?_
    intro w' hw'
    refine ⟨?_, hw'⟩
    congr 2
    rw [Bool.eq_iff_iff]
    simp [nameC]
    omega
  intro hc17
  iterate 2 refine SL.skip rfl rfl ?_
  refine SL.val (Val.pickF rfl rfl) rfl rfl ?_
  refine SL.val (Val.assign rfl) rfl rfl ?_
  refine SL.nil (SE.seq ?_)
  refine SC.ret ?_
  refine SE.ret1 rfl rfl ?_
  intro w' hw'
  refine ⟨?_, hw'⟩
  congr 2
  rw [Bool.eq_iff_iff]
  simp [nameC]
  omega

set_option maxHeartbeats 400000 in
theorem indexOdd_c {s : ByteArray} (hw : Mem S σ ρ w) (_hs : s.size ≤ 16) : Calls Tryz.prog 127 #[.string s, .func (.func 76) #[] #[], .bool true] w fun e w' => ∃ r : Int, e = .returned (.int .i64 r) ∧ (0 ≤ r ↔ s.data.toList.all (fun c => nameC c.toNat) = false) ∧ Mem S σ ρ w' := by
  refine calls_of [.string s, .func (.func 76) #[] #[], .bool true] Tryz.func127 rfl Tryz.ntmps127 rfl (Mem S σ ρ) hw ?_
  refine SC.seq (SC.region ?_)
  refine SL.val (Val.assign rfl) rfl rfl ?_
  refine SL.nil (SE.seq ?_)
  refine SC.seq ?_
  refine SC.seq (SC.region ?_)
  refine SL.val (Val.move rfl) rfl rfl ?_
  refine SL.eff (Eff.rangeSt rfl Tryz.underlying9) rfl rfl ?_
  rintro _ _ ⟨b10, rfl, rfl⟩
  refine SL.nil (SE.seq ?_)
  refine SC.block ?_
  refine SC.loop (ι := Nat) (fun k => [(1, .func (.func 76) #[] #[]), (2, .bool true), (10, .pointer (some ⟨b10, 0, none⟩))]) (fun k w' => (k ≤ s.size ∧ ∀ j (hj : j < s.size), j < k → nameC (s[j]'hj).toNat = true) ∧ Mem S (.blk b10 (.stringIter s k) :: σ) ρ w') (fun k => s.size - k) 0 (by exact ⟨rfl, rfl, rfl, trivial⟩) (fun w' hw' => ⟨⟨Nat.zero_le _, fun j hj h => by omega⟩, hw'⟩) ?_
  intro k
  refine SC.facts ?_
  rintro ⟨hk, hp⟩
  by_cases hlt : k < s.size
  · have hd := decode_high s k hlt
    have hc := (s[k]'hlt).toNat_lt
    skip
    refine SC.seq (SC.region ?_)
    refine SL.eff (Eff.nextSt rfl .here hlt) rfl rfl ?_
    rintro _ _ ⟨rfl, rfl⟩
    refine SL.val (Val.extract rfl rfl) rfl rfl ?_
    refine SL.nil (SE.seq ?_)
    refine SC.seq ?_
    refine SC.condT rfl ?_
    refine SC.skip ?_
    refine SE.seq ?_
    refine SC.block ?_
    refine SC.seq (SC.region ?_)
    refine SL.val (Val.extract rfl rfl) rfl rfl ?_
    refine SL.val (Val.extract rfl rfl) rfl rfl ?_
    iterate 2 refine SL.val (Val.assign rfl) rfl rfl ?_
    refine SL.nil (SE.seq ?_)
    refine SC.seq (SC.region ?_)
    iterate 2 refine SL.val (Val.move rfl) rfl rfl ?_
    refine SL.callv rfl (by kernel_rfl) rfl rfl rfl ?_
    intro w hw
    refine (odd_c hw).mono ?_
    rintro _ _ ⟨rfl, hm⟩
    refine ⟨_, _, rfl, hm, ?_⟩
    clear hm hw w
    refine SL.val (Val.move rfl) rfl rfl ?_
    refine SL.val (Val.eqB rfl rfl (by kernel_rfl)) rfl rfl ?_
    refine SL.nil (SE.seq ?_)
    refine SC.cond rfl ?_ ?_
    rotate_left
    · intro hodd
      refine SC.skip ?_
      refine SE.inBlock ?_
      simp only [beq_true, Bool.not_eq_false'] at hodd
      have h128 : (s[k]'hlt).toNat < 128 := by
        rcases Nat.lt_or_ge (s[k]'hlt).toNat 128 with h | h
        · exact h
        · have h2 := hd (by omega)
          simp only [nameC, Bool.or_eq_true, Bool.and_eq_true, decide_eq_true_eq] at hodd
          omega
      have e1 := decode_ascii s k hlt h128
      exact SE.round (k + 1) (by omega) (by exact ⟨rfl, rfl, rfl, trivial⟩) (fun w' hw' => ⟨⟨hlt, fun j hj h => by
        rcases Nat.lt_or_ge j k with h2 | h2
        · exact hp j hj h2
        · obtain rfl : j = k := by omega
          rw [e1] at hodd; exact hodd⟩, by rw [e1] at hw'; exact hw'⟩)
    intro hodd
    refine SC.seq (SC.region ?_)
    refine SL.val (Val.move rfl) rfl rfl ?_
    refine SL.val (Val.assign rfl) rfl rfl ?_
    refine SL.nil (SE.seq ?_)
    refine SC.ret ?_
    refine SE.ret ?_
    refine SE.then_ (by intro h; cases h) ?_
    refine SE.ret ?_
    refine SE.then_ (by intro h; cases h) ?_
    refine SE.ret1 rfl rfl ?_
    intro w' hw'
    refine ⟨_, rfl, ?_, hw'.sub (fun _ h => h) (List.sublist_cons_self _ _)⟩
    rw [all_at hlt (by
  simp only [beq_true, Bool.not_eq_true'] at hodd
  rcases Nat.lt_or_ge (s[k]'hlt).toNat 128 with h | h
  · rw [decode_ascii s k hlt h] at hodd; exact hodd
  · simp only [nameC, Bool.or_eq_false_iff, Bool.and_eq_false_iff, decide_eq_false_iff_not]; omega)]
    simp
  · skip
    refine SC.seq (SC.region ?_)
    refine SL.val (Val.nextEnd rfl List.mem_cons_self hlt) rfl rfl ?_
    refine SL.val (Val.extract rfl rfl) rfl rfl ?_
    refine SL.nil (SE.seq ?_)
    refine SC.seq ?_
    refine SC.condF rfl ?_
    refine SC.exit ?_
    refine SE.then_ (by intro h; cases h) ?_
    refine SE.then_ (by intro h; cases h) ?_
    refine SE.exit ?_
    refine SE.seq ?_
    refine SC.seq (SC.region ?_)
    refine SL.val (Val.assign rfl) rfl rfl ?_
    refine SL.nil (SE.seq ?_)
    refine SC.ret ?_
    refine SE.ret1 rfl rfl ?_
    intro w' hw'
    refine ⟨_, rfl, ?_, hw'.sub (fun _ h => h) (List.sublist_cons_self _ _)⟩
    rw [all_all fun j hj => hp j hj (by omega)]
    simp

theorem index_c {s : ByteArray} (hw : Mem S σ ρ w) (hs : s.size ≤ 16) : Calls Tryz.prog 103 #[.string s, .func (.func 76) #[] #[]] w fun e w' => ∃ r : Int, e = .returned (.int .i64 r) ∧ (0 ≤ r ↔ s.data.toList.all (fun c => nameC c.toNat) = false) ∧ Mem S σ ρ w' := by
  refine calls_of [.string s, .func (.func 76) #[] #[]] Tryz.func103 rfl Tryz.ntmps103 rfl (Mem S σ ρ) hw ?_
  refine SC.seq (SC.region ?_)
  refine SL.val (Val.assign rfl) rfl rfl ?_
  refine SL.nil (SE.seq ?_)
  refine SC.seq (SC.region ?_)
  iterate 2 refine SL.val (Val.move rfl) rfl rfl ?_
  refine SL.call (by kernel_rfl) rfl rfl rfl ?_
  intro w hw
  refine (indexOdd_c hw hs).mono ?_; rintro _ _ ⟨r, rfl, hr, hm⟩; refine ⟨_, _, rfl, hm, ?_⟩; clear hm hw w
  refine SL.val (Val.assign rfl) rfl rfl ?_
  refine SL.nil (SE.seq ?_)
  refine SC.ret ?_
  refine SE.ret1 rfl rfl ?_
  intro w' hw'
  exact ⟨_, rfl, hr, hw'⟩
theorem contains_c {s : ByteArray} (hw : Mem S σ ρ w) (hs : s.size ≤ 16) : Calls Tryz.prog 77 #[.string s, .func (.func 76) #[] #[]] w fun e w' => e = .returned (.bool (!s.data.toList.all (fun c => nameC c.toNat))) ∧ Mem S σ ρ w' := by
  refine calls_of [.string s, .func (.func 76) #[] #[]] Tryz.func77 rfl Tryz.ntmps77 rfl (Mem S σ ρ) hw ?_
  refine SC.seq (SC.region ?_)
  refine SL.val (Val.assign rfl) rfl rfl ?_
  refine SL.nil (SE.seq ?_)
  refine SC.seq (SC.region ?_)
  iterate 2 refine SL.val (Val.move rfl) rfl rfl ?_
  refine SL.call (by kernel_rfl) rfl rfl rfl ?_
  intro w hw
  refine (index_c hw hs).mono ?_; rintro _ _ ⟨r, rfl, hr, hm⟩; refine ⟨_, _, rfl, hm, ?_⟩; clear hm hw w
  refine SL.val (Val.geI rfl rfl) rfl rfl ?_
  refine SL.val (Val.assign rfl) rfl rfl ?_
  refine SL.nil (SE.seq ?_)
  refine SC.ret ?_
  refine SE.ret1 rfl rfl ?_
  intro w' hw'
  refine ⟨?_, hw'⟩
  congr 2
  rw [Bool.eq_iff_iff, decide_eq_true_eq, hr]
  simp

theorem isName_c {s : ByteArray} (hw : Mem S σ ρ w) : Calls Tryz.prog 57 #[.string s] w fun e w' => e = .returned (.bool (nameB s)) ∧ Mem S σ ρ w' := by
  have h0 : (s = ⟨#[]⟩) ↔ s.size = 0 := by
    constructor
    · rintro rfl; rfl
    · intro h
      obtain ⟨a⟩ := s
      congr 1
      exact Array.eq_empty_of_size_eq_zero h
  refine calls_of [.string s] Tryz.func57 rfl Tryz.ntmps57 rfl (Mem S σ ρ) hw ?_
  refine SC.seq (SC.region ?_)
  refine SL.val (Val.assign rfl) rfl rfl ?_
  refine SL.nil (SE.seq ?_)
  refine SC.seq (SC.region ?_)
  refine SL.val (Val.assign rfl) rfl rfl ?_
  refine SL.nil (SE.seq ?_)
  refine SC.seq (SC.region ?_)
  refine SL.val (Val.move rfl) rfl rfl ?_
  refine SL.val (Val.neS rfl rfl) rfl rfl ?_
  refine SL.val (Val.move rfl) rfl rfl ?_
  refine SL.bothP (t := 6) rfl ?_ ?_
  rotate_left
  · intro hc6
    iterate 3 refine SL.skip rfl rfl ?_
    refine SL.val (Val.pickF rfl rfl) rfl rfl ?_
    refine SL.val (Val.move rfl) rfl rfl ?_
    iterate 4 refine SL.skip rfl rfl ?_
    refine SL.val (Val.pickF rfl rfl) rfl rfl ?_
    refine SL.val (Val.assign rfl) rfl rfl ?_
    refine SL.nil (SE.seq ?_)
    refine SC.ret ?_
    refine SE.ret1 rfl rfl ?_
    intro w' hw'
    refine ⟨?_, hw'⟩
    congr 2
    unfold nameB
    rw [Ne, h0] at hc6
    rw [Bool.eq_iff_iff]
    first
      | (simp; omega)
      | (have h1 : 1 ≤ s.size := by omega
         have h2 : s.size ≤ 16 := by omega
         simp [h1, h2])
  intro hc6
  refine SL.val (Val.move rfl) rfl rfl ?_
  refine SL.val (Val.lenSt rfl Tryz.underlying9) rfl rfl ?_
  refine SL.val (Val.leI rfl rfl) rfl rfl ?_
  refine SL.val (Val.pickT rfl rfl) rfl rfl ?_
  refine SL.val (Val.move rfl) rfl rfl ?_
  refine SL.bothP (t := 11) rfl ?_ ?_
  rotate_left
  · intro hc11
    iterate 4 refine SL.skip rfl rfl ?_
    refine SL.val (Val.pickF rfl rfl) rfl rfl ?_
    refine SL.val (Val.assign rfl) rfl rfl ?_
    refine SL.nil (SE.seq ?_)
    refine SC.ret ?_
    refine SE.ret1 rfl rfl ?_
    intro w' hw'
    refine ⟨?_, hw'⟩
    congr 2
    unfold nameB
    rw [Ne, h0] at hc6
    rw [Bool.eq_iff_iff]
    first
      | (simp; omega)
      | (have h1 : 1 ≤ s.size := by omega
         have h2 : s.size ≤ 16 := by omega
         simp [h1, h2])
  intro hc11
  iterate 2 refine SL.val (Val.move rfl) rfl rfl ?_
  refine SL.call (by kernel_rfl) rfl rfl rfl ?_
  intro w hw
  refine (contains_c hw (by omega)).mono ?_; rintro _ _ ⟨rfl, hm⟩; refine ⟨_, _, rfl, hm, ?_⟩; clear hm hw w
  refine SL.val (Val.notB rfl) rfl rfl ?_
  refine SL.val (Val.pickT rfl rfl) rfl rfl ?_
  refine SL.val (Val.assign rfl) rfl rfl ?_
  refine SL.nil (SE.seq ?_)
  refine SC.ret ?_
  refine SE.ret1 rfl rfl ?_
  intro w' hw'
  refine ⟨?_, hw'⟩
  congr 2
  unfold nameB
  rw [Ne, h0] at hc6
  rw [Bool.eq_iff_iff]
  first
    | (simp; omega)
    | (have h1 : 1 ≤ s.size := by omega
       have h2 : s.size ≤ 16 := by omega
       simp [h1, h2])

set_option maxHeartbeats 400000 in
theorem risName_c {s : ByteArray} (hw : Mem S σ ρ w) (hs : s.size ≤ lots) : Calls Tryz.prog 68 #[.string s] w fun e w' => e = .returned (.bool (nameB s)) ∧ Mem S σ ρ w' := by
  unfold lots at hs
  refine calls_of [.string s] Tryz.func68 rfl Tryz.ntmps68 rfl (Mem S σ ρ) hw ?_
  refine SC.seq (SC.region ?_)
  refine SL.val (Val.assign rfl) rfl rfl ?_
  refine SL.nil (SE.seq ?_)
  refine SC.seq ?_
  refine SC.seq (SC.region ?_)
  refine SL.val (Val.assign rfl) rfl rfl ?_
  refine SL.nil (SE.seq ?_)
  refine SC.block ?_
  refine SC.loop (ι := Nat) (fun k => [(0, .string s), (3, .int .i64 (k : Nat))]) (fun k w' => (k ≤ s.size ∧ ∀ j (hj : j < s.size), j < k → nameC (s[j]'hj).toNat = true) ∧ Mem S σ ρ w') (fun k => s.size - k) 0 (by exact ⟨rfl, rfl, trivial⟩) (fun w' hw' => ⟨⟨Nat.zero_le _, fun j hj h => by omega⟩, hw'⟩) ?_
  intro k
  refine SC.facts ?_
  rintro ⟨hk, hp⟩
  refine SC.seq ?_
  refine SC.seq (SC.region ?_)
  iterate 2 refine SL.val (Val.move rfl) rfl rfl ?_
  refine SL.val (Val.lenSt rfl Tryz.underlying9) rfl rfl ?_
  refine SL.val (Val.ltI rfl rfl) rfl rfl ?_
  refine SL.nil (SE.seq ?_)
  refine SC.condP rfl ?_ ?_
  rotate_left
  · intro hc7
    refine SC.exit ?_
    refine SE.then_ (by intro h; cases h) ?_
    refine SE.then_ (by intro h; cases h) ?_
    refine SE.exit ?_
    refine SE.seq ?_
    refine SC.seq (SC.region ?_)
    refine SL.val (Val.move rfl) rfl rfl ?_
    refine SL.val (Val.lenSt rfl Tryz.underlying9) rfl rfl ?_
    refine SL.val (Val.geI rfl rfl) rfl rfl ?_
    refine SL.val (Val.move rfl) rfl rfl ?_
    refine SL.bothP (t := 42) rfl ?_ ?_
    · intro hc42
      refine SL.val (Val.move rfl) rfl rfl ?_
      refine SL.val (Val.lenSt rfl Tryz.underlying9) rfl rfl ?_
      refine SL.val (Val.leI rfl rfl) rfl rfl ?_
      refine SL.val (Val.pickT rfl rfl) rfl rfl ?_
      refine SL.val (Val.assign rfl) rfl rfl ?_
      refine SL.nil (SE.seq ?_)
      refine SC.ret ?_
      refine SE.ret1 rfl rfl ?_
      intro w' hw'
      refine ⟨?_, hw'⟩
      congr 2
      unfold nameB
      first
        | (rw [all_at hlt (by simp [nameC]; omega)]; rfl)
        | (rw [all_all fun j hj => hp j hj (by omega)]; rw [Bool.eq_iff_iff]; simp; omega)
        | (exfalso; omega)
    intro hc42
    iterate 3 refine SL.skip rfl rfl ?_
    refine SL.val (Val.pickF rfl rfl) rfl rfl ?_
    refine SL.val (Val.assign rfl) rfl rfl ?_
    refine SL.nil (SE.seq ?_)
    refine SC.ret ?_
    refine SE.ret1 rfl rfl ?_
    intro w' hw'
    refine ⟨?_, hw'⟩
    congr 2
    unfold nameB
    first
      | (rw [all_at hlt (by simp [nameC]; omega)]; rfl)
      | (rw [all_all fun j hj => hp j hj (by omega)]; rw [Bool.eq_iff_iff]; simp; omega)
      | (exfalso; omega)
  intro hc7
  have hlt : k < s.size := by omega
  refine SC.skip ?_
  refine SE.seq ?_
  refine SC.seq ?_
  refine SC.block ?_
  refine SC.seq (SC.region ?_)
  iterate 2 refine SL.val (Val.move rfl) rfl rfl ?_
  refine SL.val (Val.indexSt (q := k) rfl rfl rfl hlt Tryz.underlying9) rfl rfl ?_
  refine SL.val (Val.geI rfl rfl) rfl rfl ?_
  refine SL.val (Val.move rfl) rfl rfl ?_
  refine SL.bothP (t := 14) rfl ?_ ?_
  rotate_left
  · intro hc14
    iterate 4 refine SL.skip rfl rfl ?_
    refine SL.val (Val.pickF rfl rfl) rfl rfl ?_
    iterate 3 refine SL.val (Val.move rfl) rfl rfl ?_
    refine SL.val (Val.indexSt (q := k) rfl rfl rfl hlt Tryz.underlying9) rfl rfl ?_
    refine SL.val (Val.geI rfl rfl) rfl rfl ?_
    refine SL.val (Val.move rfl) rfl rfl ?_
    refine SL.bothP (t := 25) rfl ?_ ?_
    rotate_left
    · intro hc25
      iterate 4 refine SL.skip rfl rfl ?_
      refine SL.val (Val.pickF rfl rfl) rfl rfl ?_
      refine SL.val (Val.pickF rfl rfl) rfl rfl ?_
      iterate 3 refine SL.val (Val.move rfl) rfl rfl ?_
      refine SL.val (Val.indexSt (q := k) rfl rfl rfl hlt Tryz.underlying9) rfl rfl ?_
      refine SL.val (Val.eqI rfl rfl) rfl rfl ?_
      refine SL.val (Val.pickF rfl rfl) rfl rfl ?_
      refine SL.val (Val.notP rfl) rfl rfl ?_
      refine SL.nil (SE.seq ?_)
      refine SC.condP rfl ?_ ?_
      rotate_left
      · intro hc38
        refine SC.skip ?_
        refine SE.inBlock ?_
        refine SE.seq ?_
        refine SC.region ?_
        refine SL.val (Val.move rfl) rfl rfl ?_
        first
          | refine SL.val (Val.addI rfl rfl (by simp only [InR, lo, hi]; omega)) rfl rfl ?_
          | refine SL.val (Val.addW rfl rfl) rfl rfl ?_
        refine SL.val (Val.assign rfl) rfl rfl ?_
        refine SL.nil ?_
        have hgood : nameC (s[k]'hlt).toNat = true := by
          simp [nameC]
          omega
        exact SE.round (k + 1) (by omega) (by exact ⟨rfl, rfl, trivial⟩) (fun w' hw' => ⟨⟨hlt, fun j hj h => by
          rcases Nat.lt_or_ge j k with h2 | h2
          · exact hp j hj h2
          · obtain rfl : j = k := by omega
            exact hgood⟩, hw'⟩)
      intro hc38
      refine SC.seq (SC.region ?_)
      refine SL.val (Val.assign rfl) rfl rfl ?_
      refine SL.nil (SE.seq ?_)
      refine SC.ret ?_
      refine SE.ret ?_
      refine SE.then_ (by intro h; cases h) ?_
      refine SE.then_ (by intro h; cases h) ?_
      refine SE.ret ?_
      refine SE.then_ (by intro h; cases h) ?_
      refine SE.ret1 rfl rfl ?_
      intro w' hw'
      refine ⟨?_, hw'⟩
      congr 2
      unfold nameB
      first
        | (rw [all_at hlt (by simp [nameC]; omega)]; rfl)
        | (rw [all_all fun j hj => hp j hj (by omega)]; rw [Bool.eq_iff_iff]; simp; omega)
        | (exfalso; omega)
    intro hc25
    iterate 2 refine SL.val (Val.move rfl) rfl rfl ?_
    refine SL.val (Val.indexSt (q := k) rfl rfl rfl hlt Tryz.underlying9) rfl rfl ?_
    refine SL.val (Val.leI rfl rfl) rfl rfl ?_
    refine SL.val (Val.pickT rfl rfl) rfl rfl ?_
    refine SL.val (Val.pickF rfl rfl) rfl rfl ?_
    refine SL.val (Val.move rfl) rfl rfl ?_
    refine SL.bothP (t := 32) rfl ?_ ?_
    · intro hc32
      iterate 4 refine SL.skip rfl rfl ?_
      refine SL.val (Val.pickT rfl rfl) rfl rfl ?_
      refine SL.val (Val.notT rfl) rfl rfl ?_
      refine SL.nil (SE.seq ?_)
      refine SC.condF rfl ?_
      refine SC.skip ?_
      refine SE.inBlock ?_
      refine SE.seq ?_
      refine SC.region ?_
      refine SL.val (Val.move rfl) rfl rfl ?_
      first
        | refine SL.val (Val.addI rfl rfl (by simp only [InR, lo, hi]; omega)) rfl rfl ?_
        | refine SL.val (Val.addW rfl rfl) rfl rfl ?_
      refine SL.val (Val.assign rfl) rfl rfl ?_
      refine SL.nil ?_
      have hgood : nameC (s[k]'hlt).toNat = true := by
        simp [nameC]
        omega
      exact SE.round (k + 1) (by omega) (by exact ⟨rfl, rfl, trivial⟩) (fun w' hw' => ⟨⟨hlt, fun j hj h => by
        rcases Nat.lt_or_ge j k with h2 | h2
        · exact hp j hj h2
        · obtain rfl : j = k := by omega
          exact hgood⟩, hw'⟩)
    intro hc32
    iterate 2 refine SL.val (Val.move rfl) rfl rfl ?_
    refine SL.val (Val.indexSt (q := k) rfl rfl rfl hlt Tryz.underlying9) rfl rfl ?_
    refine SL.val (Val.eqI rfl rfl) rfl rfl ?_
    refine SL.val (Val.pickF rfl rfl) rfl rfl ?_
    refine SL.val (Val.notP rfl) rfl rfl ?_
    refine SL.nil (SE.seq ?_)
    refine SC.condP rfl ?_ ?_
    rotate_left
    · intro hc38
      refine SC.skip ?_
      refine SE.inBlock ?_
      refine SE.seq ?_
      refine SC.region ?_
      refine SL.val (Val.move rfl) rfl rfl ?_
      first
        | refine SL.val (Val.addI rfl rfl (by simp only [InR, lo, hi]; omega)) rfl rfl ?_
        | refine SL.val (Val.addW rfl rfl) rfl rfl ?_
      refine SL.val (Val.assign rfl) rfl rfl ?_
      refine SL.nil ?_
      have hgood : nameC (s[k]'hlt).toNat = true := by
        simp [nameC]
        omega
      exact SE.round (k + 1) (by omega) (by exact ⟨rfl, rfl, trivial⟩) (fun w' hw' => ⟨⟨hlt, fun j hj h => by
        rcases Nat.lt_or_ge j k with h2 | h2
        · exact hp j hj h2
        · obtain rfl : j = k := by omega
          exact hgood⟩, hw'⟩)
    intro hc38
    refine SC.seq (SC.region ?_)
    refine SL.val (Val.assign rfl) rfl rfl ?_
    refine SL.nil (SE.seq ?_)
    refine SC.ret ?_
    refine SE.ret ?_
    refine SE.then_ (by intro h; cases h) ?_
    refine SE.then_ (by intro h; cases h) ?_
    refine SE.ret ?_
    refine SE.then_ (by intro h; cases h) ?_
    refine SE.ret1 rfl rfl ?_
    intro w' hw'
    refine ⟨?_, hw'⟩
    congr 2
    unfold nameB
    first
      | (rw [all_at hlt (by simp [nameC]; omega)]; rfl)
      | (rw [all_all fun j hj => hp j hj (by omega)]; rw [Bool.eq_iff_iff]; simp; omega)
      | (exfalso; omega)
  intro hc14
  iterate 2 refine SL.val (Val.move rfl) rfl rfl ?_
  refine SL.val (Val.indexSt (q := k) rfl rfl rfl hlt Tryz.underlying9) rfl rfl ?_
  refine SL.val (Val.leI rfl rfl) rfl rfl ?_
  refine SL.val (Val.pickT rfl rfl) rfl rfl ?_
  refine SL.val (Val.move rfl) rfl rfl ?_
  refine SL.bothP (t := 20) rfl ?_ ?_
  · intro hc20
    iterate 10 refine SL.skip rfl rfl ?_
    refine SL.val (Val.pickT rfl rfl) rfl rfl ?_
    refine SL.val (Val.move rfl) rfl rfl ?_
    iterate 4 refine SL.skip rfl rfl ?_
    refine SL.val (Val.pickT rfl rfl) rfl rfl ?_
    refine SL.val (Val.notT rfl) rfl rfl ?_
    refine SL.nil (SE.seq ?_)
    refine SC.condF rfl ?_
    refine SC.skip ?_
    refine SE.inBlock ?_
    refine SE.seq ?_
    refine SC.region ?_
    refine SL.val (Val.move rfl) rfl rfl ?_
    first
      | refine SL.val (Val.addI rfl rfl (by simp only [InR, lo, hi]; omega)) rfl rfl ?_
      | refine SL.val (Val.addW rfl rfl) rfl rfl ?_
    refine SL.val (Val.assign rfl) rfl rfl ?_
    refine SL.nil ?_
    have hgood : nameC (s[k]'hlt).toNat = true := by
      simp [nameC]
      omega
    exact SE.round (k + 1) (by omega) (by exact ⟨rfl, rfl, trivial⟩) (fun w' hw' => ⟨⟨hlt, fun j hj h => by
      rcases Nat.lt_or_ge j k with h2 | h2
      · exact hp j hj h2
      · obtain rfl : j = k := by omega
        exact hgood⟩, hw'⟩)
  intro hc20
  iterate 2 refine SL.val (Val.move rfl) rfl rfl ?_
  refine SL.val (Val.indexSt (q := k) rfl rfl rfl hlt Tryz.underlying9) rfl rfl ?_
  refine SL.val (Val.geI rfl rfl) rfl rfl ?_
  refine SL.val (Val.move rfl) rfl rfl ?_
  refine SL.bothP (t := 25) rfl ?_ ?_
  rotate_left
  · intro hc25
    iterate 4 refine SL.skip rfl rfl ?_
    refine SL.val (Val.pickF rfl rfl) rfl rfl ?_
    refine SL.val (Val.pickF rfl rfl) rfl rfl ?_
    iterate 3 refine SL.val (Val.move rfl) rfl rfl ?_
    refine SL.val (Val.indexSt (q := k) rfl rfl rfl hlt Tryz.underlying9) rfl rfl ?_
    refine SL.val (Val.eqI rfl rfl) rfl rfl ?_
    refine SL.val (Val.pickF rfl rfl) rfl rfl ?_
    refine SL.val (Val.notP rfl) rfl rfl ?_
    refine SL.nil (SE.seq ?_)
    refine SC.condP rfl ?_ ?_
    rotate_left
    · intro hc38
      refine SC.skip ?_
      refine SE.inBlock ?_
      refine SE.seq ?_
      refine SC.region ?_
      refine SL.val (Val.move rfl) rfl rfl ?_
      first
        | refine SL.val (Val.addI rfl rfl (by simp only [InR, lo, hi]; omega)) rfl rfl ?_
        | refine SL.val (Val.addW rfl rfl) rfl rfl ?_
      refine SL.val (Val.assign rfl) rfl rfl ?_
      refine SL.nil ?_
      have hgood : nameC (s[k]'hlt).toNat = true := by
        simp [nameC]
        omega
      exact SE.round (k + 1) (by omega) (by exact ⟨rfl, rfl, trivial⟩) (fun w' hw' => ⟨⟨hlt, fun j hj h => by
        rcases Nat.lt_or_ge j k with h2 | h2
        · exact hp j hj h2
        · obtain rfl : j = k := by omega
          exact hgood⟩, hw'⟩)
    intro hc38
    refine SC.seq (SC.region ?_)
    refine SL.val (Val.assign rfl) rfl rfl ?_
    refine SL.nil (SE.seq ?_)
    refine SC.ret ?_
    refine SE.ret ?_
    refine SE.then_ (by intro h; cases h) ?_
    refine SE.then_ (by intro h; cases h) ?_
    refine SE.ret ?_
    refine SE.then_ (by intro h; cases h) ?_
    refine SE.ret1 rfl rfl ?_
    intro w' hw'
    refine ⟨?_, hw'⟩
    congr 2
    unfold nameB
    first
      | (rw [all_at hlt (by simp [nameC]; omega)]; rfl)
      | (rw [all_all fun j hj => hp j hj (by omega)]; rw [Bool.eq_iff_iff]; simp; omega)
      | (exfalso; omega)
  intro hc25
  iterate 2 refine SL.val (Val.move rfl) rfl rfl ?_
  refine SL.val (Val.indexSt (q := k) rfl rfl rfl hlt Tryz.underlying9) rfl rfl ?_
  refine SL.val (Val.leI rfl rfl) rfl rfl ?_
  refine SL.val (Val.pickT rfl rfl) rfl rfl ?_
  refine SL.val (Val.pickF rfl rfl) rfl rfl ?_
  refine SL.val (Val.move rfl) rfl rfl ?_
  refine SL.bothP (t := 32) rfl ?_ ?_
  · intro hc32
    iterate 4 refine SL.skip rfl rfl ?_
    refine SL.val (Val.pickT rfl rfl) rfl rfl ?_
    refine SL.val (Val.notT rfl) rfl rfl ?_
    refine SL.nil (SE.seq ?_)
    refine SC.condF rfl ?_
    refine SC.skip ?_
    refine SE.inBlock ?_
    refine SE.seq ?_
    refine SC.region ?_
    refine SL.val (Val.move rfl) rfl rfl ?_
    first
      | refine SL.val (Val.addI rfl rfl (by simp only [InR, lo, hi]; omega)) rfl rfl ?_
      | refine SL.val (Val.addW rfl rfl) rfl rfl ?_
    refine SL.val (Val.assign rfl) rfl rfl ?_
    refine SL.nil ?_
    have hgood : nameC (s[k]'hlt).toNat = true := by
      simp [nameC]
      omega
    exact SE.round (k + 1) (by omega) (by exact ⟨rfl, rfl, trivial⟩) (fun w' hw' => ⟨⟨hlt, fun j hj h => by
      rcases Nat.lt_or_ge j k with h2 | h2
      · exact hp j hj h2
      · obtain rfl : j = k := by omega
        exact hgood⟩, hw'⟩)
  intro hc32
  iterate 2 refine SL.val (Val.move rfl) rfl rfl ?_
  refine SL.val (Val.indexSt (q := k) rfl rfl rfl hlt Tryz.underlying9) rfl rfl ?_
  refine SL.val (Val.eqI rfl rfl) rfl rfl ?_
  refine SL.val (Val.pickF rfl rfl) rfl rfl ?_
  refine SL.val (Val.notP rfl) rfl rfl ?_
  refine SL.nil (SE.seq ?_)
  refine SC.condP rfl ?_ ?_
  rotate_left
  · intro hc38
    refine SC.skip ?_
    refine SE.inBlock ?_
    refine SE.seq ?_
    refine SC.region ?_
    refine SL.val (Val.move rfl) rfl rfl ?_
    first
      | refine SL.val (Val.addI rfl rfl (by simp only [InR, lo, hi]; omega)) rfl rfl ?_
      | refine SL.val (Val.addW rfl rfl) rfl rfl ?_
    refine SL.val (Val.assign rfl) rfl rfl ?_
    refine SL.nil ?_
    have hgood : nameC (s[k]'hlt).toNat = true := by
      simp [nameC]
      omega
    exact SE.round (k + 1) (by omega) (by exact ⟨rfl, rfl, trivial⟩) (fun w' hw' => ⟨⟨hlt, fun j hj h => by
      rcases Nat.lt_or_ge j k with h2 | h2
      · exact hp j hj h2
      · obtain rfl : j = k := by omega
        exact hgood⟩, hw'⟩)
  intro hc38
  refine SC.seq (SC.region ?_)
  refine SL.val (Val.assign rfl) rfl rfl ?_
  refine SL.nil (SE.seq ?_)
  refine SC.ret ?_
  refine SE.ret ?_
  refine SE.then_ (by intro h; cases h) ?_
  refine SE.then_ (by intro h; cases h) ?_
  refine SE.ret ?_
  refine SE.then_ (by intro h; cases h) ?_
  refine SE.ret1 rfl rfl ?_
  intro w' hw'
  refine ⟨?_, hw'⟩
  congr 2
  unfold nameB
  first
    | (rw [all_at hlt (by simp [nameC]; omega)]; rfl)
    | (rw [all_all fun j hj => hp j hj (by omega)]; rw [Bool.eq_iff_iff]; simp; omega)
    | (exfalso; omega)
end
end Go.Proofs.YtejcohlpjikjpaaGreatDoor
