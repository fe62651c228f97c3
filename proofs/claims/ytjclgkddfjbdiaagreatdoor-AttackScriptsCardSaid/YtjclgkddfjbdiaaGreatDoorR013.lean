/-
  Packed out of the texts: AS10, AN26, AN27, AN28, AN29, AN30, AS11, AS12, AS13, AS14, AS15, AsO.
-/
import Derived.Test.YtjclgkddfjbdiaaGreatDoorR012
set_option maxRecDepth 100000
set_option linter.unusedSimpArgs false
set_option linter.unusedVariables false
namespace Go.Proofs.YtjclgkddfjbdiaaGreatDoor.A
open Go.RowKit
def stepsF (k : Nat) (P : PW) (x : Nat) : Nat → List Stp × Nat
  | 0 => ([], x)
  | j + 1 => ((stepsF k P x j).1 ++ [(stepF k P (stepsF k P x j).2).1], (stepF k P (stepsF k P x j).2).2)
theorem gk_ {k : Nat} {P : PW} {x : Nat} : ∀ j, (stepsF k P x j).1.length = j
  | 0 => rfl
  | j + 1 => by
    show ((stepsF k P x j).1 ++ [_]).length = j + 1
    rw [List.length_append, gk_ j]
    rfl
def scrE (kd : Int) (s : Su) (many : Int) : Int := if kd < 1 ∨ 6 < kd ∨ many < 0 ∨ 400 < many then 1 else chkF s
def scrA (k : Nat) (s : Su) (c : Core) (seed j : Nat) : List Stp := asksF s c s.cl.toNat ++ (stepsF k (s.plan c) (seedX seed) j).1
def scrL (kd : Int) (s : Su) (c : Core) (seed : Nat) (many : Int) : List Stp :=
  if scrE kd s many = 0 then (scrA kd.toNat s c seed (many.toNat - (asksF s c s.cl.toNat).length)).take many.toNat else []
theorem ic_ {k : Nat} {s : Su} {c : Core} {seed j : Nat} : (scrA k s c seed j).length = (asksF s c s.cl.toNat).length + j := by
  unfold scrA
  rw [List.length_append, gk_]
theorem three_in : ∀ {l : List Int}, l.length ≤ 2 → ¬ (0 ∈ l ∧ 1 ∈ l ∧ 2 ∈ l)
  | [], _, ⟨h, _, _⟩ => by cases h
  | [a], _, ⟨h0, h1, _⟩ => by
    simp only [List.mem_singleton] at h0 h1
    omega
  | [a, b], _, ⟨h0, h1, h2⟩ => by
    simp only [List.mem_cons, List.not_mem_nil, or_false] at h0 h1 h2
    omega
  | _ :: _ :: _ :: _, h, _ => by
    simp only [List.length_cons] at h
    omega
theorem k3_ {s : Su} (h : chkF s = 0) : (1 ≤ s.f ∧ s.f ≤ 2) ∧ (0 ≤ s.cl ∧ s.cl ≤ 4) ∧ ((lyN s s.li.length : Nat) : Int) ≤ s.f ∧ ∀ j, j < s.li.length → badB s j = false := by
  have hg : ¬ (s.f < 1 ∨ 2 < s.f ∨ s.cl < 0 ∨ 4 < s.cl) := fun g => by rw [chk1 g] at h; omega
  have hb : ∀ j, j < s.li.length → badB s j = false := fun j hj => by
    cases hbj : badB s j with
    | false => rfl
    | true => rw [chk17 hg hj hbj] at h; omega
  rw [chk4 hg hb] at h
  refine ⟨by omega, by omega, ?_, hb⟩
  split at h <;> omega
theorem k2_ {s : Su} (h : chkF s = 0) (hl : s.li.length ≤ 20) : s.Ok := ⟨(k3_ h).1, (k3_ h).2.1, hl⟩
theorem iH_ {s : Su} {c : Core} (h : chkF s = 0) (hl : s.li.length ≤ 20) : (s.plan c).Ok := by
  have hs := k2_ h hl
  have h1 := (k3_ h).2.2.1
  have hf := hs.f
  have hn := hs.n
  have e : lyN s s.li.length = (s.li.filter fun w => decide (w < ((s.n : Nat) : Int))).length := by unfold lyN; rw [List.take_length]
  have h3 := three_in (l := s.li.filter fun w => decide (w < ((s.n : Nat) : Int))) (by rw [← e]; omega)
  have hin : ∀ i : Int, i < ((s.n : Nat) : Int) → i ∈ s.li → i ∈ s.li.filter fun w => decide (w < ((s.n : Nat) : Int)) := fun i hi hm => List.mem_filter.2 ⟨hm, decide_eq_true hi⟩
  have hlen := d8_ (li := s.li) s.n
  refine ⟨?_, ?_, ?_, hn.1⟩
  · have hex : ∃ i : Nat, i < s.n ∧ ¬ ((i : Nat) : Int) ∈ s.li := by
      by_cases h0 : (0 : Int) ∈ s.li
      · by_cases h1 : (1 : Int) ∈ s.li
        · by_cases h2 : (2 : Int) ∈ s.li
          · exact absurd ⟨hin 0 (by omega) h0, hin 1 (by omega) h1, hin 2 (by omega) h2⟩ h3
          · exact ⟨2, by omega, h2⟩
        · exact ⟨1, by omega, h1⟩
      · exact ⟨0, by omega, h0⟩
    obtain ⟨i, hi, hm⟩ := hex
    refine List.length_pos_of_mem (a := ((i : Nat) : Int)) ?_
    show _ ∈ hoF s.li s.n
    unfold hoF
    exact List.mem_filter.2 ⟨List.mem_map.2 ⟨i, List.mem_range.2 hi, rfl⟩, decide_eq_true hm⟩
  · show (hoF s.li s.n).length < 1000
    omega
  · show s.li.length < 1000
    omega
section
variable {p bd bt N x seed : Nat} {s : Su} {c : Core} {kd many : Int} {P : PW}
theorem gstepK (h : 1 ≤ kd ∧ kd ≤ 6) (hP : P.Ok) (h1 : P.c.letter.size ≤ 1000) (h2 : P.c.text.size ≤ 1000) : Spec Tryz.prog 18 [ptr p, int kd] [.blk p 87 (plG P x (ints P.ho))] (fun _ : Unit => [.blk p 87 (plG P (stepF kd.toNat P x).2 (ints P.ho))]) (fun _ => .agg (stepF kd.toNat P x).1.abs) := by
  have h6 : kd = 1 ∨ kd = 2 ∨ kd = 3 ∨ kd = 4 ∨ kd = 5 ∨ kd = 6 := by omega
  rcases h6 with rfl | rfl | rfl | rfl | rfl | rfl
  · exact cS_ h hP rfl (by kernel_rfl) fun _ => dx_ hP
  · exact cS_ h hP rfl (by kernel_rfl) fun hl => gfaces_s hP (by omega) h1 h2
  · exact cS_ h hP rfl (by kernel_rfl) fun hl => gvotes_s hP (by omega)
  · exact cS_ h hP rfl (by kernel_rfl) fun hl => gvouch_s hP (by omega)
  · exact cS_ h hP rfl (by kernel_rfl) fun hl => gchang_s hP (by omega) h1 h2
  · exact cS_ h hP rfl (by kernel_rfl) fun _ => gstorm_s
set_option maxHeartbeats 8000000 in
theorem cD_ (hl : s.li.length ≤ 20) (hli : ∀ w ∈ s.li, intOk w) (h1 : c.letter.size ≤ 1000) (h2 : c.text.size ≤ 1000) : Spec Tryz.prog 7 [int kd, .agg s.abs, coreA c, wrd seed, int many] [] (fun _ : Unit => []) (fun _ => .tup [.sl 17 ((scrL kd s c seed many).map Stp.abs), int (scrE kd s many)]) := by
 refine t_ Tryz.func7 rfl Tryz.ntmps7 rfl fun G w =>c_<|a_<|eb_ (B_ (cs := s.abs) rfl) rfl rfl fun b6=>?_
 refine eb_ (B_ (cs := c.cells.map .v) rfl) rfl rfl fun b7=>?_
 refine q_ 2 rfl<|d_<|b_<|c_<|c_<|a_<|q_ 3 rfl<|A_ (t := 18) rfl ?_ ?_
 ·intro hc18
  refine q_ 11 rfl<|d_<|b_<|U_ rfl<|c_<|a_<|q_ 2 rfl<|d_<|b_<|k_<|j_ nofun<|fC_ (rs := [.tmp 10, .tmp 11]) rfl (RV.tmp rfl (RV.tmp rfl RV.nil)) (Casts.nils (s := 17) Casts.refl) (()) sn_ ?_
  rw [show scrL kd s c seed many = [] from if_neg (by rw [show scrE kd s many = 1 from if_pos (by omega)]; decide), show scrE kd s many = 1 from if_pos (by omega)]
  rfl
 intro hc18
 refine q_ 4 rfl<|A_ (t := 22) rfl ?_ ?_
 ·intro hc22
  refine q_ 7 rfl<|d_<|b_<|U_ rfl<|c_<|a_<|q_ 2 rfl<|d_<|b_<|k_<|j_ nofun<|fC_ (rs := [.tmp 10, .tmp 11]) rfl (RV.tmp rfl (RV.tmp rfl RV.nil)) (Casts.nils (s := 17) Casts.refl) (()) sn_ ?_
  rw [show scrL kd s c seed many = [] from if_neg (by rw [show scrE kd s many = 1 from if_pos (by omega)]; decide), show scrE kd s many = 1 from if_pos (by omega)]
  rfl
 intro hc22
 refine q_ 4 rfl<|A_ (t := 26) rfl ?_ ?_
 ·intro hc26
  refine q_ 3 rfl<|d_<|b_<|U_ rfl<|c_<|a_<|q_ 2 rfl<|d_<|b_<|k_<|j_ nofun<|fC_ (rs := [.tmp 10, .tmp 11]) rfl (RV.tmp rfl (RV.tmp rfl RV.nil)) (Casts.nils (s := 17) Casts.refl) (()) sn_ ?_
  rw [show scrL kd s c seed many = [] from if_neg (by rw [show scrE kd s many = 1 from if_pos (by omega)]; decide), show scrE kd s many = 1 from if_pos (by omega)]
  rfl
 intro hc26
 refine q_ 3 rfl<|d_<|b_<|l_ rfl ?_ ?_
 ·intro hc29
  refine c_<|a_<|q_ 2 rfl<|d_<|b_<|k_<|j_ nofun<|fC_ (rs := [.tmp 10, .tmp 11]) rfl (RV.tmp rfl (RV.tmp rfl RV.nil)) (Casts.nils (s := 17) Casts.refl) (()) sn_ ?_
  rw [show scrL kd s c seed many = [] from if_neg (by rw [show scrE kd s many = 1 from if_pos (by omega)]; decide), show scrE kd s many = 1 from if_pos (by omega)]
  rfl
 intro hc29
 refine o_<|b_<|c_<|c_<|Q_ [] (.q 2 (.e 0 (.q 1 (.e 3 (.q 4 (.q 5 (.q 6 (.q 7 (.q 8 .nil))))))))) (by kernel_rfl) (by kernel_rfl) ?_
 refine hxA fun hx9 => ?_
 refine sxvA rfl (h_ (C := .agg s.abs) (r_ tabOk rfl rfl rfl l1_ List.not_mem_nil rfl) rfl) hx9<|bd_ rfl (jR_) (by simp [mids, It.mids]) Casts.refl (by kernel_rfl) rfl rfl rfl ?_
 refine aftM ?_
 intro z31
 refine hxA fun hx9 => ?_
 refine sxvA rfl (bA_ rfl (fun _ _ => by kernel_rfl)) hx9 ?_
 refine bV_ ([]) rfl (iG_ (p := z31.1) (bd := z31.2.1) (bt := z31.2.2) (N := 0) (s := s) hl hli (by omega)) (by intro k hk; exact List.mem_append_left _ hk) (by intro k hk; cases hk) Casts.refl (by kernel_rfl) rfl rfl rfl ?_
 refine W_ [] (β := _) rfl (J_ rfl) ?_
 intro z34
 refine qs_ 5 rfl<|F_<|b_<|c_<|a_<|q_ 2 rfl<|d_<|b_<|l_ rfl ?_ ?_
 ·intro hc38
  refine c_<|a_<|q_ 3 rfl<|d_<|b_<|k_<|j_ nofun<|fC_ (rs := [.tmp 10, .tmp 11]) rfl (RV.tmp rfl (RV.tmp rfl RV.nil)) (Casts.nils (s := 17) Casts.refl) (()) sn_ ?_
  rw [show scrL kd s c seed many = [] from if_neg (by rw [show scrE kd s many = chkF s from if_neg (by omega)]; omega), show scrE kd s many = chkF s from if_neg (by omega)]
  rfl
 intro hc38
 have hc0 : chkF s = 0 := by omega
 have hs := k2_ hc0 hl
 have hP := iH_ (c := c) hc0 hl
 have hcl := hs.cl
 refine o_<|b_<|c_<|a_<|slvA (h_ (C := .agg (s.abs)) (r_ tabOk rfl rfl rfl l1_ List.not_mem_nil rfl) rfl)<|slvA (h_ (C := .agg (c.cells.map .v)) (r_ tabOk rfl rfl rfl l0_ List.not_mem_nil rfl) rfl)<|q_ 1 rfl<|slcA (gnew_s (s := s) (c := c) (x := seed) hs) ?_
 refine aftM ?_
 intro z43
 refine q_ 1 rfl<|d_<|b_<|c_<|a_<|q_ 1 rfl<|slcA (gasks_s (p := z43) (s := s) (c := c) (x := seedX seed) hs) ?_
 refine W_ [] (β := _) rfl (J_ rfl) ?_
 intro z45
 refine q_ 1 rfl<|d_<|b_<|c_<|u_ ?_
 have hE : scrE kd s many = 0 := (if_neg (by omega)).trans hc0
 refine P_ (ι := Nat × Value) (fun z => [own 44 17 z.2 ((scrA kd.toNat s c seed z.1).map Stp.abs), .blk z43 87 (plG (s.plan c) (stepsF kd.toNat (s.plan c) (seedX seed) z.1).2 (ints (s.plan c).ho))]) (fun z => [(0, int kd), (4, int many), (14, ptr z43), (15, .v z.2)]) (fun z => z.1 = 0 ∨ (((asksF s c s.cl.toNat).length + z.1 : Nat) : Int) ≤ many) (fun z => many.toNat - z.1) (0, z45) (Or.inl rfl) (by exact ⟨rfl, rfl, rfl, rfl, trivial⟩) (by dsimp only; rw [show scrA kd.toNat s c seed 0 = asksF s c s.cl.toNat from List.append_nil _]; repeat (first | exact List.nil_sublist _ | exact List.Sublist.refl _ | apply List.Sublist.cons_cons | apply List.Sublist.cons)) ?_
 intro z hz
 have hal := cZ_ (s := s) (c := c) s.cl.toNat
 have hlen := ic_ (k := kd.toNat) (s := s) (c := c) (seed := seed) (j := z.1)
 refine c_<|c_<|a_<|q_ 1 rfl<|slvA (aJ_ (m := (scrA kd.toNat s c seed z.1).length) rfl i0_ Tryz.underlying30 (by rw [List.length_map])) ?_
 refine q_ 2 rfl<|d_<|b_<|l_ rfl ?_ ?_
 ·intro hc49
  refine o_<|b_<|u_<|a_<|q_ 3 rfl<|slcA (gstepK (p := z43) (P := s.plan c) (x := (stepsF kd.toNat (s.plan c) (seedX seed) z.1).2) (kd := kd) (by omega) hP h1 h2) ?_
  refine x_ rfl i1_ (fun _ => rfl)<|fun _=>⟨_, u1_, e_ (G_ tabOk Tryz.underlying30 rfl rfl rfl (ah_ rfl) rfl rfl rfl) rfl rfl<|eb_ (K_ (zs := (scrA kd.toNat s c seed (z.1 + 1)).map Stp.abs) tabOk [] (by unfold scrA; rw [show (stepsF kd.toNat (s.plan c) (seedX seed) (z.1 + 1)).1 = (stepsF kd.toNat (s.plan c) (seedX seed) z.1).1 ++ [(stepF kd.toNat (s.plan c) (stepsF kd.toNat (s.plan c) (seedX seed) z.1).2).1] from rfl, ← List.append_assoc, List.map_append (l₂ := [_])]; rfl) Tryz.underlying30 rfl rfl rfl rfl rfl rfl (by intro c hc; rw [List.mem_singleton] at hc; subst hc; rfl) (by unfold maxLen; simp only [List.length_map, List.length_cons, List.length_nil]; omega) (by rw [show Tryz.prog.bytesOf 44 = 200 by kernel_rfl]; simp only [List.length_map, List.length_cons, List.length_nil]; omega)) rfl rfl fun r55=>?_⟩
  refine q_ 1 rfl<|d_<|w_<|I_ (z.1 + 1, r55) (by omega) ((Or.inr (by dsimp only; omega))) (by exact ⟨rfl, rfl, rfl, rfl, trivial⟩) sr_
 intro hc49
 refine N_<|j_ nofun<|j_ nofun<|M_<|b_<|c_<|aC_ [] (t := 15) rfl rfl<|a_<|q_ 2 rfl<|slvA (h_ (C := .sl 17 (((scrA kd.toNat s c seed z.1).take many.toNat).map Stp.abs)) (de_ (q := many.toNat) tabOk Tryz.underlying30 rfl rfl rfl rfl (by omega) (by rw [List.length_map]; omega)) (by rw [List.map_take])) ?_
 refine q_ 2 rfl<|d_<|b_<|k_<|f_ (rs := [.tmp 10, .tmp 11]) rfl (RV.tmp rfl (RV.tmp rfl RV.nil)) (()) sn_ ?_
 rw [hE, show scrL kd s c seed many = (scrA kd.toNat s c seed z.1).take many.toNat from (if_pos hE).trans (by rcases hz with h0 | h0; (rw [h0, show many.toNat - (asksF s c s.cl.toNat).length = 0 by omega]); (rw [show many.toNat - (asksF s c s.cl.toNat).length = z.1 by omega]))]
 rfl
set_option maxHeartbeats 4000000 in
theorem playX_s (hl : s.li.length ≤ 20) (hli : ∀ w ∈ s.li, intOk w) (h1 : c.letter.size ≤ 1000) (h2 : c.text.size ≤ 1000) : Spec Tryz.prog 8 [int kd, .agg s.abs, coreA c, wrd seed, int 0] [] (fun _ : Option Nat => []) (fun z => .tup [pE z, int (scrE kd s 0)]) := by
 have e0 : scrL kd s c seed 0 = [] := by
  unfold scrL
  split
  ·exact List.take_zero
  rfl
 refine t_ Tryz.func8 rfl Tryz.ntmps8 rfl fun G w =>c_<|a_<|eb_ (B_ (cs := s.abs) rfl) rfl rfl fun b6=>?_
 refine eb_ (B_ (cs := c.cells.map .v) rfl) rfl rfl fun b7=>?_
 refine q_ 2 rfl<|d_<|b_<|c_<|a_<|q_ 1 rfl<|slvA (h_ (C := .agg (s.abs)) (r_ tabOk rfl rfl rfl l1_ List.not_mem_nil rfl) rfl)<|slvA (h_ (C := .agg (c.cells.map .v)) (r_ tabOk rfl rfl rfl l0_ List.not_mem_nil rfl) rfl)<|q_ 2 rfl<|slcA (cD_ (kd := kd) (s := s) (c := c) (seed := seed) (many := 0) hl hli h1 h2) ?_
 refine ap_<|fun _=>q_ 5 rfl<|d_<|b_<|c_<|c_<|a_<|q_ 2 rfl<|d_<|b_<|l_ rfl ?_ ?_
 ·intro hc27
  exact c_<|a_<|q_ 3 rfl<|d_<|b_<|k_<|j_ nofun<|f_ (rs := [.tmp 10, .tmp 11]) rfl (RV.tmp rfl (RV.tmp rfl RV.nil)) (none) sn_<|rfl
 intro hc27
 have hc0 : scrE kd s 0 = 0 := by omega
 have hck : chkF s = scrE kd s 0 := by
  have h2 := hc0
  unfold scrE at h2 ⊢
  split at h2
  ·omega
  rw [if_neg (by assumption)]
 refine o_<|b_<|c_<|Q_ [] (.q 2 (.e 0 (.q 1 (.e 3 (.q 4 (.q 5 (.q 6 (.q 7 (.q 8 .nil))))))))) (by kernel_rfl) (by kernel_rfl) ?_
 refine hxA fun hx9 => ?_
 refine sxvA rfl (h_ (C := .agg s.abs) (r_ tabOk rfl rfl rfl l1_ List.not_mem_nil rfl) rfl) hx9<|bd_ rfl (jR_) (by simp [mids, It.mids]) Casts.refl (by kernel_rfl) rfl rfl rfl ?_
 refine aftM ?_
 intro z30
 refine hxA fun hx9 => ?_
 refine sxvA rfl (bA_ rfl (fun _ _ => by kernel_rfl)) hx9 ?_
 refine bV_ ([]) rfl (iG_ (p := z30.1) (bd := z30.2.1) (bt := z30.2.2) (N := 0) (s := s) hl hli (by omega)) (by intro k hk; exact List.mem_append_left _ hk) (by intro k hk; cases hk) Casts.refl (by kernel_rfl) rfl rfl rfl ?_
 refine W_ [] (β := _) rfl (J_ rfl) ?_
 intro z33
 refine qs_ 5 rfl<|F_<|b_<|c_<|c_<|a_<|q_ 1 rfl<|slvA (H_ (m := 0) rfl Tryz.underlying30 (by rw [e0]; rfl)) ?_
 refine q_ 1 rfl<|d_<|b_<|u_<|P_ (ι := Unit) (fun z => []) (fun z => [(13, int (chkF s)), (14, pE z33), (37, int (0 : Nat)), (38, int 0)]) (fun z => True) (fun z => 0) (()) (trivial) (by exact ⟨rfl, rfl, rfl, rfl, trivial⟩) sn_ ?_
 intro z hz
 refine c_<|a_<|q_ 1 rfl<|d_<|b_<|c_<|l_ rfl (by intro hc39; exfalso; omega) ?_
 intro hc39
 refine N_<|j_ nofun<|j_ nofun<|M_<|b_<|c_<|a_<|q_ 4 rfl<|d_<|b_<|k_<|f_ (rs := [.tmp 10, .tmp 11]) rfl (RV.tmp rfl (RV.tmp rfl RV.nil)) (z33) sn_ ?_
 rw [hck]
 rfl
end
def scr : Nat → List (List Abs)
  | 0 => [ask0]
  | 1 => [ask0, deliver0]
  | _ => [ask0, deliver0, deliver0]
def nmL : List Abs := [.v (.string ⟨#[63]⟩), .v (.string ⟨#[115, 105, 108, 101, 110, 99, 101]⟩), .v (.string ⟨#[102, 97, 99, 101, 115]⟩), .v (.string ⟨#[118, 111, 116, 101, 115]⟩), .v (.string ⟨#[118, 111, 117, 99, 104, 101, 115]⟩), .v (.string ⟨#[99, 104, 97, 110, 103, 101, 115]⟩), .v (.string ⟨#[115, 116, 111, 114, 109]⟩)]
section
variable {c p bd bt rm cm cr em N ca i k : Nat} {av cv : Value} {r : Nat → Nat} {x : Int}
theorem Spec.argC {P : Program} {f : FuncId} {as1 as2 : List Abs} {σ : Blks} {ι : Type} {τ : ι → Blks} {res : ι → Abs} (h : Spec P f as2 σ τ res) (c : Casts as1 as2) : Spec P f as1 σ τ res := fun G w vals hm hv => h G w vals hm (c _ _ _ hv)
def s0 : Su := ⟨1, [], 1⟩
theorem argS0 {k : Int} : Casts [int k, .agg set0, .agg core0, .v (.int .u64 7), int 3] [int k, .agg s0.abs, coreA coIn, wrd 7, int 3] := Casts.keep (Casts.cons (cn_ (Casts.keep (Casts.nils (Casts.keep Casts.refl)))) Casts.refl)
theorem scr_is : (scrL 1 s0 coIn 7 3).map Stp.abs = scr 2 := by kernel_rfl
theorem scr_e : scrE 1 s0 3 = 0 := by kernel_rfl
theorem scr7_is : (scrL 7 s0 coIn 7 3).map Stp.abs = [] := by kernel_rfl
theorem scr7_e : scrE 7 s0 3 = 1 := by kernel_rfl
theorem ib_ : Spec Tryz.prog 7 [int 1, .agg set0, .agg core0, .v (.int .u64 7), int 3] [] (fun _ : Unit => []) (fun _ => .tup [.sl 17 (scr 2), int 0]) := by
  have h := (cD_ (kd := 1) (s := s0) (c := coIn) (seed := 7) (many := 3) (by decide) (fun w hw => by cases hw) (by decide) (by decide)).argC argS0
  rwa [scr_is, scr_e] at h
theorem kk_ : Spec Tryz.prog 7 [int 7, .agg set0, .agg core0, .v (.int .u64 7), int 3] [] (fun _ : Unit => []) (fun _ => .tup [.sl 17 [], int 1]) := by
  have h := (cD_ (kd := 7) (s := s0) (c := coIn) (seed := 7) (many := 3) (by decide) (fun w hw => by cases hw) (by decide) (by decide)).argC argS0
  rwa [scr7_is, scr7_e] at h
theorem clc_s {xs : List (List Abs)} (h1 : ∀ c ∈ xs, ones c = true) (hn : xs.length ≤ 1000000) : Spec Tryz.prog 22 [.sl 7 xs] [] (fun _ : Unit => []) (fun _ => .sl 7 xs) := by
 refine t_ Tryz.func22 rfl Tryz.ntmps22 rfl fun G w =>c_<|a_<|q_ 1 rfl<|d_<|b_<|c_<|c_<|a_<|q_ 1 rfl<|bW_ Tryz.underlying51 rfl rfl rfl<|fun b hb=>d_<|b_<|ar_ rfl ?_ ?_
 ·intro hc4
  have hnil : xs = [] := hb hc4
  subst hnil
  refine c_<|a_<|q_ 1 rfl<|d_<|b_<|k_<|j_ nofun<|cL_ (rs := [.tmp 2]) rfl (RV.tmp rfl RV.nil) (Casts.nils (s := 7) Casts.refl) () sn_ (by simp [It.rids]) rfl
 intro hc4
 refine o_<|b_<|c_<|a_<|eb_ (aA_ tabOk Tryz.underlying51 rfl rfl rfl rfl rfl rfl rfl) rfl rfl fun r5=>?_
 refine q_ 1 rfl<|eb_ (K_ (zs := xs) tabOk [] rfl Tryz.underlying51 rfl rfl rfl rfl rfl rfl h1 (by unfold maxLen; simp only [List.length_nil]; omega) (by rw [show Tryz.prog.bytesOf 26 = 72 by kernel_rfl]; simp only [List.length_nil]; omega)) rfl rfl fun r7=>?_
 exact q_ 1 rfl<|d_<|b_<|k_<|aT_ [] (t := 2) rfl rfl<|f_ (rs := [.tmp 2]) rfl (RV.tmp rfl RV.nil) (()) sn_<|rfl
theorem casked_s  : Spec Tryz.prog 13 [ptr c] [.blk c 74 [bkI p, int 4, int 5, mapV rm, mapV cm, ptr cr, mapV em, .v av], own 26 7 av [core1.cells.map .v]] (fun _ : Unit => []) (fun _ => .sl 7 [core1.cells.map .v]) := by
 refine t_ Tryz.func13 rfl Tryz.ntmps13 rfl fun G w =>c_<|a_<|q_ 1 rfl<|d_<|b_<|c_<|c_<|a_<|q_ 1 rfl<|slvA (aD_ rfl rfl (by kernel_rfl)) ?_
 refine d_<|b_<|O_ rfl<|o_<|b_<|c_<|cd_ [_] 7 rfl u0_ rfl<|a_<|q_ 3 rfl<|slvA (h_ (C := .sl 7 [core1.cells.map .v]) (g_ tabOk rfl rfl l0_ List.not_mem_nil rfl) rfl)<|slcA (clc_s (xs := [core1.cells.map .v]) (by intro c hc; rw [List.mem_singleton] at hc; subst hc; rfl) (by simp)) ?_
 exact ap_<|fun _=>q_ 1 rfl<|d_<|b_<|k_<|f_ (rs := [.tmp 2]) rfl (RV.tmp rfl RV.nil) (()) sn_<|rfl
theorem cstepa_s (hN : N ≤ 900) : Spec Tryz.prog 19 [ptr c, .agg ask0] [wb p bd bt N, .blk c 74 [bkI p, int 4, int 5, mapV rm, mapV cm, ptr cr, mapV em, .v (.slice none 0 0)], .pc (tmPc rm intK intOk pE (rmL r)), .pc (tmPc cm intK intOk pE [((4 : Int), some ca)]), .blk cr 97 [.v (.slice none 0 0)], own 143 6 (.slice none 0 0) [], .pc (tmPc em wdV wdOk boo []), .blk ca 126 [bkI p, int 4, int 4, int 0, .v (.pointer none), .v (.slice none 0 0)]] (fun z : Value × {m : Msg // MsOk m} × Value × List ((Int × List UInt8) × Bool) => [wb p bd bt (N + 32), .blk c 74 [bkI p, int 4, int 5, mapV rm, mapV cm, ptr cr, mapV em, .v z.1], .pc (tmPc rm intK intOk pE (rmL r)), .pc (tmPc cm intK intOk pE [((4 : Int), some ca)]), .blk cr 97 [.v z.2.2.1], own 143 6 z.2.2.1 ((parcels z.2.1.1 (allN 4)).map fun x => int 4 :: x), .pc (tmPc em wdV wdOk boo z.2.2.2), own 26 7 z.1 [core1.cells.map .v]]) (fun _ => int 0) := by
 refine t_ Tryz.func19 rfl Tryz.ntmps19 rfl fun G w =>c_<|a_<|eb_ (B_ (cs := ask0) rfl) rfl rfl fun b3=>?_
 refine q_ 1 rfl<|d_<|b_<|c_<|c_<|a_<|q_ 1 rfl<|slvA (aD_ rfl rfl (by kernel_rfl)) ?_
 refine d_<|b_<|O_ rfl<|o_<|b_<|c_<|c_<|a_<|q_ 1 rfl<|slvA (h_ (C := int 1) (g_ tabOk rfl rfl l0_ List.not_mem_nil rfl) rfl)<|d_<|b_<|u_<|c_<|a_<|q_ 2 rfl<|d_<|b_<|l_ rfl ?_ (by intro hc9; exfalso; omega)
 intro hc9
 refine c_<|a_<|q_ 1 rfl<|slvA (h_ (C := .agg ask0) (r_ tabOk rfl rfl rfl l0_ List.not_mem_nil rfl) rfl)<|slcA (cask0_s (c := c) (p := p) (bd := bd) (bt := bt) (rm := rm) (cm := cm) (cr := cr) (em := em) (N := N) (ca := ca) (r := r) hN) ?_
 refine W_ [_] (β := []) rfl (J_ rfl) ?_
 intro z13
 exact q_ 1 rfl<|d_<|b_<|k_<|S_<|j_ nofun<|f_ (rs := [.tmp 4]) rfl (RV.tmp rfl RV.nil) (z13) (sk_ sr_)<|rfl
end
def nmF (k : Int) : ByteArray := if k < 1 ∨ 6 < k then ⟨#[63]⟩ else match k.toNat with
  | 1 => ⟨#[115, 105, 108, 101, 110, 99, 101]⟩
  | 2 => ⟨#[102, 97, 99, 101, 115]⟩
  | 3 => ⟨#[118, 111, 116, 101, 115]⟩
  | 4 => ⟨#[118, 111, 117, 99, 104, 101, 115]⟩
  | 5 => ⟨#[99, 104, 97, 110, 103, 101, 115]⟩
  | _ => ⟨#[115, 116, 111, 114, 109]⟩
theorem nm_at : ∀ {q : Nat}, 1 ≤ q → q ≤ 6 → nmL[0 + q * 1]? = some (.v (.string (nmF (q : Int))))
  | 1, _, _ => rfl
  | 2, _, _ => rfl
  | 3, _, _ => rfl
  | 4, _, _ => rfl
  | 5, _, _ => rfl
  | 6, _, _ => rfl
section
variable {k : Int}
theorem name_s  : Spec Tryz.prog 12 [int k] [] (fun _ : Unit => []) (fun _ => .v (.string (nmF k))) := by
 refine t_ Tryz.func12 rfl Tryz.ntmps12 rfl fun G w =>c_<|a_<|q_ 1 rfl<|d_<|b_<|c_<|a_<|slvA (h_ (C := .agg nmL) (bC_ tabOk rfl rfl rfl rfl) rfl)<|eb_ (C_ tabOk rfl) rfl rfl fun b3=>?_
 refine e_ (m_ (L' := nmL) tabOk rfl rfl rfl u0_ rfl (Nat.le_of_ble_eq_true rfl) rfl (by exact p_ rfl)) rfl rfl ?_
 refine d_<|b_<|c_<|c_<|a_<|q_ 3 rfl<|A_ (t := 7) rfl ?_ ?_
 ·intro hc7
  refine q_ 3 rfl<|d_<|b_<|U_ rfl<|c_<|a_<|slvA (cK_ (q := 0) tabOk Tryz.underlying65 rfl rfl rfl rfl (by decide) rfl) ?_
  refine slvA (h_ (C := .v (.string ⟨#[63]⟩)) (g_ tabOk rfl rfl l0_ List.not_mem_nil rfl) rfl)<|q_ 1 rfl<|d_<|b_<|k_<|j_ nofun<|f_ (rs := [.tmp 2]) rfl (RV.tmp rfl RV.nil) (()) sn_ ?_
  show Abs.v (.string _) = _
  unfold nmF
  rw [if_pos (by omega)]
 intro hc7
 refine q_ 3 rfl<|d_<|b_<|l_ rfl ?_ ?_
 ·intro hc10
  refine c_<|a_<|slvA (cK_ (q := 0) tabOk Tryz.underlying65 rfl rfl rfl rfl (by decide) rfl) ?_
  refine slvA (h_ (C := .v (.string ⟨#[63]⟩)) (g_ tabOk rfl rfl l0_ List.not_mem_nil rfl) rfl)<|q_ 1 rfl<|d_<|b_<|k_<|j_ nofun<|f_ (rs := [.tmp 2]) rfl (RV.tmp rfl RV.nil) (()) sn_ ?_
  show Abs.v (.string _) = _
  unfold nmF
  rw [if_pos (by omega)]
 intro hc10
 refine o_<|b_<|c_<|a_<|q_ 1 rfl<|slvA (cK_ (q := k.toNat) tabOk Tryz.underlying65 rfl rfl rfl (by omega) (by omega) rfl) ?_
 refine slvA (h_ (C := .v (.string (nmF (k.toNat : Int)))) (g_ tabOk rfl rfl l0_ List.not_mem_nil (nm_at (by omega) (by omega))) rfl) ?_
 refine q_ 1 rfl<|d_<|b_<|k_<|f_ (rs := [.tmp 2]) rfl (RV.tmp rfl RV.nil) (()) sn_ ?_
 rw [Int.toNat_of_nonneg (by omega)]
 rfl
end
structure PD where
  z : CI
  p : Nat
  bd : Nat
  bt : Nat
  av : Value
  cv : Value
  m : Msg
  rows : List (List Abs)
  EM : List ((Int × List UInt8) × Bool)
def sntA (i : Nat) (m : Msg) : List Abs := int 4 :: int (i : Nat) :: m.abs
theorem Re.cut {xs ys : Blks} (φ : Blks) (h : (ys ++ φ).Perm xs) (hr : ∀ x ∈ xs, x.rids = []) : Re xs ys := ⟨⟨mids φ, by rw [show mids ys ++ mids φ = mids (ys ++ φ) from by simp [mids]]; exact cG_ h.symm⟩, fun y hy => hr y (h.mem_iff.1 (List.mem_append_left _ hy)), fun K w hx y hy => hx y (h.mem_iff.1 (List.mem_append_left _ hy))⟩
theorem ones_par {i : Nat} {ps : List (List Abs)} (h : ParOk 4 ps) : ∀ x ∈ ps.map (fun x => int (i : Nat) :: x), ones x = true := by
  intro x hx
  obtain ⟨y, hy, rfl⟩ := List.mem_map.1 hx
  exact go_ rfl (h.2 y hy).2
theorem play0 {z : CI} {p bd bt : Nat} : Spec Tryz.prog 19 [ptr z.c, .agg ask0] [wb p bd bt 5, .pc (bigP [rpP p (0, z.R0), rpP p (1, z.R1), rpP p (2, z.R2), rpP p (3, z.R3)]), .blk z.c 74 [bkI p, int 4, int 5, mapV z.rm, mapV z.cm, ptr z.cr, mapV z.em, .v (.slice none 0 0)], .pc (tmPc z.rm intK intOk pE (rmL (r4 z.R0 z.R1 z.R2 z.R3))), .pc (tmPc z.cm intK intOk pE [((4 : Int), some z.ca)]), .blk z.cr 97 [.v (.slice none 0 0)], own 143 6 (.slice none 0 0) [], .pc (tmPc z.em wdV wdOk boo []), .blk z.ca 126 [bkI p, int 4, int 4, int 0, .v (.pointer none), .v (.slice none 0 0)]] (fun y : Value × {m : Msg // MsOk m} × Value × List ((Int × List UInt8) × Bool) => [wb p bd bt 37, .pc (bigP [rpP p (0, z.R0), rpP p (1, z.R1), rpP p (2, z.R2), rpP p (3, z.R3)]), .blk z.c 74 [bkI p, int 4, int 5, mapV z.rm, mapV z.cm, ptr z.cr, mapV z.em, .v y.1], .pc (tmPc z.rm intK intOk pE (rmL (r4 z.R0 z.R1 z.R2 z.R3))), .pc (tmPc z.cm intK intOk pE [((4 : Int), some z.ca)]), .blk z.cr 97 [.v y.2.2.1], own 143 6 y.2.2.1 ((parcels y.2.1.1 (allN 4)).map fun x => int 4 :: x), own 26 7 y.1 [core1.cells.map .v]]) (fun _ => int 0) :=
  Spec.reg (φ := [.pc (bigP [rpP p (0, z.R0), rpP p (1, z.R1), rpP p (2, z.R2), rpP p (3, z.R3)])]) (cstepa_s (c := z.c) (p := p) (bd := bd) (bt := bt) (rm := z.rm) (cm := z.cm) (cr := z.cr) (em := z.em) (N := 5) (ca := z.ca) (r := r4 z.R0 z.R1 z.R2 z.R3) (by omega)) (J_ rfl)
    (Re.perm (by repeat (first | exact List.Perm.nil | refine pk_ (by repeat (first | exact Rem_.here | apply Rem_.there)) ?_)) (J_ rfl)) fun y => Re.cut [.pc (tmPc z.em wdV wdOk boo y.2.2.2)] (by repeat (first | exact List.Perm.nil | refine pk_ (by repeat (first | exact Rem_.here | apply Rem_.there)) ?_)) (J_ rfl)
theorem play1 {z : CI} {p bd bt : Nat} {av cv : Value} {m : Msg} {EM : List ((Int × List UInt8) × Bool)} {l : List (List Abs)} (hm : MsOk m) (h1 : 1 ≤ l.length) (hl : l.length ≤ 20) (ho : ∀ x ∈ l, ones x = true) : Spec Tryz.prog 19 [ptr z.c, .agg deliver0] [wb p bd bt 37, .pc (bigP [rpP p (0, z.R0), rpP p (1, z.R1), rpP p (2, z.R2), rpP p (3, z.R3)]), .blk z.c 74 [bkI p, int 4, int 5, mapV z.rm, mapV z.cm, ptr z.cr, mapV z.em, .v av], .pc (tmPc z.rm intK intOk pE (rmL (r4 z.R0 z.R1 z.R2 z.R3))), .pc (tmPc z.cm intK intOk pE [((4 : Int), some z.ca)]), .blk z.cr 97 [.v cv], own 143 6 cv (sntA 0 m :: l), own 26 7 av [core1.cells.map .v]] (fun y : Value × {ps : List (List Abs) // ParOk 4 ps} => [wb p bd bt 57, .pc (bigP [rpP p (1, z.R1), rpP p (2, z.R2), rpP p (3, z.R3)]), .blk z.c 74 [bkI p, int 4, int 5, mapV z.rm, mapV z.cm, ptr z.cr, mapV z.em, .v av], .pc (tmPc z.rm intK intOk pE (rmL (r4 z.R0 z.R1 z.R2 z.R3))), .pc (tmPc z.cm intK intOk pE [((4 : Int), some z.ca)]), .blk z.cr 97 [.v y.1], own 143 6 y.1 (l ++ y.2.1.map fun x => int ((0 : Nat) : Int) :: x), own 26 7 av [core1.cells.map .v]]) (fun _ => int 0) :=
  Spec.reg (xs := [wb p bd bt 37, .pc (bigP ([] ++ rpP p (0, z.R0) :: [rpP p (1, z.R1), rpP p (2, z.R2), rpP p (3, z.R3)])), .blk z.c 74 [bkI p, int 4, int 5, mapV z.rm, mapV z.cm, ptr z.cr, mapV z.em, .v av], .pc (tmPc z.rm intK intOk pE (rmL (r4 z.R0 z.R1 z.R2 z.R3))), .pc (tmPc z.cm intK intOk pE [((4 : Int), some z.ca)]), .blk z.cr 97 [.v cv], own 143 6 cv (sntA 0 m :: l)]) (φ := [own 26 7 av [core1.cells.map .v]]) (iF_ (c := z.c) (p := p) (bd := bd) (bt := bt) (rm := z.rm) (cm := z.cm) (cr := z.cr) (em := z.em) (N := 37) (ca := z.ca) (i := 0) (av := av) (cv := cv) (r := r4 z.R0 z.R1 z.R2 z.R3) (R := z.R0) (m := m) (rows := l) (l1 := []) (l2 := [rpP p (1, z.R1), rpP p (2, z.R2), rpP p (3, z.R3)]) (by omega) rfl hm (by omega) h1 (by omega) ho) (J_ rfl)
    (Re.perm (xs := [wb p bd bt 37, .pc (bigP [rpP p (0, z.R0), rpP p (1, z.R1), rpP p (2, z.R2), rpP p (3, z.R3)]), .blk z.c 74 [bkI p, int 4, int 5, mapV z.rm, mapV z.cm, ptr z.cr, mapV z.em, .v av], .pc (tmPc z.rm intK intOk pE (rmL (r4 z.R0 z.R1 z.R2 z.R3))), .pc (tmPc z.cm intK intOk pE [((4 : Int), some z.ca)]), .blk z.cr 97 [.v cv], own 143 6 cv (sntA 0 m :: l), own 26 7 av [core1.cells.map .v]]) (ys := [wb p bd bt 37, .pc (bigP ([] ++ rpP p (0, z.R0) :: [rpP p (1, z.R1), rpP p (2, z.R2), rpP p (3, z.R3)])), .blk z.c 74 [bkI p, int 4, int 5, mapV z.rm, mapV z.cm, ptr z.cr, mapV z.em, .v av], .pc (tmPc z.rm intK intOk pE (rmL (r4 z.R0 z.R1 z.R2 z.R3))), .pc (tmPc z.cm intK intOk pE [((4 : Int), some z.ca)]), .blk z.cr 97 [.v cv], own 143 6 cv (sntA 0 m :: l), own 26 7 av [core1.cells.map .v]]) (by repeat (first | exact List.Perm.nil | refine pk_ (by repeat (first | exact Rem_.here | apply Rem_.there)) ?_)) (J_ rfl)) fun y => Re.cut (xs := [wb p bd bt (37 + 20), .pc (bigP ([] ++ [rpP p (1, z.R1), rpP p (2, z.R2), rpP p (3, z.R3)])), .blk z.c 74 [bkI p, int 4, int 5, mapV z.rm, mapV z.cm, ptr z.cr, mapV z.em, .v av], .pc (tmPc z.rm intK intOk pE (rmL (r4 z.R0 z.R1 z.R2 z.R3))), .pc (tmPc z.cm intK intOk pE [((4 : Int), some z.ca)]), .blk z.cr 97 [.v y.1], own 143 6 y.1 (l ++ y.2.1.map fun x => int ((0 : Nat) : Int) :: x), own 26 7 av [core1.cells.map .v]]) (ys := [wb p bd bt 57, .pc (bigP [rpP p (1, z.R1), rpP p (2, z.R2), rpP p (3, z.R3)]), .blk z.c 74 [bkI p, int 4, int 5, mapV z.rm, mapV z.cm, ptr z.cr, mapV z.em, .v av], .pc (tmPc z.rm intK intOk pE (rmL (r4 z.R0 z.R1 z.R2 z.R3))), .pc (tmPc z.cm intK intOk pE [((4 : Int), some z.ca)]), .blk z.cr 97 [.v y.1], own 143 6 y.1 (l ++ y.2.1.map fun x => int ((0 : Nat) : Int) :: x), own 26 7 av [core1.cells.map .v]]) [] (by repeat (first | exact List.Perm.nil | refine pk_ (by repeat (first | exact Rem_.here | apply Rem_.there)) ?_)) (J_ rfl)
theorem play2 {z : CI} {p bd bt : Nat} {av cv : Value} {m : Msg} {EM : List ((Int × List UInt8) × Bool)} {l : List (List Abs)} (hm : MsOk m) (h1 : 1 ≤ l.length) (hl : l.length ≤ 20) (ho : ∀ x ∈ l, ones x = true) : Spec Tryz.prog 19 [ptr z.c, .agg deliver0] [wb p bd bt 57, .pc (bigP [rpP p (1, z.R1), rpP p (2, z.R2), rpP p (3, z.R3)]), .blk z.c 74 [bkI p, int 4, int 5, mapV z.rm, mapV z.cm, ptr z.cr, mapV z.em, .v av], .pc (tmPc z.rm intK intOk pE (rmL (r4 z.R0 z.R1 z.R2 z.R3))), .pc (tmPc z.cm intK intOk pE [((4 : Int), some z.ca)]), .blk z.cr 97 [.v cv], own 143 6 cv (sntA 1 m :: l), own 26 7 av [core1.cells.map .v]] (fun y : Value × {ps : List (List Abs) // ParOk 4 ps} => [.blk z.c 74 [bkI p, int 4, int 5, mapV z.rm, mapV z.cm, ptr z.cr, mapV z.em, .v av], .pc (tmPc z.rm intK intOk pE (rmL (r4 z.R0 z.R1 z.R2 z.R3))), .pc (tmPc z.cm intK intOk pE [((4 : Int), some z.ca)]), .blk z.cr 97 [.v y.1], own 143 6 y.1 (l ++ y.2.1.map fun x => int ((1 : Nat) : Int) :: x), own 26 7 av [core1.cells.map .v]]) (fun _ => int 0) :=
  Spec.reg (xs := [wb p bd bt 57, .pc (bigP ([] ++ rpP p (1, z.R1) :: [rpP p (2, z.R2), rpP p (3, z.R3)])), .blk z.c 74 [bkI p, int 4, int 5, mapV z.rm, mapV z.cm, ptr z.cr, mapV z.em, .v av], .pc (tmPc z.rm intK intOk pE (rmL (r4 z.R0 z.R1 z.R2 z.R3))), .pc (tmPc z.cm intK intOk pE [((4 : Int), some z.ca)]), .blk z.cr 97 [.v cv], own 143 6 cv (sntA 1 m :: l)]) (φ := [own 26 7 av [core1.cells.map .v]]) (iF_ (c := z.c) (p := p) (bd := bd) (bt := bt) (rm := z.rm) (cm := z.cm) (cr := z.cr) (em := z.em) (N := 57) (ca := z.ca) (i := 1) (av := av) (cv := cv) (r := r4 z.R0 z.R1 z.R2 z.R3) (R := z.R1) (m := m) (rows := l) (l1 := []) (l2 := [rpP p (2, z.R2), rpP p (3, z.R3)]) (by omega) rfl hm (by omega) h1 (by omega) ho) (J_ rfl)
    (Re.perm (xs := [wb p bd bt 57, .pc (bigP [rpP p (1, z.R1), rpP p (2, z.R2), rpP p (3, z.R3)]), .blk z.c 74 [bkI p, int 4, int 5, mapV z.rm, mapV z.cm, ptr z.cr, mapV z.em, .v av], .pc (tmPc z.rm intK intOk pE (rmL (r4 z.R0 z.R1 z.R2 z.R3))), .pc (tmPc z.cm intK intOk pE [((4 : Int), some z.ca)]), .blk z.cr 97 [.v cv], own 143 6 cv (sntA 1 m :: l), own 26 7 av [core1.cells.map .v]]) (ys := [wb p bd bt 57, .pc (bigP ([] ++ rpP p (1, z.R1) :: [rpP p (2, z.R2), rpP p (3, z.R3)])), .blk z.c 74 [bkI p, int 4, int 5, mapV z.rm, mapV z.cm, ptr z.cr, mapV z.em, .v av], .pc (tmPc z.rm intK intOk pE (rmL (r4 z.R0 z.R1 z.R2 z.R3))), .pc (tmPc z.cm intK intOk pE [((4 : Int), some z.ca)]), .blk z.cr 97 [.v cv], own 143 6 cv (sntA 1 m :: l), own 26 7 av [core1.cells.map .v]]) (by repeat (first | exact List.Perm.nil | refine pk_ (by repeat (first | exact Rem_.here | apply Rem_.there)) ?_)) (J_ rfl)) fun y => Re.cut (xs := [wb p bd bt (57 + 20), .pc (bigP ([] ++ [rpP p (2, z.R2), rpP p (3, z.R3)])), .blk z.c 74 [bkI p, int 4, int 5, mapV z.rm, mapV z.cm, ptr z.cr, mapV z.em, .v av], .pc (tmPc z.rm intK intOk pE (rmL (r4 z.R0 z.R1 z.R2 z.R3))), .pc (tmPc z.cm intK intOk pE [((4 : Int), some z.ca)]), .blk z.cr 97 [.v y.1], own 143 6 y.1 (l ++ y.2.1.map fun x => int ((1 : Nat) : Int) :: x), own 26 7 av [core1.cells.map .v]]) (ys := [.blk z.c 74 [bkI p, int 4, int 5, mapV z.rm, mapV z.cm, ptr z.cr, mapV z.em, .v av], .pc (tmPc z.rm intK intOk pE (rmL (r4 z.R0 z.R1 z.R2 z.R3))), .pc (tmPc z.cm intK intOk pE [((4 : Int), some z.ca)]), .blk z.cr 97 [.v y.1], own 143 6 y.1 (l ++ y.2.1.map fun x => int ((1 : Nat) : Int) :: x), own 26 7 av [core1.cells.map .v]]) [wb p bd bt (57 + 20), .pc (bigP ([] ++ [rpP p (2, z.R2), rpP p (3, z.R3)]))] (by repeat (first | exact List.Perm.nil | refine pk_ (by repeat (first | exact Rem_.here | apply Rem_.there)) ?_)) (J_ rfl)
def plH : Nat → PD → Blks
  | 0, D => [wb D.p D.bd D.bt 5, .pc (bigP [rpP D.p (0, D.z.R0), rpP D.p (1, D.z.R1), rpP D.p (2, D.z.R2), rpP D.p (3, D.z.R3)]), .blk D.z.c 74 [bkI D.p, int 4, int 5, mapV D.z.rm, mapV D.z.cm, ptr D.z.cr, mapV D.z.em, .v D.av], .pc (tmPc D.z.rm intK intOk pE (rmL (r4 D.z.R0 D.z.R1 D.z.R2 D.z.R3))), .pc (tmPc D.z.cm intK intOk pE [((4 : Int), some D.z.ca)]), .blk D.z.cr 97 [.v D.cv], own 143 6 D.cv D.rows, .pc (tmPc D.z.em wdV wdOk boo []), .blk D.z.ca 126 [bkI D.p, int 4, int 4, int 0, .v (.pointer none), .v (.slice none 0 0)]]
  | 1, D => [wb D.p D.bd D.bt 37, .pc (bigP [rpP D.p (0, D.z.R0), rpP D.p (1, D.z.R1), rpP D.p (2, D.z.R2), rpP D.p (3, D.z.R3)]), .blk D.z.c 74 [bkI D.p, int 4, int 5, mapV D.z.rm, mapV D.z.cm, ptr D.z.cr, mapV D.z.em, .v D.av], .pc (tmPc D.z.rm intK intOk pE (rmL (r4 D.z.R0 D.z.R1 D.z.R2 D.z.R3))), .pc (tmPc D.z.cm intK intOk pE [((4 : Int), some D.z.ca)]), .blk D.z.cr 97 [.v D.cv], own 143 6 D.cv D.rows, own 26 7 D.av [core1.cells.map .v]]
  | 2, D => [wb D.p D.bd D.bt 57, .pc (bigP [rpP D.p (1, D.z.R1), rpP D.p (2, D.z.R2), rpP D.p (3, D.z.R3)]), .blk D.z.c 74 [bkI D.p, int 4, int 5, mapV D.z.rm, mapV D.z.cm, ptr D.z.cr, mapV D.z.em, .v D.av], .pc (tmPc D.z.rm intK intOk pE (rmL (r4 D.z.R0 D.z.R1 D.z.R2 D.z.R3))), .pc (tmPc D.z.cm intK intOk pE [((4 : Int), some D.z.ca)]), .blk D.z.cr 97 [.v D.cv], own 143 6 D.cv D.rows, own 26 7 D.av [core1.cells.map .v]]
  | _, D => [.blk D.z.c 74 [bkI D.p, int 4, int 5, mapV D.z.rm, mapV D.z.cm, ptr D.z.cr, mapV D.z.em, .v D.av], .pc (tmPc D.z.rm intK intOk pE (rmL (r4 D.z.R0 D.z.R1 D.z.R2 D.z.R3))), .pc (tmPc D.z.cm intK intOk pE [((4 : Int), some D.z.ca)]), .blk D.z.cr 97 [.v D.cv], own 143 6 D.cv D.rows, own 26 7 D.av [core1.cells.map .v]]
def plOk : Nat → PD → Prop
  | 0, D => D.av = .slice none 0 0 ∧ D.cv = .slice none 0 0 ∧ D.rows = []
  | 1, D => MsOk D.m ∧ D.rows = [sntA 0 D.m, sntA 1 D.m, sntA 2 D.m, sntA 3 D.m]
  | 2, D => MsOk D.m ∧ ∃ l, D.rows = sntA 1 D.m :: l ∧ 1 ≤ l.length ∧ l.length ≤ 20 ∧ ∀ x ∈ l, ones x = true
  | _, _ => True
def plP (k : Nat) (D : PD) : Pc := bigI (plH k D)
def scA : Nat → List Abs
  | 0 => ask0
  | _ => deliver0
theorem scr_at : ∀ {q : Nat}, q < 3 → (scr 2)[q]? = some (scA q)
  | 0, _ => rfl
  | 1, _ => rfl
  | 2, _ => rfl
theorem fJ_ : ∀ {q : Nat}, (scA q).length = 17
  | 0 => rfl
  | _ + 1 => rfl
theorem scA_ones : ∀ {q : Nat}, ones (scA q) = true
  | 0 => rfl
  | _ + 1 => rfl
theorem playK : ∀ {k : Nat} {D : PD}, k < 3 → plOk k D → Spec Tryz.prog 19 [ptr D.z.c, .agg (scA k)] [.pc (plP k D)] (fun D' : {D' : PD // plOk (k + 1) D' ∧ D'.z = D.z} => [.pc (plP (k + 1) D'.1)]) (fun _ => int 0)
  | 0, ⟨z, p, bd, bt, av, cv, m, rows, EM⟩, _, ⟨h1, h2, h3⟩ => by
    dsimp only at h1 h2 h3
    subst h1 h2 h3
    exact Spec.mapI (fun y : Value × {m : Msg // MsOk m} × Value × List ((Int × List UInt8) × Bool) => ⟨⟨z, p, bd, bt, y.1, y.2.2.1, y.2.1.1, (parcels y.2.1.1 (allN 4)).map fun x => int 4 :: x, []⟩, ⟨y.2.1.2, rfl⟩, rfl⟩) (Spec.big play0 rfl fun _ => rfl) (fun _ => rfl) (fun _ => rfl)
  | 1, ⟨z, p, bd, bt, av, cv, m, rows, EM⟩, _, ⟨h1, h2⟩ => by
    dsimp only at h1 h2
    subst h2
    exact Spec.mapI (fun y : Value × {ps : List (List Abs) // ParOk 4 ps} => ⟨⟨z, p, bd, bt, av, y.1, m, [sntA 1 m, sntA 2 m, sntA 3 m] ++ y.2.1.map fun x => int ((0 : Nat) : Int) :: x, []⟩, ⟨h1, [sntA 2 m, sntA 3 m] ++ y.2.1.map fun x => int ((0 : Nat) : Int) :: x, rfl, by simp, by have := y.2.2.1; simp only [List.length_append, List.length_map, List.length_cons, List.length_nil]; omega, fun x hx => by
      rcases List.mem_append.1 hx with hx | hx
      · simp only [List.mem_cons, List.not_mem_nil, or_false] at hx
        rcases hx with rfl | rfl <;> rfl
      · exact ones_par (i := 0) y.2.2 x hx⟩, rfl⟩) (Spec.big (play1 (m := m) (EM := []) (l := [sntA 1 m, sntA 2 m, sntA 3 m]) h1 (by simp) (by simp) (by intro x hx; simp only [List.mem_cons, List.not_mem_nil, or_false] at hx; rcases hx with rfl | rfl | rfl <;> rfl)) rfl fun _ => rfl) (fun _ => rfl) (fun _ => rfl)
  | 2, ⟨z, p, bd, bt, av, cv, m, rows, EM⟩, _, ⟨h1, l, h2, h3, h4, h5⟩ => by
    dsimp only at h1 h2
    subst h2
    exact Spec.mapI (fun y : Value × {ps : List (List Abs) // ParOk 4 ps} => ⟨⟨z, p, bd, bt, av, y.1, m, l ++ y.2.1.map fun x => int ((1 : Nat) : Int) :: x, []⟩, trivial, rfl⟩) (Spec.big (play2 (m := m) (EM := []) (l := l) h1 h3 h4 h5) rfl fun _ => rfl) (fun _ => rfl) (fun _ => rfl)
  | k + 3, _, h, _ => by omega
section
variable {k : Int}
set_option maxHeartbeats 4000000 in
theorem play_s  : Spec Tryz.prog 8 [int 1, .agg set0, .agg core0, .v (.int .u64 7), int 3] [] (fun D : PD => [.pc (plP 3 D)]) (fun D => .tup [ptr D.z.c, int 0]) := by
 refine t_ Tryz.func8 rfl Tryz.ntmps8 rfl fun G w =>c_<|a_<|eb_ (B_ (cs := set0) rfl) rfl rfl fun b6=>?_
 refine eb_ (B_ (cs := core0) rfl) rfl rfl fun b7=>?_
 refine q_ 2 rfl<|d_<|b_<|c_<|a_<|q_ 1 rfl<|slvA (h_ (C := .agg set0) (r_ tabOk rfl rfl rfl l1_ List.not_mem_nil rfl) rfl)<|slvA (h_ (C := .agg core0) (r_ tabOk rfl rfl rfl l0_ List.not_mem_nil rfl) rfl)<|q_ 2 rfl<|slcA (ib_) ?_
 refine ap_<|fun _=>q_ 5 rfl<|d_<|b_<|c_<|c_<|a_<|q_ 2 rfl<|d_<|b_<|l_ rfl (by intro hc27; exfalso; omega) ?_
 intro hc27
 refine o_<|b_<|c_<|Q_ [] (.q 2 (.e 0 (.q 1 (.e 3 (.q 4 (.q 5 (.q 6 (.q 7 (.q 8 .nil))))))))) (by kernel_rfl) (by kernel_rfl) ?_
 refine hxA fun hx9 => ?_
 refine sxvA rfl (h_ (C := .agg set0) (r_ tabOk rfl rfl rfl l1_ List.not_mem_nil rfl) rfl) hx9<|bd_ rfl (jR_) (by simp [mids, It.mids]) Casts.refl (by kernel_rfl) rfl rfl rfl ?_
 refine aftM ?_
 intro z30
 refine hxA fun hx9 => ?_
 refine sxvA rfl (bA_ rfl (fun _ _ => by kernel_rfl)) hx9 ?_
 refine bV_ ([]) rfl (clnew_s (p := z30.1) (bd := z30.2.1) (bt := z30.2.2) (N := 0) (by omega)) (by intro k hk; exact List.mem_append_left _ hk) (by intro k hk; cases hk) Casts.refl (by kernel_rfl) rfl rfl rfl ?_
 refine W_ [] (β := _) rfl (J_ rfl) ?_
 intro z33
 refine qs_ 5 rfl<|F_<|b_<|c_<|c_<|a_<|q_ 1 rfl<|slvA (H_ (m := 3) rfl Tryz.underlying30 rfl)<|q_ 1 rfl<|d_<|b_<|u_<|ct_ [_, _] (Re.out (l1 := []) (l2 := []) (c := clP z30.1 z33.ca)) rfl<|ct_ [_, _] (Re.blkOut (b := z33.ca) (t := 126) (cs := [bkI z30.1, int 4, int 4, int 0, .v (.pointer none), .v (.slice none 0 0)])) rfl<|ct_ [] (Re.cut (xs := [wb z30.1 z30.2.1 z30.2.2 5, .pc (bigP [rpP z30.1 (0, z33.R0), rpP z30.1 (1, z33.R1), rpP z30.1 (2, z33.R2), rpP z30.1 (3, z33.R3)]), .blk z33.ca 126 [bkI z30.1, int 4, int 4, int 0, .v (.pointer none), .v (.slice none 0 0)], .pc (bigP []), .blk z33.c 74 [bkI z30.1, int 4, int 5, mapV z33.rm, mapV z33.cm, ptr z33.cr, mapV z33.em, .v (.slice none 0 0)], .pc (tmPc z33.rm intK intOk pE (rmL (r4 z33.R0 z33.R1 z33.R2 z33.R3))), .pc (tmPc z33.cm intK intOk pE [((4 : Int), some z33.ca)]), .blk z33.cr 97 [.v (.slice none 0 0)], own 143 6 (.slice none 0 0) [], .pc (tmPc z33.em wdV wdOk boo [])]) (ys := [wb z30.1 z30.2.1 z30.2.2 5, .pc (bigP [rpP z30.1 (0, z33.R0), rpP z30.1 (1, z33.R1), rpP z30.1 (2, z33.R2), rpP z30.1 (3, z33.R3)]), .blk z33.c 74 [bkI z30.1, int 4, int 5, mapV z33.rm, mapV z33.cm, ptr z33.cr, mapV z33.em, .v (.slice none 0 0)], .pc (tmPc z33.rm intK intOk pE (rmL (r4 z33.R0 z33.R1 z33.R2 z33.R3))), .pc (tmPc z33.cm intK intOk pE [((4 : Int), some z33.ca)]), .blk z33.cr 97 [.v (.slice none 0 0)], own 143 6 (.slice none 0 0) [], .pc (tmPc z33.em wdV wdOk boo []), .blk z33.ca 126 [bkI z30.1, int 4, int 4, int 0, .v (.pointer none), .v (.slice none 0 0)]]) [.pc (bigP [])] (by repeat (first | exact List.Perm.nil | refine pk_ (by repeat (first | exact Rem_.here | apply Rem_.there)) ?_)) (J_ rfl)) rfl ?_
 refine ct_ [] (Re.bigIn (xs := plH 0 ⟨z33, z30.1, z30.2.1, z30.2.2, .slice none 0 0, .slice none 0 0, ⟨0, 0, [], []⟩, [], []⟩) rfl) rfl<|P_ (ι := Nat × PD) (fun z => [.pc (plP z.1 z.2)]) (fun z => [(36, .sl 17 (scr 2)), (13, int 0), (14, ptr z33.c), (37, int (3 : Nat)), (38, int (z.1 : Nat))]) (fun z => z.1 ≤ 3 ∧ plOk z.1 z.2 ∧ z.2.z = z33) (fun z => 3 - z.1) (0, ⟨z33, z30.1, z30.2.1, z30.2.2, .slice none 0 0, .slice none 0 0, ⟨0, 0, [], []⟩, [], []⟩) (⟨Nat.zero_le _, ⟨rfl, rfl, rfl⟩, rfl⟩) (by exact ⟨rfl, rfl, rfl, rfl, rfl, trivial⟩) (sc_ sn_) ?_
 intro z hz
 refine c_<|a_<|q_ 1 rfl<|d_<|b_<|c_<|l_ rfl ?_ ?_
 rotate_left
 ·intro hc39
  have hz3 : z.1 = 3 := by omega
  rw [hz3]
  refine N_<|j_ nofun<|j_ nofun<|M_<|b_<|c_<|a_<|q_ 4 rfl<|d_<|b_<|k_<|f_ (rs := [.tmp 10, .tmp 11]) rfl (RV.tmp rfl (RV.tmp rfl RV.nil)) (z.2) sr_ ?_
  rw [← hz.2.2]
  rfl
 intro hc39
 have hz3 : z.1 < 3 := by omega
 refine o_<|b_<|c_<|u_<|c_<|a_<|slvA (L_ (s := 17) (q := z.1) (xs := scr 2) (cs := scA z.1) tabOk Tryz.underlying30 rfl rfl rfl rfl (scr_at hz3) rfl rfl)<|slvA (av_ tabOk rfl rfl rfl fJ_)<|eb_ (C_ tabOk rfl) rfl rfl fun b16=>?_
 refine e_ (m_ (L' := scA z.1) tabOk rfl rfl rfl u0_ fJ_ (Nat.le_of_ble_eq_true rfl) scA_ones (by exact p_ fJ_)) rfl rfl ?_
 refine d_<|b_<|a_<|q_ 1 rfl<|slvA (h_ (C := .agg (scA z.1)) (r_ tabOk rfl rfl rfl l0_ List.not_mem_nil fJ_) rfl)<|slcA ((show Spec Tryz.prog 19 [ptr z33.c, .agg (scA z.1)] [.pc (plP z.1 z.2)] (fun D' : {D' : PD // plOk (z.1 + 1) D' ∧ D'.z = z33} => [.pc (plP (z.1 + 1) D'.1)]) (fun _ => int 0) from by have h := playK (k := z.1) (D := z.2) hz3 hz.2.1; rw [hz.2.2] at h; exact h)) ?_
 refine x_ rfl i1_ (fun _ => rfl)<|fun D1=>⟨_, u1_, d_<|w_<|b_<|a_<|slvA (y_ rfl rfl (by simp only [InR, lo, hi]; omega)) ?_⟩
 refine q_ 1 rfl<|d_<|I_ (z.1 + 1, D1.1) (by omega) ((⟨by dsimp only; omega, D1.2.1, D1.2.2⟩)) (by exact ⟨rfl, rfl, rfl, rfl, rfl, trivial⟩) (sk_ sr_)
end
section
variable {k : Int}
set_option maxHeartbeats 4000000 in
theorem fixed45_s  : Spec Tryz.prog 5 [] [] (fun _ : Unit => []) (fun _ => boo true) := by
 refine t_ Tryz.func5 rfl Tryz.ntmps5 rfl fun G w =>c_<|a_<|q_ 1 rfl<|d_<|b_<|c_<|a_<|slvA (h_ (C := .agg core0) (z_ tabOk rfl rfl rfl rfl) rfl)<|eb_ (C_ tabOk rfl) rfl rfl fun b1=>?_
 refine e_ (m_ (L' := core0) tabOk rfl rfl rfl u0_ rfl (Nat.le_of_ble_eq_true rfl) rfl (by exact p_ rfl)) rfl rfl ?_
 refine d_<|b_<|c_<|a_<|slvA (h_ (C := .agg set0) (z_ tabOk rfl rfl rfl rfl) rfl)<|slvA (h_ (C := .agg core0) (r_ tabOk rfl rfl rfl l0_ List.not_mem_nil rfl) rfl)<|slcA (ib_) ?_
 refine ap_<|fun _=>q_ 5 rfl<|d_<|b_<|c_<|a_<|slvA (h_ (C := .agg set0) (z_ tabOk rfl rfl rfl rfl) rfl)<|slvA (h_ (C := .agg core0) (r_ tabOk rfl rfl rfl l0_ List.not_mem_nil rfl) rfl)<|slcA (kk_) ?_
 refine ap_<|fun _=>q_ 5 rfl<|d_<|b_<|c_<|a_<|slvA (h_ (C := .agg set0) (z_ tabOk rfl rfl rfl rfl) rfl)<|slvA (h_ (C := .agg core0) (r_ tabOk rfl rfl rfl l0_ List.not_mem_nil rfl) rfl)<|slcA (play_s) ?_
 refine aftM ?_
 intro z24
 refine q_ 5 rfl<|d_<|b_<|c_<|ct_ [] (Re.bigOut (xs := [.blk z24.z.c 74 [bkI z24.p, int 4, int 5, mapV z24.z.rm, mapV z24.z.cm, ptr z24.z.cr, mapV z24.z.em, .v z24.av], .pc (tmPc z24.z.rm intK intOk pE (rmL (r4 z24.z.R0 z24.z.R1 z24.z.R2 z24.z.R3))), .pc (tmPc z24.z.cm intK intOk pE [((4 : Int), some z24.z.ca)]), .blk z24.z.cr 97 [.v z24.cv], own 143 6 z24.cv z24.rows, own 26 7 z24.av [core1.cells.map .v]]) rfl) rfl<|a_<|q_ 3 rfl<|A_ (t := 29) rfl ?_ (by intro hc29; exfalso; omega)
 intro hc29
 refine q_ 4 rfl<|A_ (t := 33) rfl ?_ (by intro hc33; exfalso; omega)
 intro hc33
 refine q_ 4 rfl<|A_ (t := 37) rfl ?_ (by intro hc37; exfalso; omega)
 intro hc37
 refine q_ 1 rfl<|slvA (H_ (m := 3) rfl Tryz.underlying30 rfl)<|q_ 3 rfl<|A_ (t := 42) rfl ?_ (by intro hc42; exfalso; omega)
 intro hc42
 refine q_ 1 rfl<|slvA (L_ (s := 17) (q := 0) (xs := scr 2) (cs := ask0) tabOk Tryz.underlying30 rfl rfl rfl rfl rfl rfl rfl)<|slvA (X_ tabOk rfl rfl rfl rfl rfl)<|slvA (h_ (C := int 1) (aa_ tabOk rfl rfl rfl) rfl)<|q_ 3 rfl<|A_ (t := 49) rfl ?_ (by intro hc49; exfalso; omega)
 intro hc49
 refine q_ 1 rfl<|slvA (L_ (s := 17) (q := 0) (xs := scr 2) (cs := ask0) tabOk Tryz.underlying30 rfl rfl rfl rfl rfl rfl rfl)<|slvA (X_ tabOk rfl rfl rfl rfl rfl)<|slvA (h_ (C := hon0) (aa_ tabOk rfl rfl rfl) rfl)<|slvA (H_ (m := 4) rfl Tryz.underlying22 rfl)<|q_ 3 rfl<|A_ (t := 57) rfl ?_ (by intro hc57; exfalso; omega)
 intro hc57
 refine slcA (name_s (k := 6)) ?_
 refine ap_<|fun _=>slvA (lp_ rfl rfl)<|q_ 2 rfl<|A_ (t := 61) rfl ?_ (by intro hc61; exfalso; exact hc61 (by decide))
 intro hc61
 refine q_ 1 rfl<|slcA (casked_s (c := z24.z.c) (p := z24.p) (rm := z24.z.rm) (cm := z24.z.cm) (cr := z24.z.cr) (em := z24.z.em) (av := z24.av)) ?_
 refine bE_ [.pc (tmPc z24.z.rm intK intOk pE (rmL (r4 z24.z.R0 z24.z.R1 z24.z.R2 z24.z.R3))), .pc (tmPc z24.z.cm intK intOk pE [((4 : Int), some z24.z.ca)]), .blk z24.z.cr 97 [.v z24.cv], own 143 6 z24.cv z24.rows, .blk b1 26 core0] (fun _ => [.pc (tmPc z24.z.rm intK intOk pE (rmL (r4 z24.z.R0 z24.z.R1 z24.z.R2 z24.z.R3))), .pc (tmPc z24.z.cm intK intOk pE [((4 : Int), some z24.z.ca)]), .blk z24.z.cr 97 [.v z24.cv], own 143 6 z24.cv z24.rows, .blk b1 26 core0]) (by rw [List.perm_iff_count]; intro a; simp only [mids, It.mids, List.flatMap_cons, List.flatMap_nil, List.append_nil, List.nil_append, List.count_append, List.count_cons, List.count_nil, List.cons_append]; omega) (by intro x hx; simp only [List.mem_cons, List.not_mem_nil, or_false] at hx; rcases hx with rfl | rfl <;> exact .inl ⟨(by repeat first|assumption|exact m0_|apply m1_), rfl⟩) (by intro x hx; simp only [List.mem_cons, List.not_mem_nil, or_false] at hx; rcases hx with rfl | rfl | rfl | rfl | rfl <;> repeat first|assumption|exact m0_|apply m1_) (fun _ => (by repeat (first | exact List.Perm.nil | refine pk_ (by repeat (first | exact Rem_.here | apply Rem_.there)) ?_))) ?_
 intro _
 exact slvA (H_ (m := 1) rfl Tryz.underlying51 rfl)<|q_ 3 rfl<|d_<|b_<|k_<|f_ (rs := [.tmp 0]) rfl (RV.tmp rfl RV.nil) (()) sn_<|congrArg (fun b => Abs.v (Value.bool b)) (decide_eq_true rfl)
end
def dgS (d : Nat) : ByteArray := ⟨[UInt8.ofNat (48 + d)].toArray⟩
def posS (t : Nat) (acc : ByteArray) : ByteArray := if h : t = 0 then acc else posS (t / 10) (dgS (t % 10) ++ acc)
termination_by t
decreasing_by omega
theorem fN_ (acc : ByteArray) : posS 0 acc = acc := by
  rw [posS]
  exact dif_pos rfl
theorem io_ {t : Nat} (h : ¬ t = 0) (acc : ByteArray) : posS t acc = posS (t / 10) (dgS (t % 10) ++ acc) := by
  rw [posS]
  exact dif_neg h
def dcN (t : Nat) : Nat := if h : t = 0 then 0 else dcN (t / 10) + 1
termination_by t
decreasing_by omega
theorem kU_ {t : Nat} (h : ¬ t = 0) : dcN t = dcN (t / 10) + 1 := by
  rw [dcN]
  exact dif_neg h
theorem dc_le : ∀ (k t : Nat), t < 10 ^ k → dcN t ≤ k
  | 0, t, h => by
    have : t = 0 := by simp at h; exact h
    subst this
    rw [dcN]
    simp
  | k + 1, t, h => by
    by_cases h0 : t = 0
    · subst h0
      rw [dcN]
      simp
    · rw [kU_ h0]
      have := dc_le k (t / 10) (Nat.div_lt_of_lt_mul (by rw [Nat.mul_comm]; exact h))
      omega
theorem cU_ (d : Nat) : (dgS d).size = 1 := rfl
def digS (v : Nat) : ByteArray := ⟨#[]⟩ ++ posS (v / 10) (dgS (v % 10))
def wordsS (xs : List Int) : ByteArray := xs.foldl (fun acc x => acc ++ ⟨#[32]⟩ ++ digS x.toNat) ⟨#[]⟩
theorem iV_ {xs : List Int} {k : Nat} (h : k < xs.length) : wordsS (xs.take (k + 1)) = wordsS (xs.take k) ++ ⟨#[32]⟩ ++ digS (xs[k]).toNat := by
  unfold wordsS
  rw [List.take_succ_eq_append_getElem h, List.foldl_append]
  rfl
theorem fO_ : ∀ (k t : Nat) (acc : ByteArray), t < 10 ^ k → (posS t acc).size ≤ acc.size + k
  | 0, t, acc, h => by
    have : t = 0 := by simp at h; exact h
    subst this
    rw [fN_]
    exact Nat.le_refl _
  | k + 1, t, acc, h => by
    by_cases h0 : t = 0
    · subst h0
      rw [fN_]
      omega
    · rw [io_ h0]
      have := fO_ k (t / 10) (dgS (t % 10) ++ acc) (Nat.div_lt_of_lt_mul (by rw [Nat.mul_comm]; exact h))
      rw [ByteArray.size_append, cU_] at this
      omega
theorem iE_ {v : Nat} (h : v < 1000) : (digS v).size ≤ 4 := by
  unfold digS
  have := fO_ 3 (v / 10) (dgS (v % 10)) (by omega)
  rw [ByteArray.size_append]
  rw [cU_] at this
  show 0 + _ ≤ _
  omega
theorem iW_ {xs : List Int} (h : ∀ x ∈ xs, 0 ≤ x ∧ x < 1000) : (wordsS xs).size ≤ 5 * xs.length := by
  have key : ∀ (ys : List Int) (acc : ByteArray), (∀ x ∈ ys, 0 ≤ x ∧ x < 1000) → (ys.foldl (fun acc x => acc ++ ⟨#[32]⟩ ++ digS x.toNat) acc).size ≤ acc.size + 5 * ys.length := by
    intro ys
    induction ys with
    | nil => intro acc _; exact Nat.le_refl _
    | cons y ys ih =>
      intro acc hy
      have h1 := ih (acc ++ ⟨#[32]⟩ ++ digS y.toNat) (fun x hx => hy x (List.mem_cons_of_mem _ hx))
      have h2 := hy y List.mem_cons_self
      have h3 := iE_ (v := y.toNat) (by omega)
      rw [ByteArray.size_append, ByteArray.size_append] at h1
      have h4 : (ByteArray.mk #[32]).size = 1 := rfl
      rw [List.foldl_cons, List.length_cons]
      omega
  have := key xs ⟨#[]⟩ h
  have h5 : (ByteArray.mk #[]).size = 0 := rfl
  unfold wordsS
  omega
def mayF (kd : Int) (s : Su) (t : Stp) : Bool := if t.kind = 3 ∨ t.kind = 6 ∨ t.kind = 2 then true else if t.kind = 4 ∨ t.kind = 5 then decide (kd = 6) else if t.kind = 7 then decide (kd ≠ 1) && (decide (t.who ∈ s.li) && !decide (t.to ∈ s.li)) else false
section
variable {p x t d : Nat} {s : Su} {c : Core} {y kd : Int} {xs : List Int} {a : Stp} {acc : ByteArray}
set_option maxHeartbeats 1000000 in
theorem pos_s (hd : d < 10) (ht : t < 1000000000000000000) : Spec Tryz.prog 71 [int (t : Nat), int (d : Nat)] [] (fun _ : Unit => []) (fun _ => .v (.string (posS t (dgS d)))) := by
 have hdc := dc_le 18 t (by omega)
 refine t_ Tryz.func71 rfl Tryz.ntmps71 rfl fun G w =>c_<|a_<|q_ 1 rfl<|d_<|b_<|c_<|a_<|q_ 1 rfl<|slvA (h_ (C := int ((48 + d : Nat))) (y_ rfl rfl (by simp only [InR, lo, hi]; omega)) (congrArg int (by omega))) ?_
 refine slvA (h_ (C := .v (bc (UInt8.ofNat (48 + d)))) (R_ rfl Tryz.underlying5 (by kernel_rfl) (by simp only [InR, lo, hi]; omega)) (congrArg (fun r => Abs.v (.int .u8 r)) (by rw [UInt8.toNat_ofNat_of_lt' (by show 48 + d < 256; omega)]))) ?_
 refine e_ (G_ tabOk Tryz.underlying39 rfl rfl rfl rfl rfl rfl rfl) rfl rfl<|slvA (h_ (C := .v (.string (dgS d))) (bw_ (m := [UInt8.ofNat (48 + d)]) rfl) rfl)<|q_ 1 rfl<|d_<|b_<|c_<|u_<|P_ (ι := Nat × ByteArray) (fun z => []) (fun z => [(0, int (z.1 : Nat)), (5, .v (.string z.2))]) (fun z => posS z.1 z.2 = posS t (dgS d) ∧ z.2.size + dcN z.1 ≤ 19 ∧ z.1 < 1000000000000000000) (fun z => z.1) (t, dgS d) (⟨rfl, by dsimp only; rw [cU_]; omega, ht⟩) (by exact ⟨rfl, rfl, trivial⟩) sn_ ?_
 intro z hz
 refine c_<|c_<|a_<|q_ 2 rfl<|d_<|b_<|l_ rfl ?_ ?_
 rotate_left
 ·intro hc12
  have hz0 : z.1 = 0 := by omega
  refine N_<|j_ nofun<|j_ nofun<|M_<|b_<|c_<|a_<|q_ 2 rfl<|d_<|b_<|k_<|f_ (rs := [.tmp 4]) rfl (RV.tmp rfl RV.nil) (()) sn_ ?_
  rw [← hz.1, hz0, fN_]
  rfl
 intro hc12
 have hz0 : ¬ z.1 = 0 := by omega
 refine o_<|b_<|u_<|c_<|a_<|q_ 1 rfl<|slvA (h_ (C := int ((z.1 % 10 : Nat))) (c0_ rfl rfl (by omega)) (congrArg int (by omega))) ?_
 refine slvA (h_ (C := int ((48 + z.1 % 10 : Nat))) (y_ rfl rfl (by simp only [InR, lo, hi]; omega)) (congrArg int (by omega))) ?_
 refine slvA (h_ (C := .v (bc (UInt8.ofNat (48 + z.1 % 10)))) (R_ rfl Tryz.underlying5 (by kernel_rfl) (by simp only [InR, lo, hi]; omega)) (congrArg (fun r => Abs.v (.int .u8 r)) (by rw [UInt8.toNat_ofNat_of_lt' (by show 48 + z.1 % 10 < 256; omega)]))) ?_
 refine e_ (G_ tabOk Tryz.underlying39 rfl rfl rfl rfl rfl rfl rfl) rfl rfl<|slvA (h_ (C := .v (.string (dgS (z.1 % 10)))) (bw_ (m := [UInt8.ofNat (48 + z.1 % 10)]) rfl) rfl)<|q_ 1 rfl<|slvA (dF_ rfl rfl (by rw [cU_]; have := hz.2.1; omega)) ?_
 refine q_ 1 rfl<|d_<|b_<|a_<|q_ 1 rfl<|slvA (h_ (C := int ((z.1 / 10 : Nat))) (en_ rfl rfl (by omega) (by simp only [InR, lo, hi]; omega)) (congrArg int (by omega))) ?_
 refine q_ 1 rfl<|d_<|w_<|I_ (z.1 / 10, (dgS (z.1 % 10)) ++ z.2) (by omega) ((⟨by dsimp only; rw [← io_ hz0]; exact hz.1, by dsimp only; rw [ByteArray.size_append, cU_]; have := hz.2.1; rw [kU_ hz0] at this; omega, by dsimp only; omega⟩)) (by exact ⟨rfl, rfl, trivial⟩) sn_
theorem dig36_s (ht : t < 1000) : Spec Tryz.prog 38 [int (t : Nat)] [] (fun _ : Unit => []) (fun _ => .v (.string (digS t))) := by
 refine t_ Tryz.func38 rfl Tryz.ntmps38 rfl fun G w =>c_<|a_<|q_ 1 rfl<|d_<|b_<|c_<|a_<|q_ 1 rfl<|d_<|b_<|c_<|c_<|a_<|q_ 2 rfl<|d_<|b_<|l_ rfl (by intro hc5; exfalso; omega) ?_
 intro hc5
 refine o_<|b_<|c_<|a_<|q_ 2 rfl<|slvA (h_ (C := int ((t / 10 : Nat))) (en_ rfl rfl (by omega) (by simp only [InR, lo, hi]; omega)) (congrArg int (by omega))) ?_
 refine q_ 1 rfl<|slvA (h_ (C := int ((t % 10 : Nat))) (c0_ rfl rfl (by omega)) (congrArg int (by omega))) ?_
 refine slcA (pos_s (t := t / 10) (d := t % 10) (by omega) (by omega)) ?_
 refine ap_<|fun _=>slvA (dF_ rfl rfl (by have := fO_ 3 (t / 10) (dgS (t % 10)) (by omega); rw [cU_] at this; show (0 : Int) + _ ≤ _; omega)) ?_
 exact q_ 1 rfl<|d_<|b_<|k_<|f_ (rs := [.tmp 2]) rfl (RV.tmp rfl RV.nil) (()) sn_<|rfl
theorem jQ_ (hn : xs.length ≤ 1000) (hx : ∀ x ∈ xs, 0 ≤ x ∧ x < 1000) : Spec Tryz.prog 21 [ints xs] [] (fun _ : Unit => []) (fun _ => .v (.string (wordsS xs))) := by
 refine t_ Tryz.func21 rfl Tryz.ntmps21 rfl fun G w =>c_<|a_<|q_ 1 rfl<|d_<|b_<|c_<|a_<|q_ 1 rfl<|d_<|b_<|c_<|c_<|a_<|q_ 1 rfl<|slvA (H_ (m := xs.length) rfl Tryz.underlying22 (by rw [List.length_map])) ?_
 refine q_ 1 rfl<|d_<|b_<|u_<|P_ (ι := Nat × Unit) (fun z => []) (fun z => [(3, .v (.string (wordsS (xs.take z.1)))), (6, ints xs), (7, int (xs.length : Nat)), (8, int (z.1 : Nat))]) (fun z => z.1 ≤ xs.length) (fun z => xs.length - z.1) (0, ()) (Nat.zero_le _) (by exact ⟨rfl, rfl, rfl, rfl, trivial⟩) sn_ ?_
 intro z hz
 refine c_<|a_<|q_ 1 rfl<|d_<|b_<|c_<|l_ rfl ?_ ?_
 rotate_left
 ·intro hc9
  refine N_<|j_ nofun<|j_ nofun<|M_<|b_<|c_<|a_<|q_ 2 rfl<|d_<|b_<|k_<|f_ (rs := [.tmp 2]) rfl (RV.tmp rfl RV.nil) (()) sn_ ?_
  rw [List.take_of_length_le (show xs.length ≤ z.1 by omega)]
  rfl
 intro hc9
 have hlt : z.1 < xs.length := by omega
 have hx1 := hx _ (List.getElem_mem hlt)
 have hd4 := iE_ (v := (xs[z.1]'hlt).toNat) (by omega)
 have hws := iW_ (xs := xs.take z.1) (fun x h => hx x (List.mem_of_mem_take h))
 rw [List.length_take] at hws
 refine o_<|b_<|c_<|u_<|c_<|a_<|slvA (L_ tabOk Tryz.underlying22 rfl rfl rfl rfl (a8_ (by omega)) rfl rfl) ?_
 refine slvA (h_ (C := int (((xs[z.1]'hlt).toNat : Nat))) (aa_ tabOk rfl rfl rfl) (congrArg int (Int.toNat_of_nonneg hx1.1).symm))<|q_ 1 rfl<|d_<|b_<|a_<|q_ 1 rfl<|slvA (dF_ rfl rfl (by show _ + (1 : Int) ≤ _; omega)) ?_
 refine q_ 1 rfl<|slcA (dig36_s (t := (xs[z.1]'hlt).toNat) (by omega)) ?_
 refine ap_<|fun _=>slvA (dF_ rfl rfl (by rw [ByteArray.size_append]; have h1 : (ByteArray.mk #[32]).size = 1 := rfl; omega)) ?_
 refine q_ 1 rfl<|d_<|w_<|b_<|a_<|slvA (y_ rfl rfl (by simp only [InR, lo, hi]; omega)) ?_
 refine q_ 1 rfl<|d_<|I_ (z.1 + 1, ()) (by omega) ((by dsimp only; omega)) (by exact ⟨congrArg (fun m => some (Abs.v (.string m))) (iV_ hlt).symm, rfl, rfl, rfl, trivial⟩) sn_
end
theorem cz_ins : Core.ins cz := ⟨by simp only [InR, lo, hi, cz]; omega, by simp only [InR, lo, hi, cz]; omega, by simp only [InR, lo, hi, cz]; omega, by simp only [InR, lo, hi, cz]; omega, by simp only [InR, lo, hi, cz]; omega, by decide, by decide⟩
section
variable {p x t d : Nat} {s : Su} {c : Core} {y kd : Int} {xs : List Int} {a : Stp}
theorem bQ_ (hl : s.li.length ≤ 1000) : Spec Tryz.prog 20 [.agg s.abs, int y] [] (fun _ : Unit => []) (fun _ => boo (decide (y ∈ s.li))) := by
 refine t_ Tryz.func20 rfl Tryz.ntmps20 rfl fun G w =>c_<|a_<|eb_ (B_ (cs := s.abs) rfl) rfl rfl fun b2=>?_
 refine q_ 1 rfl<|d_<|b_<|c_<|c_<|a_<|q_ 1 rfl<|slvA (h_ (C := ints s.li) (g_ tabOk rfl rfl l0_ List.not_mem_nil rfl) rfl)<|slvA (H_ (m := s.li.length) rfl Tryz.underlying22 (by rw [List.length_map])) ?_
 refine q_ 1 rfl<|d_<|b_<|u_<|P_ (ι := Nat) (fun z => [.blk b2 24 s.abs]) (fun z => [(1, int y), (8, ints s.li), (9, int (s.li.length : Nat)), (10, int (z : Nat))]) (fun z => z ≤ s.li.length ∧ ∀ j (hj : j < s.li.length), j < z → s.li[j] ≠ y) (fun z => s.li.length - z) (0) (⟨Nat.zero_le _, by omega⟩) (by exact ⟨rfl, rfl, rfl, rfl, trivial⟩) sr_ ?_
 intro z hz
 refine c_<|a_<|q_ 1 rfl<|d_<|b_<|c_<|l_ rfl ?_ ?_
 rotate_left
 ·intro hc11
  refine N_<|j_ nofun<|j_ nofun<|M_<|b_<|c_<|a_<|q_ 1 rfl<|d_<|b_<|k_<|f_ (rs := [.tmp 4]) rfl (RV.tmp rfl RV.nil) (()) sn_<|congrArg (fun b => Abs.v (Value.bool b)) (decide_eq_false ?_).symm
  intro h
  obtain ⟨j, hj, h2⟩ := List.getElem_of_mem h
  exact hz.2 j hj (by omega) h2
 intro hc11
 have hlt : z < s.li.length := by omega
 refine o_<|b_<|c_<|u_<|c_<|a_<|slvA (L_ tabOk Tryz.underlying22 rfl rfl rfl rfl (a8_ (by omega)) rfl rfl) ?_
 refine slvA (h_ (C := int (s.li[z]'hlt)) (aa_ tabOk rfl rfl rfl) rfl)<|q_ 1 rfl<|d_<|b_<|c_<|a_<|q_ 3 rfl<|d_<|b_<|l_ rfl ?_ ?_
 rotate_left
 ·intro hc16
  refine o_<|w_<|b_<|a_<|slvA (y_ rfl rfl (by simp only [InR, lo, hi]; omega)) ?_
  refine q_ 1 rfl<|d_<|I_ (z + 1) (by omega) (⟨by omega, fun j hj hjz => by rcases Nat.lt_or_ge j z with h1 | h1; exact hz.2 j hj h1; obtain rfl : j = z := (by omega); exact hc16⟩) (by exact ⟨rfl, rfl, rfl, rfl, trivial⟩) sr_
 intro hc16
 refine c_<|a_<|q_ 1 rfl<|d_<|b_<|k_<|S_<|j_ nofun<|j_ nofun<|S_<|j_ nofun<|f_ (rs := [.tmp 4]) rfl (RV.tmp rfl RV.nil) (()) sn_<|congrArg (fun b => Abs.v (Value.bool b)) (decide_eq_true ?_).symm
 exact hc16 ▸ List.getElem_mem hlt
set_option maxHeartbeats 4000000 in
theorem rasks_s (hs : s.Ok) : Spec Tryz.prog 9 [.agg s.abs, coreA c] [] (fun _ : Unit => []) (fun _ => .sl 17 ((asksF s c s.cl.toNat).map Stp.abs)) := by
 have hn := hs.n
 have hf := hs.f
 have hcl := hs.cl
 have hll := hs.li
 have hhl := d8_ (li := s.li) s.n
 refine t_ Tryz.func9 rfl Tryz.ntmps9 rfl fun G w =>c_<|a_<|eb_ (B_ (cs := s.abs) rfl) rfl rfl fun b2=>?_
 refine eb_ (B_ (cs := c.cells.map .v) rfl) rfl rfl fun b3=>?_
 refine q_ 1 rfl<|d_<|b_<|c_<|a_<|q_ 1 rfl<|slvA (h_ (C := int s.f) (g_ tabOk rfl rfl l1_ List.not_mem_nil rfl) rfl)<|slvA (bm_ rfl rfl (by simp only [InR, lo, hi]; omega)) ?_
 refine slvA (h_ (C := int (s.n : Nat)) (y_ rfl rfl (by simp only [InR, lo, hi]; omega)) (congrArg int (by omega))) ?_
 refine q_ 1 rfl<|d_<|b_<|c_<|a_<|q_ 1 rfl<|d_<|b_<|c_<|c_<|a_<|q_ 1 rfl<|d_<|b_<|u_<|aF_ 3 1<|P_ (ι := Nat × Value) (fun z => [own 3 1 z.2 ((hoF s.li z.1).map fun x => [int x]), .blk b3 26 (c.cells.map .v), .blk b2 24 s.abs]) (fun z => [(2, ptr b2), (3, ptr b3), (5, int (s.n : Nat)), (6, .v z.2), (7, int (z.1 : Nat))]) (fun z => z.1 ≤ s.n) (fun z => s.n - z.1) (0, .slice none 0 0) (Nat.zero_le _) (by exact ⟨rfl, rfl, rfl, rfl, rfl, trivial⟩) sr_ ?_
 intro z hz
 refine c_<|c_<|a_<|q_ 3 rfl<|d_<|b_<|l_ rfl ?_ ?_
 ·intro hc16
  refine o_<|b_<|c_<|u_<|c_<|a_<|slvA (h_ (C := .agg (s.abs)) (r_ tabOk rfl rfl rfl l2_ List.not_mem_nil rfl) rfl)<|q_ 1 rfl<|slcA (bQ_ (s := s) (y := ((z.1 : Nat) : Int)) (by omega)) ?_
  refine ap_<|fun _=>slvA (aL_ rfl)<|d_<|b_<|ar_ rfl ?_ ?_
  rotate_left
  ·intro hc22
   refine o_<|w_<|b_<|a_<|q_ 1 rfl<|slvA (y_ rfl rfl (by simp only [InR, lo, hi]; omega)) ?_
   refine q_ 1 rfl<|d_<|I_ (z.1 + 1, z.2) (by omega) ((by dsimp only; omega)) (by exact ⟨rfl, rfl, rfl, rfl, rfl, trivial⟩) (by dsimp only; rw [ho_in (by simpa using hc22)]; repeat (first | exact List.nil_sublist _ | exact List.Sublist.refl _ | apply List.Sublist.cons_cons | apply List.Sublist.cons))
  intro hc22
  refine a_<|q_ 2 rfl<|e_ (G_ tabOk Tryz.underlying22 rfl rfl rfl rfl rfl rfl rfl) rfl rfl<|eb_ (K_ (zs := (hoF s.li (z.1 + 1)).map fun x => [int x]) tabOk [] (by rw [ho_out (by simpa using hc22), List.map_append]; rfl) Tryz.underlying22 rfl rfl rfl rfl rfl rfl (by intro c hc; rw [List.mem_singleton] at hc; subst hc; rfl) (by have := d8_ (li := s.li) z.1; unfold maxLen; simp only [List.length_map, List.length_cons, List.length_nil]; omega) (by have := d8_ (li := s.li) z.1; rw [show Tryz.prog.bytesOf 3 = 8 by kernel_rfl]; simp only [List.length_map, List.length_cons, List.length_nil]; omega)) rfl rfl fun r26=>?_
  refine q_ 1 rfl<|d_<|w_<|b_<|a_<|q_ 1 rfl<|slvA (y_ rfl rfl (by simp only [InR, lo, hi]; omega)) ?_
  refine q_ 1 rfl<|d_<|I_ (z.1 + 1, r26) (by omega) ((by dsimp only; omega)) (by exact ⟨rfl, rfl, rfl, rfl, rfl, trivial⟩) sr_
 intro hc16
 have hz4 : z.1 = s.n := by omega
 refine N_<|j_ nofun<|j_ nofun<|M_<|b_<|c_ ?_
 rw [hz4]
 refine aC_ [] (t := 6) rfl rfl<|a_<|q_ 1 rfl<|d_<|b_<|c_<|c_<|a_<|slvA (h_ (C := int ((s.n + 0 : Nat))) (s_ rfl) rfl)<|q_ 1 rfl<|d_<|b_<|u_<|aF_ 44 17<|P_ (ι := Nat × Value) (fun z => [own 44 17 z.2 ((asksF s c z.1).map Stp.abs), .blk b3 26 (c.cells.map .v), .blk b2 24 s.abs]) (fun z => [(2, ptr b2), (3, ptr b3), (5, int (s.n : Nat)), (6, ints (hoF s.li s.n)), (8, .v z.2), (9, int ((s.n + z.1 : Nat)))]) (fun z => z.1 ≤ s.cl.toNat) (fun z => s.cl.toNat - z.1) (0, .slice none 0 0) (Nat.zero_le _) (by exact ⟨rfl, rfl, rfl, rfl, rfl, rfl, trivial⟩) sr_ ?_
 intro z hz
 refine c_<|c_<|a_<|q_ 3 rfl<|slvA (h_ (C := int s.cl) (g_ tabOk rfl rfl l2_ List.not_mem_nil rfl) rfl)<|slvA (h_ (C := int ((s.n : Nat) + s.cl)) (y_ rfl rfl (by simp only [InR, lo, hi]; omega)) rfl) ?_
 refine q_ 1 rfl<|d_<|b_<|l_ rfl ?_ ?_
 rotate_left
 ·intro hc33
  have hz5 : z.1 = s.cl.toNat := by omega
  refine N_<|j_ nofun<|j_ nofun<|M_<|b_<|c_ ?_
  rw [hz5]
  exact aC_ [] (t := 8) rfl rfl<|a_<|q_ 2 rfl<|d_<|b_<|k_<|f_ (rs := [.tmp 4]) rfl (RV.tmp rfl RV.nil) (()) sn_<|rfl
 intro hc33
 refine o_<|b_<|c_<|u_<|c_<|a_<|slvA (h_ (C := .agg (s.abs)) (r_ tabOk rfl rfl rfl l2_ List.not_mem_nil rfl) rfl)<|q_ 1 rfl<|slcA (bQ_ (s := s) (y := ((s.n + z.1 : Nat) : Int)) (by omega)) ?_
 refine ap_<|fun _=>slvA (aL_ rfl)<|d_<|b_<|ar_ rfl ?_ ?_
 rotate_left
 ·intro hc39
  refine o_<|w_<|b_<|a_<|q_ 1 rfl<|slvA (h_ (C := int ((s.n + (z.1 + 1) : Nat))) (y_ rfl rfl (by simp only [InR, lo, hi]; omega)) (congrArg int (by omega))) ?_
  refine q_ 1 rfl<|d_<|I_ (z.1 + 1, z.2) (by omega) ((by dsimp only; omega)) (by exact ⟨rfl, rfl, rfl, rfl, rfl, rfl, trivial⟩) (by dsimp only; rw [asksF, if_pos (by simpa using hc39)]; repeat (first | exact List.nil_sublist _ | exact List.Sublist.refl _ | apply List.Sublist.cons_cons | apply List.Sublist.cons))
 intro hc39
 refine a_<|q_ 2 rfl<|slvA (h_ (C := .agg (c.cells.map .v)) (r_ tabOk rfl rfl rfl l1_ List.not_mem_nil rfl) rfl)<|q_ 1 rfl<|slvA (aS_ (h_ (C := .agg (stR 1 ((s.n + z.1 : Nat)) 0 0 c (ints (hoF s.li s.n)) 0 (.v (.slice none 0 0)))) (z_ tabOk rfl rfl rfl rfl) rfl) ka_)<|e_ (G_ tabOk Tryz.underlying30 rfl rfl rfl (ah_ rfl) rfl rfl rfl) rfl rfl<|eb_ (K_ (zs := (asksF s c (z.1 + 1)).map Stp.abs) tabOk [] (by rw [asksF, if_neg (by simpa using hc39), List.map_append]; rfl) Tryz.underlying30 rfl rfl rfl rfl rfl rfl (by intro c hc; rw [List.mem_singleton] at hc; subst hc; rfl) (by have := cZ_ (s := s) (c := c) z.1; unfold maxLen; simp only [List.length_map, List.length_cons, List.length_nil]; omega) (by have := cZ_ (s := s) (c := c) z.1; rw [show Tryz.prog.bytesOf 44 = 200 by kernel_rfl]; simp only [List.length_map, List.length_cons, List.length_nil]; omega)) rfl rfl fun r46=>?_
 refine q_ 1 rfl<|d_<|w_<|b_<|a_<|q_ 1 rfl<|slvA (h_ (C := int ((s.n + (z.1 + 1) : Nat))) (y_ rfl rfl (by simp only [InR, lo, hi]; omega)) (congrArg int (by omega))) ?_
 refine q_ 1 rfl<|d_<|I_ (z.1 + 1, r46) (by omega) ((by dsimp only; omega)) (by exact ⟨rfl, rfl, rfl, rfl, rfl, rfl, trivial⟩) sr_
theorem may_s (hl : s.li.length ≤ 1000) : Spec Tryz.prog 11 [int kd, .agg s.abs, .agg a.abs] [] (fun _ : Unit => []) (fun _ => boo (mayF kd s a)) := by
 refine t_ Tryz.func11 rfl Tryz.ntmps11 rfl fun G w =>c_<|a_<|eb_ (B_ (cs := s.abs) rfl) rfl rfl fun b4=>?_
 refine eb_ (B_ (cs := a.abs) rfl) rfl rfl fun b5=>?_
 refine q_ 1 rfl<|d_<|b_<|c_<|c_<|a_<|q_ 1 rfl<|slvA (h_ (C := int a.kind) (g_ tabOk rfl rfl l0_ List.not_mem_nil rfl) rfl)<|d_<|b_<|u_<|c_<|c_<|a_<|q_ 2 rfl<|d_<|b_<|l_ rfl ?_ ?_
 ·intro hc9
  refine o_<|b_<|l_ rfl ?_ ?_
  ·intro hc9
   refine c_<|a_<|q_ 1 rfl<|d_<|b_<|k_<|S_<|j_ nofun<|f_ (rs := [.tmp 6]) rfl (RV.tmp rfl RV.nil) (()) sn_<|congrArg (fun b => Abs.v (Value.bool b)) ?_
   unfold mayF
   simp_all
  intro hc9
  refine c_<|c_<|a_<|q_ 2 rfl<|d_<|b_<|l_ rfl ?_ ?_
  ·intro hc13
   refine o_<|b_<|l_ rfl ?_ ?_
   ·intro hc13
    refine c_<|a_<|q_ 3 rfl<|d_<|b_<|k_<|S_<|j_ nofun<|f_ (rs := [.tmp 6]) rfl (RV.tmp rfl RV.nil) (()) sn_<|congrArg (fun b => Abs.v (Value.bool b)) ?_
    unfold mayF
    simp_all
   intro hc13
   refine c_<|a_<|q_ 2 rfl<|d_<|b_<|l_ rfl ?_ ?_
   rotate_left
   ·intro hc18
    refine o_<|w_<|b_<|c_<|a_<|q_ 1 rfl<|d_<|b_<|k_<|f_ (rs := [.tmp 6]) rfl (RV.tmp rfl RV.nil) (()) sn_<|congrArg (fun b => Abs.v (Value.bool b)) ?_
    unfold mayF
    simp_all
   intro hc18
   refine c_<|a_<|q_ 3 rfl<|A_ (t := 22) rfl ?_ ?_
   rotate_left
   ·intro hc22
    refine q_ 13 rfl<|d_<|b_<|k_<|S_<|j_ nofun<|f_ (rs := [.tmp 6]) rfl (RV.tmp rfl RV.nil) (()) sn_<|congrArg (fun b => Abs.v (Value.bool b)) ?_
    unfold mayF
    simp_all
   intro hc22
   refine slvA (h_ (C := .agg (s.abs)) (r_ tabOk rfl rfl rfl l1_ List.not_mem_nil rfl) rfl)<|q_ 1 rfl<|slvA (h_ (C := int a.who) (g_ tabOk rfl rfl l0_ List.not_mem_nil rfl) rfl)<|slcA (bQ_ (s := s) (y := a.who) hl) ?_
   refine ap_<|fun _=>q_ 2 rfl<|b5_ (t := 28) rfl ?_ ?_
   rotate_left
   ·intro hc28
    refine q_ 7 rfl<|d_<|b_<|k_<|S_<|j_ nofun<|f_ (rs := [.tmp 6]) rfl (RV.tmp rfl RV.nil) (()) sn_<|congrArg (fun b => Abs.v (Value.bool b)) ?_
    unfold mayF
    simp_all
   intro hc28
   refine slvA (h_ (C := .agg (s.abs)) (r_ tabOk rfl rfl rfl l1_ List.not_mem_nil rfl) rfl)<|q_ 1 rfl<|slvA (h_ (C := int a.to) (g_ tabOk rfl rfl l0_ List.not_mem_nil rfl) rfl)<|slcA (bQ_ (s := s) (y := a.to) hl) ?_
   refine ap_<|fun _=>slvA (aL_ rfl)<|q_ 2 rfl<|d_<|b_<|k_<|S_<|j_ nofun<|f_ (rs := [.tmp 6]) rfl (RV.tmp rfl RV.nil) (()) sn_<|congrArg (fun b => Abs.v (Value.bool b)) ?_
   unfold mayF
   simp_all
  intro hc13
  refine a_<|q_ 2 rfl<|d_<|b_<|l_ rfl ?_ ?_
  ·intro hc13
   refine c_<|a_<|q_ 3 rfl<|d_<|b_<|k_<|S_<|j_ nofun<|f_ (rs := [.tmp 6]) rfl (RV.tmp rfl RV.nil) (()) sn_<|congrArg (fun b => Abs.v (Value.bool b)) ?_
   unfold mayF
   simp_all
  intro hc13
  refine c_<|a_<|q_ 2 rfl<|d_<|b_<|l_ rfl ?_ ?_
  rotate_left
  ·intro hc18
   refine o_<|w_<|b_<|c_<|a_<|q_ 1 rfl<|d_<|b_<|k_<|f_ (rs := [.tmp 6]) rfl (RV.tmp rfl RV.nil) (()) sn_<|congrArg (fun b => Abs.v (Value.bool b)) ?_
   unfold mayF
   simp_all
  intro hc18
  refine c_<|a_<|q_ 3 rfl<|A_ (t := 22) rfl ?_ ?_
  rotate_left
  ·intro hc22
   refine q_ 13 rfl<|d_<|b_<|k_<|S_<|j_ nofun<|f_ (rs := [.tmp 6]) rfl (RV.tmp rfl RV.nil) (()) sn_<|congrArg (fun b => Abs.v (Value.bool b)) ?_
   unfold mayF
   simp_all
  intro hc22
  refine slvA (h_ (C := .agg (s.abs)) (r_ tabOk rfl rfl rfl l1_ List.not_mem_nil rfl) rfl)<|q_ 1 rfl<|slvA (h_ (C := int a.who) (g_ tabOk rfl rfl l0_ List.not_mem_nil rfl) rfl)<|slcA (bQ_ (s := s) (y := a.who) hl) ?_
  refine ap_<|fun _=>q_ 2 rfl<|b5_ (t := 28) rfl ?_ ?_
  rotate_left
  ·intro hc28
   refine q_ 7 rfl<|d_<|b_<|k_<|S_<|j_ nofun<|f_ (rs := [.tmp 6]) rfl (RV.tmp rfl RV.nil) (()) sn_<|congrArg (fun b => Abs.v (Value.bool b)) ?_
   unfold mayF
   simp_all
  intro hc28
  refine slvA (h_ (C := .agg (s.abs)) (r_ tabOk rfl rfl rfl l1_ List.not_mem_nil rfl) rfl)<|q_ 1 rfl<|slvA (h_ (C := int a.to) (g_ tabOk rfl rfl l0_ List.not_mem_nil rfl) rfl)<|slcA (bQ_ (s := s) (y := a.to) hl) ?_
  refine ap_<|fun _=>slvA (aL_ rfl)<|q_ 2 rfl<|d_<|b_<|k_<|S_<|j_ nofun<|f_ (rs := [.tmp 6]) rfl (RV.tmp rfl RV.nil) (()) sn_<|congrArg (fun b => Abs.v (Value.bool b)) ?_
  unfold mayF
  simp_all
 intro hc9
 refine c_<|a_<|q_ 2 rfl<|d_<|b_<|l_ rfl ?_ ?_
 ·intro hc9
  refine o_<|b_<|l_ rfl ?_ ?_
  ·intro hc9
   refine c_<|a_<|q_ 1 rfl<|d_<|b_<|k_<|S_<|j_ nofun<|f_ (rs := [.tmp 6]) rfl (RV.tmp rfl RV.nil) (()) sn_<|congrArg (fun b => Abs.v (Value.bool b)) ?_
   unfold mayF
   simp_all
  intro hc9
  refine c_<|c_<|a_<|q_ 2 rfl<|d_<|b_<|l_ rfl ?_ ?_
  ·intro hc13
   refine o_<|b_<|l_ rfl ?_ ?_
   ·intro hc13
    refine c_<|a_<|q_ 3 rfl<|d_<|b_<|k_<|S_<|j_ nofun<|f_ (rs := [.tmp 6]) rfl (RV.tmp rfl RV.nil) (()) sn_<|congrArg (fun b => Abs.v (Value.bool b)) ?_
    unfold mayF
    simp_all
   intro hc13
   refine c_<|a_<|q_ 2 rfl<|d_<|b_<|l_ rfl ?_ ?_
   rotate_left
   ·intro hc18
    refine o_<|w_<|b_<|c_<|a_<|q_ 1 rfl<|d_<|b_<|k_<|f_ (rs := [.tmp 6]) rfl (RV.tmp rfl RV.nil) (()) sn_<|congrArg (fun b => Abs.v (Value.bool b)) ?_
    unfold mayF
    simp_all
   intro hc18
   refine c_<|a_<|q_ 3 rfl<|A_ (t := 22) rfl ?_ ?_
   rotate_left
   ·intro hc22
    refine q_ 13 rfl<|d_<|b_<|k_<|S_<|j_ nofun<|f_ (rs := [.tmp 6]) rfl (RV.tmp rfl RV.nil) (()) sn_<|congrArg (fun b => Abs.v (Value.bool b)) ?_
    unfold mayF
    simp_all
   intro hc22
   refine slvA (h_ (C := .agg (s.abs)) (r_ tabOk rfl rfl rfl l1_ List.not_mem_nil rfl) rfl)<|q_ 1 rfl<|slvA (h_ (C := int a.who) (g_ tabOk rfl rfl l0_ List.not_mem_nil rfl) rfl)<|slcA (bQ_ (s := s) (y := a.who) hl) ?_
   refine ap_<|fun _=>q_ 2 rfl<|b5_ (t := 28) rfl ?_ ?_
   rotate_left
   ·intro hc28
    refine q_ 7 rfl<|d_<|b_<|k_<|S_<|j_ nofun<|f_ (rs := [.tmp 6]) rfl (RV.tmp rfl RV.nil) (()) sn_<|congrArg (fun b => Abs.v (Value.bool b)) ?_
    unfold mayF
    simp_all
   intro hc28
   refine slvA (h_ (C := .agg (s.abs)) (r_ tabOk rfl rfl rfl l1_ List.not_mem_nil rfl) rfl)<|q_ 1 rfl<|slvA (h_ (C := int a.to) (g_ tabOk rfl rfl l0_ List.not_mem_nil rfl) rfl)<|slcA (bQ_ (s := s) (y := a.to) hl) ?_
   refine ap_<|fun _=>slvA (aL_ rfl)<|q_ 2 rfl<|d_<|b_<|k_<|S_<|j_ nofun<|f_ (rs := [.tmp 6]) rfl (RV.tmp rfl RV.nil) (()) sn_<|congrArg (fun b => Abs.v (Value.bool b)) ?_
   unfold mayF
   simp_all
  intro hc13
  refine a_<|q_ 2 rfl<|d_<|b_<|l_ rfl ?_ ?_
  ·intro hc13
   refine c_<|a_<|q_ 3 rfl<|d_<|b_<|k_<|S_<|j_ nofun<|f_ (rs := [.tmp 6]) rfl (RV.tmp rfl RV.nil) (()) sn_<|congrArg (fun b => Abs.v (Value.bool b)) ?_
   unfold mayF
   simp_all
  intro hc13
  refine c_<|a_<|q_ 2 rfl<|d_<|b_<|l_ rfl ?_ ?_
  rotate_left
  ·intro hc18
   refine o_<|w_<|b_<|c_<|a_<|q_ 1 rfl<|d_<|b_<|k_<|f_ (rs := [.tmp 6]) rfl (RV.tmp rfl RV.nil) (()) sn_<|congrArg (fun b => Abs.v (Value.bool b)) ?_
   unfold mayF
   simp_all
  intro hc18
  refine c_<|a_<|q_ 3 rfl<|A_ (t := 22) rfl ?_ ?_
  rotate_left
  ·intro hc22
   refine q_ 13 rfl<|d_<|b_<|k_<|S_<|j_ nofun<|f_ (rs := [.tmp 6]) rfl (RV.tmp rfl RV.nil) (()) sn_<|congrArg (fun b => Abs.v (Value.bool b)) ?_
   unfold mayF
   simp_all
  intro hc22
  refine slvA (h_ (C := .agg (s.abs)) (r_ tabOk rfl rfl rfl l1_ List.not_mem_nil rfl) rfl)<|q_ 1 rfl<|slvA (h_ (C := int a.who) (g_ tabOk rfl rfl l0_ List.not_mem_nil rfl) rfl)<|slcA (bQ_ (s := s) (y := a.who) hl) ?_
  refine ap_<|fun _=>q_ 2 rfl<|b5_ (t := 28) rfl ?_ ?_
  rotate_left
  ·intro hc28
   refine q_ 7 rfl<|d_<|b_<|k_<|S_<|j_ nofun<|f_ (rs := [.tmp 6]) rfl (RV.tmp rfl RV.nil) (()) sn_<|congrArg (fun b => Abs.v (Value.bool b)) ?_
   unfold mayF
   simp_all
  intro hc28
  refine slvA (h_ (C := .agg (s.abs)) (r_ tabOk rfl rfl rfl l1_ List.not_mem_nil rfl) rfl)<|q_ 1 rfl<|slvA (h_ (C := int a.to) (g_ tabOk rfl rfl l0_ List.not_mem_nil rfl) rfl)<|slcA (bQ_ (s := s) (y := a.to) hl) ?_
  refine ap_<|fun _=>slvA (aL_ rfl)<|q_ 2 rfl<|d_<|b_<|k_<|S_<|j_ nofun<|f_ (rs := [.tmp 6]) rfl (RV.tmp rfl RV.nil) (()) sn_<|congrArg (fun b => Abs.v (Value.bool b)) ?_
  unfold mayF
  simp_all
 intro hc9
 refine a_<|q_ 2 rfl<|d_<|b_<|l_ rfl ?_ ?_
 ·intro hc9
  refine c_<|a_<|q_ 1 rfl<|d_<|b_<|k_<|S_<|j_ nofun<|f_ (rs := [.tmp 6]) rfl (RV.tmp rfl RV.nil) (()) sn_<|congrArg (fun b => Abs.v (Value.bool b)) ?_
  unfold mayF
  simp_all
 intro hc9
 refine c_<|c_<|a_<|q_ 2 rfl<|d_<|b_<|l_ rfl ?_ ?_
 ·intro hc13
  refine o_<|b_<|l_ rfl ?_ ?_
  ·intro hc13
   refine c_<|a_<|q_ 3 rfl<|d_<|b_<|k_<|S_<|j_ nofun<|f_ (rs := [.tmp 6]) rfl (RV.tmp rfl RV.nil) (()) sn_<|congrArg (fun b => Abs.v (Value.bool b)) ?_
   unfold mayF
   simp_all
  intro hc13
  refine c_<|a_<|q_ 2 rfl<|d_<|b_<|l_ rfl ?_ ?_
  rotate_left
  ·intro hc18
   refine o_<|w_<|b_<|c_<|a_<|q_ 1 rfl<|d_<|b_<|k_<|f_ (rs := [.tmp 6]) rfl (RV.tmp rfl RV.nil) (()) sn_<|congrArg (fun b => Abs.v (Value.bool b)) ?_
   unfold mayF
   simp_all
  intro hc18
  refine c_<|a_<|q_ 3 rfl<|A_ (t := 22) rfl ?_ ?_
  rotate_left
  ·intro hc22
   refine q_ 13 rfl<|d_<|b_<|k_<|S_<|j_ nofun<|f_ (rs := [.tmp 6]) rfl (RV.tmp rfl RV.nil) (()) sn_<|congrArg (fun b => Abs.v (Value.bool b)) ?_
   unfold mayF
   simp_all
  intro hc22
  refine slvA (h_ (C := .agg (s.abs)) (r_ tabOk rfl rfl rfl l1_ List.not_mem_nil rfl) rfl)<|q_ 1 rfl<|slvA (h_ (C := int a.who) (g_ tabOk rfl rfl l0_ List.not_mem_nil rfl) rfl)<|slcA (bQ_ (s := s) (y := a.who) hl) ?_
  refine ap_<|fun _=>q_ 2 rfl<|b5_ (t := 28) rfl ?_ ?_
  rotate_left
  ·intro hc28
   refine q_ 7 rfl<|d_<|b_<|k_<|S_<|j_ nofun<|f_ (rs := [.tmp 6]) rfl (RV.tmp rfl RV.nil) (()) sn_<|congrArg (fun b => Abs.v (Value.bool b)) ?_
   unfold mayF
   simp_all
  intro hc28
  refine slvA (h_ (C := .agg (s.abs)) (r_ tabOk rfl rfl rfl l1_ List.not_mem_nil rfl) rfl)<|q_ 1 rfl<|slvA (h_ (C := int a.to) (g_ tabOk rfl rfl l0_ List.not_mem_nil rfl) rfl)<|slcA (bQ_ (s := s) (y := a.to) hl) ?_
  refine ap_<|fun _=>slvA (aL_ rfl)<|q_ 2 rfl<|d_<|b_<|k_<|S_<|j_ nofun<|f_ (rs := [.tmp 6]) rfl (RV.tmp rfl RV.nil) (()) sn_<|congrArg (fun b => Abs.v (Value.bool b)) ?_
  unfold mayF
  simp_all
 intro hc13
 refine a_<|q_ 2 rfl<|d_<|b_<|l_ rfl ?_ ?_
 ·intro hc13
  refine c_<|a_<|q_ 3 rfl<|d_<|b_<|k_<|S_<|j_ nofun<|f_ (rs := [.tmp 6]) rfl (RV.tmp rfl RV.nil) (()) sn_<|congrArg (fun b => Abs.v (Value.bool b)) ?_
  unfold mayF
  simp_all
 intro hc13
 refine c_<|a_<|q_ 2 rfl<|d_<|b_<|l_ rfl ?_ ?_
 rotate_left
 ·intro hc18
  refine o_<|w_<|b_<|c_<|a_<|q_ 1 rfl<|d_<|b_<|k_<|f_ (rs := [.tmp 6]) rfl (RV.tmp rfl RV.nil) (()) sn_<|congrArg (fun b => Abs.v (Value.bool b)) ?_
  unfold mayF
  simp_all
 intro hc18
 refine c_<|a_<|q_ 3 rfl<|A_ (t := 22) rfl ?_ ?_
 rotate_left
 ·intro hc22
  refine q_ 13 rfl<|d_<|b_<|k_<|S_<|j_ nofun<|f_ (rs := [.tmp 6]) rfl (RV.tmp rfl RV.nil) (()) sn_<|congrArg (fun b => Abs.v (Value.bool b)) ?_
  unfold mayF
  simp_all
 intro hc22
 refine slvA (h_ (C := .agg (s.abs)) (r_ tabOk rfl rfl rfl l1_ List.not_mem_nil rfl) rfl)<|q_ 1 rfl<|slvA (h_ (C := int a.who) (g_ tabOk rfl rfl l0_ List.not_mem_nil rfl) rfl)<|slcA (bQ_ (s := s) (y := a.who) hl) ?_
 refine ap_<|fun _=>q_ 2 rfl<|b5_ (t := 28) rfl ?_ ?_
 rotate_left
 ·intro hc28
  refine q_ 7 rfl<|d_<|b_<|k_<|S_<|j_ nofun<|f_ (rs := [.tmp 6]) rfl (RV.tmp rfl RV.nil) (()) sn_<|congrArg (fun b => Abs.v (Value.bool b)) ?_
  unfold mayF
  simp_all
 intro hc28
 refine slvA (h_ (C := .agg (s.abs)) (r_ tabOk rfl rfl rfl l1_ List.not_mem_nil rfl) rfl)<|q_ 1 rfl<|slvA (h_ (C := int a.to) (g_ tabOk rfl rfl l0_ List.not_mem_nil rfl) rfl)<|slcA (bQ_ (s := s) (y := a.to) hl) ?_
 refine ap_<|fun _=>slvA (aL_ rfl)<|q_ 2 rfl<|d_<|b_<|k_<|S_<|j_ nofun<|f_ (rs := [.tmp 6]) rfl (RV.tmp rfl RV.nil) (()) sn_<|congrArg (fun b => Abs.v (Value.bool b)) ?_
 unfold mayF
 simp_all
end
section
variable {a : Stp}
set_option maxHeartbeats 4000000 in
theorem id_ (hi : Core.ins a.c) (hn : a.orgs.length ≤ 1000) (ho : ∀ x ∈ a.orgs, 0 ≤ x ∧ x < 1000) : Spec Tryz.prog 10 [.agg a.abs, .agg a.abs] [] (fun _ : Unit => []) (fun _ => boo true) := by
 refine t_ Tryz.func10 rfl Tryz.ntmps10 rfl fun G w =>c_<|a_<|eb_ (B_ (cs := a.abs) rfl) rfl rfl fun b2=>?_
 refine eb_ (B_ (cs := a.abs) rfl) rfl rfl fun b3=>?_
 refine q_ 1 rfl<|d_<|b_<|bL_ (ι := Nat × Nat) (fun y => [.blk y.2 42 [int a.mkd, int 0, byt a.body, .v (.slice none 0 0)], .blk y.1 42 [int a.mkd, int 0, byt a.body, .v (.slice none 0 0)], .blk b3 44 a.abs, .blk b2 44 a.abs]) (fun y => [(2, ptr b2), (3, ptr b3), (5, ptr y.1), (6, ptr y.2)]) (fun y => True) ?_ ?_
 ·skip
  refine Q_ [] (.q 0 (.q 1 (.q 2 (.q 3 (.two 4 5 (.e 5 (.e 6 (.e 7 .nil))) (.e 4 (.e 6 (.e 7 .nil)))))))) (by kernel_rfl) (by kernel_rfl) ?_
  refine qs_ 1 rfl<|hx_ fun hx9 =>sxvA rfl (h_ (C := .agg ([int a.mkd, int 0, byt a.body, .v (.slice none 0 0)])) (ad_ tabOk rfl rfl rfl l1_ List.not_mem_nil (Nat.le_of_ble_eq_true rfl)) rfl) hx9<|qs_ 1 rfl<|sxvA rfl (h_ (C := .agg ([int a.mkd, int 0, byt a.body, .v (.slice none 0 0)])) (ad_ tabOk rfl rfl rfl l0_ List.not_mem_nil (Nat.le_of_ble_eq_true rfl)) rfl) hx9<|aV_ ?_ ?_
  ·skip
   refine aO_ tabOk rfl rfl rfl rfl fun b5 =>aO_ tabOk rfl rfl rfl rfl fun b6 =>ex_ rfl (m_ (L' := [int a.mkd, int 0, byt a.body, .v (.slice none 0 0)]) tabOk rfl rfl rfl u1_ rfl (Nat.le_of_ble_eq_true rfl) rfl (by exact p_ rfl)) (by simp) rfl rfl ?_
   refine ex_ rfl (m_ (L' := [int a.mkd, int 0, byt a.body, .v (.slice none 0 0)]) tabOk rfl rfl rfl u0_ rfl (Nat.le_of_ble_eq_true rfl) rfl (by exact p_ rfl)) (by simp) rfl rfl ?_
   refine F_<|aw_ (b5, b6) (trivial) (by exact ⟨rfl, rfl, rfl, rfl, trivial⟩) sr_
  skip
  refine aO_ tabOk rfl rfl rfl rfl fun b6 =>aO_ tabOk rfl rfl rfl rfl fun b5 =>ex_ rfl (m_ (L' := [int a.mkd, int 0, byt a.body, .v (.slice none 0 0)]) tabOk rfl rfl rfl u0_ rfl (Nat.le_of_ble_eq_true rfl) rfl (by exact p_ rfl)) (by simp) rfl rfl ?_
  refine ex_ rfl (m_ (L' := [int a.mkd, int 0, byt a.body, .v (.slice none 0 0)]) tabOk rfl rfl rfl u1_ rfl (Nat.le_of_ble_eq_true rfl) rfl (by exact p_ rfl)) (by simp) rfl rfl ?_
  refine F_<|e8_ (τ := [.blk b6 42 [int a.mkd, int 0, byt a.body, .v (.slice none 0 0)], .blk b5 42 [int a.mkd, int 0, byt a.body, .v (.slice none 0 0)], .blk b3 44 a.abs, .blk b2 44 a.abs]) (by repeat (first | exact List.Perm.nil | refine pk_ (by repeat (first | exact Rem_.here | apply Rem_.there)) ?_)) ?_
  refine aw_ (b5, b6) (trivial) (by exact ⟨rfl, rfl, rfl, rfl, trivial⟩) sr_
 intro y hy
 obtain ⟨b5, b6⟩ := y
 dsimp only
 refine c_<|c_<|Q_ [] (.q 0 (.q 1 (.q 2 (.q 3 (.q 4 (.q 5 (.q 6 (.q 7 (.q 8 (.q 9 (.q 10 (.q 11 (.q 12 (.q 13 (.q 14 (.q 15 (.q 16 (.q 17 (.q 18 (.q 19 (.q 20 (.q 21 (.q 22 (.q 23 (.q 24 (.q 25 (.q 26 (.q 27 (.q 28 (.q 29 (.q 30 (.q 31 (.q 32 (.q 33 (.q 34 (.q 35 (.q 36 (.q 37 (.q 38 (.q 39 (.q 40 (.q 41 (.q 42 (.q 44 (.q 45 (.e 43 (.e 46 (.q 47 (.q 48 .nil))))))))))))))))))))))))))))))))))))))))))))))))) (by kernel_rfl) (by kernel_rfl) ?_
 refine qs_ 1 rfl<|sxvA rfl (g_ tabOk rfl rfl l3_ List.not_mem_nil rfl) (by simp) ?_
 refine qs_ 1 rfl<|sxvA rfl (g_ tabOk rfl rfl l2_ List.not_mem_nil rfl) (by simp) ?_
 refine qs_ 2 rfl<|aK_ (t := 17) rfl (by intro hc17; exfalso; exact hc17 rfl) ?_
 intro hc17
 refine qs_ 1 rfl<|sxvA rfl (g_ tabOk rfl rfl l3_ List.not_mem_nil rfl) (by simp) ?_
 refine qs_ 1 rfl<|sxvA rfl (g_ tabOk rfl rfl l2_ List.not_mem_nil rfl) (by simp) ?_
 refine qs_ 3 rfl<|aK_ (t := 24) rfl (by intro hc24; exfalso; exact hc24 rfl) ?_
 intro hc24
 refine qs_ 1 rfl<|sxvA rfl (g_ tabOk rfl rfl l3_ List.not_mem_nil rfl) (by simp) ?_
 refine qs_ 1 rfl<|sxvA rfl (g_ tabOk rfl rfl l2_ List.not_mem_nil rfl) (by simp) ?_
 refine qs_ 3 rfl<|aK_ (t := 31) rfl (by intro hc31; exfalso; exact hc31 rfl) ?_
 intro hc31
 refine qs_ 1 rfl<|sxvA rfl (g_ tabOk rfl rfl l3_ List.not_mem_nil rfl) (by simp) ?_
 refine qs_ 1 rfl<|sxvA rfl (g_ tabOk rfl rfl l2_ List.not_mem_nil rfl) (by simp) ?_
 refine qs_ 3 rfl<|aK_ (t := 38) rfl (by intro hc38; exfalso; exact hc38 rfl) ?_
 intro hc38
 refine qs_ 1 rfl<|hx_ fun hx9 =>sxvA rfl (h_ (C := coreA a.c) (ad_ tabOk rfl rfl rfl l3_ List.not_mem_nil (Nat.le_of_ble_eq_true rfl)) rfl) hx9<|qs_ 1 rfl<|sxvA rfl (h_ (C := coreA a.c) (ad_ tabOk rfl rfl rfl l2_ List.not_mem_nil (Nat.le_of_ble_eq_true rfl)) rfl) hx9<|sxvA rfl (hT_ rfl rfl (cm_ _) (cm_ _) (by kernel_rfl) (neqCo hi hi)) hx9 ?_
 refine qs_ 2 rfl<|aK_ (t := 45) rfl (by intro hc45; exfalso; exact hc45 rfl) ?_
 intro hc45
 refine qs_ 1 rfl<|sxvA rfl (g_ tabOk rfl rfl l3_ List.not_mem_nil rfl) (by simp) ?_
 refine qs_ 1 rfl<|sxvA rfl (g_ tabOk rfl rfl l2_ List.not_mem_nil rfl) (by simp) ?_
 refine qs_ 3 rfl<|aK_ (t := 52) rfl (by intro hc52; exfalso; exact hc52 rfl) ?_
 intro hc52
 refine qs_ 1 rfl<|sxvA rfl (g_ tabOk rfl rfl l3_ List.not_mem_nil rfl) (by simp) ?_
 refine qs_ 1 rfl<|sxvA rfl (g_ tabOk rfl rfl l2_ List.not_mem_nil rfl) (by simp) ?_
 refine D_ rfl (jQ_ (xs := a.orgs) hn ho) (by simp [mids, It.mids]) Casts.refl (by kernel_rfl) rfl rfl rfl ?_
 refine ap_<|fun _=>D_ rfl (jQ_ (xs := a.orgs) hn ho) (by simp [mids, It.mids]) Casts.refl (by kernel_rfl) rfl rfl rfl ?_
 refine ap_<|fun _=>sxvA rfl (f9_ rfl rfl) (by simp) ?_
 refine qs_ 1 rfl<|F_<|b_<|l_ rfl (by intro hc60; exfalso; exact hc60 rfl) ?_
 intro hc60
 refine o_<|b_<|c_<|c_<|a_<|q_ 1 rfl<|slvA (g_ tabOk rfl rfl l1_ List.not_mem_nil rfl)<|q_ 1 rfl<|slvA (g_ tabOk rfl rfl l0_ List.not_mem_nil rfl)<|q_ 2 rfl<|A_ (t := 66) rfl (by intro hc66; exfalso; exact hc66 rfl) ?_
 intro hc66
 refine q_ 1 rfl<|slvA (g_ tabOk rfl rfl l1_ List.not_mem_nil rfl)<|q_ 1 rfl<|slvA (g_ tabOk rfl rfl l0_ List.not_mem_nil rfl)<|q_ 3 rfl<|A_ (t := 73) rfl (by intro hc73; exfalso; exact hc73 rfl) ?_
 intro hc73
 refine q_ 1 rfl<|slvA (g_ tabOk rfl rfl l1_ List.not_mem_nil rfl)<|slvA (bw_ rfl)<|q_ 1 rfl<|slvA (g_ tabOk rfl rfl l0_ List.not_mem_nil rfl)<|slvA (bw_ rfl)<|slvA (f9_ rfl rfl)<|q_ 2 rfl<|A_ (t := 82) rfl (by intro hc82; exfalso; exact hc82 rfl) ?_
 intro hc82
 refine q_ 1 rfl<|slvA (g_ tabOk rfl rfl l1_ List.not_mem_nil rfl)<|slvA (ae_ rfl Tryz.underlying40)<|q_ 1 rfl<|slvA (g_ tabOk rfl rfl l0_ List.not_mem_nil rfl)<|slvA (ae_ rfl Tryz.underlying40)<|q_ 2 rfl<|d_<|b_<|l_ rfl (by intro hc90; exfalso; exact hc90 rfl) ?_
 intro hc90
 refine o_<|b_<|c_<|c_<|a_<|q_ 1 rfl<|slvA (g_ tabOk rfl rfl l1_ List.not_mem_nil rfl)<|slvA (ae_ rfl Tryz.underlying40)<|q_ 1 rfl<|d_<|b_<|u_<|P_ (ι := Unit) (fun z => []) (fun z => [(93, int (0 : Nat)), (94, int 0)]) (fun z => True) (fun z => 0) (()) (trivial) (by exact ⟨rfl, rfl, trivial⟩) sn_ ?_
 intro z hz
 refine c_<|a_<|q_ 1 rfl<|d_<|b_<|c_<|l_ rfl (by intro hc95; exfalso; omega) ?_
 intro hc95
 exact N_<|j_ nofun<|j_ nofun<|M_<|b_<|c_<|a_<|q_ 1 rfl<|d_<|b_<|k_<|f_ (rs := [.tmp 4]) rfl (RV.tmp rfl RV.nil) (()) sn_<|rfl
end
theorem iz_ {l : List Int} {i : Nat} (h : i < l.length) : l.getD i 0 ∈ l := by
  rw [List.getD_eq_getElem?_getD, List.getElem?_eq_getElem h]
  exact List.getElem_mem h
theorem ho_not {li : List Int} {n : Nat} {i : Int} (h : i ∈ hoF li n) : ¬ i ∈ li := by
  unfold hoF at h
  exact of_decide_eq_true (List.mem_filter.1 h).2
theorem ho_rng {li : List Int} {n : Nat} (hn : n ≤ 7) {i : Int} (h : i ∈ hoF li n) : 0 ≤ i ∧ i < 1000 := by
  unfold hoF at h
  obtain ⟨j, hj, rfl⟩ := List.mem_map.1 (List.mem_filter.1 h).1
  rw [List.mem_range] at hj
  omega
section
variable {kd many : Int} {s : Su} {c : Core} {x seed : Nat} {k : Int} {b : List UInt8}
theorem fV_ (h1 : kd ≠ 1) (hl : 0 < s.li.length) (hP : (s.plan c).Ok) : mayF kd s (lieF (s.plan c) x k b).1 = true := by
  have e1 : (lieF (s.plan c) x k b).1.who ∈ s.li := iz_ (cA_ x hl)
  have e2 : ¬ (lieF (s.plan c) x k b).1.to ∈ s.li := ho_not (iz_ (cA_ (xS x) hP.ho0))
  unfold mayF
  rw [if_neg (by show ¬ ((7 : Int) = 3 ∨ (7 : Int) = 6 ∨ (7 : Int) = 2); omega), if_neg (by show ¬ ((7 : Int) = 4 ∨ (7 : Int) = 5); omega), if_pos (by rfl)]
  simp [e1, e2, h1]
theorem eO_ {P : PW} : mayF kd s (plainF P x).1 = true := by
  unfold plainF
  split
  · exact if_pos (Or.inr (Or.inr rfl))
  · split
    · exact if_pos (Or.inr (Or.inl rfl))
    · exact if_pos (Or.inl rfl)
theorem kB_ {P : PW} (h : kd = 6) : mayF kd s (stormF P x).1 = true := by
  have h4 := cA_ x (b := 4) (by omega)
  have e : (stormF P x).1.kind = [3, 3, 4, 5].getD (dr x 4) (0 : Int) := rfl
  have h5 : dr x 4 = 0 ∨ dr x 4 = 1 ∨ dr x 4 = 2 ∨ dr x 4 = 3 := by omega
  unfold mayF
  rw [e]
  rcases h5 with h5 | h5 | h5 | h5 <;> rw [h5] <;> simp [h]
theorem may_step (hk : 1 ≤ kd ∧ kd ≤ 6) (hP : (s.plan c).Ok) : mayF kd s (stepF kd.toNat (s.plan c) x).1 = true := by
  have h6 : kd = 1 ∨ kd = 2 ∨ kd = 3 ∨ kd = 4 ∨ kd = 5 ∨ kd = 6 := by omega
  unfold stepF
  split
  · exact eO_
  · rename_i hno
    split
    · exact eO_
    · have hl : kd ≠ 1 → kd ≠ 6 → 0 < s.li.length := fun h1 h2 => by
        rcases Nat.eq_zero_or_pos s.li.length with h0 | h0
        · exact absurd ⟨⟨by omega, by omega⟩, h0⟩ hno
        · exact h0
      rcases h6 with h | h | h | h | h | h
      · subst h; exact eO_
      · subst h
        show mayF 2 s (facesF (s.plan c) (xS x)).1 = true
        unfold facesF
        split <;> exact fV_ (by decide) (hl (by decide) (by decide)) hP
      · subst h
        show mayF 3 s (votF (s.plan c) (xS x)).1 = true
        unfold votF
        split <;> exact fV_ (by decide) (hl (by decide) (by decide)) hP
      · subst h
        exact fV_ (by decide) (hl (by decide) (by decide)) hP
      · subst h
        show mayF 5 s (changF (s.plan c) (xS x)).1 = true
        unfold changF
        split <;> exact fV_ (by decide) (hl (by decide) (by decide)) hP
      · subst h; exact kB_ (P := s.plan c) rfl
structure Stp.Few (t : Stp) : Prop where
  ins : Core.ins t.c
  len : t.orgs.length ≤ 1000
  rng : ∀ x ∈ t.orgs, 0 ≤ x ∧ x < 1000
theorem few_z {t : Stp} (h : t.c = cz ∧ t.orgs = []) : t.Few := ⟨by rw [h.1]; exact cz_ins, by rw [h.2]; exact Nat.zero_le _, by rw [h.2]; intro x hx; cases hx⟩
theorem hj_ {P : PW} : (plainF P x).1.c = cz ∧ (plainF P x).1.orgs = [] := by
  unfold plainF
  split
  · exact ⟨rfl, rfl⟩
  · split <;> exact ⟨rfl, rfl⟩
theorem z_step {P : PW} {q : Nat} : (stepF q P x).1.c = cz ∧ (stepF q P x).1.orgs = [] := by
  unfold stepF
  split
  · exact hj_
  · split
    · exact hj_
    · unfold turnF
      split
      · exact hj_
      · unfold facesF; split <;> exact ⟨rfl, rfl⟩
      · unfold votF; split <;> exact ⟨rfl, rfl⟩
      · exact ⟨rfl, rfl⟩
      · unfold changF; split <;> exact ⟨rfl, rfl⟩
      · exact ⟨rfl, rfl⟩
theorem eu_ {q : Nat} {P : PW} {p : Stp → Prop} (h : ∀ x, p (stepF q P x).1) : ∀ (j : Nat), ∀ t ∈ (stepsF q P x j).1, p t
  | 0, t, ht => by cases ht
  | j + 1, t, ht => by
    rcases List.mem_append.1 ht with ht | ht
    · exact eu_ h j t ht
    · rw [List.mem_singleton] at ht
      exact ht ▸ h _
theorem f5_ {p : Stp → Prop} (h : ∀ k, p (askS s c k)) : ∀ (k : Nat), ∀ t ∈ asksF s c k, p t
  | 0, t, ht => by cases ht
  | k + 1, t, ht => by
    unfold asksF at ht
    split at ht
    · exact f5_ h k t ht
    · rcases List.mem_append.1 ht with ht | ht
      · exact f5_ h k t ht
      · rw [List.mem_singleton] at ht
        exact ht ▸ h _
theorem hw_ (hE : scrE kd s many = 0) : (scrL kd s c seed many).length = many.toNat := by
  unfold scrL
  rw [if_pos hE, List.length_take, ic_]
  omega
theorem scr_ask (hE : scrE kd s many = 0) {i : Nat} (hi : i < (scrL kd s c seed many).length) (ha : i < (asksF s c s.cl.toNat).length) : (asksF s c s.cl.toNat)[i]'ha = (scrL kd s c seed many)[i]'hi := by
  have e : scrL kd s c seed many = (scrA kd.toNat s c seed (many.toNat - (asksF s c s.cl.toNat).length)).take many.toNat := if_pos hE
  have e2 : (scrL kd s c seed many)[i]? = some ((asksF s c s.cl.toNat)[i]'ha) := by
    have hm := hw_ (c := c) (seed := seed) hE
    rw [e, List.getElem?_take_of_lt (by omega)]
    unfold scrA
    rw [List.getElem?_append_left ha, List.getElem?_eq_getElem ha]
  rw [List.getElem?_eq_getElem hi] at e2
  exact (Option.some.inj e2).symm
theorem scr_more (hE : scrE kd s many = 0) {i : Nat} (hi : i < (scrL kd s c seed many).length) (ha : ¬ i < (asksF s c s.cl.toNat).length) : (scrL kd s c seed many)[i]'hi ∈ (stepsF kd.toNat (s.plan c) (seedX seed) (many.toNat - (asksF s c s.cl.toNat).length)).1 := by
  have e : scrL kd s c seed many = (scrA kd.toNat s c seed (many.toNat - (asksF s c s.cl.toNat).length)).take many.toNat := if_pos hE
  have hm := hw_ (c := c) (seed := seed) hE
  have e2 : (scrL kd s c seed many)[i]? = (stepsF kd.toNat (s.plan c) (seedX seed) (many.toNat - (asksF s c s.cl.toNat).length)).1[i - (asksF s c s.cl.toNat).length]? := by
    rw [e, List.getElem?_take_of_lt (by omega)]
    unfold scrA
    rw [List.getElem?_append_right (by omega)]
  rw [List.getElem?_eq_getElem hi] at e2
  exact List.mem_of_getElem? e2.symm
theorem scr_few (hs : s.Ok) (hc : Core.ins c) : ∀ t ∈ scrL kd s c seed many, t.Few := by
  intro t ht
  unfold scrL at ht
  split at ht
  · rcases List.mem_append.1 (List.mem_of_mem_take ht) with h | h
    · have hn := hs.n
      exact f5_ (p := Stp.Few) (fun k => ⟨hc, Nat.le_trans (d8_ _) (by omega), fun x hx => ho_rng (by omega) hx⟩) _ t h
    · exact eu_ (p := Stp.Few) (fun x => few_z z_step) _ t h
  · cases ht
theorem scr_may (hk : 1 ≤ kd ∧ kd ≤ 6) (hP : (s.plan c).Ok) {j : Nat} : ∀ t ∈ (stepsF kd.toNat (s.plan c) (seedX seed) j).1, mayF kd s t = true := eu_ (p := fun t => mayF kd s t = true) (fun x => may_step hk hP) j
end
section
variable {kd many : Int} {s : Su} {c : Core} {sd : Nat}
theorem kg_  : Spec Tryz.prog 6 [.agg s.abs, coreA c] [] (fun _ : Unit => []) (fun _ => boo (decide (s.li.length ≤ 20 ∧ c.letter.size ≤ 20 ∧ c.text.size ≤ 210))) := by
 refine t_ Tryz.func6 rfl Tryz.ntmps6 rfl fun G w =>c_<|a_<|eb_ (B_ (cs := s.abs) rfl) rfl rfl fun b2=>?_
 refine eb_ (B_ (cs := c.cells.map .v) rfl) rfl rfl fun b3=>?_
 refine q_ 1 rfl<|d_<|b_<|c_<|a_<|q_ 1 rfl<|slvA (h_ (C := ints s.li) (g_ tabOk rfl rfl l1_ List.not_mem_nil rfl) rfl)<|slvA (H_ (m := s.li.length) rfl Tryz.underlying22 (by rw [List.length_map])) ?_
 refine q_ 2 rfl<|A_ (t := 9) rfl ?_ ?_
 rotate_left
 ·intro hc9
  refine q_ 12 rfl<|d_<|b_<|k_<|f_ (rs := [.tmp 4]) rfl (RV.tmp rfl RV.nil) (()) sn_<|congrArg (fun b => Abs.v (Value.bool b)) ?_
  (refine (decide_eq_false ?_).symm; omega)
 intro hc9
 refine q_ 1 rfl<|slvA (h_ (C := .v (.string c.letter)) (g_ tabOk rfl rfl l0_ List.not_mem_nil rfl) rfl)<|slvA (cJ_ rfl Tryz.underlying9)<|q_ 3 rfl<|A_ (t := 15) rfl ?_ ?_
 ·intro hc15
  refine q_ 1 rfl<|slvA (h_ (C := .v (.string c.text)) (g_ tabOk rfl rfl l0_ List.not_mem_nil rfl) rfl)<|slvA (cJ_ rfl Tryz.underlying9)<|q_ 3 rfl<|d_<|b_<|k_<|f_ (rs := [.tmp 4]) rfl (RV.tmp rfl RV.nil) (()) sn_<|congrArg (fun b => Abs.v (Value.bool b)) ?_
  (rw [decide_eq_decide]; omega)
 intro hc15
 refine q_ 6 rfl<|d_<|b_<|k_<|f_ (rs := [.tmp 4]) rfl (RV.tmp rfl RV.nil) (()) sn_<|congrArg (fun b => Abs.v (Value.bool b)) ?_
 (refine (decide_eq_false ?_).symm; omega)
set_option maxHeartbeats 8000000 in
theorem scripts_s (hli : ∀ w ∈ s.li, intOk w) (hci : Core.ins c) (hfix : Spec Tryz.prog 5 [] [] (fun _ : Unit => []) (fun _ => boo true)) : Spec Tryz.prog 3 [int kd, .agg s.abs, coreA c, wrd sd, int many] [] (fun _ : Unit => []) (fun _ => boo true) := by
 refine t_ Tryz.func3 rfl Tryz.ntmps3 rfl fun G w =>c_<|a_<|eb_ (B_ (cs := s.abs) rfl) rfl rfl fun b6=>?_
 refine eb_ (B_ (cs := c.cells.map .v) rfl) rfl rfl fun b7=>?_
 refine q_ 1 rfl<|d_<|b_<|c_<|c_<|a_<|slcA (hfix) ?_
 refine ap_<|fun _=>slvA (a4_ rfl)<|d_<|b_<|O_ rfl<|o_<|b_<|c_<|c_<|a_<|slvA (h_ (C := .agg (s.abs)) (r_ tabOk rfl rfl rfl l1_ List.not_mem_nil rfl) rfl)<|slvA (h_ (C := .agg (c.cells.map .v)) (r_ tabOk rfl rfl rfl l0_ List.not_mem_nil rfl) rfl)<|slcA (kg_ (s := s) (c := c)) ?_
 refine ap_<|fun _=>slvA (bz_ rfl)<|d_<|b_<|l_ rfl ?_ ?_
 ·intro hc25
  exact c_<|a_<|q_ 1 rfl<|d_<|b_<|k_<|j_ nofun<|f_ (rs := [.tmp 10]) rfl (RV.tmp rfl RV.nil) (()) sn_<|rfl
 intro hc25
 have hsm := Decidable.of_not_not hc25
 refine o_<|b_<|c_<|a_<|q_ 1 rfl<|slvA (h_ (C := .agg (s.abs)) (r_ tabOk rfl rfl rfl l1_ List.not_mem_nil rfl) rfl)<|slvA (h_ (C := .agg (c.cells.map .v)) (r_ tabOk rfl rfl rfl l0_ List.not_mem_nil rfl) rfl)<|q_ 2 rfl<|slcA (cD_ (kd := kd) (s := s) (c := c) (seed := sd) (many := many) hsm.1 hli (by omega) (by omega)) ?_
 refine ap_<|fun _=>q_ 5 rfl<|d_<|b_<|c_<|c_<|a_<|q_ 3 rfl<|A_ (t := 37) rfl ?_ ?_
 ·intro hc37
  refine q_ 11 rfl<|d_<|b_<|U_ rfl<|c_ ?_
  have hE1 : scrE kd s many = 1 := if_pos (by omega)
  have hL0 : scrL kd s c sd many = [] := if_neg (by rw [hE1]; decide)
  refine a_<|q_ 3 rfl<|A_ (t := 51) rfl ?_ (by intro hc51; exfalso; exact hc51 hE1)
  intro hc51
  refine q_ 1 rfl<|slvA (H_ (m := 0) rfl Tryz.underlying30 (by rw [hL0]; rfl)) ?_
  exact q_ 3 rfl<|d_<|b_<|k_<|j_ nofun<|f_ (rs := [.tmp 10]) rfl (RV.tmp rfl RV.nil) (()) sn_<|congrArg (fun b => Abs.v (Value.bool b)) (decide_eq_true rfl)
 intro hc37
 refine q_ 4 rfl<|A_ (t := 41) rfl ?_ ?_
 ·intro hc41
  refine q_ 7 rfl<|d_<|b_<|U_ rfl<|c_ ?_
  have hE1 : scrE kd s many = 1 := if_pos (by omega)
  have hL0 : scrL kd s c sd many = [] := if_neg (by rw [hE1]; decide)
  refine a_<|q_ 3 rfl<|A_ (t := 51) rfl ?_ (by intro hc51; exfalso; exact hc51 hE1)
  intro hc51
  refine q_ 1 rfl<|slvA (H_ (m := 0) rfl Tryz.underlying30 (by rw [hL0]; rfl)) ?_
  exact q_ 3 rfl<|d_<|b_<|k_<|j_ nofun<|f_ (rs := [.tmp 10]) rfl (RV.tmp rfl RV.nil) (()) sn_<|congrArg (fun b => Abs.v (Value.bool b)) (decide_eq_true rfl)
 intro hc41
 refine q_ 4 rfl<|A_ (t := 45) rfl ?_ ?_
 ·intro hc45
  refine q_ 3 rfl<|d_<|b_<|U_ rfl<|c_ ?_
  have hE1 : scrE kd s many = 1 := if_pos (by omega)
  have hL0 : scrL kd s c sd many = [] := if_neg (by rw [hE1]; decide)
  refine a_<|q_ 3 rfl<|A_ (t := 51) rfl ?_ (by intro hc51; exfalso; exact hc51 hE1)
  intro hc51
  refine q_ 1 rfl<|slvA (H_ (m := 0) rfl Tryz.underlying30 (by rw [hL0]; rfl)) ?_
  exact q_ 3 rfl<|d_<|b_<|k_<|j_ nofun<|f_ (rs := [.tmp 10]) rfl (RV.tmp rfl RV.nil) (()) sn_<|congrArg (fun b => Abs.v (Value.bool b)) (decide_eq_true rfl)
 intro hc45
 refine q_ 3 rfl<|d_<|b_<|l_ rfl ?_ ?_
 ·intro hc48
  refine c_ ?_
  have hE1 : scrE kd s many = 1 := if_pos (by omega)
  have hL0 : scrL kd s c sd many = [] := if_neg (by rw [hE1]; decide)
  refine a_<|q_ 3 rfl<|A_ (t := 51) rfl ?_ (by intro hc51; exfalso; exact hc51 hE1)
  intro hc51
  refine q_ 1 rfl<|slvA (H_ (m := 0) rfl Tryz.underlying30 (by rw [hL0]; rfl)) ?_
  exact q_ 3 rfl<|d_<|b_<|k_<|j_ nofun<|f_ (rs := [.tmp 10]) rfl (RV.tmp rfl RV.nil) (()) sn_<|congrArg (fun b => Abs.v (Value.bool b)) (decide_eq_true rfl)
 intro hc48
 refine o_<|b_<|c_<|c_ ?_
 have hE9 : scrE kd s many = chkF s := if_neg (by omega)
 have hE0 : scrE kd s 0 = chkF s := if_neg (by omega)
 refine a_<|q_ 1 rfl<|slvA (h_ (C := .agg (s.abs)) (r_ tabOk rfl rfl rfl l1_ List.not_mem_nil rfl) rfl)<|slvA (h_ (C := .agg (c.cells.map .v)) (r_ tabOk rfl rfl rfl l0_ List.not_mem_nil rfl) rfl)<|q_ 1 rfl<|slcA (playX_s (kd := kd) (s := s) (c := c) (seed := sd) hsm.1 hli (by omega) (by omega)) ?_
 refine ap_<|fun _=>q_ 5 rfl<|d_<|b_<|c_<|a_<|q_ 3 rfl<|d_<|b_<|l_ rfl (by intro hc66; exfalso; rw [hE9, hE0] at hc66; exact hc66 rfl) ?_
 intro hc66
 refine o_<|b_<|c_<|c_<|a_<|q_ 2 rfl<|d_<|b_<|l_ rfl ?_ ?_
 ·intro hc68
  have hL0 : scrL kd s c sd many = [] := if_neg (by omega)
  refine c_<|a_<|q_ 1 rfl<|slvA (H_ (m := 0) rfl Tryz.underlying30 (by rw [hL0]; rfl)) ?_
  exact q_ 2 rfl<|d_<|b_<|k_<|j_ nofun<|f_ (rs := [.tmp 10]) rfl (RV.tmp rfl RV.nil) (()) sn_<|congrArg (fun b => Abs.v (Value.bool b)) (decide_eq_true rfl)
 intro hc68
 have hE : scrE kd s many = 0 := by omega
 have hc0 : chkF s = 0 := by omega
 have hs := k2_ hc0 hsm.1
 have hP := iH_ (c := c) hc0 hsm.1
 have hlen := hw_ (c := c) (seed := sd) hE
 refine o_<|b_<|c_<|a_<|q_ 1 rfl<|slvA (h_ (C := .agg (s.abs)) (r_ tabOk rfl rfl rfl l1_ List.not_mem_nil rfl) rfl)<|slvA (h_ (C := .agg (c.cells.map .v)) (r_ tabOk rfl rfl rfl l0_ List.not_mem_nil rfl) rfl)<|q_ 2 rfl<|slcA (cD_ (kd := kd) (s := s) (c := c) (seed := sd) (many := many) hsm.1 hli (by omega) (by omega)) ?_
 refine ap_<|fun _=>q_ 5 rfl<|d_<|b_<|c_<|a_<|slvA (h_ (C := .agg (s.abs)) (r_ tabOk rfl rfl rfl l1_ List.not_mem_nil rfl) rfl)<|slvA (h_ (C := .agg (c.cells.map .v)) (r_ tabOk rfl rfl rfl l0_ List.not_mem_nil rfl) rfl)<|slcA (rasks_s (s := s) (c := c) hs) ?_
 refine ap_<|fun _=>q_ 1 rfl<|d_<|b_<|c_<|c_<|a_<|q_ 3 rfl<|A_ (t := 86) rfl (by intro hc86; exfalso; omega) ?_
 intro hc86
 refine q_ 1 rfl<|slvA (H_ rfl Tryz.underlying30 (List.length_map _))<|q_ 4 rfl<|A_ (t := 92) rfl (by intro hc92; exfalso; omega) ?_
 intro hc92
 refine q_ 1 rfl<|slvA (H_ rfl Tryz.underlying30 (List.length_map _))<|q_ 3 rfl<|d_<|b_<|l_ rfl (by intro hc97; exfalso; omega) ?_
 intro hc97
 refine o_<|b_<|c_<|c_<|a_<|q_ 1 rfl<|slvA (H_ rfl Tryz.underlying30 (List.length_map _))<|q_ 1 rfl<|d_<|b_<|u_<|P_ (ι := Nat) (fun z => [.blk b7 26 (c.cells.map .v), .blk b6 24 s.abs]) (fun z => [(0, int kd), (6, ptr b6), (7, ptr b7), (15, .sl 17 ((scrL kd s c sd many).map Stp.abs)), (17, .sl 17 ((asksF s c s.cl.toNat).map Stp.abs)), (98, .sl 17 ((scrL kd s c sd many).map Stp.abs)), (99, int ((scrL kd s c sd many).length : Nat)), (100, int (z : Nat))]) (fun z => z ≤ (scrL kd s c sd many).length) (fun z => (scrL kd s c sd many).length - z) (0) (Nat.zero_le _) (by exact ⟨rfl, rfl, rfl, rfl, rfl, rfl, rfl, rfl, trivial⟩) sr_ ?_
 intro z hz
 refine c_<|a_<|q_ 1 rfl<|d_<|b_<|c_<|l_ rfl ?_ ?_
 rotate_left
 ·intro hc101
  exact N_<|j_ nofun<|j_ nofun<|M_<|b_<|c_<|a_<|q_ 1 rfl<|d_<|b_<|k_<|f_ (rs := [.tmp 10]) rfl (RV.tmp rfl RV.nil) (()) sn_<|rfl
 intro hc101
 have hlt : z < (scrL kd s c sd many).length := by omega
 have hfew := scr_few (kd := kd) (many := many) (seed := sd) hs hci _ (List.getElem_mem hlt)
 refine o_<|b_<|c_<|u_<|c_<|a_<|q_ 1 rfl<|slvA (L_ (s := 17) (q := z) (xs := (scrL kd s c sd many).map Stp.abs) (cs := ((scrL kd s c sd many)[z]'hlt).abs) tabOk Tryz.underlying30 rfl rfl rfl rfl (a8_ hlt) rfl rfl)<|slvA (av_ tabOk rfl rfl rfl rfl)<|eb_ (C_ tabOk rfl) rfl rfl fun b19=>?_
 refine q_ 1 rfl<|e_ (m_ (L' := ((scrL kd s c sd many)[z]'hlt).abs) tabOk rfl rfl rfl u0_ rfl (Nat.le_of_ble_eq_true rfl) rfl (by exact p_ rfl)) rfl rfl ?_
 refine d_<|b_<|c_<|c_<|Q_ [] (.q 0 (.q 1 (.q 2 (.q 3 (.q 4 (.e 5 (.q 6 .nil))))))) (by kernel_rfl) (by kernel_rfl) ?_
 refine hx_ fun hx9 =>sxvA rfl (h_ (C := .agg ((scrL kd s c sd many)[z]'hlt).abs) (r_ tabOk rfl rfl rfl l0_ List.not_mem_nil rfl) rfl) hx9<|qs_ 2 rfl<|sxvA rfl (L_ (s := 17) (q := z) (xs := (scrL kd s c sd many).map Stp.abs) (cs := ((scrL kd s c sd many)[z]'hlt).abs) tabOk Tryz.underlying30 rfl rfl rfl rfl (a8_ hlt) rfl rfl) hx9<|sxvA rfl (av_ tabOk rfl rfl rfl rfl) hx9<|D_ rfl (id_ (a := ((scrL kd s c sd many)[z]'hlt)) hfew.ins hfew.len hfew.rng) (by simp [mids, It.mids]) Casts.refl (by kernel_rfl) rfl rfl rfl ?_
 refine ap_<|fun _=>sxvA rfl (a4_ rfl) (by simp) ?_
 refine F_<|b_<|O_ rfl<|o_<|b_<|c_<|c_<|a_<|q_ 2 rfl<|slvA (H_ rfl Tryz.underlying30 (List.length_map _))<|q_ 1 rfl<|d_<|b_<|l_ rfl ?_ ?_
 rotate_left
 ·intro hc115
  refine o_<|b_<|c_<|a_<|q_ 1 rfl<|slvA (h_ (C := .agg (s.abs)) (r_ tabOk rfl rfl rfl l2_ List.not_mem_nil rfl) rfl)<|slvA (h_ (C := .agg ((scrL kd s c sd many)[z]'hlt).abs) (r_ tabOk rfl rfl rfl l0_ List.not_mem_nil rfl) rfl)<|slcA (may_s (kd := kd) (s := s) (a := ((scrL kd s c sd many)[z]'hlt)) (by omega)) ?_
  refine ap_<|fun _=>slvA (aL_ rfl)<|d_<|b_<|ar_ rfl (by intro hc127; exfalso; rw [scr_may (by omega) hP _ (scr_more hE hlt (by omega))] at hc127; cases hc127) ?_
  intro hc127
  refine o_<|w_<|b_<|a_<|slvA (y_ rfl rfl (by simp only [InR, lo, hi]; omega)) ?_
  refine q_ 1 rfl<|d_<|I_ (z + 1) (by omega) (by omega) (by exact ⟨rfl, rfl, rfl, rfl, rfl, rfl, rfl, rfl, trivial⟩) (sk_ sr_)
 intro hc115
 refine c_<|c_<|Q_ [] (.q 0 (.q 1 (.q 2 (.q 3 (.q 4 (.e 5 (.q 6 .nil))))))) (by kernel_rfl) (by kernel_rfl) ?_
 refine hx_ fun hx9 =>sxvA rfl (h_ (C := .agg ((scrL kd s c sd many)[z]'hlt).abs) (r_ tabOk rfl rfl rfl l0_ List.not_mem_nil rfl) rfl) hx9<|qs_ 2 rfl<|sxvA rfl (L_ (s := 17) (q := z) (xs := ((asksF s c s.cl.toNat).map Stp.abs)) (cs := ((scrL kd s c sd many)[z]'hlt).abs) tabOk Tryz.underlying30 rfl rfl rfl rfl (by rw [← scr_ask hE hlt (by omega)]; exact a8_ (by omega)) rfl rfl) hx9 ?_
 refine sxvA rfl (av_ tabOk rfl rfl rfl rfl) hx9<|D_ rfl (id_ (a := ((scrL kd s c sd many)[z]'hlt)) hfew.ins hfew.len hfew.rng) (by simp [mids, It.mids]) Casts.refl (by kernel_rfl) rfl rfl rfl ?_
 refine ap_<|fun _=>sxvA rfl (a4_ rfl) (by simp) ?_
 refine F_<|b_<|O_ rfl<|o_<|b_<|N_<|j_ nofun<|M_<|b_<|a_<|slvA (y_ rfl rfl (by simp only [InR, lo, hi]; omega)) ?_
 refine q_ 1 rfl<|d_<|I_ (z + 1) (by omega) (by omega) (by exact ⟨rfl, rfl, rfl, rfl, rfl, rfl, rfl, rfl, trivial⟩) (sk_ sr_)
end
end Go.Proofs.YtjclgkddfjbdiaaGreatDoor.A
namespace Go.Proofs.YtjclgkddfjbdiaaGreatDoor.A
open Go.RowKit Go.ChangeShapes Go.WideShapes Go.ChangeAt
section
variable {H : Type} {enc : TypeId × Value → H} {w : World} {base : Nat} {spare : Nat → Bool} {held : Bool}
theorem ky_ (cs : List Value) (hl : cs.length = Tryz.prog.cellsOf 3) (h : ∃ m y, DataW.trod enc Tryz.prog w base spare held m 3 cs = some y) : ∃ x : Int, reps [] w [int x] cs ∧ intOk x := by
  obtain ⟨fuel, x, h⟩ := h
  rw [show Tryz.prog.cellsOf 3 = 1 by kernel_rfl] at hl
  have hh := da_ 4 _ _ _ _ _ (show leaves Tryz.prog 4 3 = some [3] by kernel_rfl) (by simpa using hl.symm) h
  match cs, hl with
  | [v0], _ =>
    obtain ⟨n0, rfl, b0⟩ := (hh 0 v0 _ rfl rfl).int Tryz.underlying3
    exact ⟨n0, ⟨_, _, rfl, rfl, rfl⟩, wfIn b0⟩
theorem open_su {cs : List Value} {fuel : Nat} {x : DataW H × List MemPlace} (hl : cs.length = Tryz.prog.cellsOf 24) (h : DataW.trod enc Tryz.prog w base spare held fuel 24 cs = some x) : ∃ s : Su, reps [] w s.abs cs ∧ ∀ i ∈ s.li, intOk i := by
  rw [show Tryz.prog.cellsOf 24 = 3 by kernel_rfl] at hl
  have hh := da_ 4 _ _ _ _ _ (show leaves Tryz.prog 4 24 = some [3, 22, 3] by kernel_rfl) (by simpa using hl.symm) h
  match cs, hl with
  | [v0, v1, v2], _ =>
    obtain ⟨n0, rfl, b0⟩ := (hh 0 v0 _ rfl rfl).int Tryz.underlying3
    obtain ⟨li, hp, hps⟩ := open_slA (abs := fun x : Int => [int x]) (Ok := intOk) Tryz.underlying22 (by kernel_rfl) (hh 1 v1 _ rfl rfl) ky_
    obtain ⟨n2, rfl, b2⟩ := (hh 2 v2 _ rfl rfl).int Tryz.underlying3
    exact ⟨⟨n0, li, n2⟩, ⟨_, _, rfl, rfl, _, _, rfl, hp, _, _, rfl, rfl, rfl⟩, hps⟩
theorem open_coS {cs : List Value} {fuel : Nat} {x : DataW H × List MemPlace} (hl : cs.length = Tryz.prog.cellsOf 26) (h : DataW.trod enc Tryz.prog w base spare held fuel 26 cs = some x) : ∃ c : Core, reps [] w (c.cells.map .v) cs ∧ Core.ins c := by
  rw [show Tryz.prog.cellsOf 26 = 7 by kernel_rfl] at hl
  have hh := da_ 4 _ _ _ _ _ (show leaves Tryz.prog 4 26 = some [3, 2, 3, 9, 2, 2, 9] by kernel_rfl) (by simpa using hl.symm) h
  match cs, hl with
  | [v0, v1, v2, v3, v4, v5, v6], _ =>
    obtain ⟨n0, rfl, b0⟩ := (hh 0 v0 _ rfl rfl).int Tryz.underlying3
    obtain ⟨n1, rfl, b1⟩ := (hh 1 v1 _ rfl rfl).int Tryz.underlying2
    obtain ⟨n2, rfl, b2⟩ := (hh 2 v2 _ rfl rfl).int Tryz.underlying3
    obtain ⟨s3, rfl, b3⟩ := (hh 3 v3 _ rfl rfl).string Tryz.underlying9
    obtain ⟨n4, rfl, b4⟩ := (hh 4 v4 _ rfl rfl).int Tryz.underlying2
    obtain ⟨n5, rfl, b5⟩ := (hh 5 v5 _ rfl rfl).int Tryz.underlying2
    obtain ⟨s6, rfl, b6⟩ := (hh 6 v6 _ rfl rfl).string Tryz.underlying9
    exact ⟨⟨n0, n1, n2, s3, n4, n5, s6⟩, ⟨_, _, rfl, rfl, _, _, rfl, rfl, _, _, rfl, rfl, _, _, rfl, rfl, _, _, rfl, rfl, _, _, rfl, rfl, _, _, rfl, rfl, rfl⟩, ⟨wfIn b0, wfIn b1, wfIn b2, wfIn b4, wfIn b5, b3, b6⟩⟩
end
end Go.Proofs.YtjclgkddfjbdiaaGreatDoor.A
